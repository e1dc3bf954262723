/- LawJournalPlays: the texts FrameR, JMath, DiskL, DiskW, FrameP, HandQ, JHand, JLives, JLaws, Print18, FrameG, FrameScan, DiskRoom, DiskR, DiskPlays, JRef, JRefA, JRefB, JRefC, JRefD, JRefE, JRefF, JSteps, JFresh, joined: contracts of the functions that the statement reaches, and plain laws. -/
import Derived.Lib.SlBytesConst
import Derived.Test.YtbcienbnhchdeaaWLast
import Derived.Test.YtbcienbnhchdeaaWNEv
import Derived.Deep.DeepCutAuto
import Derived.Deep.CutBlock
import Derived.Test.YtbcienbnhchdeaaJPlays0
import Derived.Test.YtbcienbnhchdeaaJPlays1

/- Frames: the second reading's functions, plain. -/
namespace Go.Proofs.Ytbcienbnhchdeaa.FrameR
open Go.RowKit Go.Proofs.Ytbcienbnhchdeaa.Print Go.Proofs.YtbcienbnhchdeaaW.PrintWords Go.Proofs.YtbcienbnhchdeaaW.PrintLast Go.Proofs.YtbcienbnhchdeaaW.PrintMore Hand CrcM FrameC FrameL FrameS

theorem rdL_drop {l rest : List (List Int)} {n : Nat} {p : List Int} (h : l.drop n = p :: rest) : rd_L1 l (n : Int) = p := by
  unfold rd_L1
  rw [Int.toNat_natCast, List.getD_eq_getElem?_getD]
  have := congrArg (fun z => z[0]?) h
  simp only [List.getElem?_drop, Nat.add_zero, List.getElem?_cons_zero] at this
  rw [this]
  rfl
theorem drop_next {l rest : List (List Int)} {n : Nat} {p : List Int} (h : l.drop n = p :: rest) : l.drop (n + 1) = rest := by
  rw [← List.drop_drop, h]
  rfl
theorem drop_lt {l rest : List (List Int)} {n : Nat} {p : List Int} (h : l.drop n = p :: rest) : n < l.length := by
  have := congrArg List.length h
  rw [List.length_drop, List.length_cons] at this
  omega
theorem take_mn (p : List Int) : 0 ≤ mn (p.length : Int) 30 ∧ mn (p.length : Int) 30 ≤ p.length ∧ p.take (mn (p.length : Int) 30).toNat = p.take 30 := by
  unfold mn
  split
  · exact ⟨by omega, by omega, rfl⟩
  · refine ⟨by omega, by omega, ?_⟩
    rw [Int.toNat_natCast, List.take_length, List.take_of_length_le (by omega)]
/-- A payload that may be, made of any. -/
def one (i : Nat) (p : List Int) : List Int := if (p.take 30).length = 0 then [(i : Int) % 256] else p.take 30
def goodL : Nat → Nat → List (List Int) → List (List Int)
  | 0, _, _ => []
  | _ + 1, _, [] => []
  | m + 1, i, p :: l => one i p :: goodL m (i + 1) l
theorem one_ok {p : List Int} (h : okB p = true) (i : Nat) : OkP (one i p) ∧ (one i p).length ≤ 30 := by
  unfold one
  by_cases c : (p.take 30).length = 0
  · rw [if_pos c]
    refine ⟨⟨?_, by simp, by simp⟩, by simp⟩
    rw [okB_iff]
    intro x hx
    rw [List.mem_singleton.1 hx]
    omega
  · rw [if_neg c]
    have := List.length_take_le 30 p
    exact ⟨⟨okB_take h _, by omega, by omega⟩, by omega⟩
theorem goodL_ok : ∀ (m i : Nat) (l : List (List Int)), (∀ p ∈ l, okB p = true) → (∀ p ∈ goodL m i l, OkP p ∧ p.length ≤ 30) ∧ (goodL m i l).length ≤ m
  | 0, _, _, _ => by simp [goodL]
  | _ + 1, _, [], _ => by simp [goodL]
  | m + 1, i, p :: l, h => by
    have ih := goodL_ok m (i + 1) l (fun q hq => h q (by simp [hq]))
    refine ⟨?_, ?_⟩
    · intro q hq
      rw [goodL, List.mem_cons] at hq
      rcases hq with rfl | hq
      · exact one_ok (h p (by simp)) i
      · exact ih.1 q hq
    · rw [goodL, List.length_cons]
      omega
theorem good_l0 {x0 : List (List Int)} {most : Nat} (hm : most ≤ 100) : ∀ (m : Nat) (rest : List (List Int)) (n : Nat) (acc : List (List Int)) (k : Nat), x0.drop n = rest → n ≤ x0.length → n + m = most → acc.length ≤ n → 2 * m + 2 ≤ k →
    pacesetterref04_Good.l0 k x0 (most : Int) acc (n : Int) = some (acc ++ goodL m n rest)
  | m, [], n, acc, k, hd, hn, hnm, ha, hk => by
    obtain ⟨k, rfl⟩ : ∃ j, k = j + 2 := ⟨k - 2, by omega⟩
    have hlen := congrArg List.length hd
    rw [List.length_drop, List.length_nil] at hlen
    rw [pacesetterref04_Good.l0, if_neg (by omega), pacesetterref04_Good.j1, if_neg (by decide)]
    cases m <;> simp [goodL]
  | 0, p :: rest, n, acc, k, hd, hn, hnm, ha, hk => by
    obtain ⟨k, rfl⟩ : ∃ j, k = j + 2 := ⟨k - 2, by omega⟩
    have hlt := drop_lt hd
    have hf : decide ((n : Int) < (most : Int)) = false := decide_eq_false (by omega)
    rw [pacesetterref04_Good.l0, if_pos (by omega), hf, pacesetterref04_Good.j1, if_neg (by decide)]
    simp [goodL]
  | m + 1, p :: rest, n, acc, k, hd, hn, hnm, ha, hk => by
    obtain ⟨k, rfl⟩ : ∃ j, k = j + 2 := ⟨k - 2, by omega⟩
    have hlt := drop_lt hd
    have hf : decide ((n : Int) < (most : Int)) = true := decide_eq_true (by omega)
    rw [pacesetterref04_Good.l0, if_pos (by omega), hf, pacesetterref04_Good.j1, if_pos rfl, if_pos (by omega), if_pos (by omega), rdL_drop hd]
    obtain ⟨t0, t1, t2⟩ := take_mn p
    rw [if_pos t0, if_pos t1, t2]
    simp only [bind_s]
    have hw : wrap64 ((n : Int) + 1) = ((n + 1 : Nat) : Int) := by unfold wrap64; omega
    rw [hw]
    have e : acc ++ goodL (m + 1) n (p :: rest) = (acc ++ [one n p]) ++ goodL m (n + 1) rest := by simp [goodL]
    rw [e]
    have ih := good_l0 hm m rest (n + 1) (acc ++ [one n p]) k (drop_next hd) (by omega) (by omega) (by rw [List.length_append, List.length_singleton]; omega) (by omega)
    unfold one at ih ⊢
    by_cases c : (p.take 30).length = 0
    · rw [if_pos c] at ih ⊢
      rw [if_pos (by omega), if_pos (by omega)]
      exact ih
    · rw [if_neg c] at ih ⊢
      rw [if_neg (by omega), if_pos (by omega)]
      exact ih
theorem good_f {l : List (List Int)} {most : Nat} (hm : most ≤ 100) {k : Nat} (hk : 2 * most + 2 ≤ k) : pacesetterref04_Good.f k l (most : Int) = some (goodL most 0 l) := by
  unfold pacesetterref04_Good.f
  rw [show (0 : Int) = ((0 : Nat) : Int) from rfl, good_l0 hm most l 0 [] k (by simp) (by omega) (by omega) (by simp) hk, List.nil_append]
theorem ref_put {l p : List Int} (hp : OkP p) (hl : l.length ≤ 1000000) {k : Nat} (hk : 10 * (p.length + 2) < k) : pacesetterref04_Put.f k l p = some (l ++ frameOf p, 0) := by
  have h1 := hp.2.1
  have h2 := hp.2.2
  unfold pacesetterref04_Put.f
  have hn : ([] : List Int).length = 0 := rfl
  rw [if_neg (by omega), if_neg (by omega), if_pos (by omega)]
  simp only [bind_s, List.nil_append]
  unfold pacesetterref04_of.f
  have e : ([(wrap64 ((p.length : Int) / 256)) % 256, (p.length : Int) % 256] : List Int) = headN p.length := by
    unfold headN wrap64
    simp only [List.cons.injEq, and_true]
    omega
  simp only [bind_s]
  rw [e]
  have hh : (headN p.length).length = 2 := rfl
  have ew : headN p.length ++ p = withHead p := rfl
  rw [if_pos (by omega), ew, ref_seal (withHead_ok hp.1) (by rw [withHead_len]; omega) (by rw [withHead_len]; omega)]
  simp only [bind_s]
  have ef : withHead p ++ bytesN (crcN (withHead p)) = frameOf p := rfl
  rw [ef, if_pos (by rw [frameOf_len]; omega)]
theorem all_l0 {x0 : List (List Int)} (hx : x0.length ≤ 100) (hp : ∀ p ∈ x0, OkP p ∧ p.length ≤ 30) : ∀ (rest : List (List Int)) (n : Nat) (acc : List Int) (k : Nat), x0.drop n = rest → n ≤ x0.length → acc.length ≤ 36 * n → rest.length + 400 ≤ k →
    pacesetterref04_All.l0 k x0 acc (n : Int) = some (acc ++ allF rest)
  | [], n, acc, k, hd, hn, ha, hk => by
    obtain ⟨k, rfl⟩ : ∃ j, k = j + 1 := ⟨k - 1, by omega⟩
    have hlen := congrArg List.length hd
    rw [List.length_drop, List.length_nil] at hlen
    rw [pacesetterref04_All.l0, if_neg (by omega), allF_nil, List.append_nil]
  | p :: rest, n, acc, k, hd, hn, ha, hk => by
    obtain ⟨k, rfl⟩ : ∃ j, k = j + 1 := ⟨k - 1, by omega⟩
    have hlt := drop_lt hd
    have hmem : p ∈ x0 := List.mem_of_mem_drop (i := n) (by rw [hd]; simp)
    obtain ⟨hpo, hpl⟩ := hp p hmem
    rw [List.length_cons] at hk
    rw [pacesetterref04_All.l0, if_pos (by omega), if_pos (by omega), rdL_drop hd, ref_put hpo (by omega) (by omega)]
    simp only [bind_s]
    have hw : wrap64 ((n : Int) + 1) = ((n + 1 : Nat) : Int) := by unfold wrap64; omega
    rw [hw, all_l0 hx hp rest (n + 1) (acc ++ frameOf p) k (drop_next hd) (by omega) (by rw [List.length_append, frameOf_len]; omega) (by omega), allF_cons, List.append_assoc]
theorem all_f {x0 : List (List Int)} (hx : x0.length ≤ 100) (hp : ∀ p ∈ x0, OkP p ∧ p.length ≤ 30) {k : Nat} (hk : 500 ≤ k) : pacesetterref04_All.f k x0 = some (allF x0) := by
  unfold pacesetterref04_All.f
  rw [show (0 : Int) = ((0 : Nat) : Int) from rfl, all_l0 hx hp x0 0 [] k (by simp) (by omega) (by simp) (by omega), List.nil_append]
theorem allF_small : ∀ {x : List (List Int)}, (∀ p ∈ x, OkP p ∧ p.length ≤ 30) → (allF x).length ≤ 36 * x.length
  | [], _ => by simp [allF_nil]
  | p :: x, h => by
    have ih := allF_small fun q hq => h q (List.mem_cons_of_mem p hq)
    have := (h p (by simp)).2
    rw [allF_cons, List.length_append, frameOf_len, List.length_cons]
    omega
theorem same_l0 {a b : List (List Int)} (hab : a.length = b.length) (hl : a.length ≤ 1000000) (ha : ∀ p ∈ a, okB p = true) (hb : ∀ p ∈ b, okB p = true) : ∀ (r s : List (List Int)) (n k : Nat), a.drop n = r → b.drop n = s → n ≤ a.length → r.length + 1 ≤ k →
    pacesetterref04_Same.l0 k a b (n : Int) = some (decide (r = s))
  | [], s, n, k, hr, hs, hn, hk => by
    obtain ⟨k, rfl⟩ : ∃ j, k = j + 1 := ⟨k - 1, by omega⟩
    have hlen := congrArg List.length hr
    have hlen2 := congrArg List.length hs
    rw [List.length_drop, List.length_nil] at hlen
    rw [List.length_drop] at hlen2
    have e : s = [] := List.length_eq_zero_iff.1 (by omega)
    rw [pacesetterref04_Same.l0, if_neg (by omega), e]
    simp
  | p :: r, [], n, k, hr, hs, hn, hk => by
    have hlen := congrArg List.length hr
    have hlen2 := congrArg List.length hs
    rw [List.length_drop, List.length_cons] at hlen
    rw [List.length_drop, List.length_nil] at hlen2
    omega
  | p :: r, q :: s, n, k, hr, hs, hn, hk => by
    obtain ⟨k, rfl⟩ : ∃ j, k = j + 1 := ⟨k - 1, by omega⟩
    have h1 := drop_lt hr
    have h2 := drop_lt hs
    have hp : okB p = true := ha p (List.mem_of_mem_drop (i := n) (by rw [hr]; simp))
    have hq : okB q = true := hb q (List.mem_of_mem_drop (i := n) (by rw [hs]; simp))
    rw [List.length_cons] at hk
    rw [pacesetterref04_Same.l0, if_pos (by omega), if_pos (by omega), if_pos (by omega), rdL_drop hr, rdL_drop hs]
    by_cases c : p = q
    · subst c
      have hw : wrap64 ((n : Int) + 1) = ((n + 1 : Nat) : Int) := by unfold wrap64; omega
      rw [if_pos rfl, hw, same_l0 hab hl ha hb r s (n + 1) k (drop_next hr) (drop_next hs) (by omega) (by omega)]
      simp
    · have hne : ¬ ((strOfNums p).toList = (strOfNums q).toList) := fun h => c (byteL_inj hp hq ((str_eq p q).1 h))
      rw [if_neg hne]
      simp [c]
theorem same_f {a b : List (List Int)} (hl : a.length ≤ 1000000) (ha : ∀ p ∈ a, okB p = true) (hb : ∀ p ∈ b, okB p = true) {k : Nat} (hk : a.length + 1 ≤ k) : pacesetterref04_Same.f k a b = some (decide (a = b)) := by
  unfold pacesetterref04_Same.f
  by_cases hab : a.length = b.length
  · rw [if_pos (by omega), show (0 : Int) = ((0 : Nat) : Int) from rfl, same_l0 hab hl ha hb a b 0 k (by simp) (by simp) (by omega) hk]
  · rw [if_neg (by omega)]
    have : ¬ a = b := fun h => hab (by rw [h])
    simp [this]
end Go.Proofs.Ytbcienbnhchdeaa.FrameR

/- The frames that can be got of any bytes: plain laws. -/
namespace Go.Proofs.Ytbcienbnhchdeaa.JMath
open Go Go.RowKit Go.Proofs.YtbcienbnhchdeaaW.PrintLast Go.Proofs.YtbcienbnhchdeaaW.PrintWords Go.Proofs.YtbcienbnhchdeaaW.PrintMore Print FrameC FrameL FrameS FrameR Hand
set_option linter.unusedVariables false
set_option linter.unusedSimpArgs false
theorem two_head {b : List Int} (hb : okB b = true) (h : 2 ≤ b.length) : ∃ t, b = ((lenOf b / 256 % 256 : Nat) : Int) :: ((lenOf b % 256 : Nat) : Int) :: t := by
  match b, h with
  | x :: y :: t, _ =>
    have hx := okB_mem hb (x := x) (by simp)
    have hy := okB_mem hb (x := y) (by simp)
    have e0 : rd (x :: y :: t) 0 = x := rfl
    have e1 : rd (x :: y :: t) 1 = y := rfl
    refine ⟨t, ?_⟩
    unfold lenOf
    rw [e0, e1]
    have h1 : (((x.toNat * 256 + y.toNat) / 256 % 256 : Nat) : Int) = x := by omega
    have h2 : (((x.toNat * 256 + y.toNat) % 256 : Nat) : Int) = y := by omega
    rw [h1, h2]
/-- What is got is a frame. -/
theorem get_inv {b p : List Int} {m : Int} (hb : okB b = true) (h : getF b = (p, m, 0)) : OkP p ∧ m = ((p.length + 6 : Nat) : Int) ∧ ∃ r, b = frameOf p ++ r := by
  unfold getF at h
  by_cases h1 : b.length < 2
  · rw [if_pos h1] at h
    simp at h
  rw [if_neg h1] at h
  by_cases h2 : 1 ≤ lenOf b ∧ lenOf b ≤ 1000 ∧ lenOf b + 6 ≤ b.length
  · rw [if_pos h2] at h
    by_cases h3 : GoodP (b.take (lenOf b + 6))
    · rw [if_pos h3] at h
      injection h with e1 h
      injection h with e2 _
      obtain ⟨t, ht⟩ := two_head hb (by omega)
      generalize lenOf b = n at *
      have hpl : p.length = n := by rw [← e1, List.length_drop, List.length_take]; omega
      have hpt : p = t.take n := by
        rw [← e1]
        conv => lhs; rw [ht]
        rfl
      have htl : n + 4 ≤ t.length := by
        have := congrArg List.length ht
        simp at this
        omega
      obtain ⟨a, s, ha, hs, hc⟩ := goodP_split h3
      have hw : b.take (n + 6) = withHead p ++ (t.drop n).take 4 := by
        conv => lhs; rw [ht]
        have e : (((n / 256 % 256 : Nat) : Int) :: ((n % 256 : Nat) : Int) :: t).take (n + 6) = ((n / 256 % 256 : Nat) : Int) :: ((n % 256 : Nat) : Int) :: t.take (n + 4) := rfl
        rw [e, List.take_add]
        unfold withHead headN
        rw [hpl, hpt]
        rfl
      have hal : a = withHead p ∧ s = (t.drop n).take 4 := by
        have hl : (withHead p ++ (t.drop n).take 4).length = (a ++ s).length := by rw [← hw, ha]
        have h4 : ((t.drop n).take 4).length = 4 := by rw [List.length_take, List.length_drop]; omega
        rw [List.length_append, List.length_append, h4, hs] at hl
        have := List.append_inj (ha.symm.trans hw) (by omega)
        exact this
      obtain ⟨rfl, rfl⟩ := hal
      have ok4 : okB ((t.drop n).take 4) = true := by
        rw [okB_iff]
        intro x hx
        refine okB_mem hb ?_
        rw [ht]
        exact List.mem_cons_of_mem _ (List.mem_cons_of_mem _ (List.mem_of_mem_drop (List.mem_of_mem_take hx)))
      have hf : b.take (n + 6) = frameOf p := by
        rw [hw]
        unfold frameOf
        have h5 := bytesN_rd ok4 hs
        rw [← hc, Int.toNat_natCast] at h5
        rw [h5]
      refine ⟨⟨?_, by omega, by omega⟩, by rw [hpl]; exact e2.symm, b.drop (n + 6), by rw [← hf, List.take_append_drop]⟩
      rw [hpt, okB_iff]
      intro x hx
      refine okB_mem hb ?_
      rw [ht]
      exact List.mem_cons_of_mem _ (List.mem_cons_of_mem _ (List.mem_of_mem_take hx))
    · rw [if_neg h3] at h
      simp at h
  · rw [if_neg h2] at h
    simp at h
/-- From a place on: the frames that can be got, one behind the other. -/
theorem scan_from {b : List Int} (hb : okB b = true) (hl : b.length ≤ 1000000) : ∀ (d i : Nat) (acc : List (List Int)) (k : Nat), b.length - i = d → i ≤ b.length → acc.length ≤ i → d + 1 ≤ k →
    ∃ (ps : List (List Int)) (n : Nat) (e : Int), frame_Scan.l0 k b acc (i : Int) = some (acc ++ ps, (n : Int), e) ∧ (∀ p ∈ ps, OkP p) ∧ n = i + (allF ps).length ∧ n ≤ b.length ∧ ∃ r, b.drop i = allF ps ++ r := by
  intro d
  induction d using Nat.strongRecOn with
  | _ d ih =>
    intro i acc k hd hi ha hk
    obtain ⟨k, rfl⟩ : ∃ m, k = m + 1 := ⟨k - 1, by omega⟩
    by_cases hlt : i < b.length
    · obtain ⟨p, m, x, hg⟩ : ∃ p m x, getF (b.drop i) = (p, m, x) := ⟨_, _, _, rfl⟩
      by_cases hx : x = 0
      · subst hx
        obtain ⟨hp, rfl, r, hr⟩ := get_inv (okB_drop hb i) hg
        have hlen := congrArg List.length hr
        rw [List.length_drop, List.length_append, frameOf_len] at hlen
        rw [scan_step hb hl hi hr hp (by omega)]
        obtain ⟨ps, n, e, h1, h2, h3, h4, r', h5⟩ := ih (b.length - (i + (p.length + 6))) (by omega) (i + (p.length + 6)) (acc ++ [p]) k rfl (by omega) (by rw [List.length_append, List.length_singleton]; omega) (by omega)
        refine ⟨p :: ps, n, e, by rw [h1, List.append_assoc]; rfl, ?_, ?_, h4, r', ?_⟩
        · intro q hq
          rcases List.mem_cons.1 hq with rfl | hq
          · exact hp
          · exact h2 q hq
        · rw [allF_cons, List.length_append, frameOf_len]; omega
        · rw [hr, allF_cons, List.append_assoc]
          congr 1
          have e : b.drop (i + (p.length + 6)) = r := by
            rw [← List.drop_drop, hr, ← frameOf_len p, List.drop_left]
          rw [← e, h5]
      · exact ⟨[], i, x, by rw [scan_stop hb hl hlt hg hx, List.append_nil], fun q hq => by simp at hq, by simp [allF_nil], hi, b.drop i, by simp [allF_nil]⟩
    · obtain rfl : i = b.length := by omega
      exact ⟨[], b.length, 0, by rw [scan_end, List.append_nil], fun q hq => by simp at hq, by simp [allF_nil], Nat.le_refl _, [], by simp [allF_nil]⟩
/-- All frames of any bytes. -/
theorem scan_of {b : List Int} (hb : okB b = true) (hl : b.length ≤ 1000000) : ∃ (ps : List (List Int)) (n : Nat) (e : Int), frame_Scan.f b = some (ps, (n : Int), e) ∧ (∀ p ∈ ps, OkP p) ∧ n = (allF ps).length ∧ n ≤ b.length ∧ b.take n = allF ps := by
  obtain ⟨ps, n, e, h1, h2, h3, h4, r, h5⟩ := scan_from hb hl b.length 0 [] (b.length + 2) (by omega) (by omega) (by simp) (by omega)
  refine ⟨ps, n, e, by unfold frame_Scan.f; exact h1.trans (by rw [List.nil_append]), h2, by omega, h4, ?_⟩
  rw [List.drop_zero] at h5
  have hn : n = (allF ps).length := by omega
  rw [hn, h5, List.take_left]
theorem allF_len7 : ∀ {ps : List (List Int)}, (∀ p ∈ ps, OkP p) → 7 * ps.length ≤ (allF ps).length
  | [], _ => by simp
  | p :: ps, h => by
    have h1 := allF_len7 (ps := ps) (fun q hq => h q (List.mem_cons_of_mem _ hq))
    have h2 := (h p (by simp)).2.1
    rw [allF_cons, List.length_append, frameOf_len, List.length_cons]
    omega
/-- How many entries of l lie whole in the first q bytes of their frames. -/
def fit : List (List Int) → Nat → Nat
  | [], _ => 0
  | p :: ps, q => if p.length + 6 ≤ q then fit ps (q - (p.length + 6)) + 1 else 0
theorem fit_le : ∀ (l : List (List Int)) (q : Nat), fit l q ≤ l.length
  | [], q => Nat.le_refl _
  | p :: ps, q => by
    unfold fit
    split
    · have := fit_le ps (q - (p.length + 6)); simp; omega
    · exact Nat.zero_le _
theorem fit_len : ∀ (l : List (List Int)) (q : Nat), (allF (l.take (fit l q))).length ≤ q
  | [], q => by simp [fit, allF_nil]
  | p :: ps, q => by
    unfold fit
    split
    · have := fit_len ps (q - (p.length + 6))
      rw [List.take_succ_cons, allF_cons, List.length_append, frameOf_len]
      omega
    · simp [allF_nil]
theorem fit_max : ∀ (l : List (List Int)) (q s : Nat), s ≤ l.length → (allF (l.take s)).length ≤ q → s ≤ fit l q
  | [], q, s, h, _ => by simp at h; omega
  | p :: ps, q, 0, _, _ => Nat.zero_le _
  | p :: ps, q, s + 1, h, hq => by
    rw [List.take_succ_cons, allF_cons, List.length_append, frameOf_len] at hq
    unfold fit
    rw [if_pos (by omega)]
    have := fit_max ps (q - (p.length + 6)) s (by simpa using h) (by omega)
    omega
theorem fit_mono (l : List (List Int)) {q r : Nat} (h : q ≤ r) : fit l q ≤ fit l r := fit_max l r _ (fit_le l q) (Nat.le_trans (fit_len l q) h)
theorem fit_all (l : List (List Int)) : fit l (allF l).length = l.length := by
  have h1 := fit_le l (allF l).length
  have h2 := fit_max l (allF l).length l.length (Nat.le_refl _) (by rw [List.take_length]; exact Nat.le_refl _)
  omega
theorem fit_part : ∀ (l : List (List Int)) (q : Nat), ∃ r, (allF l).take q = allF (l.take (fit l q)) ++ r ∧ (r = [] ∨ ∃ p j, p ∈ l ∧ 1 ≤ j ∧ j < p.length + 6 ∧ r = (frameOf p).take j)
  | [], q => ⟨[], by simp [allF_nil, fit], .inl rfl⟩
  | p :: ps, q => by
    unfold fit
    by_cases h : p.length + 6 ≤ q
    · rw [if_pos h]
      obtain ⟨r, h1, h2⟩ := fit_part ps (q - (p.length + 6))
      refine ⟨r, ?_, ?_⟩
      · rw [List.take_succ_cons, allF_cons, allF_cons, List.append_assoc, ← h1]
        rw [List.take_append, frameOf_len, List.take_of_length_le (by rw [frameOf_len]; exact h)]
      · rcases h2 with h2 | ⟨q, j, h3, h4, h5, h6⟩
        · exact .inl h2
        · exact .inr ⟨q, j, List.mem_cons_of_mem _ h3, h4, h5, h6⟩
    · rw [if_neg h]
      refine ⟨(frameOf p).take q, ?_, ?_⟩
      · rw [allF_cons, List.take_append, frameOf_len]
        have e : q - (p.length + 6) = 0 := by omega
        rw [e]
        simp [allF_nil]
      · by_cases h0 : q = 0
        · exact .inl (by rw [h0]; rfl)
        · exact .inr ⟨p, q, by simp, by omega, by omega, rfl⟩
/-- What is got of the first bytes of frames. -/
theorem scan_fit {l : List (List Int)} (hl : ∀ p ∈ l, OkP p) (hb : (allF l).length ≤ 900000) (q : Nat) : ∃ e, frame_Scan.f ((allF l).take q) = some (l.take (fit l q), ((allF (l.take (fit l q))).length : Int), e) := by
  have ht : ∀ p ∈ l.take (fit l q), OkP p := fun p hp => hl p (List.mem_of_mem_take hp)
  have htl : (allF (l.take (fit l q))).length ≤ 900000 := by
    have h1 : allF l = allF (l.take (fit l q)) ++ allF (l.drop (fit l q)) := by rw [← allF_append, List.take_append_drop]
    rw [h1, List.length_append] at hb
    omega
  obtain ⟨r, h1, h2⟩ := fit_part l q
  rw [h1]
  rcases h2 with rfl | ⟨p, j, h3, h4, h5, rfl⟩
  · rw [List.append_nil]
    exact ⟨0, scan_frames ht (by omega)⟩
  · exact ⟨2, scan_cut ht (hl p h3) h4 h5 htl⟩
theorem take_fit (l : List (List Int)) (q : Nat) : ((allF l).take q).take (allF (l.take (fit l q))).length = allF (l.take (fit l q)) := by
  obtain ⟨r, h1, _⟩ := fit_part l q
  rw [h1, List.take_left]
theorem allF_take_le (l : List (List Int)) (s : Nat) : (allF (l.take s)).length ≤ (allF l).length := by
  have h1 : allF l = allF (l.take s) ++ allF (l.drop s) := by rw [← allF_append, List.take_append_drop]
  rw [h1, List.length_append]
  omega
theorem take_allF (l : List (List Int)) (s : Nat) : (allF l).take (allF (l.take s)).length = allF (l.take s) := by
  have h1 : allF l = allF (l.take s) ++ allF (l.drop s) := by rw [← allF_append, List.take_append_drop]
  conv => lhs; rw [h1]
  rw [List.take_left]
end Go.Proofs.Ytbcienbnhchdeaa.JMath

/- What the disk's laws call first: the document's example. -/
namespace Go.Proofs.Ytbcienbnhchdeaa.Hand
open Go Go.RowKit Go.Proofs.YtbcienbnhchdeaaW.PrintWords Go.Proofs.YtbcienbnhchdeaaW.PrintMore
set_option linter.unusedVariables false
set_option linter.unusedSimpArgs false
attribute [local go_sem] max2_int min2_int max_two min_two

theorem abc : strOfNums [97, 98, 99] = ⟨#[97, 98, 99]⟩ := by decide
end Go.Proofs.Ytbcienbnhchdeaa.Hand

/- Small laws for the disk's laws. -/
namespace Go.Proofs.Ytbcienbnhchdeaa.Hand
open Go Go.RowKit Go.Proofs.YtbcienbnhchdeaaW.PrintWords Go.Proofs.YtbcienbnhchdeaaW.PrintMore
set_option linter.unusedVariables false

/-- Of a row of bytes, the first m. -/
theorem C_first {w : World} {A : Option Addr} {l : List Int} (h : Kd.C (Kd.int .u8) w A l.length l) (m : Nat) (hm : m ≤ l.length) : Kd.C (Kd.int .u8) w A (l.take m).length (l.take m) := Kd.C_take h hm
/-- min(len(l), n). -/
theorem min_first (l : List Int) (n : Nat) : (if (n : Int) < (l.length : Int) then (n : Int) else (l.length : Int)) = ((min l.length n : Nat) : Int) := by
  split <;> omega
theorem keep_min (keep : Int) (q : Nat) : (if (q : Int) < (if keep < 0 then 0 else keep) then (q : Int) else (if keep < 0 then 0 else keep)) = ((keepOf keep q : Nat) : Int) := by
  unfold keepOf
  split <;> split <;> (try split) <;> omega
theorem ret_i {a b : Int} {e : Ending} (h : e = .returned (.int .i64 a)) (hab : a = b) : e = .returned (.int .i64 b) := hab ▸ h
section
variable {w : World} {g : Nat} {ok : Nat → Prop} {room : Nat} {bs a b : List Int}
theorem sync_zero (h : DiskAt w g ok room 0 bs) : Calls Try.prog 39 #[.pointer (some ⟨g, 0, none⟩)] w fun e w' => e = .returned (.int .i64 (bs.length : Int)) ∧ DiskAt w' g ok room bs.length bs ∧ Moved w w' (OfDisk g ok) :=
  (sync_any h).mono fun e w' ⟨he, h1⟩ => ⟨ret_i he (by omega), h1⟩
theorem sync_none {s : Nat} (h : DiskAt w g ok room s bs) (hs : s = bs.length) : Calls Try.prog 39 #[.pointer (some ⟨g, 0, none⟩)] w fun e w' => e = .returned (.int .i64 0) ∧ DiskAt w' g ok room s bs ∧ Moved w w' (OfDisk g ok) := by
  subst hs
  exact (sync_any h).mono fun e w' ⟨he, h1⟩ => ⟨ret_i he (by omega), h1⟩
theorem crash_two {keep : Int} {K : Nat} (h : DiskAt w g ok room a.length (a ++ b)) (hK : keepOf keep b.length = K) : Calls Try.prog 40 #[.pointer (some ⟨g, 0, none⟩), .int .i64 keep] w fun e w' =>
    e = .returned (.int .i64 ((b.length : Int) - (K : Int))) ∧ DiskAt w' g ok room (a ++ b.take K).length (a ++ b.take K) ∧ Moved w w' (OfDisk g ok) := by
  have hq : (a ++ b).length - a.length = b.length := by simp
  have hle : K ≤ b.length := hK ▸ keepOf_le keep b.length
  refine (crash_any keep h).mono fun e w' ⟨he, h1, h2⟩ => ?_
  rw [hq, hK] at he h1
  have ht : (a ++ b).take (a.length + K) = a ++ b.take K := by rw [List.take_append]; simp; exact List.take_of_length_le (by omega)
  have hl : (a ++ b.take K).length = a.length + K := by rw [List.length_append, List.length_take]; omega
  rw [ht] at h1
  rw [hl]
  exact ⟨ret_i he (by rw [List.length_append]; omega), h1, h2⟩
theorem crash_none {keep : Int} {s : Nat} (h : DiskAt w g ok room s bs) (hs : s = bs.length) : Calls Try.prog 40 #[.pointer (some ⟨g, 0, none⟩), .int .i64 keep] w fun e w' =>
    e = .returned (.int .i64 0) ∧ DiskAt w' g ok room s bs ∧ Moved w w' (OfDisk g ok) := by
  subst hs
  refine (crash_any keep h).mono fun e w' ⟨he, h1, h2⟩ => ?_
  have e0 : keepOf keep (bs.length - bs.length) = 0 := by have := keepOf_le keep (bs.length - bs.length); omega
  rw [e0, Nat.add_zero] at he h1
  rw [List.take_length] at h1
  exact ⟨ret_i he (by omega), h1, h2⟩
end
/-- What was made from w0 on. -/
theorem Moved.on {w0 w w1 : World} {g : Nat} (h : Below w0.heap.size w0 w) (hg : w0.heap.size ≤ g) (k : Moved w w1 (OfDisk g (fun k => w0.heap.size ≤ k))) : Below w0.heap.size w0 w1 :=
  Moved.from_below h k (fun k hk => hk.elim (fun e => by omega) id) h.size
/-- Rows of bytes as strings. -/
theorem str_append (a b : List Int) : strOfNums a ++ strOfNums b = strOfNums (a ++ b) := by
  apply ByteArray.ext
  simp [strOfNums]
theorem str_size (l : List Int) : (strOfNums l).size = l.length := by simp [strOfNums, ByteArray.size]
end Go.Proofs.Ytbcienbnhchdeaa.Hand

/- The frame of any payload, behind any bytes: the law's contract. -/
namespace Go.Proofs.Ytbcienbnhchdeaa.Hand
open Go Go.RowKit Go.Proofs.YtbcienbnhchdeaaW.PrintWords Go.Proofs.YtbcienbnhchdeaaW.PrintMore Print FrameC FrameL FrameS FrameR
set_option linter.unusedVariables false
set_option linter.unusedSimpArgs false
attribute [local go_sem] max2_int min2_int max_two min_two

theorem lives4_f (k : Nat) : pacesetterlaw04_lives.f (k + 1) = some true := by
  rw [← lives_one]
  unfold pacesetterlaw04_lives.f
  have h7 : okB [7] = true := rfl
  have hb : okB ([] ++ frameOf [7]) = true := frameOf_ok h7
  have hl : ([] ++ frameOf [7]).length ≤ 1000000 := by rw [List.nil_append, frameOf_len]; decide
  rw [put_eq h7 (by decide) (by decide)]
  simp only [bind_s]
  rw [if_neg (by decide), if_neg (by decide), get_eq hb hl k, get_eq hb hl 0]
theorem lives4_any (w : World) : Calls Try.prog 60 #[] w fun e w' => e = .returned (.bool true) ∧ Below w.heap.size w w' := pacesetterlaw04_lives.calls 1 true w (lives4_f 0)
set_option maxRecDepth 100000 in
theorem few4_any (A : Option Addr) (c : Nat) (l : List Int) (hl : l.length ≤ 9223372036854775807) (hc : l.length ≤ c) (w : World) : Calls Try.prog 61 #[.slice A l.length c] w fun e w' => e = .returned (.slice A (l.take 1100).length c) ∧ w = w' := by
  have hm0 : (if (1100 : Int) < (l.length : Int) then (1100 : Int) else (l.length : Int)) = (((l.take 1100).length : Nat) : Int) := by rw [List.length_take]; split <;> omega
  have hk0 : (l.take 1100).length ≤ c := by rw [List.length_take]; omega
  generalize (l.take 1100).length = m at *
  go_enter Try.func61, Try.ntmps61
  go_wp2
  go_ret
  exact ⟨rfl, rfl⟩
theorem of_f {l : List Int} (hb : okB l = true) (hl : l.length ≤ 2000) : pacesetterref04_of.f 30000 l = some (frameOf l) := by
  unfold pacesetterref04_of.f
  have e : ([(wrap64 ((l.length : Int) / 256)) % 256, (l.length : Int) % 256] : List Int) = headN l.length := by
    unfold headN wrap64
    simp only [List.cons.injEq, and_true]
    omega
  have hh : (headN l.length).length = 2 := rfl
  have ew : headN l.length ++ l = withHead l := rfl
  rw [bind_s, e, if_pos (by omega), ew, ref_seal (withHead_ok hb) (by rw [withHead_len]; omega) (by rw [withHead_len]; omega), bind_s]
  rfl
set_option maxRecDepth 100000 in
set_option maxHeartbeats 1000000 in
/-- The second reading's frame of a payload, behind any bytes. -/
theorem refPut_any (A0 A1 : Option Addr) (c0 c1 : Nat) (l0 l1 : List Int) (w : World) (h0 : Kd.C (Kd.int .u8) w A0 l0.length l0) (hc0 : l0.length ≤ c0) (hl0 : l0.length ≤ 1000000) (h1 : Kd.C (Kd.int .u8) w A1 l1.length l1) (hc1 : l1.length ≤ c1) (ok1 : okB l1 = true) :
    Calls Try.prog 63 #[.slice A0 l0.length c0, .slice A1 l1.length c1] w fun e w' => ∃ (A : Option Addr) (c : Nat) (r : List Int) (x : Int), e = .returned (.tuple #[.slice A r.length c, .int .i64 x]) ∧ (r, x) = (if l1.length = 0 then (l0, (1 : Int)) else if 1000 < l1.length then (l0, 12) else (l0 ++ frameOf l1, 0)) ∧ r.length ≤ c ∧ Kd.C (Kd.int .u8) w' A r.length r ∧ Below w.heap.size w w' := by
  have hl63 := h1.2.1
  have H0 := Aside0.mk h0
  have H1 := Aside0.mk h1
  have O1 := Aside0.mk ok1
  clear h0 h1 ok1
  by_cases c0' : l1.length = 0
  · rw [if_pos c0']
    rw [c0']
    go_enter Try.func63, Try.ntmps63
    go_wp2
    go_ret2
    exact ⟨A0, c0, l0, 1, rfl, rfl, hc0, H0.out, Below.refl _ _⟩
  · rw [if_neg c0']
    have hz : ((l1.length : Int) == 0) = false := beq_eq_false_iff_ne.mpr (by omega)
    by_cases c1' : 1000 < l1.length
    · rw [if_pos c1']
      go_enter Try.func63, Try.ntmps63
      go_wp2
      go_ret2
      exact ⟨A0, c0, l0, 12, rfl, rfl, hc0, H0.out, Below.refl _ _⟩
    · rw [if_neg c1']
      have hle : l1.length ≤ 1000 := by omega
      have HF := Aside0.mk (of_f O1.out (by omega))
      have HL := Aside0.mk (frameOf_len l1)
      clear c0' c1'
      go_enter Try.func63, Try.ntmps63
      go_wp2_with (first
        | (at_builtin; refine Kd.R_append_row (Value.int .u8) (0 : Int) (h1 := fun _ => rfl) (w0 := w) w.heap.size rfl (.tmp 15) (.tmp 16) 22 5 (.int .u8 0) 1 rfl Try.underlying22 info5 rfl (by omega) (.slice none 0 0) [] l0 A0 l0.length c0 (fun _ => True) rfl rfl (fun _ _ => trivial) ?aO ?aR ?aB ?aS ?aL ?_; (case aO => exact Kd.R_nil _ _ _ _ _); (case aR => exact H0.out); (case aB => exact Below.refl _ _); (case aS => exact Nat.le_refl _); (case aL => simp; omega); intro v1 w2 ho hb hg hat; rw [List.nil_append] at ho; obtain ⟨A2, c2, rfl⟩ := Kd.R_slice ho; have HO := Aside0.mk ho; have HB2 := Aside0.mk hb; clear ho hb hg hat)
        | (go_at_call 98; refine (pacesetterref04_of.calls 30000 A1 c1 l1 (frameOf l1) _ (Kd.C_below H1.out HB2.out) hc1 HF.out).mono ?_; rintro e w3 ⟨v3, rfl, ho, hb⟩; obtain ⟨A3, c3, rfl⟩ := Kd.R_slice ho; have HO3 := Aside0.mk ho; have HB3 := Aside0.mk (below_step HB2.out hb); have HO2 := Aside0.mk (Kd.R_below HO.out hb); clear ho hb HO HB2)
        | (at_builtin; refine Kd.R_append_row (Value.int .u8) (0 : Int) (h1 := fun _ => rfl) (w0 := w) w.heap.size rfl (.tmp 18) (.tmp 20) 22 5 (.int .u8 0) 1 rfl Try.underlying22 info5 rfl (by omega) (.slice A2 l0.length c2) l0 (frameOf l1) A3 (frameOf l1).length c3 (fun _ => True) rfl rfl (fun _ _ => trivial) ?bO ?bR ?bB ?bS ?bL ?_; (case bO => exact HO2.out); (case bR => exact (Kd.R_reads' HO3.out).2.2); (case bB => exact HB3.out); (case bS => exact HB3.out.size); (case bL => have := HL.out; omega); intro v4 w4 ho hb hg hat; obtain ⟨A4, c4, rfl⟩ := Kd.R_slice ho; have HO4 := Aside0.mk ho; have HB4 := Aside0.mk hb; clear ho hb hg hat HO2 HO3 HB3))
      go_ret2
      obtain ⟨r1, r2, r3⟩ := Kd.R_reads' HO4.out
      exact ⟨A4, c4, l0 ++ frameOf l1, 0, by rw [List.length_append]; rfl, rfl, r2, r3, HB4.out⟩
theorem put_frame (A0 A1 : Option Addr) (c0 c1 : Nat) (l0 l1 : List Int) (w : World) (h0 : Kd.C (Kd.int .u8) w A0 l0.length l0) (hc0 : l0.length ≤ c0) (hl0 : l0.length ≤ 1000000) (h1 : Kd.C (Kd.int .u8) w A1 l1.length l1) (hc1 : l1.length ≤ c1) (hl1 : l1.length ≤ 100000) (ok1 : okB l1 = true) :
    Calls Try.prog 62 #[.slice A0 l0.length c0, .slice A1 l1.length c1] w fun e w' => ∃ (A : Option Addr) (c : Nat) (r : List Int) (x : Int), e = .returned (.tuple #[.slice A r.length c, .int .i64 x]) ∧ (r, x) = (if l1.length = 0 then (l0, (1 : Int)) else if 1000 < l1.length then (l0, 12) else (l0 ++ frameOf l1, 0)) ∧ r.length ≤ c ∧ Kd.C (Kd.int .u8) w' A r.length r ∧ Below w.heap.size w w' := by
  obtain ⟨r, x, hrx⟩ : ∃ r x, (r, x) = (if l1.length = 0 then (l0, (1 : Int)) else if 1000 < l1.length then (l0, 12) else (l0 ++ frameOf l1, 0)) := ⟨_, _, rfl⟩
  have hf := put_eq (l := l0) ok1 hl1 hl0
  rw [← hrx] at hf ⊢
  refine (frame_Put.calls (fun k => k < w.heap.size) A0 c0 l0 (fun k => k < w.heap.size) A1 c1 l1 r x w (Kd.V_mk hc0 (Kd.C_F (Kd.heap_int .u8) h0)) (Kd.V_mk hc1 (Kd.C_F (Kd.heap_int .u8) h1)) hf).mono ?_
  rintro e w' ⟨v, rfl, hV, hb⟩
  obtain ⟨A, c, rfl⟩ := Kd.V_slice hV
  obtain ⟨_, r2, r3⟩ := Kd.V_reads' hV
  exact ⟨A, c, r, x, rfl, rfl, r2, r3, hb⟩
theorem size_any (n : Nat) (w : World) : Calls Try.prog 64 #[.int .i64 (n : Int)] w fun e w' => e = .returned (.int .i64 (if 1 ≤ n ∧ n ≤ 1000 then ((n + 6 : Nat) : Int) else 0)) ∧ Drawn0 w w' :=
  frame_Size.calls (n : Int) _ w (size_eq n)
end Go.Proofs.Ytbcienbnhchdeaa.Hand

/- frame.Put of a payload that may be: a new row. -/
namespace Go.Proofs.Ytbcienbnhchdeaa.Hand
open Go Go.RowKit Go.Proofs.YtbcienbnhchdeaaW.PrintLast Go.Proofs.YtbcienbnhchdeaaW.PrintWords Go.Proofs.YtbcienbnhchdeaaW.PrintMore Print FrameC FrameL FrameS FrameR
set_option linter.unusedVariables false
set_option linter.unusedSimpArgs false
attribute [local go_sem] max2_int min2_int max_two min_two
set_option maxRecDepth 100000 in
set_option maxHeartbeats 1000000 in
theorem put_fresh (A0 A1 : Option Addr) (c0 c1 : Nat) (l0 p : List Int) (w : World) (h0 : Kd.C (Kd.int .u8) w A0 l0.length l0) (hc0 : l0.length ≤ c0) (hl0 : l0.length ≤ 1000000) (h1 : Kd.C (Kd.int .u8) w A1 p.length p) (hc1 : p.length ≤ c1) (hp : OkP p) :
    Calls Try.prog 62 #[.slice A0 l0.length c0, .slice A1 p.length c1] w fun e w' => ∃ v, e = .returned (.tuple #[v, .int .i64 0]) ∧ Kd.R (Kd.int .u8) 5 w' w.heap.size (fun _ => True) v (l0 ++ frameOf p) ∧ Below w.heap.size w w' := by
  have H0 := Aside0.mk h0
  have H1 := Aside0.mk h1
  have HP := Aside0.mk hp
  have hz : ((p.length : Int) == 0) = false := beq_eq_false_iff_ne.mpr (by have := hp.2.1; omega)
  have hle : p.length ≤ 1000 := hp.2.2
  have hz6 : (((p.length : Int) + 6) == 0) = false := beq_eq_false_iff_ne.mpr (by omega)
  have SZ : Aside0 (∀ W, Calls Try.prog 64 #[.int .i64 (p.length : Int)] W fun e w' => e = .returned (.int .i64 ((p.length : Int) + 6)) ∧ ∃ n, w' = W.drewN n) := Aside0.mk (fun W => by
    refine (size_any p.length W).mono ?_
    rintro e w' ⟨he, hd⟩
    rw [if_pos ⟨hp.2.1, hp.2.2⟩] at he
    exact ⟨by rw [he]; rfl, by obtain ⟨n, hn⟩ := hd; exact ⟨n, hn⟩⟩)
  have hc1' := hc1
  have CAT1 : Aside0 (∀ W : World, Kd.C (Kd.int .u8) W A1 p.length p → Calls Try.prog 97 #[.slice (some ⟨W.heap.size + 1, 0, none⟩) 2 2] ((W.alloc (.cells #[.int .u8 ((p.length : Int) / 256), .int .u8 ((p.length : Int) % 256)] 5)).alloc (.cells #[.slice (some ⟨W.heap.size, 0, none⟩) 2 2, .slice A1 p.length c1] 22)) fun e w' => ∃ (A : Option Addr) (c : Nat), e = .returned (.slice A (withHead p).length c) ∧ (withHead p).length ≤ c ∧ Kd.C (Kd.int .u8) w' A (withHead p).length (withHead p) ∧ Below W.heap.size W w') := Aside0.mk (fun W hC => by
    have hh : headN p.length = [(p.length : Int) / 256, (p.length : Int) % 256] := by
      unfold headN
      simp only [List.cons.injEq, and_true]
      omega
    have hL := C_lit W (headN p.length) (0, 0) (by simp [headN])
    rw [hh] at hL
    have hb := below_alloc (Below.refl W.heap.size W) (.cells #[.int .u8 ((p.length : Int) / 256), .int .u8 ((p.length : Int) % 256)] 5)
    have hrow := rows2 (c := 2) hL (by simp) (Kd.C_below hC hb) hc1'
    rw [World.size_alloc] at hrow
    have ht : total [[(p.length : Int) / 256, (p.length : Int) % 256], p] ≤ 140737488355328 := by simp [total]; omega
    have hb2 := below_step hb (below_alloc (Below.refl _ _) (.cells #[.slice (some ⟨W.heap.size, 0, none⟩) 2 2, .slice A1 p.length c1] 22))
    refine (concat_any (some ⟨W.heap.size + 1, 0, none⟩) 2 [[(p.length : Int) / 256, (p.length : Int) % 256], p] _ hrow ht).mono ?_
    rintro e w' ⟨v, he, hR, hb3⟩
    have hw : ([[(p.length : Int) / 256, (p.length : Int) % 256], p] : List (List Int)).flatten = withHead p := by rw [← hh]; simp [withHead]
    rw [hw] at hR
    obtain ⟨A, c, rfl, hl, hC⟩ := Kd.R_reads hR
    exact ⟨A, c, he, hl, hC, below_step hb2 hb3⟩)
  have SEAL : Aside0 (∀ W A c, Kd.C (Kd.int .u8) W A (withHead p).length (withHead p) → (withHead p).length ≤ c → Calls Try.prog 47 #[.slice A (withHead p).length c] W fun e w' => ∃ (A : Option Addr) (c : Nat), e = .returned (.slice A (frameOf p).length c) ∧ (frameOf p).length ≤ c ∧ Kd.C (Kd.int .u8) w' A (frameOf p).length (frameOf p) ∧ Below W.heap.size W w') := Aside0.mk (fun W A c hC hc =>
    (crc_Seal.calls A c (withHead p) (frameOf p) W hC hc (by rw [seal_eq (withHead_ok hp.1) (by rw [withHead_len]; omega)]; rfl)).mono fun e w' ⟨v, he, hR, hb⟩ => by
      obtain ⟨A, c, rfl, hl, hC⟩ := Kd.R_reads hR
      exact ⟨A, c, he, hl, hC, hb⟩)
  have hfl := frameOf_len p
  have CAT2 : Aside0 (∀ (W : World) A c, Kd.C (Kd.int .u8) W A0 l0.length l0 → Kd.C (Kd.int .u8) W A (frameOf p).length (frameOf p) → (frameOf p).length ≤ c → Calls Try.prog 97 #[.slice (some ⟨W.heap.size, 0, none⟩) 2 2] (W.alloc (.cells #[.slice A0 l0.length c0, .slice A (frameOf p).length c] 22)) fun e w' => ∃ v, e = .returned v ∧ Kd.R (Kd.int .u8) 5 w' W.heap.size (fun _ => True) v (l0 ++ frameOf p) ∧ Below W.heap.size W w') := Aside0.mk (fun W A c hC0 hC hc => by
    have hrow := rows2 hC0 hc0 hC hc
    have ht : total [l0, frameOf p] ≤ 140737488355328 := by simp [total]; omega
    refine (concat_any (some ⟨W.heap.size, 0, none⟩) 2 [l0, frameOf p] _ hrow ht).mono ?_
    rintro e w' ⟨v, he, hR, hb3⟩
    refine ⟨v, he, ?_, below_step (below_alloc (Below.refl _ _) _) hb3⟩
    have hw : ([l0, frameOf p] : List (List Int)).flatten = l0 ++ frameOf p := by simp
    rw [hw] at hR
    exact Kd.R_lower hR (by simp))
  obtain ⟨n, hn⟩ : ∃ n, p.length = n := ⟨_, rfl⟩
  have HN := Aside0.mk hn
  rw [hn] at hz hle hz6 SZ hc1 CAT1 H1
  rw [hn]
  clear h0 h1 hp hn hc1' hfl
  generalize (withHead p).length = hl at *
  generalize (frameOf p).length = fl at *
  go_enter Try.func62, Try.ntmps62
  go_wp2_with (first
    | (go_at_call 64; refine (SZ.out _).mono ?_; rintro e w1 ⟨rfl, k, rfl⟩)
    | (go_at_call 97; refine (CAT1.out (w.drewN k) (Kd.C_below H1.out (pw_below_drewN (Below.refl _ _) k))).mono ?_; rintro e w2 ⟨A2, c2, rfl, hl2, hC2, hb⟩; have HB2 := Aside0.mk (below_step (pw_below_drewN (Below.refl _ w) k) hb); have HC2 := Aside0.mk hC2; clear hb hC2 CAT1)
    | (go_at_call 47; refine (SEAL.out _ _ _ HC2.out hl2).mono ?_; rintro e w3 ⟨A3, c3, rfl, hl3, hC3, hb⟩; have HB3 := Aside0.mk (below_step HB2.out hb); have HC3 := Aside0.mk hC3; clear hb hC3 HB2 HC2)
    | (go_at_call 97; refine (CAT2.out w3 _ _ (Kd.C_below H0.out HB3.out) HC3.out hl3).mono ?_; rintro e w4 ⟨v4, rfl, hR, hb⟩; obtain ⟨A4, c4, hv, hl4, hC4⟩ := Kd.R_reads hR; subst hv; have HB4 := Aside0.mk (below_step HB3.out hb); have HR4 := Aside0.mk (Kd.R_lower hR HB3.out.size); clear hR hb hC4 HB3 HC3))
  go_ret2
  have h := HR4.out
  rw [List.length_append] at h
  exact ⟨_, rfl, h, HB4.out⟩
end Go.Proofs.Ytbcienbnhchdeaa.Hand

/- A journal in memory, and what its methods do. -/
namespace Go.Proofs.Ytbcienbnhchdeaa.Hand
open Go Go.RowKit Go.Proofs.YtbcienbnhchdeaaW.PrintLast Go.Proofs.YtbcienbnhchdeaaW.PrintWords Go.Proofs.YtbcienbnhchdeaaW.PrintMore Print FrameC FrameL FrameS FrameR JMath
set_option linter.unusedVariables false
set_option linter.unusedSimpArgs false
attribute [local go_sem] max2_int min2_int max_two min_two
theorem KE_ne {t : Nat} (ht : t ≠ 22 ∧ t ≠ 5) : ∀ q, q ∈ 22 :: KS.E → q ≠ t := by
  intro q hq
  have hq2 : q = 22 ∨ q = 5 := by simpa [KS, Kd.slice, Kd.int, Kd.scalar] using hq
  rcases hq2 with rfl | rfl
  · exact fun e => ht.1 e.symm
  · exact fun e => ht.2 e.symm
theorem JCells.below {w w1 : World} {gj : Nat} {d v : Value} {s : Int} (h : JCells w gj d v s) (hb : Below w.heap.size w w1) : JCells w1 gj d v s := (hb.block gj (blk_lt h)).trans h
theorem JCells.moved {w w1 : World} {gj : Nat} {d v : Value} {s : Int} (h : JCells w gj d v s) {S : Nat → Prop} (hm : Moved w w1 S) (hk : ¬ S gj) : JCells w1 gj d v s := (hm.kept.2 gj (blk_lt h) hk).trans h
theorem JCells.put {w : World} {gj : Nat} {d v v1 : Value} {s : Int} (h : JCells w gj d v s) : JCells (w.setCell ⟨gj, 1, none⟩ v1) gj d v1 s := blk_set h 1 v1
theorem JCells.puts {w : World} {gj : Nat} {d v : Value} {s s1 : Int} (h : JCells w gj d v s) : JCells (w.setCell ⟨gj, 2, none⟩ (.int .i64 s1)) gj d v s1 := blk_set h 2 (.int .i64 s1)
theorem DiskAt.set {w : World} {g gj : Nat} {kd : Nat → Prop} {room safe : Nat} {bs : List Int} {d v : Value} {s : Int} (h : DiskAt w g kd room safe bs) (hj : JCells w gj d v s) (i : Nat) (u : Value) : DiskAt (w.setCell ⟨gj, i, none⟩ u) g kd room safe bs := by
  obtain ⟨⟨x, h1, h2⟩, a, b, c, e⟩ := h
  have hne : g ≠ gj := fun e => by subst e; exact blk_ne h1 hj (by decide) rfl
  exact ⟨⟨x, (Below.heap_setCell w ⟨gj, i, none⟩ u g hne).trans h1, B_set h2 hj (by decide) i u⟩, a, b, c, e⟩
section
variable {w : World} {gj g room dsafe : Nat} {kd : Nat → Prop} {bs : List Int} {v0 : Value} {s0 : Int}
set_option maxRecDepth 100000 in
set_option maxHeartbeats 1000000 in
theorem open_any (hj : JCells w gj (.pointer (some ⟨g, 0, none⟩)) v0 s0) (hd : DiskAt w g kd room dsafe bs) (hkd : ∀ k, kd k → k < w.heap.size ∧ k ≠ gj) {ps : List (List Int)} {n : Nat} {x : Int} (hs : frame_Scan.f bs = some (ps, (n : Int), x)) (hn : n ≤ bs.length) :
    Calls Try.prog 99 #[.pointer (some ⟨gj, 0, none⟩)] w fun e w' => e = .returned (.int .i64 ((bs.length : Int) - (n : Int))) ∧ ∃ v, JCells w' gj (.pointer (some ⟨g, 0, none⟩)) v (ps.length : Int) ∧ DiskAt w' g kd room n (bs.take n) ∧ Kd.R KS 22 w' w.heap.size (fun _ => True) v ps ∧ Moved w w' (fun k => k = gj ∨ OfDisk g kd k) := by
  have HJ := Aside0.mk hj
  have HD := Aside0.mk hd
  have HK := Aside0.mk hkd
  have HS := Aside0.mk hs
  have hbl := hd.roomLe
  have hbm := hd.most
  obtain ⟨c0, c1, c2, fr⟩ := j_cells hj
  clear hj hd hkd hs c1 c2 fr
  go_enter Try.func99, Try.ntmps99
  go_wp2_with (first
    | (go_at_call 41; refine (all_any HD.out).mono ?_; rintro e w1 ⟨v1, rfl, ho, hb⟩; obtain ⟨A1, k1, rfl, hl1, hC1⟩ := Kd.R_reads ho; have HC1 := Aside0.mk hC1; have HB1 := Aside0.mk hb; clear ho hb hC1)
    | (go_at_call 68; refine (frame_Scan.calls A1 k1 bs ps (n : Int) x w1 HC1.out hl1 HS.out).mono ?_; rintro e w2 ⟨v2, rfl, hS, hb⟩; obtain ⟨A2, k2, rfl⟩ := Kd.S_slice hS; have HR := Aside0.mk (show Kd.R KS 22 w2 w1.heap.size (fun _ => True) _ ps from Kd.S_R hS); have HB2 := Aside0.mk hb; have HJ2 := Aside0.mk ((HJ.out.below HB1.out).below hb); have HD2 := Aside0.mk ((HD.out.below HB1.out).below hb); obtain ⟨c0', c1', c2', fr'⟩ := j_cells HJ2.out; clear hS hb)
    | (go_at_call 43; refine (len_any HD2.out).mono ?_; rintro e w3 ⟨rfl, rfl⟩)
    | (go_at_call 57; refine (cut_ok n HD2.out hn).mono ?_; rintro e w4 ⟨rfl, hd, hm⟩; have HJ4 := Aside0.mk (HJ2.out.moved hm (fun hk => hk.elim (fun e => by obtain ⟨⟨u, h1, _⟩, _⟩ := HD2.out; subst e; exact blk_ne h1 HJ2.out (by decide) rfl) (fun hk => (HK.out _ hk).2 rfl))); have HD4 := Aside0.mk hd; have HM4 := Aside0.mk hm; clear hd hm; obtain ⟨p0, p1, p2, q0⟩ := j_cells HJ4.out))
  go_ret
  have hgl : g < w.heap.size := HD.out.lt
  have hs1 := HB1.out.size
  have R4 : Kd.R KS 22 w4 w.heap.size (fun _ => True) (.slice A2 ps.length k2) ps := by
    refine Kd.R_mono (Kd.R_lower (Kd.R_kept (Kd.R_bound HR.out) HM4.out.kept (fun k hk hS => ?_)) hs1) (fun _ _ => trivial)
    rcases hS with rfl | hS
    · have := hk.2.1; omega
    · have := (HK.out _ hS).1; have := hk.2.1; omega
  refine ⟨rfl, .slice A2 ps.length k2, HJ4.out.put.puts, (HD4.out.set HJ4.out 1 _).set HJ4.out.put 2 _, Kd.R_set (Kd.R_set R4 HJ4.out (KE_ne (by decide)) 1 _) HJ4.out.put (KE_ne (by decide)) 2 _, ?_⟩
  exact ((((Moved.of_below (below_step HB1.out HB2.out) (fun k => k = gj ∨ OfDisk g kd k)).trans HM4.out (fun k hk => .inl (.inr hk)))).setCell (.inl (.inl rfl)) _).setCell (.inl (.inl rfl)) _
end
/-- A journal: its disk at g, its entries, how many are safe; what its rows lie in lies from N on. -/
structure JAt (N : Nat) (w : World) (gj g room : Nat) (l : List (List Int)) (s : Nat) : Prop where
  ex : ∃ (v : Value) (kd : Nat → Prop), JCells w gj (.pointer (some ⟨g, 0, none⟩)) v (s : Int) ∧ DiskAt w g kd room (allF (l.take s)).length (allF l) ∧ Kd.R KS 22 w N (fun k => ¬ kd k) v l ∧ (∀ k, kd k → N ≤ k ∧ k < w.heap.size ∧ k ≠ gj)
  sl : s ≤ l.length
  okl : ∀ p ∈ l, OkP p
/-- What a journal's method may turn. -/
def JSet (N gj g : Nat) (k : Nat) : Prop := k = gj ∨ k = g ∨ N ≤ k
section
variable {N : Nat} {w w1 : World} {gj g room s : Nat} {l : List (List Int)}
theorem JAt.step (h : JAt N w gj g room l s) (hs : w.heap.size ≤ w1.heap.size) (hj : w1.heap[gj]? = w.heap[gj]?) (hg : w1.heap[g]? = w.heap[g]?) (hN : ∀ k, N ≤ k → k < w.heap.size → w1.heap[k]? = w.heap[k]?) : JAt N w1 gj g room l s := by
  obtain ⟨⟨v, kd, h1, h2, h3, h4⟩, h5, h6⟩ := h
  exact ⟨⟨v, kd, hj.trans h1, h2.step hg (fun k hk hlt => hN k (h4 k hk).1 hlt), Kd.R_mono (Kd.R_step (Kd.R_bound h3) (fun k hk hlt => hN k hk.2.1 hlt)) (fun k hk => hk.1), fun k hk => ⟨(h4 k hk).1, by have := (h4 k hk).2.1; omega, (h4 k hk).2.2⟩⟩, h5, h6⟩
theorem JAt.lt (h : JAt N w gj g room l s) : gj < w.heap.size ∧ g < w.heap.size := by
  obtain ⟨⟨v, kd, h1, h2, _⟩, _⟩ := h
  exact ⟨blk_lt h1, h2.lt⟩
theorem JAt.next (h : JAt N w gj g room l s) (hb : Below w.heap.size w w1) : JAt N w1 gj g room l s := h.step hb.size (hb.block gj h.lt.1) (hb.block g h.lt.2) (fun k _ hk => hb.block k hk)
theorem JAt.drewN (h : JAt N w gj g room l s) (n : Nat) : JAt N (w.drewN n) gj g room l s := h.next (pw_below_drewN (Below.refl _ _) n)
theorem JAt.moved (h : JAt N w gj g room l s) {S : Nat → Prop} (hm : Moved w w1 S) (h1 : ¬ S gj) (h2 : ¬ S g) (h3 : ∀ k, N ≤ k → ¬ S k) : JAt N w1 gj g room l s :=
  h.step hm.size (hm.kept.2 gj h.lt.1 h1) (hm.kept.2 g h.lt.2 h2) (fun k hk hlt => hm.kept.2 k hlt (h3 k hk))
theorem JAt.small (h : JAt N w gj g room l s) : (allF l).length ≤ room ∧ room ≤ 1048576 ∧ l.length ≤ 1048576 ∧ (∀ x ∈ l, x.length ≤ 1000000) := by
  obtain ⟨⟨v, kd, h1, h2, _⟩, _, h6⟩ := h
  have h7 := allF_len l
  have h8 := h2.roomLe
  have h9 := h2.most
  exact ⟨h8, h9, by omega, fun x hx => by have := (h6 x hx).2.2; omega⟩
theorem JSet.moved {S : Nat → Prop} (hm : Moved w w1 S) (hs : ∀ k, S k → k = gj ∨ k = g ∨ N ≤ k) : Moved w w1 (JSet N gj g) := hm.mono hs
set_option maxRecDepth 100000 in
theorem jl_any (h : JAt N w gj g room l s) : Calls Try.prog 78 #[.pointer (some ⟨gj, 0, none⟩)] w fun e w' => e = .returned (.int .i64 (l.length : Int)) ∧ w = w' := by
  obtain ⟨⟨v, kd, h1, _, h3, _⟩, _⟩ := h
  obtain ⟨A, c, rfl⟩ := Kd.R_slice h3
  exact jlen_any h1
set_option maxRecDepth 100000 in
theorem js_any (h : JAt N w gj g room l s) : Calls Try.prog 77 #[.pointer (some ⟨gj, 0, none⟩)] w fun e w' => e = .returned (.int .i64 (s : Int)) ∧ w = w' := by
  obtain ⟨⟨v, kd, h1, _, h3, _⟩, _⟩ := h
  obtain ⟨c0, c1, c2, fr⟩ := j_cells h1
  clear h1 h3 c0 c1 fr
  go_enter Try.func77, Try.ntmps77
  go_wp2
  go_ret
  exact ⟨rfl, rfl⟩
set_option maxRecDepth 100000 in
theorem jr_any (h : JAt N w gj g room l s) : Calls Try.prog 84 #[.pointer (some ⟨gj, 0, none⟩)] w fun e w' => e = .returned (.int .i64 ((room : Int) - ((allF l).length : Int))) ∧ ∃ n, w' = w.drewN n := by
  obtain ⟨⟨v, kd, h1, h2, _⟩, _⟩ := h
  obtain ⟨c0, c1, c2, fr⟩ := j_cells h1
  have H2 := Aside0.mk h2
  clear h1 h2 c1 c2 fr
  go_enter Try.func84, Try.ntmps84
  go_wp2_with (go_at_call 59; refine (room_any H2.out).mono ?_; rintro e w1 ⟨rfl, n, rfl⟩)
  go_ret
  exact ⟨rfl, n, rfl⟩
theorem ja_any (h : JAt N w gj g room l s) : Calls Try.prog 80 #[.pointer (some ⟨gj, 0, none⟩)] w fun e w' => ∃ (A' : Option Addr) (c' : Nat), e = .returned (.slice A' l.length c') ∧ l.length ≤ c' ∧ Kd.C KS w' A' l.length l ∧ Below w.heap.size w w' := by
  have hsm := h.small
  have hx := hsm.2.2.2
  obtain ⟨⟨v, kd, h1, h2, h3, _⟩, _, h6⟩ := h
  obtain ⟨A, c, rfl, hc, hC⟩ := Kd.R_reads h3
  by_cases hl : l.length ≤ 1000000
  · exact jall_any h1 hC hc hx hl
  · exfalso
    have h7 := allF_len7 h6
    omega
theorem jaF_any (h : JAt N w gj g room l s) : Calls Try.prog 80 #[.pointer (some ⟨gj, 0, none⟩)] w fun e w' => ∃ (A' : Option Addr) (c' : Nat), e = .returned (.slice A' l.length c') ∧ l.length ≤ c' ∧ Kd.F KS w' (fun k => w.heap.size ≤ k ∨ T5 w' k) A' l.length l ∧ Below w.heap.size w w' := by
  have hsm := h.small
  have hx := hsm.2.2.2
  obtain ⟨⟨v, kd, h1, h2, h3, _⟩, _, h6⟩ := h
  obtain ⟨A, c, rfl, hc, hC⟩ := Kd.R_reads h3
  by_cases hl : l.length ≤ 1000000
  · exact jallF_any h1 hC hc hx hl
  · exfalso
    have h7 := allF_len7 h6
    omega
theorem JAt.cells (h : JAt N w gj g room l s) : ∃ v, JCells w gj (.pointer (some ⟨g, 0, none⟩)) v (s : Int) := by
  obtain ⟨⟨v, kd, h1, _⟩, _⟩ := h
  exact ⟨v, h1⟩
theorem JAt.roomCall (h : JAt N w gj g room l s) : Calls Try.prog 59 #[.pointer (some ⟨g, 0, none⟩)] w fun e w' => e = .returned (.int .i64 ((room : Int) - ((allF l).length : Int))) ∧ ∃ n, w' = w.drewN n := by
  obtain ⟨⟨v, kd, _, h2, _⟩, _⟩ := h
  exact room_any h2
variable {A : Option Addr} {c : Nat} {p : List Int}
set_option maxRecDepth 100000 in
theorem jframe_ok (h : JAt N w gj g room l s) (hC : Kd.C (Kd.int .u8) w A p.length p) (hc : p.length ≤ c) (hp : OkP p) (hfit : (allF l).length + (p.length + 6) ≤ room) :
    Calls Try.prog 100 #[.pointer (some ⟨gj, 0, none⟩), .slice A p.length c] w fun e w' => ∃ (A' : Option Addr) (c' : Nat), e = .returned (.tuple #[.slice A' (frameOf p).length c', .int .i64 0]) ∧ Kd.R (Kd.int .u8) 5 w' w.heap.size (fun _ => True) (.slice A' (frameOf p).length c') (frameOf p) ∧ Below w.heap.size w w' := by
  have H := Aside0.mk h
  have HC := Aside0.mk hC
  have PUT : Aside0 (∀ W, Below w.heap.size w W → Calls Try.prog 62 #[.slice none 0 0, .slice A p.length c] W fun e w' => ∃ (A' : Option Addr) (c' : Nat), e = .returned (.tuple #[.slice A' (frameOf p).length c', .int .i64 0]) ∧ Kd.R (Kd.int .u8) 5 w' W.heap.size (fun _ => True) (.slice A' (frameOf p).length c') (frameOf p) ∧ Below W.heap.size W w') := Aside0.mk (fun W hW => by
    refine (put_fresh none A 0 c [] p W (Kd.C_nil _ _) (Nat.le_refl _) (by simp) (Kd.C_below hC hW) hc hp).mono ?_
    rintro e w' ⟨v, he, hR, hb⟩
    rw [List.nil_append] at hR
    obtain ⟨A', c', rfl⟩ := Kd.R_slice hR
    exact ⟨A', c', he, hR, hb⟩)
  have hfl := frameOf_len p
  have hp1 := hp.2.2
  have hsm := h.small
  have hle : ((frameOf p).length : Int) ≤ (room : Int) - ((allF l).length : Int) := by omega
  have hle2 : (frameOf p).length ≤ 1006 := by omega
  obtain ⟨v, hj⟩ := h.cells
  have HJ := Aside0.mk hj
  clear h hC hp hfit hfl hp1 hsm hj
  generalize (frameOf p).length = fl at *
  go_enter Try.func100, Try.ntmps100
  go_wp2_with (first
    | (go_at_call 62; refine (PUT.out _ (Below.refl _ _)).mono ?_; rintro e w1 ⟨A', c', rfl, h2, hb⟩; have HC1 := Aside0.mk h2; have HB := Aside0.mk hb; obtain ⟨c0, c1, c2, fr⟩ := j_cells (HJ.out.below hb); clear h2 hb c1 c2 fr)
    | (go_at_call 59; refine ((H.out.next HB.out).roomCall).mono ?_; rintro e w2 ⟨rfl, n, rfl⟩))
  go_ret2
  exact ⟨A', c', rfl, Kd.R_below HC1.out (pw_below_drewN (Below.refl _ _) n), pw_below_drewN HB.out n⟩
set_option maxRecDepth 100000 in
theorem jframe_full (h : JAt N w gj g room l s) (hC : Kd.C (Kd.int .u8) w A p.length p) (hc : p.length ≤ c) (hp : OkP p) (hfit : room < (allF l).length + (p.length + 6)) :
    Calls Try.prog 100 #[.pointer (some ⟨gj, 0, none⟩), .slice A p.length c] w fun e w' => ∃ b : Value, e = .returned (.tuple #[b, .int .i64 4]) ∧ Below w.heap.size w w' := by
  have H := Aside0.mk h
  have PUT : Aside0 (∀ W, Below w.heap.size w W → Calls Try.prog 62 #[.slice none 0 0, .slice A p.length c] W fun e w' => ∃ (A' : Option Addr) (c' : Nat), e = .returned (.tuple #[.slice A' (frameOf p).length c', .int .i64 0]) ∧ (frameOf p).length ≤ c' ∧ Kd.C (Kd.int .u8) w' A' (frameOf p).length (frameOf p) ∧ Below W.heap.size W w') := Aside0.mk (fun W hW => by
    refine (put_frame none A 0 c [] p W (Kd.C_nil _ _) (Nat.le_refl _) (by simp) (Kd.C_below hC hW) hc (by have := hp.2.2; omega) hp.1).mono ?_
    rintro e w' ⟨A', c', r, x, he, hr, h1, h2, h3⟩
    rw [if_neg (by have := hp.2.1; omega), if_neg (by have := hp.2.2; omega)] at hr
    injection hr with e1 e2
    subst e1 e2
    exact ⟨A', c', he, h1, h2, h3⟩)
  have hfl := frameOf_len p
  have hp1 := hp.2.2
  have hsm := h.small
  have hle : (room : Int) - ((allF l).length : Int) < ((frameOf p).length : Int) := by omega
  have hle2 : (frameOf p).length ≤ 1006 := by omega
  obtain ⟨v, hj⟩ := h.cells
  have HJ := Aside0.mk hj
  clear h hC hp hfit hfl hp1 hsm hj
  generalize (frameOf p).length = fl at *
  go_enter Try.func100, Try.ntmps100
  go_wp2_with (first
    | (go_at_call 62; refine (PUT.out _ (Below.refl _ _)).mono ?_; rintro e w1 ⟨A', c', rfl, h1, h2, hb⟩; have HB := Aside0.mk hb; obtain ⟨c0, c1, c2, fr⟩ := j_cells (HJ.out.below hb); clear h2 hb c1 c2 fr)
    | (go_at_call 59; refine ((H.out.next HB.out).roomCall).mono ?_; rintro e w2 ⟨rfl, n, rfl⟩))
  go_ret2
  exact ⟨_, rfl, pw_below_drewN HB.out n⟩
/-- What Put says to a payload that may not be. -/
theorem put_no (x : Int) (hx : (p.length = 0 ∧ x = 1) ∨ (1000 < p.length ∧ x = 12)) (hl63 : p.length ≤ 9223372036854775807) (w : World) (v0 : Value) (hv0 : ∃ A n c, v0 = .slice A n c) :
    Calls Try.prog 62 #[v0, .slice A p.length c] w fun e w' => e = .returned (.tuple #[v0, .int .i64 x]) ∧ ∃ n, w' = w.drewN n := by
  obtain ⟨A0, n0, c0, rfl⟩ := hv0
  rcases hx with ⟨h0, rfl⟩ | ⟨h0, rfl⟩
  · rw [h0]
    go_enter Try.func62, Try.ntmps62
    go_wp2
    go_ret2
    exact ⟨rfl, 0, rfl⟩
  · have h1 : ((p.length : Int) == 0) = false := by simp; intro e; subst e; simp at h0
    have SZ : Aside0 (∀ W, Calls Try.prog 64 #[.int .i64 (p.length : Int)] W fun e w' => e = .returned (.int .i64 0) ∧ ∃ n, w' = W.drewN n) := Aside0.mk (fun W => by
      refine (size_any p.length W).mono ?_
      rintro e w' ⟨he, hd⟩
      rw [if_neg (by omega)] at he
      exact ⟨he, by obtain ⟨n, hn⟩ := hd; exact ⟨n, hn⟩⟩)
    generalize p.length = q at *
    go_enter Try.func62, Try.ntmps62
    go_wp2_with (go_at_call 64; refine (SZ.out _).mono ?_; rintro e w1 ⟨rfl, n, rfl⟩)
    go_ret2
    exact ⟨rfl, n, rfl⟩
set_option maxRecDepth 100000 in
theorem jframe_no (x : Int) (hx : (p.length = 0 ∧ x = 1) ∨ (1000 < p.length ∧ x = 12)) (hl63 : p.length ≤ 9223372036854775807) :
    Calls Try.prog 100 #[.pointer (some ⟨gj, 0, none⟩), .slice A p.length c] w fun e w' => e = .returned (.tuple #[.slice none 0 0, .int .i64 x]) ∧ ∃ n, w' = w.drewN n := by
  have PUT := Aside0.mk (fun W => put_no (A := A) (c := c) x hx hl63 W (.slice none 0 0) ⟨_, _, _, rfl⟩)
  have hx0 : ((x : Int) == 0) = false := by rcases hx with ⟨_, rfl⟩ | ⟨_, rfl⟩ <;> rfl
  clear hx
  generalize p.length = q at *
  go_enter Try.func100, Try.ntmps100
  go_wp2_with (go_at_call 62; refine (PUT.out _).mono ?_; rintro e w1 ⟨rfl, n, rfl⟩)
  go_ret2
  exact ⟨rfl, n, rfl⟩
/-- A row whose footprint is not the disk's, behind what the disk's method turned. -/
theorem row_moved {W W1 : World} {kd kd' ok : Nat → Prop} {v : Value} {xs : List (List Int)} {rm sf : Nat} {bs : List Int} (h : Kd.R KS 22 W N (fun k => ¬ kd k) v xs) (hd : DiskAt W g kd' rm sf bs) (hm : Moved W W1 (OfDisk g ok)) (hok : ∀ k, ok k → kd k ∨ W.heap.size ≤ k) : Kd.R KS 22 W1 N (fun k => ¬ kd k ∧ k < W.heap.size) v xs := by
  obtain ⟨⟨u, h1, _⟩, _⟩ := hd
  refine Kd.R_mono (Kd.R_kept (Kd.R_bound h) hm.kept (fun k hk hS => ?_)) (fun k hk => ⟨hk.1, hk.2.2.1⟩)
  obtain ⟨hn, hb, hlt, q, hq, cs, hc⟩ := hk
  rcases hS with rfl | hS
  · have h2 := hc.symm.trans h1
    injection h2 with h2
    injection h2 with _ h2 _
    exact KE_ne (t := 96) (by decide) q hq h2
  · rcases hok k hS with h3 | h3
    · exact hn h3
    · omega
set_option maxRecDepth 100000 in
set_option maxHeartbeats 2000000 in
theorem jappend_ok (h : JAt N w gj g room l s) (hC : Kd.C (Kd.int .u8) w A p.length p) (hc : p.length ≤ c) (hp : OkP p) (hfit : (allF l).length + (p.length + 6) ≤ room) (hN : N ≤ w.heap.size) :
    Calls Try.prog 75 #[.pointer (some ⟨gj, 0, none⟩), .slice A p.length c] w fun e w' => e = .returned (.int .i64 0) ∧ JAt N w' gj g room (l ++ [p]) s ∧ Moved w w' (JSet N gj g) := by
  have H := Aside0.mk h
  have HC := Aside0.mk hC
  have HP := Aside0.mk hp
  have hpl : p.length ≤ 1000 := hp.2.2
  have FR := Aside0.mk (jframe_ok h hC hc hp hfit)
  have HF := Aside0.mk hfit
  have hsm := h.small
  have hl1 : l.length ≤ 1000000 := by have := allF_len7 h.okl; omega
  have HLE := Aside0.mk hfit
  obtain ⟨⟨v, kd, hj, hd, hr, hk⟩, hsl, hok⟩ := h
  obtain ⟨AL, cL, rfl⟩ := Kd.R_slice hr
  have HJ := Aside0.mk hj
  have HD := Aside0.mk hd
  have HR := Aside0.mk hr
  have HK := Aside0.mk hk
  have HOK := Aside0.mk hok
  clear hC hp hfit hsm hj hd hr hk hok
  generalize hfl : (frameOf p).length = fl at *
  have HFL := Aside0.mk hfl
  clear hfl
  go_enter Try.func75, Try.ntmps75
  go_wp2_with (go_at_call 100; refine FR.out.mono ?_; rintro e w1 ⟨A', c', rfl, h2, hb⟩; have HC1 := Aside0.mk h2; have HB := Aside0.mk hb; clear h2 hb)
  have HJ1 := Aside0.mk (HJ.out.below HB.out)
  have HR1 := Aside0.mk (Kd.R_below HR.out HB.out)
  have HCP := Aside0.mk (Kd.C_below HC.out HB.out)
  refine start_ (n := 12) (S := fun w' => JCells w' gj (.pointer (some ⟨g, 0, none⟩)) (.slice AL l.length cL) (s : Int) ∧ w'.cell? ⟨gj, 1, none⟩ = some (.slice AL l.length cL)) (ds := [11]) #[false, false, false, false, false, false, false, false, false, false, false, false] (by kernel_rfl) rfl rfl ⟨HJ1.out, (j_cells HJ1.out).2.1⟩ (fun hHeld => ?_)
  refine pure_ (i := 0) (N := some 16) (v := ?_) (a' := ?_) #[true, false, false, false, false, false, false, false, false, false, false, false] rfl rfl (by kernel_rfl) (fun _ _ _ h => h) (Or.inl ⟨by rfl, ?_⟩) ?_ ?_
  rotate_left
  · intro w'
    go_simp
    with_reducible rfl
  rotate_left
  · simp only [Act.put, List.setIfInBounds_toArray, List.set_cons_zero, List.set_cons_succ, i64_w, i32_w]
    rfl
  refine pure_ (i := 1) (N := some 17) (v := ?_) (a' := ?_) #[true, true, false, false, false, false, false, false, false, false, false, false] rfl rfl (by kernel_rfl) (fun _ _ _ h => h) (Or.inl ⟨by rfl, ?_⟩) ?_ ?_
  rotate_left
  · intro w'
    go_simp
    with_reducible rfl
  rotate_left
  · simp only [Act.put, List.setIfInBounds_toArray, List.set_cons_zero, List.set_cons_succ, i64_w, i32_w]
    rfl
  refine pure_ (i := 2) (N := some 18) (v := ?_) (a' := ?_) #[true, true, true, false, false, false, false, false, false, false, false, false] rfl rfl (by kernel_rfl) (fun _ _ _ h => h) (Or.inl ⟨by rfl, ?_⟩) ?_ ?_
  rotate_left
  · intro w'
    go_simp
    with_reducible rfl
  rotate_left
  · simp only [Act.put, List.setIfInBounds_toArray, List.set_cons_zero, List.set_cons_succ, i64_w, i32_w]
    rfl
  refine pure_ (i := 3) (N := some 19) (v := ?_) (a' := ?_) #[true, true, true, true, false, false, false, false, false, false, false, false] rfl rfl (by kernel_rfl) (fun _ _ _ h => h) (Or.inl ⟨by rfl, ?_⟩) ?_ ?_
  rotate_left
  · intro w'
    go_simp
    with_reducible rfl
  rotate_left
  · simp only [Act.put, List.setIfInBounds_toArray, List.set_cons_zero, List.set_cons_succ, i64_w, i32_w]
    rfl
  refine pure_ (i := 5) (N := some 21) (v := ?_) (a' := ?_) #[true, true, true, true, false, true, false, false, false, false, false, false] rfl rfl (by kernel_rfl) (fun _ _ _ h => h) (Or.inl ⟨by rfl, ?_⟩) ?_ ?_
  rotate_left
  · intro w'
    go_simp
    with_reducible rfl
  rotate_left
  · simp only [Act.put, List.setIfInBounds_toArray, List.set_cons_zero, List.set_cons_succ, i64_w, i32_w]
    rfl
  refine take_ (i := 4) (N := some 20) (v := ?_) (a' := ?_) #[true, true, true, true, true, true, false, false, false, false, false, false] rfl rfl (by kernel_rfl) (fun _ _ _ h => h) (Or.inl ⟨by rfl, ?_⟩) hHeld ?_ ?_
  rotate_left
  · rintro w' ⟨s0, s1⟩
    go_simp
    with_reducible rfl
  rotate_left
  · simp only [Act.put, List.setIfInBounds_toArray, List.set_cons_zero, List.set_cons_succ, i64_w, i32_w]
    rfl
  refine one_ (i := 6) (N := some 22) #[true, true, true, true, true, true, true, false, false, false, false, false] rfl rfl (by kernel_rfl) (by decide) (fun K hK => ?_)
  refine goes_ Try.func96 (by kernel_rfl) rfl #[.slice A p.length c] (by rfl) rfl rfl (by simp only [List.map_toArray, List.map_cons, List.map_nil]; rfl) ?_
  with_reducible refine (clone_any A c p w1.drew (Kd.C_below HCP.out (below_drew (Below.refl _ _))) (by omega)).mono ?_
  rintro e w3 ⟨v3, rfl, hR3, hb3⟩
  refine ⟨_, rfl, ?_⟩
  obtain ⟨A3, c3, rfl⟩ := Kd.R_slice hR3
  have HR3 := Aside0.mk hR3
  have HB3 := Aside0.mk (below_step (below_drew (Below.refl _ w1)) hb3)
  have hj3 := hHeld.1.below hb3
  clear hR3 hb3
  refine hK.out _ _ ⟨hj3, (j_cells hj3).2.1⟩ (fun hHeld => ?_)
  clear hK K
  refine norm_ (a' := ?_) ?_ ?_
  rotate_left
  · show Act.put _ (some 22) _ = _
    simp only [Act.put, List.setIfInBounds_toArray, List.set_cons_zero, List.set_cons_succ, i64_w, i32_w]
    rfl
  refine one_ (i := 7) (N := some 23) #[true, true, true, true, true, true, true, true, false, false, false, false] rfl rfl (by kernel_rfl) (by decide) (fun K hK => ?_)
  refine value_ (w1 := ?_) (v := ?_) (by rfl) rfl ?_ ?_
  rotate_left 2
  · go_simp
    constructor
    · rfl
    · rfl
  have hj4 := hHeld.1.below (below_alloc (Below.refl _ _) (.cells #[.slice A3 p.length c3] 22))
  refine hK.out _ _ ⟨hj4, (j_cells hj4).2.1⟩ (fun hHeld => ?_)
  clear hK K
  refine norm_ (a' := ?_) ?_ ?_
  rotate_left
  · show Act.put _ (some 23) _ = _
    simp only [Act.put, List.setIfInBounds_toArray, List.set_cons_zero, List.set_cons_succ, i64_w, i32_w]
    rfl
  refine one_ (i := 8) (N := some 24) #[true, true, true, true, true, true, true, true, true, false, false, false] rfl rfl (by kernel_rfl) (by decide) (fun K hK => ?_)
  have hs1 := HB.out.size
  have hs3 := HB3.out.size
  refine Kd.R_append_step KS (w0 := w3) (W := w3) N (by rfl) (.tmp 20) (.tmp 23) 65 22 (.slice none 0 0) 24 (by rfl) Try.underlying65 info22' rfl (by decide) (by omega) (.slice AL l.length cL) l p [.slice A3 p.length c3] (fun k => ¬ kd k) (fun k => w1.heap.size ≤ k) (by rfl) (by rfl) ?aP ?aK ?aF (Kd.R_below HR1.out HB3.out) (Below.refl _ _) (by omega) (by omega) ?_
  case aP => exact ⟨_, rfl, Kd.R_lower (Kd.R_mono (Kd.R_bound HR3.out) (fun k hk => hk.2.1)) (by show N ≤ w1.drew.heap.size; exact Nat.le_trans hN hs1)⟩
  case aK => exact fun k hk => ⟨fun hkd => by have := (HK.out k hkd).2.1; omega, fun e => by have := Kd.R_lt HR1.out k e.symm; omega⟩
  case aF => exact fun k hk hkd => by have := (HK.out k hkd).2.1; omega
  intro v4 w4 hr4 hb4 hg4 hat4
  obtain ⟨A4, c4, rfl⟩ := Kd.R_slice hr4
  have hj5 : JCells w4 gj (.pointer (some ⟨g, 0, none⟩)) (.slice AL l.length cL) (s : Int) := (hg4.block gj (blk_lt (HJ1.out.below HB3.out)) (fun e => by obtain ⟨cs, hcs⟩ := Kd.R_typed (Kd.R_below HR1.out HB3.out) gj e.symm; exact blk_ne hcs (HJ1.out.below HB3.out) (by decide) rfl)).trans (HJ1.out.below HB3.out)
  have HR4 := Aside0.mk hr4
  have HG4 := Aside0.mk hg4
  have HB4 := Aside0.mk hb4
  have q0 := (j_cells hj5).2.2.2 1
  clear hr4 hb4 hg4 hat4
  refine hK.out _ _ ⟨hj5, (j_cells hj5).2.1⟩ (fun hHeld => ?_)
  clear hK K
  refine norm_ (a' := ?_) ?_ ?_
  rotate_left
  · show Act.put _ (some 24) _ = _
    simp only [Act.put, List.setIfInBounds_toArray, List.set_cons_zero, List.set_cons_succ, i64_w, i32_w]
    rfl
  refine pure_ (i := 9) (N := some 25) (v := ?_) (a' := ?_) #[true, true, true, true, true, true, true, true, true, true, false, false] rfl rfl (by kernel_rfl) (fun _ _ _ h => h) (Or.inl ⟨by rfl, ?_⟩) ?_ ?_
  rotate_left
  · intro w'
    go_simp
    with_reducible rfl
  rotate_left
  · simp only [Act.put, List.setIfInBounds_toArray, List.set_cons_zero, List.set_cons_succ, i64_w, i32_w]
    rfl
  refine pure_ (i := 10) (N := some 26) (v := ?_) (a' := ?_) #[true, true, true, true, true, true, true, true, true, true, true, false] rfl rfl (by kernel_rfl) (fun _ _ _ h => h) (Or.inl ⟨by rfl, ?_⟩) ?_ ?_
  rotate_left
  · intro w'
    go_simp
    with_reducible rfl
  rotate_left
  · simp only [Act.put, List.setIfInBounds_toArray, List.set_cons_zero, List.set_cons_succ, i64_w, i32_w]
    rfl
  refine last_ (i := 11) (N := none) #[true, true, true, true, true, true, true, true, true, true, true, true] rfl rfl (by kernel_rfl) (by decide) (fun K hK => ?_)
  refine skip_ (w1 := ?_) (by rfl) rfl ?_ ?_
  rotate_left
  · go_simp
    rfl
  refine hK.out _ _ ?_
  clear hK K
  refine done_ (by kernel_rfl) ?_
  have hR3 := Kd.R_below HR1.out HB3.out
  have hgj : gj < w3.heap.size := blk_lt (HJ1.out.below HB3.out)
  have hown : ∀ k, (Value.slice AL l.length cL).ownBlock = some k → k < w.heap.size ∧ ¬ kd k := fun k hk => ⟨Kd.R_lt HR.out k hk, HR.out.1 k hk⟩
  have HJ5 := Aside0.mk hj5
  have HJ6 := Aside0.mk (hj5.put (v1 := .slice A4 (l.length + 1) c4))
  have hd3 := (HD.out.below HB.out).below HB3.out
  have hd4 : DiskAt w4 g kd room (allF (l.take s)).length (allF l) := hd3.step (HG4.out.block g hd3.lt (fun e => by obtain ⟨cs, hcs⟩ := Kd.R_typed hR3 g e.symm; obtain ⟨⟨u, h1, _⟩, _⟩ := hd3; exact blk_ne hcs h1 (by decide) rfl)) (fun k hk hlt => HG4.out.block k hlt (fun e => (hown k e.symm).2 hk))
  have HD5 := Aside0.mk ((hd4.set hj5 1 (.slice A4 (l.length + 1) c4)).mono (fun k hk => (.inl hk : kd k ∨ (w4.setCell ⟨gj, 1, none⟩ (.slice A4 (l.length + 1) c4)).heap.size ≤ k)))
  rw [List.length_append, List.length_singleton] at HR4
  have HR5 := Aside0.mk (Kd.R_set HR4.out hj5 (KE_ne (by decide)) 1 (.slice A4 (l.length + 1) c4))
  have hf3 := Kd.R_below HC1.out HB3.out
  have hf4 : Kd.R (Kd.int .u8) 5 w4 w.heap.size (fun _ => True) (.slice A' fl c') (frameOf p) := Kd.R_mono (Kd.R_step (Kd.R_bound hf3) (fun k hk hlt => HG4.out.block k hlt (fun e => by have := (hown k e.symm).1; have := hk.2.1; omega))) (fun _ _ => trivial)
  have hf5 := Kd.R_set hf4 hj5 (by simp [Kd.int, Kd.scalar]) 1 (.slice A4 (l.length + 1) c4)
  have HMV := Aside0.mk (show Moved w (w4.setCell ⟨gj, 1, none⟩ (.slice A4 (l.length + 1) c4)) (JSet N gj g) from (((Moved.of_below (below_step HB.out HB3.out) (JSet N gj g)).grown HG4.out (fun k hk => .inl (.inr (.inr (Kd.R_base HR.out k hk))))).setCell (.inl (.inl rfl)) _))
  have hsz5 : w.heap.size ≤ (w4.setCell ⟨gj, 1, none⟩ (.slice A4 (l.length + 1) c4)).heap.size := HMV.out.size
  generalize w4.setCell ⟨gj, 1, none⟩ (.slice A4 (l.length + 1) c4) = w5 at *
  obtain ⟨c0, c1, c2, fr⟩ := j_cells HJ6.out
  have WR : Aside0 (Calls Try.prog 38 #[.pointer (some ⟨g, 0, none⟩), .slice A' fl c'] w5 fun e w' => e = .returned (.int .i64 0) ∧ DiskAt w' g (fun k => kd k ∨ w5.heap.size ≤ k) room (allF (l.take s)).length (allF l ++ frameOf p) ∧ Moved w5 w' (OfDisk g (fun k => kd k ∨ w5.heap.size ≤ k))) := Aside0.mk (by
    have hC5 := (Kd.R_reads' hf5).2.2
    rw [← HFL.out]
    exact write_ok HD5.out (fun k hk => .inr hk) A' c' (frameOf p) hC5 (frameOf_ok HP.out.1) (by rw [frameOf_len]; exact HF.out))
  clear hR3 hgj hown hd3 hd4 hf3 hf4 hf5 hj5 HJ5 HG4 HB4 HB3 HR3 HC1 HB HJ1 HR1 HCP FR H c1 c2 fr
  go_wp2_with (go_at_call 38; refine WR.out.mono ?_; rintro e w6 ⟨rfl, hd, hm⟩; have HD6 := Aside0.mk hd; have HM6 := Aside0.mk hm; clear hd hm)
  go_ret
  have hlt5 := blk_lt HJ6.out
  have hsub : ∀ k, OfDisk g (fun k => kd k ∨ w5.heap.size ≤ k) k → JSet N gj g k := fun k hk => by
    rcases hk with rfl | hk | hk
    · exact .inr (.inl rfl)
    · exact .inr (.inr (HK.out k hk).1)
    · exact .inr (.inr (by omega))
  refine ⟨rfl, ⟨⟨.slice A4 (l.length + 1) c4, fun k => (kd k ∨ w5.heap.size ≤ k) ∧ k < w6.heap.size, HJ6.out.moved HM6.out (fun hk => ?_), ?_, ?_, fun k hk => ⟨?_, hk.2, ?_⟩⟩, by rw [List.length_append]; omega, ?_⟩, HMV.out.trans HM6.out (fun k hk => .inl (hsub k hk))⟩
  · rcases hk with e | hk | hk
    · obtain ⟨⟨u, h1, _⟩, _⟩ := HD5.out
      subst e
      exact blk_ne h1 HJ6.out (by decide) rfl
    · exact (HK.out _ hk).2.2 rfl
    · omega
  · have h := HD6.out.bound
    rw [List.take_append_of_le_length hsl, allF_append, allF_cons, allF_nil, List.append_nil]
    exact h
  · refine Kd.R_mono (row_moved HR5.out HD5.out HM6.out (fun k hk => hk)) (fun k hk hk2 => ?_)
    rcases hk2.1 with h | h
    · exact hk.1 h
    · have := hk.2; omega
  · rcases hk.1 with h | h
    · exact (HK.out k h).1
    · omega
  · rcases hk.1 with h | h
    · exact (HK.out k h).2.2
    · omega
  · intro q hq
    rcases List.mem_append.1 hq with h | h
    · exact HOK.out q h
    · rw [List.mem_singleton.1 h]; exact HP.out
set_option maxRecDepth 100000 in
theorem jappend_full (h : JAt N w gj g room l s) (hC : Kd.C (Kd.int .u8) w A p.length p) (hc : p.length ≤ c) (hp : OkP p) (hfit : room < (allF l).length + (p.length + 6)) :
    Calls Try.prog 75 #[.pointer (some ⟨gj, 0, none⟩), .slice A p.length c] w fun e w' => e = .returned (.int .i64 4) ∧ Below w.heap.size w w' := by
  have FR := Aside0.mk (jframe_full h hC hc hp hfit)
  clear h hC hp hfit
  go_enter Try.func75, Try.ntmps75
  go_wp2_with (go_at_call 100; refine FR.out.mono ?_; rintro e w1 ⟨b, rfl, hb⟩; have HB := Aside0.mk hb; clear hb)
  go_ret
  exact ⟨rfl, HB.out⟩
set_option maxRecDepth 100000 in
theorem jappend_no (x : Int) (hx : (p.length = 0 ∧ x = 1) ∨ (1000 < p.length ∧ x = 12)) (hl63 : p.length ≤ 9223372036854775807) :
    Calls Try.prog 75 #[.pointer (some ⟨gj, 0, none⟩), .slice A p.length c] w fun e w' => e = .returned (.int .i64 x) ∧ ∃ n, w' = w.drewN n := by
  have FR := Aside0.mk (jframe_no (gj := gj) (w := w) (A := A) (c := c) x hx hl63)
  have hx0 : ((x : Int) == 0) = false := by rcases hx with ⟨_, rfl⟩ | ⟨_, rfl⟩ <;> rfl
  have hx1 : ((x : Int) != 0) = true := by rcases hx with ⟨_, rfl⟩ | ⟨_, rfl⟩ <;> rfl
  clear hx
  generalize p.length = q at *
  go_enter Try.func75, Try.ntmps75
  go_wp2_with (go_at_call 100; refine FR.out.mono ?_; rintro e w1 ⟨rfl, n, rfl⟩)
  go_ret
  exact ⟨rfl, n, rfl⟩
theorem jtorn_no (x : Int) (keep : Int) (hx : (p.length = 0 ∧ x = 1) ∨ (1000 < p.length ∧ x = 12)) (hl63 : p.length ≤ 9223372036854775807) :
    Calls Try.prog 83 #[.pointer (some ⟨gj, 0, none⟩), .slice A p.length c, .int .i64 keep] w fun e w' => e = .returned (.int .i64 x) ∧ ∃ n, w' = w.drewN n := by
  have FR := Aside0.mk (jframe_no (gj := gj) (w := w) (A := A) (c := c) x hx hl63)
  have hx0 : ((x : Int) == 0) = false := by rcases hx with ⟨_, rfl⟩ | ⟨_, rfl⟩ <;> rfl
  have hx1 : ((x : Int) != 0) = true := by rcases hx with ⟨_, rfl⟩ | ⟨_, rfl⟩ <;> rfl
  clear hx
  generalize p.length = q at *
  go_enter Try.func83, Try.ntmps83
  go_wp2_with (go_at_call 100; refine FR.out.mono ?_; rintro e w1 ⟨rfl, n, rfl⟩)
  go_ret
  exact ⟨rfl, n, rfl⟩
theorem jtorn_full (keep : Int) (h : JAt N w gj g room l s) (hC : Kd.C (Kd.int .u8) w A p.length p) (hc : p.length ≤ c) (hp : OkP p) (hfit : room < (allF l).length + (p.length + 6)) :
    Calls Try.prog 83 #[.pointer (some ⟨gj, 0, none⟩), .slice A p.length c, .int .i64 keep] w fun e w' => e = .returned (.int .i64 4) ∧ Below w.heap.size w w' := by
  have FR := Aside0.mk (jframe_full h hC hc hp hfit)
  clear h hC hp hfit
  go_enter Try.func83, Try.ntmps83
  go_wp2_with (go_at_call 100; refine FR.out.mono ?_; rintro e w1 ⟨b, rfl, hb⟩; have HB := Aside0.mk hb; clear hb)
  go_ret
  exact ⟨rfl, HB.out⟩
/-- A disk's blocks, when all that is new is let in. -/
theorem dset_sub {kd : Nat → Prop} {W : World} (hk : ∀ k, kd k → N ≤ k) (hN : N ≤ W.heap.size) : ∀ k, OfDisk g kd k → JSet N gj g k := fun k h => by
  rcases h with rfl | h
  · exact .inr (.inl rfl)
  · exact .inr (.inr (hk k h))
theorem gj_off {W : World} {kd : Nat → Prop} {d v : Value} {sf : Int} {rm sg : Nat} {bs : List Int} (hj : JCells W gj d v sf) (hd : DiskAt W g kd rm sg bs) (hk : ∀ k, kd k → k ≠ gj) : ¬ OfDisk g kd gj := fun h => by
  rcases h with e | h
  · obtain ⟨⟨u, h1, _⟩, _⟩ := hd
    subst e
    exact blk_ne h1 hj (by decide) rfl
  · exact hk _ h rfl
set_option maxRecDepth 100000 in
theorem jsync_any (h : JAt N w gj g room l s) (hN : N ≤ w.heap.size) : Calls Try.prog 76 #[.pointer (some ⟨gj, 0, none⟩)] w fun e w' => e = .returned (.int .i64 ((l.length : Int) - (s : Int))) ∧ JAt N w' gj g room l l.length ∧ Moved w w' (JSet N gj g) := by
  have hsm := h.small
  obtain ⟨⟨v, kd, hj, hd, hr, hk⟩, hsl, hok⟩ := h
  obtain ⟨AL, cL, rfl⟩ := Kd.R_slice hr
  obtain ⟨c0, c1, c2, fr⟩ := j_cells hj
  have hlm := hsm.2.2.1
  have e1 : IntKind.i64.wrap ((l.length : Int) - (s : Int)) = (l.length : Int) - (s : Int) := IntWalk.i64_in _ (by omega)
  have HJ := Aside0.mk hj
  have HD := Aside0.mk hd
  have HR := Aside0.mk hr
  have HK := Aside0.mk hk
  have HOK := Aside0.mk hok
  clear hsm hj hd hr hk hok fr
  go_enter Try.func76, Try.ntmps76
  go_wp2
  go_quiet (fail)
  go_wp2_with (go_at_call 39; refine (sync_any (HD.out.drewN nq)).mono ?_; rintro e w2 ⟨rfl, hd, hm⟩; have HD2 := Aside0.mk hd; have HM2 := Aside0.mk (((Moved.refl w (OfDisk g kd)).drewN nq).trans hm (fun _ h => .inl h)); have hj2 := HJ.out.moved HM2.out (gj_off HJ.out HD.out (fun k h => (HK.out k h).2.2)); have HJ2 := Aside0.mk hj2; obtain ⟨p0, p1, p2, pf⟩ := j_cells hj2; clear hd hm hj2)
  go_ret
  refine ⟨rfl, ⟨⟨.slice AL l.length cL, kd, HJ2.out.puts, ?_, ?_, fun k hk => ?_⟩, Nat.le_refl _, HOK.out⟩, ((HM2.out.mono (dset_sub (fun k h => (HK.out k h).1) hN)).setCell (.inl (.inl rfl)) _)⟩
  · rw [List.take_length]
    exact HD2.out.set HJ2.out 2 _
  · exact Kd.R_set (Kd.R_mono (row_moved HR.out HD.out HM2.out (fun k hk => .inl hk)) (fun k hk => hk.1)) HJ2.out (KE_ne (by decide)) 2 _
  · have h := HK.out k hk
    have h2 := HM2.out.size
    exact ⟨h.1, by show k < (w2.heap.modify _ _).size; rw [Array.size_modify]; omega, h.2.2⟩
/-- A journal, opened. -/
theorem jopen_at {kd : Nat → Prop} {v0 : Value} {s0 : Int} {dsafe : Nat} {bs : List Int} (hj : JCells w gj (.pointer (some ⟨g, 0, none⟩)) v0 s0) (hd : DiskAt w g kd room dsafe bs) (hkd : ∀ k, kd k → N ≤ k ∧ k < w.heap.size ∧ k ≠ gj) (hN : N ≤ w.heap.size)
    {ps : List (List Int)} {n : Nat} {x : Int} (hs : frame_Scan.f bs = some (ps, (n : Int), x)) (hn : n ≤ bs.length) (ht : bs.take n = allF ps) (hok : ∀ p ∈ ps, OkP p) :
    Calls Try.prog 99 #[.pointer (some ⟨gj, 0, none⟩)] w fun e w' => e = .returned (.int .i64 ((bs.length : Int) - (n : Int))) ∧ JAt N w' gj g room ps ps.length ∧ Moved w w' (JSet N gj g) := by
  refine (open_any hj hd (fun k hk => (hkd k hk).2) hs hn).mono ?_
  rintro e w' ⟨he, v, h1, h2, h3, h4⟩
  have hnl : n = (allF ps).length := by rw [← ht, List.length_take]; omega
  refine ⟨he, ⟨⟨v, kd, h1, ?_, ?_, fun k hk => ⟨(hkd k hk).1, by have := (hkd k hk).2.1; have := h4.size; omega, (hkd k hk).2.2⟩⟩, Nat.le_refl _, hok⟩, h4.mono (fun k hk => ?_)⟩
  · rw [List.take_length, ← hnl, ← ht]
    exact h2
  · exact Kd.R_lower (Kd.R_mono (Kd.R_bound h3) (fun k hk hkk => by have := (hkd k hkk).2.1; have := hk.2.1; omega)) hN
  · rcases hk with rfl | rfl | hk
    · exact .inl rfl
    · exact .inr (.inl rfl)
    · exact .inr (.inr (hkd k hk).1)
/-- How many bytes a crash leaves. -/
def leftOf (l : List (List Int)) (s : Nat) (keep : Int) : Nat := (allF (l.take s)).length + keepOf keep ((allF l).length - (allF (l.take s)).length)
theorem leftOf_le (l : List (List Int)) (s : Nat) (keep : Int) : leftOf l s keep ≤ (allF l).length ∧ (allF (l.take s)).length ≤ leftOf l s keep := by
  have h1 := keepOf_le keep ((allF l).length - (allF (l.take s)).length)
  have h2 := allF_take_le l s
  unfold leftOf
  omega
set_option maxRecDepth 100000 in
theorem jcrash_any (keep : Int) (h : JAt N w gj g room l s) (hN : N ≤ w.heap.size) (h9 : (allF l).length ≤ 900000) : Calls Try.prog 79 #[.pointer (some ⟨gj, 0, none⟩), .int .i64 keep] w fun e w' =>
    e = .returned (.int .i64 ((l.length : Int) - (fit l (leftOf l s keep) : Int))) ∧ JAt N w' gj g room (l.take (fit l (leftOf l s keep))) (fit l (leftOf l s keep)) ∧ Moved w w' (JSet N gj g) := by
  have hsm := h.small
  have hlm := hsm.2.2.1
  have hq := leftOf_le l s keep
  obtain ⟨⟨v, kd, hj, hd, hr, hk⟩, hsl, hok⟩ := h
  obtain ⟨AL, cL, rfl⟩ := Kd.R_slice hr
  obtain ⟨c0, c1, c2, fr⟩ := j_cells hj
  have HCR := Aside0.mk (crash_any keep hd)
  have HJ := Aside0.mk hj
  have HD := Aside0.mk hd
  have HR := Aside0.mk hr
  have HK := Aside0.mk hk
  have HOK := Aside0.mk hok
  obtain ⟨q, hqq⟩ : ∃ q, leftOf l s keep = q := ⟨_, rfl⟩
  have hq2 : (allF (l.take s)).length + keepOf keep ((allF l).length - (allF (l.take s)).length) = q := hqq
  rw [hqq] at hq
  rw [hqq]
  rw [hq2] at HCR
  obtain ⟨x, hscan⟩ := scan_fit hok h9 q
  have hfl := fit_le l q
  have hfq := fit_len l q
  have htk := take_fit l q
  have hml : (l.take (fit l q)).length = fit l q := by rw [List.length_take]; omega
  generalize fit l q = m at *
  have HSC := Aside0.mk hscan
  have HTK := Aside0.mk htk
  have HQ := Aside0.mk hq
  have HFQ := Aside0.mk hfq
  have HML := Aside0.mk hml
  clear hj hd hr hk hok hq2 hqq hscan htk hq hfq hsm hml fr
  go_enter Try.func79, Try.ntmps79
  go_wp2_with (first
    | (go_at_call 40; refine HCR.out.mono ?_; rintro e w2 ⟨rfl, hd, hm⟩; have HD2 := Aside0.mk hd; have HM2 := Aside0.mk (show Moved w w2 (JSet N gj g) from hm.mono (dset_sub (fun k h => (HK.out k h).1) hN)); have HJ2 := Aside0.mk (HJ.out.moved hm (gj_off HJ.out HD.out (fun k h => (HK.out k h).2.2))); have hs2 := hm.size; clear hd hm)
    | (go_at_call 99; refine (jopen_at (N := N) HJ2.out HD2.out (fun k h => ⟨(HK.out k h).1, by have := (HK.out k h).2.1; omega, (HK.out k h).2.2⟩) (by omega) HSC.out (by rw [List.length_take]; have := HQ.out.1; have := HFQ.out; omega) HTK.out (fun p hp => HOK.out p (List.mem_of_mem_take hp))).mono ?_; rintro e w3 ⟨rfl, hj3, hm3⟩; have HJ3 := Aside0.mk hj3; have HM3 := Aside0.mk hm3; obtain ⟨⟨v3, kd3, hc3, _, hr3, _⟩, _⟩ := hj3; obtain ⟨A3, k3, rfl⟩ := Kd.R_slice hr3; rw [HML.out] at hc3; obtain ⟨p0, p1, p2, pf⟩ := j_cells hc3; clear hm3 hc3 hr3))
  go_ret
  exact ⟨rfl, by have h := HJ3.out; rw [HML.out] at h; exact h, HM2.out.trans HM3.out (fun k hk => .inl hk)⟩
theorem torn_bytes (l : List (List Int)) (p : List Int) (K : Nat) : allF l ++ (frameOf p).take K = (allF (l ++ [p])).take ((allF l).length + K) := by
  rw [allF_append, allF_cons, allF_nil, List.append_nil, List.take_append, List.take_of_length_le (l := allF l) (by omega), Nat.add_sub_cancel_left]
theorem allF_snoc_len (l : List (List Int)) (p : List Int) : (allF (l ++ [p])).length = (allF l).length + (p.length + 6) := by
  rw [allF_append, allF_cons, allF_nil, List.append_nil, List.length_append, frameOf_len]
set_option maxRecDepth 100000 in
set_option maxHeartbeats 1000000 in
theorem jtorn_ok (keep : Int) (h : JAt N w gj g room l s) (hC : Kd.C (Kd.int .u8) w A p.length p) (hc : p.length ≤ c) (hp : OkP p) (hfit : (allF l).length + (p.length + 6) ≤ room) (hN : N ≤ w.heap.size) (h9 : (allF l).length ≤ 890000) {K m : Nat} (hK : keepOf keep (p.length + 6) = K) (hm : fit (l ++ [p]) ((allF l).length + K) = m) :
    Calls Try.prog 83 #[.pointer (some ⟨gj, 0, none⟩), .slice A p.length c, .int .i64 keep] w fun e w' => e = .returned (.int .i64 13) ∧ JAt N w' gj g room ((l ++ [p]).take m) m ∧ Moved w w' (JSet N gj g) := by
  have FR := Aside0.mk (jframe_ok h hC hc hp hfit)
  have HP := Aside0.mk hp
  obtain ⟨⟨v, kd, hj, hd, hr, hk⟩, hsl, hok⟩ := h
  have hkl := keepOf_le keep (p.length + 6)
  have hmn := keep_min keep (p.length + 6)
  rw [hK] at hkl hmn
  have hfl := frameOf_len p
  have hp1 := hp.2.2
  have hokp : ∀ q ∈ l ++ [p], OkP q := fun q hq => by
    rcases List.mem_append.1 hq with h | h
    · exact hok q h
    · rw [List.mem_singleton.1 h]; exact hp
  have hlen := allF_snoc_len l p
  obtain ⟨x, hscan⟩ := scan_fit hokp (by omega) ((allF l).length + K)
  have htk := take_fit (l ++ [p]) ((allF l).length + K)
  have hfq := fit_len (l ++ [p]) ((allF l).length + K)
  have hfm := fit_le (l ++ [p]) ((allF l).length + K)
  rw [hm] at hscan htk hfq hfm
  have hml : ((l ++ [p]).take m).length = m := by rw [List.length_take]; omega
  rw [← torn_bytes] at hscan htk
  rw [← hfl] at hkl hmn
  obtain ⟨M, hM⟩ : ∃ M : Int, (if keep < 0 then 0 else keep) = M := ⟨_, rfl⟩
  rw [hM] at hmn
  have hKc : (((frameOf p).take K).length : Nat) = K := by rw [List.length_take]; omega
  have HKC := Aside0.mk hKc
  have HJ := Aside0.mk hj
  have HD := Aside0.mk hd
  have HKD := Aside0.mk hk
  have HSC := Aside0.mk hscan
  have HTK := Aside0.mk htk
  have HFQ := Aside0.mk hfq
  have HML := Aside0.mk hml
  have HOKP := Aside0.mk hokp
  have HFIT := Aside0.mk hfit
  have HFL := Aside0.mk hfl
  have hf2 : (frameOf p).length ≤ 1006 := by omega
  clear hC hp hfit hj hd hr hk hok hfl hp1 hokp hlen hscan htk hfq hfm hml hK hm hsl hKc
  generalize hfl : (frameOf p).length = fl at *
  have HFLL := Aside0.mk hfl
  have hK0 : (0 : Int) ≤ (K : Int) := by omega
  have hK1 : (K : Int) ≤ (fl : Int) := by omega
  clear hfl
  go_enter Try.func83, Try.ntmps83
  go_wp2_with fail
  refine FR.out.mono ?_
  rintro e w1 ⟨A', c', rfl, h2, hb⟩
  have HC1 := Aside0.mk h2
  have HB := Aside0.mk hb
  have hcc : fl ≤ c' := (Kd.R_reads' h2).2.1
  have hcc1 : (K : Int) ≤ (c' : Int) := by omega
  obtain ⟨c0, c1, c2, fr⟩ := j_cells (HJ.out.below hb)
  clear h2 hb c1 c2 fr
  go_wp2_with fail
  go_still_tail 11, (by kernel_rfl)
  change wpList _ _ _ _ _ w1.drew
  have hs1 := HB.out.size
  have hlj := blk_lt (HJ.out.below HB.out)
  have HOKK := Aside0.mk (show ∀ k, (kd k ∨ w1.heap.size ≤ k) → N ≤ k ∧ k ≠ gj from fun k hk => by
    rcases hk with h | h
    · exact ⟨(HKD.out k h).1, (HKD.out k h).2.2⟩
    · exact ⟨by omega, by omega⟩)
  have HJ1 := Aside0.mk (show JCells w1.drew gj (.pointer (some ⟨g, 0, none⟩)) v (s : Int) from (HJ.out.below HB.out).below (below_drew (Below.refl _ _)))
  have HD1 := Aside0.mk (((HD.out.below HB.out).drew).mono (fun k hk => (.inl hk : kd k ∨ w1.heap.size ≤ k)))
  have WR : Aside0 (Calls Try.prog 38 #[.pointer (some ⟨g, 0, none⟩), .slice A' K c'] w1.drew fun e w' => e = .returned (.int .i64 0) ∧ DiskAt w' g (fun k => kd k ∨ w1.heap.size ≤ k) room (allF (l.take s)).length (allF l ++ (frameOf p).take K) ∧ Moved w1.drew w' (OfDisk g (fun k => kd k ∨ w1.heap.size ≤ k))) := Aside0.mk (by
    have h1 := Kd.R_take (Kd.R_below HC1.out (below_drew (Below.refl _ _))) (m := K) (by rw [HFLL.out]; omega)
    have h2 := (Kd.R_reads' h1).2.2
    have h3 := write_ok HD1.out (fun k hk => .inr hk) A' c' ((frameOf p).take K) h2 (okB_take2 (frameOf_ok HP.out.1) K) (by rw [HKC.out]; have h4 := HFIT.out; have h5 := HFL.out; have h6 := HFLL.out; omega)
    rw [HKC.out] at h3
    exact h3)
  have HMV := Aside0.mk (show Moved w w1.drew (JSet N gj g) from (Moved.of_below HB.out (JSet N gj g)).drew)
  have HDS := Aside0.mk (show ∀ k, OfDisk g (fun k => kd k ∨ w1.heap.size ≤ k) k → JSet N gj g k from dset_sub (fun k h => (HOKK.out k h).1) (W := w) hN)
  generalize w1.drew = w2 at *
  clear HC1 HB FR hcc hcc1 c0
  go_wp2_with (first
    | (go_at_call 38; refine WR.out.mono ?_; rintro e w3 ⟨rfl, hd, hm⟩; have HD3 := Aside0.mk hd; have HJ3 := Aside0.mk (HJ1.out.moved hm (gj_off HJ1.out HD1.out (fun k h => (HOKK.out k h).2))); have HM3 := Aside0.mk (hm.mono HDS.out); obtain ⟨p0, p1, p2, pf⟩ := j_cells HJ3.out; clear hd hm)
    | (go_at_call 39; refine (sync_any HD3.out).mono ?_; rintro e w4 ⟨rfl, hd, hm⟩; have HD4 := Aside0.mk hd; have HJ4 := Aside0.mk (HJ3.out.moved hm (gj_off HJ3.out HD3.out (fun k h => (HOKK.out k h).2))); have HM4 := Aside0.mk (hm.mono HDS.out); clear hd hm)
    | (go_at_call 99; refine (jopen_at (N := N) HJ4.out HD4.out.bound (fun k h => ⟨(HOKK.out k h.1).1, h.2, (HOKK.out k h.1).2⟩) ?hN HSC.out ?hn HTK.out (fun q hq => HOKP.out q (List.mem_of_mem_take hq))).mono ?_; (case hN => have h1 := HM3.out.size; have h2 := HM4.out.size; have h3 := HMV.out.size; omega); (case hn => have h1 := HFQ.out; have h2 := HKC.out; rw [List.length_append]; omega); rintro e w5 ⟨rfl, hj5, hm5⟩; have HJ5 := Aside0.mk hj5; have HM5 := Aside0.mk hm5; clear hj5 hm5))
  go_ret
  refine ⟨rfl, ?_, ((HMV.out.trans HM3.out (fun k hk => .inl hk)).trans HM4.out (fun k hk => .inl hk)).trans HM5.out (fun k hk => .inl hk)⟩
  have h := HJ5.out
  rw [HML.out] at h
  exact h
/-- What Swap has put together, between two rounds. -/
structure Made (w wr : World) (A5 : Option Addr) (c5 : Nat) (bs : List Int) : Prop where
  row : Kd.C (Kd.int .u8) wr A5 bs.length bs
  cap : bs.length ≤ c5
  below : Below w.heap.size w wr
theorem row_in {W : World} {A : Option Addr} {L : List (List Int)} (h : Kd.C KS W A L.length L) {n : Nat} (hn : n < L.length) : ∃ ad Ai ci, A = some ad ∧ W.cell? (ad.add n) = some (.slice Ai (L[n]'hn).length ci) ∧ (L[n]'hn).length ≤ ci ∧ Kd.C (Kd.int .u8) W Ai (L[n]'hn).length (L[n]'hn) := row_at h hn
theorem allF_take_succ {L : List (List Int)} {n : Nat} (hn : n < L.length) : allF (L.take (n + 1)) = allF (L.take n) ++ frameOf (L[n]'hn) := by
  rw [List.take_succ_eq_append_getElem hn, allF_append, allF_cons, allF_nil, List.append_nil]
variable {L : List (List Int)}
set_option maxRecDepth 100000 in
set_option maxHeartbeats 2000000 in
theorem jswap_ok (h : JAt N w gj g room l s) (hL : Kd.C KS w A L.length L) (hc : L.length ≤ c) (hok : ∀ q ∈ L, OkP q) (hfit : (allF L).length ≤ room) (hN : N ≤ w.heap.size) (h9 : (allF L).length ≤ 900000) :
    Calls Try.prog 85 #[.pointer (some ⟨gj, 0, none⟩), .slice A L.length c] w fun e w' => e = .returned (.int .i64 0) ∧ JAt N w' gj g room L L.length ∧ Moved w w' (JSet N gj g) := by
  obtain ⟨⟨v, kd, hj, hd, hr, hk⟩, hsl, _⟩ := h
  have hl63 := hL.2.1
  have HL := Aside0.mk hL
  have HJ := Aside0.mk hj
  have HD := Aside0.mk hd
  have HK := Aside0.mk hk
  have HOK := Aside0.mk hok
  have HF := Aside0.mk hfit
  have H9 := Aside0.mk h9
  have HM0 := Lib.hid (show Made w w none 0 (allF (L.take 0)) from ⟨Kd.C_nil _ _, Nat.le_refl _, Below.refl _ _⟩)
  clear hL hj hd hr hk hok hfit h9
  go_enter Try.func85, Try.ntmps85
  go_wp2
  go_loopw [5, 15] (fun a i wr => ∃ (n : Nat) (A5 : Option Addr) (c5 : Nat), n ≤ L.length ∧ i = .int .i64 (n : Int) ∧ a = .slice A5 (allF (L.take n)).length c5 ∧ Hid (Made w wr A5 c5 (allF (L.take n)))) (fun _ i _ => L.length - (intOf i).toNat)
  case atStart => exact ⟨0, none, 0, by omega, rfl, rfl, HM0⟩
  case round =>
    obtain ⟨n, A5, c5, hn, rfl, rfl, HC⟩ := hrel
    clear HM0
    by_cases hlt : n < L.length
    · obtain ⟨ad, Ai, ci, rfl, hcell, hci, hCi⟩ := row_in (Kd.C_below HL.out HC.out.below) hlt
      have hts := allF_take_succ hlt
      have hpo := HOK.out (L[n]'hlt) (List.getElem_mem hlt)
      have hle := allF_take_le L n
      generalize L[n]'hlt = p at *
      have HTS := Aside0.mk hts
      have PUT : Aside0 (Calls Try.prog 62 #[.slice A5 (allF (L.take n)).length c5, .slice Ai p.length ci] wr fun e w' => ∃ (A' : Option Addr) (c' : Nat), e = .returned (.tuple #[.slice A' (allF (L.take (n + 1))).length c', .int .i64 0]) ∧ Made w w' A' c' (allF (L.take (n + 1)))) := Aside0.mk (by
        refine (put_fresh A5 Ai c5 ci (allF (L.take n)) p wr HC.out.row HC.out.cap (by have := H9.out; omega) hCi hci hpo).mono ?_
        rintro e w' ⟨v, he, hR, hb⟩
        rw [← hts] at hR
        obtain ⟨A', c', rfl, h1, h2⟩ := Kd.R_reads hR
        exact ⟨A', c', he, h2, h1, below_step HC.out.below hb⟩)
      clear hts hpo hle hCi
      generalize (allF (L.take n)).length = q1 at *
      generalize hq2 : (allF (L.take (n + 1))).length = q2 at *
      have HQ2 := Aside0.mk hq2
      clear hq2
      go_wp2_with (go_at_call 62; refine PUT.out.mono ?_; rintro e w1 ⟨A', c', rfl, hm⟩; have HM := Aside0.mk hm; clear hm)
      go_roundw
      case rel => exact ⟨n + 1, A', c', by omega, by go_num, by rw [HQ2.out], Lib.hid HM.out⟩
      case measure => simp [intOf]; omega
    · obtain rfl : n = L.length := by omega
      rw [List.take_length] at HC
      rw [List.take_length]
      have hb := HC.out.below
      have hs := hb.size
      have HJ1 := Aside0.mk (HJ.out.below hb)
      have HD1 := Aside0.mk ((HD.out.below hb).mono (fun k hk => (.inl hk : kd k ∨ wr.heap.size ≤ k)))
      have hlj := blk_lt HJ1.out
      have HOKK := Aside0.mk (show ∀ k, (kd k ∨ wr.heap.size ≤ k) → N ≤ k ∧ k ≠ gj from fun k hk => by
        rcases hk with h | h
        · exact ⟨(HK.out k h).1, (HK.out k h).2.2⟩
        · exact ⟨by omega, by omega⟩)
      have HDS := Aside0.mk (show ∀ k, OfDisk g (fun k => kd k ∨ wr.heap.size ≤ k) k → JSet N gj g k from dset_sub (fun k h => (HOKK.out k h).1) (W := w) hN)
      have SW := Aside0.mk (swap_ok HD1.out (fun k hk => .inr hk) A5 c5 (allF L) HC.out.row (allF_ok HOK.out) HF.out)
      have HMV := Aside0.mk (show Moved w wr (JSet N gj g) from Moved.of_below hb _)
      have hsc := scan_frames HOK.out (by have := H9.out; omega)
      have HSC := Aside0.mk hsc
      have HTL := Aside0.mk (show (allF L).take (allF L).length = allF L from List.take_length)
      obtain ⟨c0, c1, c2, fr⟩ := j_cells HJ1.out
      clear hsc hb c1 c2 fr
      generalize hfl : (allF L).length = fl at *
      go_wp2_with (first
        | (go_at_call 49; refine SW.out.mono ?_; rintro e w3 ⟨rfl, hd, hm⟩; have HD3 := Aside0.mk hd; have HJ3 := Aside0.mk (HJ1.out.moved hm (gj_off HJ1.out HD1.out (fun k h => (HOKK.out k h).2))); have HM3 := Aside0.mk (hm.mono HDS.out); clear hd hm)
        | (go_at_call 99; refine (jopen_at (N := N) HJ3.out HD3.out.bound (fun k h => ⟨(HOKK.out k h.1).1, h.2, (HOKK.out k h.1).2⟩) ?hN HSC.out ?hn HTL.out HOK.out).mono ?_; (case hN => have h1 := HM3.out.size; have h3 := HMV.out.size; omega); (case hn => omega); rintro e w5 ⟨rfl, hj5, hm5⟩; have HJ5 := Aside0.mk hj5; have HM5 := Aside0.mk hm5; clear hj5 hm5))
      go_ret
      exact ⟨rfl, HJ5.out, (HMV.out.trans HM3.out (fun k hk => .inl hk)).trans HM5.out (fun k hk => .inl hk)⟩
set_option maxRecDepth 100000 in
set_option maxHeartbeats 2000000 in
theorem jswap_full (h : JAt N w gj g room l s) (hL : Kd.C KS w A L.length L) (hc : L.length ≤ c) (hok : ∀ q ∈ L, OkP q) (hfit : room < (allF L).length) (h9 : (allF L).length ≤ 900000) :
    Calls Try.prog 85 #[.pointer (some ⟨gj, 0, none⟩), .slice A L.length c] w fun e w' => e = .returned (.int .i64 4) ∧ Below w.heap.size w w' := by
  obtain ⟨⟨v, kd, hj, hd, hr, hk⟩, hsl, _⟩ := h
  have hl63 := hL.2.1
  have HL := Aside0.mk hL
  have HJ := Aside0.mk hj
  have HD := Aside0.mk hd
  have HK := Aside0.mk hk
  have HOK := Aside0.mk hok
  have HF := Aside0.mk hfit
  have H9 := Aside0.mk h9
  have HM0 := Lib.hid (show Made w w none 0 (allF (L.take 0)) from ⟨Kd.C_nil _ _, Nat.le_refl _, Below.refl _ _⟩)
  clear hL hj hd hr hk hok hfit h9
  go_enter Try.func85, Try.ntmps85
  go_wp2
  go_loopw [5, 15] (fun a i wr => ∃ (n : Nat) (A5 : Option Addr) (c5 : Nat), n ≤ L.length ∧ i = .int .i64 (n : Int) ∧ a = .slice A5 (allF (L.take n)).length c5 ∧ Hid (Made w wr A5 c5 (allF (L.take n)))) (fun _ i _ => L.length - (intOf i).toNat)
  case atStart => exact ⟨0, none, 0, by omega, rfl, rfl, HM0⟩
  case round =>
    obtain ⟨n, A5, c5, hn, rfl, rfl, HC⟩ := hrel
    clear HM0
    by_cases hlt : n < L.length
    · obtain ⟨ad, Ai, ci, rfl, hcell, hci, hCi⟩ := row_in (Kd.C_below HL.out HC.out.below) hlt
      have hts := allF_take_succ hlt
      have hpo := HOK.out (L[n]'hlt) (List.getElem_mem hlt)
      have hle := allF_take_le L n
      generalize L[n]'hlt = p at *
      have HTS := Aside0.mk hts
      have PUT : Aside0 (Calls Try.prog 62 #[.slice A5 (allF (L.take n)).length c5, .slice Ai p.length ci] wr fun e w' => ∃ (A' : Option Addr) (c' : Nat), e = .returned (.tuple #[.slice A' (allF (L.take (n + 1))).length c', .int .i64 0]) ∧ Made w w' A' c' (allF (L.take (n + 1)))) := Aside0.mk (by
        refine (put_fresh A5 Ai c5 ci (allF (L.take n)) p wr HC.out.row HC.out.cap (by have := H9.out; omega) hCi hci hpo).mono ?_
        rintro e w' ⟨v, he, hR, hb⟩
        rw [← hts] at hR
        obtain ⟨A', c', rfl, h1, h2⟩ := Kd.R_reads hR
        exact ⟨A', c', he, h2, h1, below_step HC.out.below hb⟩)
      clear hts hpo hle hCi
      generalize (allF (L.take n)).length = q1 at *
      generalize hq2 : (allF (L.take (n + 1))).length = q2 at *
      have HQ2 := Aside0.mk hq2
      clear hq2
      go_wp2_with (go_at_call 62; refine PUT.out.mono ?_; rintro e w1 ⟨A', c', rfl, hm⟩; have HM := Aside0.mk hm; clear hm)
      go_roundw
      case rel => exact ⟨n + 1, A', c', by omega, by go_num, by rw [HQ2.out], Lib.hid HM.out⟩
      case measure => simp [intOf]; omega
    · obtain rfl : n = L.length := by omega
      rw [List.take_length] at HC
      rw [List.take_length]
      have hb := HC.out.below
      have hs := hb.size
      have HJ1 := Aside0.mk (HJ.out.below hb)
      have HD1 := Aside0.mk (HD.out.below hb)
      have SW := Aside0.mk (swap_full HD1.out A5 c5 (allF L) (by have := H9.out; omega) HF.out)
      have HB := Aside0.mk hb
      obtain ⟨c0, c1, c2, fr⟩ := j_cells HJ1.out
      clear hb c1 c2 fr
      generalize hfl : (allF L).length = fl at *
      go_wp2_with (go_at_call 49; refine SW.out.mono ?_; rintro e w3 ⟨rfl, rfl⟩)
      go_ret
      exact ⟨rfl, HB.out⟩
set_option maxRecDepth 100000 in
set_option maxHeartbeats 2000000 in
theorem jswap_no (hL : Kd.C KS w A L.length L) (hc : L.length ≤ c) (K : Nat) (hK : K < L.length) (hz : (L[K]'hK).length = 0) (hok : ∀ (n : Nat) (hn : n < L.length), n < K → OkP (L[n]'hn)) (h9 : (allF L).length ≤ 900000) :
    Calls Try.prog 85 #[.pointer (some ⟨gj, 0, none⟩), .slice A L.length c] w fun e w' => e = .returned (.int .i64 1) ∧ Below w.heap.size w w' := by
  have hl63 := hL.2.1
  have HL := Aside0.mk hL
  have HOK := Aside0.mk hok
  have HZ := Aside0.mk hz
  have H9 := Aside0.mk h9
  have HM0 := Lib.hid (show Made w w none 0 (allF (L.take 0)) from ⟨Kd.C_nil _ _, Nat.le_refl _, Below.refl _ _⟩)
  clear hL hok hz h9
  go_enter Try.func85, Try.ntmps85
  go_wp2
  go_loopw [5, 15] (fun a i wr => ∃ (n : Nat) (A5 : Option Addr) (c5 : Nat), n ≤ K ∧ i = .int .i64 (n : Int) ∧ a = .slice A5 (allF (L.take n)).length c5 ∧ Hid (Made w wr A5 c5 (allF (L.take n)))) (fun _ i _ => L.length - (intOf i).toNat)
  case atStart => exact ⟨0, none, 0, by omega, rfl, rfl, HM0⟩
  case round =>
    obtain ⟨n, A5, c5, hn, rfl, rfl, HC⟩ := hrel
    clear HM0
    by_cases hltK : n < K
    · have hlt : n < L.length := by omega
      obtain ⟨ad, Ai, ci, rfl, hcell, hci, hCi⟩ := row_in (Kd.C_below HL.out HC.out.below) hlt
      have hts := allF_take_succ hlt
      have hpo := HOK.out n hlt hltK
      have hle := allF_take_le L n
      generalize L[n]'hlt = p at *
      have HTS := Aside0.mk hts
      have PUT : Aside0 (Calls Try.prog 62 #[.slice A5 (allF (L.take n)).length c5, .slice Ai p.length ci] wr fun e w' => ∃ (A' : Option Addr) (c' : Nat), e = .returned (.tuple #[.slice A' (allF (L.take (n + 1))).length c', .int .i64 0]) ∧ Made w w' A' c' (allF (L.take (n + 1)))) := Aside0.mk (by
        refine (put_fresh A5 Ai c5 ci (allF (L.take n)) p wr HC.out.row HC.out.cap (by have := H9.out; omega) hCi hci hpo).mono ?_
        rintro e w' ⟨v, he, hR, hb⟩
        rw [← hts] at hR
        obtain ⟨A', c', rfl, h1, h2⟩ := Kd.R_reads hR
        exact ⟨A', c', he, h2, h1, below_step HC.out.below hb⟩)
      clear hts hpo hle hCi
      generalize (allF (L.take n)).length = q1 at *
      generalize hq2 : (allF (L.take (n + 1))).length = q2 at *
      have HQ2 := Aside0.mk hq2
      clear hq2
      go_wp2_with (go_at_call 62; refine PUT.out.mono ?_; rintro e w1 ⟨A', c', rfl, hm⟩; have HM := Aside0.mk hm; clear hm)
      go_roundw
      case rel => exact ⟨n + 1, A', c', by omega, by go_num, by rw [HQ2.out], Lib.hid HM.out⟩
      case measure => simp [intOf]; omega
    · obtain rfl : n = K := by omega
      obtain ⟨ad, Ai, ci, rfl, hcell, hci, hCi⟩ := row_in (Kd.C_below HL.out HC.out.below) hK
      have hz := HZ.out
      generalize L[n]'hK = p at *
      have PUT := Aside0.mk (fun W => put_no (A := Ai) (c := ci) (p := p) 1 (.inl ⟨hz, rfl⟩) (by omega) W (.slice A5 (allF (L.take n)).length c5) ⟨_, _, _, rfl⟩)
      have HB := Aside0.mk HC.out.below
      clear hz hCi HZ
      generalize p.length = q at *
      generalize (allF (L.take n)).length = q1 at *
      go_wp2_with (go_at_call 62; refine (PUT.out _).mono ?_; rintro e w1 ⟨rfl, k, rfl⟩)
      go_ret
      exact ⟨rfl, pw_below_drewN HB.out k⟩
set_option maxRecDepth 100000 in
theorem jOpen_any {kd : Nat → Prop} {dsafe : Nat} {bs : List Int} (hd : DiskAt w g kd room dsafe bs) (hkd : ∀ k, kd k → N ≤ k ∧ k < w.heap.size) (hN : N ≤ w.heap.size)
    {ps : List (List Int)} {n : Nat} {x : Int} (hs : frame_Scan.f bs = some (ps, (n : Int), x)) (hn : n ≤ bs.length) (ht : bs.take n = allF ps) (hok : ∀ p ∈ ps, OkP p) :
    Calls Try.prog 74 #[.pointer (some ⟨g, 0, none⟩)] w fun e w' => e = .returned (.tuple #[.pointer (some ⟨w.heap.size, 0, none⟩), .int .i64 ((bs.length : Int) - (n : Int))]) ∧ JAt N w' w.heap.size g room ps ps.length ∧ Moved w w' (JSet N w.heap.size g) := by
  have OP : Aside0 (∀ W, W = w.alloc (.cells #[.pointer (some ⟨g, 0, none⟩), .slice none 0 0, .int .i64 0] 99) → Calls Try.prog 99 #[.pointer (some ⟨w.heap.size, 0, none⟩)] W fun e w' => e = .returned (.int .i64 ((bs.length : Int) - (n : Int))) ∧ JAt N w' w.heap.size g room ps ps.length ∧ Moved W w' (JSet N w.heap.size g)) := Aside0.mk (fun W hW => by
    subst hW
    have hb := below_alloc (Below.refl w.heap.size w) (.cells #[.pointer (some ⟨g, 0, none⟩), .slice none 0 0, .int .i64 0] 99)
    refine jopen_at (N := N) (v0 := .slice none 0 0) (s0 := 0) (heap_alloc_new w _) (hd.below hb) (fun k hk => ⟨(hkd k hk).1, by have := (hkd k hk).2; have := hb.size; omega, by have := (hkd k hk).2; omega⟩) (Nat.le_trans hN hb.size) hs hn ht hok)
  clear hd hkd hs ht hok
  go_enter Try.func74, Try.ntmps74
  go_wp2_with (go_at_call 99; refine (OP.out _ rfl).mono ?_; rintro e w1 ⟨rfl, hj, hm⟩; have HJ := Aside0.mk hj; have HM := Aside0.mk hm; clear hj hm)
  go_ret2
  exact ⟨rfl, HJ.out, (Moved.of_below (below_alloc (Below.refl w.heap.size w) _) _).trans HM.out (fun k hk => .inl hk)⟩
theorem jOpen_new (hd : DiskAt w g (fun _ => False) room 0 []) (hN : N ≤ w.heap.size) :
    Calls Try.prog 74 #[.pointer (some ⟨g, 0, none⟩)] w fun e w' => e = .returned (.tuple #[.pointer (some ⟨w.heap.size, 0, none⟩), .int .i64 0]) ∧ JAt N w' w.heap.size g room [] 0 ∧ Moved w w' (JSet N w.heap.size g) :=
  jOpen_any (n := 0) (x := 0) hd (fun k hk => hk.elim) hN (ps := []) (scan_frames (ps := []) (fun p hp => by simp at hp) (by simp [allF_nil])) (Nat.le_refl _) rfl (fun p hp => by simp at hp)
set_option maxRecDepth 100000 in
/-- A journal of no disk. -/
theorem jOpen_nil (hN : N ≤ w.heap.size) : Calls Try.prog 74 #[.pointer none] w fun e w' => ∃ g gj, e = .returned (.tuple #[.pointer (some ⟨gj, 0, none⟩), .int .i64 0]) ∧ JAt N w' gj g 0 [] 0 ∧ Below w.heap.size w w' ∧ w.heap.size ≤ gj ∧ w.heap.size ≤ g := by
  have OP : Aside0 (∀ W, Calls Try.prog 37 #[.int .i64 0] W fun e w' => e = .returned (.pointer (some ⟨W.heap.size, 0, none⟩)) ∧ DiskAt w' W.heap.size (fun _ => False) 0 0 [] ∧ Below W.heap.size W w') := Aside0.mk (fun W => new_any 0 W (fun _ => False))
  have JO : Aside0 (∀ (W W1 : World) (g : Nat), DiskAt W g (fun _ => False) 0 0 [] → W1 = W.alloc (.cells #[.pointer (some ⟨g, 0, none⟩), .slice none 0 0, .int .i64 0] 99) → Calls Try.prog 99 #[.pointer (some ⟨W.heap.size, 0, none⟩)] W1 fun e w' => e = .returned (.int .i64 0) ∧ JAt W.heap.size w' W.heap.size g 0 [] 0 ∧ Moved W1 w' (JSet W.heap.size W.heap.size g)) := Aside0.mk (fun W W1 g hd hW => by
    subst hW
    have hb := below_alloc (Below.refl W.heap.size W) (.cells #[.pointer (some ⟨g, 0, none⟩), .slice none 0 0, .int .i64 0] 99)
    exact jopen_at (N := W.heap.size) (v0 := .slice none 0 0) (s0 := 0) (n := 0) (x := 0) (ps := []) (heap_alloc_new W _) (hd.below hb) (fun k hk => hk.elim) hb.size (scan_frames (ps := []) (fun p hp => by simp at hp) (by simp [allF_nil])) (Nat.le_refl _) rfl (fun p hp => by simp at hp))
  go_enter Try.func74, Try.ntmps74
  go_wp2_with (first
    | (go_at_call 37; refine (OP.out _).mono ?_; rintro e w1 ⟨rfl, hd, hb⟩; have HD := Aside0.mk hd; have HB := Aside0.mk hb; clear hd hb)
    | (go_at_call 99; refine (JO.out w1 _ _ HD.out rfl).mono ?_; rintro e w2 ⟨rfl, hj, hm⟩; have HJ := Aside0.mk hj; have HM := Aside0.mk hm; clear hj hm))
  go_ret2
  have h1 := HB.out.size
  refine ⟨w.heap.size, w1.heap.size, rfl, ?_, Moved.from_below (below_alloc HB.out _) HM.out (fun k hk => ?_) (below_alloc HB.out _).size, h1, Nat.le_refl _⟩
  · obtain ⟨⟨v, kd, a, b, c, d⟩, e, f⟩ := HJ.out
    exact ⟨⟨v, kd, a, b, Kd.R_lower c (Nat.le_trans hN h1), fun k hk => ⟨by have := (d k hk).1; omega, (d k hk).2⟩⟩, e, f⟩
  · rcases hk with rfl | rfl | hk
    · exact h1
    · exact Nat.le_refl _
    · omega
end
end Go.Proofs.Ytbcienbnhchdeaa.Hand

/- The document's example of a journal. -/
namespace Go.Proofs.Ytbcienbnhchdeaa.Hand
open Go Go.RowKit Go.Proofs.YtbcienbnhchdeaaW.PrintLast Go.Proofs.YtbcienbnhchdeaaW.PrintWords Go.Proofs.YtbcienbnhchdeaaW.PrintMore Print FrameC FrameL FrameS FrameR JMath
set_option linter.unusedVariables false
set_option linter.unusedSimpArgs false
attribute [local go_sem] max2_int min2_int max_two min_two
/-- One byte in a new row. -/
theorem byte_C (W : World) (x : Int) : Kd.C (Kd.int .u8) (W.alloc (.cells #[.int .u8 x] 5 (1, 2))) (some ⟨W.heap.size, 0, none⟩) 1 [x] := C_lit W [x] (1, 2) (by simp)
theorem OkP_one (x : Int) (h : 0 ≤ x ∧ x < 256) : OkP [x] := ⟨by simp [okB]; omega, by simp, by simp⟩
section
variable {N : Nat} {w0 w w1 : World} {gj g room s : Nat} {l : List (List Int)}
/-- One byte appended. -/
theorem jbyte_ok (h : JAt N w gj g room l s) (x : Int) (hx : 0 ≤ x ∧ x < 256) (hfit : (allF l).length + 7 ≤ room) (hN : N ≤ w.heap.size) :
    Calls Try.prog 75 #[.pointer (some ⟨gj, 0, none⟩), .slice (some ⟨w.heap.size, 0, none⟩) 1 1] (w.alloc (.cells #[.int .u8 x] 5 (1, 2))) fun e w' => e = .returned (.int .i64 0) ∧ JAt N w' gj g room (l ++ [[x]]) s ∧ Moved w w' (JSet N gj g) := by
  have hb := below_alloc (Below.refl w.heap.size w) (.cells #[.int .u8 x] 5 (1, 2))
  refine (jappend_ok (p := [x]) (A := some ⟨w.heap.size, 0, none⟩) (c := 1) (h.next hb) (byte_C w x) (by simp) (OkP_one x hx) (by simp; omega) (Nat.le_trans hN hb.size)).mono ?_
  rintro e w' ⟨he, h1, h2⟩
  exact ⟨he, h1, (Moved.of_below hb _).trans h2 (fun k hk => .inl hk)⟩
end
set_option maxRecDepth 100000 in
set_option maxHeartbeats 1000000 in
theorem lives6_any (w : World) : Calls Try.prog 73 #[] w fun e w' => e = .returned (.bool true) ∧ Below w.heap.size w w' := by
  have OP : Aside0 (∀ W, Calls Try.prog 37 #[.int .i64 100] W fun e w' => e = .returned (.pointer (some ⟨W.heap.size, 0, none⟩)) ∧ DiskAt w' W.heap.size (fun _ => False) 100 0 [] ∧ Below W.heap.size W w') := Aside0.mk (fun W => new_any 100 W (fun _ => False))
  have CR : Aside0 (∀ (N gj g : Nat) (W : World), JAt N W gj g 100 [[97], [98]] 1 → N ≤ W.heap.size → Calls Try.prog 79 #[.pointer (some ⟨gj, 0, none⟩), .int .i64 6] W fun e w' => e = .returned (.int .i64 1) ∧ JAt N w' gj g 100 [[97]] 1 ∧ Moved W w' (JSet N gj g)) := Aside0.mk (fun N gj g W h hN => by
    have h0 := jcrash_any 6 h hN (by simp [allF_cons, allF_nil, frameOf_len])
    have e1 : leftOf [[97], [98]] 1 6 = 13 := by simp [leftOf, allF_cons, allF_nil, frameOf_len, keepOf]
    have e2 : fit [[97], [98]] 13 = 1 := by simp [fit]
    rw [e1, e2] at h0
    exact h0)
  have kc := fun (W : World) (C : Array Value) (n c : Nat) => Lib.run_convert_bytes_const (P := Try.prog) W 22 5 C n c Try.underlying22 Try.underlying5
  go_enter Try.func73, Try.ntmps73
  go_wp2_with (first
    | (go_at_call 37; refine (OP.out _).mono ?_; rintro e w1 ⟨rfl, hd, hb⟩; have HD := Aside0.mk hd; have HB := Aside0.mk hb; clear hd hb)
    | (go_at_call 74; refine (jOpen_new (N := w.heap.size) HD.out HB.out.size).mono ?_; rintro e w2 ⟨rfl, hj, hm⟩; have HJ2 := Aside0.mk hj; have HM2 := Aside0.mk (show Moved w w2 (JSet w.heap.size w1.heap.size w.heap.size) from (Moved.of_below HB.out _).trans hm (fun k hk => .inl hk)); have hz1 := HB.out.size; clear hj hm HD HB)
    | (go_at_call 75; refine (jbyte_ok HJ2.out 97 (by omega) (by simp [allF_nil]) HM2.out.size).mono ?_; rintro e w3 ⟨rfl, hj, hm⟩; have HJ3 := Aside0.mk hj; have HM3 := Aside0.mk (HM2.out.trans hm (fun k hk => .inl hk)); clear hj hm HJ2 HM2)
    | (go_at_call 76; refine (jsync_any HJ3.out HM3.out.size).mono ?_; rintro e w4 ⟨rfl, hj, hm⟩; have HJ4 := Aside0.mk hj; have HM4 := Aside0.mk (HM3.out.trans hm (fun k hk => .inl hk)); clear hj hm HJ3 HM3)
    | (go_at_call 75; refine (jbyte_ok HJ4.out 98 (by omega) (by simp [allF_nil, allF_cons, frameOf_len]) HM4.out.size).mono ?_; rintro e w5 ⟨rfl, hj, hm⟩; have HJ5 := Aside0.mk hj; have HM5 := Aside0.mk (HM4.out.trans hm (fun k hk => .inl hk)); clear hj hm HJ4 HM4)
    | (go_at_call 79; refine (CR.out _ _ _ _ HJ5.out HM5.out.size).mono ?_; rintro e w6 ⟨rfl, hj, hm⟩; have HJ6 := Aside0.mk hj; have HM6 := Aside0.mk (HM5.out.trans hm (fun k hk => .inl hk)); clear hj hm HJ5 HM5)
    | (go_at_call 80; refine (ja_any HJ6.out).mono ?_; rintro e w7 ⟨A7, c7, rfl, hc7, hC, hb⟩; obtain ⟨ad, Ai, ci, rfl, hcell, hci, hCi⟩ := row_in hC (n := 0) (by simp); have hcell0 : w7.cell? ad = some (.slice Ai 1 ci) := hcell; have hcv := Kd.C_string (P := Try.prog) (c := ci) Try.underlying22 Try.underlying5 Try.underlying9 (show Kd.C (Kd.int .u8) w7 Ai 1 [97] from hCi); rw [show strOfNums [97] = ⟨#[97]⟩ from by decide] at hcv; have HJ7 := Aside0.mk (HJ6.out.next hb); have HM7 := Aside0.mk (HM6.out.below hb); clear hC hb hcell hCi)
    | (go_at_call 77; refine (js_any HJ7.out).mono ?_; rintro e w8 ⟨rfl, rfl⟩))
  go_ret
  exact ⟨rfl, HM7.out.toBelow (Nat.le_refl _) (fun k hk => by rcases hk with rfl | rfl | hk; exact hz1; exact Nat.le_refl _; exact hk)⟩
section
variable {w : World} {A : Option Addr} {n c : Nat}
theorem jframe_nil : Calls Try.prog 100 #[.pointer none, .slice A n c] w fun e w' => e = .returned (.tuple #[.slice none 0 0, .int .i64 1]) ∧ w = w' := by
  go_enter Try.func100, Try.ntmps100
  go_wp2
  go_ret2
  exact ⟨rfl, rfl⟩
theorem jappend_nil : Calls Try.prog 75 #[.pointer none, .slice A n c] w fun e w' => e = .returned (.int .i64 1) ∧ w = w' := by
  go_enter Try.func75, Try.ntmps75
  go_wp2_with (go_at_call 100; refine jframe_nil.mono ?_; rintro e w1 ⟨rfl, rfl⟩)
  go_ret
  exact ⟨rfl, rfl⟩
theorem jtorn_nil (k : Int) : Calls Try.prog 83 #[.pointer none, .slice A n c, .int .i64 k] w fun e w' => e = .returned (.int .i64 1) ∧ w = w' := by
  go_enter Try.func83, Try.ntmps83
  go_wp2_with (go_at_call 100; refine jframe_nil.mono ?_; rintro e w1 ⟨rfl, rfl⟩)
  go_ret
  exact ⟨rfl, rfl⟩
theorem jsync_nil : Calls Try.prog 76 #[.pointer none] w fun e w' => e = .returned (.int .i64 0) ∧ w = w' := by
  go_enter Try.func76, Try.ntmps76
  go_wp2
  go_ret
  exact ⟨rfl, rfl⟩
theorem jcrash_nil (k : Int) : Calls Try.prog 79 #[.pointer none, .int .i64 k] w fun e w' => e = .returned (.int .i64 0) ∧ w = w' := by
  go_enter Try.func79, Try.ntmps79
  go_wp2
  go_ret
  exact ⟨rfl, rfl⟩
theorem jswap_nil (v : Value) : Calls Try.prog 85 #[.pointer none, v] w fun e w' => e = .returned (.int .i64 1) ∧ w = w' := by
  go_enter Try.func85, Try.ntmps85
  go_wp2
  go_ret
  exact ⟨rfl, rfl⟩
theorem jsafe_nil : Calls Try.prog 77 #[.pointer none] w fun e w' => e = .returned (.int .i64 0) ∧ w = w' := by
  go_enter Try.func77, Try.ntmps77
  go_wp2
  go_ret
  exact ⟨rfl, rfl⟩
theorem jroom_nil : Calls Try.prog 84 #[.pointer none] w fun e w' => e = .returned (.int .i64 0) ∧ w = w' := by
  go_enter Try.func84, Try.ntmps84
  go_wp2
  go_ret
  exact ⟨rfl, rfl⟩
end
/-- What a journal of no room says to a payload. -/
theorem jappend_none {N : Nat} {w : World} {gj g : Nat} {A : Option Addr} {c : Nat} {p : List Int} (h : JAt N w gj g 0 [] 0) (hC : Kd.C (Kd.int .u8) w A p.length p) (hc : p.length ≤ c) (ok : okB p = true) (x : Int) (hx : x = if 1000 < p.length then 12 else if p.length = 0 then 1 else 4) :
    Calls Try.prog 75 #[.pointer (some ⟨gj, 0, none⟩), .slice A p.length c] w fun e w' => e = .returned (.int .i64 x) ∧ Below w.heap.size w w' := by
  by_cases h1 : 1000 < p.length
  · rw [if_pos h1] at hx
    exact (jappend_no x (.inr ⟨h1, hx⟩) hC.2.1).mono fun e w' ⟨he, n, hw⟩ => ⟨he, by rw [hw]; exact pw_below_drewN (Below.refl _ _) n⟩
  · rw [if_neg h1] at hx
    by_cases h0 : p.length = 0
    · rw [if_pos h0] at hx
      exact (jappend_no x (.inl ⟨h0, hx⟩) hC.2.1).mono fun e w' ⟨he, n, hw⟩ => ⟨he, by rw [hw]; exact pw_below_drewN (Below.refl _ _) n⟩
    · rw [if_neg h0] at hx
      subst hx
      exact jappend_full h hC hc ⟨ok, by omega, by omega⟩ (by simp [allF_nil])
theorem jr_zero {N : Nat} {w : World} {gj g : Nat} (h : JAt N w gj g 0 [] 0) : Calls Try.prog 84 #[.pointer (some ⟨gj, 0, none⟩)] w fun e w' => e = .returned (.int .i64 0) ∧ ∃ n, w' = w.drewN n :=
  (jr_any h).mono fun e w' ⟨he, hn⟩ => ⟨by rw [he]; simp [allF_nil], hn⟩
end Go.Proofs.Ytbcienbnhchdeaa.Hand

/- What the journal's laws share: rows that may be appended, and rows compared. -/
namespace Go.Proofs.Ytbcienbnhchdeaa.Hand
open Go Go.RowKit Go.Proofs.YtbcienbnhchdeaaW.PrintLast Go.Proofs.YtbcienbnhchdeaaW.PrintWords Go.Proofs.YtbcienbnhchdeaaW.PrintMore Print FrameC FrameL FrameS FrameR JMath
set_option linter.unusedVariables false
set_option linter.unusedSimpArgs false
attribute [local go_sem] max2_int min2_int max_two min_two
/-- Rows that may be appended, and few of them. -/
structure GoodL (G : List (List Int)) (m : Nat) : Prop where
  ok : ∀ p ∈ G, OkP p
  small : ∀ p ∈ G, p.length ≤ 30
  few : G.length ≤ m
theorem GoodL.okb {G : List (List Int)} {m : Nat} (h : GoodL G m) : ∀ p ∈ G, okB p = true := fun p hp => (h.ok p hp).1
theorem GoodL.len {G : List (List Int)} {m : Nat} (h : GoodL G m) : (allF G).length ≤ 36 * m := by
  have h1 := allF_small (x := G) (fun p hp => ⟨h.ok p hp, h.small p hp⟩)
  have h2 := h.few
  omega
theorem jgood_any (A0 : Option Addr) (c0 : Nat) (l0 : List (List Int)) (most : Nat) (hm : most ≤ 100) (w : World) (h : Kd.C KS w A0 l0.length l0) (hc : l0.length ≤ c0) (hok : ∀ p ∈ l0, okB p = true) :
    Calls Try.prog 66 #[.slice A0 l0.length c0, .int .i64 (most : Int)] w fun e w' => ∃ (G : List (List Int)) (A : Option Addr) (c : Nat), e = .returned (.slice A G.length c) ∧ G = goodL most 0 l0 ∧ GoodL G most ∧ G.length ≤ c ∧ Kd.C KS w' A G.length G ∧ Below w.heap.size w w' := by
  refine (pacesetterref04_Good.calls (2 * most + 2) (fun k => k < w.heap.size) A0 c0 l0 (most : Int) (goodL most 0 l0) w (Kd.V_mk hc (Kd.C_F (Kd.heap_slice 5 (Kd.heap_int .u8)) h)) (good_f hm (Nat.le_refl _))).mono ?_
  rintro e w' ⟨v, he, hN, hb⟩
  obtain ⟨A, c, rfl, h1, h2⟩ := Kd.N_reads hN
  have hg := goodL_ok most 0 l0 hok
  exact ⟨_, A, c, he, rfl, ⟨fun p hp => (hg.1 p hp).1, fun p hp => (hg.1 p hp).2, hg.2⟩, h1, h2, hb⟩
/-- The same, with what the rows lie in. -/
theorem jgoodN_any (P0 : Nat → Prop) (A0 : Option Addr) (c0 : Nat) (l0 : List (List Int)) (most : Nat) (hm : most ≤ 100) (w : World) (h : Kd.V KS 22 w w.heap.size P0 (.slice A0 l0.length c0) l0) (hok : ∀ p ∈ l0, okB p = true) :
    Calls Try.prog 66 #[.slice A0 l0.length c0, .int .i64 (most : Int)] w fun e w' => ∃ (G : List (List Int)) (A : Option Addr) (c : Nat), e = .returned (.slice A G.length c) ∧ G = goodL most 0 l0 ∧ GoodL G most ∧ G.length ≤ c ∧ Kd.N KS 22 w' w.heap.size (fun k => P0 k ∨ w.heap.size ≤ k) (.slice A G.length c) G ∧ Below w.heap.size w w' := by
  refine (pacesetterref04_Good.calls (2 * most + 2) P0 A0 c0 l0 (most : Int) (goodL most 0 l0) w h (good_f hm (Nat.le_refl _))).mono ?_
  rintro e w' ⟨v, he, hN, hb⟩
  obtain ⟨A, c, rfl, h1, h2⟩ := Kd.N_reads hN
  have hg := goodL_ok most 0 l0 hok
  exact ⟨_, A, c, he, rfl, ⟨fun p hp => (hg.1 p hp).1, fun p hp => (hg.1 p hp).2, hg.2⟩, h1, hN, hb⟩
theorem jsame_any (A : Option Addr) (c : Nat) (a : List (List Int)) (A' : Option Addr) (c' : Nat) (b : List (List Int)) (w : World) (h1 : Kd.C KS w A a.length a) (h2 : a.length ≤ c) (h3 : Kd.C KS w A' b.length b) (h4 : b.length ≤ c') (ha : ∀ p ∈ a, okB p = true) (hb : ∀ p ∈ b, okB p = true) (hl : a.length ≤ 1000000) :
    Calls Try.prog 69 #[.slice A a.length c, .slice A' b.length c'] w fun e w' => e = .returned (.bool (decide (a = b))) ∧ Below w.heap.size w w' :=
  (pacesetterref04_Same.calls (a.length + 1) A c a A' c' b _ w h1 h2 h3 h4 (same_f hl ha hb (Nat.le_refl _))).mono fun e w' ⟨he, hd⟩ => ⟨he, hd.below⟩
/-- A journal behind its first rows. -/
structure JFed (w2 : World) (gj g room : Nat) (l : List (List Int)) (s : Nat) (wr : World) : Prop where
  at_ : JAt w2.heap.size wr gj g room l s
  below : Below w2.heap.size w2 wr
theorem JFed.turn {w2 wr w' : World} {gj g room s s' : Nat} {l l' : List (List Int)} (h : JFed w2 gj g room l s wr) (hgj : w2.heap.size ≤ gj) (hg : w2.heap.size ≤ g) (h1 : JAt w2.heap.size w' gj g room l' s') (h2 : Moved wr w' (JSet w2.heap.size gj g)) : JFed w2 gj g room l' s' w' :=
  ⟨h1, ((Moved.of_below h.below (JSet w2.heap.size gj g)).trans h2 (fun k hk => .inl hk)).toBelow (Nat.le_refl _) (fun k hk => by rcases hk with rfl | rfl | hk <;> omega)⟩
theorem JFed.next {w2 wr w' : World} {gj g room s : Nat} {l : List (List Int)} (h : JFed w2 gj g room l s wr) (hb : Below wr.heap.size wr w') : JFed w2 gj g room l s w' := ⟨h.at_.next hb, below_step h.below hb⟩
theorem take_okP {L : List (List Int)} (h : ∀ p ∈ L, OkP p) (n : Nat) : ∀ p ∈ L.take n, OkP p := fun p hp => h p (List.mem_of_mem_take hp)
theorem take_succ {L : List (List Int)} {n : Nat} (hn : n < L.length) : L.take (n + 1) = L.take n ++ [L[n]'hn] := by rw [List.take_add_one, List.getElem?_eq_getElem hn]; rfl
/-- One more of rows that were good appended. -/
theorem jfed_ok {w2 wr : World} {gj g room s n : Nat} {l G : List (List Int)} {Ag : Option Addr} (h : JFed w2 gj g room (l ++ G.take n) s wr) (hgj : w2.heap.size ≤ gj) (hg : w2.heap.size ≤ g) (hC : Kd.C KS w2 Ag G.length G) (hn : n < G.length) (hok : ∀ p ∈ G, OkP p) (hfit : (allF l).length + (allF G).length ≤ room) :
    ∃ ad Ai ci, Ag = some ad ∧ wr.cell? (ad.add n) = some (.slice Ai (G[n]'hn).length ci) ∧ Calls Try.prog 75 #[.pointer (some ⟨gj, 0, none⟩), .slice Ai (G[n]'hn).length ci] wr fun e w' => e = .returned (.int .i64 0) ∧ JFed w2 gj g room (l ++ G.take (n + 1)) s w' := by
  obtain ⟨ad, Ai, ci, e1, hcell, hci, hCi⟩ := row_in (Kd.C_below hC h.below) hn
  refine ⟨ad, Ai, ci, e1, hcell, ?_⟩
  have h1 := allF_take_succ hn
  have h2 := allF_take_le G (n + 1)
  rw [h1, List.length_append, frameOf_len] at h2
  refine (jappend_ok h.at_ hCi hci (hok _ (List.getElem_mem hn)) (by rw [allF_append, List.length_append]; omega) h.below.size).mono ?_
  rintro e w' ⟨he, hj, hm⟩
  refine ⟨he, ?_⟩
  rw [take_succ hn, ← List.append_assoc]
  exact h.turn hgj hg hj hm
end Go.Proofs.Ytbcienbnhchdeaa.Hand

-- Printed by a program of this session (wip/patch_print.py over the kit's print); Lean checks it.
namespace Go.Proofs.Ytbcienbnhchdeaa.Print
open Go.RowKit Go.Proofs.YtbcienbnhchdeaaW.PrintWords Go.Proofs.YtbcienbnhchdeaaW.PrintLast Go.Proofs.YtbcienbnhchdeaaW.PrintMore
attribute [local go_sem] max2_int min2_int max_two min_two max_three min_three max_four min_four   -- for this text's walks alone
set_option linter.unusedVariables false
set_option linter.unusedSimpArgs false

-- NOT PRINTED: function 70 (pacesetterref04_Get)

-- NOT PRINTED: function 71 (pacesetterref04_Scan)

/-! ### frame_Count: function 72 -/
def frame_Count.f (l0 : List Int) : Option (Int) := (frame_Scan.f l0).bind fun bt319 => (some (bt319.1.length : Int))
set_option maxHeartbeats 8000000 in
set_option maxRecDepth 100000 in
theorem frame_Count.calls (A0 : Option Addr) (c0 : Nat) (l0 : List Int) (r : Int) (w : World) (hr0 : Kd.C (Kd.int .u8) w A0 l0.length l0) (hc0 : l0.length ≤ c0) (h : frame_Count.f l0 = some r) :
    Calls Try.prog 72 #[.slice A0 l0.length c0] w fun e w' => e = .returned (.int .i64 r) ∧ Below w.heap.size w w' := by
  have HR0 := Aside0.mk hr0
  have HC0 := Aside0.mk hc0
  clear hr0 hc0
  have HB := Aside0.mk (Below.refl w.heap.size w)
  have H : ((frame_Scan.f l0).bind fun bt319 => (some (bt319.1.length : Int))) = some r := h
  clear h
  replace H := Option.bind_eq_some_iff.mp H
  obtain ⟨⟨t319, t320, t321⟩, A20, H⟩ := H
  replace H : (some (t319.length : Int)) = some r := H
  have A2 := Aside0.mk A20
  clear A20
  obtain rfl := Option.some.inj H
  go_enter Try.func72, Try.ntmps72
  go_wp2_with (first | ((with_reducible refine gate_callee (f := 68) rfl ?_); refine goesL_ (some 8) rfl rfl Try.func68 (by kernel_rfl) rfl #[.slice A0 l0.length c0] rfl (by (try simp only [List.map_toArray, List.map_cons, List.map_nil]); first | done | rfl | (simp only [List.length_drop, List.length_take]; rfl)) ?_; (with_reducible refine (frame_Scan.calls _ _ l0 t319 t320 t321 _ ?side1 ?side2 A2.out).mono ?_); (case side1 => repeat (first | exact HR0.out | (with_reducible refine Kd.C_alloc ?_ _) | (with_reducible refine Kd.C_drewN ?_ _) | (with_reducible refine Kd.C_drew ?_))); (case side2 => exact HC0.out); rintro e w3 ⟨v322, rfl, ho0, hb⟩; refine ⟨_, rfl, ?_⟩; have n0_ := Aside0.mk (Kd.S_lower ho0 (below_size (by repeat (first | (with_reducible first | exact HB.out | apply below_alloc | apply pw_below_drewN | apply below_drew1) | exact HB.out)))); have n1_ := Aside0.mk (below_step (by repeat (first | (with_reducible first | exact HB.out | apply below_alloc | apply pw_below_drewN | apply below_drew1) | exact HB.out)) hb); clear HB; have HO323 := n0_; have HB := n1_; clear n0_ n1_; (try clear hb); (try clear hb2); (try clear hk); (try clear hi); (try clear ho0); obtain ⟨Ao4, co4, eo4⟩ := Kd.S_slice HO323.out; subst eo4))
  go_ret
  exact ⟨by first | rfl | (simp [errW_none, errW_some] <;> rfl) | (simp [*, errW_none, errW_some] <;> rfl), by repeat (first | (with_reducible first | exact HB.out | apply below_alloc | apply pw_below_drewN | apply below_drew1) | exact HB.out)⟩

-- NOT PRINTED: function 19 (pacesetterlaw04_FrameGets)

end Go.Proofs.Ytbcienbnhchdeaa.Print

/- The frames of any bytes: the second reading, by hand; the law's contract. -/
namespace Go.Proofs.Ytbcienbnhchdeaa.Hand
open Go Go.RowKit Go.Proofs.YtbcienbnhchdeaaW.PrintLast Go.Proofs.YtbcienbnhchdeaaW.PrintWords Go.Proofs.YtbcienbnhchdeaaW.PrintMore Print FrameC FrameL FrameS FrameR
set_option linter.unusedVariables false
set_option linter.unusedSimpArgs false
attribute [local go_sem] max2_int min2_int max_two min_two

/-- A frame that is written anew is the frame that is there, where its check is good. -/
theorem frame_anew {b : List Int} (hb : okB b = true) (h1 : lenOf b ≤ 1000) (h2 : lenOf b + 6 ≤ b.length) : frameOf ((b.take (lenOf b + 2)).drop 2) = b.take (lenOf b + 6) ↔ GoodP (b.take (lenOf b + 6)) := by
  have hl0 : 2 ≤ b.length := by omega
  obtain ⟨x, y, t, rfl⟩ : ∃ x y t, b = x :: y :: t := by
    rcases b with _ | ⟨x, _ | ⟨y, t⟩⟩
    · simp at hl0
    · simp at hl0
    · exact ⟨x, y, t, rfl⟩
  have hx := okB_mem hb (x := x) (by simp)
  have hy := okB_mem hb (x := y) (by simp)
  have hl : lenOf (x :: y :: t) = x.toNat * 256 + y.toNat := rfl
  generalize hn : lenOf (x :: y :: t) = n at *
  have ht : t.length = (x :: y :: t).length - 2 := by simp
  have e1 : ((x :: y :: t).take (n + 2)).drop 2 = t.take n := by simp
  have e2 : (t.take n).length = n := by rw [List.length_take]; simp at h2; omega
  have e3 : headN n = [x, y] := by
    unfold headN
    simp only [List.cons.injEq, and_true]
    omega
  have e4 : withHead (t.take n) = (x :: y :: t).take (n + 2) := by
    unfold withHead
    rw [e2, e3]
    simp
  have e5 : (x :: y :: t).take (n + 6) = (x :: y :: t).take (n + 2) ++ ((x :: y :: t).drop (n + 2)).take 4 := by
    rw [show n + 6 = (n + 2) + 4 by omega, List.take_add]
  have e6 : (((x :: y :: t).drop (n + 2)).take 4).length = 4 := by rw [List.length_take, List.length_drop]; omega
  have ho := okB_take (okB_drop hb (n + 2)) 4
  rw [e1]
  unfold frameOf
  rw [e4, e5, goodP_app _ _ e6]
  generalize ((x :: y :: t).drop (n + 2)).take 4 = q at e6 ho
  generalize (x :: y :: t).take (n + 2) = a
  constructor
  · intro h
    have h3 := List.append_cancel_left h
    rw [← h3, rdN_bytes (crcN_lt a)]
  · intro h
    congr 1
    rw [← bytesN_rd ho e6, ← h, Int.toNat_natCast]
/-- The first two bytes. -/
theorem two_cells {w : World} {A : Option Addr} {l : List Int} (h : Kd.C (Kd.int .u8) w A l.length l) (hl : 2 ≤ l.length) : ∃ ad, A = some ad ∧ w.cell? ad = some (.int .u8 (rd l 0)) ∧ w.cell? ⟨ad.block, ad.off + 1, none⟩ = some (.int .u8 (rd l 1)) := by
  have hr : ReadsOf (Value.int .u8) (0 : Int) w A l.length l := Kd.reads_of_C h
  obtain ⟨ad, e, hc⟩ := hr.2.2 (by omega)
  have e1 : ad.add 1 = ⟨ad.block, ad.off + 1, none⟩ := by unfold Addr.add; simp
  refine ⟨ad, e, ?_, by rw [← e1]; exact hc 1 (by omega)⟩
  have h0 := hc 0 (by omega)
  have e0 : ad.add 0 = ad := by unfold Addr.add; simp
  rw [e0] at h0
  exact h0
theorem small_sums (N : Nat) (h : N ≤ 1000) : IntKind.i64.wrap (2 + (N : Int)) = 2 + (N : Int) ∧ IntKind.i64.wrap ((N : Int) + 6) = (N : Int) + 6 ∧ wrap64 (2 + (N : Int)) = 2 + (N : Int) ∧ wrap64 ((N : Int) + 6) = (N : Int) + 6 ∧ (0 : Int) ≤ (N : Int) + 6 ∧ ((N : Int) + 6).toNat = N + 6 :=
  ⟨IntWalk.i64_in _ (by omega), IntWalk.i64_in _ (by omega), by unfold wrap64; omega, by unfold wrap64; omega, by omega, by omega⟩
/-- 'b[2:2+n]'. -/
theorem mid_cut (A : Option Addr) (c : Nat) (l : List Int) (N : Nat) (hN : N + 2 ≤ l.length) (hc : l.length ≤ c) : ∃ (A1 : Option Addr) (p : List Int), p = (l.take (N + 2)).drop 2 ∧ p.length = N ∧ (∀ W : World, (Instr.slice 22 (.slice A l.length c) (some (.int .i64 2)) (some (.int .i64 (2 + (N : Int)))) none).run Try.prog W = .ok (.slice A1 N (c - 2)) W) ∧
    (∀ W, Kd.C (Kd.int .u8) W A l.length l → Kd.C (Kd.int .u8) W A1 p.length p) ∧ N ≤ c - 2 := by
  obtain ⟨i0, hi0, _, hsz, _⟩ := info_parts info5
  obtain ⟨A1, h1, h2, h3⟩ := print_mid_int (P := Try.prog) (k := .u8) 22 5 Try.underlying22 hi0 hsz A c l 2 (2 + (N : Int)) (by omega) (by omega) (by omega) hc
  have e1 : (2 + (N : Int)).toNat = N + 2 := by omega
  have e2 : (2 : Int).toNat = 2 := rfl
  rw [e1, e2] at h1 h2 h3
  have hl : ((l.take (N + 2)).drop 2).length = N := by rw [List.length_drop, List.length_take]; omega
  rw [hl] at h1 h3
  exact ⟨A1, _, rfl, hl, h1, fun W h => Kd.C_of_reads (enc := Value.int .u8) (d := (0 : Int)) (h1 := fun _ => rfl) (h2 W (Kd.reads_of_C (enc := Value.int .u8) (d := (0 : Int)) (h1 := fun _ => rfl) h)), h3⟩
theorem of_p (A : Option Addr) (c : Nat) (l : List Int) (N : Nat) (hN : l.length = N) (hc : N ≤ c) {w : World} (h : Kd.C (Kd.int .u8) w A l.length l) (hf : pacesetterref04_of.f 30000 l = some (frameOf l)) :
    Calls Try.prog 98 #[.slice A N c] w fun e w' => ∃ (A' : Option Addr) (c' : Nat), e = .returned (.slice A' (frameOf l).length c') ∧ Kd.C (Kd.int .u8) w' A' (frameOf l).length (frameOf l) ∧ Below w.heap.size w w' := by
  subst hN
  refine (pacesetterref04_of.calls 30000 A c l (frameOf l) w h hc hf).mono ?_
  rintro e w' ⟨v, rfl, ho, hb⟩
  obtain ⟨A', c', rfl, _, hC⟩ := Kd.R_reads ho
  exact ⟨A', c', rfl, hC, hb⟩
set_option maxRecDepth 100000 in
set_option maxHeartbeats 2000000 in
theorem refGet_short (A : Option Addr) (c : Nat) (l : List Int) (w : World) (h2 : l.length < 2) :
    Calls Try.prog 70 #[.slice A l.length c] w fun e w' => ∃ (A' : Option Addr) (c' : Nat) (r : List Int) (n x : Int), e = .returned (.tuple #[.slice A' r.length c', .int .i64 n, .int .i64 x]) ∧ (r, n, x) = getF l ∧ r.length ≤ c' ∧ (∀ W, Kd.C (Kd.int .u8) W A l.length l → Kd.C (Kd.int .u8) W A' r.length r) ∧ Below w.heap.size w w' := by
  have e : getF l = ([], 0, 2) := by unfold getF; rw [if_pos h2]
  have E := Aside0.mk e
  clear e
  go_enter Try.func70, Try.ntmps70
  go_wp2
  go_ret3
  exact ⟨none, 0, [], 0, 2, rfl, E.out.symm, Nat.le_refl _, fun W _ => Kd.C_nil _ _, Below.refl _ _⟩
/-- What the first two bytes tell. -/
structure Two (w : World) (A : Option Addr) (l : List Int) (ad : Addr) (x0 x1 N : Nat) : Prop where
  hA : A = some ad
  c0 : w.cell? ad = some (.int .u8 (x0 : Int))
  c1 : w.cell? ⟨ad.block, ad.off + 1, none⟩ = some (.int .u8 (x1 : Int))
  b0 : x0 < 256
  b1 : x1 < 256
  sum : (x0 : Int) * 256 + (x1 : Int) = (N : Int)
theorem two_of {w : World} {A : Option Addr} {l : List Int} (h : Kd.C (Kd.int .u8) w A l.length l) (ok : okB l = true) (hl : 2 ≤ l.length) : ∃ ad x0 x1, Two w A l ad x0 x1 (lenOf l) := by
  obtain ⟨ad, e, hx0, hx1⟩ := two_cells h hl
  have hb0 : 0 ≤ rd l 0 ∧ rd l 0 < 256 := by
    rw [show (0 : Int) = ((0 : Nat) : Int) from rfl, rd_at (by omega)]
    exact okB_mem ok (List.getElem_mem _)
  have hb1 : 0 ≤ rd l 1 ∧ rd l 1 < 256 := by
    rw [show (1 : Int) = ((1 : Nat) : Int) from rfl, rd_at (by omega)]
    exact okB_mem ok (List.getElem_mem _)
  obtain ⟨x0, e0⟩ := Int.eq_ofNat_of_zero_le hb0.1
  obtain ⟨x1, e1⟩ := Int.eq_ofNat_of_zero_le hb1.1
  refine ⟨ad, x0, x1, e, by rw [← e0]; exact hx0, by rw [← e1]; exact hx1, by omega, by omega, ?_⟩
  unfold lenOf
  rw [e0, e1, Int.toNat_natCast, Int.toNat_natCast]
  omega
set_option maxRecDepth 100000 in
set_option maxHeartbeats 2000000 in
theorem refGet_bad (A : Option Addr) (c : Nat) (l : List Int) (w : World) (ad : Addr) (x0 x1 N : Nat) (h : Two w A l ad x0 x1 N) (hl : 2 ≤ l.length) (hl2 : l.length ≤ 2000) (E : Aside0 (getF l = ([], 0, 2))) (hbad : ¬ (1 ≤ N ∧ N ≤ 1000 ∧ N + 6 ≤ l.length)) :
    Calls Try.prog 70 #[.slice A l.length c] w fun e w' => ∃ (A' : Option Addr) (c' : Nat) (r : List Int) (n x : Int), e = .returned (.tuple #[.slice A' r.length c', .int .i64 n, .int .i64 x]) ∧ (r, n, x) = getF l ∧ r.length ≤ c' ∧ (∀ W, Kd.C (Kd.int .u8) W A l.length l → Kd.C (Kd.int .u8) W A' r.length r) ∧ Below w.heap.size w w' := by
  obtain ⟨rfl, hx0, hx1, b0, b1, hsum⟩ := h
  have hd2 : decide ((l.length : Int) < 2) = false := decide_eq_false (by omega)
  have hi0 : (0 : Int) < (l.length : Int) := by omega
  have hi1 : (1 : Int) < (l.length : Int) := by omega
  have hj1 : 1 < l.length := by omega
  have hj0 : 0 < l.length := by omega
  have fin : ∀ W : World, Below w.heap.size w W → ∃ (A' : Option Addr) (c' : Nat) (r : List Int) (n x : Int), Ending.returned (.tuple #[.slice none 0 0, .int .i64 0, .int .i64 2]) = .returned (.tuple #[.slice A' r.length c', .int .i64 n, .int .i64 x]) ∧ (r, n, x) = getF l ∧ r.length ≤ c' ∧ (∀ W, Kd.C (Kd.int .u8) W (some ad) l.length l → Kd.C (Kd.int .u8) W A' r.length r) ∧ Below w.heap.size w W :=
    fun W hW => ⟨none, 0, [], 0, 2, rfl, E.out.symm, Nat.le_refl _, fun W _ => Kd.C_nil _ _, hW⟩
  have FIN := Aside0.mk fin
  clear fin
  by_cases q1 : N < 1
  · have t1 : decide ((N : Int) < 1) = true := decide_eq_true (by omega)
    clear hbad
    go_enter Try.func70, Try.ntmps70
    go_wp2
    go_quiet (fail)
    go_wp2
    go_ret3
    exact FIN.out _ (pw_below_drewN (Below.refl _ _) _)
  · have t1 : decide ((N : Int) < 1) = false := decide_eq_false (by omega)
    by_cases q2 : 1000 < N
    · have t2 : decide ((1000 : Int) < (N : Int)) = true := decide_eq_true (by omega)
      clear hbad
      go_enter Try.func70, Try.ntmps70
      go_wp2
      go_quiet (fail)
      go_wp2
      go_ret3
      exact FIN.out _ (pw_below_drewN (Below.refl _ _) _)
    · have t2 : decide ((1000 : Int) < (N : Int)) = false := decide_eq_false (by omega)
      have t3 : decide ((l.length : Int) < (N : Int) + 6) = true := decide_eq_true (by omega)
      clear hbad
      go_enter Try.func70, Try.ntmps70
      go_wp2
      go_quiet (fail)
      go_wp2
      go_ret3
      exact FIN.out _ (pw_below_drewN (Below.refl _ _) _)
set_option maxRecDepth 100000 in
set_option maxHeartbeats 4000000 in
theorem refGet_good (A : Option Addr) (c : Nat) (l : List Int) (w : World) (ad : Addr) (x0 x1 N : Nat) (h : Two w A l ad x0 x1 N) (hw : Kd.C (Kd.int .u8) w A l.length l) (hc : l.length ≤ c) (hl : 2 ≤ l.length) (hl2 : l.length ≤ 2000) (g1 : 1 ≤ N) (g2 : N ≤ 1000) (g3 : N + 6 ≤ l.length)
    (A1 : Option Addr) (p : List Int) (hpl : p.length = N) (hcut : ∀ W : World, (Instr.slice 22 (.slice A l.length c) (some (.int .i64 2)) (some (.int .i64 (2 + (N : Int)))) none).run Try.prog W = .ok (.slice A1 N (c - 2)) W)
    (HP : Aside0 (∀ W, Kd.C (Kd.int .u8) W A l.length l → Kd.C (Kd.int .u8) W A1 p.length p)) (hpc : N ≤ c - 2) (E : Aside0 (getF l = (if GoodP (l.take (N + 6)) then (p, ((N + 6 : Nat) : Int), 0) else ([], 0, 3))))
    (HAN : Aside0 (frameOf p = l.take (N + 6) ↔ GoodP (l.take (N + 6)))) (okp : okB p = true) (okl : okB l = true) :
    Calls Try.prog 70 #[.slice A l.length c] w fun e w' => ∃ (A' : Option Addr) (c' : Nat) (r : List Int) (n x : Int), e = .returned (.tuple #[.slice A' r.length c', .int .i64 n, .int .i64 x]) ∧ (r, n, x) = getF l ∧ r.length ≤ c' ∧ (∀ W, Kd.C (Kd.int .u8) W A l.length l → Kd.C (Kd.int .u8) W A' r.length r) ∧ Below w.heap.size w w' := by
  have H := Aside0.mk hw
  obtain ⟨rfl, hx0, hx1, b0, b1, hsum⟩ := h
  have hd2 : decide ((l.length : Int) < 2) = false := decide_eq_false (by omega)
  have hi0 : (0 : Int) < (l.length : Int) := by omega
  have hi1 : (1 : Int) < (l.length : Int) := by omega
  have hj1 : 1 < l.length := by omega
  have hj0 : 0 < l.length := by omega
  have t1 : decide ((N : Int) < 1) = false := decide_eq_false (by omega)
  have t2 : decide ((1000 : Int) < (N : Int)) = false := decide_eq_false (by omega)
  have t3 : decide ((l.length : Int) < (N : Int) + 6) = false := decide_eq_false (by omega)
  have OF := Aside0.mk (of_f okp (by omega))
  have HL6 := Aside0.mk (show (l.take (N + 6)).length = N + 6 by rw [List.length_take]; omega)
  have HS : Aside0 (∀ W : World, Below w.heap.size w W → (convert 22 9 (.slice (some ad) (N + 6) c)).run Try.prog W = .ok (.string (strOfNums (l.take (N + 6)))) W) := Aside0.mk (by
    intro W hW
    have h := Kd.C_string (P := Try.prog) (c := c) Try.underlying22 Try.underlying5 Try.underlying9 (Kd.C_below (C_first H.out (N + 6) g3) hW)
    rw [HL6.out] at h
    exact h)
  have HPL := Aside0.mk hpl
  have v2 : (N : Int) + 6 ≤ (c : Int) := by omega
  have hsb := str_beq (frameOf_ok okp) (okB_take okl (N + 6))
  obtain ⟨u1, u2, u3, u4, v1, v3⟩ := small_sums N g2
  obtain ⟨s1, hs1⟩ : ∃ s, strOfNums (frameOf p) = s := ⟨_, rfl⟩
  obtain ⟨s2, hs2⟩ : ∃ s, strOfNums (l.take (N + 6)) = s := ⟨_, rfl⟩
  rw [hs2] at HS
  have HS1 := Aside0.mk hs1
  rw [hs1, hs2] at hsb
  clear hs1 hs2 hw okp okl hpl
  by_cases hG : GoodP (l.take (N + 6))
  · have hbeq : (s1.toList == s2.toList) = true := by rw [hsb]; exact decide_eq_true (HAN.out.2 hG)
    have hbne : (s1.toList != s2.toList) = false := by simp only [bne, hbeq]; rfl
    rw [if_pos hG] at E
    clear hsb hG HAN
    go_enter Try.func70, Try.ntmps70
    go_wp2
    go_quiet (fail)
    clear hx0 hx1 hsum
    go_wp2
    have HB := Aside0.mk (below_drew (pw_below_drewN (Below.refl w.heap.size w) nq))
    refine start_ (n := 12) (S := fun w' => (convert 22 9 (.slice (some ad) (N + 6) c)).run Try.prog w' = .ok (.string s2) w') (ds := []) #[false, false, false, false, false, false, false, false, false, false, false, false] (by kernel_rfl) rfl rfl ((HS.out _ HB.out)) (fun hHeld => ?_)
    refine pure_ (i := 0) (N := some 32) (v := ?_) (a' := ?_) #[true, false, false, false, false, false, false, false, false, false, false, false] rfl rfl (by kernel_rfl) (fun _ _ _ h => h) (Or.inl ⟨by rfl, ?_⟩) ?_ ?_
    rotate_left
    · intro w'
      go_simp
      with_reducible rfl
    rotate_left
    · simp only [Act.put, List.setIfInBounds_toArray, List.set_cons_zero, List.set_cons_succ, i64_w, i32_w]
      rfl
    refine pure_ (i := 1) (N := some 33) (v := ?_) (a' := ?_) #[true, true, false, false, false, false, false, false, false, false, false, false] rfl rfl (by kernel_rfl) (fun _ _ _ h => h) (Or.inl ⟨by rfl, ?_⟩) ?_ ?_
    rotate_left
    · intro w'
      go_simp
      with_reducible rfl
    rotate_left
    · simp only [Act.put, List.setIfInBounds_toArray, List.set_cons_zero, List.set_cons_succ, i64_w, i32_w]
      rfl
    refine pure_ (i := 2) (N := some 34) (v := ?_) (a' := ?_) #[true, true, true, false, false, false, false, false, false, false, false, false] rfl rfl (by kernel_rfl) (fun _ _ _ h => h) (Or.inl ⟨by rfl, ?_⟩) ?_ ?_
    rotate_left
    · intro w'
      go_simp
      with_reducible rfl
    rotate_left
    · simp only [Act.put, List.setIfInBounds_toArray, List.set_cons_zero, List.set_cons_succ, i64_w, i32_w]
      rfl
    refine pure_ (i := 3) (N := some 35) (v := ?_) (a' := ?_) #[true, true, true, true, false, false, false, false, false, false, false, false] rfl rfl (by kernel_rfl) (fun _ _ _ h => h) (Or.inl ⟨by rfl, ?_⟩) ?_ ?_
    rotate_left
    · intro w'
      go_simp
      with_reducible rfl
    rotate_left
    · simp only [Act.put, List.setIfInBounds_toArray, List.set_cons_zero, List.set_cons_succ, i64_w, i32_w]
      rfl
    refine pure_ (i := 6) (N := some 38) (v := ?_) (a' := ?_) #[true, true, true, true, false, false, true, false, false, false, false, false] rfl rfl (by kernel_rfl) (fun _ _ _ h => h) (Or.inl ⟨by rfl, ?_⟩) ?_ ?_
    rotate_left
    · intro w'
      go_simp
      with_reducible rfl
    rotate_left
    · simp only [Act.put, List.setIfInBounds_toArray, List.set_cons_zero, List.set_cons_succ, i64_w, i32_w]
      rfl
    refine pure_ (i := 7) (N := some 39) (v := ?_) (a' := ?_) #[true, true, true, true, false, false, true, true, false, false, false, false] rfl rfl (by kernel_rfl) (fun _ _ _ h => h) (Or.inl ⟨by rfl, ?_⟩) ?_ ?_
    rotate_left
    · intro w'
      go_simp
      with_reducible rfl
    rotate_left
    · simp only [Act.put, List.setIfInBounds_toArray, List.set_cons_zero, List.set_cons_succ, i64_w, i32_w]
      rfl
    refine pure_ (i := 8) (N := some 40) (v := ?_) (a' := ?_) #[true, true, true, true, false, false, true, true, true, false, false, false] rfl rfl (by kernel_rfl) (fun _ _ _ h => h) (Or.inl ⟨by rfl, ?_⟩) ?_ ?_
    rotate_left
    · intro w'
      go_simp
      with_reducible rfl
    rotate_left
    · simp only [Act.put, List.setIfInBounds_toArray, List.set_cons_zero, List.set_cons_succ, i64_w, i32_w]
      rfl
    refine pure_ (i := 9) (N := some 41) (v := ?_) (a' := ?_) #[true, true, true, true, false, false, true, true, true, true, false, false] rfl rfl (by kernel_rfl) (fun _ _ _ h => h) (Or.inl ⟨by rfl, ?_⟩) ?_ ?_
    rotate_left
    · intro w'
      go_simp
      with_reducible rfl
    rotate_left
    · simp only [Act.put, List.setIfInBounds_toArray, List.set_cons_zero, List.set_cons_succ, i64_w, i32_w]
      rfl
    refine take_ (i := 10) (N := some 42) (v := ?_) (a' := ?_) #[true, true, true, true, false, false, true, true, true, true, true, false] rfl rfl (by kernel_rfl) (fun _ _ _ h => h) (Or.inl ⟨by rfl, ?_⟩) hHeld ?_ ?_
    rotate_left
    · intro w' s0
      go_simp
      with_reducible rfl
    rotate_left
    · simp only [Act.put, List.setIfInBounds_toArray, List.set_cons_zero, List.set_cons_succ, i64_w, i32_w]
      rfl
    refine one_ (i := 4) (N := some 36) #[true, true, true, true, true, false, true, true, true, true, true, false] rfl rfl (by kernel_rfl) (by decide) (fun K hK => ?_)
    refine goes_ Try.func98 (by kernel_rfl) rfl #[.slice A1 N (c - 2)] (by rfl) rfl rfl (by simp only [List.map_toArray, List.map_cons, List.map_nil]; rfl) ?_
    with_reducible refine (of_p A1 (c - 2) p N HPL.out hpc (HP.out _ (Kd.C_below H.out HB.out)) OF.out).mono ?_
    rintro e w2 ⟨A2, c2, rfl, hC2, hb⟩
    refine ⟨_, rfl, ?_⟩
    have hcv2 := Kd.C_string (P := Try.prog) (c := c2) Try.underlying22 Try.underlying5 Try.underlying9 hC2
    rw [HS1.out] at hcv2
    have HB2 := Aside0.mk (below_step HB.out hb)
    clear hb hC2
    refine hK.out _ _ ((HS.out _ HB2.out)) (fun hHeld => ?_)
    clear hK K
    refine norm_ (a' := ?_) ?_ ?_
    rotate_left
    · show Act.put _ (some 36) _ = _
      simp only [Act.put, List.setIfInBounds_toArray, List.set_cons_zero, List.set_cons_succ, i64_w, i32_w]
      rfl
    refine one_ (i := 5) (N := some 37) #[true, true, true, true, true, true, true, true, true, true, true, false] rfl rfl (by kernel_rfl) (by decide) (fun K hK => ?_)
    refine value_ (w1 := ?_) (v := ?_) (by rfl) rfl ?_ ?_
    rotate_left 2
    · go_simp
      constructor
      · rfl
      · rfl
    refine hK.out _ _ ((HS.out _ HB2.out)) (fun hHeld => ?_)
    clear hK K
    refine norm_ (a' := ?_) ?_ ?_
    rotate_left
    · show Act.put _ (some 37) _ = _
      simp only [Act.put, List.setIfInBounds_toArray, List.set_cons_zero, List.set_cons_succ, i64_w, i32_w]
      rfl
    refine pure_ (i := 11) (N := some 43) (v := ?_) (a' := ?_) #[true, true, true, true, true, true, true, true, true, true, true, true] rfl rfl (by kernel_rfl) (fun _ _ _ h => h) (Or.inl ⟨by rfl, ?_⟩) ?_ ?_
    rotate_left
    · intro w'
      go_simp
      with_reducible rfl
    rotate_left
    · simp only [Act.put, List.setIfInBounds_toArray, List.set_cons_zero, List.set_cons_succ, i64_w, i32_w]
      rfl
    refine done_ (by kernel_rfl) ?_
    go_wp2
    go_ret3
    refine ⟨A1, c - 2, p, ((N + 6 : Nat) : Int), 0, ?_, E.out.symm, by rw [HPL.out]; exact hpc, HP.out, HB2.out⟩
    rw [HPL.out]
    rfl
  · have hbeq : (s1.toList == s2.toList) = false := by rw [hsb]; exact decide_eq_false (fun h => hG (HAN.out.1 h))
    have hbne : (s1.toList != s2.toList) = true := by simp only [bne, hbeq]; rfl
    rw [if_neg hG] at E
    clear hsb hG HAN
    go_enter Try.func70, Try.ntmps70
    go_wp2
    go_quiet (fail)
    clear hx0 hx1 hsum
    go_wp2
    have HB := Aside0.mk (below_drew (pw_below_drewN (Below.refl w.heap.size w) nq))
    refine start_ (n := 12) (S := fun w' => (convert 22 9 (.slice (some ad) (N + 6) c)).run Try.prog w' = .ok (.string s2) w') (ds := []) #[false, false, false, false, false, false, false, false, false, false, false, false] (by kernel_rfl) rfl rfl ((HS.out _ HB.out)) (fun hHeld => ?_)
    refine pure_ (i := 0) (N := some 32) (v := ?_) (a' := ?_) #[true, false, false, false, false, false, false, false, false, false, false, false] rfl rfl (by kernel_rfl) (fun _ _ _ h => h) (Or.inl ⟨by rfl, ?_⟩) ?_ ?_
    rotate_left
    · intro w'
      go_simp
      with_reducible rfl
    rotate_left
    · simp only [Act.put, List.setIfInBounds_toArray, List.set_cons_zero, List.set_cons_succ, i64_w, i32_w]
      rfl
    refine pure_ (i := 1) (N := some 33) (v := ?_) (a' := ?_) #[true, true, false, false, false, false, false, false, false, false, false, false] rfl rfl (by kernel_rfl) (fun _ _ _ h => h) (Or.inl ⟨by rfl, ?_⟩) ?_ ?_
    rotate_left
    · intro w'
      go_simp
      with_reducible rfl
    rotate_left
    · simp only [Act.put, List.setIfInBounds_toArray, List.set_cons_zero, List.set_cons_succ, i64_w, i32_w]
      rfl
    refine pure_ (i := 2) (N := some 34) (v := ?_) (a' := ?_) #[true, true, true, false, false, false, false, false, false, false, false, false] rfl rfl (by kernel_rfl) (fun _ _ _ h => h) (Or.inl ⟨by rfl, ?_⟩) ?_ ?_
    rotate_left
    · intro w'
      go_simp
      with_reducible rfl
    rotate_left
    · simp only [Act.put, List.setIfInBounds_toArray, List.set_cons_zero, List.set_cons_succ, i64_w, i32_w]
      rfl
    refine pure_ (i := 3) (N := some 35) (v := ?_) (a' := ?_) #[true, true, true, true, false, false, false, false, false, false, false, false] rfl rfl (by kernel_rfl) (fun _ _ _ h => h) (Or.inl ⟨by rfl, ?_⟩) ?_ ?_
    rotate_left
    · intro w'
      go_simp
      with_reducible rfl
    rotate_left
    · simp only [Act.put, List.setIfInBounds_toArray, List.set_cons_zero, List.set_cons_succ, i64_w, i32_w]
      rfl
    refine pure_ (i := 6) (N := some 38) (v := ?_) (a' := ?_) #[true, true, true, true, false, false, true, false, false, false, false, false] rfl rfl (by kernel_rfl) (fun _ _ _ h => h) (Or.inl ⟨by rfl, ?_⟩) ?_ ?_
    rotate_left
    · intro w'
      go_simp
      with_reducible rfl
    rotate_left
    · simp only [Act.put, List.setIfInBounds_toArray, List.set_cons_zero, List.set_cons_succ, i64_w, i32_w]
      rfl
    refine pure_ (i := 7) (N := some 39) (v := ?_) (a' := ?_) #[true, true, true, true, false, false, true, true, false, false, false, false] rfl rfl (by kernel_rfl) (fun _ _ _ h => h) (Or.inl ⟨by rfl, ?_⟩) ?_ ?_
    rotate_left
    · intro w'
      go_simp
      with_reducible rfl
    rotate_left
    · simp only [Act.put, List.setIfInBounds_toArray, List.set_cons_zero, List.set_cons_succ, i64_w, i32_w]
      rfl
    refine pure_ (i := 8) (N := some 40) (v := ?_) (a' := ?_) #[true, true, true, true, false, false, true, true, true, false, false, false] rfl rfl (by kernel_rfl) (fun _ _ _ h => h) (Or.inl ⟨by rfl, ?_⟩) ?_ ?_
    rotate_left
    · intro w'
      go_simp
      with_reducible rfl
    rotate_left
    · simp only [Act.put, List.setIfInBounds_toArray, List.set_cons_zero, List.set_cons_succ, i64_w, i32_w]
      rfl
    refine pure_ (i := 9) (N := some 41) (v := ?_) (a' := ?_) #[true, true, true, true, false, false, true, true, true, true, false, false] rfl rfl (by kernel_rfl) (fun _ _ _ h => h) (Or.inl ⟨by rfl, ?_⟩) ?_ ?_
    rotate_left
    · intro w'
      go_simp
      with_reducible rfl
    rotate_left
    · simp only [Act.put, List.setIfInBounds_toArray, List.set_cons_zero, List.set_cons_succ, i64_w, i32_w]
      rfl
    refine take_ (i := 10) (N := some 42) (v := ?_) (a' := ?_) #[true, true, true, true, false, false, true, true, true, true, true, false] rfl rfl (by kernel_rfl) (fun _ _ _ h => h) (Or.inl ⟨by rfl, ?_⟩) hHeld ?_ ?_
    rotate_left
    · intro w' s0
      go_simp
      with_reducible rfl
    rotate_left
    · simp only [Act.put, List.setIfInBounds_toArray, List.set_cons_zero, List.set_cons_succ, i64_w, i32_w]
      rfl
    refine one_ (i := 4) (N := some 36) #[true, true, true, true, true, false, true, true, true, true, true, false] rfl rfl (by kernel_rfl) (by decide) (fun K hK => ?_)
    refine goes_ Try.func98 (by kernel_rfl) rfl #[.slice A1 N (c - 2)] (by rfl) rfl rfl (by simp only [List.map_toArray, List.map_cons, List.map_nil]; rfl) ?_
    with_reducible refine (of_p A1 (c - 2) p N HPL.out hpc (HP.out _ (Kd.C_below H.out HB.out)) OF.out).mono ?_
    rintro e w2 ⟨A2, c2, rfl, hC2, hb⟩
    refine ⟨_, rfl, ?_⟩
    have hcv2 := Kd.C_string (P := Try.prog) (c := c2) Try.underlying22 Try.underlying5 Try.underlying9 hC2
    rw [HS1.out] at hcv2
    have HB2 := Aside0.mk (below_step HB.out hb)
    clear hb hC2
    refine hK.out _ _ ((HS.out _ HB2.out)) (fun hHeld => ?_)
    clear hK K
    refine norm_ (a' := ?_) ?_ ?_
    rotate_left
    · show Act.put _ (some 36) _ = _
      simp only [Act.put, List.setIfInBounds_toArray, List.set_cons_zero, List.set_cons_succ, i64_w, i32_w]
      rfl
    refine one_ (i := 5) (N := some 37) #[true, true, true, true, true, true, true, true, true, true, true, false] rfl rfl (by kernel_rfl) (by decide) (fun K hK => ?_)
    refine value_ (w1 := ?_) (v := ?_) (by rfl) rfl ?_ ?_
    rotate_left 2
    · go_simp
      constructor
      · rfl
      · rfl
    refine hK.out _ _ ((HS.out _ HB2.out)) (fun hHeld => ?_)
    clear hK K
    refine norm_ (a' := ?_) ?_ ?_
    rotate_left
    · show Act.put _ (some 37) _ = _
      simp only [Act.put, List.setIfInBounds_toArray, List.set_cons_zero, List.set_cons_succ, i64_w, i32_w]
      rfl
    refine pure_ (i := 11) (N := some 43) (v := ?_) (a' := ?_) #[true, true, true, true, true, true, true, true, true, true, true, true] rfl rfl (by kernel_rfl) (fun _ _ _ h => h) (Or.inl ⟨by rfl, ?_⟩) ?_ ?_
    rotate_left
    · intro w'
      go_simp
      with_reducible rfl
    rotate_left
    · simp only [Act.put, List.setIfInBounds_toArray, List.set_cons_zero, List.set_cons_succ, i64_w, i32_w]
      rfl
    refine done_ (by kernel_rfl) ?_
    go_wp2
    go_ret3
    exact ⟨none, 0, [], 0, 3, rfl, E.out.symm, Nat.le_refl _, fun W _ => Kd.C_nil _ _, HB2.out⟩
theorem refGet_any (A : Option Addr) (c : Nat) (l : List Int) (w : World) (h : Kd.C (Kd.int .u8) w A l.length l) (hc : l.length ≤ c) (ok : okB l = true) (hl : l.length ≤ 2000) :
    Calls Try.prog 70 #[.slice A l.length c] w fun e w' => ∃ (A' : Option Addr) (c' : Nat) (r : List Int) (n x : Int), e = .returned (.tuple #[.slice A' r.length c', .int .i64 n, .int .i64 x]) ∧ (r, n, x) = getF l ∧ r.length ≤ c' ∧ (∀ W, Kd.C (Kd.int .u8) W A l.length l → Kd.C (Kd.int .u8) W A' r.length r) ∧ Below w.heap.size w w' := by
  by_cases h2 : l.length < 2
  · exact refGet_short A c l w h2
  · obtain ⟨ad, x0, x1, ht⟩ := two_of h ok (by omega)
    by_cases hg : 1 ≤ lenOf l ∧ lenOf l ≤ 1000 ∧ lenOf l + 6 ≤ l.length
    · obtain ⟨A1, p, hp, hpl, hcut, hpC, hpc⟩ := mid_cut A c l (lenOf l) (by omega) hc
      have hanew := frame_anew ok hg.2.1 hg.2.2
      rw [← hp] at hanew
      refine refGet_good A c l w ad x0 x1 (lenOf l) ht h hc (by omega) hl hg.1 hg.2.1 hg.2.2 A1 p hpl hcut ⟨hpC⟩ hpc ⟨?_⟩ ⟨hanew⟩ (by rw [hp]; exact okB_drop (okB_take ok _) _) ok
      rw [hp]
      unfold getF
      rw [if_neg h2, if_pos hg]
    · exact refGet_bad A c l w ad x0 x1 (lenOf l) ht (by omega) hl ⟨by unfold getF; rw [if_neg h2, if_neg hg]⟩ hg
end Go.Proofs.Ytbcienbnhchdeaa.Hand

/- All frames of any bytes: the second reading, by hand; the law's contract. -/
namespace Go.Proofs.Ytbcienbnhchdeaa.Hand
open Go Go.RowKit Go.Proofs.YtbcienbnhchdeaaW.PrintLast Go.Proofs.YtbcienbnhchdeaaW.PrintWords Go.Proofs.YtbcienbnhchdeaaW.PrintMore Print FrameC FrameL FrameS FrameR
set_option linter.unusedVariables false
set_option linter.unusedSimpArgs false
attribute [local go_sem] max2_int min2_int max_two min_two

theorem getF_ok {b p : List Int} {m : Int} (h : getF b = (p, m, 0)) : ∃ q : Nat, m = (q : Int) ∧ 7 ≤ q ∧ q ≤ b.length := by
  unfold getF at h
  by_cases h1 : b.length < 2
  · rw [if_pos h1] at h
    simp at h
  · rw [if_neg h1] at h
    by_cases h2 : 1 ≤ lenOf b ∧ lenOf b ≤ 1000 ∧ lenOf b + 6 ≤ b.length
    · rw [if_pos h2] at h
      by_cases h3 : GoodP (b.take (lenOf b + 6))
      · rw [if_pos h3] at h
        injection h with _ h4
        injection h4 with h5 _
        exact ⟨lenOf b + 6, h5.symm, by omega, h2.2.2⟩
      · rw [if_neg h3] at h
        simp at h
    · rw [if_neg h2] at h
      simp at h
/-- The rows in the second reading's loop. -/
structure ScanRel (w wr : World) (v : Value) (acc : List (List Int)) : Prop where
  row : Kd.N (Kd.slice 5 (Kd.int .u8)) 22 wr w.heap.size (fun _ => True) v acc
  below : Below w.heap.size w wr
/-- What is left to scan. -/
def Left (b : List Int) (acc : List (List Int)) (n : Nat) (r1 : List (List Int)) (r2 r3 : Int) : Prop := acc.length ≤ n ∧ ∃ k, frame_Scan.l0 k b acc (n : Int) = some (r1, r2, r3)
theorem Left.end_ {b : List Int} {acc : List (List Int)} {r1 : List (List Int)} {r2 r3 : Int} (h : Left b acc b.length r1 r2 r3) : r1 = acc ∧ r2 = (b.length : Int) ∧ r3 = 0 := by
  obtain ⟨_, k, h⟩ := h
  cases k with
  | zero => simp [frame_Scan.l0] at h
  | succ k =>
    rw [scan_end] at h
    simp only [Option.some.injEq, Prod.mk.injEq] at h
    exact ⟨h.1.symm, h.2.1.symm, h.2.2.symm⟩
theorem Left.step {b p : List Int} {acc : List (List Int)} {n q : Nat} {r1 : List (List Int)} {r2 r3 : Int} (h : Left b acc n r1 r2 r3) (ok : okB b = true) (hl : b.length ≤ 2000) (hn : n < b.length) (hg : getF (b.drop n) = (p, (q : Int), 0)) (hq : 1 ≤ q ∧ n + q ≤ b.length) : Left b (acc ++ [p]) (n + q) r1 r2 r3 := by
  obtain ⟨ha, k, h⟩ := h
  refine ⟨by rw [List.length_append, List.length_singleton]; omega, ?_⟩
  cases k with
  | zero => simp [frame_Scan.l0] at h
  | succ k =>
    have hw : wrap64 ((n : Int) + (q : Int)) = ((n + q : Nat) : Int) := by unfold wrap64; omega
    have c1 : ¬ (n : Int) = (b.length : Int) := by omega
    have c2 : (0 : Int) ≤ (n : Int) ∧ (n : Int) ≤ (b.length : Int) := ⟨by omega, by omega⟩
    have c3 : acc.length < 5864062014805 := by omega
    rw [frame_Scan.l0, if_neg c1, if_pos c2, Int.toNat_natCast, get_eq (okB_drop ok n) (by rw [List.length_drop]; omega) 0, hg, bind_s, if_pos rfl, if_pos c3, hw] at h
    exact ⟨k, h⟩
theorem Left.stop {b p : List Int} {acc : List (List Int)} {n : Nat} {m x : Int} {r1 : List (List Int)} {r2 r3 : Int} (h : Left b acc n r1 r2 r3) (ok : okB b = true) (hl : b.length ≤ 2000) (hn : n < b.length) (hg : getF (b.drop n) = (p, m, x)) (hx : x ≠ 0) : r1 = acc ∧ r2 = (n : Int) ∧ r3 = x := by
  obtain ⟨_, k, h⟩ := h
  cases k with
  | zero => simp [frame_Scan.l0] at h
  | succ k =>
    rw [scan_stop ok (by omega) hn hg hx] at h
    simp only [Option.some.injEq, Prod.mk.injEq] at h
    exact ⟨h.1.symm, h.2.1.symm, h.2.2.symm⟩
/-- 'b[n:]'. -/
theorem tail_cut (A : Option Addr) (c : Nat) (l : List Int) (n : Nat) (hn : n ≤ l.length) (hc : l.length ≤ c) : ∃ A1 : Option Addr, (∀ W : World, (Instr.slice 22 (.slice A l.length c) (some (.int .i64 (n : Int))) none none).run Try.prog W = .ok (.slice A1 (l.drop n).length (c - n)) W) ∧
    (∀ W, Kd.C (Kd.int .u8) W A l.length l → Kd.C (Kd.int .u8) W A1 (l.drop n).length (l.drop n)) ∧ (l.drop n).length ≤ c - n := by
  obtain ⟨i0, hi0, _, hsz, _⟩ := info_parts info5
  obtain ⟨A1, h1, h2, h3⟩ := print_drop_of (P := Try.prog) (Value.int .u8) (0 : Int) 22 5 .i64 Try.underlying22 hi0 hsz A c l (n : Int) (by omega) (by omega) hc
  rw [Int.toNat_natCast] at h1 h2 h3
  exact ⟨A1, h1, fun W h => Kd.C_of_reads (enc := Value.int .u8) (d := (0 : Int)) (h1 := fun _ => rfl) (h2 W (Kd.reads_of_C (enc := Value.int .u8) (d := (0 : Int)) (h1 := fun _ => rfl) h)), h3⟩
set_option maxRecDepth 100000 in
set_option maxHeartbeats 4000000 in
theorem refScan_any (A : Option Addr) (c : Nat) (b : List Int) (r1 : List (List Int)) (r2 r3 : Int) (w : World) (h : Kd.C (Kd.int .u8) w A b.length b) (hc : b.length ≤ c) (ok : okB b = true) (hl : b.length ≤ 2000) (hf : frame_Scan.f b = some (r1, r2, r3)) :
    Calls Try.prog 71 #[.slice A b.length c] w fun e w' => ∃ (A' : Option Addr) (c' : Nat), e = .returned (.tuple #[.slice A' r1.length c', .int .i64 r2, .int .i64 r3]) ∧ r1.length ≤ c' ∧ Kd.C (Kd.slice 5 (Kd.int .u8)) w' A' r1.length r1 ∧ Below w.heap.size w w' := by
  have H := Aside0.mk h
  have OK := Aside0.mk ok
  have HL0 := Lib.hid (show ScanRel w w (.slice none 0 0) [] ∧ Left b [] 0 r1 r2 r3 from ⟨⟨Kd.N_nil _ _ _ _ _, Below.refl _ _⟩, by simp, _, hf⟩)
  clear h ok hf
  go_enter Try.func71, Try.ntmps71
  go_wp2
  go_loopw [5, 6] (fun v i wr => ∃ n : Nat, n ≤ b.length ∧ i = .int .i64 (n : Int) ∧ Hid (∃ acc, ScanRel w wr v acc ∧ Left b acc n r1 r2 r3)) (fun _ i _ => b.length - (intOf i).toNat)
  case atStart => exact ⟨0, by omega, rfl, Lib.hid ⟨[], HL0.out⟩⟩
  case round =>
    obtain ⟨n, hn, rfl, HC⟩ := hrel
    clear HL0
    obtain ⟨acc, hrow, hleft⟩ := HC.out
    obtain ⟨A5, c5, rfl⟩ := Kd.N_slice hrow.row
    have HROW := Lib.hid hrow
    have HLEFT := Lib.hid hleft
    clear hrow hleft HC
    by_cases hlt : n < b.length
    · obtain ⟨A1, hcut, hAC, hcc⟩ := tail_cut A c b n (by omega) hc
      have HAC := Aside0.mk hAC
      have HDL := Aside0.mk (show (b.drop n).length ≤ 2000 by rw [List.length_drop]; omega)
      have HD1 := Aside0.mk hcc
      obtain ⟨p, m, x, hg⟩ : ∃ p m x, getF (b.drop n) = (p, m, x) := ⟨_, _, _, rfl⟩
      have HG := Aside0.mk hg
      clear hAC hcc
      generalize hdn : (b.drop n).length = dn at hcut
      have GET : Aside0 (∀ W, Below w.heap.size w W → Calls Try.prog 70 #[.slice A1 dn (c - n)] W fun e w' => ∃ (A' : Option Addr) (c' : Nat), e = .returned (.tuple #[.slice A' p.length c', .int .i64 m, .int .i64 x]) ∧ p.length ≤ c' ∧ Kd.C (Kd.int .u8) w A' p.length p ∧ Below W.heap.size W w') := Aside0.mk (fun W hW => by
        rw [← hdn]
        refine (refGet_any A1 (c - n) (b.drop n) W (HAC.out _ (Kd.C_below H.out hW)) HD1.out (okB_drop OK.out n) HDL.out).mono ?_
        rintro e w' ⟨A', c', r', m', x', he, hr, h3, h4, h5⟩
        rw [HG.out] at hr
        injection hr with e1 e2
        injection e2 with e2 e3
        subst e1 e2 e3
        exact ⟨A', c', he, h3, h4 w (HAC.out _ H.out), h5⟩)
      clear hdn HAC HDL HD1
      by_cases hx : x = 0
      · subst hx
        obtain ⟨q, rfl, hq7, hqb⟩ := getF_ok hg
        have hqn : n + q ≤ b.length := by rw [List.length_drop] at hqb; omega
        clear hqb hg
        go_wp2_with (first
          | (go_at_call 70; refine (GET.out _ HROW.out.below).mono ?_; rintro e w1 ⟨A6, c6, rfl, hc6, hC6, hb⟩; have HC6 := Aside0.mk hC6; have HB1 := Aside0.mk hb; clear hC6 hb GET)
          | (at_builtin
             refine Kd.N_append (Kd.slice 5 (Kd.int .u8)) (w0 := w) w.heap.size rfl (.tmp 27) (.tmp 29) 65 22 (.slice none 0 0) 24 rfl Try.underlying65 info22 rfl (by decide) (by omega) (.slice A5 acc.length c5) acc p [.slice A6 p.length c6] (fun _ => True) (fun k => k < w.heap.size) rfl rfl ?aP ?aK (fun _ _ => trivial) ?aO ?aB ?aS ?aL ?_
             case aP => exact Kd.FK_slice_mk hc6 (Kd.F_below (Kd.C_F (Kd.heap_int .u8) HC6.out) (below_step HROW.out.below HB1.out))
             case aK => intro k hk; refine ⟨trivial, fun he => ?_⟩; have := Kd.N_base HROW.out.row k he.symm; omega
             case aO => exact Kd.N_below HROW.out.row HB1.out
             case aB => exact below_step HROW.out.below HB1.out
             case aS => have h1 := HROW.out.below.size; have h2 := HB1.out.size; omega
             case aL => have h1 := HLEFT.out.1; omega
             intro v1 w2 hr hb2 hg hat
             have HROW2 := Lib.hid (show ScanRel w w2 v1 (acc ++ [p]) from ⟨hr, hb2⟩)
             clear hr hb2 hg hat HROW HB1 HC6))
        go_roundw
        case rel => exact ⟨n + q, hqn, by go_num, Lib.hid ⟨_, HROW2.out, HLEFT.out.step OK.out hl hlt HG.out ⟨by omega, hqn⟩⟩⟩
        case measure => simp [intOf]; omega
      · have hxi : ((x : Int) == 0) = false := beq_eq_false_iff_ne.mpr hx
        go_wp2_with (first
          | (go_at_call 70; refine (GET.out _ HROW.out.below).mono ?_; rintro e w1 ⟨A6, c6, rfl, hc6, hC6, hb⟩; have HB1 := Aside0.mk hb; clear hC6 hb GET))
        go_ret3
        obtain ⟨rfl, rfl, rfl⟩ := HLEFT.out.stop OK.out hl hlt HG.out hx
        exact ⟨A5, c5, rfl, (Kd.N_reads' HROW.out.row).2.1, Kd.C_below (Kd.N_reads' HROW.out.row).2.2 HB1.out, below_step HROW.out.below HB1.out⟩
    · have HN := Aside0.mk (show n = b.length by omega)
      go_wp2
      go_ret3
      have e := HN.out
      subst e
      obtain ⟨rfl, rfl, rfl⟩ := HLEFT.out.end_
      exact ⟨A5, c5, rfl, (Kd.N_reads' HROW.out.row).2.1, (Kd.N_reads' HROW.out.row).2.2, HROW.out.below⟩
end Go.Proofs.Ytbcienbnhchdeaa.Hand

/- Never are there more bytes than room; what is refused leaves all as it was: the law's contract. -/
namespace Go.Proofs.Ytbcienbnhchdeaa.Hand
open Go Go.RowKit Go.Proofs.YtbcienbnhchdeaaW.PrintLast Go.Proofs.YtbcienbnhchdeaaW.PrintWords Go.Proofs.YtbcienbnhchdeaaW.PrintMore PrD
set_option linter.unusedVariables false
set_option linter.unusedSimpArgs false
attribute [local go_sem] max2_int min2_int max_two min_two

theorem new_all (n : Int) (w : World) : Calls Try.prog 37 #[.int .i64 n] w fun e w' =>
    e = .returned (.pointer (some ⟨w.heap.size, 0, none⟩)) ∧ (∀ ok, DiskAt w' w.heap.size ok (roomOf n) 0 []) ∧ Below w.heap.size w w' := by
  refine (new_any n w (fun _ => False)).mono fun e w' ⟨he, hd, hb⟩ => ⟨he, fun ok => hd.mono (fun k hk => hk.elim), hb⟩
theorem cut_int {w : World} {g : Nat} {ok : Nat → Prop} {room safe : Nat} {bs : List Int} (x : Int) (n : Nat) (hx : x = (n : Int)) (h : DiskAt w g ok room safe bs) (hn : n ≤ bs.length) : Calls Try.prog 57 #[.pointer (some ⟨g, 0, none⟩), .int .i64 x] w fun e w' =>
    e = .returned (.int .i64 0) ∧ DiskAt w' g ok room n (bs.take n) ∧ Moved w w' (OfDisk g ok) := by
  subst hx
  exact cut_ok n h hn
/-- A number of a small row. -/
theorem small_rem (a : Int) (m : Int) (h0 : 0 < m) (h1 : m ≤ 100000) : ∃ r : Nat, (r : Int) < m ∧ wrap64 (Int.tmod (IntKind.u64.wrap a) m) = (r : Int) := by
  have h0' : 0 ≤ IntKind.u64.wrap a := by rw [IntKind.wrap_u64]; omega
  have h1' : Int.tmod (IntKind.u64.wrap a) m = IntKind.u64.wrap a % m := Int.tmod_eq_emod_of_nonneg h0'
  have h2 : 0 ≤ IntKind.u64.wrap a % m := Int.emod_nonneg _ (by omega)
  have h3 : IntKind.u64.wrap a % m < m := Int.emod_lt_of_pos _ h0
  exact ⟨(IntKind.u64.wrap a % m).toNat, by omega, by rw [h1']; unfold wrap64; omega⟩
theorem at_step {W : World} {ok : Nat → Prop} {A : Option Addr} {m c : Nat} {l : List S52} (h : Kd.V k52 52 W 0 ok (.slice A m c) l) {n : Nat} (hn : n < l.length) :
    ∃ ad A2 c2, A = some ad ∧ W.cell? (ad.add (n * 3)) = some (.int .i64 (rd_T52 l (n : Int)).f0) ∧ W.cell? ⟨(ad.add (n * 3)).block, (ad.add (n * 3)).off + 1, none⟩ = some (.int .i64 (rd_T52 l (n : Int)).f1) ∧ W.cell? ⟨(ad.add (n * 3)).block, (ad.add (n * 3)).off + 2, none⟩ = some (.slice A2 (rd_T52 l (n : Int)).f2.length c2) ∧ (rd_T52 l (n : Int)).f2.length ≤ c2 ∧ Kd.C (Kd.int .u8) W A2 (rd_T52 l (n : Int)).f2.length (rd_T52 l (n : Int)).f2 := by
  obtain ⟨e, _, hC⟩ := Kd.V_reads' h
  have h1 := at_T52 hC (n : Int) (by omega) (by omega)
  rw [Int.toNat_natCast] at h1
  exact h1
theorem step_mem {l : List S52} {n : Nat} (hn : n < l.length) : rd_T52 l (n : Int) ∈ l := by
  unfold rd_T52
  rw [Int.toNat_natCast, List.getD_eq_getElem?_getD, List.getElem?_eq_getElem hn]
  exact List.getElem_mem hn
/-- A disk beside a script. -/
structure DiskScript (w wr : World) (N3 g : Nat) (room safe : Nat) (bs : List Int) (v : Value) (l : List S52) : Prop where
  d : DiskAt wr g (fun k => N3 ≤ k) room safe bs
  s : Kd.V k52 52 wr 0 (fun k => k < N3 ∧ k ≠ g) v l
  hN : w.heap.size ≤ N3
  hg : w.heap.size ≤ g
  below : Below w.heap.size w wr
  hs : N3 ≤ wr.heap.size
theorem DiskScript.moved {w wr w1 : World} {N3 g room safe safe' : Nat} {bs bs' : List Int} {v : Value} {l : List S52} (h : DiskScript w wr N3 g room safe bs v l) (hd : DiskAt w1 g (fun k => N3 ≤ k) room safe' bs') (hm : Moved wr w1 (OfDisk g (fun k => N3 ≤ k))) : DiskScript w w1 N3 g room safe' bs' v l :=
  ⟨hd, Kd.V_kept h.s hm.kept (fun k hk hS => hS.elim (fun e => hk.2 e) (fun e => by have := hk.1; omega)), h.hN, h.hg, Moved.from_below h.below hm (fun k hk => hk.elim (fun e => by have := h.hg; omega) (fun e => by have := h.hN; omega)) h.below.size, Nat.le_trans h.hs hm.size⟩
theorem DiskScript.drewN {w wr : World} {N3 g room safe : Nat} {bs : List Int} {v : Value} {l : List S52} (h : DiskScript w wr N3 g room safe bs v l) (n : Nat) : DiskScript w (wr.drewN n) N3 g room safe bs v l := ⟨h.d.drewN n, Kd.V_drewN h.s n, h.hN, h.hg, pw_below_drewN h.below n, h.hs⟩
theorem DiskScript.next {w wr w1 : World} {N3 g room safe : Nat} {bs : List Int} {v : Value} {l : List S52} (h : DiskScript w wr N3 g room safe bs v l) (hb : Below wr.heap.size wr w1) : DiskScript w w1 N3 g room safe bs v l :=
  ⟨h.d.below hb, Kd.V_below h.s hb, h.hN, h.hg, below_step h.below hb, Nat.le_trans h.hs hb.size⟩

end Go.Proofs.Ytbcienbnhchdeaa.Hand

/- The second reading's disk: a crash, a cut, a swap (the print tells the others). -/
namespace Go.Proofs.Ytbcienbnhchdeaa.Hand
open Go Go.RowKit Go.Proofs.YtbcienbnhchdeaaW.PrintLast Go.Proofs.YtbcienbnhchdeaaW.PrintWords Go.Proofs.YtbcienbnhchdeaaW.PrintMore PrD
set_option linter.unusedVariables false
set_option linter.unusedSimpArgs false
attribute [local go_sem] max2_int min2_int max_two min_two

set_option maxRecDepth 100000 in
set_option maxHeartbeats 1000000 in
theorem ref_crash (room : Int) (sa sb : ByteArray) (keep : Int) (K : Nat) (hK : keepOf keep sb.size = K) (hsz : sa.size + sb.size ≤ 1000000000) (w : World) :
    Calls Try.prog 55 #[.agg #[.int .i64 room, .string sa, .string sb], .int .i64 keep] w fun e w' => e = .returned (.tuple #[.agg #[.int .i64 room, .string (sa ++ sb.extract 0 K), .string ⟨#[]⟩], .int .i64 ((sb.size : Int) - (K : Int))]) ∧ Below w.heap.size w w' := by
  obtain ⟨M, hM⟩ : ∃ M : Int, (if keep < 0 then 0 else keep) = M := ⟨_, rfl⟩
  have hmn := keep_min keep sb.size
  have hle := keepOf_le keep sb.size
  rw [hK] at hle
  rw [hK, hM] at hmn
  have hK0 : (0 : Int) ≤ (K : Int) := by omega
  have hK1 : (K : Int) ≤ (sb.size : Int) := by omega
  have hx : (9223372036854775807 < sa.size + (sb.extract 0 K).size) = False := by simp; omega
  have hx2 : (9223372036854775807 < sa.size + K) = False := by simp; omega
  have hx3 : (9223372036854775807 < sa.size + min K sb.size) = False := by simp; omega
  clear hK
  go_enter Try.func55, Try.ntmps55
  go_wp2
  refine start_ (n := 9) (S := fun w' => w'.cell? ⟨w.heap.size, 1, none⟩ = some (.string sa) ∧ w'.cell? ⟨w.heap.size, 2, none⟩ = some (.string sb)) (ds := [8]) #[false, false, false, false, false, false, false, false, false] (by kernel_rfl) rfl rfl ⟨(by go_simp), (by go_simp)⟩ (fun hHeld => ?_)
  refine pure_ (i := 0) (N := some 19) (v := ?_) (a' := ?_) #[true, false, false, false, false, false, false, false, false] rfl rfl (by kernel_rfl) (fun _ _ _ h => h) (Or.inl ⟨by rfl, ?_⟩) ?_ ?_
  rotate_left
  · intro w'
    go_simp
    with_reducible rfl
  rotate_left
  · simp only [Act.put, List.setIfInBounds_toArray, List.set_cons_zero, List.set_cons_succ, i64_w, i32_w]
    rfl
  refine pure_ (i := 2) (N := some 21) (v := ?_) (a' := ?_) #[true, false, true, false, false, false, false, false, false] rfl rfl (by kernel_rfl) (fun _ _ _ h => h) (Or.inl ⟨by rfl, ?_⟩) ?_ ?_
  rotate_left
  · intro w'
    go_simp
    with_reducible rfl
  rotate_left
  · simp only [Act.put, List.setIfInBounds_toArray, List.set_cons_zero, List.set_cons_succ, i64_w, i32_w]
    rfl
  refine pure_ (i := 4) (N := some 23) (v := ?_) (a' := ?_) #[true, false, true, false, true, false, false, false, false] rfl rfl (by kernel_rfl) (fun _ _ _ h => h) (Or.inl ⟨by rfl, ?_⟩) ?_ ?_
  rotate_left
  · intro w'
    go_simp
    with_reducible rfl
  rotate_left
  · simp only [Act.put, List.setIfInBounds_toArray, List.set_cons_zero, List.set_cons_succ, i64_w, i32_w]
    rfl
  refine take_ (i := 1) (N := some 20) (v := ?_) (a' := ?_) #[true, true, true, false, true, false, false, false, false] rfl rfl (by kernel_rfl) (fun _ _ _ h => h) (Or.inl ⟨by rfl, ?_⟩) hHeld ?_ ?_
  rotate_left
  · rintro w' ⟨s0, s1⟩
    go_simp
    with_reducible rfl
  rotate_left
  · simp only [Act.put, List.setIfInBounds_toArray, List.set_cons_zero, List.set_cons_succ, i64_w, i32_w]
    rfl
  refine take_ (i := 3) (N := some 22) (v := ?_) (a' := ?_) #[true, true, true, true, true, false, false, false, false] rfl rfl (by kernel_rfl) (fun _ _ _ h => h) (Or.inl ⟨by rfl, ?_⟩) hHeld ?_ ?_
  rotate_left
  · rintro w' ⟨s0, s1⟩
    go_simp
    with_reducible rfl
  rotate_left
  · simp only [Act.put, List.setIfInBounds_toArray, List.set_cons_zero, List.set_cons_succ, i64_w, i32_w]
    rfl
  refine pure_ (i := 5) (N := some 24) (v := ?_) (a' := ?_) #[true, true, true, true, true, true, false, false, false] rfl rfl (by kernel_rfl) (fun _ _ _ h => h) (Or.inl ⟨by rfl, ?_⟩) ?_ ?_
  rotate_left
  · intro w'
    go_simp
    with_reducible rfl
  rotate_left
  · simp only [Act.put, List.setIfInBounds_toArray, List.set_cons_zero, List.set_cons_succ, i64_w, i32_w]
    rfl
  refine pure_ (i := 6) (N := some 25) (v := ?_) (a' := ?_) #[true, true, true, true, true, true, true, false, false] rfl rfl (by kernel_rfl) (fun _ _ _ h => h) (Or.inl ⟨by rfl, ?_⟩) ?_ ?_
  rotate_left
  · intro w'
    go_simp
    with_reducible rfl
  rotate_left
  · simp only [Act.put, List.setIfInBounds_toArray, List.set_cons_zero, List.set_cons_succ, i64_w, i32_w]
    rfl
  refine pure_ (i := 7) (N := some 26) (v := ?_) (a' := ?_) #[true, true, true, true, true, true, true, true, false] rfl rfl (by kernel_rfl) (fun _ _ _ h => h) (Or.inl ⟨by rfl, ?_⟩) ?_ ?_
  rotate_left
  · intro w'
    go_simp
    with_reducible rfl
  rotate_left
  · simp only [Act.put, List.setIfInBounds_toArray, List.set_cons_zero, List.set_cons_succ, i64_w, i32_w]
    rfl
  refine last_ (i := 8) (N := none) #[true, true, true, true, true, true, true, true, true] rfl rfl (by kernel_rfl) (by decide) (fun K hK => ?_)
  refine skip_ (w1 := ?_) (by rfl) rfl ?_ ?_
  rotate_left
  · go_simp
    rfl
  refine hK.out _ _ ?_
  clear hK K
  refine done_ (by kernel_rfl) ?_
  go_wp2
  exact bodyPost_ret (v := .tuple #[.agg #[.int .i64 room, .string (sa ++ sb.extract 0 K), .string ⟨#[]⟩], .int .i64 ((sb.size : Int) - (K : Int))]) (by simp [results, Try.results55, go_sem]) rfl ⟨rfl, below_drew (below_alloc (below_alloc (Below.refl _ _) _) _)⟩
set_option maxRecDepth 100000 in
set_option maxHeartbeats 1000000 in
theorem ref_cut_ok (room : Int) (sa sb sc : ByteArray) (x : Int) (N : Nat) (hx : x = (N : Int)) (hsz : sa.size + sb.size ≤ 1000000000) (hc : sa ++ sb = sc) (hN : N ≤ sc.size) (w : World) :
    Calls Try.prog 56 #[.agg #[.int .i64 room, .string sa, .string sb], .int .i64 x] w fun e w' => e = .returned (.tuple #[.agg #[.int .i64 room, .string (sc.extract 0 N), .string ⟨#[]⟩], .int .i64 0]) ∧ Below w.heap.size w w' := by
  subst hx
  have hx2 : (9223372036854775807 < sa.size + sb.size) = False := by simp; omega
  have hN1 : (N : Int) ≤ (sc.size : Int) := by omega
  have hss : sc.size = sa.size + sb.size := by rw [← hc, ByteArray.size_append]
  have hsb : sc.size ≤ 1000000000 := by omega
  clear hss
  go_enter Try.func56, Try.ntmps56
  go_wp2
  exact bodyPost_ret (v := .tuple #[.agg #[.int .i64 room, .string (sc.extract 0 N), .string ⟨#[]⟩], .int .i64 0]) (by simp [results, Try.results56, go_sem]) rfl ⟨rfl, below_alloc (below_alloc (Below.refl _ _) _) _⟩
set_option maxRecDepth 100000 in
set_option maxHeartbeats 1000000 in
theorem ref_cut_bad (room : Int) (sa sb sc : ByteArray) (x : Int) (hsz : sa.size + sb.size ≤ 1000000000) (hc : sa ++ sb = sc) (hN : x < 0 ∨ (sc.size : Int) < x) (w : World) :
    Calls Try.prog 56 #[.agg #[.int .i64 room, .string sa, .string sb], .int .i64 x] w fun e w' => e = .returned (.tuple #[.agg #[.int .i64 room, .string sa, .string sb], .int .i64 1]) ∧ Below w.heap.size w w' := by
  have hx2 : (9223372036854775807 < sa.size + sb.size) = False := by simp; omega
  by_cases h0 : x < 0
  · clear hN
    go_enter Try.func56, Try.ntmps56
    go_wp2
    exact bodyPost_ret (v := .tuple #[.agg #[.int .i64 room, .string sa, .string sb], .int .i64 1]) (by simp [results, Try.results56, go_sem]) rfl ⟨rfl, below_alloc (below_alloc (Below.refl _ _) _) _⟩
  · have h1 : (sc.size : Int) < x := by omega
    clear hN
    go_enter Try.func56, Try.ntmps56
    go_wp2
    exact bodyPost_ret (v := .tuple #[.agg #[.int .i64 room, .string sa, .string sb], .int .i64 1]) (by simp [results, Try.results56, go_sem]) rfl ⟨rfl, below_alloc (below_alloc (Below.refl _ _) _) _⟩
set_option maxRecDepth 100000 in
set_option maxHeartbeats 1000000 in
theorem ref_swap_ok (room : Nat) (sa sb sl : ByteArray) (h : sl.size ≤ room) (w : World) :
    Calls Try.prog 58 #[.agg #[.int .i64 (room : Int), .string sa, .string sb], .string sl] w fun e w' => e = .returned (.tuple #[.agg #[.int .i64 (room : Int), .string sl, .string ⟨#[]⟩], .int .i64 0]) ∧ Below w.heap.size w w' := by
  have h1 : (sl.size : Int) ≤ (room : Int) := by omega
  go_enter Try.func58, Try.ntmps58
  go_wp2
  exact bodyPost_ret (v := .tuple #[.agg #[.int .i64 (room : Int), .string sl, .string ⟨#[]⟩], .int .i64 0]) (by simp [results, Try.results58, go_sem]) rfl ⟨rfl, below_alloc (below_alloc (Below.refl _ _) _) _⟩
set_option maxRecDepth 100000 in
set_option maxHeartbeats 1000000 in
theorem ref_swap_full (room : Nat) (sa sb sl : ByteArray) (h : room < sl.size) (w : World) :
    Calls Try.prog 58 #[.agg #[.int .i64 (room : Int), .string sa, .string sb], .string sl] w fun e w' => e = .returned (.tuple #[.agg #[.int .i64 (room : Int), .string sa, .string sb], .int .i64 4]) ∧ Below w.heap.size w w' := by
  have h1 : (room : Int) < (sl.size : Int) := by omega
  go_enter Try.func58, Try.ntmps58
  go_wp2
  exact bodyPost_ret (v := .tuple #[.agg #[.int .i64 (room : Int), .string sa, .string sb], .int .i64 4]) (by simp [results, Try.results58, go_sem]) rfl ⟨rfl, below_alloc (below_alloc (Below.refl _ _) _) _⟩
theorem ref_write_ok (room : Nat) (sa sb sl : ByteArray) (h : sa.size + sb.size + sl.size ≤ room) (hr : room ≤ 1048576) (w : World) :
    Calls Try.prog 53 #[.agg #[.int .i64 (room : Int), .string sa, .string sb], .string sl] w fun e w' => e = .returned (.tuple #[.agg #[.int .i64 (room : Int), .string sa, .string (sb ++ sl)], .int .i64 0]) ∧ Below w.heap.size w w' := by
  refine pacesetterref05_Write.calls (room : Int) sa sb sl (room : Int) sa (sb ++ sl) 0 w ?_
  have e : wrap64 (wrap64 ((sa.size : Int) + (sb.size : Int)) + (sl.size : Int)) = ((sa.size + sb.size + sl.size : Nat) : Int) := by unfold wrap64; omega
  unfold pacesetterref05_Write.f
  rw [e, if_neg (by omega), if_pos (by omega)]
theorem ref_write_full (room : Nat) (sa sb sl : ByteArray) (h : room < sa.size + sb.size + sl.size) (hr : sa.size + sb.size ≤ 1048576) (hl : sl.size ≤ 1000000) (w : World) :
    Calls Try.prog 53 #[.agg #[.int .i64 (room : Int), .string sa, .string sb], .string sl] w fun e w' => e = .returned (.tuple #[.agg #[.int .i64 (room : Int), .string sa, .string sb], .int .i64 4]) ∧ Below w.heap.size w w' := by
  refine pacesetterref05_Write.calls (room : Int) sa sb sl (room : Int) sa sb 4 w ?_
  have e : wrap64 (wrap64 ((sa.size : Int) + (sb.size : Int)) + (sl.size : Int)) = ((sa.size + sb.size + sl.size : Nat) : Int) := by unfold wrap64; omega
  unfold pacesetterref05_Write.f
  rw [e, if_pos (by omega)]
theorem ref_sync (room : Int) (sa sb : ByteArray) (h : sa.size + sb.size ≤ 1048576) (w : World) :
    Calls Try.prog 54 #[.agg #[.int .i64 room, .string sa, .string sb]] w fun e w' => e = .returned (.tuple #[.agg #[.int .i64 room, .string (sa ++ sb), .string ⟨#[]⟩], .int .i64 (sb.size : Int)]) ∧ Below w.heap.size w w' := by
  refine pacesetterref05_Sync.calls room sa sb room (sa ++ sb) ⟨#[]⟩ (sb.size : Int) w ?_
  unfold pacesetterref05_Sync.f
  rw [if_pos (by omega)]
theorem ref_new (n : Int) (w : World) :
    Calls Try.prog 50 #[.int .i64 n] w fun e w' => e = .returned (.agg #[.int .i64 ((roomOf n : Nat) : Int), .string ⟨#[]⟩, .string ⟨#[]⟩]) ∧ Below w.heap.size w w' := by
  refine pacesetterref05_New.calls n ((roomOf n : Nat) : Int) ⟨#[]⟩ ⟨#[]⟩ w ?_
  have e : mn (mx n 0) 1048576 = ((roomOf n : Nat) : Int) := by
    unfold mn mx roomOf
    split <;> split <;> (try split) <;> (try split) <;> omega
  unfold pacesetterref05_New.f
  rw [e]
end Go.Proofs.Ytbcienbnhchdeaa.Hand

/- A disk, in whatever row: the law's contract. -/
namespace Go.Proofs.Ytbcienbnhchdeaa.Hand
open Go Go.RowKit Go.Proofs.YtbcienbnhchdeaaW.PrintLast Go.Proofs.YtbcienbnhchdeaaW.PrintWords Go.Proofs.YtbcienbnhchdeaaW.PrintMore PrD
set_option linter.unusedVariables false
set_option linter.unusedSimpArgs false
attribute [local go_sem] max2_int min2_int max_two min_two

/-- A disk beside its second reading and a script. -/
structure Play (w wr : World) (N3 g R room safe : Nat) (bs : List Int) (sa sb : ByteArray) (v : Value) (l : List S52) : Prop where
  d : DiskAt wr g (fun k => N3 ≤ k) room safe bs
  r : wr.heap[R]? = some (.cells #[.int .i64 (room : Int), .string sa, .string sb] 48 (0, 0))
  s : Kd.V k52 52 wr 0 (fun k => k < N3 ∧ k ≠ g ∧ k ≠ R) v l
  hN : w.heap.size ≤ N3
  hg : w.heap.size ≤ g
  hR : w.heap.size ≤ R
  hR3 : R < N3
  hRg : R ≠ g
  below : Below w.heap.size w wr
  hs : N3 ≤ wr.heap.size
section
variable {w wr w1 : World} {N3 g R room safe safe' : Nat} {bs bs' : List Int} {sa sb : ByteArray} {v : Value} {l : List S52}
theorem Play.moved (h : Play w wr N3 g R room safe bs sa sb v l) (hd : DiskAt w1 g (fun k => N3 ≤ k) room safe' bs') (hm : Moved wr w1 (OfDisk g (fun k => N3 ≤ k))) : Play w w1 N3 g R room safe' bs' sa sb v l :=
  ⟨hd, (hm.kept.2 R (blk_lt h.r) (fun hS => hS.elim (fun e => h.hRg e) (fun e => by have := h.hR3; omega))).trans h.r, Kd.V_kept h.s hm.kept (fun k hk hS => hS.elim (fun e => hk.2.1 e) (fun e => by have := hk.1; omega)), h.hN, h.hg, h.hR, h.hR3, h.hRg,
    Moved.from_below h.below hm (fun k hk => hk.elim (fun e => by have := h.hg; omega) (fun e => by have := h.hN; omega)) h.below.size, Nat.le_trans h.hs hm.size⟩
theorem Play.next (h : Play w wr N3 g R room safe bs sa sb v l) (hb : Below wr.heap.size wr w1) : Play w w1 N3 g R room safe bs sa sb v l :=
  ⟨h.d.below hb, (hb.block R (blk_lt h.r)).trans h.r, Kd.V_below h.s hb, h.hN, h.hg, h.hR, h.hR3, h.hRg, below_step h.below hb, Nat.le_trans h.hs hb.size⟩
theorem Play.drewN (h : Play w wr N3 g R room safe bs sa sb v l) (n : Nat) : Play w (wr.drewN n) N3 g R room safe bs sa sb v l := ⟨h.d.drewN n, h.r, Kd.V_drewN h.s n, h.hN, h.hg, h.hR, h.hR3, h.hRg, pw_below_drewN h.below n, h.hs⟩
theorem Play.drew (h : Play w wr N3 g R room safe bs sa sb v l) : Play w wr.drew N3 g R room safe bs sa sb v l := ⟨h.d.drew, h.r, Kd.V_drew h.s, h.hN, h.hg, h.hR, h.hR3, h.hRg, below_drew h.below, h.hs⟩
/-- The second reading, stored anew. -/
theorem Play.store (h : Play w wr N3 g R room safe bs sa sb v l) (o : Obj) (sa' sb' : ByteArray) : Play w ((((wr.setCell ⟨R, 0, none⟩ (.int .i64 (room : Int))).setCell ⟨R, 1, none⟩ (.string sa')).setCell ⟨R, 2, none⟩ (.string sb')).alloc o) N3 g R room safe bs sa' sb' v l := by
  have b0 := blk_set h.r 0 (.int .i64 (room : Int))
  have b1 := blk_set b0 1 (.string sa')
  have b2 := blk_set b1 2 (.string sb')
  have m0 : Moved wr wr (fun k => k = R) := Moved.refl _ _
  have m1 := m0.setCell (p := ⟨R, 0, none⟩) (Or.inl rfl) (.int .i64 (room : Int))
  have m2 := m1.setCell (p := ⟨R, 1, none⟩) (Or.inl rfl) (.string sa')
  have hm := m2.setCell (p := ⟨R, 2, none⟩) (Or.inl rfl) (.string sb')
  have h1 : Play w (((wr.setCell ⟨R, 0, none⟩ (.int .i64 (room : Int))).setCell ⟨R, 1, none⟩ (.string sa')).setCell ⟨R, 2, none⟩ (.string sb')) N3 g R room safe bs sa' sb' v l :=
    ⟨h.d.kept hm.kept (fun e => h.hRg e.symm) (fun k hk e => by have := h.hR3; omega), b2, Kd.V_kept h.s hm.kept (fun k hk e => hk.2.2 e), h.hN, h.hg, h.hR, h.hR3, h.hRg, Moved.from_below h.below hm (fun k hk => by have := h.hR; omega) h.below.size, Nat.le_trans h.hs hm.size⟩
  exact h1.next (below_alloc (Below.refl _ _) o)
/-- The cells of the second reading. -/
theorem Play.cells (h : Play w wr N3 g R room safe bs sa sb v l) : wr.cell? ⟨R, 0, none⟩ = some (.int .i64 (room : Int)) ∧ wr.cell? ⟨R, 1, none⟩ = some (.string sa) ∧ wr.cell? ⟨R, 2, none⟩ = some (.string sb) ∧ wr.frozen? ⟨R, 0, none⟩ = false ∧ wr.frozen? ⟨R, 1, none⟩ = false ∧ wr.frozen? ⟨R, 2, none⟩ = false ∧ R < wr.heap.size :=
  ⟨(blk_cell h.r 0).trans rfl, (blk_cell h.r 1).trans rfl, (blk_cell h.r 2).trans rfl, blk_frozen h.r 0, blk_frozen h.r 1, blk_frozen h.r 2, blk_lt h.r⟩
end

/-- Bytes are none of the second reading's cells. -/
theorem C_store {W : World} {R : Nat} {u0 : Int} {s1 s2 : ByteArray} (hb : W.heap[R]? = some (.cells #[.int .i64 u0, .string s1, .string s2] 48 (0, 0))) {A : Option Addr} {xs : List Int} (h : Kd.C (Kd.int .u8) W A xs.length xs) (i : Nat) (u : Value) :
    Kd.C (Kd.int .u8) (W.setCell ⟨R, i, none⟩ u) A xs.length xs := by
  have hr : ReadsOf (Value.int .u8) (0 : Int) W A xs.length xs := Kd.reads_of_C h
  refine Kd.C_of_reads (enc := Value.int .u8) (d := (0 : Int)) (h1 := fun _ => rfl) ⟨hr.1, hr.2.1, fun hn => ?_⟩
  obtain ⟨ad, e, hc⟩ := hr.2.2 hn
  refine ⟨ad, e, fun j hj => ?_⟩
  have h1 := hc j hj
  have hne : (ad.add j).block ≠ R := by
    intro e2
    have h2 : W.heap[(ad.add j).block]? = some (.cells #[.int .i64 u0, .string s1, .string s2] 48 (0, 0)) := by rw [e2]; exact hb
    simp only [World.cell?, h2] at h1
    by_cases sp : (ad.add j).spot.isSome = true
    · rw [if_pos sp] at h1
      cases h1
    rw [if_neg sp] at h1
    generalize (ad.add j).off = o at h1
    match o, h1 with
    | 0, h1 => simp at h1
    | 1, h1 => simp at h1
    | 2, h1 => simp at h1
    | o + 3, h1 => simp at h1
  have h4 : (W.setCell ⟨R, i, none⟩ u).heap[(ad.add j).block]? = W.heap[(ad.add j).block]? := Below.heap_setCell W ⟨R, i, none⟩ u _ hne
  have h5 : (W.setCell ⟨R, i, none⟩ u).cell? (ad.add j) = W.cell? (ad.add j) := by simp only [World.cell?, h4]
  rw [h5]
  exact h1
theorem Play.storeC {w wr : World} {N3 g R room safe : Nat} {bs : List Int} {sa sb : ByteArray} {v : Value} {l : List S52} (h : Play w wr N3 g R room safe bs sa sb v l) (o : Obj) (sa' sb' : ByteArray) {A : Option Addr} {xs : List Int} (hC : Kd.C (Kd.int .u8) wr A xs.length xs) :
    Kd.C (Kd.int .u8) ((((wr.setCell ⟨R, 0, none⟩ (.int .i64 (room : Int))).setCell ⟨R, 1, none⟩ (.string sa')).setCell ⟨R, 2, none⟩ (.string sb')).alloc o) A xs.length xs := by
  have b0 := blk_set h.r 0 (.int .i64 (room : Int))
  have b1 := blk_set b0 1 (.string sa')
  exact Kd.C_alloc (C_store b1 (C_store b0 (C_store h.r hC 0 _) 1 _) 2 _) o
theorem str_take (l : List Int) (K : Nat) : (strOfNums l).extract 0 K = strOfNums (l.take K) := by
  unfold strOfNums
  apply ByteArray.ext
  simp only [ByteArray.data_extract]
  rw [List.extract_toArray]
  congr 1
  rw [List.extract_eq_take_drop]
  simp
theorem sync_two {w : World} {g : Nat} {ok : Nat → Prop} {room : Nat} {a b : List Int} (h : DiskAt w g ok room a.length (a ++ b)) : Calls Try.prog 39 #[.pointer (some ⟨g, 0, none⟩)] w fun e w' => e = .returned (.int .i64 (b.length : Int)) ∧ DiskAt w' g ok room (a ++ b).length (a ++ b) ∧ Moved w w' (OfDisk g ok) :=
  (sync_any h).mono fun e w' ⟨he, h1⟩ => ⟨ret_i he (by rw [List.length_append]; omega), h1⟩
theorem len_xy {w : World} {g : Nat} {ok : Nat → Prop} {room s : Nat} {a b : List Int} (h : DiskAt w g ok room s (a ++ b)) : Calls Try.prog 43 #[.pointer (some ⟨g, 0, none⟩)] w fun e w' => e = .returned (.int .i64 ((a.length : Int) + (b.length : Int))) ∧ w = w' :=
  (len_any h).mono fun e w' ⟨he, h1⟩ => ⟨ret_i he (by rw [List.length_append]; omega), h1⟩
theorem room_xy {w : World} {g : Nat} {ok : Nat → Prop} {room s : Nat} {a b : List Int} (h : DiskAt w g ok room s (a ++ b)) : Calls Try.prog 59 #[.pointer (some ⟨g, 0, none⟩)] w fun e w' => e = .returned (.int .i64 ((room : Int) - ((a.length : Int) + (b.length : Int)))) ∧ ∃ n, w' = w.drewN n :=
  (room_any h).mono fun e w' ⟨he, h1⟩ => ⟨ret_i he (by rw [List.length_append]; omega), h1⟩

end Go.Proofs.Ytbcienbnhchdeaa.Hand

/- The document's journal (pacesetterref06): its methods, walked. -/
namespace Go.Proofs.Ytbcienbnhchdeaa.Hand
open Go Go.RowKit Go.Proofs.YtbcienbnhchdeaaW.PrintLast Go.Proofs.YtbcienbnhchdeaaW.PrintWords Go.Proofs.YtbcienbnhchdeaaW.PrintMore Print FrameC FrameL FrameS FrameR JMath
set_option linter.unusedVariables false
set_option linter.unusedSimpArgs false
attribute [local go_sem] max2_int min2_int max_two min_two
theorem okB_at {b : List Int} (h : okB b = true) {j : Nat} {p : Int} (hj : b[j]? = some p) : 0 ≤ p ∧ p < 256 := by
  have := List.all_eq_true.1 h p (List.mem_of_getElem? hj)
  simpa using this
/-- The bytes of a string, in a new row. -/
theorem str_C (W : World) {b : List Int} (h : okB b = true) (hl : b.length ≤ 1000000) : Kd.C (Kd.int .u8) (Lib.bytesWorld W 5 (strOfNums b)) (some ⟨W.heap.size, 0, none⟩) b.length b := by
  refine ⟨rfl, by omega, fun _ => ⟨_, rfl, fun j p hj => ⟨[.int .u8 p], rfl, rfl, fun i u hu => ?_⟩⟩⟩
  match i, hu with
  | 0, hu =>
    obtain rfl : Value.int .u8 p = u := by simpa using hu
    have e : j * (Kd.int .u8).sz + 0 = j := by show j * 1 + 0 = j; omega
    have hlt := (List.getElem?_eq_some_iff.1 hj).1
    obtain ⟨h0, h1⟩ := okB_at h hj
    rw [e, add_plain, Lib.bytesWorld_cell W 5 _ j (by rw [str_size]; exact hlt)]
    have e2 : (strOfNums b).data.toList.getD j 0 = UInt8.ofNat p.toNat := by
      simp [strOfNums, List.getD_eq_getElem?_getD, hj]
    rw [e2]
    congr 2
    simp
    omega
theorem scan_str (W : World) {b : List Int} {sc : ByteArray} (hs : strOfNums b = sc) (h : okB b = true) (hl : b.length ≤ 2000) {ps : List (List Int)} {n x : Int} (hf : frame_Scan.f b = some (ps, n, x)) :
    Calls Try.prog 71 #[.slice (some ⟨W.heap.size, 0, none⟩) sc.size (grownCap W sc.size 0 5)] (Lib.bytesWorld W 5 sc) fun e w' => ∃ (A' : Option Addr) (c' : Nat), e = .returned (.tuple #[.slice A' ps.length c', .int .i64 n, .int .i64 x]) ∧ ps.length ≤ c' ∧ Kd.C KS w' A' ps.length ps ∧ Below W.heap.size W w' := by
  subst hs
  rw [str_size]
  have hb := bytes_below (Below.refl W.heap.size W) (Nat.le_refl _) 5 (strOfNums b)
  refine (refScan_any (some ⟨W.heap.size, 0, none⟩) (grownCap W b.length 0 5) b ps n x _ (str_C W h (by omega)) ?_ h hl hf).mono ?_
  · exact grownCap_ge _ _ _ _
  · rintro e w' ⟨A, c, he, h1, h2, h3⟩
    exact ⟨A, c, he, h1, h2, below_step hb h3⟩
set_option maxRecDepth 100000 in
set_option maxHeartbeats 400000 in
theorem r6_all (room : Int) {a b : List Int} (sa sb : ByteArray) (ha : strOfNums a = sa) (hb : strOfNums b = sb) (ok : okB (a ++ b) = true) (hl : (a ++ b).length ≤ 2000) {ps : List (List Int)} {n x : Int} (hf : frame_Scan.f (a ++ b) = some (ps, n, x)) (w : World) :
    Calls Try.prog 82 #[.agg #[.int .i64 room, .string sa, .string sb]] w fun e w' => ∃ (A' : Option Addr) (c' : Nat), e = .returned (.slice A' ps.length c') ∧ ps.length ≤ c' ∧ Kd.C KS w' A' ps.length ps ∧ Below w.heap.size w w' := by
  have hsz : sa.size + sb.size ≤ 2000 := by rw [← ha, ← hb, str_size, str_size, ← List.length_append]; exact hl
  obtain ⟨sc, hc⟩ : ∃ sc, sa ++ sb = sc := ⟨_, rfl⟩
  have hcs : strOfNums (a ++ b) = sc := by rw [← hc, ← ha, ← hb, str_append]
  have SC : Aside0 (∀ W W' h cp, W' = Lib.bytesWorld W 5 sc → h = W.heap.size → cp = grownCap W sc.size 0 5 → Calls Try.prog 71 #[.slice (some ⟨h, 0, none⟩) sc.size cp] W' fun e w' => ∃ (A' : Option Addr) (c' : Nat), e = .returned (.tuple #[.slice A' ps.length c', .int .i64 n, .int .i64 x]) ∧ ps.length ≤ c' ∧ Kd.C KS w' A' ps.length ps ∧ Below W.heap.size W w') := Aside0.mk (fun W W' h cp e1 e2 e3 => by subst e1 e2 e3; exact scan_str W hcs ok hl hf)
  have kb := fun W => print_bytes (P := Try.prog) 9 22 5 Try.underlying9 Try.underlying22 Try.underlying5 sc W
  have hx2 : (9223372036854775807 < sa.size + sb.size) = False := by simp; omega
  clear ok hl hf ha hb hcs hsz
  go_enter Try.func82, Try.ntmps82
  go_wp2_with (go_at_call 71; refine (SC.out _ _ _ _ rfl ?hh ?cp).mono ?_; (case hh => simp); (case cp => rfl); rintro e w1 ⟨A', c', rfl, hc', hC, hb⟩; have HC := Aside0.mk hC; have HB := Aside0.mk (below_then (below_alloc (Below.refl w.heap.size w) _) (by simp) hb); clear hC hb)
  go_ret
  exact ⟨A', c', rfl, hc', HC.out, HB.out⟩
set_option maxRecDepth 100000 in
set_option maxHeartbeats 400000 in
theorem r6_open (room : Int) {a b : List Int} (sa sb : ByteArray) (ha : strOfNums a = sa) (hb : strOfNums b = sb) (ok : okB (a ++ b) = true) (hl : (a ++ b).length ≤ 2000) {ps : List (List Int)} {n : Nat} {x : Int} (hf : frame_Scan.f (a ++ b) = some (ps, (n : Int), x)) (hn : n ≤ (a ++ b).length) (w : World) :
    Calls Try.prog 81 #[.agg #[.int .i64 room, .string sa, .string sb]] w fun e w' => e = .returned (.tuple #[.agg #[.int .i64 room, .string (strOfNums ((a ++ b).take n)), .string ⟨#[]⟩], .int .i64 (((a ++ b).length : Int) - (n : Int))]) ∧ Below w.heap.size w w' := by
  have hsz : sa.size + sb.size ≤ 2000 := by rw [← ha, ← hb, str_size, str_size, ← List.length_append]; exact hl
  obtain ⟨sc, hc⟩ : ∃ sc, sa ++ sb = sc := ⟨_, rfl⟩
  have hcs : strOfNums (a ++ b) = sc := by rw [← hc, ← ha, ← hb, str_append]
  have hcz : sc.size = (a ++ b).length := by rw [← hcs, str_size]
  have SC : Aside0 (∀ W W' h cp, W' = Lib.bytesWorld W 5 sc → h = W.heap.size → cp = grownCap W sc.size 0 5 → Calls Try.prog 71 #[.slice (some ⟨h, 0, none⟩) sc.size cp] W' fun e w' => ∃ (A' : Option Addr) (c' : Nat), e = .returned (.tuple #[.slice A' ps.length c', .int .i64 n, .int .i64 x]) ∧ ps.length ≤ c' ∧ Kd.C KS w' A' ps.length ps ∧ Below W.heap.size W w') := Aside0.mk (fun W W' h cp e1 e2 e3 => by subst e1 e2 e3; exact scan_str W hcs ok hl hf)
  have CUT : Aside0 (∀ W, Calls Try.prog 56 #[.agg #[.int .i64 room, .string sa, .string sb], .int .i64 (n : Int)] W fun e w' => e = .returned (.tuple #[.agg #[.int .i64 room, .string (sc.extract 0 n), .string ⟨#[]⟩], .int .i64 0]) ∧ Below W.heap.size W w') := Aside0.mk (fun W => ref_cut_ok room sa sb sc (n : Int) n rfl (by omega) hc (by omega) W)
  have kb := fun W => print_bytes (P := Try.prog) 9 22 5 Try.underlying9 Try.underlying22 Try.underlying5 sc W
  have hx2 : (9223372036854775807 < sa.size + sb.size) = False := by simp; omega
  have hex : sc.extract 0 n = strOfNums ((a ++ b).take n) := by rw [← hcs, str_take]
  rw [← hex, ← hcz]
  rw [← hcz] at hn
  have hsl : sc.size ≤ 2000 := by omega
  clear ok hl hf ha hb hcs hsz hex hcz
  have HBX := Aside0.mk (show ((w.alloc (.cells #[.int .i64 room, .string sa, .string sb] 48)).alloc (.cells #[.int .i64 0, .string ⟨#[]⟩, .string ⟨#[]⟩] 48)).heap[w.heap.size]? = some (.cells #[.int .i64 room, .string sa, .string sb] 48 (0, 0)) from (heap_alloc_old (w.alloc _) _ (by simp)).trans (heap_alloc_new w _))
  have HRS := Aside0.mk (show ((w.alloc (.cells #[.int .i64 room, .string sa, .string sb] 48)).alloc (.cells #[.int .i64 0, .string ⟨#[]⟩, .string ⟨#[]⟩] 48)).heap[w.heap.size + 1]? = some (.cells #[.int .i64 0, .string ⟨#[]⟩, .string ⟨#[]⟩] 48 (0, 0)) from by have h := heap_alloc_new (w.alloc (.cells #[.int .i64 room, .string sa, .string sb] 48)) (.cells #[.int .i64 0, .string ⟨#[]⟩, .string ⟨#[]⟩] 48); rwa [World.size_alloc] at h)
  have HB0 := Aside0.mk (show Below w.heap.size w ((w.alloc (.cells #[.int .i64 room, .string sa, .string sb] 48)).alloc (.cells #[.int .i64 0, .string ⟨#[]⟩, .string ⟨#[]⟩] 48)) from below_alloc (below_alloc (Below.refl _ _) _) _)
  go_enter Try.func81, Try.ntmps81
  go_wp2_with (first
    | (go_at_call 71; refine (SC.out _ _ _ _ rfl ?hh ?cp).mono ?_; (case hh => simp); (case cp => rfl); rintro e w1 ⟨A', c', rfl, hc', hC, hb⟩; have HB1 := Aside0.mk (below_step HB0.out hb); have hb1 := (hb.block w.heap.size (by simp; omega)).trans HBX.out; have HR1 := Aside0.mk ((hb.block (w.heap.size + 1) (by simp)).trans HRS.out); have q0 : w1.cell? ⟨w.heap.size, 0, none⟩ = some (.int .i64 room) := (blk_cell hb1 0).trans rfl; have q1 : w1.cell? ⟨w.heap.size, 1, none⟩ = some (.string sa) := (blk_cell hb1 1).trans rfl; have q2 : w1.cell? ⟨w.heap.size, 2, none⟩ = some (.string sb) := (blk_cell hb1 2).trans rfl; clear hC hb hb1 HB0 HBX HRS)
    | (go_at_call 56; refine (CUT.out _).mono ?_; rintro e w2 ⟨rfl, hb⟩; have HB2 := Aside0.mk (below_step HB1.out hb); have hr2 := (hb.block (w.heap.size + 1) (blk_lt HR1.out)).trans HR1.out; have r0 : w2.cell? ⟨w.heap.size + 1, 0, none⟩ = some (.int .i64 0) := (blk_cell hr2 0).trans rfl; have r1 : w2.cell? ⟨w.heap.size + 1, 1, none⟩ = some (.string ⟨#[]⟩) := (blk_cell hr2 1).trans rfl; have r2 : w2.cell? ⟨w.heap.size + 1, 2, none⟩ = some (.string ⟨#[]⟩) := (blk_cell hr2 2).trans rfl; have rf : ∀ i, w2.frozen? ⟨w.heap.size + 1, i, none⟩ = false := fun i => blk_frozen hr2 i; have rl := blk_lt hr2; have HR2 := Aside0.mk hr2; clear hb hr2 HB1 HR1 q0 q1 q2))
  have b1 := blk_set HR2.out 0 (.int .i64 room)
  have b2 := blk_set b1 1 (.string (sc.extract 0 n))
  have b3 := blk_set b2 2 (.string ⟨#[]⟩)
  have b4 := (heap_alloc_old _ (.cells #[.int .i64 room, .string (sc.extract 0 n), .string ⟨#[]⟩] 48) (blk_lt b3)).trans b3
  have f0 := (blk_cell b4 0).trans (show _ = some (.int .i64 room) from rfl)
  have f1 := (blk_cell b4 1).trans (show _ = some (.string (sc.extract 0 n)) from rfl)
  have f2 := (blk_cell b4 2).trans (show _ = some (.string ⟨#[]⟩) from rfl)
  have hbel := below_alloc (((HB2.out.setCell (p := ⟨w.heap.size + 1, 0, none⟩) (by simp) (.int .i64 room)).setCell (p := ⟨w.heap.size + 1, 1, none⟩) (by simp) (.string (sc.extract 0 n))).setCell (p := ⟨w.heap.size + 1, 2, none⟩) (by simp) (.string ⟨#[]⟩)) (.cells #[.int .i64 room, .string (sc.extract 0 n), .string ⟨#[]⟩] 48)
  clear b1 b2 b3 b4 r0 r1 r2 rf rl kb
  generalize World.alloc _ _ = wf at *
  exact bodyPost_ret (v := .tuple #[.agg #[.int .i64 room, .string (sc.extract 0 n), .string ⟨#[]⟩], .int .i64 ((sc.size : Int) - (n : Int))]) (by simp [results, Try.results81, go_sem, f0, f1, f2]) rfl ⟨rfl, hbel⟩
end Go.Proofs.Ytbcienbnhchdeaa.Hand

/- The document's journal (pacesetterref06): Safe, Append. -/
namespace Go.Proofs.Ytbcienbnhchdeaa.Hand
open Go Go.RowKit Go.Proofs.YtbcienbnhchdeaaW.PrintLast Go.Proofs.YtbcienbnhchdeaaW.PrintWords Go.Proofs.YtbcienbnhchdeaaW.PrintMore Print FrameC FrameL FrameS FrameR JMath
set_option linter.unusedVariables false
set_option linter.unusedSimpArgs false
attribute [local go_sem] max2_int min2_int max_two min_two
set_option maxRecDepth 100000 in
set_option maxHeartbeats 400000 in
theorem r6_safe (room : Int) {a : List Int} (sa sb : ByteArray) (ha : strOfNums a = sa) (ok : okB a = true) (hl : a.length ≤ 2000) {ps : List (List Int)} {n x : Int} (hf : frame_Scan.f a = some (ps, n, x)) (w : World) :
    Calls Try.prog 89 #[.agg #[.int .i64 room, .string sa, .string sb]] w fun e w' => e = .returned (.int .i64 (ps.length : Int)) ∧ Below w.heap.size w w' := by
  have SC : Aside0 (∀ W W' h cp, W' = Lib.bytesWorld W 5 sa → h = W.heap.size → cp = grownCap W sa.size 0 5 → Calls Try.prog 71 #[.slice (some ⟨h, 0, none⟩) sa.size cp] W' fun e w' => ∃ (A' : Option Addr) (c' : Nat), e = .returned (.tuple #[.slice A' ps.length c', .int .i64 n, .int .i64 x]) ∧ ps.length ≤ c' ∧ Kd.C KS w' A' ps.length ps ∧ Below W.heap.size W w') := Aside0.mk (fun W W' h cp e1 e2 e3 => by subst e1 e2 e3; exact scan_str W ha ok hl hf)
  have kb := fun W => print_bytes (P := Try.prog) 9 22 5 Try.underlying9 Try.underlying22 Try.underlying5 sa W
  clear ok hl hf ha
  generalize ps.length = q at *
  go_enter Try.func89, Try.ntmps89
  go_wp2_with (go_at_call 71; refine (SC.out _ _ _ _ rfl ?hh ?cp).mono ?_; (case hh => simp); (case cp => rfl); rintro e w1 ⟨A', c', rfl, hc', hC, hb⟩; have HB := Aside0.mk (below_then (below_alloc (Below.refl w.heap.size w) _) (by simp) hb); clear hC hb)
  go_ret
  exact ⟨rfl, HB.out⟩
section
variable {A : Option Addr} {c : Nat} {p : List Int} {w : World}
set_option maxRecDepth 100000 in
set_option maxHeartbeats 400000 in
theorem r6_append_no (room : Int) (sa sb : ByteArray) (hC : Kd.C (Kd.int .u8) w A p.length p) (hc : p.length ≤ c) (ok : okB p = true) (h0 : p.length = 0) :
    Calls Try.prog 88 #[.agg #[.int .i64 room, .string sa, .string sb], .slice A p.length c] w fun e w' => e = .returned (.tuple #[.agg #[.int .i64 room, .string sa, .string sb], .int .i64 1]) ∧ Below w.heap.size w w' := by
  obtain rfl : p = [] := List.eq_nil_of_length_eq_zero h0
  clear h0
  show Calls Try.prog 88 #[.agg #[.int .i64 room, .string sa, .string sb], .slice A 0 c] w _
  have PUT : Aside0 (∀ W, Below w.heap.size w W → Calls Try.prog 63 #[.slice none 0 0, .slice A 0 c] W fun e w' => ∃ (A : Option Addr) (c : Nat), e = .returned (.tuple #[.slice A 0 c, .int .i64 1]) ∧ Below W.heap.size W w') := Aside0.mk (fun W hW => by
    refine (refPut_any none A 0 c [] [] W (Kd.C_nil _ _) (Nat.le_refl _) (by simp) (Kd.C_below hC hW) hc ok).mono ?_
    rintro e w' ⟨A', c', r, x, he, hr, h1, h2, h3⟩
    rw [if_pos (show ([] : List Int).length = 0 from rfl)] at hr
    injection hr with e1 e2
    subst e1 e2
    exact ⟨A', c', he, h3⟩)
  have HBX := Aside0.mk (show ((w.alloc (.cells #[.int .i64 room, .string sa, .string sb] 48)).alloc (.cells #[.int .i64 0, .string ⟨#[]⟩, .string ⟨#[]⟩] 48)).heap[w.heap.size]? = some (.cells #[.int .i64 room, .string sa, .string sb] 48 (0, 0)) from (heap_alloc_old (w.alloc _) _ (by simp)).trans (heap_alloc_new w _))
  have HRS := Aside0.mk (show ((w.alloc (.cells #[.int .i64 room, .string sa, .string sb] 48)).alloc (.cells #[.int .i64 0, .string ⟨#[]⟩, .string ⟨#[]⟩] 48)).heap[w.heap.size + 1]? = some (.cells #[.int .i64 0, .string ⟨#[]⟩, .string ⟨#[]⟩] 48 (0, 0)) from by have h := heap_alloc_new (w.alloc (.cells #[.int .i64 room, .string sa, .string sb] 48)) (.cells #[.int .i64 0, .string ⟨#[]⟩, .string ⟨#[]⟩] 48); rwa [World.size_alloc] at h)
  have HB0 := Aside0.mk (show Below w.heap.size w ((w.alloc (.cells #[.int .i64 room, .string sa, .string sb] 48)).alloc (.cells #[.int .i64 0, .string ⟨#[]⟩, .string ⟨#[]⟩] 48)) from below_alloc (below_alloc (Below.refl _ _) _) _)
  clear hC ok
  go_enter Try.func88, Try.ntmps88
  go_wp2_with (first
    | (go_at_call 63; refine (PUT.out _ HB0.out).mono ?_; rintro e w1 ⟨A', c', rfl, hb⟩; have HB1 := Aside0.mk (below_step HB0.out hb); have hb1 := (hb.block w.heap.size (by simp; omega)).trans HBX.out; have hr1 := (hb.block (w.heap.size + 1) (by simp)).trans HRS.out; have HR1 := Aside0.mk hr1; have q0 : w1.cell? ⟨w.heap.size, 0, none⟩ = some (.int .i64 room) := (blk_cell hb1 0).trans rfl; have q1 : w1.cell? ⟨w.heap.size, 1, none⟩ = some (.string sa) := (blk_cell hb1 1).trans rfl; have q2 : w1.cell? ⟨w.heap.size, 2, none⟩ = some (.string sb) := (blk_cell hb1 2).trans rfl; have r0 : w1.cell? ⟨w.heap.size + 1, 0, none⟩ = some (.int .i64 0) := (blk_cell hr1 0).trans rfl; have r1 : w1.cell? ⟨w.heap.size + 1, 1, none⟩ = some (.string ⟨#[]⟩) := (blk_cell hr1 1).trans rfl; have r2 : w1.cell? ⟨w.heap.size + 1, 2, none⟩ = some (.string ⟨#[]⟩) := (blk_cell hr1 2).trans rfl; have rf : ∀ i, w1.frozen? ⟨w.heap.size + 1, i, none⟩ = false := fun i => blk_frozen hr1 i; clear hb hb1 hr1 HB0 HBX HRS))
  have b1 := blk_set HR1.out 0 (.int .i64 room)
  have b2 := blk_set b1 1 (.string sa)
  have b3 := blk_set b2 2 (.string sb)
  have f0 := (blk_cell b3 0).trans (show _ = some (.int .i64 room) from rfl)
  have f1 := (blk_cell b3 1).trans (show _ = some (.string sa) from rfl)
  have f2 := (blk_cell b3 2).trans (show _ = some (.string sb) from rfl)
  have hbel := (((HB1.out.setCell (p := ⟨w.heap.size + 1, 0, none⟩) (by simp) (.int .i64 room)).setCell (p := ⟨w.heap.size + 1, 1, none⟩) (by simp) (.string sa)).setCell (p := ⟨w.heap.size + 1, 2, none⟩) (by simp) (.string sb))
  clear b1 b2 b3 r0 r1 r2 rf q0 q1 q2
  generalize World.setCell _ _ _ = wf at *
  exact bodyPost_ret (v := .tuple #[.agg #[.int .i64 room, .string sa, .string sb], .int .i64 1]) (by simp [results, Try.results88, go_sem, f0, f1, f2]) rfl ⟨rfl, hbel⟩
set_option maxRecDepth 100000 in
set_option maxHeartbeats 400000 in
theorem r6_append_wr (room : Int) (sa sb sf s1 s2 : ByteArray) (x : Int) (WR : Aside0 (∀ W, Calls Try.prog 53 #[.agg #[.int .i64 room, .string sa, .string sb], .string sf] W fun e w' => e = .returned (.tuple #[.agg #[.int .i64 room, .string s1, .string s2], .int .i64 x]) ∧ Below W.heap.size W w')) (hp : OkP p) (hsf : strOfNums (frameOf p) = sf) (hC : Kd.C (Kd.int .u8) w A p.length p) (hc : p.length ≤ c) (ok : okB p = true) :
    Calls Try.prog 88 #[.agg #[.int .i64 room, .string sa, .string sb], .slice A p.length c] w fun e w' => e = .returned (.tuple #[.agg #[.int .i64 room, .string s1, .string s2], .int .i64 x]) ∧ Below w.heap.size w w' := by
  have hpl := hp.2.2
  have PUT : Aside0 (∀ W, Below w.heap.size w W → Calls Try.prog 63 #[.slice none 0 0, .slice A p.length c] W fun e w' => ∃ (A : Option Addr) (c : Nat), e = .returned (.tuple #[.slice A (frameOf p).length c, .int .i64 0]) ∧ (convert 22 9 (.slice A (frameOf p).length c)).run Try.prog w' = .ok (.string sf) w' ∧ Below W.heap.size W w') := Aside0.mk (fun W hW => by
    refine (refPut_any none A 0 c [] p W (Kd.C_nil _ _) (Nat.le_refl _) (by simp) (Kd.C_below hC hW) hc ok).mono ?_
    rintro e w' ⟨A', c', r, x, he, hr, h1, h2, h3⟩
    rw [if_neg (by have := hp.2.1; omega), if_neg (by omega)] at hr
    injection hr with e1 e2
    subst e1 e2
    have h := Kd.C_string (P := Try.prog) (c := c') Try.underlying22 Try.underlying5 Try.underlying9 h2
    rw [List.nil_append] at h he
    rw [hsf] at h
    exact ⟨A', c', he, h, h3⟩)
  clear hsf hp
  generalize p.length = pl at *
  generalize (frameOf p).length = fl at *
  have HBX := Aside0.mk (show ((w.alloc (.cells #[.int .i64 room, .string sa, .string sb] 48)).alloc (.cells #[.int .i64 0, .string ⟨#[]⟩, .string ⟨#[]⟩] 48)).heap[w.heap.size]? = some (.cells #[.int .i64 room, .string sa, .string sb] 48 (0, 0)) from (heap_alloc_old (w.alloc _) _ (by simp)).trans (heap_alloc_new w _))
  have HRS := Aside0.mk (show ((w.alloc (.cells #[.int .i64 room, .string sa, .string sb] 48)).alloc (.cells #[.int .i64 0, .string ⟨#[]⟩, .string ⟨#[]⟩] 48)).heap[w.heap.size + 1]? = some (.cells #[.int .i64 0, .string ⟨#[]⟩, .string ⟨#[]⟩] 48 (0, 0)) from by have h := heap_alloc_new (w.alloc (.cells #[.int .i64 room, .string sa, .string sb] 48)) (.cells #[.int .i64 0, .string ⟨#[]⟩, .string ⟨#[]⟩] 48); rwa [World.size_alloc] at h)
  have HB0 := Aside0.mk (show Below w.heap.size w ((w.alloc (.cells #[.int .i64 room, .string sa, .string sb] 48)).alloc (.cells #[.int .i64 0, .string ⟨#[]⟩, .string ⟨#[]⟩] 48)) from below_alloc (below_alloc (Below.refl _ _) _) _)
  clear hC ok
  go_enter Try.func88, Try.ntmps88
  go_wp2_with (first
    | (go_at_call 63; refine (PUT.out _ HB0.out).mono ?_; rintro e w1 ⟨A', c', rfl, hcv, hb⟩; have HB1 := Aside0.mk (below_step HB0.out hb); have hb1 := (hb.block w.heap.size (by simp; omega)).trans HBX.out; have hr1 := (hb.block (w.heap.size + 1) (by simp)).trans HRS.out; have HR1 := Aside0.mk hr1; have q0 : w1.cell? ⟨w.heap.size, 0, none⟩ = some (.int .i64 room) := (blk_cell hb1 0).trans rfl; have q1 : w1.cell? ⟨w.heap.size, 1, none⟩ = some (.string sa) := (blk_cell hb1 1).trans rfl; have q2 : w1.cell? ⟨w.heap.size, 2, none⟩ = some (.string sb) := (blk_cell hb1 2).trans rfl; have r0 : w1.cell? ⟨w.heap.size + 1, 0, none⟩ = some (.int .i64 0) := (blk_cell hr1 0).trans rfl; have r1 : w1.cell? ⟨w.heap.size + 1, 1, none⟩ = some (.string ⟨#[]⟩) := (blk_cell hr1 1).trans rfl; have r2 : w1.cell? ⟨w.heap.size + 1, 2, none⟩ = some (.string ⟨#[]⟩) := (blk_cell hr1 2).trans rfl; have rf : ∀ i, w1.frozen? ⟨w.heap.size + 1, i, none⟩ = false := fun i => blk_frozen hr1 i; clear hb hb1 hr1 HB0 HBX HRS)
    | (go_at_call 53; refine (WR.out _).mono ?_; rintro e w2 ⟨rfl, hb⟩; have HB2 := Aside0.mk (below_step HB1.out hb); have hr2 := blk_below HR1.out hb; have HR2 := Aside0.mk hr2; have t0 : w2.cell? ⟨w.heap.size + 1, 0, none⟩ = some (.int .i64 0) := (blk_cell hr2 0).trans rfl; have t1 : w2.cell? ⟨w.heap.size + 1, 1, none⟩ = some (.string ⟨#[]⟩) := (blk_cell hr2 1).trans rfl; have t2 : w2.cell? ⟨w.heap.size + 1, 2, none⟩ = some (.string ⟨#[]⟩) := (blk_cell hr2 2).trans rfl; have tf : ∀ i, w2.frozen? ⟨w.heap.size + 1, i, none⟩ = false := fun i => blk_frozen hr2 i; clear hb hr2 HB1 HR1))
  have b1 := blk_set HR2.out 0 (.int .i64 room)
  have b2 := blk_set b1 1 (.string s1)
  have b3 := blk_set b2 2 (.string s2)
  have f0 := (blk_cell b3 0).trans (show _ = some (.int .i64 room) from rfl)
  have f1 := (blk_cell b3 1).trans (show _ = some (.string s1) from rfl)
  have f2 := (blk_cell b3 2).trans (show _ = some (.string s2) from rfl)
  have hbel := (((HB2.out.setCell (p := ⟨w.heap.size + 1, 0, none⟩) (by simp) (.int .i64 room)).setCell (p := ⟨w.heap.size + 1, 1, none⟩) (by simp) (.string s1)).setCell (p := ⟨w.heap.size + 1, 2, none⟩) (by simp) (.string s2))
  clear b1 b2 b3 t0 t1 t2 tf r0 r1 r2 rf q0 q1 q2
  generalize World.setCell _ _ _ = wf at *
  exact bodyPost_ret (v := .tuple #[.agg #[.int .i64 room, .string s1, .string s2], .int .i64 x]) (by simp [results, Try.results88, go_sem, f0, f1, f2]) rfl ⟨rfl, hbel⟩
end
end Go.Proofs.Ytbcienbnhchdeaa.Hand

/- The document's journal (pacesetterref06): Crash. -/
namespace Go.Proofs.Ytbcienbnhchdeaa.Hand
open Go Go.RowKit Go.Proofs.YtbcienbnhchdeaaW.PrintLast Go.Proofs.YtbcienbnhchdeaaW.PrintWords Go.Proofs.YtbcienbnhchdeaaW.PrintMore Print FrameC FrameL FrameS FrameR JMath
set_option linter.unusedVariables false
set_option linter.unusedSimpArgs false
attribute [local go_sem] max2_int min2_int max_two min_two
theorem new48 (W : World) (r : Int) (a b : ByteArray) : Aside0 ((W.alloc (.cells #[.int .i64 r, .string a, .string b] 48)).heap[W.heap.size]? = some (.cells #[.int .i64 r, .string a, .string b] 48 (0, 0))) := Aside0.mk (heap_alloc_new W _)
set_option maxRecDepth 100000 in
set_option maxHeartbeats 1000000 in
/-- Crash, over what its parts answer. -/
theorem r6_crash_of (room keep : Int) (sa sb s1 s2 : ByteArray) (q m : Nat) (x y : Int) (hqm : m ≤ q ∧ q ≤ 1000000) (w : World)
    (ALL : Aside0 (∀ W, Calls Try.prog 82 #[.agg #[.int .i64 room, .string sa, .string sb]] W fun e w' => ∃ (A' : Option Addr) (c' : Nat), e = .returned (.slice A' q c') ∧ Below W.heap.size W w'))
    (CR : Aside0 (∀ W, Calls Try.prog 55 #[.agg #[.int .i64 room, .string sa, .string sb], .int .i64 keep] W fun e w' => e = .returned (.tuple #[.agg #[.int .i64 room, .string s1, .string ⟨#[]⟩], .int .i64 x]) ∧ Below W.heap.size W w'))
    (OP : Aside0 (∀ W, Calls Try.prog 81 #[.agg #[.int .i64 room, .string s1, .string ⟨#[]⟩]] W fun e w' => e = .returned (.tuple #[.agg #[.int .i64 room, .string s2, .string ⟨#[]⟩], .int .i64 y]) ∧ Below W.heap.size W w'))
    (ALL2 : Aside0 (∀ W, Calls Try.prog 82 #[.agg #[.int .i64 room, .string s2, .string ⟨#[]⟩]] W fun e w' => ∃ (A' : Option Addr) (c' : Nat), e = .returned (.slice A' m c') ∧ Below W.heap.size W w')) :
    Calls Try.prog 90 #[.agg #[.int .i64 room, .string sa, .string sb], .int .i64 keep] w fun e w' => e = .returned (.tuple #[.agg #[.int .i64 room, .string s2, .string ⟨#[]⟩], .int .i64 ((q : Int) - (m : Int))]) ∧ Below w.heap.size w w' := by
  have HBX := Aside0.mk (show ((w.alloc (.cells #[.int .i64 room, .string sa, .string sb] 48)).alloc (.cells #[.int .i64 0, .string ⟨#[]⟩, .string ⟨#[]⟩] 48)).heap[w.heap.size]? = some (.cells #[.int .i64 room, .string sa, .string sb] 48 (0, 0)) from (heap_alloc_old (w.alloc _) _ (by simp)).trans (heap_alloc_new w _))
  have HRS := Aside0.mk (show ((w.alloc (.cells #[.int .i64 room, .string sa, .string sb] 48)).alloc (.cells #[.int .i64 0, .string ⟨#[]⟩, .string ⟨#[]⟩] 48)).heap[w.heap.size + 1]? = some (.cells #[.int .i64 0, .string ⟨#[]⟩, .string ⟨#[]⟩] 48 (0, 0)) from by have h := heap_alloc_new (w.alloc (.cells #[.int .i64 room, .string sa, .string sb] 48)) (.cells #[.int .i64 0, .string ⟨#[]⟩, .string ⟨#[]⟩] 48); rwa [World.size_alloc] at h)
  have HB0 := Aside0.mk (show Below w.heap.size w ((w.alloc (.cells #[.int .i64 room, .string sa, .string sb] 48)).alloc (.cells #[.int .i64 0, .string ⟨#[]⟩, .string ⟨#[]⟩] 48)) from below_alloc (below_alloc (Below.refl _ _) _) _)
  go_enter Try.func90, Try.ntmps90
  go_wp2_with (first
    | (go_at_call 82; refine (ALL.out _).mono ?_; rintro e w1 ⟨A1, c1, rfl, hb⟩; have HB1 := Aside0.mk (below_step HB0.out hb); have hb1 := (hb.block w.heap.size (by simp; omega)).trans HBX.out; have hr1 := (hb.block (w.heap.size + 1) (by simp)).trans HRS.out; have HR1 := Aside0.mk hr1; have q0 : w1.cell? ⟨w.heap.size, 0, none⟩ = some (.int .i64 room) := (blk_cell hb1 0).trans rfl; have q1 : w1.cell? ⟨w.heap.size, 1, none⟩ = some (.string sa) := (blk_cell hb1 1).trans rfl; have q2 : w1.cell? ⟨w.heap.size, 2, none⟩ = some (.string sb) := (blk_cell hb1 2).trans rfl; clear hb hb1 hr1 HB0 HBX HRS ALL)
    | (go_at_call 55; refine (CR.out _).mono ?_; rintro e w2 ⟨rfl, hb⟩; have HB2 := Aside0.mk (below_step HB1.out hb); have HR2 := Aside0.mk (blk_below HR1.out hb); clear hb HB1 HR1 q0 q1 q2)
    | (go_at_call 81; refine (OP.out _).mono ?_; rintro e w3 ⟨rfl, hb⟩; have HB3 := Aside0.mk (below_step (below_alloc HB2.out _) hb); have HR3 := Aside0.mk (blk_below ((heap_alloc_old w2 _ (blk_lt HR2.out)).trans HR2.out) hb); clear hb HB2 HR2))
  have h9 := new48 w3 room s2 ⟨#[]⟩
  have HB9 := Aside0.mk (below_alloc HB3.out (.cells #[.int .i64 room, .string s2, .string ⟨#[]⟩] 48))
  have HR9 := Aside0.mk ((heap_alloc_old w3 (.cells #[.int .i64 room, .string s2, .string ⟨#[]⟩] 48) (blk_lt HR3.out)).trans HR3.out)
  clear HB3 HR3
  generalize w3.alloc (.cells #[.int .i64 room, .string s2, .string ⟨#[]⟩] 48) = w9 at *
  generalize w3.heap.size = T at *
  have d9 := (blk_cell h9.out 0).trans (show _ = some (.int .i64 room) from rfl)
  have d10 := (blk_cell h9.out 1).trans (show _ = some (.string s2) from rfl)
  have d11 := (blk_cell h9.out 2).trans (show _ = some (.string ⟨#[]⟩) from rfl)
  have HB9d := Aside0.mk (below_drew HB9.out)
  have HR9d := Aside0.mk (blk_below HR9.out (below_drew (Below.refl _ _)))
  have h9d := Aside0.mk (blk_below h9.out (below_drew (Below.refl _ _)))
  have hqm1 := hqm.1
  have hqm2 := hqm.2
  have hw1 : wrap64 ((q : Int) - (m : Int)) = (q : Int) - (m : Int) := by unfold wrap64; omega
  refine start_ (n := 8) (S := fun w' => w'.cell? ⟨T, 0, none⟩ = some (.int .i64 room) ∧ w'.cell? ⟨T, 1, none⟩ = some (.string s2) ∧ w'.cell? ⟨T, 2, none⟩ = some (.string ⟨#[]⟩)) (ds := [6]) #[false, false, false, false, false, false, false, false] (by kernel_rfl) rfl rfl ⟨(blk_cell h9d.out 0).trans rfl, (blk_cell h9d.out 1).trans rfl, (blk_cell h9d.out 2).trans rfl⟩ (fun hHeld => ?_)
  refine pure_ (i := 1) (N := some 26) (v := ?_) (a' := ?_) #[false, true, false, false, false, false, false, false] rfl rfl (by kernel_rfl) (fun _ _ _ h => h) (Or.inl ⟨by rfl, ?_⟩) ?_ ?_
  rotate_left
  · intro w'
    go_simp
    with_reducible rfl
  rotate_left
  · simp only [Act.put, List.setIfInBounds_toArray, List.set_cons_zero, List.set_cons_succ, i64_w, i32_w]
    rfl
  refine take_ (i := 0) (N := some 25) (v := ?_) (a' := ?_) #[true, true, false, false, false, false, false, false] rfl rfl (by kernel_rfl) (fun _ _ _ h => h) (Or.inl ⟨by rfl, ?_⟩) hHeld ?_ ?_
  rotate_left
  · rintro w' ⟨s0, s1, s2⟩
    go_simp
    with_reducible rfl
  rotate_left
  · simp only [Act.put, List.setIfInBounds_toArray, List.set_cons_zero, List.set_cons_succ, i64_w, i32_w]
    rfl
  refine take_ (i := 2) (N := some 27) (v := ?_) (a' := ?_) #[true, true, true, false, false, false, false, false] rfl rfl (by kernel_rfl) (fun _ _ _ h => h) (Or.inl ⟨by rfl, ?_⟩) hHeld ?_ ?_
  rotate_left
  · rintro w' ⟨s0, s1, s2⟩
    go_simp
    with_reducible rfl
  rotate_left
  · simp only [Act.put, List.setIfInBounds_toArray, List.set_cons_zero, List.set_cons_succ, i64_w, i32_w]
    rfl
  refine one_ (i := 3) (N := some 28) #[true, true, true, true, false, false, false, false] rfl rfl (by kernel_rfl) (by decide) (fun K hK => ?_)
  refine goes_ Try.func82 (by kernel_rfl) rfl #[.agg #[.int .i64 room, .string s2, .string ⟨#[]⟩]] (by rfl) rfl rfl (by simp only [List.map_toArray, List.map_cons, List.map_nil]; rfl) ?_
  with_reducible refine (ALL2.out _).mono ?_
  rintro e w4 ⟨A4, c4, rfl, hb⟩
  refine ⟨_, rfl, ?_⟩
  have HB4 := Aside0.mk (below_step HB9d.out hb)
  have hr4 := blk_below HR9d.out hb
  have HR4 := Aside0.mk hr4
  have h4 := blk_below h9d.out hb
  have t0 : w4.cell? ⟨w.heap.size + 1, 0, none⟩ = some (.int .i64 0) := (blk_cell hr4 0).trans rfl
  have t1 : w4.cell? ⟨w.heap.size + 1, 1, none⟩ = some (.string ⟨#[]⟩) := (blk_cell hr4 1).trans rfl
  have t2 : w4.cell? ⟨w.heap.size + 1, 2, none⟩ = some (.string ⟨#[]⟩) := (blk_cell hr4 2).trans rfl
  have tf : ∀ i, w4.frozen? ⟨w.heap.size + 1, i, none⟩ = false := fun i => blk_frozen hr4 i
  clear hb hr4
  refine hK.out _ _ ⟨(blk_cell h4 0).trans rfl, (blk_cell h4 1).trans rfl, (blk_cell h4 2).trans rfl⟩ (fun hHeld => ?_)
  clear hK K
  refine norm_ (a' := ?_) ?_ ?_
  rotate_left
  · show Act.put _ (some 28) _ = _
    simp only [Act.put, List.setIfInBounds_toArray, List.set_cons_zero, List.set_cons_succ, i64_w, i32_w]
    rfl
  refine pure_ (i := 4) (N := some 29) (v := ?_) (a' := ?_) #[true, true, true, true, true, false, false, false] rfl rfl (by kernel_rfl) (fun _ _ _ h => h) (Or.inl ⟨by rfl, ?_⟩) ?_ ?_
  rotate_left
  · intro w'
    go_simp
    with_reducible rfl
  rotate_left
  · simp only [Act.put, List.setIfInBounds_toArray, List.set_cons_zero, List.set_cons_succ, i64_w, i32_w]
    rfl
  refine pure_ (i := 5) (N := some 30) (v := ?_) (a' := ?_) #[true, true, true, true, true, true, false, false] rfl rfl (by kernel_rfl) (fun _ _ _ h => h) (Or.inl ⟨by rfl, ?_⟩) ?_ ?_
  rotate_left
  · intro w'
    go_simp
    with_reducible rfl
  rotate_left
  · simp only [Act.put, List.setIfInBounds_toArray, List.set_cons_zero, List.set_cons_succ, i64_w, i32_w]
    rfl
  refine last_ (i := 6) (N := none) #[true, true, true, true, true, true, true, false] rfl rfl (by kernel_rfl) (by decide) (fun K hK => ?_)
  refine skip_ (w1 := ?_) (by rfl) rfl ?_ ?_
  rotate_left
  · go_simp
    rfl
  refine hK.out _ _ ?_
  clear hK K
  refine pure_ (i := 7) (N := some 5) (v := ?_) (a' := ?_) #[true, true, true, true, true, true, true, true] rfl rfl (by kernel_rfl) (fun _ _ _ h => h) (Or.inl ⟨by rfl, ?_⟩) ?_ ?_
  rotate_left
  · intro w'
    go_simp
    with_reducible rfl
  rotate_left
  · simp only [Act.put, List.setIfInBounds_toArray, List.set_cons_zero, List.set_cons_succ, i64_w, i32_w]
    rfl
  refine done_ (by kernel_rfl) ?_
  go_wp2
  have b1 := blk_set HR4.out 0 (.int .i64 room)
  have b2 := blk_set b1 1 (.string s2)
  have b3 := blk_set b2 2 (.string ⟨#[]⟩)
  have f0 := (blk_cell b3 0).trans (show _ = some (.int .i64 room) from rfl)
  have f1 := (blk_cell b3 1).trans (show _ = some (.string s2) from rfl)
  have f2 := (blk_cell b3 2).trans (show _ = some (.string ⟨#[]⟩) from rfl)
  have hbel := (((HB4.out.setCell (p := ⟨w.heap.size + 1, 0, none⟩) (by simp) (.int .i64 room)).setCell (p := ⟨w.heap.size + 1, 1, none⟩) (by simp) (.string s2)).setCell (p := ⟨w.heap.size + 1, 2, none⟩) (by simp) (.string ⟨#[]⟩))
  clear b1 b2 b3 t0 t1 t2 tf
  generalize World.setCell _ _ _ = wf at *
  exact bodyPost_ret (v := .tuple #[.agg #[.int .i64 room, .string s2, .string ⟨#[]⟩], .int .i64 ((q : Int) - (m : Int))]) (by simp [results, Try.results90, go_sem, f0, f1, f2]) rfl ⟨rfl, hbel⟩
theorem allF_split (l : List (List Int)) (s : Nat) : allF (l.take s) ++ allF (l.drop s) = allF l := by rw [← allF_append, List.take_append_drop]
/-- The reference's disk under a journal. -/
abbrev refD (room : Int) (l : List (List Int)) (s : Nat) : Value := .agg #[.int .i64 room, .string (strOfNums (allF (l.take s))), .string (strOfNums (allF (l.drop s)))]
theorem r6_all_of (room : Int) {l : List (List Int)} {s : Nat} (hl : ∀ p ∈ l, OkP p) (h9 : (allF l).length ≤ 2000) (w : World) :
    Calls Try.prog 82 #[refD room l s] w fun e w' => ∃ (A' : Option Addr) (c' : Nat), e = .returned (.slice A' l.length c') ∧ l.length ≤ c' ∧ Kd.C KS w' A' l.length l ∧ Below w.heap.size w w' := by
  refine r6_all (ps := l) (n := ((allF l).length : Int)) (x := 0) room _ _ rfl rfl ?_ ?_ ?_ w
  · rw [allF_split]; exact allF_ok hl
  · rw [allF_split]; exact h9
  · rw [allF_split]; exact scan_frames hl (by omega)
theorem r6_safe_of (room : Int) {l : List (List Int)} {s : Nat} (hl : ∀ p ∈ l, OkP p) (hs : s ≤ l.length) (h9 : (allF l).length ≤ 2000) (w : World) :
    Calls Try.prog 89 #[refD room l s] w fun e w' => e = .returned (.int .i64 (s : Int)) ∧ Below w.heap.size w w' := by
  have h1 := allF_take_le l s
  have h := r6_safe room (strOfNums (allF (l.take s))) (strOfNums (allF (l.drop s))) rfl (allF_ok (fun p hp => hl p (List.mem_of_mem_take hp))) (by omega) (scan_frames (fun p hp => hl p (List.mem_of_mem_take hp)) (by omega)) w
  rw [List.length_take, Nat.min_eq_left hs] at h
  exact h
/-- Open of the first q bytes. -/
theorem r6_open_fit (room : Int) {l : List (List Int)} (hl : ∀ p ∈ l, OkP p) (h9 : (allF l).length ≤ 2000) {q m : Nat} (hm : fit l q = m) (w : World) :
    Calls Try.prog 81 #[.agg #[.int .i64 room, .string (strOfNums ((allF l).take q)), .string ⟨#[]⟩]] w fun e w' => e = .returned (.tuple #[.agg #[.int .i64 room, .string (strOfNums (allF (l.take m))), .string ⟨#[]⟩], .int .i64 ((((allF l).take q).length : Int) - ((allF (l.take m)).length : Int))]) ∧ Below w.heap.size w w' := by
  obtain ⟨e0, hsc⟩ := scan_fit hl (by omega) q
  have htk := take_fit l q
  rw [hm] at hsc htk
  have hle : (allF (l.take m)).length ≤ ((allF l).take q).length := by
    have h := congrArg List.length htk
    rw [List.length_take] at h
    omega
  have hql : ((allF l).take q).length ≤ 2000 := by rw [List.length_take]; omega
  have h := r6_open room (a := (allF l).take q) (b := []) (strOfNums ((allF l).take q)) ⟨#[]⟩ rfl rfl (by rw [List.append_nil]; exact okB_take2 (allF_ok hl) q) (by rw [List.append_nil]; exact hql) (by rw [List.append_nil]; exact hsc) (by rw [List.append_nil]; exact hle) w
  rw [List.append_nil, htk] at h
  exact h
theorem r6_crash (room : Int) {l : List (List Int)} {s : Nat} (keep : Int) (hl : ∀ p ∈ l, OkP p) (h9 : (allF l).length ≤ 2000) {m : Nat} (hm : fit l (leftOf l s keep) = m) (w : World) :
    Calls Try.prog 90 #[refD room l s, .int .i64 keep] w fun e w' => e = .returned (.tuple #[refD room (l.take m) m, .int .i64 ((l.length : Int) - (m : Int))]) ∧ Below w.heap.size w w' := by
  have hml : m ≤ l.length := hm ▸ fit_le l _
  have hll := allF_len7 hl
  have hsz : (strOfNums (allF (l.take s))).size + (strOfNums (allF (l.drop s))).size ≤ 1000000000 := by rw [str_size, str_size, ← List.length_append, allF_split]; omega
  have hlen : (allF (l.take s)).length + (allF (l.drop s)).length = (allF l).length := by rw [← List.length_append, allF_split]
  have hq : strOfNums (allF (l.take s)) ++ (strOfNums (allF (l.drop s))).extract 0 (keepOf keep (strOfNums (allF (l.drop s))).size) = strOfNums ((allF l).take (leftOf l s keep)) := by
    have e : leftOf l s keep = (allF (l.take s)).length + keepOf keep (allF (l.drop s)).length := by
      unfold leftOf
      rw [show (allF l).length - (allF (l.take s)).length = (allF (l.drop s)).length from by omega]
    rw [str_take, str_append, str_size, e, ← allF_split l s, List.take_length_add_append]
  have h := r6_crash_of room keep _ _ (strOfNums ((allF l).take (leftOf l s keep))) (strOfNums (allF (l.take m))) l.length m _ _ ⟨hml, by omega⟩ w
    (Aside0.mk (fun W => (r6_all_of room (s := s) hl h9 W).mono fun e w' ⟨A, c, he, _, _, hb⟩ => ⟨A, c, he, hb⟩))
    (Aside0.mk (fun W => by have h := ref_crash room (strOfNums (allF (l.take s))) (strOfNums (allF (l.drop s))) keep _ rfl hsz W; rw [hq] at h; exact h))
    (Aside0.mk (fun W => r6_open_fit room hl h9 hm W))
    (Aside0.mk (fun W => by
      have h1 := allF_take_le l m
      have h := r6_all_of room (l := l.take m) (s := m) (fun p hp => hl p (List.mem_of_mem_take hp)) (by omega) W
      unfold refD at h
      rw [List.take_take, Nat.min_self, List.drop_take, Nat.sub_self, List.take_zero, List.length_take, Nat.min_eq_left hml] at h
      exact h.mono fun e w' ⟨A, c, he, _, _, hb⟩ => ⟨A, c, he, hb⟩))
  unfold refD
  rw [List.take_take, Nat.min_self, List.drop_take, Nat.sub_self, List.take_zero]
  exact h
end Go.Proofs.Ytbcienbnhchdeaa.Hand

/- The document's journal (pacesetterref06): Swap. -/
namespace Go.Proofs.Ytbcienbnhchdeaa.Hand
open Go Go.RowKit Go.Proofs.YtbcienbnhchdeaaW.PrintLast Go.Proofs.YtbcienbnhchdeaaW.PrintWords Go.Proofs.YtbcienbnhchdeaaW.PrintMore Print FrameC FrameL FrameS FrameR JMath
set_option linter.unusedVariables false
set_option linter.unusedSimpArgs false
attribute [local go_sem] max2_int min2_int max_two min_two
/-- The two blocks of a function of the reference: what came in, and what goes out. -/
theorem two48 (w : World) (room : Int) (sa sb : ByteArray) :
    ((w.alloc (.cells #[.int .i64 room, .string sa, .string sb] 48)).alloc (.cells #[.int .i64 0, .string ⟨#[]⟩, .string ⟨#[]⟩] 48)).heap[w.heap.size]? = some (.cells #[.int .i64 room, .string sa, .string sb] 48 (0, 0)) ∧
    ((w.alloc (.cells #[.int .i64 room, .string sa, .string sb] 48)).alloc (.cells #[.int .i64 0, .string ⟨#[]⟩, .string ⟨#[]⟩] 48)).heap[w.heap.size + 1]? = some (.cells #[.int .i64 0, .string ⟨#[]⟩, .string ⟨#[]⟩] 48 (0, 0)) ∧
    Below w.heap.size w ((w.alloc (.cells #[.int .i64 room, .string sa, .string sb] 48)).alloc (.cells #[.int .i64 0, .string ⟨#[]⟩, .string ⟨#[]⟩] 48)) := by
  refine ⟨(heap_alloc_old (w.alloc _) _ (by simp)).trans (heap_alloc_new w _), ?_, below_alloc (below_alloc (Below.refl _ _) _) _⟩
  have h := heap_alloc_new (w.alloc (.cells #[.int .i64 room, .string sa, .string sb] 48)) (.cells #[.int .i64 0, .string ⟨#[]⟩, .string ⟨#[]⟩] 48)
  rwa [World.size_alloc] at h
/-- What goes out, written. -/
theorem out48 {w W : World} (room : Int) (s1 s2 : ByteArray) (hb : Below w.heap.size w W) (hr : W.heap[w.heap.size + 1]? = some (.cells #[.int .i64 0, .string ⟨#[]⟩, .string ⟨#[]⟩] 48 (0, 0))) {wf : World} (hw : wf = ((W.setCell ⟨w.heap.size + 1, 0, none⟩ (.int .i64 room)).setCell ⟨w.heap.size + 1, 1, none⟩ (.string s1)).setCell ⟨w.heap.size + 1, 2, none⟩ (.string s2)) :
    Below w.heap.size w wf ∧ wf.cell? ⟨w.heap.size + 1, 0, none⟩ = some (.int .i64 room) ∧ wf.cell? ⟨w.heap.size + 1, 1, none⟩ = some (.string s1) ∧ wf.cell? ⟨w.heap.size + 1, 2, none⟩ = some (.string s2) := by
  subst hw
  have b3 := blk_set (blk_set (blk_set hr 0 (.int .i64 room)) 1 (.string s1)) 2 (.string s2)
  exact ⟨((hb.setCell (p := ⟨w.heap.size + 1, 0, none⟩) (by simp) (.int .i64 room)).setCell (p := ⟨w.heap.size + 1, 1, none⟩) (by simp) (.string s1)).setCell (p := ⟨w.heap.size + 1, 2, none⟩) (by simp) (.string s2), (blk_cell b3 0).trans rfl, (blk_cell b3 1).trans rfl, (blk_cell b3 2).trans rfl⟩
section
variable {A : Option Addr} {c : Nat} {L : List (List Int)} {w : World}
set_option maxRecDepth 100000 in
set_option maxHeartbeats 1000000 in
theorem r6_swap_wr (room : Int) (sa sb sf s1 s2 : ByteArray) (x : Int) (SW : Aside0 (∀ W, Calls Try.prog 58 #[.agg #[.int .i64 room, .string sa, .string sb], .string sf] W fun e w' => e = .returned (.tuple #[.agg #[.int .i64 room, .string s1, .string s2], .int .i64 x]) ∧ Below W.heap.size W w')) (hL : Kd.C KS w A L.length L) (hc : L.length ≤ c) (hok : ∀ q ∈ L, OkP q) (h9 : (allF L).length ≤ 900000) (hsf : strOfNums (allF L) = sf) :
    Calls Try.prog 92 #[.agg #[.int .i64 room, .string sa, .string sb], .slice A L.length c] w fun e w' => e = .returned (.tuple #[.agg #[.int .i64 room, .string s1, .string s2], .int .i64 x]) ∧ Below w.heap.size w w' := by
  have hl63 := hL.2.1
  obtain ⟨hbx, hrs, hb0⟩ := two48 w room sa sb
  have HL := Aside0.mk hL
  have HOK := Aside0.mk hok
  have H9 := Aside0.mk h9
  have HSF := Aside0.mk hsf
  have HBX := Aside0.mk hbx
  have HRS := Aside0.mk hrs
  have HB0 := Aside0.mk hb0
  clear hL hok h9 hsf hbx hrs hb0
  go_enter Try.func92, Try.ntmps92
  go_wp2
  generalize (w.alloc (.cells #[.int .i64 room, .string sa, .string sb] 48)).alloc (.cells #[.int .i64 0, .string ⟨#[]⟩, .string ⟨#[]⟩] 48) = w0 at *
  have hz0 := blk_lt HRS.out
  have HM0 := Lib.hid (show Made w0 w0 none 0 (allF (L.take 0)) from ⟨Kd.C_nil _ _, Nat.le_refl _, Below.refl _ _⟩)
  go_loopw [6, 7] (fun a i wr => ∃ (n : Nat) (A5 : Option Addr) (c5 : Nat), n ≤ L.length ∧ i = .int .i64 (n : Int) ∧ a = .slice A5 (allF (L.take n)).length c5 ∧ Hid (Made w0 wr A5 c5 (allF (L.take n)))) (fun _ i _ => L.length - (intOf i).toNat)
  case atStart => exact ⟨0, none, 0, by omega, rfl, rfl, HM0⟩
  case round =>
    obtain ⟨n, A5, c5, hn, rfl, rfl, HC⟩ := hrel
    clear HM0
    by_cases hlt : n < L.length
    · obtain ⟨ad, Ai, ci, rfl, hcell, hci, hCi⟩ := row_in (Kd.C_below HL.out (below_step HB0.out HC.out.below)) hlt
      have hts := allF_take_succ hlt
      have hpo := HOK.out (L[n]'hlt) (List.getElem_mem hlt)
      have hle := allF_take_le L n
      generalize L[n]'hlt = p at *
      have PUT : Aside0 (Calls Try.prog 63 #[.slice A5 (allF (L.take n)).length c5, .slice Ai p.length ci] wr fun e w' => ∃ (A' : Option Addr) (c' : Nat), e = .returned (.tuple #[.slice A' (allF (L.take (n + 1))).length c', .int .i64 0]) ∧ Made w0 w' A' c' (allF (L.take (n + 1)))) := Aside0.mk (by
        refine (refPut_any A5 Ai c5 ci (allF (L.take n)) p wr HC.out.row HC.out.cap (by have := H9.out; omega) hCi hci hpo.1).mono ?_
        rintro e w' ⟨A', c', r, x, he, hr, h1, h2, h3⟩
        rw [if_neg (by have := hpo.2.1; omega), if_neg (by have := hpo.2.2; omega), ← hts] at hr
        injection hr with e1 e2
        subst e1 e2
        exact ⟨A', c', he, h2, h1, below_step HC.out.below h3⟩)
      clear hts hpo hle hCi
      generalize (allF (L.take n)).length = q1 at *
      generalize hq2 : (allF (L.take (n + 1))).length = q2 at *
      have HQ2 := Aside0.mk hq2
      clear hq2
      generalize p.length = pl at *
      go_wp2_with (go_at_call 63; refine PUT.out.mono ?_; rintro e w1 ⟨A', c', rfl, hm⟩; have HM := Aside0.mk hm; clear hm)
      go_roundw
      case rel => exact ⟨n + 1, A', c', by omega, by go_num, by rw [HQ2.out], Lib.hid HM.out⟩
      case measure => simp [intOf]; omega
    · obtain rfl : n = L.length := by omega
      have hcv := Kd.C_string (P := Try.prog) (c := c5) Try.underlying22 Try.underlying5 Try.underlying9 HC.out.row
      rw [List.take_length] at hcv
      rw [HSF.out] at hcv
      rw [List.take_length]
      have hb := HC.out.below
      have HBW := Aside0.mk (below_step HB0.out hb)
      have hb1 := blk_below HBX.out hb
      have HR1 := Aside0.mk (blk_below HRS.out hb)
      have q0 : wr.cell? ⟨w.heap.size, 0, none⟩ = some (.int .i64 room) := (blk_cell hb1 0).trans rfl
      have q1 : wr.cell? ⟨w.heap.size, 1, none⟩ = some (.string sa) := (blk_cell hb1 1).trans rfl
      have q2 : wr.cell? ⟨w.heap.size, 2, none⟩ = some (.string sb) := (blk_cell hb1 2).trans rfl
      clear hb hb1 HC
      generalize (allF L).length = fl at *
      go_wp2_with (go_at_call 58; refine (SW.out _).mono ?_; rintro e w2 ⟨rfl, hb⟩; have HB2 := Aside0.mk (below_step HBW.out hb); have hr2 := blk_below HR1.out hb; have HR2 := Aside0.mk hr2; have t0 : w2.cell? ⟨w.heap.size + 1, 0, none⟩ = some (.int .i64 0) := (blk_cell hr2 0).trans rfl; have t1 : w2.cell? ⟨w.heap.size + 1, 1, none⟩ = some (.string ⟨#[]⟩) := (blk_cell hr2 1).trans rfl; have t2 : w2.cell? ⟨w.heap.size + 1, 2, none⟩ = some (.string ⟨#[]⟩) := (blk_cell hr2 2).trans rfl; have tf : ∀ i, w2.frozen? ⟨w.heap.size + 1, i, none⟩ = false := fun i => blk_frozen hr2 i; clear hb hr2 HBW HR1 q0 q1 q2)
      obtain ⟨hbel, f0, f1, f2⟩ := out48 room s1 s2 HB2.out HR2.out rfl
      clear t0 t1 t2 tf
      generalize World.setCell _ _ _ = wf at *
      exact bodyPost_ret (v := .tuple #[.agg #[.int .i64 room, .string s1, .string s2], .int .i64 x]) (by simp [results, Try.results92, go_sem, f0, f1, f2]) rfl ⟨rfl, hbel⟩
end
end Go.Proofs.Ytbcienbnhchdeaa.Hand

/- The document's journal (pacesetterref06): Swap with an entry that may not be. -/
namespace Go.Proofs.Ytbcienbnhchdeaa.Hand
open Go Go.RowKit Go.Proofs.YtbcienbnhchdeaaW.PrintLast Go.Proofs.YtbcienbnhchdeaaW.PrintWords Go.Proofs.YtbcienbnhchdeaaW.PrintMore Print FrameC FrameL FrameS FrameR JMath
set_option linter.unusedVariables false
set_option linter.unusedSimpArgs false
attribute [local go_sem] max2_int min2_int max_two min_two
section
variable {A : Option Addr} {c : Nat} {L : List (List Int)} {w : World}
set_option maxRecDepth 100000 in
set_option maxHeartbeats 1000000 in
theorem r6_swap_no (room : Int) (sa sb : ByteArray) (hL : Kd.C KS w A L.length L) (hc : L.length ≤ c) (K : Nat) (hK : K < L.length) (hz : L[K]'hK = []) (hok : ∀ (n : Nat) (hn : n < L.length), n < K → OkP (L[n]'hn)) (h9 : (allF L).length ≤ 900000) :
    Calls Try.prog 92 #[.agg #[.int .i64 room, .string sa, .string sb], .slice A L.length c] w fun e w' => e = .returned (.tuple #[.agg #[.int .i64 room, .string sa, .string sb], .int .i64 1]) ∧ Below w.heap.size w w' := by
  have hl63 := hL.2.1
  obtain ⟨hbx, hrs, hb0⟩ := two48 w room sa sb
  have HL := Aside0.mk hL
  have HOK := Aside0.mk hok
  have HZ := Aside0.mk hz
  have H9 := Aside0.mk h9
  have HBX := Aside0.mk hbx
  have HRS := Aside0.mk hrs
  have HB0 := Aside0.mk hb0
  clear hL hok h9 hbx hrs hb0 hz
  go_enter Try.func92, Try.ntmps92
  go_wp2
  generalize (w.alloc (.cells #[.int .i64 room, .string sa, .string sb] 48)).alloc (.cells #[.int .i64 0, .string ⟨#[]⟩, .string ⟨#[]⟩] 48) = w0 at *
  have hz0 := blk_lt HRS.out
  have HM0 := Lib.hid (show Made w0 w0 none 0 (allF (L.take 0)) from ⟨Kd.C_nil _ _, Nat.le_refl _, Below.refl _ _⟩)
  go_loopw [6, 7] (fun a i wr => ∃ (n : Nat) (A5 : Option Addr) (c5 : Nat), n ≤ K ∧ i = .int .i64 (n : Int) ∧ a = .slice A5 (allF (L.take n)).length c5 ∧ Hid (Made w0 wr A5 c5 (allF (L.take n)))) (fun _ i _ => L.length - (intOf i).toNat)
  case atStart => exact ⟨0, none, 0, by omega, rfl, rfl, HM0⟩
  case round =>
    obtain ⟨n, A5, c5, hn, rfl, rfl, HC⟩ := hrel
    clear HM0
    have hlt : n < L.length := by omega
    obtain ⟨ad, Ai, ci, rfl, hcell, hci, hCi⟩ := row_in (Kd.C_below HL.out (below_step HB0.out HC.out.below)) hlt
    have hts := allF_take_succ hlt
    have hle := allF_take_le L n
    by_cases hnk : n < K
    · have hpo := HOK.out n hlt hnk
      generalize L[n]'hlt = p at *
      have PUT : Aside0 (Calls Try.prog 63 #[.slice A5 (allF (L.take n)).length c5, .slice Ai p.length ci] wr fun e w' => ∃ (A' : Option Addr) (c' : Nat), e = .returned (.tuple #[.slice A' (allF (L.take (n + 1))).length c', .int .i64 0]) ∧ Made w0 w' A' c' (allF (L.take (n + 1)))) := Aside0.mk (by
        refine (refPut_any A5 Ai c5 ci (allF (L.take n)) p wr HC.out.row HC.out.cap (by have := H9.out; omega) hCi hci hpo.1).mono ?_
        rintro e w' ⟨A', c', r, x, he, hr, h1, h2, h3⟩
        rw [if_neg (by have := hpo.2.1; omega), if_neg (by have := hpo.2.2; omega), ← hts] at hr
        injection hr with e1 e2
        subst e1 e2
        exact ⟨A', c', he, h2, h1, below_step HC.out.below h3⟩)
      clear hts hpo hle hCi
      generalize (allF (L.take n)).length = q1 at *
      generalize hq2 : (allF (L.take (n + 1))).length = q2 at *
      have HQ2 := Aside0.mk hq2
      clear hq2
      generalize p.length = pl at *
      go_wp2_with (go_at_call 63; refine PUT.out.mono ?_; rintro e w1 ⟨A', c', rfl, hm⟩; have HM := Aside0.mk hm; clear hm)
      go_roundw
      case rel => exact ⟨n + 1, A', c', by omega, by go_num, by rw [HQ2.out], Lib.hid HM.out⟩
      case measure => simp [intOf]; omega
    · obtain rfl : n = K := by omega
      have hz := HZ.out
      rw [hz] at hcell hCi hci
      have hcell' : wr.cell? (ad.add n) = some (.slice Ai 0 ci) := hcell
      have PUT : Aside0 (Calls Try.prog 63 #[.slice A5 (allF (L.take n)).length c5, .slice Ai 0 ci] wr fun e w' => ∃ (A' : Option Addr) (m c' : Nat), e = .returned (.tuple #[.slice A' m c', .int .i64 1]) ∧ Below wr.heap.size wr w') := Aside0.mk (by
        refine (refPut_any A5 Ai c5 ci (allF (L.take n)) [] wr HC.out.row HC.out.cap (by have := H9.out; omega) hCi hci rfl).mono ?_
        rintro e w' ⟨A', c', r, x, he, hr, h1, h2, h3⟩
        rw [if_pos (show ([] : List Int).length = 0 from rfl)] at hr
        injection hr with e1 e2
        subst e1 e2
        exact ⟨A', _, c', he, h3⟩)
      have hb := HC.out.below
      have HBW := Aside0.mk (below_step HB0.out hb)
      have HB1 := Aside0.mk (blk_below HBX.out hb)
      have HR1 := Aside0.mk (blk_below HRS.out hb)
      clear hts hle hCi hb HC hcell hz hci hn hnk
      generalize (allF (L.take n)).length = q1 at *
      go_wp2_with (go_at_call 63; refine PUT.out.mono ?_; rintro e w1 ⟨A', m', c', rfl, hb⟩; have HB2 := Aside0.mk (below_step HBW.out hb); have hb1 := blk_below HB1.out hb; have hr1 := blk_below HR1.out hb; have HR2 := Aside0.mk hr1; have q0 : w1.cell? ⟨w.heap.size, 0, none⟩ = some (.int .i64 room) := (blk_cell hb1 0).trans rfl; have q1 : w1.cell? ⟨w.heap.size, 1, none⟩ = some (.string sa) := (blk_cell hb1 1).trans rfl; have q2 : w1.cell? ⟨w.heap.size, 2, none⟩ = some (.string sb) := (blk_cell hb1 2).trans rfl; have t0 : w1.cell? ⟨w.heap.size + 1, 0, none⟩ = some (.int .i64 0) := (blk_cell hr1 0).trans rfl; have t1 : w1.cell? ⟨w.heap.size + 1, 1, none⟩ = some (.string ⟨#[]⟩) := (blk_cell hr1 1).trans rfl; have t2 : w1.cell? ⟨w.heap.size + 1, 2, none⟩ = some (.string ⟨#[]⟩) := (blk_cell hr1 2).trans rfl; have tf : ∀ i, w1.frozen? ⟨w.heap.size + 1, i, none⟩ = false := fun i => blk_frozen hr1 i; clear hb hr1 hb1 HBW HR1 HB1)
      obtain ⟨hbel, f0, f1, f2⟩ := out48 room sa sb HB2.out HR2.out rfl
      clear t0 t1 t2 tf q0 q1 q2
      generalize World.setCell _ _ _ = wf at *
      exact bodyPost_ret (v := .tuple #[.agg #[.int .i64 room, .string sa, .string sb], .int .i64 1]) (by simp [results, Try.results92, go_sem, f0, f1, f2]) rfl ⟨rfl, hbel⟩
end
end Go.Proofs.Ytbcienbnhchdeaa.Hand

/- The document's journal (pacesetterref06): Torn. -/
namespace Go.Proofs.Ytbcienbnhchdeaa.Hand
open Go Go.RowKit Go.Proofs.YtbcienbnhchdeaaW.PrintLast Go.Proofs.YtbcienbnhchdeaaW.PrintWords Go.Proofs.YtbcienbnhchdeaaW.PrintMore Print FrameC FrameL FrameS FrameR JMath
set_option linter.unusedVariables false
set_option linter.unusedSimpArgs false
attribute [local go_sem] max2_int min2_int max_two min_two
theorem new48_from {n : Nat} {w0 W : World} (h : Below n w0 W) : Aside0 ((W.alloc (.cells #[.int .i64 0, .string ⟨#[]⟩, .string ⟨#[]⟩] 48)).heap[W.heap.size]? = some (.cells #[.int .i64 0, .string ⟨#[]⟩, .string ⟨#[]⟩] 48 (0, 0))) := Aside0.mk (heap_alloc_new W _)
/-- The same, and a block more. -/
theorem out48a {w W : World} (room : Int) (s1 s2 : ByteArray) (o : Obj) (hb : Below w.heap.size w W) (hr : W.heap[w.heap.size + 1]? = some (.cells #[.int .i64 0, .string ⟨#[]⟩, .string ⟨#[]⟩] 48 (0, 0))) {wf : World} (hw : wf = (((W.setCell ⟨w.heap.size + 1, 0, none⟩ (.int .i64 room)).setCell ⟨w.heap.size + 1, 1, none⟩ (.string s1)).setCell ⟨w.heap.size + 1, 2, none⟩ (.string s2)).alloc o) :
    Below w.heap.size w wf ∧ wf.cell? ⟨w.heap.size + 1, 0, none⟩ = some (.int .i64 room) ∧ wf.cell? ⟨w.heap.size + 1, 1, none⟩ = some (.string s1) ∧ wf.cell? ⟨w.heap.size + 1, 2, none⟩ = some (.string s2) := by
  subst hw
  have b3 := blk_set (blk_set (blk_set hr 0 (.int .i64 room)) 1 (.string s1)) 2 (.string s2)
  have b4 := (heap_alloc_old _ o (blk_lt b3)).trans b3
  exact ⟨below_alloc (((hb.setCell (p := ⟨w.heap.size + 1, 0, none⟩) (by simp) (.int .i64 room)).setCell (p := ⟨w.heap.size + 1, 1, none⟩) (by simp) (.string s1)).setCell (p := ⟨w.heap.size + 1, 2, none⟩) (by simp) (.string s2)) o, (blk_cell b4 0).trans rfl, (blk_cell b4 1).trans rfl, (blk_cell b4 2).trans rfl⟩
section
variable {A : Option Addr} {c : Nat} {p : List Int} {w : World}
set_option maxRecDepth 100000 in
set_option maxHeartbeats 1000000 in
theorem r6_torn_no (room keep x : Int) (hx : ((x : Int) != 0) = true) (q c : Nat) (sa sb s1 s2 : ByteArray) (w : World)
    (APP : Aside0 (∀ W, Below w.heap.size w W → Calls Try.prog 88 #[.agg #[.int .i64 room, .string sa, .string sb], .slice A q c] W fun e w' => e = .returned (.tuple #[.agg #[.int .i64 room, .string s1, .string s2], .int .i64 x]) ∧ Below W.heap.size W w')) :
    Calls Try.prog 91 #[.agg #[.int .i64 room, .string sa, .string sb], .slice A q c, .int .i64 keep] w fun e w' => e = .returned (.tuple #[.agg #[.int .i64 room, .string sa, .string sb], .int .i64 x]) ∧ Below w.heap.size w w' := by
  obtain ⟨hbx, hrs, hb0⟩ := two48 w room sa sb
  have HBX := Aside0.mk hbx
  have HRS := Aside0.mk hrs
  have HB0 := Aside0.mk hb0
  have hx0 : ((x : Int) == 0) = false := by simpa [bne] using hx
  clear hbx hrs hb0
  go_enter Try.func91, Try.ntmps91
  go_wp2_with (go_at_call 88; refine (APP.out _ HB0.out).mono ?_; rintro e w1 ⟨rfl, hb⟩; have HB1 := Aside0.mk (below_step HB0.out hb); have HR2 := Aside0.mk (blk_below HRS.out hb); have q0 := (blk_cell (blk_below HBX.out hb) 0).trans (show _ = some (.int .i64 room) from rfl); have q1 := (blk_cell (blk_below HBX.out hb) 1).trans (show _ = some (.string sa) from rfl); have q2 := (blk_cell (blk_below HBX.out hb) 2).trans (show _ = some (.string sb) from rfl); have t0 := (blk_cell (blk_below HRS.out hb) 0).trans (show _ = some (.int .i64 0) from rfl); have t1 := (blk_cell (blk_below HRS.out hb) 1).trans (show _ = some (.string ⟨#[]⟩) from rfl); have t2 := (blk_cell (blk_below HRS.out hb) 2).trans (show _ = some (.string ⟨#[]⟩) from rfl); have tf := fun i => blk_frozen (blk_below HRS.out hb) i; have tl := blk_lt (blk_below HRS.out hb); have tl0 := blk_lt (blk_below HBX.out hb); clear hb)
  obtain ⟨hbel, f0, f1, f2⟩ := out48a room sa sb (.cells #[.int .i64 room, .string s1, .string s2] 48) HB1.out HR2.out rfl
  clear t0 t1 t2 tf q0 q1 q2 tl tl0
  generalize World.alloc _ _ = wf at *
  exact bodyPost_ret (v := .tuple #[.agg #[.int .i64 room, .string sa, .string sb], .int .i64 x]) (by simp [results, Try.results91, go_sem, f0, f1, f2]) rfl ⟨rfl, hbel⟩
set_option maxRecDepth 100000 in
set_option maxHeartbeats 2000000 in
theorem r6_torn_of (room keep y z : Int) (q c fl K : Nat) (sa sb s1 s2 sk s3 s4 s5 : ByteArray) (hK : keepOf keep fl = K) (hfl : fl ≤ 2000) (w : World)
    (APP : Aside0 (∀ W, Below w.heap.size w W → Calls Try.prog 88 #[.agg #[.int .i64 room, .string sa, .string sb], .slice A q c] W fun e w' => e = .returned (.tuple #[.agg #[.int .i64 room, .string s1, .string s2], .int .i64 0]) ∧ Below W.heap.size W w'))
    (PUT : Aside0 (∀ W, Below w.heap.size w W → Calls Try.prog 63 #[.slice none 0 0, .slice A q c] W fun e w' => ∃ (A5 : Option Addr) (c5 : Nat), e = .returned (.tuple #[.slice A5 fl c5, .int .i64 0]) ∧ fl ≤ c5 ∧ (∀ W1, Below w'.heap.size w' W1 → (convert 22 9 (.slice A5 K c5)).run Try.prog W1 = .ok (.string sk) W1) ∧ Below W.heap.size W w'))
    (WR : Aside0 (∀ W, Calls Try.prog 53 #[.agg #[.int .i64 room, .string sa, .string sb], .string sk] W fun e w' => e = .returned (.tuple #[.agg #[.int .i64 room, .string sa, .string s3], .int .i64 0]) ∧ Below W.heap.size W w'))
    (SY : Aside0 (∀ W, Calls Try.prog 54 #[.agg #[.int .i64 room, .string sa, .string s3]] W fun e w' => e = .returned (.tuple #[.agg #[.int .i64 room, .string s4, .string ⟨#[]⟩], .int .i64 y]) ∧ Below W.heap.size W w'))
    (OP : Aside0 (∀ W, Calls Try.prog 81 #[.agg #[.int .i64 room, .string s4, .string ⟨#[]⟩]] W fun e w' => e = .returned (.tuple #[.agg #[.int .i64 room, .string s5, .string ⟨#[]⟩], .int .i64 z]) ∧ Below W.heap.size W w')) :
    Calls Try.prog 91 #[.agg #[.int .i64 room, .string sa, .string sb], .slice A q c, .int .i64 keep] w fun e w' => e = .returned (.tuple #[.agg #[.int .i64 room, .string s5, .string ⟨#[]⟩], .int .i64 13]) ∧ Below w.heap.size w w' := by
  obtain ⟨hbx, hrs, hb0⟩ := two48 w room sa sb
  have HBX := Aside0.mk hbx
  have HRS := Aside0.mk hrs
  have HB0 := Aside0.mk hb0
  have hkl : K ≤ fl := hK ▸ keepOf_le keep fl
  obtain ⟨M, hM⟩ : ∃ M : Int, (if keep < 0 then 0 else keep) = M := ⟨_, rfl⟩
  have hmn := keep_min keep fl
  rw [hK, hM] at hmn
  clear hbx hrs hb0 hK
  go_enter Try.func91, Try.ntmps91
  go_wp2_with (first
    | (go_at_call 88; refine (APP.out _ HB0.out).mono ?_; rintro e w1 ⟨rfl, hb⟩; have HB1 := Aside0.mk (below_alloc (below_step HB0.out hb) (.cells #[.int .i64 room, .string s1, .string s2] 48)); have HBX1 := Aside0.mk (blk_below (blk_below HBX.out hb) (below_alloc (Below.refl _ _) (.cells #[.int .i64 room, .string s1, .string s2] 48))); have HR1 := Aside0.mk (blk_below (blk_below HRS.out hb) (below_alloc (Below.refl _ _) (.cells #[.int .i64 room, .string s1, .string s2] 48))); clear hb HB0 HBX HRS APP)
    | (go_at_call 63; refine (PUT.out _ HB1.out).mono ?_; rintro e w2 ⟨A5, c5, rfl, hc5, hcv, hb⟩; have HCV := Aside0.mk hcv; have HB2 := Aside0.mk (below_step HB1.out hb); have HBX2 := Aside0.mk (blk_below HBX1.out hb); have HR2 := Aside0.mk (blk_below HR1.out hb); clear hb hcv HB1 HBX1 HR1 PUT))
  have CE : Aside0 (∀ W, Below w2.heap.size w2 W → W.cell? ⟨w.heap.size, 0, none⟩ = some (.int .i64 room) ∧ W.cell? ⟨w.heap.size, 1, none⟩ = some (.string sa) ∧ W.cell? ⟨w.heap.size, 2, none⟩ = some (.string sb)) := Aside0.mk (fun W hW => by
    have h := blk_below HBX2.out hW
    exact ⟨(blk_cell h 0).trans rfl, (blk_cell h 1).trans rfl, (blk_cell h 2).trans rfl⟩)
  have hkc : K ≤ c5 := by omega
  have hkz : (0 : Int) ≤ (K : Int) := by omega
  have hkc2 : (K : Int) ≤ (c5 : Int) := by omega
  refine start_ (n := 12) (S := fun w' => Below w2.heap.size w2 w' ∧ w'.cell? ⟨w.heap.size, 0, none⟩ = some (.int .i64 room) ∧ w'.cell? ⟨w.heap.size, 1, none⟩ = some (.string sa) ∧ w'.cell? ⟨w.heap.size, 2, none⟩ = some (.string sb) ∧ (convert 22 9 (.slice A5 K c5)).run Try.prog w' = .ok (.string sk) w') (ds := [10]) #[false, false, false, false, false, false, false, false, false, false, false, false] (by kernel_rfl) rfl rfl ⟨((below_drew (Below.refl _ _))), ((CE.out _ ((below_drew (Below.refl _ _)))).1), ((CE.out _ ((below_drew (Below.refl _ _)))).2.1), ((CE.out _ ((below_drew (Below.refl _ _)))).2.2), (HCV.out _ ((below_drew (Below.refl _ _))))⟩ (fun hHeld => ?_)
  refine pure_ (i := 1) (N := some 41) (v := ?_) (a' := ?_) #[false, true, false, false, false, false, false, false, false, false, false, false] rfl rfl (by kernel_rfl) (fun _ _ _ h => h) (Or.inl ⟨by rfl, ?_⟩) ?_ ?_
  rotate_left
  · intro w'
    go_simp
    with_reducible rfl
  rotate_left
  · simp only [Act.put, List.setIfInBounds_toArray, List.set_cons_zero, List.set_cons_succ, i64_w, i32_w]
    rfl
  refine pure_ (i := 2) (N := some 42) (v := ?_) (a' := ?_) #[false, true, true, false, false, false, false, false, false, false, false, false] rfl rfl (by kernel_rfl) (fun _ _ _ h => h) (Or.inl ⟨by rfl, ?_⟩) ?_ ?_
  rotate_left
  · intro w'
    go_simp
    with_reducible rfl
  rotate_left
  · simp only [Act.put, List.setIfInBounds_toArray, List.set_cons_zero, List.set_cons_succ, i64_w, i32_w]
    rfl
  refine pure_ (i := 3) (N := some 43) (v := ?_) (a' := ?_) #[false, true, true, true, false, false, false, false, false, false, false, false] rfl rfl (by kernel_rfl) (fun _ _ _ h => h) (Or.inl ⟨by rfl, ?_⟩) ?_ ?_
  rotate_left
  · intro w'
    go_simp
    with_reducible rfl
  rotate_left
  · simp only [Act.put, List.setIfInBounds_toArray, List.set_cons_zero, List.set_cons_succ, i64_w, i32_w]
    rfl
  refine take_ (i := 0) (N := some 40) (v := ?_) (a' := ?_) #[true, true, true, true, false, false, false, false, false, false, false, false] rfl rfl (by kernel_rfl) (fun _ _ _ h => h) (Or.inl ⟨by rfl, ?_⟩) hHeld ?_ ?_
  rotate_left
  · rintro w' ⟨s0, s1, s2, s3, s4⟩
    go_simp
    with_reducible rfl
  rotate_left
  · simp only [Act.put, List.setIfInBounds_toArray, List.set_cons_zero, List.set_cons_succ, i64_w, i32_w]
    rfl
  refine take_ (i := 4) (N := some 44) (v := ?_) (a' := ?_) #[true, true, true, true, true, false, false, false, false, false, false, false] rfl rfl (by kernel_rfl) (fun _ _ _ h => h) (Or.inl ⟨by rfl, ?_⟩) hHeld ?_ ?_
  rotate_left
  · rintro w' ⟨s0, s1, s2, s3, s4⟩
    go_simp
    with_reducible rfl
  rotate_left
  · simp only [Act.put, List.setIfInBounds_toArray, List.set_cons_zero, List.set_cons_succ, i64_w, i32_w]
    rfl
  refine join_ (σ := Nat) 2 #[true, true, true, true, true, true, true, true, true, true, false, false] (fun s => [(45, .tuple #[.agg #[.int .i64 room, .string sa, .string s3], .int .i64 0]), (39, .tuple #[.agg #[.int .i64 room, .string sa, .string s3], .int .i64 0]), (46, .agg #[.int .i64 room, .string sa, .string s3]), (47, .int .i64 0), (13, .pointer (some ⟨s, 0, none⟩))]) (fun s w' => w'.heap[s]? = some (.cells #[.int .i64 0, .string ⟨#[]⟩, .string ⟨#[]⟩] 48 (0, 0)) ∧ w2.heap.size ≤ s ∧ Below w2.heap.size w2 w') ?_ ?_
  rotate_left
  · intro hCont
    refine two_ (i := 5) (j := 9) (Ni := some 45) (Nj := some 13) #[true, true, true, true, true, true, false, false, false, false, false, false] #[true, true, true, true, true, false, false, false, false, true, false, false] rfl rfl rfl rfl (by kernel_rfl) (by decide) (by decide) (fun K hK => ?_) (fun K hK => ?_)
    · skip
      refine goes_ Try.func53 (by kernel_rfl) rfl #[.agg #[.int .i64 room, .string sa, .string sb], .string sk] (by rfl) rfl rfl (by simp only [List.map_toArray, List.map_cons, List.map_nil]; rfl) ?_
      with_reducible refine (WR.out _).mono ?_
      rintro e w8 ⟨rfl, hb⟩
      refine ⟨_, rfl, ?_⟩
      (try (have n_ := Aside0.mk (blk_below HR.out hb); clear HR; have HR := n_; clear n_))
      refine hK.out _ _ ⟨below_step hHeld.1 hb, (CE.out _ (below_step hHeld.1 hb)).1, (CE.out _ (below_step hHeld.1 hb)).2.1, (CE.out _ (below_step hHeld.1 hb)).2.2, HCV.out _ (below_step hHeld.1 hb)⟩ (fun hHeld => ?_)
      clear hK K
      refine norm_ (a' := ?_) ?_ ?_
      rotate_left
      · show Act.put _ (some 45) _ = _
        simp only [Act.put, List.setIfInBounds_toArray, List.set_cons_zero, List.set_cons_succ, i64_w, i32_w]
        rfl
      refine pure_ (i := 6) (N := some 39) (v := ?_) (a' := ?_) #[true, true, true, true, true, true, true, false, false, false, false, false] rfl rfl (by kernel_rfl) (fun _ _ _ h => h) (Or.inl ⟨by rfl, ?_⟩) ?_ ?_
      rotate_left
      · intro w'
        go_simp
        with_reducible rfl
      rotate_left
      · simp only [Act.put, List.setIfInBounds_toArray, List.set_cons_zero, List.set_cons_succ, i64_w, i32_w]
        rfl
      refine pure_ (i := 7) (N := some 46) (v := ?_) (a' := ?_) #[true, true, true, true, true, true, true, true, false, false, false, false] rfl rfl (by kernel_rfl) (fun _ _ _ h => h) (Or.inl ⟨by rfl, ?_⟩) ?_ ?_
      rotate_left
      · intro w'
        go_simp
        with_reducible rfl
      rotate_left
      · simp only [Act.put, List.setIfInBounds_toArray, List.set_cons_zero, List.set_cons_succ, i64_w, i32_w]
        rfl
      refine pure_ (i := 8) (N := some 47) (v := ?_) (a' := ?_) #[true, true, true, true, true, true, true, true, true, false, false, false] rfl rfl (by kernel_rfl) (fun _ _ _ h => h) (Or.inl ⟨by rfl, ?_⟩) ?_ ?_
      rotate_left
      · intro w'
        go_simp
        with_reducible rfl
      rotate_left
      · simp only [Act.put, List.setIfInBounds_toArray, List.set_cons_zero, List.set_cons_succ, i64_w, i32_w]
        rfl
      refine one_ (i := 9) (N := some 13) #[true, true, true, true, true, true, true, true, true, true, false, false] rfl rfl (by kernel_rfl) (by decide) (fun K hK => ?_)
      refine value_ (w1 := ?_) (v := ?_) (by rfl) rfl ?_ ?_
      rotate_left 2
      · go_simp
        constructor
        · rfl
        · rfl
      have HR := new48_from hHeld.1
      have LR := Aside0.mk (below_size hHeld.1)
      refine hK.out _ _ ⟨below_alloc hHeld.1 _, (CE.out _ (below_alloc hHeld.1 _)).1, (CE.out _ (below_alloc hHeld.1 _)).2.1, (CE.out _ (below_alloc hHeld.1 _)).2.2, HCV.out _ (below_alloc hHeld.1 _)⟩ (fun hHeld => ?_)
      clear hK K
      refine norm_ (a' := ?_) ?_ ?_
      rotate_left
      · show Act.put _ (some 13) _ = _
        simp only [Act.put, List.setIfInBounds_toArray, List.set_cons_zero, List.set_cons_succ, i64_w, i32_w]
        rfl
      exact norm_ (by first | (simp only [putAll, Act.put, List.setIfInBounds_toArray, List.set_cons_zero, List.set_cons_succ]; done) | (simp only [putAll, Act.put, List.setIfInBounds_toArray, List.set_cons_zero, List.set_cons_succ]; rfl)) (hCont _ _ ⟨HR.out, LR.out, hHeld.1⟩)
    · skip
      refine value_ (w1 := ?_) (v := ?_) (by rfl) rfl ?_ ?_
      rotate_left 2
      · go_simp
        constructor
        · rfl
        · rfl
      have HR := new48_from hHeld.1
      have LR := Aside0.mk (below_size hHeld.1)
      refine hK.out _ _ ⟨below_alloc hHeld.1 _, (CE.out _ (below_alloc hHeld.1 _)).1, (CE.out _ (below_alloc hHeld.1 _)).2.1, (CE.out _ (below_alloc hHeld.1 _)).2.2, HCV.out _ (below_alloc hHeld.1 _)⟩ (fun hHeld => ?_)
      clear hK K
      refine norm_ (a' := ?_) ?_ ?_
      rotate_left
      · show Act.put _ (some 13) _ = _
        simp only [Act.put, List.setIfInBounds_toArray, List.set_cons_zero, List.set_cons_succ, i64_w, i32_w]
        rfl
      refine one_ (i := 5) (N := some 45) #[true, true, true, true, true, true, false, false, false, true, false, false] rfl rfl (by kernel_rfl) (by decide) (fun K hK => ?_)
      refine goes_ Try.func53 (by kernel_rfl) rfl #[.agg #[.int .i64 room, .string sa, .string sb], .string sk] (by rfl) rfl rfl (by simp only [List.map_toArray, List.map_cons, List.map_nil]; rfl) ?_
      with_reducible refine (WR.out _).mono ?_
      rintro e w8 ⟨rfl, hb⟩
      refine ⟨_, rfl, ?_⟩
      (try (have n_ := Aside0.mk (blk_below HR.out hb); clear HR; have HR := n_; clear n_))
      refine hK.out _ _ ⟨below_step hHeld.1 hb, (CE.out _ (below_step hHeld.1 hb)).1, (CE.out _ (below_step hHeld.1 hb)).2.1, (CE.out _ (below_step hHeld.1 hb)).2.2, HCV.out _ (below_step hHeld.1 hb)⟩ (fun hHeld => ?_)
      clear hK K
      refine norm_ (a' := ?_) ?_ ?_
      rotate_left
      · show Act.put _ (some 45) _ = _
        simp only [Act.put, List.setIfInBounds_toArray, List.set_cons_zero, List.set_cons_succ, i64_w, i32_w]
        rfl
      refine pure_ (i := 6) (N := some 39) (v := ?_) (a' := ?_) #[true, true, true, true, true, true, true, false, false, true, false, false] rfl rfl (by kernel_rfl) (fun _ _ _ h => h) (Or.inl ⟨by rfl, ?_⟩) ?_ ?_
      rotate_left
      · intro w'
        go_simp
        with_reducible rfl
      rotate_left
      · simp only [Act.put, List.setIfInBounds_toArray, List.set_cons_zero, List.set_cons_succ, i64_w, i32_w]
        rfl
      refine pure_ (i := 7) (N := some 46) (v := ?_) (a' := ?_) #[true, true, true, true, true, true, true, true, false, true, false, false] rfl rfl (by kernel_rfl) (fun _ _ _ h => h) (Or.inl ⟨by rfl, ?_⟩) ?_ ?_
      rotate_left
      · intro w'
        go_simp
        with_reducible rfl
      rotate_left
      · simp only [Act.put, List.setIfInBounds_toArray, List.set_cons_zero, List.set_cons_succ, i64_w, i32_w]
        rfl
      refine pure_ (i := 8) (N := some 47) (v := ?_) (a' := ?_) #[true, true, true, true, true, true, true, true, true, true, false, false] rfl rfl (by kernel_rfl) (fun _ _ _ h => h) (Or.inl ⟨by rfl, ?_⟩) ?_ ?_
      rotate_left
      · intro w'
        go_simp
        with_reducible rfl
      rotate_left
      · simp only [Act.put, List.setIfInBounds_toArray, List.set_cons_zero, List.set_cons_succ, i64_w, i32_w]
        rfl
      exact norm_ (by first | (simp only [putAll, Act.put, List.setIfInBounds_toArray, List.set_cons_zero, List.set_cons_succ]; done) | (simp only [putAll, Act.put, List.setIfInBounds_toArray, List.set_cons_zero, List.set_cons_succ]; rfl)) (hCont _ _ ⟨HR.out, LR.out, hHeld.1⟩)
  rintro R w5 ⟨hr, lr, hb⟩
  have hHeld : Below w2.heap.size w2 w5 ∧ w5.cell? ⟨w.heap.size, 0, none⟩ = some (.int .i64 room) ∧ w5.cell? ⟨w.heap.size, 1, none⟩ = some (.string sa) ∧ w5.cell? ⟨w.heap.size, 2, none⟩ = some (.string sb) ∧ (convert 22 9 (.slice A5 K c5)).run Try.prog w5 = .ok (.string sk) w5 := ⟨hb, (CE.out _ (hb)).1, (CE.out _ (hb)).2.1, (CE.out _ (hb)).2.2, HCV.out _ (hb)⟩
  have HRB := Aside0.mk hr
  have HLR := Aside0.mk lr
  have HB5 := Aside0.mk hb
  have q0 : w5.cell? ⟨R, 0, none⟩ = some (.int .i64 0) := (blk_cell hr 0).trans rfl
  have q1 : w5.cell? ⟨R, 1, none⟩ = some (.string ⟨#[]⟩) := (blk_cell hr 1).trans rfl
  have q2 : w5.cell? ⟨R, 2, none⟩ = some (.string ⟨#[]⟩) := (blk_cell hr 2).trans rfl
  have f0 : ∀ i, w5.frozen? ⟨R, i, none⟩ = false := fun i => blk_frozen hr i
  have pl := blk_lt hr
  clear hr lr hb
  refine norm_ (a' := ?_) ?_ ?_
  rotate_left
  · simp only [putAll, Act.put, List.setIfInBounds_toArray, List.set_cons_zero, List.set_cons_succ]
    rfl
  refine last_ (i := 10) (N := none) #[true, true, true, true, true, true, true, true, true, true, true, false] rfl rfl (by kernel_rfl) (by decide) (fun K hK => ?_)
  refine skip_ (w1 := ?_) (by rfl) rfl ?_ ?_
  rotate_left
  · go_simp
    rfl
  refine hK.out _ _ ?_
  clear hK K
  refine pure_ (i := 11) (N := some 14) (v := ?_) (a' := ?_) #[true, true, true, true, true, true, true, true, true, true, true, true] rfl rfl (by kernel_rfl) (fun _ _ _ h => h) (Or.inl ⟨by rfl, ?_⟩) ?_ ?_
  rotate_left
  · intro w'
    go_simp
    with_reducible rfl
  rotate_left
  · simp only [Act.put, List.setIfInBounds_toArray, List.set_cons_zero, List.set_cons_succ, i64_w, i32_w]
    rfl
  refine done_ (by kernel_rfl) ?_
  have b1 := blk_set HRB.out 0 (.int .i64 room)
  have b2 := blk_set b1 1 (.string sa)
  have b3 := blk_set b2 2 (.string s3)
  have HB6 := Aside0.mk (((HB5.out.setCell (p := ⟨R, 0, none⟩) HLR.out (.int .i64 room)).setCell (p := ⟨R, 1, none⟩) HLR.out (.string sa)).setCell (p := ⟨R, 2, none⟩) HLR.out (.string s3))
  have p0 := (blk_cell b3 0).trans (show _ = some (.int .i64 room) from rfl)
  have p1 := (blk_cell b3 1).trans (show _ = some (.string sa) from rfl)
  have p2 := (blk_cell b3 2).trans (show _ = some (.string s3) from rfl)
  clear q0 q1 q2 f0 pl b1 b2 b3 HRB HLR HB5 hHeld CE HCV
  generalize World.setCell _ _ _ = w6 at *
  go_wp2_with (first
    | (go_at_call 54; refine (SY.out _).mono ?_; rintro e w7 ⟨rfl, hb⟩; have HB7 := Aside0.mk (below_alloc (below_step HB6.out hb) (.cells #[.int .i64 room, .string s4, .string ⟨#[]⟩] 48)); clear hb p0 p1 p2 HB6)
    | (go_at_call 81; refine (OP.out _).mono ?_; rintro e w8 ⟨rfl, hb⟩; have hb8 := below_step HB7.out hb; have HB8 := Aside0.mk (below_step HB2.out hb8); have hr8 := blk_below HR2.out hb8; have HR8 := Aside0.mk hr8; have t0 := (blk_cell hr8 0).trans (show _ = some (.int .i64 0) from rfl); have t1 := (blk_cell hr8 1).trans (show _ = some (.string ⟨#[]⟩) from rfl); have t2 := (blk_cell hr8 2).trans (show _ = some (.string ⟨#[]⟩) from rfl); have tf := fun i => blk_frozen hr8 i; have tl := blk_lt hr8; clear hb hb8 hr8 HB7))
  obtain ⟨hbel, f0, f1, f2⟩ := out48a room s5 ⟨#[]⟩ (.cells #[.int .i64 room, .string s5, .string ⟨#[]⟩] 48) HB8.out HR8.out rfl
  clear t0 t1 t2 tf tl
  generalize World.alloc _ _ = wf at *
  exact bodyPost_ret (v := .tuple #[.agg #[.int .i64 room, .string s5, .string ⟨#[]⟩], .int .i64 13]) (by simp [results, Try.results91, go_sem, f0, f1, f2]) rfl ⟨rfl, hbel⟩
end
end Go.Proofs.Ytbcienbnhchdeaa.Hand

/- The document's journal (pacesetterref06): its methods over a journal's entries. -/
namespace Go.Proofs.Ytbcienbnhchdeaa.Hand
open Go Go.RowKit Go.Proofs.YtbcienbnhchdeaaW.PrintLast Go.Proofs.YtbcienbnhchdeaaW.PrintWords Go.Proofs.YtbcienbnhchdeaaW.PrintMore Print FrameC FrameL FrameS FrameR JMath
set_option linter.unusedVariables false
set_option linter.unusedSimpArgs false
section
variable {A : Option Addr} {c : Nat} {p : List Int} {w : World} {l : List (List Int)} {s room : Nat}
theorem size_split (l : List (List Int)) (s : Nat) : (strOfNums (allF (l.take s))).size + (strOfNums (allF (l.drop s))).size = (allF l).length := by rw [str_size, str_size, ← List.length_append, allF_split]
theorem refD_snoc (room : Int) (l : List (List Int)) (p : List Int) (s : Nat) (hs : s ≤ l.length) : refD room (l ++ [p]) s = .agg #[.int .i64 room, .string (strOfNums (allF (l.take s))), .string (strOfNums (allF (l.drop s)) ++ strOfNums (frameOf p))] := by
  unfold refD
  rw [List.take_append_of_le_length hs, List.drop_append_of_le_length hs, allF_append, str_append, allF_cons, allF_nil, List.append_nil]
theorem r6_append_ok (hC : Kd.C (Kd.int .u8) w A p.length p) (hc : p.length ≤ c) (hp : OkP p) (hs : s ≤ l.length) (hr : room ≤ 1048576) (hfit : (allF l).length + (p.length + 6) ≤ room) :
    Calls Try.prog 88 #[refD room l s, .slice A p.length c] w fun e w' => e = .returned (.tuple #[refD room (l ++ [p]) s, .int .i64 0]) ∧ Below w.heap.size w w' := by
  rw [refD_snoc room l p s hs]
  refine r6_append_wr room _ _ (strOfNums (frameOf p)) _ _ 0 (Aside0.mk (fun W => ref_write_ok room _ _ _ ?_ hr W)) hp rfl hC hc hp.1
  rw [size_split, str_size, frameOf_len]
  exact hfit
theorem r6_append_full (hC : Kd.C (Kd.int .u8) w A p.length p) (hc : p.length ≤ c) (hp : OkP p) (h9 : (allF l).length ≤ 1048576) (hfit : room < (allF l).length + (p.length + 6)) :
    Calls Try.prog 88 #[refD room l s, .slice A p.length c] w fun e w' => e = .returned (.tuple #[refD room l s, .int .i64 4]) ∧ Below w.heap.size w w' := by
  refine r6_append_wr room _ _ (strOfNums (frameOf p)) _ _ 4 (Aside0.mk (fun W => ref_write_full room _ _ _ ?_ ?_ ?_ W)) hp rfl hC hc hp.1
  · rw [size_split, str_size, frameOf_len]; exact hfit
  · rw [size_split]; exact h9
  · rw [str_size, frameOf_len]; have := hp.2.2; omega
theorem r6_torn_ok (keep : Int) (hC : Kd.C (Kd.int .u8) w A p.length p) (hc : p.length ≤ c) (hp : OkP p) (hl : ∀ q ∈ l, OkP q) (hs : s ≤ l.length) (hr : room ≤ 1048576) (hfit : (allF l).length + (p.length + 6) ≤ room) (h9 : (allF (l ++ [p])).length ≤ 2000) {m : Nat} (hm : fit (l ++ [p]) ((allF l).length + keepOf keep (p.length + 6)) = m) :
    Calls Try.prog 91 #[refD room l s, .slice A p.length c, .int .i64 keep] w fun e w' => e = .returned (.tuple #[refD room ((l ++ [p]).take m) m, .int .i64 13]) ∧ Below w.heap.size w w' := by
  have hkl := keepOf_le keep (p.length + 6)
  have hfl := frameOf_len p
  have hlp : ∀ q ∈ l ++ [p], OkP q := fun q hq => by
    rcases List.mem_append.1 hq with h | h
    · exact hl q h
    · rw [List.mem_singleton.1 h]; exact hp
  have hal : (allF l).length ≤ 2000 := by rw [allF_snoc_len] at h9; omega
  obtain ⟨K, hK⟩ : ∃ K, keepOf keep (p.length + 6) = K := ⟨_, rfl⟩
  rw [hK] at hm hkl
  have hml : m ≤ (l ++ [p]).length := hm ▸ fit_le _ _
  have e4 : strOfNums (allF (l.take s)) ++ (strOfNums (allF (l.drop s)) ++ strOfNums ((frameOf p).take K)) = strOfNums ((allF (l ++ [p])).take ((allF l).length + K)) := by
    rw [str_append, str_append, ← List.append_assoc, allF_split, torn_bytes]
  have h := r6_torn_of (A := A) (room := (room : Int)) (keep := keep) (y := _) (z := _) (q := p.length) (c := c) (fl := (frameOf p).length) (K := K) (sa := strOfNums (allF (l.take s))) (sb := strOfNums (allF (l.drop s))) (s1 := strOfNums (allF (l.take s))) (s2 := strOfNums (allF (l.drop s)) ++ strOfNums (frameOf p)) (sk := strOfNums ((frameOf p).take K)) (s3 := strOfNums (allF (l.drop s)) ++ strOfNums ((frameOf p).take K)) (s4 := strOfNums ((allF (l ++ [p])).take ((allF l).length + K))) (s5 := strOfNums (allF ((l ++ [p]).take m))) (by rw [hfl]; exact hK) (by rw [allF_snoc_len] at h9; omega) w
    (Aside0.mk (fun W hW => by have h := r6_append_ok (s := s) (Kd.C_below hC hW) hc hp hs hr hfit; rw [refD_snoc room l p s hs] at h; exact h))
    (Aside0.mk (fun W hW => by
      refine (refPut_any none A 0 c [] p W (Kd.C_nil _ _) (Nat.le_refl _) (by simp) (Kd.C_below hC hW) hc hp.1).mono ?_
      rintro e w' ⟨A', c', r, x, he, hr, h1, h2, h3⟩
      rw [if_neg (by have := hp.2.1; omega), if_neg (by have := hp.2.2; omega), List.nil_append] at hr
      injection hr with e1 e2
      subst e1 e2
      refine ⟨A', c', he, h1, fun W1 hW1 => ?_, h3⟩
      have h := Kd.C_string (P := Try.prog) (c := c') Try.underlying22 Try.underlying5 Try.underlying9 (Kd.C_below (Kd.C_take (m := K) h2 (by omega)) hW1)
      rw [List.length_take, Nat.min_eq_left (by omega)] at h
      exact h))
    (Aside0.mk (fun W => ref_write_ok room _ _ _ (by rw [size_split, str_size, List.length_take]; omega) hr W))
    (Aside0.mk (fun W => by
      have h := ref_sync room (strOfNums (allF (l.take s))) (strOfNums (allF (l.drop s)) ++ strOfNums ((frameOf p).take K)) (by have := size_split l s; rw [ByteArray.size_append, str_size ((frameOf p).take K), List.length_take]; omega) W
      rw [e4] at h
      exact h))
    (Aside0.mk (fun W => r6_open_fit room hlp h9 hm W))
  unfold refD
  rw [List.take_take, Nat.min_self, List.drop_take, Nat.sub_self, List.take_zero]
  exact h
theorem r6_swap_ok {L : List (List Int)} (hL : Kd.C KS w A L.length L) (hc : L.length ≤ c) (hok : ∀ q ∈ L, OkP q) (hfit : (allF L).length ≤ room) (h9 : (allF L).length ≤ 900000) :
    Calls Try.prog 92 #[refD room l s, .slice A L.length c] w fun e w' => e = .returned (.tuple #[refD room L L.length, .int .i64 0]) ∧ Below w.heap.size w w' := by
  have h := r6_swap_wr (A := A) (c := c) (L := L) (w := w) room (strOfNums (allF (l.take s))) (strOfNums (allF (l.drop s))) (strOfNums (allF L)) (strOfNums (allF L)) ⟨#[]⟩ 0 (Aside0.mk (fun W => ref_swap_ok room _ _ _ (by rw [str_size]; exact hfit) W)) hL hc hok h9 rfl
  unfold refD
  rw [List.take_length, List.drop_length]
  exact h
theorem r6_swap_full {L : List (List Int)} (hL : Kd.C KS w A L.length L) (hc : L.length ≤ c) (hok : ∀ q ∈ L, OkP q) (hfit : room < (allF L).length) (h9 : (allF L).length ≤ 900000) :
    Calls Try.prog 92 #[refD room l s, .slice A L.length c] w fun e w' => e = .returned (.tuple #[refD room l s, .int .i64 4]) ∧ Below w.heap.size w w' :=
  r6_swap_wr (A := A) (c := c) (L := L) (w := w) room _ _ (strOfNums (allF L)) _ _ 4 (Aside0.mk (fun W => ref_swap_full room _ _ _ (by rw [str_size]; exact hfit) W)) hL hc hok h9 rfl
theorem r6_sync (hs : s ≤ l.length) (h9 : (allF l).length ≤ 1048576) :
    ∃ y : Int, Calls Try.prog 54 #[refD room l s] w fun e w' => e = .returned (.tuple #[refD room l l.length, .int .i64 y]) ∧ Below w.heap.size w w' := by
  have h := ref_sync (room : Int) (strOfNums (allF (l.take s))) (strOfNums (allF (l.drop s))) (by rw [size_split]; exact h9) w
  rw [str_append, allF_split] at h
  unfold refD
  rw [List.take_length, List.drop_length]
  exact ⟨_, h⟩
end
end Go.Proofs.Ytbcienbnhchdeaa.Hand

/- The journal's steps that came in, opened. -/
namespace Go.Proofs.Ytbcienbnhchdeaa.Hand
open Go Go.RowKit Go.Deep Go.ChangeShapes Go.Proofs.YtbcienbnhchdeaaW.PrintLast Go.Proofs.YtbcienbnhchdeaaW.PrintWords Go.Proofs.YtbcienbnhchdeaaW.PrintMore Print
set_option linter.unusedVariables false
set_option linter.unusedSimpArgs false
/-- A step's bytes. -/
def okS6 (z : S87) : Prop := okB z.f2 = true ∧ ∀ p ∈ z.f3, okB p = true
instance inh87 : Inhabited S87 := ⟨z87⟩
theorem cells87 : Try.prog.cellsOf 87 = 4 := by kernel_rfl
theorem cells65 : Try.prog.cellsOf 65 = 1 := by kernel_rfl
theorem steps6_V {w : World} {A : Option Addr} {c : Nat} {l : List S87} (h : Kd.C k87 w A l.length l) (hc : l.length ≤ c) : Kd.V k87 87 w w.heap.size (fun k => k < w.heap.size) (.slice A l.length c) l :=
  Kd.V_mk hc (Kd.C_F k87_heap h)
set_option maxRecDepth 100000 in
theorem open_step6 {H : Type} {enc : TypeId × Value → H} {w : World} {base : Nat} {held : Bool} {fuel : Nat} {cs : List Value} {x : DataW H × List MemPlace}
    (h : DataW.trod enc Try.prog w base (fun _ => true) held fuel 87 cs = some x) : ∃ z : S87, k87.K w z cs ∧ okS6 z := by
  obtain ⟨xs, m, _, _, hl, hxs, hall⟩ := DataW.trod_struct Try.underlying87 h
  have hl3 : cs.length = 4 := hl.trans cells87
  have h0 := hall 0 _ rfl
  have h1 := hall 1 _ rfl
  have h2 := hall 2 _ rfl
  have h3 := hall 3 _ rfl
  have hxl : xs.length = 4 := hxs
  rw [List.getElem?_eq_getElem (by omega)] at h0 h1 h2 h3
  obtain ⟨a, ha, _, _⟩ := DataW.trod_int Try.underlying3 h0
  obtain ⟨b, hb, _, _⟩ := DataW.trod_int Try.underlying3 h1
  match cs, hl3 with
  | [p, q, r, s], _ =>
    have e2 : ([p, q, r, s].drop 2).take (Try.prog.cellsOf 22) = [r] := by rw [cells22]; rfl
    have e3 : ([p, q, r, s].drop 3).take (Try.prog.cellsOf 65) = [s] := by rw [cells65]; rfl
    have h2' : DataW.trod enc Try.prog w base (fun _ => true) held m 22 [r] = some xs[2] := by rw [← e2]; exact h2
    have h3' : DataW.trod enc Try.prog w base (fun _ => true) held m 65 [s] = some xs[3] := by rw [← e3]; exact h3
    have hr : ∃ A n c, r = .slice A n c := by
      rcases open_slice Try.underlying22 h2' with ⟨hcs, _⟩ | ⟨ad, l, c, _, _, _, _, hcs, _⟩
      · exact ⟨_, _, _, (List.cons.inj hcs).1⟩
      · exact ⟨_, _, _, (List.cons.inj hcs).1⟩
    have hs : ∃ A n c, s = .slice A n c := by
      rcases open_slice Try.underlying65 h3' with ⟨hcs, _⟩ | ⟨ad, l, c, _, _, _, _, hcs, _⟩
      · exact ⟨_, _, _, (List.cons.inj hcs).1⟩
      · exact ⟨_, _, _, (List.cons.inj hcs).1⟩
    obtain ⟨A2, n2, c2, rfl⟩ := hr
    obtain ⟨A3, n3, c3, rfl⟩ := hs
    obtain ⟨zs, hz1, hz2, hz3, hz4⟩ := open_bytes (a := A2) (len := n2) (cap := c2) h2'
    obtain ⟨ys, hy1, hy2, hy3, hy4⟩ := open_rows (a := A3) (len := n3) (cap := c3) h3'
    subst hz1 hy1
    have ep : p = .int .i64 a := by
      have e : ([p, q, Value.slice A2 zs.length c2, Value.slice A3 ys.length c3].drop 0).take (Try.prog.cellsOf 3) = [p] := by rw [cells3]; rfl
      exact (List.cons.inj (e.symm.trans ha)).1
    have eq : q = .int .i64 b := by
      have e : ([p, q, Value.slice A2 zs.length c2, Value.slice A3 ys.length c3].drop 1).take (Try.prog.cellsOf 3) = [q] := by rw [cells3]; rfl
      exact (List.cons.inj (e.symm.trans hb)).1
    subst ep eq
    exact ⟨⟨a, b, zs, ys⟩, k87_mk w ⟨a, b, zs, ys⟩ hz2 hz3 hy2 hy3, hz4, hy4⟩
theorem open_steps6 {H : Type} {enc : TypeId × Value → H} {w : World} {base : Nat} {held : Bool} {fuel : Nat} {a : Option Addr} {len cap : Nat} {x : DataW H × List MemPlace}
    (h : DataW.trod enc Try.prog w base (fun _ => true) held fuel 84 (Value.slice a len cap).cells.toList = some x) :
    ∃ zs : List S87, zs.length = len ∧ len ≤ cap ∧ Kd.C k87 w a len zs ∧ ∀ z ∈ zs, okS6 z := by
  rcases open_slice Try.underlying84 h with ⟨hcs, _⟩ | ⟨ad, l, c, m, n, D, Pl, hcs, _, hl, hm, hmm, _, hi⟩
  · simp [Value.cells] at hcs
    obtain ⟨rfl, rfl, rfl⟩ := hcs
    exact ⟨[], rfl, Nat.le_refl _, Kd.C_nil _ _, by simp⟩
  · simp [Value.cells] at hcs
    obtain ⟨rfl, rfl, rfl⟩ := hcs
    have hml : maxLen ≤ 9223372036854775807 := by decide
    have hmc : m = cap := by simpa using hmm
    obtain ⟨Z, hZ⟩ := choose_lt (α := S87) (n := len) (p := fun i z => okS6 z ∧ ∃ cs, cs.length = 4 ∧ k87.K w z cs ∧ ∀ j u, cs[j]? = some u → w.cell? (ad.add (i * 4 + j)) = some u) (fun i hlt => by
      obtain ⟨cs', h1, h2⟩ := hi i (by omega)
      rw [cells87] at h1
      obtain ⟨_, hlen, hcell⟩ := World.cells?_some h1
      obtain ⟨z, hz1, hz2⟩ := open_step6 h2
      refine ⟨z, hz2, cs', hlen, hz1, fun j u hu => ?_⟩
      have hj : j < 4 := by
        have := (List.getElem?_eq_some_iff.1 hu).1
        omega
      rw [← add_add, hcell j hj, hu])
    have hlz : ((List.range len).map Z).length = len := by simp
    refine ⟨(List.range len).map Z, hlz, hl, ⟨hlz, by omega, fun _ => ⟨ad, rfl, fun j p hj => ?_⟩⟩, ?_⟩
    · have hjl : j < len := by
        have := (List.getElem?_eq_some_iff.1 hj).1
        omega
      have hp : Z j = p := by
        rw [List.getElem?_map, List.getElem?_range hjl] at hj
        simpa using hj
      subst hp
      obtain ⟨_, cs, h1, h2, h3⟩ := hZ j hjl
      exact ⟨cs, h1, h2, h3⟩
    · intro z hz
      obtain ⟨i, hi', rfl⟩ := List.mem_map.1 hz
      exact (hZ i (List.mem_range.1 hi')).1
/-- A step, read: its cells, its bytes, its rows. -/
theorem step6_C {w : World} {A : Option Addr} {l : List S87} (hC : Kd.C k87 w A l.length l) {n : Nat} (hn : n < l.length) :
    ∃ ad A2 c2 A3 c3, A = some ad ∧ w.cell? (ad.add (n * 4)) = some (.int .i64 (l[n]'hn).f0) ∧ w.cell? (ad.add (n * 4 + 1)) = some (.int .i64 (l[n]'hn).f1) ∧ w.cell? (ad.add (n * 4 + 2)) = some (.slice A2 (l[n]'hn).f2.length c2) ∧ w.cell? (ad.add (n * 4 + 3)) = some (.slice A3 (l[n]'hn).f3.length c3) ∧ (l[n]'hn).f2.length ≤ c2 ∧ Kd.C (Kd.int .u8) w A2 (l[n]'hn).f2.length (l[n]'hn).f2 ∧ (l[n]'hn).f3.length ≤ c3 ∧ Kd.C (Kd.slice 5 (Kd.int .u8)) w A3 (l[n]'hn).f3.length (l[n]'hn).f3 := by
  obtain ⟨ad, e, hc⟩ := hC.2.2 (by omega)
  obtain ⟨cs, hl, hK, hcell⟩ := hc n (l[n]'hn) (List.getElem?_eq_getElem hn)
  obtain ⟨A2, c2, A3, c3, rfl, h1, h2, h3, h4⟩ := k87_open hK
  have h5 : k87.sz = 4 := rfl
  rw [h5] at hcell
  exact ⟨ad, A2, c2, A3, c3, e, hcell 0 _ rfl, hcell 1 _ rfl, hcell 2 _ rfl, hcell 3 _ rfl, h1, h2, h3, h4⟩
/-- The steps that a script is cut to. -/
def cut6 (z : S87) : S87 := ⟨z.f0, z.f1, z.f2.take 20, (z.f3.take 5).map (·.take 20)⟩
def early6 (l : List S87) : List S87 := (l.take 40).map cut6
/-- What the cut steps are. -/
structure Small6 (z : S87) : Prop where
  ok2 : okB z.f2 = true
  len2 : z.f2.length ≤ 20
  few3 : z.f3.length ≤ 5
  ok3 : ∀ p ∈ z.f3, okB p = true ∧ p.length ≤ 20
theorem early6_ok {l : List S87} (h : ∀ z ∈ l, okS6 z) : (early6 l).length ≤ 40 ∧ ∀ z ∈ early6 l, Small6 z := by
  refine ⟨by unfold early6; rw [List.length_map, List.length_take]; omega, fun z hz => ?_⟩
  obtain ⟨y, hy, rfl⟩ := List.mem_map.1 hz
  obtain ⟨h1, h2⟩ := h y (List.mem_of_mem_take hy)
  refine ⟨okB_take2 h1 20, by show (y.f2.take 20).length ≤ 20; rw [List.length_take]; omega, by show ((y.f3.take 5).map (·.take 20)).length ≤ 5; rw [List.length_map, List.length_take]; omega, fun p hp => ?_⟩
  obtain ⟨q, hq, rfl⟩ := List.mem_map.1 hp
  exact ⟨okB_take2 (h2 q (List.mem_of_mem_take hq)) 20, by rw [List.length_take]; omega⟩
end Go.Proofs.Ytbcienbnhchdeaa.Hand

/- A journal that was just opened on a new disk: it owns no row. -/
namespace Go.Proofs.Ytbcienbnhchdeaa.Hand
open Go Go.RowKit Go.Proofs.YtbcienbnhchdeaaW.PrintLast Go.Proofs.YtbcienbnhchdeaaW.PrintWords Go.Proofs.YtbcienbnhchdeaaW.PrintMore Print FrameC FrameL FrameS FrameR JMath
set_option linter.unusedVariables false
set_option linter.unusedSimpArgs false
attribute [local go_sem] max2_int min2_int max_two min_two
set_option maxRecDepth 100000 in
set_option maxHeartbeats 400000 in
theorem scan_none (A : Option Addr) (c : Nat) (w : World) : Calls Try.prog 68 #[.slice A 0 c] w fun e w' => e = .returned (.tuple #[.slice none 0 0, .int .i64 0, .int .i64 0]) ∧ Below w.heap.size w w' := by
  go_enter Try.func68, Try.ntmps68
  go_wp2
  refine Hand.wp_scope_ghost_s 0 (fun _ a' w' => ∃ (u2 u3 u4 u7 u8 u9 u10 u11 u12 u13 u14 u15 u16 u17 u18 u19 u20 u21 u22 u23 u24 u25 u26 u27 u28 u29 u30 u31 u32 u33 u34 u35 : Value), a' = { tmps := #[.slice A 0 c, undef, u2, u3, u4, .slice none 0 0, .int .i64 0, u7, u8, u9, u10, u11, u12, u13, u14, u15, u16, u17, u18, u19, u20, u21, u22, u23, u24, u25, u26, u27, u28, u29, u30, u31, u32, u33, u34, u35], defers := [] } ∧ w' = w) rfl ?pass ?first
  case pass =>
    rintro n a' w' ⟨u2, u3, u4, u7, u8, u9, u10, u11, u12, u13, u14, u15, u16, u17, u18, u19, u20, u21, u22, u23, u24, u25, u26, u27, u28, u29, u30, u31, u32, u33, u34, u35, rfl, rfl⟩
    go_wp2
    simp only [Exit.jump]
    go_ret3
    exact ⟨rfl, Below.refl _ _⟩
  case first =>
    intro hp
    go_wp2
    go_step3
    rename_i hK
    refine hK _ _ ?_
    exact hp 0 _ _ ⟨_, _, _, _, _, _, _, _, _, _, _, _, _, _, _, _, _, _, _, _, _, _, _, _, _, _, _, _, _, _, _, _, rfl, rfl⟩
/-- A journal that owns nothing. -/
structure JEmpty (w : World) (gj g room : Nat) : Prop where
  j : JCells w gj (.pointer (some ⟨g, 0, none⟩)) (.slice none 0 0) 0
  d : DiskAt w g (fun _ => False) room 0 []
theorem JEmpty.below {w w1 : World} {gj g room : Nat} (h : JEmpty w gj g room) (hb : Below w.heap.size w w1) : JEmpty w1 gj g room := ⟨h.j.below hb, h.d.below hb⟩
/-- It may be told from any place on. -/
theorem JEmpty.at_ {w : World} {gj g room : Nat} (h : JEmpty w gj g room) (N : Nat) : JAt N w gj g room [] 0 :=
  ⟨⟨.slice none 0 0, fun _ => False, h.j, h.d, Kd.R_nil _ _ _ _ _, fun k hk => hk.elim⟩, Nat.le_refl _, fun p hp => by simp at hp⟩
section
variable {w : World} {gj g room : Nat} {v0 : Value} {s0 : Int}
set_option maxRecDepth 100000 in
set_option maxHeartbeats 1000000 in
theorem open_empty (hj : JCells w gj (.pointer (some ⟨g, 0, none⟩)) v0 s0) (hd : DiskAt w g (fun _ => False) room 0 []) :
    Calls Try.prog 99 #[.pointer (some ⟨gj, 0, none⟩)] w fun e w' => e = .returned (.int .i64 0) ∧ JEmpty w' gj g room ∧ Moved w w' (fun k => k = gj ∨ OfDisk g (fun _ => False) k) := by
  have HJ := Aside0.mk hj
  have HD := Aside0.mk hd
  have ALL : Aside0 (∀ W, DiskAt W g (fun _ => False) room 0 [] → Calls Try.prog 41 #[.pointer (some ⟨g, 0, none⟩)] W fun e w' => ∃ A c, e = .returned (.slice A 0 c) ∧ Below W.heap.size W w') := Aside0.mk (fun W h => (all_any h).mono fun e w' ⟨v, he, ho, hb⟩ => by
    obtain ⟨A1, k1, rfl, hl1, hC1⟩ := Kd.R_reads ho
    exact ⟨A1, k1, he, hb⟩)
  have LEN : Aside0 (∀ W, DiskAt W g (fun _ => False) room 0 [] → Calls Try.prog 43 #[.pointer (some ⟨g, 0, none⟩)] W fun e w' => e = .returned (.int .i64 0) ∧ W = w') := Aside0.mk (fun W h => len_any h)
  have CUT : Aside0 (∀ W, DiskAt W g (fun _ => False) room 0 [] → Calls Try.prog 57 #[.pointer (some ⟨g, 0, none⟩), .int .i64 0] W fun e w' => e = .returned (.int .i64 0) ∧ DiskAt w' g (fun _ => False) room 0 [] ∧ Moved W w' (OfDisk g (fun _ => False))) := Aside0.mk (fun W h => cut_ok 0 h (Nat.le_refl _))
  obtain ⟨c0, c1, c2, fr⟩ := j_cells hj
  clear hj hd c1 c2 fr
  go_enter Try.func99, Try.ntmps99
  go_wp2_with (first
    | (go_at_call 41; refine (ALL.out _ HD.out).mono ?_; rintro e w1 ⟨A1, k1, rfl, hb⟩; have HB1 := Aside0.mk hb; clear hb)
    | (go_at_call 68; refine (scan_none A1 k1 w1).mono ?_; rintro e w2 ⟨rfl, hb⟩; have HB2 := Aside0.mk hb; have HJ2 := Aside0.mk ((HJ.out.below HB1.out).below hb); have HD2 := Aside0.mk ((HD.out.below HB1.out).below hb); obtain ⟨c0', c1', c2', fr'⟩ := j_cells HJ2.out; clear hb)
    | (go_at_call 43; refine (LEN.out _ HD2.out).mono ?_; rintro e w3 ⟨rfl, rfl⟩)
    | (go_at_call 57; refine (CUT.out _ HD2.out).mono ?_; rintro e w4 ⟨rfl, hd, hm⟩; have HJ4 := Aside0.mk (HJ2.out.moved hm (gj_off HJ2.out HD2.out (fun k h => h.elim))); have HD4 := Aside0.mk hd; have HM4 := Aside0.mk hm; clear hd hm; obtain ⟨p0, p1, p2, q0⟩ := j_cells HJ4.out))
  go_ret
  refine ⟨rfl, ⟨HJ4.out.put.puts, (HD4.out.set HJ4.out 1 _).set HJ4.out.put 2 _⟩, ?_⟩
  exact ((((Moved.of_below (below_step HB1.out HB2.out) (fun k => k = gj ∨ OfDisk g (fun _ => False) k)).trans HM4.out (fun k hk => .inl (.inr hk)))).setCell (.inl (.inl rfl)) _).setCell (.inl (.inl rfl)) _
set_option maxRecDepth 100000 in
theorem jOpen_fresh {g room : Nat} {w : World} (hd : DiskAt w g (fun _ => False) room 0 []) :
    Calls Try.prog 74 #[.pointer (some ⟨g, 0, none⟩)] w fun e w' => e = .returned (.tuple #[.pointer (some ⟨w.heap.size, 0, none⟩), .int .i64 0]) ∧ JEmpty w' w.heap.size g room ∧ Moved w w' (fun k => k = g) := by
  have OP : Aside0 (∀ W, W = w.alloc (.cells #[.pointer (some ⟨g, 0, none⟩), .slice none 0 0, .int .i64 0] 99) → Calls Try.prog 99 #[.pointer (some ⟨w.heap.size, 0, none⟩)] W fun e w' => e = .returned (.int .i64 0) ∧ JEmpty w' w.heap.size g room ∧ Moved w w' (fun k => k = g)) := Aside0.mk (fun W hW => by
    subst hW
    have hb := below_alloc (Below.refl w.heap.size w) (.cells #[.pointer (some ⟨g, 0, none⟩), .slice none 0 0, .int .i64 0] 99)
    refine (open_empty (v0 := .slice none 0 0) (s0 := 0) (heap_alloc_new w _) (hd.below hb)).mono ?_
    rintro e w' ⟨he, h1, h4⟩
    refine ⟨he, h1, ((Moved.of_below hb _).trans h4 (fun k hk => ?_))⟩
    rcases hk with rfl | hk | hk
    · exact .inr (Nat.le_refl _)
    · exact .inl hk
    · exact hk.elim)
  clear hd
  go_enter Try.func74, Try.ntmps74
  go_wp2_with (go_at_call 99; refine (OP.out _ rfl).mono ?_; rintro e w1 ⟨rfl, hj⟩; have HJ := Aside0.mk hj; clear hj)
  go_ret2
  exact ⟨rfl, HJ.out⟩
end
end Go.Proofs.Ytbcienbnhchdeaa.Hand
