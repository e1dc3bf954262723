/- Of frames one byte of which is turned, just those ahead of that one's are got: for any payloads, every place and every turn, with no condition. -/
import Derived.Test.YtbcienbnhchdeaaPrint19
import Derived.Test.YtbcienbnhchdeaaFrameR
namespace Go.Proofs.Ytbcienbnhchdeaa.Pure
open Go.RowKit Go.Proofs.Ytbcienbnhchdeaa.Print Go.Proofs.YtbcienbnhchdeaaW.PrintWords Go.Proofs.YtbcienbnhchdeaaW.PrintLast Go.Proofs.YtbcienbnhchdeaaW.PrintMore Hand CrcM FrameC FrameL FrameS FrameR

theorem lives_any_t (k : Nat) : pacesetterlaw04_lives.f (k + 1) = some true := by
  rw [← lives_one]
  unfold pacesetterlaw04_lives.f
  have h7 : okB [7] = true := rfl
  have hb : okB ([] ++ frameOf [7]) = true := frameOf_ok h7
  have hl : ([] ++ frameOf [7]).length ≤ 1000000 := by rw [List.nil_append, frameOf_len]; decide
  rw [put_eq h7 (by decide) (by decide)]
  simp only [bind_s]
  rw [if_neg (by decide), if_neg (by decide), get_eq hb hl k, get_eq hb hl 0]
/-- The frame in which a byte lies. -/
theorem in_frame : ∀ (ps : List (List Int)) (n : Nat), n < (allF ps).length → ∃ done p rest j, ps = done ++ p :: rest ∧ j < p.length + 6 ∧ n = (allF done).length + j
  | [], n, h => by simp [allF_nil] at h
  | p :: ps, n, h => by
    rw [allF_cons, List.length_append, frameOf_len] at h
    by_cases c : n < p.length + 6
    · exact ⟨[], p, ps, n, rfl, c, by simp [allF_nil]⟩
    · obtain ⟨done, q, rest, j, h1, h2, h3⟩ := in_frame ps (n - (p.length + 6)) (by omega)
      exact ⟨p :: done, q, rest, j, by rw [h1]; rfl, h2, by rw [allF_cons, List.length_append, frameOf_len]; omega⟩
/-- What is got of any bytes behind what has been got. -/
theorem scan_any {b : List Int} (hb : okB b = true) (hl : b.length ≤ 1000000) : ∀ (k i : Nat) (acc : List (List Int)), i ≤ b.length → acc.length ≤ i → b.length - i + 1 ≤ k →
    ∃ more i' e, frame_Scan.l0 k b acc (i : Int) = some (acc ++ more, ((i' : Nat) : Int), e) ∧ i ≤ i' ∧ i' ≤ b.length ∧ (acc ++ more).length ≤ i'
  | 0, i, acc, hi, ha, hk => by omega
  | k + 1, i, acc, hi, ha, hk => by
    by_cases c : i = b.length
    · subst c
      exact ⟨[], b.length, 0, by rw [scan_end, List.append_nil], Nat.le_refl _, Nat.le_refl _, by rw [List.append_nil]; exact ha⟩
    · have hlen : (b.drop i).length = b.length - i := List.length_drop
      by_cases h2 : (b.drop i).length < 2
      · refine ⟨[], i, 2, ?_, Nat.le_refl _, hi, by rw [List.append_nil]; exact ha⟩
        rw [scan_stop hb hl (by omega) (q := []) (n := 0) (by unfold getF; rw [if_pos h2]) (by decide), List.append_nil]
      · by_cases h3 : 1 ≤ lenOf (b.drop i) ∧ lenOf (b.drop i) ≤ 1000 ∧ lenOf (b.drop i) + 6 ≤ (b.drop i).length
        · by_cases h4 : GoodP ((b.drop i).take (lenOf (b.drop i) + 6))
          · have hg : getF (b.drop i) = (((b.drop i).take (lenOf (b.drop i) + 2)).drop 2, ((lenOf (b.drop i) + 6 : Nat) : Int), 0) := by unfold getF; rw [if_neg h2, if_pos h3, if_pos h4]
            generalize lenOf (b.drop i) = n at h3 hg
            generalize ((b.drop i).take (n + 2)).drop 2 = p at hg
            obtain ⟨more, i', e, h5, h6, h7, h8⟩ := scan_any hb hl k (i + (n + 6)) (acc ++ [p]) (by omega) (by rw [List.length_append, List.length_singleton]; omega) (by omega)
            refine ⟨p :: more, i', e, ?_, by omega, h7, by simpa using h8⟩
            rw [frame_Scan.l0, if_neg (by omega), if_pos ⟨by omega, by omega⟩, Int.toNat_natCast, get_eq (okB_drop hb i) (by omega) 0, hg]
            simp only [bind_s]
            have hw : wrap64 ((i : Int) + ((n + 6 : Nat) : Int)) = ((i + (n + 6) : Nat) : Int) := by unfold wrap64; omega
            rw [if_pos trivial, if_pos (by omega), hw, h5]
            simp
          · refine ⟨[], i, 3, ?_, Nat.le_refl _, hi, by rw [List.append_nil]; exact ha⟩
            rw [scan_stop hb hl (by omega) (q := []) (n := 0) (by unfold getF; rw [if_neg h2, if_pos h3, if_neg h4]) (by decide), List.append_nil]
        · refine ⟨[], i, 2, ?_, Nat.le_refl _, hi, by rw [List.append_nil]; exact ha⟩
          rw [scan_stop hb hl (by omega) (q := []) (n := 0) (by unfold getF; rw [if_neg h2, if_neg h3]) (by decide), List.append_nil]
/-- A frame one byte of which, behind its length, is turned. -/
theorem get_torn {p r : List Int} (hp : OkP p) {j : Nat} (h1 : 2 ≤ j) (h2 : j < p.length + 6) {y : Int} (hy : 0 ≤ y ∧ y < 256) (hne : y ≠ (frameOf p)[j]'(by rw [frameOf_len]; exact h2)) : getF ((frameOf p).set j y ++ r) = ([], 0, 3) := by
  have hl : ((frameOf p).set j y).length = p.length + 6 := by rw [List.length_set, frameOf_len]
  have hlen : lenOf ((frameOf p).set j y ++ r) = p.length := by
    obtain ⟨t, ht⟩ := frame_parts p
    obtain ⟨m, rfl⟩ : ∃ m, j = m + 2 := ⟨j - 2, by omega⟩
    have e : (frameOf p).set (m + 2) y ++ r = ((p.length / 256 % 256 : Nat) : Int) :: ((p.length % 256 : Nat) : Int) :: (t.set m y ++ r) := by rw [ht]; rfl
    rw [e, lenOf_head hp.2.2]
  have ht : ((frameOf p).set j y ++ r).take (p.length + 6) = (frameOf p).set j y := by rw [← hl, List.take_left]
  unfold getF
  have hng := good_turn (frameOf_ok hp.1) (frameOf_good p) (by rw [frameOf_len]; exact h2) hy hne
  rw [if_neg (by rw [List.length_append, hl]; omega), hlen, if_pos ⟨hp.2.1, hp.2.2, by rw [List.length_append, hl]; omega⟩, ht, if_neg hng]
/-- The rounds that look for the frame of the turned byte. -/
theorem torn_step {own : List (List Int)} {b : List Int} {K : Nat} (hb : (allF own).length ≤ 100000) (pre : List (List Int)) (q : List Int) (r : List (List Int)) (k : Nat) (h1 : own = pre ++ q :: r) (qok : OkP q) (hK : (allF (pre ++ [q])).length ≤ K) (h4 : own.length ≤ 100000) :
    pacesetterlaw04_FrameTorn.l0 (k + 1) own b (K : Int) ((allF pre).length : Int) (pre.length : Int) = pacesetterlaw04_FrameTorn.l0 k own b (K : Int) ((allF (pre ++ [q])).length : Int) ((pre ++ [q]).length : Int) := by
  have hd : own.drop pre.length = q :: r := by rw [h1, List.drop_left]
  have hlt := drop_lt hd
  have p1 := qok.2.1
  have p2 := qok.2.2
  have hq : (allF (pre ++ [q])).length = (allF pre).length + (q.length + 6) := by
    rw [allF_append, List.length_append, allF_cons, allF_nil, List.append_nil, frameOf_len]
  have hal : (allF pre).length ≤ (allF own).length := by rw [h1, allF_append, List.length_append]; omega
  have hs : frame_Size.f ((rd_L1 own (pre.length : Int)).length : Int) = some ((q.length + 6 : Nat) : Int) := by rw [rdL_drop hd, size_eq, if_pos ⟨p1, p2⟩]
  have hw : wrap64 (((allF pre).length : Int) + ((q.length + 6 : Nat) : Int)) = (((allF (pre ++ [q])).length : Nat) : Int) := by rw [hq]; unfold wrap64; omega
  have hw2 : wrap64 ((pre.length : Int) + 1) = (((pre ++ [q]).length : Nat) : Int) := by rw [List.length_append, List.length_singleton]; unfold wrap64; omega
  have c1 : (pre.length : Int) < (own.length : Int) := by omega
  have c2 : (0 : Int) ≤ (pre.length : Int) := by omega
  have c3 : (((allF (pre ++ [q])).length : Nat) : Int) ≤ (K : Int) := by omega
  generalize (((allF (pre ++ [q])).length : Nat) : Int) = A at hw c3 ⊢
  generalize (((pre ++ [q]).length : Nat) : Int) = B at hw2 ⊢
  rw [pacesetterlaw04_FrameTorn.l0, if_pos c1, if_pos c2, hs, bind_s, hw, if_pos c3, bind_s, hw, hw2]
theorem torn_last {own : List (List Int)} {b : List Int} {K : Nat} (hb : (allF own).length ≤ 100000) (pre : List (List Int)) (q : List Int) (r : List (List Int)) (k : Nat) (h1 : own = pre ++ q :: r) (qok : OkP q) (hK : K < (allF pre).length + (q.length + 6)) (_h4 : own.length ≤ 100000) :
    pacesetterlaw04_FrameTorn.l0 (k + 1) own b (K : Int) ((allF pre).length : Int) (pre.length : Int) = pacesetterlaw04_FrameTorn.j2 k own b (K : Int) ((allF pre).length : Int) (pre.length : Int) := by
  have hd : own.drop pre.length = q :: r := by rw [h1, List.drop_left]
  have hlt := drop_lt hd
  have p1 := qok.2.1
  have p2 := qok.2.2
  have hal : (allF pre).length ≤ (allF own).length := by rw [h1, allF_append, List.length_append]; omega
  have hs : frame_Size.f ((rd_L1 own (pre.length : Int)).length : Int) = some ((q.length + 6 : Nat) : Int) := by rw [rdL_drop hd, size_eq, if_pos ⟨p1, p2⟩]
  have c1 : (pre.length : Int) < (own.length : Int) := by omega
  have c2 : (0 : Int) ≤ (pre.length : Int) := by omega
  have c3 : ¬ wrap64 (((allF pre).length : Int) + ((q.length + 6 : Nat) : Int)) ≤ (K : Int) := by unfold wrap64; omega
  rw [pacesetterlaw04_FrameTorn.l0, if_pos c1, if_pos c2, hs, bind_s, if_neg c3]
theorem torn_l0 {own : List (List Int)} {b : List Int} {K : Nat} (hok : ∀ q ∈ own, OkP q) (hb : (allF own).length ≤ 100000) (h4 : own.length ≤ 100000) : ∀ (ds pre : List (List Int)) (p : List Int) (rest : List (List Int)) (k : Nat), own = pre ++ (ds ++ p :: rest) →
    (allF (pre ++ ds)).length ≤ K → K < (allF (pre ++ ds)).length + (p.length + 6) →
    pacesetterlaw04_FrameTorn.l0 (k + ds.length + 1) own b (K : Int) ((allF pre).length : Int) (pre.length : Int) = pacesetterlaw04_FrameTorn.j2 k own b (K : Int) ((allF (pre ++ ds)).length : Int) ((pre ++ ds).length : Int) := by
  intro ds
  induction ds with
  | nil =>
    intro pre p rest k h1 h2 h3
    rw [List.append_nil] at h2 h3 ⊢
    exact torn_last hb pre p rest k h1 (hok p (by rw [h1]; simp)) h3 h4
  | cons q ds ih =>
    intro pre p rest k h1 h2 h3
    have hpre : pre ++ q :: ds = (pre ++ [q]) ++ ds := by simp
    rw [hpre] at h2 h3 ⊢
    have hle : (allF (pre ++ [q])).length ≤ (allF ((pre ++ [q]) ++ ds)).length := by rw [allF_append (pre ++ [q]) ds, List.length_append]; omega
    have e : k + (q :: ds).length + 1 = (k + ds.length + 1) + 1 := by rw [List.length_cons]; omega
    rw [e, torn_step hb pre q (ds ++ p :: rest) (k + ds.length + 1) h1 (hok q (by rw [h1]; simp)) (by omega) h4]
    exact ih (pre ++ [q]) p rest k (by rw [h1]; simp) h2 h3
theorem j2_far {a done : List (List Int)} {B : List Int} {K E k : Nat} (hs : frame_Scan.f B = some (done, (E : Int), 3)) (hK : E + 1 < K) (hE : E ≤ 100000) (hle : done.length ≤ a.length) (ht : a.take done.length = done) (hok : ∀ q ∈ done, okB q = true) (hdl : done.length ≤ 100000) (hk : done.length + 1 ≤ k) :
    pacesetterlaw04_FrameTorn.j2 (k + 1) a B (K : Int) (E : Int) (done.length : Int) = some true := by
  have hw : wrap64 ((E : Int) + 1) = ((E + 1 : Nat) : Int) := by unfold wrap64; omega
  have c1 : (K : Int) > ((E + 1 : Nat) : Int) := by omega
  have c2 : (0 : Int) ≤ (done.length : Int) := by omega
  have c3 : (done.length : Int) ≤ (a.length : Int) := by omega
  have hsame := same_f (a := done) (b := done) (k := k) (by omega) hok hok hk
  rw [pacesetterlaw04_FrameTorn.j2, hs, bind_s, hw, if_pos c1, if_pos c2, if_pos c3, Int.toNat_natCast, ht, hsame, bind_s]
  simp
theorem j2_near {a done got : List (List Int)} {B : List Int} {K E i k : Nat} {e : Int} (hs : frame_Scan.f B = some (got, (i : Int), e)) (hK : ¬ E + 1 < K) (hE : E ≤ 100000) (hle : done.length ≤ a.length) (hgl : done.length ≤ got.length) (ht : a.take done.length = done) (hg : got.take done.length = done) (hi : E ≤ i) (hok : ∀ q ∈ done, okB q = true) (hdl : done.length ≤ 100000) (hk : done.length + 1 ≤ k) :
    pacesetterlaw04_FrameTorn.j2 (k + 1) a B (K : Int) (E : Int) (done.length : Int) = some true := by
  have hw : wrap64 ((E : Int) + 1) = ((E + 1 : Nat) : Int) := by unfold wrap64; omega
  have c1 : ¬ (K : Int) > ((E + 1 : Nat) : Int) := by omega
  have c2 : (0 : Int) ≤ (done.length : Int) := by omega
  have c3 : (done.length : Int) ≤ (a.length : Int) := by omega
  have c4 : (got.length : Int) ≥ (done.length : Int) := by omega
  have c5 : (done.length : Int) ≤ (got.length : Int) := by omega
  have c6 : (i : Int) ≥ (E : Int) := by omega
  have hsame := same_f (a := done) (b := done) (k := k) (by omega) hok hok hk
  rw [pacesetterlaw04_FrameTorn.j2, hs, bind_s, hw, if_neg c1, if_pos c4, if_pos c2, if_pos c5, if_pos c3, Int.toNat_natCast, ht, hg, hsame, bind_s]
  simp [c6]
/-- The turned byte: another one. -/
theorem turned {x by_ : Int} (hx : 0 ≤ x ∧ x < 256) (hby : 0 ≤ by_ ∧ by_ < 256) (hne : by_ ≠ 0) : ∃ y, Go.bits .xor .u8 x by_ = y ∧ (0 ≤ y ∧ y < 256) ∧ y ≠ x := by
  obtain ⟨u, hu⟩ := Int.eq_ofNat_of_zero_le hx.1
  obtain ⟨v, hv⟩ := Int.eq_ofNat_of_zero_le hby.1
  have hxv : u ^^^ v < 256 := Nat.xor_lt_two_pow (n := 8) (by omega) (by omega)
  refine ⟨((u ^^^ v : Nat) : Int), by rw [hu, hv, u8_xor_nat _ _ (by omega) (by omega)], ⟨by omega, by omega⟩, ?_⟩
  rw [hu]
  intro h
  have h2 : u ^^^ v = u ^^^ 0 := by rw [Nat.xor_zero]; omega
  have := xor_left_cancel h2
  omega
/-- Behind the turn. -/
theorem torn_loop {a : List (List Int)} (aok : ∀ p ∈ a, OkP p ∧ p.length ≤ 30) (al : a.length ≤ 8) {K : Nat} (hK : K < (allF a).length) {y : Int} (hy0 : 0 ≤ y ∧ y < 256) (hyne : y ≠ (allF a)[K]) {k : Nat} (hk : 100 ≤ k) :
    pacesetterlaw04_FrameTorn.l0 k a ((allF a).set K y) (K : Int) 0 0 = some true := by
  have sx := allF_small aok
  have aok' : ∀ p ∈ a, OkP p := fun p hp => (aok p hp).1
  have hbok := allF_ok aok'
  obtain ⟨done, p, rest, j, h1, h2, h3⟩ := in_frame a K hK
  have dok : ∀ q ∈ done, OkP q := fun q hq => aok' q (by rw [h1]; simp [hq])
  have dokB : ∀ q ∈ done, okB q = true := fun q hq => (dok q hq).1
  have pok : OkP p := aok' p (by rw [h1]; simp)
  have pl := (aok p (by rw [h1]; simp)).2
  have dl : done.length < a.length := by rw [h1, List.length_append, List.length_cons]; omega
  have dal : (allF done).length ≤ (allF a).length := by rw [h1, allF_append, List.length_append]; omega
  have dtake : a.take done.length = done := by rw [h1, List.take_left]
  have hsplit : allF a = allF done ++ (frameOf p ++ allF rest) := by rw [h1, allF_append, allF_cons]
  have hset : (allF a).set K y = allF done ++ ((frameOf p).set j y ++ allF rest) := by
    rw [hsplit, h3, List.set_append_right _ _ (by omega), List.set_append_left _ _ (by rw [frameOf_len]; omega)]
    congr 3
    omega
  have hgetj : (allF a)[K] = (frameOf p)[j]'(by rw [frameOf_len]; exact h2) := by
    have g : (allF a)[K]? = (frameOf p)[j]? := by
      rw [hsplit, h3, List.getElem?_append_right (by omega), List.getElem?_append_left (by rw [frameOf_len]; omega)]
      congr 1
      omega
    rw [List.getElem?_eq_getElem hK, List.getElem?_eq_getElem (by rw [frameOf_len]; exact h2)] at g
    exact Option.some.inj g
  have hbs : okB ((allF a).set K y) = true := okB_set hbok hy0 K
  have hsl : ((allF a).set K y).length = (allF a).length := List.length_set
  generalize hB : (allF a).set K y = B at hset hbs hsl ⊢
  have hloop := torn_l0 (own := a) (b := B) (K := K) aok' (by omega) (by omega) done [] p rest (k - done.length - 1) (by rw [h1]; simp) (by simp; omega) (by simp; omega)
  have n1 : allF ([] : List (List Int)) = [] := allF_nil
  have n2 : (([] : List (List Int)).length : Int) = 0 := rfl
  have n3 : (([] : List Int).length : Int) = 0 := rfl
  rw [List.nil_append, n1, n2, n3, show k - done.length - 1 + done.length + 1 = k by omega] at hloop
  rw [hloop]
  obtain ⟨m, hm⟩ : ∃ m, k - done.length - 1 = m + 1 := ⟨k - done.length - 2, by omega⟩
  rw [hm]
  have hn := allF_len done
  have e : B.length + 2 = (B.length - done.length + 1 + 1) + done.length := by omega
  have hall : frame_Scan.f B = frame_Scan.l0 (B.length - done.length + 1 + 1) B done (((allF done).length : Nat) : Int) := by
    unfold frame_Scan.f
    rw [e, show (0 : Int) = ((0 : Nat) : Int) from rfl, scan_all done (r := (frameOf p).set j y ++ allF rest) hbs (by omega) (by omega) dok (by rw [List.drop_zero]; exact hset) (by simp; omega), Nat.zero_add, List.nil_append]
  by_cases cj : 2 ≤ j
  · have hg := get_torn (r := allF rest) pok cj h2 hy0 (by rw [← hgetj]; exact hyne)
    refine j2_far ?_ (by omega) (by omega) (by omega) dtake dokB (by omega) (by omega)
    rw [hall]
    refine scan_stop hbs (by omega) (by omega) (q := []) (n := 0) ?_ (by decide)
    rw [hset, List.drop_left]
    exact hg
  · obtain ⟨more, i', e', h5, h6, _, _⟩ := scan_any hbs (by omega) (B.length - done.length + 1 + 1) (allF done).length done (by omega) hn (by omega)
    exact j2_near (hall.trans h5) (by omega) (by omega) (by omega) (by rw [List.length_append]; omega) dtake List.take_left h6 dokB (by omega) (by omega)
theorem torn_count {a : List (List Int)} (aok : ∀ p ∈ a, OkP p) (al : (allF a).length ≤ 100000) (k : Nat) (at_ by_ : Int) : pacesetterlaw04_FrameTorn.j0 (k + 1) at_ by_ a (allF a) true = some true := by
  have hs := scan_frames aok (by omega)
  rw [pacesetterlaw04_FrameTorn.j0, if_pos rfl]
  unfold frame_Count.f
  rw [hs, bind_s, bind_s]
  simp
theorem torn_j0 {a : List (List Int)} (aok : ∀ p ∈ a, OkP p ∧ p.length ≤ 30) (al : a.length ≤ 8) (h0 : (allF a).length ≠ 0) {at_ by_ : Int} (hby : 0 ≤ by_ ∧ by_ < 256) (hne : by_ ≠ 0) {k : Nat} (hk : 100 ≤ k) :
    pacesetterlaw04_FrameTorn.j0 (k + 1) at_ by_ a (allF a) false = some true := by
  have sx := allF_small aok
  have hbok := allF_ok fun p hp => (aok p hp).1
  obtain ⟨e1, b0, b1⟩ := at_lt at_ (m := ((allF a).length : Int)) (by omega) (by omega)
  have e1' : IntKind.u64.wrap ((allF a).length : Int) = ((allF a).length : Int) := by
    rw [IntKind.wrap_u64]
    omega
  have c0 : ¬ ((allF a).length : Int) = 0 := by omega
  rw [pacesetterlaw04_FrameTorn.j0, if_neg (by decide), e1', if_neg c0, if_pos b0, if_pos b1]
  generalize wrap64 (Int.tmod (IntKind.u64.wrap at_) ((allF a).length : Int)) = c at b0 b1 ⊢
  obtain ⟨K, rfl⟩ := Int.eq_ofNat_of_zero_le b0
  have hK : K < (allF a).length := by omega
  have hxK := okB_mem hbok (List.getElem_mem hK)
  obtain ⟨y, ey, hy0, hyne⟩ := turned hxK hby hne
  rw [Int.toNat_natCast, rd_at hK, ey]
  exact torn_loop aok al hK hy0 hyne hk
theorem FrameTorn (l : List (List Int)) (at_ by_ : Int) (hx : ∀ p ∈ l, okB p = true) (_ : (Lit.int .i64 at_).wf = true) (hby : (Lit.int .u8 by_).wf = true) : ∃ k, pacesetterlaw04_FrameTorn.f k l at_ by_ = some true := by
  have hby' : 0 ≤ by_ ∧ by_ < 256 := by
    have := okB_iff.1 (okB_wf (l := [by_]) (by intro x hx; rw [List.mem_singleton.1 hx]; exact hby)) by_ (by simp)
    exact this
  obtain ⟨k, hk⟩ : ∃ k : Nat, 1000 ≤ k := ⟨1000, Nat.le_refl _⟩
  refine ⟨k + 1, ?_⟩
  have gx := good_f (l := l) (most := 8) (by omega) (k := k + 1) (by omega)
  obtain ⟨ax, lx⟩ := goodL_ok 8 0 l hx
  generalize goodL 8 0 l = a at ax lx gx
  have sx := allF_small ax
  have aok : ∀ p ∈ a, OkP p := fun p hp => (ax p hp).1
  have ha := all_f (x0 := a) (by omega) ax (k := k + 1) (by omega)
  have g8 : ((8 : Nat) : Int) = 8 := rfl
  rw [g8] at gx
  unfold pacesetterlaw04_FrameTorn.f
  rw [lives_any_t, bind_s, if_pos rfl, gx, bind_s, ha, bind_s]
  by_cases c0 : ((allF a).length : Int) = 0
  · rw [if_pos c0]
    exact torn_count aok (by omega) k at_ by_
  · rw [if_neg c0]
    by_cases cb : by_ = 0
    · have : (by_ == 0) = true := beq_iff_eq.mpr cb
      rw [this]
      exact torn_count aok (by omega) k at_ by_
    · have : (by_ == 0) = false := beq_eq_false_iff_ne.mpr cb
      rw [this]
      exact torn_j0 ax lx (by omega) hby' cb (by omega)
end Go.Proofs.Ytbcienbnhchdeaa.Pure
