/- The frames of any bytes: the second reading, by hand; the law's contract. -/
import Derived.Test.YtbcienbnhchdeaaFrameP
import Derived.Test.YtbcienbnhchdeaaPrint5
import Derived.Test.YtbcienbnhchdeaaPrint14
import Derived.Test.YtbcienbnhchdeaaPrint15
import Derived.Test.YtbcienbnhchdeaaPrint18
import Derived.Test.YtbcienbnhchdeaaWLast
import Derived.Test.YtbcienbnhchdeaaWNEv
namespace Go.Proofs.Ytbcienbnhchdeaa.Hand
open Go Go.RowKit Go.Proofs.YtbcienbnhchdeaaW.PrintLast Go.Proofs.YtbcienbnhchdeaaW.PrintWords Go.Proofs.YtbcienbnhchdeaaW.PrintMore Print FrameC FrameL FrameS FrameR
set_option linter.unusedVariables false
set_option linter.unusedSimpArgs false
attribute [local go_sem] max2_int min2_int max_two min_two

/-- A frame that is written anew is the frame that is there, where its check is good. -/
theorem frame_anew {b : List Int} (hb : okB b = true) (h1 : lenOf b ≤ 1000) (h2 : lenOf b + 6 ≤ b.length) : frameOf ((b.take (lenOf b + 2)).drop 2) = b.take (lenOf b + 6) ↔ GoodP (b.take (lenOf b + 6)) := by
  have hl0 : 2 ≤ b.length := by omega
  obtain ⟨x, y, t, rfl⟩ : ∃ x y t, b = x :: y :: t := by
    rcases b with _ | ⟨x, _ | ⟨y, t⟩⟩
    · simp at hl0
    · simp at hl0
    · exact ⟨x, y, t, rfl⟩
  have hx := okB_mem hb (x := x) (by simp)
  have hy := okB_mem hb (x := y) (by simp)
  have hl : lenOf (x :: y :: t) = x.toNat * 256 + y.toNat := rfl
  generalize hn : lenOf (x :: y :: t) = n at *
  have ht : t.length = (x :: y :: t).length - 2 := by simp
  have e1 : ((x :: y :: t).take (n + 2)).drop 2 = t.take n := by simp
  have e2 : (t.take n).length = n := by rw [List.length_take]; simp at h2; omega
  have e3 : headN n = [x, y] := by
    unfold headN
    simp only [List.cons.injEq, and_true]
    omega
  have e4 : withHead (t.take n) = (x :: y :: t).take (n + 2) := by
    unfold withHead
    rw [e2, e3]
    simp
  have e5 : (x :: y :: t).take (n + 6) = (x :: y :: t).take (n + 2) ++ ((x :: y :: t).drop (n + 2)).take 4 := by
    rw [show n + 6 = (n + 2) + 4 by omega, List.take_add]
  have e6 : (((x :: y :: t).drop (n + 2)).take 4).length = 4 := by rw [List.length_take, List.length_drop]; omega
  have ho := okB_take (okB_drop hb (n + 2)) 4
  rw [e1]
  unfold frameOf
  rw [e4, e5, goodP_app _ _ e6]
  generalize ((x :: y :: t).drop (n + 2)).take 4 = q at e6 ho
  generalize (x :: y :: t).take (n + 2) = a
  constructor
  · intro h
    have h3 := List.append_cancel_left h
    rw [← h3, rdN_bytes (crcN_lt a)]
  · intro h
    congr 1
    rw [← bytesN_rd ho e6, ← h, Int.toNat_natCast]
/-- The first two bytes. -/
theorem two_cells {w : World} {A : Option Addr} {l : List Int} (h : Kd.C (Kd.int .u8) w A l.length l) (hl : 2 ≤ l.length) : ∃ ad, A = some ad ∧ w.cell? ad = some (.int .u8 (rd l 0)) ∧ w.cell? ⟨ad.block, ad.off + 1, none⟩ = some (.int .u8 (rd l 1)) := by
  have hr : ReadsOf (Value.int .u8) (0 : Int) w A l.length l := Kd.reads_of_C h
  obtain ⟨ad, e, hc⟩ := hr.2.2 (by omega)
  have e1 : ad.add 1 = ⟨ad.block, ad.off + 1, none⟩ := by unfold Addr.add; simp
  refine ⟨ad, e, ?_, by rw [← e1]; exact hc 1 (by omega)⟩
  have h0 := hc 0 (by omega)
  have e0 : ad.add 0 = ad := by unfold Addr.add; simp
  rw [e0] at h0
  exact h0
theorem small_sums (N : Nat) (h : N ≤ 1000) : IntKind.i64.wrap (2 + (N : Int)) = 2 + (N : Int) ∧ IntKind.i64.wrap ((N : Int) + 6) = (N : Int) + 6 ∧ wrap64 (2 + (N : Int)) = 2 + (N : Int) ∧ wrap64 ((N : Int) + 6) = (N : Int) + 6 ∧ (0 : Int) ≤ (N : Int) + 6 ∧ ((N : Int) + 6).toNat = N + 6 :=
  ⟨IntWalk.i64_in _ (by omega), IntWalk.i64_in _ (by omega), by unfold wrap64; omega, by unfold wrap64; omega, by omega, by omega⟩
/-- 'b[2:2+n]'. -/
theorem mid_cut (A : Option Addr) (c : Nat) (l : List Int) (N : Nat) (hN : N + 2 ≤ l.length) (hc : l.length ≤ c) : ∃ (A1 : Option Addr) (p : List Int), p = (l.take (N + 2)).drop 2 ∧ p.length = N ∧ (∀ W : World, (Instr.slice 22 (.slice A l.length c) (some (.int .i64 2)) (some (.int .i64 (2 + (N : Int)))) none).run Try.prog W = .ok (.slice A1 N (c - 2)) W) ∧
    (∀ W, Kd.C (Kd.int .u8) W A l.length l → Kd.C (Kd.int .u8) W A1 p.length p) ∧ N ≤ c - 2 := by
  obtain ⟨i0, hi0, _, hsz, _⟩ := info_parts info5
  obtain ⟨A1, h1, h2, h3⟩ := print_mid_int (P := Try.prog) (k := .u8) 22 5 Try.underlying22 hi0 hsz A c l 2 (2 + (N : Int)) (by omega) (by omega) (by omega) hc
  have e1 : (2 + (N : Int)).toNat = N + 2 := by omega
  have e2 : (2 : Int).toNat = 2 := rfl
  rw [e1, e2] at h1 h2 h3
  have hl : ((l.take (N + 2)).drop 2).length = N := by rw [List.length_drop, List.length_take]; omega
  rw [hl] at h1 h3
  exact ⟨A1, _, rfl, hl, h1, fun W h => Kd.C_of_reads (enc := Value.int .u8) (d := (0 : Int)) (h1 := fun _ => rfl) (h2 W (Kd.reads_of_C (enc := Value.int .u8) (d := (0 : Int)) (h1 := fun _ => rfl) h)), h3⟩
theorem of_p (A : Option Addr) (c : Nat) (l : List Int) (N : Nat) (hN : l.length = N) (hc : N ≤ c) {w : World} (h : Kd.C (Kd.int .u8) w A l.length l) (hf : pacesetterref04_of.f 30000 l = some (frameOf l)) :
    Calls Try.prog 98 #[.slice A N c] w fun e w' => ∃ (A' : Option Addr) (c' : Nat), e = .returned (.slice A' (frameOf l).length c') ∧ Kd.C (Kd.int .u8) w' A' (frameOf l).length (frameOf l) ∧ Below w.heap.size w w' := by
  subst hN
  refine (pacesetterref04_of.calls 30000 A c l (frameOf l) w h hc hf).mono ?_
  rintro e w' ⟨v, rfl, ho, hb⟩
  obtain ⟨A', c', rfl, _, hC⟩ := Kd.R_reads ho
  exact ⟨A', c', rfl, hC, hb⟩
set_option maxRecDepth 100000 in
set_option maxHeartbeats 2000000 in
theorem refGet_short (A : Option Addr) (c : Nat) (l : List Int) (w : World) (h2 : l.length < 2) :
    Calls Try.prog 70 #[.slice A l.length c] w fun e w' => ∃ (A' : Option Addr) (c' : Nat) (r : List Int) (n x : Int), e = .returned (.tuple #[.slice A' r.length c', .int .i64 n, .int .i64 x]) ∧ (r, n, x) = getF l ∧ r.length ≤ c' ∧ (∀ W, Kd.C (Kd.int .u8) W A l.length l → Kd.C (Kd.int .u8) W A' r.length r) ∧ Below w.heap.size w w' := by
  have e : getF l = ([], 0, 2) := by unfold getF; rw [if_pos h2]
  have E := Aside0.mk e
  clear e
  go_enter Try.func70, Try.ntmps70
  go_wp2
  go_ret3
  exact ⟨none, 0, [], 0, 2, rfl, E.out.symm, Nat.le_refl _, fun W _ => Kd.C_nil _ _, Below.refl _ _⟩
/-- What the first two bytes tell. -/
structure Two (w : World) (A : Option Addr) (l : List Int) (ad : Addr) (x0 x1 N : Nat) : Prop where
  hA : A = some ad
  c0 : w.cell? ad = some (.int .u8 (x0 : Int))
  c1 : w.cell? ⟨ad.block, ad.off + 1, none⟩ = some (.int .u8 (x1 : Int))
  b0 : x0 < 256
  b1 : x1 < 256
  sum : (x0 : Int) * 256 + (x1 : Int) = (N : Int)
theorem two_of {w : World} {A : Option Addr} {l : List Int} (h : Kd.C (Kd.int .u8) w A l.length l) (ok : okB l = true) (hl : 2 ≤ l.length) : ∃ ad x0 x1, Two w A l ad x0 x1 (lenOf l) := by
  obtain ⟨ad, e, hx0, hx1⟩ := two_cells h hl
  have hb0 : 0 ≤ rd l 0 ∧ rd l 0 < 256 := by
    rw [show (0 : Int) = ((0 : Nat) : Int) from rfl, rd_at (by omega)]
    exact okB_mem ok (List.getElem_mem _)
  have hb1 : 0 ≤ rd l 1 ∧ rd l 1 < 256 := by
    rw [show (1 : Int) = ((1 : Nat) : Int) from rfl, rd_at (by omega)]
    exact okB_mem ok (List.getElem_mem _)
  obtain ⟨x0, e0⟩ := Int.eq_ofNat_of_zero_le hb0.1
  obtain ⟨x1, e1⟩ := Int.eq_ofNat_of_zero_le hb1.1
  refine ⟨ad, x0, x1, e, by rw [← e0]; exact hx0, by rw [← e1]; exact hx1, by omega, by omega, ?_⟩
  unfold lenOf
  rw [e0, e1, Int.toNat_natCast, Int.toNat_natCast]
  omega
set_option maxRecDepth 100000 in
set_option maxHeartbeats 2000000 in
theorem refGet_bad (A : Option Addr) (c : Nat) (l : List Int) (w : World) (ad : Addr) (x0 x1 N : Nat) (h : Two w A l ad x0 x1 N) (hl : 2 ≤ l.length) (hl2 : l.length ≤ 2000) (E : Aside0 (getF l = ([], 0, 2))) (hbad : ¬ (1 ≤ N ∧ N ≤ 1000 ∧ N + 6 ≤ l.length)) :
    Calls Try.prog 70 #[.slice A l.length c] w fun e w' => ∃ (A' : Option Addr) (c' : Nat) (r : List Int) (n x : Int), e = .returned (.tuple #[.slice A' r.length c', .int .i64 n, .int .i64 x]) ∧ (r, n, x) = getF l ∧ r.length ≤ c' ∧ (∀ W, Kd.C (Kd.int .u8) W A l.length l → Kd.C (Kd.int .u8) W A' r.length r) ∧ Below w.heap.size w w' := by
  obtain ⟨rfl, hx0, hx1, b0, b1, hsum⟩ := h
  have hd2 : decide ((l.length : Int) < 2) = false := decide_eq_false (by omega)
  have hi0 : (0 : Int) < (l.length : Int) := by omega
  have hi1 : (1 : Int) < (l.length : Int) := by omega
  have hj1 : 1 < l.length := by omega
  have hj0 : 0 < l.length := by omega
  have fin : ∀ W : World, Below w.heap.size w W → ∃ (A' : Option Addr) (c' : Nat) (r : List Int) (n x : Int), Ending.returned (.tuple #[.slice none 0 0, .int .i64 0, .int .i64 2]) = .returned (.tuple #[.slice A' r.length c', .int .i64 n, .int .i64 x]) ∧ (r, n, x) = getF l ∧ r.length ≤ c' ∧ (∀ W, Kd.C (Kd.int .u8) W (some ad) l.length l → Kd.C (Kd.int .u8) W A' r.length r) ∧ Below w.heap.size w W :=
    fun W hW => ⟨none, 0, [], 0, 2, rfl, E.out.symm, Nat.le_refl _, fun W _ => Kd.C_nil _ _, hW⟩
  have FIN := Aside0.mk fin
  clear fin
  by_cases q1 : N < 1
  · have t1 : decide ((N : Int) < 1) = true := decide_eq_true (by omega)
    clear hbad
    go_enter Try.func70, Try.ntmps70
    go_wp2
    go_quiet (fail)
    go_wp2
    go_ret3
    exact FIN.out _ (pw_below_drewN (Below.refl _ _) _)
  · have t1 : decide ((N : Int) < 1) = false := decide_eq_false (by omega)
    by_cases q2 : 1000 < N
    · have t2 : decide ((1000 : Int) < (N : Int)) = true := decide_eq_true (by omega)
      clear hbad
      go_enter Try.func70, Try.ntmps70
      go_wp2
      go_quiet (fail)
      go_wp2
      go_ret3
      exact FIN.out _ (pw_below_drewN (Below.refl _ _) _)
    · have t2 : decide ((1000 : Int) < (N : Int)) = false := decide_eq_false (by omega)
      have t3 : decide ((l.length : Int) < (N : Int) + 6) = true := decide_eq_true (by omega)
      clear hbad
      go_enter Try.func70, Try.ntmps70
      go_wp2
      go_quiet (fail)
      go_wp2
      go_ret3
      exact FIN.out _ (pw_below_drewN (Below.refl _ _) _)
set_option maxRecDepth 100000 in
set_option maxHeartbeats 4000000 in
theorem refGet_good (A : Option Addr) (c : Nat) (l : List Int) (w : World) (ad : Addr) (x0 x1 N : Nat) (h : Two w A l ad x0 x1 N) (hw : Kd.C (Kd.int .u8) w A l.length l) (hc : l.length ≤ c) (hl : 2 ≤ l.length) (hl2 : l.length ≤ 2000) (g1 : 1 ≤ N) (g2 : N ≤ 1000) (g3 : N + 6 ≤ l.length)
    (A1 : Option Addr) (p : List Int) (hpl : p.length = N) (hcut : ∀ W : World, (Instr.slice 22 (.slice A l.length c) (some (.int .i64 2)) (some (.int .i64 (2 + (N : Int)))) none).run Try.prog W = .ok (.slice A1 N (c - 2)) W)
    (HP : Aside0 (∀ W, Kd.C (Kd.int .u8) W A l.length l → Kd.C (Kd.int .u8) W A1 p.length p)) (hpc : N ≤ c - 2) (E : Aside0 (getF l = (if GoodP (l.take (N + 6)) then (p, ((N + 6 : Nat) : Int), 0) else ([], 0, 3))))
    (HAN : Aside0 (frameOf p = l.take (N + 6) ↔ GoodP (l.take (N + 6)))) (okp : okB p = true) (okl : okB l = true) :
    Calls Try.prog 70 #[.slice A l.length c] w fun e w' => ∃ (A' : Option Addr) (c' : Nat) (r : List Int) (n x : Int), e = .returned (.tuple #[.slice A' r.length c', .int .i64 n, .int .i64 x]) ∧ (r, n, x) = getF l ∧ r.length ≤ c' ∧ (∀ W, Kd.C (Kd.int .u8) W A l.length l → Kd.C (Kd.int .u8) W A' r.length r) ∧ Below w.heap.size w w' := by
  have H := Aside0.mk hw
  obtain ⟨rfl, hx0, hx1, b0, b1, hsum⟩ := h
  have hd2 : decide ((l.length : Int) < 2) = false := decide_eq_false (by omega)
  have hi0 : (0 : Int) < (l.length : Int) := by omega
  have hi1 : (1 : Int) < (l.length : Int) := by omega
  have hj1 : 1 < l.length := by omega
  have hj0 : 0 < l.length := by omega
  have t1 : decide ((N : Int) < 1) = false := decide_eq_false (by omega)
  have t2 : decide ((1000 : Int) < (N : Int)) = false := decide_eq_false (by omega)
  have t3 : decide ((l.length : Int) < (N : Int) + 6) = false := decide_eq_false (by omega)
  have OF := Aside0.mk (of_f okp (by omega))
  have HL6 := Aside0.mk (show (l.take (N + 6)).length = N + 6 by rw [List.length_take]; omega)
  have HS : Aside0 (∀ W : World, Below w.heap.size w W → (convert 22 9 (.slice (some ad) (N + 6) c)).run Try.prog W = .ok (.string (strOfNums (l.take (N + 6)))) W) := Aside0.mk (by
    intro W hW
    have h := Kd.C_string (P := Try.prog) (c := c) Try.underlying22 Try.underlying5 Try.underlying9 (Kd.C_below (C_first H.out (N + 6) g3) hW)
    rw [HL6.out] at h
    exact h)
  have HPL := Aside0.mk hpl
  have v2 : (N : Int) + 6 ≤ (c : Int) := by omega
  have hsb := str_beq (frameOf_ok okp) (okB_take okl (N + 6))
  obtain ⟨u1, u2, u3, u4, v1, v3⟩ := small_sums N g2
  obtain ⟨s1, hs1⟩ : ∃ s, strOfNums (frameOf p) = s := ⟨_, rfl⟩
  obtain ⟨s2, hs2⟩ : ∃ s, strOfNums (l.take (N + 6)) = s := ⟨_, rfl⟩
  rw [hs2] at HS
  have HS1 := Aside0.mk hs1
  rw [hs1, hs2] at hsb
  clear hs1 hs2 hw okp okl hpl
  by_cases hG : GoodP (l.take (N + 6))
  · have hbeq : (s1.toList == s2.toList) = true := by rw [hsb]; exact decide_eq_true (HAN.out.2 hG)
    have hbne : (s1.toList != s2.toList) = false := by simp only [bne, hbeq]; rfl
    rw [if_pos hG] at E
    clear hsb hG HAN
    go_enter Try.func70, Try.ntmps70
    go_wp2
    go_quiet (fail)
    clear hx0 hx1 hsum
    go_wp2
    have HB := Aside0.mk (below_drew (pw_below_drewN (Below.refl w.heap.size w) nq))
    refine start_ (n := 12) (S := fun w' => (convert 22 9 (.slice (some ad) (N + 6) c)).run Try.prog w' = .ok (.string s2) w') (ds := []) #[false, false, false, false, false, false, false, false, false, false, false, false] (by kernel_rfl) rfl rfl ((HS.out _ HB.out)) (fun hHeld => ?_)
    refine pure_ (i := 0) (N := some 32) (v := ?_) (a' := ?_) #[true, false, false, false, false, false, false, false, false, false, false, false] rfl rfl (by kernel_rfl) (fun _ _ _ h => h) (Or.inl ⟨by rfl, ?_⟩) ?_ ?_
    rotate_left
    · intro w'
      go_simp
      with_reducible rfl
    rotate_left
    · simp only [Act.put, List.setIfInBounds_toArray, List.set_cons_zero, List.set_cons_succ, i64_w, i32_w]
      rfl
    refine pure_ (i := 1) (N := some 33) (v := ?_) (a' := ?_) #[true, true, false, false, false, false, false, false, false, false, false, false] rfl rfl (by kernel_rfl) (fun _ _ _ h => h) (Or.inl ⟨by rfl, ?_⟩) ?_ ?_
    rotate_left
    · intro w'
      go_simp
      with_reducible rfl
    rotate_left
    · simp only [Act.put, List.setIfInBounds_toArray, List.set_cons_zero, List.set_cons_succ, i64_w, i32_w]
      rfl
    refine pure_ (i := 2) (N := some 34) (v := ?_) (a' := ?_) #[true, true, true, false, false, false, false, false, false, false, false, false] rfl rfl (by kernel_rfl) (fun _ _ _ h => h) (Or.inl ⟨by rfl, ?_⟩) ?_ ?_
    rotate_left
    · intro w'
      go_simp
      with_reducible rfl
    rotate_left
    · simp only [Act.put, List.setIfInBounds_toArray, List.set_cons_zero, List.set_cons_succ, i64_w, i32_w]
      rfl
    refine pure_ (i := 3) (N := some 35) (v := ?_) (a' := ?_) #[true, true, true, true, false, false, false, false, false, false, false, false] rfl rfl (by kernel_rfl) (fun _ _ _ h => h) (Or.inl ⟨by rfl, ?_⟩) ?_ ?_
    rotate_left
    · intro w'
      go_simp
      with_reducible rfl
    rotate_left
    · simp only [Act.put, List.setIfInBounds_toArray, List.set_cons_zero, List.set_cons_succ, i64_w, i32_w]
      rfl
    refine pure_ (i := 6) (N := some 38) (v := ?_) (a' := ?_) #[true, true, true, true, false, false, true, false, false, false, false, false] rfl rfl (by kernel_rfl) (fun _ _ _ h => h) (Or.inl ⟨by rfl, ?_⟩) ?_ ?_
    rotate_left
    · intro w'
      go_simp
      with_reducible rfl
    rotate_left
    · simp only [Act.put, List.setIfInBounds_toArray, List.set_cons_zero, List.set_cons_succ, i64_w, i32_w]
      rfl
    refine pure_ (i := 7) (N := some 39) (v := ?_) (a' := ?_) #[true, true, true, true, false, false, true, true, false, false, false, false] rfl rfl (by kernel_rfl) (fun _ _ _ h => h) (Or.inl ⟨by rfl, ?_⟩) ?_ ?_
    rotate_left
    · intro w'
      go_simp
      with_reducible rfl
    rotate_left
    · simp only [Act.put, List.setIfInBounds_toArray, List.set_cons_zero, List.set_cons_succ, i64_w, i32_w]
      rfl
    refine pure_ (i := 8) (N := some 40) (v := ?_) (a' := ?_) #[true, true, true, true, false, false, true, true, true, false, false, false] rfl rfl (by kernel_rfl) (fun _ _ _ h => h) (Or.inl ⟨by rfl, ?_⟩) ?_ ?_
    rotate_left
    · intro w'
      go_simp
      with_reducible rfl
    rotate_left
    · simp only [Act.put, List.setIfInBounds_toArray, List.set_cons_zero, List.set_cons_succ, i64_w, i32_w]
      rfl
    refine pure_ (i := 9) (N := some 41) (v := ?_) (a' := ?_) #[true, true, true, true, false, false, true, true, true, true, false, false] rfl rfl (by kernel_rfl) (fun _ _ _ h => h) (Or.inl ⟨by rfl, ?_⟩) ?_ ?_
    rotate_left
    · intro w'
      go_simp
      with_reducible rfl
    rotate_left
    · simp only [Act.put, List.setIfInBounds_toArray, List.set_cons_zero, List.set_cons_succ, i64_w, i32_w]
      rfl
    refine take_ (i := 10) (N := some 42) (v := ?_) (a' := ?_) #[true, true, true, true, false, false, true, true, true, true, true, false] rfl rfl (by kernel_rfl) (fun _ _ _ h => h) (Or.inl ⟨by rfl, ?_⟩) hHeld ?_ ?_
    rotate_left
    · intro w' s0
      go_simp
      with_reducible rfl
    rotate_left
    · simp only [Act.put, List.setIfInBounds_toArray, List.set_cons_zero, List.set_cons_succ, i64_w, i32_w]
      rfl
    refine one_ (i := 4) (N := some 36) #[true, true, true, true, true, false, true, true, true, true, true, false] rfl rfl (by kernel_rfl) (by decide) (fun K hK => ?_)
    refine goes_ Try.func98 (by kernel_rfl) rfl #[.slice A1 N (c - 2)] (by rfl) rfl rfl (by simp only [List.map_toArray, List.map_cons, List.map_nil]; rfl) ?_
    with_reducible refine (of_p A1 (c - 2) p N HPL.out hpc (HP.out _ (Kd.C_below H.out HB.out)) OF.out).mono ?_
    rintro e w2 ⟨A2, c2, rfl, hC2, hb⟩
    refine ⟨_, rfl, ?_⟩
    have hcv2 := Kd.C_string (P := Try.prog) (c := c2) Try.underlying22 Try.underlying5 Try.underlying9 hC2
    rw [HS1.out] at hcv2
    have HB2 := Aside0.mk (below_step HB.out hb)
    clear hb hC2
    refine hK.out _ _ ((HS.out _ HB2.out)) (fun hHeld => ?_)
    clear hK K
    refine norm_ (a' := ?_) ?_ ?_
    rotate_left
    · show Act.put _ (some 36) _ = _
      simp only [Act.put, List.setIfInBounds_toArray, List.set_cons_zero, List.set_cons_succ, i64_w, i32_w]
      rfl
    refine one_ (i := 5) (N := some 37) #[true, true, true, true, true, true, true, true, true, true, true, false] rfl rfl (by kernel_rfl) (by decide) (fun K hK => ?_)
    refine value_ (w1 := ?_) (v := ?_) (by rfl) rfl ?_ ?_
    rotate_left 2
    · go_simp
      constructor
      · rfl
      · rfl
    refine hK.out _ _ ((HS.out _ HB2.out)) (fun hHeld => ?_)
    clear hK K
    refine norm_ (a' := ?_) ?_ ?_
    rotate_left
    · show Act.put _ (some 37) _ = _
      simp only [Act.put, List.setIfInBounds_toArray, List.set_cons_zero, List.set_cons_succ, i64_w, i32_w]
      rfl
    refine pure_ (i := 11) (N := some 43) (v := ?_) (a' := ?_) #[true, true, true, true, true, true, true, true, true, true, true, true] rfl rfl (by kernel_rfl) (fun _ _ _ h => h) (Or.inl ⟨by rfl, ?_⟩) ?_ ?_
    rotate_left
    · intro w'
      go_simp
      with_reducible rfl
    rotate_left
    · simp only [Act.put, List.setIfInBounds_toArray, List.set_cons_zero, List.set_cons_succ, i64_w, i32_w]
      rfl
    refine done_ (by kernel_rfl) ?_
    go_wp2
    go_ret3
    refine ⟨A1, c - 2, p, ((N + 6 : Nat) : Int), 0, ?_, E.out.symm, by rw [HPL.out]; exact hpc, HP.out, HB2.out⟩
    rw [HPL.out]
    rfl
  · have hbeq : (s1.toList == s2.toList) = false := by rw [hsb]; exact decide_eq_false (fun h => hG (HAN.out.1 h))
    have hbne : (s1.toList != s2.toList) = true := by simp only [bne, hbeq]; rfl
    rw [if_neg hG] at E
    clear hsb hG HAN
    go_enter Try.func70, Try.ntmps70
    go_wp2
    go_quiet (fail)
    clear hx0 hx1 hsum
    go_wp2
    have HB := Aside0.mk (below_drew (pw_below_drewN (Below.refl w.heap.size w) nq))
    refine start_ (n := 12) (S := fun w' => (convert 22 9 (.slice (some ad) (N + 6) c)).run Try.prog w' = .ok (.string s2) w') (ds := []) #[false, false, false, false, false, false, false, false, false, false, false, false] (by kernel_rfl) rfl rfl ((HS.out _ HB.out)) (fun hHeld => ?_)
    refine pure_ (i := 0) (N := some 32) (v := ?_) (a' := ?_) #[true, false, false, false, false, false, false, false, false, false, false, false] rfl rfl (by kernel_rfl) (fun _ _ _ h => h) (Or.inl ⟨by rfl, ?_⟩) ?_ ?_
    rotate_left
    · intro w'
      go_simp
      with_reducible rfl
    rotate_left
    · simp only [Act.put, List.setIfInBounds_toArray, List.set_cons_zero, List.set_cons_succ, i64_w, i32_w]
      rfl
    refine pure_ (i := 1) (N := some 33) (v := ?_) (a' := ?_) #[true, true, false, false, false, false, false, false, false, false, false, false] rfl rfl (by kernel_rfl) (fun _ _ _ h => h) (Or.inl ⟨by rfl, ?_⟩) ?_ ?_
    rotate_left
    · intro w'
      go_simp
      with_reducible rfl
    rotate_left
    · simp only [Act.put, List.setIfInBounds_toArray, List.set_cons_zero, List.set_cons_succ, i64_w, i32_w]
      rfl
    refine pure_ (i := 2) (N := some 34) (v := ?_) (a' := ?_) #[true, true, true, false, false, false, false, false, false, false, false, false] rfl rfl (by kernel_rfl) (fun _ _ _ h => h) (Or.inl ⟨by rfl, ?_⟩) ?_ ?_
    rotate_left
    · intro w'
      go_simp
      with_reducible rfl
    rotate_left
    · simp only [Act.put, List.setIfInBounds_toArray, List.set_cons_zero, List.set_cons_succ, i64_w, i32_w]
      rfl
    refine pure_ (i := 3) (N := some 35) (v := ?_) (a' := ?_) #[true, true, true, true, false, false, false, false, false, false, false, false] rfl rfl (by kernel_rfl) (fun _ _ _ h => h) (Or.inl ⟨by rfl, ?_⟩) ?_ ?_
    rotate_left
    · intro w'
      go_simp
      with_reducible rfl
    rotate_left
    · simp only [Act.put, List.setIfInBounds_toArray, List.set_cons_zero, List.set_cons_succ, i64_w, i32_w]
      rfl
    refine pure_ (i := 6) (N := some 38) (v := ?_) (a' := ?_) #[true, true, true, true, false, false, true, false, false, false, false, false] rfl rfl (by kernel_rfl) (fun _ _ _ h => h) (Or.inl ⟨by rfl, ?_⟩) ?_ ?_
    rotate_left
    · intro w'
      go_simp
      with_reducible rfl
    rotate_left
    · simp only [Act.put, List.setIfInBounds_toArray, List.set_cons_zero, List.set_cons_succ, i64_w, i32_w]
      rfl
    refine pure_ (i := 7) (N := some 39) (v := ?_) (a' := ?_) #[true, true, true, true, false, false, true, true, false, false, false, false] rfl rfl (by kernel_rfl) (fun _ _ _ h => h) (Or.inl ⟨by rfl, ?_⟩) ?_ ?_
    rotate_left
    · intro w'
      go_simp
      with_reducible rfl
    rotate_left
    · simp only [Act.put, List.setIfInBounds_toArray, List.set_cons_zero, List.set_cons_succ, i64_w, i32_w]
      rfl
    refine pure_ (i := 8) (N := some 40) (v := ?_) (a' := ?_) #[true, true, true, true, false, false, true, true, true, false, false, false] rfl rfl (by kernel_rfl) (fun _ _ _ h => h) (Or.inl ⟨by rfl, ?_⟩) ?_ ?_
    rotate_left
    · intro w'
      go_simp
      with_reducible rfl
    rotate_left
    · simp only [Act.put, List.setIfInBounds_toArray, List.set_cons_zero, List.set_cons_succ, i64_w, i32_w]
      rfl
    refine pure_ (i := 9) (N := some 41) (v := ?_) (a' := ?_) #[true, true, true, true, false, false, true, true, true, true, false, false] rfl rfl (by kernel_rfl) (fun _ _ _ h => h) (Or.inl ⟨by rfl, ?_⟩) ?_ ?_
    rotate_left
    · intro w'
      go_simp
      with_reducible rfl
    rotate_left
    · simp only [Act.put, List.setIfInBounds_toArray, List.set_cons_zero, List.set_cons_succ, i64_w, i32_w]
      rfl
    refine take_ (i := 10) (N := some 42) (v := ?_) (a' := ?_) #[true, true, true, true, false, false, true, true, true, true, true, false] rfl rfl (by kernel_rfl) (fun _ _ _ h => h) (Or.inl ⟨by rfl, ?_⟩) hHeld ?_ ?_
    rotate_left
    · intro w' s0
      go_simp
      with_reducible rfl
    rotate_left
    · simp only [Act.put, List.setIfInBounds_toArray, List.set_cons_zero, List.set_cons_succ, i64_w, i32_w]
      rfl
    refine one_ (i := 4) (N := some 36) #[true, true, true, true, true, false, true, true, true, true, true, false] rfl rfl (by kernel_rfl) (by decide) (fun K hK => ?_)
    refine goes_ Try.func98 (by kernel_rfl) rfl #[.slice A1 N (c - 2)] (by rfl) rfl rfl (by simp only [List.map_toArray, List.map_cons, List.map_nil]; rfl) ?_
    with_reducible refine (of_p A1 (c - 2) p N HPL.out hpc (HP.out _ (Kd.C_below H.out HB.out)) OF.out).mono ?_
    rintro e w2 ⟨A2, c2, rfl, hC2, hb⟩
    refine ⟨_, rfl, ?_⟩
    have hcv2 := Kd.C_string (P := Try.prog) (c := c2) Try.underlying22 Try.underlying5 Try.underlying9 hC2
    rw [HS1.out] at hcv2
    have HB2 := Aside0.mk (below_step HB.out hb)
    clear hb hC2
    refine hK.out _ _ ((HS.out _ HB2.out)) (fun hHeld => ?_)
    clear hK K
    refine norm_ (a' := ?_) ?_ ?_
    rotate_left
    · show Act.put _ (some 36) _ = _
      simp only [Act.put, List.setIfInBounds_toArray, List.set_cons_zero, List.set_cons_succ, i64_w, i32_w]
      rfl
    refine one_ (i := 5) (N := some 37) #[true, true, true, true, true, true, true, true, true, true, true, false] rfl rfl (by kernel_rfl) (by decide) (fun K hK => ?_)
    refine value_ (w1 := ?_) (v := ?_) (by rfl) rfl ?_ ?_
    rotate_left 2
    · go_simp
      constructor
      · rfl
      · rfl
    refine hK.out _ _ ((HS.out _ HB2.out)) (fun hHeld => ?_)
    clear hK K
    refine norm_ (a' := ?_) ?_ ?_
    rotate_left
    · show Act.put _ (some 37) _ = _
      simp only [Act.put, List.setIfInBounds_toArray, List.set_cons_zero, List.set_cons_succ, i64_w, i32_w]
      rfl
    refine pure_ (i := 11) (N := some 43) (v := ?_) (a' := ?_) #[true, true, true, true, true, true, true, true, true, true, true, true] rfl rfl (by kernel_rfl) (fun _ _ _ h => h) (Or.inl ⟨by rfl, ?_⟩) ?_ ?_
    rotate_left
    · intro w'
      go_simp
      with_reducible rfl
    rotate_left
    · simp only [Act.put, List.setIfInBounds_toArray, List.set_cons_zero, List.set_cons_succ, i64_w, i32_w]
      rfl
    refine done_ (by kernel_rfl) ?_
    go_wp2
    go_ret3
    exact ⟨none, 0, [], 0, 3, rfl, E.out.symm, Nat.le_refl _, fun W _ => Kd.C_nil _ _, HB2.out⟩
theorem refGet_any (A : Option Addr) (c : Nat) (l : List Int) (w : World) (h : Kd.C (Kd.int .u8) w A l.length l) (hc : l.length ≤ c) (ok : okB l = true) (hl : l.length ≤ 2000) :
    Calls Try.prog 70 #[.slice A l.length c] w fun e w' => ∃ (A' : Option Addr) (c' : Nat) (r : List Int) (n x : Int), e = .returned (.tuple #[.slice A' r.length c', .int .i64 n, .int .i64 x]) ∧ (r, n, x) = getF l ∧ r.length ≤ c' ∧ (∀ W, Kd.C (Kd.int .u8) W A l.length l → Kd.C (Kd.int .u8) W A' r.length r) ∧ Below w.heap.size w w' := by
  by_cases h2 : l.length < 2
  · exact refGet_short A c l w h2
  · obtain ⟨ad, x0, x1, ht⟩ := two_of h ok (by omega)
    by_cases hg : 1 ≤ lenOf l ∧ lenOf l ≤ 1000 ∧ lenOf l + 6 ≤ l.length
    · obtain ⟨A1, p, hp, hpl, hcut, hpC, hpc⟩ := mid_cut A c l (lenOf l) (by omega) hc
      have hanew := frame_anew ok hg.2.1 hg.2.2
      rw [← hp] at hanew
      refine refGet_good A c l w ad x0 x1 (lenOf l) ht h hc (by omega) hl hg.1 hg.2.1 hg.2.2 A1 p hpl hcut ⟨hpC⟩ hpc ⟨?_⟩ ⟨hanew⟩ (by rw [hp]; exact okB_drop (okB_take ok _) _) ok
      rw [hp]
      unfold getF
      rw [if_neg h2, if_pos hg]
    · exact refGet_bad A c l w ad x0 x1 (lenOf l) ht (by omega) hl ⟨by unfold getF; rw [if_neg h2, if_neg hg]⟩ hg
end Go.Proofs.Ytbcienbnhchdeaa.Hand
