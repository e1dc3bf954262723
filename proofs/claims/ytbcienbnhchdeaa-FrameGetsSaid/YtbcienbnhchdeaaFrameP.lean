/- The frame of any payload, behind any bytes: the law's contract. -/
import Derived.Test.YtbcienbnhchdeaaFrameR
import Derived.Test.YtbcienbnhchdeaaPrint2
import Derived.Test.YtbcienbnhchdeaaPrint6
import Derived.Test.YtbcienbnhchdeaaPrint10
import Derived.Test.YtbcienbnhchdeaaDiskW
namespace Go.Proofs.Ytbcienbnhchdeaa.Hand
open Go Go.RowKit Go.Proofs.YtbcienbnhchdeaaW.PrintWords Go.Proofs.YtbcienbnhchdeaaW.PrintMore Print FrameC FrameL FrameS FrameR
set_option linter.unusedVariables false
set_option linter.unusedSimpArgs false
attribute [local go_sem] max2_int min2_int max_two min_two

theorem lives4_f (k : Nat) : pacesetterlaw04_lives.f (k + 1) = some true := by
  rw [← lives_one]
  unfold pacesetterlaw04_lives.f
  have h7 : okB [7] = true := rfl
  have hb : okB ([] ++ frameOf [7]) = true := frameOf_ok h7
  have hl : ([] ++ frameOf [7]).length ≤ 1000000 := by rw [List.nil_append, frameOf_len]; decide
  rw [put_eq h7 (by decide) (by decide)]
  simp only [bind_s]
  rw [if_neg (by decide), if_neg (by decide), get_eq hb hl k, get_eq hb hl 0]
theorem lives4_any (w : World) : Calls Try.prog 60 #[] w fun e w' => e = .returned (.bool true) ∧ Below w.heap.size w w' := pacesetterlaw04_lives.calls 1 true w (lives4_f 0)
set_option maxRecDepth 100000 in
theorem few4_any (A : Option Addr) (c : Nat) (l : List Int) (hl : l.length ≤ 9223372036854775807) (hc : l.length ≤ c) (w : World) : Calls Try.prog 61 #[.slice A l.length c] w fun e w' => e = .returned (.slice A (l.take 1100).length c) ∧ w = w' := by
  have hm0 : (if (1100 : Int) < (l.length : Int) then (1100 : Int) else (l.length : Int)) = (((l.take 1100).length : Nat) : Int) := by rw [List.length_take]; split <;> omega
  have hk0 : (l.take 1100).length ≤ c := by rw [List.length_take]; omega
  generalize (l.take 1100).length = m at *
  go_enter Try.func61, Try.ntmps61
  go_wp2
  go_ret
  exact ⟨rfl, rfl⟩
theorem of_f {l : List Int} (hb : okB l = true) (hl : l.length ≤ 2000) : pacesetterref04_of.f 30000 l = some (frameOf l) := by
  unfold pacesetterref04_of.f
  have e : ([(wrap64 ((l.length : Int) / 256)) % 256, (l.length : Int) % 256] : List Int) = headN l.length := by
    unfold headN wrap64
    simp only [List.cons.injEq, and_true]
    omega
  have hh : (headN l.length).length = 2 := rfl
  have ew : headN l.length ++ l = withHead l := rfl
  rw [bind_s, e, if_pos (by omega), ew, ref_seal (withHead_ok hb) (by rw [withHead_len]; omega) (by rw [withHead_len]; omega), bind_s]
  rfl
set_option maxRecDepth 100000 in
set_option maxHeartbeats 1000000 in
/-- The second reading's frame of a payload, behind any bytes. -/
theorem refPut_any (A0 A1 : Option Addr) (c0 c1 : Nat) (l0 l1 : List Int) (w : World) (h0 : Kd.C (Kd.int .u8) w A0 l0.length l0) (hc0 : l0.length ≤ c0) (hl0 : l0.length ≤ 1000000) (h1 : Kd.C (Kd.int .u8) w A1 l1.length l1) (hc1 : l1.length ≤ c1) (ok1 : okB l1 = true) :
    Calls Try.prog 63 #[.slice A0 l0.length c0, .slice A1 l1.length c1] w fun e w' => ∃ (A : Option Addr) (c : Nat) (r : List Int) (x : Int), e = .returned (.tuple #[.slice A r.length c, .int .i64 x]) ∧ (r, x) = (if l1.length = 0 then (l0, (1 : Int)) else if 1000 < l1.length then (l0, 12) else (l0 ++ frameOf l1, 0)) ∧ r.length ≤ c ∧ Kd.C (Kd.int .u8) w' A r.length r ∧ Below w.heap.size w w' := by
  have hl63 := h1.2.1
  have H0 := Aside0.mk h0
  have H1 := Aside0.mk h1
  have O1 := Aside0.mk ok1
  clear h0 h1 ok1
  by_cases c0' : l1.length = 0
  · rw [if_pos c0']
    rw [c0']
    go_enter Try.func63, Try.ntmps63
    go_wp2
    go_ret2
    exact ⟨A0, c0, l0, 1, rfl, rfl, hc0, H0.out, Below.refl _ _⟩
  · rw [if_neg c0']
    have hz : ((l1.length : Int) == 0) = false := beq_eq_false_iff_ne.mpr (by omega)
    by_cases c1' : 1000 < l1.length
    · rw [if_pos c1']
      go_enter Try.func63, Try.ntmps63
      go_wp2
      go_ret2
      exact ⟨A0, c0, l0, 12, rfl, rfl, hc0, H0.out, Below.refl _ _⟩
    · rw [if_neg c1']
      have hle : l1.length ≤ 1000 := by omega
      have HF := Aside0.mk (of_f O1.out (by omega))
      have HL := Aside0.mk (frameOf_len l1)
      clear c0' c1'
      go_enter Try.func63, Try.ntmps63
      go_wp2_with (first
        | (at_builtin; refine Kd.R_append_row (Value.int .u8) (0 : Int) (h1 := fun _ => rfl) (w0 := w) w.heap.size rfl (.tmp 15) (.tmp 16) 22 5 (.int .u8 0) 1 rfl Try.underlying22 info5 rfl (by omega) (.slice none 0 0) [] l0 A0 l0.length c0 (fun _ => True) rfl rfl (fun _ _ => trivial) ?aO ?aR ?aB ?aS ?aL ?_; (case aO => exact Kd.R_nil _ _ _ _ _); (case aR => exact H0.out); (case aB => exact Below.refl _ _); (case aS => exact Nat.le_refl _); (case aL => simp; omega); intro v1 w2 ho hb hg hat; rw [List.nil_append] at ho; obtain ⟨A2, c2, rfl⟩ := Kd.R_slice ho; have HO := Aside0.mk ho; have HB2 := Aside0.mk hb; clear ho hb hg hat)
        | (go_at_call 98; refine (pacesetterref04_of.calls 30000 A1 c1 l1 (frameOf l1) _ (Kd.C_below H1.out HB2.out) hc1 HF.out).mono ?_; rintro e w3 ⟨v3, rfl, ho, hb⟩; obtain ⟨A3, c3, rfl⟩ := Kd.R_slice ho; have HO3 := Aside0.mk ho; have HB3 := Aside0.mk (below_step HB2.out hb); have HO2 := Aside0.mk (Kd.R_below HO.out hb); clear ho hb HO HB2)
        | (at_builtin; refine Kd.R_append_row (Value.int .u8) (0 : Int) (h1 := fun _ => rfl) (w0 := w) w.heap.size rfl (.tmp 18) (.tmp 20) 22 5 (.int .u8 0) 1 rfl Try.underlying22 info5 rfl (by omega) (.slice A2 l0.length c2) l0 (frameOf l1) A3 (frameOf l1).length c3 (fun _ => True) rfl rfl (fun _ _ => trivial) ?bO ?bR ?bB ?bS ?bL ?_; (case bO => exact HO2.out); (case bR => exact (Kd.R_reads' HO3.out).2.2); (case bB => exact HB3.out); (case bS => exact HB3.out.size); (case bL => have := HL.out; omega); intro v4 w4 ho hb hg hat; obtain ⟨A4, c4, rfl⟩ := Kd.R_slice ho; have HO4 := Aside0.mk ho; have HB4 := Aside0.mk hb; clear ho hb hg hat HO2 HO3 HB3))
      go_ret2
      obtain ⟨r1, r2, r3⟩ := Kd.R_reads' HO4.out
      exact ⟨A4, c4, l0 ++ frameOf l1, 0, by rw [List.length_append]; rfl, rfl, r2, r3, HB4.out⟩
theorem put_frame (A0 A1 : Option Addr) (c0 c1 : Nat) (l0 l1 : List Int) (w : World) (h0 : Kd.C (Kd.int .u8) w A0 l0.length l0) (hc0 : l0.length ≤ c0) (hl0 : l0.length ≤ 1000000) (h1 : Kd.C (Kd.int .u8) w A1 l1.length l1) (hc1 : l1.length ≤ c1) (hl1 : l1.length ≤ 100000) (ok1 : okB l1 = true) :
    Calls Try.prog 62 #[.slice A0 l0.length c0, .slice A1 l1.length c1] w fun e w' => ∃ (A : Option Addr) (c : Nat) (r : List Int) (x : Int), e = .returned (.tuple #[.slice A r.length c, .int .i64 x]) ∧ (r, x) = (if l1.length = 0 then (l0, (1 : Int)) else if 1000 < l1.length then (l0, 12) else (l0 ++ frameOf l1, 0)) ∧ r.length ≤ c ∧ Kd.C (Kd.int .u8) w' A r.length r ∧ Below w.heap.size w w' := by
  obtain ⟨r, x, hrx⟩ : ∃ r x, (r, x) = (if l1.length = 0 then (l0, (1 : Int)) else if 1000 < l1.length then (l0, 12) else (l0 ++ frameOf l1, 0)) := ⟨_, _, rfl⟩
  have hf := put_eq (l := l0) ok1 hl1 hl0
  rw [← hrx] at hf ⊢
  refine (frame_Put.calls (fun k => k < w.heap.size) A0 c0 l0 (fun k => k < w.heap.size) A1 c1 l1 r x w (Kd.V_mk hc0 (Kd.C_F (Kd.heap_int .u8) h0)) (Kd.V_mk hc1 (Kd.C_F (Kd.heap_int .u8) h1)) hf).mono ?_
  rintro e w' ⟨v, rfl, hV, hb⟩
  obtain ⟨A, c, rfl⟩ := Kd.V_slice hV
  obtain ⟨_, r2, r3⟩ := Kd.V_reads' hV
  exact ⟨A, c, r, x, rfl, rfl, r2, r3, hb⟩
theorem size_any (n : Nat) (w : World) : Calls Try.prog 64 #[.int .i64 (n : Int)] w fun e w' => e = .returned (.int .i64 (if 1 ≤ n ∧ n ≤ 1000 then ((n + 6 : Nat) : Int) else 0)) ∧ Drawn0 w w' :=
  frame_Size.calls (n : Int) _ w (size_eq n)
set_option maxRecDepth 100000 in
set_option maxHeartbeats 1000000 in
theorem framePuts_any (A0 A1 : Option Addr) (c0 c1 : Nat) (l0 l1 : List Int) (w : World) (h0 : Kd.C (Kd.int .u8) w A0 l0.length l0) (hc0 : l0.length ≤ c0) (ok0 : okB l0 = true) (h1 : Kd.C (Kd.int .u8) w A1 l1.length l1) (hc1 : l1.length ≤ c1) (ok1 : okB l1 = true) :
    Calls Try.prog 15 #[.slice A0 l0.length c0, .slice A1 l1.length c1] w fun e w' => e = .returned (.bool true) ∧ Below w.heap.size w w' := by
  have hl0 := h0.2.1
  have hl1 := h1.2.1
  have g0 : Kd.C (Kd.int .u8) w A0 (l0.take 1100).length (l0.take 1100) := by
    by_cases h : l0.length ≤ 1100
    · rw [List.take_of_length_le h]; exact h0
    · exact C_first h0 1100 (by omega)
  have g1 : Kd.C (Kd.int .u8) w A1 (l1.take 1100).length (l1.take 1100) := by
    by_cases h : l1.length ≤ 1100
    · rw [List.take_of_length_le h]; exact h1
    · exact C_first h1 1100 (by omega)
  have o1 := okB_take2 ok1 1100
  have k0 : (l0.take 1100).length ≤ c0 := by rw [List.length_take]; omega
  have k1 : (l1.take 1100).length ≤ c1 := by rw [List.length_take]; omega
  have b0 : (l0.take 1100).length ≤ 1100 := by rw [List.length_take]; omega
  have b1 : (l1.take 1100).length ≤ 1100 := by rw [List.length_take]; omega
  have F0 := Aside0.mk (fun W => few4_any A0 c0 l0 hl0 hc0 W)
  have F1 := Aside0.mk (fun W => few4_any A1 c1 l1 hl1 hc1 W)
  generalize l0.take 1100 = a at *
  generalize l1.take 1100 = p at *
  obtain ⟨r, x, hrx⟩ : ∃ r x, (r, x) = (if p.length = 0 then (a, (1 : Int)) else if 1000 < p.length then (a, 12) else (a ++ frameOf p, 0)) := ⟨_, _, rfl⟩
  have hsz : (if x = 0 then (r.length : Int) - (a.length : Int) else 0) = (if 1 ≤ p.length ∧ p.length ≤ 1000 then ((p.length + 6 : Nat) : Int) else 0) ∧ r.length ≤ 3000 := by
    by_cases c1 : p.length = 0
    · rw [if_pos c1] at hrx
      injection hrx with e1 e2
      subst e1 e2
      rw [if_neg (by decide), if_neg (by omega)]
      exact ⟨rfl, by omega⟩
    · rw [if_neg c1] at hrx
      by_cases c2 : 1000 < p.length
      · rw [if_pos c2] at hrx
        injection hrx with e1 e2
        subst e1 e2
        rw [if_neg (by decide), if_neg (by omega)]
        exact ⟨rfl, by omega⟩
      · rw [if_neg c2] at hrx
        injection hrx with e1 e2
        subst e1 e2
        rw [if_pos rfl, if_pos (by omega), List.length_append, frameOf_len]
        exact ⟨by omega, by omega⟩
  obtain ⟨sz, hs1⟩ : ∃ sz : Int, (if 1 ≤ p.length ∧ p.length ≤ 1000 then ((p.length + 6 : Nat) : Int) else 0) = sz := ⟨_, rfl⟩
  have SZ := Aside0.mk (fun W => size_any p.length W)
  rw [hs1] at SZ hsz
  have G0 := Aside0.mk g0
  have G1 := Aside0.mk g1
  have O1 := Aside0.mk o1
  have HRX := Aside0.mk hrx
  have hrl := hsz.2
  have hrn : a.length ≤ r.length ∨ x ≠ 0 := by
    by_cases c1 : p.length = 0
    · rw [if_pos c1] at hrx
      injection hrx with e1 e2
      exact .inl (by rw [e1]; omega)
    · rw [if_neg c1] at hrx
      by_cases c2 : 1000 < p.length
      · rw [if_pos c2] at hrx
        injection hrx with e1 e2
        exact .inl (by rw [e1]; omega)
      · rw [if_neg c2] at hrx
        injection hrx with e1 e2
        exact .inl (by rw [e1, List.length_append]; omega)
  clear g0 g1 o1 h0 h1 ok0 ok1 hs1 hrx
  have PUT : Aside0 (∀ W, Below w.heap.size w W → Calls Try.prog 62 #[.slice A0 a.length c0, .slice A1 p.length c1] W fun e w' => ∃ (A : Option Addr) (c : Nat), e = .returned (.tuple #[.slice A r.length c, .int .i64 x]) ∧ r.length ≤ c ∧ Kd.C (Kd.int .u8) w' A r.length r ∧ Below W.heap.size W w') := Aside0.mk (fun W hW =>
    (put_frame A0 A1 c0 c1 a p W (Kd.C_below G0.out hW) k0 (by omega) (Kd.C_below G1.out hW) k1 (by omega) O1.out).mono fun e w' ⟨A, c, r', x', he, hr, h3, h4, h5⟩ => by
      rw [← HRX.out] at hr
      injection hr with e1 e2
      subst e1 e2
      exact ⟨A, c, he, h3, h4, h5⟩)
  have REF : Aside0 (∀ W, Below w.heap.size w W → Calls Try.prog 63 #[.slice A0 a.length c0, .slice A1 p.length c1] W fun e w' => ∃ (A : Option Addr) (c : Nat), e = .returned (.tuple #[.slice A r.length c, .int .i64 x]) ∧ r.length ≤ c ∧ Kd.C (Kd.int .u8) w' A r.length r ∧ Below W.heap.size W w') := Aside0.mk (fun W hW =>
    (refPut_any A0 A1 c0 c1 a p W (Kd.C_below G0.out hW) k0 (by omega) (Kd.C_below G1.out hW) k1 O1.out).mono fun e w' ⟨A, c, r', x', he, hr, h3, h4, h5⟩ => by
      rw [← HRX.out] at hr
      injection hr with e1 e2
      subst e1 e2
      exact ⟨A, c, he, h3, h4, h5⟩)
  by_cases hx : x = 0
  · subst hx
    have hra : a.length ≤ r.length := by rcases hrn with h | h; exact h; exact absurd rfl h
    have hsum : (r.length : Int) - (a.length : Int) = sz := by have := hsz.1; rw [if_pos rfl] at this; exact this
    clear hsz hrn
    go_enter Try.func15, Try.ntmps15
    go_wp2_with (first
      | (go_at_call 60; refine (lives4_any _).mono ?_; rintro e w1 ⟨rfl, hb⟩; have HB := Aside0.mk hb; clear hb)
      | (go_at_call 61; refine (F0.out _).mono ?_; rintro e w2 ⟨rfl, rfl⟩; clear F0)
      | (go_at_call 61; refine (F1.out _).mono ?_; rintro e w2 ⟨rfl, rfl⟩; clear F1)
      | (go_at_call 62; refine (PUT.out _ HB.out).mono ?_; rintro e w3 ⟨A3, c3, rfl, hc3, hC3, hb⟩; have HC3 := Aside0.mk hC3; have HB3 := Aside0.mk (below_step HB.out hb); clear hC3 hb HB)
      | (go_at_call 63; refine (REF.out _ HB3.out).mono ?_; rintro e w4 ⟨A4, c4, rfl, hc4, hC4, hb⟩; have hcv3 := Kd.C_string (P := Try.prog) (c := c3) Try.underlying22 Try.underlying5 Try.underlying9 (Kd.C_below HC3.out hb); have hcv4 := Kd.C_string (P := Try.prog) (c := c4) Try.underlying22 Try.underlying5 Try.underlying9 hC4; have HB4 := Aside0.mk (below_step HB3.out hb); clear hC4 hb HB3)
      | (go_at_call 64; refine (SZ.out _).mono ?_; rintro e w5 ⟨rfl, hd⟩; have HB5 := Aside0.mk (below_step HB4.out hd.below); clear hd))
    go_ret
    exact ⟨rfl, HB5.out⟩
  · have hzero : sz = 0 := by have := hsz.1; rw [if_neg hx] at this; exact this.symm
    subst hzero
    have hxe : (x == 0) = false := beq_eq_false_iff_ne.mpr hx
    clear hsz hrn
    go_enter Try.func15, Try.ntmps15
    go_wp2_with (first
      | (go_at_call 60; refine (lives4_any _).mono ?_; rintro e w1 ⟨rfl, hb⟩; have HB := Aside0.mk hb; clear hb)
      | (go_at_call 61; refine (F0.out _).mono ?_; rintro e w2 ⟨rfl, rfl⟩; clear F0)
      | (go_at_call 61; refine (F1.out _).mono ?_; rintro e w2 ⟨rfl, rfl⟩; clear F1)
      | (go_at_call 62; refine (PUT.out _ HB.out).mono ?_; rintro e w3 ⟨A3, c3, rfl, hc3, hC3, hb⟩; have HC3 := Aside0.mk hC3; have HB3 := Aside0.mk (below_step HB.out hb); clear hC3 hb HB)
      | (go_at_call 63; refine (REF.out _ HB3.out).mono ?_; rintro e w4 ⟨A4, c4, rfl, hc4, hC4, hb⟩; have hcv3 := Kd.C_string (P := Try.prog) (c := c3) Try.underlying22 Try.underlying5 Try.underlying9 (Kd.C_below HC3.out hb); have hcv4 := Kd.C_string (P := Try.prog) (c := c4) Try.underlying22 Try.underlying5 Try.underlying9 hC4; have HB4 := Aside0.mk (below_step HB3.out hb); clear hC4 hb HB3)
      | (go_at_call 64; refine (SZ.out _).mono ?_; rintro e w5 ⟨rfl, hd⟩; have HB5 := Aside0.mk (below_step HB4.out hd.below); clear hd))
    go_ret
    exact ⟨rfl, HB5.out⟩
end Go.Proofs.Ytbcienbnhchdeaa.Hand
