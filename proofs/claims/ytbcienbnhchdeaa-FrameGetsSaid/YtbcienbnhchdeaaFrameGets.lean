/- FrameGets: every scan ends; the law's contract, by hand. -/
import Derived.Test.YtbcienbnhchdeaaFrameScan
import Derived.Test.YtbcienbnhchdeaaPrint18
namespace Go.Proofs.Ytbcienbnhchdeaa.Hand
open Go Go.RowKit Go.Proofs.YtbcienbnhchdeaaW.PrintLast Go.Proofs.YtbcienbnhchdeaaW.PrintWords Go.Proofs.YtbcienbnhchdeaaW.PrintMore Print FrameC FrameL FrameS FrameR
set_option linter.unusedVariables false
set_option linter.unusedSimpArgs false
attribute [local go_sem] max2_int min2_int max_two min_two

theorem getF_len {b p : List Int} {m x : Int} (h : getF b = (p, m, x)) : p.length ≤ b.length := by
  unfold getF at h
  by_cases h1 : b.length < 2
  · rw [if_pos h1] at h
    injection h with e _
    rw [← e]; simp
  · rw [if_neg h1] at h
    by_cases h2 : 1 ≤ lenOf b ∧ lenOf b ≤ 1000 ∧ lenOf b + 6 ≤ b.length
    · rw [if_pos h2] at h
      by_cases h3 : GoodP (b.take (lenOf b + 6))
      · rw [if_pos h3] at h
        injection h with e _
        rw [← e, List.length_drop, List.length_take]; omega
      · rw [if_neg h3] at h
        injection h with e _
        rw [← e]; simp
    · rw [if_neg h2] at h
      injection h with e _
      rw [← e]; simp
theorem getF_okB {b p : List Int} {m x : Int} (hb : okB b = true) (h : getF b = (p, m, x)) : okB p = true := by
  unfold getF at h
  by_cases h1 : b.length < 2
  · rw [if_pos h1] at h
    injection h with e _
    rw [← e]; rfl
  · rw [if_neg h1] at h
    by_cases h2 : 1 ≤ lenOf b ∧ lenOf b ≤ 1000 ∧ lenOf b + 6 ≤ b.length
    · rw [if_pos h2] at h
      by_cases h3 : GoodP (b.take (lenOf b + 6))
      · rw [if_pos h3] at h
        injection h with e _
        rw [← e]; exact okB_drop (okB_take hb _) _
      · rw [if_neg h3] at h
        injection h with e _
        rw [← e]; rfl
    · rw [if_neg h2] at h
      injection h with e _
      rw [← e]; rfl
theorem scan_ends : ∀ (k : Nat) {b : List Int} {acc : List (List Int)} {n : Nat}, okB b = true → b.length ≤ 2000 → n ≤ b.length → acc.length ≤ n → (∀ p ∈ acc, okB p = true) → b.length - n < k →
    ∃ r m x, frame_Scan.l0 k b acc (n : Int) = some (r, m, x) ∧ (∀ p ∈ r, okB p = true) ∧ r.length ≤ b.length
  | 0, b, acc, n, ok, hl, hn, ha, hk, h => by omega
  | k + 1, b, acc, n, ok, hl, hn, ha, hk, h => by
    by_cases hlt : n < b.length
    · obtain ⟨p, m, x, hg⟩ : ∃ p m x, getF (b.drop n) = (p, m, x) := ⟨_, _, _, rfl⟩
      by_cases hx : x = 0
      · subst hx
        obtain ⟨q, rfl, hq7, hqb⟩ := getF_ok hg
        rw [List.length_drop] at hqb
        have hw : wrap64 ((n : Int) + (q : Int)) = ((n + q : Nat) : Int) := by unfold wrap64; omega
        have c1 : ¬ (n : Int) = (b.length : Int) := by omega
        have c2 : (0 : Int) ≤ (n : Int) ∧ (n : Int) ≤ (b.length : Int) := ⟨by omega, by omega⟩
        have c3 : acc.length < 5864062014805 := by omega
        rw [frame_Scan.l0, if_neg c1, if_pos c2, Int.toNat_natCast, get_eq (okB_drop ok n) (by rw [List.length_drop]; omega) 0, hg, bind_s, if_pos rfl, if_pos c3, hw]
        refine scan_ends k ok hl (by omega) (by rw [List.length_append, List.length_singleton]; omega) (fun p' hp => ?_) (by omega)
        rcases List.mem_append.1 hp with h1 | h1
        · exact hk p' h1
        · rw [List.mem_singleton.1 h1]; exact getF_okB (okB_drop ok n) hg
      · exact ⟨acc, n, x, scan_stop ok (by omega) hlt hg hx, hk, by omega⟩
    · obtain rfl : n = b.length := by omega
      exact ⟨acc, (b.length : Int), 0, scan_end, hk, by omega⟩
theorem scan_any {b : List Int} (ok : okB b = true) (hl : b.length ≤ 2000) : ∃ r m x, frame_Scan.f b = some (r, m, x) ∧ (∀ p ∈ r, okB p = true) ∧ r.length ≤ b.length := by
  unfold frame_Scan.f
  exact scan_ends (b.length + 2) (n := 0) (acc := []) ok hl (by omega) (by simp) (by simp) (by omega)
set_option maxRecDepth 100000 in
set_option maxHeartbeats 4000000 in
theorem frameGets_any (A0 : Option Addr) (c0 : Nat) (l0 : List Int) (w : World) (h0 : Kd.C (Kd.int .u8) w A0 l0.length l0) (hc0 : l0.length ≤ c0) (ok0 : okB l0 = true) :
    Calls Try.prog 19 #[.slice A0 l0.length c0] w fun e w' => e = .returned (.bool true) ∧ Below w.heap.size w w' := by
  have hl0 := h0.2.1
  have g0 : Kd.C (Kd.int .u8) w A0 (l0.take 1100).length (l0.take 1100) := by
    by_cases h : l0.length ≤ 1100
    · rw [List.take_of_length_le h]; exact h0
    · exact C_first h0 1100 (by omega)
  have o0 := okB_take ok0 1100
  have k0 : (l0.take 1100).length ≤ c0 := by rw [List.length_take]; omega
  have b0 : (l0.take 1100).length ≤ 1100 := by rw [List.length_take]; omega
  have F0 := Aside0.mk (fun W => few4_any A0 c0 l0 hl0 hc0 W)
  generalize l0.take 1100 = a at *
  obtain ⟨p, m, x, hg⟩ : ∃ p m x, getF a = (p, m, x) := ⟨_, _, _, rfl⟩
  obtain ⟨r1, r2, r3, hs, hro, hrl⟩ := scan_any o0 (by omega)
  have hpl := getF_len hg
  have G0 := Aside0.mk g0
  have GET : Aside0 (∀ W, Below w.heap.size w W → Calls Try.prog 65 #[.slice A0 a.length c0] W fun e w' => ∃ (A : Option Addr) (c : Nat), e = .returned (.tuple #[.slice A p.length c, .int .i64 m, .int .i64 x]) ∧ p.length ≤ c ∧ Kd.C (Kd.int .u8) w' A p.length p ∧ Below W.heap.size W w') := Aside0.mk (fun W hW =>
    (frame_Get.calls 1 A0 c0 a p m x W (Kd.C_below G0.out hW) k0 (by rw [get_eq o0 (by omega) 0, hg])).mono fun e w' ⟨v, he, hr, hb⟩ => by
      obtain ⟨A, c, rfl, h1, h2⟩ := Kd.R_reads hr
      exact ⟨A, c, he, h1, h2, hb⟩)
  have REF : Aside0 (∀ W, Below w.heap.size w W → Calls Try.prog 70 #[.slice A0 a.length c0] W fun e w' => ∃ (A : Option Addr) (c : Nat), e = .returned (.tuple #[.slice A p.length c, .int .i64 m, .int .i64 x]) ∧ p.length ≤ c ∧ Kd.C (Kd.int .u8) w' A p.length p ∧ Below W.heap.size W w') := Aside0.mk (fun W hW =>
    (refGet_any A0 c0 a W (Kd.C_below G0.out hW) k0 o0 (by omega)).mono fun e w' ⟨A', c', r', m', x', he, hr, h3, h4, h5⟩ => by
      rw [hg] at hr
      injection hr with e1 e2
      injection e2 with e2 e3
      subst e1 e2 e3
      exact ⟨A', c', he, h3, Kd.C_below (h4 W (Kd.C_below G0.out hW)) h5, h5⟩)
  have SCAN : Aside0 (∀ W, Below w.heap.size w W → Calls Try.prog 68 #[.slice A0 a.length c0] W fun e w' => ∃ (A : Option Addr) (c : Nat), e = .returned (.tuple #[.slice A r1.length c, .int .i64 r2, .int .i64 r3]) ∧ r1.length ≤ c ∧ Kd.C (Kd.slice 5 (Kd.int .u8)) w' A r1.length r1 ∧ Below W.heap.size W w') := Aside0.mk (fun W hW =>
    (frame_Scan.calls A0 c0 a r1 r2 r3 W (Kd.C_below G0.out hW) k0 hs).mono fun e w' ⟨v, he, hr, hb⟩ => by
      obtain ⟨A, c, rfl, h1, h2⟩ := Kd.S_reads hr
      exact ⟨A, c, he, h1, h2, hb⟩)
  have REFS : Aside0 (∀ W, Below w.heap.size w W → Calls Try.prog 71 #[.slice A0 a.length c0] W fun e w' => ∃ (A : Option Addr) (c : Nat), e = .returned (.tuple #[.slice A r1.length c, .int .i64 r2, .int .i64 r3]) ∧ r1.length ≤ c ∧ Kd.C (Kd.slice 5 (Kd.int .u8)) w' A r1.length r1 ∧ Below W.heap.size W w') := Aside0.mk (fun W hW =>
    (refScan_any A0 c0 a r1 r2 r3 W (Kd.C_below G0.out hW) k0 o0 (by omega) hs))
  have SAME : Aside0 (∀ W A c A' c', Kd.C (Kd.slice 5 (Kd.int .u8)) W A r1.length r1 → r1.length ≤ c → Kd.C (Kd.slice 5 (Kd.int .u8)) W A' r1.length r1 → r1.length ≤ c' → Calls Try.prog 69 #[.slice A r1.length c, .slice A' r1.length c'] W fun e w' => e = .returned (.bool true) ∧ Drawn0 W w') := Aside0.mk (fun W A c A' c' h1 h2 h3 h4 =>
    pacesetterref04_Same.calls (r1.length + 1) A c r1 A' c' r1 true W h1 h2 h3 h4 (by rw [same_f (by omega) hro hro (Nat.le_refl _), decide_eq_true rfl]))
  have CNT : Aside0 (∀ W, Below w.heap.size w W → Calls Try.prog 72 #[.slice A0 a.length c0] W fun e w' => e = .returned (.int .i64 (r1.length : Int)) ∧ Below W.heap.size W w') := Aside0.mk (fun W hW =>
    frame_Count.calls A0 c0 a (r1.length : Int) W (Kd.C_below G0.out hW) k0 (by unfold frame_Count.f; rw [hs]; rfl))
  clear g0 o0 h0 ok0 hg hs hro
  go_enter Try.func19, Try.ntmps19
  go_wp2_with (first
    | (go_at_call 60; refine (lives4_any _).mono ?_; rintro e w1 ⟨rfl, hb⟩; have HB := Aside0.mk hb; clear hb)
    | (go_at_call 61; refine (F0.out _).mono ?_; rintro e w2 ⟨rfl, rfl⟩; clear F0)
    | (go_at_call 65; refine (GET.out _ HB.out).mono ?_; rintro e w3 ⟨A3, c3, rfl, hc3, hC3, hb⟩; have HC3 := Aside0.mk hC3; have HB3 := Aside0.mk (below_step HB.out hb); clear hC3 hb HB GET)
    | (go_at_call 70; refine (REF.out _ HB3.out).mono ?_; rintro e w4 ⟨A4, c4, rfl, hc4, hC4, hb⟩; have HC3' := Aside0.mk (Kd.C_below HC3.out hb); have HC4 := Aside0.mk hC4; have HB4 := Aside0.mk (below_step HB3.out hb); clear hC4 hb HB3 REF HC3)
    | (go_at_call 68; refine (SCAN.out _ HB4.out).mono ?_; rintro e w5 ⟨A5, c5, rfl, hc5, hC5, hb⟩; have HC3 := Aside0.mk (Kd.C_below HC3'.out hb); have HC4' := Aside0.mk (Kd.C_below HC4.out hb); have HC5 := Aside0.mk hC5; have HB5 := Aside0.mk (below_step HB4.out hb); clear hC5 hb HB4 SCAN HC3' HC4)
    | (go_at_call 71; refine (REFS.out _ HB5.out).mono ?_; rintro e w6 ⟨A6, c6, rfl, hc6, hC6, hb⟩; have hcv3 := Kd.C_string (P := Try.prog) (c := c3) Try.underlying22 Try.underlying5 Try.underlying9 (Kd.C_below HC3.out hb); have hcv4 := Kd.C_string (P := Try.prog) (c := c4) Try.underlying22 Try.underlying5 Try.underlying9 (Kd.C_below HC4'.out hb); have HC5' := Aside0.mk (Kd.C_below HC5.out hb); have HC6 := Aside0.mk hC6; have HB6 := Aside0.mk (below_step HB5.out hb); clear hC6 hb HB5 REFS HC3 HC4' HC5)
    | (go_at_call 69; refine (SAME.out _ _ _ _ _ HC5'.out hc5 HC6.out hc6).mono ?_; rintro e w7 ⟨rfl, hd⟩; have HB7 := Aside0.mk (below_step HB6.out hd.below); clear hd SAME)
    | (go_at_call 72; refine (CNT.out _ HB7.out).mono ?_; rintro e w8 ⟨rfl, hb⟩; have HB8 := Aside0.mk (below_step HB7.out hb); clear hb CNT))
  go_ret
  exact ⟨rfl, HB8.out⟩
end Go.Proofs.Ytbcienbnhchdeaa.Hand
