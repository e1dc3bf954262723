/- WindowStays, by hand. -/
import Derived.Test.YtdpdjchblajbbaaWinS
namespace Go.Proofs.Ytdpdjchblajbbaa.Hand
open Go Go.RowKit Go.Proofs.YtdpdjchblajbbaaW.PrintLast Go.Proofs.YtdpdjchblajbbaaW.PrintWords Go.Proofs.YtdpdjchblajbbaaW.PrintMore
set_option linter.unusedVariables false
set_option linter.unusedSimpArgs false
attribute [local go_sem] max2_int min2_int max_two min_two guard_tl
/-- A number of a small row. -/
theorem small_rem (a : Int) (m : Int) (h0 : 0 < m) (h1 : m ≤ 100000) : ∃ r : Nat, (r : Int) < m ∧ wrap64 (Int.tmod (IntKind.u64.wrap a) m) = (r : Int) := by
  have h0' : 0 ≤ IntKind.u64.wrap a := by rw [IntKind.wrap_u64]; omega
  have h1' : Int.tmod (IntKind.u64.wrap a) m = IntKind.u64.wrap a % m := Int.tmod_eq_emod_of_nonneg h0'
  have h2 : 0 ≤ IntKind.u64.wrap a % m := Int.emod_nonneg _ (by omega)
  have h3 : IntKind.u64.wrap a % m < m := Int.emod_lt_of_pos _ h0
  exact ⟨(IntKind.u64.wrap a % m).toNat, by omega, by rw [h1']; unfold wrap64; omega⟩
/-- The window in the loop: what the last verdict tells. -/
structure Stay (w wr : World) (g s most n m : Nat) (last : Int) (a b : Nat) : Prop where
  h : WinAt wr g 5 (s : Int) a b
  hab : a + b ≤ n
  hm : m ≤ 5 * n
  lasts : last = 0 ∨ (last = 1 ∧ 5 + s ≤ m ∧ b ≤ most) ∨ (last = 2 ∧ most < b)
  hg : w.heap.size ≤ g
  below : Below w.heap.size w wr
/-- What a round's three answers can be, and the last verdict. -/
def Ways (R O : Bool) (V last : Int) : Prop :=
  (R = false ∧ O = false ∧ V = 0 ∧ last = 0) ∨ (R = false ∧ O = false ∧ V = 2 ∧ last = 0) ∨ (R = false ∧ O = false ∧ V = 2 ∧ last = 2) ∨
  (R = true ∧ O = false ∧ V = 0 ∧ last = 0) ∨ (R = true ∧ O = false ∧ V = 2 ∧ last = 0) ∨ (R = true ∧ O = false ∧ V = 2 ∧ last = 2) ∨
  (R = false ∧ O = true ∧ V = 1 ∧ last = 0) ∨ (R = false ∧ O = true ∧ V = 1 ∧ last = 1) ∨ (R = false ∧ O = true ∧ V = 2 ∧ last = 0) ∨ (R = false ∧ O = true ∧ V = 2 ∧ last = 2)
theorem ways {w wr : World} {g s most n m r a b : Nat} {last : Int} {good : Bool} (h : Stay w wr g s most n m last a b) (hs : 1 ≤ s) :
    ∃ (R O : Bool) (V : Int) (a' b' : Nat), R = decide (5 ≤ ((m + r : Nat) : Int) ∧ ((m + r : Nat) : Int) < 5 + (s : Int)) ∧ O = decide (5 + (s : Int) ≤ ((m + r : Nat) : Int)) ∧ V = (if (if (most : Int) < 0 then 0 else (most : Int)) < (b' : Int) then 2 else if 5 + (s : Int) ≤ ((m + r : Nat) : Int) then 1 else 0) ∧
      a' = a + incG 5 (s : Int) ((m + r : Nat) : Int) good ∧ b' = b + incB 5 (s : Int) ((m + r : Nat) : Int) good ∧ Ways R O V last ∧ (R = false → a' = a ∧ b' = b) ∧ a' + b' ≤ n + 1 ∧ (V = 0 ∨ (V = 1 ∧ 5 + s ≤ m + r ∧ b' ≤ most) ∨ (V = 2 ∧ most < b')) := by
  refine ⟨_, _, _, _, _, rfl, rfl, rfl, rfl, rfl, ?_⟩
  have hinc := inc_le 5 (s : Int) ((m + r : Nat) : Int) good
  have hl := h.lasts
  have hab := h.hab
  rw [if_neg (by omega : ¬ (most : Int) < 0)]
  by_cases h1 : 5 + (s : Int) ≤ ((m + r : Nat) : Int)
  · have e0 : ¬ (5 ≤ ((m + r : Nat) : Int) ∧ ((m + r : Nat) : Int) < 5 + (s : Int)) := by omega
    have e1 : incG 5 (s : Int) ((m + r : Nat) : Int) good = 0 := if_neg e0
    have e2 : incB 5 (s : Int) ((m + r : Nat) : Int) good = 0 := if_neg e0
    rw [e1, e2, decide_eq_true h1, decide_eq_false e0, if_pos h1]
    by_cases h2 : (most : Int) < ((b + 0 : Nat) : Int)
    · rw [if_pos h2]
      refine ⟨?_, fun _ => ⟨rfl, rfl⟩, by omega, by omega⟩
      unfold Ways
      rcases hl with hl | ⟨hl, _, _⟩ | ⟨hl, _⟩
      · simp [hl]
      · omega
      · simp [hl]
    · rw [if_neg h2]
      refine ⟨?_, fun _ => ⟨rfl, rfl⟩, by omega, by omega⟩
      unfold Ways
      rcases hl with hl | ⟨hl, _, _⟩ | ⟨hl, _⟩
      · simp [hl]
      · simp [hl]
      · omega
  · by_cases h0 : 5 ≤ ((m + r : Nat) : Int)
    · have e0 : (5 ≤ ((m + r : Nat) : Int) ∧ ((m + r : Nat) : Int) < 5 + (s : Int)) := by omega
      rw [decide_eq_true e0, decide_eq_false h1, if_neg h1]
      by_cases h2 : (most : Int) < ((b + incB 5 (s : Int) ((m + r : Nat) : Int) good : Nat) : Int)
      · rw [if_pos h2]
        refine ⟨?_, fun hh => by simp at hh, by omega, by omega⟩
        unfold Ways
        rcases hl with hl | ⟨hl, _, _⟩ | ⟨hl, _⟩
        · simp [hl]
        · omega
        · simp [hl]
      · rw [if_neg h2]
        refine ⟨?_, fun hh => by simp at hh, by omega, by omega⟩
        unfold Ways
        rcases hl with hl | ⟨hl, _, _⟩ | ⟨hl, _⟩
        · simp [hl]
        · omega
        · omega
    · have e0 : ¬ (5 ≤ ((m + r : Nat) : Int) ∧ ((m + r : Nat) : Int) < 5 + (s : Int)) := by omega
      have e1 : incG 5 (s : Int) ((m + r : Nat) : Int) good = 0 := if_neg e0
      have e2 : incB 5 (s : Int) ((m + r : Nat) : Int) good = 0 := if_neg e0
      rw [e1, e2, decide_eq_false e0, decide_eq_false h1, if_neg h1]
      by_cases h2 : (most : Int) < ((b + 0 : Nat) : Int)
      · rw [if_pos h2]
        refine ⟨?_, fun _ => ⟨rfl, rfl⟩, by omega, by omega⟩
        unfold Ways
        rcases hl with hl | ⟨hl, _, _⟩ | ⟨hl, _⟩
        · simp [hl]
        · omega
        · simp [hl]
      · rw [if_neg h2]
        refine ⟨?_, fun _ => ⟨rfl, rfl⟩, by omega, by omega⟩
        unfold Ways
        rcases hl with hl | ⟨hl, _, _⟩ | ⟨hl, _⟩
        · simp [hl]
        · omega
        · omega
theorem Stay.on {w wr w1 : World} {g s most n m a b n' m' a' b' : Nat} {last last' : Int} (h : Stay w wr g s most n m last a b) (k : WinAt w1 g 5 (s : Int) a' b') (hm : Moved wr w1 (· = g)) (hab : a' + b' ≤ n') (hmm : m' ≤ 5 * n') (hl : last' = 0 ∨ (last' = 1 ∧ 5 + s ≤ m' ∧ b' ≤ most) ∨ (last' = 2 ∧ most < b')) : Stay w w1 g s most n' m' last' a' b' :=
  ⟨k, hab, hmm, hl, h.hg, Moved.from_below h.below hm (fun k hk => by have := h.hg; omega) h.below.size⟩
set_option maxRecDepth 100000 in
set_option maxHeartbeats 4000000 in
theorem windowStays_any (sp mo : Int) (A0 : Option Addr) (c0 : Nat) (l0 : List S28) (w : World) (h0 : Kd.C k28 w A0 l0.length l0) (hc0 : l0.length ≤ c0) :
    Calls Try.prog 3 #[.int .i64 sp, .int .i64 mo, .slice A0 l0.length c0] w fun e w' => e = .returned (.bool true) ∧ Below w.heap.size w w' := by
  obtain ⟨r0, hr0, hq0⟩ := small_rem sp 30 (by omega) (by omega)
  obtain ⟨most, hmo, hq1⟩ := small_rem mo 5 (by omega) (by omega)
  have H0 := Aside0.mk h0
  have hl0 := h0.2.1
  clear h0
  obtain ⟨s, hs⟩ : ∃ s : Nat, s = 1 + r0 := ⟨_, rfl⟩
  have hs1 : (1 : Int) + (r0 : Int) = (s : Int) := by omega
  have hs30 : s ≤ 30 := by omega
  have hs01 : 1 ≤ s := by omega
  have NEW := Aside0.mk (fun W => show Calls Try.prog 9 #[.int .i64 5, .int .i64 (s : Int)] W fun e w' => e = .returned (.pointer (some ⟨W.heap.size, 0, none⟩)) ∧ WinAt w' W.heap.size 5 (s : Int) 0 0 ∧ Below W.heap.size W w' by
    have e : spanOf (s : Int) = (s : Int) := by unfold spanOf; rw [if_neg (by omega), if_neg (by omega)]
    have h := new_any 5 (s : Int) W
    rw [e] at h
    exact h)
  have HQ0 := Aside0.mk hq0
  have HQ1 := Aside0.mk hq1
  have HS1 := Aside0.mk hs1
  clear hq0 hq1 hs1 hs
  go_enter Try.func3, Try.ntmps3
  go_upto_region 3 with (first
    | (go_at_call 8; refine (lives_any _).mono ?_; rintro e w1 ⟨rfl, hb⟩; have HB := Aside0.mk hb; clear hb))
  go_wp2_with fail
  rw [show wrap64 (1 + wrap64 ((IntKind.u64.wrap sp).tmod 30)) = (s : Int) from by rw [HQ0.out, HS1.out]; unfold wrap64; omega, HQ1.out]
  refine (NEW.out _).mono ?_
  rintro e w2 ⟨rfl, hg, hb⟩; have G1 := Aside0.mk hg; have HB1 := Aside0.mk (below_step HB.out hb); have L1 := Aside0.mk (below_size HB.out); clear hg hb HB NEW
  generalize w1.heap.size = g at *
  have HX := Lib.hid (show Stay w w2 g s most 0 0 0 0 0 from ⟨G1.out, by omega, by omega, .inl rfl, L1.out, HB1.out⟩)
  clear G1 HB1 L1 HQ0 HQ1 HS1
  go_wp2_with fail
  go_loopw [8, 9, 10] (fun now la i wr => ∃ (n m : Nat) (last : Int), n ≤ l0.length ∧ n ≤ 80 ∧ i = .int .i64 (n : Int) ∧ now = .int .i64 (m : Int) ∧ la = .int .i64 last ∧ Hid (∃ a b, Stay w wr g s most n m last a b)) (fun _ _ i _ => l0.length - (intOf i).toNat)
  case atStart => exact ⟨0, 0, 0, by omega, by omega, rfl, rfl, rfl, Lib.hid ⟨0, 0, HX.out⟩⟩
  case round =>
    obtain ⟨n, m, last, hn, hn2, rfl, rfl, rfl, HC⟩ := hrel
    clear HX
    obtain ⟨a, b, hx⟩ := HC.out
    have HY := Aside0.mk hx
    have hm5 := hx.hm
    have hab := hx.hab
    clear HC
    by_cases hlt : n < l0.length
    · by_cases h80 : n < 80
      · obtain ⟨ad, rfl, e0, e1, e2, e3⟩ := at_step (Kd.C_below H0.out HY.out.below) hlt
        have HS := Aside0.mk (fun W (hb : Below w.heap.size w W) => at_step (Kd.C_below H0.out hb) hlt)
        generalize rd28 l0 n = z at *
        obtain ⟨r, hr6, hr⟩ := small_rem z.f1 6 (by omega) (by omega)
        obtain ⟨R, O, V, a', b', hR, hO, hV, ha', hb', hw, hsame, hab', hlast'⟩ := ways (r := r) (good := z.f3) hx hs01
        clear hx
        have HR := Aside0.mk hr
        have OV := Aside0.mk (fun W (h : WinAt W g 5 (s : Int) a b) => show Calls Try.prog 11 #[.pointer (some ⟨g, 0, none⟩), .int .i64 ((m + r : Nat) : Int)] W fun e w' => e = .returned (.bool O) ∧ ∃ n, w' = W.drewN n by rw [hO]; exact over_at h _)
        have NT := Aside0.mk (fun W (h : WinAt W g 5 (s : Int) a b) => show Calls Try.prog 12 #[.pointer (some ⟨g, 0, none⟩), .int .i64 ((m + r : Nat) : Int), .bool z.f3] W fun e w' => e = .returned (.bool R) ∧ WinAt w' g 5 (s : Int) a' b' ∧ Moved W w' (· = g) by rw [hR, ha', hb']; exact note_any h (by omega) (by omega) _ _)
        have VD := Aside0.mk (fun W (h : WinAt W g 5 (s : Int) a' b') => show Calls Try.prog 13 #[.pointer (some ⟨g, 0, none⟩), .int .i64 ((m + r : Nat) : Int), .int .i64 (most : Int)] W fun e w' => e = .returned (.int .i64 V) ∧ ∃ n, w' = W.drewN n by rw [hV]; exact verdict_at h (by omega) (by omega) _ _)
        have hlow : R = false → O = false → ((m + r : Nat) : Int) < 5 := fun h1 h2 => by
          have h3 := of_decide_eq_false (hR.symm.trans h1)
          have h4 := of_decide_eq_false (hO.symm.trans h2)
          omega
        have hhigh : R = true → ¬ ((m + r : Nat) : Int) < 5 := fun h1 => by
          have h3 := of_decide_eq_true (hR.symm.trans h1)
          omega
        have HW := Aside0.mk (show ((m : Int) + (r : Int)) = ((m + r : Nat) : Int) by omega)
        have HT := Aside0.mk (show m + r ≤ 5 * (n + 1) by omega)
        have hT2 : ((m + r : Nat) : Int) ≤ 500 := by omega
        have hT0 : 0 ≤ ((m + r : Nat) : Int) := by omega
        have NE := Aside0.mk (fun (h : R = false) W => show (binOp .neq 29 (tl a' b') (tl a b)).run Try.prog W = .ok (.bool false) W by rw [(hsame h).1, (hsame h).2]; exact neq_fl W 29 (by omega) (by omega))
        have HAB := Aside0.mk hab'
        have HL := Aside0.mk hlast'
        clear hr hR hO hV ha' hb' hab' hlast' hsame
        go_upto_region 10 with fail
        rw [show wrap64 ((m : Int) + wrap64 ((IntKind.u64.wrap z.f1).tmod 6)) = ((m + r : Nat) : Int) from by rw [HR.out, HW.out]; unfold wrap64; omega]
        generalize m + r = T at *
        clear HW HR hr6
        go_upto_region 14 with (first
          | (go_at_call 10; refine (tally_at HY.out.h).mono ?_; rintro e w5 ⟨rfl, rfl⟩)
          | (go_at_call 11; refine (OV.out _ HY.out.h).mono ?_; rintro e w5 ⟨rfl, n5, rfl⟩; have HY5 := Aside0.mk (HY.out.h.drewN n5))
          | (go_at_call 12; refine (NT.out _ HY5.out).mono ?_; rintro e w6 ⟨rfl, hg, hm⟩; have HY6 := Aside0.mk hg; have HM6 := Aside0.mk (((Moved.refl wr (· = g)).drewN n5).trans hm (fun _ hk => .inl hk)); clear hg hm HY5)
          | (go_at_call 13; refine (VD.out _ HY6.out).mono ?_; rintro e w7 ⟨rfl, n7, rfl⟩; have HY7 := Aside0.mk (HY.out.on (HY6.out.drewN n7) (HM6.out.drewN n7) HAB.out HT.out HL.out); clear HY HY6 HM6; generalize w6.drewN n7 = w8 at *))
        clear OV NT VD HAB HL HT HS e0 e1 e2 e3 hm5 hab
        rcases hw with ⟨rfl, rfl, rfl, rfl⟩ | ⟨rfl, rfl, rfl, rfl⟩ | ⟨rfl, rfl, rfl, rfl⟩ | ⟨rfl, rfl, rfl, rfl⟩ | ⟨rfl, rfl, rfl, rfl⟩ | ⟨rfl, rfl, rfl, rfl⟩ | ⟨rfl, rfl, rfl, rfl⟩ | ⟨rfl, rfl, rfl, rfl⟩ | ⟨rfl, rfl, rfl, rfl⟩ | ⟨rfl, rfl, rfl, rfl⟩
        all_goals
          try have hx1 := NE.out rfl
          try have hx2 := hlow rfl rfl
          try have hx3 := hhigh rfl
          clear NE hlow hhigh
          go_wp2_with (go_at_call 10; refine (tally_at HY7.out.h).mono ?_; rintro e w9 ⟨rfl, rfl⟩)
          go_roundw
          case rel => exact ⟨n + 1, T, _, by omega, by omega, by go_num, rfl, rfl, Lib.hid ⟨_, _, HY7.out⟩⟩
          case measure => simp [intOf]; omega
      · have HB := HY.out.below
        go_wp2_with fail
        go_ret
        exact ⟨rfl, HB⟩
    · have HB := HY.out.below
      go_wp2_with fail
      go_ret
      exact ⟨rfl, HB⟩
end Go.Proofs.Ytdpdjchblajbbaa.Hand
