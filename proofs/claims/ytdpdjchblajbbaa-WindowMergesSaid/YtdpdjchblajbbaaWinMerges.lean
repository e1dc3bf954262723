/- WindowMerges, by hand. -/
import Derived.Test.YtdpdjchblajbbaaWinS
namespace Go.Proofs.Ytdpdjchblajbbaa.Hand
open Go Go.RowKit Go.Proofs.YtdpdjchblajbbaaW.PrintLast Go.Proofs.YtdpdjchblajbbaaW.PrintWords Go.Proofs.YtdpdjchblajbbaaW.PrintMore
set_option linter.unusedVariables false
set_option linter.unusedSimpArgs false
attribute [local go_sem] max2_int min2_int max_two min_two guard_tl
theorem t_add2 : ∀ a, a < 51 → ∀ b, b < 51 → FloatKind.f64.format.add (fl a) (fl b) = some (fl (a + b)) := by decide +kernel
/-- The three windows. -/
structure Three (w wr : World) (g1 g2 g3 : Nat) (a b c d e f : Nat) : Prop where
  h1 : WinAt wr g1 3 20 a b
  h2 : WinAt wr g2 3 20 c d
  h3 : WinAt wr g3 3 20 e f
  n12 : g1 ≠ g2
  n13 : g1 ≠ g3
  n23 : g2 ≠ g3
  b1 : w.heap.size ≤ g1
  b2 : w.heap.size ≤ g2
  b3 : w.heap.size ≤ g3
  below : Below w.heap.size w wr
namespace Three
variable {w wr w1 : World} {g1 g2 g3 a b c d e f x y : Nat}
theorem on1 (h : Three w wr g1 g2 g3 a b c d e f) (k : WinAt w1 g1 3 20 x y) (hm : Moved wr w1 (· = g1)) : Three w w1 g1 g2 g3 x y c d e f :=
  ⟨k, h.h2.moved hm (fun hk => h.n12 hk.symm), h.h3.moved hm (fun hk => h.n13 hk.symm), h.n12, h.n13, h.n23, h.b1, h.b2, h.b3, Moved.from_below h.below hm (fun k hk => by have := h.b1; omega) h.below.size⟩
theorem on2 (h : Three w wr g1 g2 g3 a b c d e f) (k : WinAt w1 g2 3 20 x y) (hm : Moved wr w1 (· = g2)) : Three w w1 g1 g2 g3 a b x y e f :=
  ⟨h.h1.moved hm h.n12, k, h.h3.moved hm (fun hk => h.n23 hk.symm), h.n12, h.n13, h.n23, h.b1, h.b2, h.b3, Moved.from_below h.below hm (fun k hk => by have := h.b2; omega) h.below.size⟩
theorem on3 (h : Three w wr g1 g2 g3 a b c d e f) (k : WinAt w1 g3 3 20 x y) (hm : Moved wr w1 (· = g3)) : Three w w1 g1 g2 g3 a b c d x y :=
  ⟨h.h1.moved hm h.n13, h.h2.moved hm h.n23, k, h.n12, h.n13, h.n23, h.b1, h.b2, h.b3, Moved.from_below h.below hm (fun k hk => by have := h.b3; omega) h.below.size⟩
theorem next (h : Three w wr g1 g2 g3 a b c d e f) (hb : Below wr.heap.size wr w1) : Three w w1 g1 g2 g3 a b c d e f :=
  ⟨h.h1.below hb, h.h2.below hb, h.h3.below hb, h.n12, h.n13, h.n23, h.b1, h.b2, h.b3, below_step h.below hb⟩
end Three
set_option maxRecDepth 100000 in
set_option maxHeartbeats 4000000 in
theorem windowMerges_any (A0 A1 : Option Addr) (c0 c1 : Nat) (l0 l1 : List S28) (w : World) (h0 : Kd.C k28 w A0 l0.length l0) (hc0 : l0.length ≤ c0) (h1 : Kd.C k28 w A1 l1.length l1) (hc1 : l1.length ≤ c1) :
    Calls Try.prog 4 #[.slice A0 l0.length c0, .slice A1 l1.length c1] w fun e w' => e = .returned (.bool true) ∧ Below w.heap.size w w' := by
  have H0 := Aside0.mk h0
  have H1 := Aside0.mk h1
  have hl0 := h0.2.1
  have hl1 := h1.2.1
  clear h0 h1
  have NEW := Aside0.mk (fun W => show Calls Try.prog 9 #[.int .i64 3, .int .i64 20] W fun e w' => e = .returned (.pointer (some ⟨W.heap.size, 0, none⟩)) ∧ WinAt w' W.heap.size 3 20 0 0 ∧ Below W.heap.size W w' from new_any 3 20 W)
  have N21 := Aside0.mk (fun W => show Calls Try.prog 9 #[.int .i64 3, .int .i64 21] W fun e w' => e = .returned (.pointer (some ⟨W.heap.size, 0, none⟩)) ∧ WinAt w' W.heap.size 3 21 0 0 ∧ Below W.heap.size W w' from new_any 3 21 W)
  have N4 := Aside0.mk (fun W => show Calls Try.prog 9 #[.int .i64 4, .int .i64 20] W fun e w' => e = .returned (.pointer (some ⟨W.heap.size, 0, none⟩)) ∧ WinAt w' W.heap.size 4 20 0 0 ∧ Below W.heap.size W w' from new_any 4 20 W)
  have M21 := Aside0.mk (fun W g g' a b c d (h : WinAt W g 3 20 a b) (h' : WinAt W g' 3 21 c d) => merge_not h h' (.inr (by omega)))
  have M4 := Aside0.mk (fun W g g' a b c d (h : WinAt W g 3 20 a b) (h' : WinAt W g' 4 20 c d) => merge_not h h' (.inl (by omega)))
  go_enter Try.func4, Try.ntmps4
  go_upto_block 0 with (first
    | (go_at_call 8; refine (lives_any _).mono ?_; rintro e w1 ⟨rfl, hb⟩; have HB := Aside0.mk hb; clear hb)
    | (go_at_call 9; refine (NEW.out _).mono ?_; rintro e w2 ⟨rfl, hg, hb⟩; have G1 := Aside0.mk hg; have HB1 := Aside0.mk (below_step HB.out hb); have L1 := Aside0.mk (below_size HB.out); clear hg hb HB)
    | (go_at_call 9; refine (NEW.out _).mono ?_; rintro e w3 ⟨rfl, hg, hb⟩; have G2 := Aside0.mk hg; have G1' := Aside0.mk (G1.out.below hb); have HB2 := Aside0.mk (below_step HB1.out hb); have L2 := Aside0.mk G1.out.lt; clear hg hb HB1 G1)
    | (go_at_call 9; refine (NEW.out _).mono ?_; rintro e w4 ⟨rfl, hg, hb⟩; have HX := Aside0.mk (show Three w w4 w1.heap.size w2.heap.size w3.heap.size 0 0 0 0 0 0 from ⟨G1'.out.below hb, G2.out.below hb, hg, Nat.ne_of_lt L2.out, Nat.ne_of_lt G1'.out.lt, Nat.ne_of_lt G2.out.lt, L1.out, Nat.le_trans L1.out (Nat.le_of_lt L2.out), below_size HB2.out, below_step HB2.out hb⟩); clear hg hb HB2 G1' G2 L1 L2 NEW))
  generalize w1.heap.size = g1 at *
  generalize w2.heap.size = g2 at *
  generalize w3.heap.size = g3 at *
  go_cut [8] from 16 to 49 (fun s8 wx => Hid (∃ a b, a + b ≤ 40 ∧ Three w wx g1 g2 g3 a b 0 0 a b))
  case first =>
    go_wp2_with fail
    go_loopw [8] (fun i wr => ∃ n : Nat, n ≤ l0.length ∧ n ≤ 40 ∧ i = .int .i64 (n : Int) ∧ Hid (∃ a b, a + b ≤ n ∧ Three w wr g1 g2 g3 a b 0 0 a b)) (fun i _ => l0.length - (intOf i).toNat)
    case atStart => exact ⟨0, by omega, by omega, rfl, Lib.hid ⟨0, 0, by omega, HX.out⟩⟩
    case round =>
      obtain ⟨n, hn, hn2, rfl, HC⟩ := hrel
      clear HX
      obtain ⟨a, b, hab, hx⟩ := HC.out
      have HY := Aside0.mk hx
      clear hx
      by_cases hlt : n < l0.length
      · by_cases h40 : n < 40
        · obtain ⟨ad, rfl, e0, e1, e2, e3⟩ := at_step (Kd.C_below H0.out HY.out.below) hlt
          have HS := Aside0.mk (fun W (hb : Below w.heap.size w W) => at_step (Kd.C_below H0.out hb) hlt)
          have HYd := Aside0.mk (HY.out.next (below_drew (Below.refl _ _)))
          go_wp2_with fail
          go_still_tail 11, (by kernel_rfl)
          change wpList _ _ _ _ _ wr.drew
          clear e0 e1 e2 e3 HY
          go_wp2_with (go_at_call 12; refine (note_any HYd.out.h1 (by omega) (by omega) (rd28 l0 n).f1 (rd28 l0 n).f3).mono ?_; rintro e w5 ⟨rfl, hg, hm⟩; have HY5 := Aside0.mk (HYd.out.on1 hg hm); clear hg hm HYd; obtain ⟨ad', ea, e0, e1, e2, e3⟩ := HS.out w5 HY5.out.below; injection ea with ea; subst ea)
          have HY6 := Aside0.mk (HY5.out.next (below_drew (Below.refl _ _)))
          go_still_tail 11, (by kernel_rfl)
          change wpList _ _ _ _ _ w5.drew
          clear e0 e1 e2 e3 HY5
          go_wp2_with (go_at_call 12; refine (note_any HY6.out.h3 (by omega) (by omega) (rd28 l0 n).f1 (rd28 l0 n).f3).mono ?_; rintro e w7 ⟨rfl, hg, hm⟩; have HY7 := Aside0.mk (HY6.out.on3 hg hm); clear hg hm HY6)
          have hinc := inc_le 3 20 (rd28 l0 n).f1 (rd28 l0 n).f3
          go_roundw
          case rel => exact ⟨n + 1, by omega, by omega, by go_num, Lib.hid ⟨_, _, by omega, HY7.out⟩⟩
          case measure => simp [intOf]; omega
        · go_wp2_with fail
          go_meet
          exact Lib.hid ⟨a, b, by omega, HY.out⟩
      · go_wp2_with fail
        go_meet
        exact Lib.hid ⟨a, b, by omega, HY.out⟩
  case rest =>
    clear HX
    obtain ⟨a, b, hab, hx⟩ := hcut.out
    have HX := Aside0.mk hx
    clear hx hcut
    go_upto_block 2 with fail
    go_cut [9] from 50 to 83 (fun s9 wx => Hid (∃ c d, c + d ≤ 40 ∧ Three w wx g1 g2 g3 a b c d (a + c) (b + d)))
    case first =>
      go_wp2_with fail
      go_loopw [9] (fun i wr => ∃ n : Nat, n ≤ l1.length ∧ n ≤ 40 ∧ i = .int .i64 (n : Int) ∧ Hid (∃ c d, c + d ≤ n ∧ Three w wr g1 g2 g3 a b c d (a + c) (b + d))) (fun i _ => l1.length - (intOf i).toNat)
      case atStart => exact ⟨0, by omega, by omega, rfl, Lib.hid ⟨0, 0, by omega, HX.out⟩⟩
      case round =>
        obtain ⟨n, hn, hn2, rfl, HC⟩ := hrel
        clear HX
        obtain ⟨c, d, hcd, hx⟩ := HC.out
        have HY := Aside0.mk hx
        clear hx
        by_cases hlt : n < l1.length
        · by_cases h40 : n < 40
          · obtain ⟨ad, rfl, e0, e1, e2, e3⟩ := at_step (Kd.C_below H1.out HY.out.below) hlt
            have HS := Aside0.mk (fun W (hb : Below w.heap.size w W) => at_step (Kd.C_below H1.out hb) hlt)
            have HYd := Aside0.mk (HY.out.next (below_drew (Below.refl _ _)))
            go_wp2_with fail
            go_still_tail 11, (by kernel_rfl)
            change wpList _ _ _ _ _ wr.drew
            clear e0 e1 e2 e3 HY
            go_wp2_with (go_at_call 12; refine (note_any HYd.out.h2 (by omega) (by omega) (rd28 l1 n).f1 (rd28 l1 n).f3).mono ?_; rintro e w5 ⟨rfl, hg, hm⟩; have HY5 := Aside0.mk (HYd.out.on2 hg hm); clear hg hm HYd; obtain ⟨ad', ea, e0, e1, e2, e3⟩ := HS.out w5 HY5.out.below; injection ea with ea; subst ea)
            have HY6 := Aside0.mk (HY5.out.next (below_drew (Below.refl _ _)))
            go_still_tail 11, (by kernel_rfl)
            change wpList _ _ _ _ _ w5.drew
            clear e0 e1 e2 e3 HY5
            go_wp2_with (go_at_call 12; refine (note_any HY6.out.h3 (by omega) (by omega) (rd28 l1 n).f1 (rd28 l1 n).f3).mono ?_; rintro e w7 ⟨rfl, hg, hm⟩; have HY7 := Aside0.mk (HY6.out.on3 hg hm); clear hg hm HY6)
            have hinc := inc_le 3 20 (rd28 l1 n).f1 (rd28 l1 n).f3
            rw [Nat.add_assoc, Nat.add_assoc] at HY7
            go_roundw
            case rel => exact ⟨n + 1, by omega, by omega, by go_num, Lib.hid ⟨_, _, by omega, HY7.out⟩⟩
            case measure => simp [intOf]; omega
          · go_wp2_with fail
            go_meet
            exact Lib.hid ⟨c, d, by omega, HY.out⟩
        · go_wp2_with fail
          go_meet
          exact Lib.hid ⟨c, d, by omega, HY.out⟩
    case rest =>
      clear HX
      obtain ⟨c, d, hcd, hx⟩ := hcut.out
      have HX := Aside0.mk hx
      have MRG := Aside0.mk (merge_at hx.h1 hx.h2 (t_add2 a (by omega) c (by omega)) (t_add2 b (by omega) d (by omega)) (by omega) (by omega))
      have hq1 := fun W => eql_fl W 29 (a := a + c) (b := b + d) (by omega) (by omega)
      have hq2 := fun W => eql_fl W 29 (a := c) (b := d) (by omega) (by omega)
      generalize a + c = p at *
      generalize b + d = q at *
      clear hx hcut
      go_wp2_with (first
        | (go_at_call 10; refine (tally_at HX.out.h2).mono ?_; rintro e w5 ⟨rfl, rfl⟩)
        | (go_at_call 14; refine MRG.out.mono ?_; rintro e w6 ⟨rfl, hg, hm⟩; have HX6 := Aside0.mk (HX.out.on1 hg hm); clear hg hm HX MRG)
        | (go_at_call 10; refine (tally_at HX6.out.h1).mono ?_; rintro e w7 ⟨rfl, rfl⟩)
        | (go_at_call 10; refine (tally_at HX6.out.h3).mono ?_; rintro e w7 ⟨rfl, rfl⟩)
        | (go_at_call 10; refine (tally_at HX6.out.h2).mono ?_; rintro e w7 ⟨rfl, rfl⟩)
        | (go_at_call 9; refine (N21.out _).mono ?_; rintro e w8 ⟨rfl, hg, hb⟩; have HX8 := Aside0.mk (HX6.out.next hb); have G8 := Aside0.mk hg; clear hg hb HX6 N21)
        | (go_at_call 14; refine (M21.out _ _ _ _ _ _ _ HX8.out.h1 G8.out).mono ?_; rintro e w9 ⟨rfl, n9, hw⟩; have HX9 := Aside0.mk (HX8.out.next (hw ▸ pw_below_drewN (Below.refl _ _) n9 : Below _ _ w9)); clear hw HX8 G8 M21)
        | (go_at_call 9; refine (N4.out _).mono ?_; rintro e w10 ⟨rfl, hg, hb⟩; have HX10 := Aside0.mk (HX9.out.next hb); have G10 := Aside0.mk hg; clear hg hb HX9 N4)
        | (go_at_call 14; refine (M4.out _ _ _ _ _ _ _ HX10.out.h1 G10.out).mono ?_; rintro e w11 ⟨rfl, n11, hw⟩; have HX11 := Aside0.mk (HX10.out.next (hw ▸ pw_below_drewN (Below.refl _ _) n11 : Below _ _ w11)); clear hw HX10 G10 M4)
        | (go_at_call 14; refine merge_none.mono ?_; rintro e w12 ⟨rfl, n12, hw⟩; have HX12 := Aside0.mk (HX11.out.next (hw ▸ pw_below_drewN (Below.refl _ _) n12 : Below _ _ w12)); clear hw HX11))
      go_ret
      exact ⟨rfl, HX12.out.below⟩
end Go.Proofs.Ytdpdjchblajbbaa.Hand
