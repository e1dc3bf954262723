/- WindowSums, by hand. -/
import Derived.Test.YtdpdjchblajbbaaWinU
namespace Go.Proofs.Ytdpdjchblajbbaa.Hand
open Go Go.RowKit Go.Proofs.YtdpdjchblajbbaaW.PrintLast Go.Proofs.YtdpdjchblajbbaaW.PrintWords Go.Proofs.YtdpdjchblajbbaaW.PrintMore
set_option linter.unusedVariables false
set_option linter.unusedSimpArgs false
attribute [local go_sem] max2_int min2_int max_two min_two guard_tl
set_option maxRecDepth 100000 in
set_option maxHeartbeats 4000000 in
theorem windowSums_any (A0 A1 : Option Addr) (c0 c1 : Nat) (l0 l1 : List Bool) (w : World) (h0 : Kd.C Kd.bool w A0 l0.length l0) (hc0 : l0.length ≤ c0) (h1 : Kd.C Kd.bool w A1 l1.length l1) (hc1 : l1.length ≤ c1) :
    Calls Try.prog 5 #[.slice A0 l0.length c0, .slice A1 l1.length c1] w fun e w' => e = .returned (.bool true) ∧ Below w.heap.size w w' := by
  have hl0 := h0.2.1
  have hl1 := h1.2.1
  have hm0 : (if (50 : Int) < (l0.length : Int) then (50 : Int) else (l0.length : Int)) = (((l0.take 50).length : Nat) : Int) := min_len l0 50
  have hm1 : (if (50 : Int) < (l1.length : Int) then (50 : Int) else (l1.length : Int)) = (((l1.take 50).length : Nat) : Int) := min_len l1 50
  have hk0 : (l0.take 50).length ≤ l0.length := by rw [List.length_take]; omega
  have hk1 : (l1.take 50).length ≤ l1.length := by rw [List.length_take]; omega
  have hf0 : (l0.take 50).length ≤ 50 := by rw [List.length_take]; omega
  have hf1 : (l1.take 50).length ≤ 50 := by rw [List.length_take]; omega
  have g0 : Kd.C Kd.bool w A0 (l0.take 50).length (l0.take 50) := by
    by_cases h : l0.length ≤ 50
    · rw [List.take_of_length_le h]; exact h0
    · exact Kd.C_take h0 (by omega)
  have g1 : Kd.C Kd.bool w A1 (l1.take 50).length (l1.take 50) := by
    by_cases h : l1.length ≤ 50
    · rw [List.take_of_length_le h]; exact h1
    · exact Kd.C_take h1 (by omega)
  have G0 := Aside0.mk g0
  have G1 := Aside0.mk g1
  clear g0 g1 h0 h1
  generalize l0.take 50 = a at *
  generalize l1.take 50 = b at *
  have h0c : a.length ≤ c0 := by omega
  have h1c : b.length ≤ c1 := by omega
  obtain ⟨na, hna⟩ : ∃ n, a.length = n := ⟨_, rfl⟩
  obtain ⟨nb, hnb⟩ : ∃ n, b.length = n := ⟨_, rfl⟩
  rw [hna] at hm0 h0c hk0 hf0
  rw [hnb] at hm1 h1c hk1 hf1
  have HA := Aside0.mk hna
  have HB := Aside0.mk hnb
  clear hna hnb
  go_enter Try.func5, Try.ntmps5
  go_wp2_with (go_at_call 8; refine (lives_any _).mono ?_; rintro e w1 ⟨rfl, hb⟩; have HB0 := Aside0.mk hb; clear hb)
  go_quiet (fail)
  go_wp2_with fail
  have HW0 := Aside0.mk (pw_below_drewN HB0.out nq)
  generalize w1.drewN nq = W0 at *
  clear HB0
  have O0 := Lib.hid (show Ones W0 W0 (.slice none 0 0) [] from ⟨Kd.R_nil _ _ _ _ _, Below.refl _ _⟩)
  go_loopw [5, 8, 9] (fun v good i wr => ∃ n : Nat, n ≤ na ∧ i = .int .i64 (n : Int) ∧ good = .int .i64 (sG (ones (a.take n)) : Nat) ∧ Hid (Ones W0 wr v (ones (a.take n)))) (fun _ _ i _ => na - (intOf i).toNat)
  case atStart => exact ⟨0, by omega, rfl, rfl, O0⟩
  case round =>
    obtain ⟨n, hn, rfl, rfl, HC⟩ := hrel
    clear O0
    obtain ⟨A5, c5, rfl⟩ := Kd.R_slice HC.out.row
    by_cases hlt : n < na
    · have hlen : n < a.length := by rw [HA.out]; exact hlt
      obtain ⟨ad, rfl, hc⟩ := flag_at (Kd.C_below G0.out (below_step HW0.out HC.out.below)) hlen
      have FL := Aside0.mk (fun W (hb : Below w.heap.size w W) => show W.cell? (ad.add n) = some (.bool (a.getD n false)) by
        obtain ⟨ad', ea, h⟩ := flag_at (Kd.C_below G0.out hb) hlen
        injection ea with ea
        subst ea
        exact h)
      have ht := ones_take hlen
      generalize a.getD n false = g at *
      have one := fun W => one_fl g W
      obtain ⟨X, Y, hXY⟩ : ∃ X Y, tl (oneG g) (oneB g) = .complex .f64 X Y := ⟨_, _, rfl⟩
      rw [hXY] at one
      have ONE := Aside0.mk one
      obtain ⟨p, hp⟩ : ∃ p : Nat × Nat, (oneG g, oneB g) = p := ⟨_, rfl⟩
      have HXY := Aside0.mk (show tlp p = .complex .f64 X Y by rw [← hp]; exact hXY)
      have hp1 : sG (ones (a.take n) ++ [p]) = sG (ones (a.take n)) + oneG g := by rw [sG_snoc, ← hp]
      rw [hp] at ht
      have HT := Aside0.mk ht
      have HP1 := Aside0.mk hp1
      have hsm : sG (ones (a.take n)) ≤ 50 := by have h1 := ones_sum (a.take n); rw [List.length_take] at h1; omega
      clear one hXY hp ht hp1
      have HL := Aside0.mk (show (ones (a.take n)).length ≤ 50 by rw [ones_len, List.length_take]; omega)
      have hsz := HC.out.below.size
      cases g
      all_goals
        go_wp2_with (first
          | (go_at_call 15; refine (ONE.out _).mono ?_; rintro e w2 ⟨rfl, rfl⟩)
          | (at_builtin
             refine Kd.R_append kT (w0 := W0) W0.heap.size rfl (.tmp 30) (.tmp 36) 38 29 (.complex .f64 0 0) 16 rfl Try.underlying38 info29 rfl (by decide) (by omega) (.slice A5 (ones (a.take n)).length c5) (ones (a.take n)) p [.complex .f64 X Y] (fun _ => True) (fun _ => False) rfl rfl ?aP ?aK (fun _ _ => trivial) HC.out.row HC.out.below hsz ?aL ?_
             case aP => exact congrArg (fun v => [v]) HXY.out.symm
             case aK => exact fun k hk => hk.elim
             case aL => have := HL.out; omega
             intro v1 w3 hr hb hg hat
             obtain ⟨A6, c6, rfl⟩ := Kd.R_slice hr
             have HO := Lib.hid (Ones.mk hr hb)
             have hc := FL.out _ (below_step HW0.out hb)
             clear hr hb hg hat))
        go_roundw
        case rel => exact ⟨n + 1, by omega, by go_num, by rw [HT.out, HP1.out]; rfl, by have h := HO.out; rw [List.length_append, List.length_singleton] at h; rw [HT.out]; exact Lib.hid h⟩
        case measure => simp [intOf]; omega
    · obtain rfl : n = na := by omega
      have HL := Aside0.mk (show a.take n = a by rw [← HA.out, List.take_length])
      rw [HL.out] at HC
      rw [HL.out]
      clear hm0 hm1 hl0 hl1
      have hsa := ones_sum a
      rw [HA.out] at hsa
      obtain ⟨hx1, hx2, hx3⟩ := Kd.R_reads' HC.out.row
      have HX := Aside0.mk hx3
      have HW1 := Aside0.mk (below_step HW0.out HC.out.below)
      clear HC hx1 hx3
      go_wp2_with fail
      have O1 := Lib.hid (show Ones wr wr (.slice none 0 0) [] from ⟨Kd.R_nil _ _ _ _ _, Below.refl _ _⟩)
      generalize wr = W1 at *
      go_loopw [6, 8, 10] (fun v good i wr => ∃ m : Nat, m ≤ nb ∧ i = .int .i64 (m : Int) ∧ good = .int .i64 ((sG (ones a) + sG (ones (b.take m)) : Nat) : Int) ∧ Hid (Ones W1 wr v (ones (b.take m)))) (fun _ _ i _ => nb - (intOf i).toNat)
      case atStart => exact ⟨0, by omega, rfl, rfl, O1⟩
      case round =>
        obtain ⟨m, hm, rfl, rfl, HC⟩ := hrel
        clear O1
        obtain ⟨A6, c6, rfl⟩ := Kd.R_slice HC.out.row
        by_cases hlt2 : m < nb
        · have hlen : m < b.length := by rw [HB.out]; exact hlt2
          obtain ⟨ad, rfl, hc⟩ := flag_at (Kd.C_below G1.out (below_step HW1.out HC.out.below)) hlen
          have FL := Aside0.mk (fun W (hb : Below w.heap.size w W) => show W.cell? (ad.add m) = some (.bool (b.getD m false)) by
            obtain ⟨ad', ea, h⟩ := flag_at (Kd.C_below G1.out hb) hlen
            injection ea with ea
            subst ea
            exact h)
          have ht := ones_take hlen
          generalize b.getD m false = g at *
          have one := fun W => one_fl g W
          obtain ⟨X, Y, hXY⟩ : ∃ X Y, tl (oneG g) (oneB g) = .complex .f64 X Y := ⟨_, _, rfl⟩
          rw [hXY] at one
          have ONE := Aside0.mk one
          obtain ⟨p, hp⟩ : ∃ p : Nat × Nat, (oneG g, oneB g) = p := ⟨_, rfl⟩
          have HXY := Aside0.mk (show tlp p = .complex .f64 X Y by rw [← hp]; exact hXY)
          have hp1 : sG (ones (b.take m) ++ [p]) = sG (ones (b.take m)) + oneG g := by rw [sG_snoc, ← hp]
          rw [hp] at ht
          have HT := Aside0.mk ht
          have HP1 := Aside0.mk hp1
          have hsm : sG (ones (b.take m)) ≤ 50 := by have h1 := ones_sum (b.take m); rw [List.length_take] at h1; omega
          clear one hXY hp ht hp1
          have HL := Aside0.mk (show (ones (b.take m)).length ≤ 50 by rw [ones_len, List.length_take]; omega)
          have hsz := HC.out.below.size
          generalize hsA : sG (ones a) = sa at *
          generalize hsB : sG (ones (b.take m)) = sb at *
          have HSB := Aside0.mk hsB
          clear hsB
          cases g
          all_goals
            go_wp2_with (first
              | (go_at_call 15; refine (ONE.out _).mono ?_; rintro e w2 ⟨rfl, rfl⟩)
              | (at_builtin
                 refine Kd.R_append kT (w0 := W1) W1.heap.size rfl (.tmp 50) (.tmp 56) 38 29 (.complex .f64 0 0) 16 rfl Try.underlying38 info29 rfl (by decide) (by omega) (.slice A6 (ones (b.take m)).length c6) (ones (b.take m)) p [.complex .f64 X Y] (fun _ => True) (fun _ => False) rfl rfl ?aP ?aK (fun _ _ => trivial) HC.out.row HC.out.below hsz ?aL ?_
                 case aP => exact congrArg (fun v => [v]) HXY.out.symm
                 case aK => exact fun k hk => hk.elim
                 case aL => have := HL.out; omega
                 intro v1 w3 hr hb hg hat
                 obtain ⟨A7, c7, rfl⟩ := Kd.R_slice hr
                 have HO := Lib.hid (Ones.mk hr hb)
                 have hc := FL.out _ (below_step HW1.out hb)
                 clear hr hb hg hat))
            go_roundw
            case rel => exact ⟨m + 1, by omega, by go_num, by rw [HT.out, HP1.out]; first | rfl | (rw [Nat.add_assoc]; rfl) | go_num, by have h := HO.out; rw [List.length_append, List.length_singleton] at h; rw [HT.out]; exact Lib.hid h⟩
            case measure => simp [intOf]; omega
        · obtain rfl : m = nb := by omega
          have HL2 := Aside0.mk (show b.take m = b by rw [← HB.out, List.take_length])
          rw [HL2.out] at HC
          rw [HL2.out]
          have hsb := ones_sum b
          rw [HB.out] at hsb
          obtain ⟨P, hP⟩ : ∃ P, sG (ones a) + sG (ones b) = P := ⟨_, rfl⟩
          obtain ⟨Q, hQ⟩ : ∃ Q, sB (ones a) + sB (ones b) = Q := ⟨_, rfl⟩
          rw [hP]
          have hP50 : P + Q = n + m := by omega
          have hQ1 : ((Q : Int) == (n : Int) + (m : Int) - (P : Int)) = true := by simp only [beq_iff_eq]; omega
          have hPn : P ≤ n + m := by omega
          obtain ⟨hy1, hy2, hy3⟩ := Kd.R_reads' HC.out.row
          have HY := Aside0.mk hy3
          have HX2 := Aside0.mk (Kd.C_below HX.out HC.out.below)
          have HW2 := Aside0.mk (below_step HW1.out HC.out.below)
          clear HC hy1 hy3 HX HW1
          obtain ⟨both, hbo⟩ : ∃ both, ones b ++ ones a = both := ⟨_, rfl⟩
          have HBO := Aside0.mk hbo
          have hbl : both.length ≤ 100 := by rw [← hbo, List.length_append, ones_len, ones_len, HA.out, HB.out]; omega
          have had : Adds both := by rw [← hbo, ← ones_append]; exact adds_ones _ (by rw [List.length_append, HA.out, HB.out]; omega)
          have hsz1 : sG both = P := by rw [← hbo, sG_append]; omega
          have hsz2 : sB both = Q := by rw [← hbo, sB_append]; omega
          have ZSUM := Aside0.mk (fun W A c (h : Kd.C kT W A both.length both) => show Calls Try.prog 16 #[.slice A both.length c] W fun e w' => e = .returned (tl P Q) ∧ W = w' by
            have h1 := sum_any A c both W h (by omega) had
            rw [hsz1, hsz2] at h1
            exact h1)
          have hla : (ones a).length = n := by rw [ones_len, HA.out]
          have hlb : (ones b).length = m := by rw [ones_len, HB.out]
          have hada : Adds (ones a) := adds_ones _ (by rw [HA.out]; omega)
          have hadb : Adds (ones b) := adds_ones _ (by rw [HB.out]; omega)
          have hra := hsa
          have hrb := hsb
          obtain ⟨X1, Y1, e1⟩ : ∃ X Y, tl (sG (ones a)) (sB (ones a)) = .complex .f64 X Y := ⟨_, _, rfl⟩
          obtain ⟨X2, Y2, e2⟩ : ∃ X Y, tl (sG (ones b)) (sB (ones b)) = .complex .f64 X Y := ⟨_, _, rfl⟩
          have XSUM := Aside0.mk (fun W A c (h : Kd.C kT W A (ones a).length (ones a)) => show Calls Try.prog 16 #[.slice A (ones a).length c] W fun e w' => e = .returned (.complex .f64 X1 Y1) ∧ W = w' by
            rw [← e1]
            exact sum_any A c (ones a) W h (by omega) hada)
          have YSUM := Aside0.mk (fun W A c (h : Kd.C kT W A (ones b).length (ones b)) => show Calls Try.prog 16 #[.slice A (ones b).length c] W fun e w' => e = .returned (.complex .f64 X2 Y2) ∧ W = w' by
            rw [← e2]
            exact sum_any A c (ones b) W h (by omega) hadb)
          have TSUM := Aside0.mk (fun W : World => show Calls Try.prog 16 #[.slice (some ⟨W.heap.size, 0, none⟩) 2 2] (W.alloc (.cells #[.complex .f64 X1 Y1, .complex .f64 X2 Y2] 29)) fun e w' => e = .returned (tl P Q) ∧ W.alloc (.cells #[.complex .f64 X1 Y1, .complex .f64 X2 Y2] 29) = w' by
            have h1 := sum_any (some ⟨W.heap.size, 0, none⟩) 2 [(sG (ones a), sB (ones a)), (sG (ones b), sB (ones b))] _ (two_C W _ _ e1 e2) (by simp) (adds_two _ _ _ _ (by omega) (by omega) (by omega) (by omega))
            have f1 : sG [(sG (ones a), sB (ones a)), (sG (ones b), sB (ones b))] = P := by rw [← hP]; simp [sG]
            have f2 : sB [(sG (ones a), sB (ones a)), (sG (ones b), sB (ones b))] = Q := by rw [← hQ]; simp [sB]
            rw [f1, f2] at h1
            exact h1)
          have hq1 := fun W => eql_fl W 29 (a := P) (b := Q) (by omega) (by omega)
          clear hsa hsb hP hQ hbo had hsz1 hsz2 hra hrb e1 e2 hada hadb
          have HLA := Aside0.mk hla
          have HLB := Aside0.mk hlb
          clear hla hlb
          generalize hda : (ones a).length = da at *
          generalize hdb : (ones b).length = db at *
          have HDA := Aside0.mk hda
          have HDB := Aside0.mk hdb
          clear hda hdb
          have GG := Aside0.mk (fun W => good_fl P Q W (by omega) (by omega))
          have GB := Aside0.mk (fun W => bad_fl P Q W (by omega) (by omega))
          generalize wr = W2 at *
          have h50 : m + n ≤ 100 := by omega
          go_wp2_with (first
            | (at_builtin
               refine Kd.R_append_row tlp ((0, 0) : Nat × Nat) (h1 := fun _ => rfl) (w0 := W2) W2.heap.size rfl (.tmp 64) (.tmp 65) 38 29 (.complex .f64 0 0) 16 rfl Try.underlying38 info29 rfl (by omega) (.slice none 0 0) [] (ones b) A6 db c6 (fun _ => True) rfl rfl (fun _ _ => trivial) (Kd.R_nil _ _ _ _ _) HY.out (Below.refl _ _) (Nat.le_refl _) ?aL ?_
               case aL => have := HLB.out; simp only [List.length_nil]; omega
               intro v1 w3 hr hb hg hat
               rw [List.nil_append] at hr
               obtain ⟨A8, c8, rfl⟩ := Kd.R_slice hr
               rw [HDB.out] at hr
               have HR := Lib.hid hr
               have HB3 := Aside0.mk hb
               have hs3 := hb.size
               rw [HDB.out]
               clear hr hb hg hat)
            | (at_builtin
               refine Kd.R_append_row tlp ((0, 0) : Nat × Nat) (h1 := fun _ => rfl) (w0 := W2) W2.heap.size rfl (.tmp 67) (.tmp 68) 38 29 (.complex .f64 0 0) 16 rfl Try.underlying38 info29 rfl (by omega) (.slice A8 db c8) (ones b) (ones a) A5 da c5 (fun _ => True) rfl rfl (fun _ _ => trivial) HR.out (Kd.C_below HX2.out HB3.out) HB3.out hs3 ?aL ?_
               case aL => have := HLB.out; have := HLA.out; have := HDB.out; omega
               intro v1 w4 hr hb hg hat
               rw [HBO.out] at hr
               obtain ⟨A9, c9, rfl⟩ := Kd.R_slice hr
               have HZ := Aside0.mk (show Kd.C kT w4 A9 both.length both from (Kd.R_reads' hr).2.2)
               have HB4 := Aside0.mk hb
               clear hr hb hg hat HR HB3 hs3)
            | (go_at_call 16; (with_reducible refine (ZSUM.out _ _ _ HZ.out).mono ?_); rintro e w5 ⟨rfl, rfl⟩; clear HZ ZSUM)
            | (go_at_call 17; (with_reducible refine (GG.out _).mono ?_); rintro e w5 ⟨rfl, rfl⟩)
            | (go_at_call 18; (with_reducible refine (GB.out _).mono ?_); rintro e w5 ⟨rfl, rfl⟩)
            | (go_at_call 16; (with_reducible refine (XSUM.out _ _ _ (Kd.C_below HX2.out HB4.out)).mono ?_); rintro e w5 ⟨rfl, rfl⟩; clear XSUM)
            | (go_at_call 16; (with_reducible refine (YSUM.out _ _ _ (Kd.C_below HY.out HB4.out)).mono ?_); rintro e w5 ⟨rfl, rfl⟩; clear YSUM)
            | (go_at_call 16; (with_reducible refine (TSUM.out _).mono ?_); rintro e w5 ⟨rfl, rfl⟩; clear TSUM))
          go_ret
          exact ⟨rfl, below_alloc (below_step HW2.out HB4.out) _⟩
end Go.Proofs.Ytdpdjchblajbbaa.Hand
