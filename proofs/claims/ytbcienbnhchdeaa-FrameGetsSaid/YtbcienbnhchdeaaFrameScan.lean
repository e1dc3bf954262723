/- All frames of any bytes: the second reading, by hand; the law's contract. -/
import Derived.Test.YtbcienbnhchdeaaFrameG
namespace Go.Proofs.Ytbcienbnhchdeaa.Hand
open Go Go.RowKit Go.Proofs.YtbcienbnhchdeaaW.PrintLast Go.Proofs.YtbcienbnhchdeaaW.PrintWords Go.Proofs.YtbcienbnhchdeaaW.PrintMore Print FrameC FrameL FrameS FrameR
set_option linter.unusedVariables false
set_option linter.unusedSimpArgs false
attribute [local go_sem] max2_int min2_int max_two min_two

theorem getF_ok {b p : List Int} {m : Int} (h : getF b = (p, m, 0)) : ∃ q : Nat, m = (q : Int) ∧ 7 ≤ q ∧ q ≤ b.length := by
  unfold getF at h
  by_cases h1 : b.length < 2
  · rw [if_pos h1] at h
    simp at h
  · rw [if_neg h1] at h
    by_cases h2 : 1 ≤ lenOf b ∧ lenOf b ≤ 1000 ∧ lenOf b + 6 ≤ b.length
    · rw [if_pos h2] at h
      by_cases h3 : GoodP (b.take (lenOf b + 6))
      · rw [if_pos h3] at h
        injection h with _ h4
        injection h4 with h5 _
        exact ⟨lenOf b + 6, h5.symm, by omega, h2.2.2⟩
      · rw [if_neg h3] at h
        simp at h
    · rw [if_neg h2] at h
      simp at h
/-- The rows in the second reading's loop. -/
structure ScanRel (w wr : World) (v : Value) (acc : List (List Int)) : Prop where
  row : Kd.N (Kd.slice 5 (Kd.int .u8)) 22 wr w.heap.size (fun _ => True) v acc
  below : Below w.heap.size w wr
/-- What is left to scan. -/
def Left (b : List Int) (acc : List (List Int)) (n : Nat) (r1 : List (List Int)) (r2 r3 : Int) : Prop := acc.length ≤ n ∧ ∃ k, frame_Scan.l0 k b acc (n : Int) = some (r1, r2, r3)
theorem Left.end_ {b : List Int} {acc : List (List Int)} {r1 : List (List Int)} {r2 r3 : Int} (h : Left b acc b.length r1 r2 r3) : r1 = acc ∧ r2 = (b.length : Int) ∧ r3 = 0 := by
  obtain ⟨_, k, h⟩ := h
  cases k with
  | zero => simp [frame_Scan.l0] at h
  | succ k =>
    rw [scan_end] at h
    simp only [Option.some.injEq, Prod.mk.injEq] at h
    exact ⟨h.1.symm, h.2.1.symm, h.2.2.symm⟩
theorem Left.step {b p : List Int} {acc : List (List Int)} {n q : Nat} {r1 : List (List Int)} {r2 r3 : Int} (h : Left b acc n r1 r2 r3) (ok : okB b = true) (hl : b.length ≤ 2000) (hn : n < b.length) (hg : getF (b.drop n) = (p, (q : Int), 0)) (hq : 1 ≤ q ∧ n + q ≤ b.length) : Left b (acc ++ [p]) (n + q) r1 r2 r3 := by
  obtain ⟨ha, k, h⟩ := h
  refine ⟨by rw [List.length_append, List.length_singleton]; omega, ?_⟩
  cases k with
  | zero => simp [frame_Scan.l0] at h
  | succ k =>
    have hw : wrap64 ((n : Int) + (q : Int)) = ((n + q : Nat) : Int) := by unfold wrap64; omega
    have c1 : ¬ (n : Int) = (b.length : Int) := by omega
    have c2 : (0 : Int) ≤ (n : Int) ∧ (n : Int) ≤ (b.length : Int) := ⟨by omega, by omega⟩
    have c3 : acc.length < 5864062014805 := by omega
    rw [frame_Scan.l0, if_neg c1, if_pos c2, Int.toNat_natCast, get_eq (okB_drop ok n) (by rw [List.length_drop]; omega) 0, hg, bind_s, if_pos rfl, if_pos c3, hw] at h
    exact ⟨k, h⟩
theorem Left.stop {b p : List Int} {acc : List (List Int)} {n : Nat} {m x : Int} {r1 : List (List Int)} {r2 r3 : Int} (h : Left b acc n r1 r2 r3) (ok : okB b = true) (hl : b.length ≤ 2000) (hn : n < b.length) (hg : getF (b.drop n) = (p, m, x)) (hx : x ≠ 0) : r1 = acc ∧ r2 = (n : Int) ∧ r3 = x := by
  obtain ⟨_, k, h⟩ := h
  cases k with
  | zero => simp [frame_Scan.l0] at h
  | succ k =>
    rw [scan_stop ok (by omega) hn hg hx] at h
    simp only [Option.some.injEq, Prod.mk.injEq] at h
    exact ⟨h.1.symm, h.2.1.symm, h.2.2.symm⟩
/-- 'b[n:]'. -/
theorem tail_cut (A : Option Addr) (c : Nat) (l : List Int) (n : Nat) (hn : n ≤ l.length) (hc : l.length ≤ c) : ∃ A1 : Option Addr, (∀ W : World, (Instr.slice 22 (.slice A l.length c) (some (.int .i64 (n : Int))) none none).run Try.prog W = .ok (.slice A1 (l.drop n).length (c - n)) W) ∧
    (∀ W, Kd.C (Kd.int .u8) W A l.length l → Kd.C (Kd.int .u8) W A1 (l.drop n).length (l.drop n)) ∧ (l.drop n).length ≤ c - n := by
  obtain ⟨i0, hi0, _, hsz, _⟩ := info_parts info5
  obtain ⟨A1, h1, h2, h3⟩ := print_drop_of (P := Try.prog) (Value.int .u8) (0 : Int) 22 5 .i64 Try.underlying22 hi0 hsz A c l (n : Int) (by omega) (by omega) hc
  rw [Int.toNat_natCast] at h1 h2 h3
  exact ⟨A1, h1, fun W h => Kd.C_of_reads (enc := Value.int .u8) (d := (0 : Int)) (h1 := fun _ => rfl) (h2 W (Kd.reads_of_C (enc := Value.int .u8) (d := (0 : Int)) (h1 := fun _ => rfl) h)), h3⟩
set_option maxRecDepth 100000 in
set_option maxHeartbeats 4000000 in
theorem refScan_any (A : Option Addr) (c : Nat) (b : List Int) (r1 : List (List Int)) (r2 r3 : Int) (w : World) (h : Kd.C (Kd.int .u8) w A b.length b) (hc : b.length ≤ c) (ok : okB b = true) (hl : b.length ≤ 2000) (hf : frame_Scan.f b = some (r1, r2, r3)) :
    Calls Try.prog 71 #[.slice A b.length c] w fun e w' => ∃ (A' : Option Addr) (c' : Nat), e = .returned (.tuple #[.slice A' r1.length c', .int .i64 r2, .int .i64 r3]) ∧ r1.length ≤ c' ∧ Kd.C (Kd.slice 5 (Kd.int .u8)) w' A' r1.length r1 ∧ Below w.heap.size w w' := by
  have H := Aside0.mk h
  have OK := Aside0.mk ok
  have HL0 := Lib.hid (show ScanRel w w (.slice none 0 0) [] ∧ Left b [] 0 r1 r2 r3 from ⟨⟨Kd.N_nil _ _ _ _ _, Below.refl _ _⟩, by simp, _, hf⟩)
  clear h ok hf
  go_enter Try.func71, Try.ntmps71
  go_wp2
  go_loopw [5, 6] (fun v i wr => ∃ n : Nat, n ≤ b.length ∧ i = .int .i64 (n : Int) ∧ Hid (∃ acc, ScanRel w wr v acc ∧ Left b acc n r1 r2 r3)) (fun _ i _ => b.length - (intOf i).toNat)
  case atStart => exact ⟨0, by omega, rfl, Lib.hid ⟨[], HL0.out⟩⟩
  case round =>
    obtain ⟨n, hn, rfl, HC⟩ := hrel
    clear HL0
    obtain ⟨acc, hrow, hleft⟩ := HC.out
    obtain ⟨A5, c5, rfl⟩ := Kd.N_slice hrow.row
    have HROW := Lib.hid hrow
    have HLEFT := Lib.hid hleft
    clear hrow hleft HC
    by_cases hlt : n < b.length
    · obtain ⟨A1, hcut, hAC, hcc⟩ := tail_cut A c b n (by omega) hc
      have HAC := Aside0.mk hAC
      have HDL := Aside0.mk (show (b.drop n).length ≤ 2000 by rw [List.length_drop]; omega)
      have HD1 := Aside0.mk hcc
      obtain ⟨p, m, x, hg⟩ : ∃ p m x, getF (b.drop n) = (p, m, x) := ⟨_, _, _, rfl⟩
      have HG := Aside0.mk hg
      clear hAC hcc
      generalize hdn : (b.drop n).length = dn at hcut
      have GET : Aside0 (∀ W, Below w.heap.size w W → Calls Try.prog 70 #[.slice A1 dn (c - n)] W fun e w' => ∃ (A' : Option Addr) (c' : Nat), e = .returned (.tuple #[.slice A' p.length c', .int .i64 m, .int .i64 x]) ∧ p.length ≤ c' ∧ Kd.C (Kd.int .u8) w A' p.length p ∧ Below W.heap.size W w') := Aside0.mk (fun W hW => by
        rw [← hdn]
        refine (refGet_any A1 (c - n) (b.drop n) W (HAC.out _ (Kd.C_below H.out hW)) HD1.out (okB_drop OK.out n) HDL.out).mono ?_
        rintro e w' ⟨A', c', r', m', x', he, hr, h3, h4, h5⟩
        rw [HG.out] at hr
        injection hr with e1 e2
        injection e2 with e2 e3
        subst e1 e2 e3
        exact ⟨A', c', he, h3, h4 w (HAC.out _ H.out), h5⟩)
      clear hdn HAC HDL HD1
      by_cases hx : x = 0
      · subst hx
        obtain ⟨q, rfl, hq7, hqb⟩ := getF_ok hg
        have hqn : n + q ≤ b.length := by rw [List.length_drop] at hqb; omega
        clear hqb hg
        go_wp2_with (first
          | (go_at_call 70; refine (GET.out _ HROW.out.below).mono ?_; rintro e w1 ⟨A6, c6, rfl, hc6, hC6, hb⟩; have HC6 := Aside0.mk hC6; have HB1 := Aside0.mk hb; clear hC6 hb GET)
          | (at_builtin
             refine Kd.N_append (Kd.slice 5 (Kd.int .u8)) (w0 := w) w.heap.size rfl (.tmp 27) (.tmp 29) 65 22 (.slice none 0 0) 24 rfl Try.underlying65 info22 rfl (by decide) (by omega) (.slice A5 acc.length c5) acc p [.slice A6 p.length c6] (fun _ => True) (fun k => k < w.heap.size) rfl rfl ?aP ?aK (fun _ _ => trivial) ?aO ?aB ?aS ?aL ?_
             case aP => exact Kd.FK_slice_mk hc6 (Kd.F_below (Kd.C_F (Kd.heap_int .u8) HC6.out) (below_step HROW.out.below HB1.out))
             case aK => intro k hk; refine ⟨trivial, fun he => ?_⟩; have := Kd.N_base HROW.out.row k he.symm; omega
             case aO => exact Kd.N_below HROW.out.row HB1.out
             case aB => exact below_step HROW.out.below HB1.out
             case aS => have h1 := HROW.out.below.size; have h2 := HB1.out.size; omega
             case aL => have h1 := HLEFT.out.1; omega
             intro v1 w2 hr hb2 hg hat
             have HROW2 := Lib.hid (show ScanRel w w2 v1 (acc ++ [p]) from ⟨hr, hb2⟩)
             clear hr hb2 hg hat HROW HB1 HC6))
        go_roundw
        case rel => exact ⟨n + q, hqn, by go_num, Lib.hid ⟨_, HROW2.out, HLEFT.out.step OK.out hl hlt HG.out ⟨by omega, hqn⟩⟩⟩
        case measure => simp [intOf]; omega
      · have hxi : ((x : Int) == 0) = false := beq_eq_false_iff_ne.mpr hx
        go_wp2_with (first
          | (go_at_call 70; refine (GET.out _ HROW.out.below).mono ?_; rintro e w1 ⟨A6, c6, rfl, hc6, hC6, hb⟩; have HB1 := Aside0.mk hb; clear hC6 hb GET))
        go_ret3
        obtain ⟨rfl, rfl, rfl⟩ := HLEFT.out.stop OK.out hl hlt HG.out hx
        exact ⟨A5, c5, rfl, (Kd.N_reads' HROW.out.row).2.1, Kd.C_below (Kd.N_reads' HROW.out.row).2.2 HB1.out, below_step HROW.out.below HB1.out⟩
    · have HN := Aside0.mk (show n = b.length by omega)
      go_wp2
      go_ret3
      have e := HN.out
      subst e
      obtain ⟨rfl, rfl, rfl⟩ := HLEFT.out.end_
      exact ⟨A5, c5, rfl, (Kd.N_reads' HROW.out.row).2.1, (Kd.N_reads' HROW.out.row).2.2, HROW.out.below⟩
end Go.Proofs.Ytbcienbnhchdeaa.Hand
