-- Printed by a program of this session (wip/patch_print.py over the kit's print); Lean checks it.
import Derived.Test.YtbcienbnhchdeaaPrint0
import Derived.Test.YtbcienbnhchdeaaPrint5
namespace Go.Proofs.Ytbcienbnhchdeaa.Print
open Go.RowKit Go.Proofs.YtbcienbnhchdeaaW.PrintWords Go.Proofs.YtbcienbnhchdeaaW.PrintLast Go.Proofs.YtbcienbnhchdeaaW.PrintMore
attribute [local go_sem] max2_int min2_int max_two min_two max_three min_three max_four min_four   -- for this text's walks alone
set_option linter.unusedVariables false
set_option linter.unusedSimpArgs false

/-! ### frame_Scan: function 68 -/
def frame_Scan.l0 : Nat → List Int → List (List Int) → Int → Option (List (List Int) × Int × Int)
  | 0, _, _, _ => none
  | k + 1, b, l, i => if i = (b.length : Int) then (some (l, i, 0)) else (if 0 ≤ i ∧ i ≤ (b.length : Int) then ((frame_Get.f 1 (b.drop i.toNat)).bind fun t => (if t.2.2 = 0 then (if l.length < 5864062014805 then (frame_Scan.l0 k b (l ++ [t.1]) (wrap64 (i + t.2.1))) else (none)) else (some (l, i, t.2.2)))) else (none))
def frame_Scan.f (l0 : List Int) : Option (List (List Int) × Int × Int) := frame_Scan.l0 (l0.length + 2) l0 [] 0
set_option maxRecDepth 100000 in
set_option maxHeartbeats 1000000 in
theorem frame_Scan.calls (A0 : Option Addr) (c0 : Nat) (l0 : List Int) (r1 : List (List Int)) (r2 : Int) (r3 : Int) (w : World) (hr0 : Kd.C (Kd.int .u8) w A0 l0.length l0) (hc0 : l0.length ≤ c0) (h : frame_Scan.f l0 = some (r1, r2, r3)) :
    Calls Try.prog 68 #[.slice A0 l0.length c0] w fun e w' => ∃ v0_ : Value, e = .returned (.tuple #[v0_, .int .i64 r2, .int .i64 r3]) ∧ Kd.S (Kd.slice 5 (Kd.int .u8)) 22 w' w.heap.size (fun _ => True) v0_ r1 ∧ Below w.heap.size w w' := by
  have HR := Aside0.mk hr0
  have HC := Aside0.mk hc0
  have H0 := Aside0.mk h
  clear hr0 hc0 h
  go_enter Try.func68, Try.ntmps68
  go_wp2
  refine Hand.wp_scope_ghost_s 0 (fun n a' w' => ∃ (l : List (List Int)) (i : Int) (v5 u2 u3 u4 u7 u8 u9 u10 u11 u12 u13 u14 u15 u16 u17 u18 u19 u20 u21 u22 u23 u24 u25 u26 u27 u28 u29 u30 u31 u32 u33 u34 u35 : Value), a' = { tmps := #[.slice A0 l0.length c0, undef, u2, u3, u4, v5, .int .i64 i, u7, u8, u9, u10, u11, u12, u13, u14, u15, u16, u17, u18, u19, u20, u21, u22, u23, u24, u25, u26, u27, u28, u29, u30, u31, u32, u33, u34, u35], defers := [] } ∧ frame_Scan.l0 n l0 l i = some (r1, r2, r3) ∧ Hid (Hand.Rows2 w w' v5 l)) rfl ?pass ?first
  case pass =>
    rintro n a' w' ⟨l, i, v5, u2, u3, u4, u7, u8, u9, u10, u11, u12, u13, u14, u15, u16, u17, u18, u19, u20, u21, u22, u23, u24, u25, u26, u27, u28, u29, u30, u31, u32, u33, u34, u35, rfl, hk, hrows⟩
    cases n with
    | zero => exact absurd hk (by simp [frame_Scan.l0])
    | succ k =>
      simp only [frame_Scan.l0] at hk
      have hrow0 := hrows.out.row
      obtain ⟨A5, c5, rfl⟩ := Kd.S_slice hrow0
      have HRW := Aside0.mk hrow0
      have HB := Aside0.mk hrows.out.below
      clear hrows hrow0
      by_cases c1 : i = (l0.length : Int)
      · rw [if_pos c1] at hk
        subst c1
        simp only [Option.some.injEq, Prod.mk.injEq] at hk
        obtain ⟨rfl, rfl, rfl⟩ := hk
        go_wp2
        simp only [Exit.jump]
        go_ret3
        exact ⟨_, rfl, HRW.out, HB.out⟩
      · rw [if_neg c1] at hk
        by_cases c2 : 0 ≤ i ∧ i ≤ (l0.length : Int)
        · rw [if_pos c2] at hk
          obtain ⟨t, ht, hk⟩ := Option.bind_eq_some_iff.mp hk
          obtain ⟨p, n, e⟩ := t
          have HT := Aside0.mk ht
          clear ht
          obtain ⟨i0, hi0, _, hsz, _⟩ := info_parts info5
          obtain ⟨A1, hcut, hA, hC⟩ := print_drop_of (P := Try.prog) (Value.int .u8) 0 22 5 .i64 Try.underlying22 hi0 hsz A0 c0 l0 i c2.1 c2.2 HC.out
          obtain ⟨q, hq⟩ : ∃ q_ : List Int, l0.drop i.toNat = q_ := ⟨_, rfl⟩
          rw [hq] at hcut hA hC HT
          have HR1 := Aside0.mk (Kd.C_of_reads (h1 := fun _ => rfl) (hA _ (Kd.reads_of_C (Kd.C_below HR.out HB.out))))
          have HC1 := Aside0.mk hC
          clear hA hC hi0 hsz hq
          have HRo := Aside0.mk (Kd.S_mono (ok' := fun k_ => True ∧ ¬ w'.heap.size ≤ k_) (Kd.S_bound HRW.out) (fun k_ hk_ => ⟨trivial, by have := hk_.2.2.1; omega⟩))
          have HSZ := Aside0.mk HB.out.size
          by_cases c3 : e = 0
          · subst c3
            rw [if_pos rfl] at hk
            by_cases c4 : l.length < 5864062014805
            · rw [if_pos c4] at hk
              have HK := Aside0.mk hk
              clear hk
              go_wp2_with (first
                | (go_at_call 65; refine (frame_Get.calls 1 A1 _ q p n 0 _ HR1.out HC1.out HT.out).mono ?_; rintro e w1 ⟨v, rfl, ho, hb⟩; obtain ⟨Ap, cp, rfl, _, _⟩ := Kd.R_reads ho; have HO := Aside0.mk ho; have HB1 := Aside0.mk hb; clear ho hb)
                | (at_builtin; refine Kd.S_append (Kd.slice 5 (Kd.int .u8)) (w0 := w) w.heap.size rfl (.tmp 29) (.tmp 31) 65 22 (.slice none 0 0) 24 rfl Try.underlying65 info22 rfl (by decide) (by omega) (.slice A5 l.length c5) l p [.slice Ap p.length cp] (fun _ => True) (fun k_ => w'.heap.size ≤ k_) rfl rfl ?aP ?aK (fun _ _ => trivial) ?aO ?aB ?aS ?aL ?_; (case aP => exact Kd.M_row (Kd.R_lower (Kd.R_mono (Kd.R_bound HO.out) (fun _ hk_ => hk_.2.1)) HSZ.out)); (case aK => exact fun k_ hk_ => ⟨trivial, fun e_ => by have := Kd.S_lt HRW.out k_ e_.symm; omega⟩); (case aO => exact Kd.S_below HRo.out HB1.out); (case aB => exact HB.out.trans (HB1.out.mono HSZ.out)); (case aS => have := HSZ.out; have := HB1.out.size; omega); (case aL => omega); intro v1 w2 ho hb hg hat; have HO2 := Aside0.mk ho; have HB2 := Aside0.mk hb; clear ho hb hg hat))
              go_step3
              exact ⟨rfl, k, Nat.lt_succ_self k, l ++ [p], wrap64 (i + n), v1, _, _, _, _, _, _, _, _, _, _, _, _, _, _, _, _, _, _, _, _, _, _, _, _, _, _, _, _, _, _, _, _, rfl, HK.out, ⟨HO2.out, HB2.out⟩⟩
            · rw [if_neg c4] at hk
              exact absurd hk (by simp)
          · rw [if_neg c3] at hk
            simp only [Option.some.injEq, Prod.mk.injEq] at hk
            obtain ⟨rfl, rfl, rfl⟩ := hk
            go_wp2_with (first
              | (go_at_call 65; refine (frame_Get.calls 1 A1 _ q p n e _ HR1.out HC1.out HT.out).mono ?_; rintro e w1 ⟨v, rfl, ho, hb⟩; have HB1 := Aside0.mk hb; clear ho hb))
            simp only [Exit.jump]
            go_ret3
            exact ⟨_, rfl, Kd.S_below HRW.out HB1.out, HB.out.trans (HB1.out.mono HSZ.out)⟩
        · rw [if_neg c2] at hk
          exact absurd hk (by simp)
  case first =>
    intro hpass
    go_wp2
    go_step3
    rename_i hK
    refine hK _ _ ?_
    exact hpass (l0.length + 2) _ _ ⟨[], 0, .slice none 0 0, _, _, _, _, _, _, _, _, _, _, _, _, _, _, _, _, _, _, _, _, _, _, _, _, _, _, _, _, _, _, _, _, rfl, H0.out, ⟨Kd.S_nil _ _ _ _ _, Below.refl _ _⟩⟩

end Go.Proofs.Ytbcienbnhchdeaa.Print
