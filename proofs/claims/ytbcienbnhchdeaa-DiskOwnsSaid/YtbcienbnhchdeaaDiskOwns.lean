/- What is told hangs on no disk, nor does what was handed in: the law's contract. -/
import Derived.Test.YtbcienbnhchdeaaDiskW
namespace Go.Proofs.Ytbcienbnhchdeaa.Hand
open Go Go.RowKit Go.Proofs.YtbcienbnhchdeaaW.PrintWords Go.Proofs.YtbcienbnhchdeaaW.PrintMore
set_option linter.unusedVariables false
set_option linter.unusedSimpArgs false
attribute [local go_sem] max2_int min2_int max_two min_two

/-- Two disks that hold l; a row of bytes that is elder than both. -/
structure Owns (w wr : World) (N1 N2 gd ge : Nat) (l : List Int) (v : Value) (xs : List Int) : Prop where
  own : Kd.R (Kd.int .u8) 5 wr w.heap.size (fun k => k < N1) v xs
  len : xs.length = l.length
  d : DiskAt wr gd (fun k => N1 ≤ k ∧ k < N2) 1000 0 l
  e : DiskAt wr ge (fun k => N2 ≤ k) 1000 l.length l
  hd : N1 ≤ gd
  hde : gd < N2
  he : N2 ≤ ge
  below : Below w.heap.size w wr
theorem DiskAt.far {w : World} {g : Nat} {ok : Nat → Prop} {room safe : Nat} {bs : List Int} (h : DiskAt w g ok room safe bs) {p : Addr} (hg : g ≠ p.block) (hok : ∀ k, ok k → k ≠ p.block) (u : Value) : DiskAt (w.setCell p u) g ok room safe bs :=
  h.step (Below.heap_setCell w p u g hg) (fun k hk _ => Below.heap_setCell w p u k (hok k hk))
theorem Owns.put {w wr : World} {N1 N2 gd ge g0 n cap : Nat} {l xs : List Int} (h : Owns w wr N1 N2 gd ge l (.slice (some ⟨g0, 0, none⟩) n cap) xs) (i : Nat) (x : Int) :
    Owns w (wr.setCell ⟨g0, i, none⟩ (.int .u8 x)) N1 N2 gd ge l (.slice (some ⟨g0, 0, none⟩) n cap) (xs.set i x) := by
  have hg : g0 < N1 := h.own.1 g0 (by simp [Value.ownBlock])
  have hb : w.heap.size ≤ g0 := Kd.R_base h.own g0 (by simp [Value.ownBlock])
  have h1 := Kd.R_putn h.own (i : Int) x
  rw [Int.toNat_natCast] at h1
  have := h.hd
  have := h.hde
  have := h.he
  exact ⟨h1, by rw [List.length_set]; exact h.len, h.d.far (by show gd ≠ g0; omega) (fun k hk => by show k ≠ g0; omega) _, h.e.far (by show ge ≠ g0; omega) (fun k hk => by show k ≠ g0; omega) _, h.hd, h.hde, h.he, h.below.setCell hb _⟩

/-- The same, beside a row that is younger. -/
structure Owns2 (w wr : World) (N3 gd ge : Nat) (l : List Int) (v : Value) (xs : List Int) : Prop where
  own : Kd.R (Kd.int .u8) 5 wr N3 (fun _ => True) v xs
  len : xs.length = l.length
  d : DiskAt wr gd (fun k => k < N3) 1000 0 l
  e : DiskAt wr ge (fun k => k < N3) 1000 l.length l
  hd : gd < N3
  he : ge < N3
  base : w.heap.size ≤ N3
  below : Below w.heap.size w wr
theorem Owns2.put {w wr : World} {N3 gd ge g0 n cap : Nat} {l xs : List Int} (h : Owns2 w wr N3 gd ge l (.slice (some ⟨g0, 0, none⟩) n cap) xs) (i : Nat) (x : Int) :
    Owns2 w (wr.setCell ⟨g0, i, none⟩ (.int .u8 x)) N3 gd ge l (.slice (some ⟨g0, 0, none⟩) n cap) (xs.set i x) := by
  have hb : N3 ≤ g0 := Kd.R_base h.own g0 (by simp [Value.ownBlock])
  have h1 := Kd.R_putn h.own (i : Int) x
  rw [Int.toNat_natCast] at h1
  have := h.hd
  have := h.he
  have := h.base
  exact ⟨h1, by rw [List.length_set]; exact h.len, h.d.far (by show gd ≠ g0; omega) (fun k hk => by show k ≠ g0; omega) _, h.e.far (by show ge ≠ g0; omega) (fun k hk => by show k ≠ g0; omega) _, h.hd, h.he, h.base, h.below.setCell (by show w.heap.size ≤ g0; omega) _⟩
theorem Owns.next {w wr w7 : World} {N1 N2 gd ge : Nat} {l xs : List Int} {v v7 : Value} (h : Owns w wr N1 N2 gd ge l v xs) (ho : Kd.R (Kd.int .u8) 5 w7 wr.heap.size (fun _ => True) v7 l) (hb : Below wr.heap.size wr w7) : Owns2 w w7 wr.heap.size gd ge l v7 l :=
  ⟨ho, rfl, (h.d.bound.below hb).mono (fun k hk => hk.2), (h.e.bound.below hb).mono (fun k hk => hk.2), h.d.lt, h.e.lt, h.below.size, below_step h.below hb⟩

set_option maxRecDepth 100000 in
set_option maxHeartbeats 2000000 in
theorem diskOwns_any (A0 : Option Addr) (c0 : Nat) (l0 : List Int) (w : World) (h0 : Kd.C (Kd.int .u8) w A0 l0.length l0) (hc0 : l0.length ≤ c0) (ok0 : okB l0 = true) :
    Calls Try.prog 11 #[.slice A0 l0.length c0] w fun e w' => e = .returned (.bool true) ∧ Below w.heap.size w w' := by
  have hm0 : (if (100 : Int) < (l0.length : Int) then (100 : Int) else (l0.length : Int)) = ((min l0.length 100 : Nat) : Int) := min_first l0 100
  have g0 := C_first h0 (min l0.length 100) (by omega)
  have o0 := okB_take2 ok0 (min l0.length 100)
  have e0 : (l0.take (min l0.length 100)).length = min l0.length 100 := by rw [List.length_take]; omega
  have hb0 : min l0.length 100 ≤ 100 := by omega
  have hk0 : min l0.length 100 ≤ c0 := by omega
  have hl0 := h0.2.1
  rw [← e0] at hm0 hb0 hk0
  clear e0
  generalize l0.take (min l0.length 100) = l at *
  have G0 := Aside0.mk g0
  have O0 := Aside0.mk o0
  clear g0 o0 h0 ok0
  go_enter Try.func11, Try.ntmps11
  go_wp2_with (first
    | (go_at_call 36; refine (lives5_any _).mono ?_; rintro e w1 ⟨rfl, hb⟩; have HB := Aside0.mk hb; clear hb)
    | (at_builtin; refine Kd.R_append_row (Value.int .u8) (0 : Int) (h1 := fun _ => rfl) (w0 := w) w.heap.size rfl (.tmp 12) (.tmp 17) 22 5 (.int .u8 0) 1 rfl Try.underlying22 info5 rfl (by omega) (.slice none 0 0) [] l A0 l.length c0 (fun _ => True) rfl rfl (fun _ _ => trivial) ?aO ?aR ?aB ?aS ?aL ?_; (case aO => exact Kd.R_nil _ _ _ _ _); (case aR => exact Kd.C_below G0.out HB.out); (case aB => exact HB.out); (case aS => exact HB.out.size); (case aL => simp; omega); intro v1 w2 ho hb hg hat; rw [List.nil_append] at ho; obtain ⟨A1, c1, rfl⟩ := Kd.R_slice ho; have hcv := Kd.C_string (P := Try.prog) (A := A1) (c := c1) Try.underlying22 Try.underlying5 Try.underlying9 (Kd.R_reads' ho).2.2; have HO := Aside0.mk ho; have HB2 := Aside0.mk hb; have HBS := Aside0.mk hb.size; clear ho hb hg hat HB)
    | (go_at_call 37; refine (new_any 1000 _ (fun k => w2.heap.size ≤ k)).mono ?_; rintro e w3 ⟨rfl, hd, hb⟩; have HD := Aside0.mk (show DiskAt w3 w2.heap.size (fun k => w2.heap.size ≤ k) 1000 0 [] from hd); have HS3 := Aside0.mk (show w2.heap.size < w3.heap.size from hd.lt); have HB3 := Aside0.mk (below_step HB2.out hb); have HO3 := Aside0.mk (Kd.R_below (Kd.R_bound HO.out) hb); clear hd hb HO HB2)
    | (go_at_call 38; refine (write_ok HD.out ?hok A1 c1 l (Kd.R_reads' HO3.out).2.2 O0.out ?hf).mono ?_; (case hok => intro k hk; have := HS3.out; omega); (case hf => show [].length + l.length ≤ 1000; simp; omega); rintro e w4 ⟨rfl, hd, hm⟩; have HD4 := Aside0.mk (show DiskAt w4 w2.heap.size (fun k => w2.heap.size ≤ k) 1000 0 l from hd); have HS4 := Aside0.mk (Nat.lt_of_lt_of_le HS3.out hm.size); have HB4 := Aside0.mk (Moved.from_below HB3.out hm (fun k hk => by have := HBS.out; exact hk.elim (fun e => by omega) (fun e => by omega)) HB3.out.size); have HO4 := Aside0.mk (Kd.R_kept HO3.out hm.kept (fun k hk hS => by have := hk.2.2.1; exact hS.elim (fun e => by omega) (fun e => by omega))); clear hd hm HD HO3 HB3)
    | (go_at_call 37; refine (new_any 1000 _ (fun k => w4.heap.size ≤ k)).mono ?_; rintro e w5 ⟨rfl, hd, hb⟩; have HE := Aside0.mk (show DiskAt w5 w4.heap.size (fun k => w4.heap.size ≤ k) 1000 0 [] from hd); have HS5 := Aside0.mk (show w4.heap.size < w5.heap.size from hd.lt); have HB5 := Aside0.mk (below_step HB4.out hb); have HO5 := Aside0.mk (Kd.R_below HO4.out hb); have HD5 := Aside0.mk (HD4.out.bound.below hb); clear hd hb HO4 HB4 HD4)
    | (go_at_call 49; refine (swap_ok HE.out ?hok A1 c1 l (Kd.R_reads' HO5.out).2.2 O0.out ?hf).mono ?_; (case hok => intro k hk; have := HS5.out; omega); (case hf => omega); rintro e w6 ⟨rfl, hd, hm⟩; have HC := Lib.hid (show Owns w w6 w2.heap.size w4.heap.size w2.heap.size w4.heap.size l (.slice A1 l.length c1) l from ⟨Kd.R_mono (Kd.R_kept HO5.out hm.kept (fun k hk hS => by have := hk.2.2.1; have := HS4.out; exact hS.elim (fun e => by omega) (fun e => by omega))) (fun k hk => hk.2.2.1), rfl, HD5.out.kept hm.kept (fun hS => by have := HS4.out; exact hS.elim (fun e => by omega) (fun e => by omega)) (fun k hk hS => by have := hk.2; exact hS.elim (fun e => by omega) (fun e => by omega)), hd, Nat.le_refl _, HS4.out, Nat.le_refl _, Moved.from_below HB5.out hm (fun k hk => by have := HBS.out; have := HS4.out; exact hk.elim (fun e => by omega) (fun e => by omega)) HB5.out.size⟩); clear hd hm HE HD5 HO5 HB5))
  generalize w2.heap.size = N1 at *
  generalize w4.heap.size = N2 at *
  clear hcv HS3 HS4 HS5
  go_loopw [7] (fun i wr => ∃ n : Nat, n ≤ l.length ∧ i = .int .i64 (n : Int) ∧ Hid (∃ xs, Owns w wr N1 N2 N1 N2 l (.slice A1 l.length c1) xs)) (fun i _ => l.length - (intOf i).toNat)
  case atStart => exact ⟨0, by omega, rfl, Lib.hid ⟨l, HC.out⟩⟩
  case round =>
    obtain ⟨n, hn, rfl, HC2⟩ := hrel
    by_cases hlt : n < l.length
    · obtain ⟨xs, hx⟩ := HC2.out
      have hxl := hx.len
      obtain ⟨g0, cap, hv, _, _, _⟩ := Kd.R_form hx.own (by omega)
      injection hv with hv1 hv2 hv3
      subst hv1
      obtain ⟨hcell, hfr⟩ := Kd.R_celln (0 : Int) hx.own (n : Int) (by omega) (by omega)
      rw [Int.toNat_natCast] at hcell hfr
      have HX := Lib.hid hx
      generalize rdOf 0 xs (n : Int) = x at hcell
      clear hx hxl hv2 hv3 HC2
      go_wp2
      go_roundw
      case rel => exact ⟨n + 1, by omega, by go_num, Lib.hid ⟨_, HX.out.put n _⟩⟩
      case measure => simp [intOf]; omega
    · obtain rfl : n = l.length := by omega
      obtain ⟨xs, hx⟩ := HC2.out
      have HX := Lib.hid hx
      have HC3 := Lib.hid hx.d
      clear hx HC2 HC
      go_wp2_with (go_at_call 41; refine (all_any HC3.out).mono ?_; rintro e w7 ⟨v7, rfl, ho, hb⟩; obtain ⟨A7, c7, rfl⟩ := Kd.R_slice ho; have HY := Lib.hid (HX.out.next ho hb); clear ho hb HC3 HX)
      generalize wr.heap.size = N3 at *
      go_loopw [9] (fun i wr => ∃ n : Nat, n ≤ l.length ∧ i = .int .i64 (n : Int) ∧ Hid (∃ xs, Owns2 w wr N3 N1 N2 l (.slice A7 l.length c7) xs)) (fun i _ => l.length - (intOf i).toNat)
      case atStart => exact ⟨0, by omega, rfl, Lib.hid ⟨l, HY.out⟩⟩
      case round =>
        obtain ⟨n, hn, rfl, HC2⟩ := hrel
        by_cases hlt : n < l.length
        · obtain ⟨xs, hx⟩ := HC2.out
          have hxl := hx.len
          obtain ⟨g0, cap, hv, _, _, _⟩ := Kd.R_form hx.own (by omega)
          injection hv with hv1 hv2 hv3
          subst hv1
          obtain ⟨hcell, hfr⟩ := Kd.R_celln (0 : Int) hx.own (n : Int) (by omega) (by omega)
          rw [Int.toNat_natCast] at hcell hfr
          have HX := Lib.hid hx
          generalize rdOf 0 xs (n : Int) = x at hcell
          clear hx hxl hv2 hv3 HC2
          go_wp2
          go_roundw
          case rel => exact ⟨n + 1, by omega, by go_num, Lib.hid ⟨_, HX.out.put n _⟩⟩
          case measure => simp [intOf]; omega
        · obtain rfl : n = l.length := by omega
          obtain ⟨xs, hx⟩ := HC2.out
          have HB := Lib.hid hx.below
          have HD := Lib.hid hx.d
          have HE := Lib.hid hx.e
          clear hx HC2 HY
          go_wp2_with (first
            | (go_at_call 41; refine (all_any HD.out).mono ?_; rintro e w8 ⟨v8, rfl, ho, hb⟩; obtain ⟨A8, c8, hv, hl, hC⟩ := Kd.R_reads ho; rw [hv]; have hcv := Kd.C_string (P := Try.prog) (A := A8) (c := c8) Try.underlying22 Try.underlying5 Try.underlying9 hC; have HB8 := Lib.hid (below_step HB.out hb); have HE8 := Lib.hid (HE.out.below hb); clear ho hb hv hl hC HD HB HE)
            | (go_at_call 41; refine (all_any HE8.out).mono ?_; rintro e w9 ⟨v9, rfl, ho, hb⟩; obtain ⟨A9, c9, hv, hl, hC⟩ := Kd.R_reads ho; rw [hv]; have hcv := Kd.C_string (P := Try.prog) (A := A9) (c := c9) Try.underlying22 Try.underlying5 Try.underlying9 hC; have HB9 := Lib.hid (below_step HB8.out hb); clear ho hb hv hl hC HE8 HB8))
          go_ret
          exact ⟨rfl, HB9.out⟩
end Go.Proofs.Ytbcienbnhchdeaa.Hand
