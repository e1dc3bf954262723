/- A disk, in whatever row: the law's contract. -/
import Derived.Test.YtbcienbnhchdeaaDiskRoom
import Derived.Test.YtbcienbnhchdeaaDiskR
import Derived.Deep.DeepCutAuto
import Derived.Deep.CutBlock
namespace Go.Proofs.Ytbcienbnhchdeaa.Hand
open Go Go.RowKit Go.Proofs.YtbcienbnhchdeaaW.PrintLast Go.Proofs.YtbcienbnhchdeaaW.PrintWords Go.Proofs.YtbcienbnhchdeaaW.PrintMore PrD
set_option linter.unusedVariables false
set_option linter.unusedSimpArgs false
attribute [local go_sem] max2_int min2_int max_two min_two

/-- A disk beside its second reading and a script. -/
structure Play (w wr : World) (N3 g R room safe : Nat) (bs : List Int) (sa sb : ByteArray) (v : Value) (l : List S52) : Prop where
  d : DiskAt wr g (fun k => N3 ≤ k) room safe bs
  r : wr.heap[R]? = some (.cells #[.int .i64 (room : Int), .string sa, .string sb] 48 (0, 0))
  s : Kd.V k52 52 wr 0 (fun k => k < N3 ∧ k ≠ g ∧ k ≠ R) v l
  hN : w.heap.size ≤ N3
  hg : w.heap.size ≤ g
  hR : w.heap.size ≤ R
  hR3 : R < N3
  hRg : R ≠ g
  below : Below w.heap.size w wr
  hs : N3 ≤ wr.heap.size
section
variable {w wr w1 : World} {N3 g R room safe safe' : Nat} {bs bs' : List Int} {sa sb : ByteArray} {v : Value} {l : List S52}
theorem Play.moved (h : Play w wr N3 g R room safe bs sa sb v l) (hd : DiskAt w1 g (fun k => N3 ≤ k) room safe' bs') (hm : Moved wr w1 (OfDisk g (fun k => N3 ≤ k))) : Play w w1 N3 g R room safe' bs' sa sb v l :=
  ⟨hd, (hm.kept.2 R (blk_lt h.r) (fun hS => hS.elim (fun e => h.hRg e) (fun e => by have := h.hR3; omega))).trans h.r, Kd.V_kept h.s hm.kept (fun k hk hS => hS.elim (fun e => hk.2.1 e) (fun e => by have := hk.1; omega)), h.hN, h.hg, h.hR, h.hR3, h.hRg,
    Moved.from_below h.below hm (fun k hk => hk.elim (fun e => by have := h.hg; omega) (fun e => by have := h.hN; omega)) h.below.size, Nat.le_trans h.hs hm.size⟩
theorem Play.next (h : Play w wr N3 g R room safe bs sa sb v l) (hb : Below wr.heap.size wr w1) : Play w w1 N3 g R room safe bs sa sb v l :=
  ⟨h.d.below hb, (hb.block R (blk_lt h.r)).trans h.r, Kd.V_below h.s hb, h.hN, h.hg, h.hR, h.hR3, h.hRg, below_step h.below hb, Nat.le_trans h.hs hb.size⟩
theorem Play.drewN (h : Play w wr N3 g R room safe bs sa sb v l) (n : Nat) : Play w (wr.drewN n) N3 g R room safe bs sa sb v l := ⟨h.d.drewN n, h.r, Kd.V_drewN h.s n, h.hN, h.hg, h.hR, h.hR3, h.hRg, pw_below_drewN h.below n, h.hs⟩
theorem Play.drew (h : Play w wr N3 g R room safe bs sa sb v l) : Play w wr.drew N3 g R room safe bs sa sb v l := ⟨h.d.drew, h.r, Kd.V_drew h.s, h.hN, h.hg, h.hR, h.hR3, h.hRg, below_drew h.below, h.hs⟩
/-- The second reading, stored anew. -/
theorem Play.store (h : Play w wr N3 g R room safe bs sa sb v l) (o : Obj) (sa' sb' : ByteArray) : Play w ((((wr.setCell ⟨R, 0, none⟩ (.int .i64 (room : Int))).setCell ⟨R, 1, none⟩ (.string sa')).setCell ⟨R, 2, none⟩ (.string sb')).alloc o) N3 g R room safe bs sa' sb' v l := by
  have b0 := blk_set h.r 0 (.int .i64 (room : Int))
  have b1 := blk_set b0 1 (.string sa')
  have b2 := blk_set b1 2 (.string sb')
  have m0 : Moved wr wr (fun k => k = R) := Moved.refl _ _
  have m1 := m0.setCell (p := ⟨R, 0, none⟩) (Or.inl rfl) (.int .i64 (room : Int))
  have m2 := m1.setCell (p := ⟨R, 1, none⟩) (Or.inl rfl) (.string sa')
  have hm := m2.setCell (p := ⟨R, 2, none⟩) (Or.inl rfl) (.string sb')
  have h1 : Play w (((wr.setCell ⟨R, 0, none⟩ (.int .i64 (room : Int))).setCell ⟨R, 1, none⟩ (.string sa')).setCell ⟨R, 2, none⟩ (.string sb')) N3 g R room safe bs sa' sb' v l :=
    ⟨h.d.kept hm.kept (fun e => h.hRg e.symm) (fun k hk e => by have := h.hR3; omega), b2, Kd.V_kept h.s hm.kept (fun k hk e => hk.2.2 e), h.hN, h.hg, h.hR, h.hR3, h.hRg, Moved.from_below h.below hm (fun k hk => by have := h.hR; omega) h.below.size, Nat.le_trans h.hs hm.size⟩
  exact h1.next (below_alloc (Below.refl _ _) o)
/-- The cells of the second reading. -/
theorem Play.cells (h : Play w wr N3 g R room safe bs sa sb v l) : wr.cell? ⟨R, 0, none⟩ = some (.int .i64 (room : Int)) ∧ wr.cell? ⟨R, 1, none⟩ = some (.string sa) ∧ wr.cell? ⟨R, 2, none⟩ = some (.string sb) ∧ wr.frozen? ⟨R, 0, none⟩ = false ∧ wr.frozen? ⟨R, 1, none⟩ = false ∧ wr.frozen? ⟨R, 2, none⟩ = false ∧ R < wr.heap.size :=
  ⟨(blk_cell h.r 0).trans rfl, (blk_cell h.r 1).trans rfl, (blk_cell h.r 2).trans rfl, blk_frozen h.r 0, blk_frozen h.r 1, blk_frozen h.r 2, blk_lt h.r⟩
end

/-- Bytes are none of the second reading's cells. -/
theorem C_store {W : World} {R : Nat} {u0 : Int} {s1 s2 : ByteArray} (hb : W.heap[R]? = some (.cells #[.int .i64 u0, .string s1, .string s2] 48 (0, 0))) {A : Option Addr} {xs : List Int} (h : Kd.C (Kd.int .u8) W A xs.length xs) (i : Nat) (u : Value) :
    Kd.C (Kd.int .u8) (W.setCell ⟨R, i, none⟩ u) A xs.length xs := by
  have hr : ReadsOf (Value.int .u8) (0 : Int) W A xs.length xs := Kd.reads_of_C h
  refine Kd.C_of_reads (enc := Value.int .u8) (d := (0 : Int)) (h1 := fun _ => rfl) ⟨hr.1, hr.2.1, fun hn => ?_⟩
  obtain ⟨ad, e, hc⟩ := hr.2.2 hn
  refine ⟨ad, e, fun j hj => ?_⟩
  have h1 := hc j hj
  have hne : (ad.add j).block ≠ R := by
    intro e2
    have h2 : W.heap[(ad.add j).block]? = some (.cells #[.int .i64 u0, .string s1, .string s2] 48 (0, 0)) := by rw [e2]; exact hb
    simp only [World.cell?, h2] at h1
    by_cases sp : (ad.add j).spot.isSome = true
    · rw [if_pos sp] at h1
      cases h1
    rw [if_neg sp] at h1
    generalize (ad.add j).off = o at h1
    match o, h1 with
    | 0, h1 => simp at h1
    | 1, h1 => simp at h1
    | 2, h1 => simp at h1
    | o + 3, h1 => simp at h1
  have h4 : (W.setCell ⟨R, i, none⟩ u).heap[(ad.add j).block]? = W.heap[(ad.add j).block]? := Below.heap_setCell W ⟨R, i, none⟩ u _ hne
  have h5 : (W.setCell ⟨R, i, none⟩ u).cell? (ad.add j) = W.cell? (ad.add j) := by simp only [World.cell?, h4]
  rw [h5]
  exact h1
theorem Play.storeC {w wr : World} {N3 g R room safe : Nat} {bs : List Int} {sa sb : ByteArray} {v : Value} {l : List S52} (h : Play w wr N3 g R room safe bs sa sb v l) (o : Obj) (sa' sb' : ByteArray) {A : Option Addr} {xs : List Int} (hC : Kd.C (Kd.int .u8) wr A xs.length xs) :
    Kd.C (Kd.int .u8) ((((wr.setCell ⟨R, 0, none⟩ (.int .i64 (room : Int))).setCell ⟨R, 1, none⟩ (.string sa')).setCell ⟨R, 2, none⟩ (.string sb')).alloc o) A xs.length xs := by
  have b0 := blk_set h.r 0 (.int .i64 (room : Int))
  have b1 := blk_set b0 1 (.string sa')
  exact Kd.C_alloc (C_store b1 (C_store b0 (C_store h.r hC 0 _) 1 _) 2 _) o
theorem str_take (l : List Int) (K : Nat) : (strOfNums l).extract 0 K = strOfNums (l.take K) := by
  unfold strOfNums
  apply ByteArray.ext
  simp only [ByteArray.data_extract]
  rw [List.extract_toArray]
  congr 1
  rw [List.extract_eq_take_drop]
  simp
theorem sync_two {w : World} {g : Nat} {ok : Nat → Prop} {room : Nat} {a b : List Int} (h : DiskAt w g ok room a.length (a ++ b)) : Calls Try.prog 39 #[.pointer (some ⟨g, 0, none⟩)] w fun e w' => e = .returned (.int .i64 (b.length : Int)) ∧ DiskAt w' g ok room (a ++ b).length (a ++ b) ∧ Moved w w' (OfDisk g ok) :=
  (sync_any h).mono fun e w' ⟨he, h1⟩ => ⟨ret_i he (by rw [List.length_append]; omega), h1⟩
theorem len_xy {w : World} {g : Nat} {ok : Nat → Prop} {room s : Nat} {a b : List Int} (h : DiskAt w g ok room s (a ++ b)) : Calls Try.prog 43 #[.pointer (some ⟨g, 0, none⟩)] w fun e w' => e = .returned (.int .i64 ((a.length : Int) + (b.length : Int))) ∧ w = w' :=
  (len_any h).mono fun e w' ⟨he, h1⟩ => ⟨ret_i he (by rw [List.length_append]; omega), h1⟩
theorem room_xy {w : World} {g : Nat} {ok : Nat → Prop} {room s : Nat} {a b : List Int} (h : DiskAt w g ok room s (a ++ b)) : Calls Try.prog 59 #[.pointer (some ⟨g, 0, none⟩)] w fun e w' => e = .returned (.int .i64 ((room : Int) - ((a.length : Int) + (b.length : Int)))) ∧ ∃ n, w' = w.drewN n :=
  (room_any h).mono fun e w' ⟨he, h1⟩ => ⟨ret_i he (by rw [List.length_append]; omega), h1⟩

set_option maxRecDepth 100000 in
set_option maxHeartbeats 40000000 in
theorem diskPlays_any (a : Int) (A0 : Option Addr) (c0 : Nat) (l0 : List S52) (w : World) (h0 : Kd.C k52 w A0 l0.length l0) (hc0 : l0.length ≤ c0) (ok0 : ∀ z ∈ l0, okS5 z) :
    Calls Try.prog 12 #[.int .i64 a, .slice A0 l0.length c0] w fun e w' => e = .returned (.bool true) ∧ Below w.heap.size w w' := by
  obtain ⟨room, hro⟩ : ∃ room, roomOf a = room := ⟨_, rfl⟩
  have hmost : room ≤ 1048576 := by rw [← hro]; unfold roomOf; split <;> (try split) <;> omega
  have hS := steps_V h0 hc0
  have hE := early5_ok ok0
  have hel := early5_len l0
  have HS := Aside0.mk hS
  have HRO := Aside0.mk hro
  clear hS ok0 h0 hro
  obtain ⟨l, hl⟩ : ∃ l, early5 l0 = l := ⟨_, rfl⟩
  rw [hl] at hE hel
  have HL := Aside0.mk hl
  have HE := Aside0.mk hE
  clear hl hE
  go_enter Try.func12, Try.ntmps12
  go_wp2_with (first
    | (go_at_call 36; refine (lives5_any _).mono ?_; rintro e w1 ⟨rfl, hb⟩; have HB := Aside0.mk hb; clear hb)
    | (go_at_call 37; refine (new_all _ _).mono ?_; rintro e w2 ⟨rfl, hd, hb⟩; rw [HRO.out] at hd; have HD := Aside0.mk hd; have HBN := Aside0.mk HB.out.size; have HN := Aside0.mk (hd (fun _ => False)).lt; have HB2 := Aside0.mk (below_step HB.out hb); clear hd hb HB)
    | (go_at_call 50; refine (ref_new _ _).mono ?_; rintro e w3 ⟨he, hb⟩; rw [HRO.out] at he; subst he; have HD3 := Aside0.mk (fun ok => (HD.out ok).below hb); have HN3 := Aside0.mk hb.size; have HB3 := Aside0.mk (below_step HB2.out hb); clear hb HD HB2)
    | (go_at_call 51; refine (early5_any (fun k => k < w.heap.size) A0 c0 l0 _ ?hv).mono ?_; (case hv => exact Kd.V_below HS.out (below_alloc HB3.out _)); rintro e w4 ⟨A3, c3, he, hV, hb⟩; rw [HL.out] at he hV; subst he; have HC := Lib.hid (show Play w w4 w4.heap.size w1.heap.size w3.heap.size room 0 [] ⟨#[]⟩ ⟨#[]⟩ (.slice A3 l.length c3) l from ⟨(HD3.out _).below (below_step (below_alloc (Below.refl _ _) _) hb), (hb.block _ (by simp)).trans (heap_alloc_new w3 _), Kd.V_mono hV (fun k hk => by have h1 := hk.1; have h2 := hk.2; have := HBN.out; have := HN.out; have := HN3.out; have := HB3.out.size; simp at h1; exact ⟨h2, by omega, by omega⟩), (below_step (below_alloc HB3.out _) hb).size, HBN.out, HB3.out.size, by have := hb.size; simp at this; omega, by have := HN.out; have := HN3.out; omega, below_step (below_alloc HB3.out _) hb, Nat.le_refl _⟩); clear hV hb HD3 HB3))
  generalize w4.heap.size = N3 at *
  generalize w1.heap.size = g at *
  generalize w3.heap.size = R at *
  go_loopw [7] (fun i wr => ∃ n : Nat, n ≤ l.length ∧ i = .int .i64 (n : Int) ∧ Hid (∃ x y, Play w wr N3 g R room x.length (x ++ y) (strOfNums x) (strOfNums y) (.slice A3 l.length c3) l)) (fun i _ => l.length - (intOf i).toNat)
  case atStart => exact ⟨0, by omega, rfl, Lib.hid ⟨[], [], HC.out⟩⟩
  case round =>
    obtain ⟨n, hn, rfl, HC2⟩ := hrel
    clear HC
    obtain ⟨x, y, hx⟩ := HC2.out
    have HX := Lib.hid hx
    clear hx HC2
    by_cases hlt : n < l.length
    · obtain ⟨ad, A2, c2, rfl, hx0, hx1, hx2, hl2, hC2⟩ := at_step HX.out.s hlt
      obtain ⟨ho2, hl40⟩ := HE.out _ (step_mem hlt)
      generalize rd_T52 l (n : Int) = z at *
      obtain ⟨K, hK6, hK⟩ := small_rem z.f0 6 (by omega) (by omega)
      obtain ⟨k, hk⟩ : ∃ k : Int, (K : Int) = k := ⟨_, rfl⟩
      have HKI := Aside0.mk (show pacesetterlaw05_Step_kind.f z.f0 z.f1 z.f2 = some k by unfold pacesetterlaw05_Step_kind.f; rw [hK, hk])
      have hk0 : 0 ≤ k := by omega
      rw [hk] at hK6
      have HC2 := Aside0.mk hC2
      have HO2 := Aside0.mk ho2
      clear hC2 hK ho2 hk
      go_upto_block 2 with (first | (go_at_call 52; refine (pacesetterlaw05_Step_kind.calls z.f0 z.f1 A2 c2 z.f2 k _ (Kd.C_alloc HC2.out _) hl2 HKI.out).mono ?_; rintro e w5 ⟨rfl, hb⟩; have HB5 := Aside0.mk hb; clear hb))
      have HX1 := Lib.hid (HX.out.next (below_step (below_alloc (Below.refl _ _) _) HB5.out))
      have HSB := Aside0.mk ((HB5.out.block wr.heap.size (by simp)).trans (heap_alloc_new wr _))
      have HC5 := Aside0.mk (Kd.C_below HC2.out (below_step (below_alloc (Below.refl _ _) _) HB5.out))
      have hSR : wr.heap.size ≠ R := by have := HX.out.hs; have := HX.out.hR3; omega
      have hRS : R ≠ wr.heap.size := hSR.symm
      have hxy := HX.out.d.roomLe
      rw [List.length_append] at hxy
      clear HX HC2 HB5 hx0 hx1 hx2
      generalize wr.heap.size = S at *
      go_cut [9] (fun s9 wx => s9 = .bool true ∧ Hid (∃ x y, Play w wx N3 g R room x.length (x ++ y) (strOfNums x) (strOfNums y) (.slice (some ad) l.length c3) l))
      case first =>
        obtain ⟨p0, p1, p2, q0, q1, q2, pl⟩ := HX1.out.cells
        have t1 := (blk_cell HSB.out 1).trans rfl
        have t2 := (blk_cell HSB.out 2).trans rfl
        have hsl := blk_lt HSB.out
        have hcv := Kd.C_string (P := Try.prog) (c := c2) Try.underlying22 Try.underlying5 Try.underlying9 HC5.out
        have hzx := str_size x
        have hzy := str_size y
        have hzz := str_size z.f2
        have HZX := Aside0.mk hzx
        have HZY := Aside0.mk hzy
        have HZZ := Aside0.mk hzz
        clear hzx hzy hzz
        rcases (by omega : k = 0 ∨ k = 1 ∨ k = 2 ∨ k = 3 ∨ k = 4 ∨ k = 5) with rfl | rfl | rfl | rfl | rfl | rfl
        · by_cases hfit : x.length + y.length + z.f2.length ≤ room
          · have HF := Aside0.mk (show (strOfNums x).size + (strOfNums y).size + (strOfNums z.f2).size ≤ room by rw [HZX.out, HZY.out, HZZ.out]; omega)
            have HF2 := Aside0.mk (show (x ++ y).length + z.f2.length ≤ room by rw [List.length_append]; omega)
            go_wp2_with (first | (go_at_call 53; refine (ref_write_ok room (strOfNums x) (strOfNums y) (strOfNums z.f2) HF.out hmost _).mono ?_; rintro e w6 ⟨he, hb⟩; rw [str_append] at he; subst he; have HX6 := Lib.hid (HX1.out.next hb); have hb6 := hb; obtain ⟨p0, p1, p2, q0, q1, q2, pl⟩ := HX6.out.cells; have hs6 := (hb.block S (blk_lt HSB.out)).trans HSB.out; have t1 := (blk_cell hs6 1).trans rfl; have t2 := (blk_cell hs6 2).trans rfl; have hsl := blk_lt hs6; have HC6 := Aside0.mk (Kd.C_below HC5.out hb); clear hb hb6 hs6) | (go_at_call 38; refine (write_ok (HX6.out.store _ _ _).d ?hok A2 c2 z.f2 (HX6.out.storeC _ _ _ HC6.out) HO2.out HF2.out).mono ?_; (case hok => exact fun k hk => Nat.le_trans (HX6.out.store _ _ _).hs hk); rintro e w7 ⟨rfl, hd, hm⟩; have HX7 := Lib.hid ((by have h := (HX6.out.store _ _ _).moved hd hm; rw [List.append_assoc] at h; exact h : Play w w7 N3 g R room x.length (x ++ (y ++ z.f2)) (strOfNums x) (strOfNums (y ++ z.f2)) (.slice (some ad) l.length c3) l)); clear HX6))
            go_meet
            exact ⟨rfl, Lib.hid ⟨_, _, HX7.out⟩⟩
          · have HF := Aside0.mk (show room < (strOfNums x).size + (strOfNums y).size + (strOfNums z.f2).size by rw [HZX.out, HZY.out, HZZ.out]; omega)
            have HF1 := Aside0.mk (show (strOfNums x).size + (strOfNums y).size ≤ 1048576 by rw [HZX.out, HZY.out]; omega)
            have HF3 := Aside0.mk (show (strOfNums z.f2).size ≤ 1000000 by rw [HZZ.out]; omega)
            have HF2 := Aside0.mk (show room < (x ++ y).length + z.f2.length by rw [List.length_append]; omega)
            have hl63 : z.f2.length ≤ 9223372036854775807 := by omega
            clear hfit
            go_wp2_with (first | (go_at_call 53; refine (ref_write_full room (strOfNums x) (strOfNums y) (strOfNums z.f2) HF.out HF1.out HF3.out _).mono ?_; rintro e w6 ⟨he, hb⟩; subst he; have HX6 := Lib.hid (HX1.out.next hb); have hb6 := hb; obtain ⟨p0, p1, p2, q0, q1, q2, pl⟩ := HX6.out.cells; have hs6 := (hb.block S (blk_lt HSB.out)).trans HSB.out; have t1 := (blk_cell hs6 1).trans rfl; have t2 := (blk_cell hs6 2).trans rfl; have hsl := blk_lt hs6; have HC6 := Aside0.mk (Kd.C_below HC5.out hb); clear hb hb6 hs6) | (go_at_call 38; refine (write_full (HX6.out.store _ _ _).d A2 c2 z.f2 hl63 HF2.out).mono ?_; rintro e w7 ⟨rfl, nd, rfl⟩; have HX7 := Lib.hid ((HX6.out.store (Obj.cells #[.int .i64 (room : Int), .string (strOfNums x), .string (strOfNums y)] 48) (strOfNums x) (strOfNums y)).drewN nd); clear HX6))
            go_meet
            exact ⟨rfl, Lib.hid ⟨_, _, HX7.out⟩⟩
        · by_cases hfit : x.length + y.length + z.f2.length ≤ room
          · have HF := Aside0.mk (show (strOfNums x).size + (strOfNums y).size + (strOfNums z.f2).size ≤ room by rw [HZX.out, HZY.out, HZZ.out]; omega)
            have HF2 := Aside0.mk (show (x ++ y).length + z.f2.length ≤ room by rw [List.length_append]; omega)
            go_wp2_with (first | (go_at_call 53; refine (ref_write_ok room (strOfNums x) (strOfNums y) (strOfNums z.f2) HF.out hmost _).mono ?_; rintro e w6 ⟨he, hb⟩; rw [str_append] at he; subst he; have HX6 := Lib.hid (HX1.out.next hb); have hb6 := hb; obtain ⟨p0, p1, p2, q0, q1, q2, pl⟩ := HX6.out.cells; have hs6 := (hb.block S (blk_lt HSB.out)).trans HSB.out; have t1 := (blk_cell hs6 1).trans rfl; have t2 := (blk_cell hs6 2).trans rfl; have hsl := blk_lt hs6; have HC6 := Aside0.mk (Kd.C_below HC5.out hb); clear hb hb6 hs6) | (go_at_call 38; refine (write_ok (HX6.out.store _ _ _).d ?hok A2 c2 z.f2 (HX6.out.storeC _ _ _ HC6.out) HO2.out HF2.out).mono ?_; (case hok => exact fun k hk => Nat.le_trans (HX6.out.store _ _ _).hs hk); rintro e w7 ⟨rfl, hd, hm⟩; have HX7 := Lib.hid ((by have h := (HX6.out.store _ _ _).moved hd hm; rw [List.append_assoc] at h; exact h : Play w w7 N3 g R room x.length (x ++ (y ++ z.f2)) (strOfNums x) (strOfNums (y ++ z.f2)) (.slice (some ad) l.length c3) l)); clear HX6))
            go_meet
            exact ⟨rfl, Lib.hid ⟨_, _, HX7.out⟩⟩
          · have HF := Aside0.mk (show room < (strOfNums x).size + (strOfNums y).size + (strOfNums z.f2).size by rw [HZX.out, HZY.out, HZZ.out]; omega)
            have HF1 := Aside0.mk (show (strOfNums x).size + (strOfNums y).size ≤ 1048576 by rw [HZX.out, HZY.out]; omega)
            have HF3 := Aside0.mk (show (strOfNums z.f2).size ≤ 1000000 by rw [HZZ.out]; omega)
            have HF2 := Aside0.mk (show room < (x ++ y).length + z.f2.length by rw [List.length_append]; omega)
            have hl63 : z.f2.length ≤ 9223372036854775807 := by omega
            clear hfit
            go_wp2_with (first | (go_at_call 53; refine (ref_write_full room (strOfNums x) (strOfNums y) (strOfNums z.f2) HF.out HF1.out HF3.out _).mono ?_; rintro e w6 ⟨he, hb⟩; subst he; have HX6 := Lib.hid (HX1.out.next hb); have hb6 := hb; obtain ⟨p0, p1, p2, q0, q1, q2, pl⟩ := HX6.out.cells; have hs6 := (hb.block S (blk_lt HSB.out)).trans HSB.out; have t1 := (blk_cell hs6 1).trans rfl; have t2 := (blk_cell hs6 2).trans rfl; have hsl := blk_lt hs6; have HC6 := Aside0.mk (Kd.C_below HC5.out hb); clear hb hb6 hs6) | (go_at_call 38; refine (write_full (HX6.out.store _ _ _).d A2 c2 z.f2 hl63 HF2.out).mono ?_; rintro e w7 ⟨rfl, nd, rfl⟩; have HX7 := Lib.hid ((HX6.out.store (Obj.cells #[.int .i64 (room : Int), .string (strOfNums x), .string (strOfNums y)] 48) (strOfNums x) (strOfNums y)).drewN nd); clear HX6))
            go_meet
            exact ⟨rfl, Lib.hid ⟨_, _, HX7.out⟩⟩
        · have HF := Aside0.mk (show (strOfNums x).size + (strOfNums y).size ≤ 1048576 by rw [HZX.out, HZY.out]; omega)
          go_wp2_with (first | (go_at_call 54; refine (ref_sync (room : Int) (strOfNums x) (strOfNums y) HF.out _).mono ?_; rintro e w6 ⟨he, hb⟩; rw [str_append, HZY.out] at he; subst he; have HX6 := Lib.hid (HX1.out.next hb); have hb6 := hb; obtain ⟨p0, p1, p2, q0, q1, q2, pl⟩ := HX6.out.cells; have hs6 := (hb.block S (blk_lt HSB.out)).trans HSB.out; have t1 := (blk_cell hs6 1).trans rfl; have t2 := (blk_cell hs6 2).trans rfl; have hsl := blk_lt hs6; have HC6 := Aside0.mk (Kd.C_below HC5.out hb); clear hb hb6 hs6) | (go_at_call 39; refine (sync_two (HX6.out.store _ _ _).d).mono ?_; rintro e w7 ⟨rfl, hd, hm⟩; have HX7 := Lib.hid ((by have h := (HX6.out.store _ _ _).moved hd hm; rw [← List.append_nil (x ++ y)] at h; exact (by rw [List.append_nil] at h; rw [List.append_nil]; exact h) : Play w w7 N3 g R room (x ++ y).length ((x ++ y) ++ []) (strOfNums (x ++ y)) (strOfNums []) (.slice (some ad) l.length c3) l)); clear HX6))
          go_meet
          exact ⟨rfl, Lib.hid ⟨_, _, HX7.out⟩⟩
        · obtain ⟨q, hq⟩ : ∃ q, keepOf z.f1 y.length = q := ⟨_, rfl⟩
          have HQ := Aside0.mk hq
          have HQ2 := Aside0.mk (show keepOf z.f1 (strOfNums y).size = q by rw [HZY.out]; exact hq)
          have HF := Aside0.mk (show (strOfNums x).size + (strOfNums y).size ≤ 1000000000 by rw [HZX.out, HZY.out]; omega)
          clear hq
          go_wp2_with (first | (go_at_call 55; refine (ref_crash (room : Int) (strOfNums x) (strOfNums y) z.f1 q HQ2.out HF.out _).mono ?_; rintro e w6 ⟨he, hb⟩; rw [str_take, str_append, HZY.out] at he; subst he; have HX6 := Lib.hid (HX1.out.next hb); have hb6 := hb; obtain ⟨p0, p1, p2, q0, q1, q2, pl⟩ := HX6.out.cells; have hs6 := (hb.block S (blk_lt HSB.out)).trans HSB.out; have t1 := (blk_cell hs6 1).trans rfl; have t2 := (blk_cell hs6 2).trans rfl; have hsl := blk_lt hs6; have HC6 := Aside0.mk (Kd.C_below HC5.out hb); clear hb hb6 hs6) | (go_at_call 40; refine (crash_two (HX6.out.store _ _ _).d HQ.out).mono ?_; rintro e w7 ⟨rfl, hd, hm⟩; have HX7 := Lib.hid ((by have h := (HX6.out.store _ _ _).moved hd hm; rw [List.append_nil]; exact h : Play w w7 N3 g R room (x ++ y.take q).length ((x ++ y.take q) ++ []) (strOfNums (x ++ y.take q)) (strOfNums []) (.slice (some ad) l.length c3) l)); clear HX6))
          go_meet
          exact ⟨rfl, Lib.hid ⟨_, _, HX7.out⟩⟩
        · by_cases hin : 0 ≤ z.f1 ∧ z.f1 ≤ ((x ++ y).length : Int)
          · obtain ⟨q, hq⟩ := Int.eq_ofNat_of_zero_le hin.1
            have HQ := Aside0.mk hq
            have HQ2 := Aside0.mk (show q ≤ (x ++ y).length by omega)
            have HQ3 := Aside0.mk (show q ≤ (strOfNums (x ++ y)).size by rw [str_size]; omega)
            have HF := Aside0.mk (show (strOfNums x).size + (strOfNums y).size ≤ 1000000000 by rw [HZX.out, HZY.out]; omega)
            have HQL := Aside0.mk (show ((x ++ y).take q).length = q by rw [List.length_take]; omega)
            clear hin hq
            go_wp2_with (first | (go_at_call 56; refine (ref_cut_ok (room : Int) (strOfNums x) (strOfNums y) (strOfNums (x ++ y)) z.f1 q HQ.out HF.out (str_append x y) HQ3.out _).mono ?_; rintro e w6 ⟨he, hb⟩; rw [str_take] at he; subst he; have HX6 := Lib.hid (HX1.out.next hb); have hb6 := hb; obtain ⟨p0, p1, p2, q0, q1, q2, pl⟩ := HX6.out.cells; have hs6 := (hb.block S (blk_lt HSB.out)).trans HSB.out; have t1 := (blk_cell hs6 1).trans rfl; have t2 := (blk_cell hs6 2).trans rfl; have hsl := blk_lt hs6; have HC6 := Aside0.mk (Kd.C_below HC5.out hb); clear hb hb6 hs6) | (go_at_call 57; refine (cut_int z.f1 q HQ.out (HX6.out.store _ _ _).d HQ2.out).mono ?_; rintro e w7 ⟨rfl, hd, hm⟩; have HX7 := Lib.hid ((by have h := (HX6.out.store _ _ _).moved hd hm; rw [List.append_nil, HQL.out]; exact h : Play w w7 N3 g R room ((x ++ y).take q).length (((x ++ y).take q) ++ []) (strOfNums ((x ++ y).take q)) (strOfNums []) (.slice (some ad) l.length c3) l)); clear HX6))
            go_meet
            exact ⟨rfl, Lib.hid ⟨_, _, HX7.out⟩⟩
          · have HQ := Aside0.mk (show z.f1 < 0 ∨ ((x ++ y).length : Int) < z.f1 by omega)
            have HQ3 := Aside0.mk (show z.f1 < 0 ∨ ((strOfNums (x ++ y)).size : Int) < z.f1 by rw [str_size]; omega)
            have HF := Aside0.mk (show (strOfNums x).size + (strOfNums y).size ≤ 1000000000 by rw [HZX.out, HZY.out]; omega)
            clear hin
            go_wp2_with (first | (go_at_call 56; refine (ref_cut_bad (room : Int) (strOfNums x) (strOfNums y) (strOfNums (x ++ y)) z.f1 HF.out (str_append x y) HQ3.out _).mono ?_; rintro e w6 ⟨he, hb⟩; subst he; have HX6 := Lib.hid (HX1.out.next hb); have hb6 := hb; obtain ⟨p0, p1, p2, q0, q1, q2, pl⟩ := HX6.out.cells; have hs6 := (hb.block S (blk_lt HSB.out)).trans HSB.out; have t1 := (blk_cell hs6 1).trans rfl; have t2 := (blk_cell hs6 2).trans rfl; have hsl := blk_lt hs6; have HC6 := Aside0.mk (Kd.C_below HC5.out hb); clear hb hb6 hs6) | (go_at_call 57; refine (cut_bad z.f1 (HX6.out.store _ _ _).d HQ.out).mono ?_; rintro e w7 ⟨rfl, rfl⟩; have HX7 := Lib.hid ((HX6.out.store (Obj.cells #[.int .i64 (room : Int), .string (strOfNums x), .string (strOfNums y)] 48) (strOfNums x) (strOfNums y))); clear HX6))
            go_meet
            exact ⟨rfl, Lib.hid ⟨_, _, HX7.out⟩⟩
        · by_cases hodd : z.f1.tmod 2 = 0
          · skip
            go_wp2_with fail
            go_meet
            exact ⟨rfl, Lib.hid ⟨_, _, HX1.out⟩⟩
          · by_cases hfit : z.f2.length ≤ room
            · have HF := Aside0.mk (show (strOfNums z.f2).size ≤ room by rw [HZZ.out]; omega)
              have HF2 := Aside0.mk hfit
              clear hfit
              go_wp2_with (first | (go_at_call 58; refine (ref_swap_ok room (strOfNums x) (strOfNums y) (strOfNums z.f2) HF.out _).mono ?_; rintro e w6 ⟨he, hb⟩; subst he; have HX6 := Lib.hid (HX1.out.next hb); have hb6 := hb; obtain ⟨p0, p1, p2, q0, q1, q2, pl⟩ := HX6.out.cells; have hs6 := (hb.block S (blk_lt HSB.out)).trans HSB.out; have t1 := (blk_cell hs6 1).trans rfl; have t2 := (blk_cell hs6 2).trans rfl; have hsl := blk_lt hs6; have HC6 := Aside0.mk (Kd.C_below HC5.out hb); clear hb hb6 hs6) | (go_at_call 49; refine (swap_ok (HX6.out.store _ _ _).d ?hok A2 c2 z.f2 (HX6.out.storeC _ _ _ HC6.out) HO2.out HF2.out).mono ?_; (case hok => exact fun k hk => Nat.le_trans (HX6.out.store _ _ _).hs hk); rintro e w7 ⟨rfl, hd, hm⟩; have HX7 := Lib.hid ((by have h := (HX6.out.store _ _ _).moved hd hm; rw [List.append_nil]; exact h : Play w w7 N3 g R room z.f2.length (z.f2 ++ []) (strOfNums z.f2) (strOfNums []) (.slice (some ad) l.length c3) l)); clear HX6))
              go_meet
              exact ⟨rfl, Lib.hid ⟨_, _, HX7.out⟩⟩
            · have HF := Aside0.mk (show room < (strOfNums z.f2).size by rw [HZZ.out]; omega)
              have HF2 := Aside0.mk (show room < z.f2.length by omega)
              have hl63 : z.f2.length ≤ 9223372036854775807 := by omega
              clear hfit
              go_wp2_with (first | (go_at_call 58; refine (ref_swap_full room (strOfNums x) (strOfNums y) (strOfNums z.f2) HF.out _).mono ?_; rintro e w6 ⟨he, hb⟩; subst he; have HX6 := Lib.hid (HX1.out.next hb); have hb6 := hb; obtain ⟨p0, p1, p2, q0, q1, q2, pl⟩ := HX6.out.cells; have hs6 := (hb.block S (blk_lt HSB.out)).trans HSB.out; have t1 := (blk_cell hs6 1).trans rfl; have t2 := (blk_cell hs6 2).trans rfl; have hsl := blk_lt hs6; have HC6 := Aside0.mk (Kd.C_below HC5.out hb); clear hb hb6 hs6) | (go_at_call 49; refine (swap_full (HX6.out.store _ _ _).d A2 c2 z.f2 hl63 HF2.out).mono ?_; rintro e w7 ⟨rfl, rfl⟩; have HX7 := Lib.hid ((HX6.out.store (Obj.cells #[.int .i64 (room : Int), .string (strOfNums x), .string (strOfNums y)] 48) (strOfNums x) (strOfNums y))); clear HX6))
              go_meet
              exact ⟨rfl, Lib.hid ⟨_, _, HX7.out⟩⟩
      case rest =>
        obtain ⟨rfl, hp⟩ := hcut
        clear HX1 HC5 HSB hxy hSR hRS
        obtain ⟨x, y, hx⟩ := hp.out
        have HX1 := Lib.hid hx
        have hxy := hx.d.roomLe
        rw [List.length_append] at hxy
        obtain ⟨p0, p1, p2, _, _, _, _⟩ := hx.cells
        have hzx := str_size x
        have hzy := str_size y
        clear hx hp
        go_wp2
        have HX2 := Lib.hid HX1.out.drew
        clear HX1 p0 p1 p2
        have hcat := str_append x y
        have hbig : (9223372036854775807 < x.length + y.length) = False := by simp; omega
        have hla : (x ++ y).length = x.length + y.length := List.length_append
        have HLA := Aside0.mk hla
        have hw1 : IntKind.i64.wrap ((room : Int) - ((x.length : Int) + (y.length : Int))) = (room : Int) - ((x.length : Int) + (y.length : Int)) := IntWalk.i64_in _ (by omega)
        have hw2 : wrap64 ((room : Int) - ((x.length : Int) + (y.length : Int))) = (room : Int) - ((x.length : Int) + (y.length : Int)) := by unfold wrap64; omega
        have HRM := Aside0.mk (show (room : Int) - ((x ++ y).length : Int) = (room : Int) - ((x.length : Int) + (y.length : Int)) by rw [hla]; omega)
        have HLN := Aside0.mk (show ((x ++ y).length : Int) = (x.length : Int) + (y.length : Int) by rw [hla]; omega)
        clear hla
        refine start_ (n := 36) (S := fun w' => w'.cell? ⟨R, 0, none⟩ = some (.int .i64 (room : Int)) ∧ w'.cell? ⟨R, 1, none⟩ = some (.string (strOfNums x)) ∧ w'.cell? ⟨R, 2, none⟩ = some (.string (strOfNums y))) (ds := []) #[false, false, false, false, false, false, false, false, false, false, false, false, false, false, false, false, false, false, false, false, false, false, false, false, false, false, false, false, false, false, false, false, false, false, false, false] (by kernel_rfl) rfl rfl ⟨HX2.out.cells.1, HX2.out.cells.2.1, HX2.out.cells.2.2.1⟩ (fun hHeld => ?_)
        refine pure_ (i := 0) (N := some 131) (v := ?_) (a' := ?_) #[true, false, false, false, false, false, false, false, false, false, false, false, false, false, false, false, false, false, false, false, false, false, false, false, false, false, false, false, false, false, false, false, false, false, false, false] rfl rfl (by kernel_rfl) (fun _ _ _ h => h) (Or.inl ⟨by rfl, ?_⟩) ?_ ?_
        rotate_left
        · intro w'
          go_simp
          with_reducible rfl
        rotate_left
        · simp only [Act.put, List.setIfInBounds_toArray, List.set_cons_zero, List.set_cons_succ, i64_w, i32_w]
          rfl
        refine pure_ (i := 1) (N := some 132) (v := ?_) (a' := ?_) #[true, true, false, false, false, false, false, false, false, false, false, false, false, false, false, false, false, false, false, false, false, false, false, false, false, false, false, false, false, false, false, false, false, false, false, false] rfl rfl (by kernel_rfl) (fun _ _ _ h => h) (Or.inl ⟨by rfl, ?_⟩) ?_ ?_
        rotate_left
        · intro w'
          go_simp
          with_reducible rfl
        rotate_left
        · simp only [Act.put, List.setIfInBounds_toArray, List.set_cons_zero, List.set_cons_succ, i64_w, i32_w]
          rfl
        refine pure_ (i := 2) (N := some 133) (v := ?_) (a' := ?_) #[true, true, true, false, false, false, false, false, false, false, false, false, false, false, false, false, false, false, false, false, false, false, false, false, false, false, false, false, false, false, false, false, false, false, false, false] rfl rfl (by kernel_rfl) (fun _ _ _ h => h) (Or.inl ⟨by rfl, ?_⟩) ?_ ?_
        rotate_left
        · intro w'
          go_simp
          with_reducible rfl
        rotate_left
        · simp only [Act.put, List.setIfInBounds_toArray, List.set_cons_zero, List.set_cons_succ, i64_w, i32_w]
          rfl
        refine pure_ (i := 3) (N := some 134) (v := ?_) (a' := ?_) #[true, true, true, true, false, false, false, false, false, false, false, false, false, false, false, false, false, false, false, false, false, false, false, false, false, false, false, false, false, false, false, false, false, false, false, false] rfl rfl (by kernel_rfl) (fun _ _ _ h => h) (Or.inl ⟨by rfl, ?_⟩) ?_ ?_
        rotate_left
        · intro w'
          go_simp
          with_reducible rfl
        rotate_left
        · simp only [Act.put, List.setIfInBounds_toArray, List.set_cons_zero, List.set_cons_succ, i64_w, i32_w]
          rfl
        refine pure_ (i := 6) (N := some 137) (v := ?_) (a' := ?_) #[true, true, true, true, false, false, true, false, false, false, false, false, false, false, false, false, false, false, false, false, false, false, false, false, false, false, false, false, false, false, false, false, false, false, false, false] rfl rfl (by kernel_rfl) (fun _ _ _ h => h) (Or.inl ⟨by rfl, ?_⟩) ?_ ?_
        rotate_left
        · intro w'
          go_simp
          with_reducible rfl
        rotate_left
        · simp only [Act.put, List.setIfInBounds_toArray, List.set_cons_zero, List.set_cons_succ, i64_w, i32_w]
          rfl
        refine pure_ (i := 8) (N := some 139) (v := ?_) (a' := ?_) #[true, true, true, true, false, false, true, false, true, false, false, false, false, false, false, false, false, false, false, false, false, false, false, false, false, false, false, false, false, false, false, false, false, false, false, false] rfl rfl (by kernel_rfl) (fun _ _ _ h => h) (Or.inl ⟨by rfl, ?_⟩) ?_ ?_
        rotate_left
        · intro w'
          go_simp
          with_reducible rfl
        rotate_left
        · simp only [Act.put, List.setIfInBounds_toArray, List.set_cons_zero, List.set_cons_succ, i64_w, i32_w]
          rfl
        refine take_ (i := 7) (N := some 138) (v := ?_) (a' := ?_) #[true, true, true, true, false, false, true, true, true, false, false, false, false, false, false, false, false, false, false, false, false, false, false, false, false, false, false, false, false, false, false, false, false, false, false, false] rfl rfl (by kernel_rfl) (fun _ _ _ h => h) (Or.inl ⟨by rfl, ?_⟩) hHeld ?_ ?_
        rotate_left
        · rintro w' ⟨s0, s1, s2⟩
          go_simp
          with_reducible rfl
        rotate_left
        · simp only [Act.put, List.setIfInBounds_toArray, List.set_cons_zero, List.set_cons_succ, i64_w, i32_w]
          rfl
        refine take_ (i := 9) (N := some 140) (v := ?_) (a' := ?_) #[true, true, true, true, false, false, true, true, true, true, false, false, false, false, false, false, false, false, false, false, false, false, false, false, false, false, false, false, false, false, false, false, false, false, false, false] rfl rfl (by kernel_rfl) (fun _ _ _ h => h) (Or.inl ⟨by rfl, ?_⟩) hHeld ?_ ?_
        rotate_left
        · rintro w' ⟨s0, s1, s2⟩
          go_simp
          with_reducible rfl
        rotate_left
        · simp only [Act.put, List.setIfInBounds_toArray, List.set_cons_zero, List.set_cons_succ, i64_w, i32_w]
          rfl
        refine pure_ (i := 10) (N := some 141) (v := ?_) (a' := ?_) #[true, true, true, true, false, false, true, true, true, true, true, false, false, false, false, false, false, false, false, false, false, false, false, false, false, false, false, false, false, false, false, false, false, false, false, false] rfl rfl (by kernel_rfl) (fun _ _ _ h => h) (Or.inl ⟨by rfl, ?_⟩) ?_ ?_
        rotate_left
        · intro w'
          go_simp
          with_reducible rfl
        rotate_left
        · simp only [Act.put, List.setIfInBounds_toArray, List.set_cons_zero, List.set_cons_succ, i64_w, i32_w]
          rfl
        refine one_ (i := 4) (N := some 135) #[true, true, true, true, true, false, true, true, true, true, true, false, false, false, false, false, false, false, false, false, false, false, false, false, false, false, false, false, false, false, false, false, false, false, false, false] rfl rfl (by kernel_rfl) (by decide) (fun K hK => ?_)
        refine goes_ Try.func41 (by kernel_rfl) rfl #[.pointer (some ⟨g, 0, none⟩)] (by rfl) rfl rfl (by simp only [List.map_toArray, List.map_cons, List.map_nil]; rfl) ?_
        with_reducible refine (all_any HX2.out.d).mono ?_
        rintro e w8 ⟨v, rfl, ho, hb⟩
        refine ⟨_, rfl, ?_⟩
        obtain ⟨A, c, hv, hl, hC⟩ := Kd.R_reads ho
        rw [hv, HLA.out]
        have hcv := Kd.C_string (P := Try.prog) (A := A) (c := c) Try.underlying22 Try.underlying5 Try.underlying9 hC
        rw [HLA.out] at hcv
        have HX3 := Lib.hid (HX2.out.next hb)
        clear hv hl hC ho hb HX2
        refine hK.out _ _ ⟨HX3.out.cells.1, HX3.out.cells.2.1, HX3.out.cells.2.2.1⟩ (fun hHeld => ?_)
        clear hK K
        refine norm_ (a' := ?_) ?_ ?_
        rotate_left
        · show Act.put _ (some 135) _ = _
          simp only [Act.put, List.setIfInBounds_toArray, List.set_cons_zero, List.set_cons_succ, i64_w, i32_w]
          rfl
        refine one_ (i := 5) (N := some 136) #[true, true, true, true, true, true, true, true, true, true, true, false, false, false, false, false, false, false, false, false, false, false, false, false, false, false, false, false, false, false, false, false, false, false, false, false] rfl rfl (by kernel_rfl) (by decide) (fun K hK => ?_)
        refine value_ (w1 := ?_) (v := ?_) (by rfl) rfl ?_ ?_
        rotate_left 2
        · go_simp
          constructor
          · rfl
          · rfl
        refine hK.out _ _ ⟨HX3.out.cells.1, HX3.out.cells.2.1, HX3.out.cells.2.2.1⟩ (fun hHeld => ?_)
        clear hK K
        refine norm_ (a' := ?_) ?_ ?_
        rotate_left
        · show Act.put _ (some 136) _ = _
          simp only [Act.put, List.setIfInBounds_toArray, List.set_cons_zero, List.set_cons_succ, i64_w, i32_w]
          rfl
        refine pure_ (i := 11) (N := some 142) (v := ?_) (a' := ?_) #[true, true, true, true, true, true, true, true, true, true, true, true, false, false, false, false, false, false, false, false, false, false, false, false, false, false, false, false, false, false, false, false, false, false, false, false] rfl rfl (by kernel_rfl) (fun _ _ _ h => h) (Or.inl ⟨by rfl, ?_⟩) ?_ ?_
        rotate_left
        · intro w'
          go_simp
          with_reducible rfl
        rotate_left
        · simp only [Act.put, List.setIfInBounds_toArray, List.set_cons_zero, List.set_cons_succ, i64_w, i32_w]
          rfl
        refine pure_ (i := 12) (N := some 143) (v := ?_) (a' := ?_) #[true, true, true, true, true, true, true, true, true, true, true, true, true, false, false, false, false, false, false, false, false, false, false, false, false, false, false, false, false, false, false, false, false, false, false, false] rfl rfl (by kernel_rfl) (fun _ _ _ h => h) (Or.inl ⟨by rfl, ?_⟩) ?_ ?_
        rotate_left
        · intro w'
          go_simp
          with_reducible rfl
        rotate_left
        · simp only [Act.put, List.setIfInBounds_toArray, List.set_cons_zero, List.set_cons_succ, i64_w, i32_w]
          rfl
        refine pure_ (i := 13) (N := some 144) (v := ?_) (a' := ?_) #[true, true, true, true, true, true, true, true, true, true, true, true, true, true, false, false, false, false, false, false, false, false, false, false, false, false, false, false, false, false, false, false, false, false, false, false] rfl rfl (by kernel_rfl) (fun _ _ _ h => h) (Or.inl ⟨by rfl, ?_⟩) ?_ ?_
        rotate_left
        · intro w'
          go_simp
          with_reducible rfl
        rotate_left
        · simp only [Act.put, List.setIfInBounds_toArray, List.set_cons_zero, List.set_cons_succ, i64_w, i32_w]
          rfl
        refine pure_ (i := 14) (N := some 145) (v := ?_) (a' := ?_) #[true, true, true, true, true, true, true, true, true, true, true, true, true, true, true, false, false, false, false, false, false, false, false, false, false, false, false, false, false, false, false, false, false, false, false, false] rfl rfl (by kernel_rfl) (fun _ _ _ h => h) (Or.inl ⟨by rfl, ?_⟩) ?_ ?_
        rotate_left
        · intro w'
          go_simp
          with_reducible rfl
        rotate_left
        · simp only [Act.put, List.setIfInBounds_toArray, List.set_cons_zero, List.set_cons_succ, i64_w, i32_w]
          rfl
        refine pure_ (i := 16) (N := some 147) (v := ?_) (a' := ?_) #[true, true, true, true, true, true, true, true, true, true, true, true, true, true, true, false, true, false, false, false, false, false, false, false, false, false, false, false, false, false, false, false, false, false, false, false] rfl rfl (by kernel_rfl) (fun _ _ _ h => h) (Or.inl ⟨by rfl, ?_⟩) ?_ ?_
        rotate_left
        · intro w'
          go_simp
          with_reducible rfl
        rotate_left
        · simp only [Act.put, List.setIfInBounds_toArray, List.set_cons_zero, List.set_cons_succ, i64_w, i32_w]
          rfl
        refine one_ (i := 15) (N := some 146) #[true, true, true, true, true, true, true, true, true, true, true, true, true, true, true, true, true, false, false, false, false, false, false, false, false, false, false, false, false, false, false, false, false, false, false, false] rfl rfl (by kernel_rfl) (by decide) (fun K hK => ?_)
        refine goes_ Try.func43 (by kernel_rfl) rfl #[.pointer (some ⟨g, 0, none⟩)] (by rfl) rfl rfl (by simp only [List.map_toArray, List.map_cons, List.map_nil]; rfl) ?_
        with_reducible refine (len_xy HX3.out.d).mono ?_
        rintro e w9 ⟨rfl, rfl⟩
        refine ⟨_, rfl, ?_⟩
        refine hK.out _ _ ⟨HX3.out.cells.1, HX3.out.cells.2.1, HX3.out.cells.2.2.1⟩ (fun hHeld => ?_)
        clear hK K
        refine norm_ (a' := ?_) ?_ ?_
        rotate_left
        · show Act.put _ (some 146) _ = _
          simp only [Act.put, List.setIfInBounds_toArray, List.set_cons_zero, List.set_cons_succ, i64_w, i32_w]
          rfl
        refine pure_ (i := 17) (N := some 148) (v := ?_) (a' := ?_) #[true, true, true, true, true, true, true, true, true, true, true, true, true, true, true, true, true, true, false, false, false, false, false, false, false, false, false, false, false, false, false, false, false, false, false, false] rfl rfl (by kernel_rfl) (fun _ _ _ h => h) (Or.inl ⟨by rfl, ?_⟩) ?_ ?_
        rotate_left
        · intro w'
          go_simp
          with_reducible rfl
        rotate_left
        · simp only [Act.put, List.setIfInBounds_toArray, List.set_cons_zero, List.set_cons_succ, i64_w, i32_w]
          rfl
        refine pure_ (i := 18) (N := some 149) (v := ?_) (a' := ?_) #[true, true, true, true, true, true, true, true, true, true, true, true, true, true, true, true, true, true, true, false, false, false, false, false, false, false, false, false, false, false, false, false, false, false, false, false] rfl rfl (by kernel_rfl) (fun _ _ _ h => h) (Or.inl ⟨by rfl, ?_⟩) ?_ ?_
        rotate_left
        · intro w'
          go_simp
          with_reducible rfl
        rotate_left
        · simp only [Act.put, List.setIfInBounds_toArray, List.set_cons_zero, List.set_cons_succ, i64_w, i32_w]
          rfl
        refine pure_ (i := 19) (N := some 150) (v := ?_) (a' := ?_) #[true, true, true, true, true, true, true, true, true, true, true, true, true, true, true, true, true, true, true, true, false, false, false, false, false, false, false, false, false, false, false, false, false, false, false, false] rfl rfl (by kernel_rfl) (fun _ _ _ h => h) (Or.inl ⟨by rfl, ?_⟩) ?_ ?_
        rotate_left
        · intro w'
          go_simp
          with_reducible rfl
        rotate_left
        · simp only [Act.put, List.setIfInBounds_toArray, List.set_cons_zero, List.set_cons_succ, i64_w, i32_w]
          rfl
        refine pure_ (i := 20) (N := some 151) (v := ?_) (a' := ?_) #[true, true, true, true, true, true, true, true, true, true, true, true, true, true, true, true, true, true, true, true, true, false, false, false, false, false, false, false, false, false, false, false, false, false, false, false] rfl rfl (by kernel_rfl) (fun _ _ _ h => h) (Or.inl ⟨by rfl, ?_⟩) ?_ ?_
        rotate_left
        · intro w'
          go_simp
          with_reducible rfl
        rotate_left
        · simp only [Act.put, List.setIfInBounds_toArray, List.set_cons_zero, List.set_cons_succ, i64_w, i32_w]
          rfl
        refine pure_ (i := 22) (N := some 153) (v := ?_) (a' := ?_) #[true, true, true, true, true, true, true, true, true, true, true, true, true, true, true, true, true, true, true, true, true, false, true, false, false, false, false, false, false, false, false, false, false, false, false, false] rfl rfl (by kernel_rfl) (fun _ _ _ h => h) (Or.inl ⟨by rfl, ?_⟩) ?_ ?_
        rotate_left
        · intro w'
          go_simp
          with_reducible rfl
        rotate_left
        · simp only [Act.put, List.setIfInBounds_toArray, List.set_cons_zero, List.set_cons_succ, i64_w, i32_w]
          rfl
        refine take_ (i := 23) (N := some 154) (v := ?_) (a' := ?_) #[true, true, true, true, true, true, true, true, true, true, true, true, true, true, true, true, true, true, true, true, true, false, true, true, false, false, false, false, false, false, false, false, false, false, false, false] rfl rfl (by kernel_rfl) (fun _ _ _ h => h) (Or.inl ⟨by rfl, ?_⟩) hHeld ?_ ?_
        rotate_left
        · rintro w' ⟨s0, s1, s2⟩
          go_simp
          with_reducible rfl
        rotate_left
        · simp only [Act.put, List.setIfInBounds_toArray, List.set_cons_zero, List.set_cons_succ, i64_w, i32_w]
          rfl
        refine pure_ (i := 24) (N := some 155) (v := ?_) (a' := ?_) #[true, true, true, true, true, true, true, true, true, true, true, true, true, true, true, true, true, true, true, true, true, false, true, true, true, false, false, false, false, false, false, false, false, false, false, false] rfl rfl (by kernel_rfl) (fun _ _ _ h => h) (Or.inl ⟨by rfl, ?_⟩) ?_ ?_
        rotate_left
        · intro w'
          go_simp
          with_reducible rfl
        rotate_left
        · simp only [Act.put, List.setIfInBounds_toArray, List.set_cons_zero, List.set_cons_succ, i64_w, i32_w]
          rfl
        refine one_ (i := 21) (N := some 152) #[true, true, true, true, true, true, true, true, true, true, true, true, true, true, true, true, true, true, true, true, true, true, true, true, true, false, false, false, false, false, false, false, false, false, false, false] rfl rfl (by kernel_rfl) (by decide) (fun K hK => ?_)
        refine goes_ Try.func42 (by kernel_rfl) rfl #[.pointer (some ⟨g, 0, none⟩)] (by rfl) rfl rfl (by simp only [List.map_toArray, List.map_cons, List.map_nil]; rfl) ?_
        with_reducible refine (safe_any HX3.out.d).mono ?_
        rintro e w9 ⟨rfl, rfl⟩
        refine ⟨_, rfl, ?_⟩
        refine hK.out _ _ ⟨HX3.out.cells.1, HX3.out.cells.2.1, HX3.out.cells.2.2.1⟩ (fun hHeld => ?_)
        clear hK K
        refine norm_ (a' := ?_) ?_ ?_
        rotate_left
        · show Act.put _ (some 152) _ = _
          simp only [Act.put, List.setIfInBounds_toArray, List.set_cons_zero, List.set_cons_succ, i64_w, i32_w]
          rfl
        refine pure_ (i := 25) (N := some 156) (v := ?_) (a' := ?_) #[true, true, true, true, true, true, true, true, true, true, true, true, true, true, true, true, true, true, true, true, true, true, true, true, true, true, false, false, false, false, false, false, false, false, false, false] rfl rfl (by kernel_rfl) (fun _ _ _ h => h) (Or.inl ⟨by rfl, ?_⟩) ?_ ?_
        rotate_left
        · intro w'
          go_simp
          with_reducible rfl
        rotate_left
        · simp only [Act.put, List.setIfInBounds_toArray, List.set_cons_zero, List.set_cons_succ, i64_w, i32_w]
          rfl
        refine pure_ (i := 26) (N := some 157) (v := ?_) (a' := ?_) #[true, true, true, true, true, true, true, true, true, true, true, true, true, true, true, true, true, true, true, true, true, true, true, true, true, true, true, false, false, false, false, false, false, false, false, false] rfl rfl (by kernel_rfl) (fun _ _ _ h => h) (Or.inl ⟨by rfl, ?_⟩) ?_ ?_
        rotate_left
        · intro w'
          go_simp
          with_reducible rfl
        rotate_left
        · simp only [Act.put, List.setIfInBounds_toArray, List.set_cons_zero, List.set_cons_succ, i64_w, i32_w]
          rfl
        refine pure_ (i := 27) (N := some 158) (v := ?_) (a' := ?_) #[true, true, true, true, true, true, true, true, true, true, true, true, true, true, true, true, true, true, true, true, true, true, true, true, true, true, true, true, false, false, false, false, false, false, false, false] rfl rfl (by kernel_rfl) (fun _ _ _ h => h) (Or.inl ⟨by rfl, ?_⟩) ?_ ?_
        rotate_left
        · intro w'
          go_simp
          with_reducible rfl
        rotate_left
        · simp only [Act.put, List.setIfInBounds_toArray, List.set_cons_zero, List.set_cons_succ, i64_w, i32_w]
          rfl
        refine pure_ (i := 28) (N := some 159) (v := ?_) (a' := ?_) #[true, true, true, true, true, true, true, true, true, true, true, true, true, true, true, true, true, true, true, true, true, true, true, true, true, true, true, true, true, false, false, false, false, false, false, false] rfl rfl (by kernel_rfl) (fun _ _ _ h => h) (Or.inl ⟨by rfl, ?_⟩) ?_ ?_
        rotate_left
        · intro w'
          go_simp
          with_reducible rfl
        rotate_left
        · simp only [Act.put, List.setIfInBounds_toArray, List.set_cons_zero, List.set_cons_succ, i64_w, i32_w]
          rfl
        refine pure_ (i := 30) (N := some 161) (v := ?_) (a' := ?_) #[true, true, true, true, true, true, true, true, true, true, true, true, true, true, true, true, true, true, true, true, true, true, true, true, true, true, true, true, true, false, true, false, false, false, false, false] rfl rfl (by kernel_rfl) (fun _ _ _ h => h) (Or.inl ⟨by rfl, ?_⟩) ?_ ?_
        rotate_left
        · intro w'
          go_simp
          with_reducible rfl
        rotate_left
        · simp only [Act.put, List.setIfInBounds_toArray, List.set_cons_zero, List.set_cons_succ, i64_w, i32_w]
          rfl
        refine pure_ (i := 32) (N := some 163) (v := ?_) (a' := ?_) #[true, true, true, true, true, true, true, true, true, true, true, true, true, true, true, true, true, true, true, true, true, true, true, true, true, true, true, true, true, false, true, false, true, false, false, false] rfl rfl (by kernel_rfl) (fun _ _ _ h => h) (Or.inl ⟨by rfl, ?_⟩) ?_ ?_
        rotate_left
        · intro w'
          go_simp
          with_reducible rfl
        rotate_left
        · simp only [Act.put, List.setIfInBounds_toArray, List.set_cons_zero, List.set_cons_succ, i64_w, i32_w]
          rfl
        refine take_ (i := 31) (N := some 162) (v := ?_) (a' := ?_) #[true, true, true, true, true, true, true, true, true, true, true, true, true, true, true, true, true, true, true, true, true, true, true, true, true, true, true, true, true, false, true, true, true, false, false, false] rfl rfl (by kernel_rfl) (fun _ _ _ h => h) (Or.inl ⟨by rfl, ?_⟩) hHeld ?_ ?_
        rotate_left
        · rintro w' ⟨s0, s1, s2⟩
          go_simp
          with_reducible rfl
        rotate_left
        · simp only [Act.put, List.setIfInBounds_toArray, List.set_cons_zero, List.set_cons_succ, i64_w, i32_w]
          rfl
        refine pure_ (i := 33) (N := some 164) (v := ?_) (a' := ?_) #[true, true, true, true, true, true, true, true, true, true, true, true, true, true, true, true, true, true, true, true, true, true, true, true, true, true, true, true, true, false, true, true, true, true, false, false] rfl rfl (by kernel_rfl) (fun _ _ _ h => h) (Or.inl ⟨by rfl, ?_⟩) ?_ ?_
        rotate_left
        · intro w'
          go_simp
          with_reducible rfl
        rotate_left
        · simp only [Act.put, List.setIfInBounds_toArray, List.set_cons_zero, List.set_cons_succ, i64_w, i32_w]
          rfl
        refine one_ (i := 29) (N := some 160) #[true, true, true, true, true, true, true, true, true, true, true, true, true, true, true, true, true, true, true, true, true, true, true, true, true, true, true, true, true, true, true, true, true, true, false, false] rfl rfl (by kernel_rfl) (by decide) (fun K hK => ?_)
        refine goes_ Try.func59 (by kernel_rfl) rfl #[.pointer (some ⟨g, 0, none⟩)] (by rfl) rfl rfl (by simp only [List.map_toArray, List.map_cons, List.map_nil]; rfl) ?_
        with_reducible refine (room_xy HX3.out.d).mono ?_
        rintro e w9 ⟨rfl, nd, rfl⟩
        refine ⟨_, rfl, ?_⟩
        have HX4 := Lib.hid (HX3.out.drewN nd)
        refine hK.out _ _ ⟨HX4.out.cells.1, HX4.out.cells.2.1, HX4.out.cells.2.2.1⟩ (fun hHeld => ?_)
        clear hK K
        refine norm_ (a' := ?_) ?_ ?_
        rotate_left
        · show Act.put _ (some 160) _ = _
          simp only [Act.put, List.setIfInBounds_toArray, List.set_cons_zero, List.set_cons_succ, i64_w, i32_w]
          rfl
        refine pure_ (i := 34) (N := some 165) (v := ?_) (a' := ?_) #[true, true, true, true, true, true, true, true, true, true, true, true, true, true, true, true, true, true, true, true, true, true, true, true, true, true, true, true, true, true, true, true, true, true, true, false] rfl rfl (by kernel_rfl) (fun _ _ _ h => h) (Or.inl ⟨by rfl, ?_⟩) ?_ ?_
        rotate_left
        · intro w'
          go_simp
          with_reducible rfl
        rotate_left
        · simp only [Act.put, List.setIfInBounds_toArray, List.set_cons_zero, List.set_cons_succ, i64_w, i32_w]
          rfl
        refine pure_ (i := 35) (N := some 166) (v := ?_) (a' := ?_) #[true, true, true, true, true, true, true, true, true, true, true, true, true, true, true, true, true, true, true, true, true, true, true, true, true, true, true, true, true, true, true, true, true, true, true, true] rfl rfl (by kernel_rfl) (fun _ _ _ h => h) (Or.inl ⟨by rfl, ?_⟩) ?_ ?_
        rotate_left
        · intro w'
          go_simp
          with_reducible rfl
        rotate_left
        · simp only [Act.put, List.setIfInBounds_toArray, List.set_cons_zero, List.set_cons_succ, i64_w, i32_w]
          rfl
        refine done_ (by kernel_rfl) ?_
        go_wp2
        go_roundw
        case rel => exact ⟨n + 1, by omega, by go_num, Lib.hid ⟨_, _, HX4.out⟩⟩
        case measure => simp [intOf]; omega
    · obtain rfl : n = l.length := by omega
      go_wp2
      go_ret
      exact ⟨rfl, HX.out.below⟩
end Go.Proofs.Ytbcienbnhchdeaa.Hand
