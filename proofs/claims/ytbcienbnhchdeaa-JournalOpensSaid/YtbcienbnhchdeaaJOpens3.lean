/- LawJournalOpens: the texts DiskPlays, JRef, JOpens, HandO, LawJournalOpens, joined: contracts of the functions that the statement reaches, and plain laws. -/
import Derived.Deep.DeepCutAuto
import Derived.Deep.CutBlock
import Derived.Deep.Matrix
import Derived.Test.YtbcienbnhchdeaaRows
import Derived.WalkKit
import Derived.ProofKit
import Derived.OpenShut
import Derived.ShutString
import Derived.ChangeOld
import Derived.Below
import Derived.SizedLaws
import Derived.Test.YtbcienbnhchdeaaJOpens0
import Derived.Test.YtbcienbnhchdeaaJOpens1
import Derived.Test.YtbcienbnhchdeaaJOpens2

/- A disk, in whatever row: the law's contract. -/
namespace Go.Proofs.Ytbcienbnhchdeaa.Hand
open Go Go.RowKit Go.Proofs.YtbcienbnhchdeaaW.PrintLast Go.Proofs.YtbcienbnhchdeaaW.PrintWords Go.Proofs.YtbcienbnhchdeaaW.PrintMore PrD
set_option linter.unusedVariables false
set_option linter.unusedSimpArgs false
attribute [local go_sem] max2_int min2_int max_two min_two

/-- A disk beside its second reading and a script. -/
structure Play (w wr : World) (N3 g R room safe : Nat) (bs : List Int) (sa sb : ByteArray) (v : Value) (l : List S52) : Prop where
  d : DiskAt wr g (fun k => N3 ≤ k) room safe bs
  r : wr.heap[R]? = some (.cells #[.int .i64 (room : Int), .string sa, .string sb] 48 (0, 0))
  s : Kd.V k52 52 wr 0 (fun k => k < N3 ∧ k ≠ g ∧ k ≠ R) v l
  hN : w.heap.size ≤ N3
  hg : w.heap.size ≤ g
  hR : w.heap.size ≤ R
  hR3 : R < N3
  hRg : R ≠ g
  below : Below w.heap.size w wr
  hs : N3 ≤ wr.heap.size
section
variable {w wr w1 : World} {N3 g R room safe safe' : Nat} {bs bs' : List Int} {sa sb : ByteArray} {v : Value} {l : List S52}
theorem Play.moved (h : Play w wr N3 g R room safe bs sa sb v l) (hd : DiskAt w1 g (fun k => N3 ≤ k) room safe' bs') (hm : Moved wr w1 (OfDisk g (fun k => N3 ≤ k))) : Play w w1 N3 g R room safe' bs' sa sb v l :=
  ⟨hd, (hm.kept.2 R (blk_lt h.r) (fun hS => hS.elim (fun e => h.hRg e) (fun e => by have := h.hR3; omega))).trans h.r, Kd.V_kept h.s hm.kept (fun k hk hS => hS.elim (fun e => hk.2.1 e) (fun e => by have := hk.1; omega)), h.hN, h.hg, h.hR, h.hR3, h.hRg,
    Moved.from_below h.below hm (fun k hk => hk.elim (fun e => by have := h.hg; omega) (fun e => by have := h.hN; omega)) h.below.size, Nat.le_trans h.hs hm.size⟩
theorem Play.next (h : Play w wr N3 g R room safe bs sa sb v l) (hb : Below wr.heap.size wr w1) : Play w w1 N3 g R room safe bs sa sb v l :=
  ⟨h.d.below hb, (hb.block R (blk_lt h.r)).trans h.r, Kd.V_below h.s hb, h.hN, h.hg, h.hR, h.hR3, h.hRg, below_step h.below hb, Nat.le_trans h.hs hb.size⟩
theorem Play.drewN (h : Play w wr N3 g R room safe bs sa sb v l) (n : Nat) : Play w (wr.drewN n) N3 g R room safe bs sa sb v l := ⟨h.d.drewN n, h.r, Kd.V_drewN h.s n, h.hN, h.hg, h.hR, h.hR3, h.hRg, pw_below_drewN h.below n, h.hs⟩
theorem Play.drew (h : Play w wr N3 g R room safe bs sa sb v l) : Play w wr.drew N3 g R room safe bs sa sb v l := ⟨h.d.drew, h.r, Kd.V_drew h.s, h.hN, h.hg, h.hR, h.hR3, h.hRg, below_drew h.below, h.hs⟩
/-- The second reading, stored anew. -/
theorem Play.store (h : Play w wr N3 g R room safe bs sa sb v l) (o : Obj) (sa' sb' : ByteArray) : Play w ((((wr.setCell ⟨R, 0, none⟩ (.int .i64 (room : Int))).setCell ⟨R, 1, none⟩ (.string sa')).setCell ⟨R, 2, none⟩ (.string sb')).alloc o) N3 g R room safe bs sa' sb' v l := by
  have b0 := blk_set h.r 0 (.int .i64 (room : Int))
  have b1 := blk_set b0 1 (.string sa')
  have b2 := blk_set b1 2 (.string sb')
  have m0 : Moved wr wr (fun k => k = R) := Moved.refl _ _
  have m1 := m0.setCell (p := ⟨R, 0, none⟩) (Or.inl rfl) (.int .i64 (room : Int))
  have m2 := m1.setCell (p := ⟨R, 1, none⟩) (Or.inl rfl) (.string sa')
  have hm := m2.setCell (p := ⟨R, 2, none⟩) (Or.inl rfl) (.string sb')
  have h1 : Play w (((wr.setCell ⟨R, 0, none⟩ (.int .i64 (room : Int))).setCell ⟨R, 1, none⟩ (.string sa')).setCell ⟨R, 2, none⟩ (.string sb')) N3 g R room safe bs sa' sb' v l :=
    ⟨h.d.kept hm.kept (fun e => h.hRg e.symm) (fun k hk e => by have := h.hR3; omega), b2, Kd.V_kept h.s hm.kept (fun k hk e => hk.2.2 e), h.hN, h.hg, h.hR, h.hR3, h.hRg, Moved.from_below h.below hm (fun k hk => by have := h.hR; omega) h.below.size, Nat.le_trans h.hs hm.size⟩
  exact h1.next (below_alloc (Below.refl _ _) o)
/-- The cells of the second reading. -/
theorem Play.cells (h : Play w wr N3 g R room safe bs sa sb v l) : wr.cell? ⟨R, 0, none⟩ = some (.int .i64 (room : Int)) ∧ wr.cell? ⟨R, 1, none⟩ = some (.string sa) ∧ wr.cell? ⟨R, 2, none⟩ = some (.string sb) ∧ wr.frozen? ⟨R, 0, none⟩ = false ∧ wr.frozen? ⟨R, 1, none⟩ = false ∧ wr.frozen? ⟨R, 2, none⟩ = false ∧ R < wr.heap.size :=
  ⟨(blk_cell h.r 0).trans rfl, (blk_cell h.r 1).trans rfl, (blk_cell h.r 2).trans rfl, blk_frozen h.r 0, blk_frozen h.r 1, blk_frozen h.r 2, blk_lt h.r⟩
end

/-- Bytes are none of the second reading's cells. -/
theorem C_store {W : World} {R : Nat} {u0 : Int} {s1 s2 : ByteArray} (hb : W.heap[R]? = some (.cells #[.int .i64 u0, .string s1, .string s2] 48 (0, 0))) {A : Option Addr} {xs : List Int} (h : Kd.C (Kd.int .u8) W A xs.length xs) (i : Nat) (u : Value) :
    Kd.C (Kd.int .u8) (W.setCell ⟨R, i, none⟩ u) A xs.length xs := by
  have hr : ReadsOf (Value.int .u8) (0 : Int) W A xs.length xs := Kd.reads_of_C h
  refine Kd.C_of_reads (enc := Value.int .u8) (d := (0 : Int)) (h1 := fun _ => rfl) ⟨hr.1, hr.2.1, fun hn => ?_⟩
  obtain ⟨ad, e, hc⟩ := hr.2.2 hn
  refine ⟨ad, e, fun j hj => ?_⟩
  have h1 := hc j hj
  have hne : (ad.add j).block ≠ R := by
    intro e2
    have h2 : W.heap[(ad.add j).block]? = some (.cells #[.int .i64 u0, .string s1, .string s2] 48 (0, 0)) := by rw [e2]; exact hb
    simp only [World.cell?, h2] at h1
    by_cases sp : (ad.add j).spot.isSome = true
    · rw [if_pos sp] at h1
      cases h1
    rw [if_neg sp] at h1
    generalize (ad.add j).off = o at h1
    match o, h1 with
    | 0, h1 => simp at h1
    | 1, h1 => simp at h1
    | 2, h1 => simp at h1
    | o + 3, h1 => simp at h1
  have h4 : (W.setCell ⟨R, i, none⟩ u).heap[(ad.add j).block]? = W.heap[(ad.add j).block]? := Below.heap_setCell W ⟨R, i, none⟩ u _ hne
  have h5 : (W.setCell ⟨R, i, none⟩ u).cell? (ad.add j) = W.cell? (ad.add j) := by simp only [World.cell?, h4]
  rw [h5]
  exact h1
theorem Play.storeC {w wr : World} {N3 g R room safe : Nat} {bs : List Int} {sa sb : ByteArray} {v : Value} {l : List S52} (h : Play w wr N3 g R room safe bs sa sb v l) (o : Obj) (sa' sb' : ByteArray) {A : Option Addr} {xs : List Int} (hC : Kd.C (Kd.int .u8) wr A xs.length xs) :
    Kd.C (Kd.int .u8) ((((wr.setCell ⟨R, 0, none⟩ (.int .i64 (room : Int))).setCell ⟨R, 1, none⟩ (.string sa')).setCell ⟨R, 2, none⟩ (.string sb')).alloc o) A xs.length xs := by
  have b0 := blk_set h.r 0 (.int .i64 (room : Int))
  have b1 := blk_set b0 1 (.string sa')
  exact Kd.C_alloc (C_store b1 (C_store b0 (C_store h.r hC 0 _) 1 _) 2 _) o
theorem str_take (l : List Int) (K : Nat) : (strOfNums l).extract 0 K = strOfNums (l.take K) := by
  unfold strOfNums
  apply ByteArray.ext
  simp only [ByteArray.data_extract]
  rw [List.extract_toArray]
  congr 1
  rw [List.extract_eq_take_drop]
  simp
theorem sync_two {w : World} {g : Nat} {ok : Nat → Prop} {room : Nat} {a b : List Int} (h : DiskAt w g ok room a.length (a ++ b)) : Calls Try.prog 39 #[.pointer (some ⟨g, 0, none⟩)] w fun e w' => e = .returned (.int .i64 (b.length : Int)) ∧ DiskAt w' g ok room (a ++ b).length (a ++ b) ∧ Moved w w' (OfDisk g ok) :=
  (sync_any h).mono fun e w' ⟨he, h1⟩ => ⟨ret_i he (by rw [List.length_append]; omega), h1⟩
theorem len_xy {w : World} {g : Nat} {ok : Nat → Prop} {room s : Nat} {a b : List Int} (h : DiskAt w g ok room s (a ++ b)) : Calls Try.prog 43 #[.pointer (some ⟨g, 0, none⟩)] w fun e w' => e = .returned (.int .i64 ((a.length : Int) + (b.length : Int))) ∧ w = w' :=
  (len_any h).mono fun e w' ⟨he, h1⟩ => ⟨ret_i he (by rw [List.length_append]; omega), h1⟩
theorem room_xy {w : World} {g : Nat} {ok : Nat → Prop} {room s : Nat} {a b : List Int} (h : DiskAt w g ok room s (a ++ b)) : Calls Try.prog 59 #[.pointer (some ⟨g, 0, none⟩)] w fun e w' => e = .returned (.int .i64 ((room : Int) - ((a.length : Int) + (b.length : Int)))) ∧ ∃ n, w' = w.drewN n :=
  (room_any h).mono fun e w' ⟨he, h1⟩ => ⟨ret_i he (by rw [List.length_append]; omega), h1⟩

set_option maxRecDepth 100000 in
set_option maxHeartbeats 40000000 in
theorem diskPlays_any (a : Int) (A0 : Option Addr) (c0 : Nat) (l0 : List S52) (w : World) (h0 : Kd.C k52 w A0 l0.length l0) (hc0 : l0.length ≤ c0) (ok0 : ∀ z ∈ l0, okS5 z) :
    Calls Try.prog 12 #[.int .i64 a, .slice A0 l0.length c0] w fun e w' => e = .returned (.bool true) ∧ Below w.heap.size w w' := by
  obtain ⟨room, hro⟩ : ∃ room, roomOf a = room := ⟨_, rfl⟩
  have hmost : room ≤ 1048576 := by rw [← hro]; unfold roomOf; split <;> (try split) <;> omega
  have hS := steps_V h0 hc0
  have hE := early5_ok ok0
  have hel := early5_len l0
  have HS := Aside0.mk hS
  have HRO := Aside0.mk hro
  clear hS ok0 h0 hro
  obtain ⟨l, hl⟩ : ∃ l, early5 l0 = l := ⟨_, rfl⟩
  rw [hl] at hE hel
  have HL := Aside0.mk hl
  have HE := Aside0.mk hE
  clear hl hE
  go_enter Try.func12, Try.ntmps12
  go_wp2_with (first
    | (go_at_call 36; refine (lives5_any _).mono ?_; rintro e w1 ⟨rfl, hb⟩; have HB := Aside0.mk hb; clear hb)
    | (go_at_call 37; refine (new_all _ _).mono ?_; rintro e w2 ⟨rfl, hd, hb⟩; rw [HRO.out] at hd; have HD := Aside0.mk hd; have HBN := Aside0.mk HB.out.size; have HN := Aside0.mk (hd (fun _ => False)).lt; have HB2 := Aside0.mk (below_step HB.out hb); clear hd hb HB)
    | (go_at_call 50; refine (ref_new _ _).mono ?_; rintro e w3 ⟨he, hb⟩; rw [HRO.out] at he; subst he; have HD3 := Aside0.mk (fun ok => (HD.out ok).below hb); have HN3 := Aside0.mk hb.size; have HB3 := Aside0.mk (below_step HB2.out hb); clear hb HD HB2)
    | (go_at_call 51; refine (early5_any (fun k => k < w.heap.size) A0 c0 l0 _ ?hv).mono ?_; (case hv => exact Kd.V_below HS.out (below_alloc HB3.out _)); rintro e w4 ⟨A3, c3, he, hV, hb⟩; rw [HL.out] at he hV; subst he; have HC := Lib.hid (show Play w w4 w4.heap.size w1.heap.size w3.heap.size room 0 [] ⟨#[]⟩ ⟨#[]⟩ (.slice A3 l.length c3) l from ⟨(HD3.out _).below (below_step (below_alloc (Below.refl _ _) _) hb), (hb.block _ (by simp)).trans (heap_alloc_new w3 _), Kd.V_mono hV (fun k hk => by have h1 := hk.1; have h2 := hk.2; have := HBN.out; have := HN.out; have := HN3.out; have := HB3.out.size; simp at h1; exact ⟨h2, by omega, by omega⟩), (below_step (below_alloc HB3.out _) hb).size, HBN.out, HB3.out.size, by have := hb.size; simp at this; omega, by have := HN.out; have := HN3.out; omega, below_step (below_alloc HB3.out _) hb, Nat.le_refl _⟩); clear hV hb HD3 HB3))
  generalize w4.heap.size = N3 at *
  generalize w1.heap.size = g at *
  generalize w3.heap.size = R at *
  go_loopw [7] (fun i wr => ∃ n : Nat, n ≤ l.length ∧ i = .int .i64 (n : Int) ∧ Hid (∃ x y, Play w wr N3 g R room x.length (x ++ y) (strOfNums x) (strOfNums y) (.slice A3 l.length c3) l)) (fun i _ => l.length - (intOf i).toNat)
  case atStart => exact ⟨0, by omega, rfl, Lib.hid ⟨[], [], HC.out⟩⟩
  case round =>
    obtain ⟨n, hn, rfl, HC2⟩ := hrel
    clear HC
    obtain ⟨x, y, hx⟩ := HC2.out
    have HX := Lib.hid hx
    clear hx HC2
    by_cases hlt : n < l.length
    · obtain ⟨ad, A2, c2, rfl, hx0, hx1, hx2, hl2, hC2⟩ := at_step HX.out.s hlt
      obtain ⟨ho2, hl40⟩ := HE.out _ (step_mem hlt)
      generalize rd_T52 l (n : Int) = z at *
      obtain ⟨K, hK6, hK⟩ := small_rem z.f0 6 (by omega) (by omega)
      obtain ⟨k, hk⟩ : ∃ k : Int, (K : Int) = k := ⟨_, rfl⟩
      have HKI := Aside0.mk (show pacesetterlaw05_Step_kind.f z.f0 z.f1 z.f2 = some k by unfold pacesetterlaw05_Step_kind.f; rw [hK, hk])
      have hk0 : 0 ≤ k := by omega
      rw [hk] at hK6
      have HC2 := Aside0.mk hC2
      have HO2 := Aside0.mk ho2
      clear hC2 hK ho2 hk
      go_upto_block 2 with (first | (go_at_call 52; refine (pacesetterlaw05_Step_kind.calls z.f0 z.f1 A2 c2 z.f2 k _ (Kd.C_alloc HC2.out _) hl2 HKI.out).mono ?_; rintro e w5 ⟨rfl, hb⟩; have HB5 := Aside0.mk hb; clear hb))
      have HX1 := Lib.hid (HX.out.next (below_step (below_alloc (Below.refl _ _) _) HB5.out))
      have HSB := Aside0.mk ((HB5.out.block wr.heap.size (by simp)).trans (heap_alloc_new wr _))
      have HC5 := Aside0.mk (Kd.C_below HC2.out (below_step (below_alloc (Below.refl _ _) _) HB5.out))
      have hSR : wr.heap.size ≠ R := by have := HX.out.hs; have := HX.out.hR3; omega
      have hRS : R ≠ wr.heap.size := hSR.symm
      have hxy := HX.out.d.roomLe
      rw [List.length_append] at hxy
      clear HX HC2 HB5 hx0 hx1 hx2
      generalize wr.heap.size = S at *
      go_cut [9] (fun s9 wx => s9 = .bool true ∧ Hid (∃ x y, Play w wx N3 g R room x.length (x ++ y) (strOfNums x) (strOfNums y) (.slice (some ad) l.length c3) l))
      case first =>
        obtain ⟨p0, p1, p2, q0, q1, q2, pl⟩ := HX1.out.cells
        have t1 := (blk_cell HSB.out 1).trans rfl
        have t2 := (blk_cell HSB.out 2).trans rfl
        have hsl := blk_lt HSB.out
        have hcv := Kd.C_string (P := Try.prog) (c := c2) Try.underlying22 Try.underlying5 Try.underlying9 HC5.out
        have hzx := str_size x
        have hzy := str_size y
        have hzz := str_size z.f2
        have HZX := Aside0.mk hzx
        have HZY := Aside0.mk hzy
        have HZZ := Aside0.mk hzz
        clear hzx hzy hzz
        rcases (by omega : k = 0 ∨ k = 1 ∨ k = 2 ∨ k = 3 ∨ k = 4 ∨ k = 5) with rfl | rfl | rfl | rfl | rfl | rfl
        · by_cases hfit : x.length + y.length + z.f2.length ≤ room
          · have HF := Aside0.mk (show (strOfNums x).size + (strOfNums y).size + (strOfNums z.f2).size ≤ room by rw [HZX.out, HZY.out, HZZ.out]; omega)
            have HF2 := Aside0.mk (show (x ++ y).length + z.f2.length ≤ room by rw [List.length_append]; omega)
            go_wp2_with (first | (go_at_call 53; refine (ref_write_ok room (strOfNums x) (strOfNums y) (strOfNums z.f2) HF.out hmost _).mono ?_; rintro e w6 ⟨he, hb⟩; rw [str_append] at he; subst he; have HX6 := Lib.hid (HX1.out.next hb); have hb6 := hb; obtain ⟨p0, p1, p2, q0, q1, q2, pl⟩ := HX6.out.cells; have hs6 := (hb.block S (blk_lt HSB.out)).trans HSB.out; have t1 := (blk_cell hs6 1).trans rfl; have t2 := (blk_cell hs6 2).trans rfl; have hsl := blk_lt hs6; have HC6 := Aside0.mk (Kd.C_below HC5.out hb); clear hb hb6 hs6) | (go_at_call 38; refine (write_ok (HX6.out.store _ _ _).d ?hok A2 c2 z.f2 (HX6.out.storeC _ _ _ HC6.out) HO2.out HF2.out).mono ?_; (case hok => exact fun k hk => Nat.le_trans (HX6.out.store _ _ _).hs hk); rintro e w7 ⟨rfl, hd, hm⟩; have HX7 := Lib.hid ((by have h := (HX6.out.store _ _ _).moved hd hm; rw [List.append_assoc] at h; exact h : Play w w7 N3 g R room x.length (x ++ (y ++ z.f2)) (strOfNums x) (strOfNums (y ++ z.f2)) (.slice (some ad) l.length c3) l)); clear HX6))
            go_meet
            exact ⟨rfl, Lib.hid ⟨_, _, HX7.out⟩⟩
          · have HF := Aside0.mk (show room < (strOfNums x).size + (strOfNums y).size + (strOfNums z.f2).size by rw [HZX.out, HZY.out, HZZ.out]; omega)
            have HF1 := Aside0.mk (show (strOfNums x).size + (strOfNums y).size ≤ 1048576 by rw [HZX.out, HZY.out]; omega)
            have HF3 := Aside0.mk (show (strOfNums z.f2).size ≤ 1000000 by rw [HZZ.out]; omega)
            have HF2 := Aside0.mk (show room < (x ++ y).length + z.f2.length by rw [List.length_append]; omega)
            have hl63 : z.f2.length ≤ 9223372036854775807 := by omega
            clear hfit
            go_wp2_with (first | (go_at_call 53; refine (ref_write_full room (strOfNums x) (strOfNums y) (strOfNums z.f2) HF.out HF1.out HF3.out _).mono ?_; rintro e w6 ⟨he, hb⟩; subst he; have HX6 := Lib.hid (HX1.out.next hb); have hb6 := hb; obtain ⟨p0, p1, p2, q0, q1, q2, pl⟩ := HX6.out.cells; have hs6 := (hb.block S (blk_lt HSB.out)).trans HSB.out; have t1 := (blk_cell hs6 1).trans rfl; have t2 := (blk_cell hs6 2).trans rfl; have hsl := blk_lt hs6; have HC6 := Aside0.mk (Kd.C_below HC5.out hb); clear hb hb6 hs6) | (go_at_call 38; refine (write_full (HX6.out.store _ _ _).d A2 c2 z.f2 hl63 HF2.out).mono ?_; rintro e w7 ⟨rfl, nd, rfl⟩; have HX7 := Lib.hid ((HX6.out.store (Obj.cells #[.int .i64 (room : Int), .string (strOfNums x), .string (strOfNums y)] 48) (strOfNums x) (strOfNums y)).drewN nd); clear HX6))
            go_meet
            exact ⟨rfl, Lib.hid ⟨_, _, HX7.out⟩⟩
        · by_cases hfit : x.length + y.length + z.f2.length ≤ room
          · have HF := Aside0.mk (show (strOfNums x).size + (strOfNums y).size + (strOfNums z.f2).size ≤ room by rw [HZX.out, HZY.out, HZZ.out]; omega)
            have HF2 := Aside0.mk (show (x ++ y).length + z.f2.length ≤ room by rw [List.length_append]; omega)
            go_wp2_with (first | (go_at_call 53; refine (ref_write_ok room (strOfNums x) (strOfNums y) (strOfNums z.f2) HF.out hmost _).mono ?_; rintro e w6 ⟨he, hb⟩; rw [str_append] at he; subst he; have HX6 := Lib.hid (HX1.out.next hb); have hb6 := hb; obtain ⟨p0, p1, p2, q0, q1, q2, pl⟩ := HX6.out.cells; have hs6 := (hb.block S (blk_lt HSB.out)).trans HSB.out; have t1 := (blk_cell hs6 1).trans rfl; have t2 := (blk_cell hs6 2).trans rfl; have hsl := blk_lt hs6; have HC6 := Aside0.mk (Kd.C_below HC5.out hb); clear hb hb6 hs6) | (go_at_call 38; refine (write_ok (HX6.out.store _ _ _).d ?hok A2 c2 z.f2 (HX6.out.storeC _ _ _ HC6.out) HO2.out HF2.out).mono ?_; (case hok => exact fun k hk => Nat.le_trans (HX6.out.store _ _ _).hs hk); rintro e w7 ⟨rfl, hd, hm⟩; have HX7 := Lib.hid ((by have h := (HX6.out.store _ _ _).moved hd hm; rw [List.append_assoc] at h; exact h : Play w w7 N3 g R room x.length (x ++ (y ++ z.f2)) (strOfNums x) (strOfNums (y ++ z.f2)) (.slice (some ad) l.length c3) l)); clear HX6))
            go_meet
            exact ⟨rfl, Lib.hid ⟨_, _, HX7.out⟩⟩
          · have HF := Aside0.mk (show room < (strOfNums x).size + (strOfNums y).size + (strOfNums z.f2).size by rw [HZX.out, HZY.out, HZZ.out]; omega)
            have HF1 := Aside0.mk (show (strOfNums x).size + (strOfNums y).size ≤ 1048576 by rw [HZX.out, HZY.out]; omega)
            have HF3 := Aside0.mk (show (strOfNums z.f2).size ≤ 1000000 by rw [HZZ.out]; omega)
            have HF2 := Aside0.mk (show room < (x ++ y).length + z.f2.length by rw [List.length_append]; omega)
            have hl63 : z.f2.length ≤ 9223372036854775807 := by omega
            clear hfit
            go_wp2_with (first | (go_at_call 53; refine (ref_write_full room (strOfNums x) (strOfNums y) (strOfNums z.f2) HF.out HF1.out HF3.out _).mono ?_; rintro e w6 ⟨he, hb⟩; subst he; have HX6 := Lib.hid (HX1.out.next hb); have hb6 := hb; obtain ⟨p0, p1, p2, q0, q1, q2, pl⟩ := HX6.out.cells; have hs6 := (hb.block S (blk_lt HSB.out)).trans HSB.out; have t1 := (blk_cell hs6 1).trans rfl; have t2 := (blk_cell hs6 2).trans rfl; have hsl := blk_lt hs6; have HC6 := Aside0.mk (Kd.C_below HC5.out hb); clear hb hb6 hs6) | (go_at_call 38; refine (write_full (HX6.out.store _ _ _).d A2 c2 z.f2 hl63 HF2.out).mono ?_; rintro e w7 ⟨rfl, nd, rfl⟩; have HX7 := Lib.hid ((HX6.out.store (Obj.cells #[.int .i64 (room : Int), .string (strOfNums x), .string (strOfNums y)] 48) (strOfNums x) (strOfNums y)).drewN nd); clear HX6))
            go_meet
            exact ⟨rfl, Lib.hid ⟨_, _, HX7.out⟩⟩
        · have HF := Aside0.mk (show (strOfNums x).size + (strOfNums y).size ≤ 1048576 by rw [HZX.out, HZY.out]; omega)
          go_wp2_with (first | (go_at_call 54; refine (ref_sync (room : Int) (strOfNums x) (strOfNums y) HF.out _).mono ?_; rintro e w6 ⟨he, hb⟩; rw [str_append, HZY.out] at he; subst he; have HX6 := Lib.hid (HX1.out.next hb); have hb6 := hb; obtain ⟨p0, p1, p2, q0, q1, q2, pl⟩ := HX6.out.cells; have hs6 := (hb.block S (blk_lt HSB.out)).trans HSB.out; have t1 := (blk_cell hs6 1).trans rfl; have t2 := (blk_cell hs6 2).trans rfl; have hsl := blk_lt hs6; have HC6 := Aside0.mk (Kd.C_below HC5.out hb); clear hb hb6 hs6) | (go_at_call 39; refine (sync_two (HX6.out.store _ _ _).d).mono ?_; rintro e w7 ⟨rfl, hd, hm⟩; have HX7 := Lib.hid ((by have h := (HX6.out.store _ _ _).moved hd hm; rw [← List.append_nil (x ++ y)] at h; exact (by rw [List.append_nil] at h; rw [List.append_nil]; exact h) : Play w w7 N3 g R room (x ++ y).length ((x ++ y) ++ []) (strOfNums (x ++ y)) (strOfNums []) (.slice (some ad) l.length c3) l)); clear HX6))
          go_meet
          exact ⟨rfl, Lib.hid ⟨_, _, HX7.out⟩⟩
        · obtain ⟨q, hq⟩ : ∃ q, keepOf z.f1 y.length = q := ⟨_, rfl⟩
          have HQ := Aside0.mk hq
          have HQ2 := Aside0.mk (show keepOf z.f1 (strOfNums y).size = q by rw [HZY.out]; exact hq)
          have HF := Aside0.mk (show (strOfNums x).size + (strOfNums y).size ≤ 1000000000 by rw [HZX.out, HZY.out]; omega)
          clear hq
          go_wp2_with (first | (go_at_call 55; refine (ref_crash (room : Int) (strOfNums x) (strOfNums y) z.f1 q HQ2.out HF.out _).mono ?_; rintro e w6 ⟨he, hb⟩; rw [str_take, str_append, HZY.out] at he; subst he; have HX6 := Lib.hid (HX1.out.next hb); have hb6 := hb; obtain ⟨p0, p1, p2, q0, q1, q2, pl⟩ := HX6.out.cells; have hs6 := (hb.block S (blk_lt HSB.out)).trans HSB.out; have t1 := (blk_cell hs6 1).trans rfl; have t2 := (blk_cell hs6 2).trans rfl; have hsl := blk_lt hs6; have HC6 := Aside0.mk (Kd.C_below HC5.out hb); clear hb hb6 hs6) | (go_at_call 40; refine (crash_two (HX6.out.store _ _ _).d HQ.out).mono ?_; rintro e w7 ⟨rfl, hd, hm⟩; have HX7 := Lib.hid ((by have h := (HX6.out.store _ _ _).moved hd hm; rw [List.append_nil]; exact h : Play w w7 N3 g R room (x ++ y.take q).length ((x ++ y.take q) ++ []) (strOfNums (x ++ y.take q)) (strOfNums []) (.slice (some ad) l.length c3) l)); clear HX6))
          go_meet
          exact ⟨rfl, Lib.hid ⟨_, _, HX7.out⟩⟩
        · by_cases hin : 0 ≤ z.f1 ∧ z.f1 ≤ ((x ++ y).length : Int)
          · obtain ⟨q, hq⟩ := Int.eq_ofNat_of_zero_le hin.1
            have HQ := Aside0.mk hq
            have HQ2 := Aside0.mk (show q ≤ (x ++ y).length by omega)
            have HQ3 := Aside0.mk (show q ≤ (strOfNums (x ++ y)).size by rw [str_size]; omega)
            have HF := Aside0.mk (show (strOfNums x).size + (strOfNums y).size ≤ 1000000000 by rw [HZX.out, HZY.out]; omega)
            have HQL := Aside0.mk (show ((x ++ y).take q).length = q by rw [List.length_take]; omega)
            clear hin hq
            go_wp2_with (first | (go_at_call 56; refine (ref_cut_ok (room : Int) (strOfNums x) (strOfNums y) (strOfNums (x ++ y)) z.f1 q HQ.out HF.out (str_append x y) HQ3.out _).mono ?_; rintro e w6 ⟨he, hb⟩; rw [str_take] at he; subst he; have HX6 := Lib.hid (HX1.out.next hb); have hb6 := hb; obtain ⟨p0, p1, p2, q0, q1, q2, pl⟩ := HX6.out.cells; have hs6 := (hb.block S (blk_lt HSB.out)).trans HSB.out; have t1 := (blk_cell hs6 1).trans rfl; have t2 := (blk_cell hs6 2).trans rfl; have hsl := blk_lt hs6; have HC6 := Aside0.mk (Kd.C_below HC5.out hb); clear hb hb6 hs6) | (go_at_call 57; refine (cut_int z.f1 q HQ.out (HX6.out.store _ _ _).d HQ2.out).mono ?_; rintro e w7 ⟨rfl, hd, hm⟩; have HX7 := Lib.hid ((by have h := (HX6.out.store _ _ _).moved hd hm; rw [List.append_nil, HQL.out]; exact h : Play w w7 N3 g R room ((x ++ y).take q).length (((x ++ y).take q) ++ []) (strOfNums ((x ++ y).take q)) (strOfNums []) (.slice (some ad) l.length c3) l)); clear HX6))
            go_meet
            exact ⟨rfl, Lib.hid ⟨_, _, HX7.out⟩⟩
          · have HQ := Aside0.mk (show z.f1 < 0 ∨ ((x ++ y).length : Int) < z.f1 by omega)
            have HQ3 := Aside0.mk (show z.f1 < 0 ∨ ((strOfNums (x ++ y)).size : Int) < z.f1 by rw [str_size]; omega)
            have HF := Aside0.mk (show (strOfNums x).size + (strOfNums y).size ≤ 1000000000 by rw [HZX.out, HZY.out]; omega)
            clear hin
            go_wp2_with (first | (go_at_call 56; refine (ref_cut_bad (room : Int) (strOfNums x) (strOfNums y) (strOfNums (x ++ y)) z.f1 HF.out (str_append x y) HQ3.out _).mono ?_; rintro e w6 ⟨he, hb⟩; subst he; have HX6 := Lib.hid (HX1.out.next hb); have hb6 := hb; obtain ⟨p0, p1, p2, q0, q1, q2, pl⟩ := HX6.out.cells; have hs6 := (hb.block S (blk_lt HSB.out)).trans HSB.out; have t1 := (blk_cell hs6 1).trans rfl; have t2 := (blk_cell hs6 2).trans rfl; have hsl := blk_lt hs6; have HC6 := Aside0.mk (Kd.C_below HC5.out hb); clear hb hb6 hs6) | (go_at_call 57; refine (cut_bad z.f1 (HX6.out.store _ _ _).d HQ.out).mono ?_; rintro e w7 ⟨rfl, rfl⟩; have HX7 := Lib.hid ((HX6.out.store (Obj.cells #[.int .i64 (room : Int), .string (strOfNums x), .string (strOfNums y)] 48) (strOfNums x) (strOfNums y))); clear HX6))
            go_meet
            exact ⟨rfl, Lib.hid ⟨_, _, HX7.out⟩⟩
        · by_cases hodd : z.f1.tmod 2 = 0
          · skip
            go_wp2_with fail
            go_meet
            exact ⟨rfl, Lib.hid ⟨_, _, HX1.out⟩⟩
          · by_cases hfit : z.f2.length ≤ room
            · have HF := Aside0.mk (show (strOfNums z.f2).size ≤ room by rw [HZZ.out]; omega)
              have HF2 := Aside0.mk hfit
              clear hfit
              go_wp2_with (first | (go_at_call 58; refine (ref_swap_ok room (strOfNums x) (strOfNums y) (strOfNums z.f2) HF.out _).mono ?_; rintro e w6 ⟨he, hb⟩; subst he; have HX6 := Lib.hid (HX1.out.next hb); have hb6 := hb; obtain ⟨p0, p1, p2, q0, q1, q2, pl⟩ := HX6.out.cells; have hs6 := (hb.block S (blk_lt HSB.out)).trans HSB.out; have t1 := (blk_cell hs6 1).trans rfl; have t2 := (blk_cell hs6 2).trans rfl; have hsl := blk_lt hs6; have HC6 := Aside0.mk (Kd.C_below HC5.out hb); clear hb hb6 hs6) | (go_at_call 49; refine (swap_ok (HX6.out.store _ _ _).d ?hok A2 c2 z.f2 (HX6.out.storeC _ _ _ HC6.out) HO2.out HF2.out).mono ?_; (case hok => exact fun k hk => Nat.le_trans (HX6.out.store _ _ _).hs hk); rintro e w7 ⟨rfl, hd, hm⟩; have HX7 := Lib.hid ((by have h := (HX6.out.store _ _ _).moved hd hm; rw [List.append_nil]; exact h : Play w w7 N3 g R room z.f2.length (z.f2 ++ []) (strOfNums z.f2) (strOfNums []) (.slice (some ad) l.length c3) l)); clear HX6))
              go_meet
              exact ⟨rfl, Lib.hid ⟨_, _, HX7.out⟩⟩
            · have HF := Aside0.mk (show room < (strOfNums z.f2).size by rw [HZZ.out]; omega)
              have HF2 := Aside0.mk (show room < z.f2.length by omega)
              have hl63 : z.f2.length ≤ 9223372036854775807 := by omega
              clear hfit
              go_wp2_with (first | (go_at_call 58; refine (ref_swap_full room (strOfNums x) (strOfNums y) (strOfNums z.f2) HF.out _).mono ?_; rintro e w6 ⟨he, hb⟩; subst he; have HX6 := Lib.hid (HX1.out.next hb); have hb6 := hb; obtain ⟨p0, p1, p2, q0, q1, q2, pl⟩ := HX6.out.cells; have hs6 := (hb.block S (blk_lt HSB.out)).trans HSB.out; have t1 := (blk_cell hs6 1).trans rfl; have t2 := (blk_cell hs6 2).trans rfl; have hsl := blk_lt hs6; have HC6 := Aside0.mk (Kd.C_below HC5.out hb); clear hb hb6 hs6) | (go_at_call 49; refine (swap_full (HX6.out.store _ _ _).d A2 c2 z.f2 hl63 HF2.out).mono ?_; rintro e w7 ⟨rfl, rfl⟩; have HX7 := Lib.hid ((HX6.out.store (Obj.cells #[.int .i64 (room : Int), .string (strOfNums x), .string (strOfNums y)] 48) (strOfNums x) (strOfNums y))); clear HX6))
              go_meet
              exact ⟨rfl, Lib.hid ⟨_, _, HX7.out⟩⟩
      case rest =>
        obtain ⟨rfl, hp⟩ := hcut
        clear HX1 HC5 HSB hxy hSR hRS
        obtain ⟨x, y, hx⟩ := hp.out
        have HX1 := Lib.hid hx
        have hxy := hx.d.roomLe
        rw [List.length_append] at hxy
        obtain ⟨p0, p1, p2, _, _, _, _⟩ := hx.cells
        have hzx := str_size x
        have hzy := str_size y
        clear hx hp
        go_wp2
        have HX2 := Lib.hid HX1.out.drew
        clear HX1 p0 p1 p2
        have hcat := str_append x y
        have hbig : (9223372036854775807 < x.length + y.length) = False := by simp; omega
        have hla : (x ++ y).length = x.length + y.length := List.length_append
        have HLA := Aside0.mk hla
        have hw1 : IntKind.i64.wrap ((room : Int) - ((x.length : Int) + (y.length : Int))) = (room : Int) - ((x.length : Int) + (y.length : Int)) := IntWalk.i64_in _ (by omega)
        have hw2 : wrap64 ((room : Int) - ((x.length : Int) + (y.length : Int))) = (room : Int) - ((x.length : Int) + (y.length : Int)) := by unfold wrap64; omega
        have HRM := Aside0.mk (show (room : Int) - ((x ++ y).length : Int) = (room : Int) - ((x.length : Int) + (y.length : Int)) by rw [hla]; omega)
        have HLN := Aside0.mk (show ((x ++ y).length : Int) = (x.length : Int) + (y.length : Int) by rw [hla]; omega)
        clear hla
        refine start_ (n := 36) (S := fun w' => w'.cell? ⟨R, 0, none⟩ = some (.int .i64 (room : Int)) ∧ w'.cell? ⟨R, 1, none⟩ = some (.string (strOfNums x)) ∧ w'.cell? ⟨R, 2, none⟩ = some (.string (strOfNums y))) (ds := []) #[false, false, false, false, false, false, false, false, false, false, false, false, false, false, false, false, false, false, false, false, false, false, false, false, false, false, false, false, false, false, false, false, false, false, false, false] (by kernel_rfl) rfl rfl ⟨HX2.out.cells.1, HX2.out.cells.2.1, HX2.out.cells.2.2.1⟩ (fun hHeld => ?_)
        refine pure_ (i := 0) (N := some 131) (v := ?_) (a' := ?_) #[true, false, false, false, false, false, false, false, false, false, false, false, false, false, false, false, false, false, false, false, false, false, false, false, false, false, false, false, false, false, false, false, false, false, false, false] rfl rfl (by kernel_rfl) (fun _ _ _ h => h) (Or.inl ⟨by rfl, ?_⟩) ?_ ?_
        rotate_left
        · intro w'
          go_simp
          with_reducible rfl
        rotate_left
        · simp only [Act.put, List.setIfInBounds_toArray, List.set_cons_zero, List.set_cons_succ, i64_w, i32_w]
          rfl
        refine pure_ (i := 1) (N := some 132) (v := ?_) (a' := ?_) #[true, true, false, false, false, false, false, false, false, false, false, false, false, false, false, false, false, false, false, false, false, false, false, false, false, false, false, false, false, false, false, false, false, false, false, false] rfl rfl (by kernel_rfl) (fun _ _ _ h => h) (Or.inl ⟨by rfl, ?_⟩) ?_ ?_
        rotate_left
        · intro w'
          go_simp
          with_reducible rfl
        rotate_left
        · simp only [Act.put, List.setIfInBounds_toArray, List.set_cons_zero, List.set_cons_succ, i64_w, i32_w]
          rfl
        refine pure_ (i := 2) (N := some 133) (v := ?_) (a' := ?_) #[true, true, true, false, false, false, false, false, false, false, false, false, false, false, false, false, false, false, false, false, false, false, false, false, false, false, false, false, false, false, false, false, false, false, false, false] rfl rfl (by kernel_rfl) (fun _ _ _ h => h) (Or.inl ⟨by rfl, ?_⟩) ?_ ?_
        rotate_left
        · intro w'
          go_simp
          with_reducible rfl
        rotate_left
        · simp only [Act.put, List.setIfInBounds_toArray, List.set_cons_zero, List.set_cons_succ, i64_w, i32_w]
          rfl
        refine pure_ (i := 3) (N := some 134) (v := ?_) (a' := ?_) #[true, true, true, true, false, false, false, false, false, false, false, false, false, false, false, false, false, false, false, false, false, false, false, false, false, false, false, false, false, false, false, false, false, false, false, false] rfl rfl (by kernel_rfl) (fun _ _ _ h => h) (Or.inl ⟨by rfl, ?_⟩) ?_ ?_
        rotate_left
        · intro w'
          go_simp
          with_reducible rfl
        rotate_left
        · simp only [Act.put, List.setIfInBounds_toArray, List.set_cons_zero, List.set_cons_succ, i64_w, i32_w]
          rfl
        refine pure_ (i := 6) (N := some 137) (v := ?_) (a' := ?_) #[true, true, true, true, false, false, true, false, false, false, false, false, false, false, false, false, false, false, false, false, false, false, false, false, false, false, false, false, false, false, false, false, false, false, false, false] rfl rfl (by kernel_rfl) (fun _ _ _ h => h) (Or.inl ⟨by rfl, ?_⟩) ?_ ?_
        rotate_left
        · intro w'
          go_simp
          with_reducible rfl
        rotate_left
        · simp only [Act.put, List.setIfInBounds_toArray, List.set_cons_zero, List.set_cons_succ, i64_w, i32_w]
          rfl
        refine pure_ (i := 8) (N := some 139) (v := ?_) (a' := ?_) #[true, true, true, true, false, false, true, false, true, false, false, false, false, false, false, false, false, false, false, false, false, false, false, false, false, false, false, false, false, false, false, false, false, false, false, false] rfl rfl (by kernel_rfl) (fun _ _ _ h => h) (Or.inl ⟨by rfl, ?_⟩) ?_ ?_
        rotate_left
        · intro w'
          go_simp
          with_reducible rfl
        rotate_left
        · simp only [Act.put, List.setIfInBounds_toArray, List.set_cons_zero, List.set_cons_succ, i64_w, i32_w]
          rfl
        refine take_ (i := 7) (N := some 138) (v := ?_) (a' := ?_) #[true, true, true, true, false, false, true, true, true, false, false, false, false, false, false, false, false, false, false, false, false, false, false, false, false, false, false, false, false, false, false, false, false, false, false, false] rfl rfl (by kernel_rfl) (fun _ _ _ h => h) (Or.inl ⟨by rfl, ?_⟩) hHeld ?_ ?_
        rotate_left
        · rintro w' ⟨s0, s1, s2⟩
          go_simp
          with_reducible rfl
        rotate_left
        · simp only [Act.put, List.setIfInBounds_toArray, List.set_cons_zero, List.set_cons_succ, i64_w, i32_w]
          rfl
        refine take_ (i := 9) (N := some 140) (v := ?_) (a' := ?_) #[true, true, true, true, false, false, true, true, true, true, false, false, false, false, false, false, false, false, false, false, false, false, false, false, false, false, false, false, false, false, false, false, false, false, false, false] rfl rfl (by kernel_rfl) (fun _ _ _ h => h) (Or.inl ⟨by rfl, ?_⟩) hHeld ?_ ?_
        rotate_left
        · rintro w' ⟨s0, s1, s2⟩
          go_simp
          with_reducible rfl
        rotate_left
        · simp only [Act.put, List.setIfInBounds_toArray, List.set_cons_zero, List.set_cons_succ, i64_w, i32_w]
          rfl
        refine pure_ (i := 10) (N := some 141) (v := ?_) (a' := ?_) #[true, true, true, true, false, false, true, true, true, true, true, false, false, false, false, false, false, false, false, false, false, false, false, false, false, false, false, false, false, false, false, false, false, false, false, false] rfl rfl (by kernel_rfl) (fun _ _ _ h => h) (Or.inl ⟨by rfl, ?_⟩) ?_ ?_
        rotate_left
        · intro w'
          go_simp
          with_reducible rfl
        rotate_left
        · simp only [Act.put, List.setIfInBounds_toArray, List.set_cons_zero, List.set_cons_succ, i64_w, i32_w]
          rfl
        refine one_ (i := 4) (N := some 135) #[true, true, true, true, true, false, true, true, true, true, true, false, false, false, false, false, false, false, false, false, false, false, false, false, false, false, false, false, false, false, false, false, false, false, false, false] rfl rfl (by kernel_rfl) (by decide) (fun K hK => ?_)
        refine goes_ Try.func41 (by kernel_rfl) rfl #[.pointer (some ⟨g, 0, none⟩)] (by rfl) rfl rfl (by simp only [List.map_toArray, List.map_cons, List.map_nil]; rfl) ?_
        with_reducible refine (all_any HX2.out.d).mono ?_
        rintro e w8 ⟨v, rfl, ho, hb⟩
        refine ⟨_, rfl, ?_⟩
        obtain ⟨A, c, hv, hl, hC⟩ := Kd.R_reads ho
        rw [hv, HLA.out]
        have hcv := Kd.C_string (P := Try.prog) (A := A) (c := c) Try.underlying22 Try.underlying5 Try.underlying9 hC
        rw [HLA.out] at hcv
        have HX3 := Lib.hid (HX2.out.next hb)
        clear hv hl hC ho hb HX2
        refine hK.out _ _ ⟨HX3.out.cells.1, HX3.out.cells.2.1, HX3.out.cells.2.2.1⟩ (fun hHeld => ?_)
        clear hK K
        refine norm_ (a' := ?_) ?_ ?_
        rotate_left
        · show Act.put _ (some 135) _ = _
          simp only [Act.put, List.setIfInBounds_toArray, List.set_cons_zero, List.set_cons_succ, i64_w, i32_w]
          rfl
        refine one_ (i := 5) (N := some 136) #[true, true, true, true, true, true, true, true, true, true, true, false, false, false, false, false, false, false, false, false, false, false, false, false, false, false, false, false, false, false, false, false, false, false, false, false] rfl rfl (by kernel_rfl) (by decide) (fun K hK => ?_)
        refine value_ (w1 := ?_) (v := ?_) (by rfl) rfl ?_ ?_
        rotate_left 2
        · go_simp
          constructor
          · rfl
          · rfl
        refine hK.out _ _ ⟨HX3.out.cells.1, HX3.out.cells.2.1, HX3.out.cells.2.2.1⟩ (fun hHeld => ?_)
        clear hK K
        refine norm_ (a' := ?_) ?_ ?_
        rotate_left
        · show Act.put _ (some 136) _ = _
          simp only [Act.put, List.setIfInBounds_toArray, List.set_cons_zero, List.set_cons_succ, i64_w, i32_w]
          rfl
        refine pure_ (i := 11) (N := some 142) (v := ?_) (a' := ?_) #[true, true, true, true, true, true, true, true, true, true, true, true, false, false, false, false, false, false, false, false, false, false, false, false, false, false, false, false, false, false, false, false, false, false, false, false] rfl rfl (by kernel_rfl) (fun _ _ _ h => h) (Or.inl ⟨by rfl, ?_⟩) ?_ ?_
        rotate_left
        · intro w'
          go_simp
          with_reducible rfl
        rotate_left
        · simp only [Act.put, List.setIfInBounds_toArray, List.set_cons_zero, List.set_cons_succ, i64_w, i32_w]
          rfl
        refine pure_ (i := 12) (N := some 143) (v := ?_) (a' := ?_) #[true, true, true, true, true, true, true, true, true, true, true, true, true, false, false, false, false, false, false, false, false, false, false, false, false, false, false, false, false, false, false, false, false, false, false, false] rfl rfl (by kernel_rfl) (fun _ _ _ h => h) (Or.inl ⟨by rfl, ?_⟩) ?_ ?_
        rotate_left
        · intro w'
          go_simp
          with_reducible rfl
        rotate_left
        · simp only [Act.put, List.setIfInBounds_toArray, List.set_cons_zero, List.set_cons_succ, i64_w, i32_w]
          rfl
        refine pure_ (i := 13) (N := some 144) (v := ?_) (a' := ?_) #[true, true, true, true, true, true, true, true, true, true, true, true, true, true, false, false, false, false, false, false, false, false, false, false, false, false, false, false, false, false, false, false, false, false, false, false] rfl rfl (by kernel_rfl) (fun _ _ _ h => h) (Or.inl ⟨by rfl, ?_⟩) ?_ ?_
        rotate_left
        · intro w'
          go_simp
          with_reducible rfl
        rotate_left
        · simp only [Act.put, List.setIfInBounds_toArray, List.set_cons_zero, List.set_cons_succ, i64_w, i32_w]
          rfl
        refine pure_ (i := 14) (N := some 145) (v := ?_) (a' := ?_) #[true, true, true, true, true, true, true, true, true, true, true, true, true, true, true, false, false, false, false, false, false, false, false, false, false, false, false, false, false, false, false, false, false, false, false, false] rfl rfl (by kernel_rfl) (fun _ _ _ h => h) (Or.inl ⟨by rfl, ?_⟩) ?_ ?_
        rotate_left
        · intro w'
          go_simp
          with_reducible rfl
        rotate_left
        · simp only [Act.put, List.setIfInBounds_toArray, List.set_cons_zero, List.set_cons_succ, i64_w, i32_w]
          rfl
        refine pure_ (i := 16) (N := some 147) (v := ?_) (a' := ?_) #[true, true, true, true, true, true, true, true, true, true, true, true, true, true, true, false, true, false, false, false, false, false, false, false, false, false, false, false, false, false, false, false, false, false, false, false] rfl rfl (by kernel_rfl) (fun _ _ _ h => h) (Or.inl ⟨by rfl, ?_⟩) ?_ ?_
        rotate_left
        · intro w'
          go_simp
          with_reducible rfl
        rotate_left
        · simp only [Act.put, List.setIfInBounds_toArray, List.set_cons_zero, List.set_cons_succ, i64_w, i32_w]
          rfl
        refine one_ (i := 15) (N := some 146) #[true, true, true, true, true, true, true, true, true, true, true, true, true, true, true, true, true, false, false, false, false, false, false, false, false, false, false, false, false, false, false, false, false, false, false, false] rfl rfl (by kernel_rfl) (by decide) (fun K hK => ?_)
        refine goes_ Try.func43 (by kernel_rfl) rfl #[.pointer (some ⟨g, 0, none⟩)] (by rfl) rfl rfl (by simp only [List.map_toArray, List.map_cons, List.map_nil]; rfl) ?_
        with_reducible refine (len_xy HX3.out.d).mono ?_
        rintro e w9 ⟨rfl, rfl⟩
        refine ⟨_, rfl, ?_⟩
        refine hK.out _ _ ⟨HX3.out.cells.1, HX3.out.cells.2.1, HX3.out.cells.2.2.1⟩ (fun hHeld => ?_)
        clear hK K
        refine norm_ (a' := ?_) ?_ ?_
        rotate_left
        · show Act.put _ (some 146) _ = _
          simp only [Act.put, List.setIfInBounds_toArray, List.set_cons_zero, List.set_cons_succ, i64_w, i32_w]
          rfl
        refine pure_ (i := 17) (N := some 148) (v := ?_) (a' := ?_) #[true, true, true, true, true, true, true, true, true, true, true, true, true, true, true, true, true, true, false, false, false, false, false, false, false, false, false, false, false, false, false, false, false, false, false, false] rfl rfl (by kernel_rfl) (fun _ _ _ h => h) (Or.inl ⟨by rfl, ?_⟩) ?_ ?_
        rotate_left
        · intro w'
          go_simp
          with_reducible rfl
        rotate_left
        · simp only [Act.put, List.setIfInBounds_toArray, List.set_cons_zero, List.set_cons_succ, i64_w, i32_w]
          rfl
        refine pure_ (i := 18) (N := some 149) (v := ?_) (a' := ?_) #[true, true, true, true, true, true, true, true, true, true, true, true, true, true, true, true, true, true, true, false, false, false, false, false, false, false, false, false, false, false, false, false, false, false, false, false] rfl rfl (by kernel_rfl) (fun _ _ _ h => h) (Or.inl ⟨by rfl, ?_⟩) ?_ ?_
        rotate_left
        · intro w'
          go_simp
          with_reducible rfl
        rotate_left
        · simp only [Act.put, List.setIfInBounds_toArray, List.set_cons_zero, List.set_cons_succ, i64_w, i32_w]
          rfl
        refine pure_ (i := 19) (N := some 150) (v := ?_) (a' := ?_) #[true, true, true, true, true, true, true, true, true, true, true, true, true, true, true, true, true, true, true, true, false, false, false, false, false, false, false, false, false, false, false, false, false, false, false, false] rfl rfl (by kernel_rfl) (fun _ _ _ h => h) (Or.inl ⟨by rfl, ?_⟩) ?_ ?_
        rotate_left
        · intro w'
          go_simp
          with_reducible rfl
        rotate_left
        · simp only [Act.put, List.setIfInBounds_toArray, List.set_cons_zero, List.set_cons_succ, i64_w, i32_w]
          rfl
        refine pure_ (i := 20) (N := some 151) (v := ?_) (a' := ?_) #[true, true, true, true, true, true, true, true, true, true, true, true, true, true, true, true, true, true, true, true, true, false, false, false, false, false, false, false, false, false, false, false, false, false, false, false] rfl rfl (by kernel_rfl) (fun _ _ _ h => h) (Or.inl ⟨by rfl, ?_⟩) ?_ ?_
        rotate_left
        · intro w'
          go_simp
          with_reducible rfl
        rotate_left
        · simp only [Act.put, List.setIfInBounds_toArray, List.set_cons_zero, List.set_cons_succ, i64_w, i32_w]
          rfl
        refine pure_ (i := 22) (N := some 153) (v := ?_) (a' := ?_) #[true, true, true, true, true, true, true, true, true, true, true, true, true, true, true, true, true, true, true, true, true, false, true, false, false, false, false, false, false, false, false, false, false, false, false, false] rfl rfl (by kernel_rfl) (fun _ _ _ h => h) (Or.inl ⟨by rfl, ?_⟩) ?_ ?_
        rotate_left
        · intro w'
          go_simp
          with_reducible rfl
        rotate_left
        · simp only [Act.put, List.setIfInBounds_toArray, List.set_cons_zero, List.set_cons_succ, i64_w, i32_w]
          rfl
        refine take_ (i := 23) (N := some 154) (v := ?_) (a' := ?_) #[true, true, true, true, true, true, true, true, true, true, true, true, true, true, true, true, true, true, true, true, true, false, true, true, false, false, false, false, false, false, false, false, false, false, false, false] rfl rfl (by kernel_rfl) (fun _ _ _ h => h) (Or.inl ⟨by rfl, ?_⟩) hHeld ?_ ?_
        rotate_left
        · rintro w' ⟨s0, s1, s2⟩
          go_simp
          with_reducible rfl
        rotate_left
        · simp only [Act.put, List.setIfInBounds_toArray, List.set_cons_zero, List.set_cons_succ, i64_w, i32_w]
          rfl
        refine pure_ (i := 24) (N := some 155) (v := ?_) (a' := ?_) #[true, true, true, true, true, true, true, true, true, true, true, true, true, true, true, true, true, true, true, true, true, false, true, true, true, false, false, false, false, false, false, false, false, false, false, false] rfl rfl (by kernel_rfl) (fun _ _ _ h => h) (Or.inl ⟨by rfl, ?_⟩) ?_ ?_
        rotate_left
        · intro w'
          go_simp
          with_reducible rfl
        rotate_left
        · simp only [Act.put, List.setIfInBounds_toArray, List.set_cons_zero, List.set_cons_succ, i64_w, i32_w]
          rfl
        refine one_ (i := 21) (N := some 152) #[true, true, true, true, true, true, true, true, true, true, true, true, true, true, true, true, true, true, true, true, true, true, true, true, true, false, false, false, false, false, false, false, false, false, false, false] rfl rfl (by kernel_rfl) (by decide) (fun K hK => ?_)
        refine goes_ Try.func42 (by kernel_rfl) rfl #[.pointer (some ⟨g, 0, none⟩)] (by rfl) rfl rfl (by simp only [List.map_toArray, List.map_cons, List.map_nil]; rfl) ?_
        with_reducible refine (safe_any HX3.out.d).mono ?_
        rintro e w9 ⟨rfl, rfl⟩
        refine ⟨_, rfl, ?_⟩
        refine hK.out _ _ ⟨HX3.out.cells.1, HX3.out.cells.2.1, HX3.out.cells.2.2.1⟩ (fun hHeld => ?_)
        clear hK K
        refine norm_ (a' := ?_) ?_ ?_
        rotate_left
        · show Act.put _ (some 152) _ = _
          simp only [Act.put, List.setIfInBounds_toArray, List.set_cons_zero, List.set_cons_succ, i64_w, i32_w]
          rfl
        refine pure_ (i := 25) (N := some 156) (v := ?_) (a' := ?_) #[true, true, true, true, true, true, true, true, true, true, true, true, true, true, true, true, true, true, true, true, true, true, true, true, true, true, false, false, false, false, false, false, false, false, false, false] rfl rfl (by kernel_rfl) (fun _ _ _ h => h) (Or.inl ⟨by rfl, ?_⟩) ?_ ?_
        rotate_left
        · intro w'
          go_simp
          with_reducible rfl
        rotate_left
        · simp only [Act.put, List.setIfInBounds_toArray, List.set_cons_zero, List.set_cons_succ, i64_w, i32_w]
          rfl
        refine pure_ (i := 26) (N := some 157) (v := ?_) (a' := ?_) #[true, true, true, true, true, true, true, true, true, true, true, true, true, true, true, true, true, true, true, true, true, true, true, true, true, true, true, false, false, false, false, false, false, false, false, false] rfl rfl (by kernel_rfl) (fun _ _ _ h => h) (Or.inl ⟨by rfl, ?_⟩) ?_ ?_
        rotate_left
        · intro w'
          go_simp
          with_reducible rfl
        rotate_left
        · simp only [Act.put, List.setIfInBounds_toArray, List.set_cons_zero, List.set_cons_succ, i64_w, i32_w]
          rfl
        refine pure_ (i := 27) (N := some 158) (v := ?_) (a' := ?_) #[true, true, true, true, true, true, true, true, true, true, true, true, true, true, true, true, true, true, true, true, true, true, true, true, true, true, true, true, false, false, false, false, false, false, false, false] rfl rfl (by kernel_rfl) (fun _ _ _ h => h) (Or.inl ⟨by rfl, ?_⟩) ?_ ?_
        rotate_left
        · intro w'
          go_simp
          with_reducible rfl
        rotate_left
        · simp only [Act.put, List.setIfInBounds_toArray, List.set_cons_zero, List.set_cons_succ, i64_w, i32_w]
          rfl
        refine pure_ (i := 28) (N := some 159) (v := ?_) (a' := ?_) #[true, true, true, true, true, true, true, true, true, true, true, true, true, true, true, true, true, true, true, true, true, true, true, true, true, true, true, true, true, false, false, false, false, false, false, false] rfl rfl (by kernel_rfl) (fun _ _ _ h => h) (Or.inl ⟨by rfl, ?_⟩) ?_ ?_
        rotate_left
        · intro w'
          go_simp
          with_reducible rfl
        rotate_left
        · simp only [Act.put, List.setIfInBounds_toArray, List.set_cons_zero, List.set_cons_succ, i64_w, i32_w]
          rfl
        refine pure_ (i := 30) (N := some 161) (v := ?_) (a' := ?_) #[true, true, true, true, true, true, true, true, true, true, true, true, true, true, true, true, true, true, true, true, true, true, true, true, true, true, true, true, true, false, true, false, false, false, false, false] rfl rfl (by kernel_rfl) (fun _ _ _ h => h) (Or.inl ⟨by rfl, ?_⟩) ?_ ?_
        rotate_left
        · intro w'
          go_simp
          with_reducible rfl
        rotate_left
        · simp only [Act.put, List.setIfInBounds_toArray, List.set_cons_zero, List.set_cons_succ, i64_w, i32_w]
          rfl
        refine pure_ (i := 32) (N := some 163) (v := ?_) (a' := ?_) #[true, true, true, true, true, true, true, true, true, true, true, true, true, true, true, true, true, true, true, true, true, true, true, true, true, true, true, true, true, false, true, false, true, false, false, false] rfl rfl (by kernel_rfl) (fun _ _ _ h => h) (Or.inl ⟨by rfl, ?_⟩) ?_ ?_
        rotate_left
        · intro w'
          go_simp
          with_reducible rfl
        rotate_left
        · simp only [Act.put, List.setIfInBounds_toArray, List.set_cons_zero, List.set_cons_succ, i64_w, i32_w]
          rfl
        refine take_ (i := 31) (N := some 162) (v := ?_) (a' := ?_) #[true, true, true, true, true, true, true, true, true, true, true, true, true, true, true, true, true, true, true, true, true, true, true, true, true, true, true, true, true, false, true, true, true, false, false, false] rfl rfl (by kernel_rfl) (fun _ _ _ h => h) (Or.inl ⟨by rfl, ?_⟩) hHeld ?_ ?_
        rotate_left
        · rintro w' ⟨s0, s1, s2⟩
          go_simp
          with_reducible rfl
        rotate_left
        · simp only [Act.put, List.setIfInBounds_toArray, List.set_cons_zero, List.set_cons_succ, i64_w, i32_w]
          rfl
        refine pure_ (i := 33) (N := some 164) (v := ?_) (a' := ?_) #[true, true, true, true, true, true, true, true, true, true, true, true, true, true, true, true, true, true, true, true, true, true, true, true, true, true, true, true, true, false, true, true, true, true, false, false] rfl rfl (by kernel_rfl) (fun _ _ _ h => h) (Or.inl ⟨by rfl, ?_⟩) ?_ ?_
        rotate_left
        · intro w'
          go_simp
          with_reducible rfl
        rotate_left
        · simp only [Act.put, List.setIfInBounds_toArray, List.set_cons_zero, List.set_cons_succ, i64_w, i32_w]
          rfl
        refine one_ (i := 29) (N := some 160) #[true, true, true, true, true, true, true, true, true, true, true, true, true, true, true, true, true, true, true, true, true, true, true, true, true, true, true, true, true, true, true, true, true, true, false, false] rfl rfl (by kernel_rfl) (by decide) (fun K hK => ?_)
        refine goes_ Try.func59 (by kernel_rfl) rfl #[.pointer (some ⟨g, 0, none⟩)] (by rfl) rfl rfl (by simp only [List.map_toArray, List.map_cons, List.map_nil]; rfl) ?_
        with_reducible refine (room_xy HX3.out.d).mono ?_
        rintro e w9 ⟨rfl, nd, rfl⟩
        refine ⟨_, rfl, ?_⟩
        have HX4 := Lib.hid (HX3.out.drewN nd)
        refine hK.out _ _ ⟨HX4.out.cells.1, HX4.out.cells.2.1, HX4.out.cells.2.2.1⟩ (fun hHeld => ?_)
        clear hK K
        refine norm_ (a' := ?_) ?_ ?_
        rotate_left
        · show Act.put _ (some 160) _ = _
          simp only [Act.put, List.setIfInBounds_toArray, List.set_cons_zero, List.set_cons_succ, i64_w, i32_w]
          rfl
        refine pure_ (i := 34) (N := some 165) (v := ?_) (a' := ?_) #[true, true, true, true, true, true, true, true, true, true, true, true, true, true, true, true, true, true, true, true, true, true, true, true, true, true, true, true, true, true, true, true, true, true, true, false] rfl rfl (by kernel_rfl) (fun _ _ _ h => h) (Or.inl ⟨by rfl, ?_⟩) ?_ ?_
        rotate_left
        · intro w'
          go_simp
          with_reducible rfl
        rotate_left
        · simp only [Act.put, List.setIfInBounds_toArray, List.set_cons_zero, List.set_cons_succ, i64_w, i32_w]
          rfl
        refine pure_ (i := 35) (N := some 166) (v := ?_) (a' := ?_) #[true, true, true, true, true, true, true, true, true, true, true, true, true, true, true, true, true, true, true, true, true, true, true, true, true, true, true, true, true, true, true, true, true, true, true, true] rfl rfl (by kernel_rfl) (fun _ _ _ h => h) (Or.inl ⟨by rfl, ?_⟩) ?_ ?_
        rotate_left
        · intro w'
          go_simp
          with_reducible rfl
        rotate_left
        · simp only [Act.put, List.setIfInBounds_toArray, List.set_cons_zero, List.set_cons_succ, i64_w, i32_w]
          rfl
        refine done_ (by kernel_rfl) ?_
        go_wp2
        go_roundw
        case rel => exact ⟨n + 1, by omega, by go_num, Lib.hid ⟨_, _, HX4.out⟩⟩
        case measure => simp [intOf]; omega
    · obtain rfl : n = l.length := by omega
      go_wp2
      go_ret
      exact ⟨rfl, HX.out.below⟩
end Go.Proofs.Ytbcienbnhchdeaa.Hand

/- The document's journal (pacesetterref06): its methods, walked. -/
namespace Go.Proofs.Ytbcienbnhchdeaa.Hand
open Go Go.RowKit Go.Proofs.YtbcienbnhchdeaaW.PrintLast Go.Proofs.YtbcienbnhchdeaaW.PrintWords Go.Proofs.YtbcienbnhchdeaaW.PrintMore Print FrameC FrameL FrameS FrameR JMath
set_option linter.unusedVariables false
set_option linter.unusedSimpArgs false
attribute [local go_sem] max2_int min2_int max_two min_two
theorem okB_at {b : List Int} (h : okB b = true) {j : Nat} {p : Int} (hj : b[j]? = some p) : 0 ≤ p ∧ p < 256 := by
  have := List.all_eq_true.1 h p (List.mem_of_getElem? hj)
  simpa using this
/-- The bytes of a string, in a new row. -/
theorem str_C (W : World) {b : List Int} (h : okB b = true) (hl : b.length ≤ 1000000) : Kd.C (Kd.int .u8) (Lib.bytesWorld W 5 (strOfNums b)) (some ⟨W.heap.size, 0, none⟩) b.length b := by
  refine ⟨rfl, by omega, fun _ => ⟨_, rfl, fun j p hj => ⟨[.int .u8 p], rfl, rfl, fun i u hu => ?_⟩⟩⟩
  match i, hu with
  | 0, hu =>
    obtain rfl : Value.int .u8 p = u := by simpa using hu
    have e : j * (Kd.int .u8).sz + 0 = j := by show j * 1 + 0 = j; omega
    have hlt := (List.getElem?_eq_some_iff.1 hj).1
    obtain ⟨h0, h1⟩ := okB_at h hj
    rw [e, add_plain, Lib.bytesWorld_cell W 5 _ j (by rw [str_size]; exact hlt)]
    have e2 : (strOfNums b).data.toList.getD j 0 = UInt8.ofNat p.toNat := by
      simp [strOfNums, List.getD_eq_getElem?_getD, hj]
    rw [e2]
    congr 2
    simp
    omega
theorem scan_str (W : World) {b : List Int} {sc : ByteArray} (hs : strOfNums b = sc) (h : okB b = true) (hl : b.length ≤ 2000) {ps : List (List Int)} {n x : Int} (hf : frame_Scan.f b = some (ps, n, x)) :
    Calls Try.prog 71 #[.slice (some ⟨W.heap.size, 0, none⟩) sc.size (grownCap W sc.size 0 5)] (Lib.bytesWorld W 5 sc) fun e w' => ∃ (A' : Option Addr) (c' : Nat), e = .returned (.tuple #[.slice A' ps.length c', .int .i64 n, .int .i64 x]) ∧ ps.length ≤ c' ∧ Kd.C KS w' A' ps.length ps ∧ Below W.heap.size W w' := by
  subst hs
  rw [str_size]
  have hb := bytes_below (Below.refl W.heap.size W) (Nat.le_refl _) 5 (strOfNums b)
  refine (refScan_any (some ⟨W.heap.size, 0, none⟩) (grownCap W b.length 0 5) b ps n x _ (str_C W h (by omega)) ?_ h hl hf).mono ?_
  · exact grownCap_ge _ _ _ _
  · rintro e w' ⟨A, c, he, h1, h2, h3⟩
    exact ⟨A, c, he, h1, h2, below_step hb h3⟩
set_option maxRecDepth 100000 in
set_option maxHeartbeats 400000 in
theorem r6_all (room : Int) {a b : List Int} (sa sb : ByteArray) (ha : strOfNums a = sa) (hb : strOfNums b = sb) (ok : okB (a ++ b) = true) (hl : (a ++ b).length ≤ 2000) {ps : List (List Int)} {n x : Int} (hf : frame_Scan.f (a ++ b) = some (ps, n, x)) (w : World) :
    Calls Try.prog 82 #[.agg #[.int .i64 room, .string sa, .string sb]] w fun e w' => ∃ (A' : Option Addr) (c' : Nat), e = .returned (.slice A' ps.length c') ∧ ps.length ≤ c' ∧ Kd.C KS w' A' ps.length ps ∧ Below w.heap.size w w' := by
  have hsz : sa.size + sb.size ≤ 2000 := by rw [← ha, ← hb, str_size, str_size, ← List.length_append]; exact hl
  obtain ⟨sc, hc⟩ : ∃ sc, sa ++ sb = sc := ⟨_, rfl⟩
  have hcs : strOfNums (a ++ b) = sc := by rw [← hc, ← ha, ← hb, str_append]
  have SC : Aside0 (∀ W W' h cp, W' = Lib.bytesWorld W 5 sc → h = W.heap.size → cp = grownCap W sc.size 0 5 → Calls Try.prog 71 #[.slice (some ⟨h, 0, none⟩) sc.size cp] W' fun e w' => ∃ (A' : Option Addr) (c' : Nat), e = .returned (.tuple #[.slice A' ps.length c', .int .i64 n, .int .i64 x]) ∧ ps.length ≤ c' ∧ Kd.C KS w' A' ps.length ps ∧ Below W.heap.size W w') := Aside0.mk (fun W W' h cp e1 e2 e3 => by subst e1 e2 e3; exact scan_str W hcs ok hl hf)
  have kb := fun W => print_bytes (P := Try.prog) 9 22 5 Try.underlying9 Try.underlying22 Try.underlying5 sc W
  have hx2 : (9223372036854775807 < sa.size + sb.size) = False := by simp; omega
  clear ok hl hf ha hb hcs hsz
  go_enter Try.func82, Try.ntmps82
  go_wp2_with (go_at_call 71; refine (SC.out _ _ _ _ rfl ?hh ?cp).mono ?_; (case hh => simp); (case cp => rfl); rintro e w1 ⟨A', c', rfl, hc', hC, hb⟩; have HC := Aside0.mk hC; have HB := Aside0.mk (below_then (below_alloc (Below.refl w.heap.size w) _) (by simp) hb); clear hC hb)
  go_ret
  exact ⟨A', c', rfl, hc', HC.out, HB.out⟩
set_option maxRecDepth 100000 in
set_option maxHeartbeats 400000 in
theorem r6_open (room : Int) {a b : List Int} (sa sb : ByteArray) (ha : strOfNums a = sa) (hb : strOfNums b = sb) (ok : okB (a ++ b) = true) (hl : (a ++ b).length ≤ 2000) {ps : List (List Int)} {n : Nat} {x : Int} (hf : frame_Scan.f (a ++ b) = some (ps, (n : Int), x)) (hn : n ≤ (a ++ b).length) (w : World) :
    Calls Try.prog 81 #[.agg #[.int .i64 room, .string sa, .string sb]] w fun e w' => e = .returned (.tuple #[.agg #[.int .i64 room, .string (strOfNums ((a ++ b).take n)), .string ⟨#[]⟩], .int .i64 (((a ++ b).length : Int) - (n : Int))]) ∧ Below w.heap.size w w' := by
  have hsz : sa.size + sb.size ≤ 2000 := by rw [← ha, ← hb, str_size, str_size, ← List.length_append]; exact hl
  obtain ⟨sc, hc⟩ : ∃ sc, sa ++ sb = sc := ⟨_, rfl⟩
  have hcs : strOfNums (a ++ b) = sc := by rw [← hc, ← ha, ← hb, str_append]
  have hcz : sc.size = (a ++ b).length := by rw [← hcs, str_size]
  have SC : Aside0 (∀ W W' h cp, W' = Lib.bytesWorld W 5 sc → h = W.heap.size → cp = grownCap W sc.size 0 5 → Calls Try.prog 71 #[.slice (some ⟨h, 0, none⟩) sc.size cp] W' fun e w' => ∃ (A' : Option Addr) (c' : Nat), e = .returned (.tuple #[.slice A' ps.length c', .int .i64 n, .int .i64 x]) ∧ ps.length ≤ c' ∧ Kd.C KS w' A' ps.length ps ∧ Below W.heap.size W w') := Aside0.mk (fun W W' h cp e1 e2 e3 => by subst e1 e2 e3; exact scan_str W hcs ok hl hf)
  have CUT : Aside0 (∀ W, Calls Try.prog 56 #[.agg #[.int .i64 room, .string sa, .string sb], .int .i64 (n : Int)] W fun e w' => e = .returned (.tuple #[.agg #[.int .i64 room, .string (sc.extract 0 n), .string ⟨#[]⟩], .int .i64 0]) ∧ Below W.heap.size W w') := Aside0.mk (fun W => ref_cut_ok room sa sb sc (n : Int) n rfl (by omega) hc (by omega) W)
  have kb := fun W => print_bytes (P := Try.prog) 9 22 5 Try.underlying9 Try.underlying22 Try.underlying5 sc W
  have hx2 : (9223372036854775807 < sa.size + sb.size) = False := by simp; omega
  have hex : sc.extract 0 n = strOfNums ((a ++ b).take n) := by rw [← hcs, str_take]
  rw [← hex, ← hcz]
  rw [← hcz] at hn
  have hsl : sc.size ≤ 2000 := by omega
  clear ok hl hf ha hb hcs hsz hex hcz
  have HBX := Aside0.mk (show ((w.alloc (.cells #[.int .i64 room, .string sa, .string sb] 48)).alloc (.cells #[.int .i64 0, .string ⟨#[]⟩, .string ⟨#[]⟩] 48)).heap[w.heap.size]? = some (.cells #[.int .i64 room, .string sa, .string sb] 48 (0, 0)) from (heap_alloc_old (w.alloc _) _ (by simp)).trans (heap_alloc_new w _))
  have HRS := Aside0.mk (show ((w.alloc (.cells #[.int .i64 room, .string sa, .string sb] 48)).alloc (.cells #[.int .i64 0, .string ⟨#[]⟩, .string ⟨#[]⟩] 48)).heap[w.heap.size + 1]? = some (.cells #[.int .i64 0, .string ⟨#[]⟩, .string ⟨#[]⟩] 48 (0, 0)) from by have h := heap_alloc_new (w.alloc (.cells #[.int .i64 room, .string sa, .string sb] 48)) (.cells #[.int .i64 0, .string ⟨#[]⟩, .string ⟨#[]⟩] 48); rwa [World.size_alloc] at h)
  have HB0 := Aside0.mk (show Below w.heap.size w ((w.alloc (.cells #[.int .i64 room, .string sa, .string sb] 48)).alloc (.cells #[.int .i64 0, .string ⟨#[]⟩, .string ⟨#[]⟩] 48)) from below_alloc (below_alloc (Below.refl _ _) _) _)
  go_enter Try.func81, Try.ntmps81
  go_wp2_with (first
    | (go_at_call 71; refine (SC.out _ _ _ _ rfl ?hh ?cp).mono ?_; (case hh => simp); (case cp => rfl); rintro e w1 ⟨A', c', rfl, hc', hC, hb⟩; have HB1 := Aside0.mk (below_step HB0.out hb); have hb1 := (hb.block w.heap.size (by simp; omega)).trans HBX.out; have HR1 := Aside0.mk ((hb.block (w.heap.size + 1) (by simp)).trans HRS.out); have q0 : w1.cell? ⟨w.heap.size, 0, none⟩ = some (.int .i64 room) := (blk_cell hb1 0).trans rfl; have q1 : w1.cell? ⟨w.heap.size, 1, none⟩ = some (.string sa) := (blk_cell hb1 1).trans rfl; have q2 : w1.cell? ⟨w.heap.size, 2, none⟩ = some (.string sb) := (blk_cell hb1 2).trans rfl; clear hC hb hb1 HB0 HBX HRS)
    | (go_at_call 56; refine (CUT.out _).mono ?_; rintro e w2 ⟨rfl, hb⟩; have HB2 := Aside0.mk (below_step HB1.out hb); have hr2 := (hb.block (w.heap.size + 1) (blk_lt HR1.out)).trans HR1.out; have r0 : w2.cell? ⟨w.heap.size + 1, 0, none⟩ = some (.int .i64 0) := (blk_cell hr2 0).trans rfl; have r1 : w2.cell? ⟨w.heap.size + 1, 1, none⟩ = some (.string ⟨#[]⟩) := (blk_cell hr2 1).trans rfl; have r2 : w2.cell? ⟨w.heap.size + 1, 2, none⟩ = some (.string ⟨#[]⟩) := (blk_cell hr2 2).trans rfl; have rf : ∀ i, w2.frozen? ⟨w.heap.size + 1, i, none⟩ = false := fun i => blk_frozen hr2 i; have rl := blk_lt hr2; have HR2 := Aside0.mk hr2; clear hb hr2 HB1 HR1 q0 q1 q2))
  have b1 := blk_set HR2.out 0 (.int .i64 room)
  have b2 := blk_set b1 1 (.string (sc.extract 0 n))
  have b3 := blk_set b2 2 (.string ⟨#[]⟩)
  have b4 := (heap_alloc_old _ (.cells #[.int .i64 room, .string (sc.extract 0 n), .string ⟨#[]⟩] 48) (blk_lt b3)).trans b3
  have f0 := (blk_cell b4 0).trans (show _ = some (.int .i64 room) from rfl)
  have f1 := (blk_cell b4 1).trans (show _ = some (.string (sc.extract 0 n)) from rfl)
  have f2 := (blk_cell b4 2).trans (show _ = some (.string ⟨#[]⟩) from rfl)
  have hbel := below_alloc (((HB2.out.setCell (p := ⟨w.heap.size + 1, 0, none⟩) (by simp) (.int .i64 room)).setCell (p := ⟨w.heap.size + 1, 1, none⟩) (by simp) (.string (sc.extract 0 n))).setCell (p := ⟨w.heap.size + 1, 2, none⟩) (by simp) (.string ⟨#[]⟩)) (.cells #[.int .i64 room, .string (sc.extract 0 n), .string ⟨#[]⟩] 48)
  clear b1 b2 b3 b4 r0 r1 r2 rf rl kb
  generalize World.alloc _ _ = wf at *
  exact bodyPost_ret (v := .tuple #[.agg #[.int .i64 room, .string (sc.extract 0 n), .string ⟨#[]⟩], .int .i64 ((sc.size : Int) - (n : Int))]) (by simp [results, Try.results81, go_sem, f0, f1, f2]) rfl ⟨rfl, hbel⟩
end Go.Proofs.Ytbcienbnhchdeaa.Hand

/- JournalOpens, walked. -/
namespace Go.Proofs.Ytbcienbnhchdeaa.Hand
open Go Go.RowKit Go.Proofs.YtbcienbnhchdeaaW.PrintLast Go.Proofs.YtbcienbnhchdeaaW.PrintWords Go.Proofs.YtbcienbnhchdeaaW.PrintMore Print FrameC FrameL FrameS FrameR JMath
set_option linter.unusedVariables false
set_option linter.unusedSimpArgs false
attribute [local go_sem] max2_int min2_int max_two min_two
/-- Open, and what of the old memory it turns: the disk's blocks alone. -/
theorem jOpen_fine {w : World} {g room dsafe n : Nat} {kd : Nat → Prop} {bs : List Int} {ps : List (List Int)} {x : Int} (hd : DiskAt w g kd room dsafe bs) (hkd : ∀ k, kd k → k < w.heap.size) (hs : frame_Scan.f bs = some (ps, (n : Int), x)) (hn : n ≤ bs.length) :
    Calls Try.prog 74 #[.pointer (some ⟨g, 0, none⟩)] w fun e w' => e = .returned (.tuple #[.pointer (some ⟨w.heap.size, 0, none⟩), .int .i64 ((bs.length : Int) - (n : Int))]) ∧ ∃ v, JCells w' w.heap.size (.pointer (some ⟨g, 0, none⟩)) v (ps.length : Int) ∧ DiskAt w' g kd room n (bs.take n) ∧ Kd.R KS 22 w' w.heap.size (fun _ => True) v ps ∧ Moved w w' (OfDisk g kd) := by
  have hgl := hd.lt
  have OP : Aside0 (∀ W, W = w.alloc (.cells #[.pointer (some ⟨g, 0, none⟩), .slice none 0 0, .int .i64 0] 99) → Calls Try.prog 99 #[.pointer (some ⟨w.heap.size, 0, none⟩)] W fun e w' => e = .returned (.int .i64 ((bs.length : Int) - (n : Int))) ∧ ∃ v, JCells w' w.heap.size (.pointer (some ⟨g, 0, none⟩)) v (ps.length : Int) ∧ DiskAt w' g kd room n (bs.take n) ∧ Kd.R KS 22 w' w.heap.size (fun _ => True) v ps ∧ Moved w w' (OfDisk g kd)) := Aside0.mk (fun W hW => by
    subst hW
    have hb := below_alloc (Below.refl w.heap.size w) (.cells #[.pointer (some ⟨g, 0, none⟩), .slice none 0 0, .int .i64 0] 99)
    refine (open_any (v0 := .slice none 0 0) (s0 := 0) (heap_alloc_new w _) (hd.below hb) (fun k hk => ⟨by have := hkd k hk; have := hb.size; omega, by have := hkd k hk; omega⟩) hs hn).mono ?_
    rintro e w' ⟨he, v, h1, h2, h3, h4⟩
    refine ⟨he, v, h1, h2, Kd.R_lower h3 hb.size, ((Moved.of_below hb _).trans h4 (fun k hk => ?_))⟩
    rcases hk with rfl | hk
    · exact .inr (Nat.le_refl _)
    · exact .inl hk)
  clear hd hkd hs
  go_enter Try.func74, Try.ntmps74
  go_wp2_with (go_at_call 99; refine (OP.out _ rfl).mono ?_; rintro e w1 ⟨rfl, hj⟩; have HJ := Aside0.mk hj; clear hj)
  go_ret2
  exact ⟨rfl, HJ.out⟩
theorem new48_at' {n : Nat} {w0 W : World} (h : Below n w0 W) : Aside0 ((W.alloc (.cells #[.int .i64 0, .string ⟨#[]⟩, .string ⟨#[]⟩] 48)).heap[W.heap.size]? = some (.cells #[.int .i64 0, .string ⟨#[]⟩, .string ⟨#[]⟩] 48 (0, 0))) := Aside0.mk (heap_alloc_new W _)
set_option maxRecDepth 100000 in
set_option maxHeartbeats 1000000 in
theorem journalOpens_any (A0 : Option Addr) (c0 : Nat) (l0 : List Int) (w : World) (h0 : Kd.C (Kd.int .u8) w A0 l0.length l0) (hc0 : l0.length ≤ c0) (ok0 : okB l0 = true) :
    Calls Try.prog 22 #[.slice A0 l0.length c0] w fun e w' => e = .returned (.bool true) ∧ Below w.heap.size w w' := by
  have hm0 : (if (300 : Int) < (l0.length : Int) then (300 : Int) else (l0.length : Int)) = ((min l0.length 300 : Nat) : Int) := min_first l0 300
  have g0 := C_first h0 (min l0.length 300) (by omega)
  have o0 := okB_take2 ok0 (min l0.length 300)
  have e0 : (l0.take (min l0.length 300)).length = min l0.length 300 := by rw [List.length_take]; omega
  have hb0 : min l0.length 300 ≤ 300 := by omega
  have hk0 : min l0.length 300 ≤ c0 := by omega
  have hl0 := h0.2.1
  rw [← e0] at hm0 hb0 hk0
  clear e0
  generalize l0.take (min l0.length 300) = b at *
  obtain ⟨ps, n, x, hs, hok, hn, hnl, ht⟩ := scan_of o0 (by omega)
  have HSC := Aside0.mk hs
  have HOK := Aside0.mk hok
  have HT := Aside0.mk ht
  have htl : (b.take n).length = n := by rw [List.length_take]; omega
  have HTL := Aside0.mk htl
  have hs2 : frame_Scan.f (b.take n) = some (ps, (n : Int), 0) := by rw [ht, hn]; exact scan_frames hok (by omega)
  have HSC2 := Aside0.mk hs2
  have hpl : ps.length ≤ 1000 := by have := allF_len7 hok; omega
  have G0 := Aside0.mk g0
  have O0 := Aside0.mk o0
  have hkb : ∀ p ∈ ps, okB p = true := fun p hp => (hok p hp).1
  have hpx : ∀ p ∈ ps, p.length ≤ 1000000 := fun p hp => by have := (hok p hp).2.2; omega
  have HKB := Aside0.mk hkb
  have HPX := Aside0.mk hpx
  have hsub : (b.length : Int) - ((b.length : Int) - (n : Int)) = (n : Int) := by omega
  have HS0 := Aside0.mk (fun (W : World) (hW : Below w.heap.size w W) => Kd.C_string (P := Try.prog) (c := c0) Try.underlying22 Try.underlying5 Try.underlying9 (Kd.C_below g0 hW))
  obtain ⟨sb, hsb⟩ : ∃ s, strOfNums b = s := ⟨_, rfl⟩
  obtain ⟨sA, hsA⟩ : ∃ s, strOfNums (b.take n) = s := ⟨_, rfl⟩
  rw [hsb] at HS0
  have R6O : Aside0 (∀ W, Calls Try.prog 81 #[.agg #[.int .i64 1000, .string ⟨#[]⟩, .string sb]] W fun e w' => e = .returned (.tuple #[.agg #[.int .i64 1000, .string sA, .string ⟨#[]⟩], .int .i64 ((b.length : Int) - (n : Int))]) ∧ Below W.heap.size W w') := Aside0.mk (fun W => by
    have h := r6_open 1000 (a := []) (b := b) ⟨#[]⟩ sb rfl hsb (by simpa using o0) (by simp; omega) (by simpa using hs) (by simpa using hnl) W
    simp only [List.nil_append, hsA] at h
    exact h)
  have R6A : Aside0 (∀ W, Calls Try.prog 82 #[.agg #[.int .i64 1000, .string sA, .string ⟨#[]⟩]] W fun e w' => ∃ (A' : Option Addr) (c' : Nat), e = .returned (.slice A' ps.length c') ∧ ps.length ≤ c' ∧ Kd.C KS w' A' ps.length ps ∧ Below W.heap.size W w') := Aside0.mk (fun W => r6_all 1000 (a := b.take n) (b := []) sA ⟨#[]⟩ hsA rfl (by rw [List.append_nil]; exact okB_take2 o0 n) (by rw [List.append_nil, htl]; omega) (by rw [List.append_nil]; exact hs2) W)
  have NEW : Aside0 (∀ W, Calls Try.prog 50 #[.int .i64 1000] W fun e w' => e = .returned (.agg #[.int .i64 1000, .string ⟨#[]⟩, .string ⟨#[]⟩]) ∧ Below W.heap.size W w') := Aside0.mk (fun W => ref_new 1000 W)
  have WRI : Aside0 (∀ W, Calls Try.prog 53 #[.agg #[.int .i64 1000, .string ⟨#[]⟩, .string ⟨#[]⟩], .string sb] W fun e w' => e = .returned (.tuple #[.agg #[.int .i64 1000, .string ⟨#[]⟩, .string sb], .int .i64 0]) ∧ Below W.heap.size W w') := Aside0.mk (fun W => by
    have h := ref_write_ok 1000 ⟨#[]⟩ ⟨#[]⟩ sb (by rw [← hsb, str_size]; show 0 + 0 + b.length ≤ 1000; omega) (by omega) W
    rw [show (⟨#[]⟩ : ByteArray) ++ sb = sb from by rw [← hsb]; exact str_append [] b] at h
    exact h)
  have HN := Aside0.mk hn
  clear g0 o0 h0 ok0 hs hok ht hs2 hkb hpx hsb hsA htl hn
  go_enter Try.func22, Try.ntmps22
  go_wp2_with (first
    | (go_at_call 73; refine (lives6_any _).mono ?_; rintro e w1 ⟨rfl, hb⟩; have HB1 := Aside0.mk hb; clear hb)
    | (go_at_call 37; refine (new_any 1000 _ (fun k => w1.heap.size ≤ k)).mono ?_; rintro e w2 ⟨rfl, hd, hb⟩; have HA := Aside0.mk (show DiskAt w2 w1.heap.size (fun k => w1.heap.size ≤ k) 1000 0 [] from hd); have HB2 := Aside0.mk hb; clear hd hb)
    | (go_at_call 38; refine (write_ok HA.out ?hok A0 c0 b (Kd.C_below G0.out (below_step HB1.out HB2.out)) O0.out ?hf).mono ?_; (case hok => intro k hk; have := HB2.out.size; omega); (case hf => show [].length + b.length ≤ 1000; simp; omega); rintro e w3 ⟨rfl, hd, hm⟩; have HD3 := Aside0.mk (show DiskAt w3 w1.heap.size (fun k => w1.heap.size ≤ k) 1000 0 b from hd); have HB3 := Aside0.mk (Moved.on HB2.out (Nat.le_refl _) hm); clear hd hm HA HB2)
    | (go_at_call 74; refine (jOpen_fine HD3.out.bound (fun k hk => hk.2) HSC.out hnl).mono ?_; rintro e w4 ⟨rfl, v1, hj, hd, hr, hm⟩; have HJ4 := Aside0.mk hj; have HD4 := Aside0.mk hd; have HR4 := Aside0.mk hr; have HB4 := Aside0.mk (show Below w1.heap.size w1 w4 from ((Moved.of_below HB3.out (OfDisk w1.heap.size (fun k => w1.heap.size ≤ k ∧ k < w3.heap.size))).trans hm (fun k hk => .inl hk)).toBelow (Nat.le_refl _) (fun k hk => by rcases hk with rfl | hk; exact Nat.le_refl _; exact hk.1)); have HM4 := Aside0.mk hm; clear hj hd hr hm))
  have HBW := Aside0.mk (show ∀ W, Below w4.heap.size w4 W → (convert 22 9 (.slice A0 b.length c0)).run Try.prog W = .ok (.string sb) W from fun W hW => HS0.out W (below_step (below_step HB1.out HB4.out) hW))
  refine start_ (n := 10) (S := fun w' => Below w4.heap.size w4 w' ∧ (convert 22 9 (.slice A0 b.length c0)).run Try.prog w' = .ok (.string sb) w') (ds := [8]) #[false, false, false, false, false, false, false, false, false, false] (by kernel_rfl) rfl rfl ⟨(below_drew (Below.refl _ _)), (HBW.out _ (below_drew (Below.refl _ _)))⟩ (fun hHeld => ?_)
  refine pure_ (i := 1) (N := some 30) (v := ?_) (a' := ?_) #[false, true, false, false, false, false, false, false, false, false] rfl rfl (by kernel_rfl) (fun _ _ _ h => h) (Or.inl ⟨by rfl, ?_⟩) ?_ ?_
  rotate_left
  · intro w'
    go_simp
    with_reducible rfl
  rotate_left
  · simp only [Act.put, List.setIfInBounds_toArray, List.set_cons_zero, List.set_cons_succ, i64_w, i32_w]
    rfl
  refine take_ (i := 2) (N := some 31) (v := ?_) (a' := ?_) #[false, true, true, false, false, false, false, false, false, false] rfl rfl (by kernel_rfl) (fun _ _ _ h => h) (Or.inl ⟨by rfl, ?_⟩) hHeld ?_ ?_
  rotate_left
  · rintro w' ⟨s0, s1⟩
    go_simp
    with_reducible rfl
  rotate_left
  · simp only [Act.put, List.setIfInBounds_toArray, List.set_cons_zero, List.set_cons_succ, i64_w, i32_w]
    rfl
  refine join_ (σ := Nat) 2 #[true, true, true, true, true, true, true, true, false, false] (fun s => [(29, .agg #[.int .i64 1000, .string ⟨#[]⟩, .string ⟨#[]⟩]), (32, .tuple #[.agg #[.int .i64 1000, .string ⟨#[]⟩, .string sb], .int .i64 0]), (28, .tuple #[.agg #[.int .i64 1000, .string ⟨#[]⟩, .string sb], .int .i64 0]), (33, .agg #[.int .i64 1000, .string ⟨#[]⟩, .string sb]), (34, .int .i64 0), (6, .pointer (some ⟨s, 0, none⟩))]) (fun s w' => w'.heap[s]? = some (.cells #[.int .i64 0, .string ⟨#[]⟩, .string ⟨#[]⟩] 48 (0, 0)) ∧ w4.heap.size ≤ s ∧ Below w4.heap.size w4 w') ?_ ?_
  rotate_left
  · intro hCont
    refine two_ (i := 0) (j := 7) (Ni := some 29) (Nj := some 6) #[true, true, true, false, false, false, false, false, false, false] #[false, true, true, false, false, false, false, true, false, false] rfl rfl rfl rfl (by kernel_rfl) (by decide) (by decide) (fun K hK => ?_) (fun K hK => ?_)
    · skip
      refine goes_ Try.func50 (by kernel_rfl) rfl #[.int .i64 1000] (by rfl) rfl rfl (by simp only [List.map_toArray, List.map_cons, List.map_nil]; rfl) ?_
      with_reducible refine (NEW.out _).mono ?_
      rintro e w8 ⟨rfl, hb⟩
      refine ⟨_, rfl, ?_⟩
      (try (have n_ := Aside0.mk (blk_below HR.out hb); clear HR; have HR := n_; clear n_))
      refine hK.out _ _ ⟨below_step hHeld.1 hb, HBW.out _ (below_step hHeld.1 hb)⟩ (fun hHeld => ?_)
      clear hK K
      refine norm_ (a' := ?_) ?_ ?_
      rotate_left
      · show Act.put _ (some 29) _ = _
        simp only [Act.put, List.setIfInBounds_toArray, List.set_cons_zero, List.set_cons_succ, i64_w, i32_w]
        rfl
      refine two_ (i := 3) (j := 7) (Ni := some 32) (Nj := some 6) #[true, true, true, true, false, false, false, false, false, false] #[true, true, true, false, false, false, false, true, false, false] rfl rfl rfl rfl (by kernel_rfl) (by decide) (by decide) (fun K hK => ?_) (fun K hK => ?_)
      · skip
        refine goes_ Try.func53 (by kernel_rfl) rfl #[.agg #[.int .i64 1000, .string ⟨#[]⟩, .string ⟨#[]⟩], .string sb] (by rfl) rfl rfl (by simp only [List.map_toArray, List.map_cons, List.map_nil]; rfl) ?_
        with_reducible refine (WRI.out _).mono ?_
        rintro e w9 ⟨rfl, hb⟩
        refine ⟨_, rfl, ?_⟩
        (try (have n_ := Aside0.mk (blk_below HR.out hb); clear HR; have HR := n_; clear n_))
        refine hK.out _ _ ⟨below_step hHeld.1 hb, HBW.out _ (below_step hHeld.1 hb)⟩ (fun hHeld => ?_)
        clear hK K
        refine norm_ (a' := ?_) ?_ ?_
        rotate_left
        · show Act.put _ (some 32) _ = _
          simp only [Act.put, List.setIfInBounds_toArray, List.set_cons_zero, List.set_cons_succ, i64_w, i32_w]
          rfl
        refine pure_ (i := 4) (N := some 28) (v := ?_) (a' := ?_) #[true, true, true, true, true, false, false, false, false, false] rfl rfl (by kernel_rfl) (fun _ _ _ h => h) (Or.inl ⟨by rfl, ?_⟩) ?_ ?_
        rotate_left
        · intro w'
          go_simp
          with_reducible rfl
        rotate_left
        · simp only [Act.put, List.setIfInBounds_toArray, List.set_cons_zero, List.set_cons_succ, i64_w, i32_w]
          rfl
        refine pure_ (i := 5) (N := some 33) (v := ?_) (a' := ?_) #[true, true, true, true, true, true, false, false, false, false] rfl rfl (by kernel_rfl) (fun _ _ _ h => h) (Or.inl ⟨by rfl, ?_⟩) ?_ ?_
        rotate_left
        · intro w'
          go_simp
          with_reducible rfl
        rotate_left
        · simp only [Act.put, List.setIfInBounds_toArray, List.set_cons_zero, List.set_cons_succ, i64_w, i32_w]
          rfl
        refine pure_ (i := 6) (N := some 34) (v := ?_) (a' := ?_) #[true, true, true, true, true, true, true, false, false, false] rfl rfl (by kernel_rfl) (fun _ _ _ h => h) (Or.inl ⟨by rfl, ?_⟩) ?_ ?_
        rotate_left
        · intro w'
          go_simp
          with_reducible rfl
        rotate_left
        · simp only [Act.put, List.setIfInBounds_toArray, List.set_cons_zero, List.set_cons_succ, i64_w, i32_w]
          rfl
        refine one_ (i := 7) (N := some 6) #[true, true, true, true, true, true, true, true, false, false] rfl rfl (by kernel_rfl) (by decide) (fun K hK => ?_)
        refine value_ (w1 := ?_) (v := ?_) (by rfl) rfl ?_ ?_
        rotate_left 2
        · go_simp
          constructor
          · rfl
          · rfl
        have HR := new48_at' hHeld.1
        have LR := Aside0.mk (below_size hHeld.1)
        refine hK.out _ _ ⟨below_alloc hHeld.1 _, HBW.out _ (below_alloc hHeld.1 _)⟩ (fun hHeld => ?_)
        clear hK K
        refine norm_ (a' := ?_) ?_ ?_
        rotate_left
        · show Act.put _ (some 6) _ = _
          simp only [Act.put, List.setIfInBounds_toArray, List.set_cons_zero, List.set_cons_succ, i64_w, i32_w]
          rfl
        exact norm_ (by first | (simp only [putAll, Act.put, List.setIfInBounds_toArray, List.set_cons_zero, List.set_cons_succ]; done) | (simp only [putAll, Act.put, List.setIfInBounds_toArray, List.set_cons_zero, List.set_cons_succ]; rfl)) (hCont _ _ ⟨HR.out, LR.out, hHeld.1⟩)
      · skip
        refine value_ (w1 := ?_) (v := ?_) (by rfl) rfl ?_ ?_
        rotate_left 2
        · go_simp
          constructor
          · rfl
          · rfl
        have HR := new48_at' hHeld.1
        have LR := Aside0.mk (below_size hHeld.1)
        refine hK.out _ _ ⟨below_alloc hHeld.1 _, HBW.out _ (below_alloc hHeld.1 _)⟩ (fun hHeld => ?_)
        clear hK K
        refine norm_ (a' := ?_) ?_ ?_
        rotate_left
        · show Act.put _ (some 6) _ = _
          simp only [Act.put, List.setIfInBounds_toArray, List.set_cons_zero, List.set_cons_succ, i64_w, i32_w]
          rfl
        refine one_ (i := 3) (N := some 32) #[true, true, true, true, false, false, false, true, false, false] rfl rfl (by kernel_rfl) (by decide) (fun K hK => ?_)
        refine goes_ Try.func53 (by kernel_rfl) rfl #[.agg #[.int .i64 1000, .string ⟨#[]⟩, .string ⟨#[]⟩], .string sb] (by rfl) rfl rfl (by simp only [List.map_toArray, List.map_cons, List.map_nil]; rfl) ?_
        with_reducible refine (WRI.out _).mono ?_
        rintro e w9 ⟨rfl, hb⟩
        refine ⟨_, rfl, ?_⟩
        (try (have n_ := Aside0.mk (blk_below HR.out hb); clear HR; have HR := n_; clear n_))
        refine hK.out _ _ ⟨below_step hHeld.1 hb, HBW.out _ (below_step hHeld.1 hb)⟩ (fun hHeld => ?_)
        clear hK K
        refine norm_ (a' := ?_) ?_ ?_
        rotate_left
        · show Act.put _ (some 32) _ = _
          simp only [Act.put, List.setIfInBounds_toArray, List.set_cons_zero, List.set_cons_succ, i64_w, i32_w]
          rfl
        refine pure_ (i := 4) (N := some 28) (v := ?_) (a' := ?_) #[true, true, true, true, true, false, false, true, false, false] rfl rfl (by kernel_rfl) (fun _ _ _ h => h) (Or.inl ⟨by rfl, ?_⟩) ?_ ?_
        rotate_left
        · intro w'
          go_simp
          with_reducible rfl
        rotate_left
        · simp only [Act.put, List.setIfInBounds_toArray, List.set_cons_zero, List.set_cons_succ, i64_w, i32_w]
          rfl
        refine pure_ (i := 5) (N := some 33) (v := ?_) (a' := ?_) #[true, true, true, true, true, true, false, true, false, false] rfl rfl (by kernel_rfl) (fun _ _ _ h => h) (Or.inl ⟨by rfl, ?_⟩) ?_ ?_
        rotate_left
        · intro w'
          go_simp
          with_reducible rfl
        rotate_left
        · simp only [Act.put, List.setIfInBounds_toArray, List.set_cons_zero, List.set_cons_succ, i64_w, i32_w]
          rfl
        refine pure_ (i := 6) (N := some 34) (v := ?_) (a' := ?_) #[true, true, true, true, true, true, true, true, false, false] rfl rfl (by kernel_rfl) (fun _ _ _ h => h) (Or.inl ⟨by rfl, ?_⟩) ?_ ?_
        rotate_left
        · intro w'
          go_simp
          with_reducible rfl
        rotate_left
        · simp only [Act.put, List.setIfInBounds_toArray, List.set_cons_zero, List.set_cons_succ, i64_w, i32_w]
          rfl
        exact norm_ (by first | (simp only [putAll, Act.put, List.setIfInBounds_toArray, List.set_cons_zero, List.set_cons_succ]; done) | (simp only [putAll, Act.put, List.setIfInBounds_toArray, List.set_cons_zero, List.set_cons_succ]; rfl)) (hCont _ _ ⟨HR.out, LR.out, hHeld.1⟩)
    · skip
      refine value_ (w1 := ?_) (v := ?_) (by rfl) rfl ?_ ?_
      rotate_left 2
      · go_simp
        constructor
        · rfl
        · rfl
      have HR := new48_at' hHeld.1
      have LR := Aside0.mk (below_size hHeld.1)
      refine hK.out _ _ ⟨below_alloc hHeld.1 _, HBW.out _ (below_alloc hHeld.1 _)⟩ (fun hHeld => ?_)
      clear hK K
      refine norm_ (a' := ?_) ?_ ?_
      rotate_left
      · show Act.put _ (some 6) _ = _
        simp only [Act.put, List.setIfInBounds_toArray, List.set_cons_zero, List.set_cons_succ, i64_w, i32_w]
        rfl
      refine one_ (i := 0) (N := some 29) #[true, true, true, false, false, false, false, true, false, false] rfl rfl (by kernel_rfl) (by decide) (fun K hK => ?_)
      refine goes_ Try.func50 (by kernel_rfl) rfl #[.int .i64 1000] (by rfl) rfl rfl (by simp only [List.map_toArray, List.map_cons, List.map_nil]; rfl) ?_
      with_reducible refine (NEW.out _).mono ?_
      rintro e w8 ⟨rfl, hb⟩
      refine ⟨_, rfl, ?_⟩
      (try (have n_ := Aside0.mk (blk_below HR.out hb); clear HR; have HR := n_; clear n_))
      refine hK.out _ _ ⟨below_step hHeld.1 hb, HBW.out _ (below_step hHeld.1 hb)⟩ (fun hHeld => ?_)
      clear hK K
      refine norm_ (a' := ?_) ?_ ?_
      rotate_left
      · show Act.put _ (some 29) _ = _
        simp only [Act.put, List.setIfInBounds_toArray, List.set_cons_zero, List.set_cons_succ, i64_w, i32_w]
        rfl
      refine one_ (i := 3) (N := some 32) #[true, true, true, true, false, false, false, true, false, false] rfl rfl (by kernel_rfl) (by decide) (fun K hK => ?_)
      refine goes_ Try.func53 (by kernel_rfl) rfl #[.agg #[.int .i64 1000, .string ⟨#[]⟩, .string ⟨#[]⟩], .string sb] (by rfl) rfl rfl (by simp only [List.map_toArray, List.map_cons, List.map_nil]; rfl) ?_
      with_reducible refine (WRI.out _).mono ?_
      rintro e w9 ⟨rfl, hb⟩
      refine ⟨_, rfl, ?_⟩
      (try (have n_ := Aside0.mk (blk_below HR.out hb); clear HR; have HR := n_; clear n_))
      refine hK.out _ _ ⟨below_step hHeld.1 hb, HBW.out _ (below_step hHeld.1 hb)⟩ (fun hHeld => ?_)
      clear hK K
      refine norm_ (a' := ?_) ?_ ?_
      rotate_left
      · show Act.put _ (some 32) _ = _
        simp only [Act.put, List.setIfInBounds_toArray, List.set_cons_zero, List.set_cons_succ, i64_w, i32_w]
        rfl
      refine pure_ (i := 4) (N := some 28) (v := ?_) (a' := ?_) #[true, true, true, true, true, false, false, true, false, false] rfl rfl (by kernel_rfl) (fun _ _ _ h => h) (Or.inl ⟨by rfl, ?_⟩) ?_ ?_
      rotate_left
      · intro w'
        go_simp
        with_reducible rfl
      rotate_left
      · simp only [Act.put, List.setIfInBounds_toArray, List.set_cons_zero, List.set_cons_succ, i64_w, i32_w]
        rfl
      refine pure_ (i := 5) (N := some 33) (v := ?_) (a' := ?_) #[true, true, true, true, true, true, false, true, false, false] rfl rfl (by kernel_rfl) (fun _ _ _ h => h) (Or.inl ⟨by rfl, ?_⟩) ?_ ?_
      rotate_left
      · intro w'
        go_simp
        with_reducible rfl
      rotate_left
      · simp only [Act.put, List.setIfInBounds_toArray, List.set_cons_zero, List.set_cons_succ, i64_w, i32_w]
        rfl
      refine pure_ (i := 6) (N := some 34) (v := ?_) (a' := ?_) #[true, true, true, true, true, true, true, true, false, false] rfl rfl (by kernel_rfl) (fun _ _ _ h => h) (Or.inl ⟨by rfl, ?_⟩) ?_ ?_
      rotate_left
      · intro w'
        go_simp
        with_reducible rfl
      rotate_left
      · simp only [Act.put, List.setIfInBounds_toArray, List.set_cons_zero, List.set_cons_succ, i64_w, i32_w]
        rfl
      exact norm_ (by first | (simp only [putAll, Act.put, List.setIfInBounds_toArray, List.set_cons_zero, List.set_cons_succ]; done) | (simp only [putAll, Act.put, List.setIfInBounds_toArray, List.set_cons_zero, List.set_cons_succ]; rfl)) (hCont _ _ ⟨HR.out, LR.out, hHeld.1⟩)
  rintro R w5 ⟨hr, lr, hb⟩
  have hHeld : Below w4.heap.size w4 w5 ∧ (convert 22 9 (.slice A0 b.length c0)).run Try.prog w5 = .ok (.string sb) w5 := ⟨hb, HBW.out _ hb⟩
  have HRB := Aside0.mk hr
  have HLR := Aside0.mk lr
  have HB5 := Aside0.mk hb
  have q0 : w5.cell? ⟨R, 0, none⟩ = some (.int .i64 0) := (blk_cell hr 0).trans rfl
  have q1 : w5.cell? ⟨R, 1, none⟩ = some (.string ⟨#[]⟩) := (blk_cell hr 1).trans rfl
  have q2 : w5.cell? ⟨R, 2, none⟩ = some (.string ⟨#[]⟩) := (blk_cell hr 2).trans rfl
  have f0 : ∀ i, w5.frozen? ⟨R, i, none⟩ = false := fun i => blk_frozen hr i
  have pl := blk_lt hr
  clear hr lr hb
  refine norm_ (a' := ?_) ?_ ?_
  rotate_left
  · simp only [putAll, Act.put, List.setIfInBounds_toArray, List.set_cons_zero, List.set_cons_succ]
    rfl
  refine last_ (i := 8) (N := none) #[true, true, true, true, true, true, true, true, true, false] rfl rfl (by kernel_rfl) (by decide) (fun K hK => ?_)
  refine skip_ (w1 := ?_) (by rfl) rfl ?_ ?_
  rotate_left
  · go_simp
    rfl
  refine hK.out _ _ ?_
  clear hK K
  refine pure_ (i := 9) (N := some 7) (v := ?_) (a' := ?_) #[true, true, true, true, true, true, true, true, true, true] rfl rfl (by kernel_rfl) (fun _ _ _ h => h) (Or.inl ⟨by rfl, ?_⟩) ?_ ?_
  rotate_left
  · intro w'
    go_simp
    with_reducible rfl
  rotate_left
  · simp only [Act.put, List.setIfInBounds_toArray, List.set_cons_zero, List.set_cons_succ, i64_w, i32_w]
    rfl
  refine done_ (by kernel_rfl) ?_
  have b1 := blk_set HRB.out 0 (.int .i64 1000)
  have b2 := blk_set b1 1 (.string ⟨#[]⟩)
  have b3 := blk_set b2 2 (.string sb)
  have HB6 := Aside0.mk (((HB5.out.setCell (p := ⟨R, 0, none⟩) HLR.out (.int .i64 1000)).setCell (p := ⟨R, 1, none⟩) HLR.out (.string ⟨#[]⟩)).setCell (p := ⟨R, 2, none⟩) HLR.out (.string sb))
  have p0 := (blk_cell b3 0).trans (show _ = some (.int .i64 1000) from rfl)
  have p1 := (blk_cell b3 1).trans (show _ = some (.string ⟨#[]⟩) from rfl)
  have p2 := (blk_cell b3 2).trans (show _ = some (.string sb) from rfl)
  clear q0 q1 q2 f0 pl b1 b2 b3 HRB HLR HB5 hHeld
  generalize World.setCell _ _ _ = w6 at *
  go_wp2_with (first
    | (go_at_call 81; refine (R6O.out _).mono ?_; rintro e w7 ⟨rfl, hb⟩; have HB7 := Aside0.mk (below_step HB6.out hb); clear hb p0 p1 p2))
  have hr8 := heap_alloc_new w7 (.cells #[.int .i64 1000, .string sA, .string ⟨#[]⟩] 48)
  have HB8 := Aside0.mk (below_alloc HB7.out (.cells #[.int .i64 1000, .string sA, .string ⟨#[]⟩] 48))
  have hl7 := HB7.out.size
  have hl43 := blk_lt HJ4.out
  have hg3 := HD3.out.lt
  generalize w7.alloc (.cells #[.int .i64 1000, .string sA, .string ⟨#[]⟩] 48) = w8 at *
  have hl8 := blk_lt hr8
  generalize w7.heap.size = R2 at *
  have HR8 := Aside0.mk hr8
  clear hr8 HB7 HB6 HM4
  have OPEN2 : Aside0 (Calls Try.prog 74 #[.pointer (some ⟨w1.heap.size, 0, none⟩)] w8 fun e w' => e = .returned (.tuple #[.pointer (some ⟨w8.heap.size, 0, none⟩), .int .i64 0]) ∧ ∃ v, JCells w' w8.heap.size (.pointer (some ⟨w1.heap.size, 0, none⟩)) v (ps.length : Int) ∧ DiskAt w' w1.heap.size (fun k => w1.heap.size ≤ k ∧ k < w3.heap.size) 1000 n (b.take n) ∧ Kd.R KS 22 w' w8.heap.size (fun _ => True) v ps ∧ Moved w8 w' (OfDisk w1.heap.size (fun k => w1.heap.size ≤ k ∧ k < w3.heap.size))) := Aside0.mk (by
    refine (jOpen_fine (HD4.out.below HB8.out) (fun k hk => by have := HB8.out.size; omega) HSC2.out (by rw [HTL.out]; exact Nat.le_refl _)).mono ?_
    rintro e w' ⟨he, h⟩
    refine ⟨by rw [he, HTL.out, Int.sub_self], ?_⟩
    rw [List.take_take, Nat.min_self] at h
    exact h)
  have NOD : Aside0 (∀ k, w3.heap.size ≤ k → ¬ OfDisk w1.heap.size (fun k => w1.heap.size ≤ k ∧ k < w3.heap.size) k) := Aside0.mk (fun k hk h => by rcases h with h | h <;> omega)
  go_wp2_with (first
    | (go_at_call 74; refine OPEN2.out.mono ?_; rintro e w9 ⟨rfl, v2, hj, hd, hr, hm⟩; have HJ9 := Aside0.mk hj; have HD9 := Aside0.mk hd; have HR9 := Aside0.mk hr; have HM9 := Aside0.mk hm; clear hj hd hr hm))
  have JC1 := Aside0.mk ((HJ4.out.below HB8.out).moved HM9.out (NOD.out _ (Nat.le_refl _)))
  have hR1 := Kd.R_kept (Kd.R_bound (Kd.R_below HR4.out HB8.out)) HM9.out.kept (fun k hk hS => NOD.out k hk.2.1 hS)
  obtain ⟨A1, k1, rfl, hk1, hC1⟩ := Kd.R_reads hR1
  obtain ⟨A2, k2, rfl, hk2, hC2⟩ := Kd.R_reads HR9.out
  have hr9 := (HM9.out.kept.2 R2 hl8 (NOD.out R2 (by omega))).trans HR8.out
  have HR9' := Aside0.mk hr9
  have C1 := Aside0.mk hC1
  have C2 := Aside0.mk hC2
  clear hR1 hC1 hC2 hr9
  have CE : Aside0 (∀ W, Below w9.heap.size w9 W → W.cell? ⟨R2, 0, none⟩ = some (.int .i64 1000) ∧ W.cell? ⟨R2, 1, none⟩ = some (.string sA) ∧ W.cell? ⟨R2, 2, none⟩ = some (.string ⟨#[]⟩)) := Aside0.mk (fun W hW => by
    have h := (hW.block R2 (blk_lt HR9'.out)).trans HR9'.out
    exact ⟨(blk_cell h 0).trans rfl, (blk_cell h 1).trans rfl, (blk_cell h 2).trans rfl⟩)
  have ALLJ : Aside0 (∀ W, Below w9.heap.size w9 W → Calls Try.prog 80 #[.pointer (some ⟨w3.heap.size, 0, none⟩)] W fun e w' => ∃ (A' : Option Addr) (c' : Nat), e = .returned (.slice A' ps.length c') ∧ ps.length ≤ c' ∧ Kd.C KS w' A' ps.length ps ∧ Below W.heap.size W w') := Aside0.mk (fun W hW => jall_any (JC1.out.below hW) (Kd.C_below C1.out hW) hk1 HPX.out (by omega))
  have ALLK : Aside0 (∀ W, Below w9.heap.size w9 W → Calls Try.prog 80 #[.pointer (some ⟨w8.heap.size, 0, none⟩)] W fun e w' => ∃ (A' : Option Addr) (c' : Nat), e = .returned (.slice A' ps.length c') ∧ ps.length ≤ c' ∧ Kd.C KS w' A' ps.length ps ∧ Below W.heap.size W w') := Aside0.mk (fun W hW => jall_any (HJ9.out.below hW) (Kd.C_below C2.out hW) hk2 HPX.out (by omega))
  have SAME : Aside0 (∀ W A c A' c', Kd.C KS W A ps.length ps → ps.length ≤ c → Kd.C KS W A' ps.length ps → ps.length ≤ c' → Calls Try.prog 69 #[.slice A ps.length c, .slice A' ps.length c'] W fun e w' => e = .returned (.bool true) ∧ Below W.heap.size W w') := Aside0.mk (fun W A c A' c' h1 h2 h3 h4 => (jsame_any A c ps A' c' ps W h1 h2 h3 h4 HKB.out HKB.out (by omega)).mono fun e w' ⟨he, hb⟩ => ⟨by rw [he]; simp, hb⟩)
  have LEN : Aside0 (∀ W, Below w9.heap.size w9 W → Calls Try.prog 43 #[.pointer (some ⟨w1.heap.size, 0, none⟩)] W fun e w' => e = .returned (.int .i64 (n : Int)) ∧ W = w') := Aside0.mk (fun W hW => by
    have h := len_any (HD9.out.below hW)
    rw [HTL.out] at h
    exact h)
  have SAFE : Aside0 (∀ W, Below w9.heap.size w9 W → Calls Try.prog 42 #[.pointer (some ⟨w1.heap.size, 0, none⟩)] W fun e w' => e = .returned (.int .i64 (n : Int)) ∧ W = w') := Aside0.mk (fun W hW => safe_any (HD9.out.below hW))
  have HB9 := Aside0.mk (show Below w.heap.size w w9 from below_step HB1.out (((Moved.of_below (below_step HB4.out HB8.out) (OfDisk w1.heap.size (fun k => w1.heap.size ≤ k ∧ k < w3.heap.size))).trans HM9.out (fun k hk => .inl hk)).toBelow (Nat.le_refl _) (fun k hk => by rcases hk with rfl | hk; exact Nat.le_refl _; exact hk.1)))
  generalize ps.length = pl at *
  have hn1 : (0 : Int) ≤ (n : Int) := by omega
  generalize hq : (b.length : Int) - (n : Int) = q at *
  have hn2 : (0 : Int) ≤ q := by omega
  have hn3 : q ≤ 300 := by omega
  have hq1 : ((q : Int) == q) = true := beq_self_eq_true _
  have hq2 : ((n : Int) == (n : Int)) = true := beq_self_eq_true _
  have hwn : wrap64 (n : Int) = (n : Int) := by unfold wrap64; omega
  have hwi : IntKind.i64.wrap ((b.length : Int) - q) = (n : Int) := by rw [hsub, i64_w, hwn]
  clear hq
  refine start_ (n := 38) (S := fun w' => Below w9.heap.size w9 w' ∧ w'.cell? ⟨R2, 0, none⟩ = some (.int .i64 1000) ∧ w'.cell? ⟨R2, 1, none⟩ = some (.string sA) ∧ w'.cell? ⟨R2, 2, none⟩ = some (.string ⟨#[]⟩)) (ds := []) #[false, false, false, false, false, false, false, false, false, false, false, false, false, false, false, false, false, false, false, false, false, false, false, false, false, false, false, false, false, false, false, false, false, false, false, false, false, false] (by kernel_rfl) rfl rfl ⟨(below_drew (Below.refl _ _)), (CE.out _ (below_drew (Below.refl _ _))).1, (CE.out _ (below_drew (Below.refl _ _))).2.1, (CE.out _ (below_drew (Below.refl _ _))).2.2⟩ (fun hHeld => ?_)
  refine pure_ (i := 0) (N := some 45) (v := ?_) (a' := ?_) #[true, false, false, false, false, false, false, false, false, false, false, false, false, false, false, false, false, false, false, false, false, false, false, false, false, false, false, false, false, false, false, false, false, false, false, false, false, false] rfl rfl (by kernel_rfl) (fun _ _ _ h => h) (Or.inl ⟨by rfl, ?_⟩) ?_ ?_
  rotate_left
  · intro w'
    go_simp
    with_reducible rfl
  rotate_left
  · simp only [Act.put, List.setIfInBounds_toArray, List.set_cons_zero, List.set_cons_succ, i64_w, i32_w]
    rfl
  refine pure_ (i := 1) (N := some 46) (v := ?_) (a' := ?_) #[true, true, false, false, false, false, false, false, false, false, false, false, false, false, false, false, false, false, false, false, false, false, false, false, false, false, false, false, false, false, false, false, false, false, false, false, false, false] rfl rfl (by kernel_rfl) (fun _ _ _ h => h) (Or.inl ⟨by rfl, ?_⟩) ?_ ?_
  rotate_left
  · intro w'
    go_simp
    with_reducible rfl
  rotate_left
  · simp only [Act.put, List.setIfInBounds_toArray, List.set_cons_zero, List.set_cons_succ, i64_w, i32_w]
    rfl
  refine pure_ (i := 2) (N := some 47) (v := ?_) (a' := ?_) #[true, true, true, false, false, false, false, false, false, false, false, false, false, false, false, false, false, false, false, false, false, false, false, false, false, false, false, false, false, false, false, false, false, false, false, false, false, false] rfl rfl (by kernel_rfl) (fun _ _ _ h => h) (Or.inl ⟨by rfl, ?_⟩) ?_ ?_
  rotate_left
  · intro w'
    go_simp
    with_reducible rfl
  rotate_left
  · simp only [Act.put, List.setIfInBounds_toArray, List.set_cons_zero, List.set_cons_succ, i64_w, i32_w]
    rfl
  refine pure_ (i := 3) (N := some 48) (v := ?_) (a' := ?_) #[true, true, true, true, false, false, false, false, false, false, false, false, false, false, false, false, false, false, false, false, false, false, false, false, false, false, false, false, false, false, false, false, false, false, false, false, false, false] rfl rfl (by kernel_rfl) (fun _ _ _ h => h) (Or.inl ⟨by rfl, ?_⟩) ?_ ?_
  rotate_left
  · intro w'
    go_simp
    with_reducible rfl
  rotate_left
  · simp only [Act.put, List.setIfInBounds_toArray, List.set_cons_zero, List.set_cons_succ, i64_w, i32_w]
    rfl
  refine pure_ (i := 4) (N := some 49) (v := ?_) (a' := ?_) #[true, true, true, true, true, false, false, false, false, false, false, false, false, false, false, false, false, false, false, false, false, false, false, false, false, false, false, false, false, false, false, false, false, false, false, false, false, false] rfl rfl (by kernel_rfl) (fun _ _ _ h => h) (Or.inl ⟨by rfl, ?_⟩) ?_ ?_
  rotate_left
  · intro w'
    go_simp
    with_reducible rfl
  rotate_left
  · simp only [Act.put, List.setIfInBounds_toArray, List.set_cons_zero, List.set_cons_succ, i64_w, i32_w]
    rfl
  refine take_ (i := 6) (N := some 51) (v := ?_) (a' := ?_) #[true, true, true, true, true, false, true, false, false, false, false, false, false, false, false, false, false, false, false, false, false, false, false, false, false, false, false, false, false, false, false, false, false, false, false, false, false, false] rfl rfl (by kernel_rfl) (fun _ _ _ h => h) (Or.inl ⟨by rfl, ?_⟩) hHeld ?_ ?_
  rotate_left
  · rintro w' ⟨s0, s1, s2, s3⟩
    go_simp
    with_reducible rfl
  rotate_left
  · simp only [Act.put, List.setIfInBounds_toArray, List.set_cons_zero, List.set_cons_succ, i64_w, i32_w]
    rfl
  refine one_ (i := 5) (N := some 50) #[true, true, true, true, true, true, true, false, false, false, false, false, false, false, false, false, false, false, false, false, false, false, false, false, false, false, false, false, false, false, false, false, false, false, false, false, false, false] rfl rfl (by kernel_rfl) (by decide) (fun K hK => ?_)
  refine goes_ Try.func80 (by kernel_rfl) rfl #[.pointer (some ⟨w3.heap.size, 0, none⟩)] (by rfl) rfl rfl (by simp only [List.map_toArray, List.map_cons, List.map_nil]; rfl) ?_
  with_reducible refine (ALLJ.out _ hHeld.1).mono ?_
  rintro e wa ⟨Aa, ca, rfl, hca, hCa, hb⟩
  refine ⟨_, rfl, ?_⟩
  have HCa := Aside0.mk hCa
  have HBa := Aside0.mk (below_step hHeld.1 hb)
  clear hCa hb
  refine hK.out _ _ ⟨HBa.out, (CE.out _ (HBa.out)).1, (CE.out _ (HBa.out)).2.1, (CE.out _ (HBa.out)).2.2⟩ (fun hHeld => ?_)
  clear hK K
  refine norm_ (a' := ?_) ?_ ?_
  rotate_left
  · show Act.put _ (some 50) _ = _
    simp only [Act.put, List.setIfInBounds_toArray, List.set_cons_zero, List.set_cons_succ, i64_w, i32_w]
    rfl
  refine one_ (i := 7) (N := some 52) #[true, true, true, true, true, true, true, true, false, false, false, false, false, false, false, false, false, false, false, false, false, false, false, false, false, false, false, false, false, false, false, false, false, false, false, false, false, false] rfl rfl (by kernel_rfl) (by decide) (fun K hK => ?_)
  refine goes_ Try.func82 (by kernel_rfl) rfl #[.agg #[.int .i64 1000, .string sA, .string ⟨#[]⟩]] (by rfl) rfl rfl (by simp only [List.map_toArray, List.map_cons, List.map_nil]; rfl) ?_
  with_reducible refine (R6A.out _).mono ?_
  rintro e wb ⟨Ab, cb, rfl, hcb, hCb, hb⟩
  refine ⟨_, rfl, ?_⟩
  have HCa2 := Aside0.mk (Kd.C_below HCa.out hb)
  have HCb := Aside0.mk hCb
  have HBb := Aside0.mk (below_step hHeld.1 hb)
  clear hCb hb
  refine hK.out _ _ ⟨HBb.out, (CE.out _ (HBb.out)).1, (CE.out _ (HBb.out)).2.1, (CE.out _ (HBb.out)).2.2⟩ (fun hHeld => ?_)
  clear hK K
  refine norm_ (a' := ?_) ?_ ?_
  rotate_left
  · show Act.put _ (some 52) _ = _
    simp only [Act.put, List.setIfInBounds_toArray, List.set_cons_zero, List.set_cons_succ, i64_w, i32_w]
    rfl
  refine one_ (i := 8) (N := some 53) #[true, true, true, true, true, true, true, true, true, false, false, false, false, false, false, false, false, false, false, false, false, false, false, false, false, false, false, false, false, false, false, false, false, false, false, false, false, false] rfl rfl (by kernel_rfl) (by decide) (fun K hK => ?_)
  refine goes_ Try.func69 (by kernel_rfl) rfl #[.slice Aa pl ca, .slice Ab pl cb] (by rfl) rfl rfl (by simp only [List.map_toArray, List.map_cons, List.map_nil]; rfl) ?_
  with_reducible refine (SAME.out _ _ _ _ _ HCa2.out hca HCb.out hcb).mono ?_
  rintro e wc ⟨rfl, hb⟩
  refine ⟨_, rfl, ?_⟩
  have HBc := Aside0.mk (below_step hHeld.1 hb)
  clear hb
  refine hK.out _ _ ⟨HBc.out, (CE.out _ (HBc.out)).1, (CE.out _ (HBc.out)).2.1, (CE.out _ (HBc.out)).2.2⟩ (fun hHeld => ?_)
  clear hK K
  refine norm_ (a' := ?_) ?_ ?_
  rotate_left
  · show Act.put _ (some 53) _ = _
    simp only [Act.put, List.setIfInBounds_toArray, List.set_cons_zero, List.set_cons_succ, i64_w, i32_w]
    rfl
  refine pure_ (i := 9) (N := some 54) (v := ?_) (a' := ?_) #[true, true, true, true, true, true, true, true, true, true, false, false, false, false, false, false, false, false, false, false, false, false, false, false, false, false, false, false, false, false, false, false, false, false, false, false, false, false] rfl rfl (by kernel_rfl) (fun _ _ _ h => h) (Or.inl ⟨by rfl, ?_⟩) ?_ ?_
  rotate_left
  · intro w'
    go_simp
    with_reducible rfl
  rotate_left
  · simp only [Act.put, List.setIfInBounds_toArray, List.set_cons_zero, List.set_cons_succ, i64_w, i32_w]
    rfl
  refine pure_ (i := 10) (N := some 55) (v := ?_) (a' := ?_) #[true, true, true, true, true, true, true, true, true, true, true, false, false, false, false, false, false, false, false, false, false, false, false, false, false, false, false, false, false, false, false, false, false, false, false, false, false, false] rfl rfl (by kernel_rfl) (fun _ _ _ h => h) (Or.inl ⟨by rfl, ?_⟩) ?_ ?_
  rotate_left
  · intro w'
    go_simp
    with_reducible rfl
  rotate_left
  · simp only [Act.put, List.setIfInBounds_toArray, List.set_cons_zero, List.set_cons_succ, i64_w, i32_w]
    rfl
  refine pure_ (i := 11) (N := some 56) (v := ?_) (a' := ?_) #[true, true, true, true, true, true, true, true, true, true, true, true, false, false, false, false, false, false, false, false, false, false, false, false, false, false, false, false, false, false, false, false, false, false, false, false, false, false] rfl rfl (by kernel_rfl) (fun _ _ _ h => h) (Or.inl ⟨by rfl, ?_⟩) ?_ ?_
  rotate_left
  · intro w'
    go_simp
    with_reducible rfl
  rotate_left
  · simp only [Act.put, List.setIfInBounds_toArray, List.set_cons_zero, List.set_cons_succ, i64_w, i32_w]
    rfl
  refine pure_ (i := 13) (N := some 58) (v := ?_) (a' := ?_) #[true, true, true, true, true, true, true, true, true, true, true, true, false, true, false, false, false, false, false, false, false, false, false, false, false, false, false, false, false, false, false, false, false, false, false, false, false, false] rfl rfl (by kernel_rfl) (fun _ _ _ h => h) (Or.inl ⟨by rfl, ?_⟩) ?_ ?_
  rotate_left
  · intro w'
    go_simp
    with_reducible rfl
  rotate_left
  · simp only [Act.put, List.setIfInBounds_toArray, List.set_cons_zero, List.set_cons_succ, i64_w, i32_w]
    rfl
  refine pure_ (i := 14) (N := some 59) (v := ?_) (a' := ?_) #[true, true, true, true, true, true, true, true, true, true, true, true, false, true, true, false, false, false, false, false, false, false, false, false, false, false, false, false, false, false, false, false, false, false, false, false, false, false] rfl rfl (by kernel_rfl) (fun _ _ _ h => h) (Or.inl ⟨by rfl, ?_⟩) ?_ ?_
  rotate_left
  · intro w'
    go_simp
    with_reducible rfl
  rotate_left
  · simp only [Act.put, List.setIfInBounds_toArray, List.set_cons_zero, List.set_cons_succ, i64_w, i32_w]
    rfl
  refine pure_ (i := 15) (N := some 60) (v := ?_) (a' := ?_) #[true, true, true, true, true, true, true, true, true, true, true, true, false, true, true, true, false, false, false, false, false, false, false, false, false, false, false, false, false, false, false, false, false, false, false, false, false, false] rfl rfl (by kernel_rfl) (fun _ _ _ h => h) (Or.inl ⟨by rfl, ?_⟩) ?_ ?_
  rotate_left
  · intro w'
    go_simp
    with_reducible rfl
  rotate_left
  · simp only [Act.put, List.setIfInBounds_toArray, List.set_cons_zero, List.set_cons_succ, i64_w, i32_w]
    rfl
  refine pure_ (i := 16) (N := some 61) (v := ?_) (a' := ?_) #[true, true, true, true, true, true, true, true, true, true, true, true, false, true, true, true, true, false, false, false, false, false, false, false, false, false, false, false, false, false, false, false, false, false, false, false, false, false] rfl rfl (by kernel_rfl) (fun _ _ _ h => h) (Or.inl ⟨by rfl, ?_⟩) ?_ ?_
  rotate_left
  · intro w'
    go_simp
    with_reducible rfl
  rotate_left
  · simp only [Act.put, List.setIfInBounds_toArray, List.set_cons_zero, List.set_cons_succ, i64_w, i32_w]
    rfl
  refine one_ (i := 12) (N := some 57) #[true, true, true, true, true, true, true, true, true, true, true, true, true, true, true, true, true, false, false, false, false, false, false, false, false, false, false, false, false, false, false, false, false, false, false, false, false, false] rfl rfl (by kernel_rfl) (by decide) (fun K hK => ?_)
  refine goes_ Try.func43 (by kernel_rfl) rfl #[.pointer (some ⟨w1.heap.size, 0, none⟩)] (by rfl) rfl rfl (by simp only [List.map_toArray, List.map_cons, List.map_nil]; rfl) ?_
  with_reducible refine (LEN.out _ HBc.out).mono ?_
  rintro e wd ⟨rfl, rfl⟩
  refine ⟨_, rfl, ?_⟩
  refine hK.out _ _ ⟨HBc.out, (CE.out _ (HBc.out)).1, (CE.out _ (HBc.out)).2.1, (CE.out _ (HBc.out)).2.2⟩ (fun hHeld => ?_)
  clear hK K
  refine norm_ (a' := ?_) ?_ ?_
  rotate_left
  · show Act.put _ (some 57) _ = _
    simp only [Act.put, List.setIfInBounds_toArray, List.set_cons_zero, List.set_cons_succ, i64_w, i32_w]
    rfl
  refine pure_ (i := 17) (N := some 62) (v := ?_) (a' := ?_) #[true, true, true, true, true, true, true, true, true, true, true, true, true, true, true, true, true, true, false, false, false, false, false, false, false, false, false, false, false, false, false, false, false, false, false, false, false, false] rfl rfl (by kernel_rfl) (fun _ _ _ h => h) (Or.inl ⟨by rfl, ?_⟩) ?_ ?_
  rotate_left
  · intro w'
    go_simp
    with_reducible rfl
  rotate_left
  · simp only [Act.put, List.setIfInBounds_toArray, List.set_cons_zero, List.set_cons_succ, i64_w, i32_w]
    rfl
  refine pure_ (i := 18) (N := some 63) (v := ?_) (a' := ?_) #[true, true, true, true, true, true, true, true, true, true, true, true, true, true, true, true, true, true, true, false, false, false, false, false, false, false, false, false, false, false, false, false, false, false, false, false, false, false] rfl rfl (by kernel_rfl) (fun _ _ _ h => h) (Or.inl ⟨by rfl, ?_⟩) ?_ ?_
  rotate_left
  · intro w'
    go_simp
    with_reducible rfl
  rotate_left
  · simp only [Act.put, List.setIfInBounds_toArray, List.set_cons_zero, List.set_cons_succ, i64_w, i32_w]
    rfl
  refine pure_ (i := 19) (N := some 64) (v := ?_) (a' := ?_) #[true, true, true, true, true, true, true, true, true, true, true, true, true, true, true, true, true, true, true, true, false, false, false, false, false, false, false, false, false, false, false, false, false, false, false, false, false, false] rfl rfl (by kernel_rfl) (fun _ _ _ h => h) (Or.inl ⟨by rfl, ?_⟩) ?_ ?_
  rotate_left
  · intro w'
    go_simp
    with_reducible rfl
  rotate_left
  · simp only [Act.put, List.setIfInBounds_toArray, List.set_cons_zero, List.set_cons_succ, i64_w, i32_w]
    rfl
  refine pure_ (i := 20) (N := some 65) (v := ?_) (a' := ?_) #[true, true, true, true, true, true, true, true, true, true, true, true, true, true, true, true, true, true, true, true, true, false, false, false, false, false, false, false, false, false, false, false, false, false, false, false, false, false] rfl rfl (by kernel_rfl) (fun _ _ _ h => h) (Or.inl ⟨by rfl, ?_⟩) ?_ ?_
  rotate_left
  · intro w'
    go_simp
    with_reducible rfl
  rotate_left
  · simp only [Act.put, List.setIfInBounds_toArray, List.set_cons_zero, List.set_cons_succ, i64_w, i32_w]
    rfl
  refine pure_ (i := 21) (N := some 66) (v := ?_) (a' := ?_) #[true, true, true, true, true, true, true, true, true, true, true, true, true, true, true, true, true, true, true, true, true, true, false, false, false, false, false, false, false, false, false, false, false, false, false, false, false, false] rfl rfl (by kernel_rfl) (fun _ _ _ h => h) (Or.inl ⟨by rfl, ?_⟩) ?_ ?_
  rotate_left
  · intro w'
    go_simp
    with_reducible rfl
  rotate_left
  · simp only [Act.put, List.setIfInBounds_toArray, List.set_cons_zero, List.set_cons_succ, i64_w, i32_w]
    rfl
  refine pure_ (i := 22) (N := some 67) (v := ?_) (a' := ?_) #[true, true, true, true, true, true, true, true, true, true, true, true, true, true, true, true, true, true, true, true, true, true, true, false, false, false, false, false, false, false, false, false, false, false, false, false, false, false] rfl rfl (by kernel_rfl) (fun _ _ _ h => h) (Or.inl ⟨by rfl, ?_⟩) ?_ ?_
  rotate_left
  · intro w'
    go_simp
    with_reducible rfl
  rotate_left
  · simp only [Act.put, List.setIfInBounds_toArray, List.set_cons_zero, List.set_cons_succ, i64_w, i32_w]
    rfl
  refine pure_ (i := 23) (N := some 68) (v := ?_) (a' := ?_) #[true, true, true, true, true, true, true, true, true, true, true, true, true, true, true, true, true, true, true, true, true, true, true, true, false, false, false, false, false, false, false, false, false, false, false, false, false, false] rfl rfl (by kernel_rfl) (fun _ _ _ h => h) (Or.inl ⟨by rfl, ?_⟩) ?_ ?_
  rotate_left
  · intro w'
    go_simp
    with_reducible rfl
  rotate_left
  · simp only [Act.put, List.setIfInBounds_toArray, List.set_cons_zero, List.set_cons_succ, i64_w, i32_w]
    rfl
  refine pure_ (i := 24) (N := some 69) (v := ?_) (a' := ?_) #[true, true, true, true, true, true, true, true, true, true, true, true, true, true, true, true, true, true, true, true, true, true, true, true, true, false, false, false, false, false, false, false, false, false, false, false, false, false] rfl rfl (by kernel_rfl) (fun _ _ _ h => h) (Or.inl ⟨by rfl, ?_⟩) ?_ ?_
  rotate_left
  · intro w'
    go_simp
    with_reducible rfl
  rotate_left
  · simp only [Act.put, List.setIfInBounds_toArray, List.set_cons_zero, List.set_cons_succ, i64_w, i32_w]
    rfl
  refine pure_ (i := 26) (N := some 71) (v := ?_) (a' := ?_) #[true, true, true, true, true, true, true, true, true, true, true, true, true, true, true, true, true, true, true, true, true, true, true, true, true, false, true, false, false, false, false, false, false, false, false, false, false, false] rfl rfl (by kernel_rfl) (fun _ _ _ h => h) (Or.inl ⟨by rfl, ?_⟩) ?_ ?_
  rotate_left
  · intro w'
    go_simp
    with_reducible rfl
  rotate_left
  · simp only [Act.put, List.setIfInBounds_toArray, List.set_cons_zero, List.set_cons_succ, i64_w, i32_w]
    rfl
  refine one_ (i := 25) (N := some 70) #[true, true, true, true, true, true, true, true, true, true, true, true, true, true, true, true, true, true, true, true, true, true, true, true, true, true, true, false, false, false, false, false, false, false, false, false, false, false] rfl rfl (by kernel_rfl) (by decide) (fun K hK => ?_)
  refine goes_ Try.func80 (by kernel_rfl) rfl #[.pointer (some ⟨w8.heap.size, 0, none⟩)] (by rfl) rfl rfl (by simp only [List.map_toArray, List.map_cons, List.map_nil]; rfl) ?_
  with_reducible refine (ALLK.out _ HBc.out).mono ?_
  rintro e we ⟨Ae, ce, rfl, hce, hCe, hb⟩
  refine ⟨_, rfl, ?_⟩
  have HCe := Aside0.mk hCe
  have HBe := Aside0.mk (below_step HBc.out hb)
  clear hCe hb
  refine hK.out _ _ ⟨HBe.out, (CE.out _ (HBe.out)).1, (CE.out _ (HBe.out)).2.1, (CE.out _ (HBe.out)).2.2⟩ (fun hHeld => ?_)
  clear hK K
  refine norm_ (a' := ?_) ?_ ?_
  rotate_left
  · show Act.put _ (some 70) _ = _
    simp only [Act.put, List.setIfInBounds_toArray, List.set_cons_zero, List.set_cons_succ, i64_w, i32_w]
    rfl
  refine one_ (i := 27) (N := some 72) #[true, true, true, true, true, true, true, true, true, true, true, true, true, true, true, true, true, true, true, true, true, true, true, true, true, true, true, true, false, false, false, false, false, false, false, false, false, false] rfl rfl (by kernel_rfl) (by decide) (fun K hK => ?_)
  refine goes_ Try.func80 (by kernel_rfl) rfl #[.pointer (some ⟨w3.heap.size, 0, none⟩)] (by rfl) rfl rfl (by simp only [List.map_toArray, List.map_cons, List.map_nil]; rfl) ?_
  with_reducible refine (ALLJ.out _ HBe.out).mono ?_
  rintro e wf ⟨Af, cf, rfl, hcf, hCf, hb⟩
  refine ⟨_, rfl, ?_⟩
  have HCe2 := Aside0.mk (Kd.C_below HCe.out hb)
  have HCf := Aside0.mk hCf
  have HBf := Aside0.mk (below_step HBe.out hb)
  clear hCf hb
  refine hK.out _ _ ⟨HBf.out, (CE.out _ (HBf.out)).1, (CE.out _ (HBf.out)).2.1, (CE.out _ (HBf.out)).2.2⟩ (fun hHeld => ?_)
  clear hK K
  refine norm_ (a' := ?_) ?_ ?_
  rotate_left
  · show Act.put _ (some 72) _ = _
    simp only [Act.put, List.setIfInBounds_toArray, List.set_cons_zero, List.set_cons_succ, i64_w, i32_w]
    rfl
  refine one_ (i := 28) (N := some 73) #[true, true, true, true, true, true, true, true, true, true, true, true, true, true, true, true, true, true, true, true, true, true, true, true, true, true, true, true, true, false, false, false, false, false, false, false, false, false] rfl rfl (by kernel_rfl) (by decide) (fun K hK => ?_)
  refine goes_ Try.func69 (by kernel_rfl) rfl #[.slice Ae pl ce, .slice Af pl cf] (by rfl) rfl rfl (by simp only [List.map_toArray, List.map_cons, List.map_nil]; rfl) ?_
  with_reducible refine (SAME.out _ _ _ _ _ HCe2.out hce HCf.out hcf).mono ?_
  rintro e wg ⟨rfl, hb⟩
  refine ⟨_, rfl, ?_⟩
  have HBg := Aside0.mk (below_step HBf.out hb)
  clear hb
  refine hK.out _ _ ⟨HBg.out, (CE.out _ (HBg.out)).1, (CE.out _ (HBg.out)).2.1, (CE.out _ (HBg.out)).2.2⟩ (fun hHeld => ?_)
  clear hK K
  refine norm_ (a' := ?_) ?_ ?_
  rotate_left
  · show Act.put _ (some 73) _ = _
    simp only [Act.put, List.setIfInBounds_toArray, List.set_cons_zero, List.set_cons_succ, i64_w, i32_w]
    rfl
  refine pure_ (i := 29) (N := some 74) (v := ?_) (a' := ?_) #[true, true, true, true, true, true, true, true, true, true, true, true, true, true, true, true, true, true, true, true, true, true, true, true, true, true, true, true, true, true, false, false, false, false, false, false, false, false] rfl rfl (by kernel_rfl) (fun _ _ _ h => h) (Or.inl ⟨by rfl, ?_⟩) ?_ ?_
  rotate_left
  · intro w'
    go_simp
    with_reducible rfl
  rotate_left
  · simp only [Act.put, List.setIfInBounds_toArray, List.set_cons_zero, List.set_cons_succ, i64_w, i32_w]
    rfl
  refine pure_ (i := 30) (N := some 75) (v := ?_) (a' := ?_) #[true, true, true, true, true, true, true, true, true, true, true, true, true, true, true, true, true, true, true, true, true, true, true, true, true, true, true, true, true, true, true, false, false, false, false, false, false, false] rfl rfl (by kernel_rfl) (fun _ _ _ h => h) (Or.inl ⟨by rfl, ?_⟩) ?_ ?_
  rotate_left
  · intro w'
    go_simp
    with_reducible rfl
  rotate_left
  · simp only [Act.put, List.setIfInBounds_toArray, List.set_cons_zero, List.set_cons_succ, i64_w, i32_w]
    rfl
  refine pure_ (i := 31) (N := some 76) (v := ?_) (a' := ?_) #[true, true, true, true, true, true, true, true, true, true, true, true, true, true, true, true, true, true, true, true, true, true, true, true, true, true, true, true, true, true, true, true, false, false, false, false, false, false] rfl rfl (by kernel_rfl) (fun _ _ _ h => h) (Or.inl ⟨by rfl, ?_⟩) ?_ ?_
  rotate_left
  · intro w'
    go_simp
    with_reducible rfl
  rotate_left
  · simp only [Act.put, List.setIfInBounds_toArray, List.set_cons_zero, List.set_cons_succ, i64_w, i32_w]
    rfl
  refine pure_ (i := 33) (N := some 78) (v := ?_) (a' := ?_) #[true, true, true, true, true, true, true, true, true, true, true, true, true, true, true, true, true, true, true, true, true, true, true, true, true, true, true, true, true, true, true, true, false, true, false, false, false, false] rfl rfl (by kernel_rfl) (fun _ _ _ h => h) (Or.inl ⟨by rfl, ?_⟩) ?_ ?_
  rotate_left
  · intro w'
    go_simp
    with_reducible rfl
  rotate_left
  · simp only [Act.put, List.setIfInBounds_toArray, List.set_cons_zero, List.set_cons_succ, i64_w, i32_w]
    rfl
  refine one_ (i := 32) (N := some 77) #[true, true, true, true, true, true, true, true, true, true, true, true, true, true, true, true, true, true, true, true, true, true, true, true, true, true, true, true, true, true, true, true, true, true, false, false, false, false] rfl rfl (by kernel_rfl) (by decide) (fun K hK => ?_)
  refine goes_ Try.func42 (by kernel_rfl) rfl #[.pointer (some ⟨w1.heap.size, 0, none⟩)] (by rfl) rfl rfl (by simp only [List.map_toArray, List.map_cons, List.map_nil]; rfl) ?_
  with_reducible refine (SAFE.out _ HBg.out).mono ?_
  rintro e wh ⟨rfl, rfl⟩
  refine ⟨_, rfl, ?_⟩
  refine hK.out _ _ ⟨HBg.out, (CE.out _ (HBg.out)).1, (CE.out _ (HBg.out)).2.1, (CE.out _ (HBg.out)).2.2⟩ (fun hHeld => ?_)
  clear hK K
  refine norm_ (a' := ?_) ?_ ?_
  rotate_left
  · show Act.put _ (some 77) _ = _
    simp only [Act.put, List.setIfInBounds_toArray, List.set_cons_zero, List.set_cons_succ, i64_w, i32_w]
    rfl
  refine one_ (i := 34) (N := some 79) #[true, true, true, true, true, true, true, true, true, true, true, true, true, true, true, true, true, true, true, true, true, true, true, true, true, true, true, true, true, true, true, true, true, true, true, false, false, false] rfl rfl (by kernel_rfl) (by decide) (fun K hK => ?_)
  refine goes_ Try.func43 (by kernel_rfl) rfl #[.pointer (some ⟨w1.heap.size, 0, none⟩)] (by rfl) rfl rfl (by simp only [List.map_toArray, List.map_cons, List.map_nil]; rfl) ?_
  with_reducible refine (LEN.out _ HBg.out).mono ?_
  rintro e wh ⟨rfl, rfl⟩
  refine ⟨_, rfl, ?_⟩
  refine hK.out _ _ ⟨HBg.out, (CE.out _ (HBg.out)).1, (CE.out _ (HBg.out)).2.1, (CE.out _ (HBg.out)).2.2⟩ (fun hHeld => ?_)
  clear hK K
  refine norm_ (a' := ?_) ?_ ?_
  rotate_left
  · show Act.put _ (some 79) _ = _
    simp only [Act.put, List.setIfInBounds_toArray, List.set_cons_zero, List.set_cons_succ, i64_w, i32_w]
    rfl
  refine pure_ (i := 35) (N := some 80) (v := ?_) (a' := ?_) #[true, true, true, true, true, true, true, true, true, true, true, true, true, true, true, true, true, true, true, true, true, true, true, true, true, true, true, true, true, true, true, true, true, true, true, true, false, false] rfl rfl (by kernel_rfl) (fun _ _ _ h => h) (Or.inl ⟨by rfl, ?_⟩) ?_ ?_
  rotate_left
  · intro w'
    go_simp
    with_reducible rfl
  rotate_left
  · simp only [Act.put, List.setIfInBounds_toArray, List.set_cons_zero, List.set_cons_succ, i64_w, i32_w]
    rfl
  refine pure_ (i := 36) (N := some 81) (v := ?_) (a' := ?_) #[true, true, true, true, true, true, true, true, true, true, true, true, true, true, true, true, true, true, true, true, true, true, true, true, true, true, true, true, true, true, true, true, true, true, true, true, true, false] rfl rfl (by kernel_rfl) (fun _ _ _ h => h) (Or.inl ⟨by rfl, ?_⟩) ?_ ?_
  rotate_left
  · intro w'
    go_simp
    with_reducible rfl
  rotate_left
  · simp only [Act.put, List.setIfInBounds_toArray, List.set_cons_zero, List.set_cons_succ, i64_w, i32_w]
    rfl
  refine pure_ (i := 37) (N := some 2) (v := ?_) (a' := ?_) #[true, true, true, true, true, true, true, true, true, true, true, true, true, true, true, true, true, true, true, true, true, true, true, true, true, true, true, true, true, true, true, true, true, true, true, true, true, true] rfl rfl (by kernel_rfl) (fun _ _ _ h => h) (Or.inl ⟨by rfl, ?_⟩) ?_ ?_
  rotate_left
  · intro w'
    go_simp
    with_reducible rfl
  rotate_left
  · simp only [Act.put, List.setIfInBounds_toArray, List.set_cons_zero, List.set_cons_succ, i64_w, i32_w]
    rfl
  refine done_ (by kernel_rfl) ?_
  go_wp2
  go_ret
  exact ⟨rfl, below_step HB9.out HBg.out⟩
end Go.Proofs.Ytbcienbnhchdeaa.Hand

/- A row of rows of bytes that came in, opened. -/
namespace Go.Proofs.Ytbcienbnhchdeaa.Hand
open Go Go.RowKit Go.Deep Go.Proofs.YtbcienbnhchdeaaW.PrintWords
theorem open_rows {H : Type} {enc : TypeId × Value → H} {w : World} {base : Nat} {held : Bool} {fuel : Nat} {a : Option Addr} {len cap : Nat} {x : DataW H × List MemPlace}
    (h : DataW.trod enc Try.prog w base (fun _ => true) held fuel 65 (Value.slice a len cap).cells.toList = some x) :
    ∃ zs : List (List Int), zs.length = len ∧ len ≤ cap ∧ Kd.C (Kd.slice 5 (Kd.int .u8)) w a len zs ∧ ∀ z ∈ zs, okB z = true := by
  rcases open_int_rows Try.underlying65 Try.underlying22 Try.underlying5 (by kernel_rfl) (by kernel_rfl) h with ⟨hcs, _⟩ | ⟨ad, l, c, A, L, C, Z, hcs, _, hl, hm, _, hr⟩
  · simp [Value.cells] at hcs
    obtain ⟨rfl, rfl, rfl⟩ := hcs
    exact ⟨[], rfl, Nat.le_refl _, Kd.C_nil _ _, by simp⟩
  · simp [Value.cells] at hcs
    obtain ⟨rfl, rfl, rfl⟩ := hcs
    have hml : maxLen ≤ 9223372036854775807 := by decide
    refine ⟨(List.range len).map fun r => (Z r).take (L r), by simp, hl, ?_, ?_⟩
    · refine ⟨by simp, by omega, fun _ => ⟨ad, rfl, ?_⟩⟩
      intro j p hj
      have hjl : j < len := by
        have := (List.getElem?_eq_some_iff.1 hj).1
        simpa using this
      have hp : (Z j).take (L j) = p := by
        rw [List.getElem?_map, List.getElem?_range hjl] at hj
        simpa using hj
      subst hp
      obtain ⟨h1, h2, h3, h4, h5, h6, h7⟩ := hr j (by omega)
      have hlen : ((Z j).take (L j)).length = L j := by rw [List.length_take]; omega
      refine ⟨[.slice (A j) (L j) (C j)], rfl, ⟨A j, C j, by rw [hlen], by omega, ?_⟩, ?_⟩
      · refine ⟨rfl, by omega, ?_⟩
        intro h0
        rw [hlen] at h0
        cases hA : A j with
        | none => have := h6 hA; omega
        | some a' =>
          refine ⟨a', rfl, ?_⟩
          intro i q hi
          have hil : i < ((Z j).take (L j)).length := (List.getElem?_eq_some_iff.1 hi).1
          rw [hlen] at hil
          refine ⟨[.int .u8 q], rfl, rfl, ?_⟩
          intro i' u hu
          have hi' : i' = 0 := by
            have := (List.getElem?_eq_some_iff.1 hu).1
            simpa using this
          subst hi'
          have hu' : u = .int .u8 q := by simpa using hu.symm
          subst hu'
          have h8 := (h7 a' hA).2 i (by omega)
          have hq : (Z j).getD i 0 = q := by
            rw [List.getElem?_take_of_lt hil] at hi
            rw [List.getD_eq_getElem?_getD, hi]
            rfl
          rw [hq] at h8
          have e : i * (Kd.int .u8).sz + 0 = i := by show i * 1 + 0 = i; omega
          rw [e]
          exact h8
      · intro i' u hu
        have hi' : i' = 0 := by
          have := (List.getElem?_eq_some_iff.1 hu).1
          simpa using this
        subst hi'
        have hu' : u = .slice (A j) (L j) (C j) := by simpa using hu.symm
        subst hu'
        have e : j * (Kd.slice 5 (Kd.int .u8)).sz + 0 = j := by show j * 1 + 0 = j; omega
        rw [e]
        exact h1
    · intro z hz
      obtain ⟨r, hr', rfl⟩ := List.mem_map.1 hz
      obtain ⟨_, _, _, _, h5, _, _⟩ := hr r (by have := List.mem_range.1 hr'; omega)
      unfold okB
      rw [List.all_eq_true]
      intro n hn
      have h1 := h5 n (List.mem_of_mem_take hn)
      simp only [Lit.wf, Bool.and_eq_true, decide_eq_true_eq] at h1
      have e1 : IntKind.u8.min = 0 := by decide
      have e2 : IntKind.u8.max = 255 := by decide
      simp
      omega
end Go.Proofs.Ytbcienbnhchdeaa.Hand

/- The row of JournalOpens: what came in, opened; the law's contract; what came in, as it was. -/
namespace Go.Proofs.Ytbcienbnhchdeaa.journalOpens
open Go.ChangeShapes Go.WideShapes Go.ChangeAt Go.RowKit Go.Proofs.YtbcienbnhchdeaaW.PrintWords
set_option linter.unusedVariables false
theorem own : ownKnob Try.prog.godebug = none := by kernel_rfl
theorem laidOut : laidOutB Try.prog = true := by kernel_rfl
set_option maxRecDepth 100000 in
theorem lifted (os : Os) (started : os.Started) (H : Type) (enc : TypeId × Value → H) :
    ReturnsInHanded {} Try.checked os 22 .any (Rows.journalOpensSpec.pre6 enc Try.prog Try.f22 Rows.journalOpensRow.domain false) (Rows.journalOpensSpec.post enc Try.prog Try.f22 false true false false) := by
  refine returnsInHanded_of_change_sized (C := Try.checked) own started (by kernel_rfl) Try.func22
    (ChangeSpec.witness6 (enc := enc) (C := Try.checked) false ⟨#[], #[.slice none 0 0], []⟩ 8 (by kernel_rfl) (by kernel_rfl) (by kernel_rfl) (by kernel_rfl)) ?_
  intro W base args ds gs before hval0 hW hcnd hsz0 _
  have hval : ∀ (j : Nat) t v, Try.f22.params[j]? = some t → args[j]? = some v → Value.okWide Try.prog W .any base t v := hval0
  have hW' := hW
  obtain ⟨p, q, hA0, hV, rfl, hfz, hnd⟩ := hW
  have hA : DataW.TrodAll enc Try.prog W 0 (fun _ => true) true Try.f22.params.toList args.toList ds p := hA0
  rw [Try.params22] at hA hval
  obtain ⟨v0, vs0, d0, ds0, p0, q0, hargs, rfl, rfl, h0, r0⟩ := trodAll_cons hA
  obtain ⟨rfl, rfl, rfl⟩ := trodAll_nil r0
  obtain rfl : args = #[v0] := by cases args; simp_all
  obtain ⟨rfl, rfl⟩ := trodVars_none hV
  obtain ⟨a0, len0, cap0, rfl⟩ := okWide_slice Try.underlying22 (hval 0 22 v0 rfl rfl)
  have k0 := h0
  have lt0 : ∀ x ∈ p0, x.block < W.heap.size := by obtain ⟨m, hm⟩ := k0; exact DataW.trod_lt m _ _ _ hm
  obtain ⟨z0, hz0, hc0, hC0, ok0⟩ := (by obtain ⟨fuel, hf⟩ := h0; exact Hand.open_bytes hf : ∃ zs : List Int, zs.length = len0 ∧ len0 ≤ cap0 ∧ Kd.C (Kd.int .u8) W a0 len0 zs ∧ Hand.okB zs = true)
  subst hz0
  clear hA0 hval0 hsz0
  refine (Hand.journalOpens_any a0 cap0 z0 W hC0 hc0 ok0).mono fun e W' ⟨he, bel⟩ => ?_
  subst he
  exact ⟨_, rfl, _, _, _, [], _, [], hW', trodAll_mk1 (shut_bool Try.underlying4 _), (trodAll_cons_mk (Below.trod laidOut (by kernel_rfl) (of_decide_eq_true (by kernel_rfl)) k0 bel lt0) trodAll_mk0), rfl, bel.frame _, fun h => by cases h⟩
theorem over : Rows.journalOpensRow.holds Try.pinned (OpenSpec.ofChange Rows.journalOpensSpec) :=
  OpenClaim.holds_of_wide 22 Try.f22 rfl rfl rfl rfl rfl rfl rfl ⟨rfl, rfl, rfl, rfl, rfl⟩ rfl rfl rfl rfl rfl (by kernel_rfl) Try.func22 (by unfold joinedFacts; rw [Enter.enterP, Enter.liftsP, Enter.mkP]; kernel_rfl)
    (of_decide_eq_true (by kernel_rfl)) (by unfold Func.isWrapper; first | (rw [if_pos (by decide +kernel)]; kernel_rfl) | (rw [if_neg (by decide +kernel)]; exact ⟨rfl, rfl⟩))
    (fun os started H enc _ => lifted os started H enc)
theorem proved : Rows.JournalOpensSaid := over
#print axioms proved
end Go.Proofs.Ytbcienbnhchdeaa.journalOpens
namespace Go.Proofs.Ytbcienbnhchdeaa
/-- The row, under a short name, for the claim. -/
theorem journalOpens_holds : Rows.JournalOpensSaid := journalOpens.proved
end Go.Proofs.Ytbcienbnhchdeaa
