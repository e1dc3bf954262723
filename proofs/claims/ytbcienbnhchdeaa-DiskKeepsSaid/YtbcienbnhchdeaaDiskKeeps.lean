/- The more bytes a crash keeps, the more are left: the law's contract. -/
import Derived.Test.YtbcienbnhchdeaaDiskW
namespace Go.Proofs.Ytbcienbnhchdeaa.Hand
open Go Go.RowKit Go.Proofs.YtbcienbnhchdeaaW.PrintWords Go.Proofs.YtbcienbnhchdeaaW.PrintMore
set_option linter.unusedVariables false
set_option linter.unusedSimpArgs false
attribute [local go_sem] max2_int min2_int max_two min_two

/-- What a crash that keeps k leaves of a, safe, and b. -/
def leftOf (a b : List Int) (k : Int) : ByteArray := strOfNums (a ++ b.take (keepOf k b.length))
theorem leftOf_size (a b : List Int) (k : Int) : (leftOf a b k).size = a.length + keepOf k b.length := by
  have := keepOf_le k b.length
  unfold leftOf
  rw [str_size, List.length_append, List.length_take]
  omega
theorem keepOf_mono {x y : Int} (h : x ≤ y) (m : Nat) : keepOf x m ≤ keepOf y m := by
  unfold keepOf
  split <;> split <;> (try split) <;> (try split) <;> omega
theorem leftOf_first (a b : List Int) {x y : Int} (h : x ≤ y) : (leftOf a b y).extract 0 (leftOf a b x).size = leftOf a b x := by
  have h1 := keepOf_mono h b.length
  rw [leftOf_size]
  unfold leftOf strOfNums
  apply ByteArray.ext
  simp only [ByteArray.data_extract]
  rw [List.extract_toArray]
  congr 1
  rw [List.extract_eq_take_drop]
  simp only [Nat.sub_zero, List.drop_zero, ← List.map_take]
  congr 1
  rw [List.take_append]
  congr 1
  · exact List.take_of_length_le (by omega)
  · rw [List.take_take]
    congr 1
    omega
/-- The two numbers, and what is left so far. -/
structure Keeps (w wr : World) (B L : Nat) (x y : Int) (s0 s1 : ByteArray) (n : Nat) : Prop where
  kb : wr.heap[B]? = some (.cells #[.int .i64 x, .int .i64 y] 36 (0, 0))
  lb : wr.heap[L]? = some (.cells #[.string (if 0 < n then s0 else ⟨#[]⟩), .string (if 1 < n then s1 else ⟨#[]⟩)] 37 (0, 0))
  hL : w.heap.size ≤ L
  hne : B ≠ L
  below : Below w.heap.size w wr
theorem Keeps.put {w wr w7 : World} {B L : Nat} {x y : Int} {s0 s1 : ByteArray} {n : Nat} (h : Keeps w wr B L x y s0 s1 n) (hb : Below wr.heap.size wr w7) (hn : n < 2) :
    Keeps w (w7.setCell ⟨L, n, none⟩ (.string (if n = 0 then s0 else s1))) B L x y s0 s1 (n + 1) := by
  have h1 : w7.heap[B]? = _ := (hb.block B (blk_lt h.kb)).trans h.kb
  have h2 : w7.heap[L]? = _ := (hb.block L (blk_lt h.lb)).trans h.lb
  refine ⟨blk_far h1 h.hne _, ?_, h.hL, h.hne, (below_step h.below hb).setCell h.hL _⟩
  have h3 := blk_set h2 n (.string (if n = 0 then s0 else s1))
  rw [h3]
  match n, hn with
  | 0, _ => simp
  | 1, _ => simp

set_option maxRecDepth 100000 in
set_option maxHeartbeats 2000000 in
theorem diskKeeps_any (A0 A1 : Option Addr) (c0 c1 : Nat) (l0 l1 : List Int) (x y : Int) (w : World) (h0 : Kd.C (Kd.int .u8) w A0 l0.length l0) (hc0 : l0.length ≤ c0) (ok0 : okB l0 = true)
    (h1 : Kd.C (Kd.int .u8) w A1 l1.length l1) (hc1 : l1.length ≤ c1) (ok1 : okB l1 = true) :
    Calls Try.prog 6 #[.slice A0 l0.length c0, .slice A1 l1.length c1, .agg #[.int .i64 x, .int .i64 y]] w fun e w' => e = .returned (.bool true) ∧ Below w.heap.size w w' := by
  have hm0 : (if (100 : Int) < (l0.length : Int) then (100 : Int) else (l0.length : Int)) = ((min l0.length 100 : Nat) : Int) := min_first l0 100
  have hm1 : (if (100 : Int) < (l1.length : Int) then (100 : Int) else (l1.length : Int)) = ((min l1.length 100 : Nat) : Int) := min_first l1 100
  have g0 := C_first h0 (min l0.length 100) (by omega)
  have g1 := C_first h1 (min l1.length 100) (by omega)
  have o0 := okB_take2 ok0 (min l0.length 100)
  have o1 := okB_take2 ok1 (min l1.length 100)
  have e0 : (l0.take (min l0.length 100)).length = min l0.length 100 := by rw [List.length_take]; omega
  have e1 : (l1.take (min l1.length 100)).length = min l1.length 100 := by rw [List.length_take]; omega
  have hb0 : min l0.length 100 ≤ 100 := by omega
  have hb1 : min l1.length 100 ≤ 100 := by omega
  have hk0 : min l0.length 100 ≤ c0 := by omega
  have hk1 : min l1.length 100 ≤ c1 := by omega
  have hl0 := h0.2.1
  have hl1 := h1.2.1
  rw [← e0] at hm0 hb0 hk0
  rw [← e1] at hm1 hb1 hk1
  clear e0 e1
  generalize l0.take (min l0.length 100) = a at *
  generalize l1.take (min l1.length 100) = b at *
  have G0 := Aside0.mk g0
  have G1 := Aside0.mk g1
  have O0 := Aside0.mk o0
  have O1 := Aside0.mk o1
  clear g0 g1 o0 o1 h0 h1 ok0 ok1
  go_enter Try.func6, Try.ntmps6
  go_wp2_with (first
    | (go_at_call 36; refine (lives5_any _).mono ?_; rintro e w1 ⟨rfl, hb⟩; have HB := Aside0.mk hb; clear hb))
  go_quiet (fail)
  go_wp2
  have HC : Hid (Keeps w ((w1.drewN nq).alloc (Obj.cells #[Value.string ⟨#[]⟩, Value.string ⟨#[]⟩] 37)) w.heap.size w1.heap.size x y (leftOf a b x) (leftOf a b y) 0) := Lib.hid (by
    have hs : w.heap.size < w1.heap.size := by have := HB.out.size; simp at this; omega
    have hw : Below w.heap.size w w1 := below_then ((Below.refl w.heap.size w).alloc (Nat.le_refl _) _) (by simp) HB.out
    refine ⟨?_, ?_, by omega, by omega, below_alloc (pw_below_drewN hw nq) _⟩
    · rw [heap_alloc_old (w1.drewN nq) _ hs]
      show w1.heap[w.heap.size]? = _
      rw [HB.out.block _ (by simp)]
      exact heap_alloc_new w _
    · exact heap_alloc_new (w1.drewN nq) _)
  clear HB
  generalize w1.heap.size = L at *
  go_loopw [8] (fun i wr => ∃ n : Nat, n ≤ 2 ∧ i = .int .i64 (n : Int) ∧ Hid (Keeps w wr w.heap.size L x y (leftOf a b x) (leftOf a b y) n)) (fun i _ => 2 - (intOf i).toNat)
  case atStart => exact ⟨0, by omega, rfl, HC⟩
  case round =>
    obtain ⟨n, hn, rfl, HK⟩ := hrel
    clear HC
    by_cases hlt : n < 2
    · obtain ⟨kn, hkn⟩ : ∃ kn : Int, (if n = 0 then x else y) = kn := ⟨_, rfl⟩
      have hcs : (if n = 0 then leftOf a b x else leftOf a b y) = leftOf a b kn := by rw [← hkn]; split <;> rfl
      have hck : ∀ W : World, Below wr.heap.size wr W → W.cell? ⟨w.heap.size, n, none⟩ = some (.int .i64 kn) := by
        intro W hW
        rw [blk_cell ((hW.block _ (blk_lt HK.out.kb)).trans HK.out.kb), ← hkn]
        match n, hlt with
        | 0, _ => rfl
        | 1, _ => rfl
      obtain ⟨old, hold⟩ : ∃ old, ∀ W : World, Below wr.heap.size wr W → W.cell? ⟨L, n, none⟩ = some (.string old) ∧ W.frozen? ⟨L, n, none⟩ = false := by
        match n, hlt with
        | 0, _ => exact ⟨_, fun W hW => ⟨(blk_cell ((hW.block _ (blk_lt HK.out.lb)).trans HK.out.lb) 0).trans rfl, blk_frozen ((hW.block _ (blk_lt HK.out.lb)).trans HK.out.lb) 0⟩⟩
        | 1, _ => exact ⟨_, fun W hW => ⟨(blk_cell ((hW.block _ (blk_lt HK.out.lb)).trans HK.out.lb) 1).trans rfl, blk_frozen ((hW.block _ (blk_lt HK.out.lb)).trans HK.out.lb) 1⟩⟩
      have HCK := Aside0.mk hck
      have HOLD := Aside0.mk hold
      have HCS := Aside0.mk hcs
      have HBW := Aside0.mk HK.out.below
      obtain ⟨K, hK⟩ : ∃ K, keepOf kn b.length = K := ⟨_, rfl⟩
      have HKO := Aside0.mk hK
      have hkl : K ≤ b.length := hK ▸ keepOf_le kn b.length
      have HL := Aside0.mk (show (a ++ b.take K).length = a.length + K by rw [List.length_append, List.length_take]; omega)
      have HLK := Aside0.mk (show strOfNums (a ++ b.take K) = leftOf a b kn by rw [← hK]; rfl)
      clear hck hold hcs hkn hK
      go_wp2_with (first
        | (go_at_call 37; refine (new_any 1000 _ (fun k => wr.heap.size ≤ k)).mono ?_; rintro e w2 ⟨rfl, hd, hb⟩; have HA := Aside0.mk (show DiskAt w2 wr.heap.size (fun k => wr.heap.size ≤ k) 1000 0 [] from hd); have HB2 := Aside0.mk hb; clear hd hb)
        | (go_at_call 38; refine (write_ok HA.out ?hok A0 c0 a (Kd.C_below G0.out (below_step HBW.out HB2.out)) O0.out ?hf).mono ?_; (case hok => intro k hk; have := HB2.out.size; omega); (case hf => show [].length + a.length ≤ 1000; simp; omega); rintro e w3 ⟨rfl, hd, hm⟩; have HD := Aside0.mk (show DiskAt w3 wr.heap.size (fun k => wr.heap.size ≤ k) 1000 0 a from hd); have HB3 := Aside0.mk (Moved.on HB2.out (Nat.le_refl _) hm); clear hd hm HA HB2)
        | (go_at_call 39; refine (sync_zero HD.out).mono ?_; rintro e w4 ⟨rfl, hd, hm⟩; have HE := Aside0.mk hd; have HB4 := Aside0.mk (Moved.on HB3.out (Nat.le_refl _) hm); clear hd hm HD HB3)
        | (go_at_call 38; refine (write_ok HE.out ?hok2 A1 c1 b (Kd.C_below G1.out (below_step HBW.out HB4.out)) O1.out ?hf2).mono ?_; (case hok2 => intro k hk; have := HB4.out.size; omega); (case hf2 => omega); rintro e w5 ⟨rfl, hd, hm⟩; have HF := Aside0.mk hd; have hb5 := Moved.on HB4.out (Nat.le_refl _) hm; have hck5 := HCK.out _ hb5; have HB5 := Aside0.mk hb5; clear hd hm hb5 HE HB4)
        | (go_at_call 40; refine (crash_two HF.out HKO.out).mono ?_; rintro e w6 ⟨rfl, hd, hm⟩; have HG := Aside0.mk hd; have HB6 := Aside0.mk (Moved.on HB5.out (Nat.le_refl _) hm); clear hd hm HF HB5)
        | (go_at_call 41; refine (all_any HG.out).mono ?_; rintro e w7 ⟨v, rfl, ho, hb⟩; obtain ⟨A, c, hv, hl, hC⟩ := Kd.R_reads ho; rw [hv, HL.out]; have hcv := Kd.C_string (P := Try.prog) (A := A) (c := c) Try.underlying22 Try.underlying5 Try.underlying9 hC; rw [HL.out] at hcv; have hb7 := below_step HB6.out hb; obtain ⟨hold7, hfr7⟩ := HOLD.out _ hb7; have HB7 := Aside0.mk hb7; clear hv hl hC ho hb hb7 HG HB6))
      go_roundw
      case rel => exact ⟨n + 1, by omega, by go_num, Lib.hid (by have h := HK.out.put HB7.out hlt; rw [HCS.out, ← HLK.out] at h; exact h)⟩
      case measure => simp [intOf]; omega
    · obtain rfl : n = 2 := by omega
      have hn0 : wr.cell? ⟨L, 0, none⟩ = some (.string (leftOf a b x)) := (blk_cell HK.out.lb 0).trans rfl
      have hn1 : wr.cell? ⟨L, 1, none⟩ = some (.string (leftOf a b y)) := (blk_cell HK.out.lb 1).trans rfl
      have hn2 : wr.cell? ⟨w.heap.size, 0, none⟩ = some (.int .i64 x) := (blk_cell HK.out.kb 0).trans rfl
      have hn3 : wr.cell? ⟨w.heap.size, 1, none⟩ = some (.int .i64 y) := (blk_cell HK.out.kb 1).trans rfl
      have HBW := Aside0.mk HK.out.below
      have hs0 := leftOf_size a b x
      have hs1 := leftOf_size a b y
      have hx0 := @leftOf_first a b x y
      have hx1 := @leftOf_first a b y x
      have hk0 := @keepOf_mono x y
      have hk1 := @keepOf_mono y x
      have hk2 := hk0 (m := b.length)
      have hk3 := hk1 (m := b.length)
      generalize leftOf a b x = s0 at *
      generalize leftOf a b y = s1 at *
      have ha0 : a.length ≤ s0.size := by omega
      have ha1 : a.length ≤ s1.size := by omega
      by_cases hxy : y < x
      · have hle : s1.size ≤ s0.size := by have := hk3 (by omega); omega
        have hex : s0.extract 0 s1.size = s1 := hx1 (by omega)
        clear hs0 hs1 hx0 hx1 hk0 hk1 hk2 hk3
        go_wp2
        go_quiet (fail)
        go_wp2
        go_ret
        exact ⟨rfl, pw_below_drewN HBW.out _⟩
      · have hle : s0.size ≤ s1.size := by have := hk2 (by omega); omega
        have hex : s1.extract 0 s0.size = s0 := hx0 (by omega)
        clear hs0 hs1 hx0 hx1 hk0 hk1 hk2 hk3
        go_wp2
        go_quiet (fail)
        go_wp2
        go_ret
        exact ⟨rfl, pw_below_drewN HBW.out _⟩
end Go.Proofs.Ytbcienbnhchdeaa.Hand
