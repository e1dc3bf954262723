/- Never are there more bytes than room; what is refused leaves all as it was: the law's contract. -/
import Derived.Test.YtbcienbnhchdeaaDiskW
import Derived.Test.YtbcienbnhchdeaaDiskS
import Derived.Test.YtbcienbnhchdeaaWLast
namespace Go.Proofs.Ytbcienbnhchdeaa.Hand
open Go Go.RowKit Go.Proofs.YtbcienbnhchdeaaW.PrintLast Go.Proofs.YtbcienbnhchdeaaW.PrintWords Go.Proofs.YtbcienbnhchdeaaW.PrintMore PrD
set_option linter.unusedVariables false
set_option linter.unusedSimpArgs false
attribute [local go_sem] max2_int min2_int max_two min_two

theorem new_all (n : Int) (w : World) : Calls Try.prog 37 #[.int .i64 n] w fun e w' =>
    e = .returned (.pointer (some ⟨w.heap.size, 0, none⟩)) ∧ (∀ ok, DiskAt w' w.heap.size ok (roomOf n) 0 []) ∧ Below w.heap.size w w' := by
  refine (new_any n w (fun _ => False)).mono fun e w' ⟨he, hd, hb⟩ => ⟨he, fun ok => hd.mono (fun k hk => hk.elim), hb⟩
theorem cut_int {w : World} {g : Nat} {ok : Nat → Prop} {room safe : Nat} {bs : List Int} (x : Int) (n : Nat) (hx : x = (n : Int)) (h : DiskAt w g ok room safe bs) (hn : n ≤ bs.length) : Calls Try.prog 57 #[.pointer (some ⟨g, 0, none⟩), .int .i64 x] w fun e w' =>
    e = .returned (.int .i64 0) ∧ DiskAt w' g ok room n (bs.take n) ∧ Moved w w' (OfDisk g ok) := by
  subst hx
  exact cut_ok n h hn
/-- A number of a small row. -/
theorem small_rem (a : Int) (m : Int) (h0 : 0 < m) (h1 : m ≤ 100000) : ∃ r : Nat, (r : Int) < m ∧ wrap64 (Int.tmod (IntKind.u64.wrap a) m) = (r : Int) := by
  have h0' : 0 ≤ IntKind.u64.wrap a := by rw [IntKind.wrap_u64]; omega
  have h1' : Int.tmod (IntKind.u64.wrap a) m = IntKind.u64.wrap a % m := Int.tmod_eq_emod_of_nonneg h0'
  have h2 : 0 ≤ IntKind.u64.wrap a % m := Int.emod_nonneg _ (by omega)
  have h3 : IntKind.u64.wrap a % m < m := Int.emod_lt_of_pos _ h0
  exact ⟨(IntKind.u64.wrap a % m).toNat, by omega, by rw [h1']; unfold wrap64; omega⟩
theorem at_step {W : World} {ok : Nat → Prop} {A : Option Addr} {m c : Nat} {l : List S52} (h : Kd.V k52 52 W 0 ok (.slice A m c) l) {n : Nat} (hn : n < l.length) :
    ∃ ad A2 c2, A = some ad ∧ W.cell? (ad.add (n * 3)) = some (.int .i64 (rd_T52 l (n : Int)).f0) ∧ W.cell? ⟨(ad.add (n * 3)).block, (ad.add (n * 3)).off + 1, none⟩ = some (.int .i64 (rd_T52 l (n : Int)).f1) ∧ W.cell? ⟨(ad.add (n * 3)).block, (ad.add (n * 3)).off + 2, none⟩ = some (.slice A2 (rd_T52 l (n : Int)).f2.length c2) ∧ (rd_T52 l (n : Int)).f2.length ≤ c2 ∧ Kd.C (Kd.int .u8) W A2 (rd_T52 l (n : Int)).f2.length (rd_T52 l (n : Int)).f2 := by
  obtain ⟨e, _, hC⟩ := Kd.V_reads' h
  have h1 := at_T52 hC (n : Int) (by omega) (by omega)
  rw [Int.toNat_natCast] at h1
  exact h1
theorem step_mem {l : List S52} {n : Nat} (hn : n < l.length) : rd_T52 l (n : Int) ∈ l := by
  unfold rd_T52
  rw [Int.toNat_natCast, List.getD_eq_getElem?_getD, List.getElem?_eq_getElem hn]
  exact List.getElem_mem hn
/-- A disk beside a script. -/
structure DiskScript (w wr : World) (N3 g : Nat) (room safe : Nat) (bs : List Int) (v : Value) (l : List S52) : Prop where
  d : DiskAt wr g (fun k => N3 ≤ k) room safe bs
  s : Kd.V k52 52 wr 0 (fun k => k < N3 ∧ k ≠ g) v l
  hN : w.heap.size ≤ N3
  hg : w.heap.size ≤ g
  below : Below w.heap.size w wr
  hs : N3 ≤ wr.heap.size
theorem DiskScript.moved {w wr w1 : World} {N3 g room safe safe' : Nat} {bs bs' : List Int} {v : Value} {l : List S52} (h : DiskScript w wr N3 g room safe bs v l) (hd : DiskAt w1 g (fun k => N3 ≤ k) room safe' bs') (hm : Moved wr w1 (OfDisk g (fun k => N3 ≤ k))) : DiskScript w w1 N3 g room safe' bs' v l :=
  ⟨hd, Kd.V_kept h.s hm.kept (fun k hk hS => hS.elim (fun e => hk.2 e) (fun e => by have := hk.1; omega)), h.hN, h.hg, Moved.from_below h.below hm (fun k hk => hk.elim (fun e => by have := h.hg; omega) (fun e => by have := h.hN; omega)) h.below.size, Nat.le_trans h.hs hm.size⟩
theorem DiskScript.drewN {w wr : World} {N3 g room safe : Nat} {bs : List Int} {v : Value} {l : List S52} (h : DiskScript w wr N3 g room safe bs v l) (n : Nat) : DiskScript w (wr.drewN n) N3 g room safe bs v l := ⟨h.d.drewN n, Kd.V_drewN h.s n, h.hN, h.hg, pw_below_drewN h.below n, h.hs⟩
theorem DiskScript.next {w wr w1 : World} {N3 g room safe : Nat} {bs : List Int} {v : Value} {l : List S52} (h : DiskScript w wr N3 g room safe bs v l) (hb : Below wr.heap.size wr w1) : DiskScript w w1 N3 g room safe bs v l :=
  ⟨h.d.below hb, Kd.V_below h.s hb, h.hN, h.hg, below_step h.below hb, Nat.le_trans h.hs hb.size⟩

set_option maxRecDepth 100000 in
set_option maxHeartbeats 4000000 in
theorem diskRoom_any (a : Int) (A0 : Option Addr) (c0 : Nat) (l0 : List S52) (w : World) (h0 : Kd.C k52 w A0 l0.length l0) (hc0 : l0.length ≤ c0) (ok0 : ∀ z ∈ l0, okS5 z) :
    Calls Try.prog 13 #[.int .i64 a, .slice A0 l0.length c0] w fun e w' => e = .returned (.bool true) ∧ Below w.heap.size w w' := by
  obtain ⟨room, hroom, hr⟩ := small_rem a 200 (by omega) (by omega)
  have hro : roomOf (room : Int) = room := by unfold roomOf; rw [if_neg (by omega), if_neg (by omega), Int.toNat_natCast]
  have hS := steps_V h0 hc0
  have hE := early5_ok ok0
  have hel := early5_len l0
  have HS := Aside0.mk hS
  have HRO := Aside0.mk hro
  clear hS ok0 h0 hro
  obtain ⟨l, hl⟩ : ∃ l, early5 l0 = l := ⟨_, rfl⟩
  rw [hl] at hE hel
  have HL := Aside0.mk hl
  have HE := Aside0.mk hE
  clear hl hE
  go_enter Try.func13, Try.ntmps13
  go_wp2_with (first
    | (go_at_call 36; refine (lives5_any _).mono ?_; rintro e w1 ⟨rfl, hb⟩; have HB := Aside0.mk hb; clear hb)
    | (go_at_call 37; refine (new_all _ _).mono ?_; rintro e w2 ⟨rfl, hd, hb⟩; rw [HRO.out] at hd; have HD := Aside0.mk hd; have HBN := Aside0.mk HB.out.size; have HN := Aside0.mk (hd (fun _ => False)).lt; have HB2 := Aside0.mk (below_step HB.out hb); clear hd hb HB)
    | (go_at_call 51; refine (early5_any (fun k => k < w.heap.size) A0 c0 l0 _ ?hv).mono ?_; (case hv => exact Kd.V_below HS.out HB2.out); rintro e w3 ⟨A3, c3, he, hV, hb⟩; rw [HL.out] at he hV; subst he; have HC := Lib.hid (show DiskScript w w3 w3.heap.size w1.heap.size room 0 [] (.slice A3 l.length c3) l from ⟨(HD.out _).below hb, Kd.V_mono hV (fun k hk => ⟨hk.2, fun e => by have := hk.1; have := HBN.out; have := HN.out; omega⟩), (below_step HB2.out hb).size, HBN.out, below_step HB2.out hb, Nat.le_refl _⟩); clear hV hb HD HB2))
  clear hr
  generalize w3.heap.size = N3 at *
  generalize w1.heap.size = g at *
  go_loopw [6] (fun i wr => ∃ n : Nat, n ≤ l.length ∧ i = .int .i64 (n : Int) ∧ Hid (∃ safe bs, DiskScript w wr N3 g room safe bs (.slice A3 l.length c3) l)) (fun i _ => l.length - (intOf i).toNat)
  case atStart => exact ⟨0, by omega, rfl, Lib.hid ⟨0, [], HC.out⟩⟩
  case round =>
    obtain ⟨n, hn, rfl, HC2⟩ := hrel
    clear HC
    obtain ⟨safe, bs, hx⟩ := HC2.out
    have HX := Lib.hid hx
    clear hx HC2
    by_cases hlt : n < l.length
    · have hxC := (Kd.V_reads' HX.out.s).2.2
      go_wp2
      have HX0 := Lib.hid (show DiskScript w wr.drew N3 g room safe bs (.slice A3 l.length c3) l from ⟨HX.out.d.drew, Kd.V_drew HX.out.s, HX.out.hN, HX.out.hg, below_drew HX.out.below, HX.out.hs⟩)
      clear HX hxC
      refine start_ (n := 7) (S := fun w' => True) (ds := []) #[false, false, false, false, false, false, false] (by kernel_rfl) rfl rfl trivial (fun hHeld => ?_)
      refine pure_ (i := 0) (N := some 26) (v := ?_) (a' := ?_) #[true, false, false, false, false, false, false] rfl rfl (by kernel_rfl) (fun _ _ _ h => h) (Or.inl ⟨by rfl, ?_⟩) ?_ ?_
      rotate_left
      · intro w'
        go_simp
        with_reducible rfl
      rotate_left
      · simp only [Act.put, List.setIfInBounds_toArray, List.set_cons_zero, List.set_cons_succ, i64_w, i32_w]
        rfl
      refine pure_ (i := 3) (N := some 29) (v := ?_) (a' := ?_) #[true, false, false, true, false, false, false] rfl rfl (by kernel_rfl) (fun _ _ _ h => h) (Or.inl ⟨by rfl, ?_⟩) ?_ ?_
      rotate_left
      · intro w'
        go_simp
        with_reducible rfl
      rotate_left
      · simp only [Act.put, List.setIfInBounds_toArray, List.set_cons_zero, List.set_cons_succ, i64_w, i32_w]
        rfl
      refine one_ (i := 1) (N := some 27) #[true, true, false, true, false, false, false] rfl rfl (by kernel_rfl) (by decide) (fun K hK => ?_)
      refine goes_ Try.func41 (by kernel_rfl) rfl #[.pointer (some ⟨g, 0, none⟩)] (by rfl) rfl rfl (by simp only [List.map_toArray, List.map_cons, List.map_nil]; rfl) ?_
      with_reducible refine (all_any HX0.out.d).mono ?_
      rintro e w4 ⟨v, rfl, ho, hb⟩
      refine ⟨_, rfl, ?_⟩
      obtain ⟨A, c, hv, hl, hC⟩ := Kd.R_reads ho
      rw [hv]
      have hcv := Kd.C_string (P := Try.prog) (A := A) (c := c) Try.underlying22 Try.underlying5 Try.underlying9 hC
      have HX1 := Lib.hid (HX0.out.next hb)
      clear hv hl hC ho hb HX0
      refine hK.out _ _ trivial (fun hHeld => ?_)
      clear hK K
      refine norm_ (a' := ?_) ?_ ?_
      rotate_left
      · show Act.put _ (some 27) _ = _
        simp only [Act.put, List.setIfInBounds_toArray, List.set_cons_zero, List.set_cons_succ, i64_w, i32_w]
        rfl
      refine join_ (σ := Unit) 2 #[true, true, true, true, true, false, false] (fun _ => [(28, .string (strOfNums bs)), (30, .int .i64 (safe : Int))]) (fun _ w' => w4 = w') ?_ ?_
      rotate_left
      · intro hCont
        refine two_ (i := 2) (j := 4) (Ni := some 28) (Nj := some 30) #[true, true, true, true, false, false, false] #[true, true, false, true, true, false, false] rfl rfl rfl rfl (by kernel_rfl) (by decide) (by decide) (fun K hK => ?_) (fun K hK => ?_)
        · skip
          refine value_ (w1 := ?_) (v := ?_) (by rfl) rfl ?_ ?_
          rotate_left 2
          · go_simp
            constructor
            · rfl
            · rfl
          refine hK.out _ _ trivial (fun hHeld => ?_)
          clear hK K
          refine norm_ (a' := ?_) ?_ ?_
          rotate_left
          · show Act.put _ (some 28) _ = _
            simp only [Act.put, List.setIfInBounds_toArray, List.set_cons_zero, List.set_cons_succ, i64_w, i32_w]
            rfl
          refine one_ (i := 4) (N := some 30) #[true, true, true, true, true, false, false] rfl rfl (by kernel_rfl) (by decide) (fun K hK => ?_)
          refine goes_ Try.func42 (by kernel_rfl) rfl #[.pointer (some ⟨g, 0, none⟩)] (by rfl) rfl rfl (by simp only [List.map_toArray, List.map_cons, List.map_nil]; rfl) ?_
          with_reducible refine (safe_any HX1.out.d).mono ?_
          rintro e w5 ⟨rfl, rfl⟩
          refine ⟨_, rfl, ?_⟩
          refine hK.out _ _ trivial (fun hHeld => ?_)
          clear hK K
          refine norm_ (a' := ?_) ?_ ?_
          rotate_left
          · show Act.put _ (some 30) _ = _
            simp only [Act.put, List.setIfInBounds_toArray, List.set_cons_zero, List.set_cons_succ, i64_w, i32_w]
            rfl
          exact norm_ (by simp only [putAll, Act.put, List.setIfInBounds_toArray, List.set_cons_zero, List.set_cons_succ]) (hCont () _ rfl)
        · skip
          refine goes_ Try.func42 (by kernel_rfl) rfl #[.pointer (some ⟨g, 0, none⟩)] (by rfl) rfl rfl (by simp only [List.map_toArray, List.map_cons, List.map_nil]; rfl) ?_
          with_reducible refine (safe_any HX1.out.d).mono ?_
          rintro e w5 ⟨rfl, rfl⟩
          refine ⟨_, rfl, ?_⟩
          refine hK.out _ _ trivial (fun hHeld => ?_)
          clear hK K
          refine norm_ (a' := ?_) ?_ ?_
          rotate_left
          · show Act.put _ (some 30) _ = _
            simp only [Act.put, List.setIfInBounds_toArray, List.set_cons_zero, List.set_cons_succ, i64_w, i32_w]
            rfl
          refine one_ (i := 2) (N := some 28) #[true, true, true, true, true, false, false] rfl rfl (by kernel_rfl) (by decide) (fun K hK => ?_)
          refine value_ (w1 := ?_) (v := ?_) (by rfl) rfl ?_ ?_
          rotate_left 2
          · go_simp
            constructor
            · rfl
            · rfl
          refine hK.out _ _ trivial (fun hHeld => ?_)
          clear hK K
          refine norm_ (a' := ?_) ?_ ?_
          rotate_left
          · show Act.put _ (some 28) _ = _
            simp only [Act.put, List.setIfInBounds_toArray, List.set_cons_zero, List.set_cons_succ, i64_w, i32_w]
            rfl
          exact norm_ (by simp only [putAll, Act.put, List.setIfInBounds_toArray, List.set_cons_zero, List.set_cons_succ]) (hCont () _ rfl)
      rintro _ _ rfl
      have hHeld : True := trivial
      refine norm_ (a' := ?_) ?_ ?_
      rotate_left
      · simp only [putAll, Act.put, List.setIfInBounds_toArray, List.set_cons_zero, List.set_cons_succ]
        rfl
      refine pure_ (i := 5) (N := some 7) (v := ?_) (a' := ?_) #[true, true, true, true, true, true, false] rfl rfl (by kernel_rfl) (fun _ _ _ h => h) (Or.inl ⟨by rfl, ?_⟩) ?_ ?_
      rotate_left
      · intro w'
        go_simp
        with_reducible rfl
      rotate_left
      · simp only [Act.put, List.setIfInBounds_toArray, List.set_cons_zero, List.set_cons_succ, i64_w, i32_w]
        rfl
      refine pure_ (i := 6) (N := some 8) (v := ?_) (a' := ?_) #[true, true, true, true, true, true, true] rfl rfl (by kernel_rfl) (fun _ _ _ h => h) (Or.inl ⟨by rfl, ?_⟩) ?_ ?_
      rotate_left
      · intro w'
        go_simp
        with_reducible rfl
      rotate_left
      · simp only [Act.put, List.setIfInBounds_toArray, List.set_cons_zero, List.set_cons_succ, i64_w, i32_w]
        rfl
      refine done_ (by kernel_rfl) ?_
      obtain ⟨ad, A2, c2, rfl, hx0, hx1, hx2, hl2, hC2⟩ := at_step HX1.out.s hlt
      obtain ⟨ho2, hl40⟩ := HE.out _ (step_mem hlt)
      have HZ := Aside0.mk (show ∀ (W : World) (ok : Nat → Prop), Kd.V k52 52 W 0 ok (.slice (some ad) l.length c3) l → _ from fun W ok hV => at_step hV hlt)
      generalize rd_T52 l (n : Int) = z at *
      obtain ⟨K, hK6, hK⟩ := small_rem z.f0 6 (by omega) (by omega)
      have HKI := Aside0.mk (show pacesetterlaw05_Step_kind.f z.f0 z.f1 z.f2 = some (K : Int) by unfold pacesetterlaw05_Step_kind.f; rw [hK])
      have HC2 := Aside0.mk hC2
      have HO2 := Aside0.mk ho2
      clear hC2 hK ho2 hcv
      have hl63 : z.f2.length ≤ 9223372036854775807 := by omega
      have hsz : (strOfNums bs).size = bs.length := str_size bs
      have hbl := HX1.out.d.roomLe
      have hmo := HX1.out.d.most
      have hsl := HX1.out.d.safeLe
      obtain ⟨k, hk⟩ : ∃ k : Int, (K : Int) = k := ⟨_, rfl⟩
      rw [hk] at HKI hK6
      have hk0 : 0 ≤ k := by omega
      clear hk
      rcases (by omega : k = 0 ∨ k = 1 ∨ k = 2 ∨ k = 3 ∨ k = 4 ∨ k = 5) with rfl | rfl | rfl | rfl | rfl | rfl
      · by_cases hfit : bs.length + z.f2.length ≤ room
        · have hdec : decide ((bs.length : Int) + (z.f2.length : Int) ≤ (room : Int)) = true := decide_eq_true (by omega)
          go_wp2_with (first
        | (go_at_call 52; refine (pacesetterlaw05_Step_kind.calls z.f0 z.f1 A2 c2 z.f2 0 _ HC2.out hl2 HKI.out).mono ?_; rintro e w6 ⟨rfl, hb⟩; have HX2 := Lib.hid (HX1.out.next hb); obtain ⟨ad', A4, c4, e', hy0, hy1, hy2, hl4, hC4⟩ := HZ.out _ _ HX2.out.s; cases e'; have HC4 := Aside0.mk hC4; clear hb hC4 HX1)
        | (go_at_call 38; refine (write_ok HX2.out.d (fun k hk => Nat.le_trans HX2.out.hs hk) A4 c4 z.f2 HC4.out HO2.out hfit).mono ?_; rintro e w7 ⟨rfl, hd, hm⟩; obtain ⟨s', bs', HX3⟩ : ∃ s' bs', Hid (DiskScript w w7 N3 g room s' bs' (.slice (some ad) l.length c3) l) := ⟨_, _, Lib.hid (HX2.out.moved hd hm)⟩; have hT1 := HX3.out.d.safeLe; have hT2 := HX3.out.d.roomLe; clear hd hm; obtain ⟨ad'', A5, c5, e'', hz0, hz1, hz2, hl5, hC5⟩ := HZ.out _ _ HX3.out.s; cases e''; clear hC5; clear HX2)
        | (go_at_call 43; refine (len_any HX3.out.d).mono ?_; rintro e w8 ⟨rfl, rfl⟩)
        | (go_at_call 59; refine (room_any HX3.out.d).mono ?_; rintro e w8 ⟨rfl, nd, rfl⟩; have HX5 := HX3.out.drewN nd; (try rw [World.drewN_drewN] at HX5); clear HX3; have HX3 := Lib.hid HX5; clear HX5)
        | (go_at_call 42; refine (safe_any HX3.out.d).mono ?_; rintro e w8 ⟨rfl, rfl⟩)
        | (go_at_call 41; refine (all_any HX3.out.d).mono ?_; rintro e w8 ⟨v8, rfl, ho8, hb8⟩; obtain ⟨A8, c8, hv8, hl8, hC8⟩ := Kd.R_reads ho8; rw [hv8]; have hcv8 := Kd.C_string (P := Try.prog) (A := A8) (c := c8) Try.underlying22 Try.underlying5 Try.underlying9 hC8; have HX5 := Lib.hid (HX3.out.next hb8); clear HX3 hv8 hl8 hC8 ho8 hb8; have HX3 := HX5; clear HX5))
          go_roundw
          case rel => exact ⟨n + 1, by omega, by go_num, Lib.hid ⟨_, _, HX3.out⟩⟩
          case measure => simp [intOf]; omega
        · have hfull : room < bs.length + z.f2.length := by omega
          have hdec : decide ((bs.length : Int) + (z.f2.length : Int) ≤ (room : Int)) = false := decide_eq_false (by omega)
          clear hfit
          go_wp2_with (first
        | (go_at_call 52; refine (pacesetterlaw05_Step_kind.calls z.f0 z.f1 A2 c2 z.f2 0 _ HC2.out hl2 HKI.out).mono ?_; rintro e w6 ⟨rfl, hb⟩; have HX2 := Lib.hid (HX1.out.next hb); obtain ⟨ad', A4, c4, e', hy0, hy1, hy2, hl4, hC4⟩ := HZ.out _ _ HX2.out.s; cases e'; have HC4 := Aside0.mk hC4; clear hb hC4 HX1)
        | (go_at_call 38; refine (write_full HX2.out.d A4 c4 z.f2 hl63 hfull).mono ?_; rintro e w7 ⟨rfl, nd, rfl⟩; have HX3 := Lib.hid (HX2.out.drewN nd); have hT1 := HX3.out.d.safeLe; have hT2 := HX3.out.d.roomLe; obtain ⟨ad'', A5, c5, e'', hz0, hz1, hz2, hl5, hC5⟩ := HZ.out _ _ HX3.out.s; cases e''; clear hC5; clear HX2)
        | (go_at_call 43; refine (len_any HX3.out.d).mono ?_; rintro e w8 ⟨rfl, rfl⟩)
        | (go_at_call 59; refine (room_any HX3.out.d).mono ?_; rintro e w8 ⟨rfl, nd, rfl⟩; have HX5 := HX3.out.drewN nd; (try rw [World.drewN_drewN] at HX5); clear HX3; have HX3 := Lib.hid HX5; clear HX5)
        | (go_at_call 42; refine (safe_any HX3.out.d).mono ?_; rintro e w8 ⟨rfl, rfl⟩)
        | (go_at_call 41; refine (all_any HX3.out.d).mono ?_; rintro e w8 ⟨v8, rfl, ho8, hb8⟩; obtain ⟨A8, c8, hv8, hl8, hC8⟩ := Kd.R_reads ho8; rw [hv8]; have hcv8 := Kd.C_string (P := Try.prog) (A := A8) (c := c8) Try.underlying22 Try.underlying5 Try.underlying9 hC8; have HX5 := Lib.hid (HX3.out.next hb8); clear HX3 hv8 hl8 hC8 ho8 hb8; have HX3 := HX5; clear HX5))
          go_roundw
          case rel => exact ⟨n + 1, by omega, by go_num, Lib.hid ⟨_, _, HX3.out⟩⟩
          case measure => simp [intOf]; omega
      · by_cases hfit : bs.length + z.f2.length ≤ room
        · have hdec : decide ((bs.length : Int) + (z.f2.length : Int) ≤ (room : Int)) = true := decide_eq_true (by omega)
          go_wp2_with (first
        | (go_at_call 52; refine (pacesetterlaw05_Step_kind.calls z.f0 z.f1 A2 c2 z.f2 1 _ HC2.out hl2 HKI.out).mono ?_; rintro e w6 ⟨rfl, hb⟩; have HX2 := Lib.hid (HX1.out.next hb); obtain ⟨ad', A4, c4, e', hy0, hy1, hy2, hl4, hC4⟩ := HZ.out _ _ HX2.out.s; cases e'; have HC4 := Aside0.mk hC4; clear hb hC4 HX1)
        | (go_at_call 38; refine (write_ok HX2.out.d (fun k hk => Nat.le_trans HX2.out.hs hk) A4 c4 z.f2 HC4.out HO2.out hfit).mono ?_; rintro e w7 ⟨rfl, hd, hm⟩; obtain ⟨s', bs', HX3⟩ : ∃ s' bs', Hid (DiskScript w w7 N3 g room s' bs' (.slice (some ad) l.length c3) l) := ⟨_, _, Lib.hid (HX2.out.moved hd hm)⟩; have hT1 := HX3.out.d.safeLe; have hT2 := HX3.out.d.roomLe; clear hd hm; obtain ⟨ad'', A5, c5, e'', hz0, hz1, hz2, hl5, hC5⟩ := HZ.out _ _ HX3.out.s; cases e''; clear hC5; clear HX2)
        | (go_at_call 43; refine (len_any HX3.out.d).mono ?_; rintro e w8 ⟨rfl, rfl⟩)
        | (go_at_call 59; refine (room_any HX3.out.d).mono ?_; rintro e w8 ⟨rfl, nd, rfl⟩; have HX5 := HX3.out.drewN nd; (try rw [World.drewN_drewN] at HX5); clear HX3; have HX3 := Lib.hid HX5; clear HX5)
        | (go_at_call 42; refine (safe_any HX3.out.d).mono ?_; rintro e w8 ⟨rfl, rfl⟩)
        | (go_at_call 41; refine (all_any HX3.out.d).mono ?_; rintro e w8 ⟨v8, rfl, ho8, hb8⟩; obtain ⟨A8, c8, hv8, hl8, hC8⟩ := Kd.R_reads ho8; rw [hv8]; have hcv8 := Kd.C_string (P := Try.prog) (A := A8) (c := c8) Try.underlying22 Try.underlying5 Try.underlying9 hC8; have HX5 := Lib.hid (HX3.out.next hb8); clear HX3 hv8 hl8 hC8 ho8 hb8; have HX3 := HX5; clear HX5))
          go_roundw
          case rel => exact ⟨n + 1, by omega, by go_num, Lib.hid ⟨_, _, HX3.out⟩⟩
          case measure => simp [intOf]; omega
        · have hfull : room < bs.length + z.f2.length := by omega
          have hdec : decide ((bs.length : Int) + (z.f2.length : Int) ≤ (room : Int)) = false := decide_eq_false (by omega)
          clear hfit
          go_wp2_with (first
        | (go_at_call 52; refine (pacesetterlaw05_Step_kind.calls z.f0 z.f1 A2 c2 z.f2 1 _ HC2.out hl2 HKI.out).mono ?_; rintro e w6 ⟨rfl, hb⟩; have HX2 := Lib.hid (HX1.out.next hb); obtain ⟨ad', A4, c4, e', hy0, hy1, hy2, hl4, hC4⟩ := HZ.out _ _ HX2.out.s; cases e'; have HC4 := Aside0.mk hC4; clear hb hC4 HX1)
        | (go_at_call 38; refine (write_full HX2.out.d A4 c4 z.f2 hl63 hfull).mono ?_; rintro e w7 ⟨rfl, nd, rfl⟩; have HX3 := Lib.hid (HX2.out.drewN nd); have hT1 := HX3.out.d.safeLe; have hT2 := HX3.out.d.roomLe; obtain ⟨ad'', A5, c5, e'', hz0, hz1, hz2, hl5, hC5⟩ := HZ.out _ _ HX3.out.s; cases e''; clear hC5; clear HX2)
        | (go_at_call 43; refine (len_any HX3.out.d).mono ?_; rintro e w8 ⟨rfl, rfl⟩)
        | (go_at_call 59; refine (room_any HX3.out.d).mono ?_; rintro e w8 ⟨rfl, nd, rfl⟩; have HX5 := HX3.out.drewN nd; (try rw [World.drewN_drewN] at HX5); clear HX3; have HX3 := Lib.hid HX5; clear HX5)
        | (go_at_call 42; refine (safe_any HX3.out.d).mono ?_; rintro e w8 ⟨rfl, rfl⟩)
        | (go_at_call 41; refine (all_any HX3.out.d).mono ?_; rintro e w8 ⟨v8, rfl, ho8, hb8⟩; obtain ⟨A8, c8, hv8, hl8, hC8⟩ := Kd.R_reads ho8; rw [hv8]; have hcv8 := Kd.C_string (P := Try.prog) (A := A8) (c := c8) Try.underlying22 Try.underlying5 Try.underlying9 hC8; have HX5 := Lib.hid (HX3.out.next hb8); clear HX3 hv8 hl8 hC8 ho8 hb8; have HX3 := HX5; clear HX5))
          go_roundw
          case rel => exact ⟨n + 1, by omega, by go_num, Lib.hid ⟨_, _, HX3.out⟩⟩
          case measure => simp [intOf]; omega
      · skip
        go_wp2_with (first
        | (go_at_call 52; refine (pacesetterlaw05_Step_kind.calls z.f0 z.f1 A2 c2 z.f2 2 _ HC2.out hl2 HKI.out).mono ?_; rintro e w6 ⟨rfl, hb⟩; have HX2 := Lib.hid (HX1.out.next hb); obtain ⟨ad', A4, c4, e', hy0, hy1, hy2, hl4, hC4⟩ := HZ.out _ _ HX2.out.s; cases e'; have HC4 := Aside0.mk hC4; clear hb hC4 HX1)
        | (go_at_call 39; refine (sync_any HX2.out.d).mono ?_; rintro e w7 ⟨rfl, hd, hm⟩; obtain ⟨s', bs', HX3⟩ : ∃ s' bs', Hid (DiskScript w w7 N3 g room s' bs' (.slice (some ad) l.length c3) l) := ⟨_, _, Lib.hid (HX2.out.moved hd hm)⟩; have hT1 := HX3.out.d.safeLe; have hT2 := HX3.out.d.roomLe; clear hd hm; clear HX2)
        | (go_at_call 43; refine (len_any HX3.out.d).mono ?_; rintro e w8 ⟨rfl, rfl⟩)
        | (go_at_call 59; refine (room_any HX3.out.d).mono ?_; rintro e w8 ⟨rfl, nd, rfl⟩; have HX5 := HX3.out.drewN nd; (try rw [World.drewN_drewN] at HX5); clear HX3; have HX3 := Lib.hid HX5; clear HX5)
        | (go_at_call 42; refine (safe_any HX3.out.d).mono ?_; rintro e w8 ⟨rfl, rfl⟩)
        | (go_at_call 41; refine (all_any HX3.out.d).mono ?_; rintro e w8 ⟨v8, rfl, ho8, hb8⟩; obtain ⟨A8, c8, hv8, hl8, hC8⟩ := Kd.R_reads ho8; rw [hv8]; have hcv8 := Kd.C_string (P := Try.prog) (A := A8) (c := c8) Try.underlying22 Try.underlying5 Try.underlying9 hC8; have HX5 := Lib.hid (HX3.out.next hb8); clear HX3 hv8 hl8 hC8 ho8 hb8; have HX3 := HX5; clear HX5))
        go_roundw
        case rel => exact ⟨n + 1, by omega, by go_num, Lib.hid ⟨_, _, HX3.out⟩⟩
        case measure => simp [intOf]; omega
      · skip
        go_wp2_with (first
        | (go_at_call 52; refine (pacesetterlaw05_Step_kind.calls z.f0 z.f1 A2 c2 z.f2 3 _ HC2.out hl2 HKI.out).mono ?_; rintro e w6 ⟨rfl, hb⟩; have HX2 := Lib.hid (HX1.out.next hb); obtain ⟨ad', A4, c4, e', hy0, hy1, hy2, hl4, hC4⟩ := HZ.out _ _ HX2.out.s; cases e'; have HC4 := Aside0.mk hC4; clear hb hC4 HX1; have HX3 := HX2; have hT1 := HX3.out.d.safeLe; have hT2 := HX3.out.d.roomLe; clear HX2)
        | (go_at_call 43; refine (len_any HX3.out.d).mono ?_; rintro e w8 ⟨rfl, rfl⟩)
        | (go_at_call 59; refine (room_any HX3.out.d).mono ?_; rintro e w8 ⟨rfl, nd, rfl⟩; have HX5 := HX3.out.drewN nd; (try rw [World.drewN_drewN] at HX5); clear HX3; have HX3 := Lib.hid HX5; clear HX5)
        | (go_at_call 42; refine (safe_any HX3.out.d).mono ?_; rintro e w8 ⟨rfl, rfl⟩)
        | (go_at_call 41; refine (all_any HX3.out.d).mono ?_; rintro e w8 ⟨v8, rfl, ho8, hb8⟩; obtain ⟨A8, c8, hv8, hl8, hC8⟩ := Kd.R_reads ho8; rw [hv8]; have hcv8 := Kd.C_string (P := Try.prog) (A := A8) (c := c8) Try.underlying22 Try.underlying5 Try.underlying9 hC8; have HX5 := Lib.hid (HX3.out.next hb8); clear HX3 hv8 hl8 hC8 ho8 hb8; have HX3 := HX5; clear HX5))
        go_roundw
        case rel => exact ⟨n + 1, by omega, by go_num, Lib.hid ⟨_, _, HX3.out⟩⟩
        case measure => simp [intOf]; omega
      · by_cases hin : 0 ≤ z.f1 ∧ z.f1 ≤ (bs.length : Int)
        · obtain ⟨N, hN⟩ := Int.eq_ofNat_of_zero_le hin.1
          have hNl : N ≤ bs.length := by omega
          have HN := Aside0.mk hN
          clear hin hN
          go_wp2_with (first
        | (go_at_call 52; refine (pacesetterlaw05_Step_kind.calls z.f0 z.f1 A2 c2 z.f2 4 _ HC2.out hl2 HKI.out).mono ?_; rintro e w6 ⟨rfl, hb⟩; have HX2 := Lib.hid (HX1.out.next hb); obtain ⟨ad', A4, c4, e', hy0, hy1, hy2, hl4, hC4⟩ := HZ.out _ _ HX2.out.s; cases e'; have HC4 := Aside0.mk hC4; clear hb hC4 HX1)
        | (go_at_call 57; refine (cut_int z.f1 N HN.out HX2.out.d hNl).mono ?_; rintro e w7 ⟨rfl, hd, hm⟩; obtain ⟨s', bs', HX3⟩ : ∃ s' bs', Hid (DiskScript w w7 N3 g room s' bs' (.slice (some ad) l.length c3) l) := ⟨_, _, Lib.hid (HX2.out.moved hd hm)⟩; have hT1 := HX3.out.d.safeLe; have hT2 := HX3.out.d.roomLe; clear hd hm; clear HX2)
        | (go_at_call 43; refine (len_any HX3.out.d).mono ?_; rintro e w8 ⟨rfl, rfl⟩)
        | (go_at_call 59; refine (room_any HX3.out.d).mono ?_; rintro e w8 ⟨rfl, nd, rfl⟩; have HX5 := HX3.out.drewN nd; (try rw [World.drewN_drewN] at HX5); clear HX3; have HX3 := Lib.hid HX5; clear HX5)
        | (go_at_call 42; refine (safe_any HX3.out.d).mono ?_; rintro e w8 ⟨rfl, rfl⟩)
        | (go_at_call 41; refine (all_any HX3.out.d).mono ?_; rintro e w8 ⟨v8, rfl, ho8, hb8⟩; obtain ⟨A8, c8, hv8, hl8, hC8⟩ := Kd.R_reads ho8; rw [hv8]; have hcv8 := Kd.C_string (P := Try.prog) (A := A8) (c := c8) Try.underlying22 Try.underlying5 Try.underlying9 hC8; have HX5 := Lib.hid (HX3.out.next hb8); clear HX3 hv8 hl8 hC8 ho8 hb8; have HX3 := HX5; clear HX5))
          go_roundw
          case rel => exact ⟨n + 1, by omega, by go_num, Lib.hid ⟨_, _, HX3.out⟩⟩
          case measure => simp [intOf]; omega
        · have hout : z.f1 < 0 ∨ (bs.length : Int) < z.f1 := by omega
          have HOUT := Aside0.mk hout
          clear hin hout
          go_wp2_with (first
        | (go_at_call 52; refine (pacesetterlaw05_Step_kind.calls z.f0 z.f1 A2 c2 z.f2 4 _ HC2.out hl2 HKI.out).mono ?_; rintro e w6 ⟨rfl, hb⟩; have HX2 := Lib.hid (HX1.out.next hb); obtain ⟨ad', A4, c4, e', hy0, hy1, hy2, hl4, hC4⟩ := HZ.out _ _ HX2.out.s; cases e'; have HC4 := Aside0.mk hC4; clear hb hC4 HX1)
        | (go_at_call 57; refine (cut_bad z.f1 HX2.out.d HOUT.out).mono ?_; rintro e w7 ⟨rfl, rfl⟩; have HX3 := HX2; have hT1 := HX3.out.d.safeLe; have hT2 := HX3.out.d.roomLe; clear HX2)
        | (go_at_call 43; refine (len_any HX3.out.d).mono ?_; rintro e w8 ⟨rfl, rfl⟩)
        | (go_at_call 59; refine (room_any HX3.out.d).mono ?_; rintro e w8 ⟨rfl, nd, rfl⟩; have HX5 := HX3.out.drewN nd; (try rw [World.drewN_drewN] at HX5); clear HX3; have HX3 := Lib.hid HX5; clear HX5)
        | (go_at_call 42; refine (safe_any HX3.out.d).mono ?_; rintro e w8 ⟨rfl, rfl⟩)
        | (go_at_call 41; refine (all_any HX3.out.d).mono ?_; rintro e w8 ⟨v8, rfl, ho8, hb8⟩; obtain ⟨A8, c8, hv8, hl8, hC8⟩ := Kd.R_reads ho8; rw [hv8]; have hcv8 := Kd.C_string (P := Try.prog) (A := A8) (c := c8) Try.underlying22 Try.underlying5 Try.underlying9 hC8; have HX5 := Lib.hid (HX3.out.next hb8); clear HX3 hv8 hl8 hC8 ho8 hb8; have HX3 := HX5; clear HX5))
          go_roundw
          case rel => exact ⟨n + 1, by omega, by go_num, Lib.hid ⟨_, _, HX3.out⟩⟩
          case measure => simp [intOf]; omega
      · by_cases hfit : z.f2.length ≤ room
        · skip
          go_wp2_with (first
        | (go_at_call 52; refine (pacesetterlaw05_Step_kind.calls z.f0 z.f1 A2 c2 z.f2 5 _ HC2.out hl2 HKI.out).mono ?_; rintro e w6 ⟨rfl, hb⟩; have HX2 := Lib.hid (HX1.out.next hb); obtain ⟨ad', A4, c4, e', hy0, hy1, hy2, hl4, hC4⟩ := HZ.out _ _ HX2.out.s; cases e'; have HC4 := Aside0.mk hC4; clear hb hC4 HX1)
        | (go_at_call 49; refine (swap_ok HX2.out.d (fun k hk => Nat.le_trans HX2.out.hs hk) A4 c4 z.f2 HC4.out HO2.out hfit).mono ?_; rintro e w7 ⟨rfl, hd, hm⟩; obtain ⟨s', bs', HX3⟩ : ∃ s' bs', Hid (DiskScript w w7 N3 g room s' bs' (.slice (some ad) l.length c3) l) := ⟨_, _, Lib.hid (HX2.out.moved hd hm)⟩; have hT1 := HX3.out.d.safeLe; have hT2 := HX3.out.d.roomLe; clear hd hm; clear HX2)
        | (go_at_call 43; refine (len_any HX3.out.d).mono ?_; rintro e w8 ⟨rfl, rfl⟩)
        | (go_at_call 59; refine (room_any HX3.out.d).mono ?_; rintro e w8 ⟨rfl, nd, rfl⟩; have HX5 := HX3.out.drewN nd; (try rw [World.drewN_drewN] at HX5); clear HX3; have HX3 := Lib.hid HX5; clear HX5)
        | (go_at_call 42; refine (safe_any HX3.out.d).mono ?_; rintro e w8 ⟨rfl, rfl⟩)
        | (go_at_call 41; refine (all_any HX3.out.d).mono ?_; rintro e w8 ⟨v8, rfl, ho8, hb8⟩; obtain ⟨A8, c8, hv8, hl8, hC8⟩ := Kd.R_reads ho8; rw [hv8]; have hcv8 := Kd.C_string (P := Try.prog) (A := A8) (c := c8) Try.underlying22 Try.underlying5 Try.underlying9 hC8; have HX5 := Lib.hid (HX3.out.next hb8); clear HX3 hv8 hl8 hC8 ho8 hb8; have HX3 := HX5; clear HX5))
          go_roundw
          case rel => exact ⟨n + 1, by omega, by go_num, Lib.hid ⟨_, _, HX3.out⟩⟩
          case measure => simp [intOf]; omega
        · have hfull : room < z.f2.length := by omega
          go_wp2_with (first
        | (go_at_call 52; refine (pacesetterlaw05_Step_kind.calls z.f0 z.f1 A2 c2 z.f2 5 _ HC2.out hl2 HKI.out).mono ?_; rintro e w6 ⟨rfl, hb⟩; have HX2 := Lib.hid (HX1.out.next hb); obtain ⟨ad', A4, c4, e', hy0, hy1, hy2, hl4, hC4⟩ := HZ.out _ _ HX2.out.s; cases e'; have HC4 := Aside0.mk hC4; clear hb hC4 HX1)
        | (go_at_call 49; refine (swap_full HX2.out.d A4 c4 z.f2 hl63 hfull).mono ?_; rintro e w7 ⟨rfl, rfl⟩; have HX3 := HX2; have hT1 := HX3.out.d.safeLe; have hT2 := HX3.out.d.roomLe; clear HX2)
        | (go_at_call 43; refine (len_any HX3.out.d).mono ?_; rintro e w8 ⟨rfl, rfl⟩)
        | (go_at_call 59; refine (room_any HX3.out.d).mono ?_; rintro e w8 ⟨rfl, nd, rfl⟩; have HX5 := HX3.out.drewN nd; (try rw [World.drewN_drewN] at HX5); clear HX3; have HX3 := Lib.hid HX5; clear HX5)
        | (go_at_call 42; refine (safe_any HX3.out.d).mono ?_; rintro e w8 ⟨rfl, rfl⟩)
        | (go_at_call 41; refine (all_any HX3.out.d).mono ?_; rintro e w8 ⟨v8, rfl, ho8, hb8⟩; obtain ⟨A8, c8, hv8, hl8, hC8⟩ := Kd.R_reads ho8; rw [hv8]; have hcv8 := Kd.C_string (P := Try.prog) (A := A8) (c := c8) Try.underlying22 Try.underlying5 Try.underlying9 hC8; have HX5 := Lib.hid (HX3.out.next hb8); clear HX3 hv8 hl8 hC8 ho8 hb8; have HX3 := HX5; clear HX5))
          go_roundw
          case rel => exact ⟨n + 1, by omega, by go_num, Lib.hid ⟨_, _, HX3.out⟩⟩
          case measure => simp [intOf]; omega
    · obtain rfl : n = l.length := by omega
      go_wp2
      go_ret
      exact ⟨rfl, HX.out.below⟩
end Go.Proofs.Ytbcienbnhchdeaa.Hand
