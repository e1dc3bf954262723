/- The second reading's disk: a crash, a cut, a swap (the print tells the others). -/
import Derived.Test.YtbcienbnhchdeaaDiskW
import Derived.Test.YtbcienbnhchdeaaPrD3
import Derived.Test.YtbcienbnhchdeaaWLast
namespace Go.Proofs.Ytbcienbnhchdeaa.Hand
open Go Go.RowKit Go.Proofs.YtbcienbnhchdeaaW.PrintLast Go.Proofs.YtbcienbnhchdeaaW.PrintWords Go.Proofs.YtbcienbnhchdeaaW.PrintMore PrD
set_option linter.unusedVariables false
set_option linter.unusedSimpArgs false
attribute [local go_sem] max2_int min2_int max_two min_two

set_option maxRecDepth 100000 in
set_option maxHeartbeats 1000000 in
theorem ref_crash (room : Int) (sa sb : ByteArray) (keep : Int) (K : Nat) (hK : keepOf keep sb.size = K) (hsz : sa.size + sb.size ≤ 1000000000) (w : World) :
    Calls Try.prog 55 #[.agg #[.int .i64 room, .string sa, .string sb], .int .i64 keep] w fun e w' => e = .returned (.tuple #[.agg #[.int .i64 room, .string (sa ++ sb.extract 0 K), .string ⟨#[]⟩], .int .i64 ((sb.size : Int) - (K : Int))]) ∧ Below w.heap.size w w' := by
  obtain ⟨M, hM⟩ : ∃ M : Int, (if keep < 0 then 0 else keep) = M := ⟨_, rfl⟩
  have hmn := keep_min keep sb.size
  have hle := keepOf_le keep sb.size
  rw [hK] at hle
  rw [hK, hM] at hmn
  have hK0 : (0 : Int) ≤ (K : Int) := by omega
  have hK1 : (K : Int) ≤ (sb.size : Int) := by omega
  have hx : (9223372036854775807 < sa.size + (sb.extract 0 K).size) = False := by simp; omega
  have hx2 : (9223372036854775807 < sa.size + K) = False := by simp; omega
  have hx3 : (9223372036854775807 < sa.size + min K sb.size) = False := by simp; omega
  clear hK
  go_enter Try.func55, Try.ntmps55
  go_wp2
  refine start_ (n := 9) (S := fun w' => w'.cell? ⟨w.heap.size, 1, none⟩ = some (.string sa) ∧ w'.cell? ⟨w.heap.size, 2, none⟩ = some (.string sb)) (ds := [8]) #[false, false, false, false, false, false, false, false, false] (by kernel_rfl) rfl rfl ⟨(by go_simp), (by go_simp)⟩ (fun hHeld => ?_)
  refine pure_ (i := 0) (N := some 19) (v := ?_) (a' := ?_) #[true, false, false, false, false, false, false, false, false] rfl rfl (by kernel_rfl) (fun _ _ _ h => h) (Or.inl ⟨by rfl, ?_⟩) ?_ ?_
  rotate_left
  · intro w'
    go_simp
    with_reducible rfl
  rotate_left
  · simp only [Act.put, List.setIfInBounds_toArray, List.set_cons_zero, List.set_cons_succ, i64_w, i32_w]
    rfl
  refine pure_ (i := 2) (N := some 21) (v := ?_) (a' := ?_) #[true, false, true, false, false, false, false, false, false] rfl rfl (by kernel_rfl) (fun _ _ _ h => h) (Or.inl ⟨by rfl, ?_⟩) ?_ ?_
  rotate_left
  · intro w'
    go_simp
    with_reducible rfl
  rotate_left
  · simp only [Act.put, List.setIfInBounds_toArray, List.set_cons_zero, List.set_cons_succ, i64_w, i32_w]
    rfl
  refine pure_ (i := 4) (N := some 23) (v := ?_) (a' := ?_) #[true, false, true, false, true, false, false, false, false] rfl rfl (by kernel_rfl) (fun _ _ _ h => h) (Or.inl ⟨by rfl, ?_⟩) ?_ ?_
  rotate_left
  · intro w'
    go_simp
    with_reducible rfl
  rotate_left
  · simp only [Act.put, List.setIfInBounds_toArray, List.set_cons_zero, List.set_cons_succ, i64_w, i32_w]
    rfl
  refine take_ (i := 1) (N := some 20) (v := ?_) (a' := ?_) #[true, true, true, false, true, false, false, false, false] rfl rfl (by kernel_rfl) (fun _ _ _ h => h) (Or.inl ⟨by rfl, ?_⟩) hHeld ?_ ?_
  rotate_left
  · rintro w' ⟨s0, s1⟩
    go_simp
    with_reducible rfl
  rotate_left
  · simp only [Act.put, List.setIfInBounds_toArray, List.set_cons_zero, List.set_cons_succ, i64_w, i32_w]
    rfl
  refine take_ (i := 3) (N := some 22) (v := ?_) (a' := ?_) #[true, true, true, true, true, false, false, false, false] rfl rfl (by kernel_rfl) (fun _ _ _ h => h) (Or.inl ⟨by rfl, ?_⟩) hHeld ?_ ?_
  rotate_left
  · rintro w' ⟨s0, s1⟩
    go_simp
    with_reducible rfl
  rotate_left
  · simp only [Act.put, List.setIfInBounds_toArray, List.set_cons_zero, List.set_cons_succ, i64_w, i32_w]
    rfl
  refine pure_ (i := 5) (N := some 24) (v := ?_) (a' := ?_) #[true, true, true, true, true, true, false, false, false] rfl rfl (by kernel_rfl) (fun _ _ _ h => h) (Or.inl ⟨by rfl, ?_⟩) ?_ ?_
  rotate_left
  · intro w'
    go_simp
    with_reducible rfl
  rotate_left
  · simp only [Act.put, List.setIfInBounds_toArray, List.set_cons_zero, List.set_cons_succ, i64_w, i32_w]
    rfl
  refine pure_ (i := 6) (N := some 25) (v := ?_) (a' := ?_) #[true, true, true, true, true, true, true, false, false] rfl rfl (by kernel_rfl) (fun _ _ _ h => h) (Or.inl ⟨by rfl, ?_⟩) ?_ ?_
  rotate_left
  · intro w'
    go_simp
    with_reducible rfl
  rotate_left
  · simp only [Act.put, List.setIfInBounds_toArray, List.set_cons_zero, List.set_cons_succ, i64_w, i32_w]
    rfl
  refine pure_ (i := 7) (N := some 26) (v := ?_) (a' := ?_) #[true, true, true, true, true, true, true, true, false] rfl rfl (by kernel_rfl) (fun _ _ _ h => h) (Or.inl ⟨by rfl, ?_⟩) ?_ ?_
  rotate_left
  · intro w'
    go_simp
    with_reducible rfl
  rotate_left
  · simp only [Act.put, List.setIfInBounds_toArray, List.set_cons_zero, List.set_cons_succ, i64_w, i32_w]
    rfl
  refine last_ (i := 8) (N := none) #[true, true, true, true, true, true, true, true, true] rfl rfl (by kernel_rfl) (by decide) (fun K hK => ?_)
  refine skip_ (w1 := ?_) (by rfl) rfl ?_ ?_
  rotate_left
  · go_simp
    rfl
  refine hK.out _ _ ?_
  clear hK K
  refine done_ (by kernel_rfl) ?_
  go_wp2
  exact bodyPost_ret (v := .tuple #[.agg #[.int .i64 room, .string (sa ++ sb.extract 0 K), .string ⟨#[]⟩], .int .i64 ((sb.size : Int) - (K : Int))]) (by simp [results, Try.results55, go_sem]) rfl ⟨rfl, below_drew (below_alloc (below_alloc (Below.refl _ _) _) _)⟩
set_option maxRecDepth 100000 in
set_option maxHeartbeats 1000000 in
theorem ref_cut_ok (room : Int) (sa sb sc : ByteArray) (x : Int) (N : Nat) (hx : x = (N : Int)) (hsz : sa.size + sb.size ≤ 1000000000) (hc : sa ++ sb = sc) (hN : N ≤ sc.size) (w : World) :
    Calls Try.prog 56 #[.agg #[.int .i64 room, .string sa, .string sb], .int .i64 x] w fun e w' => e = .returned (.tuple #[.agg #[.int .i64 room, .string (sc.extract 0 N), .string ⟨#[]⟩], .int .i64 0]) ∧ Below w.heap.size w w' := by
  subst hx
  have hx2 : (9223372036854775807 < sa.size + sb.size) = False := by simp; omega
  have hN1 : (N : Int) ≤ (sc.size : Int) := by omega
  have hss : sc.size = sa.size + sb.size := by rw [← hc, ByteArray.size_append]
  have hsb : sc.size ≤ 1000000000 := by omega
  clear hss
  go_enter Try.func56, Try.ntmps56
  go_wp2
  exact bodyPost_ret (v := .tuple #[.agg #[.int .i64 room, .string (sc.extract 0 N), .string ⟨#[]⟩], .int .i64 0]) (by simp [results, Try.results56, go_sem]) rfl ⟨rfl, below_alloc (below_alloc (Below.refl _ _) _) _⟩
set_option maxRecDepth 100000 in
set_option maxHeartbeats 1000000 in
theorem ref_cut_bad (room : Int) (sa sb sc : ByteArray) (x : Int) (hsz : sa.size + sb.size ≤ 1000000000) (hc : sa ++ sb = sc) (hN : x < 0 ∨ (sc.size : Int) < x) (w : World) :
    Calls Try.prog 56 #[.agg #[.int .i64 room, .string sa, .string sb], .int .i64 x] w fun e w' => e = .returned (.tuple #[.agg #[.int .i64 room, .string sa, .string sb], .int .i64 1]) ∧ Below w.heap.size w w' := by
  have hx2 : (9223372036854775807 < sa.size + sb.size) = False := by simp; omega
  by_cases h0 : x < 0
  · clear hN
    go_enter Try.func56, Try.ntmps56
    go_wp2
    exact bodyPost_ret (v := .tuple #[.agg #[.int .i64 room, .string sa, .string sb], .int .i64 1]) (by simp [results, Try.results56, go_sem]) rfl ⟨rfl, below_alloc (below_alloc (Below.refl _ _) _) _⟩
  · have h1 : (sc.size : Int) < x := by omega
    clear hN
    go_enter Try.func56, Try.ntmps56
    go_wp2
    exact bodyPost_ret (v := .tuple #[.agg #[.int .i64 room, .string sa, .string sb], .int .i64 1]) (by simp [results, Try.results56, go_sem]) rfl ⟨rfl, below_alloc (below_alloc (Below.refl _ _) _) _⟩
set_option maxRecDepth 100000 in
set_option maxHeartbeats 1000000 in
theorem ref_swap_ok (room : Nat) (sa sb sl : ByteArray) (h : sl.size ≤ room) (w : World) :
    Calls Try.prog 58 #[.agg #[.int .i64 (room : Int), .string sa, .string sb], .string sl] w fun e w' => e = .returned (.tuple #[.agg #[.int .i64 (room : Int), .string sl, .string ⟨#[]⟩], .int .i64 0]) ∧ Below w.heap.size w w' := by
  have h1 : (sl.size : Int) ≤ (room : Int) := by omega
  go_enter Try.func58, Try.ntmps58
  go_wp2
  exact bodyPost_ret (v := .tuple #[.agg #[.int .i64 (room : Int), .string sl, .string ⟨#[]⟩], .int .i64 0]) (by simp [results, Try.results58, go_sem]) rfl ⟨rfl, below_alloc (below_alloc (Below.refl _ _) _) _⟩
set_option maxRecDepth 100000 in
set_option maxHeartbeats 1000000 in
theorem ref_swap_full (room : Nat) (sa sb sl : ByteArray) (h : room < sl.size) (w : World) :
    Calls Try.prog 58 #[.agg #[.int .i64 (room : Int), .string sa, .string sb], .string sl] w fun e w' => e = .returned (.tuple #[.agg #[.int .i64 (room : Int), .string sa, .string sb], .int .i64 4]) ∧ Below w.heap.size w w' := by
  have h1 : (room : Int) < (sl.size : Int) := by omega
  go_enter Try.func58, Try.ntmps58
  go_wp2
  exact bodyPost_ret (v := .tuple #[.agg #[.int .i64 (room : Int), .string sa, .string sb], .int .i64 4]) (by simp [results, Try.results58, go_sem]) rfl ⟨rfl, below_alloc (below_alloc (Below.refl _ _) _) _⟩
theorem ref_write_ok (room : Nat) (sa sb sl : ByteArray) (h : sa.size + sb.size + sl.size ≤ room) (hr : room ≤ 1048576) (w : World) :
    Calls Try.prog 53 #[.agg #[.int .i64 (room : Int), .string sa, .string sb], .string sl] w fun e w' => e = .returned (.tuple #[.agg #[.int .i64 (room : Int), .string sa, .string (sb ++ sl)], .int .i64 0]) ∧ Below w.heap.size w w' := by
  refine pacesetterref05_Write.calls (room : Int) sa sb sl (room : Int) sa (sb ++ sl) 0 w ?_
  have e : wrap64 (wrap64 ((sa.size : Int) + (sb.size : Int)) + (sl.size : Int)) = ((sa.size + sb.size + sl.size : Nat) : Int) := by unfold wrap64; omega
  unfold pacesetterref05_Write.f
  rw [e, if_neg (by omega), if_pos (by omega)]
theorem ref_write_full (room : Nat) (sa sb sl : ByteArray) (h : room < sa.size + sb.size + sl.size) (hr : sa.size + sb.size ≤ 1048576) (hl : sl.size ≤ 1000000) (w : World) :
    Calls Try.prog 53 #[.agg #[.int .i64 (room : Int), .string sa, .string sb], .string sl] w fun e w' => e = .returned (.tuple #[.agg #[.int .i64 (room : Int), .string sa, .string sb], .int .i64 4]) ∧ Below w.heap.size w w' := by
  refine pacesetterref05_Write.calls (room : Int) sa sb sl (room : Int) sa sb 4 w ?_
  have e : wrap64 (wrap64 ((sa.size : Int) + (sb.size : Int)) + (sl.size : Int)) = ((sa.size + sb.size + sl.size : Nat) : Int) := by unfold wrap64; omega
  unfold pacesetterref05_Write.f
  rw [e, if_pos (by omega)]
theorem ref_sync (room : Int) (sa sb : ByteArray) (h : sa.size + sb.size ≤ 1048576) (w : World) :
    Calls Try.prog 54 #[.agg #[.int .i64 room, .string sa, .string sb]] w fun e w' => e = .returned (.tuple #[.agg #[.int .i64 room, .string (sa ++ sb), .string ⟨#[]⟩], .int .i64 (sb.size : Int)]) ∧ Below w.heap.size w w' := by
  refine pacesetterref05_Sync.calls room sa sb room (sa ++ sb) ⟨#[]⟩ (sb.size : Int) w ?_
  unfold pacesetterref05_Sync.f
  rw [if_pos (by omega)]
theorem ref_new (n : Int) (w : World) :
    Calls Try.prog 50 #[.int .i64 n] w fun e w' => e = .returned (.agg #[.int .i64 ((roomOf n : Nat) : Int), .string ⟨#[]⟩, .string ⟨#[]⟩]) ∧ Below w.heap.size w w' := by
  refine pacesetterref05_New.calls n ((roomOf n : Nat) : Int) ⟨#[]⟩ ⟨#[]⟩ w ?_
  have e : mn (mx n 0) 1048576 = ((roomOf n : Nat) : Int) := by
    unfold mn mx roomOf
    split <;> split <;> (try split) <;> (try split) <;> omega
  unfold pacesetterref05_New.f
  rw [e]
end Go.Proofs.Ytbcienbnhchdeaa.Hand
