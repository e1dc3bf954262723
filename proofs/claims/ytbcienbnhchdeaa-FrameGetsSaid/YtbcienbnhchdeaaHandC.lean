/- slices.Clone, slices.Grow and slices.Concat over bytes. -/
import Derived.Test.YtbcienbnhchdeaaHandM
import Derived.Test.YtbcienbnhchdeaaWZeros
import Derived.Lib.SliceRun
namespace Go.Proofs.Ytbcienbnhchdeaa.Hand
open Go.RowKit Go.Proofs.YtbcienbnhchdeaaW.PrintWords
set_option linter.unusedVariables false

theorem info5 : (Try.prog.info? 5).map (fun i => (i.zero, i.size, i.bytes)) = some (some (.int .u8 0), 1, 1) := by kernel_rfl

/-- 'S{}': an empty row of the call's own. -/
theorem R_empty (w : World) (ok : Nat → Prop) (hok : ok w.heap.size) : Kd.R (Kd.int .u8) 5 (w.alloc (.cells #[] 5)) w.heap.size ok (.slice (some ⟨w.heap.size, 0, none⟩) 0 0) [] := by
  refine Kd.R_of_own ?_ (fun k hk => ?_)
  · exact ⟨rfl, .inr ⟨w.heap.size, 0, #[], rfl, Nat.le_refl _, heap_alloc_new w _, by simp, by simp [maxLen], by simp [encs]⟩⟩
  · have : w.heap.size = k := by simpa [Value.ownBlock] using hk
    subst this
    exact hok

set_option maxRecDepth 100000 in
set_option maxHeartbeats 1000000 in
theorem clone_any (A : Option Addr) (c : Nat) (l : List Int) (w : World) (hr : Kd.C (Kd.int .u8) w A l.length l) (hlen : l.length ≤ 140737488355328) :
    Calls Try.prog 96 #[.slice A l.length c] w fun e w' => ∃ v, e = .returned v ∧ Kd.R (Kd.int .u8) 5 w' w.heap.size (fun _ => True) v l ∧ Below w.heap.size w w' := by
  have HR := Aside0.mk hr
  cases A with
  | none =>
    have hl : l = [] := by
      rcases Nat.eq_zero_or_pos l.length with h | h
      · exact List.eq_nil_of_length_eq_zero h
      · obtain ⟨ad, e, _⟩ := hr.2.2 h
        cases e
    clear hr
    subst hl
    have hq : ∀ W : World, (binOp .eql 22 (.slice none 0 c) (.slice none 0 0)).run Try.prog W = .ok (.bool true) W := fun W => Lib.run_eql_slice_nil W 22 5 none 0 c 0 0 Try.underlying22
    go_enter Try.func96, Try.ntmps96
    go_wp2
    go_ret
    exact ⟨_, rfl, Kd.R_nil _ _ _ _ _, Below.refl _ _⟩
  | some ad =>
    clear hr
    have hq : ∀ W : World, (binOp .eql 22 (.slice (some ad) l.length c) (.slice none 0 0)).run Try.prog W = .ok (.bool false) W := fun W => Lib.run_eql_slice_nil W 22 5 (some ad) l.length c 0 0 Try.underlying22
    go_enter Try.func96, Try.ntmps96
    go_wp2_with (at_builtin; refine Kd.R_append_row (Value.int .u8) (0 : Int) (h1 := fun _ => rfl) (w0 := w) w.heap.size rfl (.tmp 5) (.tmp 6) 22 5 (.int .u8 0) 1 rfl Try.underlying22 info5 rfl (by omega) _ [] l _ _ _ (fun _ => True) rfl rfl (fun _ _ => trivial) ?aO ?aR ?aB ?aS ?aL ?_; (case aO => exact R_empty w _ trivial); (case aR => exact Kd.C_alloc HR.out _); (case aB => exact (Below.refl _ _).alloc (Nat.le_refl _) _); (case aS => simp); (case aL => simp; omega); intro v1 w1 ho hb hg hat; have HO := Aside0.mk ho; have HB := Aside0.mk hb; clear ho hb hg hat)
    go_ret
    exact ⟨_, rfl, HO.out, HB.out⟩

set_option maxRecDepth 100000 in
set_option maxHeartbeats 1000000 in
theorem grow_nil (n : Nat) (w : World) (hn : n ≤ 140737488355328) :
    Calls Try.prog 102 #[.slice none 0 0, .int .i64 (n : Int)] w fun e w' => ∃ v, e = .returned v ∧ Kd.R (Kd.int .u8) 5 w' w.heap.size (fun _ => True) v [] ∧ Below w.heap.size w w' := by
  by_cases h0 : n = 0
  · subst h0
    go_enter Try.func102, Try.ntmps102
    go_wp2
    go_ret
    exact ⟨_, rfl, Kd.R_nil _ _ _ _ _, Below.refl _ _⟩
  · have hp : (0 : Int) < (n : Int) := by omega
    go_enter Try.func102, Try.ntmps102
    go_wp2_with (at_builtin; refine Kd.R_append_zeros (Kd.int .u8) (w0 := w) w.heap.size rfl (.tmp 20) (.tmp 21) 22 3 5 (.int .u8 0) 1 rfl Try.underlying22 Try.underlying3 info5 rfl (by decide) (by omega) (.slice none 0 0) [] 0 (n : Int) (fun _ => True) rfl rfl rfl (fun _ _ => trivial) (Kd.R_nil _ _ _ _ _) (by omega) (Below.refl _ _) (Nat.le_refl _) ?aL ?_; (case aL => simp; omega); intro v1 w1 ho hb hg hat; simp only [Int.toNat_natCast, List.nil_append] at ho; obtain ⟨g, cap, hv, _, _, _⟩ := Kd.R_form ho (by simp; omega); rw [hv] at ho ⊢; clear hv hg hat; rw [List.length_replicate] at ho ⊢; have ho := Kd.R_take (m := 0) ho (by omega); have HO := Aside0.mk ho; have HB := Aside0.mk hb; clear ho hb)
    go_ret
    exact ⟨_, rfl, HO.out, HB.out⟩

/-- A row of rows, read: its element. -/
theorem row_at {w : World} {A : Option Addr} {ls : List (List Int)} (hr : Kd.C (Kd.slice 5 (Kd.int .u8)) w A ls.length ls) {n : Nat} (hn : n < ls.length) :
    ∃ ad Ai ci, A = some ad ∧ w.cell? (ad.add n) = some (.slice Ai (ls[n]'hn).length ci) ∧ (ls[n]'hn).length ≤ ci ∧ Kd.C (Kd.int .u8) w Ai (ls[n]'hn).length (ls[n]'hn) := by
  obtain ⟨ad, e, hc⟩ := hr.2.2 (by omega)
  obtain ⟨c, _, hcs, hcell⟩ := hc n (ls[n]'hn) (List.getElem?_eq_getElem hn)
  obtain ⟨Ai, ci, hcs', hle, hC⟩ := hcs
  subst hcs'
  have h := hcell 0 _ rfl
  have e2 : n * (Kd.slice 5 (Kd.int .u8)).sz + 0 = n := by show n * 1 + 0 = n; omega
  rw [e2] at h
  exact ⟨ad, Ai, ci, e, h, hle, hC⟩

/-- Two rows in a literal. -/
theorem rows2 {W : World} {A B : Option Addr} {c d : Nat} {l m : List Int} (hA : Kd.C (Kd.int .u8) W A l.length l) (hc : l.length ≤ c) (hB : Kd.C (Kd.int .u8) W B m.length m) (hd : m.length ≤ d) :
    Kd.C (Kd.slice 5 (Kd.int .u8)) (W.alloc (.cells #[.slice A l.length c, .slice B m.length d] 22)) (some ⟨W.heap.size, 0, none⟩) [l, m].length [l, m] := by
  refine ⟨rfl, by simp, fun _ => ⟨_, rfl, fun j p hj => ?_⟩⟩
  match j, hj with
  | 0, hj =>
    obtain rfl : l = p := by simpa using hj
    refine ⟨[.slice A l.length c], rfl, ⟨A, c, rfl, hc, Kd.C_alloc hA _⟩, fun i u hu => ?_⟩
    match i, hu with
    | 0, hu =>
      obtain rfl : Value.slice A l.length c = u := by simpa using hu
      rw [add_plain, World.cell?_alloc_at _ _ _ _ rfl]
      rfl
  | 1, hj =>
    obtain rfl : m = p := by simpa using hj
    refine ⟨[.slice B m.length d], rfl, ⟨B, d, rfl, hd, Kd.C_alloc hB _⟩, fun i u hu => ?_⟩
    match i, hu with
    | 0, hu =>
      obtain rfl : Value.slice B m.length d = u := by simpa using hu
      rw [add_plain, World.cell?_alloc_at _ _ _ _ rfl]
      rfl

def total (ls : List (List Int)) : Nat := (ls.map List.length).sum
theorem total_take {ls : List (List Int)} {n : Nat} (hn : n < ls.length) : total (ls.take (n + 1)) = total (ls.take n) + (ls[n]'hn).length := by
  unfold total
  rw [List.take_add_one, List.getElem?_eq_getElem hn]
  simp only [Option.toList_some, List.map_append, List.map_cons, List.map_nil, List.sum_append, List.sum_cons, List.sum_nil, Nat.add_zero]
theorem total_le (ls : List (List Int)) (n : Nat) : total (ls.take n) ≤ total ls := by
  unfold total
  conv => rhs; rw [← List.take_append_drop n ls]
  rw [List.map_append, List.sum_append]
  omega
theorem flat_take {ls : List (List Int)} {n : Nat} (hn : n < ls.length) : (ls.take (n + 1)).flatten = (ls.take n).flatten ++ (ls[n]'hn) := by
  rw [List.take_add_one, List.getElem?_eq_getElem hn]
  simp only [Option.toList_some, List.flatten_append, List.flatten_cons, List.flatten_nil, List.append_nil]
theorem flat_len (ls : List (List Int)) : ls.flatten.length = total ls := by
  unfold total
  rw [List.length_flatten]

/-- The world in Concat's second loop. -/
structure CRel (w wr : World) (v : Value) (l : List Int) : Prop where
  row : Kd.R (Kd.int .u8) 5 wr w.heap.size (fun _ => True) v l
  below : Below w.heap.size w wr

set_option maxRecDepth 100000 in
set_option maxHeartbeats 1000000 in
theorem concat_any (A : Option Addr) (c : Nat) (ls : List (List Int)) (w : World) (hr : Kd.C (Kd.slice 5 (Kd.int .u8)) w A ls.length ls) (ht : total ls ≤ 140737488355328) :
    Calls Try.prog 97 #[.slice A ls.length c] w fun e w' => ∃ v, e = .returned v ∧ Kd.R (Kd.int .u8) 5 w' w.heap.size (fun _ => True) v ls.flatten ∧ Below w.heap.size w w' := by
  have hl63 : ls.length ≤ 9223372036854775807 := hr.2.1
  have HR := Aside0.mk hr
  clear hr
  go_enter Try.func97, Try.ntmps97
  go_wp2
  go_loop [3, 11] (fun v i => ∃ n : Nat, n ≤ ls.length ∧ i = .int .i64 (n : Int) ∧ v = .int .i64 ((total (ls.take n) : Nat) : Int)) (fun _ i => ls.length - (intOf i).toNat)
  case atStart => exact ⟨0, by omega, rfl, by simp [total]⟩
  case round =>
    obtain ⟨n, hn, rfl, rfl⟩ := hrel
    by_cases hlt : n < ls.length
    · have hle := total_le ls (n + 1)
      have htk := total_take hlt
      rw [htk] at hle
      have HTK := Lib.hid htk
      clear htk
      obtain ⟨ad, Ai, ci, rfl, hcell, hci, hC⟩ := row_at HR.out hlt
      clear hC hci
      generalize (ls[n]'hlt).length = m at hcell hle HTK
      generalize total (ls.take n) = s at hle HTK ⊢
      go_wp2
      go_round
      case rel => exact ⟨n + 1, by omega, by go_num, by rw [HTK.out]; go_num⟩
      case measure => simp [intOf]; omega
    · obtain rfl : n = ls.length := by omega
      rw [List.take_length]
      go_wp2_with (go_at_call 102; refine (grow_nil _ _ ht).mono ?_; rintro e w1 ⟨v, rfl, ho, hb⟩; have HC := Lib.hid (CRel.mk ho hb); clear ho hb)
      go_loopw [6, 27] (fun v i wr => ∃ n : Nat, n ≤ ls.length ∧ i = .int .i64 (n : Int) ∧ Hid (CRel w wr v (ls.take n).flatten)) (fun _ i _ => ls.length - (intOf i).toNat)
      case atStart => exact ⟨0, by omega, rfl, HC⟩
      case round =>
        obtain ⟨n, hn, rfl, HC⟩ := hrel
        by_cases hlt : n < ls.length
        · obtain ⟨ad, Ai, ci, rfl, hcell, hci, hC⟩ := row_at (Kd.C_below HR.out HC.out.below) hlt
          have hle := total_le ls (n + 1)
          rw [total_take hlt, ← flat_len] at hle
          have hfl := flat_take hlt
          generalize (ls[n]'hlt) = l at hcell hci hC hle hfl
          have HFL := Lib.hid hfl
          have HCi := Lib.hid hC
          clear hfl hci hC
          go_wp2_with (at_builtin; refine Kd.R_append_row (Value.int .u8) (0 : Int) (h1 := fun _ => rfl) (w0 := w) w.heap.size rfl (.tmp 31) (.tmp 32) 22 5 (.int .u8 0) 1 rfl Try.underlying22 info5 rfl (by omega) _ (ls.take n).flatten l _ _ _ (fun _ => True) rfl rfl (fun _ _ => trivial) HC.out.row HCi.out HC.out.below HC.out.below.size ?aL ?_; (case aL => omega); intro v1 w2 ho hb hg hat; have HC2 := Lib.hid (CRel.mk ho hb); clear ho hb hg hat)
          go_roundw
          case rel => exact ⟨n + 1, by omega, by go_num, by rw [HFL.out]; exact HC2⟩
          case measure => simp [intOf]; omega
        · obtain rfl : n = ls.length := by omega
          rw [List.take_length] at HC
          go_wp2
          go_ret
          exact ⟨_, rfl, HC.out.row, HC.out.below⟩

/-- A literal's bytes, marked or not. -/
theorem C_lit (W : World) (xs : List Int) (fr : Nat × Nat) (hx : xs.length ≤ 9223372036854775807) : Kd.C (Kd.int .u8) (W.alloc (.cells (xs.map (Value.int .u8)).toArray 5 fr)) (some ⟨W.heap.size, 0, none⟩) xs.length xs := by
  refine ⟨rfl, hx, fun _ => ⟨_, rfl, fun j p hj => ⟨[.int .u8 p], rfl, rfl, fun i u hu => ?_⟩⟩⟩
  match i, hu with
  | 0, hu =>
    obtain rfl : Value.int .u8 p = u := by simpa using hu
    have e : j * (Kd.int .u8).sz + 0 = j := by show j * 1 + 0 = j; omega
    rw [e, add_plain]
    have hh : (W.alloc (.cells (xs.map (Value.int .u8)).toArray 5 fr)).heap[W.heap.size]? = some (.cells (xs.map (Value.int .u8)).toArray 5 fr) := heap_alloc_new W _
    simp only [World.cell?, hh]
    simp [hj]

/-! ### Spellings that the walk comes to -/
theorem take_len {α : Type} {l : List α} {j : Int} (h : j ≤ (l.length : Int)) : (((l.take j.toNat).length : Nat) : Int) = max j 0 := by
  rw [List.length_take]
  omega
theorem wrap_small {x : Int} (h0 : 0 ≤ x) (h1 : x ≤ 1000000) : IntKind.u64.wrap (wrap64 (x + 1)) = x + 1 := by
  rw [IntKind.wrap_u64]
  unfold wrap64
  omega
theorem at_cut {α : Type} {l : List α} {j : Int} (a : Int) (h : j ≤ (l.length : Int)) (hj : j ≤ 1000000) :
    wrap64 ((IntKind.u64.wrap a).tmod (max j 0 + 1)) = wrap64 (Int.tmod (IntKind.u64.wrap (a)) (IntKind.u64.wrap (wrap64 (((l.take ((j) : Int).toNat).length : Int) + 1)))) := by
  rw [take_len h, wrap_small (by omega) (by omega)]
theorem take_len2 {α : Type} {l : List α} {j : Int} (h : j ≤ (l.length : Int)) : (l.take j.toNat).length = j.toNat := by
  rw [List.length_take]
  omega
theorem ne_nil_eq (l : List UInt8) : (l != []) = !l.isEmpty := by cases l <;> rfl
theorem eq_nil_eq (l : List UInt8) : (l == []) = l.isEmpty := by cases l <;> rfl
end Go.Proofs.Ytbcienbnhchdeaa.Hand
