/- Small laws for the disk's laws. -/
import Derived.Test.YtbcienbnhchdeaaDiskL
namespace Go.Proofs.Ytbcienbnhchdeaa.Hand
open Go Go.RowKit Go.Proofs.YtbcienbnhchdeaaW.PrintWords Go.Proofs.YtbcienbnhchdeaaW.PrintMore
set_option linter.unusedVariables false

/-- Of a row of bytes, the first m. -/
theorem C_first {w : World} {A : Option Addr} {l : List Int} (h : Kd.C (Kd.int .u8) w A l.length l) (m : Nat) (hm : m ≤ l.length) : Kd.C (Kd.int .u8) w A (l.take m).length (l.take m) := Kd.C_take h hm
/-- min(len(l), n). -/
theorem min_first (l : List Int) (n : Nat) : (if (n : Int) < (l.length : Int) then (n : Int) else (l.length : Int)) = ((min l.length n : Nat) : Int) := by
  split <;> omega
theorem keep_min (keep : Int) (q : Nat) : (if (q : Int) < (if keep < 0 then 0 else keep) then (q : Int) else (if keep < 0 then 0 else keep)) = ((keepOf keep q : Nat) : Int) := by
  unfold keepOf
  split <;> split <;> (try split) <;> omega
theorem ret_i {a b : Int} {e : Ending} (h : e = .returned (.int .i64 a)) (hab : a = b) : e = .returned (.int .i64 b) := hab ▸ h
section
variable {w : World} {g : Nat} {ok : Nat → Prop} {room : Nat} {bs a b : List Int}
theorem sync_zero (h : DiskAt w g ok room 0 bs) : Calls Try.prog 39 #[.pointer (some ⟨g, 0, none⟩)] w fun e w' => e = .returned (.int .i64 (bs.length : Int)) ∧ DiskAt w' g ok room bs.length bs ∧ Moved w w' (OfDisk g ok) :=
  (sync_any h).mono fun e w' ⟨he, h1⟩ => ⟨ret_i he (by omega), h1⟩
theorem sync_none {s : Nat} (h : DiskAt w g ok room s bs) (hs : s = bs.length) : Calls Try.prog 39 #[.pointer (some ⟨g, 0, none⟩)] w fun e w' => e = .returned (.int .i64 0) ∧ DiskAt w' g ok room s bs ∧ Moved w w' (OfDisk g ok) := by
  subst hs
  exact (sync_any h).mono fun e w' ⟨he, h1⟩ => ⟨ret_i he (by omega), h1⟩
theorem crash_two {keep : Int} {K : Nat} (h : DiskAt w g ok room a.length (a ++ b)) (hK : keepOf keep b.length = K) : Calls Try.prog 40 #[.pointer (some ⟨g, 0, none⟩), .int .i64 keep] w fun e w' =>
    e = .returned (.int .i64 ((b.length : Int) - (K : Int))) ∧ DiskAt w' g ok room (a ++ b.take K).length (a ++ b.take K) ∧ Moved w w' (OfDisk g ok) := by
  have hq : (a ++ b).length - a.length = b.length := by simp
  have hle : K ≤ b.length := hK ▸ keepOf_le keep b.length
  refine (crash_any keep h).mono fun e w' ⟨he, h1, h2⟩ => ?_
  rw [hq, hK] at he h1
  have ht : (a ++ b).take (a.length + K) = a ++ b.take K := by rw [List.take_append]; simp; exact List.take_of_length_le (by omega)
  have hl : (a ++ b.take K).length = a.length + K := by rw [List.length_append, List.length_take]; omega
  rw [ht] at h1
  rw [hl]
  exact ⟨ret_i he (by rw [List.length_append]; omega), h1, h2⟩
theorem crash_none {keep : Int} {s : Nat} (h : DiskAt w g ok room s bs) (hs : s = bs.length) : Calls Try.prog 40 #[.pointer (some ⟨g, 0, none⟩), .int .i64 keep] w fun e w' =>
    e = .returned (.int .i64 0) ∧ DiskAt w' g ok room s bs ∧ Moved w w' (OfDisk g ok) := by
  subst hs
  refine (crash_any keep h).mono fun e w' ⟨he, h1, h2⟩ => ?_
  have e0 : keepOf keep (bs.length - bs.length) = 0 := by have := keepOf_le keep (bs.length - bs.length); omega
  rw [e0, Nat.add_zero] at he h1
  rw [List.take_length] at h1
  exact ⟨ret_i he (by omega), h1, h2⟩
end
/-- What was made from w0 on. -/
theorem Moved.on {w0 w w1 : World} {g : Nat} (h : Below w0.heap.size w0 w) (hg : w0.heap.size ≤ g) (k : Moved w w1 (OfDisk g (fun k => w0.heap.size ≤ k))) : Below w0.heap.size w0 w1 :=
  Moved.from_below h k (fun k hk => hk.elim (fun e => by omega) id) h.size
/-- Rows of bytes as strings. -/
theorem str_append (a b : List Int) : strOfNums a ++ strOfNums b = strOfNums (a ++ b) := by
  apply ByteArray.ext
  simp [strOfNums]
theorem str_size (l : List Int) : (strOfNums l).size = l.length := by simp [strOfNums, ByteArray.size]
end Go.Proofs.Ytbcienbnhchdeaa.Hand
