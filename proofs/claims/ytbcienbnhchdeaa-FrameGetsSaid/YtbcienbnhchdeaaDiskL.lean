/- What the disk's laws call first: the document's example. -/
import Derived.Test.YtbcienbnhchdeaaHandE
import Derived.Lib.SlBytesConst
namespace Go.Proofs.Ytbcienbnhchdeaa.Hand
open Go Go.RowKit Go.Proofs.YtbcienbnhchdeaaW.PrintWords Go.Proofs.YtbcienbnhchdeaaW.PrintMore
set_option linter.unusedVariables false
set_option linter.unusedSimpArgs false
attribute [local go_sem] max2_int min2_int max_two min_two

theorem abc : strOfNums [97, 98, 99] = ⟨#[97, 98, 99]⟩ := by decide
set_option maxRecDepth 100000 in
set_option maxHeartbeats 1000000 in
theorem lives5_any (w : World) : Calls Try.prog 36 #[] w fun e w' => e = .returned (.bool true) ∧ Below w.heap.size w w' := by
  have kc := fun (W : World) (C : Array Value) (n c : Nat) => Lib.run_convert_bytes_const (P := Try.prog) W 22 5 C n c Try.underlying22 Try.underlying5
  go_enter Try.func36, Try.ntmps36
  go_wp2_with (first
    | (go_at_call 37; refine (new_any 10 _ (fun k => w.heap.size ≤ k)).mono ?_; rintro e w1 ⟨rfl, hd, hb⟩; have HA := Aside0.mk hd; have HBa := Aside0.mk hb; clear hd hb)
    | (go_at_call 38; refine (write_ok (HA.out.below (below_alloc (Below.refl _ _) _)) ?hok _ _ [97, 98] (C_lit _ [97, 98] _ (by decide)) (by decide) (by decide)).mono ?_; (case hok => intro k hk; have := HBa.out.size; simp at hk; omega); rintro e w2 ⟨rfl, hd, hm⟩; have HB := Aside0.mk hd; have HM2 := Aside0.mk hm; clear hd hm HA)
    | (go_at_call 39; refine (sync_any HB.out).mono ?_; rintro e w3 ⟨rfl, hd, hm⟩; have HC := Aside0.mk hd; have HM3 := Aside0.mk hm; clear hd hm HB)
    | (go_at_call 38; refine (write_ok (HC.out.below (below_alloc (Below.refl _ _) _)) ?hok2 _ _ [99, 100] (C_lit _ [99, 100] _ (by decide)) (by decide) (by decide)).mono ?_; (case hok2 => intro k hk; have := HBa.out.size; have := HM2.out.size; have := HM3.out.size; simp at *; omega); rintro e w4 ⟨rfl, hd, hm⟩; have HD := Aside0.mk hd; have HM4 := Aside0.mk hm; clear hd hm HC)
    | (go_at_call 40; refine (crash_any 1 HD.out).mono ?_; rintro e w5 ⟨rfl, hd, hm⟩; have HE := Aside0.mk (show DiskAt w5 w.heap.size (fun k => w.heap.size ≤ k) 10 3 [97, 98, 99] from hd); have HM5 := Aside0.mk hm; clear hd hm HD)
    | (go_at_call 41; refine (all_any HE.out).mono ?_; rintro e w6 ⟨v, rfl, ho, hb⟩; obtain ⟨A, c, hv, hl, hC⟩ := Kd.R_reads ho; rw [hv]; have hcv : (convert 22 9 (.slice A 3 c)).run Try.prog w6 = .ok (.string (strOfNums [97, 98, 99])) w6 := Kd.C_string (P := Try.prog) (A := A) (c := c) Try.underlying22 Try.underlying5 Try.underlying9 hC; rw [abc] at hcv; clear hl hC ho hv; have HF := Aside0.mk (HE.out.below hb); have HB6 := Aside0.mk hb; clear hb HE)
    | (go_at_call 42; refine (safe_any HF.out).mono ?_; rintro e w7 ⟨rfl, rfl⟩))
  go_ret
  have hs : ∀ k, OfDisk w.heap.size (fun k => w.heap.size ≤ k) k → w.heap.size ≤ k := fun k hk => hk.elim (fun e => by omega) id
  have b1 := HBa.out
  have b2 := Moved.from_below (below_alloc b1 _) HM2.out hs (by have := b1.size; simp; omega)
  have b3 := Moved.from_below b2 HM3.out hs b2.size
  have b4 := Moved.from_below (below_alloc b3 _) HM4.out hs (by have := b3.size; simp; omega)
  have b5 := Moved.from_below b4 HM5.out hs b4.size
  exact ⟨rfl, below_step b5 HB6.out⟩
end Go.Proofs.Ytbcienbnhchdeaa.Hand
