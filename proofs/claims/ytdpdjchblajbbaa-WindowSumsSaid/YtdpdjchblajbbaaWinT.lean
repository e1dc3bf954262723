/- Rows of tallies, and their sum; a row of bools that came in. -/
import Derived.Test.YtdpdjchblajbbaaWinS
namespace Go.Proofs.Ytdpdjchblajbbaa.Hand
open Go Go.RowKit Go.Deep Go.ChangeShapes Go.Proofs.YtdpdjchblajbbaaW.PrintLast Go.Proofs.YtdpdjchblajbbaaW.PrintWords Go.Proofs.YtdpdjchblajbbaaW.PrintMore
set_option linter.unusedVariables false
set_option linter.unusedSimpArgs false
attribute [local go_sem] max2_int min2_int max_two min_two
theorem open_flags {H : Type} {enc : TypeId × Value → H} {w : World} {base : Nat} {held : Bool} {fuel : Nat} {a : Option Addr} {len cap : Nat} {x : DataW H × List MemPlace}
    (h : DataW.trod enc Try.prog w base (fun _ => true) held fuel 37 (Value.slice a len cap).cells.toList = some x) :
    ∃ zs : List Bool, zs.length = len ∧ len ≤ cap ∧ Kd.C Kd.bool w a len zs ∧ True := by
  rcases open_slice Try.underlying37 h with ⟨hcs, _⟩ | ⟨ad, l, c, m, n, D, Pl, hcs, _, hl, hm, hmm, _, hi⟩
  · simp [Value.cells] at hcs
    obtain ⟨rfl, rfl, rfl⟩ := hcs
    exact ⟨[], rfl, Nat.le_refl _, Kd.C_nil _ _, trivial⟩
  · simp [Value.cells] at hcs
    obtain ⟨rfl, rfl, rfl⟩ := hcs
    have hml : maxLen ≤ 9223372036854775807 := by decide
    have hmc : m = cap := by simpa using hmm
    obtain ⟨Z, hZ⟩ := choose_lt (α := Bool) (n := len) (p := fun i z => w.cell? (ad.add i) = some (.bool z)) (fun i hlt => by
      obtain ⟨cs', h1, h2⟩ := hi i (by omega)
      rw [cells4] at h1
      obtain ⟨_, hlen, hcell⟩ := World.cells?_some h1
      obtain ⟨z, hz1, hz2⟩ := DataW.trod_bool Try.underlying4 h2
      refine ⟨z, ?_⟩
      have h3 := hcell 0 (by omega)
      rw [hz1] at h3
      have e : (ad.add (i * 1)).add 0 = ad.add i := by rw [Nat.mul_one]; rfl
      rw [e] at h3
      exact h3)
    have hlz : ((List.range len).map Z).length = len := by simp
    refine ⟨(List.range len).map Z, hlz, hl, Kd.C_of_reads (enc := Value.bool) (d := false) (h1 := fun _ => rfl) ⟨hlz, by omega, fun _ => ⟨ad, rfl, fun j hj => ?_⟩⟩, trivial⟩
    rw [hZ j hj]
    simp [List.getD_eq_getElem?_getD, hj]
/-- A tally, as an element. -/
def tlp (p : Nat × Nat) : Value := tl p.1 p.2
def kT : Kd (Nat × Nat) := Kd.scalar tlp (fun _ => rfl)
theorem info29 : (Try.prog.info? 29).map (fun i => (i.zero, i.size, i.bytes)) = some (some (.complex .f64 0 0), 1, 16) := by kernel_rfl
def sG (xs : List (Nat × Nat)) : Nat := (xs.map Prod.fst).sum
def sB (xs : List (Nat × Nat)) : Nat := (xs.map Prod.snd).sum
theorem sG_take {xs : List (Nat × Nat)} {n : Nat} (hn : n < xs.length) : sG (xs.take (n + 1)) = sG (xs.take n) + (xs.getD n (0, 0)).1 := by
  unfold sG
  rw [List.take_succ_eq_append_getElem hn, List.map_append, List.sum_append]
  simp [List.getD_eq_getElem?_getD, hn]
theorem sB_take {xs : List (Nat × Nat)} {n : Nat} (hn : n < xs.length) : sB (xs.take (n + 1)) = sB (xs.take n) + (xs.getD n (0, 0)).2 := by
  unfold sB
  rw [List.take_succ_eq_append_getElem hn, List.map_append, List.sum_append]
  simp [List.getD_eq_getElem?_getD, hn]
/-- Small enough to be added one by one. -/
def Adds (xs : List (Nat × Nat)) : Prop := ∀ n, n < xs.length → FloatKind.f64.format.add (fl (sG (xs.take n))) (fl (xs.getD n (0, 0)).1) = some (fl (sG (xs.take n) + (xs.getD n (0, 0)).1)) ∧ FloatKind.f64.format.add (fl (sB (xs.take n))) (fl (xs.getD n (0, 0)).2) = some (fl (sB (xs.take n) + (xs.getD n (0, 0)).2)) ∧
  sG (xs.take n) + (xs.getD n (0, 0)).1 < 161 ∧ sB (xs.take n) + (xs.getD n (0, 0)).2 < 161
theorem tl_at {w : World} {A : Option Addr} {l : List (Nat × Nat)} (h : Kd.C kT w A l.length l) {n : Nat} (hn : n < l.length) : ∃ ad, A = some ad ∧ w.cell? (ad.add n) = some (tl (l.getD n (0, 0)).1 (l.getD n (0, 0)).2) := by
  have h1 := ReadsOf.at_ (Kd.reads_of_C (enc := tlp) (d := ((0, 0) : Nat × Nat)) (h1 := fun _ => rfl) h) (n : Int) (by omega) (by omega)
  rw [Int.toNat_natCast] at h1
  obtain ⟨ad, e, h2⟩ := h1
  refine ⟨ad, e, ?_⟩
  rw [h2]
  rfl
set_option maxRecDepth 100000 in
set_option maxHeartbeats 1000000 in
theorem sum_any (A : Option Addr) (c : Nat) (xs : List (Nat × Nat)) (w : World) (h : Kd.C kT w A xs.length xs) (hl : xs.length ≤ 1000) (hx : Adds xs) : Calls Try.prog 16 #[.slice A xs.length c] w fun e w' => e = .returned (tl (sG xs) (sB xs)) ∧ w = w' := by
  have H := Aside0.mk h
  have HX := Aside0.mk hx
  clear h hx
  go_enter Try.func16, Try.ntmps16
  go_wp2
  go_loop [3, 5, 8] (fun z x i => ∃ n : Nat, n ≤ xs.length ∧ i = .int .i64 (n : Int) ∧ z = tl (sG (xs.take n)) (sB (xs.take n))) (fun _ _ i => xs.length - (intOf i).toNat)
  case atStart => exact ⟨0, by omega, rfl, tl_zero.symm⟩
  case round =>
    obtain ⟨n, hn, rfl, rfl⟩ := hrel
    by_cases hlt : n < xs.length
    · obtain ⟨ad, rfl, hc⟩ := tl_at H.out hlt
      obtain ⟨hg, hb, hg1, hb1⟩ := HX.out n hlt
      have e1 := sG_take hlt
      have e2 := sB_take hlt
      generalize sG (xs.take n) = a at *
      generalize sB (xs.take n) = b at *
      generalize xs.getD n (0, 0) = p at *
      obtain ⟨p, q⟩ := p
      have hadd := fun W => sum_fl W 29 hg hb
      have T := Aside0.mk (fun W => tally_fl p q W (by simp only at hg1; omega) (by simp only at hb1; omega))
      have K := Aside0.mk (fun W => cut_fl (a + p) (b + q) W hg1 hb1)
      have E1 := Aside0.mk e1
      have E2 := Aside0.mk e2
      clear hg hb hg1 hb1 e1 e2
      go_wp2_with (first
        | (go_at_call 30; refine (T.out _).mono ?_; rintro e w1 ⟨rfl, rfl⟩)
        | (go_at_call 29; refine (K.out _).mono ?_; rintro e w1 ⟨rfl, rfl⟩))
      go_round
      case rel => exact ⟨n + 1, by omega, by go_num, by rw [E1.out, E2.out]⟩
      case measure => simp [intOf]; omega
    · obtain rfl : n = xs.length := by omega
      rw [List.take_length]
      go_wp2
      go_ret
      exact ⟨rfl, rfl⟩
end Go.Proofs.Ytdpdjchblajbbaa.Hand
