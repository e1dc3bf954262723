/- A row of rows of bytes that came in, opened. -/
import Derived.Test.YtbcienbnhchdeaaHandC
import Derived.Deep.Matrix
namespace Go.Proofs.Ytbcienbnhchdeaa.Hand
open Go Go.RowKit Go.Deep Go.Proofs.YtbcienbnhchdeaaW.PrintWords
theorem open_rows {H : Type} {enc : TypeId × Value → H} {w : World} {base : Nat} {held : Bool} {fuel : Nat} {a : Option Addr} {len cap : Nat} {x : DataW H × List MemPlace}
    (h : DataW.trod enc Try.prog w base (fun _ => true) held fuel 65 (Value.slice a len cap).cells.toList = some x) :
    ∃ zs : List (List Int), zs.length = len ∧ len ≤ cap ∧ Kd.C (Kd.slice 5 (Kd.int .u8)) w a len zs ∧ ∀ z ∈ zs, okB z = true := by
  rcases open_int_rows Try.underlying65 Try.underlying22 Try.underlying5 (by kernel_rfl) (by kernel_rfl) h with ⟨hcs, _⟩ | ⟨ad, l, c, A, L, C, Z, hcs, _, hl, hm, _, hr⟩
  · simp [Value.cells] at hcs
    obtain ⟨rfl, rfl, rfl⟩ := hcs
    exact ⟨[], rfl, Nat.le_refl _, Kd.C_nil _ _, by simp⟩
  · simp [Value.cells] at hcs
    obtain ⟨rfl, rfl, rfl⟩ := hcs
    have hml : maxLen ≤ 9223372036854775807 := by decide
    refine ⟨(List.range len).map fun r => (Z r).take (L r), by simp, hl, ?_, ?_⟩
    · refine ⟨by simp, by omega, fun _ => ⟨ad, rfl, ?_⟩⟩
      intro j p hj
      have hjl : j < len := by
        have := (List.getElem?_eq_some_iff.1 hj).1
        simpa using this
      have hp : (Z j).take (L j) = p := by
        rw [List.getElem?_map, List.getElem?_range hjl] at hj
        simpa using hj
      subst hp
      obtain ⟨h1, h2, h3, h4, h5, h6, h7⟩ := hr j (by omega)
      have hlen : ((Z j).take (L j)).length = L j := by rw [List.length_take]; omega
      refine ⟨[.slice (A j) (L j) (C j)], rfl, ⟨A j, C j, by rw [hlen], by omega, ?_⟩, ?_⟩
      · refine ⟨rfl, by omega, ?_⟩
        intro h0
        rw [hlen] at h0
        cases hA : A j with
        | none => have := h6 hA; omega
        | some a' =>
          refine ⟨a', rfl, ?_⟩
          intro i q hi
          have hil : i < ((Z j).take (L j)).length := (List.getElem?_eq_some_iff.1 hi).1
          rw [hlen] at hil
          refine ⟨[.int .u8 q], rfl, rfl, ?_⟩
          intro i' u hu
          have hi' : i' = 0 := by
            have := (List.getElem?_eq_some_iff.1 hu).1
            simpa using this
          subst hi'
          have hu' : u = .int .u8 q := by simpa using hu.symm
          subst hu'
          have h8 := (h7 a' hA).2 i (by omega)
          have hq : (Z j).getD i 0 = q := by
            rw [List.getElem?_take_of_lt hil] at hi
            rw [List.getD_eq_getElem?_getD, hi]
            rfl
          rw [hq] at h8
          have e : i * (Kd.int .u8).sz + 0 = i := by show i * 1 + 0 = i; omega
          rw [e]
          exact h8
      · intro i' u hu
        have hi' : i' = 0 := by
          have := (List.getElem?_eq_some_iff.1 hu).1
          simpa using this
        subst hi'
        have hu' : u = .slice (A j) (L j) (C j) := by simpa using hu.symm
        subst hu'
        have e : j * (Kd.slice 5 (Kd.int .u8)).sz + 0 = j := by show j * 1 + 0 = j; omega
        rw [e]
        exact h1
    · intro z hz
      obtain ⟨r, hr', rfl⟩ := List.mem_map.1 hz
      obtain ⟨_, _, _, _, h5, _, _⟩ := hr r (by have := List.mem_range.1 hr'; omega)
      unfold okB
      rw [List.all_eq_true]
      intro n hn
      have h1 := h5 n (List.mem_of_mem_take hn)
      simp only [Lit.wf, Bool.and_eq_true, decide_eq_true_eq] at h1
      have e1 : IntKind.u8.min = 0 := by decide
      have e2 : IntKind.u8.max = 255 := by decide
      simp
      omega
end Go.Proofs.Ytbcienbnhchdeaa.Hand
