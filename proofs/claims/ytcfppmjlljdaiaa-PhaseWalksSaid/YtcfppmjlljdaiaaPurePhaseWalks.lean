/- Where any events lead, one behind the other, and how many did anything, is what the document says, and is the same in two parts: for every phase, every list of events and every place of the cut, with no condition. -/
import Derived.Test.YtcfppmjlljdaiaaPrint4
import Derived.Test.YtcfppmjlljdaiaaPhaseL
namespace Go.Proofs.Ytcfppmjlljdaiaa.Pure
open Go.RowKit Go.Proofs.Ytcfppmjlljdaiaa.Print Go.Proofs.YtcfppmjlljdaiaaW.PrintWords Go.Proofs.YtcfppmjlljdaiaaW.PrintLast Go.Proofs.YtcfppmjlljdaiaaW.PrintMore PhaseL

/-- The phase behind events, and how many did anything, beginning at n. -/
def walkF (p n : Int) : List Int → Int × Int
  | [] => (p, n)
  | e :: l => walkF (nextF p e).1 (if (nextF p e).2 = true then n + 1 else n) l
theorem walkF_append (a : List Int) : ∀ (p n : Int) (b : List Int), walkF p n (a ++ b) = walkF (walkF p n a).1 (walkF p n a).2 b := by
  induction a with
  | nil => intro p n b; rfl
  | cons e a ih => intro p n b; simp only [List.cons_append, walkF]; exact ih _ _ _
theorem walkF_from (a : List Int) : ∀ (p n m : Int), walkF p (n + m) a = ((walkF p m a).1, n + (walkF p m a).2) := by
  induction a with
  | nil => intro p n m; rfl
  | cons e a ih =>
    intro p n m
    simp only [walkF]
    by_cases c : (nextF p e).2 = true
    · rw [if_pos c, if_pos c, Int.add_assoc, ih]
    · rw [if_neg c, if_neg c, ih]
theorem walkF_bd (a : List Int) : ∀ (p n : Int), n ≤ (walkF p n a).2 ∧ (walkF p n a).2 ≤ n + a.length := by
  induction a with
  | nil => intro p n; simp [walkF]
  | cons e a ih =>
    intro p n
    simp only [walkF, List.length_cons]
    by_cases c : (nextF p e).2 = true
    · rw [if_pos c]
      have := ih (nextF p e).1 (n + 1)
      omega
    · rw [if_neg c]
      have := ih (nextF p e).1 n
      omega
theorem wrap_n {i : Int} (h0 : 0 ≤ i) (h1 : i ≤ 1000) : wrap64 (i + 1) = i + 1 := by
  unfold wrap64
  omega
theorem drop_rd {l : List Int} {i : Int} (h0 : 0 ≤ i) (h1 : i < l.length) : l.drop i.toNat = rd l i :: l.drop (i + 1).toNat := by
  have e : (i + 1).toNat = i.toNat + 1 := by omega
  rw [List.drop_eq_getElem_cons (by omega), e]
  unfold rd
  rw [List.getD_eq_getElem?_getD, List.getElem?_eq_getElem (by omega)]
  rfl

theorem walk_eq (l : List Int) (hl : l.length ≤ 500) (d : Nat) : ∀ (k : Nat) (p n i : Int), 0 ≤ i → 0 ≤ n → n ≤ i → i + d = l.length → d + 1 < k →
    phase_Walk.l0 k p n l (l.length : Int) i = some (walkF p n (l.drop i.toNat)) := by
  induction d with
  | zero =>
    intro k p n i h0 hn hni h1 hk
    obtain ⟨k, rfl⟩ : ∃ m, k = m + 1 := ⟨k - 1, by omega⟩
    rw [phase_Walk.l0, if_neg (by omega), List.drop_of_length_le (by omega)]
    rfl
  | succ d ih =>
    intro k p n i h0 hn hni h1 hk
    obtain ⟨k, rfl⟩ : ∃ m, k = m + 2 := ⟨k - 2, by omega⟩
    rw [phase_Walk.l0, if_pos (by omega), if_pos h0, if_pos (by omega), next_eq k, drop_rd h0 (by omega)]
    simp only [Option.bind_some, walkF]
    rw [wrap_n h0 (by omega), wrap_n hn (by omega)]
    by_cases c : (nextF p (rd l i)).2 = true
    · rw [if_pos c, if_pos c]
      exact ih (k + 1) _ _ (i + 1) (by omega) (by omega) (by omega) (by omega) (by omega)
    · rw [if_neg c, if_neg c]
      exact ih (k + 1) _ _ (i + 1) (by omega) (by omega) (by omega) (by omega) (by omega)
theorem refwalk_eq (l : List Int) (hl : l.length ≤ 500) (d : Nat) : ∀ (k : Nat) (p n i : Int), 0 ≤ i → 0 ≤ n → n ≤ i → i + d = l.length → d + 1 < k →
    pacesetterref11_Walk.l0 k p l n i = some (walkF p n (l.drop i.toNat)) := by
  induction d with
  | zero =>
    intro k p n i h0 hn hni h1 hk
    obtain ⟨k, rfl⟩ : ∃ m, k = m + 1 := ⟨k - 1, by omega⟩
    rw [pacesetterref11_Walk.l0, if_neg (by omega), List.drop_of_length_le (by omega)]
    rfl
  | succ d ih =>
    intro k p n i h0 hn hni h1 hk
    obtain ⟨k, rfl⟩ : ∃ m, k = m + 2 := ⟨k - 2, by omega⟩
    rw [pacesetterref11_Walk.l0, if_pos (by omega), if_pos h0, refnext_eq k, drop_rd h0 (by omega)]
    simp only [Option.bind_some, walkF]
    rw [wrap_n h0 (by omega), wrap_n hn (by omega)]
    by_cases c : (nextF p (rd l i)).2 = true
    · rw [if_pos c, if_pos c]
      exact ih (k + 1) _ _ (i + 1) (by omega) (by omega) (by omega) (by omega) (by omega)
    · rw [if_neg c, if_neg c]
      exact ih (k + 1) _ _ (i + 1) (by omega) (by omega) (by omega) (by omega) (by omega)
theorem walk_f (l : List Int) (hl : l.length ≤ 500) (k : Nat) (hk : 502 < k) (p : Int) : phase_Walk.f k p l = some (walkF p 0 l) := by
  unfold phase_Walk.f
  rw [walk_eq l hl l.length k p 0 0 (by omega) (by omega) (by omega) (by omega) (by omega)]
  rfl
theorem refwalk_f (l : List Int) (hl : l.length ≤ 500) (k : Nat) (hk : 502 < k) (p : Int) : pacesetterref11_Walk.f k p l = some (walkF p 0 l) := by
  unfold pacesetterref11_Walk.f
  rw [refwalk_eq l hl l.length k p 0 0 (by omega) (by omega) (by omega) (by omega) (by omega)]
  rfl
/-- The cut's place: in the list. -/
theorem at_bd (a : Int) {n : Nat} (hn : n ≤ 500) : IntKind.u64.wrap (wrap64 ((n : Int) + 1)) = (n : Int) + 1 ∧ 0 ≤ wrap64 (Int.tmod (IntKind.u64.wrap a) ((n : Int) + 1)) ∧ wrap64 (Int.tmod (IntKind.u64.wrap a) ((n : Int) + 1)) ≤ n := by
  have e : IntKind.u64.wrap (wrap64 ((n : Int) + 1)) = (n : Int) + 1 := by
    rw [IntKind.wrap_u64]
    unfold wrap64
    omega
  have h0 : 0 ≤ IntKind.u64.wrap a := by rw [IntKind.wrap_u64]; omega
  have h1 : Int.tmod (IntKind.u64.wrap a) ((n : Int) + 1) = IntKind.u64.wrap a % ((n : Int) + 1) := Int.tmod_eq_emod_of_nonneg h0
  have h2 : 0 ≤ IntKind.u64.wrap a % ((n : Int) + 1) := Int.emod_nonneg _ (by omega)
  have h3 : IntKind.u64.wrap a % ((n : Int) + 1) < (n : Int) + 1 := Int.emod_lt_of_pos _ (by omega)
  refine ⟨e, ?_, ?_⟩
  · rw [h1]; unfold wrap64; omega
  · rw [h1]; unfold wrap64; omega

theorem PhaseWalks : pacesetterlaw11_PhaseWalks.Pure := by
  intro p l a _ _ _ _ _
  refine ⟨600, ?_⟩
  unfold pacesetterlaw11_PhaseWalks.f
  rw [lives_ge 600 (by omega)]
  simp only [Option.bind_some, if_true]
  have hm : 0 ≤ mn (l.length : Int) 60 ∧ mn (l.length : Int) 60 ≤ l.length ∧ mn (l.length : Int) 60 ≤ 60 := by unfold mn; split <;> omega
  obtain ⟨hm0, hm1, hm2⟩ := hm
  rw [if_pos hm0, if_pos hm1]
  have hlen : (l.take (mn (l.length : Int) 60).toNat).length ≤ 60 := by rw [List.length_take]; omega
  generalize l.take (mn (l.length : Int) 60).toNat = t at hlen ⊢
  obtain ⟨e1, b0, b1⟩ := at_bd a (n := t.length) (by omega)
  rw [e1, walk_f t (by omega) 600 (by omega), refwalk_f t (by omega) 600 (by omega)]
  simp only [Option.bind_some]
  rw [if_neg (by omega), if_pos b0, if_pos b1]
  generalize wrap64 (Int.tmod (IntKind.u64.wrap a) ((t.length : Int) + 1)) = c at b0 b1 ⊢
  rw [walk_f (t.take c.toNat) (by rw [List.length_take]; omega) 600 (by omega)]
  simp only [Option.bind_some]
  rw [walk_f (t.drop c.toNat) (by rw [List.length_drop]; omega) 600 (by omega)]
  simp only [Option.bind_some]
  have hs : walkF p 0 t = walkF (walkF p 0 (t.take c.toNat)).1 (walkF p 0 (t.take c.toNat)).2 (t.drop c.toNat) := by
    rw [← walkF_append, List.take_append_drop]
  have hf := walkF_from (t.drop c.toNat) (walkF p 0 (t.take c.toNat)).1 (walkF p 0 (t.take c.toNat)).2 0
  rw [Int.add_zero] at hf
  have h1 := walkF_bd (t.take c.toNat) p 0
  have h2 := walkF_bd (t.drop c.toNat) (walkF p 0 (t.take c.toNat)).1 0
  rw [hs, hf]
  have hw : wrap64 ((walkF p 0 (t.take c.toNat)).2 + (walkF (walkF p 0 (t.take c.toNat)).1 0 (t.drop c.toNat)).2) = (walkF p 0 (t.take c.toNat)).2 + (walkF (walkF p 0 (t.take c.toNat)).1 0 (t.drop c.toNat)).2 := by
    rw [List.length_take] at h1
    rw [List.length_drop] at h2
    unfold wrap64
    omega
  rw [hw]
  simp
end Go.Proofs.Ytcfppmjlljdaiaa.Pure
