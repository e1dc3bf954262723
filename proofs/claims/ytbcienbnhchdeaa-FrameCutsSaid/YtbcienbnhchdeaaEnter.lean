/- The dump's head: a list of words; only the first three are looked at. -/
import Derived.Test.YtbcienbnhchdeaaRows
import Derived.WalkKit
import Derived.JoinedOf
namespace Go.Proofs.Ytbcienbnhchdeaa.Enter
def restL : List Char := ['a', 't', ' ', 'p', 'a', 'c', 'e', 's', 'e', 't', 't', 'e', 'r', '/', 'p', 'a', 'c', 'e', 's', 'e', 't', 't', 'e', 'r', 'l', 'a', 'w', '0', '1', '.', 'C', 'r', 'c', 'J', 'o', 'i', 'n', 's', ' ', 'p', 'a', 'c', 'e', 's', 'e', 't', 't', 'e', 'r', '/', 'p', 'a', 'c', 'e', 's', 'e', 't', 't', 'e', 'r', 'l', 'a', 'w', '0', '1', '.', 'C', 'r', 'c', 'S', 'u', 'm', 's', ' ', 'p', 'a', 'c', 'e', 's', 'e', 't', 't', 'e', 'r', '/', 'p', 'a', 'c', 'e', 's', 'e', 't', 't', 'e', 'r', 'l', 'a', 'w', '0', '1', '.', 'C', 'r', 'c', 'B', 'y', 't', 'e', 's', ' ', 'p', 'a', 'c', 'e', 's', 'e', 't', 't', 'e', 'r', '/', 'p', 'a', 'c', 'e', 's', 'e', 't', 't', 'e', 'r', 'l', 'a', 'w', '0', '5', '.', 'D', 'i', 's', 'k', 'K', 'e', 'e', 'p', 's', ' ', 'p', 'a', 'c', 'e', 's', 'e', 't', 't', 'e', 'r', '/', 'p', 'a', 'c', 'e', 's', 'e', 't', 't', 'e', 'r', 'l', 'a', 'w', '0', '5', '.', 'D', 'i', 's', 'k', 'S', 'a', 'f', 'e', ' ', 'p', 'a', 'c', 'e', 's', 'e', 't', 't', 'e', 'r', '/', 'p', 'a', 'c', 'e', 's', 'e', 't', 't', 'e', 'r', 'l', 'a', 'w', '0', '1', '.', 'C', 'r', 'c', 'R', 'e', 'a', 'd', 's', ' ', 'p', 'a', 'c', 'e', 's', 'e', 't', 't', 'e', 'r', '/', 'p', 'a', 'c', 'e', 's', 'e', 't', 't', 'e', 'r', 'l', 'a', 'w', '0', '1', '.', 'C', 'r', 'c', 'T', 'u', 'r', 'n', 's', ' ', 'p', 'a', 'c', 'e', 's', 'e', 't', 't', 'e', 'r', '/', 'p', 'a', 'c', 'e', 's', 'e', 't', 't', 'e', 'r', 'l', 'a', 'w', '0', '1', '.', 'C', 'r', 'c', 'S', 'w', 'a', 'p', 's', ' ', 'p', 'a', 'c', 'e', 's', 'e', 't', 't', 'e', 'r', '/', 'p', 'a', 'c', 'e', 's', 'e', 't', 't', 'e', 'r', 'l', 'a', 'w', '0', '5', '.', 'D', 'i', 's', 'k', 'O', 'w', 'n', 's', ' ', 'p', 'a', 'c', 'e', 's', 'e', 't', 't', 'e', 'r', '/', 'p', 'a', 'c', 'e', 's', 'e', 't', 't', 'e', 'r', 'l', 'a', 'w', '0', '5', '.', 'D', 'i', 's', 'k', 'P', 'l', 'a', 'y', 's', ' ', 'p', 'a', 'c', 'e', 's', 'e', 't', 't', 'e', 'r', '/', 'p', 'a', 'c', 'e', 's', 'e', 't', 't', 'e', 'r', 'l', 'a', 'w', '0', '5', '.', 'D', 'i', 's', 'k', 'R', 'o', 'o', 'm', ' ', 'p', 'a', 'c', 'e', 's', 'e', 't', 't', 'e', 'r', '/', 'p', 'a', 'c', 'e', 's', 'e', 't', 't', 'e', 'r', 'l', 'a', 'w', '0', '5', '.', 'D', 'i', 's', 'k', 'N', 'i', 'l', ' ', 'p', 'a', 'c', 'e', 's', 'e', 't', 't', 'e', 'r', '/', 'p', 'a', 'c', 'e', 's', 'e', 't', 't', 'e', 'r', 'l', 'a', 'w', '0', '4', '.', 'F', 'r', 'a', 'm', 'e', 'P', 'u', 't', 's', ' ', 'p', 'a', 'c', 'e', 's', 'e', 't', 't', 'e', 'r', '/', 'p', 'a', 'c', 'e', 's', 'e', 't', 't', 'e', 'r', 'l', 'a', 'w', '0', '4', '.', 'F', 'r', 'a', 'm', 'e', 'B', 'a', 'c', 'k', ' ', 'p', 'a', 'c', 'e', 's', 'e', 't', 't', 'e', 'r', '/', 'p', 'a', 'c', 'e', 's', 'e', 't', 't', 'e', 'r', 'l', 'a', 'w', '0', '4', '.', 'F', 'r', 'a', 'm', 'e', 'C', 'u', 't', 's', ' ', 'p', 'a', 'c', 'e', 's', 'e', 't', 't', 'e', 'r', '/', 'p', 'a', 'c', 'e', 's', 'e', 't', 't', 'e', 'r', 'l', 'a', 'w', '0', '4', '.', 'F', 'r', 'a', 'm', 'e', 'J', 'o', 'i', 'n', 's', ' ', 'p', 'a', 'c', 'e', 's', 'e', 't', 't', 'e', 'r', '/', 'p', 'a', 'c', 'e', 's', 'e', 't', 't', 'e', 'r', 'l', 'a', 'w', '0', '4', '.', 'F', 'r', 'a', 'm', 'e', 'G', 'e', 't', 's', ' ', 'p', 'a', 'c', 'e', 's', 'e', 't', 't', 'e', 'r', '/', 'p', 'a', 'c', 'e', 's', 'e', 't', 't', 'e', 'r', 'l', 'a', 'w', '0', '4', '.', 'F', 'r', 'a', 'm', 'e', 'T', 'o', 'r', 'n', ' ', 'p', 'a', 'c', 'e', 's', 'e', 't', 't', 'e', 'r', '/', 'p', 'a', 'c', 'e', 's', 'e', 't', 't', 'e', 'r', 'l', 'a', 'w', '0', '6', '.', 'J', 'o', 'u', 'r', 'n', 'a', 'l', 'C', 'r', 'a', 's', 'h', ' ', 'p', 'a', 'c', 'e', 's', 'e', 't', 't', 'e', 'r', '/', 'p', 'a', 'c', 'e', 's', 'e', 't', 't', 'e', 'r', 'l', 'a', 'w', '0', '6', '.', 'J', 'o', 'u', 'r', 'n', 'a', 'l', 'O', 'p', 'e', 'n', 's', ' ', 'p', 'a', 'c', 'e', 's', 'e', 't', 't', 'e', 'r', '/', 'p', 'a', 'c', 'e', 's', 'e', 't', 't', 'e', 'r', 'l', 'a', 'w', '0', '6', '.', 'J', 'o', 'u', 'r', 'n', 'a', 'l', 'T', 'o', 'r', 'n', ' ', 'p', 'a', 'c', 'e', 's', 'e', 't', 't', 'e', 'r', '/', 'p', 'a', 'c', 'e', 's', 'e', 't', 't', 'e', 'r', 'l', 'a', 'w', '0', '6', '.', 'J', 'o', 'u', 'r', 'n', 'a', 'l', 'S', 'w', 'a', 'p', 's', ' ', 'p', 'a', 'c', 'e', 's', 'e', 't', 't', 'e', 'r', '/', 'p', 'a', 'c', 'e', 's', 'e', 't', 't', 'e', 'r', 'l', 'a', 'w', '0', '6', '.', 'J', 'o', 'u', 'r', 'n', 'a', 'l', 'P', 'l', 'a', 'y', 's', ' ', 'p', 'a', 'c', 'e', 's', 'e', 't', 't', 'e', 'r', '/', 'p', 'a', 'c', 'e', 's', 'e', 't', 't', 'e', 'r', 'l', 'a', 'w', '0', '6', '.', 'J', 'o', 'u', 'r', 'n', 'a', 'l', 'N', 'i', 'l']
def sumL : List Char := ['7', '3', '0', '5', '7', '8', 'f', 'a', '5', '1', 'e', 'b', '6', '3', '2', 'a', '4', 'b', 'f', 'c', '9', '7', '3', 'a', '9', 'b', 'd', '8', 'd', 'b', '1', '3', '7', 'b', 'e', 'c', '9', '0', 'f', '5', 'f', '1', '5', 'a', 'd', '1', '9', '6', '9', 'b', '8', 'f', '5', '8', 'a', '8', '0', '4', '6', '3', '8', 'f', '8', 'e']
theorem order : Try.prog.initOrder = String.ofList (['h', 'a', 'r', 'n', 'e', 's', 's'] ++ ' ' :: (sumL ++ ' ' :: (['c', 'u', 't'] ++ ' ' :: restL))) := by kernel_rfl
theorem word : ∀ (a r : List Char), a.all (· != ' ') = true → wordsSigns (a ++ ' ' :: r) = a :: wordsSigns r
  | [], r, _ => rfl
  | c :: a, r, h => by
    simp only [List.all_cons, Bool.and_eq_true, bne_iff_ne, ne_eq] at h
    have ih := word a r h.2
    rw [List.cons_append, wordsSigns, ih]
    intro hc
    exact absurd hc h.1
theorem words : ∃ R, wordsSigns Try.prog.initOrder.toList = ['h', 'a', 'r', 'n', 'e', 's', 's'] :: sumL :: ['c', 'u', 't'] :: R := by
  refine ⟨wordsSigns restL, ?_⟩
  rw [order, String.toList_ofList, word _ _ (by decide +kernel), word _ _ (by decide +kernel), word _ _ (by decide +kernel)]
theorem behind : ∃ R, behindMainWord (wordsSigns Try.prog.initOrder.toList) = ['c', 'u', 't'] :: R := by
  obtain ⟨R, h⟩ := words
  refine ⟨R, ?_⟩
  rw [h]
  kernel_rfl
theorem head_of {P : Program} {R : List (List Char)} (h : behindMainWord (wordsSigns P.initOrder.toList) = ['c', 'u', 't'] :: R) : P.headLifts = [] := by
  unfold Program.headLifts
  rw [h]
  rfl
theorem enter_of {P : Program} {R : List (List Char)} (h : behindMainWord (wordsSigns P.initOrder.toList) = ['c', 'u', 't'] :: R) (h1 : P.laysLater = false) (h2 : P.bearsReflect = false) (h3 : P.doorFits [] = true) : P.mayEnter = true := by
  unfold Program.mayEnter
  rw [h, h1, h2]
  have e : (stripLifts liftWords (['c', 'u', 't'] :: R)) = ([], ['c', 'u', 't'] :: R) := rfl
  simp only [e, h3]
  rfl
theorem lifts_of {P : Program} {R : List (List Char)} (h : behindMainWord (wordsSigns P.initOrder.toList) = ['c', 'u', 't'] :: R) : P.liftsFinal = false := by
  unfold Program.liftsFinal
  rw [h, head_of h]
  rfl
theorem mk_of {P : Program} {R : List (List Char)} (h : behindMainWord (wordsSigns P.initOrder.toList) = ['c', 'u', 't'] :: R) : P.make = some .cut := by
  unfold Program.make
  rw [h]
  rfl
theorem enter : Try.prog.mayEnter = true := by
  obtain ⟨R, h⟩ := behind
  exact enter_of h (by kernel_rfl) (by kernel_rfl) (by kernel_rfl)
theorem lifts : Try.prog.liftsFinal = false := by
  obtain ⟨R, h⟩ := behind
  exact lifts_of h
theorem mk : Try.prog.make = some .cut := by
  obtain ⟨R, h⟩ := behind
  exact mk_of h
theorem enterP : Try.pinned.checked.prog.mayEnter = true := enter
theorem liftsP : Try.pinned.checked.prog.liftsFinal = false := lifts
theorem mkP : Try.pinned.checked.prog.make = some .cut := mk
end Go.Proofs.Ytbcienbnhchdeaa.Enter
