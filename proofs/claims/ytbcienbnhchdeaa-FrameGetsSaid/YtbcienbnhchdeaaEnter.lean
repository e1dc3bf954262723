/- The dump's head: a list of words; only the first three are looked at. -/
import Derived.Test.YtbcienbnhchdeaaRows
import Derived.WalkKit
import Derived.JoinedOf
namespace Go.Proofs.Ytbcienbnhchdeaa.Enter
def restL : List Char := [97, 116, 32, 112, 97, 99, 101, 115, 101, 116, 116, 101, 114, 47, 112, 97, 99, 101, 115, 101, 116, 116, 101, 114, 108, 97, 119, 48, 49, 46, 67, 114, 99, 74, 111, 105, 110, 115, 32, 112, 97, 99, 101, 115, 101, 116, 116, 101, 114, 47, 112, 97, 99, 101, 115, 101, 116, 116, 101, 114, 108, 97, 119, 48, 49, 46, 67, 114, 99, 83, 117, 109, 115, 32, 112, 97, 99, 101, 115, 101, 116, 116, 101, 114, 47, 112, 97, 99, 101, 115, 101, 116, 116, 101, 114, 108, 97, 119, 48, 49, 46, 67, 114, 99, 66, 121, 116, 101, 115, 32, 112, 97, 99, 101, 115, 101, 116, 116, 101, 114, 47, 112, 97, 99, 101, 115, 101, 116, 116, 101, 114, 108, 97, 119, 48, 53, 46, 68, 105, 115, 107, 75, 101, 101, 112, 115, 32, 112, 97, 99, 101, 115, 101, 116, 116, 101, 114, 47, 112, 97, 99, 101, 115, 101, 116, 116, 101, 114, 108, 97, 119, 48, 53, 46, 68, 105, 115, 107, 83, 97, 102, 101, 32, 112, 97, 99, 101, 115, 101, 116, 116, 101, 114, 47, 112, 97, 99, 101, 115, 101, 116, 116, 101, 114, 108, 97, 119, 48, 49, 46, 67, 114, 99, 82, 101, 97, 100, 115, 32, 112, 97, 99, 101, 115, 101, 116, 116, 101, 114, 47, 112, 97, 99, 101, 115, 101, 116, 116, 101, 114, 108, 97, 119, 48, 49, 46, 67, 114, 99, 84, 117, 114, 110, 115, 32, 112, 97, 99, 101, 115, 101, 116, 116, 101, 114, 47, 112, 97, 99, 101, 115, 101, 116, 116, 101, 114, 108, 97, 119, 48, 49, 46, 67, 114, 99, 83, 119, 97, 112, 115, 32, 112, 97, 99, 101, 115, 101, 116, 116, 101, 114, 47, 112, 97, 99, 101, 115, 101, 116, 116, 101, 114, 108, 97, 119, 48, 53, 46, 68, 105, 115, 107, 79, 119, 110, 115, 32, 112, 97, 99, 101, 115, 101, 116, 116, 101, 114, 47, 112, 97, 99, 101, 115, 101, 116, 116, 101, 114, 108, 97, 119, 48, 53, 46, 68, 105, 115, 107, 80, 108, 97, 121, 115, 32, 112, 97, 99, 101, 115, 101, 116, 116, 101, 114, 47, 112, 97, 99, 101, 115, 101, 116, 116, 101, 114, 108, 97, 119, 48, 53, 46, 68, 105, 115, 107, 82, 111, 111, 109, 32, 112, 97, 99, 101, 115, 101, 116, 116, 101, 114, 47, 112, 97, 99, 101, 115, 101, 116, 116, 101, 114, 108, 97, 119, 48, 53, 46, 68, 105, 115, 107, 78, 105, 108, 32, 112, 97, 99, 101, 115, 101, 116, 116, 101, 114, 47, 112, 97, 99, 101, 115, 101, 116, 116, 101, 114, 108, 97, 119, 48, 52, 46, 70, 114, 97, 109, 101, 80, 117, 116, 115, 32, 112, 97, 99, 101, 115, 101, 116, 116, 101, 114, 47, 112, 97, 99, 101, 115, 101, 116, 116, 101, 114, 108, 97, 119, 48, 52, 46, 70, 114, 97, 109, 101, 66, 97, 99, 107, 32, 112, 97, 99, 101, 115, 101, 116, 116, 101, 114, 47, 112, 97, 99, 101, 115, 101, 116, 116, 101, 114, 108, 97, 119, 48, 52, 46, 70, 114, 97, 109, 101, 67, 117, 116, 115, 32, 112, 97, 99, 101, 115, 101, 116, 116, 101, 114, 47, 112, 97, 99, 101, 115, 101, 116, 116, 101, 114, 108, 97, 119, 48, 52, 46, 70, 114, 97, 109, 101, 74, 111, 105, 110, 115, 32, 112, 97, 99, 101, 115, 101, 116, 116, 101, 114, 47, 112, 97, 99, 101, 115, 101, 116, 116, 101, 114, 108, 97, 119, 48, 52, 46, 70, 114, 97, 109, 101, 71, 101, 116, 115, 32, 112, 97, 99, 101, 115, 101, 116, 116, 101, 114, 47, 112, 97, 99, 101, 115, 101, 116, 116, 101, 114, 108, 97, 119, 48, 52, 46, 70, 114, 97, 109, 101, 84, 111, 114, 110, 32, 112, 97, 99, 101, 115, 101, 116, 116, 101, 114, 47, 112, 97, 99, 101, 115, 101, 116, 116, 101, 114, 108, 97, 119, 48, 54, 46, 74, 111, 117, 114, 110, 97, 108, 67, 114, 97, 115, 104, 32, 112, 97, 99, 101, 115, 101, 116, 116, 101, 114, 47, 112, 97, 99, 101, 115, 101, 116, 116, 101, 114, 108, 97, 119, 48, 54, 46, 74, 111, 117, 114, 110, 97, 108, 79, 112, 101, 110, 115, 32, 112, 97, 99, 101, 115, 101, 116, 116, 101, 114, 47, 112, 97, 99, 101, 115, 101, 116, 116, 101, 114, 108, 97, 119, 48, 54, 46, 74, 111, 117, 114, 110, 97, 108, 84, 111, 114, 110, 32, 112, 97, 99, 101, 115, 101, 116, 116, 101, 114, 47, 112, 97, 99, 101, 115, 101, 116, 116, 101, 114, 108, 97, 119, 48, 54, 46, 74, 111, 117, 114, 110, 97, 108, 83, 119, 97, 112, 115, 32, 112, 97, 99, 101, 115, 101, 116, 116, 101, 114, 47, 112, 97, 99, 101, 115, 101, 116, 116, 101, 114, 108, 97, 119, 48, 54, 46, 74, 111, 117, 114, 110, 97, 108, 80, 108, 97, 121, 115, 32, 112, 97, 99, 101, 115, 101, 116, 116, 101, 114, 47, 112, 97, 99, 101, 115, 101, 116, 116, 101, 114, 108, 97, 119, 48, 54, 46, 74, 111, 117, 114, 110, 97, 108, 78, 105, 108].map Char.ofNat
def sumL : List Char := [55, 51, 48, 53, 55, 56, 102, 97, 53, 49, 101, 98, 54, 51, 50, 97, 52, 98, 102, 99, 57, 55, 51, 97, 57, 98, 100, 56, 100, 98, 49, 51, 55, 98, 101, 99, 57, 48, 102, 53, 102, 49, 53, 97, 100, 49, 57, 54, 57, 98, 56, 102, 53, 56, 97, 56, 48, 52, 54, 51, 56, 102, 56, 101].map Char.ofNat
theorem order : Try.prog.initOrder = String.ofList ([Char.ofNat 104, Char.ofNat 97, Char.ofNat 114, Char.ofNat 110, Char.ofNat 101, Char.ofNat 115, Char.ofNat 115] ++ Char.ofNat 32 :: (sumL ++ Char.ofNat 32 :: ([Char.ofNat 99, Char.ofNat 117, Char.ofNat 116] ++ Char.ofNat 32 :: restL))) := by kernel_rfl
theorem word : ∀ (a r : List Char), a.all (· != Char.ofNat 32) = true → wordsSigns (a ++ Char.ofNat 32 :: r) = a :: wordsSigns r
  | [], r, _ => rfl
  | c :: a, r, h => by
    simp only [List.all_cons, Bool.and_eq_true, bne_iff_ne, ne_eq] at h
    have ih := word a r h.2
    rw [List.cons_append, wordsSigns, ih]
    intro hc
    exact absurd hc h.1
theorem words : ∃ R, wordsSigns Try.prog.initOrder.toList = [Char.ofNat 104, Char.ofNat 97, Char.ofNat 114, Char.ofNat 110, Char.ofNat 101, Char.ofNat 115, Char.ofNat 115] :: sumL :: [Char.ofNat 99, Char.ofNat 117, Char.ofNat 116] :: R := by
  refine ⟨wordsSigns restL, ?_⟩
  rw [order, String.toList_ofList, word _ _ (by decide +kernel), word _ _ (by decide +kernel), word _ _ (by decide +kernel)]
theorem behind : ∃ R, behindMainWord (wordsSigns Try.prog.initOrder.toList) = [Char.ofNat 99, Char.ofNat 117, Char.ofNat 116] :: R := by
  obtain ⟨R, h⟩ := words
  refine ⟨R, ?_⟩
  rw [h]
  kernel_rfl
theorem head_of {P : Program} {R : List (List Char)} (h : behindMainWord (wordsSigns P.initOrder.toList) = [Char.ofNat 99, Char.ofNat 117, Char.ofNat 116] :: R) : P.headLifts = [] := by
  unfold Program.headLifts
  rw [h]
  rfl
theorem enter_of {P : Program} {R : List (List Char)} (h : behindMainWord (wordsSigns P.initOrder.toList) = [Char.ofNat 99, Char.ofNat 117, Char.ofNat 116] :: R) (h1 : P.laysLater = false) (h2 : P.bearsReflect = false) (h3 : P.doorFits [] = true) : P.mayEnter = true := by
  unfold Program.mayEnter
  rw [h, h1, h2]
  have e : (stripLifts liftWords ([Char.ofNat 99, Char.ofNat 117, Char.ofNat 116] :: R)) = ([], [Char.ofNat 99, Char.ofNat 117, Char.ofNat 116] :: R) := rfl
  simp only [e, h3]
  rfl
theorem lifts_of {P : Program} {R : List (List Char)} (h : behindMainWord (wordsSigns P.initOrder.toList) = [Char.ofNat 99, Char.ofNat 117, Char.ofNat 116] :: R) : P.liftsFinal = false := by
  unfold Program.liftsFinal
  rw [h, head_of h]
  rfl
theorem mk_of {P : Program} {R : List (List Char)} (h : behindMainWord (wordsSigns P.initOrder.toList) = [Char.ofNat 99, Char.ofNat 117, Char.ofNat 116] :: R) : P.make = some .cut := by
  unfold Program.make
  rw [h]
  rfl
theorem enter : Try.prog.mayEnter = true := by
  obtain ⟨R, h⟩ := behind
  exact enter_of h (by kernel_rfl) (by kernel_rfl) (by kernel_rfl)
theorem lifts : Try.prog.liftsFinal = false := by
  obtain ⟨R, h⟩ := behind
  exact lifts_of h
theorem mk : Try.prog.make = some .cut := by
  obtain ⟨R, h⟩ := behind
  exact mk_of h
theorem enterP : Try.pinned.checked.prog.mayEnter = true := enter
theorem liftsP : Try.pinned.checked.prog.liftsFinal = false := lifts
theorem mkP : Try.pinned.checked.prog.make = some .cut := mk
end Go.Proofs.Ytbcienbnhchdeaa.Enter
