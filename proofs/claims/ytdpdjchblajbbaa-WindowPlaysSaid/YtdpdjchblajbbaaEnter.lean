/- The dump's head: a list of words; only the first three are looked at. -/
import Derived.Test.YtdpdjchblajbbaaRows
import Derived.WalkKit
import Derived.JoinedOf
namespace Go.Proofs.Ytdpdjchblajbbaa.Enter
def restL : List Char := [97, 116, 32, 112, 97, 99, 101, 115, 101, 116, 116, 101, 114, 47, 112, 97, 99, 101, 115, 101, 116, 116, 101, 114, 108, 97, 119, 49, 55, 46, 87, 105, 110, 100, 111, 119, 83, 116, 97, 121, 115, 32, 112, 97, 99, 101, 115, 101, 116, 116, 101, 114, 47, 112, 97, 99, 101, 115, 101, 116, 116, 101, 114, 108, 97, 119, 49, 55, 46, 87, 105, 110, 100, 111, 119, 77, 101, 114, 103, 101, 115, 32, 112, 97, 99, 101, 115, 101, 116, 116, 101, 114, 47, 112, 97, 99, 101, 115, 101, 116, 116, 101, 114, 108, 97, 119, 49, 55, 46, 87, 105, 110, 100, 111, 119, 83, 117, 109, 115, 32, 112, 97, 99, 101, 115, 101, 116, 116, 101, 114, 47, 112, 97, 99, 101, 115, 101, 116, 116, 101, 114, 108, 97, 119, 49, 55, 46, 87, 105, 110, 100, 111, 119, 80, 108, 97, 121, 115, 32, 112, 97, 99, 101, 115, 101, 116, 116, 101, 114, 47, 112, 97, 99, 101, 115, 101, 116, 116, 101, 114, 108, 97, 119, 49, 55, 46, 87, 105, 110, 100, 111, 119, 78, 105, 108].map Char.ofNat
def sumL : List Char := [99, 54, 99, 57, 100, 54, 100, 51, 50, 48, 97, 57, 49, 102, 97, 100, 53, 52, 52, 101, 49, 49, 48, 56, 98, 49, 98, 100, 99, 52, 50, 99, 102, 49, 99, 50, 55, 50, 99, 98, 49, 48, 98, 55, 55, 56, 56, 101, 102, 48, 49, 101, 52, 98, 50, 53, 54, 53, 50, 52, 98, 101, 51, 53].map Char.ofNat
theorem order : Try.prog.initOrder = String.ofList ([Char.ofNat 104, Char.ofNat 97, Char.ofNat 114, Char.ofNat 110, Char.ofNat 101, Char.ofNat 115, Char.ofNat 115] ++ Char.ofNat 32 :: (sumL ++ Char.ofNat 32 :: ([Char.ofNat 99, Char.ofNat 117, Char.ofNat 116] ++ Char.ofNat 32 :: restL))) := by kernel_rfl
theorem word : ∀ (a r : List Char), a.all (· != Char.ofNat 32) = true → wordsSigns (a ++ Char.ofNat 32 :: r) = a :: wordsSigns r
  | [], r, _ => rfl
  | c :: a, r, h => by
    simp only [List.all_cons, Bool.and_eq_true, bne_iff_ne, ne_eq] at h
    have ih := word a r h.2
    rw [List.cons_append, wordsSigns, ih]
    intro hc
    exact absurd hc h.1
theorem words : ∃ R, wordsSigns Try.prog.initOrder.toList = [Char.ofNat 104, Char.ofNat 97, Char.ofNat 114, Char.ofNat 110, Char.ofNat 101, Char.ofNat 115, Char.ofNat 115] :: sumL :: [Char.ofNat 99, Char.ofNat 117, Char.ofNat 116] :: R := by
  refine ⟨wordsSigns restL, ?_⟩
  rw [order, String.toList_ofList, word _ _ (by decide +kernel), word _ _ (by decide +kernel), word _ _ (by decide +kernel)]
theorem behind : ∃ R, behindMainWord (wordsSigns Try.prog.initOrder.toList) = [Char.ofNat 99, Char.ofNat 117, Char.ofNat 116] :: R := by
  obtain ⟨R, h⟩ := words
  refine ⟨R, ?_⟩
  rw [h]
  kernel_rfl
theorem head_of {P : Program} {R : List (List Char)} (h : behindMainWord (wordsSigns P.initOrder.toList) = [Char.ofNat 99, Char.ofNat 117, Char.ofNat 116] :: R) : P.headLifts = [] := by
  unfold Program.headLifts
  rw [h]
  rfl
theorem enter_of {P : Program} {R : List (List Char)} (h : behindMainWord (wordsSigns P.initOrder.toList) = [Char.ofNat 99, Char.ofNat 117, Char.ofNat 116] :: R) (h1 : P.laysLater = false) (h2 : P.bearsReflect = false) (h3 : P.doorFits [] = true) : P.mayEnter = true := by
  unfold Program.mayEnter
  rw [h, h1, h2]
  have e : (stripLifts liftWords ([Char.ofNat 99, Char.ofNat 117, Char.ofNat 116] :: R)) = ([], [Char.ofNat 99, Char.ofNat 117, Char.ofNat 116] :: R) := rfl
  simp only [e, h3]
  rfl
theorem lifts_of {P : Program} {R : List (List Char)} (h : behindMainWord (wordsSigns P.initOrder.toList) = [Char.ofNat 99, Char.ofNat 117, Char.ofNat 116] :: R) : P.liftsFinal = false := by
  unfold Program.liftsFinal
  rw [h, head_of h]
  rfl
theorem mk_of {P : Program} {R : List (List Char)} (h : behindMainWord (wordsSigns P.initOrder.toList) = [Char.ofNat 99, Char.ofNat 117, Char.ofNat 116] :: R) : P.make = some .cut := by
  unfold Program.make
  rw [h]
  rfl
theorem enter : Try.prog.mayEnter = true := by
  obtain ⟨R, h⟩ := behind
  exact enter_of h (by kernel_rfl) (by kernel_rfl) (by kernel_rfl)
theorem lifts : Try.prog.liftsFinal = false := by
  obtain ⟨R, h⟩ := behind
  exact lifts_of h
theorem mk : Try.prog.make = some .cut := by
  obtain ⟨R, h⟩ := behind
  exact mk_of h
theorem enterP : Try.pinned.checked.prog.mayEnter = true := enter
theorem liftsP : Try.pinned.checked.prog.liftsFinal = false := lifts
theorem mkP : Try.pinned.checked.prog.make = some .cut := mk
end Go.Proofs.Ytdpdjchblajbbaa.Enter
