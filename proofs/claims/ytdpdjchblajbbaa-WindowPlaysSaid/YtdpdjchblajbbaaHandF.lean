/- The float functions of the window, on the words of small whole numbers. -/
import Derived.Test.YtdpdjchblajbbaaProg
import Derived.Test.YtdpdjchblajbbaaWMore
import Derived.Test.YtdpdjchblajbbaaWKept
import Derived.Test.YtdpdjchblajbbaaWLast
import Derived.Test.YtdpdjchblajbbaaWN
import Derived.Test.YtdpdjchblajbbaaWNEv
import Derived.WalkKit
import Derived.WalkLawsBesides
import Derived.KernelRfl
import Derived.Outline
import Derived.Below
import Derived.Lib.Hide
namespace Go.Proofs.Ytdpdjchblajbbaa.Hand
open Go Go.RowKit Go.Proofs.YtdpdjchblajbbaaW.PrintWords Go.Proofs.YtdpdjchblajbbaaW.PrintMore
set_option linter.unusedVariables false
/-- A word that is a whole number. -/
structure Whole (b : Nat) : Prop where
  nan : (FloatKind.f64.decode b).isNaN = false
  cut : FloatKind.f64.encode ((FloatKind.f64.decode b).integral .zero) = b
theorem arch_trunc {b : Nat} (h : Whole b) (w : World) : (callFunc 33 #[.float .f64 b]).run Try.prog w = .ok (.value (.float .f64 b)) w := by
  rw [run_callFunc_extern Try.func33 rfl rfl (by kernel_rfl) (e := Extern.MathFloor.toIntegral "math.archTrunc" .zero) (by kernel_rfl)]
  obtain ⟨h1, h2⟩ := h
  have e : (Extern.MathFloor.toIntegral "math.archTrunc" .zero #[.float .f64 b]).run Try.prog w = .ok (.float .f64 b) w := by
    change Sem.run Try.prog (match FloatKind.f64.decode b with | .nan s t => _ | d => pure (Value.float FloatKind.f64 (FloatKind.f64.encode (d.integral .zero)))) w = _
    generalize FloatKind.f64.decode b = d at h1 h2 ⊢
    cases d
    · rw [show _ = _ from congrArg (fun x => Sem.run Try.prog (pure (Value.float FloatKind.f64 x)) w) h2]; rfl
    · rw [show _ = _ from congrArg (fun x => Sem.run Try.prog (pure (Value.float FloatKind.f64 x)) w) h2]; rfl
    · simp [Ieee.Datum.isNaN] at h1
  rw [e]
  rfl
set_option maxRecDepth 100000 in
theorem Trunc_any (b : Nat) (w : World) (h : Whole b) : Calls Try.prog 32 #[.float .f64 b] w fun e w' => e = .returned (.float .f64 b) ∧ w = w' := by
  have A := arch_trunc h w
  clear h
  go_enter Try.func32, Try.ntmps32
  go_wp2
  go_ret
  exact ⟨rfl, rfl⟩
set_option maxRecDepth 100000 in
theorem part_any (b : Nat) (w : World) (T : Whole b) (h1 : (FloatKind.f64.format.order b 0 == some Ordering.gt || FloatKind.f64.format.order b 0 == some Ordering.eq) = true)
    (h2 : (FloatKind.f64.format.order b 4697254411347427328) = some Ordering.lt) (h3 : FloatKind.f64.format.order b b = some Ordering.eq) : Calls Try.prog 31 #[.float .f64 b] w fun e w' => e = .returned (.bool true) ∧ w = w' := by
  have A := Aside0.mk (Trunc_any b w T)
  clear T
  go_enter Try.func31, Try.ntmps31
  go_wp2_with (go_at_call 32; refine (A.out).mono ?_; rintro e w1 ⟨rfl, rfl⟩)
  go_ret
  exact ⟨rfl, rfl⟩
set_option maxRecDepth 100000 in
theorem tally_any (a b : Nat) (w : World) (h1 : Calls Try.prog 31 #[.float .f64 a] w fun e w' => e = .returned (.bool true) ∧ w = w') (h2 : Calls Try.prog 31 #[.float .f64 b] w fun e w' => e = .returned (.bool true) ∧ w = w') :
    Calls Try.prog 30 #[.complex .f64 a b] w fun e w' => e = .returned (.complex .f64 a b) ∧ w = w' := by
  have A := Aside0.mk h1
  have B := Aside0.mk h2
  clear h1 h2
  go_enter Try.func30, Try.ntmps30
  go_wp2_with (first
    | (go_at_call 31; refine (A.out).mono ?_; rintro e w1 ⟨rfl, rfl⟩; clear A)
    | (go_at_call 31; refine (B.out).mono ?_; rintro e w1 ⟨rfl, rfl⟩; clear B))
  go_ret
  exact ⟨rfl, rfl⟩
set_option maxRecDepth 100000 in
theorem good_any (a b : Nat) (n : Int) (w : World) (h1 : Calls Try.prog 30 #[.complex .f64 a b] w fun e w' => e = .returned (.complex .f64 a b) ∧ w = w') (h2 : floatToIntVal .f64 a .i64 = some n) :
    Calls Try.prog 17 #[.complex .f64 a b] w fun e w' => e = .returned (.int .i64 n) ∧ w = w' := by
  have A := Aside0.mk h1
  have C := run_convert_float_int (P := Try.prog) w 60 3 .f64 .i64 a n (by kernel_rfl) Try.underlying3 h2
  clear h1
  go_enter Try.func17, Try.ntmps17
  go_wp2_with (go_at_call 30; refine (A.out).mono ?_; rintro e w1 ⟨rfl, rfl⟩)
  go_ret
  exact ⟨rfl, rfl⟩
set_option maxRecDepth 100000 in
theorem bad_any (a b : Nat) (n : Int) (w : World) (h1 : Calls Try.prog 30 #[.complex .f64 a b] w fun e w' => e = .returned (.complex .f64 a b) ∧ w = w') (h2 : floatToIntVal .f64 b .i64 = some n) :
    Calls Try.prog 18 #[.complex .f64 a b] w fun e w' => e = .returned (.int .i64 n) ∧ w = w' := by
  have A := Aside0.mk h1
  have C := run_convert_float_int (P := Try.prog) w 60 3 .f64 .i64 b n (by kernel_rfl) Try.underlying3 h2
  clear h1
  go_enter Try.func18, Try.ntmps18
  go_wp2_with (go_at_call 30; refine (A.out).mono ?_; rintro e w1 ⟨rfl, rfl⟩)
  go_ret
  exact ⟨rfl, rfl⟩
theorem run_min_float (P : Program) (w : World) (ts : Array TypeId) (t : TypeId) (a b : Nat) (h : FloatKind.f64.format.order a b = some .lt) : (Builtin.min_ ts t #[.float .f64 a, .float .f64 b]).run P w = .ok (.float .f64 a) w := by
  simp [Builtin.min_, Builtin.min2, h]
set_option maxRecDepth 100000 in
theorem cut_any (a b : Nat) (w : World) (h1 : FloatKind.f64.format.order a 4697254411347427328 = some .lt) (h2 : FloatKind.f64.format.order b 4697254411347427328 = some .lt) :
    Calls Try.prog 29 #[.complex .f64 a b] w fun e w' => e = .returned (.complex .f64 a b) ∧ w = w' := by
  have m1 := fun ts t => run_min_float Try.prog w ts t a 4697254411347427328 h1
  have m2 := fun ts t => run_min_float Try.prog w ts t b 4697254411347427328 h2
  go_enter Try.func29, Try.ntmps29
  go_wp2
  go_ret
  exact ⟨rfl, rfl⟩
set_option maxRecDepth 100000 in
theorem one_true (w : World) : Calls Try.prog 15 #[.bool true] w fun e w' => e = .returned (.complex .f64 4607182418800017408 0) ∧ w = w' := by
  go_enter Try.func15, Try.ntmps15
  go_wp2
  go_ret
  exact ⟨rfl, rfl⟩
set_option maxRecDepth 100000 in
theorem one_false (w : World) : Calls Try.prog 15 #[.bool false] w fun e w' => e = .returned (.complex .f64 0 4607182418800017408) ∧ w = w' := by
  go_enter Try.func15, Try.ntmps15
  go_wp2
  go_ret
  exact ⟨rfl, rfl⟩

/-! ### The words of small whole numbers -/
def fl (n : Nat) : Nat := Ieee.double.nearest false n 0
/-- A tally of small counts. -/
def tl (a b : Nat) : Value := .complex .f64 (fl a) (fl b)
theorem t_add1 : ∀ a, a < 120 → ∀ b, b < 2 → FloatKind.f64.format.add (fl a) (fl b) = some (fl (a + b)) := by decide +kernel
theorem t_eq : ∀ a, a < 161 → FloatKind.f64.format.order (fl a) (fl a) = some .eq := by decide +kernel
theorem t_max : ∀ a, a < 161 → FloatKind.f64.format.order (fl a) 4697254411347427328 = some .lt := by decide +kernel
theorem t_int : ∀ a, a < 161 → floatToIntVal .f64 (fl a) .i64 = some (a : Int) := by decide +kernel
theorem t_of (n : Nat) : floatOfInt .f64 (n : Int) = fl n := by
  unfold floatOfInt FloatKind.nearest fl
  simp
  rfl
theorem t_zero : fl 0 = 0 := by decide +kernel
theorem t_one : fl 1 = 4607182418800017408 := by decide +kernel
theorem t_two : fl 2 = 4611686018427387904 := by decide +kernel
theorem t_pos : ∀ a, a < 161 → (FloatKind.f64.format.order (fl a) 0 == some Ordering.gt || FloatKind.f64.format.order (fl a) 0 == some Ordering.eq) = true := by decide +kernel
theorem t_nan : ∀ a, a < 161 → (FloatKind.f64.decode (fl a)).isNaN = false := by decide +kernel
theorem t_cut : ∀ a, a < 161 → FloatKind.f64.encode ((FloatKind.f64.decode (fl a)).integral .zero) = fl a := by decide +kernel
theorem t_whole {a : Nat} (h : a < 161) : Whole (fl a) := ⟨t_nan a h, t_cut a h⟩
theorem tally_fl (a b : Nat) (w : World) (ha : a < 161) (hb : b < 161) : Calls Try.prog 30 #[tl a b] w fun e w' => e = .returned (tl a b) ∧ w = w' :=
  tally_any _ _ w (part_any _ w (t_whole ha) (t_pos a ha) (t_max a ha) (t_eq a ha)) (part_any _ w (t_whole hb) (t_pos b hb) (t_max b hb) (t_eq b hb))
theorem good_fl (a b : Nat) (w : World) (ha : a < 161) (hb : b < 161) : Calls Try.prog 17 #[tl a b] w fun e w' => e = .returned (.int .i64 (a : Int)) ∧ w = w' := good_any _ _ _ w (tally_fl a b w ha hb) (t_int a ha)
theorem bad_fl (a b : Nat) (w : World) (ha : a < 161) (hb : b < 161) : Calls Try.prog 18 #[tl a b] w fun e w' => e = .returned (.int .i64 (b : Int)) ∧ w = w' := bad_any _ _ _ w (tally_fl a b w ha hb) (t_int b hb)
theorem cut_fl (a b : Nat) (w : World) (ha : a < 161) (hb : b < 161) : Calls Try.prog 29 #[tl a b] w fun e w' => e = .returned (tl a b) ∧ w = w' := cut_any _ _ w (t_max a ha) (t_max b hb)
/-- What one is: a good one, or a bad one. -/
def oneG (g : Bool) : Nat := if g then 1 else 0
def oneB (g : Bool) : Nat := if g then 0 else 1
theorem one_fl (g : Bool) (w : World) : Calls Try.prog 15 #[.bool g] w fun e w' => e = .returned (tl (oneG g) (oneB g)) ∧ w = w' := by
  cases g
  · have e : tl (oneG false) (oneB false) = .complex .f64 0 4607182418800017408 := by unfold tl oneG oneB; simp [t_zero, t_one]
    rw [e]; exact one_false w
  · have e : tl (oneG true) (oneB true) = .complex .f64 4607182418800017408 0 := by unfold tl oneG oneB; simp [t_zero, t_one]
    rw [e]; exact one_true w
/-- A sum of tallies, as the walk asks for it. -/
theorem sum_fl (W : World) (t : TypeId) {a b c d : Nat} (h1 : FloatKind.f64.format.add (fl a) (fl c) = some (fl (a + c))) (h2 : FloatKind.f64.format.add (fl b) (fl d) = some (fl (b + d))) : (binOp .add t (tl a b) (tl c d)).run Try.prog W = .ok (tl (a + c) (b + d)) W :=
  run_complex_sum W .add (.inl rfl) t .f64 _ _ _ _ _ _ (by unfold cSumBits floatBits; simp only [h1, h2]; rfl)
theorem eql_fl (W : World) (t : TypeId) {a b : Nat} (ha : a < 161) (hb : b < 161) : (binOp .eql t (tl a b) (tl a b)).run Try.prog W = .ok (.bool true) W := by
  unfold tl
  rw [run_eql_complex, t_eq a ha, t_eq b hb]
  rfl
theorem neq_fl (W : World) (t : TypeId) {a b : Nat} (ha : a < 161) (hb : b < 161) : (binOp .neq t (tl a b) (tl a b)).run Try.prog W = .ok (.bool false) W := by
  unfold tl
  rw [run_neq_complex, t_eq a ha, t_eq b hb]
  rfl
end Go.Proofs.Ytdpdjchblajbbaa.Hand
