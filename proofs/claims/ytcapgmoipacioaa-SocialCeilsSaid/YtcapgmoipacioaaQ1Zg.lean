import Derived.Test.YtcapgmoipacioaaPtZg
import Derived.Test.YtcapgmoipacioaaFlZg
namespace Go.Proofs.Ytcapgmoipacioaa.P
open Go.RowKit Go.Proofs.YtcapgmoipacioaaW.PrintWords Go.Proofs.YtcapgmoipacioaaW.PrintLast Go.Proofs.YtcapgmoipacioaaW.PrintMore
open Go.Proofs.YtcapgmoipacioaaW.FlW
set_option linter.unusedVariables false
set_option linter.unusedSimpArgs false
def may53 (x : Int) : Bool := decide (-9007199254740992 ≤ x ∧ x ≤ 9007199254740992)
set_option maxHeartbeats 8000000 in
set_option maxRecDepth 100000 in
theorem pair_Of.walk (a b : Int) (w : World) :
    Calls Try.prog 25 #[.int .i64 a, .int .i64 b] w fun e w' => e = .returned (if may53 a && may53 b then .tuple #[.complex .f64 (floatOfInt .f64 a) (floatOfInt .f64 b), .int .i64 0] else .tuple #[.complex .f64 0 0, .int .i64 10]) ∧ Drawn0 w w' := by
  by_cases c1 : a > 9007199254740992
  · skip
    have d0 : decide (9007199254740992 < a) = true := decide_eq_true (by omega); have e : (may53 a && may53 b) = false := by unfold may53; first | (rw [decide_eq_false (p := -9007199254740992 ≤ a ∧ a ≤ 9007199254740992) (by omega)]; rfl) | (rw [decide_eq_false (p := -9007199254740992 ≤ b ∧ b ≤ 9007199254740992) (by omega), Bool.and_false])
    rw [e]; go_enter Try.func25, Try.ntmps25
    go_wp2
    repeat (go_quiet (fail); try go_wp2)
    go_ret2
    exact ⟨by first | rfl | (simp; done) | (simp [*]; done), by repeat (first | exact Drawn0.refl _ | apply Drawn0.step)⟩
  by_cases c2 : a < -9007199254740992
  · skip
    have d0 : decide (9007199254740992 < a) = false := decide_eq_false (by omega); have d1 : decide (a < -9007199254740992) = true := decide_eq_true (by omega); have e : (may53 a && may53 b) = false := by unfold may53; first | (rw [decide_eq_false (p := -9007199254740992 ≤ a ∧ a ≤ 9007199254740992) (by omega)]; rfl) | (rw [decide_eq_false (p := -9007199254740992 ≤ b ∧ b ≤ 9007199254740992) (by omega), Bool.and_false])
    rw [e]; go_enter Try.func25, Try.ntmps25
    go_wp2
    repeat (go_quiet (fail); try go_wp2)
    go_ret2
    exact ⟨by first | rfl | (simp; done) | (simp [*]; done), by repeat (first | exact Drawn0.refl _ | apply Drawn0.step)⟩
  by_cases c3 : b > 9007199254740992
  · skip
    have d0 : decide (9007199254740992 < a) = false := decide_eq_false (by omega); have d1 : decide (a < -9007199254740992) = false := decide_eq_false (by omega); have d2 : decide (9007199254740992 < b) = true := decide_eq_true (by omega); have e : (may53 a && may53 b) = false := by unfold may53; first | (rw [decide_eq_false (p := -9007199254740992 ≤ a ∧ a ≤ 9007199254740992) (by omega)]; rfl) | (rw [decide_eq_false (p := -9007199254740992 ≤ b ∧ b ≤ 9007199254740992) (by omega), Bool.and_false])
    rw [e]; go_enter Try.func25, Try.ntmps25
    go_wp2
    repeat (go_quiet (fail); try go_wp2)
    go_ret2
    exact ⟨by first | rfl | (simp; done) | (simp [*]; done), by repeat (first | exact Drawn0.refl _ | apply Drawn0.step)⟩
  by_cases c4 : b < -9007199254740992
  · skip
    have d0 : decide (9007199254740992 < a) = false := decide_eq_false (by omega); have d1 : decide (a < -9007199254740992) = false := decide_eq_false (by omega); have d2 : decide (9007199254740992 < b) = false := decide_eq_false (by omega); have d3 : decide (b < -9007199254740992) = true := decide_eq_true (by omega); have e : (may53 a && may53 b) = false := by unfold may53; first | (rw [decide_eq_false (p := -9007199254740992 ≤ a ∧ a ≤ 9007199254740992) (by omega)]; rfl) | (rw [decide_eq_false (p := -9007199254740992 ≤ b ∧ b ≤ 9007199254740992) (by omega), Bool.and_false])
    rw [e]; go_enter Try.func25, Try.ntmps25
    go_wp2
    repeat (go_quiet (fail); try go_wp2)
    go_ret2
    exact ⟨by first | rfl | (simp; done) | (simp [*]; done), by repeat (first | exact Drawn0.refl _ | apply Drawn0.step)⟩
  · skip
    have d0 : decide (9007199254740992 < a) = false := decide_eq_false (by omega); have d1 : decide (a < -9007199254740992) = false := decide_eq_false (by omega); have d2 : decide (9007199254740992 < b) = false := decide_eq_false (by omega); have d3 : decide (b < -9007199254740992) = false := decide_eq_false (by omega); have e : (may53 a && may53 b) = true := by unfold may53; rw [decide_eq_true (p := -9007199254740992 ≤ a ∧ a ≤ 9007199254740992) (by omega), decide_eq_true (p := -9007199254740992 ≤ b ∧ b ≤ 9007199254740992) (by omega)]; rfl
    rw [e]; go_enter Try.func25, Try.ntmps25
    go_wp2
    repeat (go_quiet (fail); try go_wp2)
    go_ret2
    exact ⟨by first | rfl | (simp; done) | (simp [*]; done), by repeat (first | exact Drawn0.refl _ | apply Drawn0.step)⟩
theorem fl_lo : Fl 14069245235905429504 (-9007199254740992) := .inl ⟨by decide, by decide +kernel⟩
theorem fl_hi : Fl 4845873199050653696 9007199254740992 := .inl ⟨by decide, by decide +kernel⟩
theorem whole_facts {x : Nat} {n : Int} (hx : Fl x n) (hn : n.natAbs ≤ 2 ^ 53) :
    ((FloatKind.f64.format.order x 14069245235905429504 == some Ordering.gt || FloatKind.f64.format.order x 14069245235905429504 == some Ordering.eq) = true) ∧
    ((FloatKind.f64.format.order x 4845873199050653696 == some Ordering.lt || FloatKind.f64.format.order x 4845873199050653696 == some Ordering.eq) = true) ∧
    FloatKind.f64.format.order x (floatOfInt .f64 n) = some Ordering.eq ∧
    ∀ w_ : World, (convert 161 2 (.float .f64 x)).run Try.prog w_ = .ok (.int .i64 n) w_ := by
  have hp : (2 : Nat) ^ 53 = 9007199254740992 := by decide
  have o1 : FloatKind.f64.format.order x 14069245235905429504 = some (compare n (-9007199254740992)) := fl_order hx fl_lo hn (by decide); have o2 : FloatKind.f64.format.order x 4845873199050653696 = some (compare n 9007199254740992) := fl_order hx fl_hi hn (by decide); refine ⟨?_, ?_, (fl_order hx (fl_of_int n hn) hn hn).trans (congrArg some (Int.compare_eq_eq.2 rfl)), fun w_ => run_convert_float_int (P := Try.prog) w_ 161 2 .f64 .i64 x n (by kernel_rfl) Try.underlying2 (fl_int hx hn)⟩
  · rw [o1]
    rcases Int.lt_or_eq_of_le (show -9007199254740992 ≤ n by omega) with h | h
    · rw [Int.compare_eq_gt.2 h]; rfl
    · rw [Int.compare_eq_eq.2 h.symm]; rfl
  · rw [o2]
    rcases Int.lt_or_eq_of_le (show n ≤ 9007199254740992 by omega) with h | h
    · rw [Int.compare_eq_lt.2 h]; rfl
    · rw [Int.compare_eq_eq.2 h]; rfl
set_option maxHeartbeats 8000000 in
set_option maxRecDepth 100000 in
theorem pair_Right.yes (x y : Nat) (a b : Int) (hx : Fl x a) (hy : Fl y b) (ha : a.natAbs ≤ 2 ^ 53) (hb : b.natAbs ≤ 2 ^ 53) (w : World) :
    Calls Try.prog 29 #[.complex .f64 x y] w fun e w' => e = .returned (.bool true) ∧ Drawn0 w w' := by
  obtain ⟨c1, c2, c3, c4⟩ := whole_facts hx ha; obtain ⟨d1, d2, d3, d4⟩ := whole_facts hy hb; clear hx hy ha hb; go_enter Try.func29, Try.ntmps29
  go_wp2
  go_ret
  exact ⟨rfl, by repeat (first | exact Drawn0.refl _ | apply Drawn0.step)⟩
set_option maxHeartbeats 8000000 in
set_option maxRecDepth 100000 in
theorem pair_Sides.yes (x y : Nat) (a b : Int) (hx : Fl x a) (hy : Fl y b) (ha : a.natAbs ≤ 2 ^ 53) (hb : b.natAbs ≤ 2 ^ 53) (w : World) :
    Calls Try.prog 27 #[.complex .f64 x y] w fun e w' => e = .returned (.tuple #[.int .i64 a, .int .i64 b, .int .i64 0]) ∧ Drawn0 w w' := by
  obtain ⟨c1, c2, c3, c4⟩ := whole_facts hx ha; obtain ⟨d1, d2, d3, d4⟩ := whole_facts hy hb; clear hx hy ha hb; go_enter Try.func27, Try.ntmps27
  go_wp2
  repeat (go_quiet (fail); try go_wp2)
  go_ret3
  exact ⟨rfl, by repeat (first | exact Drawn0.refl _ | apply Drawn0.step)⟩
set_option maxHeartbeats 8000000 in
set_option maxRecDepth 100000 in
theorem pair_Swap.walk (x y : Nat) (w : World) :
    Calls Try.prog 28 #[.complex .f64 x y] w fun e w' => e = .returned (.complex .f64 y x) ∧ Drawn0 w w' := by
  go_enter Try.func28, Try.ntmps28
  go_wp2
  repeat (go_quiet (fail); try go_wp2)
  go_ret
  exact ⟨rfl, by repeat (first | exact Drawn0.refl _ | apply Drawn0.step)⟩
end Go.Proofs.Ytcapgmoipacioaa.P
