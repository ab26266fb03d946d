import Derived.Test.YtcapgmoipacioaaQ1Zg
import Derived.Test.YtcapgmoipacioaaPpfracZg
namespace Go.Proofs.Ytcapgmoipacioaa.P
open Go.RowKit Go.Proofs.YtcapgmoipacioaaW.PrintWords Go.Proofs.YtcapgmoipacioaaW.PrintLast Go.Proofs.YtcapgmoipacioaaW.PrintMore
open Go.Proofs.YtcapgmoipacioaaW.FlW
set_option linter.unusedVariables false
set_option linter.unusedSimpArgs false
set_option maxHeartbeats 8000000 in
set_option maxRecDepth 100000 in
theorem pair_Coins.ok (k : Nat) (x y : Nat) (a b m r s : Int) (hx : Fl x a) (hy : Fl y b) (ha : a.natAbs ≤ 2 ^ 53) (hb : b.natAbs ≤ 2 ^ 53) (h1 : frac_Round.f k a 10000 m = some (r, 0)) (h2 : frac_Round.f k b 10000 m = some (s, 0)) (w : World) :
    Calls Try.prog 66 #[.complex .f64 x y, .int .i64 m] w fun e w' => e = .returned (.tuple #[.agg #[.int .i64 r, .int .i64 s], .int .i64 0]) ∧ Below w.heap.size w w' := by
  have H := Aside0.mk (And.intro hx (And.intro hy (And.intro ha hb))); have H1 := Aside0.mk h1; have H2 := Aside0.mk h2; clear hx hy ha hb h1 h2; go_enter Try.func66, Try.ntmps66
  go_wp2_with fail
  (with_reducible refine (pair_Sides.yes x y a b H.out.1 H.out.2.1 H.out.2.2.1 H.out.2.2.2 _).mono ?_)
  rintro e w1 ⟨rfl, ⟨n1, rfl⟩⟩; go_wp2_with fail
  (with_reducible refine (frac_Round.calls k a 10000 m r 0 _ H1.out).mono ?_)
  rintro e w1 ⟨rfl, ⟨n2, rfl⟩⟩; go_wp2_with fail
  (with_reducible refine (frac_Round.calls k b 10000 m s 0 _ H2.out).mono ?_)
  rintro e w1 ⟨rfl, ⟨n3, rfl⟩⟩
  go_wp2
  exact bodyPost_ret (v := .tuple #[.agg #[.int .i64 r, .int .i64 s], .int .i64 0]) (by simp [results, Try.results66, go_sem]) rfl ⟨rfl, (by repeat (first | exact Below.refl _ _ | (with_reducible refine below_set ?_ (Nat.le_refl _)) | apply below_alloc | apply pw_below_drewN | apply below_drew1))⟩
theorem pair_Of.yes (a b : Int) (h : (may53 a && may53 b) = true) (w : World) : Calls Try.prog 25 #[.int .i64 a, .int .i64 b] w fun e w' => e = .returned (.tuple #[.complex .f64 (floatOfInt .f64 a) (floatOfInt .f64 b), .int .i64 0]) ∧ Drawn0 w w' := by
  have := pair_Of.walk a b w; rw [if_pos h] at this; exact this
theorem pair_Of.no (a b : Int) (h : (may53 a && may53 b) = false) (w : World) : Calls Try.prog 25 #[.int .i64 a, .int .i64 b] w fun e w' => e = .returned (.tuple #[.complex .f64 0 0, .int .i64 10]) ∧ Drawn0 w w' := by
  have := pair_Of.walk a b w; rw [if_neg (by rw [h]; decide)] at this; exact this
set_option maxHeartbeats 8000000 in
set_option maxRecDepth 100000 in
theorem pair_Share.yes (a b : Int) (h : (may53 a && may53 b) = true) (w : World) :
    Calls Try.prog 94 #[.agg #[.int .i64 a, .int .i64 b]] w fun e w' => e = .returned (.tuple #[.complex .f64 (floatOfInt .f64 a) (floatOfInt .f64 b), .int .i64 0]) ∧ Below w.heap.size w w' := by
  have hu36 := Try.underlying36; have H := Aside0.mk h; clear h; go_enter Try.func94, Try.ntmps94
  go_wp2_with fail
  (with_reducible refine (pair_Of.yes a b H.out _).mono ?_)
  rintro e w1 ⟨rfl, ⟨n1, rfl⟩⟩
  go_wp2
  go_ret2
  exact ⟨rfl, (by repeat (first | exact Below.refl _ _ | (with_reducible refine below_set ?_ (Nat.le_refl _)) | apply below_alloc | apply pw_below_drewN | apply below_drew1))⟩
set_option maxHeartbeats 8000000 in
set_option maxRecDepth 100000 in
theorem pair_Share.no (a b : Int) (h : (may53 a && may53 b) = false) (w : World) :
    Calls Try.prog 94 #[.agg #[.int .i64 a, .int .i64 b]] w fun e w' => e = .returned (.tuple #[.complex .f64 0 0, .int .i64 10]) ∧ Below w.heap.size w w' := by
  have hu36 := Try.underlying36; have H := Aside0.mk h; clear h; go_enter Try.func94, Try.ntmps94
  go_wp2_with fail
  (with_reducible refine (pair_Of.no a b H.out _).mono ?_)
  rintro e w1 ⟨rfl, ⟨n1, rfl⟩⟩
  go_wp2
  go_ret2
  exact ⟨rfl, (by repeat (first | exact Below.refl _ _ | (with_reducible refine below_set ?_ (Nat.le_refl _)) | apply below_alloc | apply pw_below_drewN | apply below_drew1))⟩
end Go.Proofs.Ytcapgmoipacioaa.P
