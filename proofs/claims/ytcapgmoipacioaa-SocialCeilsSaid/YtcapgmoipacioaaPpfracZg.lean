import Derived.Test.YtcapgmoipacioaaPtZg
import Derived.Test.YtcapgmoipacioaaPpmoneyZg
import Derived.Test.YtcapgmoipacioaaY1Zg
namespace Go.Proofs.Ytcapgmoipacioaa.P
open Go.RowKit Go.Proofs.YtcapgmoipacioaaW.PrintWords Go.Proofs.YtcapgmoipacioaaW.PrintLast Go.Proofs.YtcapgmoipacioaaW.PrintMore
set_option linter.unusedVariables false
set_option linter.unusedSimpArgs false
def frac_Rate.f (a0 : Int) : Option (Bool) := if a0 ≥ 0 then (some (decide (a0 ≤ 10000))) else (some false)
set_option maxHeartbeats 8000000 in
set_option maxRecDepth 100000 in
theorem frac_Rate.calls (a0 : Int) (r : Bool) (w : World) (h : frac_Rate.f a0 = some r) :
  Calls Try.prog 102 #[.int .i64 a0] w fun e w' => e = .returned (.bool r) ∧ Drawn0 w w' := by
 unfold frac_Rate.f at h; have H := h; clear h; by_cases c2 : a0 ≥ 0
 ·rw [if_pos c2] at H; have c2b0 : decide (0 ≤ a0) = true := decide_eq_true c2; clear c2; obtain rfl := Option.some.inj H; go_enter Try.func102, Try.ntmps102
  go_wp2
  go_ret
  exact ⟨sx_, by repeat (first | exact Drawn0.refl _ | apply Drawn0.step)⟩
 ·rw [if_neg c2] at H; have c2b0 : decide (0 ≤ a0) = false := decide_eq_false c2; clear c2; obtain rfl := Option.some.inj H; go_enter Try.func102, Try.ntmps102
  go_wp2
  go_ret
  exact ⟨sx_, by repeat (first | exact Drawn0.refl _ | apply Drawn0.step)⟩
def frac_Mode.f (a0 : Int) : Option (Bool) := if a0 ≥ 1 then (some (decide (a0 ≤ 6))) else (some false)
set_option maxHeartbeats 8000000 in
set_option maxRecDepth 100000 in
theorem frac_Mode.calls (a0 : Int) (r : Bool) (w : World) (h : frac_Mode.f a0 = some r) :
  Calls Try.prog 104 #[.int .i64 a0] w fun e w' => e = .returned (.bool r) ∧ Drawn0 w w' := by
 unfold frac_Mode.f at h; have H := h; clear h; by_cases c2 : a0 ≥ 1
 ·rw [if_pos c2] at H; have c2b0 : decide (1 ≤ a0) = true := decide_eq_true c2; clear c2; obtain rfl := Option.some.inj H; go_enter Try.func104, Try.ntmps104
  go_wp2
  go_ret
  exact ⟨sx_, by repeat (first | exact Drawn0.refl _ | apply Drawn0.step)⟩
 ·rw [if_neg c2] at H; have c2b0 : decide (1 ≤ a0) = false := decide_eq_false c2; clear c2; obtain rfl := Option.some.inj H; go_enter Try.func104, Try.ntmps104
  go_wp2
  go_ret
  exact ⟨sx_, by repeat (first | exact Drawn0.refl _ | apply Drawn0.step)⟩
def frac_floor.f (a0 : Int) (a1 : Int) : Option (Int × Int) := if a1 = 0 then (none) else (if (Int.tmod a0 a1) < 0 then (some (wrap64 ((wrap64 (Int.tdiv a0 a1)) - 1), wrap64 ((Int.tmod a0 a1) + a1))) else (some (wrap64 (Int.tdiv a0 a1), Int.tmod a0 a1)))
set_option maxHeartbeats 8000000 in
set_option maxRecDepth 100000 in
theorem frac_floor.calls (a0 : Int) (a1 : Int) (r1 : Int) (r2 : Int) (w : World) (h : frac_floor.f a0 a1 = some (r1, r2)) :
  Calls Try.prog 139 #[.int .i64 a0, .int .i64 a1] w fun e w' => e = .returned (.tuple #[.int .i64 r1, .int .i64 r2]) ∧ Drawn0 w w' := by
 unfold frac_floor.f at h; have H := h; clear h; by_cases c3 : a1 = 0
 ·rw [if_pos c3] at H; exact absurd H (by simp)
 ·rw [if_neg c3] at H; have c3b0 : (a1 == 0) = false := beq_eq_false_iff_ne.mpr c3; have c3b1 : (a1 != 0) = true := bne_iff_ne.mpr c3; by_cases c4 : (Int.tmod a0 a1) < 0
  ·rw [if_pos c4] at H; have c4b0 := decide_eq_true c4; clear c4; simp only [Option.some.injEq, Prod.mk.injEq] at H; obtain ⟨rfl, rfl⟩ := H; go_enter Try.func139, Try.ntmps139
   go_wp2
   repeat (go_quiet (fail); try go_wp2)
   go_ret2
   exact ⟨sx_, by repeat (first | exact Drawn0.refl _ | apply Drawn0.step)⟩
  ·rw [if_neg c4] at H; have c4b0 := decide_eq_false c4; clear c4; simp only [Option.some.injEq, Prod.mk.injEq] at H; obtain ⟨rfl, rfl⟩ := H; go_enter Try.func139, Try.ntmps139
   go_wp2
   repeat (go_quiet (fail); try go_wp2)
   go_ret2
   exact ⟨sx_, by repeat (first | exact Drawn0.refl _ | apply Drawn0.step)⟩
def frac_nearer.f (a0 : Int) (a1 : Int) (a2 : Int) (a3 : Int) : Option (Bool) := if a3 = 2 then (some (decide (a1 > 0))) else (if a3 = 3 then (if a1 > 0 then (some (decide (a0 < 0))) else (some false)) else (if a3 = 1 then (some false) else (if a1 = (wrap64 (a2 - a1)) then (if a3 = 4 then (some (decide (a0 ≥ 0))) else (if a3 = 6 then (some (decide (a0 < 0))) else (some ((Int.tmod a0 2) != 0)))) else (some (decide (a1 > (wrap64 (a2 - a1))))))))
set_option maxHeartbeats 8000000 in
set_option maxRecDepth 100000 in
theorem frac_nearer.calls (a0 : Int) (a1 : Int) (a2 : Int) (a3 : Int) (r : Bool) (w : World) (h : frac_nearer.f a0 a1 a2 a3 = some r) :
  Calls Try.prog 154 #[.int .i64 a0, .int .i64 a1, .int .i64 a2, .int .i64 a3] w fun e w' => e = .returned (.bool r) ∧ Drawn0 w w' := by
 unfold frac_nearer.f at h; have H := h; clear h; by_cases c5 : a3 = 2
 ·rw [if_pos c5] at H; have c5b0 : (a3 == 2) = true := beq_iff_eq.mpr c5; have c5b1 : (a3 != 2) = false := bne_eq_false_iff_eq.mpr c5; clear c5; obtain rfl := Option.some.inj H; go_enter Try.func154, Try.ntmps154
  go_wp2
  go_ret
  exact ⟨sx_, by repeat (first | exact Drawn0.refl _ | apply Drawn0.step)⟩
 ·rw [if_neg c5] at H; have c5b0 : (a3 == 2) = false := beq_eq_false_iff_ne.mpr c5; have c5b1 : (a3 != 2) = true := bne_iff_ne.mpr c5; by_cases c6 : a3 = 3
  ·rw [if_pos c6] at H; have c6b0 : (a3 == 3) = true := beq_iff_eq.mpr c6; have c6b1 : (a3 != 3) = false := bne_eq_false_iff_eq.mpr c6; clear c6; by_cases c7 : a1 > 0
   ·rw [if_pos c7] at H; have c7b0 : decide (0 < a1) = true := decide_eq_true c7; clear c7; obtain rfl := Option.some.inj H; go_enter Try.func154, Try.ntmps154
    go_wp2
    go_ret
    exact ⟨sx_, by repeat (first | exact Drawn0.refl _ | apply Drawn0.step)⟩
   ·rw [if_neg c7] at H; have c7b0 : decide (0 < a1) = false := decide_eq_false c7; clear c7; obtain rfl := Option.some.inj H; go_enter Try.func154, Try.ntmps154
    go_wp2
    go_ret
    exact ⟨sx_, by repeat (first | exact Drawn0.refl _ | apply Drawn0.step)⟩
  ·rw [if_neg c6] at H; have c6b0 : (a3 == 3) = false := beq_eq_false_iff_ne.mpr c6; have c6b1 : (a3 != 3) = true := bne_iff_ne.mpr c6; by_cases c8 : a3 = 1
   ·rw [if_pos c8] at H; have c8b0 : (a3 == 1) = true := beq_iff_eq.mpr c8; have c8b1 : (a3 != 1) = false := bne_eq_false_iff_eq.mpr c8; clear c8; obtain rfl := Option.some.inj H; go_enter Try.func154, Try.ntmps154
    go_wp2
    go_ret
    exact ⟨sx_, by repeat (first | exact Drawn0.refl _ | apply Drawn0.step)⟩
   ·rw [if_neg c8] at H; have c8b0 : (a3 == 1) = false := beq_eq_false_iff_ne.mpr c8; have c8b1 : (a3 != 1) = true := bne_iff_ne.mpr c8; by_cases c9 : a1 = (wrap64 (a2 - a1))
    ·rw [if_pos c9] at H; have c9b0 : (a1 == (wrap64 (a2 - a1))) = true := beq_iff_eq.mpr c9; have c9b1 : (a1 != (wrap64 (a2 - a1))) = false := bne_eq_false_iff_eq.mpr c9; clear c9; by_cases c10 : a3 = 4
     ·rw [if_pos c10] at H; have c10b0 : (a3 == 4) = true := beq_iff_eq.mpr c10; have c10b1 : (a3 != 4) = false := bne_eq_false_iff_eq.mpr c10; clear c10; obtain rfl := Option.some.inj H; go_enter Try.func154, Try.ntmps154
      go_wp2
      go_ret
      exact ⟨sx_, by repeat (first | exact Drawn0.refl _ | apply Drawn0.step)⟩
     ·rw [if_neg c10] at H; have c10b0 : (a3 == 4) = false := beq_eq_false_iff_ne.mpr c10; have c10b1 : (a3 != 4) = true := bne_iff_ne.mpr c10; by_cases c11 : a3 = 6
      ·rw [if_pos c11] at H; have c11b0 : (a3 == 6) = true := beq_iff_eq.mpr c11; have c11b1 : (a3 != 6) = false := bne_eq_false_iff_eq.mpr c11; clear c11; obtain rfl := Option.some.inj H; go_enter Try.func154, Try.ntmps154
       go_wp2
       go_ret
       exact ⟨sx_, by repeat (first | exact Drawn0.refl _ | apply Drawn0.step)⟩
      ·rw [if_neg c11] at H; have c11b0 : (a3 == 6) = false := beq_eq_false_iff_ne.mpr c11; have c11b1 : (a3 != 6) = true := bne_iff_ne.mpr c11; obtain rfl := Option.some.inj H; go_enter Try.func154, Try.ntmps154
       go_wp2
       go_ret
       exact ⟨sx_, by repeat (first | exact Drawn0.refl _ | apply Drawn0.step)⟩
    ·rw [if_neg c9] at H; have c9b0 : (a1 == (wrap64 (a2 - a1))) = false := beq_eq_false_iff_ne.mpr c9; have c9b1 : (a1 != (wrap64 (a2 - a1))) = true := bne_iff_ne.mpr c9; obtain rfl := Option.some.inj H; go_enter Try.func154, Try.ntmps154
     go_wp2
     go_ret
     exact ⟨sx_, by repeat (first | exact Drawn0.refl _ | apply Drawn0.step)⟩
mutual
def frac_Round.j0 : Nat → Int → Int → Int → Bool → Option (Int × Int)
 | 0, _, _, _, _ => none
 | k + 1, x0, x1, x2, x16 => if x16 = true then (some (0, 1)) else ((frac_floor.f x0 x1).bind fun bt121 => (if bt121.2 > 0 then ((frac_nearer.f bt121.1 bt121.2 x1 x2).bind fun t123 => (frac_Round.j1 k bt121.1 t123)) else (frac_Round.j1 k bt121.1 false)))
def frac_Round.j1 : Nat → Int → Bool → Option (Int × Int)
 | 0, _, _ => none
 | k + 1, x8, x31 => if x31 = true then (some (wrap64 (x8 + 1), 0)) else (some (x8, 0))
end
def frac_Round.f (k : Nat) (a0 : Int) (a1 : Int) (a2 : Int) : Option (Int × Int) := if a1 ≤ 0 then (frac_Round.j0 k a0 a1 a2 true) else ((frac_Mode.f a2).bind fun t120 => (frac_Round.j0 k a0 a1 a2 (!t120)))
set_option maxHeartbeats 8000000 in
set_option maxRecDepth 100000 in
theorem frac_Round.calls (k : Nat) (a0 : Int) (a1 : Int) (a2 : Int) (r1 : Int) (r2 : Int) (w : World) (h : frac_Round.f k a0 a1 a2 = some (r1, r2)) :
  Calls Try.prog 121 #[.int .i64 a0, .int .i64 a1, .int .i64 a2] w fun e w' => e = .returned (.tuple #[.int .i64 r1, .int .i64 r2]) ∧ Drawn0 w w' := by
 unfold frac_Round.f at h; have H := h; clear h; have HC4 := A_ H; clear H; go_enter Try.func121, Try.ntmps121
 go_upto_region 1 with (fail)
 go_cut [16] (fun v16 wc => ∃ (kq : Nat) (x16_3 : Bool), v16 = .bool x16_3 ∧ Aside0 (frac_Round.j0 kq a0 a1 a2 x16_3 = some (r1, r2)) ∧ Aside0 (kq ≤ k) ∧ Drawn0 w wc)
 case first =>
  have H := HC4.out; clear HC4; by_cases c5 : a1 ≤ 0
  ·rw [if_pos c5] at H; have c5b0 := decide_eq_true c5; clear c5
   (first | rw [c5b0] | (simp only [i64_w, i32_w]; rw [c5b0]) | skip)
   have H' := A_ H; clear H
   go_wp2
   go_meet
   case rel => exact ⟨_, (true), (sx_), H', ⟨by first | omega | exact Nat.le_refl _⟩, by repeat (first | exact Drawn0.refl _ | apply Drawn0.step)⟩
  ·rw [if_neg c5] at H; have c5b0 := decide_eq_false c5; clear c5
   (first | rw [c5b0] | (simp only [i64_w, i32_w]; rw [c5b0]) | skip)
   replace H := Option.bind_eq_some_iff.mp H; obtain ⟨t120, A60, H⟩ := H; (try dsimp only at H); have A6 := A_ A60; clear A60; have H' := A_ H; clear H; go_wp2_with (first | (go_at_call 104; (with_reducible refine (frac_Mode.calls a2 t120 _ A6.out).mono ?_); rintro e w' ⟨rfl, ⟨nd, rfl⟩⟩))
   go_meet
   case rel => exact ⟨_, (!t120), (sx_), H', ⟨by first | omega | exact Nat.le_refl _⟩, by repeat (first | exact Drawn0.refl _ | apply Drawn0.step)⟩
 case rest =>
  clear HC4; try clear c1
  try clear p2
  try clear c5
  try clear c5b0
  obtain ⟨kq, x16_3, rfl, HA, HJ3, ⟨mc3, rfl⟩⟩ := hcut
  cases kq with
  | zero => exact absurd HA.out (by simp [frac_Round.j0])
  | succ kj3 =>
   have H := HA.out; clear HA; simp only [frac_Round.j0] at H; by_cases c7 : x16_3 = true
   ·subst c7; rw [if_pos rfl] at H; simp only [Option.some.injEq, Prod.mk.injEq] at H; obtain ⟨rfl, rfl⟩ := H
    go_wp2
    go_ret2
    exact ⟨sx_, by repeat (first | exact Drawn0.refl _ | apply Drawn0.step)⟩
   ·replace c7 := Bool.eq_false_iff.mpr c7; subst c7; rw [if_neg (show ¬ (false = true) by decide)] at H; replace H := Option.bind_eq_some_iff.mp H; obtain ⟨⟨t121, t122⟩, A80, H⟩ := H; (try dsimp only at H); have A8 := A_ A80; clear A80; have HC9 := A_ H; clear H; go_upto_region 4 with (first | ((with_reducible refine gate_callee (f := 139) rfl ?_); refine gm_ (some 20) Try.func139 #[.int .i64 a0, .int .i64 a1] ?_; (with_reducible refine (frac_floor.calls a0 a1 t121 t122 _ A8.out).mono ?_); rintro e w' ⟨rfl, ⟨nd, rfl⟩⟩; refine ⟨_, rfl, ?_⟩))
    (try simp only [Act.put, List.setIfInBounds_toArray, List.set_cons_zero, List.set_cons_succ])
    go_cut [31] (fun v31 wc => ∃ (kq : Nat) (x31_8 : Bool), v31 = .bool x31_8 ∧ Aside0 (frac_Round.j1 kq t121 x31_8 = some (r1, r2)) ∧ Aside0 (kq ≤ kj3) ∧ Drawn0 w wc)
    case first =>
     have H := HC9.out; clear HC9; by_cases c10 : t122 > 0
     ·rw [if_pos c10] at H; have c10b0 : decide (0 < t122) = true := decide_eq_true c10; clear c10
      (first | rw [c10b0] | (simp only [i64_w, i32_w]; rw [c10b0]) | skip)
      replace H := Option.bind_eq_some_iff.mp H; obtain ⟨t123, A110, H⟩ := H; (try dsimp only at H); have A11 := A_ A110; clear A110; have H' := A_ H; clear H; go_wp2_with (first | (go_at_call 154; (with_reducible refine (frac_nearer.calls t121 t122 a1 a2 t123 _ A11.out).mono ?_); rintro e w' ⟨rfl, ⟨nd, rfl⟩⟩))
      go_meet
      case rel => exact ⟨_, (t123), (sx_), H', ⟨by have := HJ3.out; first | omega | exact Nat.le_refl _⟩, by repeat (first | exact Drawn0.refl _ | apply Drawn0.step)⟩
     ·rw [if_neg c10] at H; have c10b0 : decide (0 < t122) = false := decide_eq_false c10; clear c10
      (first | rw [c10b0] | (simp only [i64_w, i32_w]; rw [c10b0]) | skip)
      have H' := A_ H; clear H
      go_wp2
      go_meet
      case rel => exact ⟨_, (false), (sx_), H', ⟨by have := HJ3.out; first | omega | exact Nat.le_refl _⟩, by repeat (first | exact Drawn0.refl _ | apply Drawn0.step)⟩
    case rest =>
     clear HC9; try clear c1
     try clear p2
     try clear c3
     try clear c5
     try clear c5b0
     try clear c7
     try clear c10
     try clear c10b0
     try clear p2
     obtain ⟨kq, x31_8, rfl, HA, HJ8, ⟨mc8, rfl⟩⟩ := hcut
     cases kq with
     | zero => exact absurd HA.out (by simp [frac_Round.j1])
     | succ kj8 =>
      have H := HA.out; clear HA; simp only [frac_Round.j1] at H; by_cases c12 : x31_8 = true
      ·subst c12; rw [if_pos rfl] at H; simp only [Option.some.injEq, Prod.mk.injEq] at H; obtain ⟨rfl, rfl⟩ := H
       go_wp2
       go_ret2
       exact ⟨sx_, by repeat (first | exact Drawn0.refl _ | apply Drawn0.step)⟩
      ·replace c12 := Bool.eq_false_iff.mpr c12; subst c12; rw [if_neg (show ¬ (false = true) by decide)] at H; simp only [Option.some.injEq, Prod.mk.injEq] at H; obtain ⟨rfl, rfl⟩ := H
       go_wp2
       go_ret2
       exact ⟨sx_, by repeat (first | exact Drawn0.refl _ | apply Drawn0.step)⟩
end Go.Proofs.Ytcapgmoipacioaa.P
