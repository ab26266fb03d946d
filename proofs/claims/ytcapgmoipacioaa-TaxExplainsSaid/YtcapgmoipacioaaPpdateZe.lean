import Derived.Test.YtcapgmoipacioaaPtZe
import Derived.Test.YtcapgmoipacioaaY1Ze
namespace Go.Proofs.Ytcapgmoipacioaa.P
open Go.RowKit Go.Proofs.YtcapgmoipacioaaW.PrintWords Go.Proofs.YtcapgmoipacioaaW.PrintLast Go.Proofs.YtcapgmoipacioaaW.PrintMore
set_option linter.unusedVariables false
set_option linter.unusedSimpArgs false
def date_Leap.f (a0 : Int) : Option (Bool) := if (Int.tmod a0 4) = 0 then (if (Int.tmod a0 100) = 0 then (some ((Int.tmod a0 400) == 0)) else (some true)) else (some false)
set_option maxHeartbeats 8000000 in
set_option maxRecDepth 100000 in
theorem date_Leap.calls (a0 : Int) (r : Bool) (w : World) (h : date_Leap.f a0 = some r) :
  Calls Try.prog 152 #[.int .i64 a0] w fun e w' => e = .returned (.bool r) ∧ Drawn0 w w' := by
 unfold date_Leap.f at h; have H := h; clear h; by_cases c2 : (Int.tmod a0 4) = 0
 ·rw [if_pos c2] at H; have c2b0 : ((Int.tmod a0 4) == 0) = true := beq_iff_eq.mpr c2; have c2b1 : ((Int.tmod a0 4) != 0) = false := bne_eq_false_iff_eq.mpr c2; clear c2; by_cases c3 : (Int.tmod a0 100) = 0
  ·rw [if_pos c3] at H; have c3b0 : ((Int.tmod a0 100) == 0) = true := beq_iff_eq.mpr c3; have c3b1 : ((Int.tmod a0 100) != 0) = false := bne_eq_false_iff_eq.mpr c3; clear c3; obtain rfl := Option.some.inj H; go_enter Try.func152, Try.ntmps152
   go_wp2
   go_ret
   exact ⟨sx_, by repeat (first | exact Drawn0.refl _ | apply Drawn0.step)⟩
  ·rw [if_neg c3] at H; have c3b0 : ((Int.tmod a0 100) == 0) = false := beq_eq_false_iff_ne.mpr c3; have c3b1 : ((Int.tmod a0 100) != 0) = true := bne_iff_ne.mpr c3; obtain rfl := Option.some.inj H; go_enter Try.func152, Try.ntmps152
   go_wp2
   go_ret
   exact ⟨sx_, by repeat (first | exact Drawn0.refl _ | apply Drawn0.step)⟩
 ·rw [if_neg c2] at H; have c2b0 : ((Int.tmod a0 4) == 0) = false := beq_eq_false_iff_ne.mpr c2; have c2b1 : ((Int.tmod a0 4) != 0) = true := bne_iff_ne.mpr c2; obtain rfl := Option.some.inj H; go_enter Try.func152, Try.ntmps152
  go_wp2
  go_ret
  exact ⟨sx_, by repeat (first | exact Drawn0.refl _ | apply Drawn0.step)⟩
mutual
def date_Last.j0 : Nat → Int → Int → Bool → Option (Int)
 | 0, _, _, _ => none
 | k + 1, x0, x1, x10 => if x10 = true then (some 0) else (if x1 = 1 then (date_Last.j1 k x0 x1 (x1 == 1)) else (if x1 = 3 then (date_Last.j1 k x0 x1 (x1 == 3)) else (if x1 = 5 then (date_Last.j1 k x0 x1 (x1 == 5)) else (if x1 = 7 then (date_Last.j1 k x0 x1 (x1 == 7)) else (if x1 = 8 then (date_Last.j1 k x0 x1 (x1 == 8)) else (if x1 = 10 then (date_Last.j1 k x0 x1 (x1 == 10)) else (date_Last.j1 k x0 x1 (x1 == 12))))))))
def date_Last.j1 : Nat → Int → Int → Bool → Option (Int)
 | 0, _, _, _ => none
 | k + 1, x0, x11, x12 => if x12 = true then (some 31) else (if x11 = 4 then (date_Last.j2 k x0 x11 (x11 == 4)) else (if x11 = 6 then (date_Last.j2 k x0 x11 (x11 == 6)) else (if x11 = 9 then (date_Last.j2 k x0 x11 (x11 == 9)) else (date_Last.j2 k x0 x11 (x11 == 11)))))
def date_Last.j2 : Nat → Int → Int → Bool → Option (Int)
 | 0, _, _, _ => none
 | k + 1, x0, x11, x20 => if x20 = true then (some 30) else (if x11 = 2 then ((date_Leap.f x0).bind fun t407 => (if t407 = true then (some 29) else (some 28))) else (some 0))
end
def date_Last.f (k : Nat) (a0 : Int) (a1 : Int) : Option (Int) := if a0 < 1900 then (date_Last.j0 k a0 a1 true) else (date_Last.j0 k a0 a1 (decide (a0 > 2199)))
set_option maxHeartbeats 8000000 in
set_option maxRecDepth 100000 in
theorem date_Last.calls (k : Nat) (a0 : Int) (a1 : Int) (r : Int) (w : World) (h : date_Last.f k a0 a1 = some r) :
  Calls Try.prog 148 #[.int .i64 a0, .int .i64 a1] w fun e w' => e = .returned (.int .i64 r) ∧ Drawn0 w w' := by
 unfold date_Last.f at h; have H := h; clear h; have HC3 := A_ H; clear H; go_enter Try.func148, Try.ntmps148
 go_upto_region 1 with (fail)
 go_cut [10] (fun v10 wc => ∃ (kq : Nat) (x10_2 : Bool), v10 = .bool x10_2 ∧ Aside0 (date_Last.j0 kq a0 a1 x10_2 = some r) ∧ Aside0 (kq ≤ k) ∧ Drawn0 w wc)
 case first =>
  have H := HC3.out; clear HC3; by_cases c4 : a0 < 1900
  ·rw [if_pos c4] at H; have c4b0 := decide_eq_true c4; clear c4
   (first | rw [c4b0] | (simp only [i64_w, i32_w]; rw [c4b0]) | skip)
   have H' := A_ H; clear H
   go_wp2
   go_meet
   case rel => exact ⟨_, (true), (sx_), H', ⟨by first | omega | exact Nat.le_refl _⟩, by repeat (first | exact Drawn0.refl _ | apply Drawn0.step)⟩
  ·rw [if_neg c4] at H; have c4b0 := decide_eq_false c4; clear c4
   (first | rw [c4b0] | (simp only [i64_w, i32_w]; rw [c4b0]) | skip)
   have H' := A_ H; clear H
   go_wp2
   go_meet
   case rel => exact ⟨_, (decide (a0 > 2199)), (sx_), H', ⟨by first | omega | exact Nat.le_refl _⟩, by repeat (first | exact Drawn0.refl _ | apply Drawn0.step)⟩
 case rest =>
  clear HC3; try clear c1
  try clear p2
  try clear c4
  try clear c4b0
  obtain ⟨kq, x10_2, rfl, HA, HJ2, ⟨mc2, rfl⟩⟩ := hcut
  cases kq with
  | zero => exact absurd HA.out (by simp [date_Last.j0])
  | succ kj2 =>
   have H := HA.out; clear HA; simp only [date_Last.j0] at H; by_cases c5 : x10_2 = true
   ·subst c5; rw [if_pos rfl] at H; obtain rfl := Option.some.inj H
    go_wp2
    go_ret
    exact ⟨sx_, by repeat (first | exact Drawn0.refl _ | apply Drawn0.step)⟩
   ·replace c5 := Bool.eq_false_iff.mpr c5; subst c5; rw [if_neg (show ¬ (false = true) by decide)] at H; have HC6 := A_ H; clear H
    go_upto_if 12 with (fail)
    go_cut [12] (fun v12 wc => ∃ (kq : Nat) (x12_5 : Bool), v12 = .bool x12_5 ∧ Aside0 (date_Last.j1 kq a0 a1 x12_5 = some r) ∧ Aside0 (kq ≤ kj2) ∧ Drawn0 w wc)
    case first =>
     have H := HC6.out; clear HC6; by_cases c7 : a1 = 1
     ·rw [if_pos c7] at H; have c7b0 : (a1 == 1) = true := beq_iff_eq.mpr c7; have c7b1 : (a1 != 1) = false := bne_eq_false_iff_eq.mpr c7; clear c7
      (first | rw [c7b0] | (simp only [i64_w, i32_w]; rw [c7b0]) | skip)
      have H' := A_ H; clear H
      go_wp2
      go_meet
      case rel => exact ⟨_, ((a1 == 1)), (sx_), H', ⟨by have := HJ2.out; first | omega | exact Nat.le_refl _⟩, by repeat (first | exact Drawn0.refl _ | apply Drawn0.step)⟩
     ·rw [if_neg c7] at H; have c7b0 : (a1 == 1) = false := beq_eq_false_iff_ne.mpr c7; have c7b1 : (a1 != 1) = true := bne_iff_ne.mpr c7
      (first | rw [c7b0] | (simp only [i64_w, i32_w]; rw [c7b0]) | skip)
      by_cases c8 : a1 = 3
      ·rw [if_pos c8] at H; have c8b0 : (a1 == 3) = true := beq_iff_eq.mpr c8; have c8b1 : (a1 != 3) = false := bne_eq_false_iff_eq.mpr c8; clear c8; have H' := A_ H; clear H
       go_wp2
       go_meet
       case rel => exact ⟨_, ((a1 == 3)), (sx_), H', ⟨by have := HJ2.out; first | omega | exact Nat.le_refl _⟩, by repeat (first | exact Drawn0.refl _ | apply Drawn0.step)⟩
      ·rw [if_neg c8] at H; have c8b0 : (a1 == 3) = false := beq_eq_false_iff_ne.mpr c8; have c8b1 : (a1 != 3) = true := bne_iff_ne.mpr c8; by_cases c9 : a1 = 5
       ·rw [if_pos c9] at H; have c9b0 : (a1 == 5) = true := beq_iff_eq.mpr c9; have c9b1 : (a1 != 5) = false := bne_eq_false_iff_eq.mpr c9; clear c9; have H' := A_ H; clear H
        go_wp2
        go_meet
        case rel => exact ⟨_, ((a1 == 5)), (sx_), H', ⟨by have := HJ2.out; first | omega | exact Nat.le_refl _⟩, by repeat (first | exact Drawn0.refl _ | apply Drawn0.step)⟩
       ·rw [if_neg c9] at H; have c9b0 : (a1 == 5) = false := beq_eq_false_iff_ne.mpr c9; have c9b1 : (a1 != 5) = true := bne_iff_ne.mpr c9; by_cases c10 : a1 = 7
        ·rw [if_pos c10] at H; have c10b0 : (a1 == 7) = true := beq_iff_eq.mpr c10; have c10b1 : (a1 != 7) = false := bne_eq_false_iff_eq.mpr c10; clear c10; have H' := A_ H; clear H
         go_wp2
         go_meet
         case rel => exact ⟨_, ((a1 == 7)), (sx_), H', ⟨by have := HJ2.out; first | omega | exact Nat.le_refl _⟩, by repeat (first | exact Drawn0.refl _ | apply Drawn0.step)⟩
        ·rw [if_neg c10] at H; have c10b0 : (a1 == 7) = false := beq_eq_false_iff_ne.mpr c10; have c10b1 : (a1 != 7) = true := bne_iff_ne.mpr c10; by_cases c11 : a1 = 8
         ·rw [if_pos c11] at H; have c11b0 : (a1 == 8) = true := beq_iff_eq.mpr c11; have c11b1 : (a1 != 8) = false := bne_eq_false_iff_eq.mpr c11; clear c11; have H' := A_ H; clear H
          go_wp2
          go_meet
          case rel => exact ⟨_, ((a1 == 8)), (sx_), H', ⟨by have := HJ2.out; first | omega | exact Nat.le_refl _⟩, by repeat (first | exact Drawn0.refl _ | apply Drawn0.step)⟩
         ·rw [if_neg c11] at H; have c11b0 : (a1 == 8) = false := beq_eq_false_iff_ne.mpr c11; have c11b1 : (a1 != 8) = true := bne_iff_ne.mpr c11; by_cases c12 : a1 = 10
          ·rw [if_pos c12] at H; have c12b0 : (a1 == 10) = true := beq_iff_eq.mpr c12; have c12b1 : (a1 != 10) = false := bne_eq_false_iff_eq.mpr c12; clear c12; have H' := A_ H; clear H
           go_wp2
           go_meet
           case rel => exact ⟨_, ((a1 == 10)), (sx_), H', ⟨by have := HJ2.out; first | omega | exact Nat.le_refl _⟩, by repeat (first | exact Drawn0.refl _ | apply Drawn0.step)⟩
          ·rw [if_neg c12] at H; have c12b0 : (a1 == 10) = false := beq_eq_false_iff_ne.mpr c12; have c12b1 : (a1 != 10) = true := bne_iff_ne.mpr c12; have H' := A_ H; clear H
           go_wp2
           go_meet
           case rel => exact ⟨_, ((a1 == 12)), (sx_), H', ⟨by have := HJ2.out; first | omega | exact Nat.le_refl _⟩, by repeat (first | exact Drawn0.refl _ | apply Drawn0.step)⟩
    case rest =>
     clear HC6; try clear c1
     try clear c2
     try clear p2
     try clear c4
     try clear c4b0
     try clear c5
     try clear c7
     try clear c7b0
     try clear c7b1
     try clear c8
     try clear c8b0
     try clear c8b1
     try clear c9
     try clear c9b0
     try clear c9b1
     try clear c10
     try clear c10b0
     try clear c10b1
     try clear c11
     try clear c11b0
     try clear c11b1
     try clear c12
     try clear c12b0
     try clear c12b1
     try clear p2
     obtain ⟨kq, x12_5, rfl, HA, HJ5, ⟨mc5, rfl⟩⟩ := hcut
     cases kq with
     | zero => exact absurd HA.out (by simp [date_Last.j1])
     | succ kj5 =>
      have H := HA.out; clear HA; simp only [date_Last.j1] at H; by_cases c13 : x12_5 = true
      ·subst c13; rw [if_pos rfl] at H; obtain rfl := Option.some.inj H
       go_wp2
       go_ret
       exact ⟨sx_, by repeat (first | exact Drawn0.refl _ | apply Drawn0.step)⟩
      ·replace c13 := Bool.eq_false_iff.mpr c13; subst c13; rw [if_neg (show ¬ (false = true) by decide)] at H; have HC14 := A_ H; clear H
       go_upto_if 20 with (fail)
       go_cut [20] (fun v20 wc => ∃ (kq : Nat) (x20_13 : Bool), v20 = .bool x20_13 ∧ Aside0 (date_Last.j2 kq a0 a1 x20_13 = some r) ∧ Aside0 (kq ≤ kj5) ∧ Drawn0 w wc)
       case first =>
        have H := HC14.out; clear HC14; by_cases c15 : a1 = 4
        ·rw [if_pos c15] at H; have c15b0 : (a1 == 4) = true := beq_iff_eq.mpr c15; have c15b1 : (a1 != 4) = false := bne_eq_false_iff_eq.mpr c15; clear c15
         (first | rw [c15b0] | (simp only [i64_w, i32_w]; rw [c15b0]) | skip)
         have H' := A_ H; clear H
         go_wp2
         go_meet
         case rel => exact ⟨_, ((a1 == 4)), (sx_), H', ⟨by have := HJ2.out; have := HJ5.out; first | omega | exact Nat.le_refl _⟩, by repeat (first | exact Drawn0.refl _ | apply Drawn0.step)⟩
        ·rw [if_neg c15] at H; have c15b0 : (a1 == 4) = false := beq_eq_false_iff_ne.mpr c15; have c15b1 : (a1 != 4) = true := bne_iff_ne.mpr c15
         (first | rw [c15b0] | (simp only [i64_w, i32_w]; rw [c15b0]) | skip)
         by_cases c16 : a1 = 6
         ·rw [if_pos c16] at H; have c16b0 : (a1 == 6) = true := beq_iff_eq.mpr c16; have c16b1 : (a1 != 6) = false := bne_eq_false_iff_eq.mpr c16; clear c16; have H' := A_ H; clear H
          go_wp2
          go_meet
          case rel => exact ⟨_, ((a1 == 6)), (sx_), H', ⟨by have := HJ2.out; have := HJ5.out; first | omega | exact Nat.le_refl _⟩, by repeat (first | exact Drawn0.refl _ | apply Drawn0.step)⟩
         ·rw [if_neg c16] at H; have c16b0 : (a1 == 6) = false := beq_eq_false_iff_ne.mpr c16; have c16b1 : (a1 != 6) = true := bne_iff_ne.mpr c16; by_cases c17 : a1 = 9
          ·rw [if_pos c17] at H; have c17b0 : (a1 == 9) = true := beq_iff_eq.mpr c17; have c17b1 : (a1 != 9) = false := bne_eq_false_iff_eq.mpr c17; clear c17; have H' := A_ H; clear H
           go_wp2
           go_meet
           case rel => exact ⟨_, ((a1 == 9)), (sx_), H', ⟨by have := HJ2.out; have := HJ5.out; first | omega | exact Nat.le_refl _⟩, by repeat (first | exact Drawn0.refl _ | apply Drawn0.step)⟩
          ·rw [if_neg c17] at H; have c17b0 : (a1 == 9) = false := beq_eq_false_iff_ne.mpr c17; have c17b1 : (a1 != 9) = true := bne_iff_ne.mpr c17; have H' := A_ H; clear H
           go_wp2
           go_meet
           case rel => exact ⟨_, ((a1 == 11)), (sx_), H', ⟨by have := HJ2.out; have := HJ5.out; first | omega | exact Nat.le_refl _⟩, by repeat (first | exact Drawn0.refl _ | apply Drawn0.step)⟩
       case rest =>
        clear HC14; try clear c1
        try clear c2
        try clear p2
        try clear c4
        try clear c4b0
        try clear c5
        try clear c7
        try clear c7b0
        try clear c7b1
        try clear c8
        try clear c8b0
        try clear c8b1
        try clear c9
        try clear c9b0
        try clear c9b1
        try clear c10
        try clear c10b0
        try clear c10b1
        try clear c11
        try clear c11b0
        try clear c11b1
        try clear c12
        try clear c12b0
        try clear c12b1
        try clear c13
        try clear c14
        try clear c15
        try clear c15b0
        try clear c15b1
        try clear c16
        try clear c16b0
        try clear c16b1
        try clear c17
        try clear c17b0
        try clear c17b1
        try clear p2
        obtain ⟨kq, x20_13, rfl, HA, HJ13, ⟨mc13, rfl⟩⟩ := hcut
        cases kq with
        | zero => exact absurd HA.out (by simp [date_Last.j2])
        | succ kj13 =>
         have H := HA.out; clear HA; simp only [date_Last.j2] at H; by_cases c18 : x20_13 = true
         ·subst c18; rw [if_pos rfl] at H; obtain rfl := Option.some.inj H
          go_wp2
          go_ret
          exact ⟨sx_, by repeat (first | exact Drawn0.refl _ | apply Drawn0.step)⟩
         ·replace c18 := Bool.eq_false_iff.mpr c18; subst c18; rw [if_neg (show ¬ (false = true) by decide)] at H; by_cases c19 : a1 = 2
          ·rw [if_pos c19] at H; have c19b0 : (a1 == 2) = true := beq_iff_eq.mpr c19; have c19b1 : (a1 != 2) = false := bne_eq_false_iff_eq.mpr c19; clear c19; replace H := Option.bind_eq_some_iff.mp H; obtain ⟨t407, A200, H⟩ := H; (try dsimp only at H); have A20 := A_ A200; clear A200; by_cases c21 : t407 = true
           ·subst c21; rw [if_pos rfl] at H; obtain rfl := Option.some.inj H; go_wp2_with (first | ((with_reducible refine gate_callee (f := 152) rfl ?_); refine gm_ (some 28) Try.func152 #[.int .i64 a0] ?_; (with_reducible refine (date_Leap.calls a0 true _ A20.out).mono ?_); rintro e w' ⟨rfl, ⟨nd, rfl⟩⟩; refine ⟨_, rfl, ?_⟩))
            go_ret
            exact ⟨sx_, by repeat (first | exact Drawn0.refl _ | apply Drawn0.step)⟩
           ·replace c21 := Bool.eq_false_iff.mpr c21; subst c21; rw [if_neg (show ¬ (false = true) by decide)] at H; obtain rfl := Option.some.inj H; go_wp2_with (first | ((with_reducible refine gate_callee (f := 152) rfl ?_); refine gm_ (some 28) Try.func152 #[.int .i64 a0] ?_; (with_reducible refine (date_Leap.calls a0 false _ A20.out).mono ?_); rintro e w' ⟨rfl, ⟨nd, rfl⟩⟩; refine ⟨_, rfl, ?_⟩))
            go_ret
            exact ⟨sx_, by repeat (first | exact Drawn0.refl _ | apply Drawn0.step)⟩
          ·rw [if_neg c19] at H; have c19b0 : (a1 == 2) = false := beq_eq_false_iff_ne.mpr c19; have c19b1 : (a1 != 2) = true := bne_iff_ne.mpr c19; obtain rfl := Option.some.inj H
           go_wp2
           go_ret
           exact ⟨sx_, by repeat (first | exact Drawn0.refl _ | apply Drawn0.step)⟩
def date_Right.f (k : Nat) (a0_0 : Int) (a0_1 : Int) (a0_2 : Int) : Option (Bool) := if a0_2 ≥ 1 then ((date_Last.f k a0_0 a0_1).bind fun t409 => (some (decide (a0_2 ≤ t409)))) else (some false)
set_option maxHeartbeats 8000000 in
set_option maxRecDepth 100000 in
theorem date_Right.calls (k : Nat) (a0_0 : Int) (a0_1 : Int) (a0_2 : Int) (r : Bool) (w : World) (h : date_Right.f k a0_0 a0_1 a0_2 = some r) :
  Calls Try.prog 147 #[.agg #[.int .i64 a0_0, .int .i64 a0_1, .int .i64 a0_2]] w fun e w' => e = .returned (.bool r) ∧ Below w.heap.size w w' := by
 have hu86 := Try.underlying86; have HB := A_ (Below.refl w.heap.size w); unfold date_Right.f at h; have H := h; clear h; by_cases c2 : a0_2 ≥ 1
 ·rw [if_pos c2] at H; have c2b0 : decide (1 ≤ a0_2) = true := decide_eq_true c2; clear c2; replace H := Option.bind_eq_some_iff.mp H; obtain ⟨t409, A30, H⟩ := H; replace H : (some (decide (a0_2 ≤ t409))) = some r := H; have A3 := A_ A30; clear A30; obtain rfl := Option.some.inj H; go_enter Try.func147, Try.ntmps147
  go_wp2_with (first | ((with_reducible refine gate_dst (N := 1) rfl ?_); refine be_ (N := 1) (cs := #[.int .i64 a0_0, .int .i64 a0_1, .int .i64 a0_2]) (t := 86) ?_; intro gb408 hg w4 hbox hb; have BK408 := A_ (hbox); have GW408 := A_ ((by rw [hg]; exact (below_size (bl_ HB)) : w.heap.size ≤ gb408)); have GE408 := A_ ((by rw [hg]; exact (below_size (bl_ HB)) : w.heap.size ≤ gb408)); replace HB := A_ (below_step (bl_ HB) hb); clear hb hbox hg; have hcz5_0 := cz_ BK408 0; have hcz5_1 := cz_ BK408 1; have hcz5_2 := cz_ BK408 2; have hfz5_0 := fz_ BK408 0; have hfz5_1 := fz_ BK408 1; have hfz5_2 := fz_ BK408 2) | (go_at_call 148; (with_reducible refine (date_Last.calls k a0_0 a0_1 t409 _ A3.out).mono ?_); rintro e w' ⟨rfl, ⟨nd, rfl⟩⟩; (try first | exact ⟨rfl, _, World.drewN_drewN _ _ _⟩ | exact ⟨rfl, _, Eq.trans (World.drewN_drewN _ _ _) (congrArg (World.drewN _) (Nat.add_assoc _ _ _))⟩)))
  repeat (go_quiet (first | ((with_reducible refine gate_dst (N := 1) rfl ?_); refine be_ (N := 1) (cs := #[.int .i64 a0_0, .int .i64 a0_1, .int .i64 a0_2]) (t := 86) ?_; intro gb408 hg w4 hbox hb; have BK408 := A_ (hbox); have GW408 := A_ ((by rw [hg]; exact (below_size (bl_ HB)) : w.heap.size ≤ gb408)); have GE408 := A_ ((by rw [hg]; exact (below_size (bl_ HB)) : w.heap.size ≤ gb408)); replace HB := A_ (below_step (bl_ HB) hb); clear hb hbox hg; have hcz5_0 := cz_ BK408 0; have hcz5_1 := cz_ BK408 1; have hcz5_2 := cz_ BK408 2; have hfz5_0 := fz_ BK408 0; have hfz5_1 := fz_ BK408 1; have hfz5_2 := fz_ BK408 2) | (go_at_call 148; (with_reducible refine (date_Last.calls k a0_0 a0_1 t409 _ A3.out).mono ?_); rintro e w' ⟨rfl, ⟨nd, rfl⟩⟩; (try first | exact ⟨rfl, _, World.drewN_drewN _ _ _⟩ | exact ⟨rfl, _, Eq.trans (World.drewN_drewN _ _ _) (congrArg (World.drewN _) (Nat.add_assoc _ _ _))⟩))); try go_wp2_with (first | ((with_reducible refine gate_dst (N := 1) rfl ?_); refine be_ (N := 1) (cs := #[.int .i64 a0_0, .int .i64 a0_1, .int .i64 a0_2]) (t := 86) ?_; intro gb408 hg w4 hbox hb; have BK408 := A_ (hbox); have GW408 := A_ ((by rw [hg]; exact (below_size (bl_ HB)) : w.heap.size ≤ gb408)); have GE408 := A_ ((by rw [hg]; exact (below_size (bl_ HB)) : w.heap.size ≤ gb408)); replace HB := A_ (below_step (bl_ HB) hb); clear hb hbox hg; have hcz5_0 := cz_ BK408 0; have hcz5_1 := cz_ BK408 1; have hcz5_2 := cz_ BK408 2; have hfz5_0 := fz_ BK408 0; have hfz5_1 := fz_ BK408 1; have hfz5_2 := fz_ BK408 2) | (go_at_call 148; (with_reducible refine (date_Last.calls k a0_0 a0_1 t409 _ A3.out).mono ?_); rintro e w' ⟨rfl, ⟨nd, rfl⟩⟩; (try first | exact ⟨rfl, _, World.drewN_drewN _ _ _⟩ | exact ⟨rfl, _, Eq.trans (World.drewN_drewN _ _ _) (congrArg (World.drewN _) (Nat.add_assoc _ _ _))⟩))))
  go_ret
  exact ⟨er_, bl1_ HB GE408.out⟩
 ·rw [if_neg c2] at H; have c2b0 : decide (1 ≤ a0_2) = false := decide_eq_false c2; clear c2; obtain rfl := Option.some.inj H; go_enter Try.func147, Try.ntmps147
  go_wp2_with (first | ((with_reducible refine gate_dst (N := 1) rfl ?_); refine be_ (N := 1) (cs := #[.int .i64 a0_0, .int .i64 a0_1, .int .i64 a0_2]) (t := 86) ?_; intro gb408 hg w6 hbox hb; have BK408 := A_ (hbox); have GW408 := A_ ((by rw [hg]; exact (below_size (bl_ HB)) : w.heap.size ≤ gb408)); have GE408 := A_ ((by rw [hg]; exact (below_size (bl_ HB)) : w.heap.size ≤ gb408)); replace HB := A_ (below_step (bl_ HB) hb); clear hb hbox hg; have hcz7_0 := cz_ BK408 0; have hcz7_1 := cz_ BK408 1; have hcz7_2 := cz_ BK408 2; have hfz7_0 := fz_ BK408 0; have hfz7_1 := fz_ BK408 1; have hfz7_2 := fz_ BK408 2))
  repeat (go_quiet (first | ((with_reducible refine gate_dst (N := 1) rfl ?_); refine be_ (N := 1) (cs := #[.int .i64 a0_0, .int .i64 a0_1, .int .i64 a0_2]) (t := 86) ?_; intro gb408 hg w6 hbox hb; have BK408 := A_ (hbox); have GW408 := A_ ((by rw [hg]; exact (below_size (bl_ HB)) : w.heap.size ≤ gb408)); have GE408 := A_ ((by rw [hg]; exact (below_size (bl_ HB)) : w.heap.size ≤ gb408)); replace HB := A_ (below_step (bl_ HB) hb); clear hb hbox hg; have hcz7_0 := cz_ BK408 0; have hcz7_1 := cz_ BK408 1; have hcz7_2 := cz_ BK408 2; have hfz7_0 := fz_ BK408 0; have hfz7_1 := fz_ BK408 1; have hfz7_2 := fz_ BK408 2)); try go_wp2_with (first | ((with_reducible refine gate_dst (N := 1) rfl ?_); refine be_ (N := 1) (cs := #[.int .i64 a0_0, .int .i64 a0_1, .int .i64 a0_2]) (t := 86) ?_; intro gb408 hg w6 hbox hb; have BK408 := A_ (hbox); have GW408 := A_ ((by rw [hg]; exact (below_size (bl_ HB)) : w.heap.size ≤ gb408)); have GE408 := A_ ((by rw [hg]; exact (below_size (bl_ HB)) : w.heap.size ≤ gb408)); replace HB := A_ (below_step (bl_ HB) hb); clear hb hbox hg; have hcz7_0 := cz_ BK408 0; have hcz7_1 := cz_ BK408 1; have hcz7_2 := cz_ BK408 2; have hfz7_0 := fz_ BK408 0; have hfz7_1 := fz_ BK408 1; have hfz7_2 := fz_ BK408 2)))
  go_ret
  exact ⟨er_, bl1_ HB GE408.out⟩
def date_Months.j0 : Nat → Int → Bool → Int → Int → Int → Option (Int × Int × Int × Int)
 | 0, _, _, _, _, _ => none
 | k + 1, x1, x18, x411000, x411001, x411002 => if x18 = true then (some (0, 0, 0, 30)) else ((date_Last.f k (wrap64 (Int.tdiv (wrap64 ((wrap64 ((wrap64 ((wrap64 (12 * x411000)) + x411001)) - 1)) + x1)) 12)) (wrap64 ((Int.tmod (wrap64 ((wrap64 ((wrap64 ((wrap64 (12 * x411000)) + x411001)) - 1)) + x1)) 12) + 1))).bind fun t414 => ((date_Right.f k (wrap64 (Int.tdiv (wrap64 ((wrap64 ((wrap64 ((wrap64 (12 * x411000)) + x411001)) - 1)) + x1)) 12)) (wrap64 ((Int.tmod (wrap64 ((wrap64 ((wrap64 ((wrap64 (12 * x411000)) + x411001)) - 1)) + x1)) 12) + 1)) (mn x411002 t414)).bind fun t415 => (if t415 = true then (some (wrap64 (Int.tdiv (wrap64 ((wrap64 ((wrap64 ((wrap64 (12 * x411000)) + x411001)) - 1)) + x1)) 12), wrap64 ((Int.tmod (wrap64 ((wrap64 ((wrap64 ((wrap64 (12 * x411000)) + x411001)) - 1)) + x1)) 12) + 1), mn x411002 t414, 0)) else (some (0, 0, 0, 30)))))
def date_Months.f (k : Nat) (a0_0 : Int) (a0_1 : Int) (a0_2 : Int) (a1 : Int) : Option (Int × Int × Int × Int) := (date_Right.f k a0_0 a0_1 a0_2).bind fun t412 => (if t412 = true then (if a1 > 3600 then (date_Months.j0 k a1 true a0_0 a0_1 a0_2) else (date_Months.j0 k a1 (decide (a1 < (-3600))) a0_0 a0_1 a0_2)) else (date_Months.j0 k a1 true a0_0 a0_1 a0_2))
def date_Months.T5 : Bool × List (List Nat × List Nat) := (true, [([], []), ([0], [0]), ([], []), ([2], [2]), ([], []), ([4], [4]), ([3, 5], [3, 5]), ([1, 6], [1, 6]), ([0, 1, 2, 3, 4, 5, 6, 7], []), ([8, 7, 6, 0, 1, 2, 3, 4, 5, 6, 7], [7, 8])])
def date_Months.B5 : List Nat := [0, 1, 0, 4, 0, 16, 60, 127, 255, 511]
theorem date_Months.tab5 : rtab .any (opsOf Try.f112 5) = date_Months.T5 := by kernel_rfl
theorem date_Months.bits5 : waitsOk date_Months.T5.2 date_Months.B5 = true := by kernel_rfl
set_option maxHeartbeats 8000000 in
set_option maxRecDepth 100000 in
theorem date_Months.calls (k : Nat) (a0_0 : Int) (a0_1 : Int) (a0_2 : Int) (a1 : Int) (r1 : Int) (r2 : Int) (r3 : Int) (r4 : Int) (w : World) (h : date_Months.f k a0_0 a0_1 a0_2 a1 = some (r1, r2, r3, r4)) :
  Calls Try.prog 112 #[.agg #[.int .i64 a0_0, .int .i64 a0_1, .int .i64 a0_2], .int .i64 a1] w fun e w' => e = .returned (.tuple #[.agg #[.int .i64 r1, .int .i64 r2, .int .i64 r3], .int .i64 r4]) ∧ Below w.heap.size w w' := by
 have hu86 := Try.underlying86; have HB := A_ (Below.refl w.heap.size w); unfold date_Months.f at h; have H := h; clear h; have HC3 := A_ H; clear H; go_enter Try.func112, Try.ntmps112
 go_upto_region 1 with (first | ((with_reducible refine gate_dst (N := 2) rfl ?_); refine be_ (N := 2) (cs := #[.int .i64 a0_0, .int .i64 a0_1, .int .i64 a0_2]) (t := 86) ?_; intro gb410 hg w4 hbox hb; have BK410 := A_ (hbox); have GW410 := A_ ((by rw [hg]; exact (below_size (bl_ HB)) : w.heap.size ≤ gb410)); have GE410 := A_ ((by rw [hg]; exact (below_size (bl_ HB)) : w.heap.size ≤ gb410)); replace HB := A_ (below_step (bl_ HB) hb); clear hb hbox hg) | ((with_reducible refine gate_dst (N := 4) rfl ?_); refine be_ (N := 4) (cs := #[.int .i64 0, .int .i64 0, .int .i64 0]) (t := 86) ?_; intro gb411 hg w5 hbox hb; have BK411 := A_ (hbox); have GW411 := A_ ((by rw [hg]; exact (below_size (bl1_ HB GE410.out)) : w.heap.size ≤ gb411)); have GE411 := A_ ((by rw [hg]; exact (below_size (bl1_ HB GE410.out)) : w.heap.size ≤ gb411)); have NB410_411 := A_ ((by rw [hg]; exact Nat.ne_of_lt (blk_lt (bx_ BK410)) : gb410 ≠ gb411)); have NB411_410 := A_ ((by rw [hg]; exact Nat.ne_of_gt (blk_lt (bx_ BK410)) : gb411 ≠ gb410)); replace BK410 := A_ (blk_below (bx_ BK410) hb); replace HB := A_ (below_step (bl1_ HB GE410.out) hb); clear hb hbox hg))
 (try simp only [Act.put, List.setIfInBounds_toArray, List.set_cons_zero, List.set_cons_succ])
 go_cut [18] (fun v18 wc => ∃ (kq : Nat) (x18_2 : Bool), v18 = .bool x18_2 ∧ Aside0 (date_Months.j0 kq a1 x18_2 a0_0 a0_1 a0_2 = some (r1, r2, r3, r4)) ∧ Aside0 (kq ≤ k) ∧ Aside0 (wc.heap[gb410]? = some (.cells #[.int .i64 a0_0, .int .i64 a0_1, .int .i64 a0_2] 86 (0, 0))) ∧ Aside0 (wc.heap[gb411]? = some (.cells #[.int .i64 0, .int .i64 0, .int .i64 0] 86 (0, 0))) ∧ Aside0 (Below w.heap.size w wc))
 case first =>
  have H := HC3.out; clear HC3; replace H := Option.bind_eq_some_iff.mp H; obtain ⟨t412, A60, H⟩ := H; (try dsimp only at H); have A6 := A_ A60; clear A60; by_cases c7 : t412 = true
  ·subst c7; rw [if_pos rfl] at H; by_cases c8 : a1 > 3600
   ·rw [if_pos c8] at H; have c8b0 : decide (3600 < a1) = true := decide_eq_true c8; clear c8
    (first | rw [c8b0] | (simp only [i64_w, i32_w]; rw [c8b0]) | skip)
    have H' := A_ H; clear H; have hnb9 := NB410_411.out; have hnc9 := NB411_410.out; have hcz10_0 := cz_ BK410 0; have hcz10_1 := cz_ BK410 1; have hcz10_2 := cz_ BK410 2; have hfz10_0 := fz_ BK410 0; have hfz10_1 := fz_ BK410 1; have hfz10_2 := fz_ BK410 2; go_wp2_with (first | ((with_reducible refine gate_callee (f := 147) rfl ?_); refine gm_ (some 9) Try.func147 #[.agg #[.int .i64 a0_0, .int .i64 a0_1, .int .i64 a0_2]] ?_; (with_reducible refine (date_Right.calls k a0_0 a0_1 a0_2 true _ A6.out).mono ?_); rintro e w11 ⟨rfl, hb⟩; refine ⟨_, rfl, ?_⟩; replace BK410 := A_ (blk_below (bx_ BK410) hb); replace BK411 := A_ (blk_below (bx_ BK411) hb); replace HB := A_ (below_step (bl2_ HB GE410.out GE411.out) hb); (try clear hb); (try clear hb2); (try clear hk); (try clear hi)))
    go_meet
    case rel => exact ⟨_, (true), (sx_), H', ⟨by first | omega | exact Nat.le_refl _⟩, ⟨bx_ BK410⟩, ⟨bx_ BK411⟩, ⟨bl2_ HB GE410.out GE411.out⟩⟩
   ·rw [if_neg c8] at H; have c8b0 : decide (3600 < a1) = false := decide_eq_false c8; clear c8
    (first | rw [c8b0] | (simp only [i64_w, i32_w]; rw [c8b0]) | skip)
    have H' := A_ H; clear H; have hnb12 := NB410_411.out; have hnc12 := NB411_410.out; have hcz13_0 := cz_ BK410 0; have hcz13_1 := cz_ BK410 1; have hcz13_2 := cz_ BK410 2; have hfz13_0 := fz_ BK410 0; have hfz13_1 := fz_ BK410 1; have hfz13_2 := fz_ BK410 2; go_wp2_with (first | ((with_reducible refine gate_callee (f := 147) rfl ?_); refine gm_ (some 9) Try.func147 #[.agg #[.int .i64 a0_0, .int .i64 a0_1, .int .i64 a0_2]] ?_; (with_reducible refine (date_Right.calls k a0_0 a0_1 a0_2 true _ A6.out).mono ?_); rintro e w14 ⟨rfl, hb⟩; refine ⟨_, rfl, ?_⟩; replace BK410 := A_ (blk_below (bx_ BK410) hb); replace BK411 := A_ (blk_below (bx_ BK411) hb); replace HB := A_ (below_step (bl2_ HB GE410.out GE411.out) hb); (try clear hb); (try clear hb2); (try clear hk); (try clear hi)))
    go_meet
    case rel => exact ⟨_, (decide (a1 < (-3600))), (sx_), H', ⟨by first | omega | exact Nat.le_refl _⟩, ⟨bx_ BK410⟩, ⟨bx_ BK411⟩, ⟨bl2_ HB GE410.out GE411.out⟩⟩
  ·replace c7 := Bool.eq_false_iff.mpr c7; subst c7; rw [if_neg (show ¬ (false = true) by decide)] at H; have H' := A_ H; clear H; have hnb15 := NB410_411.out; have hnc15 := NB411_410.out; have hcz16_0 := cz_ BK410 0; have hcz16_1 := cz_ BK410 1; have hcz16_2 := cz_ BK410 2; have hfz16_0 := fz_ BK410 0; have hfz16_1 := fz_ BK410 1; have hfz16_2 := fz_ BK410 2; go_wp2_with (first | ((with_reducible refine gate_callee (f := 147) rfl ?_); refine gm_ (some 9) Try.func147 #[.agg #[.int .i64 a0_0, .int .i64 a0_1, .int .i64 a0_2]] ?_; (with_reducible refine (date_Right.calls k a0_0 a0_1 a0_2 false _ A6.out).mono ?_); rintro e w17 ⟨rfl, hb⟩; refine ⟨_, rfl, ?_⟩; replace BK410 := A_ (blk_below (bx_ BK410) hb); replace BK411 := A_ (blk_below (bx_ BK411) hb); replace HB := A_ (below_step (bl2_ HB GE410.out GE411.out) hb); (try clear hb); (try clear hb2); (try clear hk); (try clear hi)))
   go_meet
   case rel => exact ⟨_, (true), (sx_), H', ⟨by first | omega | exact Nat.le_refl _⟩, ⟨bx_ BK410⟩, ⟨bx_ BK411⟩, ⟨bl2_ HB GE410.out GE411.out⟩⟩
 case rest =>
  clear HC3; try clear c1
  try clear p2
  try clear c7
  try clear c8
  try clear c8b0
  try clear c9
  try clear c11
  try clear c12
  try clear c14
  try clear c15
  try clear hcz10_0 hcz10_1 hcz10_2
  try clear hcz13_0 hcz13_1 hcz13_2
  try clear hcz16_0 hcz16_1 hcz16_2
  try clear hfz10_0 hfz10_1 hfz10_2
  try clear hfz13_0 hfz13_1 hfz13_2
  try clear hfz16_0 hfz16_1 hfz16_2
  obtain ⟨kq, x18_2, rfl, HA, HJ2, BK410, BK411, HB⟩ := hcut
  cases kq with
  | zero => exact absurd HA.out (by simp [date_Months.j0])
  | succ kj2 =>
   have H := HA.out; clear HA; simp only [date_Months.j0] at H; by_cases c18 : x18_2 = true
   ·subst c18; rw [if_pos rfl] at H; simp only [Option.some.injEq, Prod.mk.injEq] at H; obtain ⟨rfl, rfl, rfl, rfl⟩ := H; have hnb19 := NB411_410.out; have hnc19 := NB410_411.out; have hcz20_0 := cz_ BK411 0; have hcz20_1 := cz_ BK411 1; have hcz20_2 := cz_ BK411 2; have hfz20_0 := fz_ BK411 0; have hfz20_1 := fz_ BK411 1; have hfz20_2 := fz_ BK411 2
    go_wp2
    refine bodyPost_ret (results_ct rfl _ _ gb411 86 #[.int .i64 0, .int .i64 0, .int .i64 0] (0, 0) _ rfl (by refine bw_ ?_; refine blk_put (cs := #[.int .i64 0, .int .i64 0, .int .i64 0]) ?_ 2 _ rfl; refine bw_ ?_; refine blk_put (cs := #[.int .i64 0, .int .i64 0, .int .i64 0]) ?_ 1 _ rfl; refine bw_ ?_; refine blk_put (cs := #[.int .i64 0, .int .i64 0, .int .i64 0]) ?_ 0 _ rfl; refine bw_ ?_; exact BK411.out) Try.underlying86 rfl (by kernel_rfl)) rfl ?_
    exact ⟨er_, bl2_ HB GE410.out GE411.out⟩
   ·replace c18 := Bool.eq_false_iff.mpr c18; subst c18; rw [if_neg (show ¬ (false = true) by decide)] at H; replace H := Option.bind_eq_some_iff.mp H; obtain ⟨t414, A210, H⟩ := H; (try dsimp only at H); have A21 := A_ A210; clear A210; obtain ⟨ji22, hji22⟩ : ∃ j_ : Int, (mn a0_2 t414) = j_ := ⟨_, rfl⟩; replace H : ((date_Right.f kj2 (wrap64 (Int.tdiv (wrap64 ((wrap64 ((wrap64 ((wrap64 (12 * a0_0)) + a0_1)) - 1)) + a1)) 12)) (wrap64 ((Int.tmod (wrap64 ((wrap64 ((wrap64 ((wrap64 (12 * a0_0)) + a0_1)) - 1)) + a1)) 12) + 1)) (ji22)).bind fun t415 => (if t415 = true then (some (wrap64 (Int.tdiv (wrap64 ((wrap64 ((wrap64 ((wrap64 (12 * a0_0)) + a0_1)) - 1)) + a1)) 12), wrap64 ((Int.tmod (wrap64 ((wrap64 ((wrap64 ((wrap64 (12 * a0_0)) + a0_1)) - 1)) + a1)) 12) + 1), ji22, 0)) else (some (0, 0, 0, 30)))) = some (r1, r2, r3, r4) := by first | (rw [hji22] at H; exact H) | (simp only [hji22] at H ⊢; exact H)
    (try rw [hji22] at A21)
    have hji22_ : (if t414 < a0_2 then t414 else a0_2) = ji22 := hji22; replace H := Option.bind_eq_some_iff.mp H; obtain ⟨t415, A230, H⟩ := H; (try dsimp only at H); have A23 := A_ A230; clear A230; by_cases c24 : t415 = true
    ·subst c24; rw [if_pos rfl] at H; simp only [Option.some.injEq, Prod.mk.injEq] at H; obtain ⟨rfl, rfl, rfl, rfl⟩ := H; have hnb25 := NB410_411.out; have hnc25 := NB411_410.out; have hcz26_0 := cz_ BK410 0; have hcz26_1 := cz_ BK410 1; have hcz26_2 := cz_ BK410 2; have hfz26_0 := fz_ BK410 0; have hfz26_1 := fz_ BK410 1; have hfz26_2 := fz_ BK410 2
     try go_wp2_with (first | ((with_reducible refine gate_dst (N := 7) rfl ?_); refine be_ (N := 7) (cs := #[.int .i64 0, .int .i64 0, .int .i64 0]) (t := 86) ?_; intro gb413 hg w27 hbox hb; have BK413 := A_ (hbox); have GW413 := A_ ((by rw [hg]; exact (below_size (bl2_ HB GE410.out GE411.out)) : w.heap.size ≤ gb413)); have GE413 := A_ ((by rw [hg]; exact (below_size (bl2_ HB GE410.out GE411.out)) : w.heap.size ≤ gb413)); have NB410_413 := A_ ((by rw [hg]; exact Nat.ne_of_lt (blk_lt (bx_ BK410)) : gb410 ≠ gb413)); have NB413_410 := A_ ((by rw [hg]; exact Nat.ne_of_gt (blk_lt (bx_ BK410)) : gb413 ≠ gb410)); have NB411_413 := A_ ((by rw [hg]; exact Nat.ne_of_lt (blk_lt (bx_ BK411)) : gb411 ≠ gb413)); have NB413_411 := A_ ((by rw [hg]; exact Nat.ne_of_gt (blk_lt (bx_ BK411)) : gb413 ≠ gb411)); replace BK410 := A_ (blk_below (bx_ BK410) hb); replace BK411 := A_ (blk_below (bx_ BK411) hb); replace HB := A_ (below_step (bl2_ HB GE410.out GE411.out) hb); clear hb hbox hg; have hnb28 := NB413_410.out; have hnc28 := NB410_413.out; have hnb29 := NB413_411.out; have hnc29 := NB411_413.out; have hcz30_0 := cz_ BK413 0; have hcz30_1 := cz_ BK413 1; have hcz30_2 := cz_ BK413 2; have hfz30_0 := fz_ BK413 0; have hfz30_1 := fz_ BK413 1; have hfz30_2 := fz_ BK413 2))
     have n0_ : Aside0 ((((w27.setCell ⟨gb413, 0, none⟩ (.int .i64 (wrap64 (Int.tdiv (wrap64 ((wrap64 ((wrap64 ((wrap64 (12 * a0_0)) + a0_1)) - 1)) + a1)) 12)))).setCell ⟨gb413, 1, none⟩ (.int .i64 (wrap64 ((Int.tmod (wrap64 ((wrap64 ((wrap64 ((wrap64 (12 * a0_0)) + a0_1)) - 1)) + a1)) 12) + 1)))).setCell ⟨gb413, 2, none⟩ (.int .i64 a0_2)).heap[gb410]? = some (.cells #[.int .i64 a0_0, .int .i64 a0_1, .int .i64 a0_2] 86 (0, 0))) := ⟨by refine bw_ ?_; refine blk_far ?_ NB410_413.out _; refine bw_ ?_; refine blk_far ?_ NB410_413.out _; refine bw_ ?_; refine blk_far ?_ NB410_413.out _; refine bw_ ?_; exact BK410.out⟩; have n1_ : Aside0 ((((w27.setCell ⟨gb413, 0, none⟩ (.int .i64 (wrap64 (Int.tdiv (wrap64 ((wrap64 ((wrap64 ((wrap64 (12 * a0_0)) + a0_1)) - 1)) + a1)) 12)))).setCell ⟨gb413, 1, none⟩ (.int .i64 (wrap64 ((Int.tmod (wrap64 ((wrap64 ((wrap64 ((wrap64 (12 * a0_0)) + a0_1)) - 1)) + a1)) 12) + 1)))).setCell ⟨gb413, 2, none⟩ (.int .i64 a0_2)).heap[gb411]? = some (.cells #[.int .i64 0, .int .i64 0, .int .i64 0] 86 (0, 0))) := ⟨by refine bw_ ?_; refine blk_far ?_ NB411_413.out _; refine bw_ ?_; refine blk_far ?_ NB411_413.out _; refine bw_ ?_; refine blk_far ?_ NB411_413.out _; refine bw_ ?_; exact BK411.out⟩; have n2_ : Aside0 ((((w27.setCell ⟨gb413, 0, none⟩ (.int .i64 (wrap64 (Int.tdiv (wrap64 ((wrap64 ((wrap64 ((wrap64 (12 * a0_0)) + a0_1)) - 1)) + a1)) 12)))).setCell ⟨gb413, 1, none⟩ (.int .i64 (wrap64 ((Int.tmod (wrap64 ((wrap64 ((wrap64 ((wrap64 (12 * a0_0)) + a0_1)) - 1)) + a1)) 12) + 1)))).setCell ⟨gb413, 2, none⟩ (.int .i64 a0_2)).heap[gb413]? = some (.cells #[.int .i64 (wrap64 (Int.tdiv (wrap64 ((wrap64 ((wrap64 ((wrap64 (12 * a0_0)) + a0_1)) - 1)) + a1)) 12)), .int .i64 (wrap64 ((Int.tmod (wrap64 ((wrap64 ((wrap64 ((wrap64 (12 * a0_0)) + a0_1)) - 1)) + a1)) 12) + 1)), .int .i64 a0_2] 86 (0, 0))) := ⟨by refine bw_ ?_; refine blk_put (cs := #[.int .i64 (wrap64 (Int.tdiv (wrap64 ((wrap64 ((wrap64 ((wrap64 (12 * a0_0)) + a0_1)) - 1)) + a1)) 12)), .int .i64 (wrap64 ((Int.tmod (wrap64 ((wrap64 ((wrap64 ((wrap64 (12 * a0_0)) + a0_1)) - 1)) + a1)) 12) + 1)), .int .i64 0]) ?_ 2 _ rfl; refine bw_ ?_; refine blk_put (cs := #[.int .i64 (wrap64 (Int.tdiv (wrap64 ((wrap64 ((wrap64 ((wrap64 (12 * a0_0)) + a0_1)) - 1)) + a1)) 12)), .int .i64 0, .int .i64 0]) ?_ 1 _ rfl; refine bw_ ?_; refine blk_put (cs := #[.int .i64 0, .int .i64 0, .int .i64 0]) ?_ 0 _ rfl; refine bw_ ?_; exact BK413.out⟩; have n3_ : Aside0 (Below w.heap.size w (((w27.setCell ⟨gb413, 0, none⟩ (.int .i64 (wrap64 (Int.tdiv (wrap64 ((wrap64 ((wrap64 ((wrap64 (12 * a0_0)) + a0_1)) - 1)) + a1)) 12)))).setCell ⟨gb413, 1, none⟩ (.int .i64 (wrap64 ((Int.tmod (wrap64 ((wrap64 ((wrap64 ((wrap64 (12 * a0_0)) + a0_1)) - 1)) + a1)) 12) + 1)))).setCell ⟨gb413, 2, none⟩ (.int .i64 a0_2))) := ⟨bl3_ HB GE410.out GE411.out GE413.out⟩
     (try clear BK410)
     (try clear BK411)
     (try clear BK413)
     (try clear HB)
     generalize (((w27.setCell ⟨gb413, 0, none⟩ (.int .i64 (wrap64 (Int.tdiv (wrap64 ((wrap64 ((wrap64 ((wrap64 (12 * a0_0)) + a0_1)) - 1)) + a1)) 12)))).setCell ⟨gb413, 1, none⟩ (.int .i64 (wrap64 ((Int.tmod (wrap64 ((wrap64 ((wrap64 ((wrap64 (12 * a0_0)) + a0_1)) - 1)) + a1)) 12) + 1)))).setCell ⟨gb413, 2, none⟩ (.int .i64 a0_2)) = w31 at n0_ n1_ n2_ n3_ ⊢; have BK410 := n0_; have BK411 := n1_; have BK413 := n2_; have HB := n3_; clear n0_ n1_ n2_ n3_; replace BK410 := A_ (blk_drew BK410.out); replace BK411 := A_ (blk_drew BK411.out); replace BK413 := A_ (blk_drew BK413.out); replace HB := A_ (below_drew1 HB.out); refine start_ (n := 10) (S := fun w' => w'.cell? ⟨gb413, 0, none⟩ = some (.int .i64 (wrap64 (Int.tdiv (wrap64 ((wrap64 ((wrap64 ((wrap64 (12 * a0_0)) + a0_1)) - 1)) + a1)) 12))) ∧ w'.cell? ⟨gb413, 1, none⟩ = some (.int .i64 (wrap64 ((Int.tmod (wrap64 ((wrap64 ((wrap64 ((wrap64 (12 * a0_0)) + a0_1)) - 1)) + a1)) 12) + 1))) ∧ w'.cell? ⟨gb413, 2, none⟩ = some (.int .i64 a0_2)) (ds := [9]) #[false, false, false, false, false, false, false, false, false, false] (by kernel_rfl) rfl rfl ⟨(blk_cell BK413.out 0).trans rfl, (blk_cell BK413.out 1).trans rfl, (blk_cell BK413.out 2).trans rfl⟩ (fun hHeld => ?_); refine with_tabW date_Months.tab5 date_Months.bits5 (fun HT_ HW_ => ?_)
     generalize w31.drew = w32 at BK410 BK411 BK413 HB hHeld ⊢; refine pure_ (i := 0) (N := some 37) (v := ?_) (a' := ?_) #[true, false, false, false, false, false, false, false, false, false] rfl rfl (any_of HT_.out (by kernel_rfl)) (fun _ _ _ h => h) (Or.inl ⟨by rfl, ?_⟩) ?_ ?_
     rotate_left
     ·intro w'
      go_simp
      with_reducible rfl
     rotate_left
     ·simp only [Act.put, List.setIfInBounds_toArray, List.set_cons_zero, List.set_cons_succ, i64_w, i32_w]
      rfl
     refine pure_ (i := 2) (N := some 39) (v := ?_) (a' := ?_) #[true, false, true, false, false, false, false, false, false, false] rfl rfl (any_of HT_.out (by kernel_rfl)) (fun _ _ _ h => h) (Or.inl ⟨by rfl, ?_⟩) ?_ ?_
     rotate_left
     ·intro w'
      go_simp
      with_reducible rfl
     rotate_left
     ·simp only [Act.put, List.setIfInBounds_toArray, List.set_cons_zero, List.set_cons_succ, i64_w, i32_w]
      rfl
     refine pure_ (i := 4) (N := some 41) (v := ?_) (a' := ?_) #[true, false, true, false, true, false, false, false, false, false] rfl rfl (any_of HT_.out (by kernel_rfl)) (fun _ _ _ h => h) (Or.inl ⟨by rfl, ?_⟩) ?_ ?_
     rotate_left
     ·intro w'
      go_simp
      with_reducible rfl
     rotate_left
     ·simp only [Act.put, List.setIfInBounds_toArray, List.set_cons_zero, List.set_cons_succ, i64_w, i32_w]
      rfl
     refine take_ (i := 1) (N := some 38) (v := ?_) (a' := ?_) #[true, true, true, false, true, false, false, false, false, false] rfl rfl (take_ofW HT_.out HW_.out (by kernel_rfl)) (fun _ _ _ h => h) (Or.inl ⟨by rfl, ?_⟩) hHeld ?_ ?_
     rotate_left
     ·rintro w' ⟨s0, s1, s2⟩
      go_simp
      with_reducible rfl
     rotate_left
     ·simp only [Act.put, List.setIfInBounds_toArray, List.set_cons_zero, List.set_cons_succ, i64_w, i32_w]
      rfl
     refine take_ (i := 3) (N := some 40) (v := ?_) (a' := ?_) #[true, true, true, true, true, false, false, false, false, false] rfl rfl (take_ofW HT_.out HW_.out (by kernel_rfl)) (fun _ _ _ h => h) (Or.inl ⟨by rfl, ?_⟩) hHeld ?_ ?_
     rotate_left
     ·rintro w' ⟨s0, s1, s2⟩
      go_simp
      with_reducible rfl
     rotate_left
     ·simp only [Act.put, List.setIfInBounds_toArray, List.set_cons_zero, List.set_cons_succ, i64_w, i32_w]
      rfl
     refine take_ (i := 5) (N := some 42) (v := ?_) (a' := ?_) #[true, true, true, true, true, true, false, false, false, false] rfl rfl (take_ofW HT_.out HW_.out (by kernel_rfl)) (fun _ _ _ h => h) (Or.inl ⟨by rfl, ?_⟩) hHeld ?_ ?_
     rotate_left
     ·rintro w' ⟨s0, s1, s2⟩
      go_simp
      with_reducible rfl
     rotate_left
     ·simp only [Act.put, List.setIfInBounds_toArray, List.set_cons_zero, List.set_cons_succ, i64_w, i32_w]
      rfl
     refine one_ (i := 6) (N := some 43) #[true, true, true, true, true, true, true, false, false, false] rfl rfl (one_of HT_.out (by kernel_rfl)) (by decide) (fun K hK => ?_)
     refine goes_ Try.func148 (by kernel_rfl) rfl #[.int .i64 (wrap64 (Int.tdiv (wrap64 ((wrap64 ((wrap64 ((wrap64 (12 * a0_0)) + a0_1)) - 1)) + a1)) 12)), .int .i64 (wrap64 ((Int.tmod (wrap64 ((wrap64 ((wrap64 ((wrap64 (12 * a0_0)) + a0_1)) - 1)) + a1)) 12) + 1))] (by rfl) rfl rfl (by (try simp only [List.map_toArray, List.map_cons, List.map_nil]); first | done | rfl | (simp only [List.length_drop, List.length_take]; rfl)) ?_
     with_reducible refine (date_Last.calls kj2 (wrap64 (Int.tdiv (wrap64 ((wrap64 ((wrap64 ((wrap64 (12 * a0_0)) + a0_1)) - 1)) + a1)) 12)) (wrap64 ((Int.tmod (wrap64 ((wrap64 ((wrap64 ((wrap64 (12 * a0_0)) + a0_1)) - 1)) + a1)) 12) + 1)) t414 _ A21.out).mono ?_
     rintro e w' ⟨rfl, ⟨nd, rfl⟩⟩; refine ⟨_, rfl, ?_⟩
     refine hK.out _ _ ⟨(blk_cell BK413.out 0).trans rfl, (blk_cell BK413.out 1).trans rfl, (blk_cell BK413.out 2).trans rfl⟩ (fun hHeld => ?_)
     clear hK K; refine norm_ (a' := ?_) ?_ ?_
     rotate_left
     ·show Act.put _ (some 43) _ = _
      simp only [Act.put, List.setIfInBounds_toArray, List.set_cons_zero, List.set_cons_succ, i64_w, i32_w]
      rfl
     refine pure_ (i := 7) (N := some 44) (v := ?_) (a' := ?_) #[true, true, true, true, true, true, true, true, false, false] rfl rfl (any_of HT_.out (by kernel_rfl)) (fun _ _ _ h => h) (Or.inl ⟨by rfl, ?_⟩) ?_ ?_
     rotate_left
     ·intro w'
      go_simp
      with_reducible rfl
     rotate_left
     ·simp only [Act.put, List.setIfInBounds_toArray, List.set_cons_zero, List.set_cons_succ, i64_w, i32_w]
      rfl
     refine pure_ (i := 8) (N := some 45) (v := ?_) (a' := ?_) #[true, true, true, true, true, true, true, true, true, false] rfl rfl (any_of HT_.out (by kernel_rfl)) (fun _ _ _ h => h) (Or.inl ⟨by rfl, ?_⟩) ?_ ?_
     rotate_left
     ·intro w'
      go_simp
      with_reducible rfl
     rotate_left
     ·simp only [Act.put, List.setIfInBounds_toArray, List.set_cons_zero, List.set_cons_succ, i64_w, i32_w]
      rfl
     refine last_ (i := 9) (N := none) #[true, true, true, true, true, true, true, true, true, true] rfl rfl (one_of HT_.out (by kernel_rfl)) (by decide) (fun K hK => ?_)
     have hs33 : w32.cell? ⟨gb413, 2, none⟩ = some (.int .i64 a0_2) := (blk_cell BK413.out 2).trans rfl; have hfs33 := fz_ BK413 2; have hns33_0 := NB410_413.out; have hns33_1 := NB411_413.out; have hms33_0 := NB413_410.out; have hms33_1 := NB413_411.out; refine skip_ (w1 := ?_) (by rfl) rfl ?_ ?_
     rotate_left
     ·go_simp
      rfl
     refine hK.out _ _ ?_
     clear hK K; refine done_ (done_of HT_.out (by kernel_rfl)) ?_
     have hcz34_0 : w32.cell? ⟨gb413, 0, none⟩ = some (.int .i64 (wrap64 (Int.tdiv (wrap64 ((wrap64 ((wrap64 ((wrap64 (12 * a0_0)) + a0_1)) - 1)) + a1)) 12))) := (blk_cell BK413.out 0).trans rfl; have hcz34_1 : w32.cell? ⟨gb413, 1, none⟩ = some (.int .i64 (wrap64 ((Int.tmod (wrap64 ((wrap64 ((wrap64 ((wrap64 (12 * a0_0)) + a0_1)) - 1)) + a1)) 12) + 1))) := (blk_cell BK413.out 1).trans rfl; have hcz34_2 := cz_ BK413 2; have hfz34_0 := fz_ BK413 0; have hfz34_1 := fz_ BK413 1; have hfz34_2 := fz_ BK413 2
     try go_wp2_with (first | ((with_reducible refine gate_callee (f := 147) rfl ?_); refine goesL_ (some 47) rfl rfl Try.func147 (by kernel_rfl) rfl #[.agg #[.int .i64 (wrap64 (Int.tdiv (wrap64 ((wrap64 ((wrap64 ((wrap64 (12 * a0_0)) + a0_1)) - 1)) + a1)) 12)), .int .i64 (wrap64 ((Int.tmod (wrap64 ((wrap64 ((wrap64 ((wrap64 (12 * a0_0)) + a0_1)) - 1)) + a1)) 12) + 1)), .int .i64 ji22]] rfl (by (try simp only [List.map_toArray, List.map_cons, List.map_nil]); first | done | (simp only [hji22]; rfl) | rfl | (simp only [List.length_drop, List.length_take]; rfl)) ?_; (with_reducible refine (date_Right.calls kj2 (wrap64 (Int.tdiv (wrap64 ((wrap64 ((wrap64 ((wrap64 (12 * a0_0)) + a0_1)) - 1)) + a1)) 12)) (wrap64 ((Int.tmod (wrap64 ((wrap64 ((wrap64 ((wrap64 (12 * a0_0)) + a0_1)) - 1)) + a1)) 12) + 1)) ji22 true _ A23.out).mono ?_); rintro e w35 ⟨rfl, hb⟩; refine ⟨_, rfl, ?_⟩; replace BK410 := A_ (blk_below (g := gb410) (o := .cells #[.int .i64 a0_0, .int .i64 a0_1, .int .i64 a0_2] 86 (0, 0)) (by refine bw_ ?_; refine blk_far ?_ NB410_413.out _; refine bw_ ?_; exact BK410.out) hb); replace BK411 := A_ (blk_below (g := gb411) (o := .cells #[.int .i64 0, .int .i64 0, .int .i64 0] 86 (0, 0)) (by refine bw_ ?_; refine blk_far ?_ NB411_413.out _; refine bw_ ?_; exact BK411.out) hb); replace BK413 := A_ (blk_below (g := gb413) (o := .cells #[.int .i64 (wrap64 (Int.tdiv (wrap64 ((wrap64 ((wrap64 ((wrap64 (12 * a0_0)) + a0_1)) - 1)) + a1)) 12)), .int .i64 (wrap64 ((Int.tmod (wrap64 ((wrap64 ((wrap64 ((wrap64 (12 * a0_0)) + a0_1)) - 1)) + a1)) 12) + 1)), .int .i64 ji22] 86 (0, 0)) (by refine bw_ ?_; refine blk_put (cs := #[.int .i64 (wrap64 (Int.tdiv (wrap64 ((wrap64 ((wrap64 ((wrap64 (12 * a0_0)) + a0_1)) - 1)) + a1)) 12)), .int .i64 (wrap64 ((Int.tmod (wrap64 ((wrap64 ((wrap64 ((wrap64 (12 * a0_0)) + a0_1)) - 1)) + a1)) 12) + 1)), .int .i64 a0_2]) ?_ 2 _ rfl; refine bw_ ?_; exact BK413.out) hb); replace HB := A_ (below_step (bl3_ HB GE410.out GE411.out GE413.out) hb); (try clear hb); (try clear hb2); (try clear hk); (try clear hi); have hcz36_0 : w35.cell? ⟨gb413, 0, none⟩ = some (.int .i64 (wrap64 (Int.tdiv (wrap64 ((wrap64 ((wrap64 ((wrap64 (12 * a0_0)) + a0_1)) - 1)) + a1)) 12))) := (blk_cell BK413.out 0).trans rfl; have hcz36_1 : w35.cell? ⟨gb413, 1, none⟩ = some (.int .i64 (wrap64 ((Int.tmod (wrap64 ((wrap64 ((wrap64 ((wrap64 (12 * a0_0)) + a0_1)) - 1)) + a1)) 12) + 1))) := (blk_cell BK413.out 1).trans rfl; have hcz36_2 := cz_ BK413 2; have hfz36_0 := fz_ BK413 0; have hfz36_1 := fz_ BK413 1; have hfz36_2 := fz_ BK413 2; have hcz37_0 := cz_ BK411 0; have hcz37_1 := cz_ BK411 1; have hcz37_2 := cz_ BK411 2; have hfz37_0 := fz_ BK411 0; have hfz37_1 := fz_ BK411 1; have hfz37_2 := fz_ BK411 2))
     refine bodyPost_ret (results_ct rfl _ _ gb411 86 #[.int .i64 (wrap64 (Int.tdiv (wrap64 ((wrap64 ((wrap64 ((wrap64 (12 * a0_0)) + a0_1)) - 1)) + a1)) 12)), .int .i64 (wrap64 ((Int.tmod (wrap64 ((wrap64 ((wrap64 ((wrap64 (12 * a0_0)) + a0_1)) - 1)) + a1)) 12) + 1)), .int .i64 ji22] (0, 0) _ rfl (by refine bw_ ?_; refine blk_put (cs := #[.int .i64 (wrap64 (Int.tdiv (wrap64 ((wrap64 ((wrap64 ((wrap64 (12 * a0_0)) + a0_1)) - 1)) + a1)) 12)), .int .i64 (wrap64 ((Int.tmod (wrap64 ((wrap64 ((wrap64 ((wrap64 (12 * a0_0)) + a0_1)) - 1)) + a1)) 12) + 1)), .int .i64 0]) ?_ 2 _ rfl; refine bw_ ?_; refine blk_put (cs := #[.int .i64 (wrap64 (Int.tdiv (wrap64 ((wrap64 ((wrap64 ((wrap64 (12 * a0_0)) + a0_1)) - 1)) + a1)) 12)), .int .i64 0, .int .i64 0]) ?_ 1 _ rfl; refine bw_ ?_; refine blk_put (cs := #[.int .i64 0, .int .i64 0, .int .i64 0]) ?_ 0 _ rfl; refine bw_ ?_; exact BK411.out) Try.underlying86 rfl (by kernel_rfl)) rfl ?_
     exact ⟨by first | rfl | (simp [errW_none, errW_some] <;> rfl) | (simp only [← hji22]; first | rfl | (simp [errW_none, errW_some] <;> rfl)) | (simp [*, errW_none, errW_some] <;> rfl), bl3_ HB GE410.out GE411.out GE413.out⟩
    ·replace c24 := Bool.eq_false_iff.mpr c24; subst c24; rw [if_neg (show ¬ (false = true) by decide)] at H; simp only [Option.some.injEq, Prod.mk.injEq] at H; obtain ⟨rfl, rfl, rfl, rfl⟩ := H; have hnb38 := NB410_411.out; have hnc38 := NB411_410.out; have hcz39_0 := cz_ BK410 0; have hcz39_1 := cz_ BK410 1; have hcz39_2 := cz_ BK410 2; have hfz39_0 := fz_ BK410 0; have hfz39_1 := fz_ BK410 1; have hfz39_2 := fz_ BK410 2
     try go_wp2_with (first | ((with_reducible refine gate_dst (N := 7) rfl ?_); refine be_ (N := 7) (cs := #[.int .i64 0, .int .i64 0, .int .i64 0]) (t := 86) ?_; intro gb413 hg w40 hbox hb; have BK413 := A_ (hbox); have GW413 := A_ ((by rw [hg]; exact (below_size (bl2_ HB GE410.out GE411.out)) : w.heap.size ≤ gb413)); have GE413 := A_ ((by rw [hg]; exact (below_size (bl2_ HB GE410.out GE411.out)) : w.heap.size ≤ gb413)); have NB410_413 := A_ ((by rw [hg]; exact Nat.ne_of_lt (blk_lt (bx_ BK410)) : gb410 ≠ gb413)); have NB413_410 := A_ ((by rw [hg]; exact Nat.ne_of_gt (blk_lt (bx_ BK410)) : gb413 ≠ gb410)); have NB411_413 := A_ ((by rw [hg]; exact Nat.ne_of_lt (blk_lt (bx_ BK411)) : gb411 ≠ gb413)); have NB413_411 := A_ ((by rw [hg]; exact Nat.ne_of_gt (blk_lt (bx_ BK411)) : gb413 ≠ gb411)); replace BK410 := A_ (blk_below (bx_ BK410) hb); replace BK411 := A_ (blk_below (bx_ BK411) hb); replace HB := A_ (below_step (bl2_ HB GE410.out GE411.out) hb); clear hb hbox hg; have hnb41 := NB413_410.out; have hnc41 := NB410_413.out; have hnb42 := NB413_411.out; have hnc42 := NB411_413.out; have hcz43_0 := cz_ BK413 0; have hcz43_1 := cz_ BK413 1; have hcz43_2 := cz_ BK413 2; have hfz43_0 := fz_ BK413 0; have hfz43_1 := fz_ BK413 1; have hfz43_2 := fz_ BK413 2))
     have n0_ : Aside0 ((((w40.setCell ⟨gb413, 0, none⟩ (.int .i64 (wrap64 (Int.tdiv (wrap64 ((wrap64 ((wrap64 ((wrap64 (12 * a0_0)) + a0_1)) - 1)) + a1)) 12)))).setCell ⟨gb413, 1, none⟩ (.int .i64 (wrap64 ((Int.tmod (wrap64 ((wrap64 ((wrap64 ((wrap64 (12 * a0_0)) + a0_1)) - 1)) + a1)) 12) + 1)))).setCell ⟨gb413, 2, none⟩ (.int .i64 a0_2)).heap[gb410]? = some (.cells #[.int .i64 a0_0, .int .i64 a0_1, .int .i64 a0_2] 86 (0, 0))) := ⟨by refine bw_ ?_; refine blk_far ?_ NB410_413.out _; refine bw_ ?_; refine blk_far ?_ NB410_413.out _; refine bw_ ?_; refine blk_far ?_ NB410_413.out _; refine bw_ ?_; exact BK410.out⟩; have n1_ : Aside0 ((((w40.setCell ⟨gb413, 0, none⟩ (.int .i64 (wrap64 (Int.tdiv (wrap64 ((wrap64 ((wrap64 ((wrap64 (12 * a0_0)) + a0_1)) - 1)) + a1)) 12)))).setCell ⟨gb413, 1, none⟩ (.int .i64 (wrap64 ((Int.tmod (wrap64 ((wrap64 ((wrap64 ((wrap64 (12 * a0_0)) + a0_1)) - 1)) + a1)) 12) + 1)))).setCell ⟨gb413, 2, none⟩ (.int .i64 a0_2)).heap[gb411]? = some (.cells #[.int .i64 0, .int .i64 0, .int .i64 0] 86 (0, 0))) := ⟨by refine bw_ ?_; refine blk_far ?_ NB411_413.out _; refine bw_ ?_; refine blk_far ?_ NB411_413.out _; refine bw_ ?_; refine blk_far ?_ NB411_413.out _; refine bw_ ?_; exact BK411.out⟩; have n2_ : Aside0 ((((w40.setCell ⟨gb413, 0, none⟩ (.int .i64 (wrap64 (Int.tdiv (wrap64 ((wrap64 ((wrap64 ((wrap64 (12 * a0_0)) + a0_1)) - 1)) + a1)) 12)))).setCell ⟨gb413, 1, none⟩ (.int .i64 (wrap64 ((Int.tmod (wrap64 ((wrap64 ((wrap64 ((wrap64 (12 * a0_0)) + a0_1)) - 1)) + a1)) 12) + 1)))).setCell ⟨gb413, 2, none⟩ (.int .i64 a0_2)).heap[gb413]? = some (.cells #[.int .i64 (wrap64 (Int.tdiv (wrap64 ((wrap64 ((wrap64 ((wrap64 (12 * a0_0)) + a0_1)) - 1)) + a1)) 12)), .int .i64 (wrap64 ((Int.tmod (wrap64 ((wrap64 ((wrap64 ((wrap64 (12 * a0_0)) + a0_1)) - 1)) + a1)) 12) + 1)), .int .i64 a0_2] 86 (0, 0))) := ⟨by refine bw_ ?_; refine blk_put (cs := #[.int .i64 (wrap64 (Int.tdiv (wrap64 ((wrap64 ((wrap64 ((wrap64 (12 * a0_0)) + a0_1)) - 1)) + a1)) 12)), .int .i64 (wrap64 ((Int.tmod (wrap64 ((wrap64 ((wrap64 ((wrap64 (12 * a0_0)) + a0_1)) - 1)) + a1)) 12) + 1)), .int .i64 0]) ?_ 2 _ rfl; refine bw_ ?_; refine blk_put (cs := #[.int .i64 (wrap64 (Int.tdiv (wrap64 ((wrap64 ((wrap64 ((wrap64 (12 * a0_0)) + a0_1)) - 1)) + a1)) 12)), .int .i64 0, .int .i64 0]) ?_ 1 _ rfl; refine bw_ ?_; refine blk_put (cs := #[.int .i64 0, .int .i64 0, .int .i64 0]) ?_ 0 _ rfl; refine bw_ ?_; exact BK413.out⟩; have n3_ : Aside0 (Below w.heap.size w (((w40.setCell ⟨gb413, 0, none⟩ (.int .i64 (wrap64 (Int.tdiv (wrap64 ((wrap64 ((wrap64 ((wrap64 (12 * a0_0)) + a0_1)) - 1)) + a1)) 12)))).setCell ⟨gb413, 1, none⟩ (.int .i64 (wrap64 ((Int.tmod (wrap64 ((wrap64 ((wrap64 ((wrap64 (12 * a0_0)) + a0_1)) - 1)) + a1)) 12) + 1)))).setCell ⟨gb413, 2, none⟩ (.int .i64 a0_2))) := ⟨bl3_ HB GE410.out GE411.out GE413.out⟩
     (try clear BK410)
     (try clear BK411)
     (try clear BK413)
     (try clear HB)
     generalize (((w40.setCell ⟨gb413, 0, none⟩ (.int .i64 (wrap64 (Int.tdiv (wrap64 ((wrap64 ((wrap64 ((wrap64 (12 * a0_0)) + a0_1)) - 1)) + a1)) 12)))).setCell ⟨gb413, 1, none⟩ (.int .i64 (wrap64 ((Int.tmod (wrap64 ((wrap64 ((wrap64 ((wrap64 (12 * a0_0)) + a0_1)) - 1)) + a1)) 12) + 1)))).setCell ⟨gb413, 2, none⟩ (.int .i64 a0_2)) = w44 at n0_ n1_ n2_ n3_ ⊢; have BK410 := n0_; have BK411 := n1_; have BK413 := n2_; have HB := n3_; clear n0_ n1_ n2_ n3_; replace BK410 := A_ (blk_drew BK410.out); replace BK411 := A_ (blk_drew BK411.out); replace BK413 := A_ (blk_drew BK413.out); replace HB := A_ (below_drew1 HB.out); refine start_ (n := 10) (S := fun w' => w'.cell? ⟨gb413, 0, none⟩ = some (.int .i64 (wrap64 (Int.tdiv (wrap64 ((wrap64 ((wrap64 ((wrap64 (12 * a0_0)) + a0_1)) - 1)) + a1)) 12))) ∧ w'.cell? ⟨gb413, 1, none⟩ = some (.int .i64 (wrap64 ((Int.tmod (wrap64 ((wrap64 ((wrap64 ((wrap64 (12 * a0_0)) + a0_1)) - 1)) + a1)) 12) + 1))) ∧ w'.cell? ⟨gb413, 2, none⟩ = some (.int .i64 a0_2)) (ds := [9]) #[false, false, false, false, false, false, false, false, false, false] (by kernel_rfl) rfl rfl ⟨(blk_cell BK413.out 0).trans rfl, (blk_cell BK413.out 1).trans rfl, (blk_cell BK413.out 2).trans rfl⟩ (fun hHeld => ?_); refine with_tabW date_Months.tab5 date_Months.bits5 (fun HT_ HW_ => ?_)
     generalize w44.drew = w45 at BK410 BK411 BK413 HB hHeld ⊢; refine pure_ (i := 0) (N := some 37) (v := ?_) (a' := ?_) #[true, false, false, false, false, false, false, false, false, false] rfl rfl (any_of HT_.out (by kernel_rfl)) (fun _ _ _ h => h) (Or.inl ⟨by rfl, ?_⟩) ?_ ?_
     rotate_left
     ·intro w'
      go_simp
      with_reducible rfl
     rotate_left
     ·simp only [Act.put, List.setIfInBounds_toArray, List.set_cons_zero, List.set_cons_succ, i64_w, i32_w]
      rfl
     refine pure_ (i := 2) (N := some 39) (v := ?_) (a' := ?_) #[true, false, true, false, false, false, false, false, false, false] rfl rfl (any_of HT_.out (by kernel_rfl)) (fun _ _ _ h => h) (Or.inl ⟨by rfl, ?_⟩) ?_ ?_
     rotate_left
     ·intro w'
      go_simp
      with_reducible rfl
     rotate_left
     ·simp only [Act.put, List.setIfInBounds_toArray, List.set_cons_zero, List.set_cons_succ, i64_w, i32_w]
      rfl
     refine pure_ (i := 4) (N := some 41) (v := ?_) (a' := ?_) #[true, false, true, false, true, false, false, false, false, false] rfl rfl (any_of HT_.out (by kernel_rfl)) (fun _ _ _ h => h) (Or.inl ⟨by rfl, ?_⟩) ?_ ?_
     rotate_left
     ·intro w'
      go_simp
      with_reducible rfl
     rotate_left
     ·simp only [Act.put, List.setIfInBounds_toArray, List.set_cons_zero, List.set_cons_succ, i64_w, i32_w]
      rfl
     refine take_ (i := 1) (N := some 38) (v := ?_) (a' := ?_) #[true, true, true, false, true, false, false, false, false, false] rfl rfl (take_ofW HT_.out HW_.out (by kernel_rfl)) (fun _ _ _ h => h) (Or.inl ⟨by rfl, ?_⟩) hHeld ?_ ?_
     rotate_left
     ·rintro w' ⟨s0, s1, s2⟩
      go_simp
      with_reducible rfl
     rotate_left
     ·simp only [Act.put, List.setIfInBounds_toArray, List.set_cons_zero, List.set_cons_succ, i64_w, i32_w]
      rfl
     refine take_ (i := 3) (N := some 40) (v := ?_) (a' := ?_) #[true, true, true, true, true, false, false, false, false, false] rfl rfl (take_ofW HT_.out HW_.out (by kernel_rfl)) (fun _ _ _ h => h) (Or.inl ⟨by rfl, ?_⟩) hHeld ?_ ?_
     rotate_left
     ·rintro w' ⟨s0, s1, s2⟩
      go_simp
      with_reducible rfl
     rotate_left
     ·simp only [Act.put, List.setIfInBounds_toArray, List.set_cons_zero, List.set_cons_succ, i64_w, i32_w]
      rfl
     refine take_ (i := 5) (N := some 42) (v := ?_) (a' := ?_) #[true, true, true, true, true, true, false, false, false, false] rfl rfl (take_ofW HT_.out HW_.out (by kernel_rfl)) (fun _ _ _ h => h) (Or.inl ⟨by rfl, ?_⟩) hHeld ?_ ?_
     rotate_left
     ·rintro w' ⟨s0, s1, s2⟩
      go_simp
      with_reducible rfl
     rotate_left
     ·simp only [Act.put, List.setIfInBounds_toArray, List.set_cons_zero, List.set_cons_succ, i64_w, i32_w]
      rfl
     refine one_ (i := 6) (N := some 43) #[true, true, true, true, true, true, true, false, false, false] rfl rfl (one_of HT_.out (by kernel_rfl)) (by decide) (fun K hK => ?_)
     refine goes_ Try.func148 (by kernel_rfl) rfl #[.int .i64 (wrap64 (Int.tdiv (wrap64 ((wrap64 ((wrap64 ((wrap64 (12 * a0_0)) + a0_1)) - 1)) + a1)) 12)), .int .i64 (wrap64 ((Int.tmod (wrap64 ((wrap64 ((wrap64 ((wrap64 (12 * a0_0)) + a0_1)) - 1)) + a1)) 12) + 1))] (by rfl) rfl rfl (by (try simp only [List.map_toArray, List.map_cons, List.map_nil]); first | done | rfl | (simp only [List.length_drop, List.length_take]; rfl)) ?_
     with_reducible refine (date_Last.calls kj2 (wrap64 (Int.tdiv (wrap64 ((wrap64 ((wrap64 ((wrap64 (12 * a0_0)) + a0_1)) - 1)) + a1)) 12)) (wrap64 ((Int.tmod (wrap64 ((wrap64 ((wrap64 ((wrap64 (12 * a0_0)) + a0_1)) - 1)) + a1)) 12) + 1)) t414 _ A21.out).mono ?_
     rintro e w' ⟨rfl, ⟨nd, rfl⟩⟩; refine ⟨_, rfl, ?_⟩
     refine hK.out _ _ ⟨(blk_cell BK413.out 0).trans rfl, (blk_cell BK413.out 1).trans rfl, (blk_cell BK413.out 2).trans rfl⟩ (fun hHeld => ?_)
     clear hK K; refine norm_ (a' := ?_) ?_ ?_
     rotate_left
     ·show Act.put _ (some 43) _ = _
      simp only [Act.put, List.setIfInBounds_toArray, List.set_cons_zero, List.set_cons_succ, i64_w, i32_w]
      rfl
     refine pure_ (i := 7) (N := some 44) (v := ?_) (a' := ?_) #[true, true, true, true, true, true, true, true, false, false] rfl rfl (any_of HT_.out (by kernel_rfl)) (fun _ _ _ h => h) (Or.inl ⟨by rfl, ?_⟩) ?_ ?_
     rotate_left
     ·intro w'
      go_simp
      with_reducible rfl
     rotate_left
     ·simp only [Act.put, List.setIfInBounds_toArray, List.set_cons_zero, List.set_cons_succ, i64_w, i32_w]
      rfl
     refine pure_ (i := 8) (N := some 45) (v := ?_) (a' := ?_) #[true, true, true, true, true, true, true, true, true, false] rfl rfl (any_of HT_.out (by kernel_rfl)) (fun _ _ _ h => h) (Or.inl ⟨by rfl, ?_⟩) ?_ ?_
     rotate_left
     ·intro w'
      go_simp
      with_reducible rfl
     rotate_left
     ·simp only [Act.put, List.setIfInBounds_toArray, List.set_cons_zero, List.set_cons_succ, i64_w, i32_w]
      rfl
     refine last_ (i := 9) (N := none) #[true, true, true, true, true, true, true, true, true, true] rfl rfl (one_of HT_.out (by kernel_rfl)) (by decide) (fun K hK => ?_)
     have hs46 : w45.cell? ⟨gb413, 2, none⟩ = some (.int .i64 a0_2) := (blk_cell BK413.out 2).trans rfl; have hfs46 := fz_ BK413 2; have hns46_0 := NB410_413.out; have hns46_1 := NB411_413.out; have hms46_0 := NB413_410.out; have hms46_1 := NB413_411.out; refine skip_ (w1 := ?_) (by rfl) rfl ?_ ?_
     rotate_left
     ·go_simp
      rfl
     refine hK.out _ _ ?_
     clear hK K; refine done_ (done_of HT_.out (by kernel_rfl)) ?_
     have hcz47_0 : w45.cell? ⟨gb413, 0, none⟩ = some (.int .i64 (wrap64 (Int.tdiv (wrap64 ((wrap64 ((wrap64 ((wrap64 (12 * a0_0)) + a0_1)) - 1)) + a1)) 12))) := (blk_cell BK413.out 0).trans rfl; have hcz47_1 : w45.cell? ⟨gb413, 1, none⟩ = some (.int .i64 (wrap64 ((Int.tmod (wrap64 ((wrap64 ((wrap64 ((wrap64 (12 * a0_0)) + a0_1)) - 1)) + a1)) 12) + 1))) := (blk_cell BK413.out 1).trans rfl; have hcz47_2 := cz_ BK413 2; have hfz47_0 := fz_ BK413 0; have hfz47_1 := fz_ BK413 1; have hfz47_2 := fz_ BK413 2
     try go_wp2_with (first | ((with_reducible refine gate_callee (f := 147) rfl ?_); refine goesL_ (some 47) rfl rfl Try.func147 (by kernel_rfl) rfl #[.agg #[.int .i64 (wrap64 (Int.tdiv (wrap64 ((wrap64 ((wrap64 ((wrap64 (12 * a0_0)) + a0_1)) - 1)) + a1)) 12)), .int .i64 (wrap64 ((Int.tmod (wrap64 ((wrap64 ((wrap64 ((wrap64 (12 * a0_0)) + a0_1)) - 1)) + a1)) 12) + 1)), .int .i64 ji22]] rfl (by (try simp only [List.map_toArray, List.map_cons, List.map_nil]); first | done | (simp only [hji22]; rfl) | rfl | (simp only [List.length_drop, List.length_take]; rfl)) ?_; (with_reducible refine (date_Right.calls kj2 (wrap64 (Int.tdiv (wrap64 ((wrap64 ((wrap64 ((wrap64 (12 * a0_0)) + a0_1)) - 1)) + a1)) 12)) (wrap64 ((Int.tmod (wrap64 ((wrap64 ((wrap64 ((wrap64 (12 * a0_0)) + a0_1)) - 1)) + a1)) 12) + 1)) ji22 false _ A23.out).mono ?_); rintro e w48 ⟨rfl, hb⟩; refine ⟨_, rfl, ?_⟩; replace BK410 := A_ (blk_below (g := gb410) (o := .cells #[.int .i64 a0_0, .int .i64 a0_1, .int .i64 a0_2] 86 (0, 0)) (by refine bw_ ?_; refine blk_far ?_ NB410_413.out _; refine bw_ ?_; exact BK410.out) hb); replace BK411 := A_ (blk_below (g := gb411) (o := .cells #[.int .i64 0, .int .i64 0, .int .i64 0] 86 (0, 0)) (by refine bw_ ?_; refine blk_far ?_ NB411_413.out _; refine bw_ ?_; exact BK411.out) hb); replace BK413 := A_ (blk_below (g := gb413) (o := .cells #[.int .i64 (wrap64 (Int.tdiv (wrap64 ((wrap64 ((wrap64 ((wrap64 (12 * a0_0)) + a0_1)) - 1)) + a1)) 12)), .int .i64 (wrap64 ((Int.tmod (wrap64 ((wrap64 ((wrap64 ((wrap64 (12 * a0_0)) + a0_1)) - 1)) + a1)) 12) + 1)), .int .i64 ji22] 86 (0, 0)) (by refine bw_ ?_; refine blk_put (cs := #[.int .i64 (wrap64 (Int.tdiv (wrap64 ((wrap64 ((wrap64 ((wrap64 (12 * a0_0)) + a0_1)) - 1)) + a1)) 12)), .int .i64 (wrap64 ((Int.tmod (wrap64 ((wrap64 ((wrap64 ((wrap64 (12 * a0_0)) + a0_1)) - 1)) + a1)) 12) + 1)), .int .i64 a0_2]) ?_ 2 _ rfl; refine bw_ ?_; exact BK413.out) hb); replace HB := A_ (below_step (bl3_ HB GE410.out GE411.out GE413.out) hb); (try clear hb); (try clear hb2); (try clear hk); (try clear hi); have hcz49_0 := cz_ BK411 0; have hcz49_1 := cz_ BK411 1; have hcz49_2 := cz_ BK411 2; have hfz49_0 := fz_ BK411 0; have hfz49_1 := fz_ BK411 1; have hfz49_2 := fz_ BK411 2))
     refine bodyPost_ret (results_ct rfl _ _ gb411 86 #[.int .i64 0, .int .i64 0, .int .i64 0] (0, 0) _ rfl (by refine bw_ ?_; refine blk_put (cs := #[.int .i64 0, .int .i64 0, .int .i64 0]) ?_ 2 _ rfl; refine bw_ ?_; refine blk_put (cs := #[.int .i64 0, .int .i64 0, .int .i64 0]) ?_ 1 _ rfl; refine bw_ ?_; refine blk_put (cs := #[.int .i64 0, .int .i64 0, .int .i64 0]) ?_ 0 _ rfl; refine bw_ ?_; exact BK411.out) Try.underlying86 rfl (by kernel_rfl)) rfl ?_
     exact ⟨by first | rfl | (simp [errW_none, errW_some] <;> rfl) | (simp only [← hji22]; first | rfl | (simp [errW_none, errW_some] <;> rfl)) | (simp [*, errW_none, errW_some] <;> rfl), bl3_ HB GE410.out GE411.out GE413.out⟩
def date_leaps.f (a0 : Int) : Option (Int) := some (wrap64 ((wrap64 ((wrap64 (Int.tdiv (wrap64 (a0 - 1)) 4)) - (wrap64 (Int.tdiv (wrap64 (a0 - 1)) 100)))) + (wrap64 (Int.tdiv (wrap64 (a0 - 1)) 400))))
set_option maxHeartbeats 8000000 in
set_option maxRecDepth 100000 in
theorem date_leaps.calls (a0 : Int) (r : Int) (w : World) (h : date_leaps.f a0 = some r) :
  Calls Try.prog 150 #[.int .i64 a0] w fun e w' => e = .returned (.int .i64 r) ∧ Drawn0 w w' := by
 unfold date_leaps.f at h; have H := h; clear h; obtain rfl := Option.some.inj H; go_enter Try.func150, Try.ntmps150
 go_wp2
 go_ret
 exact ⟨sx_, by repeat (first | exact Drawn0.refl _ | apply Drawn0.step)⟩
def date_before.f (a0 : Int) : Option (Int) := if a0 > 2 then (some (wrap64 ((wrap64 (Int.tdiv (wrap64 ((wrap64 (153 * (wrap64 (a0 - 3)))) + 2)) 5)) + 59))) else (some (wrap64 (31 * (wrap64 (a0 - 1)))))
set_option maxHeartbeats 8000000 in
set_option maxRecDepth 100000 in
theorem date_before.calls (a0 : Int) (r : Int) (w : World) (h : date_before.f a0 = some r) :
  Calls Try.prog 151 #[.int .i64 a0] w fun e w' => e = .returned (.int .i64 r) ∧ Drawn0 w w' := by
 unfold date_before.f at h; have H := h; clear h; by_cases c2 : a0 > 2
 ·rw [if_pos c2] at H; have c2b0 : decide (2 < a0) = true := decide_eq_true c2; clear c2; obtain rfl := Option.some.inj H; go_enter Try.func151, Try.ntmps151
  go_wp2
  go_ret
  exact ⟨sx_, by repeat (first | exact Drawn0.refl _ | apply Drawn0.step)⟩
 ·rw [if_neg c2] at H; have c2b0 : decide (2 < a0) = false := decide_eq_false c2; clear c2; obtain rfl := Option.some.inj H; go_enter Try.func151, Try.ntmps151
  go_wp2
  go_ret
  exact ⟨sx_, by repeat (first | exact Drawn0.refl _ | apply Drawn0.step)⟩
def date_Number.j0 : Nat → Int → Bool → Option (Int × Int)
 | 0, _, _ => none
 | k + 1, x4, x33 => if x33 = true then (some (wrap64 (x4 + 1), 0)) else (some (x4, 0))
def date_Number.f (k : Nat) (a0_0 : Int) (a0_1 : Int) (a0_2 : Int) : Option (Int × Int) := (date_Right.f k a0_0 a0_1 a0_2).bind fun t417 => (if t417 = true then ((date_leaps.f a0_0).bind fun t418 => ((date_leaps.f 1900).bind fun t419 => ((date_before.f a0_1).bind fun t420 => (if a0_1 > 2 then ((date_Leap.f a0_0).bind fun t421 => (date_Number.j0 k (wrap64 ((wrap64 ((wrap64 ((wrap64 ((wrap64 ((wrap64 (365 * (wrap64 (a0_0 - 1900)))) + t418)) - t419)) + t420)) + a0_2)) - 1)) t421)) else (date_Number.j0 k (wrap64 ((wrap64 ((wrap64 ((wrap64 ((wrap64 ((wrap64 (365 * (wrap64 (a0_0 - 1900)))) + t418)) - t419)) + t420)) + a0_2)) - 1)) false))))) else (some (0, 30)))
set_option maxHeartbeats 8000000 in
set_option maxRecDepth 100000 in
theorem date_Number.calls (k : Nat) (a0_0 : Int) (a0_1 : Int) (a0_2 : Int) (r1 : Int) (r2 : Int) (w : World) (h : date_Number.f k a0_0 a0_1 a0_2 = some (r1, r2)) :
  Calls Try.prog 114 #[.agg #[.int .i64 a0_0, .int .i64 a0_1, .int .i64 a0_2]] w fun e w' => e = .returned (.tuple #[.int .i64 r1, .int .i64 r2]) ∧ Below w.heap.size w w' := by
 have hu86 := Try.underlying86; have HB := A_ (Below.refl w.heap.size w); unfold date_Number.f at h; have H := h; clear h; replace H := Option.bind_eq_some_iff.mp H; obtain ⟨t417, A20, H⟩ := H; (try dsimp only at H); have A2 := A_ A20; clear A20; by_cases c3 : t417 = true
 ·subst c3; rw [if_pos rfl] at H; replace H := Option.bind_eq_some_iff.mp H; obtain ⟨t418, A40, H⟩ := H; (try dsimp only at H); have A4 := A_ A40; clear A40; replace H := Option.bind_eq_some_iff.mp H; obtain ⟨t419, A50, H⟩ := H; (try dsimp only at H); have A5 := A_ A50; clear A50; replace H := Option.bind_eq_some_iff.mp H; obtain ⟨t420, A60, H⟩ := H; (try dsimp only at H); have A6 := A_ A60; clear A60; have HC7 := A_ H; clear H; go_enter Try.func114, Try.ntmps114
  go_upto_region 4 with (first | ((with_reducible refine gate_dst (N := 1) rfl ?_); refine be_ (N := 1) (cs := #[.int .i64 a0_0, .int .i64 a0_1, .int .i64 a0_2]) (t := 86) ?_; intro gb416 hg w8 hbox hb; have BK416 := A_ (hbox); have GW416 := A_ ((by rw [hg]; exact (below_size (bl_ HB)) : w.heap.size ≤ gb416)); have GE416 := A_ ((by rw [hg]; exact (below_size (bl_ HB)) : w.heap.size ≤ gb416)); replace HB := A_ (below_step (bl_ HB) hb); clear hb hbox hg; have hcz9_0 := cz_ BK416 0; have hcz9_1 := cz_ BK416 1; have hcz9_2 := cz_ BK416 2; have hfz9_0 := fz_ BK416 0; have hfz9_1 := fz_ BK416 1; have hfz9_2 := fz_ BK416 2) | (go_at_call 147; (with_reducible refine (date_Right.calls k a0_0 a0_1 a0_2 true _ A2.out).mono ?_); rintro e w10 ⟨rfl, hb⟩; replace BK416 := A_ (blk_below (bx_ BK416) hb); replace HB := A_ (below_step (bl1_ HB GE416.out) hb); (try clear hb); (try clear hb2); (try clear hk); (try clear hi); have hcz11_0 := cz_ BK416 0; have hcz11_1 := cz_ BK416 1; have hcz11_2 := cz_ BK416 2; have hfz11_0 := fz_ BK416 0; have hfz11_1 := fz_ BK416 1; have hfz11_2 := fz_ BK416 2) | (go_at_call 150; (with_reducible refine (date_leaps.calls a0_0 t418 _ A4.out).mono ?_); rintro e w' ⟨rfl, ⟨nd, rfl⟩⟩; (try first | exact ⟨rfl, _, World.drewN_drewN _ _ _⟩ | exact ⟨rfl, _, Eq.trans (World.drewN_drewN _ _ _) (congrArg (World.drewN _) (Nat.add_assoc _ _ _))⟩)) | (go_at_call 150; (with_reducible refine (date_leaps.calls 1900 t419 _ A5.out).mono ?_); rintro e w' ⟨rfl, ⟨nd, rfl⟩⟩; (try first | exact ⟨rfl, _, World.drewN_drewN _ _ _⟩ | exact ⟨rfl, _, Eq.trans (World.drewN_drewN _ _ _) (congrArg (World.drewN _) (Nat.add_assoc _ _ _))⟩)) | (go_at_call 151; (with_reducible refine (date_before.calls a0_1 t420 _ A6.out).mono ?_); rintro e w' ⟨rfl, ⟨nd, rfl⟩⟩; (try first | exact ⟨rfl, _, World.drewN_drewN _ _ _⟩ | exact ⟨rfl, _, Eq.trans (World.drewN_drewN _ _ _) (congrArg (World.drewN _) (Nat.add_assoc _ _ _))⟩)))
  repeat (go_quiet (first | ((with_reducible refine gate_dst (N := 1) rfl ?_); refine be_ (N := 1) (cs := #[.int .i64 a0_0, .int .i64 a0_1, .int .i64 a0_2]) (t := 86) ?_; intro gb416 hg w8 hbox hb; have BK416 := A_ (hbox); have GW416 := A_ ((by rw [hg]; exact (below_size (bl_ HB)) : w.heap.size ≤ gb416)); have GE416 := A_ ((by rw [hg]; exact (below_size (bl_ HB)) : w.heap.size ≤ gb416)); replace HB := A_ (below_step (bl_ HB) hb); clear hb hbox hg; have hcz9_0 := cz_ BK416 0; have hcz9_1 := cz_ BK416 1; have hcz9_2 := cz_ BK416 2; have hfz9_0 := fz_ BK416 0; have hfz9_1 := fz_ BK416 1; have hfz9_2 := fz_ BK416 2) | (go_at_call 147; (with_reducible refine (date_Right.calls k a0_0 a0_1 a0_2 true _ A2.out).mono ?_); rintro e w10 ⟨rfl, hb⟩; replace BK416 := A_ (blk_below (bx_ BK416) hb); replace HB := A_ (below_step (bl1_ HB GE416.out) hb); (try clear hb); (try clear hb2); (try clear hk); (try clear hi); have hcz11_0 := cz_ BK416 0; have hcz11_1 := cz_ BK416 1; have hcz11_2 := cz_ BK416 2; have hfz11_0 := fz_ BK416 0; have hfz11_1 := fz_ BK416 1; have hfz11_2 := fz_ BK416 2) | (go_at_call 150; (with_reducible refine (date_leaps.calls a0_0 t418 _ A4.out).mono ?_); rintro e w' ⟨rfl, ⟨nd, rfl⟩⟩; (try first | exact ⟨rfl, _, World.drewN_drewN _ _ _⟩ | exact ⟨rfl, _, Eq.trans (World.drewN_drewN _ _ _) (congrArg (World.drewN _) (Nat.add_assoc _ _ _))⟩)) | (go_at_call 150; (with_reducible refine (date_leaps.calls 1900 t419 _ A5.out).mono ?_); rintro e w' ⟨rfl, ⟨nd, rfl⟩⟩; (try first | exact ⟨rfl, _, World.drewN_drewN _ _ _⟩ | exact ⟨rfl, _, Eq.trans (World.drewN_drewN _ _ _) (congrArg (World.drewN _) (Nat.add_assoc _ _ _))⟩)) | (go_at_call 151; (with_reducible refine (date_before.calls a0_1 t420 _ A6.out).mono ?_); rintro e w' ⟨rfl, ⟨nd, rfl⟩⟩; (try first | exact ⟨rfl, _, World.drewN_drewN _ _ _⟩ | exact ⟨rfl, _, Eq.trans (World.drewN_drewN _ _ _) (congrArg (World.drewN _) (Nat.add_assoc _ _ _))⟩))); go_upto_region 4 with (first | ((with_reducible refine gate_dst (N := 1) rfl ?_); refine be_ (N := 1) (cs := #[.int .i64 a0_0, .int .i64 a0_1, .int .i64 a0_2]) (t := 86) ?_; intro gb416 hg w8 hbox hb; have BK416 := A_ (hbox); have GW416 := A_ ((by rw [hg]; exact (below_size (bl_ HB)) : w.heap.size ≤ gb416)); have GE416 := A_ ((by rw [hg]; exact (below_size (bl_ HB)) : w.heap.size ≤ gb416)); replace HB := A_ (below_step (bl_ HB) hb); clear hb hbox hg; have hcz9_0 := cz_ BK416 0; have hcz9_1 := cz_ BK416 1; have hcz9_2 := cz_ BK416 2; have hfz9_0 := fz_ BK416 0; have hfz9_1 := fz_ BK416 1; have hfz9_2 := fz_ BK416 2) | (go_at_call 147; (with_reducible refine (date_Right.calls k a0_0 a0_1 a0_2 true _ A2.out).mono ?_); rintro e w10 ⟨rfl, hb⟩; replace BK416 := A_ (blk_below (bx_ BK416) hb); replace HB := A_ (below_step (bl1_ HB GE416.out) hb); (try clear hb); (try clear hb2); (try clear hk); (try clear hi); have hcz11_0 := cz_ BK416 0; have hcz11_1 := cz_ BK416 1; have hcz11_2 := cz_ BK416 2; have hfz11_0 := fz_ BK416 0; have hfz11_1 := fz_ BK416 1; have hfz11_2 := fz_ BK416 2) | (go_at_call 150; (with_reducible refine (date_leaps.calls a0_0 t418 _ A4.out).mono ?_); rintro e w' ⟨rfl, ⟨nd, rfl⟩⟩; (try first | exact ⟨rfl, _, World.drewN_drewN _ _ _⟩ | exact ⟨rfl, _, Eq.trans (World.drewN_drewN _ _ _) (congrArg (World.drewN _) (Nat.add_assoc _ _ _))⟩)) | (go_at_call 150; (with_reducible refine (date_leaps.calls 1900 t419 _ A5.out).mono ?_); rintro e w' ⟨rfl, ⟨nd, rfl⟩⟩; (try first | exact ⟨rfl, _, World.drewN_drewN _ _ _⟩ | exact ⟨rfl, _, Eq.trans (World.drewN_drewN _ _ _) (congrArg (World.drewN _) (Nat.add_assoc _ _ _))⟩)) | (go_at_call 151; (with_reducible refine (date_before.calls a0_1 t420 _ A6.out).mono ?_); rintro e w' ⟨rfl, ⟨nd, rfl⟩⟩; (try first | exact ⟨rfl, _, World.drewN_drewN _ _ _⟩ | exact ⟨rfl, _, Eq.trans (World.drewN_drewN _ _ _) (congrArg (World.drewN _) (Nat.add_assoc _ _ _))⟩))))
  (try simp only [Act.put, List.setIfInBounds_toArray, List.set_cons_zero, List.set_cons_succ])
  go_cut [33] (fun v33 wc => ∃ (kq : Nat) (x33_6 : Bool), v33 = .bool x33_6 ∧ Aside0 (date_Number.j0 kq (wrap64 ((wrap64 ((wrap64 ((wrap64 ((wrap64 ((wrap64 (365 * (wrap64 (a0_0 - 1900)))) + t418)) - t419)) + t420)) + a0_2)) - 1)) x33_6 = some (r1, r2)) ∧ Aside0 (kq ≤ k) ∧ Aside0 (wc.heap[gb416]? = some (.cells #[.int .i64 a0_0, .int .i64 a0_1, .int .i64 a0_2] 86 (0, 0))) ∧ Aside0 (Below w.heap.size w wc))
  case first =>
   have H := HC7.out; clear HC7; by_cases c12 : a0_1 > 2
   ·rw [if_pos c12] at H; have c12b0 : decide (2 < a0_1) = true := decide_eq_true c12; clear c12
    (first | rw [c12b0] | (simp only [i64_w, i32_w]; rw [c12b0]) | skip)
    replace H := Option.bind_eq_some_iff.mp H; obtain ⟨t421, A130, H⟩ := H; (try dsimp only at H); have A13 := A_ A130; clear A130; have H' := A_ H; clear H; have hcz14_0 := cz_ BK416 0; have hcz14_1 := cz_ BK416 1; have hcz14_2 := cz_ BK416 2; have hfz14_0 := fz_ BK416 0; have hfz14_1 := fz_ BK416 1; have hfz14_2 := fz_ BK416 2; go_wp2_with (first | (go_at_call 152; (with_reducible refine (date_Leap.calls a0_0 t421 _ A13.out).mono ?_); rintro e w' ⟨rfl, ⟨nd, rfl⟩⟩; (try first | exact ⟨rfl, _, World.drewN_drewN _ _ _⟩ | exact ⟨rfl, _, Eq.trans (World.drewN_drewN _ _ _) (congrArg (World.drewN _) (Nat.add_assoc _ _ _))⟩)))
    repeat (go_quiet (first | (go_at_call 152; (with_reducible refine (date_Leap.calls a0_0 t421 _ A13.out).mono ?_); rintro e w' ⟨rfl, ⟨nd, rfl⟩⟩; (try first | exact ⟨rfl, _, World.drewN_drewN _ _ _⟩ | exact ⟨rfl, _, Eq.trans (World.drewN_drewN _ _ _) (congrArg (World.drewN _) (Nat.add_assoc _ _ _))⟩))); try go_wp2_with (first | (go_at_call 152; (with_reducible refine (date_Leap.calls a0_0 t421 _ A13.out).mono ?_); rintro e w' ⟨rfl, ⟨nd, rfl⟩⟩; (try first | exact ⟨rfl, _, World.drewN_drewN _ _ _⟩ | exact ⟨rfl, _, Eq.trans (World.drewN_drewN _ _ _) (congrArg (World.drewN _) (Nat.add_assoc _ _ _))⟩))))
    go_meet
    case rel => exact ⟨_, (t421), (sx_), H', ⟨by first | omega | exact Nat.le_refl _⟩, ⟨bx_ BK416⟩, ⟨bl1_ HB GE416.out⟩⟩
   ·rw [if_neg c12] at H; have c12b0 : decide (2 < a0_1) = false := decide_eq_false c12; clear c12
    (first | rw [c12b0] | (simp only [i64_w, i32_w]; rw [c12b0]) | skip)
    have H' := A_ H; clear H; have hcz15_0 := cz_ BK416 0; have hcz15_1 := cz_ BK416 1; have hcz15_2 := cz_ BK416 2; have hfz15_0 := fz_ BK416 0; have hfz15_1 := fz_ BK416 1; have hfz15_2 := fz_ BK416 2
    go_wp2
    repeat (go_quiet (fail); try go_wp2)
    go_meet
    case rel => exact ⟨_, (false), (sx_), H', ⟨by first | omega | exact Nat.le_refl _⟩, ⟨bx_ BK416⟩, ⟨bl1_ HB GE416.out⟩⟩
  case rest =>
   clear HC7; try clear c1
   try clear p2
   try clear c3
   try clear p6
   try clear c11
   try clear c12
   try clear c12b0
   try clear hcz11_0 hcz11_1 hcz11_2
   try clear hcz14_0 hcz14_1 hcz14_2
   try clear hcz15_0 hcz15_1 hcz15_2
   try clear hcz9_0 hcz9_1 hcz9_2
   try clear hfz11_0 hfz11_1 hfz11_2
   try clear hfz14_0 hfz14_1 hfz14_2
   try clear hfz15_0 hfz15_1 hfz15_2
   try clear hfz9_0 hfz9_1 hfz9_2
   obtain ⟨kq, x33_6, rfl, HA, HJ6, BK416, HB⟩ := hcut
   cases kq with
   | zero => exact absurd HA.out (by simp [date_Number.j0])
   | succ kj6 =>
    have H := HA.out; clear HA; simp only [date_Number.j0] at H; by_cases c16 : x33_6 = true
    ·subst c16; rw [if_pos rfl] at H; simp only [Option.some.injEq, Prod.mk.injEq] at H; obtain ⟨rfl, rfl⟩ := H
     go_wp2
     repeat (go_quiet (fail); try go_wp2)
     go_ret2
     exact ⟨er_, bl1_ HB GE416.out⟩
    ·replace c16 := Bool.eq_false_iff.mpr c16; subst c16; rw [if_neg (show ¬ (false = true) by decide)] at H; simp only [Option.some.injEq, Prod.mk.injEq] at H; obtain ⟨rfl, rfl⟩ := H
     go_wp2
     repeat (go_quiet (fail); try go_wp2)
     go_ret2
     exact ⟨er_, bl1_ HB GE416.out⟩
 ·replace c3 := Bool.eq_false_iff.mpr c3; subst c3; rw [if_neg (show ¬ (false = true) by decide)] at H; simp only [Option.some.injEq, Prod.mk.injEq] at H; obtain ⟨rfl, rfl⟩ := H; go_enter Try.func114, Try.ntmps114
  go_wp2_with (first | ((with_reducible refine gate_dst (N := 1) rfl ?_); refine be_ (N := 1) (cs := #[.int .i64 a0_0, .int .i64 a0_1, .int .i64 a0_2]) (t := 86) ?_; intro gb416 hg w17 hbox hb; have BK416 := A_ (hbox); have GW416 := A_ ((by rw [hg]; exact (below_size (bl_ HB)) : w.heap.size ≤ gb416)); have GE416 := A_ ((by rw [hg]; exact (below_size (bl_ HB)) : w.heap.size ≤ gb416)); replace HB := A_ (below_step (bl_ HB) hb); clear hb hbox hg; have hcz18_0 := cz_ BK416 0; have hcz18_1 := cz_ BK416 1; have hcz18_2 := cz_ BK416 2; have hfz18_0 := fz_ BK416 0; have hfz18_1 := fz_ BK416 1; have hfz18_2 := fz_ BK416 2) | (go_at_call 147; (with_reducible refine (date_Right.calls k a0_0 a0_1 a0_2 false _ A2.out).mono ?_); rintro e w19 ⟨rfl, hb⟩; replace BK416 := A_ (blk_below (bx_ BK416) hb); replace HB := A_ (below_step (bl1_ HB GE416.out) hb); (try clear hb); (try clear hb2); (try clear hk); (try clear hi)))
  repeat (go_quiet (first | ((with_reducible refine gate_dst (N := 1) rfl ?_); refine be_ (N := 1) (cs := #[.int .i64 a0_0, .int .i64 a0_1, .int .i64 a0_2]) (t := 86) ?_; intro gb416 hg w17 hbox hb; have BK416 := A_ (hbox); have GW416 := A_ ((by rw [hg]; exact (below_size (bl_ HB)) : w.heap.size ≤ gb416)); have GE416 := A_ ((by rw [hg]; exact (below_size (bl_ HB)) : w.heap.size ≤ gb416)); replace HB := A_ (below_step (bl_ HB) hb); clear hb hbox hg; have hcz18_0 := cz_ BK416 0; have hcz18_1 := cz_ BK416 1; have hcz18_2 := cz_ BK416 2; have hfz18_0 := fz_ BK416 0; have hfz18_1 := fz_ BK416 1; have hfz18_2 := fz_ BK416 2) | (go_at_call 147; (with_reducible refine (date_Right.calls k a0_0 a0_1 a0_2 false _ A2.out).mono ?_); rintro e w19 ⟨rfl, hb⟩; replace BK416 := A_ (blk_below (bx_ BK416) hb); replace HB := A_ (below_step (bl1_ HB GE416.out) hb); (try clear hb); (try clear hb2); (try clear hk); (try clear hi))); try go_wp2_with (first | ((with_reducible refine gate_dst (N := 1) rfl ?_); refine be_ (N := 1) (cs := #[.int .i64 a0_0, .int .i64 a0_1, .int .i64 a0_2]) (t := 86) ?_; intro gb416 hg w17 hbox hb; have BK416 := A_ (hbox); have GW416 := A_ ((by rw [hg]; exact (below_size (bl_ HB)) : w.heap.size ≤ gb416)); have GE416 := A_ ((by rw [hg]; exact (below_size (bl_ HB)) : w.heap.size ≤ gb416)); replace HB := A_ (below_step (bl_ HB) hb); clear hb hbox hg; have hcz18_0 := cz_ BK416 0; have hcz18_1 := cz_ BK416 1; have hcz18_2 := cz_ BK416 2; have hfz18_0 := fz_ BK416 0; have hfz18_1 := fz_ BK416 1; have hfz18_2 := fz_ BK416 2) | (go_at_call 147; (with_reducible refine (date_Right.calls k a0_0 a0_1 a0_2 false _ A2.out).mono ?_); rintro e w19 ⟨rfl, hb⟩; replace BK416 := A_ (blk_below (bx_ BK416) hb); replace HB := A_ (below_step (bl1_ HB GE416.out) hb); (try clear hb); (try clear hb2); (try clear hk); (try clear hi))))
  go_ret2
  exact ⟨er_, bl1_ HB GE416.out⟩
mutual
def date_Of.j0 : Nat → Int → Bool → Option (Int × Int × Int × Int)
 | 0, _, _ => none
 | k + 1, x0, x15 => if x15 = true then (some (0, 0, 0, 30)) else (date_Of.l0 k x0 (wrap64 (1900 + (wrap64 (Int.tdiv x0 366)))) 1 1)
def date_Of.j2 : Nat → Int → Int → Int → Int → Option (Int × Int × Int × Int)
 | 0, _, _, _, _ => none
 | k + 1, x0, x424000, x424001, x424002 => (date_Number.f k x424000 x424001 x424002).bind fun bt426 => (date_Of.l1 k (wrap64 (x0 - bt426.1)) x424000 x424001 x424002)
def date_Of.l1 : Nat → Int → Int → Int → Int → Option (Int × Int × Int × Int)
 | 0, _, _, _, _ => none
 | k + 1, x9, x424000, x424001, x424002 => (date_Last.f k x424000 x424001).bind fun t428 => (if x9 ≥ t428 then ((date_Last.f k x424000 x424001).bind fun t429 => (date_Of.l1 k (wrap64 (x9 - t429)) x424000 (wrap64 (x424001 + 1)) x424002)) else (some (x424000, x424001, wrap64 (x424002 + x9), 0)))
def date_Of.l0 : Nat → Int → Int → Int → Int → Option (Int × Int × Int × Int)
 | 0, _, _, _, _ => none
 | k + 1, x0, x424000, x424001, x424002 => if x424000 < 2199 then ((date_Number.f k (wrap64 (x424000 + 1)) 1 1).bind fun bt424 => (if bt424.1 > x0 then (date_Of.j2 k x0 x424000 x424001 x424002) else (date_Of.l0 k x0 (wrap64 (x424000 + 1)) x424001 x424002))) else (date_Of.j2 k x0 x424000 x424001 x424002)
end
def date_Of.f (k : Nat) (a0 : Int) : Option (Int × Int × Int × Int) := if a0 < 0 then (date_Of.j0 k a0 true) else (date_Of.j0 k a0 (decide (a0 ≥ 109573)))
set_option maxHeartbeats 8000000 in
set_option maxRecDepth 100000 in
theorem date_Of.calls (k : Nat) (a0 : Int) (r1 : Int) (r2 : Int) (r3 : Int) (r4 : Int) (w : World) (h : date_Of.f k a0 = some (r1, r2, r3, r4)) :
  Calls Try.prog 149 #[.int .i64 a0] w fun e w' => e = .returned (.tuple #[.agg #[.int .i64 r1, .int .i64 r2, .int .i64 r3], .int .i64 r4]) ∧ Below w.heap.size w w' := by
 have hu86 := Try.underlying86; have HB := A_ (Below.refl w.heap.size w); unfold date_Of.f at h; have H := h; clear h; have HC2 := A_ H; clear H; go_enter Try.func149, Try.ntmps149
 go_upto_region 1 with (first | ((with_reducible refine gate_dst (N := 2) rfl ?_); refine be_ (N := 2) (cs := #[.int .i64 0, .int .i64 0, .int .i64 0]) (t := 86) ?_; intro gb422 hg w3 hbox hb; have BK422 := A_ (hbox); have GW422 := A_ ((by rw [hg]; exact (below_size (bl_ HB)) : w.heap.size ≤ gb422)); have GE422 := A_ ((by rw [hg]; exact (below_size (bl_ HB)) : w.heap.size ≤ gb422)); replace HB := A_ (below_step (bl_ HB) hb); clear hb hbox hg))
 (try simp only [Act.put, List.setIfInBounds_toArray, List.set_cons_zero, List.set_cons_succ])
 go_cut [15] (fun v15 wc => ∃ (kq : Nat) (x15_1 : Bool), v15 = .bool x15_1 ∧ Aside0 (date_Of.j0 kq a0 x15_1 = some (r1, r2, r3, r4)) ∧ Aside0 (kq ≤ k) ∧ Aside0 (wc.heap[gb422]? = some (.cells #[.int .i64 0, .int .i64 0, .int .i64 0] 86 (0, 0))) ∧ Aside0 (Below w.heap.size w wc))
 case first =>
  have H := HC2.out; clear HC2; by_cases c4 : a0 < 0
  ·rw [if_pos c4] at H; have c4b0 := decide_eq_true c4; clear c4
   (first | rw [c4b0] | (simp only [i64_w, i32_w]; rw [c4b0]) | skip)
   have H' := A_ H; clear H
   go_wp2
   go_meet
   case rel => exact ⟨_, (true), (sx_), H', ⟨by first | omega | exact Nat.le_refl _⟩, ⟨bx_ BK422⟩, ⟨bl1_ HB GE422.out⟩⟩
  ·rw [if_neg c4] at H; have c4b0 := decide_eq_false c4; clear c4
   (first | rw [c4b0] | (simp only [i64_w, i32_w]; rw [c4b0]) | skip)
   have H' := A_ H; clear H
   go_wp2
   go_meet
   case rel => exact ⟨_, (decide (a0 ≥ 109573)), (sx_), H', ⟨by first | omega | exact Nat.le_refl _⟩, ⟨bx_ BK422⟩, ⟨bl1_ HB GE422.out⟩⟩
 case rest =>
  clear HC2; try clear c1
  try clear p2
  try clear c4
  try clear c4b0
  obtain ⟨kq, x15_1, rfl, HA, HJ1, BK422, HB⟩ := hcut
  cases kq with
  | zero => exact absurd HA.out (by simp [date_Of.j0])
  | succ kj1 =>
   have H := HA.out; clear HA; simp only [date_Of.j0] at H; by_cases c5 : x15_1 = true
   ·subst c5; rw [if_pos rfl] at H; simp only [Option.some.injEq, Prod.mk.injEq] at H; obtain ⟨rfl, rfl, rfl, rfl⟩ := H; have hcz6_0 := cz_ BK422 0; have hcz6_1 := cz_ BK422 1; have hcz6_2 := cz_ BK422 2; have hfz6_0 := fz_ BK422 0; have hfz6_1 := fz_ BK422 1; have hfz6_2 := fz_ BK422 2
    go_wp2
    refine bodyPost_ret (results_ct rfl _ _ gb422 86 #[.int .i64 0, .int .i64 0, .int .i64 0] (0, 0) _ rfl (by refine bw_ ?_; refine blk_put (cs := #[.int .i64 0, .int .i64 0, .int .i64 0]) ?_ 2 _ rfl; refine bw_ ?_; refine blk_put (cs := #[.int .i64 0, .int .i64 0, .int .i64 0]) ?_ 1 _ rfl; refine bw_ ?_; refine blk_put (cs := #[.int .i64 0, .int .i64 0, .int .i64 0]) ?_ 0 _ rfl; refine bw_ ?_; exact BK422.out) Try.underlying86 rfl (by kernel_rfl)) rfl ?_
    exact ⟨er_, bl1_ HB GE422.out⟩
   ·replace c5 := Bool.eq_false_iff.mpr c5; subst c5; rw [if_neg (show ¬ (false = true) by decide)] at H; have HC7 := A_ H; clear H
    go_upto_block 0 with (first | ((with_reducible refine gate_dst (N := 4) rfl ?_); refine be_ (N := 4) (cs := #[.int .i64 0, .int .i64 0, .int .i64 0]) (t := 86) ?_; intro gb423 hg w8 hbox hb; have BK423 := A_ (hbox); have GW423 := A_ ((by rw [hg]; exact (below_size (bl1_ HB GE422.out)) : w.heap.size ≤ gb423)); have GE423 := A_ ((by rw [hg]; exact (below_size (bl1_ HB GE422.out)) : w.heap.size ≤ gb423)); have NB422_423 := A_ ((by rw [hg]; exact Nat.ne_of_lt (blk_lt (bx_ BK422)) : gb422 ≠ gb423)); have NB423_422 := A_ ((by rw [hg]; exact Nat.ne_of_gt (blk_lt (bx_ BK422)) : gb423 ≠ gb422)); replace BK422 := A_ (blk_below (bx_ BK422) hb); replace HB := A_ (below_step (bl1_ HB GE422.out) hb); clear hb hbox hg; have hnb9 := NB423_422.out; have hnc9 := NB422_423.out; have hcz10_0 := cz_ BK423 0; have hcz10_1 := cz_ BK423 1; have hcz10_2 := cz_ BK423 2; have hfz10_0 := fz_ BK423 0; have hfz10_1 := fz_ BK423 1; have hfz10_2 := fz_ BK423 2))
    (try simp only [Act.put, List.setIfInBounds_toArray, List.set_cons_zero, List.set_cons_succ])
    go_cut [] (fun wc => ∃ (kq : Nat) (x424000_6 : Int), Aside0 (date_Of.j2 kq a0 x424000_6 1 1 = some (r1, r2, r3, r4)) ∧ Aside0 (kq ≤ kj1) ∧ Aside0 (wc.heap[gb422]? = some (.cells #[.int .i64 0, .int .i64 0, .int .i64 0] 86 (0, 0))) ∧ Aside0 (wc.heap[gb423]? = some (.cells #[.int .i64 x424000_6, .int .i64 1, .int .i64 1] 86 (0, 0))) ∧ Aside0 (Below w.heap.size w wc))
    case first =>
     have H := HC7.out; clear HC7; have H' := A_ H; clear H
     go_wp2
     go_loopg [] kj1 (fun kq w' => ∃ (x424000_2 : Int), Aside0 (date_Of.l0 kq a0 x424000_2 1 1 = some (r1, r2, r3, r4)) ∧ Aside0 (kq ≤ kj1) ∧ Aside0 (w'.heap[gb422]? = some (.cells #[.int .i64 0, .int .i64 0, .int .i64 0] 86 (0, 0))) ∧ Aside0 (w'.heap[gb423]? = some (.cells #[.int .i64 x424000_2, .int .i64 1, .int .i64 1] 86 (0, 0))) ∧ Aside0 (Below w.heap.size w w'))
     case atStart => exact ⟨(wrap64 (1900 + (wrap64 (Int.tdiv a0 366)))), H', ⟨Nat.le_refl _⟩, ⟨by refine bw_ ?_; refine blk_far ?_ NB422_423.out _; refine bw_ ?_; refine blk_far ?_ NB422_423.out _; refine bw_ ?_; refine blk_far ?_ NB422_423.out _; refine bw_ ?_; exact BK422.out⟩, ⟨by refine bw_ ?_; refine blk_put (cs := #[.int .i64 (wrap64 (1900 + (wrap64 (Int.tdiv a0 366)))), .int .i64 1, .int .i64 0]) ?_ 2 _ rfl; refine bw_ ?_; refine blk_put (cs := #[.int .i64 (wrap64 (1900 + (wrap64 (Int.tdiv a0 366)))), .int .i64 0, .int .i64 0]) ?_ 1 _ rfl; refine bw_ ?_; refine blk_put (cs := #[.int .i64 0, .int .i64 0, .int .i64 0]) ?_ 0 _ rfl; refine bw_ ?_; exact BK423.out⟩, ⟨bl2_ HB GE422.out GE423.out⟩⟩
     case round =>
      clear H'; try clear c1
      try clear p2
      try clear c4
      try clear c4b0
      try clear c5
      try clear p6
      try clear c9
      try clear hcz10_0 hcz10_1 hcz10_2
      try clear hcz6_0 hcz6_1 hcz6_2
      try clear hfz10_0 hfz10_1 hfz10_2
      try clear hfz6_0 hfz6_1 hfz6_2
      try clear p2
      obtain ⟨x424000_2, HA, HK2, BK422, BK423, HB⟩ := hrel
      cases gk with
      | zero => exact absurd HA.out (by simp [date_Of.l0])
      | succ k2 =>
       have H := HA.out; clear HA; simp only [date_Of.l0] at H; by_cases c11 : x424000_2 < 2199
       ·rw [if_pos c11] at H; have c11b0 := decide_eq_true c11; clear c11
        (first | rw [c11b0] | (simp only [i64_w, i32_w]; rw [c11b0]) | skip)
        replace H := Option.bind_eq_some_iff.mp H; obtain ⟨⟨t424, t425⟩, A120, H⟩ := H; (try dsimp only at H); have A12 := A_ A120; clear A120; by_cases c13 : t424 > a0
        ·rw [if_pos c13] at H; have c13b0 : decide (a0 < t424) = true := decide_eq_true c13; clear c13; have H' := A_ H; clear H; have hnb14 := NB423_422.out; have hnc14 := NB422_423.out; have hcz15_0 := cz_ BK423 0; have hcz15_1 := cz_ BK423 1; have hcz15_2 := cz_ BK423 2; have hfz15_0 := fz_ BK423 0; have hfz15_1 := fz_ BK423 1; have hfz15_2 := fz_ BK423 2; go_wp2_with (first | ((with_reducible refine gate_callee (f := 114) rfl ?_); refine gm_ (some 29) Try.func114 #[.agg #[.int .i64 (wrap64 (x424000_2 + 1)), .int .i64 1, .int .i64 1]] ?_; (with_reducible refine (date_Number.calls k2 (wrap64 (x424000_2 + 1)) 1 1 t424 t425 _ A12.out).mono ?_); rintro e w16 ⟨rfl, hb⟩; refine ⟨_, rfl, ?_⟩; replace BK422 := A_ (blk_below (bx_ BK422) hb); replace BK423 := A_ (blk_below (bx_ BK423) hb); replace HB := A_ (below_step (bl2_ HB GE422.out GE423.out) hb); (try clear hb); (try clear hb2); (try clear hk); (try clear hi)))
         go_meet
         case rel => exact ⟨_, (x424000_2), H', ⟨by have := HJ1.out; have := HK2.out; first | omega | exact Nat.le_refl _⟩, ⟨bx_ BK422⟩, ⟨bx_ BK423⟩, ⟨bl2_ HB GE422.out GE423.out⟩⟩
        ·rw [if_neg c13] at H; have c13b0 : decide (a0 < t424) = false := decide_eq_false c13; clear c13; have H' := A_ H; clear H; have hnb17 := NB423_422.out; have hnc17 := NB422_423.out; have hcz18_0 := cz_ BK423 0; have hcz18_1 := cz_ BK423 1; have hcz18_2 := cz_ BK423 2; have hfz18_0 := fz_ BK423 0; have hfz18_1 := fz_ BK423 1; have hfz18_2 := fz_ BK423 2; go_wp2_with (first | ((with_reducible refine gate_callee (f := 114) rfl ?_); refine gm_ (some 29) Try.func114 #[.agg #[.int .i64 (wrap64 (x424000_2 + 1)), .int .i64 1, .int .i64 1]] ?_; (with_reducible refine (date_Number.calls k2 (wrap64 (x424000_2 + 1)) 1 1 t424 t425 _ A12.out).mono ?_); rintro e w19 ⟨rfl, hb⟩; refine ⟨_, rfl, ?_⟩; replace BK422 := A_ (blk_below (bx_ BK422) hb); replace BK423 := A_ (blk_below (bx_ BK423) hb); replace HB := A_ (below_step (bl2_ HB GE422.out GE423.out) hb); (try clear hb); (try clear hb2); (try clear hk); (try clear hi); have hcz20_0 := cz_ BK423 0; have hcz20_1 := cz_ BK423 1; have hcz20_2 := cz_ BK423 2; have hfz20_0 := fz_ BK423 0; have hfz20_1 := fz_ BK423 1; have hfz20_2 := fz_ BK423 2))
         go_roundg k2
         case measure => have := HJ1.out; have := HK2.out; omega
         case rel => exact ⟨(wrap64 (x424000_2 + 1)), H', ⟨by have := HJ1.out; have := HK2.out; omega⟩, ⟨by refine bw_ ?_; refine blk_far ?_ NB422_423.out _; refine bw_ ?_; exact BK422.out⟩, ⟨by refine bw_ ?_; refine blk_put (cs := #[.int .i64 x424000_2, .int .i64 1, .int .i64 1]) ?_ 0 _ rfl; refine bw_ ?_; exact BK423.out⟩, ⟨bl2_ HB GE422.out GE423.out⟩⟩
       ·rw [if_neg c11] at H; have c11b0 := decide_eq_false c11; clear c11
        (first | rw [c11b0] | (simp only [i64_w, i32_w]; rw [c11b0]) | skip)
        have H' := A_ H; clear H; have hnb21 := NB423_422.out; have hnc21 := NB422_423.out; have hcz22_0 := cz_ BK423 0; have hcz22_1 := cz_ BK423 1; have hcz22_2 := cz_ BK423 2; have hfz22_0 := fz_ BK423 0; have hfz22_1 := fz_ BK423 1; have hfz22_2 := fz_ BK423 2
        go_wp2
        go_meet
        case rel => exact ⟨_, (x424000_2), H', ⟨by have := HJ1.out; have := HK2.out; first | omega | exact Nat.le_refl _⟩, ⟨bx_ BK422⟩, ⟨bx_ BK423⟩, ⟨bl2_ HB GE422.out GE423.out⟩⟩
    case rest =>
     clear HC7; try clear c1
     try clear c2
     try clear p2
     try clear c4
     try clear c4b0
     try clear c5
     try clear p6
     try clear c9
     try clear c11
     try clear c11b0
     try clear c13
     try clear c13b0
     try clear c14
     try clear c17
     try clear c21
     try clear hcz10_0 hcz10_1 hcz10_2
     try clear hcz15_0 hcz15_1 hcz15_2
     try clear hcz18_0 hcz18_1 hcz18_2
     try clear hcz20_0 hcz20_1 hcz20_2
     try clear hcz22_0 hcz22_1 hcz22_2
     try clear hcz6_0 hcz6_1 hcz6_2
     try clear hfz10_0 hfz10_1 hfz10_2
     try clear hfz15_0 hfz15_1 hfz15_2
     try clear hfz18_0 hfz18_1 hfz18_2
     try clear hfz20_0 hfz20_1 hfz20_2
     try clear hfz22_0 hfz22_1 hfz22_2
     try clear hfz6_0 hfz6_1 hfz6_2
     try clear p2
     try clear p6
     obtain ⟨kq, x424000_6, HA, HJ6, BK422, BK423, HB⟩ := hcut
     cases kq with
     | zero => exact absurd HA.out (by simp [date_Of.j2])
     | succ kj6 =>
      have H := HA.out; clear HA; simp only [date_Of.j2] at H; replace H := Option.bind_eq_some_iff.mp H; obtain ⟨⟨t426, t427⟩, A230, H⟩ := H; (try dsimp only at H); have A23 := A_ A230; clear A230; have H' := A_ H; clear H; have hnb24 := NB423_422.out; have hnc24 := NB422_423.out; have hcz25_0 := cz_ BK423 0; have hcz25_1 := cz_ BK423 1; have hcz25_2 := cz_ BK423 2; have hfz25_0 := fz_ BK423 0; have hfz25_1 := fz_ BK423 1; have hfz25_2 := fz_ BK423 2; go_wp2_with (first | ((with_reducible refine gate_callee (f := 114) rfl ?_); refine gm_ (some 41) Try.func114 #[.agg #[.int .i64 x424000_6, .int .i64 1, .int .i64 1]] ?_; (with_reducible refine (date_Number.calls kj6 x424000_6 1 1 t426 t427 _ A23.out).mono ?_); rintro e w26 ⟨rfl, hb⟩; refine ⟨_, rfl, ?_⟩; replace BK422 := A_ (blk_below (bx_ BK422) hb); replace BK423 := A_ (blk_below (bx_ BK423) hb); replace HB := A_ (below_step (bl2_ HB GE422.out GE423.out) hb); (try clear hb); (try clear hb2); (try clear hk); (try clear hi)))
      go_loopg [9] kj6 (fun kq v9 w' => ∃ (x9_3 : Int) (x424001_3 : Int), v9 = .int .i64 x9_3 ∧ Aside0 (date_Of.l1 kq x9_3 x424000_6 x424001_3 1 = some (r1, r2, r3, r4)) ∧ Aside0 (kq ≤ kj6) ∧ Aside0 (w'.heap[gb422]? = some (.cells #[.int .i64 0, .int .i64 0, .int .i64 0] 86 (0, 0))) ∧ Aside0 (w'.heap[gb423]? = some (.cells #[.int .i64 x424000_6, .int .i64 x424001_3, .int .i64 1] 86 (0, 0))) ∧ Aside0 (Below w.heap.size w w'))
      case atStart => exact ⟨(wrap64 (a0 - t426)), (1), (sx_), H', ⟨Nat.le_refl _⟩, ⟨bx_ BK422⟩, ⟨bx_ BK423⟩, ⟨bl2_ HB GE422.out GE423.out⟩⟩
      case round =>
       clear H'; try clear c1
       try clear c2
       try clear p2
       try clear c4
       try clear c4b0
       try clear c5
       try clear p6
       try clear c9
       try clear c11
       try clear c11b0
       try clear c13
       try clear c13b0
       try clear c14
       try clear c17
       try clear c21
       try clear c24
       try clear hcz10_0 hcz10_1 hcz10_2
       try clear hcz15_0 hcz15_1 hcz15_2
       try clear hcz18_0 hcz18_1 hcz18_2
       try clear hcz20_0 hcz20_1 hcz20_2
       try clear hcz22_0 hcz22_1 hcz22_2
       try clear hcz25_0 hcz25_1 hcz25_2
       try clear hcz6_0 hcz6_1 hcz6_2
       try clear hfz10_0 hfz10_1 hfz10_2
       try clear hfz15_0 hfz15_1 hfz15_2
       try clear hfz18_0 hfz18_1 hfz18_2
       try clear hfz20_0 hfz20_1 hfz20_2
       try clear hfz22_0 hfz22_1 hfz22_2
       try clear hfz25_0 hfz25_1 hfz25_2
       try clear hfz6_0 hfz6_1 hfz6_2
       try clear p2
       try clear p6
       obtain ⟨x9_3, x424001_3, rfl, HA, HK3, BK422, BK423, HB⟩ := hrel
       cases gk with
       | zero => exact absurd HA.out (by simp [date_Of.l1])
       | succ k3 =>
        have H := HA.out; clear HA; simp only [date_Of.l1] at H; replace H := Option.bind_eq_some_iff.mp H; obtain ⟨t428, A270, H⟩ := H; (try dsimp only at H); have A27 := A_ A270; clear A270; by_cases c28 : x9_3 ≥ t428
        ·rw [if_pos c28] at H; have c28b0 : decide (t428 ≤ x9_3) = true := decide_eq_true c28; clear c28; replace H := Option.bind_eq_some_iff.mp H; obtain ⟨t429, A290, H⟩ := H; (try dsimp only at H); have A29 := A_ A290; clear A290; have H' := A_ H; clear H; have hnb30 := NB423_422.out; have hnc30 := NB422_423.out; have hcz31_0 := cz_ BK423 0; have hcz31_1 := cz_ BK423 1; have hcz31_2 := cz_ BK423 2; have hfz31_0 := fz_ BK423 0; have hfz31_1 := fz_ BK423 1; have hfz31_2 := fz_ BK423 2; go_wp2_with (first | ((with_reducible refine gate_callee (f := 148) rfl ?_); refine gm_ (some 52) Try.func148 #[.int .i64 x424000_6, .int .i64 x424001_3] ?_; (with_reducible refine (date_Last.calls k3 x424000_6 x424001_3 t428 _ A27.out).mono ?_); rintro e w' ⟨rfl, ⟨nd, rfl⟩⟩; refine ⟨_, rfl, ?_⟩) | ((with_reducible refine gate_callee (f := 148) rfl ?_); refine gm_ (some 59) Try.func148 #[.int .i64 x424000_6, .int .i64 x424001_3] ?_; (with_reducible refine (date_Last.calls k3 x424000_6 x424001_3 t429 _ A29.out).mono ?_); rintro e w' ⟨rfl, ⟨nd, rfl⟩⟩; refine ⟨_, rfl, ?_⟩))
         go_roundg k3
         case measure => have := HJ1.out; have := HJ6.out; have := HK3.out; omega
         case rel => exact ⟨(wrap64 (x9_3 - t429)), (wrap64 (x424001_3 + 1)), (sx_), H', ⟨by have := HJ1.out; have := HJ6.out; have := HK3.out; omega⟩, ⟨by refine bw_ ?_; refine blk_far ?_ NB422_423.out _; refine bw_ ?_; exact BK422.out⟩, ⟨by refine bw_ ?_; refine blk_put (cs := #[.int .i64 x424000_6, .int .i64 x424001_3, .int .i64 1]) ?_ 1 _ rfl; refine bw_ ?_; exact BK423.out⟩, ⟨bl2_ HB GE422.out GE423.out⟩⟩
        ·rw [if_neg c28] at H; have c28b0 : decide (t428 ≤ x9_3) = false := decide_eq_false c28; clear c28; simp only [Option.some.injEq, Prod.mk.injEq] at H; obtain ⟨rfl, rfl, rfl, rfl⟩ := H; have hnb32 := NB423_422.out; have hnc32 := NB422_423.out; have hcz33_0 := cz_ BK423 0; have hcz33_1 := cz_ BK423 1; have hcz33_2 := cz_ BK423 2; have hfz33_0 := fz_ BK423 0; have hfz33_1 := fz_ BK423 1; have hfz33_2 := fz_ BK423 2; go_wp2_with (first | ((with_reducible refine gate_callee (f := 148) rfl ?_); refine gm_ (some 52) Try.func148 #[.int .i64 x424000_6, .int .i64 x424001_3] ?_; (with_reducible refine (date_Last.calls k3 x424000_6 x424001_3 t428 _ A27.out).mono ?_); rintro e w' ⟨rfl, ⟨nd, rfl⟩⟩; refine ⟨_, rfl, ?_⟩; have hcz34_0 := cz_ BK422 0; have hcz34_1 := cz_ BK422 1; have hcz34_2 := cz_ BK422 2; have hfz34_0 := fz_ BK422 0; have hfz34_1 := fz_ BK422 1; have hfz34_2 := fz_ BK422 2))
         refine bodyPost_ret (results_ct rfl _ _ gb422 86 #[.int .i64 x424000_6, .int .i64 x424001_3, .int .i64 (wrap64 (1 + x9_3))] (0, 0) _ rfl (by refine bw_ ?_; refine blk_put (cs := #[.int .i64 x424000_6, .int .i64 x424001_3, .int .i64 0]) ?_ 2 _ rfl; refine bw_ ?_; refine blk_put (cs := #[.int .i64 x424000_6, .int .i64 0, .int .i64 0]) ?_ 1 _ rfl; refine bw_ ?_; refine blk_put (cs := #[.int .i64 0, .int .i64 0, .int .i64 0]) ?_ 0 _ rfl; refine bw_ ?_; refine blk_far ?_ NB422_423.out _; refine bw_ ?_; exact BK422.out) Try.underlying86 rfl (by kernel_rfl)) rfl ?_
         exact ⟨er_, bl2_ HB GE422.out GE423.out⟩
def date_Add.j0 : Nat → Int → Int → Bool → Option (Int × Int × Int × Int)
 | 0, _, _, _ => none
 | k + 1, x1, x6, x22 => if x22 = true then (some (0, 0, 0, 30)) else ((date_Of.f k (wrap64 (x6 + x1))).bind fun bt434 => (some (bt434.1, bt434.2.1, bt434.2.2.1, bt434.2.2.2)))
def date_Add.f (k : Nat) (a0_0 : Int) (a0_1 : Int) (a0_2 : Int) (a1 : Int) : Option (Int × Int × Int × Int) := (date_Number.f k a0_0 a0_1 a0_2).bind fun bt432 => (if bt432.2 = 0 then (if a1 > 109573 then (date_Add.j0 k a1 bt432.1 true) else (date_Add.j0 k a1 bt432.1 (decide (a1 < (-109573))))) else (some (0, 0, 0, bt432.2)))
set_option maxHeartbeats 8000000 in
set_option maxRecDepth 100000 in
theorem date_Add.calls (k : Nat) (a0_0 : Int) (a0_1 : Int) (a0_2 : Int) (a1 : Int) (r1 : Int) (r2 : Int) (r3 : Int) (r4 : Int) (w : World) (h : date_Add.f k a0_0 a0_1 a0_2 a1 = some (r1, r2, r3, r4)) :
  Calls Try.prog 113 #[.agg #[.int .i64 a0_0, .int .i64 a0_1, .int .i64 a0_2], .int .i64 a1] w fun e w' => e = .returned (.tuple #[.agg #[.int .i64 r1, .int .i64 r2, .int .i64 r3], .int .i64 r4]) ∧ Below w.heap.size w w' := by
 have hu86 := Try.underlying86; have HB := A_ (Below.refl w.heap.size w); unfold date_Add.f at h; have H := h; clear h; replace H := Option.bind_eq_some_iff.mp H; obtain ⟨⟨t432, t433⟩, A30, H⟩ := H; (try dsimp only at H); have A3 := A_ A30; clear A30; by_cases c4 : t433 = 0
 ·rw [if_pos c4] at H; have c4b0 : (t433 == 0) = true := beq_iff_eq.mpr c4; have c4b1 : (t433 != 0) = false := bne_eq_false_iff_eq.mpr c4; clear c4; have HC5 := A_ H; clear H; go_enter Try.func113, Try.ntmps113
  go_upto_region 4 with (first | ((with_reducible refine gate_dst (N := 2) rfl ?_); refine be_ (N := 2) (cs := #[.int .i64 a0_0, .int .i64 a0_1, .int .i64 a0_2]) (t := 86) ?_; intro gb430 hg w6 hbox hb; have BK430 := A_ (hbox); have GW430 := A_ ((by rw [hg]; exact (below_size (bl_ HB)) : w.heap.size ≤ gb430)); have GE430 := A_ ((by rw [hg]; exact (below_size (bl_ HB)) : w.heap.size ≤ gb430)); replace HB := A_ (below_step (bl_ HB) hb); clear hb hbox hg) | ((with_reducible refine gate_dst (N := 4) rfl ?_); refine be_ (N := 4) (cs := #[.int .i64 0, .int .i64 0, .int .i64 0]) (t := 86) ?_; intro gb431 hg w7 hbox hb; have BK431 := A_ (hbox); have GW431 := A_ ((by rw [hg]; exact (below_size (bl1_ HB GE430.out)) : w.heap.size ≤ gb431)); have GE431 := A_ ((by rw [hg]; exact (below_size (bl1_ HB GE430.out)) : w.heap.size ≤ gb431)); have NB430_431 := A_ ((by rw [hg]; exact Nat.ne_of_lt (blk_lt (bx_ BK430)) : gb430 ≠ gb431)); have NB431_430 := A_ ((by rw [hg]; exact Nat.ne_of_gt (blk_lt (bx_ BK430)) : gb431 ≠ gb430)); replace BK430 := A_ (blk_below (bx_ BK430) hb); replace HB := A_ (below_step (bl1_ HB GE430.out) hb); clear hb hbox hg; have hnb8 := NB430_431.out; have hnc8 := NB431_430.out; have hcz9_0 := cz_ BK430 0; have hcz9_1 := cz_ BK430 1; have hcz9_2 := cz_ BK430 2; have hfz9_0 := fz_ BK430 0; have hfz9_1 := fz_ BK430 1; have hfz9_2 := fz_ BK430 2) | ((with_reducible refine gate_callee (f := 114) rfl ?_); refine gm_ (some 10) Try.func114 #[.agg #[.int .i64 a0_0, .int .i64 a0_1, .int .i64 a0_2]] ?_; (with_reducible refine (date_Number.calls k a0_0 a0_1 a0_2 t432 t433 _ A3.out).mono ?_); rintro e w10 ⟨rfl, hb⟩; refine ⟨_, rfl, ?_⟩; replace BK430 := A_ (blk_below (bx_ BK430) hb); replace BK431 := A_ (blk_below (bx_ BK431) hb); replace HB := A_ (below_step (bl2_ HB GE430.out GE431.out) hb); (try clear hb); (try clear hb2); (try clear hk); (try clear hi)))
  (try simp only [Act.put, List.setIfInBounds_toArray, List.set_cons_zero, List.set_cons_succ])
  go_cut [22] (fun v22 wc => ∃ (kq : Nat) (x22_4 : Bool), v22 = .bool x22_4 ∧ Aside0 (date_Add.j0 kq a1 t432 x22_4 = some (r1, r2, r3, r4)) ∧ Aside0 (kq ≤ k) ∧ Aside0 (wc.heap[gb430]? = some (.cells #[.int .i64 a0_0, .int .i64 a0_1, .int .i64 a0_2] 86 (0, 0))) ∧ Aside0 (wc.heap[gb431]? = some (.cells #[.int .i64 0, .int .i64 0, .int .i64 0] 86 (0, 0))) ∧ Aside0 (Below w.heap.size w wc))
  case first =>
   have H := HC5.out; clear HC5; by_cases c11 : a1 > 109573
   ·rw [if_pos c11] at H; have c11b0 : decide (109573 < a1) = true := decide_eq_true c11; clear c11
    (first | rw [c11b0] | (simp only [i64_w, i32_w]; rw [c11b0]) | skip)
    have H' := A_ H; clear H
    go_wp2
    go_meet
    case rel => exact ⟨_, (true), (sx_), H', ⟨by first | omega | exact Nat.le_refl _⟩, ⟨bx_ BK430⟩, ⟨bx_ BK431⟩, ⟨bl2_ HB GE430.out GE431.out⟩⟩
   ·rw [if_neg c11] at H; have c11b0 : decide (109573 < a1) = false := decide_eq_false c11; clear c11
    (first | rw [c11b0] | (simp only [i64_w, i32_w]; rw [c11b0]) | skip)
    have H' := A_ H; clear H
    go_wp2
    go_meet
    case rel => exact ⟨_, (decide (a1 < (-109573))), (sx_), H', ⟨by first | omega | exact Nat.le_refl _⟩, ⟨bx_ BK430⟩, ⟨bx_ BK431⟩, ⟨bl2_ HB GE430.out GE431.out⟩⟩
  case rest =>
   clear HC5; try clear c1
   try clear p2
   try clear c4
   try clear c4b0
   try clear c4b1
   try clear c8
   try clear c11
   try clear c11b0
   try clear hcz9_0 hcz9_1 hcz9_2
   try clear hfz9_0 hfz9_1 hfz9_2
   obtain ⟨kq, x22_4, rfl, HA, HJ4, BK430, BK431, HB⟩ := hcut
   cases kq with
   | zero => exact absurd HA.out (by simp [date_Add.j0])
   | succ kj4 =>
    have H := HA.out; clear HA; simp only [date_Add.j0] at H; by_cases c12 : x22_4 = true
    ·subst c12; rw [if_pos rfl] at H; simp only [Option.some.injEq, Prod.mk.injEq] at H; obtain ⟨rfl, rfl, rfl, rfl⟩ := H; have hnb13 := NB431_430.out; have hnc13 := NB430_431.out; have hcz14_0 := cz_ BK431 0; have hcz14_1 := cz_ BK431 1; have hcz14_2 := cz_ BK431 2; have hfz14_0 := fz_ BK431 0; have hfz14_1 := fz_ BK431 1; have hfz14_2 := fz_ BK431 2
     go_wp2
     refine bodyPost_ret (results_ct rfl _ _ gb431 86 #[.int .i64 0, .int .i64 0, .int .i64 0] (0, 0) _ rfl (by refine bw_ ?_; refine blk_put (cs := #[.int .i64 0, .int .i64 0, .int .i64 0]) ?_ 2 _ rfl; refine bw_ ?_; refine blk_put (cs := #[.int .i64 0, .int .i64 0, .int .i64 0]) ?_ 1 _ rfl; refine bw_ ?_; refine blk_put (cs := #[.int .i64 0, .int .i64 0, .int .i64 0]) ?_ 0 _ rfl; refine bw_ ?_; exact BK431.out) Try.underlying86 rfl (by kernel_rfl)) rfl ?_
     exact ⟨er_, bl2_ HB GE430.out GE431.out⟩
    ·replace c12 := Bool.eq_false_iff.mpr c12; subst c12; rw [if_neg (show ¬ (false = true) by decide)] at H; replace H := Option.bind_eq_some_iff.mp H; obtain ⟨⟨t434, t435, t436, t437⟩, A150, H⟩ := H; (try dsimp only at H); have A15 := A_ A150; clear A150; simp only [Option.some.injEq, Prod.mk.injEq] at H; obtain ⟨rfl, rfl, rfl, rfl⟩ := H; go_wp2_with (first | ((with_reducible refine gate_callee (f := 149) rfl ?_); refine gm_ (some 27) Try.func149 #[.int .i64 (wrap64 (t432 + a1))] ?_; (with_reducible refine (date_Of.calls kj4 (wrap64 (t432 + a1)) t434 t435 t436 t437 _ A15.out).mono ?_); rintro e w16 ⟨rfl, hb⟩; refine ⟨_, rfl, ?_⟩; replace BK430 := A_ (blk_below (bx_ BK430) hb); replace BK431 := A_ (blk_below (bx_ BK431) hb); replace HB := A_ (below_step (bl2_ HB GE430.out GE431.out) hb); (try clear hb); (try clear hb2); (try clear hk); (try clear hi); have hnb17 := NB431_430.out; have hnc17 := NB430_431.out; have hcz18_0 := cz_ BK431 0; have hcz18_1 := cz_ BK431 1; have hcz18_2 := cz_ BK431 2; have hfz18_0 := fz_ BK431 0; have hfz18_1 := fz_ BK431 1; have hfz18_2 := fz_ BK431 2))
     refine bodyPost_ret (results_ct rfl _ _ gb431 86 #[.int .i64 t434, .int .i64 t435, .int .i64 t436] (0, 0) _ rfl (by refine bw_ ?_; refine blk_put (cs := #[.int .i64 t434, .int .i64 t435, .int .i64 0]) ?_ 2 _ rfl; refine bw_ ?_; refine blk_put (cs := #[.int .i64 t434, .int .i64 0, .int .i64 0]) ?_ 1 _ rfl; refine bw_ ?_; refine blk_put (cs := #[.int .i64 0, .int .i64 0, .int .i64 0]) ?_ 0 _ rfl; refine bw_ ?_; exact BK431.out) Try.underlying86 rfl (by kernel_rfl)) rfl ?_
     exact ⟨er_, bl2_ HB GE430.out GE431.out⟩
 ·rw [if_neg c4] at H; have c4b0 : (t433 == 0) = false := beq_eq_false_iff_ne.mpr c4; have c4b1 : (t433 != 0) = true := bne_iff_ne.mpr c4; simp only [Option.some.injEq, Prod.mk.injEq] at H; obtain ⟨rfl, rfl, rfl, rfl⟩ := H; go_enter Try.func113, Try.ntmps113
  go_wp2_with (first | ((with_reducible refine gate_dst (N := 2) rfl ?_); refine be_ (N := 2) (cs := #[.int .i64 a0_0, .int .i64 a0_1, .int .i64 a0_2]) (t := 86) ?_; intro gb430 hg w19 hbox hb; have BK430 := A_ (hbox); have GW430 := A_ ((by rw [hg]; exact (below_size (bl_ HB)) : w.heap.size ≤ gb430)); have GE430 := A_ ((by rw [hg]; exact (below_size (bl_ HB)) : w.heap.size ≤ gb430)); replace HB := A_ (below_step (bl_ HB) hb); clear hb hbox hg) | ((with_reducible refine gate_dst (N := 4) rfl ?_); refine be_ (N := 4) (cs := #[.int .i64 0, .int .i64 0, .int .i64 0]) (t := 86) ?_; intro gb431 hg w20 hbox hb; have BK431 := A_ (hbox); have GW431 := A_ ((by rw [hg]; exact (below_size (bl1_ HB GE430.out)) : w.heap.size ≤ gb431)); have GE431 := A_ ((by rw [hg]; exact (below_size (bl1_ HB GE430.out)) : w.heap.size ≤ gb431)); have NB430_431 := A_ ((by rw [hg]; exact Nat.ne_of_lt (blk_lt (bx_ BK430)) : gb430 ≠ gb431)); have NB431_430 := A_ ((by rw [hg]; exact Nat.ne_of_gt (blk_lt (bx_ BK430)) : gb431 ≠ gb430)); replace BK430 := A_ (blk_below (bx_ BK430) hb); replace HB := A_ (below_step (bl1_ HB GE430.out) hb); clear hb hbox hg; have hnb21 := NB430_431.out; have hnc21 := NB431_430.out; have hcz22_0 := cz_ BK430 0; have hcz22_1 := cz_ BK430 1; have hcz22_2 := cz_ BK430 2; have hfz22_0 := fz_ BK430 0; have hfz22_1 := fz_ BK430 1; have hfz22_2 := fz_ BK430 2) | ((with_reducible refine gate_callee (f := 114) rfl ?_); refine gm_ (some 10) Try.func114 #[.agg #[.int .i64 a0_0, .int .i64 a0_1, .int .i64 a0_2]] ?_; (with_reducible refine (date_Number.calls k a0_0 a0_1 a0_2 t432 t433 _ A3.out).mono ?_); rintro e w23 ⟨rfl, hb⟩; refine ⟨_, rfl, ?_⟩; replace BK430 := A_ (blk_below (bx_ BK430) hb); replace BK431 := A_ (blk_below (bx_ BK431) hb); replace HB := A_ (below_step (bl2_ HB GE430.out GE431.out) hb); (try clear hb); (try clear hb2); (try clear hk); (try clear hi); have hcz24_0 := cz_ BK431 0; have hcz24_1 := cz_ BK431 1; have hcz24_2 := cz_ BK431 2; have hfz24_0 := fz_ BK431 0; have hfz24_1 := fz_ BK431 1; have hfz24_2 := fz_ BK431 2))
  refine bodyPost_ret (results_ct rfl _ _ gb431 86 #[.int .i64 0, .int .i64 0, .int .i64 0] (0, 0) _ rfl (by refine bw_ ?_; refine blk_put (cs := #[.int .i64 0, .int .i64 0, .int .i64 0]) ?_ 2 _ rfl; refine bw_ ?_; refine blk_put (cs := #[.int .i64 0, .int .i64 0, .int .i64 0]) ?_ 1 _ rfl; refine bw_ ?_; refine blk_put (cs := #[.int .i64 0, .int .i64 0, .int .i64 0]) ?_ 0 _ rfl; refine bw_ ?_; exact BK431.out) Try.underlying86 rfl (by kernel_rfl)) rfl ?_
  exact ⟨er_, bl2_ HB GE430.out GE431.out⟩
def date_Between.j0 : Nat → Int → Int → Bool → Option (Int × Int)
 | 0, _, _, _ => none
 | k + 1, x6, x8, x25 => if x25 = true then (some (0, 30)) else (some (wrap64 (x8 - x6), 0))
def date_Between.f (k : Nat) (a0_0 : Int) (a0_1 : Int) (a0_2 : Int) (a1_0 : Int) (a1_1 : Int) (a1_2 : Int) : Option (Int × Int) := (date_Number.f k a0_0 a0_1 a0_2).bind fun bt440 => ((date_Number.f k a1_0 a1_1 a1_2).bind fun bt442 => (if bt440.2 = 0 then (date_Between.j0 k bt440.1 bt442.1 (bt442.2 != 0)) else (date_Between.j0 k bt440.1 bt442.1 true)))
set_option maxHeartbeats 8000000 in
set_option maxRecDepth 100000 in
theorem date_Between.calls (k : Nat) (a0_0 : Int) (a0_1 : Int) (a0_2 : Int) (a1_0 : Int) (a1_1 : Int) (a1_2 : Int) (r1 : Int) (r2 : Int) (w : World) (h : date_Between.f k a0_0 a0_1 a0_2 a1_0 a1_1 a1_2 = some (r1, r2)) :
  Calls Try.prog 115 #[.agg #[.int .i64 a0_0, .int .i64 a0_1, .int .i64 a0_2], .agg #[.int .i64 a1_0, .int .i64 a1_1, .int .i64 a1_2]] w fun e w' => e = .returned (.tuple #[.int .i64 r1, .int .i64 r2]) ∧ Below w.heap.size w w' := by
 have hu86 := Try.underlying86; have HB := A_ (Below.refl w.heap.size w); unfold date_Between.f at h; have H := h; clear h; replace H := Option.bind_eq_some_iff.mp H; obtain ⟨⟨t440, t441⟩, A30, H⟩ := H; (try dsimp only at H); have A3 := A_ A30; clear A30; replace H := Option.bind_eq_some_iff.mp H; obtain ⟨⟨t442, t443⟩, A40, H⟩ := H; (try dsimp only at H); have A4 := A_ A40; clear A40; have HC5 := A_ H; clear H; go_enter Try.func115, Try.ntmps115
 go_upto_region 3 with (first | ((with_reducible refine gate_dst (N := 2) rfl ?_); refine be_ (N := 2) (cs := #[.int .i64 a0_0, .int .i64 a0_1, .int .i64 a0_2]) (t := 86) ?_; intro gb438 hg w6 hbox hb; have BK438 := A_ (hbox); have GW438 := A_ ((by rw [hg]; exact (below_size (bl_ HB)) : w.heap.size ≤ gb438)); have GE438 := A_ ((by rw [hg]; exact (below_size (bl_ HB)) : w.heap.size ≤ gb438)); replace HB := A_ (below_step (bl_ HB) hb); clear hb hbox hg) | ((with_reducible refine gate_dst (N := 3) rfl ?_); refine be_ (N := 3) (cs := #[.int .i64 a1_0, .int .i64 a1_1, .int .i64 a1_2]) (t := 86) ?_; intro gb439 hg w7 hbox hb; have BK439 := A_ (hbox); have GW439 := A_ ((by rw [hg]; exact (below_size (bl1_ HB GE438.out)) : w.heap.size ≤ gb439)); have GE439 := A_ ((by rw [hg]; exact (below_size (bl1_ HB GE438.out)) : w.heap.size ≤ gb439)); have NB438_439 := A_ ((by rw [hg]; exact Nat.ne_of_lt (blk_lt (bx_ BK438)) : gb438 ≠ gb439)); have NB439_438 := A_ ((by rw [hg]; exact Nat.ne_of_gt (blk_lt (bx_ BK438)) : gb439 ≠ gb438)); replace BK438 := A_ (blk_below (bx_ BK438) hb); replace HB := A_ (below_step (bl1_ HB GE438.out) hb); clear hb hbox hg; have hnb8 := NB438_439.out; have hnc8 := NB439_438.out; have hcz9_0 := cz_ BK438 0; have hcz9_1 := cz_ BK438 1; have hcz9_2 := cz_ BK438 2; have hfz9_0 := fz_ BK438 0; have hfz9_1 := fz_ BK438 1; have hfz9_2 := fz_ BK438 2) | ((with_reducible refine gate_callee (f := 114) rfl ?_); refine gm_ (some 12) Try.func114 #[.agg #[.int .i64 a0_0, .int .i64 a0_1, .int .i64 a0_2]] ?_; (with_reducible refine (date_Number.calls k a0_0 a0_1 a0_2 t440 t441 _ A3.out).mono ?_); rintro e w10 ⟨rfl, hb⟩; refine ⟨_, rfl, ?_⟩; replace BK438 := A_ (blk_below (bx_ BK438) hb); replace BK439 := A_ (blk_below (bx_ BK439) hb); replace HB := A_ (below_step (bl2_ HB GE438.out GE439.out) hb); (try clear hb); (try clear hb2); (try clear hk); (try clear hi); have hcz11_0 := cz_ BK439 0; have hcz11_1 := cz_ BK439 1; have hcz11_2 := cz_ BK439 2; have hfz11_0 := fz_ BK439 0; have hfz11_1 := fz_ BK439 1; have hfz11_2 := fz_ BK439 2) | ((with_reducible refine gate_callee (f := 114) rfl ?_); refine gm_ (some 17) Try.func114 #[.agg #[.int .i64 a1_0, .int .i64 a1_1, .int .i64 a1_2]] ?_; (with_reducible refine (date_Number.calls k a1_0 a1_1 a1_2 t442 t443 _ A4.out).mono ?_); rintro e w12 ⟨rfl, hb⟩; refine ⟨_, rfl, ?_⟩; replace BK438 := A_ (blk_below (bx_ BK438) hb); replace BK439 := A_ (blk_below (bx_ BK439) hb); replace HB := A_ (below_step (bl2_ HB GE438.out GE439.out) hb); (try clear hb); (try clear hb2); (try clear hk); (try clear hi)))
 (try simp only [Act.put, List.setIfInBounds_toArray, List.set_cons_zero, List.set_cons_succ])
 go_cut [25] (fun v25 wc => ∃ (kq : Nat) (x25_4 : Bool), v25 = .bool x25_4 ∧ Aside0 (date_Between.j0 kq t440 t442 x25_4 = some (r1, r2)) ∧ Aside0 (kq ≤ k) ∧ Aside0 (wc.heap[gb438]? = some (.cells #[.int .i64 a0_0, .int .i64 a0_1, .int .i64 a0_2] 86 (0, 0))) ∧ Aside0 (wc.heap[gb439]? = some (.cells #[.int .i64 a1_0, .int .i64 a1_1, .int .i64 a1_2] 86 (0, 0))) ∧ Aside0 (Below w.heap.size w wc))
 case first =>
  have H := HC5.out; clear HC5; by_cases c13 : t441 = 0
  ·rw [if_pos c13] at H; have c13b0 : (t441 == 0) = true := beq_iff_eq.mpr c13; have c13b1 : (t441 != 0) = false := bne_eq_false_iff_eq.mpr c13; clear c13
   (first | rw [c13b0] | (simp only [i64_w, i32_w]; rw [c13b0]) | skip)
   have H' := A_ H; clear H
   go_wp2
   go_meet
   case rel => exact ⟨_, ((t443 != 0)), (sx_), H', ⟨by first | omega | exact Nat.le_refl _⟩, ⟨bx_ BK438⟩, ⟨bx_ BK439⟩, ⟨bl2_ HB GE438.out GE439.out⟩⟩
  ·rw [if_neg c13] at H; have c13b0 : (t441 == 0) = false := beq_eq_false_iff_ne.mpr c13; have c13b1 : (t441 != 0) = true := bne_iff_ne.mpr c13
   (first | rw [c13b0] | (simp only [i64_w, i32_w]; rw [c13b0]) | skip)
   have H' := A_ H; clear H
   go_wp2
   go_meet
   case rel => exact ⟨_, (true), (sx_), H', ⟨by first | omega | exact Nat.le_refl _⟩, ⟨bx_ BK438⟩, ⟨bx_ BK439⟩, ⟨bl2_ HB GE438.out GE439.out⟩⟩
 case rest =>
  clear HC5; try clear c1
  try clear p2
  try clear c8
  try clear c11
  try clear c13
  try clear c13b0
  try clear c13b1
  try clear hcz11_0 hcz11_1 hcz11_2
  try clear hcz9_0 hcz9_1 hcz9_2
  try clear hfz11_0 hfz11_1 hfz11_2
  try clear hfz9_0 hfz9_1 hfz9_2
  obtain ⟨kq, x25_4, rfl, HA, HJ4, BK438, BK439, HB⟩ := hcut
  cases kq with
  | zero => exact absurd HA.out (by simp [date_Between.j0])
  | succ kj4 =>
   have H := HA.out; clear HA; simp only [date_Between.j0] at H; by_cases c14 : x25_4 = true
   ·subst c14; rw [if_pos rfl] at H; simp only [Option.some.injEq, Prod.mk.injEq] at H; obtain ⟨rfl, rfl⟩ := H
    go_wp2
    go_ret2
    exact ⟨er_, bl2_ HB GE438.out GE439.out⟩
   ·replace c14 := Bool.eq_false_iff.mpr c14; subst c14; rw [if_neg (show ¬ (false = true) by decide)] at H; simp only [Option.some.injEq, Prod.mk.injEq] at H; obtain ⟨rfl, rfl⟩ := H
    go_wp2
    go_ret2
    exact ⟨er_, bl2_ HB GE438.out GE439.out⟩
end Go.Proofs.Ytcapgmoipacioaa.P
