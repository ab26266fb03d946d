import Derived.Test.YtcapgmoipacioaaPtZg
import Derived.Test.YtcapgmoipacioaaY1Zg
namespace Go.Proofs.Ytcapgmoipacioaa.P
open Go.RowKit Go.Proofs.YtcapgmoipacioaaW.PrintWords Go.Proofs.YtcapgmoipacioaaW.PrintLast Go.Proofs.YtcapgmoipacioaaW.PrintMore
set_option linter.unusedVariables false
set_option linter.unusedSimpArgs false
mutual
def word_Name.j0 : Nat → ByteArray → Bool → Option (Bool)
 | 0, _, _ => none
 | k + 1, x0, x12 => if x12 = true then (some false) else (word_Name.l0 k x0 (x0.size : Int) 0)
def word_Name.l0 : Nat → ByteArray → Int → Int → Option (Bool)
 | 0, _, _, _ => none
 | k + 1, x0, x14, x15 => if x15 < x14 then (if 0 ≤ x15 then (if x15 < (x0.size : Int) then (if (bt x0 x15) ≥ 97 then (word_Name.j2 k x0 x15 (bt x0 x15) (decide ((bt x0 x15) ≤ 122)) x14 x15) else (word_Name.j2 k x0 x15 (bt x0 x15) false x14 x15)) else (none)) else (none)) else (some true)
def word_Name.j2 : Nat → ByteArray → Int → Int → Bool → Int → Int → Option (Bool)
 | 0, _, _, _, _, _, _ => none
 | k + 1, x0, x3, x4, x5, x14, x15 => if x5 = true then (word_Name.j3 k x0 x14 x15 false) else (if x3 = 0 then (word_Name.j3 k x0 x14 x15 true) else (if x4 < 48 then (word_Name.j3 k x0 x14 x15 (x4 != 45)) else (if x4 > 57 then (word_Name.j3 k x0 x14 x15 (x4 != 45)) else (word_Name.j3 k x0 x14 x15 false))))
def word_Name.j3 : Nat → ByteArray → Int → Int → Bool → Option (Bool)
 | 0, _, _, _, _ => none
 | k + 1, x0, x14, x15, x44 => if x44 = true then (some false) else (word_Name.l0 k x0 x14 (wrap64 (x15 + 1)))
end
def word_Name.f (k : Nat) (a0 : ByteArray) : Option (Bool) := if a0.toList = ([] : List UInt8) then (word_Name.j0 k a0 true) else (word_Name.j0 k a0 (decide ((a0.size : Int) > 16)))
set_option maxHeartbeats 8000000 in
set_option maxRecDepth 100000 in
theorem word_Name.calls (k : Nat) (a0 : ByteArray) (r : Bool) (w : World) (h : word_Name.f k a0 = some r) :
  Calls Try.prog 140 #[.string a0] w fun e w' => e = .returned (.bool r) ∧ Drawn0 w w' := by
 unfold word_Name.f at h; have H := h; clear h; have HC2 := A_ H; clear H; go_enter Try.func140, Try.ntmps140
 go_upto_region 1 with (fail)
 go_cut [12] (fun v12 wc => ∃ (kq : Nat) (x12_1 : Bool), v12 = .bool x12_1 ∧ Aside0 (word_Name.j0 kq a0 x12_1 = some r) ∧ Aside0 (kq ≤ k) ∧ Drawn0 w wc)
 case first =>
  have H := HC2.out; clear HC2; by_cases c3 : a0.toList = ([] : List UInt8)
  ·rw [if_pos c3] at H; have c3b0 : (a0.toList == ([] : List UInt8)) = true := beq_iff_eq.mpr c3; have c3b1 : (a0.toList != ([] : List UInt8)) = false := bne_eq_false_iff_eq.mpr c3; clear c3
   (first | rw [c3b0] | (simp only [i64_w, i32_w]; rw [c3b0]) | skip)
   have H' := A_ H; clear H
   go_wp2
   go_meet
   case rel => exact ⟨_, (true), (sx_), H', ⟨by first | omega | exact Nat.le_refl _⟩, by repeat (first | exact Drawn0.refl _ | apply Drawn0.step)⟩
  ·rw [if_neg c3] at H; have c3b0 : (a0.toList == ([] : List UInt8)) = false := beq_eq_false_iff_ne.mpr c3; have c3b1 : (a0.toList != ([] : List UInt8)) = true := bne_iff_ne.mpr c3
   (first | rw [c3b0] | (simp only [i64_w, i32_w]; rw [c3b0]) | skip)
   have H' := A_ H; clear H
   go_wp2
   go_meet
   case rel => exact ⟨_, (decide ((a0.size : Int) > 16)), (sx_), H', ⟨by first | omega | exact Nat.le_refl _⟩, by repeat (first | exact Drawn0.refl _ | apply Drawn0.step)⟩
 case rest =>
  clear HC2; try clear c1
  try clear p2
  try clear c3
  try clear c3b0
  try clear c3b1
  obtain ⟨kq, x12_1, rfl, HA, HJ1, ⟨mc1, rfl⟩⟩ := hcut
  cases kq with
  | zero => exact absurd HA.out (by simp [word_Name.j0])
  | succ kj1 =>
   have H := HA.out; clear HA; simp only [word_Name.j0] at H; by_cases c4 : x12_1 = true
   ·subst c4; rw [if_pos rfl] at H; obtain rfl := Option.some.inj H
    go_wp2
    go_ret
    exact ⟨sx_, by repeat (first | exact Drawn0.refl _ | apply Drawn0.step)⟩
   ·replace c4 := Bool.eq_false_iff.mpr c4; subst c4; rw [if_neg (show ¬ (false = true) by decide)] at H; have H' := A_ H; clear H
    go_wp2
    go_loopg [15] kj1 (fun kq v15 w' => ∃ (x15_2 : Int), v15 = .int .i64 x15_2 ∧ Aside0 (word_Name.l0 kq a0 (a0.size : Int) x15_2 = some r) ∧ Aside0 (kq ≤ kj1) ∧ Drawn0 w w')
    case atStart => exact ⟨(0), (sx_), H', ⟨Nat.le_refl _⟩, by repeat (first | exact Drawn0.refl _ | apply Drawn0.step)⟩
    case round =>
     clear H'; try clear c1
     try clear p2
     try clear c3
     try clear c3b0
     try clear c3b1
     try clear c4
     try clear p2
     obtain ⟨x15_2, rfl, HA, HK2, ⟨m2, rfl⟩⟩ := hrel
     cases gk with
     | zero => exact absurd HA.out (by simp [word_Name.l0])
     | succ k2 =>
      have H := HA.out; clear HA; simp only [word_Name.l0] at H; by_cases c5 : x15_2 < (a0.size : Int)
      ·rw [if_pos c5] at H; have c5b0 := decide_eq_true c5; clear c5; by_cases c6 : 0 ≤ x15_2
       ·rw [if_pos c6] at H; have c6b0 := decide_eq_true c6; clear c6; by_cases c7 : x15_2 < (a0.size : Int)
        ·rw [if_pos c7] at H; have c7b0 := decide_eq_true c7; clear c7; have HC9 := A_ H; clear H; have p8 : 0 ≤ (x15_2 : Int) := od_; have q8 : x15_2 < (a0.size : Int) := od_; have hx8 := bt_at a0 x15_2; replace p8 := eq_true p8; replace q8 := eq_true q8; go_upto_region 7 with (fail)
         go_cut [5] (fun v5 wc => ∃ (kq : Nat) (x5_8 : Bool), v5 = .bool x5_8 ∧ Aside0 (word_Name.j2 kq a0 x15_2 (bt a0 x15_2) x5_8 (a0.size : Int) x15_2 = some r) ∧ Aside0 (kq ≤ k2) ∧ Drawn0 w wc)
         case first =>
          have H := HC9.out; clear HC9; by_cases c10 : (bt a0 x15_2) ≥ 97
          ·rw [if_pos c10] at H; have c10b0 : decide (97 ≤ (bt a0 x15_2)) = true := decide_eq_true c10; clear c10
           (first | rw [c10b0] | (simp only [i64_w, i32_w]; rw [c10b0]) | skip)
           have H' := A_ H; clear H
           go_wp2
           go_meet
           case rel => exact ⟨_, (decide ((bt a0 x15_2) ≤ 122)), (sx_), H', ⟨by have := HJ1.out; have := HK2.out; first | omega | exact Nat.le_refl _⟩, by repeat (first | exact Drawn0.refl _ | apply Drawn0.step)⟩
          ·rw [if_neg c10] at H; have c10b0 : decide (97 ≤ (bt a0 x15_2)) = false := decide_eq_false c10; clear c10
           (first | rw [c10b0] | (simp only [i64_w, i32_w]; rw [c10b0]) | skip)
           have H' := A_ H; clear H
           go_wp2
           go_meet
           case rel => exact ⟨_, (false), (sx_), H', ⟨by have := HJ1.out; have := HK2.out; first | omega | exact Nat.le_refl _⟩, by repeat (first | exact Drawn0.refl _ | apply Drawn0.step)⟩
         case rest =>
          clear HC9; try clear c1
          try clear p2
          try clear c3
          try clear c3b0
          try clear c3b1
          try clear c4
          try clear c5
          try clear c5b0
          try clear c6
          try clear c6b0
          try clear c7
          try clear c7b0
          try clear p8
          try clear q8
          try clear hx8
          try clear c10
          try clear c10b0
          try clear p2
          try clear p8
          try clear q8
          obtain ⟨kq, x5_8, rfl, HA, HJ8, ⟨mc8, rfl⟩⟩ := hcut
          cases kq with
          | zero => exact absurd HA.out (by simp [word_Name.j2])
          | succ kj8 =>
           have H := HA.out; clear HA; simp only [word_Name.j2] at H; have HC11 := A_ H; clear H; go_upto_region 8 with (fail)
           go_cut [44] (fun v44 wc => ∃ (kq : Nat) (x44_10 : Bool), v44 = .bool x44_10 ∧ Aside0 (word_Name.j3 kq a0 (a0.size : Int) x15_2 x44_10 = some r) ∧ Aside0 (kq ≤ kj8) ∧ Drawn0 w wc)
           case first =>
            have H := HC11.out; clear HC11; by_cases c12 : x5_8 = true
            ·subst c12; rw [if_pos rfl] at H; have H' := A_ H; clear H
             go_wp2
             go_meet
             case rel => exact ⟨_, (false), (sx_), H', ⟨by have := HJ1.out; have := HK2.out; have := HJ8.out; first | omega | exact Nat.le_refl _⟩, by repeat (first | exact Drawn0.refl _ | apply Drawn0.step)⟩
            ·replace c12 := Bool.eq_false_iff.mpr c12; subst c12; rw [if_neg (show ¬ (false = true) by decide)] at H; by_cases c13 : x15_2 = 0
             ·rw [if_pos c13] at H; have c13b0 : (x15_2 == 0) = true := beq_iff_eq.mpr c13; have c13b1 : (x15_2 != 0) = false := bne_eq_false_iff_eq.mpr c13; clear c13
              (first | rw [c13b0] | (simp only [i64_w, i32_w]; rw [c13b0]) | skip)
              have H' := A_ H; clear H
              go_wp2
              go_meet
              case rel => exact ⟨_, (true), (sx_), H', ⟨by have := HJ1.out; have := HK2.out; have := HJ8.out; first | omega | exact Nat.le_refl _⟩, by repeat (first | exact Drawn0.refl _ | apply Drawn0.step)⟩
             ·rw [if_neg c13] at H; have c13b0 : (x15_2 == 0) = false := beq_eq_false_iff_ne.mpr c13; have c13b1 : (x15_2 != 0) = true := bne_iff_ne.mpr c13
              (first | rw [c13b0] | (simp only [i64_w, i32_w]; rw [c13b0]) | skip)
              by_cases c14 : (bt a0 x15_2) < 48
              ·rw [if_pos c14] at H; have c14b0 := decide_eq_true c14; clear c14; have H' := A_ H; clear H
               go_wp2
               go_meet
               case rel => exact ⟨_, (((bt a0 x15_2) != 45)), (sx_), H', ⟨by have := HJ1.out; have := HK2.out; have := HJ8.out; first | omega | exact Nat.le_refl _⟩, by repeat (first | exact Drawn0.refl _ | apply Drawn0.step)⟩
              ·rw [if_neg c14] at H; have c14b0 := decide_eq_false c14; clear c14; by_cases c15 : (bt a0 x15_2) > 57
               ·rw [if_pos c15] at H; have c15b0 : decide (57 < (bt a0 x15_2)) = true := decide_eq_true c15; clear c15; have H' := A_ H; clear H
                go_wp2
                go_meet
                case rel => exact ⟨_, (((bt a0 x15_2) != 45)), (sx_), H', ⟨by have := HJ1.out; have := HK2.out; have := HJ8.out; first | omega | exact Nat.le_refl _⟩, by repeat (first | exact Drawn0.refl _ | apply Drawn0.step)⟩
               ·rw [if_neg c15] at H; have c15b0 : decide (57 < (bt a0 x15_2)) = false := decide_eq_false c15; clear c15; have H' := A_ H; clear H
                go_wp2
                go_meet
                case rel => exact ⟨_, (false), (sx_), H', ⟨by have := HJ1.out; have := HK2.out; have := HJ8.out; first | omega | exact Nat.le_refl _⟩, by repeat (first | exact Drawn0.refl _ | apply Drawn0.step)⟩
           case rest =>
            clear HC11; try clear c1
            try clear p2
            try clear c3
            try clear c3b0
            try clear c3b1
            try clear c4
            try clear c5
            try clear c5b0
            try clear c6
            try clear c6b0
            try clear c7
            try clear c7b0
            try clear c8
            try clear p8
            try clear q8
            try clear hx8
            try clear c10
            try clear c10b0
            try clear c12
            try clear c13
            try clear c13b0
            try clear c13b1
            try clear c14
            try clear c14b0
            try clear c15
            try clear c15b0
            try clear p2
            try clear p8
            try clear q8
            obtain ⟨kq, x44_10, rfl, HA, HJ10, ⟨mc10, rfl⟩⟩ := hcut
            cases kq with
            | zero => exact absurd HA.out (by simp [word_Name.j3])
            | succ kj10 =>
             have H := HA.out; clear HA; simp only [word_Name.j3] at H; by_cases c16 : x44_10 = true
             ·subst c16; rw [if_pos rfl] at H; obtain rfl := Option.some.inj H
              go_wp2
              go_ret
              exact ⟨sx_, by repeat (first | exact Drawn0.refl _ | apply Drawn0.step)⟩
             ·replace c16 := Bool.eq_false_iff.mpr c16; subst c16; rw [if_neg (show ¬ (false = true) by decide)] at H; have H' := A_ H; clear H
              go_wp2
              go_roundg kj10
              case measure => have := HJ1.out; have := HK2.out; have := HJ8.out; have := HJ10.out; omega
              case rel => exact ⟨(wrap64 (x15_2 + 1)), (sx_), H', ⟨by have := HJ1.out; have := HK2.out; have := HJ8.out; have := HJ10.out; omega⟩, by repeat (first | exact Drawn0.refl _ | apply Drawn0.step)⟩
        ·rw [if_neg c7] at H; exact absurd H (by simp)
       ·rw [if_neg c6] at H; exact absurd H (by simp)
      ·rw [if_neg c5] at H; have c5b0 := decide_eq_false c5; clear c5; obtain rfl := Option.some.inj H
       go_wp2
       go_ret
       exact ⟨sx_, by repeat (first | exact Drawn0.refl _ | apply Drawn0.step)⟩
end Go.Proofs.Ytcapgmoipacioaa.P
