import Derived.Test.YtcapgmoipacioaaPt
namespace Go.Proofs.Ytcapgmoipacioaa.P
open Go.RowKit Go.Proofs.YtcapgmoipacioaaW.PrintWords Go.Proofs.YtcapgmoipacioaaW.PrintLast Go.Proofs.YtcapgmoipacioaaW.PrintMore
attribute [local go_sem] max2_int min2_int max_two min_two max_three min_three max_four min_four
set_option linter.unusedVariables false
set_option linter.unusedSimpArgs false

/-! ### stipendref05_Check: function 33 -/
mutual
def stipendref05_Check.j0 : Nat → List (S106) → Bool → Option (Int)
  | 0, _, _ => none
  | k + 1, x0, x11 => if x11 = true then (some 2) else (stipendref05_Check.l0 k x0 0)
def stipendref05_Check.l0 : Nat → List (S106) → Int → Option (Int)
  | 0, _, _ => none
  | k + 1, x0, x3 => if x3 < (x0.length : Int) then (if 0 ≤ x3 then (if ((rd_T106 x0 x3).f0) < 0 then (stipendref05_Check.j2 k x0 x3 true) else (if ((rd_T106 x0 x3).f0) > 100000000000 then (stipendref05_Check.j2 k x0 x3 true) else (if x3 = 0 then (stipendref05_Check.j2 k x0 x3 (decide (((rd_T106 x0 x3).f0) > 0))) else (stipendref05_Check.j2 k x0 x3 false)))) else (none)) else (some 0)
def stipendref05_Check.j2 : Nat → List (S106) → Int → Bool → Option (Int)
  | 0, _, _, _ => none
  | k + 1, x0, x3, x43 => if x43 = true then (some 1) else (if x3 > 0 then (if 0 ≤ x3 then (if x3 < (x0.length : Int) then (if 0 ≤ (wrap64 (x3 - 1)) then (if (wrap64 (x3 - 1)) < (x0.length : Int) then (stipendref05_Check.j3 k x0 x3 (decide (((rd_T106 x0 x3).f0) ≤ ((rd_T106 x0 (wrap64 (x3 - 1))).f0)))) else (none)) else (none)) else (none)) else (none)) else (stipendref05_Check.j3 k x0 x3 false))
def stipendref05_Check.j3 : Nat → List (S106) → Int → Bool → Option (Int)
  | 0, _, _, _ => none
  | k + 1, x0, x3, x59 => if x59 = true then (some 6) else (if 0 ≤ x3 then (if x3 < (x0.length : Int) then (if ((rd_T106 x0 x3).f1) < 0 then (stipendref05_Check.j4 k x0 x3 true) else (if ((rd_T106 x0 x3).f1) > 10000 then (stipendref05_Check.j4 k x0 x3 true) else (if ((rd_T106 x0 x3).f2) < 0 then (stipendref05_Check.j4 k x0 x3 true) else (stipendref05_Check.j4 k x0 x3 (decide (((rd_T106 x0 x3).f2) > 10000)))))) else (none)) else (none))
def stipendref05_Check.j4 : Nat → List (S106) → Int → Bool → Option (Int)
  | 0, _, _, _ => none
  | k + 1, x0, x3, x89 => if x89 = true then (some 50) else (stipendref05_Check.l0 k x0 (wrap64 (x3 + 1)))
end
def stipendref05_Check.f (k : Nat) (l0 : List (S106)) : Option (Int) := if (l0.length : Int) < 1 then (stipendref05_Check.j0 k l0 true) else (stipendref05_Check.j0 k l0 (decide ((l0.length : Int) > 8)))
theorem stipendref05_Check.mono_l : ∀ k, (∀ y0 y1, LeO (stipendref05_Check.j0 k y0 y1) (stipendref05_Check.j0 (k + 1) y0 y1)) ∧ (∀ y0 y1, LeO (stipendref05_Check.l0 k y0 y1) (stipendref05_Check.l0 (k + 1) y0 y1)) ∧ (∀ y0 y1 y2, LeO (stipendref05_Check.j2 k y0 y1 y2) (stipendref05_Check.j2 (k + 1) y0 y1 y2)) ∧ (∀ y0 y1 y2, LeO (stipendref05_Check.j3 k y0 y1 y2) (stipendref05_Check.j3 (k + 1) y0 y1 y2)) ∧ (∀ y0 y1 y2, LeO (stipendref05_Check.j4 k y0 y1 y2) (stipendref05_Check.j4 (k + 1) y0 y1 y2))
  | 0 => ⟨fun _ _ r h => by simp [stipendref05_Check.j0] at h, fun _ _ r h => by simp [stipendref05_Check.l0] at h, fun _ _ _ r h => by simp [stipendref05_Check.j2] at h, fun _ _ _ r h => by simp [stipendref05_Check.j3] at h, fun _ _ _ r h => by simp [stipendref05_Check.j4] at h⟩
  | k + 1 => by
    obtain ⟨ih0, ih1, ih2, ih3, ih4⟩ := stipendref05_Check.mono_l k
    refine ⟨?_, ?_, ?_, ?_, ?_⟩
    · intro y0 y1
      unfold stipendref05_Check.j0
      repeat' first
      | (with_reducible exact ih0 _ _)
      | (with_reducible exact ih1 _ _)
      | (with_reducible exact ih2 _ _ _)
      | (with_reducible exact ih3 _ _ _)
      | (with_reducible exact ih4 _ _ _)
      | (with_reducible exact LeO.refl _)
      | (with_reducible exact LeO.none _)
      | (with_reducible refine LeO.ite ?_ ?_)
      | (with_reducible refine LeO.bind ?_ (fun _ => ?_))
      | exact ih0 _ _
      | exact ih1 _ _
      | exact ih2 _ _ _
      | exact ih3 _ _ _
      | exact ih4 _ _ _
      | exact LeO.none _
      | refine LeO.ite ?_ ?_
      | refine LeO.bind ?_ (fun _ => ?_)
    · intro y0 y1
      unfold stipendref05_Check.l0
      repeat' first
      | (with_reducible exact ih0 _ _)
      | (with_reducible exact ih1 _ _)
      | (with_reducible exact ih2 _ _ _)
      | (with_reducible exact ih3 _ _ _)
      | (with_reducible exact ih4 _ _ _)
      | (with_reducible exact LeO.refl _)
      | (with_reducible exact LeO.none _)
      | (with_reducible refine LeO.ite ?_ ?_)
      | (with_reducible refine LeO.bind ?_ (fun _ => ?_))
      | exact ih0 _ _
      | exact ih1 _ _
      | exact ih2 _ _ _
      | exact ih3 _ _ _
      | exact ih4 _ _ _
      | exact LeO.none _
      | refine LeO.ite ?_ ?_
      | refine LeO.bind ?_ (fun _ => ?_)
    · intro y0 y1 y2
      unfold stipendref05_Check.j2
      repeat' first
      | (with_reducible exact ih0 _ _)
      | (with_reducible exact ih1 _ _)
      | (with_reducible exact ih2 _ _ _)
      | (with_reducible exact ih3 _ _ _)
      | (with_reducible exact ih4 _ _ _)
      | (with_reducible exact LeO.refl _)
      | (with_reducible exact LeO.none _)
      | (with_reducible refine LeO.ite ?_ ?_)
      | (with_reducible refine LeO.bind ?_ (fun _ => ?_))
      | exact ih0 _ _
      | exact ih1 _ _
      | exact ih2 _ _ _
      | exact ih3 _ _ _
      | exact ih4 _ _ _
      | exact LeO.none _
      | refine LeO.ite ?_ ?_
      | refine LeO.bind ?_ (fun _ => ?_)
    · intro y0 y1 y2
      unfold stipendref05_Check.j3
      repeat' first
      | (with_reducible exact ih0 _ _)
      | (with_reducible exact ih1 _ _)
      | (with_reducible exact ih2 _ _ _)
      | (with_reducible exact ih3 _ _ _)
      | (with_reducible exact ih4 _ _ _)
      | (with_reducible exact LeO.refl _)
      | (with_reducible exact LeO.none _)
      | (with_reducible refine LeO.ite ?_ ?_)
      | (with_reducible refine LeO.bind ?_ (fun _ => ?_))
      | exact ih0 _ _
      | exact ih1 _ _
      | exact ih2 _ _ _
      | exact ih3 _ _ _
      | exact ih4 _ _ _
      | exact LeO.none _
      | refine LeO.ite ?_ ?_
      | refine LeO.bind ?_ (fun _ => ?_)
    · intro y0 y1 y2
      unfold stipendref05_Check.j4
      repeat' first
      | (with_reducible exact ih0 _ _)
      | (with_reducible exact ih1 _ _)
      | (with_reducible exact ih2 _ _ _)
      | (with_reducible exact ih3 _ _ _)
      | (with_reducible exact ih4 _ _ _)
      | (with_reducible exact LeO.refl _)
      | (with_reducible exact LeO.none _)
      | (with_reducible refine LeO.ite ?_ ?_)
      | (with_reducible refine LeO.bind ?_ (fun _ => ?_))
      | exact ih0 _ _
      | exact ih1 _ _
      | exact ih2 _ _ _
      | exact ih3 _ _ _
      | exact ih4 _ _ _
      | exact LeO.none _
      | refine LeO.ite ?_ ?_
      | refine LeO.bind ?_ (fun _ => ?_)
theorem stipendref05_Check.mono : ∀ a0 k, LeO (stipendref05_Check.f k a0) (stipendref05_Check.f (k + 1) a0) := by
  intro a0 k
  obtain ⟨ih0, ih1, ih2, ih3, ih4⟩ := stipendref05_Check.mono_l k
  unfold stipendref05_Check.f
  repeat' first
      | (with_reducible exact ih0 _ _)
      | (with_reducible exact ih1 _ _)
      | (with_reducible exact ih2 _ _ _)
      | (with_reducible exact ih3 _ _ _)
      | (with_reducible exact ih4 _ _ _)
      | (with_reducible exact LeO.refl _)
      | (with_reducible exact LeO.none _)
      | (with_reducible refine LeO.ite ?_ ?_)
      | (with_reducible refine LeO.bind ?_ (fun _ => ?_))
      | exact ih0 _ _
      | exact ih1 _ _
      | exact ih2 _ _ _
      | exact ih3 _ _ _
      | exact ih4 _ _ _
      | exact LeO.none _
      | refine LeO.ite ?_ ?_
      | refine LeO.bind ?_ (fun _ => ?_)
set_option maxHeartbeats 8000000 in
set_option maxRecDepth 100000 in
theorem stipendref05_Check.calls (k : Nat) (A0 : Option Addr) (c0 : Nat) (l0 : List (S106)) (r : Int) (w : World) (hr0 : Kd.C k106 w A0 l0.length l0) (hc0 : l0.length ≤ c0) (h : stipendref05_Check.f k l0 = some r) :
    Calls Try.prog 33 #[.slice A0 l0.length c0] w fun e w' => e = .returned (.int .i64 r) ∧ Drawn0 w w' := by
  have HR0 := Aside0.mk hr0
  have HC0 := Aside0.mk hc0
  clear hr0 hc0
  have H : (if (l0.length : Int) < 1 then (stipendref05_Check.j0 k l0 true) else (stipendref05_Check.j0 k l0 (decide ((l0.length : Int) > 8)))) = some r := h
  clear h
  have HC2 := Aside0.mk H
  clear H
  go_enter Try.func33, Try.ntmps33
  go_upto_region 1 with (fail)
  repeat (go_quiet (fail); go_upto_region 1 with (fail))
  go_cut [11] (fun v11 wc => ∃ (kq : Nat) (x11_1 : Bool), v11 = .bool x11_1 ∧ Aside0 (stipendref05_Check.j0 kq l0 x11_1 = some r) ∧ Aside0 (kq ≤ k) ∧ Drawn0 w wc)
  case first =>
    have H := HC2.out
    clear HC2
    by_cases c3 : (l0.length : Int) < 1
    · rw [if_pos c3] at H
      have c3b0 : decide ((l0.length : Int) < 1) = true := decide_eq_true c3
      have c3b1 : decide (l0.length < 1) = true := decide_eq_true (by omega)
      clear c3
      (first | rw [c3b0] | (simp only [i64_w, i32_w]; rw [c3b0]) | skip)
      have H' := Aside0.mk H
      clear H
      go_wp2
      repeat (go_quiet (fail); try go_wp2)
      go_meet
      case rel => exact ⟨_, (true), (by first | rfl | (simp; done) | (simp [*]; done)), H', ⟨by first | omega | exact Nat.le_refl _⟩, by repeat (first | exact Drawn0.refl _ | apply Drawn0.step)⟩
    · rw [if_neg c3] at H
      have c3b0 : decide ((l0.length : Int) < 1) = false := decide_eq_false c3
      have c3b1 : decide (l0.length < 1) = false := decide_eq_false (by omega)
      clear c3
      (first | rw [c3b0] | (simp only [i64_w, i32_w]; rw [c3b0]) | skip)
      have H' := Aside0.mk H
      clear H
      go_wp2
      repeat (go_quiet (fail); try go_wp2)
      go_meet
      case rel => exact ⟨_, (decide ((l0.length : Int) > 8)), (by first | rfl | (simp; done) | (simp [*]; done)), H', ⟨by first | omega | exact Nat.le_refl _⟩, by repeat (first | exact Drawn0.refl _ | apply Drawn0.step)⟩
  case rest =>
    clear HC2
    try clear p2
    try clear c3
    try clear c3b0
    try clear c3b1
    obtain ⟨kq, x11_1, rfl, HA, HJ1, ⟨mc1, rfl⟩⟩ := hcut
    cases kq with
    | zero => exact absurd HA.out (by simp [stipendref05_Check.j0])
    | succ kj1 =>
      have H := HA.out
      clear HA
      simp only [stipendref05_Check.j0] at H
      by_cases c4 : x11_1 = true
      · subst c4
        have H1 : (some 2) = some r := by rw [if_pos rfl] at H; exact H
        clear H
        have H := H1
        clear H1
        obtain rfl := Option.some.inj H
        go_wp2
        repeat (go_quiet (fail); try go_wp2)
        go_ret
        exact ⟨by first | rfl | (simp; done) | (simp [*]; done), by repeat (first | exact Drawn0.refl _ | apply Drawn0.step)⟩
      · replace c4 := Bool.eq_false_iff.mpr c4
        subst c4
        have H1 : (stipendref05_Check.l0 kj1 l0 0) = some r := by rw [if_neg (show ¬ (false = true) by decide)] at H; exact H
        clear H
        have H := H1
        clear H1
        have H' := Aside0.mk H
        clear H
        go_wp2
        repeat (go_quiet (fail); try go_wp2)
        go_loopg [3] kj1 (fun kq v3 w' => ∃ (x3_2 : Int), v3 = .int .i64 x3_2 ∧ Aside0 (stipendref05_Check.l0 kq l0 x3_2 = some r) ∧ Aside0 (kq ≤ kj1) ∧ Drawn0 w w')
        case atStart => exact ⟨(0), (by first | rfl | (simp; done) | (simp [*]; done)), H', ⟨Nat.le_refl _⟩, by repeat (first | exact Drawn0.refl _ | apply Drawn0.step)⟩
        case round =>
          clear H'
          try clear c1
          try clear p2
          try clear c3
          try clear c3b0
          try clear c3b1
          try clear c4
          try clear p2
          obtain ⟨x3_2, rfl, HA, HK2, ⟨m2, rfl⟩⟩ := hrel
          cases gk with
          | zero => exact absurd HA.out (by simp [stipendref05_Check.l0])
          | succ k2 =>
            have H := HA.out
            clear HA
            simp only [stipendref05_Check.l0] at H
            by_cases c5 : x3_2 < (l0.length : Int)
            · rw [if_pos c5] at H
              have c5b0 : decide (x3_2 < (l0.length : Int)) = true := decide_eq_true c5
              clear c5
              have HC6 := Aside0.mk H
              clear H
              go_upto_region 6 with (fail)
              repeat (go_quiet (fail); go_upto_region 6 with (fail))
              go_cut [43] (fun v43 wc => ∃ (kq : Nat) (x43_5 : Bool), v43 = .bool x43_5 ∧ Aside0 (stipendref05_Check.j2 kq l0 x3_2 x43_5 = some r) ∧ Aside0 (kq ≤ k2) ∧ Drawn0 w wc)
              case first =>
                have H := HC6.out
                clear HC6
                by_cases c7 : 0 ≤ x3_2
                · rw [if_pos c7] at H
                  have c7b0 : decide (0 ≤ x3_2) = true := decide_eq_true c7
                  clear c7
                  (first | rw [c7b0] | (simp only [i64_w, i32_w]; rw [c7b0]) | skip)
                  by_cases c8 : ((rd_T106 l0 x3_2).f0) < 0
                  · rw [if_pos c8] at H
                    have c8b0 : decide (((rd_T106 l0 x3_2).f0) < 0) = true := decide_eq_true c8
                    clear c8
                    have H' := Aside0.mk H
                    clear H
                    have p222 : 0 ≤ (x3_2 : Int) := of_decide_eq_true (by first | (with_reducible assumption) | assumption)
                    have q222 : x3_2 < (l0.length : Int) := of_decide_eq_true (by first | (with_reducible assumption) | assumption)
                    obtain ⟨ad222, e222, hx222_0, hx222_1, hx222_2⟩ := at_T106 HR0.out x3_2 p222 q222
                    cases e222
                    replace p222 := eq_true p222
                    replace q222 := eq_true q222
                    go_wp2
                    repeat (go_quiet (fail); try go_wp2)
                    go_meet
                    case rel => exact ⟨_, (true), (by first | rfl | (simp; done) | (simp [*]; done)), H', ⟨by have := HJ1.out; have := HK2.out; first | omega | exact Nat.le_refl _⟩, by repeat (first | exact Drawn0.refl _ | apply Drawn0.step)⟩
                  · rw [if_neg c8] at H
                    have c8b0 : decide (((rd_T106 l0 x3_2).f0) < 0) = false := decide_eq_false c8
                    clear c8
                    by_cases c9 : ((rd_T106 l0 x3_2).f0) > 100000000000
                    · rw [if_pos c9] at H
                      have c9b0 : decide (100000000000 < ((rd_T106 l0 x3_2).f0)) = true := decide_eq_true c9
                      clear c9
                      have H' := Aside0.mk H
                      clear H
                      have p222 : 0 ≤ (x3_2 : Int) := of_decide_eq_true (by first | (with_reducible assumption) | assumption)
                      have q222 : x3_2 < (l0.length : Int) := of_decide_eq_true (by first | (with_reducible assumption) | assumption)
                      obtain ⟨ad222, e222, hx222_0, hx222_1, hx222_2⟩ := at_T106 HR0.out x3_2 p222 q222
                      cases e222
                      replace p222 := eq_true p222
                      replace q222 := eq_true q222
                      have p223 : 0 ≤ (x3_2 : Int) := of_decide_eq_true (by first | (with_reducible assumption) | assumption)
                      have q223 : x3_2 < (l0.length : Int) := of_decide_eq_true (by first | (with_reducible assumption) | assumption)
                      obtain ⟨ad223, e223, hx223_0, hx223_1, hx223_2⟩ := at_T106 HR0.out x3_2 p223 q223
                      obtain rfl : ad222 = ad223 := (by injection e223)
                      replace p223 := eq_true p223
                      replace q223 := eq_true q223
                      go_wp2
                      repeat (go_quiet (fail); try go_wp2)
                      go_meet
                      case rel => exact ⟨_, (true), (by first | rfl | (simp; done) | (simp [*]; done)), H', ⟨by have := HJ1.out; have := HK2.out; first | omega | exact Nat.le_refl _⟩, by repeat (first | exact Drawn0.refl _ | apply Drawn0.step)⟩
                    · rw [if_neg c9] at H
                      have c9b0 : decide (100000000000 < ((rd_T106 l0 x3_2).f0)) = false := decide_eq_false c9
                      clear c9
                      by_cases c10 : x3_2 = 0
                      · rw [if_pos c10] at H
                        have c10b0 : (x3_2 == 0) = true := beq_iff_eq.mpr c10
                        have c10b1 : (x3_2 != 0) = false := bne_eq_false_iff_eq.mpr c10
                        clear c10
                        have H' := Aside0.mk H
                        clear H
                        have p222 : 0 ≤ (x3_2 : Int) := of_decide_eq_true (by first | (with_reducible assumption) | assumption)
                        have q222 : x3_2 < (l0.length : Int) := of_decide_eq_true (by first | (with_reducible assumption) | assumption)
                        obtain ⟨ad222, e222, hx222_0, hx222_1, hx222_2⟩ := at_T106 HR0.out x3_2 p222 q222
                        cases e222
                        replace p222 := eq_true p222
                        replace q222 := eq_true q222
                        have p223 : 0 ≤ (x3_2 : Int) := of_decide_eq_true (by first | (with_reducible assumption) | assumption)
                        have q223 : x3_2 < (l0.length : Int) := of_decide_eq_true (by first | (with_reducible assumption) | assumption)
                        obtain ⟨ad223, e223, hx223_0, hx223_1, hx223_2⟩ := at_T106 HR0.out x3_2 p223 q223
                        obtain rfl : ad222 = ad223 := (by injection e223)
                        replace p223 := eq_true p223
                        replace q223 := eq_true q223
                        have p224 : 0 ≤ (x3_2 : Int) := of_decide_eq_true (by first | (with_reducible assumption) | assumption)
                        have q224 : x3_2 < (l0.length : Int) := of_decide_eq_true (by first | (with_reducible assumption) | assumption)
                        obtain ⟨ad224, e224, hx224_0, hx224_1, hx224_2⟩ := at_T106 HR0.out x3_2 p224 q224
                        obtain rfl : ad222 = ad224 := (by injection e224)
                        replace p224 := eq_true p224
                        replace q224 := eq_true q224
                        go_wp2
                        repeat (go_quiet (fail); try go_wp2)
                        go_meet
                        case rel => exact ⟨_, (decide (((rd_T106 l0 x3_2).f0) > 0)), (by first | rfl | (simp; done) | (simp [*]; done)), H', ⟨by have := HJ1.out; have := HK2.out; first | omega | exact Nat.le_refl _⟩, by repeat (first | exact Drawn0.refl _ | apply Drawn0.step)⟩
                      · rw [if_neg c10] at H
                        have c10b0 : (x3_2 == 0) = false := beq_eq_false_iff_ne.mpr c10
                        have c10b1 : (x3_2 != 0) = true := bne_iff_ne.mpr c10
                        have H' := Aside0.mk H
                        clear H
                        have p222 : 0 ≤ (x3_2 : Int) := of_decide_eq_true (by first | (with_reducible assumption) | assumption)
                        have q222 : x3_2 < (l0.length : Int) := of_decide_eq_true (by first | (with_reducible assumption) | assumption)
                        obtain ⟨ad222, e222, hx222_0, hx222_1, hx222_2⟩ := at_T106 HR0.out x3_2 p222 q222
                        cases e222
                        replace p222 := eq_true p222
                        replace q222 := eq_true q222
                        have p223 : 0 ≤ (x3_2 : Int) := of_decide_eq_true (by first | (with_reducible assumption) | assumption)
                        have q223 : x3_2 < (l0.length : Int) := of_decide_eq_true (by first | (with_reducible assumption) | assumption)
                        obtain ⟨ad223, e223, hx223_0, hx223_1, hx223_2⟩ := at_T106 HR0.out x3_2 p223 q223
                        obtain rfl : ad222 = ad223 := (by injection e223)
                        replace p223 := eq_true p223
                        replace q223 := eq_true q223
                        go_wp2
                        repeat (go_quiet (fail); try go_wp2)
                        go_meet
                        case rel => exact ⟨_, (false), (by first | rfl | (simp; done) | (simp [*]; done)), H', ⟨by have := HJ1.out; have := HK2.out; first | omega | exact Nat.le_refl _⟩, by repeat (first | exact Drawn0.refl _ | apply Drawn0.step)⟩
                · rw [if_neg c7] at H
                  exact absurd H (by simp)
              case rest =>
                clear HC6
                try clear c1
                try clear p2
                try clear q2
                try clear hx2
                try clear c3
                try clear c3b0
                try clear c3b1
                try clear c4
                try clear c5
                try clear c5b0
                try clear c7
                try clear c7b0
                try clear c8
                try clear c8b0
                try clear c9
                try clear c9b0
                try clear c10
                try clear c10b0
                try clear c10b1
                try clear hx222_0
                try clear hx222_1
                try clear hx222_2
                try clear hx223_0
                try clear hx223_1
                try clear hx223_2
                try clear hx224_0
                try clear hx224_1
                try clear hx224_2
                try clear p2
                try clear p222
                try clear p223
                try clear p224
                try clear q222
                try clear q223
                try clear q224
                obtain ⟨kq, x43_5, rfl, HA, HJ5, ⟨mc5, rfl⟩⟩ := hcut
                cases kq with
                | zero => exact absurd HA.out (by simp [stipendref05_Check.j2])
                | succ kj5 =>
                  have H := HA.out
                  clear HA
                  simp only [stipendref05_Check.j2] at H
                  by_cases c11 : x43_5 = true
                  · subst c11
                    have H1 : (some 1) = some r := by rw [if_pos rfl] at H; exact H
                    clear H
                    have H := H1
                    clear H1
                    obtain rfl := Option.some.inj H
                    go_wp2
                    repeat (go_quiet (fail); try go_wp2)
                    go_ret
                    exact ⟨by first | rfl | (simp; done) | (simp [*]; done), by repeat (first | exact Drawn0.refl _ | apply Drawn0.step)⟩
                  · replace c11 := Bool.eq_false_iff.mpr c11
                    subst c11
                    have H1 : (if x3_2 > 0 then (if 0 ≤ x3_2 then (if x3_2 < (l0.length : Int) then (if 0 ≤ (wrap64 (x3_2 - 1)) then (if (wrap64 (x3_2 - 1)) < (l0.length : Int) then (stipendref05_Check.j3 kj5 l0 x3_2 (decide (((rd_T106 l0 x3_2).f0) ≤ ((rd_T106 l0 (wrap64 (x3_2 - 1))).f0)))) else (none)) else (none)) else (none)) else (none)) else (stipendref05_Check.j3 kj5 l0 x3_2 false)) = some r := by rw [if_neg (show ¬ (false = true) by decide)] at H; exact H
                    clear H
                    have H := H1
                    clear H1
                    have HC12 := Aside0.mk H
                    clear H
                    go_upto_region 8 with (fail)
                    repeat (go_quiet (fail); go_upto_region 8 with (fail))
                    go_cut [59] (fun v59 wc => ∃ (kq : Nat) (x59_11 : Bool), v59 = .bool x59_11 ∧ Aside0 (stipendref05_Check.j3 kq l0 x3_2 x59_11 = some r) ∧ Aside0 (kq ≤ kj5) ∧ Drawn0 w wc)
                    case first =>
                      have H := HC12.out
                      clear HC12
                      by_cases c13 : x3_2 > 0
                      · rw [if_pos c13] at H
                        have c13b0 : decide (0 < x3_2) = true := decide_eq_true c13
                        clear c13
                        (first | rw [c13b0] | (simp only [i64_w, i32_w]; rw [c13b0]) | skip)
                        by_cases c14 : 0 ≤ x3_2
                        · rw [if_pos c14] at H
                          have c14b0 : decide (0 ≤ x3_2) = true := decide_eq_true c14
                          clear c14
                          by_cases c15 : x3_2 < (l0.length : Int)
                          · rw [if_pos c15] at H
                            have c15b0 : decide (x3_2 < (l0.length : Int)) = true := decide_eq_true c15
                            clear c15
                            obtain ⟨ji16, hji16⟩ : ∃ j_ : Int, (wrap64 (x3_2 - 1)) = j_ := ⟨_, rfl⟩
                            replace H : (if 0 ≤ (ji16) then (if (ji16) < (l0.length : Int) then (stipendref05_Check.j3 kj5 l0 x3_2 (decide (((rd_T106 l0 x3_2).f0) ≤ ((rd_T106 l0 (ji16)).f0)))) else (none)) else (none)) = some r := by first | (rw [hji16] at H; exact H) | (simp only [hji16] at H ⊢; exact H)
                            have hji16w : (IntKind.i64.wrap (x3_2 - 1)) = ji16 := (i64_w _).trans hji16
                            by_cases c17 : 0 ≤ (ji16)
                            · rw [if_pos c17] at H
                              have c17b0 : decide (0 ≤ (ji16)) = true := decide_eq_true c17
                              clear c17
                              by_cases c18 : (ji16) < (l0.length : Int)
                              · rw [if_pos c18] at H
                                have c18b0 : decide ((ji16) < (l0.length : Int)) = true := decide_eq_true c18
                                clear c18
                                have H' := Aside0.mk H
                                clear H
                                have p225 : 0 ≤ (x3_2 : Int) := of_decide_eq_true (by first | (with_reducible assumption) | assumption)
                                have q225 : x3_2 < (l0.length : Int) := of_decide_eq_true (by first | (with_reducible assumption) | assumption)
                                obtain ⟨ad225, e225, hx225_0, hx225_1, hx225_2⟩ := at_T106 HR0.out x3_2 p225 q225
                                cases e225
                                replace p225 := eq_true p225
                                replace q225 := eq_true q225
                                have p226 : 0 ≤ ((ji16) : Int) := of_decide_eq_true (by first | (with_reducible assumption) | assumption)
                                have q226 : (ji16) < (l0.length : Int) := of_decide_eq_true (by first | (with_reducible assumption) | assumption)
                                obtain ⟨ad226, e226, hx226_0, hx226_1, hx226_2⟩ := at_T106 HR0.out (ji16) p226 q226
                                obtain rfl : ad225 = ad226 := (by injection e226)
                                replace p226 := eq_true p226
                                replace q226 := eq_true q226
                                go_wp2
                                repeat (go_quiet (fail); try go_wp2)
                                go_meet
                                case rel => exact ⟨_, (decide (((rd_T106 l0 x3_2).f0) ≤ ((rd_T106 l0 (ji16)).f0))), (by first | rfl | (simp; done) | (simp only [← hji16] <;> (first | rfl | simp)) | (simp [*]; done)), H', ⟨by have := HJ1.out; have := HK2.out; have := HJ5.out; first | omega | exact Nat.le_refl _⟩, by repeat (first | exact Drawn0.refl _ | apply Drawn0.step)⟩
                              · rw [if_neg c18] at H
                                exact absurd H (by simp)
                            · rw [if_neg c17] at H
                              exact absurd H (by simp)
                          · rw [if_neg c15] at H
                            exact absurd H (by simp)
                        · rw [if_neg c14] at H
                          exact absurd H (by simp)
                      · rw [if_neg c13] at H
                        have c13b0 : decide (0 < x3_2) = false := decide_eq_false c13
                        clear c13
                        (first | rw [c13b0] | (simp only [i64_w, i32_w]; rw [c13b0]) | skip)
                        have H' := Aside0.mk H
                        clear H
                        go_wp2
                        repeat (go_quiet (fail); try go_wp2)
                        go_meet
                        case rel => exact ⟨_, (false), (by first | rfl | (simp; done) | (simp [*]; done)), H', ⟨by have := HJ1.out; have := HK2.out; have := HJ5.out; first | omega | exact Nat.le_refl _⟩, by repeat (first | exact Drawn0.refl _ | apply Drawn0.step)⟩
                    case rest =>
                      clear HC12
                      try clear c1
                      try clear p2
                      try clear q2
                      try clear hx2
                      try clear c3
                      try clear c3b0
                      try clear c3b1
                      try clear c4
                      try clear c5
                      try clear c5b0
                      try clear p6
                      try clear c7
                      try clear c7b0
                      try clear c8
                      try clear c8b0
                      try clear c9
                      try clear c9b0
                      try clear c10
                      try clear c10b0
                      try clear c10b1
                      try clear c11
                      try clear c13
                      try clear c13b0
                      try clear c14
                      try clear c14b0
                      try clear c15
                      try clear c15b0
                      try clear c17
                      try clear c17b0
                      try clear c18
                      try clear c18b0
                      try clear hx222_0
                      try clear hx222_1
                      try clear hx222_2
                      try clear hx223_0
                      try clear hx223_1
                      try clear hx223_2
                      try clear hx224_0
                      try clear hx224_1
                      try clear hx224_2
                      try clear hx225_0
                      try clear hx225_1
                      try clear hx225_2
                      try clear hx226_0
                      try clear hx226_1
                      try clear hx226_2
                      try clear p2
                      try clear p222
                      try clear p223
                      try clear p224
                      try clear p225
                      try clear p226
                      try clear q2
                      try clear q222
                      try clear q223
                      try clear q224
                      try clear q225
                      try clear q226
                      obtain ⟨kq, x59_11, rfl, HA, HJ11, ⟨mc11, rfl⟩⟩ := hcut
                      cases kq with
                      | zero => exact absurd HA.out (by simp [stipendref05_Check.j3])
                      | succ kj11 =>
                        have H := HA.out
                        clear HA
                        simp only [stipendref05_Check.j3] at H
                        by_cases c19 : x59_11 = true
                        · subst c19
                          have H1 : (some 6) = some r := by rw [if_pos rfl] at H; exact H
                          clear H
                          have H := H1
                          clear H1
                          obtain rfl := Option.some.inj H
                          go_wp2
                          repeat (go_quiet (fail); try go_wp2)
                          go_ret
                          exact ⟨by first | rfl | (simp; done) | (simp [*]; done), by repeat (first | exact Drawn0.refl _ | apply Drawn0.step)⟩
                        · replace c19 := Bool.eq_false_iff.mpr c19
                          subst c19
                          have H1 : (if 0 ≤ x3_2 then (if x3_2 < (l0.length : Int) then (if ((rd_T106 l0 x3_2).f1) < 0 then (stipendref05_Check.j4 kj11 l0 x3_2 true) else (if ((rd_T106 l0 x3_2).f1) > 10000 then (stipendref05_Check.j4 kj11 l0 x3_2 true) else (if ((rd_T106 l0 x3_2).f2) < 0 then (stipendref05_Check.j4 kj11 l0 x3_2 true) else (stipendref05_Check.j4 kj11 l0 x3_2 (decide (((rd_T106 l0 x3_2).f2) > 10000)))))) else (none)) else (none)) = some r := by rw [if_neg (show ¬ (false = true) by decide)] at H; exact H
                          clear H
                          have H := H1
                          clear H1
                          have HC20 := Aside0.mk H
                          clear H
                          go_upto_region 10 with (fail)
                          repeat (go_quiet (fail); go_upto_region 10 with (fail))
                          go_cut [89] (fun v89 wc => ∃ (kq : Nat) (x89_19 : Bool), v89 = .bool x89_19 ∧ Aside0 (stipendref05_Check.j4 kq l0 x3_2 x89_19 = some r) ∧ Aside0 (kq ≤ kj11) ∧ Drawn0 w wc)
                          case first =>
                            have H := HC20.out
                            clear HC20
                            by_cases c21 : 0 ≤ x3_2
                            · rw [if_pos c21] at H
                              have c21b0 : decide (0 ≤ x3_2) = true := decide_eq_true c21
                              clear c21
                              (first | rw [c21b0] | (simp only [i64_w, i32_w]; rw [c21b0]) | skip)
                              by_cases c22 : x3_2 < (l0.length : Int)
                              · rw [if_pos c22] at H
                                have c22b0 : decide (x3_2 < (l0.length : Int)) = true := decide_eq_true c22
                                clear c22
                                by_cases c23 : ((rd_T106 l0 x3_2).f1) < 0
                                · rw [if_pos c23] at H
                                  have c23b0 : decide (((rd_T106 l0 x3_2).f1) < 0) = true := decide_eq_true c23
                                  clear c23
                                  have H' := Aside0.mk H
                                  clear H
                                  have p227 : 0 ≤ (x3_2 : Int) := of_decide_eq_true (by first | (with_reducible assumption) | assumption)
                                  have q227 : x3_2 < (l0.length : Int) := of_decide_eq_true (by first | (with_reducible assumption) | assumption)
                                  obtain ⟨ad227, e227, hx227_0, hx227_1, hx227_2⟩ := at_T106 HR0.out x3_2 p227 q227
                                  cases e227
                                  replace p227 := eq_true p227
                                  replace q227 := eq_true q227
                                  go_wp2
                                  repeat (go_quiet (fail); try go_wp2)
                                  go_meet
                                  case rel => exact ⟨_, (true), (by first | rfl | (simp; done) | (simp [*]; done)), H', ⟨by have := HJ1.out; have := HK2.out; have := HJ5.out; have := HJ11.out; first | omega | exact Nat.le_refl _⟩, by repeat (first | exact Drawn0.refl _ | apply Drawn0.step)⟩
                                · rw [if_neg c23] at H
                                  have c23b0 : decide (((rd_T106 l0 x3_2).f1) < 0) = false := decide_eq_false c23
                                  clear c23
                                  by_cases c24 : ((rd_T106 l0 x3_2).f1) > 10000
                                  · rw [if_pos c24] at H
                                    have c24b0 : decide (10000 < ((rd_T106 l0 x3_2).f1)) = true := decide_eq_true c24
                                    clear c24
                                    have H' := Aside0.mk H
                                    clear H
                                    have p227 : 0 ≤ (x3_2 : Int) := of_decide_eq_true (by first | (with_reducible assumption) | assumption)
                                    have q227 : x3_2 < (l0.length : Int) := of_decide_eq_true (by first | (with_reducible assumption) | assumption)
                                    obtain ⟨ad227, e227, hx227_0, hx227_1, hx227_2⟩ := at_T106 HR0.out x3_2 p227 q227
                                    cases e227
                                    replace p227 := eq_true p227
                                    replace q227 := eq_true q227
                                    have p228 : 0 ≤ (x3_2 : Int) := of_decide_eq_true (by first | (with_reducible assumption) | assumption)
                                    have q228 : x3_2 < (l0.length : Int) := of_decide_eq_true (by first | (with_reducible assumption) | assumption)
                                    obtain ⟨ad228, e228, hx228_0, hx228_1, hx228_2⟩ := at_T106 HR0.out x3_2 p228 q228
                                    obtain rfl : ad227 = ad228 := (by injection e228)
                                    replace p228 := eq_true p228
                                    replace q228 := eq_true q228
                                    go_wp2
                                    repeat (go_quiet (fail); try go_wp2)
                                    go_meet
                                    case rel => exact ⟨_, (true), (by first | rfl | (simp; done) | (simp [*]; done)), H', ⟨by have := HJ1.out; have := HK2.out; have := HJ5.out; have := HJ11.out; first | omega | exact Nat.le_refl _⟩, by repeat (first | exact Drawn0.refl _ | apply Drawn0.step)⟩
                                  · rw [if_neg c24] at H
                                    have c24b0 : decide (10000 < ((rd_T106 l0 x3_2).f1)) = false := decide_eq_false c24
                                    clear c24
                                    by_cases c25 : ((rd_T106 l0 x3_2).f2) < 0
                                    · rw [if_pos c25] at H
                                      have c25b0 : decide (((rd_T106 l0 x3_2).f2) < 0) = true := decide_eq_true c25
                                      clear c25
                                      have H' := Aside0.mk H
                                      clear H
                                      have p227 : 0 ≤ (x3_2 : Int) := of_decide_eq_true (by first | (with_reducible assumption) | assumption)
                                      have q227 : x3_2 < (l0.length : Int) := of_decide_eq_true (by first | (with_reducible assumption) | assumption)
                                      obtain ⟨ad227, e227, hx227_0, hx227_1, hx227_2⟩ := at_T106 HR0.out x3_2 p227 q227
                                      cases e227
                                      replace p227 := eq_true p227
                                      replace q227 := eq_true q227
                                      have p228 : 0 ≤ (x3_2 : Int) := of_decide_eq_true (by first | (with_reducible assumption) | assumption)
                                      have q228 : x3_2 < (l0.length : Int) := of_decide_eq_true (by first | (with_reducible assumption) | assumption)
                                      obtain ⟨ad228, e228, hx228_0, hx228_1, hx228_2⟩ := at_T106 HR0.out x3_2 p228 q228
                                      obtain rfl : ad227 = ad228 := (by injection e228)
                                      replace p228 := eq_true p228
                                      replace q228 := eq_true q228
                                      have p229 : 0 ≤ (x3_2 : Int) := of_decide_eq_true (by first | (with_reducible assumption) | assumption)
                                      have q229 : x3_2 < (l0.length : Int) := of_decide_eq_true (by first | (with_reducible assumption) | assumption)
                                      obtain ⟨ad229, e229, hx229_0, hx229_1, hx229_2⟩ := at_T106 HR0.out x3_2 p229 q229
                                      obtain rfl : ad227 = ad229 := (by injection e229)
                                      replace p229 := eq_true p229
                                      replace q229 := eq_true q229
                                      go_wp2
                                      repeat (go_quiet (fail); try go_wp2)
                                      go_meet
                                      case rel => exact ⟨_, (true), (by first | rfl | (simp; done) | (simp [*]; done)), H', ⟨by have := HJ1.out; have := HK2.out; have := HJ5.out; have := HJ11.out; first | omega | exact Nat.le_refl _⟩, by repeat (first | exact Drawn0.refl _ | apply Drawn0.step)⟩
                                    · rw [if_neg c25] at H
                                      have c25b0 : decide (((rd_T106 l0 x3_2).f2) < 0) = false := decide_eq_false c25
                                      clear c25
                                      have H' := Aside0.mk H
                                      clear H
                                      have p227 : 0 ≤ (x3_2 : Int) := of_decide_eq_true (by first | (with_reducible assumption) | assumption)
                                      have q227 : x3_2 < (l0.length : Int) := of_decide_eq_true (by first | (with_reducible assumption) | assumption)
                                      obtain ⟨ad227, e227, hx227_0, hx227_1, hx227_2⟩ := at_T106 HR0.out x3_2 p227 q227
                                      cases e227
                                      replace p227 := eq_true p227
                                      replace q227 := eq_true q227
                                      have p228 : 0 ≤ (x3_2 : Int) := of_decide_eq_true (by first | (with_reducible assumption) | assumption)
                                      have q228 : x3_2 < (l0.length : Int) := of_decide_eq_true (by first | (with_reducible assumption) | assumption)
                                      obtain ⟨ad228, e228, hx228_0, hx228_1, hx228_2⟩ := at_T106 HR0.out x3_2 p228 q228
                                      obtain rfl : ad227 = ad228 := (by injection e228)
                                      replace p228 := eq_true p228
                                      replace q228 := eq_true q228
                                      have p229 : 0 ≤ (x3_2 : Int) := of_decide_eq_true (by first | (with_reducible assumption) | assumption)
                                      have q229 : x3_2 < (l0.length : Int) := of_decide_eq_true (by first | (with_reducible assumption) | assumption)
                                      obtain ⟨ad229, e229, hx229_0, hx229_1, hx229_2⟩ := at_T106 HR0.out x3_2 p229 q229
                                      obtain rfl : ad227 = ad229 := (by injection e229)
                                      replace p229 := eq_true p229
                                      replace q229 := eq_true q229
                                      have p230 : 0 ≤ (x3_2 : Int) := of_decide_eq_true (by first | (with_reducible assumption) | assumption)
                                      have q230 : x3_2 < (l0.length : Int) := of_decide_eq_true (by first | (with_reducible assumption) | assumption)
                                      obtain ⟨ad230, e230, hx230_0, hx230_1, hx230_2⟩ := at_T106 HR0.out x3_2 p230 q230
                                      obtain rfl : ad227 = ad230 := (by injection e230)
                                      replace p230 := eq_true p230
                                      replace q230 := eq_true q230
                                      go_wp2
                                      repeat (go_quiet (fail); try go_wp2)
                                      go_meet
                                      case rel => exact ⟨_, (decide (((rd_T106 l0 x3_2).f2) > 10000)), (by first | rfl | (simp; done) | (simp [*]; done)), H', ⟨by have := HJ1.out; have := HK2.out; have := HJ5.out; have := HJ11.out; first | omega | exact Nat.le_refl _⟩, by repeat (first | exact Drawn0.refl _ | apply Drawn0.step)⟩
                              · rw [if_neg c22] at H
                                exact absurd H (by simp)
                            · rw [if_neg c21] at H
                              exact absurd H (by simp)
                          case rest =>
                            clear HC20
                            try clear c1
                            try clear c2
                            try clear p2
                            try clear q2
                            try clear hx2
                            try clear c3
                            try clear c3b0
                            try clear c3b1
                            try clear c4
                            try clear c5
                            try clear c5b0
                            try clear p6
                            try clear c7
                            try clear c7b0
                            try clear c8
                            try clear c8b0
                            try clear c9
                            try clear c9b0
                            try clear c10
                            try clear c10b0
                            try clear c10b1
                            try clear c11
                            try clear c13
                            try clear c13b0
                            try clear c14
                            try clear c14b0
                            try clear c15
                            try clear c15b0
                            try clear c17
                            try clear c17b0
                            try clear c18
                            try clear c18b0
                            try clear c19
                            try clear c21
                            try clear c21b0
                            try clear c22
                            try clear c22b0
                            try clear p22
                            try clear q22
                            try clear hx22
                            try clear c23
                            try clear c23b0
                            try clear p23
                            try clear q23
                            try clear hx23
                            try clear c24
                            try clear c24b0
                            try clear c25
                            try clear c25b0
                            try clear hx222_0
                            try clear hx222_1
                            try clear hx222_2
                            try clear hx223_0
                            try clear hx223_1
                            try clear hx223_2
                            try clear hx224_0
                            try clear hx224_1
                            try clear hx224_2
                            try clear hx225_0
                            try clear hx225_1
                            try clear hx225_2
                            try clear hx226_0
                            try clear hx226_1
                            try clear hx226_2
                            try clear hx227_0
                            try clear hx227_1
                            try clear hx227_2
                            try clear hx228_0
                            try clear hx228_1
                            try clear hx228_2
                            try clear hx229_0
                            try clear hx229_1
                            try clear hx229_2
                            try clear hx230_0
                            try clear hx230_1
                            try clear hx230_2
                            try clear p2
                            try clear p222
                            try clear p223
                            try clear p224
                            try clear p225
                            try clear p226
                            try clear p227
                            try clear p228
                            try clear p229
                            try clear p230
                            try clear p6
                            try clear q2
                            try clear q222
                            try clear q223
                            try clear q224
                            try clear q225
                            try clear q226
                            try clear q227
                            try clear q228
                            try clear q229
                            try clear q230
                            obtain ⟨kq, x89_19, rfl, HA, HJ19, ⟨mc19, rfl⟩⟩ := hcut
                            cases kq with
                            | zero => exact absurd HA.out (by simp [stipendref05_Check.j4])
                            | succ kj19 =>
                              have H := HA.out
                              clear HA
                              simp only [stipendref05_Check.j4] at H
                              by_cases c26 : x89_19 = true
                              · subst c26
                                have H1 : (some 50) = some r := by rw [if_pos rfl] at H; exact H
                                clear H
                                have H := H1
                                clear H1
                                obtain rfl := Option.some.inj H
                                go_wp2
                                repeat (go_quiet (fail); try go_wp2)
                                go_ret
                                exact ⟨by first | rfl | (simp; done) | (simp [*]; done), by repeat (first | exact Drawn0.refl _ | apply Drawn0.step)⟩
                              · replace c26 := Bool.eq_false_iff.mpr c26
                                subst c26
                                have H1 : (stipendref05_Check.l0 kj19 l0 (wrap64 (x3_2 + 1))) = some r := by rw [if_neg (show ¬ (false = true) by decide)] at H; exact H
                                clear H
                                have H := H1
                                clear H1
                                have H' := Aside0.mk H
                                clear H
                                go_wp2
                                repeat (go_quiet (fail); try go_wp2)
                                go_roundg kj19
                                case measure => have := HJ1.out; have := HK2.out; have := HJ5.out; have := HJ11.out; have := HJ19.out; omega
                                case rel => exact ⟨(wrap64 (x3_2 + 1)), (by first | rfl | (simp; done) | (simp [*]; done)), H', ⟨by have := HJ1.out; have := HK2.out; have := HJ5.out; have := HJ11.out; have := HJ19.out; omega⟩, by repeat (first | exact Drawn0.refl _ | apply Drawn0.step)⟩
            · rw [if_neg c5] at H
              have c5b0 : decide (x3_2 < (l0.length : Int)) = false := decide_eq_false c5
              clear c5
              obtain rfl := Option.some.inj H
              go_wp2
              repeat (go_quiet (fail); try go_wp2)
              go_ret
              exact ⟨by first | rfl | (simp; done) | (simp [*]; done), by repeat (first | exact Drawn0.refl _ | apply Drawn0.step)⟩

/-! ### stipendref05_Exact: function 50 -/
mutual
def stipendref05_Exact.l0 : Nat → Int → List (S106) → Bool → Int → Int → Int → Option (Int)
  | 0, _, _, _, _, _, _ => none
  | k + 1, x0, x1, x2, x7, x8, x9 => if x9 < (x1.length : Int) then (if 0 ≤ x9 then (if x2 = true then (stipendref05_Exact.j1 k x0 x1 x2 x7 x8 x9 ((rd_T106 x1 x9).f2)) else (stipendref05_Exact.j1 k x0 x1 x2 x7 x8 x9 ((rd_T106 x1 x9).f1))) else (none)) else (some x7)
def stipendref05_Exact.j1 : Nat → Int → List (S106) → Bool → Int → Int → Int → Int → Option (Int)
  | 0, _, _, _, _, _, _, _ => none
  | k + 1, x0, x1, x2, x7, x8, x9, x10 => if 0 ≤ x9 then (if x9 < (x1.length : Int) then (if x0 > ((rd_T106 x1 x9).f0) then (stipendref05_Exact.l0 k x0 x1 x2 (wrap64 (x7 + (wrap64 ((wrap64 (x0 - ((rd_T106 x1 x9).f0))) * (wrap64 (x10 - x8)))))) x10 (wrap64 (x9 + 1))) else (stipendref05_Exact.l0 k x0 x1 x2 x7 x10 (wrap64 (x9 + 1)))) else (none)) else (none)
end
def stipendref05_Exact.f (k : Nat) (a0 : Int) (l1 : List (S106)) (a2 : Bool) : Option (Int) := stipendref05_Exact.l0 k a0 l1 a2 0 0 0
theorem stipendref05_Exact.mono_l : ∀ k, (∀ y0 y1 y2 y3 y4 y5, LeO (stipendref05_Exact.l0 k y0 y1 y2 y3 y4 y5) (stipendref05_Exact.l0 (k + 1) y0 y1 y2 y3 y4 y5)) ∧ (∀ y0 y1 y2 y3 y4 y5 y6, LeO (stipendref05_Exact.j1 k y0 y1 y2 y3 y4 y5 y6) (stipendref05_Exact.j1 (k + 1) y0 y1 y2 y3 y4 y5 y6))
  | 0 => ⟨fun _ _ _ _ _ _ r h => by simp [stipendref05_Exact.l0] at h, fun _ _ _ _ _ _ _ r h => by simp [stipendref05_Exact.j1] at h⟩
  | k + 1 => by
    obtain ⟨ih0, ih1⟩ := stipendref05_Exact.mono_l k
    refine ⟨?_, ?_⟩
    · intro y0 y1 y2 y3 y4 y5
      unfold stipendref05_Exact.l0
      repeat' first
      | (with_reducible exact ih0 _ _ _ _ _ _)
      | (with_reducible exact ih1 _ _ _ _ _ _ _)
      | (with_reducible exact LeO.refl _)
      | (with_reducible exact LeO.none _)
      | (with_reducible refine LeO.ite ?_ ?_)
      | (with_reducible refine LeO.bind ?_ (fun _ => ?_))
      | exact ih0 _ _ _ _ _ _
      | exact ih1 _ _ _ _ _ _ _
      | exact LeO.none _
      | refine LeO.ite ?_ ?_
      | refine LeO.bind ?_ (fun _ => ?_)
    · intro y0 y1 y2 y3 y4 y5 y6
      unfold stipendref05_Exact.j1
      repeat' first
      | (with_reducible exact ih0 _ _ _ _ _ _)
      | (with_reducible exact ih1 _ _ _ _ _ _ _)
      | (with_reducible exact LeO.refl _)
      | (with_reducible exact LeO.none _)
      | (with_reducible refine LeO.ite ?_ ?_)
      | (with_reducible refine LeO.bind ?_ (fun _ => ?_))
      | exact ih0 _ _ _ _ _ _
      | exact ih1 _ _ _ _ _ _ _
      | exact LeO.none _
      | refine LeO.ite ?_ ?_
      | refine LeO.bind ?_ (fun _ => ?_)
theorem stipendref05_Exact.mono : ∀ a0 a1 a2 k, LeO (stipendref05_Exact.f k a0 a1 a2) (stipendref05_Exact.f (k + 1) a0 a1 a2) := by
  intro a0 a1 a2 k
  obtain ⟨ih0, ih1⟩ := stipendref05_Exact.mono_l k
  unfold stipendref05_Exact.f
  repeat' first
      | (with_reducible exact ih0 _ _ _ _ _ _)
      | (with_reducible exact ih1 _ _ _ _ _ _ _)
      | (with_reducible exact LeO.refl _)
      | (with_reducible exact LeO.none _)
      | (with_reducible refine LeO.ite ?_ ?_)
      | (with_reducible refine LeO.bind ?_ (fun _ => ?_))
      | exact ih0 _ _ _ _ _ _
      | exact ih1 _ _ _ _ _ _ _
      | exact LeO.none _
      | refine LeO.ite ?_ ?_
      | refine LeO.bind ?_ (fun _ => ?_)
set_option maxHeartbeats 8000000 in
set_option maxRecDepth 100000 in
theorem stipendref05_Exact.calls (k : Nat) (a0 : Int) (A1 : Option Addr) (c1 : Nat) (l1 : List (S106)) (a2 : Bool) (r : Int) (w : World) (hr1 : Kd.C k106 w A1 l1.length l1) (hc1 : l1.length ≤ c1) (h : stipendref05_Exact.f k a0 l1 a2 = some r) :
    Calls Try.prog 50 #[.int .i64 a0, .slice A1 l1.length c1, .bool a2] w fun e w' => e = .returned (.int .i64 r) ∧ Drawn0 w w' := by
  have HR1 := Aside0.mk hr1
  have HC1 := Aside0.mk hc1
  clear hr1 hc1
  have H : (stipendref05_Exact.l0 k a0 l1 a2 0 0 0) = some r := h
  clear h
  have H' := Aside0.mk H
  clear H
  go_enter Try.func50, Try.ntmps50
  go_wp2
  go_loopg [7, 8, 9] k (fun kq v7 v8 v9 w' => ∃ (x7_1 : Int) (x8_1 : Int) (x9_1 : Int), v7 = .int .i64 x7_1 ∧ v8 = .int .i64 x8_1 ∧ v9 = .int .i64 x9_1 ∧ Aside0 (stipendref05_Exact.l0 kq a0 l1 a2 x7_1 x8_1 x9_1 = some r) ∧ Aside0 (kq ≤ k) ∧ Drawn0 w w')
  case atStart => exact ⟨(0), (0), (0), (by first | rfl | (simp; done) | (simp [*]; done)), (by first | rfl | (simp; done) | (simp [*]; done)), (by first | rfl | (simp; done) | (simp [*]; done)), H', ⟨Nat.le_refl _⟩, by repeat (first | exact Drawn0.refl _ | apply Drawn0.step)⟩
  case round =>
    clear H'
    try clear c1
    try clear p2
    obtain ⟨x7_1, x8_1, x9_1, rfl, rfl, rfl, HA, HK1, ⟨m1, rfl⟩⟩ := hrel
    cases gk with
    | zero => exact absurd HA.out (by simp [stipendref05_Exact.l0])
    | succ k1 =>
      have H := HA.out
      clear HA
      simp only [stipendref05_Exact.l0] at H
      by_cases c4 : x9_1 < (l1.length : Int)
      · rw [if_pos c4] at H
        have c4b0 : decide (x9_1 < (l1.length : Int)) = true := decide_eq_true c4
        clear c4
        by_cases c5 : 0 ≤ x9_1
        · rw [if_pos c5] at H
          have c5b0 : decide (0 ≤ x9_1) = true := decide_eq_true c5
          clear c5
          have HC6 := Aside0.mk H
          clear H
          have p356 : 0 ≤ (x9_1 : Int) := of_decide_eq_true (by first | (with_reducible assumption) | assumption)
          have q356 : x9_1 < (l1.length : Int) := of_decide_eq_true (by first | (with_reducible assumption) | assumption)
          obtain ⟨ad356, e356, hx356_0, hx356_1, hx356_2⟩ := at_T106 HR1.out x9_1 p356 q356
          cases e356
          replace p356 := eq_true p356
          replace q356 := eq_true q356
          go_upto_if 22 with (fail)
          go_cut [10] (fun v10 wc => ∃ (kq : Nat) (x10_5 : Int), v10 = .int .i64 x10_5 ∧ Aside0 (stipendref05_Exact.j1 kq a0 l1 a2 x7_1 x8_1 x9_1 x10_5 = some r) ∧ Aside0 (kq ≤ k1) ∧ Drawn0 w wc)
          case first =>
            have H := HC6.out
            clear HC6
            by_cases c7 : a2 = true
            · subst c7
              have H1 : (stipendref05_Exact.j1 k1 a0 l1 true x7_1 x8_1 x9_1 ((rd_T106 l1 x9_1).f2)) = some r := by rw [if_pos rfl] at H; exact H
              clear H
              have H := H1
              clear H1
              have H' := Aside0.mk H
              clear H
              have p357 : 0 ≤ (x9_1 : Int) := of_decide_eq_true (by first | (with_reducible assumption) | assumption)
              have q357 : x9_1 < (l1.length : Int) := of_decide_eq_true (by first | (with_reducible assumption) | assumption)
              obtain ⟨ad357, e357, hx357_0, hx357_1, hx357_2⟩ := at_T106 HR1.out x9_1 p357 q357
              obtain rfl : ad356 = ad357 := (by injection e357)
              replace p357 := eq_true p357
              replace q357 := eq_true q357
              go_wp2
              go_meet
              case rel => exact ⟨_, ((rd_T106 l1 x9_1).f2), (by first | rfl | (simp; done) | (simp [*]; done)), H', ⟨by have := HK1.out; first | omega | exact Nat.le_refl _⟩, by repeat (first | exact Drawn0.refl _ | apply Drawn0.step)⟩
            · replace c7 := Bool.eq_false_iff.mpr c7
              subst c7
              have H1 : (stipendref05_Exact.j1 k1 a0 l1 false x7_1 x8_1 x9_1 ((rd_T106 l1 x9_1).f1)) = some r := by rw [if_neg (show ¬ (false = true) by decide)] at H; exact H
              clear H
              have H := H1
              clear H1
              have H' := Aside0.mk H
              clear H
              go_wp2
              go_meet
              case rel => exact ⟨_, ((rd_T106 l1 x9_1).f1), (by first | rfl | (simp; done) | (simp [*]; done)), H', ⟨by have := HK1.out; first | omega | exact Nat.le_refl _⟩, by repeat (first | exact Drawn0.refl _ | apply Drawn0.step)⟩
          case rest =>
            clear HC6
            try clear c1
            try clear p2
            try clear p3
            try clear q3
            try clear hx3
            try clear c4
            try clear c4b0
            try clear c5
            try clear c5b0
            try clear c7
            try clear hx356_0
            try clear hx356_1
            try clear hx356_2
            try clear hx357_0
            try clear hx357_1
            try clear hx357_2
            try clear p2
            try clear p356
            try clear p357
            try clear q356
            try clear q357
            obtain ⟨kq, x10_5, rfl, HA, HJ5, ⟨mc5, rfl⟩⟩ := hcut
            cases kq with
            | zero => exact absurd HA.out (by simp [stipendref05_Exact.j1])
            | succ kj5 =>
              have H := HA.out
              clear HA
              simp only [stipendref05_Exact.j1] at H
              by_cases c8 : 0 ≤ x9_1
              · rw [if_pos c8] at H
                have c8b0 : decide (0 ≤ x9_1) = true := decide_eq_true c8
                clear c8
                by_cases c9 : x9_1 < (l1.length : Int)
                · rw [if_pos c9] at H
                  have c9b0 : decide (x9_1 < (l1.length : Int)) = true := decide_eq_true c9
                  clear c9
                  by_cases c10 : a0 > ((rd_T106 l1 x9_1).f0)
                  · rw [if_pos c10] at H
                    have c10b0 : decide (((rd_T106 l1 x9_1).f0) < a0) = true := decide_eq_true c10
                    clear c10
                    have H' := Aside0.mk H
                    clear H
                    have p358 : 0 ≤ (x9_1 : Int) := of_decide_eq_true (by first | (with_reducible assumption) | assumption)
                    have q358 : x9_1 < (l1.length : Int) := of_decide_eq_true (by first | (with_reducible assumption) | assumption)
                    obtain ⟨ad358, e358, hx358_0, hx358_1, hx358_2⟩ := at_T106 HR1.out x9_1 p358 q358
                    obtain rfl : ad356 = ad358 := (by injection e358)
                    replace p358 := eq_true p358
                    replace q358 := eq_true q358
                    have p359 : 0 ≤ (x9_1 : Int) := of_decide_eq_true (by first | (with_reducible assumption) | assumption)
                    have q359 : x9_1 < (l1.length : Int) := of_decide_eq_true (by first | (with_reducible assumption) | assumption)
                    obtain ⟨ad359, e359, hx359_0, hx359_1, hx359_2⟩ := at_T106 HR1.out x9_1 p359 q359
                    obtain rfl : ad356 = ad359 := (by injection e359)
                    replace p359 := eq_true p359
                    replace q359 := eq_true q359
                    go_wp2
                    go_roundg kj5
                    case measure => have := HK1.out; have := HJ5.out; omega
                    case rel => exact ⟨(wrap64 (x7_1 + (wrap64 ((wrap64 (a0 - ((rd_T106 l1 x9_1).f0))) * (wrap64 (x10_5 - x8_1)))))), (x10_5), (wrap64 (x9_1 + 1)), (by first | rfl | (simp; done) | (simp [*]; done)), (by first | rfl | (simp; done) | (simp [*]; done)), (by first | rfl | (simp; done) | (simp [*]; done)), H', ⟨by have := HK1.out; have := HJ5.out; omega⟩, by repeat (first | exact Drawn0.refl _ | apply Drawn0.step)⟩
                  · rw [if_neg c10] at H
                    have c10b0 : decide (((rd_T106 l1 x9_1).f0) < a0) = false := decide_eq_false c10
                    clear c10
                    have H' := Aside0.mk H
                    clear H
                    have p358 : 0 ≤ (x9_1 : Int) := of_decide_eq_true (by first | (with_reducible assumption) | assumption)
                    have q358 : x9_1 < (l1.length : Int) := of_decide_eq_true (by first | (with_reducible assumption) | assumption)
                    obtain ⟨ad358, e358, hx358_0, hx358_1, hx358_2⟩ := at_T106 HR1.out x9_1 p358 q358
                    obtain rfl : ad356 = ad358 := (by injection e358)
                    replace p358 := eq_true p358
                    replace q358 := eq_true q358
                    go_wp2
                    go_roundg kj5
                    case measure => have := HK1.out; have := HJ5.out; omega
                    case rel => exact ⟨(x7_1), (x10_5), (wrap64 (x9_1 + 1)), (by first | rfl | (simp; done) | (simp [*]; done)), (by first | rfl | (simp; done) | (simp [*]; done)), (by first | rfl | (simp; done) | (simp [*]; done)), H', ⟨by have := HK1.out; have := HJ5.out; omega⟩, by repeat (first | exact Drawn0.refl _ | apply Drawn0.step)⟩
                · rw [if_neg c9] at H
                  exact absurd H (by simp)
              · rw [if_neg c8] at H
                exact absurd H (by simp)
        · rw [if_neg c5] at H
          exact absurd H (by simp)
      · rw [if_neg c4] at H
        have c4b0 : decide (x9_1 < (l1.length : Int)) = false := decide_eq_false c4
        clear c4
        obtain rfl := Option.some.inj H
        go_wp2
        go_ret
        exact ⟨by first | rfl | (simp; done) | (simp [*]; done), by repeat (first | exact Drawn0.refl _ | apply Drawn0.step)⟩

/-! ### stipendref05_Part: function 61 -/
def stipendref05_Part.f (a0 : Int) (a1 : Int) (a2 : Int) : Option (Int) := if a2 = 0 then (none) else (some (wrap64 (Int.tdiv (wrap64 (a0 * a1)) a2)))
set_option maxHeartbeats 8000000 in
set_option maxRecDepth 100000 in
theorem stipendref05_Part.calls (a0 : Int) (a1 : Int) (a2 : Int) (r : Int) (w : World) (h : stipendref05_Part.f a0 a1 a2 = some r) :
    Calls Try.prog 61 #[.int .i64 a0, .int .i64 a1, .int .i64 a2] w fun e w' => e = .returned (.int .i64 r) ∧ Drawn0 w w' := by
  have H : (if a2 = 0 then (none) else (some (wrap64 (Int.tdiv (wrap64 (a0 * a1)) a2)))) = some r := h
  clear h
  by_cases c4 : a2 = 0
  · rw [if_pos c4] at H
    exact absurd H (by simp)
  · rw [if_neg c4] at H
    have c4b0 : (a2 == 0) = false := beq_eq_false_iff_ne.mpr c4
    have c4b1 : (a2 != 0) = true := bne_iff_ne.mpr c4
    obtain rfl := Option.some.inj H
    go_enter Try.func61, Try.ntmps61
    go_wp2
    go_ret
    exact ⟨by first | rfl | (simp; done) | (simp [*]; done), by repeat (first | exact Drawn0.refl _ | apply Drawn0.step)⟩

end Go.Proofs.Ytcapgmoipacioaa.P
