import Derived.Test.YtcapgmoipacioaaPtZe
import Derived.Test.YtcapgmoipacioaaPpmoneyZe
import Derived.Test.YtcapgmoipacioaaY1Ze
namespace Go.Proofs.Ytcapgmoipacioaa.P
open Go.RowKit Go.Proofs.YtcapgmoipacioaaW.PrintWords Go.Proofs.YtcapgmoipacioaaW.PrintLast Go.Proofs.YtcapgmoipacioaaW.PrintMore
set_option linter.unusedVariables false
set_option linter.unusedSimpArgs false
def frac_Rate.f (a0 : Int) : Option (Bool) := if a0 ≥ 0 then (some (decide (a0 ≤ 10000))) else (some false)
set_option maxHeartbeats 8000000 in
set_option maxRecDepth 100000 in
theorem frac_Rate.calls (a0 : Int) (r : Bool) (w : World) (h : frac_Rate.f a0 = some r) :
  Calls Try.prog 102 #[.int .i64 a0] w fun e w' => e = .returned (.bool r) ∧ Drawn0 w w' := by
 unfold frac_Rate.f at h; have H := h; clear h; by_cases c2 : a0 ≥ 0
 ·rw [if_pos c2] at H; have c2b0 : decide (0 ≤ a0) = true := decide_eq_true c2; clear c2; obtain rfl := Option.some.inj H; go_enter Try.func102, Try.ntmps102
  go_wp2
  go_ret
  exact ⟨sx_, by repeat (first | exact Drawn0.refl _ | apply Drawn0.step)⟩
 ·rw [if_neg c2] at H; have c2b0 : decide (0 ≤ a0) = false := decide_eq_false c2; clear c2; obtain rfl := Option.some.inj H; go_enter Try.func102, Try.ntmps102
  go_wp2
  go_ret
  exact ⟨sx_, by repeat (first | exact Drawn0.refl _ | apply Drawn0.step)⟩
def frac_Mode.f (a0 : Int) : Option (Bool) := if a0 ≥ 1 then (some (decide (a0 ≤ 6))) else (some false)
set_option maxHeartbeats 8000000 in
set_option maxRecDepth 100000 in
theorem frac_Mode.calls (a0 : Int) (r : Bool) (w : World) (h : frac_Mode.f a0 = some r) :
  Calls Try.prog 104 #[.int .i64 a0] w fun e w' => e = .returned (.bool r) ∧ Drawn0 w w' := by
 unfold frac_Mode.f at h; have H := h; clear h; by_cases c2 : a0 ≥ 1
 ·rw [if_pos c2] at H; have c2b0 : decide (1 ≤ a0) = true := decide_eq_true c2; clear c2; obtain rfl := Option.some.inj H; go_enter Try.func104, Try.ntmps104
  go_wp2
  go_ret
  exact ⟨sx_, by repeat (first | exact Drawn0.refl _ | apply Drawn0.step)⟩
 ·rw [if_neg c2] at H; have c2b0 : decide (1 ≤ a0) = false := decide_eq_false c2; clear c2; obtain rfl := Option.some.inj H; go_enter Try.func104, Try.ntmps104
  go_wp2
  go_ret
  exact ⟨sx_, by repeat (first | exact Drawn0.refl _ | apply Drawn0.step)⟩
def frac_floor.f (a0 : Int) (a1 : Int) : Option (Int × Int) := if a1 = 0 then (none) else (if (Int.tmod a0 a1) < 0 then (some (wrap64 ((wrap64 (Int.tdiv a0 a1)) - 1), wrap64 ((Int.tmod a0 a1) + a1))) else (some (wrap64 (Int.tdiv a0 a1), Int.tmod a0 a1)))
set_option maxHeartbeats 8000000 in
set_option maxRecDepth 100000 in
theorem frac_floor.calls (a0 : Int) (a1 : Int) (r1 : Int) (r2 : Int) (w : World) (h : frac_floor.f a0 a1 = some (r1, r2)) :
  Calls Try.prog 139 #[.int .i64 a0, .int .i64 a1] w fun e w' => e = .returned (.tuple #[.int .i64 r1, .int .i64 r2]) ∧ Drawn0 w w' := by
 unfold frac_floor.f at h; have H := h; clear h; by_cases c3 : a1 = 0
 ·rw [if_pos c3] at H; exact absurd H (by simp)
 ·rw [if_neg c3] at H; have c3b0 : (a1 == 0) = false := beq_eq_false_iff_ne.mpr c3; have c3b1 : (a1 != 0) = true := bne_iff_ne.mpr c3; by_cases c4 : (Int.tmod a0 a1) < 0
  ·rw [if_pos c4] at H; have c4b0 := decide_eq_true c4; clear c4; simp only [Option.some.injEq, Prod.mk.injEq] at H; obtain ⟨rfl, rfl⟩ := H; go_enter Try.func139, Try.ntmps139
   go_wp2
   repeat (go_quiet (fail); try go_wp2)
   go_ret2
   exact ⟨sx_, by repeat (first | exact Drawn0.refl _ | apply Drawn0.step)⟩
  ·rw [if_neg c4] at H; have c4b0 := decide_eq_false c4; clear c4; simp only [Option.some.injEq, Prod.mk.injEq] at H; obtain ⟨rfl, rfl⟩ := H; go_enter Try.func139, Try.ntmps139
   go_wp2
   repeat (go_quiet (fail); try go_wp2)
   go_ret2
   exact ⟨sx_, by repeat (first | exact Drawn0.refl _ | apply Drawn0.step)⟩
def frac_nearer.f (a0 : Int) (a1 : Int) (a2 : Int) (a3 : Int) : Option (Bool) := if a3 = 2 then (some (decide (a1 > 0))) else (if a3 = 3 then (if a1 > 0 then (some (decide (a0 < 0))) else (some false)) else (if a3 = 1 then (some false) else (if a1 = (wrap64 (a2 - a1)) then (if a3 = 4 then (some (decide (a0 ≥ 0))) else (if a3 = 6 then (some (decide (a0 < 0))) else (some ((Int.tmod a0 2) != 0)))) else (some (decide (a1 > (wrap64 (a2 - a1))))))))
set_option maxHeartbeats 8000000 in
set_option maxRecDepth 100000 in
theorem frac_nearer.calls (a0 : Int) (a1 : Int) (a2 : Int) (a3 : Int) (r : Bool) (w : World) (h : frac_nearer.f a0 a1 a2 a3 = some r) :
  Calls Try.prog 154 #[.int .i64 a0, .int .i64 a1, .int .i64 a2, .int .i64 a3] w fun e w' => e = .returned (.bool r) ∧ Drawn0 w w' := by
 unfold frac_nearer.f at h; have H := h; clear h; by_cases c5 : a3 = 2
 ·rw [if_pos c5] at H; have c5b0 : (a3 == 2) = true := beq_iff_eq.mpr c5; have c5b1 : (a3 != 2) = false := bne_eq_false_iff_eq.mpr c5; clear c5; obtain rfl := Option.some.inj H; go_enter Try.func154, Try.ntmps154
  go_wp2
  go_ret
  exact ⟨sx_, by repeat (first | exact Drawn0.refl _ | apply Drawn0.step)⟩
 ·rw [if_neg c5] at H; have c5b0 : (a3 == 2) = false := beq_eq_false_iff_ne.mpr c5; have c5b1 : (a3 != 2) = true := bne_iff_ne.mpr c5; by_cases c6 : a3 = 3
  ·rw [if_pos c6] at H; have c6b0 : (a3 == 3) = true := beq_iff_eq.mpr c6; have c6b1 : (a3 != 3) = false := bne_eq_false_iff_eq.mpr c6; clear c6; by_cases c7 : a1 > 0
   ·rw [if_pos c7] at H; have c7b0 : decide (0 < a1) = true := decide_eq_true c7; clear c7; obtain rfl := Option.some.inj H; go_enter Try.func154, Try.ntmps154
    go_wp2
    go_ret
    exact ⟨sx_, by repeat (first | exact Drawn0.refl _ | apply Drawn0.step)⟩
   ·rw [if_neg c7] at H; have c7b0 : decide (0 < a1) = false := decide_eq_false c7; clear c7; obtain rfl := Option.some.inj H; go_enter Try.func154, Try.ntmps154
    go_wp2
    go_ret
    exact ⟨sx_, by repeat (first | exact Drawn0.refl _ | apply Drawn0.step)⟩
  ·rw [if_neg c6] at H; have c6b0 : (a3 == 3) = false := beq_eq_false_iff_ne.mpr c6; have c6b1 : (a3 != 3) = true := bne_iff_ne.mpr c6; by_cases c8 : a3 = 1
   ·rw [if_pos c8] at H; have c8b0 : (a3 == 1) = true := beq_iff_eq.mpr c8; have c8b1 : (a3 != 1) = false := bne_eq_false_iff_eq.mpr c8; clear c8; obtain rfl := Option.some.inj H; go_enter Try.func154, Try.ntmps154
    go_wp2
    go_ret
    exact ⟨sx_, by repeat (first | exact Drawn0.refl _ | apply Drawn0.step)⟩
   ·rw [if_neg c8] at H; have c8b0 : (a3 == 1) = false := beq_eq_false_iff_ne.mpr c8; have c8b1 : (a3 != 1) = true := bne_iff_ne.mpr c8; by_cases c9 : a1 = (wrap64 (a2 - a1))
    ·rw [if_pos c9] at H; have c9b0 : (a1 == (wrap64 (a2 - a1))) = true := beq_iff_eq.mpr c9; have c9b1 : (a1 != (wrap64 (a2 - a1))) = false := bne_eq_false_iff_eq.mpr c9; clear c9; by_cases c10 : a3 = 4
     ·rw [if_pos c10] at H; have c10b0 : (a3 == 4) = true := beq_iff_eq.mpr c10; have c10b1 : (a3 != 4) = false := bne_eq_false_iff_eq.mpr c10; clear c10; obtain rfl := Option.some.inj H; go_enter Try.func154, Try.ntmps154
      go_wp2
      go_ret
      exact ⟨sx_, by repeat (first | exact Drawn0.refl _ | apply Drawn0.step)⟩
     ·rw [if_neg c10] at H; have c10b0 : (a3 == 4) = false := beq_eq_false_iff_ne.mpr c10; have c10b1 : (a3 != 4) = true := bne_iff_ne.mpr c10; by_cases c11 : a3 = 6
      ·rw [if_pos c11] at H; have c11b0 : (a3 == 6) = true := beq_iff_eq.mpr c11; have c11b1 : (a3 != 6) = false := bne_eq_false_iff_eq.mpr c11; clear c11; obtain rfl := Option.some.inj H; go_enter Try.func154, Try.ntmps154
       go_wp2
       go_ret
       exact ⟨sx_, by repeat (first | exact Drawn0.refl _ | apply Drawn0.step)⟩
      ·rw [if_neg c11] at H; have c11b0 : (a3 == 6) = false := beq_eq_false_iff_ne.mpr c11; have c11b1 : (a3 != 6) = true := bne_iff_ne.mpr c11; obtain rfl := Option.some.inj H; go_enter Try.func154, Try.ntmps154
       go_wp2
       go_ret
       exact ⟨sx_, by repeat (first | exact Drawn0.refl _ | apply Drawn0.step)⟩
    ·rw [if_neg c9] at H; have c9b0 : (a1 == (wrap64 (a2 - a1))) = false := beq_eq_false_iff_ne.mpr c9; have c9b1 : (a1 != (wrap64 (a2 - a1))) = true := bne_iff_ne.mpr c9; obtain rfl := Option.some.inj H; go_enter Try.func154, Try.ntmps154
     go_wp2
     go_ret
     exact ⟨sx_, by repeat (first | exact Drawn0.refl _ | apply Drawn0.step)⟩
mutual
def frac_Round.j0 : Nat → Int → Int → Int → Bool → Option (Int × Int)
 | 0, _, _, _, _ => none
 | k + 1, x0, x1, x2, x16 => if x16 = true then (some (0, 1)) else ((frac_floor.f x0 x1).bind fun bt121 => (if bt121.2 > 0 then ((frac_nearer.f bt121.1 bt121.2 x1 x2).bind fun t123 => (frac_Round.j1 k bt121.1 t123)) else (frac_Round.j1 k bt121.1 false)))
def frac_Round.j1 : Nat → Int → Bool → Option (Int × Int)
 | 0, _, _ => none
 | k + 1, x8, x31 => if x31 = true then (some (wrap64 (x8 + 1), 0)) else (some (x8, 0))
end
def frac_Round.f (k : Nat) (a0 : Int) (a1 : Int) (a2 : Int) : Option (Int × Int) := if a1 ≤ 0 then (frac_Round.j0 k a0 a1 a2 true) else ((frac_Mode.f a2).bind fun t120 => (frac_Round.j0 k a0 a1 a2 (!t120)))
set_option maxHeartbeats 8000000 in
set_option maxRecDepth 100000 in
theorem frac_Round.calls (k : Nat) (a0 : Int) (a1 : Int) (a2 : Int) (r1 : Int) (r2 : Int) (w : World) (h : frac_Round.f k a0 a1 a2 = some (r1, r2)) :
  Calls Try.prog 121 #[.int .i64 a0, .int .i64 a1, .int .i64 a2] w fun e w' => e = .returned (.tuple #[.int .i64 r1, .int .i64 r2]) ∧ Drawn0 w w' := by
 unfold frac_Round.f at h; have H := h; clear h; have HC4 := A_ H; clear H; go_enter Try.func121, Try.ntmps121
 go_upto_region 1 with (fail)
 go_cut [16] (fun v16 wc => ∃ (kq : Nat) (x16_3 : Bool), v16 = .bool x16_3 ∧ Aside0 (frac_Round.j0 kq a0 a1 a2 x16_3 = some (r1, r2)) ∧ Aside0 (kq ≤ k) ∧ Drawn0 w wc)
 case first =>
  have H := HC4.out; clear HC4; by_cases c5 : a1 ≤ 0
  ·rw [if_pos c5] at H; have c5b0 := decide_eq_true c5; clear c5
   (first | rw [c5b0] | (simp only [i64_w, i32_w]; rw [c5b0]) | skip)
   have H' := A_ H; clear H
   go_wp2
   go_meet
   case rel => exact ⟨_, (true), (sx_), H', ⟨by first | omega | exact Nat.le_refl _⟩, by repeat (first | exact Drawn0.refl _ | apply Drawn0.step)⟩
  ·rw [if_neg c5] at H; have c5b0 := decide_eq_false c5; clear c5
   (first | rw [c5b0] | (simp only [i64_w, i32_w]; rw [c5b0]) | skip)
   replace H := Option.bind_eq_some_iff.mp H; obtain ⟨t120, A60, H⟩ := H; (try dsimp only at H); have A6 := A_ A60; clear A60; have H' := A_ H; clear H; go_wp2_with (first | (go_at_call 104; (with_reducible refine (frac_Mode.calls a2 t120 _ A6.out).mono ?_); rintro e w' ⟨rfl, ⟨nd, rfl⟩⟩))
   go_meet
   case rel => exact ⟨_, (!t120), (sx_), H', ⟨by first | omega | exact Nat.le_refl _⟩, by repeat (first | exact Drawn0.refl _ | apply Drawn0.step)⟩
 case rest =>
  clear HC4; try clear c1
  try clear p2
  try clear c5
  try clear c5b0
  obtain ⟨kq, x16_3, rfl, HA, HJ3, ⟨mc3, rfl⟩⟩ := hcut
  cases kq with
  | zero => exact absurd HA.out (by simp [frac_Round.j0])
  | succ kj3 =>
   have H := HA.out; clear HA; simp only [frac_Round.j0] at H; by_cases c7 : x16_3 = true
   ·subst c7; rw [if_pos rfl] at H; simp only [Option.some.injEq, Prod.mk.injEq] at H; obtain ⟨rfl, rfl⟩ := H
    go_wp2
    go_ret2
    exact ⟨sx_, by repeat (first | exact Drawn0.refl _ | apply Drawn0.step)⟩
   ·replace c7 := Bool.eq_false_iff.mpr c7; subst c7; rw [if_neg (show ¬ (false = true) by decide)] at H; replace H := Option.bind_eq_some_iff.mp H; obtain ⟨⟨t121, t122⟩, A80, H⟩ := H; (try dsimp only at H); have A8 := A_ A80; clear A80; have HC9 := A_ H; clear H; go_upto_region 4 with (first | ((with_reducible refine gate_callee (f := 139) rfl ?_); refine gm_ (some 20) Try.func139 #[.int .i64 a0, .int .i64 a1] ?_; (with_reducible refine (frac_floor.calls a0 a1 t121 t122 _ A8.out).mono ?_); rintro e w' ⟨rfl, ⟨nd, rfl⟩⟩; refine ⟨_, rfl, ?_⟩))
    (try simp only [Act.put, List.setIfInBounds_toArray, List.set_cons_zero, List.set_cons_succ])
    go_cut [31] (fun v31 wc => ∃ (kq : Nat) (x31_8 : Bool), v31 = .bool x31_8 ∧ Aside0 (frac_Round.j1 kq t121 x31_8 = some (r1, r2)) ∧ Aside0 (kq ≤ kj3) ∧ Drawn0 w wc)
    case first =>
     have H := HC9.out; clear HC9; by_cases c10 : t122 > 0
     ·rw [if_pos c10] at H; have c10b0 : decide (0 < t122) = true := decide_eq_true c10; clear c10
      (first | rw [c10b0] | (simp only [i64_w, i32_w]; rw [c10b0]) | skip)
      replace H := Option.bind_eq_some_iff.mp H; obtain ⟨t123, A110, H⟩ := H; (try dsimp only at H); have A11 := A_ A110; clear A110; have H' := A_ H; clear H; go_wp2_with (first | (go_at_call 154; (with_reducible refine (frac_nearer.calls t121 t122 a1 a2 t123 _ A11.out).mono ?_); rintro e w' ⟨rfl, ⟨nd, rfl⟩⟩))
      go_meet
      case rel => exact ⟨_, (t123), (sx_), H', ⟨by have := HJ3.out; first | omega | exact Nat.le_refl _⟩, by repeat (first | exact Drawn0.refl _ | apply Drawn0.step)⟩
     ·rw [if_neg c10] at H; have c10b0 : decide (0 < t122) = false := decide_eq_false c10; clear c10
      (first | rw [c10b0] | (simp only [i64_w, i32_w]; rw [c10b0]) | skip)
      have H' := A_ H; clear H
      go_wp2
      go_meet
      case rel => exact ⟨_, (false), (sx_), H', ⟨by have := HJ3.out; first | omega | exact Nat.le_refl _⟩, by repeat (first | exact Drawn0.refl _ | apply Drawn0.step)⟩
    case rest =>
     clear HC9; try clear c1
     try clear p2
     try clear c3
     try clear c5
     try clear c5b0
     try clear c7
     try clear c10
     try clear c10b0
     try clear p2
     obtain ⟨kq, x31_8, rfl, HA, HJ8, ⟨mc8, rfl⟩⟩ := hcut
     cases kq with
     | zero => exact absurd HA.out (by simp [frac_Round.j1])
     | succ kj8 =>
      have H := HA.out; clear HA; simp only [frac_Round.j1] at H; by_cases c12 : x31_8 = true
      ·subst c12; rw [if_pos rfl] at H; simp only [Option.some.injEq, Prod.mk.injEq] at H; obtain ⟨rfl, rfl⟩ := H
       go_wp2
       go_ret2
       exact ⟨sx_, by repeat (first | exact Drawn0.refl _ | apply Drawn0.step)⟩
      ·replace c12 := Bool.eq_false_iff.mpr c12; subst c12; rw [if_neg (show ¬ (false = true) by decide)] at H; simp only [Option.some.injEq, Prod.mk.injEq] at H; obtain ⟨rfl, rfl⟩ := H
       go_wp2
       go_ret2
       exact ⟨sx_, by repeat (first | exact Drawn0.refl _ | apply Drawn0.step)⟩
def frac_Part.f (k : Nat) (a0 : Int) (a1 : Int) : Option (Int × Int) := (money_Right.f k (([a0] : List Int))).bind fun t136 => (if t136 = true then ((frac_Rate.f a1).bind fun t137 => (if t137 = true then (some (wrap64 (a0 * a1), 0)) else (some (0, 50)))) else (some (0, 10)))
set_option maxHeartbeats 8000000 in
set_option maxRecDepth 100000 in
theorem frac_Part.calls (k : Nat) (a0 : Int) (a1 : Int) (r1 : Int) (r2 : Int) (w : World) (h : frac_Part.f k a0 a1 = some (r1, r2)) :
  Calls Try.prog 59 #[.int .i64 a0, .int .i64 a1] w fun e w' => e = .returned (.tuple #[.int .i64 r1, .int .i64 r2]) ∧ Below w.heap.size w w' := by
 have HB := A_ (Below.refl w.heap.size w); unfold frac_Part.f at h; have H := h; clear h; obtain ⟨y133, hy133⟩ : ∃ y_ : List Int, y_ = (([a0] : List Int)) := ⟨_, rfl⟩; replace H : ((money_Right.f k y133).bind fun t136 => (if t136 = true then ((frac_Rate.f a1).bind fun t137 => (if t137 = true then (some (wrap64 (a0 * a1), 0)) else (some (0, 50)))) else (some (0, 10)))) = some (r1, r2) := by first | (rw [hy133]; with_reducible exact H) | (have H2_ := (Option.bind_some _ _).symm.trans H; rw [hy133]; with_reducible exact H2_) | (have H2_ := (Option.bind_some _ _).symm.trans H; with_reducible exact H2_) | with_reducible exact H | (rw [hy133]; exact H) | exact H
 have Ny133 := A_ hy133; clear hy133; replace H := Option.bind_eq_some_iff.mp H; obtain ⟨t136, A30, H⟩ := H; (try dsimp only at H); have A3 := A_ A30; clear A30; by_cases c4 : t136 = true
 ·subst c4; rw [if_pos rfl] at H; replace H := Option.bind_eq_some_iff.mp H; obtain ⟨t137, A50, H⟩ := H; (try dsimp only at H); have A5 := A_ A50; clear A50; by_cases c6 : t137 = true
  ·subst c6; rw [if_pos rfl] at H; simp only [Option.some.injEq, Prod.mk.injEq] at H; obtain ⟨rfl, rfl⟩ := H; go_enter Try.func59, Try.ntmps59
   go_wp2_with (first | ((with_reducible refine gate_dst (N := 8) rfl ?_); refine Kd.R_lit (Kd.int .i64) _ 2 ?hg (N := 8) ?hd (xs := ([a0] : List Int)) (inner := [.int .i64 a0]) (ok := fun _ => True) (okp := fun _ => True) ?hr ?hp (fun _ hk => hk) trivial (Below.refl _ _) (Nat.le_refl _) (by simp) ?_; (case hd => rfl); (case hg => rfl); (case hr => first | (go_simp; done) | (go_simp; rfl)); (case hp => exact (Reps.one (show Kd.M (Kd.int .i64) _ _ _ a0 [.int .i64 a0] from rfl) (Reps.none _ _))); intro v134 w7 ho8 hb hg_ hnew_; clear hg_ hnew_; (first | rw [← Ny133.out] at ho8 | (simp only [Int.reduceToNat] at ho8; rw [← Ny133.out] at ho8)); have HO135 := A_ (Kd.R_lower ho8 (below_size (bl_ HB))); replace HB := A_ (below_step (bl_ HB) hb); clear hb ho8; obtain ⟨Ao9, co9, eo9⟩ := Kd.R_slice HO135.out; subst eo9) | ((with_reducible refine gate_callee (f := 118) rfl ?_); refine gm_ (some 9) Try.func118 #[.slice Ao9 y133.length co9] ?_; (with_reducible refine (money_Right.calls k _ _ y133 true _ ?side1 ?side2 A3.out).mono ?_); (case side1 => repeat (first | exact (Kd.R_reads' HO135.out).2.2 | (with_reducible refine Kd.C_alloc ?_ _) | (with_reducible refine Kd.C_drewN ?_ _) | (with_reducible refine Kd.C_drew ?_))); (case side2 => exact (Kd.R_reads' HO135.out).2.1); rintro e w' ⟨rfl, ⟨nd, rfl⟩⟩; refine ⟨_, rfl, ?_⟩) | ((with_reducible refine gate_callee (f := 102) rfl ?_); refine gm_ (some 13) Try.func102 #[.int .i64 a1] ?_; (with_reducible refine (frac_Rate.calls a1 true _ A5.out).mono ?_); rintro e w' ⟨rfl, ⟨nd, rfl⟩⟩; refine ⟨_, rfl, ?_⟩))
   go_ret2
   exact ⟨er_, bl_ HB⟩
  ·replace c6 := Bool.eq_false_iff.mpr c6; subst c6; rw [if_neg (show ¬ (false = true) by decide)] at H; simp only [Option.some.injEq, Prod.mk.injEq] at H; obtain ⟨rfl, rfl⟩ := H; go_enter Try.func59, Try.ntmps59
   go_wp2_with (first | ((with_reducible refine gate_dst (N := 8) rfl ?_); refine Kd.R_lit (Kd.int .i64) _ 2 ?hg (N := 8) ?hd (xs := ([a0] : List Int)) (inner := [.int .i64 a0]) (ok := fun _ => True) (okp := fun _ => True) ?hr ?hp (fun _ hk => hk) trivial (Below.refl _ _) (Nat.le_refl _) (by simp) ?_; (case hd => rfl); (case hg => rfl); (case hr => first | (go_simp; done) | (go_simp; rfl)); (case hp => exact (Reps.one (show Kd.M (Kd.int .i64) _ _ _ a0 [.int .i64 a0] from rfl) (Reps.none _ _))); intro v134 w10 ho11 hb hg_ hnew_; clear hg_ hnew_; (first | rw [← Ny133.out] at ho11 | (simp only [Int.reduceToNat] at ho11; rw [← Ny133.out] at ho11)); have HO135 := A_ (Kd.R_lower ho11 (below_size (bl_ HB))); replace HB := A_ (below_step (bl_ HB) hb); clear hb ho11; obtain ⟨Ao12, co12, eo12⟩ := Kd.R_slice HO135.out; subst eo12) | ((with_reducible refine gate_callee (f := 118) rfl ?_); refine gm_ (some 9) Try.func118 #[.slice Ao12 y133.length co12] ?_; (with_reducible refine (money_Right.calls k _ _ y133 true _ ?side1 ?side2 A3.out).mono ?_); (case side1 => repeat (first | exact (Kd.R_reads' HO135.out).2.2 | (with_reducible refine Kd.C_alloc ?_ _) | (with_reducible refine Kd.C_drewN ?_ _) | (with_reducible refine Kd.C_drew ?_))); (case side2 => exact (Kd.R_reads' HO135.out).2.1); rintro e w' ⟨rfl, ⟨nd, rfl⟩⟩; refine ⟨_, rfl, ?_⟩) | ((with_reducible refine gate_callee (f := 102) rfl ?_); refine gm_ (some 13) Try.func102 #[.int .i64 a1] ?_; (with_reducible refine (frac_Rate.calls a1 false _ A5.out).mono ?_); rintro e w' ⟨rfl, ⟨nd, rfl⟩⟩; refine ⟨_, rfl, ?_⟩))
   go_ret2
   exact ⟨er_, bl_ HB⟩
 ·replace c4 := Bool.eq_false_iff.mpr c4; subst c4; rw [if_neg (show ¬ (false = true) by decide)] at H; simp only [Option.some.injEq, Prod.mk.injEq] at H; obtain ⟨rfl, rfl⟩ := H; go_enter Try.func59, Try.ntmps59
  go_wp2_with (first | ((with_reducible refine gate_dst (N := 8) rfl ?_); refine Kd.R_lit (Kd.int .i64) _ 2 ?hg (N := 8) ?hd (xs := ([a0] : List Int)) (inner := [.int .i64 a0]) (ok := fun _ => True) (okp := fun _ => True) ?hr ?hp (fun _ hk => hk) trivial (Below.refl _ _) (Nat.le_refl _) (by simp) ?_; (case hd => rfl); (case hg => rfl); (case hr => first | (go_simp; done) | (go_simp; rfl)); (case hp => exact (Reps.one (show Kd.M (Kd.int .i64) _ _ _ a0 [.int .i64 a0] from rfl) (Reps.none _ _))); intro v134 w13 ho14 hb hg_ hnew_; clear hg_ hnew_; (first | rw [← Ny133.out] at ho14 | (simp only [Int.reduceToNat] at ho14; rw [← Ny133.out] at ho14)); have HO135 := A_ (Kd.R_lower ho14 (below_size (bl_ HB))); replace HB := A_ (below_step (bl_ HB) hb); clear hb ho14; obtain ⟨Ao15, co15, eo15⟩ := Kd.R_slice HO135.out; subst eo15) | ((with_reducible refine gate_callee (f := 118) rfl ?_); refine gm_ (some 9) Try.func118 #[.slice Ao15 y133.length co15] ?_; (with_reducible refine (money_Right.calls k _ _ y133 false _ ?side1 ?side2 A3.out).mono ?_); (case side1 => repeat (first | exact (Kd.R_reads' HO135.out).2.2 | (with_reducible refine Kd.C_alloc ?_ _) | (with_reducible refine Kd.C_drewN ?_ _) | (with_reducible refine Kd.C_drew ?_))); (case side2 => exact (Kd.R_reads' HO135.out).2.1); rintro e w' ⟨rfl, ⟨nd, rfl⟩⟩; refine ⟨_, rfl, ?_⟩))
  go_ret2
  exact ⟨er_, bl_ HB⟩
def frac_Scale.j0 : Nat → Int → Int → Int → Bool → Option (Int × Int)
 | 0, _, _, _, _ => none
 | k + 1, x0, x1, x2, x27 => if x27 = true then (some (0, 1)) else ((frac_floor.f (wrap64 (x0 * x1)) x2).bind fun bt145 => ((money_Right.f k (([bt145.1] : List Int))).bind fun t150 => (if t150 = true then (some (bt145.1, 0)) else (some (0, 10)))))
def frac_Scale.f (k : Nat) (a0 : Int) (a1 : Int) (a2 : Int) : Option (Int × Int) := (money_Right.f k (([a0] : List Int))).bind fun t144 => (if t144 = true then (if a1 < 0 then (frac_Scale.j0 k a0 a1 a2 true) else (if a2 ≤ 0 then (frac_Scale.j0 k a0 a1 a2 true) else (if a1 > 1048576 then (frac_Scale.j0 k a0 a1 a2 true) else (frac_Scale.j0 k a0 a1 a2 (decide (a2 > 1048576)))))) else (some (0, 10)))
set_option maxHeartbeats 8000000 in
set_option maxRecDepth 100000 in
theorem frac_Scale.calls (k : Nat) (a0 : Int) (a1 : Int) (a2 : Int) (r1 : Int) (r2 : Int) (w : World) (h : frac_Scale.f k a0 a1 a2 = some (r1, r2)) :
  Calls Try.prog 103 #[.int .i64 a0, .int .i64 a1, .int .i64 a2] w fun e w' => e = .returned (.tuple #[.int .i64 r1, .int .i64 r2]) ∧ Below w.heap.size w w' := by
 have HB := A_ (Below.refl w.heap.size w); unfold frac_Scale.f at h; have H := h; clear h; obtain ⟨y141, hy141⟩ : ∃ y_ : List Int, y_ = (([a0] : List Int)) := ⟨_, rfl⟩; replace H : ((money_Right.f k y141).bind fun t144 => (if t144 = true then (if a1 < 0 then (frac_Scale.j0 k a0 a1 a2 true) else (if a2 ≤ 0 then (frac_Scale.j0 k a0 a1 a2 true) else (if a1 > 1048576 then (frac_Scale.j0 k a0 a1 a2 true) else (frac_Scale.j0 k a0 a1 a2 (decide (a2 > 1048576)))))) else (some (0, 10)))) = some (r1, r2) := by first | (rw [hy141]; with_reducible exact H) | (have H2_ := (Option.bind_some _ _).symm.trans H; rw [hy141]; with_reducible exact H2_) | (have H2_ := (Option.bind_some _ _).symm.trans H; with_reducible exact H2_) | with_reducible exact H | (rw [hy141]; exact H) | exact H
 have Ny141 := A_ hy141; clear hy141; replace H := Option.bind_eq_some_iff.mp H; obtain ⟨t144, A40, H⟩ := H; (try dsimp only at H); have A4 := A_ A40; clear A40; by_cases c5 : t144 = true
 ·subst c5; rw [if_pos rfl] at H; have HC6 := A_ H; clear H; go_enter Try.func103, Try.ntmps103
  go_upto_region 3 with (first | ((with_reducible refine gate_dst (N := 11) rfl ?_); refine Kd.R_lit (Kd.int .i64) _ 2 ?hg (N := 11) ?hd (xs := ([a0] : List Int)) (inner := [.int .i64 a0]) (ok := fun _ => True) (okp := fun _ => True) ?hr ?hp (fun _ hk => hk) trivial (Below.refl _ _) (Nat.le_refl _) (by simp) ?_; (case hd => rfl); (case hg => rfl); (case hr => first | (go_simp; done) | (go_simp; rfl)); (case hp => exact (Reps.one (show Kd.M (Kd.int .i64) _ _ _ a0 [.int .i64 a0] from rfl) (Reps.none _ _))); intro v142 w7 ho8 hb hg_ hnew_; clear hg_ hnew_; (first | rw [← Ny141.out] at ho8 | (simp only [Int.reduceToNat] at ho8; rw [← Ny141.out] at ho8)); have HO143 := A_ (Kd.R_lower ho8 (below_size (bl_ HB))); replace HB := A_ (below_step (bl_ HB) hb); clear hb ho8; obtain ⟨Ao9, co9, eo9⟩ := Kd.R_slice HO143.out; subst eo9) | ((with_reducible refine gate_callee (f := 118) rfl ?_); refine gm_ (some 12) Try.func118 #[.slice Ao9 y141.length co9] ?_; (with_reducible refine (money_Right.calls k _ _ y141 true _ ?side1 ?side2 A4.out).mono ?_); (case side1 => repeat (first | exact (Kd.R_reads' HO143.out).2.2 | (with_reducible refine Kd.C_alloc ?_ _) | (with_reducible refine Kd.C_drewN ?_ _) | (with_reducible refine Kd.C_drew ?_))); (case side2 => exact (Kd.R_reads' HO143.out).2.1); rintro e w' ⟨rfl, ⟨nd, rfl⟩⟩; refine ⟨_, rfl, ?_⟩))
  (try simp only [Act.put, List.setIfInBounds_toArray, List.set_cons_zero, List.set_cons_succ])
  go_cut [27] (fun v27 wc => ∃ (kq : Nat) (x27_5 : Bool), v27 = .bool x27_5 ∧ Aside0 (frac_Scale.j0 kq a0 a1 a2 x27_5 = some (r1, r2)) ∧ Aside0 (kq ≤ k) ∧ Aside0 (Below w.heap.size w wc))
  case first =>
   have H := HC6.out; clear HC6; by_cases c10 : a1 < 0
   ·rw [if_pos c10] at H; have c10b0 := decide_eq_true c10; clear c10
    (first | rw [c10b0] | (simp only [i64_w, i32_w]; rw [c10b0]) | skip)
    have H' := A_ H; clear H
    go_wp2
    go_meet
    case rel => exact ⟨_, (true), (sx_), H', ⟨by first | omega | exact Nat.le_refl _⟩, ⟨bl_ HB⟩⟩
   ·rw [if_neg c10] at H; have c10b0 := decide_eq_false c10; clear c10
    (first | rw [c10b0] | (simp only [i64_w, i32_w]; rw [c10b0]) | skip)
    by_cases c11 : a2 ≤ 0
    ·rw [if_pos c11] at H; have c11b0 := decide_eq_true c11; clear c11; have H' := A_ H; clear H
     go_wp2
     go_meet
     case rel => exact ⟨_, (true), (sx_), H', ⟨by first | omega | exact Nat.le_refl _⟩, ⟨bl_ HB⟩⟩
    ·rw [if_neg c11] at H; have c11b0 := decide_eq_false c11; clear c11; by_cases c12 : a1 > 1048576
     ·rw [if_pos c12] at H; have c12b0 : decide (1048576 < a1) = true := decide_eq_true c12; clear c12; have H' := A_ H; clear H
      go_wp2
      go_meet
      case rel => exact ⟨_, (true), (sx_), H', ⟨by first | omega | exact Nat.le_refl _⟩, ⟨bl_ HB⟩⟩
     ·rw [if_neg c12] at H; have c12b0 : decide (1048576 < a1) = false := decide_eq_false c12; clear c12; have H' := A_ H; clear H
      go_wp2
      go_meet
      case rel => exact ⟨_, (decide (a2 > 1048576)), (sx_), H', ⟨by first | omega | exact Nat.le_refl _⟩, ⟨bl_ HB⟩⟩
  case rest =>
   clear HC6; try clear c1
   try clear p2
   try clear c5
   try clear c10
   try clear c10b0
   try clear c11
   try clear c11b0
   try clear c12
   try clear c12b0
   obtain ⟨kq, x27_5, rfl, HA, HJ5, HB⟩ := hcut
   cases kq with
   | zero => exact absurd HA.out (by simp [frac_Scale.j0])
   | succ kj5 =>
    have H := HA.out; clear HA; simp only [frac_Scale.j0] at H; by_cases c13 : x27_5 = true
    ·subst c13; rw [if_pos rfl] at H; simp only [Option.some.injEq, Prod.mk.injEq] at H; obtain ⟨rfl, rfl⟩ := H
     go_wp2
     go_ret2
     exact ⟨er_, bl_ HB⟩
    ·replace c13 := Bool.eq_false_iff.mpr c13; subst c13; rw [if_neg (show ¬ (false = true) by decide)] at H; replace H := Option.bind_eq_some_iff.mp H; obtain ⟨⟨t145, t146⟩, A140, H⟩ := H; (try dsimp only at H); have A14 := A_ A140; clear A140; obtain ⟨y147, hy147⟩ : ∃ y_ : List Int, y_ = (([t145] : List Int)) := ⟨_, rfl⟩; replace H : ((money_Right.f kj5 y147).bind fun t150 => (if t150 = true then (some (t145, 0)) else (some (0, 10)))) = some (r1, r2) := by first | (rw [hy147]; with_reducible exact H) | (have H2_ := (Option.bind_some _ _).symm.trans H; rw [hy147]; with_reducible exact H2_) | (have H2_ := (Option.bind_some _ _).symm.trans H; with_reducible exact H2_) | with_reducible exact H | (rw [hy147]; exact H) | exact H
     have Ny147 := A_ hy147; clear hy147; replace H := Option.bind_eq_some_iff.mp H; obtain ⟨t150, A150, H⟩ := H; (try dsimp only at H); have A15 := A_ A150; clear A150; by_cases c16 : t150 = true
     ·subst c16; rw [if_pos rfl] at H; simp only [Option.some.injEq, Prod.mk.injEq] at H; obtain ⟨rfl, rfl⟩ := H; go_wp2_with (first | ((with_reducible refine gate_callee (f := 139) rfl ?_); refine gm_ (some 33) Try.func139 #[.int .i64 (wrap64 (a0 * a1)), .int .i64 a2] ?_; (with_reducible refine (frac_floor.calls (wrap64 (a0 * a1)) a2 t145 t146 _ A14.out).mono ?_); rintro e w' ⟨rfl, ⟨nd, rfl⟩⟩; refine ⟨_, rfl, ?_⟩) | ((with_reducible refine gate_dst (N := 37) rfl ?_); refine Kd.R_lit (Kd.int .i64) _ 2 ?hg (N := 37) ?hd (xs := ([t145] : List Int)) (inner := [.int .i64 t145]) (ok := fun _ => True) (okp := fun _ => True) ?hr ?hp (fun _ hk => hk) trivial (Below.refl _ _) (Nat.le_refl _) (by simp) ?_; (case hd => rfl); (case hg => rfl); (case hr => first | (go_simp; done) | (go_simp; rfl)); (case hp => exact (Reps.one (show Kd.M (Kd.int .i64) _ _ _ t145 [.int .i64 t145] from rfl) (Reps.none _ _))); intro v148 w17 ho18 hb hg_ hnew_; clear hg_ hnew_; (first | rw [← Ny147.out] at ho18 | (simp only [Int.reduceToNat] at ho18; rw [← Ny147.out] at ho18)); have HO149 := A_ (Kd.R_lower ho18 (below_size (bl_ HB))); replace HB := A_ (below_step (bl_ HB) hb); clear hb ho18; obtain ⟨Ao19, co19, eo19⟩ := Kd.R_slice HO149.out; subst eo19) | ((with_reducible refine gate_callee (f := 118) rfl ?_); refine gm_ (some 38) Try.func118 #[.slice Ao19 y147.length co19] ?_; (with_reducible refine (money_Right.calls kj5 _ _ y147 true _ ?side1 ?side2 A15.out).mono ?_); (case side1 => repeat (first | exact (Kd.R_reads' HO149.out).2.2 | (with_reducible refine Kd.C_alloc ?_ _) | (with_reducible refine Kd.C_drewN ?_ _) | (with_reducible refine Kd.C_drew ?_))); (case side2 => exact (Kd.R_reads' HO149.out).2.1); rintro e w' ⟨rfl, ⟨nd, rfl⟩⟩; refine ⟨_, rfl, ?_⟩))
      go_ret2
      exact ⟨er_, bl_ HB⟩
     ·replace c16 := Bool.eq_false_iff.mpr c16; subst c16; rw [if_neg (show ¬ (false = true) by decide)] at H; simp only [Option.some.injEq, Prod.mk.injEq] at H; obtain ⟨rfl, rfl⟩ := H; go_wp2_with (first | ((with_reducible refine gate_callee (f := 139) rfl ?_); refine gm_ (some 33) Try.func139 #[.int .i64 (wrap64 (a0 * a1)), .int .i64 a2] ?_; (with_reducible refine (frac_floor.calls (wrap64 (a0 * a1)) a2 t145 t146 _ A14.out).mono ?_); rintro e w' ⟨rfl, ⟨nd, rfl⟩⟩; refine ⟨_, rfl, ?_⟩) | ((with_reducible refine gate_dst (N := 37) rfl ?_); refine Kd.R_lit (Kd.int .i64) _ 2 ?hg (N := 37) ?hd (xs := ([t145] : List Int)) (inner := [.int .i64 t145]) (ok := fun _ => True) (okp := fun _ => True) ?hr ?hp (fun _ hk => hk) trivial (Below.refl _ _) (Nat.le_refl _) (by simp) ?_; (case hd => rfl); (case hg => rfl); (case hr => first | (go_simp; done) | (go_simp; rfl)); (case hp => exact (Reps.one (show Kd.M (Kd.int .i64) _ _ _ t145 [.int .i64 t145] from rfl) (Reps.none _ _))); intro v148 w20 ho21 hb hg_ hnew_; clear hg_ hnew_; (first | rw [← Ny147.out] at ho21 | (simp only [Int.reduceToNat] at ho21; rw [← Ny147.out] at ho21)); have HO149 := A_ (Kd.R_lower ho21 (below_size (bl_ HB))); replace HB := A_ (below_step (bl_ HB) hb); clear hb ho21; obtain ⟨Ao22, co22, eo22⟩ := Kd.R_slice HO149.out; subst eo22) | ((with_reducible refine gate_callee (f := 118) rfl ?_); refine gm_ (some 38) Try.func118 #[.slice Ao22 y147.length co22] ?_; (with_reducible refine (money_Right.calls kj5 _ _ y147 false _ ?side1 ?side2 A15.out).mono ?_); (case side1 => repeat (first | exact (Kd.R_reads' HO149.out).2.2 | (with_reducible refine Kd.C_alloc ?_ _) | (with_reducible refine Kd.C_drewN ?_ _) | (with_reducible refine Kd.C_drew ?_))); (case side2 => exact (Kd.R_reads' HO149.out).2.1); rintro e w' ⟨rfl, ⟨nd, rfl⟩⟩; refine ⟨_, rfl, ?_⟩))
      go_ret2
      exact ⟨er_, bl_ HB⟩
 ·replace c5 := Bool.eq_false_iff.mpr c5; subst c5; rw [if_neg (show ¬ (false = true) by decide)] at H; simp only [Option.some.injEq, Prod.mk.injEq] at H; obtain ⟨rfl, rfl⟩ := H; go_enter Try.func103, Try.ntmps103
  go_wp2_with (first | ((with_reducible refine gate_dst (N := 11) rfl ?_); refine Kd.R_lit (Kd.int .i64) _ 2 ?hg (N := 11) ?hd (xs := ([a0] : List Int)) (inner := [.int .i64 a0]) (ok := fun _ => True) (okp := fun _ => True) ?hr ?hp (fun _ hk => hk) trivial (Below.refl _ _) (Nat.le_refl _) (by simp) ?_; (case hd => rfl); (case hg => rfl); (case hr => first | (go_simp; done) | (go_simp; rfl)); (case hp => exact (Reps.one (show Kd.M (Kd.int .i64) _ _ _ a0 [.int .i64 a0] from rfl) (Reps.none _ _))); intro v142 w23 ho24 hb hg_ hnew_; clear hg_ hnew_; (first | rw [← Ny141.out] at ho24 | (simp only [Int.reduceToNat] at ho24; rw [← Ny141.out] at ho24)); have HO143 := A_ (Kd.R_lower ho24 (below_size (bl_ HB))); replace HB := A_ (below_step (bl_ HB) hb); clear hb ho24; obtain ⟨Ao25, co25, eo25⟩ := Kd.R_slice HO143.out; subst eo25) | ((with_reducible refine gate_callee (f := 118) rfl ?_); refine gm_ (some 12) Try.func118 #[.slice Ao25 y141.length co25] ?_; (with_reducible refine (money_Right.calls k _ _ y141 false _ ?side1 ?side2 A4.out).mono ?_); (case side1 => repeat (first | exact (Kd.R_reads' HO143.out).2.2 | (with_reducible refine Kd.C_alloc ?_ _) | (with_reducible refine Kd.C_drewN ?_ _) | (with_reducible refine Kd.C_drew ?_))); (case side2 => exact (Kd.R_reads' HO143.out).2.1); rintro e w' ⟨rfl, ⟨nd, rfl⟩⟩; refine ⟨_, rfl, ?_⟩))
  go_ret2
  exact ⟨er_, bl_ HB⟩
def frac_Right.f (a0 : Int) : Option (Bool) := if a0 ≥ (-1000000000000000) then (some (decide (a0 ≤ 1000000000000000))) else (some false)
set_option maxHeartbeats 8000000 in
set_option maxRecDepth 100000 in
theorem frac_Right.calls (a0 : Int) (r : Bool) (w : World) (h : frac_Right.f a0 = some r) :
  Calls Try.prog 91 #[.int .i64 a0] w fun e w' => e = .returned (.bool r) ∧ Drawn0 w w' := by
 unfold frac_Right.f at h; have H := h; clear h; by_cases c2 : a0 ≥ (-1000000000000000)
 ·rw [if_pos c2] at H; have c2b0 : decide ((-1000000000000000) ≤ a0) = true := decide_eq_true c2; clear c2; obtain rfl := Option.some.inj H; go_enter Try.func91, Try.ntmps91
  go_wp2
  go_ret
  exact ⟨sx_, by repeat (first | exact Drawn0.refl _ | apply Drawn0.step)⟩
 ·rw [if_neg c2] at H; have c2b0 : decide ((-1000000000000000) ≤ a0) = false := decide_eq_false c2; clear c2; obtain rfl := Option.some.inj H; go_enter Try.func91, Try.ntmps91
  go_wp2
  go_ret
  exact ⟨sx_, by repeat (first | exact Drawn0.refl _ | apply Drawn0.step)⟩
def frac_Coins.f (k : Nat) (a0 : Int) (a1 : Int) : Option (Int × Int) := (frac_Right.f a0).bind fun t397 => (if t397 = true then ((frac_Round.f k a0 10000 a1).bind fun bt398 => (some (bt398.1, bt398.2))) else (some (0, 10)))
set_option maxHeartbeats 8000000 in
set_option maxRecDepth 100000 in
theorem frac_Coins.calls (k : Nat) (a0 : Int) (a1 : Int) (r1 : Int) (r2 : Int) (w : World) (h : frac_Coins.f k a0 a1 = some (r1, r2)) :
  Calls Try.prog 67 #[.int .i64 a0, .int .i64 a1] w fun e w' => e = .returned (.tuple #[.int .i64 r1, .int .i64 r2]) ∧ Drawn0 w w' := by
 unfold frac_Coins.f at h; have H := h; clear h; replace H := Option.bind_eq_some_iff.mp H; obtain ⟨t397, A30, H⟩ := H; (try dsimp only at H); have A3 := A_ A30; clear A30; by_cases c4 : t397 = true
 ·subst c4; rw [if_pos rfl] at H; replace H := Option.bind_eq_some_iff.mp H; obtain ⟨⟨t398, t399⟩, A50, H⟩ := H; replace H : (some (t398, t399)) = some (r1, r2) := H; have A5 := A_ A50; clear A50; simp only [Option.some.injEq, Prod.mk.injEq] at H; obtain ⟨rfl, rfl⟩ := H; go_enter Try.func67, Try.ntmps67
  go_wp2_with (first | ((with_reducible refine gate_callee (f := 91) rfl ?_); refine gm_ (some 7) Try.func91 #[.int .i64 a0] ?_; (with_reducible refine (frac_Right.calls a0 true _ A3.out).mono ?_); rintro e w' ⟨rfl, ⟨nd, rfl⟩⟩; refine ⟨_, rfl, ?_⟩) | ((with_reducible refine gate_callee (f := 121) rfl ?_); refine gm_ (some 11) Try.func121 #[.int .i64 a0, .int .i64 10000, .int .i64 a1] ?_; (with_reducible refine (frac_Round.calls k a0 10000 a1 t398 t399 _ A5.out).mono ?_); rintro e w' ⟨rfl, ⟨nd, rfl⟩⟩; refine ⟨_, rfl, ?_⟩))
  go_ret2
  exact ⟨sx_, by repeat (first | exact Drawn0.refl _ | apply Drawn0.step)⟩
 ·replace c4 := Bool.eq_false_iff.mpr c4; subst c4; rw [if_neg (show ¬ (false = true) by decide)] at H; simp only [Option.some.injEq, Prod.mk.injEq] at H; obtain ⟨rfl, rfl⟩ := H; go_enter Try.func67, Try.ntmps67
  go_wp2_with (first | ((with_reducible refine gate_callee (f := 91) rfl ?_); refine gm_ (some 7) Try.func91 #[.int .i64 a0] ?_; (with_reducible refine (frac_Right.calls a0 false _ A3.out).mono ?_); rintro e w' ⟨rfl, ⟨nd, rfl⟩⟩; refine ⟨_, rfl, ?_⟩))
  go_ret2
  exact ⟨sx_, by repeat (first | exact Drawn0.refl _ | apply Drawn0.step)⟩
end Go.Proofs.Ytcapgmoipacioaa.P
