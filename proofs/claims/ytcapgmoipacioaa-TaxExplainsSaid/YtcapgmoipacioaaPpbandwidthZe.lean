import Derived.Test.YtcapgmoipacioaaPtZe
import Derived.Test.YtcapgmoipacioaaY1Ze
namespace Go.Proofs.Ytcapgmoipacioaa.P
open Go.RowKit Go.Proofs.YtcapgmoipacioaaW.PrintWords Go.Proofs.YtcapgmoipacioaaW.PrintLast Go.Proofs.YtcapgmoipacioaaW.PrintMore
set_option linter.unusedVariables false
set_option linter.unusedSimpArgs false
def band_width.f (a0 : Int) (a1 : Int) (l2 : List (S106)) : Option (Int) := if (wrap64 (a1 + 1)) < (l2.length : Int) then (if 0 ≤ (wrap64 (a1 + 1)) then (if 0 ≤ a1 then (if a1 < (l2.length : Int) then (some (mx 0 (wrap64 ((mn a0 ((rd_T106 l2 (wrap64 (a1 + 1))).f0)) - ((rd_T106 l2 a1).f0))))) else (none)) else (none)) else (none)) else (if 0 ≤ a1 then (if a1 < (l2.length : Int) then (some (mx 0 (wrap64 (a0 - ((rd_T106 l2 a1).f0))))) else (none)) else (none))
set_option maxHeartbeats 8000000 in
set_option maxRecDepth 100000 in
theorem band_width.calls (a0 : Int) (a1 : Int) (A2 : Option Addr) (c2 : Nat) (l2 : List (S106)) (r : Int) (w : World) (hr2 : Kd.C k106 w A2 l2.length l2) (hc2 : l2.length ≤ c2) (h : band_width.f a0 a1 l2 = some r) :
  Calls Try.prog 138 #[.int .i64 a0, .int .i64 a1, .slice A2 l2.length c2] w fun e w' => e = .returned (.int .i64 r) ∧ Below w.heap.size w w' := by
 have HR2 := A_ hr2; have HC2 := A_ hc2; clear hr2 hc2; have HB := A_ (Below.refl w.heap.size w); unfold band_width.f at h; have H := h; clear h; by_cases c4 : (wrap64 (a1 + 1)) < (l2.length : Int)
 ·rw [if_pos c4] at H; have c4b0 := decide_eq_true c4; clear c4; obtain ⟨ji5, hji5⟩ : ∃ j_ : Int, (wrap64 (a1 + 1)) = j_ := ⟨_, rfl⟩; replace H : (if 0 ≤ (ji5) then (if 0 ≤ a1 then (if a1 < (l2.length : Int) then (some (mx 0 (wrap64 ((mn a0 ((rd_T106 l2 (ji5)).f0)) - ((rd_T106 l2 a1).f0))))) else (none)) else (none)) else (none)) = some r := by first | (rw [hji5] at H; exact H) | (simp only [hji5] at H ⊢; exact H)
  (try rw [hji5] at c4b0)
  have hji5w : (IntKind.i64.wrap (a1 + 1)) = ji5 := (i64_w _).trans hji5; by_cases c6 : 0 ≤ (ji5)
  ·rw [if_pos c6] at H; have c6b0 := decide_eq_true c6; clear c6; obtain ⟨ji7, hji7⟩ : ∃ j_ : Int, (mn a0 ((rd_T106 l2 (ji5)).f0)) = j_ := ⟨_, rfl⟩; replace H : (if 0 ≤ a1 then (if a1 < (l2.length : Int) then (some (mx 0 (wrap64 ((ji7) - ((rd_T106 l2 a1).f0))))) else (none)) else (none)) = some r := by first | (rw [hji7] at H; exact H) | (simp only [hji7] at H ⊢; exact H)
   have hji7_ : (if ((rd_T106 l2 (ji5)).f0) < a0 then ((rd_T106 l2 (ji5)).f0) else a0) = ji7 := hji7; by_cases c8 : 0 ≤ a1
   ·rw [if_pos c8] at H; have c8b0 := decide_eq_true c8; clear c8; by_cases c9 : a1 < (l2.length : Int)
    ·rw [if_pos c9] at H; have c9b0 := decide_eq_true c9; clear c9; obtain ⟨ji10, hji10⟩ : ∃ j_ : Int, (mx 0 (wrap64 ((ji7) - ((rd_T106 l2 a1).f0)))) = j_ := ⟨_, rfl⟩; replace H : (some ji10) = some r := by first | (rw [hji10] at H; exact H) | (simp only [hji10] at H ⊢; exact H)
     have hji10_ : (if 0 < (wrap64 ((ji7) - ((rd_T106 l2 a1).f0))) then (wrap64 ((ji7) - ((rd_T106 l2 a1).f0))) else 0) = ji10 := hji10; obtain rfl := Option.some.inj H; have p138 : 0 ≤ ((ji5) : Int) := od_; have q138 : (ji5) < (l2.length : Int) := od_; obtain ⟨ad138, e138, hx138_0, hx138_1, hx138_2⟩ := at_T106 HR2.out (ji5) p138 q138; cases e138; replace p138 := eq_true p138; replace q138 := eq_true q138; have p139 : 0 ≤ (a1 : Int) := od_; have q139 : a1 < (l2.length : Int) := od_; obtain ⟨ad139, e139, hx139_0, hx139_1, hx139_2⟩ := at_T106 HR2.out a1 p139 q139; obtain rfl : ad138 = ad139 := (by injection e139); replace p139 := eq_true p139; replace q139 := eq_true q139; go_enter Try.func138, Try.ntmps138
     go_wp2
     go_ret
     exact ⟨by first | rfl | (simp [errW_none, errW_some] <;> rfl) | (simp only [← hji5, ← hji7, ← hji10]; first | rfl | (simp [errW_none, errW_some] <;> rfl)) | (simp [*, errW_none, errW_some] <;> rfl), bl_ HB⟩
    ·rw [if_neg c9] at H; exact absurd H (by simp)
   ·rw [if_neg c8] at H; exact absurd H (by simp)
  ·rw [if_neg c6] at H; exact absurd H (by simp)
 ·rw [if_neg c4] at H; have c4b0 := decide_eq_false c4; clear c4; by_cases c11 : 0 ≤ a1
  ·rw [if_pos c11] at H; have c11b0 := decide_eq_true c11; clear c11; by_cases c12 : a1 < (l2.length : Int)
   ·rw [if_pos c12] at H; have c12b0 := decide_eq_true c12; clear c12; obtain ⟨ji13, hji13⟩ : ∃ j_ : Int, (mx 0 (wrap64 (a0 - ((rd_T106 l2 a1).f0)))) = j_ := ⟨_, rfl⟩; replace H : (some ji13) = some r := by first | (rw [hji13] at H; exact H) | (simp only [hji13] at H ⊢; exact H)
    (try (have hji13l : 0 ≤ ji13 := by (rw [← hji13]; unfold mx; (repeat' split) <;> omega)))
    (try (have hji13m : 0 ≤ ji13 := by omega))
    have hji13_ : (if 0 < (wrap64 (a0 - ((rd_T106 l2 a1).f0))) then (wrap64 (a0 - ((rd_T106 l2 a1).f0))) else 0) = ji13 := hji13; obtain rfl := Option.some.inj H; have p140 : 0 ≤ (a1 : Int) := od_; have q140 : a1 < (l2.length : Int) := od_; obtain ⟨ad140, e140, hx140_0, hx140_1, hx140_2⟩ := at_T106 HR2.out a1 p140 q140; cases e140; replace p140 := eq_true p140; replace q140 := eq_true q140; go_enter Try.func138, Try.ntmps138
    go_wp2
    go_ret
    exact ⟨by first | rfl | (simp [errW_none, errW_some] <;> rfl) | (simp only [← hji13]; first | rfl | (simp [errW_none, errW_some] <;> rfl)) | (simp [*, errW_none, errW_some] <;> rfl), bl_ HB⟩
   ·rw [if_neg c12] at H; exact absurd H (by simp)
  ·rw [if_neg c11] at H; exact absurd H (by simp)
end Go.Proofs.Ytcapgmoipacioaa.P
