import Derived.Test.YtcapgmoipacioaaPt
import Derived.Test.YtcapgmoipacioaaHcheck
import Derived.Test.YtcapgmoipacioaaPe
import Derived.Test.YtcapgmoipacioaaPpband
import Derived.Test.YtcapgmoipacioaaPpstipendlaw05
import Derived.Test.YtcapgmoipacioaaPpstipendref05
namespace Go.Proofs.Ytcapgmoipacioaa.P
open Go.RowKit Go.Proofs.YtcapgmoipacioaaW.PrintWords Go.Proofs.YtcapgmoipacioaaW.PrintLast Go.Proofs.YtcapgmoipacioaaW.PrintMore
attribute [local go_sem] max2_int min2_int max_two min_two max_three min_three max_four min_four
set_option linter.unusedVariables false
set_option linter.unusedSimpArgs false

section
attribute [local go_sem high] eqA106
/-! ### stipendlaw05_BandScales: function 11 -/
mutual
def stipendlaw05_BandScales.j0 : Nat → List (S106) → Int → Int → List (S106) → Int → Bool → Option (Bool)
  | 0, _, _, _, _, _, _ => none
  | k + 1, x0, x1, x2, x7, x8, x39 => if x39 = true then (if x8 = 1 then (some ((x7.length : Int) == 0)) else (none)) else (if x8 = 0 then ((band_Check.f x7).bind fun t636 => (if t636 = 0 then (stipendlaw05_BandScales.j1 k x0 x1 x2 x7 (decide ((x7.length : Int) > (x0.length : Int)))) else (stipendlaw05_BandScales.j1 k x0 x1 x2 x7 true))) else (stipendlaw05_BandScales.j1 k x0 x1 x2 x7 true))
def stipendlaw05_BandScales.j1 : Nat → List (S106) → Int → Int → List (S106) → Bool → Option (Bool)
  | 0, _, _, _, _, _ => none
  | k + 1, x0, x1, x2, x7, x60 => if x60 = true then (none) else (stipendlaw05_BandScales.l0 k x0 x1 x2 x7 0 x0 (x0.length : Int) 0)
def stipendlaw05_BandScales.l0 : Nat → List (S106) → Int → Int → List (S106) → Int → List (S106) → Int → Int → Option (Bool)
  | 0, _, _, _, _, _, _, _, _ => none
  | k + 1, x0, x1, x2, x7, x9, x61, x62, x63 => if x63 < x62 then (if 0 ≤ x63 then (if x63 < (x61.length : Int) then ((stipendref05_Part.f ((rd_T106 x61 x63).f0) x1 x2).bind fun t639 => (if (wrap64 (x63 + 1)) < (x0.length : Int) then (if 0 ≤ (wrap64 (x63 + 1)) then ((stipendref05_Part.f ((rd_T106 x0 (wrap64 (x63 + 1))).f0) x1 x2).bind fun t641 => (stipendlaw05_BandScales.j3 k x0 x1 x2 x7 x9 t639 x61 x62 x63 (t641 == t639) ((rd_T106 x61 x63).f0) ((rd_T106 x61 x63).f1) ((rd_T106 x61 x63).f2))) else (none)) else (stipendlaw05_BandScales.j3 k x0 x1 x2 x7 x9 t639 x61 x62 x63 false ((rd_T106 x61 x63).f0) ((rd_T106 x61 x63).f1) ((rd_T106 x61 x63).f2)))) else (none)) else (none)) else (some (x9 == (x7.length : Int)))
def stipendlaw05_BandScales.j3 : Nat → List (S106) → Int → Int → List (S106) → Int → Int → List (S106) → Int → Int → Bool → Int → Int → Int → Option (Bool)
  | 0, _, _, _, _, _, _, _, _, _, _, _, _, _ => none
  | k + 1, x0, x1, x2, x7, x9, x12, x61, x62, x63, x90, x639000, x639001, x639002 => if x90 = true then (stipendlaw05_BandScales.l0 k x0 x1 x2 x7 x9 x61 x62 (wrap64 (x63 + 1))) else (if x9 ≥ (x7.length : Int) then (stipendlaw05_BandScales.j4 k x0 x1 x2 x7 x9 x61 x62 x63 true) else (if 0 ≤ x9 then (if x9 < (x7.length : Int) then (stipendlaw05_BandScales.j4 k x0 x1 x2 x7 x9 x61 x62 x63 (!(((rd_T106 x7 x9).f0) == x12) || (!(((rd_T106 x7 x9).f1) == x639001) || (!(((rd_T106 x7 x9).f2) == x639002))))) else (none)) else (none)))
def stipendlaw05_BandScales.j4 : Nat → List (S106) → Int → Int → List (S106) → Int → List (S106) → Int → Int → Bool → Option (Bool)
  | 0, _, _, _, _, _, _, _, _, _ => none
  | k + 1, x0, x1, x2, x7, x9, x61, x62, x63, x107 => if x107 = true then (none) else (stipendlaw05_BandScales.l0 k x0 x1 x2 x7 (wrap64 (x9 + 1)) x61 x62 (wrap64 (x63 + 1)))
end
def stipendlaw05_BandScales.f (k : Nat) (l0 : List (S106)) (a1 : Int) (a2 : Int) : Option (Bool) := (stipendlaw05_sums.f k).bind fun t630 => (if t630 = true then ((stipendref05_Check.f k l0).bind fun t631 => (if t631 = 0 then ((band_Scale.f k a1 a2 l0).bind fun bt632 => (if a1 < 0 then (stipendlaw05_BandScales.j0 k l0 a1 a2 bt632.1 bt632.2 true) else (if a2 < 1 then (stipendlaw05_BandScales.j0 k l0 a1 a2 bt632.1 bt632.2 true) else (if a1 > a2 then (stipendlaw05_BandScales.j0 k l0 a1 a2 bt632.1 bt632.2 true) else (stipendlaw05_BandScales.j0 k l0 a1 a2 bt632.1 bt632.2 (decide (a2 > 1048576))))))) else (some true))) else (none))
theorem stipendlaw05_BandScales.mono_l : ∀ k, (∀ y0 y1 y2 y3 y4 y5, LeO (stipendlaw05_BandScales.j0 k y0 y1 y2 y3 y4 y5) (stipendlaw05_BandScales.j0 (k + 1) y0 y1 y2 y3 y4 y5)) ∧ (∀ y0 y1 y2 y3 y4, LeO (stipendlaw05_BandScales.j1 k y0 y1 y2 y3 y4) (stipendlaw05_BandScales.j1 (k + 1) y0 y1 y2 y3 y4)) ∧ (∀ y0 y1 y2 y3 y4 y5 y6 y7, LeO (stipendlaw05_BandScales.l0 k y0 y1 y2 y3 y4 y5 y6 y7) (stipendlaw05_BandScales.l0 (k + 1) y0 y1 y2 y3 y4 y5 y6 y7)) ∧ (∀ y0 y1 y2 y3 y4 y5 y6 y7 y8 y9 y10 y11 y12, LeO (stipendlaw05_BandScales.j3 k y0 y1 y2 y3 y4 y5 y6 y7 y8 y9 y10 y11 y12) (stipendlaw05_BandScales.j3 (k + 1) y0 y1 y2 y3 y4 y5 y6 y7 y8 y9 y10 y11 y12)) ∧ (∀ y0 y1 y2 y3 y4 y5 y6 y7 y8, LeO (stipendlaw05_BandScales.j4 k y0 y1 y2 y3 y4 y5 y6 y7 y8) (stipendlaw05_BandScales.j4 (k + 1) y0 y1 y2 y3 y4 y5 y6 y7 y8))
  | 0 => ⟨fun _ _ _ _ _ _ r h => by simp [stipendlaw05_BandScales.j0] at h, fun _ _ _ _ _ r h => by simp [stipendlaw05_BandScales.j1] at h, fun _ _ _ _ _ _ _ _ r h => by simp [stipendlaw05_BandScales.l0] at h, fun _ _ _ _ _ _ _ _ _ _ _ _ _ r h => by simp [stipendlaw05_BandScales.j3] at h, fun _ _ _ _ _ _ _ _ _ r h => by simp [stipendlaw05_BandScales.j4] at h⟩
  | k + 1 => by
    obtain ⟨ih0, ih1, ih2, ih3, ih4⟩ := stipendlaw05_BandScales.mono_l k
    refine ⟨?_, ?_, ?_, ?_, ?_⟩
    · intro y0 y1 y2 y3 y4 y5
      unfold stipendlaw05_BandScales.j0
      repeat' first
      | (with_reducible exact ih0 _ _ _ _ _ _)
      | (with_reducible exact ih1 _ _ _ _ _)
      | (with_reducible exact ih2 _ _ _ _ _ _ _ _)
      | (with_reducible exact ih3 _ _ _ _ _ _ _ _ _ _ _ _ _)
      | (with_reducible exact ih4 _ _ _ _ _ _ _ _ _)
      | (with_reducible exact band_Scale.mono _ _ _ _)
      | (with_reducible exact stipendlaw05_sums.mono _)
      | (with_reducible exact stipendref05_Check.mono _ _)
      | (with_reducible exact LeO.refl _)
      | (with_reducible exact LeO.none _)
      | (with_reducible refine LeO.ite ?_ ?_)
      | (with_reducible refine LeO.bind ?_ (fun _ => ?_))
      | exact ih0 _ _ _ _ _ _
      | exact ih1 _ _ _ _ _
      | exact ih2 _ _ _ _ _ _ _ _
      | exact ih3 _ _ _ _ _ _ _ _ _ _ _ _ _
      | exact ih4 _ _ _ _ _ _ _ _ _
      | exact band_Scale.mono _ _ _ _
      | exact stipendlaw05_sums.mono _
      | exact stipendref05_Check.mono _ _
      | exact LeO.none _
      | refine LeO.ite ?_ ?_
      | refine LeO.bind ?_ (fun _ => ?_)
    · intro y0 y1 y2 y3 y4
      unfold stipendlaw05_BandScales.j1
      repeat' first
      | (with_reducible exact ih0 _ _ _ _ _ _)
      | (with_reducible exact ih1 _ _ _ _ _)
      | (with_reducible exact ih2 _ _ _ _ _ _ _ _)
      | (with_reducible exact ih3 _ _ _ _ _ _ _ _ _ _ _ _ _)
      | (with_reducible exact ih4 _ _ _ _ _ _ _ _ _)
      | (with_reducible exact band_Scale.mono _ _ _ _)
      | (with_reducible exact stipendlaw05_sums.mono _)
      | (with_reducible exact stipendref05_Check.mono _ _)
      | (with_reducible exact LeO.refl _)
      | (with_reducible exact LeO.none _)
      | (with_reducible refine LeO.ite ?_ ?_)
      | (with_reducible refine LeO.bind ?_ (fun _ => ?_))
      | exact ih0 _ _ _ _ _ _
      | exact ih1 _ _ _ _ _
      | exact ih2 _ _ _ _ _ _ _ _
      | exact ih3 _ _ _ _ _ _ _ _ _ _ _ _ _
      | exact ih4 _ _ _ _ _ _ _ _ _
      | exact band_Scale.mono _ _ _ _
      | exact stipendlaw05_sums.mono _
      | exact stipendref05_Check.mono _ _
      | exact LeO.none _
      | refine LeO.ite ?_ ?_
      | refine LeO.bind ?_ (fun _ => ?_)
    · intro y0 y1 y2 y3 y4 y5 y6 y7
      unfold stipendlaw05_BandScales.l0
      repeat' first
      | (with_reducible exact ih0 _ _ _ _ _ _)
      | (with_reducible exact ih1 _ _ _ _ _)
      | (with_reducible exact ih2 _ _ _ _ _ _ _ _)
      | (with_reducible exact ih3 _ _ _ _ _ _ _ _ _ _ _ _ _)
      | (with_reducible exact ih4 _ _ _ _ _ _ _ _ _)
      | (with_reducible exact band_Scale.mono _ _ _ _)
      | (with_reducible exact stipendlaw05_sums.mono _)
      | (with_reducible exact stipendref05_Check.mono _ _)
      | (with_reducible exact LeO.refl _)
      | (with_reducible exact LeO.none _)
      | (with_reducible refine LeO.ite ?_ ?_)
      | (with_reducible refine LeO.bind ?_ (fun _ => ?_))
      | exact ih0 _ _ _ _ _ _
      | exact ih1 _ _ _ _ _
      | exact ih2 _ _ _ _ _ _ _ _
      | exact ih3 _ _ _ _ _ _ _ _ _ _ _ _ _
      | exact ih4 _ _ _ _ _ _ _ _ _
      | exact band_Scale.mono _ _ _ _
      | exact stipendlaw05_sums.mono _
      | exact stipendref05_Check.mono _ _
      | exact LeO.none _
      | refine LeO.ite ?_ ?_
      | refine LeO.bind ?_ (fun _ => ?_)
    · intro y0 y1 y2 y3 y4 y5 y6 y7 y8 y9 y10 y11 y12
      unfold stipendlaw05_BandScales.j3
      repeat' first
      | (with_reducible exact ih0 _ _ _ _ _ _)
      | (with_reducible exact ih1 _ _ _ _ _)
      | (with_reducible exact ih2 _ _ _ _ _ _ _ _)
      | (with_reducible exact ih3 _ _ _ _ _ _ _ _ _ _ _ _ _)
      | (with_reducible exact ih4 _ _ _ _ _ _ _ _ _)
      | (with_reducible exact band_Scale.mono _ _ _ _)
      | (with_reducible exact stipendlaw05_sums.mono _)
      | (with_reducible exact stipendref05_Check.mono _ _)
      | (with_reducible exact LeO.refl _)
      | (with_reducible exact LeO.none _)
      | (with_reducible refine LeO.ite ?_ ?_)
      | (with_reducible refine LeO.bind ?_ (fun _ => ?_))
      | exact ih0 _ _ _ _ _ _
      | exact ih1 _ _ _ _ _
      | exact ih2 _ _ _ _ _ _ _ _
      | exact ih3 _ _ _ _ _ _ _ _ _ _ _ _ _
      | exact ih4 _ _ _ _ _ _ _ _ _
      | exact band_Scale.mono _ _ _ _
      | exact stipendlaw05_sums.mono _
      | exact stipendref05_Check.mono _ _
      | exact LeO.none _
      | refine LeO.ite ?_ ?_
      | refine LeO.bind ?_ (fun _ => ?_)
    · intro y0 y1 y2 y3 y4 y5 y6 y7 y8
      unfold stipendlaw05_BandScales.j4
      repeat' first
      | (with_reducible exact ih0 _ _ _ _ _ _)
      | (with_reducible exact ih1 _ _ _ _ _)
      | (with_reducible exact ih2 _ _ _ _ _ _ _ _)
      | (with_reducible exact ih3 _ _ _ _ _ _ _ _ _ _ _ _ _)
      | (with_reducible exact ih4 _ _ _ _ _ _ _ _ _)
      | (with_reducible exact band_Scale.mono _ _ _ _)
      | (with_reducible exact stipendlaw05_sums.mono _)
      | (with_reducible exact stipendref05_Check.mono _ _)
      | (with_reducible exact LeO.refl _)
      | (with_reducible exact LeO.none _)
      | (with_reducible refine LeO.ite ?_ ?_)
      | (with_reducible refine LeO.bind ?_ (fun _ => ?_))
      | exact ih0 _ _ _ _ _ _
      | exact ih1 _ _ _ _ _
      | exact ih2 _ _ _ _ _ _ _ _
      | exact ih3 _ _ _ _ _ _ _ _ _ _ _ _ _
      | exact ih4 _ _ _ _ _ _ _ _ _
      | exact band_Scale.mono _ _ _ _
      | exact stipendlaw05_sums.mono _
      | exact stipendref05_Check.mono _ _
      | exact LeO.none _
      | refine LeO.ite ?_ ?_
      | refine LeO.bind ?_ (fun _ => ?_)
theorem stipendlaw05_BandScales.mono : ∀ a0 a1 a2 k, LeO (stipendlaw05_BandScales.f k a0 a1 a2) (stipendlaw05_BandScales.f (k + 1) a0 a1 a2) := by
  intro a0 a1 a2 k
  obtain ⟨ih0, ih1, ih2, ih3, ih4⟩ := stipendlaw05_BandScales.mono_l k
  unfold stipendlaw05_BandScales.f
  repeat' first
      | (with_reducible exact ih0 _ _ _ _ _ _)
      | (with_reducible exact ih1 _ _ _ _ _)
      | (with_reducible exact ih2 _ _ _ _ _ _ _ _)
      | (with_reducible exact ih3 _ _ _ _ _ _ _ _ _ _ _ _ _)
      | (with_reducible exact ih4 _ _ _ _ _ _ _ _ _)
      | (with_reducible exact band_Scale.mono _ _ _ _)
      | (with_reducible exact stipendlaw05_sums.mono _)
      | (with_reducible exact stipendref05_Check.mono _ _)
      | (with_reducible exact LeO.refl _)
      | (with_reducible exact LeO.none _)
      | (with_reducible refine LeO.ite ?_ ?_)
      | (with_reducible refine LeO.bind ?_ (fun _ => ?_))
      | exact ih0 _ _ _ _ _ _
      | exact ih1 _ _ _ _ _
      | exact ih2 _ _ _ _ _ _ _ _
      | exact ih3 _ _ _ _ _ _ _ _ _ _ _ _ _
      | exact ih4 _ _ _ _ _ _ _ _ _
      | exact band_Scale.mono _ _ _ _
      | exact stipendlaw05_sums.mono _
      | exact stipendref05_Check.mono _ _
      | exact LeO.none _
      | refine LeO.ite ?_ ?_
      | refine LeO.bind ?_ (fun _ => ?_)
set_option maxHeartbeats 8000000 in
set_option maxRecDepth 100000 in
theorem stipendlaw05_BandScales.calls (k : Nat) (A0 : Option Addr) (c0 : Nat) (l0 : List (S106)) (a1 : Int) (a2 : Int) (r : Bool) (w : World) (hr0 : Kd.C k106 w A0 l0.length l0) (hc0 : l0.length ≤ c0) (h : stipendlaw05_BandScales.f k l0 a1 a2 = some r) :
    Calls Try.prog 11 #[.slice A0 l0.length c0, .int .i64 a1, .int .i64 a2] w fun e w' => e = .returned (.bool r) ∧ Below w.heap.size w w' := by
  have hu106 := Try.underlying106
  have HR0 := Aside0.mk hr0
  have HC0 := Aside0.mk hc0
  clear hr0 hc0
  have HB := Aside0.mk (Below.refl w.heap.size w)
  have H : ((stipendlaw05_sums.f k).bind fun t630 => (if t630 = true then ((stipendref05_Check.f k l0).bind fun t631 => (if t631 = 0 then ((band_Scale.f k a1 a2 l0).bind fun bt632 => (if a1 < 0 then (stipendlaw05_BandScales.j0 k l0 a1 a2 bt632.1 bt632.2 true) else (if a2 < 1 then (stipendlaw05_BandScales.j0 k l0 a1 a2 bt632.1 bt632.2 true) else (if a1 > a2 then (stipendlaw05_BandScales.j0 k l0 a1 a2 bt632.1 bt632.2 true) else (stipendlaw05_BandScales.j0 k l0 a1 a2 bt632.1 bt632.2 (decide (a2 > 1048576))))))) else (some true))) else (none))) = some r := h
  clear h
  replace H := Option.bind_eq_some_iff.mp H
  obtain ⟨t630, A40, H⟩ := H
  replace H : (if t630 = true then ((stipendref05_Check.f k l0).bind fun t631 => (if t631 = 0 then ((band_Scale.f k a1 a2 l0).bind fun bt632 => (if a1 < 0 then (stipendlaw05_BandScales.j0 k l0 a1 a2 bt632.1 bt632.2 true) else (if a2 < 1 then (stipendlaw05_BandScales.j0 k l0 a1 a2 bt632.1 bt632.2 true) else (if a1 > a2 then (stipendlaw05_BandScales.j0 k l0 a1 a2 bt632.1 bt632.2 true) else (stipendlaw05_BandScales.j0 k l0 a1 a2 bt632.1 bt632.2 (decide (a2 > 1048576))))))) else (some true))) else (none)) = some r := H
  have A4 := Aside0.mk A40
  clear A40
  by_cases c5 : t630 = true
  · subst c5
    have H1 : ((stipendref05_Check.f k l0).bind fun t631 => (if t631 = 0 then ((band_Scale.f k a1 a2 l0).bind fun bt632 => (if a1 < 0 then (stipendlaw05_BandScales.j0 k l0 a1 a2 bt632.1 bt632.2 true) else (if a2 < 1 then (stipendlaw05_BandScales.j0 k l0 a1 a2 bt632.1 bt632.2 true) else (if a1 > a2 then (stipendlaw05_BandScales.j0 k l0 a1 a2 bt632.1 bt632.2 true) else (stipendlaw05_BandScales.j0 k l0 a1 a2 bt632.1 bt632.2 (decide (a2 > 1048576))))))) else (some true))) = some r := by rw [if_pos rfl] at H; exact H
    clear H
    have H := H1
    clear H1
    replace H := Option.bind_eq_some_iff.mp H
    obtain ⟨t631, A60, H⟩ := H
    replace H : (if t631 = 0 then ((band_Scale.f k a1 a2 l0).bind fun bt632 => (if a1 < 0 then (stipendlaw05_BandScales.j0 k l0 a1 a2 bt632.1 bt632.2 true) else (if a2 < 1 then (stipendlaw05_BandScales.j0 k l0 a1 a2 bt632.1 bt632.2 true) else (if a1 > a2 then (stipendlaw05_BandScales.j0 k l0 a1 a2 bt632.1 bt632.2 true) else (stipendlaw05_BandScales.j0 k l0 a1 a2 bt632.1 bt632.2 (decide (a2 > 1048576))))))) else (some true)) = some r := H
    have A6 := Aside0.mk A60
    clear A60
    by_cases c7 : t631 = 0
    · rw [if_pos c7] at H
      have c7b0 : (t631 == 0) = true := beq_iff_eq.mpr c7
      have c7b1 : (t631 != 0) = false := bne_eq_false_iff_eq.mpr c7
      clear c7
      replace H := Option.bind_eq_some_iff.mp H
      obtain ⟨⟨t632, t633⟩, A80, H⟩ := H
      replace H : (if a1 < 0 then (stipendlaw05_BandScales.j0 k l0 a1 a2 t632 t633 true) else (if a2 < 1 then (stipendlaw05_BandScales.j0 k l0 a1 a2 t632 t633 true) else (if a1 > a2 then (stipendlaw05_BandScales.j0 k l0 a1 a2 t632 t633 true) else (stipendlaw05_BandScales.j0 k l0 a1 a2 t632 t633 (decide (a2 > 1048576)))))) = some r := H
      have A8 := Aside0.mk A80
      clear A80
      have HC9 := Aside0.mk H
      clear H
      go_enter Try.func11, Try.ntmps11
      go_upto_region 6 with (first | (go_at_call 32; (with_reducible refine (stipendlaw05_sums.calls k  true _ A4.out).mono ?_); rintro e w10 ⟨rfl, hb⟩; have n0_ := Aside0.mk (below_step (by repeat (first | (with_reducible first | exact HB.out | apply below_alloc | apply pw_below_drewN | apply below_drew1) | exact HB.out)) hb); clear HB; have HB := n0_; clear n0_; (try clear hb); (try clear hb2); (try clear hk); (try clear hi)) | (go_at_call 33; (with_reducible refine (stipendref05_Check.calls k _ _ l0 t631 _ ?side1 ?side2 A6.out).mono ?_); (case side1 => repeat (first | exact (Kd.C_below HR0.out HB.out) | (with_reducible refine Kd.C_alloc ?_ _) | (with_reducible refine Kd.C_drewN ?_ _) | (with_reducible refine Kd.C_drew ?_))); (case side2 => exact HC0.out); rintro e w' ⟨rfl, ⟨nd, rfl⟩⟩; (try first | exact ⟨rfl, _, World.drewN_drewN _ _ _⟩ | exact ⟨rfl, _, Eq.trans (World.drewN_drewN _ _ _) (congrArg (World.drewN _) (Nat.add_assoc _ _ _))⟩)) | (go_at_call 37; (with_reducible refine (band_Scale.calls k a1 a2 _ _ l0 t632 t633 _ ?side1 ?side2 A8.out).mono ?_); (case side1 => repeat (first | exact (Kd.C_below HR0.out (by repeat (first | (with_reducible first | exact HB.out | apply below_alloc | apply pw_below_drewN | apply below_drew1) | exact HB.out))) | (with_reducible refine Kd.C_alloc ?_ _) | (with_reducible refine Kd.C_drewN ?_ _) | (with_reducible refine Kd.C_drew ?_))); (case side2 => exact HC0.out); rintro e w11 ⟨v634, rfl, ho0, hb⟩; have n0_ := Aside0.mk (Kd.R_lower ho0 (below_size (by repeat (first | (with_reducible first | exact HB.out | apply below_alloc | apply pw_below_drewN | apply below_drew1) | exact HB.out)))); have n1_ := Aside0.mk (below_step (by repeat (first | (with_reducible first | exact HB.out | apply below_alloc | apply pw_below_drewN | apply below_drew1) | exact HB.out)) hb); clear HB; have HO635 := n0_; have HB := n1_; clear n0_ n1_; (try clear hb); (try clear hb2); (try clear hk); (try clear hi); (try clear ho0)))
      repeat (go_quiet (first | (go_at_call 32; (with_reducible refine (stipendlaw05_sums.calls k  true _ A4.out).mono ?_); rintro e w10 ⟨rfl, hb⟩; have n0_ := Aside0.mk (below_step (by repeat (first | (with_reducible first | exact HB.out | apply below_alloc | apply pw_below_drewN | apply below_drew1) | exact HB.out)) hb); clear HB; have HB := n0_; clear n0_; (try clear hb); (try clear hb2); (try clear hk); (try clear hi)) | (go_at_call 33; (with_reducible refine (stipendref05_Check.calls k _ _ l0 t631 _ ?side1 ?side2 A6.out).mono ?_); (case side1 => repeat (first | exact (Kd.C_below HR0.out HB.out) | (with_reducible refine Kd.C_alloc ?_ _) | (with_reducible refine Kd.C_drewN ?_ _) | (with_reducible refine Kd.C_drew ?_))); (case side2 => exact HC0.out); rintro e w' ⟨rfl, ⟨nd, rfl⟩⟩; (try first | exact ⟨rfl, _, World.drewN_drewN _ _ _⟩ | exact ⟨rfl, _, Eq.trans (World.drewN_drewN _ _ _) (congrArg (World.drewN _) (Nat.add_assoc _ _ _))⟩)) | (go_at_call 37; (with_reducible refine (band_Scale.calls k a1 a2 _ _ l0 t632 t633 _ ?side1 ?side2 A8.out).mono ?_); (case side1 => repeat (first | exact (Kd.C_below HR0.out (by repeat (first | (with_reducible first | exact HB.out | apply below_alloc | apply pw_below_drewN | apply below_drew1) | exact HB.out))) | (with_reducible refine Kd.C_alloc ?_ _) | (with_reducible refine Kd.C_drewN ?_ _) | (with_reducible refine Kd.C_drew ?_))); (case side2 => exact HC0.out); rintro e w11 ⟨v634, rfl, ho0, hb⟩; have n0_ := Aside0.mk (Kd.R_lower ho0 (below_size (by repeat (first | (with_reducible first | exact HB.out | apply below_alloc | apply pw_below_drewN | apply below_drew1) | exact HB.out)))); have n1_ := Aside0.mk (below_step (by repeat (first | (with_reducible first | exact HB.out | apply below_alloc | apply pw_below_drewN | apply below_drew1) | exact HB.out)) hb); clear HB; have HO635 := n0_; have HB := n1_; clear n0_ n1_; (try clear hb); (try clear hb2); (try clear hk); (try clear hi); (try clear ho0))); go_upto_region 6 with (first | (go_at_call 32; (with_reducible refine (stipendlaw05_sums.calls k  true _ A4.out).mono ?_); rintro e w10 ⟨rfl, hb⟩; have n0_ := Aside0.mk (below_step (by repeat (first | (with_reducible first | exact HB.out | apply below_alloc | apply pw_below_drewN | apply below_drew1) | exact HB.out)) hb); clear HB; have HB := n0_; clear n0_; (try clear hb); (try clear hb2); (try clear hk); (try clear hi)) | (go_at_call 33; (with_reducible refine (stipendref05_Check.calls k _ _ l0 t631 _ ?side1 ?side2 A6.out).mono ?_); (case side1 => repeat (first | exact (Kd.C_below HR0.out HB.out) | (with_reducible refine Kd.C_alloc ?_ _) | (with_reducible refine Kd.C_drewN ?_ _) | (with_reducible refine Kd.C_drew ?_))); (case side2 => exact HC0.out); rintro e w' ⟨rfl, ⟨nd, rfl⟩⟩; (try first | exact ⟨rfl, _, World.drewN_drewN _ _ _⟩ | exact ⟨rfl, _, Eq.trans (World.drewN_drewN _ _ _) (congrArg (World.drewN _) (Nat.add_assoc _ _ _))⟩)) | (go_at_call 37; (with_reducible refine (band_Scale.calls k a1 a2 _ _ l0 t632 t633 _ ?side1 ?side2 A8.out).mono ?_); (case side1 => repeat (first | exact (Kd.C_below HR0.out (by repeat (first | (with_reducible first | exact HB.out | apply below_alloc | apply pw_below_drewN | apply below_drew1) | exact HB.out))) | (with_reducible refine Kd.C_alloc ?_ _) | (with_reducible refine Kd.C_drewN ?_ _) | (with_reducible refine Kd.C_drew ?_))); (case side2 => exact HC0.out); rintro e w11 ⟨v634, rfl, ho0, hb⟩; have n0_ := Aside0.mk (Kd.R_lower ho0 (below_size (by repeat (first | (with_reducible first | exact HB.out | apply below_alloc | apply pw_below_drewN | apply below_drew1) | exact HB.out)))); have n1_ := Aside0.mk (below_step (by repeat (first | (with_reducible first | exact HB.out | apply below_alloc | apply pw_below_drewN | apply below_drew1) | exact HB.out)) hb); clear HB; have HO635 := n0_; have HB := n1_; clear n0_ n1_; (try clear hb); (try clear hb2); (try clear hk); (try clear hi); (try clear ho0))))
      (try simp only [Act.put, List.setIfInBounds_toArray, List.set_cons_zero, List.set_cons_succ])
      go_cut [39] (fun v39 wc => ∃ (kq : Nat) (x39_8 : Bool), v39 = .bool x39_8 ∧ Aside0 (stipendlaw05_BandScales.j0 kq l0 a1 a2 t632 t633 x39_8 = some r) ∧ Aside0 (kq ≤ k) ∧ Aside0 (Kd.R k106 106 wc w.heap.size (fun _ => True) v634 t632) ∧ Aside0 (Below w.heap.size w wc))
      case first =>
        have H := HC9.out
        clear HC9
        by_cases c12 : a1 < 0
        · rw [if_pos c12] at H
          have c12b0 : decide (a1 < 0) = true := decide_eq_true c12
          clear c12
          (first | rw [c12b0] | (simp only [i64_w, i32_w]; rw [c12b0]) | skip)
          have H' := Aside0.mk H
          clear H
          go_wp2
          repeat (go_quiet (fail); try go_wp2)
          go_meet
          case rel => exact ⟨_, (true), (by first | rfl | (simp; done) | (simp [*]; done)), H', ⟨by first | omega | exact Nat.le_refl _⟩, ⟨by (with_reducible repeat (first | apply Kd.R_alloc | apply Kd.R_drewN | apply Kd.R_drew)); exact HO635.out⟩, ⟨by repeat (first | (with_reducible first | exact HB.out | apply below_alloc | apply pw_below_drewN | apply below_drew1) | exact HB.out)⟩⟩
        · rw [if_neg c12] at H
          have c12b0 : decide (a1 < 0) = false := decide_eq_false c12
          clear c12
          (first | rw [c12b0] | (simp only [i64_w, i32_w]; rw [c12b0]) | skip)
          by_cases c13 : a2 < 1
          · rw [if_pos c13] at H
            have c13b0 : decide (a2 < 1) = true := decide_eq_true c13
            clear c13
            have H' := Aside0.mk H
            clear H
            go_wp2
            repeat (go_quiet (fail); try go_wp2)
            go_meet
            case rel => exact ⟨_, (true), (by first | rfl | (simp; done) | (simp [*]; done)), H', ⟨by first | omega | exact Nat.le_refl _⟩, ⟨by (with_reducible repeat (first | apply Kd.R_alloc | apply Kd.R_drewN | apply Kd.R_drew)); exact HO635.out⟩, ⟨by repeat (first | (with_reducible first | exact HB.out | apply below_alloc | apply pw_below_drewN | apply below_drew1) | exact HB.out)⟩⟩
          · rw [if_neg c13] at H
            have c13b0 : decide (a2 < 1) = false := decide_eq_false c13
            clear c13
            by_cases c14 : a1 > a2
            · rw [if_pos c14] at H
              have c14b0 : decide (a2 < a1) = true := decide_eq_true c14
              clear c14
              have H' := Aside0.mk H
              clear H
              go_wp2
              repeat (go_quiet (fail); try go_wp2)
              go_meet
              case rel => exact ⟨_, (true), (by first | rfl | (simp; done) | (simp [*]; done)), H', ⟨by first | omega | exact Nat.le_refl _⟩, ⟨by (with_reducible repeat (first | apply Kd.R_alloc | apply Kd.R_drewN | apply Kd.R_drew)); exact HO635.out⟩, ⟨by repeat (first | (with_reducible first | exact HB.out | apply below_alloc | apply pw_below_drewN | apply below_drew1) | exact HB.out)⟩⟩
            · rw [if_neg c14] at H
              have c14b0 : decide (a2 < a1) = false := decide_eq_false c14
              clear c14
              have H' := Aside0.mk H
              clear H
              go_wp2
              repeat (go_quiet (fail); try go_wp2)
              go_meet
              case rel => exact ⟨_, (decide (a2 > 1048576)), (by first | rfl | (simp; done) | (simp [*]; done)), H', ⟨by first | omega | exact Nat.le_refl _⟩, ⟨by (with_reducible repeat (first | apply Kd.R_alloc | apply Kd.R_drewN | apply Kd.R_drew)); exact HO635.out⟩, ⟨by repeat (first | (with_reducible first | exact HB.out | apply below_alloc | apply pw_below_drewN | apply below_drew1) | exact HB.out)⟩⟩
      case rest =>
        clear HC9
        try clear c1
        try clear p2
        try clear c5
        try clear c7
        try clear c7b0
        try clear c7b1
        try clear c11
        try clear c12
        try clear c12b0
        try clear c13
        try clear c13b0
        try clear c14
        try clear c14b0
        obtain ⟨kq, x39_8, rfl, HA, HJ8, HO_7, HB⟩ := hcut
        cases kq with
        | zero => exact absurd HA.out (by simp [stipendlaw05_BandScales.j0])
        | succ kj8 =>
          have H := HA.out
          clear HA
          simp only [stipendlaw05_BandScales.j0] at H
          by_cases c15 : x39_8 = true
          · subst c15
            have H1 : (if t633 = 1 then (some ((t632.length : Int) == 0)) else (none)) = some r := by rw [if_pos rfl] at H; exact H
            clear H
            have H := H1
            clear H1
            by_cases c16 : t633 = 1
            · rw [if_pos c16] at H
              have c16b0 : (t633 == 1) = true := beq_iff_eq.mpr c16
              have c16b1 : (t633 != 1) = false := bne_eq_false_iff_eq.mpr c16
              clear c16
              obtain rfl := Option.some.inj H
              obtain ⟨Ao17, co17, eo17⟩ := Kd.R_slice HO_7.out
              subst eo17
              go_wp2
              repeat (go_quiet (fail); try go_wp2)
              go_ret
              exact ⟨by first | rfl | (simp [errW_none, errW_some] <;> rfl) | (simp [*, errW_none, errW_some] <;> rfl), by repeat (first | (with_reducible first | exact HB.out | apply below_alloc | apply pw_below_drewN | apply below_drew1) | exact HB.out)⟩
            · rw [if_neg c16] at H
              exact absurd H (by simp)
          · replace c15 := Bool.eq_false_iff.mpr c15
            subst c15
            have H1 : (if t633 = 0 then ((band_Check.f t632).bind fun t636 => (if t636 = 0 then (stipendlaw05_BandScales.j1 kj8 l0 a1 a2 t632 (decide ((t632.length : Int) > (l0.length : Int)))) else (stipendlaw05_BandScales.j1 kj8 l0 a1 a2 t632 true))) else (stipendlaw05_BandScales.j1 kj8 l0 a1 a2 t632 true)) = some r := by rw [if_neg (show ¬ (false = true) by decide)] at H; exact H
            clear H
            have H := H1
            clear H1
            have HC18 := Aside0.mk H
            clear H
            go_upto_region 8 with (fail)
            repeat (go_quiet (fail); go_upto_region 8 with (fail))
            go_cut [60] (fun v60 wc => ∃ (kq : Nat) (x60_17 : Bool), v60 = .bool x60_17 ∧ Aside0 (stipendlaw05_BandScales.j1 kq l0 a1 a2 t632 x60_17 = some r) ∧ Aside0 (kq ≤ kj8) ∧ Aside0 (Kd.R k106 106 wc w.heap.size (fun _ => True) v634 t632) ∧ Aside0 (Below w.heap.size w wc))
            case first =>
              have H := HC18.out
              clear HC18
              by_cases c19 : t633 = 0
              · rw [if_pos c19] at H
                have c19b0 : (t633 == 0) = true := beq_iff_eq.mpr c19
                have c19b1 : (t633 != 0) = false := bne_eq_false_iff_eq.mpr c19
                clear c19
                (first | rw [c19b0] | (simp only [i64_w, i32_w]; rw [c19b0]) | skip)
                replace H := Option.bind_eq_some_iff.mp H
                obtain ⟨t636, A200, H⟩ := H
                replace H : (if t636 = 0 then (stipendlaw05_BandScales.j1 kj8 l0 a1 a2 t632 (decide ((t632.length : Int) > (l0.length : Int)))) else (stipendlaw05_BandScales.j1 kj8 l0 a1 a2 t632 true)) = some r := H
                have A20 := Aside0.mk A200
                clear A200
                by_cases c21 : t636 = 0
                · rw [if_pos c21] at H
                  have c21b0 : (t636 == 0) = true := beq_iff_eq.mpr c21
                  have c21b1 : (t636 != 0) = false := bne_eq_false_iff_eq.mpr c21
                  clear c21
                  have H' := Aside0.mk H
                  clear H
                  obtain ⟨Ao22, co22, eo22⟩ := Kd.R_slice HO_7.out
                  subst eo22
                  go_wp2_with (first | (go_at_call 36; (with_reducible refine (band_Check.calls _ _ t632 t636 _ ?side1 ?side2 A20.out).mono ?_); (case side1 => repeat (first | exact (Kd.R_reads' HO_7.out).2.2 | (with_reducible refine Kd.C_alloc ?_ _) | (with_reducible refine Kd.C_drewN ?_ _) | (with_reducible refine Kd.C_drew ?_))); (case side2 => exact (Kd.R_reads' HO_7.out).2.1); rintro e w23 ⟨rfl, hb⟩; have n0_ := Aside0.mk (Kd.R_below (by (with_reducible repeat (first | apply Kd.R_alloc | apply Kd.R_drewN | apply Kd.R_drew)); exact HO_7.out) hb); have n1_ := Aside0.mk (below_step (by repeat (first | (with_reducible first | exact HB.out | apply below_alloc | apply pw_below_drewN | apply below_drew1) | exact HB.out)) hb); clear HO_7; clear HB; have HO_7 := n0_; have HB := n1_; clear n0_ n1_; (try clear hb); (try clear hb2); (try clear hk); (try clear hi)))
                  repeat (go_quiet (first | (go_at_call 36; (with_reducible refine (band_Check.calls _ _ t632 t636 _ ?side1 ?side2 A20.out).mono ?_); (case side1 => repeat (first | exact (Kd.R_reads' HO_7.out).2.2 | (with_reducible refine Kd.C_alloc ?_ _) | (with_reducible refine Kd.C_drewN ?_ _) | (with_reducible refine Kd.C_drew ?_))); (case side2 => exact (Kd.R_reads' HO_7.out).2.1); rintro e w23 ⟨rfl, hb⟩; have n0_ := Aside0.mk (Kd.R_below (by (with_reducible repeat (first | apply Kd.R_alloc | apply Kd.R_drewN | apply Kd.R_drew)); exact HO_7.out) hb); have n1_ := Aside0.mk (below_step (by repeat (first | (with_reducible first | exact HB.out | apply below_alloc | apply pw_below_drewN | apply below_drew1) | exact HB.out)) hb); clear HO_7; clear HB; have HO_7 := n0_; have HB := n1_; clear n0_ n1_; (try clear hb); (try clear hb2); (try clear hk); (try clear hi))); try go_wp2_with (first | (go_at_call 36; (with_reducible refine (band_Check.calls _ _ t632 t636 _ ?side1 ?side2 A20.out).mono ?_); (case side1 => repeat (first | exact (Kd.R_reads' HO_7.out).2.2 | (with_reducible refine Kd.C_alloc ?_ _) | (with_reducible refine Kd.C_drewN ?_ _) | (with_reducible refine Kd.C_drew ?_))); (case side2 => exact (Kd.R_reads' HO_7.out).2.1); rintro e w23 ⟨rfl, hb⟩; have n0_ := Aside0.mk (Kd.R_below (by (with_reducible repeat (first | apply Kd.R_alloc | apply Kd.R_drewN | apply Kd.R_drew)); exact HO_7.out) hb); have n1_ := Aside0.mk (below_step (by repeat (first | (with_reducible first | exact HB.out | apply below_alloc | apply pw_below_drewN | apply below_drew1) | exact HB.out)) hb); clear HO_7; clear HB; have HO_7 := n0_; have HB := n1_; clear n0_ n1_; (try clear hb); (try clear hb2); (try clear hk); (try clear hi))))
                  go_meet
                  case rel => exact ⟨_, (decide ((t632.length : Int) > (l0.length : Int))), (by first | rfl | (simp; done) | (simp [*]; done)), H', ⟨by have := HJ8.out; first | omega | exact Nat.le_refl _⟩, ⟨by (with_reducible repeat (first | apply Kd.R_alloc | apply Kd.R_drewN | apply Kd.R_drew)); exact HO_7.out⟩, ⟨by repeat (first | (with_reducible first | exact HB.out | apply below_alloc | apply pw_below_drewN | apply below_drew1) | exact HB.out)⟩⟩
                · rw [if_neg c21] at H
                  have c21b0 : (t636 == 0) = false := beq_eq_false_iff_ne.mpr c21
                  have c21b1 : (t636 != 0) = true := bne_iff_ne.mpr c21
                  have H' := Aside0.mk H
                  clear H
                  obtain ⟨Ao24, co24, eo24⟩ := Kd.R_slice HO_7.out
                  subst eo24
                  go_wp2_with (first | (go_at_call 36; (with_reducible refine (band_Check.calls _ _ t632 t636 _ ?side1 ?side2 A20.out).mono ?_); (case side1 => repeat (first | exact (Kd.R_reads' HO_7.out).2.2 | (with_reducible refine Kd.C_alloc ?_ _) | (with_reducible refine Kd.C_drewN ?_ _) | (with_reducible refine Kd.C_drew ?_))); (case side2 => exact (Kd.R_reads' HO_7.out).2.1); rintro e w25 ⟨rfl, hb⟩; have n0_ := Aside0.mk (Kd.R_below (by (with_reducible repeat (first | apply Kd.R_alloc | apply Kd.R_drewN | apply Kd.R_drew)); exact HO_7.out) hb); have n1_ := Aside0.mk (below_step (by repeat (first | (with_reducible first | exact HB.out | apply below_alloc | apply pw_below_drewN | apply below_drew1) | exact HB.out)) hb); clear HO_7; clear HB; have HO_7 := n0_; have HB := n1_; clear n0_ n1_; (try clear hb); (try clear hb2); (try clear hk); (try clear hi)))
                  repeat (go_quiet (first | (go_at_call 36; (with_reducible refine (band_Check.calls _ _ t632 t636 _ ?side1 ?side2 A20.out).mono ?_); (case side1 => repeat (first | exact (Kd.R_reads' HO_7.out).2.2 | (with_reducible refine Kd.C_alloc ?_ _) | (with_reducible refine Kd.C_drewN ?_ _) | (with_reducible refine Kd.C_drew ?_))); (case side2 => exact (Kd.R_reads' HO_7.out).2.1); rintro e w25 ⟨rfl, hb⟩; have n0_ := Aside0.mk (Kd.R_below (by (with_reducible repeat (first | apply Kd.R_alloc | apply Kd.R_drewN | apply Kd.R_drew)); exact HO_7.out) hb); have n1_ := Aside0.mk (below_step (by repeat (first | (with_reducible first | exact HB.out | apply below_alloc | apply pw_below_drewN | apply below_drew1) | exact HB.out)) hb); clear HO_7; clear HB; have HO_7 := n0_; have HB := n1_; clear n0_ n1_; (try clear hb); (try clear hb2); (try clear hk); (try clear hi))); try go_wp2_with (first | (go_at_call 36; (with_reducible refine (band_Check.calls _ _ t632 t636 _ ?side1 ?side2 A20.out).mono ?_); (case side1 => repeat (first | exact (Kd.R_reads' HO_7.out).2.2 | (with_reducible refine Kd.C_alloc ?_ _) | (with_reducible refine Kd.C_drewN ?_ _) | (with_reducible refine Kd.C_drew ?_))); (case side2 => exact (Kd.R_reads' HO_7.out).2.1); rintro e w25 ⟨rfl, hb⟩; have n0_ := Aside0.mk (Kd.R_below (by (with_reducible repeat (first | apply Kd.R_alloc | apply Kd.R_drewN | apply Kd.R_drew)); exact HO_7.out) hb); have n1_ := Aside0.mk (below_step (by repeat (first | (with_reducible first | exact HB.out | apply below_alloc | apply pw_below_drewN | apply below_drew1) | exact HB.out)) hb); clear HO_7; clear HB; have HO_7 := n0_; have HB := n1_; clear n0_ n1_; (try clear hb); (try clear hb2); (try clear hk); (try clear hi))))
                  go_meet
                  case rel => exact ⟨_, (true), (by first | rfl | (simp; done) | (simp [*]; done)), H', ⟨by have := HJ8.out; first | omega | exact Nat.le_refl _⟩, ⟨by (with_reducible repeat (first | apply Kd.R_alloc | apply Kd.R_drewN | apply Kd.R_drew)); exact HO_7.out⟩, ⟨by repeat (first | (with_reducible first | exact HB.out | apply below_alloc | apply pw_below_drewN | apply below_drew1) | exact HB.out)⟩⟩
              · rw [if_neg c19] at H
                have c19b0 : (t633 == 0) = false := beq_eq_false_iff_ne.mpr c19
                have c19b1 : (t633 != 0) = true := bne_iff_ne.mpr c19
                (first | rw [c19b0] | (simp only [i64_w, i32_w]; rw [c19b0]) | skip)
                have H' := Aside0.mk H
                clear H
                go_wp2
                repeat (go_quiet (fail); try go_wp2)
                go_meet
                case rel => exact ⟨_, (true), (by first | rfl | (simp; done) | (simp [*]; done)), H', ⟨by have := HJ8.out; first | omega | exact Nat.le_refl _⟩, ⟨by (with_reducible repeat (first | apply Kd.R_alloc | apply Kd.R_drewN | apply Kd.R_drew)); exact HO_7.out⟩, ⟨by repeat (first | (with_reducible first | exact HB.out | apply below_alloc | apply pw_below_drewN | apply below_drew1) | exact HB.out)⟩⟩
            case rest =>
              clear HC18
              try clear c1
              try clear c2
              try clear p2
              try clear c5
              try clear c7
              try clear c7b0
              try clear c7b1
              try clear c11
              try clear c12
              try clear c12b0
              try clear c13
              try clear c13b0
              try clear c14
              try clear c14b0
              try clear c15
              try clear c16
              try clear c16b0
              try clear c16b1
              try clear c19
              try clear c19b0
              try clear c19b1
              try clear c21
              try clear c21b0
              try clear c21b1
              try clear p2
              obtain ⟨kq, x60_17, rfl, HA, HJ17, HO_7, HB⟩ := hcut
              cases kq with
              | zero => exact absurd HA.out (by simp [stipendlaw05_BandScales.j1])
              | succ kj17 =>
                have H := HA.out
                clear HA
                simp only [stipendlaw05_BandScales.j1] at H
                by_cases c26 : x60_17 = true
                · subst c26
                  have H1 : (none) = some r := by rw [if_pos rfl] at H; exact H
                  clear H
                  have H := H1
                  clear H1
                  exact absurd H (by simp)
                · replace c26 := Bool.eq_false_iff.mpr c26
                  subst c26
                  have H1 : (stipendlaw05_BandScales.l0 kj17 l0 a1 a2 t632 0 l0 (l0.length : Int) 0) = some r := by rw [if_neg (show ¬ (false = true) by decide)] at H; exact H
                  clear H
                  have H := H1
                  clear H1
                  have H' := Aside0.mk H
                  clear H
                  go_wp2
                  repeat (go_quiet (fail); try go_wp2)
                  go_loopg [9, 63] kj17 (fun kq v9 v63 w' => ∃ (x9_3 : Int) (x63_3 : Int), v9 = .int .i64 x9_3 ∧ v63 = .int .i64 x63_3 ∧ Aside0 (stipendlaw05_BandScales.l0 kq l0 a1 a2 t632 x9_3 l0 (l0.length : Int) x63_3 = some r) ∧ Aside0 (kq ≤ kj17) ∧ Aside0 (Kd.R k106 106 w' w.heap.size (fun _ => True) v634 t632) ∧ Aside0 (Below w.heap.size w w'))
                  case atStart => exact ⟨(0), (0), (by first | rfl | (simp; done) | (simp [*]; done)), (by first | rfl | (simp; done) | (simp [*]; done)), H', ⟨Nat.le_refl _⟩, ⟨by (with_reducible repeat (first | apply Kd.R_alloc | apply Kd.R_drewN | apply Kd.R_drew)); exact HO_7.out⟩, ⟨by repeat (first | (with_reducible first | exact HB.out | apply below_alloc | apply pw_below_drewN | apply below_drew1) | exact HB.out)⟩⟩
                  case round =>
                    clear H'
                    try clear c1
                    try clear c2
                    try clear p2
                    try clear c5
                    try clear c7
                    try clear c7b0
                    try clear c7b1
                    try clear c11
                    try clear c12
                    try clear c12b0
                    try clear c13
                    try clear c13b0
                    try clear c14
                    try clear c14b0
                    try clear c15
                    try clear c16
                    try clear c16b0
                    try clear c16b1
                    try clear c19
                    try clear c19b0
                    try clear c19b1
                    try clear c21
                    try clear c21b0
                    try clear c21b1
                    try clear c26
                    try clear p2
                    obtain ⟨x9_3, x63_3, rfl, rfl, HA, HK3, HO_7, HB⟩ := hrel
                    cases gk with
                    | zero => exact absurd HA.out (by simp [stipendlaw05_BandScales.l0])
                    | succ k3 =>
                      have H := HA.out
                      clear HA
                      simp only [stipendlaw05_BandScales.l0] at H
                      by_cases c27 : x63_3 < (l0.length : Int)
                      · rw [if_pos c27] at H
                        have c27b0 : decide (x63_3 < (l0.length : Int)) = true := decide_eq_true c27
                        clear c27
                        by_cases c28 : 0 ≤ x63_3
                        · rw [if_pos c28] at H
                          have c28b0 : decide (0 ≤ x63_3) = true := decide_eq_true c28
                          clear c28
                          by_cases c29 : x63_3 < (l0.length : Int)
                          · rw [if_pos c29] at H
                            have c29b0 : decide (x63_3 < (l0.length : Int)) = true := decide_eq_true c29
                            clear c29
                            replace H := Option.bind_eq_some_iff.mp H
                            obtain ⟨t639, A300, H⟩ := H
                            replace H : (if (wrap64 (x63_3 + 1)) < (l0.length : Int) then (if 0 ≤ (wrap64 (x63_3 + 1)) then ((stipendref05_Part.f ((rd_T106 l0 (wrap64 (x63_3 + 1))).f0) a1 a2).bind fun t641 => (stipendlaw05_BandScales.j3 k3 l0 a1 a2 t632 x9_3 t639 l0 (l0.length : Int) x63_3 (t641 == t639) ((rd_T106 l0 x63_3).f0) ((rd_T106 l0 x63_3).f1) ((rd_T106 l0 x63_3).f2))) else (none)) else (stipendlaw05_BandScales.j3 k3 l0 a1 a2 t632 x9_3 t639 l0 (l0.length : Int) x63_3 false ((rd_T106 l0 x63_3).f0) ((rd_T106 l0 x63_3).f1) ((rd_T106 l0 x63_3).f2))) = some r := H
                            have A30 := Aside0.mk A300
                            clear A300
                            have HC31 := Aside0.mk H
                            clear H
                            have p637 : 0 ≤ (x63_3 : Int) := of_decide_eq_true (by first | (with_reducible assumption) | assumption)
                            have q637 : x63_3 < (l0.length : Int) := of_decide_eq_true (by first | (with_reducible assumption) | assumption)
                            obtain ⟨ad637, e637, hx637_0, hx637_1, hx637_2⟩ := at_T106 HR0.out x63_3 p637 q637
                            cases e637
                            replace hx637_0 := (HB.out.cell (World.block_lt_of_cell? w _ hx637_0)).trans hx637_0
                            replace hx637_1 := (HB.out.cell (World.block_lt_of_cell? w _ hx637_1)).trans hx637_1
                            replace hx637_2 := (HB.out.cell (World.block_lt_of_cell? w _ hx637_2)).trans hx637_2
                            replace p637 := eq_true p637
                            replace q637 := eq_true q637
                            go_upto_region 15 with (first | ((with_reducible refine gate_dst (N := 11) rfl ?_); refine box_event ?hg (N := 11) ?hd (cs := #[.int .i64 0, .int .i64 0, .int .i64 0]) (t := 106) ?hr ?_; (case hd => rfl); (case hg => rfl); (case hr => first | (go_simp; done) | (go_simp; rfl)); intro gb638 hg w32 hbox hb; have n0_ := Aside0.mk (Kd.R_below (Kd.R_elderB (by (with_reducible repeat (first | apply Kd.R_alloc | apply Kd.R_drewN | apply Kd.R_drew)); exact HO_7.out) gb638 (Nat.le_of_eq hg.symm)) hb); have n1_ := Aside0.mk (below_step (by repeat (first | (with_reducible first | exact HB.out | apply below_alloc | apply pw_below_drewN | apply below_drew1) | exact HB.out)) hb); have n2_ := Aside0.mk (hbox); have n3_ := Aside0.mk ((by rw [hg]; exact (below_size (by repeat (first | (with_reducible first | exact HB.out | apply below_alloc | apply pw_below_drewN | apply below_drew1) | exact HB.out))) : w.heap.size ≤ gb638)); have n4_ := Aside0.mk ((by rw [hg]; exact (below_size (by repeat (first | (with_reducible first | exact HB.out | apply below_alloc | apply pw_below_drewN | apply below_drew1) | exact HB.out))) : w.heap.size ≤ gb638)); clear HO_7; clear HB; have HO_7 := n0_; have HB := n1_; have BK638 := n2_; have GW638 := n3_; have GE638 := n4_; clear n0_ n1_ n2_ n3_ n4_; clear hb hbox hg; have hcz33_0 : w32.cell? ⟨gb638, 0, none⟩ = some (.int .i64 0) := (blk_cell BK638.out 0).trans rfl; have hcz33_1 : w32.cell? ⟨gb638, 1, none⟩ = some (.int .i64 0) := (blk_cell BK638.out 1).trans rfl; have hcz33_2 : w32.cell? ⟨gb638, 2, none⟩ = some (.int .i64 0) := (blk_cell BK638.out 2).trans rfl; have hfz33_0 := blk_frozen BK638.out 0; have hfz33_1 := blk_frozen BK638.out 1; have hfz33_2 := blk_frozen BK638.out 2) | (go_at_call 61; (with_reducible refine (stipendref05_Part.calls ((rd_T106 l0 x63_3).f0) a1 a2 t639 _ A30.out).mono ?_); rintro e w' ⟨rfl, ⟨nd, rfl⟩⟩; (try first | exact ⟨rfl, _, World.drewN_drewN _ _ _⟩ | exact ⟨rfl, _, Eq.trans (World.drewN_drewN _ _ _) (congrArg (World.drewN _) (Nat.add_assoc _ _ _))⟩)))
                            repeat (go_quiet (first | ((with_reducible refine gate_dst (N := 11) rfl ?_); refine box_event ?hg (N := 11) ?hd (cs := #[.int .i64 0, .int .i64 0, .int .i64 0]) (t := 106) ?hr ?_; (case hd => rfl); (case hg => rfl); (case hr => first | (go_simp; done) | (go_simp; rfl)); intro gb638 hg w32 hbox hb; have n0_ := Aside0.mk (Kd.R_below (Kd.R_elderB (by (with_reducible repeat (first | apply Kd.R_alloc | apply Kd.R_drewN | apply Kd.R_drew)); exact HO_7.out) gb638 (Nat.le_of_eq hg.symm)) hb); have n1_ := Aside0.mk (below_step (by repeat (first | (with_reducible first | exact HB.out | apply below_alloc | apply pw_below_drewN | apply below_drew1) | exact HB.out)) hb); have n2_ := Aside0.mk (hbox); have n3_ := Aside0.mk ((by rw [hg]; exact (below_size (by repeat (first | (with_reducible first | exact HB.out | apply below_alloc | apply pw_below_drewN | apply below_drew1) | exact HB.out))) : w.heap.size ≤ gb638)); have n4_ := Aside0.mk ((by rw [hg]; exact (below_size (by repeat (first | (with_reducible first | exact HB.out | apply below_alloc | apply pw_below_drewN | apply below_drew1) | exact HB.out))) : w.heap.size ≤ gb638)); clear HO_7; clear HB; have HO_7 := n0_; have HB := n1_; have BK638 := n2_; have GW638 := n3_; have GE638 := n4_; clear n0_ n1_ n2_ n3_ n4_; clear hb hbox hg; have hcz33_0 : w32.cell? ⟨gb638, 0, none⟩ = some (.int .i64 0) := (blk_cell BK638.out 0).trans rfl; have hcz33_1 : w32.cell? ⟨gb638, 1, none⟩ = some (.int .i64 0) := (blk_cell BK638.out 1).trans rfl; have hcz33_2 : w32.cell? ⟨gb638, 2, none⟩ = some (.int .i64 0) := (blk_cell BK638.out 2).trans rfl; have hfz33_0 := blk_frozen BK638.out 0; have hfz33_1 := blk_frozen BK638.out 1; have hfz33_2 := blk_frozen BK638.out 2) | (go_at_call 61; (with_reducible refine (stipendref05_Part.calls ((rd_T106 l0 x63_3).f0) a1 a2 t639 _ A30.out).mono ?_); rintro e w' ⟨rfl, ⟨nd, rfl⟩⟩; (try first | exact ⟨rfl, _, World.drewN_drewN _ _ _⟩ | exact ⟨rfl, _, Eq.trans (World.drewN_drewN _ _ _) (congrArg (World.drewN _) (Nat.add_assoc _ _ _))⟩))); go_upto_region 15 with (first | ((with_reducible refine gate_dst (N := 11) rfl ?_); refine box_event ?hg (N := 11) ?hd (cs := #[.int .i64 0, .int .i64 0, .int .i64 0]) (t := 106) ?hr ?_; (case hd => rfl); (case hg => rfl); (case hr => first | (go_simp; done) | (go_simp; rfl)); intro gb638 hg w32 hbox hb; have n0_ := Aside0.mk (Kd.R_below (Kd.R_elderB (by (with_reducible repeat (first | apply Kd.R_alloc | apply Kd.R_drewN | apply Kd.R_drew)); exact HO_7.out) gb638 (Nat.le_of_eq hg.symm)) hb); have n1_ := Aside0.mk (below_step (by repeat (first | (with_reducible first | exact HB.out | apply below_alloc | apply pw_below_drewN | apply below_drew1) | exact HB.out)) hb); have n2_ := Aside0.mk (hbox); have n3_ := Aside0.mk ((by rw [hg]; exact (below_size (by repeat (first | (with_reducible first | exact HB.out | apply below_alloc | apply pw_below_drewN | apply below_drew1) | exact HB.out))) : w.heap.size ≤ gb638)); have n4_ := Aside0.mk ((by rw [hg]; exact (below_size (by repeat (first | (with_reducible first | exact HB.out | apply below_alloc | apply pw_below_drewN | apply below_drew1) | exact HB.out))) : w.heap.size ≤ gb638)); clear HO_7; clear HB; have HO_7 := n0_; have HB := n1_; have BK638 := n2_; have GW638 := n3_; have GE638 := n4_; clear n0_ n1_ n2_ n3_ n4_; clear hb hbox hg; have hcz33_0 : w32.cell? ⟨gb638, 0, none⟩ = some (.int .i64 0) := (blk_cell BK638.out 0).trans rfl; have hcz33_1 : w32.cell? ⟨gb638, 1, none⟩ = some (.int .i64 0) := (blk_cell BK638.out 1).trans rfl; have hcz33_2 : w32.cell? ⟨gb638, 2, none⟩ = some (.int .i64 0) := (blk_cell BK638.out 2).trans rfl; have hfz33_0 := blk_frozen BK638.out 0; have hfz33_1 := blk_frozen BK638.out 1; have hfz33_2 := blk_frozen BK638.out 2) | (go_at_call 61; (with_reducible refine (stipendref05_Part.calls ((rd_T106 l0 x63_3).f0) a1 a2 t639 _ A30.out).mono ?_); rintro e w' ⟨rfl, ⟨nd, rfl⟩⟩; (try first | exact ⟨rfl, _, World.drewN_drewN _ _ _⟩ | exact ⟨rfl, _, Eq.trans (World.drewN_drewN _ _ _) (congrArg (World.drewN _) (Nat.add_assoc _ _ _))⟩))))
                            (try simp only [Act.put, List.setIfInBounds_toArray, List.set_cons_zero, List.set_cons_succ])
                            go_cut [90] (fun v90 wc => ∃ (kq : Nat) (x90_30 : Bool), v90 = .bool x90_30 ∧ Aside0 (stipendlaw05_BandScales.j3 kq l0 a1 a2 t632 x9_3 t639 l0 (l0.length : Int) x63_3 x90_30 ((rd_T106 l0 x63_3).f0) ((rd_T106 l0 x63_3).f1) ((rd_T106 l0 x63_3).f2) = some r) ∧ Aside0 (kq ≤ k3) ∧ Aside0 (Kd.R k106 106 wc w.heap.size (fun k_ => k_ ≠ gb638) v634 t632) ∧ Aside0 (wc.heap[gb638]? = some (.cells #[.int .i64 ((rd_T106 l0 x63_3).f0), .int .i64 ((rd_T106 l0 x63_3).f1), .int .i64 ((rd_T106 l0 x63_3).f2)] 106 (0, 0))) ∧ Aside0 (Below w.heap.size w wc))
                            case first =>
                              have H := HC31.out
                              clear HC31
                              by_cases c34 : (wrap64 (x63_3 + 1)) < (l0.length : Int)
                              · rw [if_pos c34] at H
                                have c34b0 : decide ((wrap64 (x63_3 + 1)) < (l0.length : Int)) = true := decide_eq_true c34
                                clear c34
                                (first | rw [c34b0] | (simp only [i64_w, i32_w]; rw [c34b0]) | skip)
                                obtain ⟨ji35, hji35⟩ : ∃ j_ : Int, (wrap64 (x63_3 + 1)) = j_ := ⟨_, rfl⟩
                                replace H : (if 0 ≤ (ji35) then ((stipendref05_Part.f ((rd_T106 l0 (ji35)).f0) a1 a2).bind fun t641 => (stipendlaw05_BandScales.j3 k3 l0 a1 a2 t632 x9_3 t639 l0 (l0.length : Int) x63_3 (t641 == t639) ((rd_T106 l0 x63_3).f0) ((rd_T106 l0 x63_3).f1) ((rd_T106 l0 x63_3).f2))) else (none)) = some r := by first | (rw [hji35] at H; exact H) | (simp only [hji35] at H ⊢; exact H)
                                (try rw [hji35] at c34b0)
                                have hji35w : (IntKind.i64.wrap (x63_3 + 1)) = ji35 := (i64_w _).trans hji35
                                by_cases c36 : 0 ≤ (ji35)
                                · rw [if_pos c36] at H
                                  have c36b0 : decide (0 ≤ (ji35)) = true := decide_eq_true c36
                                  clear c36
                                  replace H := Option.bind_eq_some_iff.mp H
                                  obtain ⟨t641, A370, H⟩ := H
                                  replace H : (stipendlaw05_BandScales.j3 k3 l0 a1 a2 t632 x9_3 t639 l0 (l0.length : Int) x63_3 (t641 == t639) ((rd_T106 l0 x63_3).f0) ((rd_T106 l0 x63_3).f1) ((rd_T106 l0 x63_3).f2)) = some r := H
                                  have A37 := Aside0.mk A370
                                  clear A370
                                  have H' := Aside0.mk H
                                  clear H
                                  have p640 : 0 ≤ ((ji35) : Int) := of_decide_eq_true (by first | (with_reducible assumption) | assumption)
                                  have q640 : (ji35) < (l0.length : Int) := of_decide_eq_true (by first | (with_reducible assumption) | assumption)
                                  obtain ⟨ad640, e640, hx640_0, hx640_1, hx640_2⟩ := at_T106 HR0.out (ji35) p640 q640
                                  obtain rfl : ad637 = ad640 := (by injection e640)
                                  have hn640_0 : ad637.block ≠ gb638 := Nat.ne_of_lt (Nat.lt_of_lt_of_le (by have := World.block_lt_of_cell? _ _ hx640_0; first | rwa [add_block] at this | exact this) GW638.out)
                                  have hn640_1 : ad637.block ≠ gb638 := Nat.ne_of_lt (Nat.lt_of_lt_of_le (by have := World.block_lt_of_cell? _ _ hx640_0; first | rwa [add_block] at this | exact this) GW638.out)
                                  have hn640_2 : ad637.block ≠ gb638 := Nat.ne_of_lt (Nat.lt_of_lt_of_le (by have := World.block_lt_of_cell? _ _ hx640_0; first | rwa [add_block] at this | exact this) GW638.out)
                                  replace hx640_0 := (HB.out.cell (World.block_lt_of_cell? w _ hx640_0)).trans hx640_0
                                  replace hx640_1 := (HB.out.cell (World.block_lt_of_cell? w _ hx640_1)).trans hx640_1
                                  replace hx640_2 := (HB.out.cell (World.block_lt_of_cell? w _ hx640_2)).trans hx640_2
                                  replace hx640_0 := (cell_far (p := ⟨gb638, 0, none⟩) (by first | (rw [add_block]; exact hn640_0) | (show (Addr.add _ _).block ≠ _; rw [add_block]; exact hn640_0) | exact hn640_0) (.int .i64 ((rd_T106 l0 x63_3).f0))).trans hx640_0
                                  replace hx640_1 := (cell_far (p := ⟨gb638, 0, none⟩) (by first | (rw [add_block]; exact hn640_0) | (show (Addr.add _ _).block ≠ _; rw [add_block]; exact hn640_0) | exact hn640_0) (.int .i64 ((rd_T106 l0 x63_3).f0))).trans hx640_1
                                  replace hx640_2 := (cell_far (p := ⟨gb638, 0, none⟩) (by first | (rw [add_block]; exact hn640_0) | (show (Addr.add _ _).block ≠ _; rw [add_block]; exact hn640_0) | exact hn640_0) (.int .i64 ((rd_T106 l0 x63_3).f0))).trans hx640_2
                                  replace hx640_0 := (cell_far (p := ⟨gb638, 1, none⟩) (by first | (rw [add_block]; exact hn640_1) | (show (Addr.add _ _).block ≠ _; rw [add_block]; exact hn640_1) | exact hn640_1) (.int .i64 ((rd_T106 l0 x63_3).f1))).trans hx640_0
                                  replace hx640_1 := (cell_far (p := ⟨gb638, 1, none⟩) (by first | (rw [add_block]; exact hn640_1) | (show (Addr.add _ _).block ≠ _; rw [add_block]; exact hn640_1) | exact hn640_1) (.int .i64 ((rd_T106 l0 x63_3).f1))).trans hx640_1
                                  replace hx640_2 := (cell_far (p := ⟨gb638, 1, none⟩) (by first | (rw [add_block]; exact hn640_1) | (show (Addr.add _ _).block ≠ _; rw [add_block]; exact hn640_1) | exact hn640_1) (.int .i64 ((rd_T106 l0 x63_3).f1))).trans hx640_2
                                  replace hx640_0 := (cell_far (p := ⟨gb638, 2, none⟩) (by first | (rw [add_block]; exact hn640_2) | (show (Addr.add _ _).block ≠ _; rw [add_block]; exact hn640_2) | exact hn640_2) (.int .i64 ((rd_T106 l0 x63_3).f2))).trans hx640_0
                                  replace hx640_1 := (cell_far (p := ⟨gb638, 2, none⟩) (by first | (rw [add_block]; exact hn640_2) | (show (Addr.add _ _).block ≠ _; rw [add_block]; exact hn640_2) | exact hn640_2) (.int .i64 ((rd_T106 l0 x63_3).f2))).trans hx640_1
                                  replace hx640_2 := (cell_far (p := ⟨gb638, 2, none⟩) (by first | (rw [add_block]; exact hn640_2) | (show (Addr.add _ _).block ≠ _; rw [add_block]; exact hn640_2) | exact hn640_2) (.int .i64 ((rd_T106 l0 x63_3).f2))).trans hx640_2
                                  (try have hy640_0 := fun (n_ : Nat) => (show (((((w32.drewN n_).setCell ⟨gb638, 0, none⟩ (.int .i64 ((rd_T106 l0 x63_3).f0))).setCell ⟨gb638, 1, none⟩ (.int .i64 ((rd_T106 l0 x63_3).f1))).setCell ⟨gb638, 2, none⟩ (.int .i64 ((rd_T106 l0 x63_3).f2)))).cell? _ = some _ from hx640_0))
                                  (try have hy640_1 := fun (n_ : Nat) => (show (((((w32.drewN n_).setCell ⟨gb638, 0, none⟩ (.int .i64 ((rd_T106 l0 x63_3).f0))).setCell ⟨gb638, 1, none⟩ (.int .i64 ((rd_T106 l0 x63_3).f1))).setCell ⟨gb638, 2, none⟩ (.int .i64 ((rd_T106 l0 x63_3).f2)))).cell? _ = some _ from hx640_1))
                                  (try have hy640_2 := fun (n_ : Nat) => (show (((((w32.drewN n_).setCell ⟨gb638, 0, none⟩ (.int .i64 ((rd_T106 l0 x63_3).f0))).setCell ⟨gb638, 1, none⟩ (.int .i64 ((rd_T106 l0 x63_3).f1))).setCell ⟨gb638, 2, none⟩ (.int .i64 ((rd_T106 l0 x63_3).f2)))).cell? _ = some _ from hx640_2))
                                  clear hn640_0
                                  clear hn640_1
                                  clear hn640_2
                                  replace p640 := eq_true p640
                                  replace q640 := eq_true q640
                                  go_wp2_with (first | (go_at_call 61; (with_reducible refine (stipendref05_Part.calls ((rd_T106 l0 (ji35)).f0) a1 a2 t641 _ A37.out).mono ?_); rintro e w' ⟨rfl, ⟨nd, rfl⟩⟩; (try first | exact ⟨rfl, _, World.drewN_drewN _ _ _⟩ | exact ⟨rfl, _, Eq.trans (World.drewN_drewN _ _ _) (congrArg (World.drewN _) (Nat.add_assoc _ _ _))⟩)))
                                  repeat (go_quiet (first | (go_at_call 61; (with_reducible refine (stipendref05_Part.calls ((rd_T106 l0 (ji35)).f0) a1 a2 t641 _ A37.out).mono ?_); rintro e w' ⟨rfl, ⟨nd, rfl⟩⟩; (try first | exact ⟨rfl, _, World.drewN_drewN _ _ _⟩ | exact ⟨rfl, _, Eq.trans (World.drewN_drewN _ _ _) (congrArg (World.drewN _) (Nat.add_assoc _ _ _))⟩))); try go_wp2_with (first | (go_at_call 61; (with_reducible refine (stipendref05_Part.calls ((rd_T106 l0 (ji35)).f0) a1 a2 t641 _ A37.out).mono ?_); rintro e w' ⟨rfl, ⟨nd, rfl⟩⟩; (try first | exact ⟨rfl, _, World.drewN_drewN _ _ _⟩ | exact ⟨rfl, _, Eq.trans (World.drewN_drewN _ _ _) (congrArg (World.drewN _) (Nat.add_assoc _ _ _))⟩))))
                                  go_meet
                                  case rel => exact ⟨_, ((t641 == t639)), (by first | rfl | (simp; done) | (simp [*]; done)), H', ⟨by have := HJ8.out; have := HJ17.out; have := HK3.out; first | omega | exact Nat.le_refl _⟩, ⟨by (with_reducible repeat (first | apply Kd.R_alloc | apply Kd.R_drewN | apply Kd.R_drew)); exact Kd.R_mono (Kd.R_far (p := ⟨gb638, 2, none⟩) (Kd.R_far (p := ⟨gb638, 1, none⟩) (Kd.R_far (p := ⟨gb638, 0, none⟩) (Kd.R_mono HO_7.out (fun k_ hk => (⟨hk, hk.2⟩ : _ ∧ k_ ≠ gb638))) (fun _ hk => hk.2) (.int .i64 ((rd_T106 l0 x63_3).f0))) (fun _ hk => hk.2) (.int .i64 ((rd_T106 l0 x63_3).f1))) (fun _ hk => hk.2) (.int .i64 ((rd_T106 l0 x63_3).f2))) (fun _ hk => hk.1.2)⟩, ⟨by (with_reducible repeat (first | refine blk_drewN ?_ _ | refine blk_drew ?_ | refine blk_alloc ?_ _)); refine blk_put (cs := #[.int .i64 ((rd_T106 l0 x63_3).f0), .int .i64 ((rd_T106 l0 x63_3).f1), .int .i64 0]) ?_ 2 _ rfl; (with_reducible repeat (first | refine blk_drewN ?_ _ | refine blk_drew ?_ | refine blk_alloc ?_ _)); refine blk_put (cs := #[.int .i64 ((rd_T106 l0 x63_3).f0), .int .i64 0, .int .i64 0]) ?_ 1 _ rfl; (with_reducible repeat (first | refine blk_drewN ?_ _ | refine blk_drew ?_ | refine blk_alloc ?_ _)); refine blk_put (cs := #[.int .i64 0, .int .i64 0, .int .i64 0]) ?_ 0 _ rfl; (with_reducible repeat (first | refine blk_drewN ?_ _ | refine blk_drew ?_ | refine blk_alloc ?_ _)); exact BK638.out⟩, ⟨by repeat (first | (with_reducible first | exact HB.out | apply below_alloc | apply pw_below_drewN | apply below_drew1 | refine below_set ?_ GE638.out) | exact HB.out)⟩⟩
                                · rw [if_neg c36] at H
                                  exact absurd H (by simp)
                              · rw [if_neg c34] at H
                                have c34b0 : decide ((wrap64 (x63_3 + 1)) < (l0.length : Int)) = false := decide_eq_false c34
                                clear c34
                                (first | rw [c34b0] | (simp only [i64_w, i32_w]; rw [c34b0]) | skip)
                                have H' := Aside0.mk H
                                clear H
                                go_wp2
                                repeat (go_quiet (fail); try go_wp2)
                                go_meet
                                case rel => exact ⟨_, (false), (by first | rfl | (simp; done) | (simp [*]; done)), H', ⟨by have := HJ8.out; have := HJ17.out; have := HK3.out; first | omega | exact Nat.le_refl _⟩, ⟨by (with_reducible repeat (first | apply Kd.R_alloc | apply Kd.R_drewN | apply Kd.R_drew)); exact Kd.R_mono (Kd.R_far (p := ⟨gb638, 2, none⟩) (Kd.R_far (p := ⟨gb638, 1, none⟩) (Kd.R_far (p := ⟨gb638, 0, none⟩) (Kd.R_mono HO_7.out (fun k_ hk => (⟨hk, hk.2⟩ : _ ∧ k_ ≠ gb638))) (fun _ hk => hk.2) (.int .i64 ((rd_T106 l0 x63_3).f0))) (fun _ hk => hk.2) (.int .i64 ((rd_T106 l0 x63_3).f1))) (fun _ hk => hk.2) (.int .i64 ((rd_T106 l0 x63_3).f2))) (fun _ hk => hk.1.2)⟩, ⟨by (with_reducible repeat (first | refine blk_drewN ?_ _ | refine blk_drew ?_ | refine blk_alloc ?_ _)); refine blk_put (cs := #[.int .i64 ((rd_T106 l0 x63_3).f0), .int .i64 ((rd_T106 l0 x63_3).f1), .int .i64 0]) ?_ 2 _ rfl; (with_reducible repeat (first | refine blk_drewN ?_ _ | refine blk_drew ?_ | refine blk_alloc ?_ _)); refine blk_put (cs := #[.int .i64 ((rd_T106 l0 x63_3).f0), .int .i64 0, .int .i64 0]) ?_ 1 _ rfl; (with_reducible repeat (first | refine blk_drewN ?_ _ | refine blk_drew ?_ | refine blk_alloc ?_ _)); refine blk_put (cs := #[.int .i64 0, .int .i64 0, .int .i64 0]) ?_ 0 _ rfl; (with_reducible repeat (first | refine blk_drewN ?_ _ | refine blk_drew ?_ | refine blk_alloc ?_ _)); exact BK638.out⟩, ⟨by repeat (first | (with_reducible first | exact HB.out | apply below_alloc | apply pw_below_drewN | apply below_drew1 | refine below_set ?_ GE638.out) | exact HB.out)⟩⟩
                            case rest =>
                              clear HC31
                              try clear c1
                              try clear c2
                              try clear p2
                              try clear c3
                              try clear c5
                              try clear p6
                              try clear q6
                              try clear hx6
                              try clear c7
                              try clear c7b0
                              try clear c7b1
                              try clear c11
                              try clear c12
                              try clear c12b0
                              try clear c13
                              try clear c13b0
                              try clear c14
                              try clear c14b0
                              try clear c15
                              try clear c16
                              try clear c16b0
                              try clear c16b1
                              try clear c19
                              try clear c19b0
                              try clear c19b1
                              try clear c21
                              try clear c21b0
                              try clear c21b1
                              try clear c26
                              try clear c27
                              try clear c27b0
                              try clear c28
                              try clear c28b0
                              try clear c29
                              try clear c29b0
                              try clear c34
                              try clear c34b0
                              try clear c36
                              try clear c36b0
                              try clear hcz33_0
                              try clear hcz33_1
                              try clear hcz33_2
                              try clear hfz33_0
                              try clear hfz33_1
                              try clear hfz33_2
                              try clear hx637_0
                              try clear hx637_1
                              try clear hx637_2
                              try clear hx640_0
                              try clear hx640_1
                              try clear hx640_2
                              try clear p2
                              try clear p637
                              try clear p640
                              try clear q637
                              try clear q640
                              obtain ⟨kq, x90_30, rfl, HA, HJ30, HO_7, BK638, HB⟩ := hcut
                              cases kq with
                              | zero => exact absurd HA.out (by simp [stipendlaw05_BandScales.j3])
                              | succ kj30 =>
                                have H := HA.out
                                clear HA
                                simp only [stipendlaw05_BandScales.j3] at H
                                by_cases c38 : x90_30 = true
                                · subst c38
                                  have H1 : (stipendlaw05_BandScales.l0 kj30 l0 a1 a2 t632 x9_3 l0 (l0.length : Int) (wrap64 (x63_3 + 1))) = some r := by rw [if_pos rfl] at H; exact H
                                  clear H
                                  have H := H1
                                  clear H1
                                  have H' := Aside0.mk H
                                  clear H
                                  go_wp2
                                  repeat (go_quiet (fail); try go_wp2)
                                  go_roundg kj30
                                  case measure => have := HJ8.out; have := HJ17.out; have := HK3.out; have := HJ30.out; omega
                                  case rel => exact ⟨(x9_3), (wrap64 (x63_3 + 1)), (by first | rfl | (simp; done) | (simp [*]; done)), (by first | rfl | (simp; done) | (simp [*]; done)), H', ⟨by have := HJ8.out; have := HJ17.out; have := HK3.out; have := HJ30.out; omega⟩, ⟨by (with_reducible repeat (first | apply Kd.R_alloc | apply Kd.R_drewN | apply Kd.R_drew)); exact Kd.R_mono HO_7.out (fun _ hk => trivial)⟩, ⟨by repeat (first | (with_reducible first | exact HB.out | apply below_alloc | apply pw_below_drewN | apply below_drew1 | refine below_set ?_ GE638.out) | exact HB.out)⟩⟩
                                · replace c38 := Bool.eq_false_iff.mpr c38
                                  subst c38
                                  have H1 : (if x9_3 ≥ (t632.length : Int) then (stipendlaw05_BandScales.j4 kj30 l0 a1 a2 t632 x9_3 l0 (l0.length : Int) x63_3 true) else (if 0 ≤ x9_3 then (if x9_3 < (t632.length : Int) then (stipendlaw05_BandScales.j4 kj30 l0 a1 a2 t632 x9_3 l0 (l0.length : Int) x63_3 (!(((rd_T106 t632 x9_3).f0) == t639) || (!(((rd_T106 t632 x9_3).f1) == ((rd_T106 l0 x63_3).f1)) || (!(((rd_T106 t632 x9_3).f2) == ((rd_T106 l0 x63_3).f2)))))) else (none)) else (none))) = some r := by rw [if_neg (show ¬ (false = true) by decide)] at H; exact H
                                  clear H
                                  have H := H1
                                  clear H1
                                  have HC39 := Aside0.mk H
                                  clear H
                                  go_upto_region 16 with (fail)
                                  repeat (go_quiet (fail); go_upto_region 16 with (fail))
                                  go_cut [107] (fun v107 wc => ∃ (kq : Nat) (x107_38 : Bool), v107 = .bool x107_38 ∧ Aside0 (stipendlaw05_BandScales.j4 kq l0 a1 a2 t632 x9_3 l0 (l0.length : Int) x63_3 x107_38 = some r) ∧ Aside0 (kq ≤ kj30) ∧ Aside0 (Kd.R k106 106 wc w.heap.size (fun k_ => k_ ≠ gb638) v634 t632) ∧ Aside0 (wc.heap[gb638]? = some (.cells #[.int .i64 ((rd_T106 l0 x63_3).f0), .int .i64 ((rd_T106 l0 x63_3).f1), .int .i64 ((rd_T106 l0 x63_3).f2)] 106 (0, 0))) ∧ Aside0 (Below w.heap.size w wc))
                                  case first =>
                                    have H := HC39.out
                                    clear HC39
                                    by_cases c40 : x9_3 ≥ (t632.length : Int)
                                    · rw [if_pos c40] at H
                                      have c40b0 : decide ((t632.length : Int) ≤ x9_3) = true := decide_eq_true c40
                                      clear c40
                                      (first | rw [c40b0] | (simp only [i64_w, i32_w]; rw [c40b0]) | skip)
                                      have H' := Aside0.mk H
                                      clear H
                                      obtain ⟨Ao41, co41, eo41⟩ := Kd.R_slice HO_7.out
                                      subst eo41
                                      go_wp2
                                      repeat (go_quiet (fail); try go_wp2)
                                      go_meet
                                      case rel => exact ⟨_, (true), (by first | rfl | (simp; done) | (simp [*]; done)), H', ⟨by have := HJ8.out; have := HJ17.out; have := HK3.out; have := HJ30.out; first | omega | exact Nat.le_refl _⟩, ⟨by (with_reducible repeat (first | apply Kd.R_alloc | apply Kd.R_drewN | apply Kd.R_drew)); exact HO_7.out⟩, ⟨by (with_reducible repeat (first | refine blk_drewN ?_ _ | refine blk_drew ?_ | refine blk_alloc ?_ _)); exact BK638.out⟩, ⟨by repeat (first | (with_reducible first | exact HB.out | apply below_alloc | apply pw_below_drewN | apply below_drew1 | refine below_set ?_ GE638.out) | exact HB.out)⟩⟩
                                    · rw [if_neg c40] at H
                                      have c40b0 : decide ((t632.length : Int) ≤ x9_3) = false := decide_eq_false c40
                                      clear c40
                                      (first | rw [c40b0] | (simp only [i64_w, i32_w]; rw [c40b0]) | skip)
                                      by_cases c42 : 0 ≤ x9_3
                                      · rw [if_pos c42] at H
                                        have c42b0 : decide (0 ≤ x9_3) = true := decide_eq_true c42
                                        clear c42
                                        by_cases c43 : x9_3 < (t632.length : Int)
                                        · rw [if_pos c43] at H
                                          have c43b0 : decide (x9_3 < (t632.length : Int)) = true := decide_eq_true c43
                                          clear c43
                                          have H' := Aside0.mk H
                                          clear H
                                          obtain ⟨Ao44, co44, eo44⟩ := Kd.R_slice HO_7.out
                                          subst eo44
                                          have p642 : 0 ≤ (x9_3 : Int) := of_decide_eq_true (by first | (with_reducible assumption) | assumption)
                                          have q642 : x9_3 < (t632.length : Int) := of_decide_eq_true (by first | (with_reducible assumption) | assumption)
                                          obtain ⟨ad642, e642, hx642_0, hx642_1, hx642_2⟩ := at_T106 (Kd.R_reads' HO_7.out).2.2 x9_3 p642 q642
                                          cases e642
                                          replace p642 := eq_true p642
                                          replace q642 := eq_true q642
                                          have hcz45_0 : wc.cell? ⟨gb638, 0, none⟩ = some (.int .i64 ((rd_T106 l0 x63_3).f0)) := (blk_cell BK638.out 0).trans rfl
                                          have hcz45_1 : wc.cell? ⟨gb638, 1, none⟩ = some (.int .i64 ((rd_T106 l0 x63_3).f1)) := (blk_cell BK638.out 1).trans rfl
                                          have hcz45_2 : wc.cell? ⟨gb638, 2, none⟩ = some (.int .i64 ((rd_T106 l0 x63_3).f2)) := (blk_cell BK638.out 2).trans rfl
                                          have hfz45_0 := blk_frozen BK638.out 0
                                          have hfz45_1 := blk_frozen BK638.out 1
                                          have hfz45_2 := blk_frozen BK638.out 2
                                          go_wp2
                                          repeat (go_quiet (fail); try go_wp2)
                                          go_meet
                                          case rel => exact ⟨_, ((!(((rd_T106 t632 x9_3).f0) == t639) || (!(((rd_T106 t632 x9_3).f1) == ((rd_T106 l0 x63_3).f1)) || (!(((rd_T106 t632 x9_3).f2) == ((rd_T106 l0 x63_3).f2)))))), (by first | rfl | (simp; done) | (simp [*]; done)), H', ⟨by have := HJ8.out; have := HJ17.out; have := HK3.out; have := HJ30.out; first | omega | exact Nat.le_refl _⟩, ⟨by (with_reducible repeat (first | apply Kd.R_alloc | apply Kd.R_drewN | apply Kd.R_drew)); exact HO_7.out⟩, ⟨by (with_reducible repeat (first | refine blk_drewN ?_ _ | refine blk_drew ?_ | refine blk_alloc ?_ _)); exact BK638.out⟩, ⟨by repeat (first | (with_reducible first | exact HB.out | apply below_alloc | apply pw_below_drewN | apply below_drew1 | refine below_set ?_ GE638.out) | exact HB.out)⟩⟩
                                        · rw [if_neg c43] at H
                                          exact absurd H (by simp)
                                      · rw [if_neg c42] at H
                                        exact absurd H (by simp)
                                  case rest =>
                                    clear HC39
                                    try clear c1
                                    try clear c2
                                    try clear p2
                                    try clear c3
                                    try clear c4
                                    try clear c5
                                    try clear p6
                                    try clear q6
                                    try clear hx6
                                    try clear c7
                                    try clear c7b0
                                    try clear c7b1
                                    try clear c11
                                    try clear c12
                                    try clear c12b0
                                    try clear c13
                                    try clear c13b0
                                    try clear c14
                                    try clear c14b0
                                    try clear c15
                                    try clear c16
                                    try clear c16b0
                                    try clear c16b1
                                    try clear c19
                                    try clear c19b0
                                    try clear c19b1
                                    try clear c21
                                    try clear c21b0
                                    try clear c21b1
                                    try clear c26
                                    try clear c27
                                    try clear c27b0
                                    try clear c28
                                    try clear c28b0
                                    try clear c29
                                    try clear c29b0
                                    try clear c34
                                    try clear c34b0
                                    try clear c36
                                    try clear c36b0
                                    try clear c38
                                    try clear c40
                                    try clear c40b0
                                    try clear c42
                                    try clear c42b0
                                    try clear c43
                                    try clear c43b0
                                    try clear hcz33_0
                                    try clear hcz33_1
                                    try clear hcz33_2
                                    try clear hcz45_0
                                    try clear hcz45_1
                                    try clear hcz45_2
                                    try clear hfz33_0
                                    try clear hfz33_1
                                    try clear hfz33_2
                                    try clear hfz45_0
                                    try clear hfz45_1
                                    try clear hfz45_2
                                    try clear hx637_0
                                    try clear hx637_1
                                    try clear hx637_2
                                    try clear hx640_0
                                    try clear hx640_1
                                    try clear hx640_2
                                    try clear hx642_0
                                    try clear hx642_1
                                    try clear hx642_2
                                    try clear p2
                                    try clear p6
                                    try clear p637
                                    try clear p640
                                    try clear p642
                                    try clear q6
                                    try clear q637
                                    try clear q640
                                    try clear q642
                                    obtain ⟨kq, x107_38, rfl, HA, HJ38, HO_7, BK638, HB⟩ := hcut
                                    cases kq with
                                    | zero => exact absurd HA.out (by simp [stipendlaw05_BandScales.j4])
                                    | succ kj38 =>
                                      have H := HA.out
                                      clear HA
                                      simp only [stipendlaw05_BandScales.j4] at H
                                      by_cases c46 : x107_38 = true
                                      · subst c46
                                        have H1 : (none) = some r := by rw [if_pos rfl] at H; exact H
                                        clear H
                                        have H := H1
                                        clear H1
                                        exact absurd H (by simp)
                                      · replace c46 := Bool.eq_false_iff.mpr c46
                                        subst c46
                                        have H1 : (stipendlaw05_BandScales.l0 kj38 l0 a1 a2 t632 (wrap64 (x9_3 + 1)) l0 (l0.length : Int) (wrap64 (x63_3 + 1))) = some r := by rw [if_neg (show ¬ (false = true) by decide)] at H; exact H
                                        clear H
                                        have H := H1
                                        clear H1
                                        have H' := Aside0.mk H
                                        clear H
                                        go_wp2
                                        repeat (go_quiet (fail); try go_wp2)
                                        go_roundg kj38
                                        case measure => have := HJ8.out; have := HJ17.out; have := HK3.out; have := HJ30.out; have := HJ38.out; omega
                                        case rel => exact ⟨(wrap64 (x9_3 + 1)), (wrap64 (x63_3 + 1)), (by first | rfl | (simp; done) | (simp [*]; done)), (by first | rfl | (simp; done) | (simp [*]; done)), H', ⟨by have := HJ8.out; have := HJ17.out; have := HK3.out; have := HJ30.out; have := HJ38.out; omega⟩, ⟨by (with_reducible repeat (first | apply Kd.R_alloc | apply Kd.R_drewN | apply Kd.R_drew)); exact Kd.R_mono HO_7.out (fun _ hk => trivial)⟩, ⟨by repeat (first | (with_reducible first | exact HB.out | apply below_alloc | apply pw_below_drewN | apply below_drew1 | refine below_set ?_ GE638.out) | exact HB.out)⟩⟩
                          · rw [if_neg c29] at H
                            exact absurd H (by simp)
                        · rw [if_neg c28] at H
                          exact absurd H (by simp)
                      · rw [if_neg c27] at H
                        have c27b0 : decide (x63_3 < (l0.length : Int)) = false := decide_eq_false c27
                        clear c27
                        obtain rfl := Option.some.inj H
                        obtain ⟨Ao47, co47, eo47⟩ := Kd.R_slice HO_7.out
                        subst eo47
                        go_wp2
                        repeat (go_quiet (fail); try go_wp2)
                        go_ret
                        exact ⟨by first | rfl | (simp [errW_none, errW_some] <;> rfl) | (simp [*, errW_none, errW_some] <;> rfl), by repeat (first | (with_reducible first | exact HB.out | apply below_alloc | apply pw_below_drewN | apply below_drew1) | exact HB.out)⟩
    · rw [if_neg c7] at H
      have c7b0 : (t631 == 0) = false := beq_eq_false_iff_ne.mpr c7
      have c7b1 : (t631 != 0) = true := bne_iff_ne.mpr c7
      obtain rfl := Option.some.inj H
      go_enter Try.func11, Try.ntmps11
      go_wp2_with (first | (go_at_call 32; (with_reducible refine (stipendlaw05_sums.calls k  true _ A4.out).mono ?_); rintro e w48 ⟨rfl, hb⟩; have n0_ := Aside0.mk (below_step (by repeat (first | (with_reducible first | exact HB.out | apply below_alloc | apply pw_below_drewN | apply below_drew1) | exact HB.out)) hb); clear HB; have HB := n0_; clear n0_; (try clear hb); (try clear hb2); (try clear hk); (try clear hi)) | (go_at_call 33; (with_reducible refine (stipendref05_Check.calls k _ _ l0 t631 _ ?side1 ?side2 A6.out).mono ?_); (case side1 => repeat (first | exact (Kd.C_below HR0.out HB.out) | (with_reducible refine Kd.C_alloc ?_ _) | (with_reducible refine Kd.C_drewN ?_ _) | (with_reducible refine Kd.C_drew ?_))); (case side2 => exact HC0.out); rintro e w' ⟨rfl, ⟨nd, rfl⟩⟩; (try first | exact ⟨rfl, _, World.drewN_drewN _ _ _⟩ | exact ⟨rfl, _, Eq.trans (World.drewN_drewN _ _ _) (congrArg (World.drewN _) (Nat.add_assoc _ _ _))⟩)))
      repeat (go_quiet (first | (go_at_call 32; (with_reducible refine (stipendlaw05_sums.calls k  true _ A4.out).mono ?_); rintro e w48 ⟨rfl, hb⟩; have n0_ := Aside0.mk (below_step (by repeat (first | (with_reducible first | exact HB.out | apply below_alloc | apply pw_below_drewN | apply below_drew1) | exact HB.out)) hb); clear HB; have HB := n0_; clear n0_; (try clear hb); (try clear hb2); (try clear hk); (try clear hi)) | (go_at_call 33; (with_reducible refine (stipendref05_Check.calls k _ _ l0 t631 _ ?side1 ?side2 A6.out).mono ?_); (case side1 => repeat (first | exact (Kd.C_below HR0.out HB.out) | (with_reducible refine Kd.C_alloc ?_ _) | (with_reducible refine Kd.C_drewN ?_ _) | (with_reducible refine Kd.C_drew ?_))); (case side2 => exact HC0.out); rintro e w' ⟨rfl, ⟨nd, rfl⟩⟩; (try first | exact ⟨rfl, _, World.drewN_drewN _ _ _⟩ | exact ⟨rfl, _, Eq.trans (World.drewN_drewN _ _ _) (congrArg (World.drewN _) (Nat.add_assoc _ _ _))⟩))); try go_wp2_with (first | (go_at_call 32; (with_reducible refine (stipendlaw05_sums.calls k  true _ A4.out).mono ?_); rintro e w48 ⟨rfl, hb⟩; have n0_ := Aside0.mk (below_step (by repeat (first | (with_reducible first | exact HB.out | apply below_alloc | apply pw_below_drewN | apply below_drew1) | exact HB.out)) hb); clear HB; have HB := n0_; clear n0_; (try clear hb); (try clear hb2); (try clear hk); (try clear hi)) | (go_at_call 33; (with_reducible refine (stipendref05_Check.calls k _ _ l0 t631 _ ?side1 ?side2 A6.out).mono ?_); (case side1 => repeat (first | exact (Kd.C_below HR0.out HB.out) | (with_reducible refine Kd.C_alloc ?_ _) | (with_reducible refine Kd.C_drewN ?_ _) | (with_reducible refine Kd.C_drew ?_))); (case side2 => exact HC0.out); rintro e w' ⟨rfl, ⟨nd, rfl⟩⟩; (try first | exact ⟨rfl, _, World.drewN_drewN _ _ _⟩ | exact ⟨rfl, _, Eq.trans (World.drewN_drewN _ _ _) (congrArg (World.drewN _) (Nat.add_assoc _ _ _))⟩))))
      go_ret
      exact ⟨by first | rfl | (simp [errW_none, errW_some] <;> rfl) | (simp [*, errW_none, errW_some] <;> rfl), by repeat (first | (with_reducible first | exact HB.out | apply below_alloc | apply pw_below_drewN | apply below_drew1) | exact HB.out)⟩
  · replace c5 := Bool.eq_false_iff.mpr c5
    subst c5
    have H1 : (none) = some r := by rw [if_neg (show ¬ (false = true) by decide)] at H; exact H
    clear H
    have H := H1
    clear H1
    exact absurd H (by simp)

end

end Go.Proofs.Ytcapgmoipacioaa.P
