import Derived.Test.YtcapgmoipacioaaPt
import Derived.Test.YtcapgmoipacioaaPpband
import Derived.Test.YtcapgmoipacioaaPpbandjoin
import Derived.Test.YtcapgmoipacioaaPpstipendlaw05
import Derived.Test.YtcapgmoipacioaaPpstipendref05
namespace Go.Proofs.Ytcapgmoipacioaa.P
open Go.RowKit Go.Proofs.YtcapgmoipacioaaW.PrintWords Go.Proofs.YtcapgmoipacioaaW.PrintLast Go.Proofs.YtcapgmoipacioaaW.PrintMore
attribute [local go_sem] max2_int min2_int max_two min_two max_three min_three max_four min_four
set_option linter.unusedVariables false
set_option linter.unusedSimpArgs false

/-! ### stipendlaw05_BandJoins: function 12 -/
mutual
def stipendlaw05_BandJoins.j0 : Nat → List (S106) → Int → Bool → Option (Bool)
  | 0, _, _, _ => none
  | k + 1, x0, x1, x22 => if x22 = true then (some true) else ((band_Join.f k x0).bind fun t645 => ((band_Same.f k x0 t645).bind fun t648 => (if t648 = true then (if (t645.length : Int) = 0 then (stipendlaw05_BandJoins.j1 k x0 x1 t645 true) else (if (t645.length : Int) > (x0.length : Int) then (stipendlaw05_BandJoins.j1 k x0 x1 t645 true) else ((band_Top.f k t645).bind fun t649 => ((band_Top.f k x0).bind fun t650 => (stipendlaw05_BandJoins.j1 k x0 x1 t645 (t649 != t650)))))) else (stipendlaw05_BandJoins.j1 k x0 x1 t645 true))))
def stipendlaw05_BandJoins.j1 : Nat → List (S106) → Int → List (S106) → Bool → Option (Bool)
  | 0, _, _, _, _ => none
  | k + 1, x0, x1, x5, x47 => if x47 = true then (none) else (stipendlaw05_BandJoins.l0 k x0 x1 x5 1)
def stipendlaw05_BandJoins.l0 : Nat → List (S106) → Int → List (S106) → Int → Option (Bool)
  | 0, _, _, _, _ => none
  | k + 1, x0, x1, x5, x6 => if x6 < (x5.length : Int) then (if 0 ≤ x6 then (if 0 ≤ (wrap64 (x6 - 1)) then (if (wrap64 (x6 - 1)) < (x5.length : Int) then (if ((rd_T106 x5 x6).f1) = ((rd_T106 x5 (wrap64 (x6 - 1))).f1) then (stipendlaw05_BandJoins.j3 k x0 x1 x5 x6 (((rd_T106 x5 x6).f2) == ((rd_T106 x5 (wrap64 (x6 - 1))).f2))) else (stipendlaw05_BandJoins.j3 k x0 x1 x5 x6 false)) else (none)) else (none)) else (none)) else ((band_Corners.f k x0).bind fun t655 => (if 1 ≤ (x0.length : Int) then ((some (x0.drop 1 : List (S106))).bind fun y658 => (stipendlaw05_BandJoins.l1 k x0 x1 x5 t655 y658 (y658.length : Int) 0)) else (none)))
def stipendlaw05_BandJoins.j3 : Nat → List (S106) → Int → List (S106) → Int → Bool → Option (Bool)
  | 0, _, _, _, _, _ => none
  | k + 1, x0, x1, x5, x6, x79 => if x79 = true then (none) else (stipendlaw05_BandJoins.l0 k x0 x1 x5 (wrap64 (x6 + 1)))
def stipendlaw05_BandJoins.l1 : Nat → List (S106) → Int → List (S106) → List Int → List (S106) → Int → Int → Option (Bool)
  | 0, _, _, _, _, _, _, _ => none
  | k + 1, x0, x1, x5, x7, x83, x84, x85 => if x85 < x84 then (if 0 ≤ x85 then (if x85 < (x83.length : Int) then (if (x7.length : Int) = (wrap64 ((x0.length : Int) - 1)) then (if x85 < (x7.length : Int) then (stipendlaw05_BandJoins.j5 k x0 x1 x5 x7 x83 x84 x85 ((rd x7 x85) != ((rd_T106 x83 x85).f0))) else (none)) else (stipendlaw05_BandJoins.j5 k x0 x1 x5 x7 x83 x84 x85 true)) else (none)) else (none)) else ((stipendref05_Exact.f k x1 x5 false).bind fun t665 => ((stipendref05_Exact.f k x1 x0 false).bind fun t666 => (if t665 = t666 then ((stipendref05_Exact.f k x1 x5 true).bind fun t667 => ((stipendref05_Exact.f k x1 x0 true).bind fun t668 => (some (t667 == t668)))) else (none))))
def stipendlaw05_BandJoins.j5 : Nat → List (S106) → Int → List (S106) → List Int → List (S106) → Int → Int → Bool → Option (Bool)
  | 0, _, _, _, _, _, _, _, _ => none
  | k + 1, x0, x1, x5, x7, x83, x84, x85, x104 => if x104 = true then (none) else (stipendlaw05_BandJoins.l1 k x0 x1 x5 x7 x83 x84 (wrap64 (x85 + 1)))
end
def stipendlaw05_BandJoins.f (k : Nat) (l0 : List (S106)) (a1 : Int) : Option (Bool) := (stipendlaw05_sums.f k).bind fun t643 => (if t643 = true then ((stipendref05_Check.f k l0).bind fun t644 => (if t644 = 0 then (if a1 > 100000000000 then (stipendlaw05_BandJoins.j0 k l0 a1 true) else (stipendlaw05_BandJoins.j0 k l0 a1 (decide (a1 < (-100000000000))))) else (stipendlaw05_BandJoins.j0 k l0 a1 true))) else (none))
theorem stipendlaw05_BandJoins.mono_l : ∀ k, (∀ y0 y1 y2, LeO (stipendlaw05_BandJoins.j0 k y0 y1 y2) (stipendlaw05_BandJoins.j0 (k + 1) y0 y1 y2)) ∧ (∀ y0 y1 y2 y3, LeO (stipendlaw05_BandJoins.j1 k y0 y1 y2 y3) (stipendlaw05_BandJoins.j1 (k + 1) y0 y1 y2 y3)) ∧ (∀ y0 y1 y2 y3, LeO (stipendlaw05_BandJoins.l0 k y0 y1 y2 y3) (stipendlaw05_BandJoins.l0 (k + 1) y0 y1 y2 y3)) ∧ (∀ y0 y1 y2 y3 y4, LeO (stipendlaw05_BandJoins.j3 k y0 y1 y2 y3 y4) (stipendlaw05_BandJoins.j3 (k + 1) y0 y1 y2 y3 y4)) ∧ (∀ y0 y1 y2 y3 y4 y5 y6, LeO (stipendlaw05_BandJoins.l1 k y0 y1 y2 y3 y4 y5 y6) (stipendlaw05_BandJoins.l1 (k + 1) y0 y1 y2 y3 y4 y5 y6)) ∧ (∀ y0 y1 y2 y3 y4 y5 y6 y7, LeO (stipendlaw05_BandJoins.j5 k y0 y1 y2 y3 y4 y5 y6 y7) (stipendlaw05_BandJoins.j5 (k + 1) y0 y1 y2 y3 y4 y5 y6 y7))
  | 0 => ⟨fun _ _ _ r h => by simp [stipendlaw05_BandJoins.j0] at h, fun _ _ _ _ r h => by simp [stipendlaw05_BandJoins.j1] at h, fun _ _ _ _ r h => by simp [stipendlaw05_BandJoins.l0] at h, fun _ _ _ _ _ r h => by simp [stipendlaw05_BandJoins.j3] at h, fun _ _ _ _ _ _ _ r h => by simp [stipendlaw05_BandJoins.l1] at h, fun _ _ _ _ _ _ _ _ r h => by simp [stipendlaw05_BandJoins.j5] at h⟩
  | k + 1 => by
    obtain ⟨ih0, ih1, ih2, ih3, ih4, ih5⟩ := stipendlaw05_BandJoins.mono_l k
    refine ⟨?_, ?_, ?_, ?_, ?_, ?_⟩
    · intro y0 y1 y2
      unfold stipendlaw05_BandJoins.j0
      repeat' first
      | (with_reducible exact ih0 _ _ _)
      | (with_reducible exact ih1 _ _ _ _)
      | (with_reducible exact ih2 _ _ _ _)
      | (with_reducible exact ih3 _ _ _ _ _)
      | (with_reducible exact ih4 _ _ _ _ _ _ _)
      | (with_reducible exact ih5 _ _ _ _ _ _ _ _)
      | (with_reducible exact band_Corners.mono _ _)
      | (with_reducible exact band_Join.mono _ _)
      | (with_reducible exact band_Same.mono _ _ _)
      | (with_reducible exact band_Top.mono _ _)
      | (with_reducible exact stipendlaw05_sums.mono _)
      | (with_reducible exact stipendref05_Check.mono _ _)
      | (with_reducible exact stipendref05_Exact.mono _ _ _ _)
      | (with_reducible exact LeO.refl _)
      | (with_reducible exact LeO.none _)
      | (with_reducible refine LeO.ite ?_ ?_)
      | (with_reducible refine LeO.bind ?_ (fun _ => ?_))
      | exact ih0 _ _ _
      | exact ih1 _ _ _ _
      | exact ih2 _ _ _ _
      | exact ih3 _ _ _ _ _
      | exact ih4 _ _ _ _ _ _ _
      | exact ih5 _ _ _ _ _ _ _ _
      | exact band_Corners.mono _ _
      | exact band_Join.mono _ _
      | exact band_Same.mono _ _ _
      | exact band_Top.mono _ _
      | exact stipendlaw05_sums.mono _
      | exact stipendref05_Check.mono _ _
      | exact stipendref05_Exact.mono _ _ _ _
      | exact LeO.none _
      | refine LeO.ite ?_ ?_
      | refine LeO.bind ?_ (fun _ => ?_)
    · intro y0 y1 y2 y3
      unfold stipendlaw05_BandJoins.j1
      repeat' first
      | (with_reducible exact ih0 _ _ _)
      | (with_reducible exact ih1 _ _ _ _)
      | (with_reducible exact ih2 _ _ _ _)
      | (with_reducible exact ih3 _ _ _ _ _)
      | (with_reducible exact ih4 _ _ _ _ _ _ _)
      | (with_reducible exact ih5 _ _ _ _ _ _ _ _)
      | (with_reducible exact band_Corners.mono _ _)
      | (with_reducible exact band_Join.mono _ _)
      | (with_reducible exact band_Same.mono _ _ _)
      | (with_reducible exact band_Top.mono _ _)
      | (with_reducible exact stipendlaw05_sums.mono _)
      | (with_reducible exact stipendref05_Check.mono _ _)
      | (with_reducible exact stipendref05_Exact.mono _ _ _ _)
      | (with_reducible exact LeO.refl _)
      | (with_reducible exact LeO.none _)
      | (with_reducible refine LeO.ite ?_ ?_)
      | (with_reducible refine LeO.bind ?_ (fun _ => ?_))
      | exact ih0 _ _ _
      | exact ih1 _ _ _ _
      | exact ih2 _ _ _ _
      | exact ih3 _ _ _ _ _
      | exact ih4 _ _ _ _ _ _ _
      | exact ih5 _ _ _ _ _ _ _ _
      | exact band_Corners.mono _ _
      | exact band_Join.mono _ _
      | exact band_Same.mono _ _ _
      | exact band_Top.mono _ _
      | exact stipendlaw05_sums.mono _
      | exact stipendref05_Check.mono _ _
      | exact stipendref05_Exact.mono _ _ _ _
      | exact LeO.none _
      | refine LeO.ite ?_ ?_
      | refine LeO.bind ?_ (fun _ => ?_)
    · intro y0 y1 y2 y3
      unfold stipendlaw05_BandJoins.l0
      repeat' first
      | (with_reducible exact ih0 _ _ _)
      | (with_reducible exact ih1 _ _ _ _)
      | (with_reducible exact ih2 _ _ _ _)
      | (with_reducible exact ih3 _ _ _ _ _)
      | (with_reducible exact ih4 _ _ _ _ _ _ _)
      | (with_reducible exact ih5 _ _ _ _ _ _ _ _)
      | (with_reducible exact band_Corners.mono _ _)
      | (with_reducible exact band_Join.mono _ _)
      | (with_reducible exact band_Same.mono _ _ _)
      | (with_reducible exact band_Top.mono _ _)
      | (with_reducible exact stipendlaw05_sums.mono _)
      | (with_reducible exact stipendref05_Check.mono _ _)
      | (with_reducible exact stipendref05_Exact.mono _ _ _ _)
      | (with_reducible exact LeO.refl _)
      | (with_reducible exact LeO.none _)
      | (with_reducible refine LeO.ite ?_ ?_)
      | (with_reducible refine LeO.bind ?_ (fun _ => ?_))
      | exact ih0 _ _ _
      | exact ih1 _ _ _ _
      | exact ih2 _ _ _ _
      | exact ih3 _ _ _ _ _
      | exact ih4 _ _ _ _ _ _ _
      | exact ih5 _ _ _ _ _ _ _ _
      | exact band_Corners.mono _ _
      | exact band_Join.mono _ _
      | exact band_Same.mono _ _ _
      | exact band_Top.mono _ _
      | exact stipendlaw05_sums.mono _
      | exact stipendref05_Check.mono _ _
      | exact stipendref05_Exact.mono _ _ _ _
      | exact LeO.none _
      | refine LeO.ite ?_ ?_
      | refine LeO.bind ?_ (fun _ => ?_)
    · intro y0 y1 y2 y3 y4
      unfold stipendlaw05_BandJoins.j3
      repeat' first
      | (with_reducible exact ih0 _ _ _)
      | (with_reducible exact ih1 _ _ _ _)
      | (with_reducible exact ih2 _ _ _ _)
      | (with_reducible exact ih3 _ _ _ _ _)
      | (with_reducible exact ih4 _ _ _ _ _ _ _)
      | (with_reducible exact ih5 _ _ _ _ _ _ _ _)
      | (with_reducible exact band_Corners.mono _ _)
      | (with_reducible exact band_Join.mono _ _)
      | (with_reducible exact band_Same.mono _ _ _)
      | (with_reducible exact band_Top.mono _ _)
      | (with_reducible exact stipendlaw05_sums.mono _)
      | (with_reducible exact stipendref05_Check.mono _ _)
      | (with_reducible exact stipendref05_Exact.mono _ _ _ _)
      | (with_reducible exact LeO.refl _)
      | (with_reducible exact LeO.none _)
      | (with_reducible refine LeO.ite ?_ ?_)
      | (with_reducible refine LeO.bind ?_ (fun _ => ?_))
      | exact ih0 _ _ _
      | exact ih1 _ _ _ _
      | exact ih2 _ _ _ _
      | exact ih3 _ _ _ _ _
      | exact ih4 _ _ _ _ _ _ _
      | exact ih5 _ _ _ _ _ _ _ _
      | exact band_Corners.mono _ _
      | exact band_Join.mono _ _
      | exact band_Same.mono _ _ _
      | exact band_Top.mono _ _
      | exact stipendlaw05_sums.mono _
      | exact stipendref05_Check.mono _ _
      | exact stipendref05_Exact.mono _ _ _ _
      | exact LeO.none _
      | refine LeO.ite ?_ ?_
      | refine LeO.bind ?_ (fun _ => ?_)
    · intro y0 y1 y2 y3 y4 y5 y6
      unfold stipendlaw05_BandJoins.l1
      repeat' first
      | (with_reducible exact ih0 _ _ _)
      | (with_reducible exact ih1 _ _ _ _)
      | (with_reducible exact ih2 _ _ _ _)
      | (with_reducible exact ih3 _ _ _ _ _)
      | (with_reducible exact ih4 _ _ _ _ _ _ _)
      | (with_reducible exact ih5 _ _ _ _ _ _ _ _)
      | (with_reducible exact band_Corners.mono _ _)
      | (with_reducible exact band_Join.mono _ _)
      | (with_reducible exact band_Same.mono _ _ _)
      | (with_reducible exact band_Top.mono _ _)
      | (with_reducible exact stipendlaw05_sums.mono _)
      | (with_reducible exact stipendref05_Check.mono _ _)
      | (with_reducible exact stipendref05_Exact.mono _ _ _ _)
      | (with_reducible exact LeO.refl _)
      | (with_reducible exact LeO.none _)
      | (with_reducible refine LeO.ite ?_ ?_)
      | (with_reducible refine LeO.bind ?_ (fun _ => ?_))
      | exact ih0 _ _ _
      | exact ih1 _ _ _ _
      | exact ih2 _ _ _ _
      | exact ih3 _ _ _ _ _
      | exact ih4 _ _ _ _ _ _ _
      | exact ih5 _ _ _ _ _ _ _ _
      | exact band_Corners.mono _ _
      | exact band_Join.mono _ _
      | exact band_Same.mono _ _ _
      | exact band_Top.mono _ _
      | exact stipendlaw05_sums.mono _
      | exact stipendref05_Check.mono _ _
      | exact stipendref05_Exact.mono _ _ _ _
      | exact LeO.none _
      | refine LeO.ite ?_ ?_
      | refine LeO.bind ?_ (fun _ => ?_)
    · intro y0 y1 y2 y3 y4 y5 y6 y7
      unfold stipendlaw05_BandJoins.j5
      repeat' first
      | (with_reducible exact ih0 _ _ _)
      | (with_reducible exact ih1 _ _ _ _)
      | (with_reducible exact ih2 _ _ _ _)
      | (with_reducible exact ih3 _ _ _ _ _)
      | (with_reducible exact ih4 _ _ _ _ _ _ _)
      | (with_reducible exact ih5 _ _ _ _ _ _ _ _)
      | (with_reducible exact band_Corners.mono _ _)
      | (with_reducible exact band_Join.mono _ _)
      | (with_reducible exact band_Same.mono _ _ _)
      | (with_reducible exact band_Top.mono _ _)
      | (with_reducible exact stipendlaw05_sums.mono _)
      | (with_reducible exact stipendref05_Check.mono _ _)
      | (with_reducible exact stipendref05_Exact.mono _ _ _ _)
      | (with_reducible exact LeO.refl _)
      | (with_reducible exact LeO.none _)
      | (with_reducible refine LeO.ite ?_ ?_)
      | (with_reducible refine LeO.bind ?_ (fun _ => ?_))
      | exact ih0 _ _ _
      | exact ih1 _ _ _ _
      | exact ih2 _ _ _ _
      | exact ih3 _ _ _ _ _
      | exact ih4 _ _ _ _ _ _ _
      | exact ih5 _ _ _ _ _ _ _ _
      | exact band_Corners.mono _ _
      | exact band_Join.mono _ _
      | exact band_Same.mono _ _ _
      | exact band_Top.mono _ _
      | exact stipendlaw05_sums.mono _
      | exact stipendref05_Check.mono _ _
      | exact stipendref05_Exact.mono _ _ _ _
      | exact LeO.none _
      | refine LeO.ite ?_ ?_
      | refine LeO.bind ?_ (fun _ => ?_)
theorem stipendlaw05_BandJoins.mono : ∀ a0 a1 k, LeO (stipendlaw05_BandJoins.f k a0 a1) (stipendlaw05_BandJoins.f (k + 1) a0 a1) := by
  intro a0 a1 k
  obtain ⟨ih0, ih1, ih2, ih3, ih4, ih5⟩ := stipendlaw05_BandJoins.mono_l k
  unfold stipendlaw05_BandJoins.f
  repeat' first
      | (with_reducible exact ih0 _ _ _)
      | (with_reducible exact ih1 _ _ _ _)
      | (with_reducible exact ih2 _ _ _ _)
      | (with_reducible exact ih3 _ _ _ _ _)
      | (with_reducible exact ih4 _ _ _ _ _ _ _)
      | (with_reducible exact ih5 _ _ _ _ _ _ _ _)
      | (with_reducible exact band_Corners.mono _ _)
      | (with_reducible exact band_Join.mono _ _)
      | (with_reducible exact band_Same.mono _ _ _)
      | (with_reducible exact band_Top.mono _ _)
      | (with_reducible exact stipendlaw05_sums.mono _)
      | (with_reducible exact stipendref05_Check.mono _ _)
      | (with_reducible exact stipendref05_Exact.mono _ _ _ _)
      | (with_reducible exact LeO.refl _)
      | (with_reducible exact LeO.none _)
      | (with_reducible refine LeO.ite ?_ ?_)
      | (with_reducible refine LeO.bind ?_ (fun _ => ?_))
      | exact ih0 _ _ _
      | exact ih1 _ _ _ _
      | exact ih2 _ _ _ _
      | exact ih3 _ _ _ _ _
      | exact ih4 _ _ _ _ _ _ _
      | exact ih5 _ _ _ _ _ _ _ _
      | exact band_Corners.mono _ _
      | exact band_Join.mono _ _
      | exact band_Same.mono _ _ _
      | exact band_Top.mono _ _
      | exact stipendlaw05_sums.mono _
      | exact stipendref05_Check.mono _ _
      | exact stipendref05_Exact.mono _ _ _ _
      | exact LeO.none _
      | refine LeO.ite ?_ ?_
      | refine LeO.bind ?_ (fun _ => ?_)
set_option maxHeartbeats 8000000 in
set_option maxRecDepth 100000 in
theorem stipendlaw05_BandJoins.calls (k : Nat) (A0 : Option Addr) (c0 : Nat) (l0 : List (S106)) (a1 : Int) (r : Bool) (w : World) (hr0 : Kd.C k106 w A0 l0.length l0) (hc0 : l0.length ≤ c0) (h : stipendlaw05_BandJoins.f k l0 a1 = some r) :
    Calls Try.prog 12 #[.slice A0 l0.length c0, .int .i64 a1] w fun e w' => e = .returned (.bool r) ∧ Below w.heap.size w w' := by
  have hu106 := Try.underlying106
  have HR0 := Aside0.mk hr0
  have HC0 := Aside0.mk hc0
  clear hr0 hc0
  have HB := Aside0.mk (Below.refl w.heap.size w)
  have H : ((stipendlaw05_sums.f k).bind fun t643 => (if t643 = true then ((stipendref05_Check.f k l0).bind fun t644 => (if t644 = 0 then (if a1 > 100000000000 then (stipendlaw05_BandJoins.j0 k l0 a1 true) else (stipendlaw05_BandJoins.j0 k l0 a1 (decide (a1 < (-100000000000))))) else (stipendlaw05_BandJoins.j0 k l0 a1 true))) else (none))) = some r := h
  clear h
  replace H := Option.bind_eq_some_iff.mp H
  obtain ⟨t643, A30, H⟩ := H
  replace H : (if t643 = true then ((stipendref05_Check.f k l0).bind fun t644 => (if t644 = 0 then (if a1 > 100000000000 then (stipendlaw05_BandJoins.j0 k l0 a1 true) else (stipendlaw05_BandJoins.j0 k l0 a1 (decide (a1 < (-100000000000))))) else (stipendlaw05_BandJoins.j0 k l0 a1 true))) else (none)) = some r := H
  have A3 := Aside0.mk A30
  clear A30
  by_cases c4 : t643 = true
  · subst c4
    have H1 : ((stipendref05_Check.f k l0).bind fun t644 => (if t644 = 0 then (if a1 > 100000000000 then (stipendlaw05_BandJoins.j0 k l0 a1 true) else (stipendlaw05_BandJoins.j0 k l0 a1 (decide (a1 < (-100000000000))))) else (stipendlaw05_BandJoins.j0 k l0 a1 true))) = some r := by rw [if_pos rfl] at H; exact H
    clear H
    have H := H1
    clear H1
    have HC5 := Aside0.mk H
    clear H
    go_enter Try.func12, Try.ntmps12
    go_upto_region 3 with (first | (go_at_call 32; (with_reducible refine (stipendlaw05_sums.calls k  true _ A3.out).mono ?_); rintro e w6 ⟨rfl, hb⟩; have n0_ := Aside0.mk (below_step (by repeat (first | (with_reducible first | exact HB.out | apply below_alloc | apply pw_below_drewN | apply below_drew1) | exact HB.out)) hb); clear HB; have HB := n0_; clear n0_; (try clear hb); (try clear hb2); (try clear hk); (try clear hi)))
    repeat (go_quiet (first | (go_at_call 32; (with_reducible refine (stipendlaw05_sums.calls k  true _ A3.out).mono ?_); rintro e w6 ⟨rfl, hb⟩; have n0_ := Aside0.mk (below_step (by repeat (first | (with_reducible first | exact HB.out | apply below_alloc | apply pw_below_drewN | apply below_drew1) | exact HB.out)) hb); clear HB; have HB := n0_; clear n0_; (try clear hb); (try clear hb2); (try clear hk); (try clear hi))); go_upto_region 3 with (first | (go_at_call 32; (with_reducible refine (stipendlaw05_sums.calls k  true _ A3.out).mono ?_); rintro e w6 ⟨rfl, hb⟩; have n0_ := Aside0.mk (below_step (by repeat (first | (with_reducible first | exact HB.out | apply below_alloc | apply pw_below_drewN | apply below_drew1) | exact HB.out)) hb); clear HB; have HB := n0_; clear n0_; (try clear hb); (try clear hb2); (try clear hk); (try clear hi))))
    (try simp only [Act.put, List.setIfInBounds_toArray, List.set_cons_zero, List.set_cons_succ])
    go_cut [22] (fun v22 wc => ∃ (kq : Nat) (x22_4 : Bool), v22 = .bool x22_4 ∧ Aside0 (stipendlaw05_BandJoins.j0 kq l0 a1 x22_4 = some r) ∧ Aside0 (kq ≤ k) ∧ Aside0 (Below w.heap.size w wc))
    case first =>
      have H := HC5.out
      clear HC5
      replace H := Option.bind_eq_some_iff.mp H
      obtain ⟨t644, A70, H⟩ := H
      replace H : (if t644 = 0 then (if a1 > 100000000000 then (stipendlaw05_BandJoins.j0 k l0 a1 true) else (stipendlaw05_BandJoins.j0 k l0 a1 (decide (a1 < (-100000000000))))) else (stipendlaw05_BandJoins.j0 k l0 a1 true)) = some r := H
      have A7 := Aside0.mk A70
      clear A70
      by_cases c8 : t644 = 0
      · rw [if_pos c8] at H
        have c8b0 : (t644 == 0) = true := beq_iff_eq.mpr c8
        have c8b1 : (t644 != 0) = false := bne_eq_false_iff_eq.mpr c8
        clear c8
        (first | rw [c8b0] | (simp only [i64_w, i32_w]; rw [c8b0]) | skip)
        by_cases c9 : a1 > 100000000000
        · rw [if_pos c9] at H
          have c9b0 : decide (100000000000 < a1) = true := decide_eq_true c9
          clear c9
          have H' := Aside0.mk H
          clear H
          go_wp2_with (first | (go_at_call 33; (with_reducible refine (stipendref05_Check.calls k _ _ l0 t644 _ ?side1 ?side2 A7.out).mono ?_); (case side1 => repeat (first | exact (Kd.C_below HR0.out HB.out) | (with_reducible refine Kd.C_alloc ?_ _) | (with_reducible refine Kd.C_drewN ?_ _) | (with_reducible refine Kd.C_drew ?_))); (case side2 => exact HC0.out); rintro e w' ⟨rfl, ⟨nd, rfl⟩⟩; (try first | exact ⟨rfl, _, World.drewN_drewN _ _ _⟩ | exact ⟨rfl, _, Eq.trans (World.drewN_drewN _ _ _) (congrArg (World.drewN _) (Nat.add_assoc _ _ _))⟩)))
          repeat (go_quiet (first | (go_at_call 33; (with_reducible refine (stipendref05_Check.calls k _ _ l0 t644 _ ?side1 ?side2 A7.out).mono ?_); (case side1 => repeat (first | exact (Kd.C_below HR0.out HB.out) | (with_reducible refine Kd.C_alloc ?_ _) | (with_reducible refine Kd.C_drewN ?_ _) | (with_reducible refine Kd.C_drew ?_))); (case side2 => exact HC0.out); rintro e w' ⟨rfl, ⟨nd, rfl⟩⟩; (try first | exact ⟨rfl, _, World.drewN_drewN _ _ _⟩ | exact ⟨rfl, _, Eq.trans (World.drewN_drewN _ _ _) (congrArg (World.drewN _) (Nat.add_assoc _ _ _))⟩))); try go_wp2_with (first | (go_at_call 33; (with_reducible refine (stipendref05_Check.calls k _ _ l0 t644 _ ?side1 ?side2 A7.out).mono ?_); (case side1 => repeat (first | exact (Kd.C_below HR0.out HB.out) | (with_reducible refine Kd.C_alloc ?_ _) | (with_reducible refine Kd.C_drewN ?_ _) | (with_reducible refine Kd.C_drew ?_))); (case side2 => exact HC0.out); rintro e w' ⟨rfl, ⟨nd, rfl⟩⟩; (try first | exact ⟨rfl, _, World.drewN_drewN _ _ _⟩ | exact ⟨rfl, _, Eq.trans (World.drewN_drewN _ _ _) (congrArg (World.drewN _) (Nat.add_assoc _ _ _))⟩))))
          go_meet
          case rel => exact ⟨_, (true), (by first | rfl | (simp; done) | (simp [*]; done)), H', ⟨by first | omega | exact Nat.le_refl _⟩, ⟨by repeat (first | (with_reducible first | exact HB.out | apply below_alloc | apply pw_below_drewN | apply below_drew1) | exact HB.out)⟩⟩
        · rw [if_neg c9] at H
          have c9b0 : decide (100000000000 < a1) = false := decide_eq_false c9
          clear c9
          have H' := Aside0.mk H
          clear H
          go_wp2_with (first | (go_at_call 33; (with_reducible refine (stipendref05_Check.calls k _ _ l0 t644 _ ?side1 ?side2 A7.out).mono ?_); (case side1 => repeat (first | exact (Kd.C_below HR0.out HB.out) | (with_reducible refine Kd.C_alloc ?_ _) | (with_reducible refine Kd.C_drewN ?_ _) | (with_reducible refine Kd.C_drew ?_))); (case side2 => exact HC0.out); rintro e w' ⟨rfl, ⟨nd, rfl⟩⟩; (try first | exact ⟨rfl, _, World.drewN_drewN _ _ _⟩ | exact ⟨rfl, _, Eq.trans (World.drewN_drewN _ _ _) (congrArg (World.drewN _) (Nat.add_assoc _ _ _))⟩)))
          repeat (go_quiet (first | (go_at_call 33; (with_reducible refine (stipendref05_Check.calls k _ _ l0 t644 _ ?side1 ?side2 A7.out).mono ?_); (case side1 => repeat (first | exact (Kd.C_below HR0.out HB.out) | (with_reducible refine Kd.C_alloc ?_ _) | (with_reducible refine Kd.C_drewN ?_ _) | (with_reducible refine Kd.C_drew ?_))); (case side2 => exact HC0.out); rintro e w' ⟨rfl, ⟨nd, rfl⟩⟩; (try first | exact ⟨rfl, _, World.drewN_drewN _ _ _⟩ | exact ⟨rfl, _, Eq.trans (World.drewN_drewN _ _ _) (congrArg (World.drewN _) (Nat.add_assoc _ _ _))⟩))); try go_wp2_with (first | (go_at_call 33; (with_reducible refine (stipendref05_Check.calls k _ _ l0 t644 _ ?side1 ?side2 A7.out).mono ?_); (case side1 => repeat (first | exact (Kd.C_below HR0.out HB.out) | (with_reducible refine Kd.C_alloc ?_ _) | (with_reducible refine Kd.C_drewN ?_ _) | (with_reducible refine Kd.C_drew ?_))); (case side2 => exact HC0.out); rintro e w' ⟨rfl, ⟨nd, rfl⟩⟩; (try first | exact ⟨rfl, _, World.drewN_drewN _ _ _⟩ | exact ⟨rfl, _, Eq.trans (World.drewN_drewN _ _ _) (congrArg (World.drewN _) (Nat.add_assoc _ _ _))⟩))))
          go_meet
          case rel => exact ⟨_, (decide (a1 < (-100000000000))), (by first | rfl | (simp; done) | (simp [*]; done)), H', ⟨by first | omega | exact Nat.le_refl _⟩, ⟨by repeat (first | (with_reducible first | exact HB.out | apply below_alloc | apply pw_below_drewN | apply below_drew1) | exact HB.out)⟩⟩
      · rw [if_neg c8] at H
        have c8b0 : (t644 == 0) = false := beq_eq_false_iff_ne.mpr c8
        have c8b1 : (t644 != 0) = true := bne_iff_ne.mpr c8
        (first | rw [c8b0] | (simp only [i64_w, i32_w]; rw [c8b0]) | skip)
        have H' := Aside0.mk H
        clear H
        go_wp2_with (first | (go_at_call 33; (with_reducible refine (stipendref05_Check.calls k _ _ l0 t644 _ ?side1 ?side2 A7.out).mono ?_); (case side1 => repeat (first | exact (Kd.C_below HR0.out HB.out) | (with_reducible refine Kd.C_alloc ?_ _) | (with_reducible refine Kd.C_drewN ?_ _) | (with_reducible refine Kd.C_drew ?_))); (case side2 => exact HC0.out); rintro e w' ⟨rfl, ⟨nd, rfl⟩⟩; (try first | exact ⟨rfl, _, World.drewN_drewN _ _ _⟩ | exact ⟨rfl, _, Eq.trans (World.drewN_drewN _ _ _) (congrArg (World.drewN _) (Nat.add_assoc _ _ _))⟩)))
        repeat (go_quiet (first | (go_at_call 33; (with_reducible refine (stipendref05_Check.calls k _ _ l0 t644 _ ?side1 ?side2 A7.out).mono ?_); (case side1 => repeat (first | exact (Kd.C_below HR0.out HB.out) | (with_reducible refine Kd.C_alloc ?_ _) | (with_reducible refine Kd.C_drewN ?_ _) | (with_reducible refine Kd.C_drew ?_))); (case side2 => exact HC0.out); rintro e w' ⟨rfl, ⟨nd, rfl⟩⟩; (try first | exact ⟨rfl, _, World.drewN_drewN _ _ _⟩ | exact ⟨rfl, _, Eq.trans (World.drewN_drewN _ _ _) (congrArg (World.drewN _) (Nat.add_assoc _ _ _))⟩))); try go_wp2_with (first | (go_at_call 33; (with_reducible refine (stipendref05_Check.calls k _ _ l0 t644 _ ?side1 ?side2 A7.out).mono ?_); (case side1 => repeat (first | exact (Kd.C_below HR0.out HB.out) | (with_reducible refine Kd.C_alloc ?_ _) | (with_reducible refine Kd.C_drewN ?_ _) | (with_reducible refine Kd.C_drew ?_))); (case side2 => exact HC0.out); rintro e w' ⟨rfl, ⟨nd, rfl⟩⟩; (try first | exact ⟨rfl, _, World.drewN_drewN _ _ _⟩ | exact ⟨rfl, _, Eq.trans (World.drewN_drewN _ _ _) (congrArg (World.drewN _) (Nat.add_assoc _ _ _))⟩))))
        go_meet
        case rel => exact ⟨_, (true), (by first | rfl | (simp; done) | (simp [*]; done)), H', ⟨by first | omega | exact Nat.le_refl _⟩, ⟨by repeat (first | (with_reducible first | exact HB.out | apply below_alloc | apply pw_below_drewN | apply below_drew1) | exact HB.out)⟩⟩
    case rest =>
      clear HC5
      try clear c1
      try clear p2
      try clear c4
      try clear c8
      try clear c8b0
      try clear c8b1
      try clear c9
      try clear c9b0
      obtain ⟨kq, x22_4, rfl, HA, HJ4, HB⟩ := hcut
      cases kq with
      | zero => exact absurd HA.out (by simp [stipendlaw05_BandJoins.j0])
      | succ kj4 =>
        have H := HA.out
        clear HA
        simp only [stipendlaw05_BandJoins.j0] at H
        by_cases c10 : x22_4 = true
        · subst c10
          have H1 : (some true) = some r := by rw [if_pos rfl] at H; exact H
          clear H
          have H := H1
          clear H1
          obtain rfl := Option.some.inj H
          go_wp2
          repeat (go_quiet (fail); try go_wp2)
          go_ret
          exact ⟨by first | rfl | (simp [errW_none, errW_some] <;> rfl) | (simp [*, errW_none, errW_some] <;> rfl), by repeat (first | (with_reducible first | exact HB.out | apply below_alloc | apply pw_below_drewN | apply below_drew1) | exact HB.out)⟩
        · replace c10 := Bool.eq_false_iff.mpr c10
          subst c10
          have H1 : ((band_Join.f kj4 l0).bind fun t645 => ((band_Same.f kj4 l0 t645).bind fun t648 => (if t648 = true then (if (t645.length : Int) = 0 then (stipendlaw05_BandJoins.j1 kj4 l0 a1 t645 true) else (if (t645.length : Int) > (l0.length : Int) then (stipendlaw05_BandJoins.j1 kj4 l0 a1 t645 true) else ((band_Top.f kj4 t645).bind fun t649 => ((band_Top.f kj4 l0).bind fun t650 => (stipendlaw05_BandJoins.j1 kj4 l0 a1 t645 (t649 != t650)))))) else (stipendlaw05_BandJoins.j1 kj4 l0 a1 t645 true)))) = some r := by rw [if_neg (show ¬ (false = true) by decide)] at H; exact H
          clear H
          have H := H1
          clear H1
          replace H := Option.bind_eq_some_iff.mp H
          obtain ⟨t645, A110, H⟩ := H
          replace H : ((band_Same.f kj4 l0 t645).bind fun t648 => (if t648 = true then (if (t645.length : Int) = 0 then (stipendlaw05_BandJoins.j1 kj4 l0 a1 t645 true) else (if (t645.length : Int) > (l0.length : Int) then (stipendlaw05_BandJoins.j1 kj4 l0 a1 t645 true) else ((band_Top.f kj4 t645).bind fun t649 => ((band_Top.f kj4 l0).bind fun t650 => (stipendlaw05_BandJoins.j1 kj4 l0 a1 t645 (t649 != t650)))))) else (stipendlaw05_BandJoins.j1 kj4 l0 a1 t645 true))) = some r := H
          have A11 := Aside0.mk A110
          clear A110
          have HC12 := Aside0.mk H
          clear H
          go_upto_region 6 with (first | (go_at_call 62; (with_reducible refine (band_Join.calls kj4 _ _ l0 t645 _ ?side1 ?side2 A11.out).mono ?_); (case side1 => repeat (first | exact (Kd.C_below HR0.out HB.out) | (with_reducible refine Kd.C_alloc ?_ _) | (with_reducible refine Kd.C_drewN ?_ _) | (with_reducible refine Kd.C_drew ?_))); (case side2 => exact HC0.out); rintro e w13 ⟨v646, rfl, ho0, hb⟩; have n0_ := Aside0.mk (Kd.R_lower ho0 (below_size (by repeat (first | (with_reducible first | exact HB.out | apply below_alloc | apply pw_below_drewN | apply below_drew1) | exact HB.out)))); have n1_ := Aside0.mk (below_step (by repeat (first | (with_reducible first | exact HB.out | apply below_alloc | apply pw_below_drewN | apply below_drew1) | exact HB.out)) hb); clear HB; have HO647 := n0_; have HB := n1_; clear n0_ n1_; (try clear hb); (try clear hb2); (try clear hk); (try clear hi); (try clear ho0)))
          repeat (go_quiet (first | (go_at_call 62; (with_reducible refine (band_Join.calls kj4 _ _ l0 t645 _ ?side1 ?side2 A11.out).mono ?_); (case side1 => repeat (first | exact (Kd.C_below HR0.out HB.out) | (with_reducible refine Kd.C_alloc ?_ _) | (with_reducible refine Kd.C_drewN ?_ _) | (with_reducible refine Kd.C_drew ?_))); (case side2 => exact HC0.out); rintro e w13 ⟨v646, rfl, ho0, hb⟩; have n0_ := Aside0.mk (Kd.R_lower ho0 (below_size (by repeat (first | (with_reducible first | exact HB.out | apply below_alloc | apply pw_below_drewN | apply below_drew1) | exact HB.out)))); have n1_ := Aside0.mk (below_step (by repeat (first | (with_reducible first | exact HB.out | apply below_alloc | apply pw_below_drewN | apply below_drew1) | exact HB.out)) hb); clear HB; have HO647 := n0_; have HB := n1_; clear n0_ n1_; (try clear hb); (try clear hb2); (try clear hk); (try clear hi); (try clear ho0))); go_upto_region 6 with (first | (go_at_call 62; (with_reducible refine (band_Join.calls kj4 _ _ l0 t645 _ ?side1 ?side2 A11.out).mono ?_); (case side1 => repeat (first | exact (Kd.C_below HR0.out HB.out) | (with_reducible refine Kd.C_alloc ?_ _) | (with_reducible refine Kd.C_drewN ?_ _) | (with_reducible refine Kd.C_drew ?_))); (case side2 => exact HC0.out); rintro e w13 ⟨v646, rfl, ho0, hb⟩; have n0_ := Aside0.mk (Kd.R_lower ho0 (below_size (by repeat (first | (with_reducible first | exact HB.out | apply below_alloc | apply pw_below_drewN | apply below_drew1) | exact HB.out)))); have n1_ := Aside0.mk (below_step (by repeat (first | (with_reducible first | exact HB.out | apply below_alloc | apply pw_below_drewN | apply below_drew1) | exact HB.out)) hb); clear HB; have HO647 := n0_; have HB := n1_; clear n0_ n1_; (try clear hb); (try clear hb2); (try clear hk); (try clear hi); (try clear ho0))))
          (try simp only [Act.put, List.setIfInBounds_toArray, List.set_cons_zero, List.set_cons_succ])
          go_cut [47] (fun v47 wc => ∃ (kq : Nat) (x47_11 : Bool), v47 = .bool x47_11 ∧ Aside0 (stipendlaw05_BandJoins.j1 kq l0 a1 t645 x47_11 = some r) ∧ Aside0 (kq ≤ kj4) ∧ Aside0 (Kd.R k106 106 wc w.heap.size (fun _ => True) v646 t645) ∧ Aside0 (Below w.heap.size w wc))
          case first =>
            have H := HC12.out
            clear HC12
            replace H := Option.bind_eq_some_iff.mp H
            obtain ⟨t648, A140, H⟩ := H
            replace H : (if t648 = true then (if (t645.length : Int) = 0 then (stipendlaw05_BandJoins.j1 kj4 l0 a1 t645 true) else (if (t645.length : Int) > (l0.length : Int) then (stipendlaw05_BandJoins.j1 kj4 l0 a1 t645 true) else ((band_Top.f kj4 t645).bind fun t649 => ((band_Top.f kj4 l0).bind fun t650 => (stipendlaw05_BandJoins.j1 kj4 l0 a1 t645 (t649 != t650)))))) else (stipendlaw05_BandJoins.j1 kj4 l0 a1 t645 true)) = some r := H
            have A14 := Aside0.mk A140
            clear A140
            by_cases c15 : t648 = true
            · subst c15
              have H1 : (if (t645.length : Int) = 0 then (stipendlaw05_BandJoins.j1 kj4 l0 a1 t645 true) else (if (t645.length : Int) > (l0.length : Int) then (stipendlaw05_BandJoins.j1 kj4 l0 a1 t645 true) else ((band_Top.f kj4 t645).bind fun t649 => ((band_Top.f kj4 l0).bind fun t650 => (stipendlaw05_BandJoins.j1 kj4 l0 a1 t645 (t649 != t650)))))) = some r := by rw [if_pos rfl] at H; exact H
              clear H
              have H := H1
              clear H1
              by_cases c16 : (t645.length : Int) = 0
              · rw [if_pos c16] at H
                have c16b0 : ((t645.length : Int) == 0) = true := beq_iff_eq.mpr c16
                have c16b1 : ((t645.length : Int) != 0) = false := bne_eq_false_iff_eq.mpr c16
                clear c16
                (first | rw [c16b0] | (simp only [i64_w, i32_w]; rw [c16b0]) | skip)
                have H' := Aside0.mk H
                clear H
                obtain ⟨Ao17, co17, eo17⟩ := Kd.R_slice HO647.out
                subst eo17
                go_wp2_with (first | (go_at_call 63; (with_reducible refine (band_Same.calls kj4 _ _ l0 _ _ t645 true _ ?side1 ?side2 ?side3 ?side4 A14.out).mono ?_); (case side1 => repeat (first | exact (Kd.C_below HR0.out HB.out) | (with_reducible refine Kd.C_alloc ?_ _) | (with_reducible refine Kd.C_drewN ?_ _) | (with_reducible refine Kd.C_drew ?_))); (case side2 => exact HC0.out); (case side3 => repeat (first | exact (Kd.R_reads' HO647.out).2.2 | (with_reducible refine Kd.C_alloc ?_ _) | (with_reducible refine Kd.C_drewN ?_ _) | (with_reducible refine Kd.C_drew ?_))); (case side4 => exact (Kd.R_reads' HO647.out).2.1); rintro e w18 ⟨rfl, hb⟩; have n0_ := Aside0.mk (Kd.R_below (by (with_reducible repeat (first | apply Kd.R_alloc | apply Kd.R_drewN | apply Kd.R_drew)); exact HO647.out) hb); have n1_ := Aside0.mk (below_step (by repeat (first | (with_reducible first | exact HB.out | apply below_alloc | apply pw_below_drewN | apply below_drew1) | exact HB.out)) hb); clear HO647; clear HB; have HO647 := n0_; have HB := n1_; clear n0_ n1_; (try clear hb); (try clear hb2); (try clear hk); (try clear hi)))
                repeat (go_quiet (first | (go_at_call 63; (with_reducible refine (band_Same.calls kj4 _ _ l0 _ _ t645 true _ ?side1 ?side2 ?side3 ?side4 A14.out).mono ?_); (case side1 => repeat (first | exact (Kd.C_below HR0.out HB.out) | (with_reducible refine Kd.C_alloc ?_ _) | (with_reducible refine Kd.C_drewN ?_ _) | (with_reducible refine Kd.C_drew ?_))); (case side2 => exact HC0.out); (case side3 => repeat (first | exact (Kd.R_reads' HO647.out).2.2 | (with_reducible refine Kd.C_alloc ?_ _) | (with_reducible refine Kd.C_drewN ?_ _) | (with_reducible refine Kd.C_drew ?_))); (case side4 => exact (Kd.R_reads' HO647.out).2.1); rintro e w18 ⟨rfl, hb⟩; have n0_ := Aside0.mk (Kd.R_below (by (with_reducible repeat (first | apply Kd.R_alloc | apply Kd.R_drewN | apply Kd.R_drew)); exact HO647.out) hb); have n1_ := Aside0.mk (below_step (by repeat (first | (with_reducible first | exact HB.out | apply below_alloc | apply pw_below_drewN | apply below_drew1) | exact HB.out)) hb); clear HO647; clear HB; have HO647 := n0_; have HB := n1_; clear n0_ n1_; (try clear hb); (try clear hb2); (try clear hk); (try clear hi))); try go_wp2_with (first | (go_at_call 63; (with_reducible refine (band_Same.calls kj4 _ _ l0 _ _ t645 true _ ?side1 ?side2 ?side3 ?side4 A14.out).mono ?_); (case side1 => repeat (first | exact (Kd.C_below HR0.out HB.out) | (with_reducible refine Kd.C_alloc ?_ _) | (with_reducible refine Kd.C_drewN ?_ _) | (with_reducible refine Kd.C_drew ?_))); (case side2 => exact HC0.out); (case side3 => repeat (first | exact (Kd.R_reads' HO647.out).2.2 | (with_reducible refine Kd.C_alloc ?_ _) | (with_reducible refine Kd.C_drewN ?_ _) | (with_reducible refine Kd.C_drew ?_))); (case side4 => exact (Kd.R_reads' HO647.out).2.1); rintro e w18 ⟨rfl, hb⟩; have n0_ := Aside0.mk (Kd.R_below (by (with_reducible repeat (first | apply Kd.R_alloc | apply Kd.R_drewN | apply Kd.R_drew)); exact HO647.out) hb); have n1_ := Aside0.mk (below_step (by repeat (first | (with_reducible first | exact HB.out | apply below_alloc | apply pw_below_drewN | apply below_drew1) | exact HB.out)) hb); clear HO647; clear HB; have HO647 := n0_; have HB := n1_; clear n0_ n1_; (try clear hb); (try clear hb2); (try clear hk); (try clear hi))))
                go_meet
                case rel => exact ⟨_, (true), (by first | rfl | (simp; done) | (simp [*]; done)), H', ⟨by have := HJ4.out; first | omega | exact Nat.le_refl _⟩, ⟨by (with_reducible repeat (first | apply Kd.R_alloc | apply Kd.R_drewN | apply Kd.R_drew)); exact HO647.out⟩, ⟨by repeat (first | (with_reducible first | exact HB.out | apply below_alloc | apply pw_below_drewN | apply below_drew1) | exact HB.out)⟩⟩
              · rw [if_neg c16] at H
                have c16b0 : ((t645.length : Int) == 0) = false := beq_eq_false_iff_ne.mpr c16
                have c16b1 : ((t645.length : Int) != 0) = true := bne_iff_ne.mpr c16
                have c16b2 : ¬ (t645 = []) := fun h_ => c16 (by rw [h_]; rfl)
                (first | rw [c16b0] | (simp only [i64_w, i32_w]; rw [c16b0]) | skip)
                by_cases c19 : (t645.length : Int) > (l0.length : Int)
                · rw [if_pos c19] at H
                  have c19b0 : decide ((l0.length : Int) < (t645.length : Int)) = true := decide_eq_true c19
                  have c19b1 : decide (l0.length < t645.length) = true := decide_eq_true (Int.ofNat_lt.mp c19)
                  clear c19
                  have H' := Aside0.mk H
                  clear H
                  obtain ⟨Ao20, co20, eo20⟩ := Kd.R_slice HO647.out
                  subst eo20
                  go_wp2_with (first | (go_at_call 63; (with_reducible refine (band_Same.calls kj4 _ _ l0 _ _ t645 true _ ?side1 ?side2 ?side3 ?side4 A14.out).mono ?_); (case side1 => repeat (first | exact (Kd.C_below HR0.out HB.out) | (with_reducible refine Kd.C_alloc ?_ _) | (with_reducible refine Kd.C_drewN ?_ _) | (with_reducible refine Kd.C_drew ?_))); (case side2 => exact HC0.out); (case side3 => repeat (first | exact (Kd.R_reads' HO647.out).2.2 | (with_reducible refine Kd.C_alloc ?_ _) | (with_reducible refine Kd.C_drewN ?_ _) | (with_reducible refine Kd.C_drew ?_))); (case side4 => exact (Kd.R_reads' HO647.out).2.1); rintro e w21 ⟨rfl, hb⟩; have n0_ := Aside0.mk (Kd.R_below (by (with_reducible repeat (first | apply Kd.R_alloc | apply Kd.R_drewN | apply Kd.R_drew)); exact HO647.out) hb); have n1_ := Aside0.mk (below_step (by repeat (first | (with_reducible first | exact HB.out | apply below_alloc | apply pw_below_drewN | apply below_drew1) | exact HB.out)) hb); clear HO647; clear HB; have HO647 := n0_; have HB := n1_; clear n0_ n1_; (try clear hb); (try clear hb2); (try clear hk); (try clear hi)))
                  repeat (go_quiet (first | (go_at_call 63; (with_reducible refine (band_Same.calls kj4 _ _ l0 _ _ t645 true _ ?side1 ?side2 ?side3 ?side4 A14.out).mono ?_); (case side1 => repeat (first | exact (Kd.C_below HR0.out HB.out) | (with_reducible refine Kd.C_alloc ?_ _) | (with_reducible refine Kd.C_drewN ?_ _) | (with_reducible refine Kd.C_drew ?_))); (case side2 => exact HC0.out); (case side3 => repeat (first | exact (Kd.R_reads' HO647.out).2.2 | (with_reducible refine Kd.C_alloc ?_ _) | (with_reducible refine Kd.C_drewN ?_ _) | (with_reducible refine Kd.C_drew ?_))); (case side4 => exact (Kd.R_reads' HO647.out).2.1); rintro e w21 ⟨rfl, hb⟩; have n0_ := Aside0.mk (Kd.R_below (by (with_reducible repeat (first | apply Kd.R_alloc | apply Kd.R_drewN | apply Kd.R_drew)); exact HO647.out) hb); have n1_ := Aside0.mk (below_step (by repeat (first | (with_reducible first | exact HB.out | apply below_alloc | apply pw_below_drewN | apply below_drew1) | exact HB.out)) hb); clear HO647; clear HB; have HO647 := n0_; have HB := n1_; clear n0_ n1_; (try clear hb); (try clear hb2); (try clear hk); (try clear hi))); try go_wp2_with (first | (go_at_call 63; (with_reducible refine (band_Same.calls kj4 _ _ l0 _ _ t645 true _ ?side1 ?side2 ?side3 ?side4 A14.out).mono ?_); (case side1 => repeat (first | exact (Kd.C_below HR0.out HB.out) | (with_reducible refine Kd.C_alloc ?_ _) | (with_reducible refine Kd.C_drewN ?_ _) | (with_reducible refine Kd.C_drew ?_))); (case side2 => exact HC0.out); (case side3 => repeat (first | exact (Kd.R_reads' HO647.out).2.2 | (with_reducible refine Kd.C_alloc ?_ _) | (with_reducible refine Kd.C_drewN ?_ _) | (with_reducible refine Kd.C_drew ?_))); (case side4 => exact (Kd.R_reads' HO647.out).2.1); rintro e w21 ⟨rfl, hb⟩; have n0_ := Aside0.mk (Kd.R_below (by (with_reducible repeat (first | apply Kd.R_alloc | apply Kd.R_drewN | apply Kd.R_drew)); exact HO647.out) hb); have n1_ := Aside0.mk (below_step (by repeat (first | (with_reducible first | exact HB.out | apply below_alloc | apply pw_below_drewN | apply below_drew1) | exact HB.out)) hb); clear HO647; clear HB; have HO647 := n0_; have HB := n1_; clear n0_ n1_; (try clear hb); (try clear hb2); (try clear hk); (try clear hi))))
                  go_meet
                  case rel => exact ⟨_, (true), (by first | rfl | (simp; done) | (simp [*]; done)), H', ⟨by have := HJ4.out; first | omega | exact Nat.le_refl _⟩, ⟨by (with_reducible repeat (first | apply Kd.R_alloc | apply Kd.R_drewN | apply Kd.R_drew)); exact HO647.out⟩, ⟨by repeat (first | (with_reducible first | exact HB.out | apply below_alloc | apply pw_below_drewN | apply below_drew1) | exact HB.out)⟩⟩
                · rw [if_neg c19] at H
                  have c19b0 : decide ((l0.length : Int) < (t645.length : Int)) = false := decide_eq_false c19
                  have c19b1 : decide (l0.length < t645.length) = false := decide_eq_false (fun h => c19 (Int.ofNat_lt.mpr h))
                  clear c19
                  replace H := Option.bind_eq_some_iff.mp H
                  obtain ⟨t649, A220, H⟩ := H
                  replace H : ((band_Top.f kj4 l0).bind fun t650 => (stipendlaw05_BandJoins.j1 kj4 l0 a1 t645 (t649 != t650))) = some r := H
                  have A22 := Aside0.mk A220
                  clear A220
                  replace H := Option.bind_eq_some_iff.mp H
                  obtain ⟨t650, A230, H⟩ := H
                  replace H : (stipendlaw05_BandJoins.j1 kj4 l0 a1 t645 (t649 != t650)) = some r := H
                  have A23 := Aside0.mk A230
                  clear A230
                  have H' := Aside0.mk H
                  clear H
                  obtain ⟨Ao24, co24, eo24⟩ := Kd.R_slice HO647.out
                  subst eo24
                  go_wp2_with (first | (go_at_call 63; (with_reducible refine (band_Same.calls kj4 _ _ l0 _ _ t645 true _ ?side1 ?side2 ?side3 ?side4 A14.out).mono ?_); (case side1 => repeat (first | exact (Kd.C_below HR0.out HB.out) | (with_reducible refine Kd.C_alloc ?_ _) | (with_reducible refine Kd.C_drewN ?_ _) | (with_reducible refine Kd.C_drew ?_))); (case side2 => exact HC0.out); (case side3 => repeat (first | exact (Kd.R_reads' HO647.out).2.2 | (with_reducible refine Kd.C_alloc ?_ _) | (with_reducible refine Kd.C_drewN ?_ _) | (with_reducible refine Kd.C_drew ?_))); (case side4 => exact (Kd.R_reads' HO647.out).2.1); rintro e w25 ⟨rfl, hb⟩; have n0_ := Aside0.mk (Kd.R_below (by (with_reducible repeat (first | apply Kd.R_alloc | apply Kd.R_drewN | apply Kd.R_drew)); exact HO647.out) hb); have n1_ := Aside0.mk (below_step (by repeat (first | (with_reducible first | exact HB.out | apply below_alloc | apply pw_below_drewN | apply below_drew1) | exact HB.out)) hb); clear HO647; clear HB; have HO647 := n0_; have HB := n1_; clear n0_ n1_; (try clear hb); (try clear hb2); (try clear hk); (try clear hi)) | (go_at_call 60; (with_reducible refine (band_Top.calls kj4 _ _ t645 t649 _ ?side1 ?side2 A22.out).mono ?_); (case side1 => repeat (first | exact (Kd.R_reads' HO647.out).2.2 | (with_reducible refine Kd.C_alloc ?_ _) | (with_reducible refine Kd.C_drewN ?_ _) | (with_reducible refine Kd.C_drew ?_))); (case side2 => exact (Kd.R_reads' HO647.out).2.1); rintro e w26 ⟨rfl, hb⟩; have n0_ := Aside0.mk (Kd.R_below (by (with_reducible repeat (first | apply Kd.R_alloc | apply Kd.R_drewN | apply Kd.R_drew)); exact HO647.out) hb); have n1_ := Aside0.mk (below_step (by repeat (first | (with_reducible first | exact HB.out | apply below_alloc | apply pw_below_drewN | apply below_drew1) | exact HB.out)) hb); clear HO647; clear HB; have HO647 := n0_; have HB := n1_; clear n0_ n1_; (try clear hb); (try clear hb2); (try clear hk); (try clear hi)) | (go_at_call 60; (with_reducible refine (band_Top.calls kj4 _ _ l0 t650 _ ?side1 ?side2 A23.out).mono ?_); (case side1 => repeat (first | exact (Kd.C_below HR0.out HB.out) | (with_reducible refine Kd.C_alloc ?_ _) | (with_reducible refine Kd.C_drewN ?_ _) | (with_reducible refine Kd.C_drew ?_))); (case side2 => exact HC0.out); rintro e w27 ⟨rfl, hb⟩; have n0_ := Aside0.mk (Kd.R_below (by (with_reducible repeat (first | apply Kd.R_alloc | apply Kd.R_drewN | apply Kd.R_drew)); exact HO647.out) hb); have n1_ := Aside0.mk (below_step (by repeat (first | (with_reducible first | exact HB.out | apply below_alloc | apply pw_below_drewN | apply below_drew1) | exact HB.out)) hb); clear HO647; clear HB; have HO647 := n0_; have HB := n1_; clear n0_ n1_; (try clear hb); (try clear hb2); (try clear hk); (try clear hi)))
                  repeat (go_quiet (first | (go_at_call 63; (with_reducible refine (band_Same.calls kj4 _ _ l0 _ _ t645 true _ ?side1 ?side2 ?side3 ?side4 A14.out).mono ?_); (case side1 => repeat (first | exact (Kd.C_below HR0.out HB.out) | (with_reducible refine Kd.C_alloc ?_ _) | (with_reducible refine Kd.C_drewN ?_ _) | (with_reducible refine Kd.C_drew ?_))); (case side2 => exact HC0.out); (case side3 => repeat (first | exact (Kd.R_reads' HO647.out).2.2 | (with_reducible refine Kd.C_alloc ?_ _) | (with_reducible refine Kd.C_drewN ?_ _) | (with_reducible refine Kd.C_drew ?_))); (case side4 => exact (Kd.R_reads' HO647.out).2.1); rintro e w25 ⟨rfl, hb⟩; have n0_ := Aside0.mk (Kd.R_below (by (with_reducible repeat (first | apply Kd.R_alloc | apply Kd.R_drewN | apply Kd.R_drew)); exact HO647.out) hb); have n1_ := Aside0.mk (below_step (by repeat (first | (with_reducible first | exact HB.out | apply below_alloc | apply pw_below_drewN | apply below_drew1) | exact HB.out)) hb); clear HO647; clear HB; have HO647 := n0_; have HB := n1_; clear n0_ n1_; (try clear hb); (try clear hb2); (try clear hk); (try clear hi)) | (go_at_call 60; (with_reducible refine (band_Top.calls kj4 _ _ t645 t649 _ ?side1 ?side2 A22.out).mono ?_); (case side1 => repeat (first | exact (Kd.R_reads' HO647.out).2.2 | (with_reducible refine Kd.C_alloc ?_ _) | (with_reducible refine Kd.C_drewN ?_ _) | (with_reducible refine Kd.C_drew ?_))); (case side2 => exact (Kd.R_reads' HO647.out).2.1); rintro e w26 ⟨rfl, hb⟩; have n0_ := Aside0.mk (Kd.R_below (by (with_reducible repeat (first | apply Kd.R_alloc | apply Kd.R_drewN | apply Kd.R_drew)); exact HO647.out) hb); have n1_ := Aside0.mk (below_step (by repeat (first | (with_reducible first | exact HB.out | apply below_alloc | apply pw_below_drewN | apply below_drew1) | exact HB.out)) hb); clear HO647; clear HB; have HO647 := n0_; have HB := n1_; clear n0_ n1_; (try clear hb); (try clear hb2); (try clear hk); (try clear hi)) | (go_at_call 60; (with_reducible refine (band_Top.calls kj4 _ _ l0 t650 _ ?side1 ?side2 A23.out).mono ?_); (case side1 => repeat (first | exact (Kd.C_below HR0.out HB.out) | (with_reducible refine Kd.C_alloc ?_ _) | (with_reducible refine Kd.C_drewN ?_ _) | (with_reducible refine Kd.C_drew ?_))); (case side2 => exact HC0.out); rintro e w27 ⟨rfl, hb⟩; have n0_ := Aside0.mk (Kd.R_below (by (with_reducible repeat (first | apply Kd.R_alloc | apply Kd.R_drewN | apply Kd.R_drew)); exact HO647.out) hb); have n1_ := Aside0.mk (below_step (by repeat (first | (with_reducible first | exact HB.out | apply below_alloc | apply pw_below_drewN | apply below_drew1) | exact HB.out)) hb); clear HO647; clear HB; have HO647 := n0_; have HB := n1_; clear n0_ n1_; (try clear hb); (try clear hb2); (try clear hk); (try clear hi))); try go_wp2_with (first | (go_at_call 63; (with_reducible refine (band_Same.calls kj4 _ _ l0 _ _ t645 true _ ?side1 ?side2 ?side3 ?side4 A14.out).mono ?_); (case side1 => repeat (first | exact (Kd.C_below HR0.out HB.out) | (with_reducible refine Kd.C_alloc ?_ _) | (with_reducible refine Kd.C_drewN ?_ _) | (with_reducible refine Kd.C_drew ?_))); (case side2 => exact HC0.out); (case side3 => repeat (first | exact (Kd.R_reads' HO647.out).2.2 | (with_reducible refine Kd.C_alloc ?_ _) | (with_reducible refine Kd.C_drewN ?_ _) | (with_reducible refine Kd.C_drew ?_))); (case side4 => exact (Kd.R_reads' HO647.out).2.1); rintro e w25 ⟨rfl, hb⟩; have n0_ := Aside0.mk (Kd.R_below (by (with_reducible repeat (first | apply Kd.R_alloc | apply Kd.R_drewN | apply Kd.R_drew)); exact HO647.out) hb); have n1_ := Aside0.mk (below_step (by repeat (first | (with_reducible first | exact HB.out | apply below_alloc | apply pw_below_drewN | apply below_drew1) | exact HB.out)) hb); clear HO647; clear HB; have HO647 := n0_; have HB := n1_; clear n0_ n1_; (try clear hb); (try clear hb2); (try clear hk); (try clear hi)) | (go_at_call 60; (with_reducible refine (band_Top.calls kj4 _ _ t645 t649 _ ?side1 ?side2 A22.out).mono ?_); (case side1 => repeat (first | exact (Kd.R_reads' HO647.out).2.2 | (with_reducible refine Kd.C_alloc ?_ _) | (with_reducible refine Kd.C_drewN ?_ _) | (with_reducible refine Kd.C_drew ?_))); (case side2 => exact (Kd.R_reads' HO647.out).2.1); rintro e w26 ⟨rfl, hb⟩; have n0_ := Aside0.mk (Kd.R_below (by (with_reducible repeat (first | apply Kd.R_alloc | apply Kd.R_drewN | apply Kd.R_drew)); exact HO647.out) hb); have n1_ := Aside0.mk (below_step (by repeat (first | (with_reducible first | exact HB.out | apply below_alloc | apply pw_below_drewN | apply below_drew1) | exact HB.out)) hb); clear HO647; clear HB; have HO647 := n0_; have HB := n1_; clear n0_ n1_; (try clear hb); (try clear hb2); (try clear hk); (try clear hi)) | (go_at_call 60; (with_reducible refine (band_Top.calls kj4 _ _ l0 t650 _ ?side1 ?side2 A23.out).mono ?_); (case side1 => repeat (first | exact (Kd.C_below HR0.out HB.out) | (with_reducible refine Kd.C_alloc ?_ _) | (with_reducible refine Kd.C_drewN ?_ _) | (with_reducible refine Kd.C_drew ?_))); (case side2 => exact HC0.out); rintro e w27 ⟨rfl, hb⟩; have n0_ := Aside0.mk (Kd.R_below (by (with_reducible repeat (first | apply Kd.R_alloc | apply Kd.R_drewN | apply Kd.R_drew)); exact HO647.out) hb); have n1_ := Aside0.mk (below_step (by repeat (first | (with_reducible first | exact HB.out | apply below_alloc | apply pw_below_drewN | apply below_drew1) | exact HB.out)) hb); clear HO647; clear HB; have HO647 := n0_; have HB := n1_; clear n0_ n1_; (try clear hb); (try clear hb2); (try clear hk); (try clear hi))))
                  go_meet
                  case rel => exact ⟨_, ((t649 != t650)), (by first | rfl | (simp; done) | (simp [*]; done)), H', ⟨by have := HJ4.out; first | omega | exact Nat.le_refl _⟩, ⟨by (with_reducible repeat (first | apply Kd.R_alloc | apply Kd.R_drewN | apply Kd.R_drew)); exact HO647.out⟩, ⟨by repeat (first | (with_reducible first | exact HB.out | apply below_alloc | apply pw_below_drewN | apply below_drew1) | exact HB.out)⟩⟩
            · replace c15 := Bool.eq_false_iff.mpr c15
              subst c15
              have H1 : (stipendlaw05_BandJoins.j1 kj4 l0 a1 t645 true) = some r := by rw [if_neg (show ¬ (false = true) by decide)] at H; exact H
              clear H
              have H := H1
              clear H1
              have H' := Aside0.mk H
              clear H
              obtain ⟨Ao28, co28, eo28⟩ := Kd.R_slice HO647.out
              subst eo28
              go_wp2_with (first | (go_at_call 63; (with_reducible refine (band_Same.calls kj4 _ _ l0 _ _ t645 false _ ?side1 ?side2 ?side3 ?side4 A14.out).mono ?_); (case side1 => repeat (first | exact (Kd.C_below HR0.out HB.out) | (with_reducible refine Kd.C_alloc ?_ _) | (with_reducible refine Kd.C_drewN ?_ _) | (with_reducible refine Kd.C_drew ?_))); (case side2 => exact HC0.out); (case side3 => repeat (first | exact (Kd.R_reads' HO647.out).2.2 | (with_reducible refine Kd.C_alloc ?_ _) | (with_reducible refine Kd.C_drewN ?_ _) | (with_reducible refine Kd.C_drew ?_))); (case side4 => exact (Kd.R_reads' HO647.out).2.1); rintro e w29 ⟨rfl, hb⟩; have n0_ := Aside0.mk (Kd.R_below (by (with_reducible repeat (first | apply Kd.R_alloc | apply Kd.R_drewN | apply Kd.R_drew)); exact HO647.out) hb); have n1_ := Aside0.mk (below_step (by repeat (first | (with_reducible first | exact HB.out | apply below_alloc | apply pw_below_drewN | apply below_drew1) | exact HB.out)) hb); clear HO647; clear HB; have HO647 := n0_; have HB := n1_; clear n0_ n1_; (try clear hb); (try clear hb2); (try clear hk); (try clear hi)))
              repeat (go_quiet (first | (go_at_call 63; (with_reducible refine (band_Same.calls kj4 _ _ l0 _ _ t645 false _ ?side1 ?side2 ?side3 ?side4 A14.out).mono ?_); (case side1 => repeat (first | exact (Kd.C_below HR0.out HB.out) | (with_reducible refine Kd.C_alloc ?_ _) | (with_reducible refine Kd.C_drewN ?_ _) | (with_reducible refine Kd.C_drew ?_))); (case side2 => exact HC0.out); (case side3 => repeat (first | exact (Kd.R_reads' HO647.out).2.2 | (with_reducible refine Kd.C_alloc ?_ _) | (with_reducible refine Kd.C_drewN ?_ _) | (with_reducible refine Kd.C_drew ?_))); (case side4 => exact (Kd.R_reads' HO647.out).2.1); rintro e w29 ⟨rfl, hb⟩; have n0_ := Aside0.mk (Kd.R_below (by (with_reducible repeat (first | apply Kd.R_alloc | apply Kd.R_drewN | apply Kd.R_drew)); exact HO647.out) hb); have n1_ := Aside0.mk (below_step (by repeat (first | (with_reducible first | exact HB.out | apply below_alloc | apply pw_below_drewN | apply below_drew1) | exact HB.out)) hb); clear HO647; clear HB; have HO647 := n0_; have HB := n1_; clear n0_ n1_; (try clear hb); (try clear hb2); (try clear hk); (try clear hi))); try go_wp2_with (first | (go_at_call 63; (with_reducible refine (band_Same.calls kj4 _ _ l0 _ _ t645 false _ ?side1 ?side2 ?side3 ?side4 A14.out).mono ?_); (case side1 => repeat (first | exact (Kd.C_below HR0.out HB.out) | (with_reducible refine Kd.C_alloc ?_ _) | (with_reducible refine Kd.C_drewN ?_ _) | (with_reducible refine Kd.C_drew ?_))); (case side2 => exact HC0.out); (case side3 => repeat (first | exact (Kd.R_reads' HO647.out).2.2 | (with_reducible refine Kd.C_alloc ?_ _) | (with_reducible refine Kd.C_drewN ?_ _) | (with_reducible refine Kd.C_drew ?_))); (case side4 => exact (Kd.R_reads' HO647.out).2.1); rintro e w29 ⟨rfl, hb⟩; have n0_ := Aside0.mk (Kd.R_below (by (with_reducible repeat (first | apply Kd.R_alloc | apply Kd.R_drewN | apply Kd.R_drew)); exact HO647.out) hb); have n1_ := Aside0.mk (below_step (by repeat (first | (with_reducible first | exact HB.out | apply below_alloc | apply pw_below_drewN | apply below_drew1) | exact HB.out)) hb); clear HO647; clear HB; have HO647 := n0_; have HB := n1_; clear n0_ n1_; (try clear hb); (try clear hb2); (try clear hk); (try clear hi))))
              go_meet
              case rel => exact ⟨_, (true), (by first | rfl | (simp; done) | (simp [*]; done)), H', ⟨by have := HJ4.out; first | omega | exact Nat.le_refl _⟩, ⟨by (with_reducible repeat (first | apply Kd.R_alloc | apply Kd.R_drewN | apply Kd.R_drew)); exact HO647.out⟩, ⟨by repeat (first | (with_reducible first | exact HB.out | apply below_alloc | apply pw_below_drewN | apply below_drew1) | exact HB.out)⟩⟩
          case rest =>
            clear HC12
            try clear c1
            try clear p2
            try clear c4
            try clear c8
            try clear c8b0
            try clear c8b1
            try clear c9
            try clear c9b0
            try clear c10
            try clear c12
            try clear c15
            try clear c16
            try clear c16b0
            try clear c16b1
            try clear c16b2
            try clear c19
            try clear c19b0
            try clear c19b1
            try clear p2
            obtain ⟨kq, x47_11, rfl, HA, HJ11, HO_5, HB⟩ := hcut
            cases kq with
            | zero => exact absurd HA.out (by simp [stipendlaw05_BandJoins.j1])
            | succ kj11 =>
              have H := HA.out
              clear HA
              simp only [stipendlaw05_BandJoins.j1] at H
              by_cases c30 : x47_11 = true
              · subst c30
                have H1 : (none) = some r := by rw [if_pos rfl] at H; exact H
                clear H
                have H := H1
                clear H1
                exact absurd H (by simp)
              · replace c30 := Bool.eq_false_iff.mpr c30
                subst c30
                have H1 : (stipendlaw05_BandJoins.l0 kj11 l0 a1 t645 1) = some r := by rw [if_neg (show ¬ (false = true) by decide)] at H; exact H
                clear H
                have H := H1
                clear H1
                have H' := Aside0.mk H
                clear H
                go_wp2
                repeat (go_quiet (fail); try go_wp2)
                go_loopg [6] kj11 (fun kq v6 w' => ∃ (x6_3 : Int), v6 = .int .i64 x6_3 ∧ Aside0 (stipendlaw05_BandJoins.l0 kq l0 a1 t645 x6_3 = some r) ∧ Aside0 (kq ≤ kj11) ∧ Aside0 (Kd.R k106 106 w' w.heap.size (fun _ => True) v646 t645) ∧ Aside0 (Below w.heap.size w w'))
                case atStart => exact ⟨(1), (by first | rfl | (simp; done) | (simp [*]; done)), H', ⟨Nat.le_refl _⟩, ⟨by (with_reducible repeat (first | apply Kd.R_alloc | apply Kd.R_drewN | apply Kd.R_drew)); exact HO_5.out⟩, ⟨by repeat (first | (with_reducible first | exact HB.out | apply below_alloc | apply pw_below_drewN | apply below_drew1) | exact HB.out)⟩⟩
                case round =>
                  clear H'
                  try clear c1
                  try clear p2
                  try clear c3
                  try clear c4
                  try clear c8
                  try clear c8b0
                  try clear c8b1
                  try clear c9
                  try clear c9b0
                  try clear c10
                  try clear c12
                  try clear c15
                  try clear c16
                  try clear c16b0
                  try clear c16b1
                  try clear c16b2
                  try clear c19
                  try clear c19b0
                  try clear c19b1
                  try clear c30
                  try clear p2
                  obtain ⟨x6_3, rfl, HA, HK3, HO_5, HB⟩ := hrel
                  cases gk with
                  | zero => exact absurd HA.out (by simp [stipendlaw05_BandJoins.l0])
                  | succ k3 =>
                    have H := HA.out
                    clear HA
                    simp only [stipendlaw05_BandJoins.l0] at H
                    by_cases c31 : x6_3 < (t645.length : Int)
                    · rw [if_pos c31] at H
                      have c31b0 : decide (x6_3 < (t645.length : Int)) = true := decide_eq_true c31
                      clear c31
                      have HC32 := Aside0.mk H
                      clear H
                      obtain ⟨Ao33, co33, eo33⟩ := Kd.R_slice HO_5.out
                      subst eo33
                      go_upto_region 11 with (fail)
                      repeat (go_quiet (fail); go_upto_region 11 with (fail))
                      go_cut [79] (fun v79 wc => ∃ (kq : Nat) (x79_31 : Bool), v79 = .bool x79_31 ∧ Aside0 (stipendlaw05_BandJoins.j3 kq l0 a1 t645 x6_3 x79_31 = some r) ∧ Aside0 (kq ≤ k3) ∧ Aside0 (Kd.R k106 106 wc w.heap.size (fun _ => True) (.slice Ao33 t645.length co33) t645) ∧ Aside0 (Below w.heap.size w wc))
                      case first =>
                        have H := HC32.out
                        clear HC32
                        by_cases c34 : 0 ≤ x6_3
                        · rw [if_pos c34] at H
                          have c34b0 : decide (0 ≤ x6_3) = true := decide_eq_true c34
                          clear c34
                          (first | rw [c34b0] | (simp only [i64_w, i32_w]; rw [c34b0]) | skip)
                          obtain ⟨ji35, hji35⟩ : ∃ j_ : Int, (wrap64 (x6_3 - 1)) = j_ := ⟨_, rfl⟩
                          replace H : (if 0 ≤ (ji35) then (if (ji35) < (t645.length : Int) then (if ((rd_T106 t645 x6_3).f1) = ((rd_T106 t645 (ji35)).f1) then (stipendlaw05_BandJoins.j3 k3 l0 a1 t645 x6_3 (((rd_T106 t645 x6_3).f2) == ((rd_T106 t645 (ji35)).f2))) else (stipendlaw05_BandJoins.j3 k3 l0 a1 t645 x6_3 false)) else (none)) else (none)) = some r := by first | (rw [hji35] at H; exact H) | (simp only [hji35] at H ⊢; exact H)
                          have hji35w : (IntKind.i64.wrap (x6_3 - 1)) = ji35 := (i64_w _).trans hji35
                          by_cases c36 : 0 ≤ (ji35)
                          · rw [if_pos c36] at H
                            have c36b0 : decide (0 ≤ (ji35)) = true := decide_eq_true c36
                            clear c36
                            by_cases c37 : (ji35) < (t645.length : Int)
                            · rw [if_pos c37] at H
                              have c37b0 : decide ((ji35) < (t645.length : Int)) = true := decide_eq_true c37
                              clear c37
                              by_cases c38 : ((rd_T106 t645 x6_3).f1) = ((rd_T106 t645 (ji35)).f1)
                              · rw [if_pos c38] at H
                                have c38b0 : (((rd_T106 t645 x6_3).f1) == ((rd_T106 t645 (ji35)).f1)) = true := beq_iff_eq.mpr c38
                                have c38b1 : (((rd_T106 t645 x6_3).f1) != ((rd_T106 t645 (ji35)).f1)) = false := bne_eq_false_iff_eq.mpr c38
                                clear c38
                                have H' := Aside0.mk H
                                clear H
                                have p651 : 0 ≤ (x6_3 : Int) := of_decide_eq_true (by first | (with_reducible assumption) | assumption)
                                have q651 : x6_3 < (t645.length : Int) := of_decide_eq_true (by first | (with_reducible assumption) | assumption)
                                obtain ⟨ad651, e651, hx651_0, hx651_1, hx651_2⟩ := at_T106 (Kd.R_reads' HO_5.out).2.2 x6_3 p651 q651
                                cases e651
                                replace p651 := eq_true p651
                                replace q651 := eq_true q651
                                have p652 : 0 ≤ ((ji35) : Int) := of_decide_eq_true (by first | (with_reducible assumption) | assumption)
                                have q652 : (ji35) < (t645.length : Int) := of_decide_eq_true (by first | (with_reducible assumption) | assumption)
                                obtain ⟨ad652, e652, hx652_0, hx652_1, hx652_2⟩ := at_T106 (Kd.R_reads' HO_5.out).2.2 (ji35) p652 q652
                                obtain rfl : ad651 = ad652 := (by injection e652)
                                replace p652 := eq_true p652
                                replace q652 := eq_true q652
                                have p653 : 0 ≤ (x6_3 : Int) := of_decide_eq_true (by first | (with_reducible assumption) | assumption)
                                have q653 : x6_3 < (t645.length : Int) := of_decide_eq_true (by first | (with_reducible assumption) | assumption)
                                obtain ⟨ad653, e653, hx653_0, hx653_1, hx653_2⟩ := at_T106 (Kd.R_reads' HO_5.out).2.2 x6_3 p653 q653
                                obtain rfl : ad651 = ad653 := (by injection e653)
                                replace p653 := eq_true p653
                                replace q653 := eq_true q653
                                have p654 : 0 ≤ ((ji35) : Int) := of_decide_eq_true (by first | (with_reducible assumption) | assumption)
                                have q654 : (ji35) < (t645.length : Int) := of_decide_eq_true (by first | (with_reducible assumption) | assumption)
                                obtain ⟨ad654, e654, hx654_0, hx654_1, hx654_2⟩ := at_T106 (Kd.R_reads' HO_5.out).2.2 (ji35) p654 q654
                                obtain rfl : ad651 = ad654 := (by injection e654)
                                replace p654 := eq_true p654
                                replace q654 := eq_true q654
                                go_wp2
                                repeat (go_quiet (fail); try go_wp2)
                                go_meet
                                case rel => exact ⟨_, ((((rd_T106 t645 x6_3).f2) == ((rd_T106 t645 (ji35)).f2))), (by first | rfl | (simp; done) | (simp only [← hji35] <;> (first | rfl | simp)) | (simp [*]; done)), H', ⟨by have := HJ4.out; have := HJ11.out; have := HK3.out; first | omega | exact Nat.le_refl _⟩, ⟨by (with_reducible repeat (first | apply Kd.R_alloc | apply Kd.R_drewN | apply Kd.R_drew)); exact HO_5.out⟩, ⟨by repeat (first | (with_reducible first | exact HB.out | apply below_alloc | apply pw_below_drewN | apply below_drew1) | exact HB.out)⟩⟩
                              · rw [if_neg c38] at H
                                have c38b0 : (((rd_T106 t645 x6_3).f1) == ((rd_T106 t645 (ji35)).f1)) = false := beq_eq_false_iff_ne.mpr c38
                                have c38b1 : (((rd_T106 t645 x6_3).f1) != ((rd_T106 t645 (ji35)).f1)) = true := bne_iff_ne.mpr c38
                                have H' := Aside0.mk H
                                clear H
                                have p651 : 0 ≤ (x6_3 : Int) := of_decide_eq_true (by first | (with_reducible assumption) | assumption)
                                have q651 : x6_3 < (t645.length : Int) := of_decide_eq_true (by first | (with_reducible assumption) | assumption)
                                obtain ⟨ad651, e651, hx651_0, hx651_1, hx651_2⟩ := at_T106 (Kd.R_reads' HO_5.out).2.2 x6_3 p651 q651
                                cases e651
                                replace p651 := eq_true p651
                                replace q651 := eq_true q651
                                have p652 : 0 ≤ ((ji35) : Int) := of_decide_eq_true (by first | (with_reducible assumption) | assumption)
                                have q652 : (ji35) < (t645.length : Int) := of_decide_eq_true (by first | (with_reducible assumption) | assumption)
                                obtain ⟨ad652, e652, hx652_0, hx652_1, hx652_2⟩ := at_T106 (Kd.R_reads' HO_5.out).2.2 (ji35) p652 q652
                                obtain rfl : ad651 = ad652 := (by injection e652)
                                replace p652 := eq_true p652
                                replace q652 := eq_true q652
                                go_wp2
                                repeat (go_quiet (fail); try go_wp2)
                                go_meet
                                case rel => exact ⟨_, (false), (by first | rfl | (simp; done) | (simp [*]; done)), H', ⟨by have := HJ4.out; have := HJ11.out; have := HK3.out; first | omega | exact Nat.le_refl _⟩, ⟨by (with_reducible repeat (first | apply Kd.R_alloc | apply Kd.R_drewN | apply Kd.R_drew)); exact HO_5.out⟩, ⟨by repeat (first | (with_reducible first | exact HB.out | apply below_alloc | apply pw_below_drewN | apply below_drew1) | exact HB.out)⟩⟩
                            · rw [if_neg c37] at H
                              exact absurd H (by simp)
                          · rw [if_neg c36] at H
                            exact absurd H (by simp)
                        · rw [if_neg c34] at H
                          exact absurd H (by simp)
                      case rest =>
                        clear HC32
                        try clear c1
                        try clear p2
                        try clear c3
                        try clear c4
                        try clear p6
                        try clear q6
                        try clear hx6
                        try clear c8
                        try clear c8b0
                        try clear c8b1
                        try clear c9
                        try clear c9b0
                        try clear c10
                        try clear c12
                        try clear c15
                        try clear c16
                        try clear c16b0
                        try clear c16b1
                        try clear c16b2
                        try clear c19
                        try clear c19b0
                        try clear c19b1
                        try clear c30
                        try clear c31
                        try clear c31b0
                        try clear c34
                        try clear c34b0
                        try clear c36
                        try clear c36b0
                        try clear c37
                        try clear c37b0
                        try clear c38
                        try clear c38b0
                        try clear c38b1
                        try clear hx651_0
                        try clear hx651_1
                        try clear hx651_2
                        try clear hx652_0
                        try clear hx652_1
                        try clear hx652_2
                        try clear hx653_0
                        try clear hx653_1
                        try clear hx653_2
                        try clear hx654_0
                        try clear hx654_1
                        try clear hx654_2
                        try clear p2
                        try clear p651
                        try clear p652
                        try clear p653
                        try clear p654
                        try clear q651
                        try clear q652
                        try clear q653
                        try clear q654
                        obtain ⟨kq, x79_31, rfl, HA, HJ31, HO_5, HB⟩ := hcut
                        cases kq with
                        | zero => exact absurd HA.out (by simp [stipendlaw05_BandJoins.j3])
                        | succ kj31 =>
                          have H := HA.out
                          clear HA
                          simp only [stipendlaw05_BandJoins.j3] at H
                          by_cases c39 : x79_31 = true
                          · subst c39
                            have H1 : (none) = some r := by rw [if_pos rfl] at H; exact H
                            clear H
                            have H := H1
                            clear H1
                            exact absurd H (by simp)
                          · replace c39 := Bool.eq_false_iff.mpr c39
                            subst c39
                            have H1 : (stipendlaw05_BandJoins.l0 kj31 l0 a1 t645 (wrap64 (x6_3 + 1))) = some r := by rw [if_neg (show ¬ (false = true) by decide)] at H; exact H
                            clear H
                            have H := H1
                            clear H1
                            have H' := Aside0.mk H
                            clear H
                            go_wp2
                            repeat (go_quiet (fail); try go_wp2)
                            go_roundg kj31
                            case measure => have := HJ4.out; have := HJ11.out; have := HK3.out; have := HJ31.out; omega
                            case rel => exact ⟨(wrap64 (x6_3 + 1)), (by first | rfl | (simp; done) | (simp [*]; done)), H', ⟨by have := HJ4.out; have := HJ11.out; have := HK3.out; have := HJ31.out; omega⟩, ⟨by (with_reducible repeat (first | apply Kd.R_alloc | apply Kd.R_drewN | apply Kd.R_drew)); exact HO_5.out⟩, ⟨by repeat (first | (with_reducible first | exact HB.out | apply below_alloc | apply pw_below_drewN | apply below_drew1) | exact HB.out)⟩⟩
                    · rw [if_neg c31] at H
                      have c31b0 : decide (x6_3 < (t645.length : Int)) = false := decide_eq_false c31
                      clear c31
                      replace H := Option.bind_eq_some_iff.mp H
                      obtain ⟨t655, A400, H⟩ := H
                      replace H : (if 1 ≤ (l0.length : Int) then ((some (l0.drop 1 : List (S106))).bind fun y658 => (stipendlaw05_BandJoins.l1 k3 l0 a1 t645 t655 y658 (y658.length : Int) 0)) else (none)) = some r := H
                      have A40 := Aside0.mk A400
                      clear A400
                      by_cases c41 : 1 ≤ (l0.length : Int)
                      · rw [if_pos c41] at H
                        have c41b0 := eq_true c41
                        have c41b1 : decide (1 ≤ (l0.length : Int)) = true := decide_eq_true c41
                        clear c41
                        obtain ⟨y658, hy658⟩ : ∃ y_ : List (S106), y_ = (l0.drop 1) := ⟨_, rfl⟩
                        replace H : (stipendlaw05_BandJoins.l1 k3 l0 a1 t645 t655 y658 (y658.length : Int) 0) = some r := by first | (rw [hy658]; with_reducible exact H) | (have H2_ := (Option.bind_some _ _).symm.trans H; rw [hy658]; with_reducible exact H2_) | (have H2_ := (Option.bind_some _ _).symm.trans H; with_reducible exact H2_) | with_reducible exact H | (rw [hy658]; exact H) | exact H
                        have Ny658 := Aside0.mk hy658
                        clear hy658
                        have H' := Aside0.mk H
                        clear H
                        obtain ⟨Ao42, co42, eo42⟩ := Kd.R_slice HO_5.out
                        subst eo42
                        go_wp2_with (first | (go_at_call 64; (with_reducible refine (band_Corners.calls k3 _ _ l0 t655 _ ?side1 ?side2 A40.out).mono ?_); (case side1 => repeat (first | exact (Kd.C_below HR0.out HB.out) | (with_reducible refine Kd.C_alloc ?_ _) | (with_reducible refine Kd.C_drewN ?_ _) | (with_reducible refine Kd.C_drew ?_))); (case side2 => exact HC0.out); rintro e w43 ⟨v656, rfl, ho0, hb⟩; have n0_ := Aside0.mk (Kd.R_below (by (with_reducible repeat (first | apply Kd.R_alloc | apply Kd.R_drewN | apply Kd.R_drew)); exact HO_5.out) hb); have n1_ := Aside0.mk (Kd.R_lower ho0 (below_size (by repeat (first | (with_reducible first | exact HB.out | apply below_alloc | apply pw_below_drewN | apply below_drew1) | exact HB.out)))); have n2_ := Aside0.mk (below_step (by repeat (first | (with_reducible first | exact HB.out | apply below_alloc | apply pw_below_drewN | apply below_drew1) | exact HB.out)) hb); clear HO_5; clear HB; have HO_5 := n0_; have HO657 := n1_; have HB := n2_; clear n0_ n1_ n2_; (try clear hb); (try clear hb2); (try clear hk); (try clear hi); (try clear ho0); have q44 : (1 : Int) ≤ ((l0.length : Int) : Int) := of_decide_eq_true (by first | (with_reducible assumption) | assumption); obtain ⟨i044, hi044, _, hsz44, _⟩ := info_parts info106; have hroom44 : l0.length ≤ c0 := HC0.out; have hC44 : Kd.C k106 _ A0 l0.length l0 := HR0.out; have hcut44 := cut_from (P := Try.prog) 43 106 .i64 Try.underlying43 hi044 3 hsz44 A0 l0.length c0 1 (by omega) q44; have hr44 := Kd.C_drop (m := (1 : Int).toNat) (c := c0) hC44 (by omega) hroom44; obtain ⟨A44, hA44⟩ : ∃ A1, A1 = (if c0 = (1 : Int).toNat then A0 else (A0 : Option Addr).map (·.add ((1 : Int).toNat * 3))) := ⟨_, rfl⟩; obtain ⟨c44, hc44⟩ : ∃ c1, c1 = c0 - (1 : Int).toNat := ⟨_, rfl⟩; have hy44 : y658.length = l0.length - (1 : Int).toNat := (by rw [Ny658.out, List.length_drop] <;> omega); rw [show (l0).drop (1 : Int).toNat = y658 from Ny658.out.symm] at hr44; replace hr44 : Kd.C k106 _ A44 y658.length y658 := (by rw [hA44]; exact hr44); rw [← hy44, ← hA44, ← hc44] at hcut44; have HR661 := Aside0.mk hr44; have HC661 := Aside0.mk (show y658.length ≤ c44 from by rw [hy44, hc44]; exact Nat.sub_le_sub_right hroom44 _); clear hr44 hC44 hroom44 hi044 hsz44 hc44; have KY44 := Aside0.mk hy44; have KA44 := Aside0.mk hA44; clear hy44 hA44; replace q44 := eq_true q44))
                        repeat (go_quiet (first | (go_at_call 64; (with_reducible refine (band_Corners.calls k3 _ _ l0 t655 _ ?side1 ?side2 A40.out).mono ?_); (case side1 => repeat (first | exact (Kd.C_below HR0.out HB.out) | (with_reducible refine Kd.C_alloc ?_ _) | (with_reducible refine Kd.C_drewN ?_ _) | (with_reducible refine Kd.C_drew ?_))); (case side2 => exact HC0.out); rintro e w43 ⟨v656, rfl, ho0, hb⟩; have n0_ := Aside0.mk (Kd.R_below (by (with_reducible repeat (first | apply Kd.R_alloc | apply Kd.R_drewN | apply Kd.R_drew)); exact HO_5.out) hb); have n1_ := Aside0.mk (Kd.R_lower ho0 (below_size (by repeat (first | (with_reducible first | exact HB.out | apply below_alloc | apply pw_below_drewN | apply below_drew1) | exact HB.out)))); have n2_ := Aside0.mk (below_step (by repeat (first | (with_reducible first | exact HB.out | apply below_alloc | apply pw_below_drewN | apply below_drew1) | exact HB.out)) hb); clear HO_5; clear HB; have HO_5 := n0_; have HO657 := n1_; have HB := n2_; clear n0_ n1_ n2_; (try clear hb); (try clear hb2); (try clear hk); (try clear hi); (try clear ho0); have q44 : (1 : Int) ≤ ((l0.length : Int) : Int) := of_decide_eq_true (by first | (with_reducible assumption) | assumption); obtain ⟨i044, hi044, _, hsz44, _⟩ := info_parts info106; have hroom44 : l0.length ≤ c0 := HC0.out; have hC44 : Kd.C k106 _ A0 l0.length l0 := HR0.out; have hcut44 := cut_from (P := Try.prog) 43 106 .i64 Try.underlying43 hi044 3 hsz44 A0 l0.length c0 1 (by omega) q44; have hr44 := Kd.C_drop (m := (1 : Int).toNat) (c := c0) hC44 (by omega) hroom44; obtain ⟨A44, hA44⟩ : ∃ A1, A1 = (if c0 = (1 : Int).toNat then A0 else (A0 : Option Addr).map (·.add ((1 : Int).toNat * 3))) := ⟨_, rfl⟩; obtain ⟨c44, hc44⟩ : ∃ c1, c1 = c0 - (1 : Int).toNat := ⟨_, rfl⟩; have hy44 : y658.length = l0.length - (1 : Int).toNat := (by rw [Ny658.out, List.length_drop] <;> omega); rw [show (l0).drop (1 : Int).toNat = y658 from Ny658.out.symm] at hr44; replace hr44 : Kd.C k106 _ A44 y658.length y658 := (by rw [hA44]; exact hr44); rw [← hy44, ← hA44, ← hc44] at hcut44; have HR661 := Aside0.mk hr44; have HC661 := Aside0.mk (show y658.length ≤ c44 from by rw [hy44, hc44]; exact Nat.sub_le_sub_right hroom44 _); clear hr44 hC44 hroom44 hi044 hsz44 hc44; have KY44 := Aside0.mk hy44; have KA44 := Aside0.mk hA44; clear hy44 hA44; replace q44 := eq_true q44)); try go_wp2_with (first | (go_at_call 64; (with_reducible refine (band_Corners.calls k3 _ _ l0 t655 _ ?side1 ?side2 A40.out).mono ?_); (case side1 => repeat (first | exact (Kd.C_below HR0.out HB.out) | (with_reducible refine Kd.C_alloc ?_ _) | (with_reducible refine Kd.C_drewN ?_ _) | (with_reducible refine Kd.C_drew ?_))); (case side2 => exact HC0.out); rintro e w43 ⟨v656, rfl, ho0, hb⟩; have n0_ := Aside0.mk (Kd.R_below (by (with_reducible repeat (first | apply Kd.R_alloc | apply Kd.R_drewN | apply Kd.R_drew)); exact HO_5.out) hb); have n1_ := Aside0.mk (Kd.R_lower ho0 (below_size (by repeat (first | (with_reducible first | exact HB.out | apply below_alloc | apply pw_below_drewN | apply below_drew1) | exact HB.out)))); have n2_ := Aside0.mk (below_step (by repeat (first | (with_reducible first | exact HB.out | apply below_alloc | apply pw_below_drewN | apply below_drew1) | exact HB.out)) hb); clear HO_5; clear HB; have HO_5 := n0_; have HO657 := n1_; have HB := n2_; clear n0_ n1_ n2_; (try clear hb); (try clear hb2); (try clear hk); (try clear hi); (try clear ho0); have q44 : (1 : Int) ≤ ((l0.length : Int) : Int) := of_decide_eq_true (by first | (with_reducible assumption) | assumption); obtain ⟨i044, hi044, _, hsz44, _⟩ := info_parts info106; have hroom44 : l0.length ≤ c0 := HC0.out; have hC44 : Kd.C k106 _ A0 l0.length l0 := HR0.out; have hcut44 := cut_from (P := Try.prog) 43 106 .i64 Try.underlying43 hi044 3 hsz44 A0 l0.length c0 1 (by omega) q44; have hr44 := Kd.C_drop (m := (1 : Int).toNat) (c := c0) hC44 (by omega) hroom44; obtain ⟨A44, hA44⟩ : ∃ A1, A1 = (if c0 = (1 : Int).toNat then A0 else (A0 : Option Addr).map (·.add ((1 : Int).toNat * 3))) := ⟨_, rfl⟩; obtain ⟨c44, hc44⟩ : ∃ c1, c1 = c0 - (1 : Int).toNat := ⟨_, rfl⟩; have hy44 : y658.length = l0.length - (1 : Int).toNat := (by rw [Ny658.out, List.length_drop] <;> omega); rw [show (l0).drop (1 : Int).toNat = y658 from Ny658.out.symm] at hr44; replace hr44 : Kd.C k106 _ A44 y658.length y658 := (by rw [hA44]; exact hr44); rw [← hy44, ← hA44, ← hc44] at hcut44; have HR661 := Aside0.mk hr44; have HC661 := Aside0.mk (show y658.length ≤ c44 from by rw [hy44, hc44]; exact Nat.sub_le_sub_right hroom44 _); clear hr44 hC44 hroom44 hi044 hsz44 hc44; have KY44 := Aside0.mk hy44; have KA44 := Aside0.mk hA44; clear hy44 hA44; replace q44 := eq_true q44)))
                        go_loopg [85] k3 (fun kq v85 w' => ∃ (x85_4 : Int), v85 = .int .i64 x85_4 ∧ Aside0 (stipendlaw05_BandJoins.l1 kq l0 a1 t645 t655 y658 (y658.length : Int) x85_4 = some r) ∧ Aside0 (kq ≤ k3) ∧ Aside0 (Kd.R k106 106 w' w.heap.size (fun _ => True) (.slice Ao42 t645.length co42) t645) ∧ Aside0 (Kd.R (Kd.int .i64) 2 w' w.heap.size (fun _ => True) v656 t655) ∧ Aside0 (Below w.heap.size w w'))
                        case atStart => exact ⟨(0), (by first | rfl | (simp; done) | (simp [*]; done)), H', ⟨Nat.le_refl _⟩, ⟨by (with_reducible repeat (first | apply Kd.R_alloc | apply Kd.R_drewN | apply Kd.R_drew)); exact HO_5.out⟩, ⟨by (with_reducible repeat (first | apply Kd.R_alloc | apply Kd.R_drewN | apply Kd.R_drew)); exact HO657.out⟩, ⟨by repeat (first | (with_reducible first | exact HB.out | apply below_alloc | apply pw_below_drewN | apply below_drew1) | exact HB.out)⟩⟩
                        case round =>
                          clear H'
                          try clear c1
                          try clear p2
                          try clear c3
                          try clear c4
                          try clear q4
                          try clear p6
                          try clear q6
                          try clear hx6
                          try clear c8
                          try clear c8b0
                          try clear c8b1
                          try clear c9
                          try clear c9b0
                          try clear c10
                          try clear c12
                          try clear c15
                          try clear c16
                          try clear c16b0
                          try clear c16b1
                          try clear c16b2
                          try clear c19
                          try clear c19b0
                          try clear c19b1
                          try clear c30
                          try clear c31
                          try clear c31b0
                          try clear c34
                          try clear c34b0
                          try clear c36
                          try clear c36b0
                          try clear c37
                          try clear c37b0
                          try clear c38
                          try clear c38b0
                          try clear c38b1
                          try clear c39
                          try clear c41
                          try clear c41b0
                          try clear c41b1
                          try clear c44
                          try clear q44
                          try clear hx651_0
                          try clear hx651_1
                          try clear hx651_2
                          try clear hx652_0
                          try clear hx652_1
                          try clear hx652_2
                          try clear hx653_0
                          try clear hx653_1
                          try clear hx653_2
                          try clear hx654_0
                          try clear hx654_1
                          try clear hx654_2
                          try clear p2
                          try clear p6
                          try clear p651
                          try clear p652
                          try clear p653
                          try clear p654
                          try clear q44
                          try clear q6
                          try clear q651
                          try clear q652
                          try clear q653
                          try clear q654
                          obtain ⟨x85_4, rfl, HA, HK4, HO_5, HO_7, HB⟩ := hrel
                          cases gk with
                          | zero => exact absurd HA.out (by simp [stipendlaw05_BandJoins.l1])
                          | succ k4 =>
                            have H := HA.out
                            clear HA
                            simp only [stipendlaw05_BandJoins.l1] at H
                            by_cases c45 : x85_4 < (y658.length : Int)
                            · rw [if_pos c45] at H
                              have c45b0 : decide (x85_4 < (y658.length : Int)) = true := decide_eq_true c45
                              clear c45
                              by_cases c46 : 0 ≤ x85_4
                              · rw [if_pos c46] at H
                                have c46b0 : decide (0 ≤ x85_4) = true := decide_eq_true c46
                                clear c46
                                by_cases c47 : x85_4 < (y658.length : Int)
                                · rw [if_pos c47] at H
                                  have c47b0 : decide (x85_4 < (y658.length : Int)) = true := decide_eq_true c47
                                  clear c47
                                  have HC48 := Aside0.mk H
                                  clear H
                                  have p662 : 0 ≤ (x85_4 : Int) := of_decide_eq_true (by first | (with_reducible assumption) | assumption)
                                  have q662 : x85_4 < (y658.length : Int) := of_decide_eq_true (by first | (with_reducible assumption) | assumption)
                                  obtain ⟨ad662, e662, hx662_0, hx662_1, hx662_2⟩ := at_T106 HR661.out x85_4 p662 q662
                                  cases e662
                                  replace hx662_0 := (HB.out.cell (World.block_lt_of_cell? w _ hx662_0)).trans hx662_0
                                  replace hx662_1 := (HB.out.cell (World.block_lt_of_cell? w _ hx662_1)).trans hx662_1
                                  replace hx662_2 := (HB.out.cell (World.block_lt_of_cell? w _ hx662_2)).trans hx662_2
                                  replace p662 := eq_true p662
                                  replace q662 := eq_true q662
                                  go_upto_region 17 with (first | ((with_reducible refine gate_dst (N := 9) rfl ?_); refine box_event ?hg (N := 9) ?hd (cs := #[.int .i64 0, .int .i64 0, .int .i64 0]) (t := 106) ?hr ?_; (case hd => rfl); (case hg => rfl); (case hr => first | (go_simp; done) | (go_simp; rfl)); intro gb663 hg w49 hbox hb; have n0_ := Aside0.mk (Kd.R_below (Kd.R_elderB (by (with_reducible repeat (first | apply Kd.R_alloc | apply Kd.R_drewN | apply Kd.R_drew)); exact HO_5.out) gb663 (Nat.le_of_eq hg.symm)) hb); have n1_ := Aside0.mk (Kd.R_below (by (with_reducible repeat (first | apply Kd.R_alloc | apply Kd.R_drewN | apply Kd.R_drew)); exact HO_7.out) hb); have n2_ := Aside0.mk (below_step (by repeat (first | (with_reducible first | exact HB.out | apply below_alloc | apply pw_below_drewN | apply below_drew1) | exact HB.out)) hb); have n3_ := Aside0.mk (hbox); have n4_ := Aside0.mk ((by rw [hg]; exact (below_size (by repeat (first | (with_reducible first | exact HB.out | apply below_alloc | apply pw_below_drewN | apply below_drew1) | exact HB.out))) : w.heap.size ≤ gb663)); have n5_ := Aside0.mk ((by rw [hg]; exact (below_size (by repeat (first | (with_reducible first | exact HB.out | apply below_alloc | apply pw_below_drewN | apply below_drew1) | exact HB.out))) : w.heap.size ≤ gb663)); clear HO_5; clear HO_7; clear HB; have HO_5 := n0_; have HO_7 := n1_; have HB := n2_; have BK663 := n3_; have GW663 := n4_; have GE663 := n5_; clear n0_ n1_ n2_ n3_ n4_ n5_; clear hb hbox hg; have hcz50_0 : w49.cell? ⟨gb663, 0, none⟩ = some (.int .i64 0) := (blk_cell BK663.out 0).trans rfl; have hcz50_1 : w49.cell? ⟨gb663, 1, none⟩ = some (.int .i64 0) := (blk_cell BK663.out 1).trans rfl; have hcz50_2 : w49.cell? ⟨gb663, 2, none⟩ = some (.int .i64 0) := (blk_cell BK663.out 2).trans rfl; have hfz50_0 := blk_frozen BK663.out 0; have hfz50_1 := blk_frozen BK663.out 1; have hfz50_2 := blk_frozen BK663.out 2))
                                  repeat (go_quiet (first | ((with_reducible refine gate_dst (N := 9) rfl ?_); refine box_event ?hg (N := 9) ?hd (cs := #[.int .i64 0, .int .i64 0, .int .i64 0]) (t := 106) ?hr ?_; (case hd => rfl); (case hg => rfl); (case hr => first | (go_simp; done) | (go_simp; rfl)); intro gb663 hg w49 hbox hb; have n0_ := Aside0.mk (Kd.R_below (Kd.R_elderB (by (with_reducible repeat (first | apply Kd.R_alloc | apply Kd.R_drewN | apply Kd.R_drew)); exact HO_5.out) gb663 (Nat.le_of_eq hg.symm)) hb); have n1_ := Aside0.mk (Kd.R_below (by (with_reducible repeat (first | apply Kd.R_alloc | apply Kd.R_drewN | apply Kd.R_drew)); exact HO_7.out) hb); have n2_ := Aside0.mk (below_step (by repeat (first | (with_reducible first | exact HB.out | apply below_alloc | apply pw_below_drewN | apply below_drew1) | exact HB.out)) hb); have n3_ := Aside0.mk (hbox); have n4_ := Aside0.mk ((by rw [hg]; exact (below_size (by repeat (first | (with_reducible first | exact HB.out | apply below_alloc | apply pw_below_drewN | apply below_drew1) | exact HB.out))) : w.heap.size ≤ gb663)); have n5_ := Aside0.mk ((by rw [hg]; exact (below_size (by repeat (first | (with_reducible first | exact HB.out | apply below_alloc | apply pw_below_drewN | apply below_drew1) | exact HB.out))) : w.heap.size ≤ gb663)); clear HO_5; clear HO_7; clear HB; have HO_5 := n0_; have HO_7 := n1_; have HB := n2_; have BK663 := n3_; have GW663 := n4_; have GE663 := n5_; clear n0_ n1_ n2_ n3_ n4_ n5_; clear hb hbox hg; have hcz50_0 : w49.cell? ⟨gb663, 0, none⟩ = some (.int .i64 0) := (blk_cell BK663.out 0).trans rfl; have hcz50_1 : w49.cell? ⟨gb663, 1, none⟩ = some (.int .i64 0) := (blk_cell BK663.out 1).trans rfl; have hcz50_2 : w49.cell? ⟨gb663, 2, none⟩ = some (.int .i64 0) := (blk_cell BK663.out 2).trans rfl; have hfz50_0 := blk_frozen BK663.out 0; have hfz50_1 := blk_frozen BK663.out 1; have hfz50_2 := blk_frozen BK663.out 2)); go_upto_region 17 with (first | ((with_reducible refine gate_dst (N := 9) rfl ?_); refine box_event ?hg (N := 9) ?hd (cs := #[.int .i64 0, .int .i64 0, .int .i64 0]) (t := 106) ?hr ?_; (case hd => rfl); (case hg => rfl); (case hr => first | (go_simp; done) | (go_simp; rfl)); intro gb663 hg w49 hbox hb; have n0_ := Aside0.mk (Kd.R_below (Kd.R_elderB (by (with_reducible repeat (first | apply Kd.R_alloc | apply Kd.R_drewN | apply Kd.R_drew)); exact HO_5.out) gb663 (Nat.le_of_eq hg.symm)) hb); have n1_ := Aside0.mk (Kd.R_below (by (with_reducible repeat (first | apply Kd.R_alloc | apply Kd.R_drewN | apply Kd.R_drew)); exact HO_7.out) hb); have n2_ := Aside0.mk (below_step (by repeat (first | (with_reducible first | exact HB.out | apply below_alloc | apply pw_below_drewN | apply below_drew1) | exact HB.out)) hb); have n3_ := Aside0.mk (hbox); have n4_ := Aside0.mk ((by rw [hg]; exact (below_size (by repeat (first | (with_reducible first | exact HB.out | apply below_alloc | apply pw_below_drewN | apply below_drew1) | exact HB.out))) : w.heap.size ≤ gb663)); have n5_ := Aside0.mk ((by rw [hg]; exact (below_size (by repeat (first | (with_reducible first | exact HB.out | apply below_alloc | apply pw_below_drewN | apply below_drew1) | exact HB.out))) : w.heap.size ≤ gb663)); clear HO_5; clear HO_7; clear HB; have HO_5 := n0_; have HO_7 := n1_; have HB := n2_; have BK663 := n3_; have GW663 := n4_; have GE663 := n5_; clear n0_ n1_ n2_ n3_ n4_ n5_; clear hb hbox hg; have hcz50_0 : w49.cell? ⟨gb663, 0, none⟩ = some (.int .i64 0) := (blk_cell BK663.out 0).trans rfl; have hcz50_1 : w49.cell? ⟨gb663, 1, none⟩ = some (.int .i64 0) := (blk_cell BK663.out 1).trans rfl; have hcz50_2 : w49.cell? ⟨gb663, 2, none⟩ = some (.int .i64 0) := (blk_cell BK663.out 2).trans rfl; have hfz50_0 := blk_frozen BK663.out 0; have hfz50_1 := blk_frozen BK663.out 1; have hfz50_2 := blk_frozen BK663.out 2)))
                                  (try simp only [Act.put, List.setIfInBounds_toArray, List.set_cons_zero, List.set_cons_succ])
                                  go_cut [104] (fun v104 wc => ∃ (kq : Nat) (x104_47 : Bool), v104 = .bool x104_47 ∧ Aside0 (stipendlaw05_BandJoins.j5 kq l0 a1 t645 t655 y658 (y658.length : Int) x85_4 x104_47 = some r) ∧ Aside0 (kq ≤ k4) ∧ Aside0 (Kd.R k106 106 wc w.heap.size (fun k_ => k_ ≠ gb663) (.slice Ao42 t645.length co42) t645) ∧ Aside0 (Kd.R (Kd.int .i64) 2 wc w.heap.size (fun _ => True) v656 t655) ∧ Aside0 (wc.heap[gb663]? = some (.cells #[.int .i64 ((rd_T106 y658 x85_4).f0), .int .i64 ((rd_T106 y658 x85_4).f1), .int .i64 ((rd_T106 y658 x85_4).f2)] 106 (0, 0))) ∧ Aside0 (Below w.heap.size w wc))
                                  case first =>
                                    have H := HC48.out
                                    clear HC48
                                    by_cases c51 : (t655.length : Int) = (wrap64 ((l0.length : Int) - 1))
                                    · rw [if_pos c51] at H
                                      have c51b0 : ((t655.length : Int) == (wrap64 ((l0.length : Int) - 1))) = true := beq_iff_eq.mpr c51
                                      have c51b1 : ((t655.length : Int) != (wrap64 ((l0.length : Int) - 1))) = false := bne_eq_false_iff_eq.mpr c51
                                      clear c51
                                      (first | rw [c51b0] | (simp only [i64_w, i32_w]; rw [c51b0]) | skip)
                                      by_cases c52 : x85_4 < (t655.length : Int)
                                      · rw [if_pos c52] at H
                                        have c52b0 : decide (x85_4 < (t655.length : Int)) = true := decide_eq_true c52
                                        clear c52
                                        have H' := Aside0.mk H
                                        clear H
                                        obtain ⟨Ao53, co53, eo53⟩ := Kd.R_slice HO_7.out
                                        subst eo53
                                        have p664 : 0 ≤ (x85_4 : Int) := of_decide_eq_true (by first | (with_reducible assumption) | assumption)
                                        have q664 : x85_4 < (t655.length : Int) := of_decide_eq_true (by first | (with_reducible assumption) | assumption)
                                        obtain ⟨ad664, e664, hx664_0⟩ := Kd.at_int (Kd.R_reads' HO_7.out).2.2 x85_4 p664 q664
                                        cases e664
                                        have hn664_0 : ad664.block ≠ gb663 := Kd.own_blk (Kd.R_ne HO_7.out BK663.out (by decide))
                                        have hn664_1 : ad664.block ≠ gb663 := Kd.own_blk (Kd.R_ne HO_7.out BK663.out (by decide))
                                        have hn664_2 : ad664.block ≠ gb663 := Kd.own_blk (Kd.R_ne HO_7.out BK663.out (by decide))
                                        replace hx664_0 := (cell_far (p := ⟨gb663, 0, none⟩) (by first | (rw [add_block]; exact hn664_0) | (show (Addr.add _ _).block ≠ _; rw [add_block]; exact hn664_0) | exact hn664_0) (.int .i64 ((rd_T106 y658 x85_4).f0))).trans hx664_0
                                        replace hx664_0 := (cell_far (p := ⟨gb663, 1, none⟩) (by first | (rw [add_block]; exact hn664_1) | (show (Addr.add _ _).block ≠ _; rw [add_block]; exact hn664_1) | exact hn664_1) (.int .i64 ((rd_T106 y658 x85_4).f1))).trans hx664_0
                                        replace hx664_0 := (cell_far (p := ⟨gb663, 2, none⟩) (by first | (rw [add_block]; exact hn664_2) | (show (Addr.add _ _).block ≠ _; rw [add_block]; exact hn664_2) | exact hn664_2) (.int .i64 ((rd_T106 y658 x85_4).f2))).trans hx664_0
                                        (try have hy664_0 := fun (n_ : Nat) => (show (((((w49.drewN n_).setCell ⟨gb663, 0, none⟩ (.int .i64 ((rd_T106 y658 x85_4).f0))).setCell ⟨gb663, 1, none⟩ (.int .i64 ((rd_T106 y658 x85_4).f1))).setCell ⟨gb663, 2, none⟩ (.int .i64 ((rd_T106 y658 x85_4).f2)))).cell? _ = some _ from hx664_0))
                                        clear hn664_0
                                        clear hn664_1
                                        clear hn664_2
                                        replace p664 := eq_true p664
                                        replace q664 := eq_true q664
                                        have hcz54_0 : w49.cell? ⟨gb663, 0, none⟩ = some (.int .i64 0) := (blk_cell BK663.out 0).trans rfl
                                        have hcz54_1 : w49.cell? ⟨gb663, 1, none⟩ = some (.int .i64 0) := (blk_cell BK663.out 1).trans rfl
                                        have hcz54_2 : w49.cell? ⟨gb663, 2, none⟩ = some (.int .i64 0) := (blk_cell BK663.out 2).trans rfl
                                        have hfz54_0 := blk_frozen BK663.out 0
                                        have hfz54_1 := blk_frozen BK663.out 1
                                        have hfz54_2 := blk_frozen BK663.out 2
                                        go_wp2
                                        repeat (go_quiet (fail); try go_wp2)
                                        go_meet
                                        case rel => exact ⟨_, (((rd t655 x85_4) != ((rd_T106 y658 x85_4).f0))), (by first | rfl | (simp; done) | (simp [*]; done)), H', ⟨by have := HJ4.out; have := HJ11.out; have := HK3.out; have := HK4.out; first | omega | exact Nat.le_refl _⟩, ⟨by (with_reducible repeat (first | apply Kd.R_alloc | apply Kd.R_drewN | apply Kd.R_drew)); exact Kd.R_mono (Kd.R_far (p := ⟨gb663, 2, none⟩) (Kd.R_far (p := ⟨gb663, 1, none⟩) (Kd.R_far (p := ⟨gb663, 0, none⟩) (Kd.R_mono HO_5.out (fun k_ hk => (⟨hk, hk.2⟩ : _ ∧ k_ ≠ gb663))) (fun _ hk => hk.2) (.int .i64 ((rd_T106 y658 x85_4).f0))) (fun _ hk => hk.2) (.int .i64 ((rd_T106 y658 x85_4).f1))) (fun _ hk => hk.2) (.int .i64 ((rd_T106 y658 x85_4).f2))) (fun _ hk => hk.1.2)⟩, ⟨by (with_reducible repeat (first | apply Kd.R_alloc | apply Kd.R_drewN | apply Kd.R_drew)); exact Kd.R_mono (Kd.R_far (p := ⟨gb663, 2, none⟩) (Kd.R_far (p := ⟨gb663, 1, none⟩) (Kd.R_far (p := ⟨gb663, 0, none⟩) (Kd.R_types HO_7.out BK663.out (by decide)) (fun _ hk => hk.2) (.int .i64 ((rd_T106 y658 x85_4).f0))) (fun _ hk => hk.2) (.int .i64 ((rd_T106 y658 x85_4).f1))) (fun _ hk => hk.2) (.int .i64 ((rd_T106 y658 x85_4).f2))) (fun _ hk => trivial)⟩, ⟨by (with_reducible repeat (first | refine blk_drewN ?_ _ | refine blk_drew ?_ | refine blk_alloc ?_ _)); refine blk_put (cs := #[.int .i64 ((rd_T106 y658 x85_4).f0), .int .i64 ((rd_T106 y658 x85_4).f1), .int .i64 0]) ?_ 2 _ rfl; (with_reducible repeat (first | refine blk_drewN ?_ _ | refine blk_drew ?_ | refine blk_alloc ?_ _)); refine blk_put (cs := #[.int .i64 ((rd_T106 y658 x85_4).f0), .int .i64 0, .int .i64 0]) ?_ 1 _ rfl; (with_reducible repeat (first | refine blk_drewN ?_ _ | refine blk_drew ?_ | refine blk_alloc ?_ _)); refine blk_put (cs := #[.int .i64 0, .int .i64 0, .int .i64 0]) ?_ 0 _ rfl; (with_reducible repeat (first | refine blk_drewN ?_ _ | refine blk_drew ?_ | refine blk_alloc ?_ _)); exact BK663.out⟩, ⟨by repeat (first | (with_reducible first | exact HB.out | apply below_alloc | apply pw_below_drewN | apply below_drew1 | refine below_set ?_ GE663.out) | exact HB.out)⟩⟩
                                      · rw [if_neg c52] at H
                                        exact absurd H (by simp)
                                    · rw [if_neg c51] at H
                                      have c51b0 : ((t655.length : Int) == (wrap64 ((l0.length : Int) - 1))) = false := beq_eq_false_iff_ne.mpr c51
                                      have c51b1 : ((t655.length : Int) != (wrap64 ((l0.length : Int) - 1))) = true := bne_iff_ne.mpr c51
                                      (first | rw [c51b0] | (simp only [i64_w, i32_w]; rw [c51b0]) | skip)
                                      have H' := Aside0.mk H
                                      clear H
                                      obtain ⟨Ao55, co55, eo55⟩ := Kd.R_slice HO_7.out
                                      subst eo55
                                      go_wp2
                                      repeat (go_quiet (fail); try go_wp2)
                                      go_meet
                                      case rel => exact ⟨_, (true), (by first | rfl | (simp; done) | (simp [*]; done)), H', ⟨by have := HJ4.out; have := HJ11.out; have := HK3.out; have := HK4.out; first | omega | exact Nat.le_refl _⟩, ⟨by (with_reducible repeat (first | apply Kd.R_alloc | apply Kd.R_drewN | apply Kd.R_drew)); exact Kd.R_mono (Kd.R_far (p := ⟨gb663, 2, none⟩) (Kd.R_far (p := ⟨gb663, 1, none⟩) (Kd.R_far (p := ⟨gb663, 0, none⟩) (Kd.R_mono HO_5.out (fun k_ hk => (⟨hk, hk.2⟩ : _ ∧ k_ ≠ gb663))) (fun _ hk => hk.2) (.int .i64 ((rd_T106 y658 x85_4).f0))) (fun _ hk => hk.2) (.int .i64 ((rd_T106 y658 x85_4).f1))) (fun _ hk => hk.2) (.int .i64 ((rd_T106 y658 x85_4).f2))) (fun _ hk => hk.1.2)⟩, ⟨by (with_reducible repeat (first | apply Kd.R_alloc | apply Kd.R_drewN | apply Kd.R_drew)); exact Kd.R_mono (Kd.R_far (p := ⟨gb663, 2, none⟩) (Kd.R_far (p := ⟨gb663, 1, none⟩) (Kd.R_far (p := ⟨gb663, 0, none⟩) (Kd.R_types HO_7.out BK663.out (by decide)) (fun _ hk => hk.2) (.int .i64 ((rd_T106 y658 x85_4).f0))) (fun _ hk => hk.2) (.int .i64 ((rd_T106 y658 x85_4).f1))) (fun _ hk => hk.2) (.int .i64 ((rd_T106 y658 x85_4).f2))) (fun _ hk => trivial)⟩, ⟨by (with_reducible repeat (first | refine blk_drewN ?_ _ | refine blk_drew ?_ | refine blk_alloc ?_ _)); refine blk_put (cs := #[.int .i64 ((rd_T106 y658 x85_4).f0), .int .i64 ((rd_T106 y658 x85_4).f1), .int .i64 0]) ?_ 2 _ rfl; (with_reducible repeat (first | refine blk_drewN ?_ _ | refine blk_drew ?_ | refine blk_alloc ?_ _)); refine blk_put (cs := #[.int .i64 ((rd_T106 y658 x85_4).f0), .int .i64 0, .int .i64 0]) ?_ 1 _ rfl; (with_reducible repeat (first | refine blk_drewN ?_ _ | refine blk_drew ?_ | refine blk_alloc ?_ _)); refine blk_put (cs := #[.int .i64 0, .int .i64 0, .int .i64 0]) ?_ 0 _ rfl; (with_reducible repeat (first | refine blk_drewN ?_ _ | refine blk_drew ?_ | refine blk_alloc ?_ _)); exact BK663.out⟩, ⟨by repeat (first | (with_reducible first | exact HB.out | apply below_alloc | apply pw_below_drewN | apply below_drew1 | refine below_set ?_ GE663.out) | exact HB.out)⟩⟩
                                  case rest =>
                                    clear HC48
                                    try clear c1
                                    try clear p2
                                    try clear c3
                                    try clear c4
                                    try clear q4
                                    try clear c5
                                    try clear p6
                                    try clear q6
                                    try clear hx6
                                    try clear c8
                                    try clear c8b0
                                    try clear c8b1
                                    try clear c9
                                    try clear c9b0
                                    try clear c10
                                    try clear c12
                                    try clear c15
                                    try clear c16
                                    try clear c16b0
                                    try clear c16b1
                                    try clear c16b2
                                    try clear c19
                                    try clear c19b0
                                    try clear c19b1
                                    try clear c30
                                    try clear c31
                                    try clear c31b0
                                    try clear c34
                                    try clear c34b0
                                    try clear c36
                                    try clear c36b0
                                    try clear c37
                                    try clear c37b0
                                    try clear c38
                                    try clear c38b0
                                    try clear c38b1
                                    try clear c39
                                    try clear c41
                                    try clear c41b0
                                    try clear c41b1
                                    try clear c44
                                    try clear q44
                                    try clear c45
                                    try clear c45b0
                                    try clear c46
                                    try clear c46b0
                                    try clear c47
                                    try clear c47b0
                                    try clear c51
                                    try clear c51b0
                                    try clear c51b1
                                    try clear c52
                                    try clear c52b0
                                    try clear hcz50_0
                                    try clear hcz50_1
                                    try clear hcz50_2
                                    try clear hcz54_0
                                    try clear hcz54_1
                                    try clear hcz54_2
                                    try clear hfz50_0
                                    try clear hfz50_1
                                    try clear hfz50_2
                                    try clear hfz54_0
                                    try clear hfz54_1
                                    try clear hfz54_2
                                    try clear hx651_0
                                    try clear hx651_1
                                    try clear hx651_2
                                    try clear hx652_0
                                    try clear hx652_1
                                    try clear hx652_2
                                    try clear hx653_0
                                    try clear hx653_1
                                    try clear hx653_2
                                    try clear hx654_0
                                    try clear hx654_1
                                    try clear hx654_2
                                    try clear hx662_0
                                    try clear hx662_1
                                    try clear hx662_2
                                    try clear hx664_0
                                    try clear p2
                                    try clear p6
                                    try clear p651
                                    try clear p652
                                    try clear p653
                                    try clear p654
                                    try clear p662
                                    try clear p664
                                    try clear q4
                                    try clear q44
                                    try clear q6
                                    try clear q651
                                    try clear q652
                                    try clear q653
                                    try clear q654
                                    try clear q662
                                    try clear q664
                                    obtain ⟨kq, x104_47, rfl, HA, HJ47, HO_5, HO_7, BK663, HB⟩ := hcut
                                    cases kq with
                                    | zero => exact absurd HA.out (by simp [stipendlaw05_BandJoins.j5])
                                    | succ kj47 =>
                                      have H := HA.out
                                      clear HA
                                      simp only [stipendlaw05_BandJoins.j5] at H
                                      by_cases c56 : x104_47 = true
                                      · subst c56
                                        have H1 : (none) = some r := by rw [if_pos rfl] at H; exact H
                                        clear H
                                        have H := H1
                                        clear H1
                                        exact absurd H (by simp)
                                      · replace c56 := Bool.eq_false_iff.mpr c56
                                        subst c56
                                        have H1 : (stipendlaw05_BandJoins.l1 kj47 l0 a1 t645 t655 y658 (y658.length : Int) (wrap64 (x85_4 + 1))) = some r := by rw [if_neg (show ¬ (false = true) by decide)] at H; exact H
                                        clear H
                                        have H := H1
                                        clear H1
                                        have H' := Aside0.mk H
                                        clear H
                                        go_wp2
                                        repeat (go_quiet (fail); try go_wp2)
                                        go_roundg kj47
                                        case measure => have := HJ4.out; have := HJ11.out; have := HK3.out; have := HK4.out; have := HJ47.out; omega
                                        case rel => exact ⟨(wrap64 (x85_4 + 1)), (by first | rfl | (simp; done) | (simp [*]; done)), H', ⟨by have := HJ4.out; have := HJ11.out; have := HK3.out; have := HK4.out; have := HJ47.out; omega⟩, ⟨by (with_reducible repeat (first | apply Kd.R_alloc | apply Kd.R_drewN | apply Kd.R_drew)); exact Kd.R_mono HO_5.out (fun _ hk => trivial)⟩, ⟨by (with_reducible repeat (first | apply Kd.R_alloc | apply Kd.R_drewN | apply Kd.R_drew)); exact HO_7.out⟩, ⟨by repeat (first | (with_reducible first | exact HB.out | apply below_alloc | apply pw_below_drewN | apply below_drew1 | refine below_set ?_ GE663.out) | exact HB.out)⟩⟩
                                · rw [if_neg c47] at H
                                  exact absurd H (by simp)
                              · rw [if_neg c46] at H
                                exact absurd H (by simp)
                            · rw [if_neg c45] at H
                              have c45b0 : decide (x85_4 < (y658.length : Int)) = false := decide_eq_false c45
                              clear c45
                              replace H := Option.bind_eq_some_iff.mp H
                              obtain ⟨t665, A570, H⟩ := H
                              replace H : ((stipendref05_Exact.f k4 a1 l0 false).bind fun t666 => (if t665 = t666 then ((stipendref05_Exact.f k4 a1 t645 true).bind fun t667 => ((stipendref05_Exact.f k4 a1 l0 true).bind fun t668 => (some (t667 == t668)))) else (none))) = some r := H
                              have A57 := Aside0.mk A570
                              clear A570
                              replace H := Option.bind_eq_some_iff.mp H
                              obtain ⟨t666, A580, H⟩ := H
                              replace H : (if t665 = t666 then ((stipendref05_Exact.f k4 a1 t645 true).bind fun t667 => ((stipendref05_Exact.f k4 a1 l0 true).bind fun t668 => (some (t667 == t668)))) else (none)) = some r := H
                              have A58 := Aside0.mk A580
                              clear A580
                              by_cases c59 : t665 = t666
                              · rw [if_pos c59] at H
                                have c59b0 : (t665 == t666) = true := beq_iff_eq.mpr c59
                                have c59b1 : (t665 != t666) = false := bne_eq_false_iff_eq.mpr c59
                                clear c59
                                replace H := Option.bind_eq_some_iff.mp H
                                obtain ⟨t667, A600, H⟩ := H
                                replace H : ((stipendref05_Exact.f k4 a1 l0 true).bind fun t668 => (some (t667 == t668))) = some r := H
                                have A60 := Aside0.mk A600
                                clear A600
                                replace H := Option.bind_eq_some_iff.mp H
                                obtain ⟨t668, A610, H⟩ := H
                                replace H : (some (t667 == t668)) = some r := H
                                have A61 := Aside0.mk A610
                                clear A610
                                obtain rfl := Option.some.inj H
                                go_wp2_with (first | (go_at_call 50; (with_reducible refine (stipendref05_Exact.calls k4 a1 _ _ t645 false t665 _ ?side1 ?side2 A57.out).mono ?_); (case side1 => repeat (first | exact (Kd.R_reads' HO_5.out).2.2 | (with_reducible refine Kd.C_alloc ?_ _) | (with_reducible refine Kd.C_drewN ?_ _) | (with_reducible refine Kd.C_drew ?_))); (case side2 => exact (Kd.R_reads' HO_5.out).2.1); rintro e w' ⟨rfl, ⟨nd, rfl⟩⟩; (try first | exact ⟨rfl, _, World.drewN_drewN _ _ _⟩ | exact ⟨rfl, _, Eq.trans (World.drewN_drewN _ _ _) (congrArg (World.drewN _) (Nat.add_assoc _ _ _))⟩)) | (go_at_call 50; (with_reducible refine (stipendref05_Exact.calls k4 a1 _ _ l0 false t666 _ ?side1 ?side2 A58.out).mono ?_); (case side1 => repeat (first | exact (Kd.C_below HR0.out (by repeat (first | (with_reducible first | exact HB.out | apply below_alloc | apply pw_below_drewN | apply below_drew1) | exact HB.out))) | (with_reducible refine Kd.C_alloc ?_ _) | (with_reducible refine Kd.C_drewN ?_ _) | (with_reducible refine Kd.C_drew ?_))); (case side2 => exact HC0.out); rintro e w' ⟨rfl, ⟨nd, rfl⟩⟩; (try first | exact ⟨rfl, _, World.drewN_drewN _ _ _⟩ | exact ⟨rfl, _, Eq.trans (World.drewN_drewN _ _ _) (congrArg (World.drewN _) (Nat.add_assoc _ _ _))⟩)) | (go_at_call 50; (with_reducible refine (stipendref05_Exact.calls k4 a1 _ _ t645 true t667 _ ?side1 ?side2 A60.out).mono ?_); (case side1 => repeat (first | exact (Kd.R_reads' HO_5.out).2.2 | (with_reducible refine Kd.C_alloc ?_ _) | (with_reducible refine Kd.C_drewN ?_ _) | (with_reducible refine Kd.C_drew ?_))); (case side2 => exact (Kd.R_reads' HO_5.out).2.1); rintro e w' ⟨rfl, ⟨nd, rfl⟩⟩; (try first | exact ⟨rfl, _, World.drewN_drewN _ _ _⟩ | exact ⟨rfl, _, Eq.trans (World.drewN_drewN _ _ _) (congrArg (World.drewN _) (Nat.add_assoc _ _ _))⟩)) | (go_at_call 50; (with_reducible refine (stipendref05_Exact.calls k4 a1 _ _ l0 true t668 _ ?side1 ?side2 A61.out).mono ?_); (case side1 => repeat (first | exact (Kd.C_below HR0.out (by repeat (first | (with_reducible first | exact HB.out | apply below_alloc | apply pw_below_drewN | apply below_drew1) | exact HB.out))) | (with_reducible refine Kd.C_alloc ?_ _) | (with_reducible refine Kd.C_drewN ?_ _) | (with_reducible refine Kd.C_drew ?_))); (case side2 => exact HC0.out); rintro e w' ⟨rfl, ⟨nd, rfl⟩⟩; (try first | exact ⟨rfl, _, World.drewN_drewN _ _ _⟩ | exact ⟨rfl, _, Eq.trans (World.drewN_drewN _ _ _) (congrArg (World.drewN _) (Nat.add_assoc _ _ _))⟩)))
                                repeat (go_quiet (first | (go_at_call 50; (with_reducible refine (stipendref05_Exact.calls k4 a1 _ _ t645 false t665 _ ?side1 ?side2 A57.out).mono ?_); (case side1 => repeat (first | exact (Kd.R_reads' HO_5.out).2.2 | (with_reducible refine Kd.C_alloc ?_ _) | (with_reducible refine Kd.C_drewN ?_ _) | (with_reducible refine Kd.C_drew ?_))); (case side2 => exact (Kd.R_reads' HO_5.out).2.1); rintro e w' ⟨rfl, ⟨nd, rfl⟩⟩; (try first | exact ⟨rfl, _, World.drewN_drewN _ _ _⟩ | exact ⟨rfl, _, Eq.trans (World.drewN_drewN _ _ _) (congrArg (World.drewN _) (Nat.add_assoc _ _ _))⟩)) | (go_at_call 50; (with_reducible refine (stipendref05_Exact.calls k4 a1 _ _ l0 false t666 _ ?side1 ?side2 A58.out).mono ?_); (case side1 => repeat (first | exact (Kd.C_below HR0.out (by repeat (first | (with_reducible first | exact HB.out | apply below_alloc | apply pw_below_drewN | apply below_drew1) | exact HB.out))) | (with_reducible refine Kd.C_alloc ?_ _) | (with_reducible refine Kd.C_drewN ?_ _) | (with_reducible refine Kd.C_drew ?_))); (case side2 => exact HC0.out); rintro e w' ⟨rfl, ⟨nd, rfl⟩⟩; (try first | exact ⟨rfl, _, World.drewN_drewN _ _ _⟩ | exact ⟨rfl, _, Eq.trans (World.drewN_drewN _ _ _) (congrArg (World.drewN _) (Nat.add_assoc _ _ _))⟩)) | (go_at_call 50; (with_reducible refine (stipendref05_Exact.calls k4 a1 _ _ t645 true t667 _ ?side1 ?side2 A60.out).mono ?_); (case side1 => repeat (first | exact (Kd.R_reads' HO_5.out).2.2 | (with_reducible refine Kd.C_alloc ?_ _) | (with_reducible refine Kd.C_drewN ?_ _) | (with_reducible refine Kd.C_drew ?_))); (case side2 => exact (Kd.R_reads' HO_5.out).2.1); rintro e w' ⟨rfl, ⟨nd, rfl⟩⟩; (try first | exact ⟨rfl, _, World.drewN_drewN _ _ _⟩ | exact ⟨rfl, _, Eq.trans (World.drewN_drewN _ _ _) (congrArg (World.drewN _) (Nat.add_assoc _ _ _))⟩)) | (go_at_call 50; (with_reducible refine (stipendref05_Exact.calls k4 a1 _ _ l0 true t668 _ ?side1 ?side2 A61.out).mono ?_); (case side1 => repeat (first | exact (Kd.C_below HR0.out (by repeat (first | (with_reducible first | exact HB.out | apply below_alloc | apply pw_below_drewN | apply below_drew1) | exact HB.out))) | (with_reducible refine Kd.C_alloc ?_ _) | (with_reducible refine Kd.C_drewN ?_ _) | (with_reducible refine Kd.C_drew ?_))); (case side2 => exact HC0.out); rintro e w' ⟨rfl, ⟨nd, rfl⟩⟩; (try first | exact ⟨rfl, _, World.drewN_drewN _ _ _⟩ | exact ⟨rfl, _, Eq.trans (World.drewN_drewN _ _ _) (congrArg (World.drewN _) (Nat.add_assoc _ _ _))⟩))); try go_wp2_with (first | (go_at_call 50; (with_reducible refine (stipendref05_Exact.calls k4 a1 _ _ t645 false t665 _ ?side1 ?side2 A57.out).mono ?_); (case side1 => repeat (first | exact (Kd.R_reads' HO_5.out).2.2 | (with_reducible refine Kd.C_alloc ?_ _) | (with_reducible refine Kd.C_drewN ?_ _) | (with_reducible refine Kd.C_drew ?_))); (case side2 => exact (Kd.R_reads' HO_5.out).2.1); rintro e w' ⟨rfl, ⟨nd, rfl⟩⟩; (try first | exact ⟨rfl, _, World.drewN_drewN _ _ _⟩ | exact ⟨rfl, _, Eq.trans (World.drewN_drewN _ _ _) (congrArg (World.drewN _) (Nat.add_assoc _ _ _))⟩)) | (go_at_call 50; (with_reducible refine (stipendref05_Exact.calls k4 a1 _ _ l0 false t666 _ ?side1 ?side2 A58.out).mono ?_); (case side1 => repeat (first | exact (Kd.C_below HR0.out (by repeat (first | (with_reducible first | exact HB.out | apply below_alloc | apply pw_below_drewN | apply below_drew1) | exact HB.out))) | (with_reducible refine Kd.C_alloc ?_ _) | (with_reducible refine Kd.C_drewN ?_ _) | (with_reducible refine Kd.C_drew ?_))); (case side2 => exact HC0.out); rintro e w' ⟨rfl, ⟨nd, rfl⟩⟩; (try first | exact ⟨rfl, _, World.drewN_drewN _ _ _⟩ | exact ⟨rfl, _, Eq.trans (World.drewN_drewN _ _ _) (congrArg (World.drewN _) (Nat.add_assoc _ _ _))⟩)) | (go_at_call 50; (with_reducible refine (stipendref05_Exact.calls k4 a1 _ _ t645 true t667 _ ?side1 ?side2 A60.out).mono ?_); (case side1 => repeat (first | exact (Kd.R_reads' HO_5.out).2.2 | (with_reducible refine Kd.C_alloc ?_ _) | (with_reducible refine Kd.C_drewN ?_ _) | (with_reducible refine Kd.C_drew ?_))); (case side2 => exact (Kd.R_reads' HO_5.out).2.1); rintro e w' ⟨rfl, ⟨nd, rfl⟩⟩; (try first | exact ⟨rfl, _, World.drewN_drewN _ _ _⟩ | exact ⟨rfl, _, Eq.trans (World.drewN_drewN _ _ _) (congrArg (World.drewN _) (Nat.add_assoc _ _ _))⟩)) | (go_at_call 50; (with_reducible refine (stipendref05_Exact.calls k4 a1 _ _ l0 true t668 _ ?side1 ?side2 A61.out).mono ?_); (case side1 => repeat (first | exact (Kd.C_below HR0.out (by repeat (first | (with_reducible first | exact HB.out | apply below_alloc | apply pw_below_drewN | apply below_drew1) | exact HB.out))) | (with_reducible refine Kd.C_alloc ?_ _) | (with_reducible refine Kd.C_drewN ?_ _) | (with_reducible refine Kd.C_drew ?_))); (case side2 => exact HC0.out); rintro e w' ⟨rfl, ⟨nd, rfl⟩⟩; (try first | exact ⟨rfl, _, World.drewN_drewN _ _ _⟩ | exact ⟨rfl, _, Eq.trans (World.drewN_drewN _ _ _) (congrArg (World.drewN _) (Nat.add_assoc _ _ _))⟩))))
                                go_ret
                                exact ⟨by first | rfl | (simp [errW_none, errW_some] <;> rfl) | (simp [*, errW_none, errW_some] <;> rfl), by repeat (first | (with_reducible first | exact HB.out | apply below_alloc | apply pw_below_drewN | apply below_drew1) | exact HB.out)⟩
                              · rw [if_neg c59] at H
                                exact absurd H (by simp)
                      · rw [if_neg c41] at H
                        exact absurd H (by simp)
  · replace c4 := Bool.eq_false_iff.mpr c4
    subst c4
    have H1 : (none) = some r := by rw [if_neg (show ¬ (false = true) by decide)] at H; exact H
    clear H
    have H := H1
    clear H1
    exact absurd H (by simp)

end Go.Proofs.Ytcapgmoipacioaa.P
