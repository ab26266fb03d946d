import Derived.Test.YtcapgmoipacioaaPt
import Derived.Test.YtcapgmoipacioaaHexact
import Derived.Test.YtcapgmoipacioaaPpband
import Derived.Test.YtcapgmoipacioaaPpfrac
import Derived.Test.YtcapgmoipacioaaPpstipendlaw05
import Derived.Test.YtcapgmoipacioaaPpstipendref05
namespace Go.Proofs.Ytcapgmoipacioaa.P
open Go.RowKit Go.Proofs.YtcapgmoipacioaaW.PrintWords Go.Proofs.YtcapgmoipacioaaW.PrintLast Go.Proofs.YtcapgmoipacioaaW.PrintMore
attribute [local go_sem] max2_int min2_int max_two min_two max_three min_three max_four min_four
set_option linter.unusedVariables false
set_option linter.unusedSimpArgs false

/-! ### stipendlaw05_BandRises: function 10 -/
mutual
def stipendlaw05_BandRises.j0 : Nat → List (S106) → Int → Int → Bool → Option (Bool)
  | 0, _, _, _, _ => none
  | k + 1, x0, x1, x2, x42 => if x42 = true then (some true) else ((band_Exact.f x1 x0).bind fun bt616 => ((band_Exact.f x2 x0).bind fun bt618 => ((band_Between.f x1 x2 x0).bind fun bt620 => (if bt620.2 = 0 then (if bt620.1 = (wrap64 (bt618.1 - bt616.1)) then (if bt618.1 < bt616.1 then (stipendlaw05_BandRises.j1 k x0 x1 x2 bt620.1 true) else (stipendlaw05_BandRises.j1 k x0 x1 x2 bt620.1 (decide (bt616.1 < 0)))) else (stipendlaw05_BandRises.j1 k x0 x1 x2 bt620.1 true)) else (stipendlaw05_BandRises.j1 k x0 x1 x2 bt620.1 true)))))
def stipendlaw05_BandRises.j1 : Nat → List (S106) → Int → Int → Int → Bool → Option (Bool)
  | 0, _, _, _, _, _ => none
  | k + 1, x0, x1, x2, x11, x79 => if x79 = true then (none) else ((band_Find.f k x1 x0).bind fun t622 => ((band_Find.f k x2 x0).bind fun t623 => (if t622 > t623 then (stipendlaw05_BandRises.j2 k x0 x1 x2 x11 true) else (if t622 < 0 then (stipendlaw05_BandRises.j2 k x0 x1 x2 x11 true) else (if t623 ≥ (x0.length : Int) then (stipendlaw05_BandRises.j2 k x0 x1 x2 x11 true) else (if 0 ≤ t623 then (if t623 < (x0.length : Int) then (if ((rd_T106 x0 t623).f0) ≥ x2 then (if t623 > 0 then (stipendlaw05_BandRises.j2 k x0 x1 x2 x11 true) else (if (wrap64 (t623 + 1)) < (x0.length : Int) then (if 0 ≤ (wrap64 (t623 + 1)) then (stipendlaw05_BandRises.j2 k x0 x1 x2 x11 (decide (((rd_T106 x0 (wrap64 (t623 + 1))).f0) < x2))) else (none)) else (stipendlaw05_BandRises.j2 k x0 x1 x2 x11 false))) else (if (wrap64 (t623 + 1)) < (x0.length : Int) then (if 0 ≤ (wrap64 (t623 + 1)) then (stipendlaw05_BandRises.j2 k x0 x1 x2 x11 (decide (((rd_T106 x0 (wrap64 (t623 + 1))).f0) < x2))) else (none)) else (stipendlaw05_BandRises.j2 k x0 x1 x2 x11 false))) else (none)) else (none)))))))
def stipendlaw05_BandRises.j2 : Nat → List (S106) → Int → Int → Int → Bool → Option (Bool)
  | 0, _, _, _, _, _ => none
  | k + 1, x0, x1, x2, x11, x128 => if x128 = true then (none) else ((band_Top.f k x0).bind fun t627 => ((frac_Part.f k (wrap64 ((mx 0 x2) - (mx 0 x1))) t627).bind fun bt628 => (some (decide (x11 ≤ bt628.1)))))
end
def stipendlaw05_BandRises.f (k : Nat) (l0 : List (S106)) (a1 : Int) (a2 : Int) : Option (Bool) := (stipendlaw05_sums.f k).bind fun t614 => (if t614 = true then ((stipendref05_Check.f k l0).bind fun t615 => (if t615 = 0 then (if a1 > 100000000000 then (stipendlaw05_BandRises.j0 k l0 a1 a2 true) else (if a2 < (-100000000000) then (stipendlaw05_BandRises.j0 k l0 a1 a2 true) else (if a1 < (-100000000000) then (stipendlaw05_BandRises.j0 k l0 a1 a2 true) else (if a2 > 100000000000 then (stipendlaw05_BandRises.j0 k l0 a1 a2 true) else (stipendlaw05_BandRises.j0 k l0 a1 a2 (decide (a1 > a2))))))) else (stipendlaw05_BandRises.j0 k l0 a1 a2 true))) else (none))
theorem stipendlaw05_BandRises.mono_l : ∀ k, (∀ y0 y1 y2 y3, LeO (stipendlaw05_BandRises.j0 k y0 y1 y2 y3) (stipendlaw05_BandRises.j0 (k + 1) y0 y1 y2 y3)) ∧ (∀ y0 y1 y2 y3 y4, LeO (stipendlaw05_BandRises.j1 k y0 y1 y2 y3 y4) (stipendlaw05_BandRises.j1 (k + 1) y0 y1 y2 y3 y4)) ∧ (∀ y0 y1 y2 y3 y4, LeO (stipendlaw05_BandRises.j2 k y0 y1 y2 y3 y4) (stipendlaw05_BandRises.j2 (k + 1) y0 y1 y2 y3 y4))
  | 0 => ⟨fun _ _ _ _ r h => by simp [stipendlaw05_BandRises.j0] at h, fun _ _ _ _ _ r h => by simp [stipendlaw05_BandRises.j1] at h, fun _ _ _ _ _ r h => by simp [stipendlaw05_BandRises.j2] at h⟩
  | k + 1 => by
    obtain ⟨ih0, ih1, ih2⟩ := stipendlaw05_BandRises.mono_l k
    refine ⟨?_, ?_, ?_⟩
    · intro y0 y1 y2 y3
      unfold stipendlaw05_BandRises.j0
      repeat' first
      | (with_reducible exact ih0 _ _ _ _)
      | (with_reducible exact ih1 _ _ _ _ _)
      | (with_reducible exact ih2 _ _ _ _ _)
      | (with_reducible exact band_Find.mono _ _ _)
      | (with_reducible exact band_Top.mono _ _)
      | (with_reducible exact frac_Part.mono _ _ _)
      | (with_reducible exact stipendlaw05_sums.mono _)
      | (with_reducible exact stipendref05_Check.mono _ _)
      | (with_reducible exact LeO.refl _)
      | (with_reducible exact LeO.none _)
      | (with_reducible refine LeO.ite ?_ ?_)
      | (with_reducible refine LeO.bind ?_ (fun _ => ?_))
      | exact ih0 _ _ _ _
      | exact ih1 _ _ _ _ _
      | exact ih2 _ _ _ _ _
      | exact band_Find.mono _ _ _
      | exact band_Top.mono _ _
      | exact frac_Part.mono _ _ _
      | exact stipendlaw05_sums.mono _
      | exact stipendref05_Check.mono _ _
      | exact LeO.none _
      | refine LeO.ite ?_ ?_
      | refine LeO.bind ?_ (fun _ => ?_)
    · intro y0 y1 y2 y3 y4
      unfold stipendlaw05_BandRises.j1
      repeat' first
      | (with_reducible exact ih0 _ _ _ _)
      | (with_reducible exact ih1 _ _ _ _ _)
      | (with_reducible exact ih2 _ _ _ _ _)
      | (with_reducible exact band_Find.mono _ _ _)
      | (with_reducible exact band_Top.mono _ _)
      | (with_reducible exact frac_Part.mono _ _ _)
      | (with_reducible exact stipendlaw05_sums.mono _)
      | (with_reducible exact stipendref05_Check.mono _ _)
      | (with_reducible exact LeO.refl _)
      | (with_reducible exact LeO.none _)
      | (with_reducible refine LeO.ite ?_ ?_)
      | (with_reducible refine LeO.bind ?_ (fun _ => ?_))
      | exact ih0 _ _ _ _
      | exact ih1 _ _ _ _ _
      | exact ih2 _ _ _ _ _
      | exact band_Find.mono _ _ _
      | exact band_Top.mono _ _
      | exact frac_Part.mono _ _ _
      | exact stipendlaw05_sums.mono _
      | exact stipendref05_Check.mono _ _
      | exact LeO.none _
      | refine LeO.ite ?_ ?_
      | refine LeO.bind ?_ (fun _ => ?_)
    · intro y0 y1 y2 y3 y4
      unfold stipendlaw05_BandRises.j2
      repeat' first
      | (with_reducible exact ih0 _ _ _ _)
      | (with_reducible exact ih1 _ _ _ _ _)
      | (with_reducible exact ih2 _ _ _ _ _)
      | (with_reducible exact band_Find.mono _ _ _)
      | (with_reducible exact band_Top.mono _ _)
      | (with_reducible exact frac_Part.mono _ _ _)
      | (with_reducible exact stipendlaw05_sums.mono _)
      | (with_reducible exact stipendref05_Check.mono _ _)
      | (with_reducible exact LeO.refl _)
      | (with_reducible exact LeO.none _)
      | (with_reducible refine LeO.ite ?_ ?_)
      | (with_reducible refine LeO.bind ?_ (fun _ => ?_))
      | exact ih0 _ _ _ _
      | exact ih1 _ _ _ _ _
      | exact ih2 _ _ _ _ _
      | exact band_Find.mono _ _ _
      | exact band_Top.mono _ _
      | exact frac_Part.mono _ _ _
      | exact stipendlaw05_sums.mono _
      | exact stipendref05_Check.mono _ _
      | exact LeO.none _
      | refine LeO.ite ?_ ?_
      | refine LeO.bind ?_ (fun _ => ?_)
theorem stipendlaw05_BandRises.mono : ∀ a0 a1 a2 k, LeO (stipendlaw05_BandRises.f k a0 a1 a2) (stipendlaw05_BandRises.f (k + 1) a0 a1 a2) := by
  intro a0 a1 a2 k
  obtain ⟨ih0, ih1, ih2⟩ := stipendlaw05_BandRises.mono_l k
  unfold stipendlaw05_BandRises.f
  repeat' first
      | (with_reducible exact ih0 _ _ _ _)
      | (with_reducible exact ih1 _ _ _ _ _)
      | (with_reducible exact ih2 _ _ _ _ _)
      | (with_reducible exact band_Find.mono _ _ _)
      | (with_reducible exact band_Top.mono _ _)
      | (with_reducible exact frac_Part.mono _ _ _)
      | (with_reducible exact stipendlaw05_sums.mono _)
      | (with_reducible exact stipendref05_Check.mono _ _)
      | (with_reducible exact LeO.refl _)
      | (with_reducible exact LeO.none _)
      | (with_reducible refine LeO.ite ?_ ?_)
      | (with_reducible refine LeO.bind ?_ (fun _ => ?_))
      | exact ih0 _ _ _ _
      | exact ih1 _ _ _ _ _
      | exact ih2 _ _ _ _ _
      | exact band_Find.mono _ _ _
      | exact band_Top.mono _ _
      | exact frac_Part.mono _ _ _
      | exact stipendlaw05_sums.mono _
      | exact stipendref05_Check.mono _ _
      | exact LeO.none _
      | refine LeO.ite ?_ ?_
      | refine LeO.bind ?_ (fun _ => ?_)
set_option maxHeartbeats 8000000 in
set_option maxRecDepth 100000 in
theorem stipendlaw05_BandRises.calls (k : Nat) (A0 : Option Addr) (c0 : Nat) (l0 : List (S106)) (a1 : Int) (a2 : Int) (r : Bool) (w : World) (hr0 : Kd.C k106 w A0 l0.length l0) (hc0 : l0.length ≤ c0) (h : stipendlaw05_BandRises.f k l0 a1 a2 = some r) :
    Calls Try.prog 10 #[.slice A0 l0.length c0, .int .i64 a1, .int .i64 a2] w fun e w' => e = .returned (.bool r) ∧ Below w.heap.size w w' := by
  have HR0 := Aside0.mk hr0
  have HC0 := Aside0.mk hc0
  clear hr0 hc0
  have HB := Aside0.mk (Below.refl w.heap.size w)
  have H : ((stipendlaw05_sums.f k).bind fun t614 => (if t614 = true then ((stipendref05_Check.f k l0).bind fun t615 => (if t615 = 0 then (if a1 > 100000000000 then (stipendlaw05_BandRises.j0 k l0 a1 a2 true) else (if a2 < (-100000000000) then (stipendlaw05_BandRises.j0 k l0 a1 a2 true) else (if a1 < (-100000000000) then (stipendlaw05_BandRises.j0 k l0 a1 a2 true) else (if a2 > 100000000000 then (stipendlaw05_BandRises.j0 k l0 a1 a2 true) else (stipendlaw05_BandRises.j0 k l0 a1 a2 (decide (a1 > a2))))))) else (stipendlaw05_BandRises.j0 k l0 a1 a2 true))) else (none))) = some r := h
  clear h
  replace H := Option.bind_eq_some_iff.mp H
  obtain ⟨t614, A40, H⟩ := H
  replace H : (if t614 = true then ((stipendref05_Check.f k l0).bind fun t615 => (if t615 = 0 then (if a1 > 100000000000 then (stipendlaw05_BandRises.j0 k l0 a1 a2 true) else (if a2 < (-100000000000) then (stipendlaw05_BandRises.j0 k l0 a1 a2 true) else (if a1 < (-100000000000) then (stipendlaw05_BandRises.j0 k l0 a1 a2 true) else (if a2 > 100000000000 then (stipendlaw05_BandRises.j0 k l0 a1 a2 true) else (stipendlaw05_BandRises.j0 k l0 a1 a2 (decide (a1 > a2))))))) else (stipendlaw05_BandRises.j0 k l0 a1 a2 true))) else (none)) = some r := H
  have A4 := Aside0.mk A40
  clear A40
  by_cases c5 : t614 = true
  · subst c5
    have H1 : ((stipendref05_Check.f k l0).bind fun t615 => (if t615 = 0 then (if a1 > 100000000000 then (stipendlaw05_BandRises.j0 k l0 a1 a2 true) else (if a2 < (-100000000000) then (stipendlaw05_BandRises.j0 k l0 a1 a2 true) else (if a1 < (-100000000000) then (stipendlaw05_BandRises.j0 k l0 a1 a2 true) else (if a2 > 100000000000 then (stipendlaw05_BandRises.j0 k l0 a1 a2 true) else (stipendlaw05_BandRises.j0 k l0 a1 a2 (decide (a1 > a2))))))) else (stipendlaw05_BandRises.j0 k l0 a1 a2 true))) = some r := by rw [if_pos rfl] at H; exact H
    clear H
    have H := H1
    clear H1
    have HC6 := Aside0.mk H
    clear H
    go_enter Try.func10, Try.ntmps10
    go_upto_region 3 with (first | ((with_reducible refine gate_callee (f := 32) rfl ?_); refine goesL_ (some 17) rfl rfl Try.func32 (by kernel_rfl) rfl #[] rfl (by (try simp only [List.map_toArray, List.map_cons, List.map_nil]); first | done | rfl | (simp only [List.length_drop, List.length_take]; rfl)) ?_; (with_reducible refine (stipendlaw05_sums.calls k  true _ A4.out).mono ?_); rintro e w7 ⟨rfl, hb⟩; refine ⟨_, rfl, ?_⟩; have n0_ := Aside0.mk (below_step (by repeat (first | (with_reducible first | exact HB.out | apply below_alloc | apply pw_below_drewN | apply below_drew1) | exact HB.out)) hb); clear HB; have HB := n0_; clear n0_; (try clear hb); (try clear hb2); (try clear hk); (try clear hi)))
    (try simp only [Act.put, List.setIfInBounds_toArray, List.set_cons_zero, List.set_cons_succ])
    go_cut [42] (fun v42 wc => ∃ (kq : Nat) (x42_5 : Bool), v42 = .bool x42_5 ∧ Aside0 (stipendlaw05_BandRises.j0 kq l0 a1 a2 x42_5 = some r) ∧ Aside0 (kq ≤ k) ∧ Aside0 (Below w.heap.size w wc))
    case first =>
      have H := HC6.out
      clear HC6
      replace H := Option.bind_eq_some_iff.mp H
      obtain ⟨t615, A80, H⟩ := H
      replace H : (if t615 = 0 then (if a1 > 100000000000 then (stipendlaw05_BandRises.j0 k l0 a1 a2 true) else (if a2 < (-100000000000) then (stipendlaw05_BandRises.j0 k l0 a1 a2 true) else (if a1 < (-100000000000) then (stipendlaw05_BandRises.j0 k l0 a1 a2 true) else (if a2 > 100000000000 then (stipendlaw05_BandRises.j0 k l0 a1 a2 true) else (stipendlaw05_BandRises.j0 k l0 a1 a2 (decide (a1 > a2))))))) else (stipendlaw05_BandRises.j0 k l0 a1 a2 true)) = some r := H
      have A8 := Aside0.mk A80
      clear A80
      by_cases c9 : t615 = 0
      · rw [if_pos c9] at H
        have c9b0 : (t615 == 0) = true := beq_iff_eq.mpr c9
        have c9b1 : (t615 != 0) = false := bne_eq_false_iff_eq.mpr c9
        clear c9
        (first | rw [c9b0] | (simp only [i64_w, i32_w]; rw [c9b0]) | skip)
        by_cases c10 : a1 > 100000000000
        · rw [if_pos c10] at H
          have c10b0 : decide (100000000000 < a1) = true := decide_eq_true c10
          clear c10
          have H' := Aside0.mk H
          clear H
          go_wp2_with (first | ((with_reducible refine gate_callee (f := 33) rfl ?_); refine goesL_ (some 20) rfl rfl Try.func33 (by kernel_rfl) rfl #[.slice A0 l0.length c0] rfl (by (try simp only [List.map_toArray, List.map_cons, List.map_nil]); first | done | rfl | (simp only [List.length_drop, List.length_take]; rfl)) ?_; (with_reducible refine (stipendref05_Check.calls k _ _ l0 t615 _ ?side1 ?side2 A8.out).mono ?_); (case side1 => repeat (first | exact (Kd.C_below HR0.out HB.out) | (with_reducible refine Kd.C_alloc ?_ _) | (with_reducible refine Kd.C_drewN ?_ _) | (with_reducible refine Kd.C_drew ?_))); (case side2 => exact HC0.out); rintro e w' ⟨rfl, ⟨nd, rfl⟩⟩; refine ⟨_, rfl, ?_⟩))
          go_meet
          case rel => exact ⟨_, (true), (by first | rfl | (simp; done) | (simp [*]; done)), H', ⟨by first | omega | exact Nat.le_refl _⟩, ⟨by repeat (first | (with_reducible first | exact HB.out | apply below_alloc | apply pw_below_drewN | apply below_drew1) | exact HB.out)⟩⟩
        · rw [if_neg c10] at H
          have c10b0 : decide (100000000000 < a1) = false := decide_eq_false c10
          clear c10
          by_cases c11 : a2 < (-100000000000)
          · rw [if_pos c11] at H
            have c11b0 : decide (a2 < (-100000000000)) = true := decide_eq_true c11
            clear c11
            have H' := Aside0.mk H
            clear H
            go_wp2_with (first | ((with_reducible refine gate_callee (f := 33) rfl ?_); refine goesL_ (some 20) rfl rfl Try.func33 (by kernel_rfl) rfl #[.slice A0 l0.length c0] rfl (by (try simp only [List.map_toArray, List.map_cons, List.map_nil]); first | done | rfl | (simp only [List.length_drop, List.length_take]; rfl)) ?_; (with_reducible refine (stipendref05_Check.calls k _ _ l0 t615 _ ?side1 ?side2 A8.out).mono ?_); (case side1 => repeat (first | exact (Kd.C_below HR0.out HB.out) | (with_reducible refine Kd.C_alloc ?_ _) | (with_reducible refine Kd.C_drewN ?_ _) | (with_reducible refine Kd.C_drew ?_))); (case side2 => exact HC0.out); rintro e w' ⟨rfl, ⟨nd, rfl⟩⟩; refine ⟨_, rfl, ?_⟩))
            go_meet
            case rel => exact ⟨_, (true), (by first | rfl | (simp; done) | (simp [*]; done)), H', ⟨by first | omega | exact Nat.le_refl _⟩, ⟨by repeat (first | (with_reducible first | exact HB.out | apply below_alloc | apply pw_below_drewN | apply below_drew1) | exact HB.out)⟩⟩
          · rw [if_neg c11] at H
            have c11b0 : decide (a2 < (-100000000000)) = false := decide_eq_false c11
            clear c11
            by_cases c12 : a1 < (-100000000000)
            · rw [if_pos c12] at H
              have c12b0 : decide (a1 < (-100000000000)) = true := decide_eq_true c12
              clear c12
              have H' := Aside0.mk H
              clear H
              go_wp2_with (first | ((with_reducible refine gate_callee (f := 33) rfl ?_); refine goesL_ (some 20) rfl rfl Try.func33 (by kernel_rfl) rfl #[.slice A0 l0.length c0] rfl (by (try simp only [List.map_toArray, List.map_cons, List.map_nil]); first | done | rfl | (simp only [List.length_drop, List.length_take]; rfl)) ?_; (with_reducible refine (stipendref05_Check.calls k _ _ l0 t615 _ ?side1 ?side2 A8.out).mono ?_); (case side1 => repeat (first | exact (Kd.C_below HR0.out HB.out) | (with_reducible refine Kd.C_alloc ?_ _) | (with_reducible refine Kd.C_drewN ?_ _) | (with_reducible refine Kd.C_drew ?_))); (case side2 => exact HC0.out); rintro e w' ⟨rfl, ⟨nd, rfl⟩⟩; refine ⟨_, rfl, ?_⟩))
              go_meet
              case rel => exact ⟨_, (true), (by first | rfl | (simp; done) | (simp [*]; done)), H', ⟨by first | omega | exact Nat.le_refl _⟩, ⟨by repeat (first | (with_reducible first | exact HB.out | apply below_alloc | apply pw_below_drewN | apply below_drew1) | exact HB.out)⟩⟩
            · rw [if_neg c12] at H
              have c12b0 : decide (a1 < (-100000000000)) = false := decide_eq_false c12
              clear c12
              by_cases c13 : a2 > 100000000000
              · rw [if_pos c13] at H
                have c13b0 : decide (100000000000 < a2) = true := decide_eq_true c13
                clear c13
                have H' := Aside0.mk H
                clear H
                go_wp2_with (first | ((with_reducible refine gate_callee (f := 33) rfl ?_); refine goesL_ (some 20) rfl rfl Try.func33 (by kernel_rfl) rfl #[.slice A0 l0.length c0] rfl (by (try simp only [List.map_toArray, List.map_cons, List.map_nil]); first | done | rfl | (simp only [List.length_drop, List.length_take]; rfl)) ?_; (with_reducible refine (stipendref05_Check.calls k _ _ l0 t615 _ ?side1 ?side2 A8.out).mono ?_); (case side1 => repeat (first | exact (Kd.C_below HR0.out HB.out) | (with_reducible refine Kd.C_alloc ?_ _) | (with_reducible refine Kd.C_drewN ?_ _) | (with_reducible refine Kd.C_drew ?_))); (case side2 => exact HC0.out); rintro e w' ⟨rfl, ⟨nd, rfl⟩⟩; refine ⟨_, rfl, ?_⟩))
                go_meet
                case rel => exact ⟨_, (true), (by first | rfl | (simp; done) | (simp [*]; done)), H', ⟨by first | omega | exact Nat.le_refl _⟩, ⟨by repeat (first | (with_reducible first | exact HB.out | apply below_alloc | apply pw_below_drewN | apply below_drew1) | exact HB.out)⟩⟩
              · rw [if_neg c13] at H
                have c13b0 : decide (100000000000 < a2) = false := decide_eq_false c13
                clear c13
                have H' := Aside0.mk H
                clear H
                go_wp2_with (first | ((with_reducible refine gate_callee (f := 33) rfl ?_); refine goesL_ (some 20) rfl rfl Try.func33 (by kernel_rfl) rfl #[.slice A0 l0.length c0] rfl (by (try simp only [List.map_toArray, List.map_cons, List.map_nil]); first | done | rfl | (simp only [List.length_drop, List.length_take]; rfl)) ?_; (with_reducible refine (stipendref05_Check.calls k _ _ l0 t615 _ ?side1 ?side2 A8.out).mono ?_); (case side1 => repeat (first | exact (Kd.C_below HR0.out HB.out) | (with_reducible refine Kd.C_alloc ?_ _) | (with_reducible refine Kd.C_drewN ?_ _) | (with_reducible refine Kd.C_drew ?_))); (case side2 => exact HC0.out); rintro e w' ⟨rfl, ⟨nd, rfl⟩⟩; refine ⟨_, rfl, ?_⟩))
                go_meet
                case rel => exact ⟨_, (decide (a1 > a2)), (by first | rfl | (simp; done) | (simp [*]; done)), H', ⟨by first | omega | exact Nat.le_refl _⟩, ⟨by repeat (first | (with_reducible first | exact HB.out | apply below_alloc | apply pw_below_drewN | apply below_drew1) | exact HB.out)⟩⟩
      · rw [if_neg c9] at H
        have c9b0 : (t615 == 0) = false := beq_eq_false_iff_ne.mpr c9
        have c9b1 : (t615 != 0) = true := bne_iff_ne.mpr c9
        (first | rw [c9b0] | (simp only [i64_w, i32_w]; rw [c9b0]) | skip)
        have H' := Aside0.mk H
        clear H
        go_wp2_with (first | ((with_reducible refine gate_callee (f := 33) rfl ?_); refine goesL_ (some 20) rfl rfl Try.func33 (by kernel_rfl) rfl #[.slice A0 l0.length c0] rfl (by (try simp only [List.map_toArray, List.map_cons, List.map_nil]); first | done | rfl | (simp only [List.length_drop, List.length_take]; rfl)) ?_; (with_reducible refine (stipendref05_Check.calls k _ _ l0 t615 _ ?side1 ?side2 A8.out).mono ?_); (case side1 => repeat (first | exact (Kd.C_below HR0.out HB.out) | (with_reducible refine Kd.C_alloc ?_ _) | (with_reducible refine Kd.C_drewN ?_ _) | (with_reducible refine Kd.C_drew ?_))); (case side2 => exact HC0.out); rintro e w' ⟨rfl, ⟨nd, rfl⟩⟩; refine ⟨_, rfl, ?_⟩))
        go_meet
        case rel => exact ⟨_, (true), (by first | rfl | (simp; done) | (simp [*]; done)), H', ⟨by first | omega | exact Nat.le_refl _⟩, ⟨by repeat (first | (with_reducible first | exact HB.out | apply below_alloc | apply pw_below_drewN | apply below_drew1) | exact HB.out)⟩⟩
    case rest =>
      clear HC6
      try clear c1
      try clear p2
      try clear c3
      try clear c5
      try clear c9
      try clear c9b0
      try clear c9b1
      try clear c10
      try clear c10b0
      try clear c11
      try clear c11b0
      try clear c12
      try clear c12b0
      try clear c13
      try clear c13b0
      obtain ⟨kq, x42_5, rfl, HA, HJ5, HB⟩ := hcut
      cases kq with
      | zero => exact absurd HA.out (by simp [stipendlaw05_BandRises.j0])
      | succ kj5 =>
        have H := HA.out
        clear HA
        simp only [stipendlaw05_BandRises.j0] at H
        by_cases c14 : x42_5 = true
        · subst c14
          have H1 : (some true) = some r := by rw [if_pos rfl] at H; exact H
          clear H
          have H := H1
          clear H1
          obtain rfl := Option.some.inj H
          go_wp2
          go_ret
          exact ⟨by first | rfl | (simp [errW_none, errW_some] <;> rfl) | (simp [*, errW_none, errW_some] <;> rfl), by repeat (first | (with_reducible first | exact HB.out | apply below_alloc | apply pw_below_drewN | apply below_drew1) | exact HB.out)⟩
        · replace c14 := Bool.eq_false_iff.mpr c14
          subst c14
          have H1 : ((band_Exact.f a1 l0).bind fun bt616 => ((band_Exact.f a2 l0).bind fun bt618 => ((band_Between.f a1 a2 l0).bind fun bt620 => (if bt620.2 = 0 then (if bt620.1 = (wrap64 (bt618.1 - bt616.1)) then (if bt618.1 < bt616.1 then (stipendlaw05_BandRises.j1 kj5 l0 a1 a2 bt620.1 true) else (stipendlaw05_BandRises.j1 kj5 l0 a1 a2 bt620.1 (decide (bt616.1 < 0)))) else (stipendlaw05_BandRises.j1 kj5 l0 a1 a2 bt620.1 true)) else (stipendlaw05_BandRises.j1 kj5 l0 a1 a2 bt620.1 true))))) = some r := by rw [if_neg (show ¬ (false = true) by decide)] at H; exact H
          clear H
          have H := H1
          clear H1
          replace H := Option.bind_eq_some_iff.mp H
          obtain ⟨⟨t616, t617⟩, A150, H⟩ := H
          replace H : ((band_Exact.f a2 l0).bind fun bt618 => ((band_Between.f a1 a2 l0).bind fun bt620 => (if bt620.2 = 0 then (if bt620.1 = (wrap64 (bt618.1 - t616)) then (if bt618.1 < t616 then (stipendlaw05_BandRises.j1 kj5 l0 a1 a2 bt620.1 true) else (stipendlaw05_BandRises.j1 kj5 l0 a1 a2 bt620.1 (decide (t616 < 0)))) else (stipendlaw05_BandRises.j1 kj5 l0 a1 a2 bt620.1 true)) else (stipendlaw05_BandRises.j1 kj5 l0 a1 a2 bt620.1 true)))) = some r := H
          have A15 := Aside0.mk A150
          clear A150
          replace H := Option.bind_eq_some_iff.mp H
          obtain ⟨⟨t618, t619⟩, A160, H⟩ := H
          replace H : ((band_Between.f a1 a2 l0).bind fun bt620 => (if bt620.2 = 0 then (if bt620.1 = (wrap64 (t618 - t616)) then (if t618 < t616 then (stipendlaw05_BandRises.j1 kj5 l0 a1 a2 bt620.1 true) else (stipendlaw05_BandRises.j1 kj5 l0 a1 a2 bt620.1 (decide (t616 < 0)))) else (stipendlaw05_BandRises.j1 kj5 l0 a1 a2 bt620.1 true)) else (stipendlaw05_BandRises.j1 kj5 l0 a1 a2 bt620.1 true))) = some r := H
          have A16 := Aside0.mk A160
          clear A160
          replace H := Option.bind_eq_some_iff.mp H
          obtain ⟨⟨t620, t621⟩, A170, H⟩ := H
          replace H : (if t621 = 0 then (if t620 = (wrap64 (t618 - t616)) then (if t618 < t616 then (stipendlaw05_BandRises.j1 kj5 l0 a1 a2 t620 true) else (stipendlaw05_BandRises.j1 kj5 l0 a1 a2 t620 (decide (t616 < 0)))) else (stipendlaw05_BandRises.j1 kj5 l0 a1 a2 t620 true)) else (stipendlaw05_BandRises.j1 kj5 l0 a1 a2 t620 true)) = some r := H
          have A17 := Aside0.mk A170
          clear A170
          have HC18 := Aside0.mk H
          clear H
          go_upto_region 8 with (first | ((with_reducible refine gate_callee (f := 34) rfl ?_); refine goesL_ (some 46) rfl rfl Try.func34 (by kernel_rfl) rfl #[.int .i64 a1, .slice A0 l0.length c0] rfl (by (try simp only [List.map_toArray, List.map_cons, List.map_nil]); first | done | rfl | (simp only [List.length_drop, List.length_take]; rfl)) ?_; (with_reducible refine (band_Exact.calls a1 _ _ l0 t616 t617 _ ?side1 ?side2 A15.out).mono ?_); (case side1 => repeat (first | exact (Kd.C_below HR0.out HB.out) | (with_reducible refine Kd.C_alloc ?_ _) | (with_reducible refine Kd.C_drewN ?_ _) | (with_reducible refine Kd.C_drew ?_))); (case side2 => exact HC0.out); rintro e w19 ⟨rfl, hb⟩; refine ⟨_, rfl, ?_⟩; have n0_ := Aside0.mk (below_step (by repeat (first | (with_reducible first | exact HB.out | apply below_alloc | apply pw_below_drewN | apply below_drew1) | exact HB.out)) hb); clear HB; have HB := n0_; clear n0_; (try clear hb); (try clear hb2); (try clear hk); (try clear hi)) | ((with_reducible refine gate_callee (f := 34) rfl ?_); refine goesL_ (some 52) rfl rfl Try.func34 (by kernel_rfl) rfl #[.int .i64 a2, .slice A0 l0.length c0] rfl (by (try simp only [List.map_toArray, List.map_cons, List.map_nil]); first | done | rfl | (simp only [List.length_drop, List.length_take]; rfl)) ?_; (with_reducible refine (band_Exact.calls a2 _ _ l0 t618 t619 _ ?side1 ?side2 A16.out).mono ?_); (case side1 => repeat (first | exact (Kd.C_below HR0.out HB.out) | (with_reducible refine Kd.C_alloc ?_ _) | (with_reducible refine Kd.C_drewN ?_ _) | (with_reducible refine Kd.C_drew ?_))); (case side2 => exact HC0.out); rintro e w20 ⟨rfl, hb⟩; refine ⟨_, rfl, ?_⟩; have n0_ := Aside0.mk (below_step (by repeat (first | (with_reducible first | exact HB.out | apply below_alloc | apply pw_below_drewN | apply below_drew1) | exact HB.out)) hb); clear HB; have HB := n0_; clear n0_; (try clear hb); (try clear hb2); (try clear hk); (try clear hi)) | ((with_reducible refine gate_callee (f := 57) rfl ?_); refine goesL_ (some 59) rfl rfl Try.func57 (by kernel_rfl) rfl #[.int .i64 a1, .int .i64 a2, .slice A0 l0.length c0] rfl (by (try simp only [List.map_toArray, List.map_cons, List.map_nil]); first | done | rfl | (simp only [List.length_drop, List.length_take]; rfl)) ?_; (with_reducible refine (band_Between.calls a1 a2 _ _ l0 t620 t621 _ ?side1 ?side2 A17.out).mono ?_); (case side1 => repeat (first | exact (Kd.C_below HR0.out HB.out) | (with_reducible refine Kd.C_alloc ?_ _) | (with_reducible refine Kd.C_drewN ?_ _) | (with_reducible refine Kd.C_drew ?_))); (case side2 => exact HC0.out); rintro e w21 ⟨rfl, hb⟩; refine ⟨_, rfl, ?_⟩; have n0_ := Aside0.mk (below_step (by repeat (first | (with_reducible first | exact HB.out | apply below_alloc | apply pw_below_drewN | apply below_drew1) | exact HB.out)) hb); clear HB; have HB := n0_; clear n0_; (try clear hb); (try clear hb2); (try clear hk); (try clear hi)))
          (try simp only [Act.put, List.setIfInBounds_toArray, List.set_cons_zero, List.set_cons_succ])
          go_cut [79] (fun v79 wc => ∃ (kq : Nat) (x79_17 : Bool), v79 = .bool x79_17 ∧ Aside0 (stipendlaw05_BandRises.j1 kq l0 a1 a2 t620 x79_17 = some r) ∧ Aside0 (kq ≤ kj5) ∧ Aside0 (Below w.heap.size w wc))
          case first =>
            have H := HC18.out
            clear HC18
            by_cases c22 : t621 = 0
            · rw [if_pos c22] at H
              have c22b0 : (t621 == 0) = true := beq_iff_eq.mpr c22
              have c22b1 : (t621 != 0) = false := bne_eq_false_iff_eq.mpr c22
              clear c22
              (first | rw [c22b0] | (simp only [i64_w, i32_w]; rw [c22b0]) | skip)
              by_cases c23 : t620 = (wrap64 (t618 - t616))
              · rw [if_pos c23] at H
                have c23b0 : (t620 == (wrap64 (t618 - t616))) = true := beq_iff_eq.mpr c23
                have c23b1 : (t620 != (wrap64 (t618 - t616))) = false := bne_eq_false_iff_eq.mpr c23
                clear c23
                by_cases c24 : t618 < t616
                · rw [if_pos c24] at H
                  have c24b0 : decide (t618 < t616) = true := decide_eq_true c24
                  clear c24
                  have H' := Aside0.mk H
                  clear H
                  go_wp2
                  go_meet
                  case rel => exact ⟨_, (true), (by first | rfl | (simp; done) | (simp [*]; done)), H', ⟨by have := HJ5.out; first | omega | exact Nat.le_refl _⟩, ⟨by repeat (first | (with_reducible first | exact HB.out | apply below_alloc | apply pw_below_drewN | apply below_drew1) | exact HB.out)⟩⟩
                · rw [if_neg c24] at H
                  have c24b0 : decide (t618 < t616) = false := decide_eq_false c24
                  clear c24
                  have H' := Aside0.mk H
                  clear H
                  go_wp2
                  go_meet
                  case rel => exact ⟨_, (decide (t616 < 0)), (by first | rfl | (simp; done) | (simp [*]; done)), H', ⟨by have := HJ5.out; first | omega | exact Nat.le_refl _⟩, ⟨by repeat (first | (with_reducible first | exact HB.out | apply below_alloc | apply pw_below_drewN | apply below_drew1) | exact HB.out)⟩⟩
              · rw [if_neg c23] at H
                have c23b0 : (t620 == (wrap64 (t618 - t616))) = false := beq_eq_false_iff_ne.mpr c23
                have c23b1 : (t620 != (wrap64 (t618 - t616))) = true := bne_iff_ne.mpr c23
                have H' := Aside0.mk H
                clear H
                go_wp2
                go_meet
                case rel => exact ⟨_, (true), (by first | rfl | (simp; done) | (simp [*]; done)), H', ⟨by have := HJ5.out; first | omega | exact Nat.le_refl _⟩, ⟨by repeat (first | (with_reducible first | exact HB.out | apply below_alloc | apply pw_below_drewN | apply below_drew1) | exact HB.out)⟩⟩
            · rw [if_neg c22] at H
              have c22b0 : (t621 == 0) = false := beq_eq_false_iff_ne.mpr c22
              have c22b1 : (t621 != 0) = true := bne_iff_ne.mpr c22
              (first | rw [c22b0] | (simp only [i64_w, i32_w]; rw [c22b0]) | skip)
              have H' := Aside0.mk H
              clear H
              go_wp2
              go_meet
              case rel => exact ⟨_, (true), (by first | rfl | (simp; done) | (simp [*]; done)), H', ⟨by have := HJ5.out; first | omega | exact Nat.le_refl _⟩, ⟨by repeat (first | (with_reducible first | exact HB.out | apply below_alloc | apply pw_below_drewN | apply below_drew1) | exact HB.out)⟩⟩
          case rest =>
            clear HC18
            try clear c1
            try clear c2
            try clear p2
            try clear c3
            try clear c5
            try clear p6
            try clear c9
            try clear c9b0
            try clear c9b1
            try clear c10
            try clear c10b0
            try clear c11
            try clear c11b0
            try clear c12
            try clear c12b0
            try clear c13
            try clear c13b0
            try clear c14
            try clear c22
            try clear c22b0
            try clear c22b1
            try clear c23
            try clear c23b0
            try clear c23b1
            try clear c24
            try clear c24b0
            try clear p2
            obtain ⟨kq, x79_17, rfl, HA, HJ17, HB⟩ := hcut
            cases kq with
            | zero => exact absurd HA.out (by simp [stipendlaw05_BandRises.j1])
            | succ kj17 =>
              have H := HA.out
              clear HA
              simp only [stipendlaw05_BandRises.j1] at H
              by_cases c25 : x79_17 = true
              · subst c25
                have H1 : (none) = some r := by rw [if_pos rfl] at H; exact H
                clear H
                have H := H1
                clear H1
                exact absurd H (by simp)
              · replace c25 := Bool.eq_false_iff.mpr c25
                subst c25
                have H1 : ((band_Find.f kj17 a1 l0).bind fun t622 => ((band_Find.f kj17 a2 l0).bind fun t623 => (if t622 > t623 then (stipendlaw05_BandRises.j2 kj17 l0 a1 a2 t620 true) else (if t622 < 0 then (stipendlaw05_BandRises.j2 kj17 l0 a1 a2 t620 true) else (if t623 ≥ (l0.length : Int) then (stipendlaw05_BandRises.j2 kj17 l0 a1 a2 t620 true) else (if 0 ≤ t623 then (if t623 < (l0.length : Int) then (if ((rd_T106 l0 t623).f0) ≥ a2 then (if t623 > 0 then (stipendlaw05_BandRises.j2 kj17 l0 a1 a2 t620 true) else (if (wrap64 (t623 + 1)) < (l0.length : Int) then (if 0 ≤ (wrap64 (t623 + 1)) then (stipendlaw05_BandRises.j2 kj17 l0 a1 a2 t620 (decide (((rd_T106 l0 (wrap64 (t623 + 1))).f0) < a2))) else (none)) else (stipendlaw05_BandRises.j2 kj17 l0 a1 a2 t620 false))) else (if (wrap64 (t623 + 1)) < (l0.length : Int) then (if 0 ≤ (wrap64 (t623 + 1)) then (stipendlaw05_BandRises.j2 kj17 l0 a1 a2 t620 (decide (((rd_T106 l0 (wrap64 (t623 + 1))).f0) < a2))) else (none)) else (stipendlaw05_BandRises.j2 kj17 l0 a1 a2 t620 false))) else (none)) else (none))))))) = some r := by rw [if_neg (show ¬ (false = true) by decide)] at H; exact H
                clear H
                have H := H1
                clear H1
                replace H := Option.bind_eq_some_iff.mp H
                obtain ⟨t622, A260, H⟩ := H
                replace H : ((band_Find.f kj17 a2 l0).bind fun t623 => (if t622 > t623 then (stipendlaw05_BandRises.j2 kj17 l0 a1 a2 t620 true) else (if t622 < 0 then (stipendlaw05_BandRises.j2 kj17 l0 a1 a2 t620 true) else (if t623 ≥ (l0.length : Int) then (stipendlaw05_BandRises.j2 kj17 l0 a1 a2 t620 true) else (if 0 ≤ t623 then (if t623 < (l0.length : Int) then (if ((rd_T106 l0 t623).f0) ≥ a2 then (if t623 > 0 then (stipendlaw05_BandRises.j2 kj17 l0 a1 a2 t620 true) else (if (wrap64 (t623 + 1)) < (l0.length : Int) then (if 0 ≤ (wrap64 (t623 + 1)) then (stipendlaw05_BandRises.j2 kj17 l0 a1 a2 t620 (decide (((rd_T106 l0 (wrap64 (t623 + 1))).f0) < a2))) else (none)) else (stipendlaw05_BandRises.j2 kj17 l0 a1 a2 t620 false))) else (if (wrap64 (t623 + 1)) < (l0.length : Int) then (if 0 ≤ (wrap64 (t623 + 1)) then (stipendlaw05_BandRises.j2 kj17 l0 a1 a2 t620 (decide (((rd_T106 l0 (wrap64 (t623 + 1))).f0) < a2))) else (none)) else (stipendlaw05_BandRises.j2 kj17 l0 a1 a2 t620 false))) else (none)) else (none)))))) = some r := H
                have A26 := Aside0.mk A260
                clear A260
                replace H := Option.bind_eq_some_iff.mp H
                obtain ⟨t623, A270, H⟩ := H
                replace H : (if t622 > t623 then (stipendlaw05_BandRises.j2 kj17 l0 a1 a2 t620 true) else (if t622 < 0 then (stipendlaw05_BandRises.j2 kj17 l0 a1 a2 t620 true) else (if t623 ≥ (l0.length : Int) then (stipendlaw05_BandRises.j2 kj17 l0 a1 a2 t620 true) else (if 0 ≤ t623 then (if t623 < (l0.length : Int) then (if ((rd_T106 l0 t623).f0) ≥ a2 then (if t623 > 0 then (stipendlaw05_BandRises.j2 kj17 l0 a1 a2 t620 true) else (if (wrap64 (t623 + 1)) < (l0.length : Int) then (if 0 ≤ (wrap64 (t623 + 1)) then (stipendlaw05_BandRises.j2 kj17 l0 a1 a2 t620 (decide (((rd_T106 l0 (wrap64 (t623 + 1))).f0) < a2))) else (none)) else (stipendlaw05_BandRises.j2 kj17 l0 a1 a2 t620 false))) else (if (wrap64 (t623 + 1)) < (l0.length : Int) then (if 0 ≤ (wrap64 (t623 + 1)) then (stipendlaw05_BandRises.j2 kj17 l0 a1 a2 t620 (decide (((rd_T106 l0 (wrap64 (t623 + 1))).f0) < a2))) else (none)) else (stipendlaw05_BandRises.j2 kj17 l0 a1 a2 t620 false))) else (none)) else (none))))) = some r := H
                have A27 := Aside0.mk A270
                clear A270
                have HC28 := Aside0.mk H
                clear H
                go_upto_region 11 with (first | ((with_reducible refine gate_callee (f := 58) rfl ?_); refine goesL_ (some 82) rfl rfl Try.func58 (by kernel_rfl) rfl #[.int .i64 a1, .slice A0 l0.length c0] rfl (by (try simp only [List.map_toArray, List.map_cons, List.map_nil]); first | done | rfl | (simp only [List.length_drop, List.length_take]; rfl)) ?_; (with_reducible refine (band_Find.calls kj17 a1 _ _ l0 t622 _ ?side1 ?side2 A26.out).mono ?_); (case side1 => repeat (first | exact (Kd.C_below HR0.out HB.out) | (with_reducible refine Kd.C_alloc ?_ _) | (with_reducible refine Kd.C_drewN ?_ _) | (with_reducible refine Kd.C_drew ?_))); (case side2 => exact HC0.out); rintro e w' ⟨rfl, ⟨nd, rfl⟩⟩; refine ⟨_, rfl, ?_⟩) | ((with_reducible refine gate_callee (f := 58) rfl ?_); refine goesL_ (some 85) rfl rfl Try.func58 (by kernel_rfl) rfl #[.int .i64 a2, .slice A0 l0.length c0] rfl (by (try simp only [List.map_toArray, List.map_cons, List.map_nil]); first | done | rfl | (simp only [List.length_drop, List.length_take]; rfl)) ?_; (with_reducible refine (band_Find.calls kj17 a2 _ _ l0 t623 _ ?side1 ?side2 A27.out).mono ?_); (case side1 => repeat (first | exact (Kd.C_below HR0.out (by repeat (first | (with_reducible first | exact HB.out | apply below_alloc | apply pw_below_drewN | apply below_drew1) | exact HB.out))) | (with_reducible refine Kd.C_alloc ?_ _) | (with_reducible refine Kd.C_drewN ?_ _) | (with_reducible refine Kd.C_drew ?_))); (case side2 => exact HC0.out); rintro e w' ⟨rfl, ⟨nd, rfl⟩⟩; refine ⟨_, rfl, ?_⟩))
                (try simp only [Act.put, List.setIfInBounds_toArray, List.set_cons_zero, List.set_cons_succ])
                go_cut [128] (fun v128 wc => ∃ (kq : Nat) (x128_27 : Bool), v128 = .bool x128_27 ∧ Aside0 (stipendlaw05_BandRises.j2 kq l0 a1 a2 t620 x128_27 = some r) ∧ Aside0 (kq ≤ kj17) ∧ Aside0 (Below w.heap.size w wc))
                case first =>
                  have H := HC28.out
                  clear HC28
                  by_cases c29 : t622 > t623
                  · rw [if_pos c29] at H
                    have c29b0 : decide (t623 < t622) = true := decide_eq_true c29
                    clear c29
                    (first | rw [c29b0] | (simp only [i64_w, i32_w]; rw [c29b0]) | skip)
                    have H' := Aside0.mk H
                    clear H
                    go_wp2
                    go_meet
                    case rel => exact ⟨_, (true), (by first | rfl | (simp; done) | (simp [*]; done)), H', ⟨by have := HJ5.out; have := HJ17.out; first | omega | exact Nat.le_refl _⟩, ⟨by repeat (first | (with_reducible first | exact HB.out | apply below_alloc | apply pw_below_drewN | apply below_drew1) | exact HB.out)⟩⟩
                  · rw [if_neg c29] at H
                    have c29b0 : decide (t623 < t622) = false := decide_eq_false c29
                    clear c29
                    (first | rw [c29b0] | (simp only [i64_w, i32_w]; rw [c29b0]) | skip)
                    by_cases c30 : t622 < 0
                    · rw [if_pos c30] at H
                      have c30b0 : decide (t622 < 0) = true := decide_eq_true c30
                      clear c30
                      have H' := Aside0.mk H
                      clear H
                      go_wp2
                      go_meet
                      case rel => exact ⟨_, (true), (by first | rfl | (simp; done) | (simp [*]; done)), H', ⟨by have := HJ5.out; have := HJ17.out; first | omega | exact Nat.le_refl _⟩, ⟨by repeat (first | (with_reducible first | exact HB.out | apply below_alloc | apply pw_below_drewN | apply below_drew1) | exact HB.out)⟩⟩
                    · rw [if_neg c30] at H
                      have c30b0 : decide (t622 < 0) = false := decide_eq_false c30
                      clear c30
                      by_cases c31 : t623 ≥ (l0.length : Int)
                      · rw [if_pos c31] at H
                        have c31b0 : decide ((l0.length : Int) ≤ t623) = true := decide_eq_true c31
                        clear c31
                        have H' := Aside0.mk H
                        clear H
                        go_wp2
                        go_meet
                        case rel => exact ⟨_, (true), (by first | rfl | (simp; done) | (simp [*]; done)), H', ⟨by have := HJ5.out; have := HJ17.out; first | omega | exact Nat.le_refl _⟩, ⟨by repeat (first | (with_reducible first | exact HB.out | apply below_alloc | apply pw_below_drewN | apply below_drew1) | exact HB.out)⟩⟩
                      · rw [if_neg c31] at H
                        have c31b0 : decide ((l0.length : Int) ≤ t623) = false := decide_eq_false c31
                        clear c31
                        by_cases c32 : 0 ≤ t623
                        · rw [if_pos c32] at H
                          have c32b0 : decide (0 ≤ t623) = true := decide_eq_true c32
                          clear c32
                          by_cases c33 : t623 < (l0.length : Int)
                          · rw [if_pos c33] at H
                            have c33b0 : decide (t623 < (l0.length : Int)) = true := decide_eq_true c33
                            clear c33
                            by_cases c34 : ((rd_T106 l0 t623).f0) ≥ a2
                            · rw [if_pos c34] at H
                              have c34b0 : decide (a2 ≤ ((rd_T106 l0 t623).f0)) = true := decide_eq_true c34
                              clear c34
                              by_cases c35 : t623 > 0
                              · rw [if_pos c35] at H
                                have c35b0 : decide (0 < t623) = true := decide_eq_true c35
                                clear c35
                                have H' := Aside0.mk H
                                clear H
                                have p624 : 0 ≤ (t623 : Int) := of_decide_eq_true (by first | (with_reducible assumption) | assumption)
                                have q624 : t623 < (l0.length : Int) := of_decide_eq_true (by first | (with_reducible assumption) | assumption)
                                obtain ⟨ad624, e624, hx624_0, hx624_1, hx624_2⟩ := at_T106 HR0.out t623 p624 q624
                                cases e624
                                replace hx624_0 := (HB.out.cell (World.block_lt_of_cell? w _ hx624_0)).trans hx624_0
                                replace hx624_1 := (HB.out.cell (World.block_lt_of_cell? w _ hx624_1)).trans hx624_1
                                replace hx624_2 := (HB.out.cell (World.block_lt_of_cell? w _ hx624_2)).trans hx624_2
                                replace p624 := eq_true p624
                                replace q624 := eq_true q624
                                go_wp2
                                go_meet
                                case rel => exact ⟨_, (true), (by first | rfl | (simp; done) | (simp [*]; done)), H', ⟨by have := HJ5.out; have := HJ17.out; first | omega | exact Nat.le_refl _⟩, ⟨by repeat (first | (with_reducible first | exact HB.out | apply below_alloc | apply pw_below_drewN | apply below_drew1) | exact HB.out)⟩⟩
                              · rw [if_neg c35] at H
                                have c35b0 : decide (0 < t623) = false := decide_eq_false c35
                                clear c35
                                by_cases c36 : (wrap64 (t623 + 1)) < (l0.length : Int)
                                · rw [if_pos c36] at H
                                  have c36b0 : decide ((wrap64 (t623 + 1)) < (l0.length : Int)) = true := decide_eq_true c36
                                  clear c36
                                  obtain ⟨ji37, hji37⟩ : ∃ j_ : Int, (wrap64 (t623 + 1)) = j_ := ⟨_, rfl⟩
                                  replace H : (if 0 ≤ (ji37) then (stipendlaw05_BandRises.j2 kj17 l0 a1 a2 t620 (decide (((rd_T106 l0 (ji37)).f0) < a2))) else (none)) = some r := by first | (rw [hji37] at H; exact H) | (simp only [hji37] at H ⊢; exact H)
                                  (try rw [hji37] at c36b0)
                                  have hji37w : (IntKind.i64.wrap (t623 + 1)) = ji37 := (i64_w _).trans hji37
                                  by_cases c38 : 0 ≤ (ji37)
                                  · rw [if_pos c38] at H
                                    have c38b0 : decide (0 ≤ (ji37)) = true := decide_eq_true c38
                                    clear c38
                                    have H' := Aside0.mk H
                                    clear H
                                    have p624 : 0 ≤ (t623 : Int) := of_decide_eq_true (by first | (with_reducible assumption) | assumption)
                                    have q624 : t623 < (l0.length : Int) := of_decide_eq_true (by first | (with_reducible assumption) | assumption)
                                    obtain ⟨ad624, e624, hx624_0, hx624_1, hx624_2⟩ := at_T106 HR0.out t623 p624 q624
                                    cases e624
                                    replace hx624_0 := (HB.out.cell (World.block_lt_of_cell? w _ hx624_0)).trans hx624_0
                                    replace hx624_1 := (HB.out.cell (World.block_lt_of_cell? w _ hx624_1)).trans hx624_1
                                    replace hx624_2 := (HB.out.cell (World.block_lt_of_cell? w _ hx624_2)).trans hx624_2
                                    replace p624 := eq_true p624
                                    replace q624 := eq_true q624
                                    have p625 : 0 ≤ ((ji37) : Int) := of_decide_eq_true (by first | (with_reducible assumption) | assumption)
                                    have q625 : (ji37) < (l0.length : Int) := of_decide_eq_true (by first | (with_reducible assumption) | assumption)
                                    obtain ⟨ad625, e625, hx625_0, hx625_1, hx625_2⟩ := at_T106 HR0.out (ji37) p625 q625
                                    obtain rfl : ad624 = ad625 := (by injection e625)
                                    replace hx625_0 := (HB.out.cell (World.block_lt_of_cell? w _ hx625_0)).trans hx625_0
                                    replace hx625_1 := (HB.out.cell (World.block_lt_of_cell? w _ hx625_1)).trans hx625_1
                                    replace hx625_2 := (HB.out.cell (World.block_lt_of_cell? w _ hx625_2)).trans hx625_2
                                    replace p625 := eq_true p625
                                    replace q625 := eq_true q625
                                    go_wp2
                                    go_meet
                                    case rel => exact ⟨_, (decide (((rd_T106 l0 (ji37)).f0) < a2)), (by first | rfl | (simp; done) | (simp only [← hji37] <;> (first | rfl | simp)) | (simp [*]; done)), H', ⟨by have := HJ5.out; have := HJ17.out; first | omega | exact Nat.le_refl _⟩, ⟨by repeat (first | (with_reducible first | exact HB.out | apply below_alloc | apply pw_below_drewN | apply below_drew1) | exact HB.out)⟩⟩
                                  · rw [if_neg c38] at H
                                    exact absurd H (by simp)
                                · rw [if_neg c36] at H
                                  have c36b0 : decide ((wrap64 (t623 + 1)) < (l0.length : Int)) = false := decide_eq_false c36
                                  clear c36
                                  have H' := Aside0.mk H
                                  clear H
                                  have p624 : 0 ≤ (t623 : Int) := of_decide_eq_true (by first | (with_reducible assumption) | assumption)
                                  have q624 : t623 < (l0.length : Int) := of_decide_eq_true (by first | (with_reducible assumption) | assumption)
                                  obtain ⟨ad624, e624, hx624_0, hx624_1, hx624_2⟩ := at_T106 HR0.out t623 p624 q624
                                  cases e624
                                  replace hx624_0 := (HB.out.cell (World.block_lt_of_cell? w _ hx624_0)).trans hx624_0
                                  replace hx624_1 := (HB.out.cell (World.block_lt_of_cell? w _ hx624_1)).trans hx624_1
                                  replace hx624_2 := (HB.out.cell (World.block_lt_of_cell? w _ hx624_2)).trans hx624_2
                                  replace p624 := eq_true p624
                                  replace q624 := eq_true q624
                                  go_wp2
                                  go_meet
                                  case rel => exact ⟨_, (false), (by first | rfl | (simp; done) | (simp [*]; done)), H', ⟨by have := HJ5.out; have := HJ17.out; first | omega | exact Nat.le_refl _⟩, ⟨by repeat (first | (with_reducible first | exact HB.out | apply below_alloc | apply pw_below_drewN | apply below_drew1) | exact HB.out)⟩⟩
                            · rw [if_neg c34] at H
                              have c34b0 : decide (a2 ≤ ((rd_T106 l0 t623).f0)) = false := decide_eq_false c34
                              clear c34
                              by_cases c39 : (wrap64 (t623 + 1)) < (l0.length : Int)
                              · rw [if_pos c39] at H
                                have c39b0 : decide ((wrap64 (t623 + 1)) < (l0.length : Int)) = true := decide_eq_true c39
                                clear c39
                                obtain ⟨ji40, hji40⟩ : ∃ j_ : Int, (wrap64 (t623 + 1)) = j_ := ⟨_, rfl⟩
                                replace H : (if 0 ≤ (ji40) then (stipendlaw05_BandRises.j2 kj17 l0 a1 a2 t620 (decide (((rd_T106 l0 (ji40)).f0) < a2))) else (none)) = some r := by first | (rw [hji40] at H; exact H) | (simp only [hji40] at H ⊢; exact H)
                                (try rw [hji40] at c39b0)
                                have hji40w : (IntKind.i64.wrap (t623 + 1)) = ji40 := (i64_w _).trans hji40
                                by_cases c41 : 0 ≤ (ji40)
                                · rw [if_pos c41] at H
                                  have c41b0 : decide (0 ≤ (ji40)) = true := decide_eq_true c41
                                  clear c41
                                  have H' := Aside0.mk H
                                  clear H
                                  have p624 : 0 ≤ (t623 : Int) := of_decide_eq_true (by first | (with_reducible assumption) | assumption)
                                  have q624 : t623 < (l0.length : Int) := of_decide_eq_true (by first | (with_reducible assumption) | assumption)
                                  obtain ⟨ad624, e624, hx624_0, hx624_1, hx624_2⟩ := at_T106 HR0.out t623 p624 q624
                                  cases e624
                                  replace hx624_0 := (HB.out.cell (World.block_lt_of_cell? w _ hx624_0)).trans hx624_0
                                  replace hx624_1 := (HB.out.cell (World.block_lt_of_cell? w _ hx624_1)).trans hx624_1
                                  replace hx624_2 := (HB.out.cell (World.block_lt_of_cell? w _ hx624_2)).trans hx624_2
                                  replace p624 := eq_true p624
                                  replace q624 := eq_true q624
                                  have p626 : 0 ≤ ((ji40) : Int) := of_decide_eq_true (by first | (with_reducible assumption) | assumption)
                                  have q626 : (ji40) < (l0.length : Int) := of_decide_eq_true (by first | (with_reducible assumption) | assumption)
                                  obtain ⟨ad626, e626, hx626_0, hx626_1, hx626_2⟩ := at_T106 HR0.out (ji40) p626 q626
                                  obtain rfl : ad624 = ad626 := (by injection e626)
                                  replace hx626_0 := (HB.out.cell (World.block_lt_of_cell? w _ hx626_0)).trans hx626_0
                                  replace hx626_1 := (HB.out.cell (World.block_lt_of_cell? w _ hx626_1)).trans hx626_1
                                  replace hx626_2 := (HB.out.cell (World.block_lt_of_cell? w _ hx626_2)).trans hx626_2
                                  replace p626 := eq_true p626
                                  replace q626 := eq_true q626
                                  go_wp2
                                  go_meet
                                  case rel => exact ⟨_, (decide (((rd_T106 l0 (ji40)).f0) < a2)), (by first | rfl | (simp; done) | (simp only [← hji40] <;> (first | rfl | simp)) | (simp [*]; done)), H', ⟨by have := HJ5.out; have := HJ17.out; first | omega | exact Nat.le_refl _⟩, ⟨by repeat (first | (with_reducible first | exact HB.out | apply below_alloc | apply pw_below_drewN | apply below_drew1) | exact HB.out)⟩⟩
                                · rw [if_neg c41] at H
                                  exact absurd H (by simp)
                              · rw [if_neg c39] at H
                                have c39b0 : decide ((wrap64 (t623 + 1)) < (l0.length : Int)) = false := decide_eq_false c39
                                clear c39
                                have H' := Aside0.mk H
                                clear H
                                have p624 : 0 ≤ (t623 : Int) := of_decide_eq_true (by first | (with_reducible assumption) | assumption)
                                have q624 : t623 < (l0.length : Int) := of_decide_eq_true (by first | (with_reducible assumption) | assumption)
                                obtain ⟨ad624, e624, hx624_0, hx624_1, hx624_2⟩ := at_T106 HR0.out t623 p624 q624
                                cases e624
                                replace hx624_0 := (HB.out.cell (World.block_lt_of_cell? w _ hx624_0)).trans hx624_0
                                replace hx624_1 := (HB.out.cell (World.block_lt_of_cell? w _ hx624_1)).trans hx624_1
                                replace hx624_2 := (HB.out.cell (World.block_lt_of_cell? w _ hx624_2)).trans hx624_2
                                replace p624 := eq_true p624
                                replace q624 := eq_true q624
                                go_wp2
                                go_meet
                                case rel => exact ⟨_, (false), (by first | rfl | (simp; done) | (simp [*]; done)), H', ⟨by have := HJ5.out; have := HJ17.out; first | omega | exact Nat.le_refl _⟩, ⟨by repeat (first | (with_reducible first | exact HB.out | apply below_alloc | apply pw_below_drewN | apply below_drew1) | exact HB.out)⟩⟩
                          · rw [if_neg c33] at H
                            exact absurd H (by simp)
                        · rw [if_neg c32] at H
                          exact absurd H (by simp)
                case rest =>
                  clear HC28
                  try clear c1
                  try clear c2
                  try clear p2
                  try clear c3
                  try clear c4
                  try clear c5
                  try clear p6
                  try clear q6
                  try clear hx6
                  try clear c9
                  try clear c9b0
                  try clear c9b1
                  try clear c10
                  try clear c10b0
                  try clear c11
                  try clear c11b0
                  try clear c12
                  try clear c12b0
                  try clear c13
                  try clear c13b0
                  try clear c14
                  try clear c22
                  try clear c22b0
                  try clear c22b1
                  try clear c23
                  try clear c23b0
                  try clear c23b1
                  try clear c24
                  try clear c24b0
                  try clear c25
                  try clear c29
                  try clear c29b0
                  try clear c30
                  try clear c30b0
                  try clear c31
                  try clear c31b0
                  try clear c32
                  try clear c32b0
                  try clear c33
                  try clear c33b0
                  try clear c34
                  try clear c34b0
                  try clear c35
                  try clear c35b0
                  try clear c36
                  try clear c36b0
                  try clear c38
                  try clear c38b0
                  try clear c39
                  try clear c39b0
                  try clear c41
                  try clear c41b0
                  try clear hx624_0
                  try clear hx624_1
                  try clear hx624_2
                  try clear hx625_0
                  try clear hx625_1
                  try clear hx625_2
                  try clear hx626_0
                  try clear hx626_1
                  try clear hx626_2
                  try clear p2
                  try clear p6
                  try clear p624
                  try clear p625
                  try clear p626
                  try clear q624
                  try clear q625
                  try clear q626
                  obtain ⟨kq, x128_27, rfl, HA, HJ27, HB⟩ := hcut
                  cases kq with
                  | zero => exact absurd HA.out (by simp [stipendlaw05_BandRises.j2])
                  | succ kj27 =>
                    have H := HA.out
                    clear HA
                    simp only [stipendlaw05_BandRises.j2] at H
                    by_cases c42 : x128_27 = true
                    · subst c42
                      have H1 : (none) = some r := by rw [if_pos rfl] at H; exact H
                      clear H
                      have H := H1
                      clear H1
                      exact absurd H (by simp)
                    · replace c42 := Bool.eq_false_iff.mpr c42
                      subst c42
                      have H1 : ((band_Top.f kj27 l0).bind fun t627 => ((frac_Part.f kj27 (wrap64 ((mx 0 a2) - (mx 0 a1))) t627).bind fun bt628 => (some (decide (t620 ≤ bt628.1))))) = some r := by rw [if_neg (show ¬ (false = true) by decide)] at H; exact H
                      clear H
                      have H := H1
                      clear H1
                      obtain ⟨ji43, hji43⟩ : ∃ j_ : Int, (mx 0 a2) = j_ := ⟨_, rfl⟩
                      replace H : ((band_Top.f kj27 l0).bind fun t627 => ((frac_Part.f kj27 (wrap64 ((ji43) - (mx 0 a1))) t627).bind fun bt628 => (some (decide (t620 ≤ bt628.1))))) = some r := by first | (rw [hji43] at H; exact H) | (simp only [hji43] at H ⊢; exact H)
                      have hji43_ : (if 0 < a2 then a2 else 0) = ji43 := hji43
                      obtain ⟨ji44, hji44⟩ : ∃ j_ : Int, (mx 0 a1) = j_ := ⟨_, rfl⟩
                      replace H : ((band_Top.f kj27 l0).bind fun t627 => ((frac_Part.f kj27 (wrap64 ((ji43) - (ji44))) t627).bind fun bt628 => (some (decide (t620 ≤ bt628.1))))) = some r := by first | (rw [hji44] at H; exact H) | (simp only [hji44] at H ⊢; exact H)
                      (try (have hji44l : 0 ≤ ji44 := by (rw [← hji44]; unfold mx; (repeat' split) <;> omega)))
                      (try (have hji44m : 0 ≤ ji44 := by omega))
                      have hji44_ : (if 0 < a1 then a1 else 0) = ji44 := hji44
                      replace H := Option.bind_eq_some_iff.mp H
                      obtain ⟨t627, A450, H⟩ := H
                      replace H : ((frac_Part.f kj27 (wrap64 ((ji43) - (ji44))) t627).bind fun bt628 => (some (decide (t620 ≤ bt628.1)))) = some r := H
                      have A45 := Aside0.mk A450
                      clear A450
                      replace H := Option.bind_eq_some_iff.mp H
                      obtain ⟨⟨t628, t629⟩, A460, H⟩ := H
                      replace H : (some (decide (t620 ≤ t628))) = some r := H
                      have A46 := Aside0.mk A460
                      clear A460
                      obtain rfl := Option.some.inj H
                      go_wp2_with (first | ((with_reducible refine gate_callee (f := 60) rfl ?_); refine goesL_ (some 136) rfl rfl Try.func60 (by kernel_rfl) rfl #[.slice A0 l0.length c0] rfl (by (try simp only [List.map_toArray, List.map_cons, List.map_nil]); first | done | rfl | (simp only [List.length_drop, List.length_take]; rfl)) ?_; (with_reducible refine (band_Top.calls kj27 _ _ l0 t627 _ ?side1 ?side2 A45.out).mono ?_); (case side1 => repeat (first | exact (Kd.C_below HR0.out HB.out) | (with_reducible refine Kd.C_alloc ?_ _) | (with_reducible refine Kd.C_drewN ?_ _) | (with_reducible refine Kd.C_drew ?_))); (case side2 => exact HC0.out); rintro e w47 ⟨rfl, hb⟩; refine ⟨_, rfl, ?_⟩; have n0_ := Aside0.mk (below_step (by repeat (first | (with_reducible first | exact HB.out | apply below_alloc | apply pw_below_drewN | apply below_drew1) | exact HB.out)) hb); clear HB; have HB := n0_; clear n0_; (try clear hb); (try clear hb2); (try clear hk); (try clear hi)) | ((with_reducible refine gate_callee (f := 59) rfl ?_); refine goesL_ (some 137) rfl rfl Try.func59 (by kernel_rfl) rfl #[.int .i64 (wrap64 ((ji43) - (ji44))), .int .i64 t627] rfl (by (try simp only [List.map_toArray, List.map_cons, List.map_nil]); first | done | (simp only [hji43, hji44]; rfl) | rfl | (simp only [List.length_drop, List.length_take]; rfl)) ?_; (with_reducible refine (frac_Part.calls kj27 (wrap64 ((ji43) - (ji44))) t627 t628 t629 _ A46.out).mono ?_); rintro e w48 ⟨rfl, hb⟩; refine ⟨_, rfl, ?_⟩; have n0_ := Aside0.mk (below_step (by repeat (first | (with_reducible first | exact HB.out | apply below_alloc | apply pw_below_drewN | apply below_drew1) | exact HB.out)) hb); clear HB; have HB := n0_; clear n0_; (try clear hb); (try clear hb2); (try clear hk); (try clear hi)))
                      go_ret
                      exact ⟨by first | rfl | (simp [errW_none, errW_some] <;> rfl) | (simp only [← hji43, ← hji44]; first | rfl | (simp [errW_none, errW_some] <;> rfl)) | (simp [*, errW_none, errW_some] <;> rfl), by repeat (first | (with_reducible first | exact HB.out | apply below_alloc | apply pw_below_drewN | apply below_drew1) | exact HB.out)⟩
  · replace c5 := Bool.eq_false_iff.mpr c5
    subst c5
    have H1 : (none) = some r := by rw [if_neg (show ¬ (false = true) by decide)] at H; exact H
    clear H
    have H := H1
    clear H1
    exact absurd H (by simp)

end Go.Proofs.Ytcapgmoipacioaa.P
