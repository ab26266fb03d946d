import Derived.Test.YtcapgmoipacioaaPt
import Derived.Test.YtcapgmoipacioaaHexact
import Derived.Test.YtcapgmoipacioaaPpstipendlaw05
import Derived.Test.YtcapgmoipacioaaPpstipendref05
namespace Go.Proofs.Ytcapgmoipacioaa.P
open Go.RowKit Go.Proofs.YtcapgmoipacioaaW.PrintWords Go.Proofs.YtcapgmoipacioaaW.PrintLast Go.Proofs.YtcapgmoipacioaaW.PrintMore
attribute [local go_sem] max2_int min2_int max_two min_two max_three min_three max_four min_four
set_option linter.unusedVariables false
set_option linter.unusedSimpArgs false

/-! ### stipendlaw05_BandExact: function 8 -/
def stipendlaw05_BandExact.j0 : Nat → List (S106) → Int → Bool → Option (Bool)
  | 0, _, _, _ => none
  | k + 1, x0, x1, x21 => if x21 = true then (some true) else ((band_Exact.f x1 x0).bind fun bt362 => ((band_Employer.f x1 x0).bind fun bt364 => (if bt362.2 = 0 then (if bt364.2 = 0 then ((stipendref05_Exact.f k x1 x0 false).bind fun t366 => (if bt362.1 = t366 then ((stipendref05_Exact.f k x1 x0 true).bind fun t367 => (some (bt364.1 == t367))) else (none))) else (none)) else (none))))
def stipendlaw05_BandExact.f (k : Nat) (l0 : List (S106)) (a1 : Int) : Option (Bool) := (stipendlaw05_sums.f k).bind fun t360 => (if t360 = true then ((stipendref05_Check.f k l0).bind fun t361 => (if t361 = 0 then (if a1 > 100000000000 then (stipendlaw05_BandExact.j0 k l0 a1 true) else (stipendlaw05_BandExact.j0 k l0 a1 (decide (a1 < (-100000000000))))) else (stipendlaw05_BandExact.j0 k l0 a1 true))) else (none))
theorem stipendlaw05_BandExact.mono_l : ∀ k, (∀ y0 y1 y2, LeO (stipendlaw05_BandExact.j0 k y0 y1 y2) (stipendlaw05_BandExact.j0 (k + 1) y0 y1 y2))
  | 0 => fun _ _ _ r h => by simp [stipendlaw05_BandExact.j0] at h
  | k + 1 => by
    have ih0 := stipendlaw05_BandExact.mono_l k
    · intro y0 y1 y2
      unfold stipendlaw05_BandExact.j0
      repeat' first
      | (with_reducible exact ih0 _ _ _)
      | (with_reducible exact stipendlaw05_sums.mono _)
      | (with_reducible exact stipendref05_Check.mono _ _)
      | (with_reducible exact stipendref05_Exact.mono _ _ _ _)
      | (with_reducible exact LeO.refl _)
      | (with_reducible exact LeO.none _)
      | (with_reducible refine LeO.ite ?_ ?_)
      | (with_reducible refine LeO.bind ?_ (fun _ => ?_))
      | exact ih0 _ _ _
      | exact stipendlaw05_sums.mono _
      | exact stipendref05_Check.mono _ _
      | exact stipendref05_Exact.mono _ _ _ _
      | exact LeO.none _
      | refine LeO.ite ?_ ?_
      | refine LeO.bind ?_ (fun _ => ?_)
theorem stipendlaw05_BandExact.mono : ∀ a0 a1 k, LeO (stipendlaw05_BandExact.f k a0 a1) (stipendlaw05_BandExact.f (k + 1) a0 a1) := by
  intro a0 a1 k
  have ih0 := stipendlaw05_BandExact.mono_l k
  unfold stipendlaw05_BandExact.f
  repeat' first
      | (with_reducible exact ih0 _ _ _)
      | (with_reducible exact stipendlaw05_sums.mono _)
      | (with_reducible exact stipendref05_Check.mono _ _)
      | (with_reducible exact stipendref05_Exact.mono _ _ _ _)
      | (with_reducible exact LeO.refl _)
      | (with_reducible exact LeO.none _)
      | (with_reducible refine LeO.ite ?_ ?_)
      | (with_reducible refine LeO.bind ?_ (fun _ => ?_))
      | exact ih0 _ _ _
      | exact stipendlaw05_sums.mono _
      | exact stipendref05_Check.mono _ _
      | exact stipendref05_Exact.mono _ _ _ _
      | exact LeO.none _
      | refine LeO.ite ?_ ?_
      | refine LeO.bind ?_ (fun _ => ?_)
set_option maxHeartbeats 8000000 in
set_option maxRecDepth 100000 in
theorem stipendlaw05_BandExact.calls (k : Nat) (A0 : Option Addr) (c0 : Nat) (l0 : List (S106)) (a1 : Int) (r : Bool) (w : World) (hr0 : Kd.C k106 w A0 l0.length l0) (hc0 : l0.length ≤ c0) (h : stipendlaw05_BandExact.f k l0 a1 = some r) :
    Calls Try.prog 8 #[.slice A0 l0.length c0, .int .i64 a1] w fun e w' => e = .returned (.bool r) ∧ Below w.heap.size w w' := by
  have HR0 := Aside0.mk hr0
  have HC0 := Aside0.mk hc0
  clear hr0 hc0
  have HB := Aside0.mk (Below.refl w.heap.size w)
  have H : ((stipendlaw05_sums.f k).bind fun t360 => (if t360 = true then ((stipendref05_Check.f k l0).bind fun t361 => (if t361 = 0 then (if a1 > 100000000000 then (stipendlaw05_BandExact.j0 k l0 a1 true) else (stipendlaw05_BandExact.j0 k l0 a1 (decide (a1 < (-100000000000))))) else (stipendlaw05_BandExact.j0 k l0 a1 true))) else (none))) = some r := h
  clear h
  replace H := Option.bind_eq_some_iff.mp H
  obtain ⟨t360, A30, H⟩ := H
  replace H : (if t360 = true then ((stipendref05_Check.f k l0).bind fun t361 => (if t361 = 0 then (if a1 > 100000000000 then (stipendlaw05_BandExact.j0 k l0 a1 true) else (stipendlaw05_BandExact.j0 k l0 a1 (decide (a1 < (-100000000000))))) else (stipendlaw05_BandExact.j0 k l0 a1 true))) else (none)) = some r := H
  have A3 := Aside0.mk A30
  clear A30
  by_cases c4 : t360 = true
  · subst c4
    have H1 : ((stipendref05_Check.f k l0).bind fun t361 => (if t361 = 0 then (if a1 > 100000000000 then (stipendlaw05_BandExact.j0 k l0 a1 true) else (stipendlaw05_BandExact.j0 k l0 a1 (decide (a1 < (-100000000000))))) else (stipendlaw05_BandExact.j0 k l0 a1 true))) = some r := by rw [if_pos rfl] at H; exact H
    clear H
    have H := H1
    clear H1
    have HC5 := Aside0.mk H
    clear H
    go_enter Try.func8, Try.ntmps8
    go_upto_region 3 with (first | ((with_reducible refine gate_callee (f := 32) rfl ?_); refine goesL_ (some 9) rfl rfl Try.func32 (by kernel_rfl) rfl #[] rfl (by (try simp only [List.map_toArray, List.map_cons, List.map_nil]); first | done | rfl | (simp only [List.length_drop, List.length_take]; rfl)) ?_; (with_reducible refine (stipendlaw05_sums.calls k  true _ A3.out).mono ?_); rintro e w6 ⟨rfl, hb⟩; refine ⟨_, rfl, ?_⟩; have n0_ := Aside0.mk (below_step (by repeat (first | (with_reducible first | exact HB.out | apply below_alloc | apply pw_below_drewN | apply below_drew1) | exact HB.out)) hb); clear HB; have HB := n0_; clear n0_; (try clear hb); (try clear hb2); (try clear hk); (try clear hi)))
    (try simp only [Act.put, List.setIfInBounds_toArray, List.set_cons_zero, List.set_cons_succ])
    go_cut [21] (fun v21 wc => ∃ (kq : Nat) (x21_4 : Bool), v21 = .bool x21_4 ∧ Aside0 (stipendlaw05_BandExact.j0 kq l0 a1 x21_4 = some r) ∧ Aside0 (kq ≤ k) ∧ Aside0 (Below w.heap.size w wc))
    case first =>
      have H := HC5.out
      clear HC5
      replace H := Option.bind_eq_some_iff.mp H
      obtain ⟨t361, A70, H⟩ := H
      replace H : (if t361 = 0 then (if a1 > 100000000000 then (stipendlaw05_BandExact.j0 k l0 a1 true) else (stipendlaw05_BandExact.j0 k l0 a1 (decide (a1 < (-100000000000))))) else (stipendlaw05_BandExact.j0 k l0 a1 true)) = some r := H
      have A7 := Aside0.mk A70
      clear A70
      by_cases c8 : t361 = 0
      · rw [if_pos c8] at H
        have c8b0 : (t361 == 0) = true := beq_iff_eq.mpr c8
        have c8b1 : (t361 != 0) = false := bne_eq_false_iff_eq.mpr c8
        clear c8
        (first | rw [c8b0] | (simp only [i64_w, i32_w]; rw [c8b0]) | skip)
        by_cases c9 : a1 > 100000000000
        · rw [if_pos c9] at H
          have c9b0 : decide (100000000000 < a1) = true := decide_eq_true c9
          clear c9
          have H' := Aside0.mk H
          clear H
          go_wp2_with (first | ((with_reducible refine gate_callee (f := 33) rfl ?_); refine goesL_ (some 12) rfl rfl Try.func33 (by kernel_rfl) rfl #[.slice A0 l0.length c0] rfl (by (try simp only [List.map_toArray, List.map_cons, List.map_nil]); first | done | rfl | (simp only [List.length_drop, List.length_take]; rfl)) ?_; (with_reducible refine (stipendref05_Check.calls k _ _ l0 t361 _ ?side1 ?side2 A7.out).mono ?_); (case side1 => repeat (first | exact (Kd.C_below HR0.out HB.out) | (with_reducible refine Kd.C_alloc ?_ _) | (with_reducible refine Kd.C_drewN ?_ _) | (with_reducible refine Kd.C_drew ?_))); (case side2 => exact HC0.out); rintro e w' ⟨rfl, ⟨nd, rfl⟩⟩; refine ⟨_, rfl, ?_⟩))
          go_meet
          case rel => exact ⟨_, (true), (by first | rfl | (simp; done) | (simp [*]; done)), H', ⟨by first | omega | exact Nat.le_refl _⟩, ⟨by repeat (first | (with_reducible first | exact HB.out | apply below_alloc | apply pw_below_drewN | apply below_drew1) | exact HB.out)⟩⟩
        · rw [if_neg c9] at H
          have c9b0 : decide (100000000000 < a1) = false := decide_eq_false c9
          clear c9
          have H' := Aside0.mk H
          clear H
          go_wp2_with (first | ((with_reducible refine gate_callee (f := 33) rfl ?_); refine goesL_ (some 12) rfl rfl Try.func33 (by kernel_rfl) rfl #[.slice A0 l0.length c0] rfl (by (try simp only [List.map_toArray, List.map_cons, List.map_nil]); first | done | rfl | (simp only [List.length_drop, List.length_take]; rfl)) ?_; (with_reducible refine (stipendref05_Check.calls k _ _ l0 t361 _ ?side1 ?side2 A7.out).mono ?_); (case side1 => repeat (first | exact (Kd.C_below HR0.out HB.out) | (with_reducible refine Kd.C_alloc ?_ _) | (with_reducible refine Kd.C_drewN ?_ _) | (with_reducible refine Kd.C_drew ?_))); (case side2 => exact HC0.out); rintro e w' ⟨rfl, ⟨nd, rfl⟩⟩; refine ⟨_, rfl, ?_⟩))
          go_meet
          case rel => exact ⟨_, (decide (a1 < (-100000000000))), (by first | rfl | (simp; done) | (simp [*]; done)), H', ⟨by first | omega | exact Nat.le_refl _⟩, ⟨by repeat (first | (with_reducible first | exact HB.out | apply below_alloc | apply pw_below_drewN | apply below_drew1) | exact HB.out)⟩⟩
      · rw [if_neg c8] at H
        have c8b0 : (t361 == 0) = false := beq_eq_false_iff_ne.mpr c8
        have c8b1 : (t361 != 0) = true := bne_iff_ne.mpr c8
        (first | rw [c8b0] | (simp only [i64_w, i32_w]; rw [c8b0]) | skip)
        have H' := Aside0.mk H
        clear H
        go_wp2_with (first | ((with_reducible refine gate_callee (f := 33) rfl ?_); refine goesL_ (some 12) rfl rfl Try.func33 (by kernel_rfl) rfl #[.slice A0 l0.length c0] rfl (by (try simp only [List.map_toArray, List.map_cons, List.map_nil]); first | done | rfl | (simp only [List.length_drop, List.length_take]; rfl)) ?_; (with_reducible refine (stipendref05_Check.calls k _ _ l0 t361 _ ?side1 ?side2 A7.out).mono ?_); (case side1 => repeat (first | exact (Kd.C_below HR0.out HB.out) | (with_reducible refine Kd.C_alloc ?_ _) | (with_reducible refine Kd.C_drewN ?_ _) | (with_reducible refine Kd.C_drew ?_))); (case side2 => exact HC0.out); rintro e w' ⟨rfl, ⟨nd, rfl⟩⟩; refine ⟨_, rfl, ?_⟩))
        go_meet
        case rel => exact ⟨_, (true), (by first | rfl | (simp; done) | (simp [*]; done)), H', ⟨by first | omega | exact Nat.le_refl _⟩, ⟨by repeat (first | (with_reducible first | exact HB.out | apply below_alloc | apply pw_below_drewN | apply below_drew1) | exact HB.out)⟩⟩
    case rest =>
      clear HC5
      try clear p2
      try clear c3
      try clear c4
      try clear c8
      try clear c8b0
      try clear c8b1
      try clear c9
      try clear c9b0
      obtain ⟨kq, x21_4, rfl, HA, HJ4, HB⟩ := hcut
      cases kq with
      | zero => exact absurd HA.out (by simp [stipendlaw05_BandExact.j0])
      | succ kj4 =>
        have H := HA.out
        clear HA
        simp only [stipendlaw05_BandExact.j0] at H
        by_cases c10 : x21_4 = true
        · subst c10
          have H1 : (some true) = some r := by rw [if_pos rfl] at H; exact H
          clear H
          have H := H1
          clear H1
          obtain rfl := Option.some.inj H
          go_wp2
          go_ret
          exact ⟨by first | rfl | (simp [errW_none, errW_some] <;> rfl) | (simp [*, errW_none, errW_some] <;> rfl), by repeat (first | (with_reducible first | exact HB.out | apply below_alloc | apply pw_below_drewN | apply below_drew1) | exact HB.out)⟩
        · replace c10 := Bool.eq_false_iff.mpr c10
          subst c10
          have H1 : ((band_Exact.f a1 l0).bind fun bt362 => ((band_Employer.f a1 l0).bind fun bt364 => (if bt362.2 = 0 then (if bt364.2 = 0 then ((stipendref05_Exact.f kj4 a1 l0 false).bind fun t366 => (if bt362.1 = t366 then ((stipendref05_Exact.f kj4 a1 l0 true).bind fun t367 => (some (bt364.1 == t367))) else (none))) else (none)) else (none)))) = some r := by rw [if_neg (show ¬ (false = true) by decide)] at H; exact H
          clear H
          have H := H1
          clear H1
          replace H := Option.bind_eq_some_iff.mp H
          obtain ⟨⟨t362, t363⟩, A110, H⟩ := H
          replace H : ((band_Employer.f a1 l0).bind fun bt364 => (if t363 = 0 then (if bt364.2 = 0 then ((stipendref05_Exact.f kj4 a1 l0 false).bind fun t366 => (if t362 = t366 then ((stipendref05_Exact.f kj4 a1 l0 true).bind fun t367 => (some (bt364.1 == t367))) else (none))) else (none)) else (none))) = some r := H
          have A11 := Aside0.mk A110
          clear A110
          replace H := Option.bind_eq_some_iff.mp H
          obtain ⟨⟨t364, t365⟩, A120, H⟩ := H
          replace H : (if t363 = 0 then (if t365 = 0 then ((stipendref05_Exact.f kj4 a1 l0 false).bind fun t366 => (if t362 = t366 then ((stipendref05_Exact.f kj4 a1 l0 true).bind fun t367 => (some (t364 == t367))) else (none))) else (none)) else (none)) = some r := H
          have A12 := Aside0.mk A120
          clear A120
          by_cases c13 : t363 = 0
          · rw [if_pos c13] at H
            have c13b0 : (t363 == 0) = true := beq_iff_eq.mpr c13
            have c13b1 : (t363 != 0) = false := bne_eq_false_iff_eq.mpr c13
            clear c13
            by_cases c14 : t365 = 0
            · rw [if_pos c14] at H
              have c14b0 : (t365 == 0) = true := beq_iff_eq.mpr c14
              have c14b1 : (t365 != 0) = false := bne_eq_false_iff_eq.mpr c14
              clear c14
              replace H := Option.bind_eq_some_iff.mp H
              obtain ⟨t366, A150, H⟩ := H
              replace H : (if t362 = t366 then ((stipendref05_Exact.f kj4 a1 l0 true).bind fun t367 => (some (t364 == t367))) else (none)) = some r := H
              have A15 := Aside0.mk A150
              clear A150
              by_cases c16 : t362 = t366
              · rw [if_pos c16] at H
                have c16b0 : (t362 == t366) = true := beq_iff_eq.mpr c16
                have c16b1 : (t362 != t366) = false := bne_eq_false_iff_eq.mpr c16
                clear c16
                replace H := Option.bind_eq_some_iff.mp H
                obtain ⟨t367, A170, H⟩ := H
                replace H : (some (t364 == t367)) = some r := H
                have A17 := Aside0.mk A170
                clear A170
                obtain rfl := Option.some.inj H
                go_wp2_with (first | ((with_reducible refine gate_callee (f := 34) rfl ?_); refine goesL_ (some 25) rfl rfl Try.func34 (by kernel_rfl) rfl #[.int .i64 a1, .slice A0 l0.length c0] rfl (by (try simp only [List.map_toArray, List.map_cons, List.map_nil]); first | done | rfl | (simp only [List.length_drop, List.length_take]; rfl)) ?_; (with_reducible refine (band_Exact.calls a1 _ _ l0 t362 t363 _ ?side1 ?side2 A11.out).mono ?_); (case side1 => repeat (first | exact (Kd.C_below HR0.out HB.out) | (with_reducible refine Kd.C_alloc ?_ _) | (with_reducible refine Kd.C_drewN ?_ _) | (with_reducible refine Kd.C_drew ?_))); (case side2 => exact HC0.out); rintro e w18 ⟨rfl, hb⟩; refine ⟨_, rfl, ?_⟩; have n0_ := Aside0.mk (below_step (by repeat (first | (with_reducible first | exact HB.out | apply below_alloc | apply pw_below_drewN | apply below_drew1) | exact HB.out)) hb); clear HB; have HB := n0_; clear n0_; (try clear hb); (try clear hb2); (try clear hk); (try clear hi)) | ((with_reducible refine gate_callee (f := 35) rfl ?_); refine goesL_ (some 31) rfl rfl Try.func35 (by kernel_rfl) rfl #[.int .i64 a1, .slice A0 l0.length c0] rfl (by (try simp only [List.map_toArray, List.map_cons, List.map_nil]); first | done | rfl | (simp only [List.length_drop, List.length_take]; rfl)) ?_; (with_reducible refine (band_Employer.calls a1 _ _ l0 t364 t365 _ ?side1 ?side2 A12.out).mono ?_); (case side1 => repeat (first | exact (Kd.C_below HR0.out HB.out) | (with_reducible refine Kd.C_alloc ?_ _) | (with_reducible refine Kd.C_drewN ?_ _) | (with_reducible refine Kd.C_drew ?_))); (case side2 => exact HC0.out); rintro e w19 ⟨rfl, hb⟩; refine ⟨_, rfl, ?_⟩; have n0_ := Aside0.mk (below_step (by repeat (first | (with_reducible first | exact HB.out | apply below_alloc | apply pw_below_drewN | apply below_drew1) | exact HB.out)) hb); clear HB; have HB := n0_; clear n0_; (try clear hb); (try clear hb2); (try clear hk); (try clear hi)) | (go_at_call 50; (with_reducible refine (stipendref05_Exact.calls kj4 a1 _ _ l0 false t366 _ ?side1 ?side2 A15.out).mono ?_); (case side1 => repeat (first | exact (Kd.C_below HR0.out HB.out) | (with_reducible refine Kd.C_alloc ?_ _) | (with_reducible refine Kd.C_drewN ?_ _) | (with_reducible refine Kd.C_drew ?_))); (case side2 => exact HC0.out); rintro e w' ⟨rfl, ⟨nd, rfl⟩⟩) | (go_at_call 50; (with_reducible refine (stipendref05_Exact.calls kj4 a1 _ _ l0 true t367 _ ?side1 ?side2 A17.out).mono ?_); (case side1 => repeat (first | exact (Kd.C_below HR0.out (by repeat (first | (with_reducible first | exact HB.out | apply below_alloc | apply pw_below_drewN | apply below_drew1) | exact HB.out))) | (with_reducible refine Kd.C_alloc ?_ _) | (with_reducible refine Kd.C_drewN ?_ _) | (with_reducible refine Kd.C_drew ?_))); (case side2 => exact HC0.out); rintro e w' ⟨rfl, ⟨nd, rfl⟩⟩))
                go_ret
                exact ⟨by first | rfl | (simp [errW_none, errW_some] <;> rfl) | (simp [*, errW_none, errW_some] <;> rfl), by repeat (first | (with_reducible first | exact HB.out | apply below_alloc | apply pw_below_drewN | apply below_drew1) | exact HB.out)⟩
              · rw [if_neg c16] at H
                exact absurd H (by simp)
            · rw [if_neg c14] at H
              exact absurd H (by simp)
          · rw [if_neg c13] at H
            exact absurd H (by simp)
  · replace c4 := Bool.eq_false_iff.mpr c4
    subst c4
    have H1 : (none) = some r := by rw [if_neg (show ¬ (false = true) by decide)] at H; exact H
    clear H
    have H := H1
    clear H1
    exact absurd H (by simp)

end Go.Proofs.Ytcapgmoipacioaa.P
