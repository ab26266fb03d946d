import Derived.Test.YtcapgmoipacioaaPt
import Derived.Test.YtcapgmoipacioaaHcheck
import Derived.Test.YtcapgmoipacioaaHexact
import Derived.Test.YtcapgmoipacioaaPpband
import Derived.Test.YtcapgmoipacioaaPpstipendlaw05
import Derived.Test.YtcapgmoipacioaaPpstipendref05
namespace Go.Proofs.Ytcapgmoipacioaa.P
open Go.RowKit Go.Proofs.YtcapgmoipacioaaW.PrintWords Go.Proofs.YtcapgmoipacioaaW.PrintLast Go.Proofs.YtcapgmoipacioaaW.PrintMore
attribute [local go_sem] max2_int min2_int max_two min_two max_three min_three max_four min_four
set_option linter.unusedVariables false
set_option linter.unusedSimpArgs false

/-! ### stipendlaw05_BandChecks: function 6 -/
def stipendlaw05_BandChecks.j0 : Nat → Int → Int → Int → Int → Bool → Option (Bool)
  | 0, _, _, _, _, _ => none
  | k + 1, x6, x7, x8, x9, x73 => if x73 = true then (if x7 = 10 then (if x9 = 10 then (if x6 = 0 then (some (x8 == 0)) else (none)) else (none)) else (none)) else (if x7 = 0 then (some (x9 == 0)) else (none))
def stipendlaw05_BandChecks.f (k : Nat) (l0 : List (S106)) (a1 : Int) : Option (Bool) := (stipendlaw05_sums.f k).bind fun t231 => (if t231 = true then (if (l0.length : Int) > 40 then (some true) else ((stipendref05_Check.f k l0).bind fun t232 => ((band_Exact.f a1 l0).bind fun bt233 => ((band_Employer.f a1 l0).bind fun bt235 => ((band_Check.f l0).bind fun t237 => (if t237 = t232 then (if t232 = 0 then (if a1 > 100000000000 then (stipendlaw05_BandChecks.j0 k bt233.1 bt233.2 bt235.1 bt235.2 true) else (stipendlaw05_BandChecks.j0 k bt233.1 bt233.2 bt235.1 bt235.2 (decide (a1 < (-100000000000))))) else ((band_Scale.f k 1 2 l0).bind fun bt238 => (if bt233.2 = t232 then (if bt235.2 = t232 then (if bt238.2 = t232 then (if bt233.1 = 0 then (if bt235.1 = 0 then (some ((bt238.1.length : Int) == 0)) else (none)) else (none)) else (none)) else (none)) else (none)))) else (none))))))) else (none))
theorem stipendlaw05_BandChecks.mono_l : ∀ k, (∀ y0 y1 y2 y3 y4, LeO (stipendlaw05_BandChecks.j0 k y0 y1 y2 y3 y4) (stipendlaw05_BandChecks.j0 (k + 1) y0 y1 y2 y3 y4))
  | 0 => fun _ _ _ _ _ r h => by simp [stipendlaw05_BandChecks.j0] at h
  | k + 1 => by
    have ih0 := stipendlaw05_BandChecks.mono_l k
    · intro y0 y1 y2 y3 y4
      unfold stipendlaw05_BandChecks.j0
      repeat' first
      | (with_reducible exact ih0 _ _ _ _ _)
      | (with_reducible exact band_Scale.mono _ _ _ _)
      | (with_reducible exact stipendlaw05_sums.mono _)
      | (with_reducible exact stipendref05_Check.mono _ _)
      | (with_reducible exact LeO.refl _)
      | (with_reducible exact LeO.none _)
      | (with_reducible refine LeO.ite ?_ ?_)
      | (with_reducible refine LeO.bind ?_ (fun _ => ?_))
      | exact ih0 _ _ _ _ _
      | exact band_Scale.mono _ _ _ _
      | exact stipendlaw05_sums.mono _
      | exact stipendref05_Check.mono _ _
      | exact LeO.none _
      | refine LeO.ite ?_ ?_
      | refine LeO.bind ?_ (fun _ => ?_)
theorem stipendlaw05_BandChecks.mono : ∀ a0 a1 k, LeO (stipendlaw05_BandChecks.f k a0 a1) (stipendlaw05_BandChecks.f (k + 1) a0 a1) := by
  intro a0 a1 k
  have ih0 := stipendlaw05_BandChecks.mono_l k
  unfold stipendlaw05_BandChecks.f
  repeat' first
      | (with_reducible exact ih0 _ _ _ _ _)
      | (with_reducible exact band_Scale.mono _ _ _ _)
      | (with_reducible exact stipendlaw05_sums.mono _)
      | (with_reducible exact stipendref05_Check.mono _ _)
      | (with_reducible exact LeO.refl _)
      | (with_reducible exact LeO.none _)
      | (with_reducible refine LeO.ite ?_ ?_)
      | (with_reducible refine LeO.bind ?_ (fun _ => ?_))
      | exact ih0 _ _ _ _ _
      | exact band_Scale.mono _ _ _ _
      | exact stipendlaw05_sums.mono _
      | exact stipendref05_Check.mono _ _
      | exact LeO.none _
      | refine LeO.ite ?_ ?_
      | refine LeO.bind ?_ (fun _ => ?_)
set_option maxHeartbeats 8000000 in
set_option maxRecDepth 100000 in
theorem stipendlaw05_BandChecks.calls (k : Nat) (A0 : Option Addr) (c0 : Nat) (l0 : List (S106)) (a1 : Int) (r : Bool) (w : World) (hr0 : Kd.C k106 w A0 l0.length l0) (hc0 : l0.length ≤ c0) (h : stipendlaw05_BandChecks.f k l0 a1 = some r) :
    Calls Try.prog 6 #[.slice A0 l0.length c0, .int .i64 a1] w fun e w' => e = .returned (.bool r) ∧ Below w.heap.size w w' := by
  have HR0 := Aside0.mk hr0
  have HC0 := Aside0.mk hc0
  clear hr0 hc0
  have HB := Aside0.mk (Below.refl w.heap.size w)
  have H : ((stipendlaw05_sums.f k).bind fun t231 => (if t231 = true then (if (l0.length : Int) > 40 then (some true) else ((stipendref05_Check.f k l0).bind fun t232 => ((band_Exact.f a1 l0).bind fun bt233 => ((band_Employer.f a1 l0).bind fun bt235 => ((band_Check.f l0).bind fun t237 => (if t237 = t232 then (if t232 = 0 then (if a1 > 100000000000 then (stipendlaw05_BandChecks.j0 k bt233.1 bt233.2 bt235.1 bt235.2 true) else (stipendlaw05_BandChecks.j0 k bt233.1 bt233.2 bt235.1 bt235.2 (decide (a1 < (-100000000000))))) else ((band_Scale.f k 1 2 l0).bind fun bt238 => (if bt233.2 = t232 then (if bt235.2 = t232 then (if bt238.2 = t232 then (if bt233.1 = 0 then (if bt235.1 = 0 then (some ((bt238.1.length : Int) == 0)) else (none)) else (none)) else (none)) else (none)) else (none)))) else (none))))))) else (none))) = some r := h
  clear h
  replace H := Option.bind_eq_some_iff.mp H
  obtain ⟨t231, A30, H⟩ := H
  replace H : (if t231 = true then (if (l0.length : Int) > 40 then (some true) else ((stipendref05_Check.f k l0).bind fun t232 => ((band_Exact.f a1 l0).bind fun bt233 => ((band_Employer.f a1 l0).bind fun bt235 => ((band_Check.f l0).bind fun t237 => (if t237 = t232 then (if t232 = 0 then (if a1 > 100000000000 then (stipendlaw05_BandChecks.j0 k bt233.1 bt233.2 bt235.1 bt235.2 true) else (stipendlaw05_BandChecks.j0 k bt233.1 bt233.2 bt235.1 bt235.2 (decide (a1 < (-100000000000))))) else ((band_Scale.f k 1 2 l0).bind fun bt238 => (if bt233.2 = t232 then (if bt235.2 = t232 then (if bt238.2 = t232 then (if bt233.1 = 0 then (if bt235.1 = 0 then (some ((bt238.1.length : Int) == 0)) else (none)) else (none)) else (none)) else (none)) else (none)))) else (none))))))) else (none)) = some r := H
  have A3 := Aside0.mk A30
  clear A30
  by_cases c4 : t231 = true
  · subst c4
    have H1 : (if (l0.length : Int) > 40 then (some true) else ((stipendref05_Check.f k l0).bind fun t232 => ((band_Exact.f a1 l0).bind fun bt233 => ((band_Employer.f a1 l0).bind fun bt235 => ((band_Check.f l0).bind fun t237 => (if t237 = t232 then (if t232 = 0 then (if a1 > 100000000000 then (stipendlaw05_BandChecks.j0 k bt233.1 bt233.2 bt235.1 bt235.2 true) else (stipendlaw05_BandChecks.j0 k bt233.1 bt233.2 bt235.1 bt235.2 (decide (a1 < (-100000000000))))) else ((band_Scale.f k 1 2 l0).bind fun bt238 => (if bt233.2 = t232 then (if bt235.2 = t232 then (if bt238.2 = t232 then (if bt233.1 = 0 then (if bt235.1 = 0 then (some ((bt238.1.length : Int) == 0)) else (none)) else (none)) else (none)) else (none)) else (none)))) else (none))))))) = some r := by rw [if_pos rfl] at H; exact H
    clear H
    have H := H1
    clear H1
    by_cases c5 : (l0.length : Int) > 40
    · rw [if_pos c5] at H
      have c5b0 : decide (40 < (l0.length : Int)) = true := decide_eq_true c5
      have c5b1 : decide (40 < l0.length) = true := decide_eq_true (by omega)
      clear c5
      obtain rfl := Option.some.inj H
      go_enter Try.func6, Try.ntmps6
      go_wp2_with (first | ((with_reducible refine gate_callee (f := 32) rfl ?_); refine goesL_ (some 12) rfl rfl Try.func32 (by kernel_rfl) rfl #[] rfl (by (try simp only [List.map_toArray, List.map_cons, List.map_nil]); first | done | rfl | (simp only [List.length_drop, List.length_take]; rfl)) ?_; (with_reducible refine (stipendlaw05_sums.calls k  true _ A3.out).mono ?_); rintro e w6 ⟨rfl, hb⟩; refine ⟨_, rfl, ?_⟩; have n0_ := Aside0.mk (below_step (by repeat (first | (with_reducible first | exact HB.out | apply below_alloc | apply pw_below_drewN | apply below_drew1) | exact HB.out)) hb); clear HB; have HB := n0_; clear n0_; (try clear hb); (try clear hb2); (try clear hk); (try clear hi)))
      go_ret
      exact ⟨by first | rfl | (simp [errW_none, errW_some] <;> rfl) | (simp [*, errW_none, errW_some] <;> rfl), by repeat (first | (with_reducible first | exact HB.out | apply below_alloc | apply pw_below_drewN | apply below_drew1) | exact HB.out)⟩
    · rw [if_neg c5] at H
      have c5b0 : decide (40 < (l0.length : Int)) = false := decide_eq_false c5
      have c5b1 : decide (40 < l0.length) = false := decide_eq_false (by omega)
      clear c5
      replace H := Option.bind_eq_some_iff.mp H
      obtain ⟨t232, A70, H⟩ := H
      replace H : ((band_Exact.f a1 l0).bind fun bt233 => ((band_Employer.f a1 l0).bind fun bt235 => ((band_Check.f l0).bind fun t237 => (if t237 = t232 then (if t232 = 0 then (if a1 > 100000000000 then (stipendlaw05_BandChecks.j0 k bt233.1 bt233.2 bt235.1 bt235.2 true) else (stipendlaw05_BandChecks.j0 k bt233.1 bt233.2 bt235.1 bt235.2 (decide (a1 < (-100000000000))))) else ((band_Scale.f k 1 2 l0).bind fun bt238 => (if bt233.2 = t232 then (if bt235.2 = t232 then (if bt238.2 = t232 then (if bt233.1 = 0 then (if bt235.1 = 0 then (some ((bt238.1.length : Int) == 0)) else (none)) else (none)) else (none)) else (none)) else (none)))) else (none))))) = some r := H
      have A7 := Aside0.mk A70
      clear A70
      replace H := Option.bind_eq_some_iff.mp H
      obtain ⟨⟨t233, t234⟩, A80, H⟩ := H
      replace H : ((band_Employer.f a1 l0).bind fun bt235 => ((band_Check.f l0).bind fun t237 => (if t237 = t232 then (if t232 = 0 then (if a1 > 100000000000 then (stipendlaw05_BandChecks.j0 k t233 t234 bt235.1 bt235.2 true) else (stipendlaw05_BandChecks.j0 k t233 t234 bt235.1 bt235.2 (decide (a1 < (-100000000000))))) else ((band_Scale.f k 1 2 l0).bind fun bt238 => (if t234 = t232 then (if bt235.2 = t232 then (if bt238.2 = t232 then (if t233 = 0 then (if bt235.1 = 0 then (some ((bt238.1.length : Int) == 0)) else (none)) else (none)) else (none)) else (none)) else (none)))) else (none)))) = some r := H
      have A8 := Aside0.mk A80
      clear A80
      replace H := Option.bind_eq_some_iff.mp H
      obtain ⟨⟨t235, t236⟩, A90, H⟩ := H
      replace H : ((band_Check.f l0).bind fun t237 => (if t237 = t232 then (if t232 = 0 then (if a1 > 100000000000 then (stipendlaw05_BandChecks.j0 k t233 t234 t235 t236 true) else (stipendlaw05_BandChecks.j0 k t233 t234 t235 t236 (decide (a1 < (-100000000000))))) else ((band_Scale.f k 1 2 l0).bind fun bt238 => (if t234 = t232 then (if t236 = t232 then (if bt238.2 = t232 then (if t233 = 0 then (if t235 = 0 then (some ((bt238.1.length : Int) == 0)) else (none)) else (none)) else (none)) else (none)) else (none)))) else (none))) = some r := H
      have A9 := Aside0.mk A90
      clear A90
      replace H := Option.bind_eq_some_iff.mp H
      obtain ⟨t237, A100, H⟩ := H
      replace H : (if t237 = t232 then (if t232 = 0 then (if a1 > 100000000000 then (stipendlaw05_BandChecks.j0 k t233 t234 t235 t236 true) else (stipendlaw05_BandChecks.j0 k t233 t234 t235 t236 (decide (a1 < (-100000000000))))) else ((band_Scale.f k 1 2 l0).bind fun bt238 => (if t234 = t232 then (if t236 = t232 then (if bt238.2 = t232 then (if t233 = 0 then (if t235 = 0 then (some ((bt238.1.length : Int) == 0)) else (none)) else (none)) else (none)) else (none)) else (none)))) else (none)) = some r := H
      have A10 := Aside0.mk A100
      clear A100
      by_cases c11 : t237 = t232
      · rw [if_pos c11] at H
        have c11b0 : (t237 == t232) = true := beq_iff_eq.mpr c11
        have c11b1 : (t237 != t232) = false := bne_eq_false_iff_eq.mpr c11
        clear c11
        by_cases c12 : t232 = 0
        · rw [if_pos c12] at H
          have c12b0 : (t232 == 0) = true := beq_iff_eq.mpr c12
          have c12b1 : (t232 != 0) = false := bne_eq_false_iff_eq.mpr c12
          clear c12
          have HC13 := Aside0.mk H
          clear H
          go_enter Try.func6, Try.ntmps6
          go_upto_region 13 with (first | ((with_reducible refine gate_callee (f := 32) rfl ?_); refine goesL_ (some 12) rfl rfl Try.func32 (by kernel_rfl) rfl #[] rfl (by (try simp only [List.map_toArray, List.map_cons, List.map_nil]); first | done | rfl | (simp only [List.length_drop, List.length_take]; rfl)) ?_; (with_reducible refine (stipendlaw05_sums.calls k  true _ A3.out).mono ?_); rintro e w14 ⟨rfl, hb⟩; refine ⟨_, rfl, ?_⟩; have n0_ := Aside0.mk (below_step (by repeat (first | (with_reducible first | exact HB.out | apply below_alloc | apply pw_below_drewN | apply below_drew1) | exact HB.out)) hb); clear HB; have HB := n0_; clear n0_; (try clear hb); (try clear hb2); (try clear hk); (try clear hi)) | ((with_reducible refine gate_callee (f := 33) rfl ?_); refine goesL_ (some 18) rfl rfl Try.func33 (by kernel_rfl) rfl #[.slice A0 l0.length c0] rfl (by (try simp only [List.map_toArray, List.map_cons, List.map_nil]); first | done | rfl | (simp only [List.length_drop, List.length_take]; rfl)) ?_; (with_reducible refine (stipendref05_Check.calls k _ _ l0 t232 _ ?side1 ?side2 A7.out).mono ?_); (case side1 => repeat (first | exact (Kd.C_below HR0.out HB.out) | (with_reducible refine Kd.C_alloc ?_ _) | (with_reducible refine Kd.C_drewN ?_ _) | (with_reducible refine Kd.C_drew ?_))); (case side2 => exact HC0.out); rintro e w' ⟨rfl, ⟨nd, rfl⟩⟩; refine ⟨_, rfl, ?_⟩) | ((with_reducible refine gate_callee (f := 34) rfl ?_); refine goesL_ (some 22) rfl rfl Try.func34 (by kernel_rfl) rfl #[.int .i64 a1, .slice A0 l0.length c0] rfl (by (try simp only [List.map_toArray, List.map_cons, List.map_nil]); first | done | rfl | (simp only [List.length_drop, List.length_take]; rfl)) ?_; (with_reducible refine (band_Exact.calls a1 _ _ l0 t233 t234 _ ?side1 ?side2 A8.out).mono ?_); (case side1 => repeat (first | exact (Kd.C_below HR0.out (by repeat (first | (with_reducible first | exact HB.out | apply below_alloc | apply pw_below_drewN | apply below_drew1) | exact HB.out))) | (with_reducible refine Kd.C_alloc ?_ _) | (with_reducible refine Kd.C_drewN ?_ _) | (with_reducible refine Kd.C_drew ?_))); (case side2 => exact HC0.out); rintro e w15 ⟨rfl, hb⟩; refine ⟨_, rfl, ?_⟩; have n0_ := Aside0.mk (below_step (by repeat (first | (with_reducible first | exact HB.out | apply below_alloc | apply pw_below_drewN | apply below_drew1) | exact HB.out)) hb); clear HB; have HB := n0_; clear n0_; (try clear hb); (try clear hb2); (try clear hk); (try clear hi)) | ((with_reducible refine gate_callee (f := 35) rfl ?_); refine goesL_ (some 28) rfl rfl Try.func35 (by kernel_rfl) rfl #[.int .i64 a1, .slice A0 l0.length c0] rfl (by (try simp only [List.map_toArray, List.map_cons, List.map_nil]); first | done | rfl | (simp only [List.length_drop, List.length_take]; rfl)) ?_; (with_reducible refine (band_Employer.calls a1 _ _ l0 t235 t236 _ ?side1 ?side2 A9.out).mono ?_); (case side1 => repeat (first | exact (Kd.C_below HR0.out HB.out) | (with_reducible refine Kd.C_alloc ?_ _) | (with_reducible refine Kd.C_drewN ?_ _) | (with_reducible refine Kd.C_drew ?_))); (case side2 => exact HC0.out); rintro e w16 ⟨rfl, hb⟩; refine ⟨_, rfl, ?_⟩; have n0_ := Aside0.mk (below_step (by repeat (first | (with_reducible first | exact HB.out | apply below_alloc | apply pw_below_drewN | apply below_drew1) | exact HB.out)) hb); clear HB; have HB := n0_; clear n0_; (try clear hb); (try clear hb2); (try clear hk); (try clear hi)) | ((with_reducible refine gate_callee (f := 36) rfl ?_); refine goesL_ (some 32) rfl rfl Try.func36 (by kernel_rfl) rfl #[.slice A0 l0.length c0] rfl (by (try simp only [List.map_toArray, List.map_cons, List.map_nil]); first | done | rfl | (simp only [List.length_drop, List.length_take]; rfl)) ?_; (with_reducible refine (band_Check.calls _ _ l0 t237 _ ?side1 ?side2 A10.out).mono ?_); (case side1 => repeat (first | exact (Kd.C_below HR0.out HB.out) | (with_reducible refine Kd.C_alloc ?_ _) | (with_reducible refine Kd.C_drewN ?_ _) | (with_reducible refine Kd.C_drew ?_))); (case side2 => exact HC0.out); rintro e w17 ⟨rfl, hb⟩; refine ⟨_, rfl, ?_⟩; have n0_ := Aside0.mk (below_step (by repeat (first | (with_reducible first | exact HB.out | apply below_alloc | apply pw_below_drewN | apply below_drew1) | exact HB.out)) hb); clear HB; have HB := n0_; clear n0_; (try clear hb); (try clear hb2); (try clear hk); (try clear hi)))
          (try simp only [Act.put, List.setIfInBounds_toArray, List.set_cons_zero, List.set_cons_succ])
          go_cut [73] (fun v73 wc => ∃ (kq : Nat) (x73_12 : Bool), v73 = .bool x73_12 ∧ Aside0 (stipendlaw05_BandChecks.j0 kq t233 t234 t235 t236 x73_12 = some r) ∧ Aside0 (kq ≤ k) ∧ Aside0 (Below w.heap.size w wc))
          case first =>
            have H := HC13.out
            clear HC13
            by_cases c18 : a1 > 100000000000
            · rw [if_pos c18] at H
              have c18b0 : decide (100000000000 < a1) = true := decide_eq_true c18
              clear c18
              (first | rw [c18b0] | (simp only [i64_w, i32_w]; rw [c18b0]) | skip)
              have H' := Aside0.mk H
              clear H
              go_wp2
              go_meet
              case rel => exact ⟨_, (true), (by first | rfl | (simp; done) | (simp [*]; done)), H', ⟨by first | omega | exact Nat.le_refl _⟩, ⟨by repeat (first | (with_reducible first | exact HB.out | apply below_alloc | apply pw_below_drewN | apply below_drew1) | exact HB.out)⟩⟩
            · rw [if_neg c18] at H
              have c18b0 : decide (100000000000 < a1) = false := decide_eq_false c18
              clear c18
              (first | rw [c18b0] | (simp only [i64_w, i32_w]; rw [c18b0]) | skip)
              have H' := Aside0.mk H
              clear H
              go_wp2
              go_meet
              case rel => exact ⟨_, (decide (a1 < (-100000000000))), (by first | rfl | (simp; done) | (simp [*]; done)), H', ⟨by first | omega | exact Nat.le_refl _⟩, ⟨by repeat (first | (with_reducible first | exact HB.out | apply below_alloc | apply pw_below_drewN | apply below_drew1) | exact HB.out)⟩⟩
          case rest =>
            clear HC13
            try clear c1
            try clear p2
            try clear c3
            try clear c4
            try clear c5
            try clear c5b0
            try clear c5b1
            try clear c6
            try clear c11
            try clear c11b0
            try clear c11b1
            try clear c12
            try clear c12b0
            try clear c12b1
            try clear c18
            try clear c18b0
            obtain ⟨kq, x73_12, rfl, HA, HJ12, HB⟩ := hcut
            cases kq with
            | zero => exact absurd HA.out (by simp [stipendlaw05_BandChecks.j0])
            | succ kj12 =>
              have H := HA.out
              clear HA
              simp only [stipendlaw05_BandChecks.j0] at H
              by_cases c19 : x73_12 = true
              · subst c19
                have H1 : (if t234 = 10 then (if t236 = 10 then (if t233 = 0 then (some (t235 == 0)) else (none)) else (none)) else (none)) = some r := by rw [if_pos rfl] at H; exact H
                clear H
                have H := H1
                clear H1
                by_cases c20 : t234 = 10
                · rw [if_pos c20] at H
                  have c20b0 : (t234 == 10) = true := beq_iff_eq.mpr c20
                  have c20b1 : (t234 != 10) = false := bne_eq_false_iff_eq.mpr c20
                  clear c20
                  by_cases c21 : t236 = 10
                  · rw [if_pos c21] at H
                    have c21b0 : (t236 == 10) = true := beq_iff_eq.mpr c21
                    have c21b1 : (t236 != 10) = false := bne_eq_false_iff_eq.mpr c21
                    clear c21
                    by_cases c22 : t233 = 0
                    · rw [if_pos c22] at H
                      have c22b0 : (t233 == 0) = true := beq_iff_eq.mpr c22
                      have c22b1 : (t233 != 0) = false := bne_eq_false_iff_eq.mpr c22
                      clear c22
                      obtain rfl := Option.some.inj H
                      go_wp2
                      go_ret
                      exact ⟨by first | rfl | (simp [errW_none, errW_some] <;> rfl) | (simp [*, errW_none, errW_some] <;> rfl), by repeat (first | (with_reducible first | exact HB.out | apply below_alloc | apply pw_below_drewN | apply below_drew1) | exact HB.out)⟩
                    · rw [if_neg c22] at H
                      exact absurd H (by simp)
                  · rw [if_neg c21] at H
                    exact absurd H (by simp)
                · rw [if_neg c20] at H
                  exact absurd H (by simp)
              · replace c19 := Bool.eq_false_iff.mpr c19
                subst c19
                have H1 : (if t234 = 0 then (some (t236 == 0)) else (none)) = some r := by rw [if_neg (show ¬ (false = true) by decide)] at H; exact H
                clear H
                have H := H1
                clear H1
                by_cases c23 : t234 = 0
                · rw [if_pos c23] at H
                  have c23b0 : (t234 == 0) = true := beq_iff_eq.mpr c23
                  have c23b1 : (t234 != 0) = false := bne_eq_false_iff_eq.mpr c23
                  clear c23
                  obtain rfl := Option.some.inj H
                  go_wp2
                  go_ret
                  exact ⟨by first | rfl | (simp [errW_none, errW_some] <;> rfl) | (simp [*, errW_none, errW_some] <;> rfl), by repeat (first | (with_reducible first | exact HB.out | apply below_alloc | apply pw_below_drewN | apply below_drew1) | exact HB.out)⟩
                · rw [if_neg c23] at H
                  exact absurd H (by simp)
        · rw [if_neg c12] at H
          have c12b0 : (t232 == 0) = false := beq_eq_false_iff_ne.mpr c12
          have c12b1 : (t232 != 0) = true := bne_iff_ne.mpr c12
          replace H := Option.bind_eq_some_iff.mp H
          obtain ⟨⟨t238, t239⟩, A240, H⟩ := H
          replace H : (if t234 = t232 then (if t236 = t232 then (if t239 = t232 then (if t233 = 0 then (if t235 = 0 then (some ((t238.length : Int) == 0)) else (none)) else (none)) else (none)) else (none)) else (none)) = some r := H
          have A24 := Aside0.mk A240
          clear A240
          by_cases c25 : t234 = t232
          · rw [if_pos c25] at H
            have c25b0 : (t234 == t232) = true := beq_iff_eq.mpr c25
            have c25b1 : (t234 != t232) = false := bne_eq_false_iff_eq.mpr c25
            clear c25
            by_cases c26 : t236 = t232
            · rw [if_pos c26] at H
              have c26b0 : (t236 == t232) = true := beq_iff_eq.mpr c26
              have c26b1 : (t236 != t232) = false := bne_eq_false_iff_eq.mpr c26
              clear c26
              by_cases c27 : t239 = t232
              · rw [if_pos c27] at H
                have c27b0 : (t239 == t232) = true := beq_iff_eq.mpr c27
                have c27b1 : (t239 != t232) = false := bne_eq_false_iff_eq.mpr c27
                clear c27
                by_cases c28 : t233 = 0
                · rw [if_pos c28] at H
                  have c28b0 : (t233 == 0) = true := beq_iff_eq.mpr c28
                  have c28b1 : (t233 != 0) = false := bne_eq_false_iff_eq.mpr c28
                  clear c28
                  by_cases c29 : t235 = 0
                  · rw [if_pos c29] at H
                    have c29b0 : (t235 == 0) = true := beq_iff_eq.mpr c29
                    have c29b1 : (t235 != 0) = false := bne_eq_false_iff_eq.mpr c29
                    clear c29
                    obtain rfl := Option.some.inj H
                    go_enter Try.func6, Try.ntmps6
                    go_wp2_with (first | ((with_reducible refine gate_callee (f := 32) rfl ?_); refine goesL_ (some 12) rfl rfl Try.func32 (by kernel_rfl) rfl #[] rfl (by (try simp only [List.map_toArray, List.map_cons, List.map_nil]); first | done | rfl | (simp only [List.length_drop, List.length_take]; rfl)) ?_; (with_reducible refine (stipendlaw05_sums.calls k  true _ A3.out).mono ?_); rintro e w30 ⟨rfl, hb⟩; refine ⟨_, rfl, ?_⟩; have n0_ := Aside0.mk (below_step (by repeat (first | (with_reducible first | exact HB.out | apply below_alloc | apply pw_below_drewN | apply below_drew1) | exact HB.out)) hb); clear HB; have HB := n0_; clear n0_; (try clear hb); (try clear hb2); (try clear hk); (try clear hi)) | ((with_reducible refine gate_callee (f := 33) rfl ?_); refine goesL_ (some 18) rfl rfl Try.func33 (by kernel_rfl) rfl #[.slice A0 l0.length c0] rfl (by (try simp only [List.map_toArray, List.map_cons, List.map_nil]); first | done | rfl | (simp only [List.length_drop, List.length_take]; rfl)) ?_; (with_reducible refine (stipendref05_Check.calls k _ _ l0 t232 _ ?side1 ?side2 A7.out).mono ?_); (case side1 => repeat (first | exact (Kd.C_below HR0.out HB.out) | (with_reducible refine Kd.C_alloc ?_ _) | (with_reducible refine Kd.C_drewN ?_ _) | (with_reducible refine Kd.C_drew ?_))); (case side2 => exact HC0.out); rintro e w' ⟨rfl, ⟨nd, rfl⟩⟩; refine ⟨_, rfl, ?_⟩) | ((with_reducible refine gate_callee (f := 34) rfl ?_); refine goesL_ (some 22) rfl rfl Try.func34 (by kernel_rfl) rfl #[.int .i64 a1, .slice A0 l0.length c0] rfl (by (try simp only [List.map_toArray, List.map_cons, List.map_nil]); first | done | rfl | (simp only [List.length_drop, List.length_take]; rfl)) ?_; (with_reducible refine (band_Exact.calls a1 _ _ l0 t233 t234 _ ?side1 ?side2 A8.out).mono ?_); (case side1 => repeat (first | exact (Kd.C_below HR0.out (by repeat (first | (with_reducible first | exact HB.out | apply below_alloc | apply pw_below_drewN | apply below_drew1) | exact HB.out))) | (with_reducible refine Kd.C_alloc ?_ _) | (with_reducible refine Kd.C_drewN ?_ _) | (with_reducible refine Kd.C_drew ?_))); (case side2 => exact HC0.out); rintro e w31 ⟨rfl, hb⟩; refine ⟨_, rfl, ?_⟩; have n0_ := Aside0.mk (below_step (by repeat (first | (with_reducible first | exact HB.out | apply below_alloc | apply pw_below_drewN | apply below_drew1) | exact HB.out)) hb); clear HB; have HB := n0_; clear n0_; (try clear hb); (try clear hb2); (try clear hk); (try clear hi)) | ((with_reducible refine gate_callee (f := 35) rfl ?_); refine goesL_ (some 28) rfl rfl Try.func35 (by kernel_rfl) rfl #[.int .i64 a1, .slice A0 l0.length c0] rfl (by (try simp only [List.map_toArray, List.map_cons, List.map_nil]); first | done | rfl | (simp only [List.length_drop, List.length_take]; rfl)) ?_; (with_reducible refine (band_Employer.calls a1 _ _ l0 t235 t236 _ ?side1 ?side2 A9.out).mono ?_); (case side1 => repeat (first | exact (Kd.C_below HR0.out HB.out) | (with_reducible refine Kd.C_alloc ?_ _) | (with_reducible refine Kd.C_drewN ?_ _) | (with_reducible refine Kd.C_drew ?_))); (case side2 => exact HC0.out); rintro e w32 ⟨rfl, hb⟩; refine ⟨_, rfl, ?_⟩; have n0_ := Aside0.mk (below_step (by repeat (first | (with_reducible first | exact HB.out | apply below_alloc | apply pw_below_drewN | apply below_drew1) | exact HB.out)) hb); clear HB; have HB := n0_; clear n0_; (try clear hb); (try clear hb2); (try clear hk); (try clear hi)) | ((with_reducible refine gate_callee (f := 36) rfl ?_); refine goesL_ (some 32) rfl rfl Try.func36 (by kernel_rfl) rfl #[.slice A0 l0.length c0] rfl (by (try simp only [List.map_toArray, List.map_cons, List.map_nil]); first | done | rfl | (simp only [List.length_drop, List.length_take]; rfl)) ?_; (with_reducible refine (band_Check.calls _ _ l0 t237 _ ?side1 ?side2 A10.out).mono ?_); (case side1 => repeat (first | exact (Kd.C_below HR0.out HB.out) | (with_reducible refine Kd.C_alloc ?_ _) | (with_reducible refine Kd.C_drewN ?_ _) | (with_reducible refine Kd.C_drew ?_))); (case side2 => exact HC0.out); rintro e w33 ⟨rfl, hb⟩; refine ⟨_, rfl, ?_⟩; have n0_ := Aside0.mk (below_step (by repeat (first | (with_reducible first | exact HB.out | apply below_alloc | apply pw_below_drewN | apply below_drew1) | exact HB.out)) hb); clear HB; have HB := n0_; clear n0_; (try clear hb); (try clear hb2); (try clear hk); (try clear hi)) | ((with_reducible refine gate_callee (f := 37) rfl ?_); refine goesL_ (some 39) rfl rfl Try.func37 (by kernel_rfl) rfl #[.int .i64 1, .int .i64 2, .slice A0 l0.length c0] rfl (by (try simp only [List.map_toArray, List.map_cons, List.map_nil]); first | done | rfl | (simp only [List.length_drop, List.length_take]; rfl)) ?_; (with_reducible refine (band_Scale.calls k 1 2 _ _ l0 t238 t239 _ ?side1 ?side2 A24.out).mono ?_); (case side1 => repeat (first | exact (Kd.C_below HR0.out HB.out) | (with_reducible refine Kd.C_alloc ?_ _) | (with_reducible refine Kd.C_drewN ?_ _) | (with_reducible refine Kd.C_drew ?_))); (case side2 => exact HC0.out); rintro e w34 ⟨v240, rfl, ho0, hb⟩; refine ⟨_, rfl, ?_⟩; have n0_ := Aside0.mk (Kd.R_lower ho0 (below_size (by repeat (first | (with_reducible first | exact HB.out | apply below_alloc | apply pw_below_drewN | apply below_drew1) | exact HB.out)))); have n1_ := Aside0.mk (below_step (by repeat (first | (with_reducible first | exact HB.out | apply below_alloc | apply pw_below_drewN | apply below_drew1) | exact HB.out)) hb); clear HB; have HO241 := n0_; have HB := n1_; clear n0_ n1_; (try clear hb); (try clear hb2); (try clear hk); (try clear hi); (try clear ho0); obtain ⟨Ao35, co35, eo35⟩ := Kd.R_slice HO241.out; subst eo35))
                    go_ret
                    exact ⟨by first | rfl | (simp [errW_none, errW_some] <;> rfl) | (simp [*, errW_none, errW_some] <;> rfl), by repeat (first | (with_reducible first | exact HB.out | apply below_alloc | apply pw_below_drewN | apply below_drew1) | exact HB.out)⟩
                  · rw [if_neg c29] at H
                    exact absurd H (by simp)
                · rw [if_neg c28] at H
                  exact absurd H (by simp)
              · rw [if_neg c27] at H
                exact absurd H (by simp)
            · rw [if_neg c26] at H
              exact absurd H (by simp)
          · rw [if_neg c25] at H
            exact absurd H (by simp)
      · rw [if_neg c11] at H
        exact absurd H (by simp)
  · replace c4 := Bool.eq_false_iff.mpr c4
    subst c4
    have H1 : (none) = some r := by rw [if_neg (show ¬ (false = true) by decide)] at H; exact H
    clear H
    have H := H1
    clear H1
    exact absurd H (by simp)

end Go.Proofs.Ytcapgmoipacioaa.P
