import Derived.Test.YtcapgmoipacioaaPt
import Derived.Test.YtcapgmoipacioaaHexact
import Derived.Test.YtcapgmoipacioaaPpband
import Derived.Test.YtcapgmoipacioaaPpbandjoin
namespace Go.Proofs.Ytcapgmoipacioaa.P
open Go.RowKit Go.Proofs.YtcapgmoipacioaaW.PrintWords Go.Proofs.YtcapgmoipacioaaW.PrintLast Go.Proofs.YtcapgmoipacioaaW.PrintMore
attribute [local go_sem] max2_int min2_int max_two min_two max_three min_three max_four min_four
set_option linter.unusedVariables false
set_option linter.unusedSimpArgs false

/-! ### stipendlaw05_three: function 98 -/
def stipendlaw05_three.f  : Option ((List (S106))) := some (([(⟨0, 0, 0⟩ : S106), (⟨100, 2000, 1000⟩ : S106), (⟨300, 4000, 0⟩ : S106)] : List (S106)))
set_option maxHeartbeats 8000000 in
set_option maxRecDepth 100000 in
theorem stipendlaw05_three.calls  (r : List (S106)) (w : World) (h : stipendlaw05_three.f  = some r) :
    Calls Try.prog 98 #[] w fun e w' => ∃ v0_ : Value, e = .returned (v0_) ∧ Kd.R k106 106 w' w.heap.size (fun _ => True) v0_ r ∧ Below w.heap.size w w' := by
  have hu106 := Try.underlying106
  have HB := Aside0.mk (Below.refl w.heap.size w)
  have H : (some (([(⟨0, 0, 0⟩ : S106), (⟨100, 2000, 1000⟩ : S106), (⟨300, 4000, 0⟩ : S106)] : List (S106)))) = some r := h
  clear h
  obtain ⟨y194, hy194⟩ : ∃ y_ : List (S106), y_ = (([(⟨0, 0, 0⟩ : S106), (⟨100, 2000, 1000⟩ : S106), (⟨300, 4000, 0⟩ : S106)] : List (S106))) := ⟨_, rfl⟩
  replace H : (some y194) = some r := by first | (rw [hy194]; with_reducible exact H) | (have H2_ := (Option.bind_some _ _).symm.trans H; rw [hy194]; with_reducible exact H2_) | (have H2_ := (Option.bind_some _ _).symm.trans H; with_reducible exact H2_) | with_reducible exact H | (rw [hy194]; exact H) | exact H
  have Ny194 := Aside0.mk hy194
  clear hy194
  obtain rfl := Option.some.inj H
  go_enter Try.func98, Try.ntmps98
  go_wp2_with (first | ((with_reducible refine gate_dst (N := 4) rfl ?_); refine Kd.R_lit k106 _ 106 ?hg (N := 4) ?hd (xs := ([(⟨0, 0, 0⟩ : S106), (⟨100, 2000, 1000⟩ : S106), (⟨300, 4000, 0⟩ : S106)] : List (S106))) (inner := [.int .i64 0, .int .i64 0, .int .i64 0, .int .i64 100, .int .i64 2000, .int .i64 1000, .int .i64 300, .int .i64 4000, .int .i64 0]) (ok := fun _ => True) (okp := fun _ => True) ?hr ?hp (fun _ hk => hk) trivial (Below.refl _ _) (Nat.le_refl _) (by simp) ?_; (case hd => rfl); (case hg => rfl); (case hr => first | (go_simp; done) | (go_simp; rfl)); (case hp => exact (Reps.c3 (show Kd.M k106 _ _ _ (⟨0, 0, 0⟩ : S106) [.int .i64 0, .int .i64 0, .int .i64 0] from (k106_mkM _ _ _ (⟨0, 0, 0⟩ : S106) )) (Reps.c3 (show Kd.M k106 _ _ _ (⟨100, 2000, 1000⟩ : S106) [.int .i64 100, .int .i64 2000, .int .i64 1000] from (k106_mkM _ _ _ (⟨100, 2000, 1000⟩ : S106) )) (Reps.c3 (show Kd.M k106 _ _ _ (⟨300, 4000, 0⟩ : S106) [.int .i64 300, .int .i64 4000, .int .i64 0] from (k106_mkM _ _ _ (⟨300, 4000, 0⟩ : S106) )) (Reps.none _ _))))); intro v195 w1 ho2 hb hg_ hnew_; clear hg_ hnew_; (first | rw [← Ny194.out] at ho2 | (simp only [Int.reduceToNat] at ho2; rw [← Ny194.out] at ho2)); have n0_ := Aside0.mk (Kd.R_lower ho2 (below_size (by repeat (first | (with_reducible first | exact HB.out | apply below_alloc | apply pw_below_drewN | apply below_drew1) | exact HB.out)))); have n1_ := Aside0.mk (below_step (by repeat (first | (with_reducible first | exact HB.out | apply below_alloc | apply pw_below_drewN | apply below_drew1) | exact HB.out)) hb); clear HB; have HO196 := n0_; have HB := n1_; clear n0_ n1_; clear hb ho2))
  go_ret
  exact ⟨_, by first | rfl | (simp [errW_none, errW_some] <;> rfl) | (simp [*, errW_none, errW_some] <;> rfl), by (with_reducible repeat (first | apply Kd.R_alloc | apply Kd.R_drewN | apply Kd.R_drew)); exact HO196.out, by repeat (first | (with_reducible first | exact HB.out | apply below_alloc | apply pw_below_drewN | apply below_drew1) | exact HB.out)⟩

/-! ### stipendlaw05_sums: function 32 -/
def stipendlaw05_sums.f (k : Nat)  : Option (Bool) := (stipendlaw05_three.f).bind fun t197 => ((band_Exact.f 350 t197).bind fun bt200 => ((band_Employer.f 350 t197).bind fun bt202 => ((band_Between.f 100 200 t197).bind fun bt204 => ((band_Scale.f k 1 2 t197).bind fun bt206 => ((band_Corners.f k t197).bind fun t210 => (if (wrap64 ((wrap64 ((wrap64 (bt200.2 + bt202.2)) + bt204.2)) + bt206.2)) = 0 then (if bt200.1 = 600000 then (if bt202.1 = 200000 then (if bt204.1 = 200000 then (if (bt206.1.length : Int) = 3 then (if 2 < (bt206.1.length : Int) then (if ((rd_T106 bt206.1 2).f0) = 150 then (if (t210.length : Int) = 2 then (if 0 < (t210.length : Int) then (if (rd t210 0) = 100 then ((band_Find.f k 300 t197).bind fun t215 => (if t215 = 1 then ((band_Find.f k 301 t197).bind fun t216 => (if t216 = 2 then ((band_Top.f k t197).bind fun t217 => (if t217 = 4000 then ((band_Join.f k t197).bind fun t218 => ((band_Same.f k t197 t218).bind fun t221 => (if t221 = true then (some true) else (none)))) else (none))) else (none))) else (none))) else (none)) else (none)) else (none)) else (none)) else (none)) else (none)) else (none)) else (none)) else (none)) else (none)))))))
theorem stipendlaw05_sums.mono : ∀ k, LeO (stipendlaw05_sums.f k ) (stipendlaw05_sums.f (k + 1) ) := by
  intro  k
  unfold stipendlaw05_sums.f
  repeat' first
      | (with_reducible exact band_Corners.mono _ _)
      | (with_reducible exact band_Find.mono _ _ _)
      | (with_reducible exact band_Join.mono _ _)
      | (with_reducible exact band_Same.mono _ _ _)
      | (with_reducible exact band_Scale.mono _ _ _ _)
      | (with_reducible exact band_Top.mono _ _)
      | (with_reducible exact LeO.refl _)
      | (with_reducible exact LeO.none _)
      | (with_reducible refine LeO.ite ?_ ?_)
      | (with_reducible refine LeO.bind ?_ (fun _ => ?_))
      | exact band_Corners.mono _ _
      | exact band_Find.mono _ _ _
      | exact band_Join.mono _ _
      | exact band_Same.mono _ _ _
      | exact band_Scale.mono _ _ _ _
      | exact band_Top.mono _ _
      | exact LeO.none _
      | refine LeO.ite ?_ ?_
      | refine LeO.bind ?_ (fun _ => ?_)
set_option maxHeartbeats 8000000 in
set_option maxRecDepth 100000 in
theorem stipendlaw05_sums.calls (k : Nat)  (r : Bool) (w : World) (h : stipendlaw05_sums.f k  = some r) :
    Calls Try.prog 32 #[] w fun e w' => e = .returned (.bool r) ∧ Below w.heap.size w w' := by
  have HB := Aside0.mk (Below.refl w.heap.size w)
  have H : ((stipendlaw05_three.f).bind fun t197 => ((band_Exact.f 350 t197).bind fun bt200 => ((band_Employer.f 350 t197).bind fun bt202 => ((band_Between.f 100 200 t197).bind fun bt204 => ((band_Scale.f k 1 2 t197).bind fun bt206 => ((band_Corners.f k t197).bind fun t210 => (if (wrap64 ((wrap64 ((wrap64 (bt200.2 + bt202.2)) + bt204.2)) + bt206.2)) = 0 then (if bt200.1 = 600000 then (if bt202.1 = 200000 then (if bt204.1 = 200000 then (if (bt206.1.length : Int) = 3 then (if 2 < (bt206.1.length : Int) then (if ((rd_T106 bt206.1 2).f0) = 150 then (if (t210.length : Int) = 2 then (if 0 < (t210.length : Int) then (if (rd t210 0) = 100 then ((band_Find.f k 300 t197).bind fun t215 => (if t215 = 1 then ((band_Find.f k 301 t197).bind fun t216 => (if t216 = 2 then ((band_Top.f k t197).bind fun t217 => (if t217 = 4000 then ((band_Join.f k t197).bind fun t218 => ((band_Same.f k t197 t218).bind fun t221 => (if t221 = true then (some true) else (none)))) else (none))) else (none))) else (none))) else (none)) else (none)) else (none)) else (none)) else (none)) else (none)) else (none)) else (none)) else (none)) else (none)))))))) = some r := h
  clear h
  replace H := Option.bind_eq_some_iff.mp H
  obtain ⟨t197, A10, H⟩ := H
  replace H : ((band_Exact.f 350 t197).bind fun bt200 => ((band_Employer.f 350 t197).bind fun bt202 => ((band_Between.f 100 200 t197).bind fun bt204 => ((band_Scale.f k 1 2 t197).bind fun bt206 => ((band_Corners.f k t197).bind fun t210 => (if (wrap64 ((wrap64 ((wrap64 (bt200.2 + bt202.2)) + bt204.2)) + bt206.2)) = 0 then (if bt200.1 = 600000 then (if bt202.1 = 200000 then (if bt204.1 = 200000 then (if (bt206.1.length : Int) = 3 then (if 2 < (bt206.1.length : Int) then (if ((rd_T106 bt206.1 2).f0) = 150 then (if (t210.length : Int) = 2 then (if 0 < (t210.length : Int) then (if (rd t210 0) = 100 then ((band_Find.f k 300 t197).bind fun t215 => (if t215 = 1 then ((band_Find.f k 301 t197).bind fun t216 => (if t216 = 2 then ((band_Top.f k t197).bind fun t217 => (if t217 = 4000 then ((band_Join.f k t197).bind fun t218 => ((band_Same.f k t197 t218).bind fun t221 => (if t221 = true then (some true) else (none)))) else (none))) else (none))) else (none))) else (none)) else (none)) else (none)) else (none)) else (none)) else (none)) else (none)) else (none)) else (none)) else (none))))))) = some r := H
  have A1 := Aside0.mk A10
  clear A10
  replace H := Option.bind_eq_some_iff.mp H
  obtain ⟨⟨t200, t201⟩, A20, H⟩ := H
  replace H : ((band_Employer.f 350 t197).bind fun bt202 => ((band_Between.f 100 200 t197).bind fun bt204 => ((band_Scale.f k 1 2 t197).bind fun bt206 => ((band_Corners.f k t197).bind fun t210 => (if (wrap64 ((wrap64 ((wrap64 (t201 + bt202.2)) + bt204.2)) + bt206.2)) = 0 then (if t200 = 600000 then (if bt202.1 = 200000 then (if bt204.1 = 200000 then (if (bt206.1.length : Int) = 3 then (if 2 < (bt206.1.length : Int) then (if ((rd_T106 bt206.1 2).f0) = 150 then (if (t210.length : Int) = 2 then (if 0 < (t210.length : Int) then (if (rd t210 0) = 100 then ((band_Find.f k 300 t197).bind fun t215 => (if t215 = 1 then ((band_Find.f k 301 t197).bind fun t216 => (if t216 = 2 then ((band_Top.f k t197).bind fun t217 => (if t217 = 4000 then ((band_Join.f k t197).bind fun t218 => ((band_Same.f k t197 t218).bind fun t221 => (if t221 = true then (some true) else (none)))) else (none))) else (none))) else (none))) else (none)) else (none)) else (none)) else (none)) else (none)) else (none)) else (none)) else (none)) else (none)) else (none)))))) = some r := H
  have A2 := Aside0.mk A20
  clear A20
  replace H := Option.bind_eq_some_iff.mp H
  obtain ⟨⟨t202, t203⟩, A30, H⟩ := H
  replace H : ((band_Between.f 100 200 t197).bind fun bt204 => ((band_Scale.f k 1 2 t197).bind fun bt206 => ((band_Corners.f k t197).bind fun t210 => (if (wrap64 ((wrap64 ((wrap64 (t201 + t203)) + bt204.2)) + bt206.2)) = 0 then (if t200 = 600000 then (if t202 = 200000 then (if bt204.1 = 200000 then (if (bt206.1.length : Int) = 3 then (if 2 < (bt206.1.length : Int) then (if ((rd_T106 bt206.1 2).f0) = 150 then (if (t210.length : Int) = 2 then (if 0 < (t210.length : Int) then (if (rd t210 0) = 100 then ((band_Find.f k 300 t197).bind fun t215 => (if t215 = 1 then ((band_Find.f k 301 t197).bind fun t216 => (if t216 = 2 then ((band_Top.f k t197).bind fun t217 => (if t217 = 4000 then ((band_Join.f k t197).bind fun t218 => ((band_Same.f k t197 t218).bind fun t221 => (if t221 = true then (some true) else (none)))) else (none))) else (none))) else (none))) else (none)) else (none)) else (none)) else (none)) else (none)) else (none)) else (none)) else (none)) else (none)) else (none))))) = some r := H
  have A3 := Aside0.mk A30
  clear A30
  replace H := Option.bind_eq_some_iff.mp H
  obtain ⟨⟨t204, t205⟩, A40, H⟩ := H
  replace H : ((band_Scale.f k 1 2 t197).bind fun bt206 => ((band_Corners.f k t197).bind fun t210 => (if (wrap64 ((wrap64 ((wrap64 (t201 + t203)) + t205)) + bt206.2)) = 0 then (if t200 = 600000 then (if t202 = 200000 then (if t204 = 200000 then (if (bt206.1.length : Int) = 3 then (if 2 < (bt206.1.length : Int) then (if ((rd_T106 bt206.1 2).f0) = 150 then (if (t210.length : Int) = 2 then (if 0 < (t210.length : Int) then (if (rd t210 0) = 100 then ((band_Find.f k 300 t197).bind fun t215 => (if t215 = 1 then ((band_Find.f k 301 t197).bind fun t216 => (if t216 = 2 then ((band_Top.f k t197).bind fun t217 => (if t217 = 4000 then ((band_Join.f k t197).bind fun t218 => ((band_Same.f k t197 t218).bind fun t221 => (if t221 = true then (some true) else (none)))) else (none))) else (none))) else (none))) else (none)) else (none)) else (none)) else (none)) else (none)) else (none)) else (none)) else (none)) else (none)) else (none)))) = some r := H
  have A4 := Aside0.mk A40
  clear A40
  replace H := Option.bind_eq_some_iff.mp H
  obtain ⟨⟨t206, t207⟩, A50, H⟩ := H
  replace H : ((band_Corners.f k t197).bind fun t210 => (if (wrap64 ((wrap64 ((wrap64 (t201 + t203)) + t205)) + t207)) = 0 then (if t200 = 600000 then (if t202 = 200000 then (if t204 = 200000 then (if (t206.length : Int) = 3 then (if 2 < (t206.length : Int) then (if ((rd_T106 t206 2).f0) = 150 then (if (t210.length : Int) = 2 then (if 0 < (t210.length : Int) then (if (rd t210 0) = 100 then ((band_Find.f k 300 t197).bind fun t215 => (if t215 = 1 then ((band_Find.f k 301 t197).bind fun t216 => (if t216 = 2 then ((band_Top.f k t197).bind fun t217 => (if t217 = 4000 then ((band_Join.f k t197).bind fun t218 => ((band_Same.f k t197 t218).bind fun t221 => (if t221 = true then (some true) else (none)))) else (none))) else (none))) else (none))) else (none)) else (none)) else (none)) else (none)) else (none)) else (none)) else (none)) else (none)) else (none)) else (none))) = some r := H
  have A5 := Aside0.mk A50
  clear A50
  replace H := Option.bind_eq_some_iff.mp H
  obtain ⟨t210, A60, H⟩ := H
  replace H : (if (wrap64 ((wrap64 ((wrap64 (t201 + t203)) + t205)) + t207)) = 0 then (if t200 = 600000 then (if t202 = 200000 then (if t204 = 200000 then (if (t206.length : Int) = 3 then (if 2 < (t206.length : Int) then (if ((rd_T106 t206 2).f0) = 150 then (if (t210.length : Int) = 2 then (if 0 < (t210.length : Int) then (if (rd t210 0) = 100 then ((band_Find.f k 300 t197).bind fun t215 => (if t215 = 1 then ((band_Find.f k 301 t197).bind fun t216 => (if t216 = 2 then ((band_Top.f k t197).bind fun t217 => (if t217 = 4000 then ((band_Join.f k t197).bind fun t218 => ((band_Same.f k t197 t218).bind fun t221 => (if t221 = true then (some true) else (none)))) else (none))) else (none))) else (none))) else (none)) else (none)) else (none)) else (none)) else (none)) else (none)) else (none)) else (none)) else (none)) else (none)) = some r := H
  have A6 := Aside0.mk A60
  clear A60
  by_cases c7 : (wrap64 ((wrap64 ((wrap64 (t201 + t203)) + t205)) + t207)) = 0
  · rw [if_pos c7] at H
    have c7b0 : ((wrap64 ((wrap64 ((wrap64 (t201 + t203)) + t205)) + t207)) == 0) = true := beq_iff_eq.mpr c7
    have c7b1 : ((wrap64 ((wrap64 ((wrap64 (t201 + t203)) + t205)) + t207)) != 0) = false := bne_eq_false_iff_eq.mpr c7
    clear c7
    by_cases c8 : t200 = 600000
    · rw [if_pos c8] at H
      have c8b0 : (t200 == 600000) = true := beq_iff_eq.mpr c8
      have c8b1 : (t200 != 600000) = false := bne_eq_false_iff_eq.mpr c8
      clear c8
      by_cases c9 : t202 = 200000
      · rw [if_pos c9] at H
        have c9b0 : (t202 == 200000) = true := beq_iff_eq.mpr c9
        have c9b1 : (t202 != 200000) = false := bne_eq_false_iff_eq.mpr c9
        clear c9
        by_cases c10 : t204 = 200000
        · rw [if_pos c10] at H
          have c10b0 : (t204 == 200000) = true := beq_iff_eq.mpr c10
          have c10b1 : (t204 != 200000) = false := bne_eq_false_iff_eq.mpr c10
          clear c10
          by_cases c11 : (t206.length : Int) = 3
          · rw [if_pos c11] at H
            have c11b0 : ((t206.length : Int) == 3) = true := beq_iff_eq.mpr c11
            have c11b1 : ((t206.length : Int) != 3) = false := bne_eq_false_iff_eq.mpr c11
            clear c11
            by_cases c12 : 2 < (t206.length : Int)
            · rw [if_pos c12] at H
              have c12b0 : decide (2 < (t206.length : Int)) = true := decide_eq_true c12
              have c12b1 : decide (2 < t206.length) = true := decide_eq_true (by omega)
              clear c12
              by_cases c13 : ((rd_T106 t206 2).f0) = 150
              · rw [if_pos c13] at H
                have c13b0 : (((rd_T106 t206 2).f0) == 150) = true := beq_iff_eq.mpr c13
                have c13b1 : (((rd_T106 t206 2).f0) != 150) = false := bne_eq_false_iff_eq.mpr c13
                clear c13
                by_cases c14 : (t210.length : Int) = 2
                · rw [if_pos c14] at H
                  have c14b0 : ((t210.length : Int) == 2) = true := beq_iff_eq.mpr c14
                  have c14b1 : ((t210.length : Int) != 2) = false := bne_eq_false_iff_eq.mpr c14
                  clear c14
                  by_cases c15 : 0 < (t210.length : Int)
                  · rw [if_pos c15] at H
                    have c15b0 : decide (0 < (t210.length : Int)) = true := decide_eq_true c15
                    have c15b1 : decide (0 < t210.length) = true := decide_eq_true (by omega)
                    clear c15
                    by_cases c16 : (rd t210 0) = 100
                    · rw [if_pos c16] at H
                      have c16b0 : ((rd t210 0) == 100) = true := beq_iff_eq.mpr c16
                      have c16b1 : ((rd t210 0) != 100) = false := bne_eq_false_iff_eq.mpr c16
                      clear c16
                      replace H := Option.bind_eq_some_iff.mp H
                      obtain ⟨t215, A170, H⟩ := H
                      replace H : (if t215 = 1 then ((band_Find.f k 301 t197).bind fun t216 => (if t216 = 2 then ((band_Top.f k t197).bind fun t217 => (if t217 = 4000 then ((band_Join.f k t197).bind fun t218 => ((band_Same.f k t197 t218).bind fun t221 => (if t221 = true then (some true) else (none)))) else (none))) else (none))) else (none)) = some r := H
                      have A17 := Aside0.mk A170
                      clear A170
                      by_cases c18 : t215 = 1
                      · rw [if_pos c18] at H
                        have c18b0 : (t215 == 1) = true := beq_iff_eq.mpr c18
                        have c18b1 : (t215 != 1) = false := bne_eq_false_iff_eq.mpr c18
                        clear c18
                        replace H := Option.bind_eq_some_iff.mp H
                        obtain ⟨t216, A190, H⟩ := H
                        replace H : (if t216 = 2 then ((band_Top.f k t197).bind fun t217 => (if t217 = 4000 then ((band_Join.f k t197).bind fun t218 => ((band_Same.f k t197 t218).bind fun t221 => (if t221 = true then (some true) else (none)))) else (none))) else (none)) = some r := H
                        have A19 := Aside0.mk A190
                        clear A190
                        by_cases c20 : t216 = 2
                        · rw [if_pos c20] at H
                          have c20b0 : (t216 == 2) = true := beq_iff_eq.mpr c20
                          have c20b1 : (t216 != 2) = false := bne_eq_false_iff_eq.mpr c20
                          clear c20
                          replace H := Option.bind_eq_some_iff.mp H
                          obtain ⟨t217, A210, H⟩ := H
                          replace H : (if t217 = 4000 then ((band_Join.f k t197).bind fun t218 => ((band_Same.f k t197 t218).bind fun t221 => (if t221 = true then (some true) else (none)))) else (none)) = some r := H
                          have A21 := Aside0.mk A210
                          clear A210
                          by_cases c22 : t217 = 4000
                          · rw [if_pos c22] at H
                            have c22b0 : (t217 == 4000) = true := beq_iff_eq.mpr c22
                            have c22b1 : (t217 != 4000) = false := bne_eq_false_iff_eq.mpr c22
                            clear c22
                            replace H := Option.bind_eq_some_iff.mp H
                            obtain ⟨t218, A230, H⟩ := H
                            replace H : ((band_Same.f k t197 t218).bind fun t221 => (if t221 = true then (some true) else (none))) = some r := H
                            have A23 := Aside0.mk A230
                            clear A230
                            replace H := Option.bind_eq_some_iff.mp H
                            obtain ⟨t221, A240, H⟩ := H
                            replace H : (if t221 = true then (some true) else (none)) = some r := H
                            have A24 := Aside0.mk A240
                            clear A240
                            by_cases c25 : t221 = true
                            · subst c25
                              have H1 : (some true) = some r := by rw [if_pos rfl] at H; exact H
                              clear H
                              have H := H1
                              clear H1
                              obtain rfl := Option.some.inj H
                              go_enter Try.func32, Try.ntmps32
                              go_wp2_with (first | ((with_reducible refine gate_callee (f := 98) rfl ?_); refine goesL_ (some 11) rfl rfl Try.func98 (by kernel_rfl) rfl #[] rfl (by (try simp only [List.map_toArray, List.map_cons, List.map_nil]); first | done | rfl | (simp only [List.length_drop, List.length_take]; rfl)) ?_; (with_reducible refine (stipendlaw05_three.calls  t197 _ A1.out).mono ?_); rintro e w26 ⟨v198, rfl, ho0, hb⟩; refine ⟨_, rfl, ?_⟩; have n0_ := Aside0.mk (Kd.R_lower ho0 (below_size (by repeat (first | (with_reducible first | exact HB.out | apply below_alloc | apply pw_below_drewN | apply below_drew1) | exact HB.out)))); have n1_ := Aside0.mk (below_step (by repeat (first | (with_reducible first | exact HB.out | apply below_alloc | apply pw_below_drewN | apply below_drew1) | exact HB.out)) hb); clear HB; have HO199 := n0_; have HB := n1_; clear n0_ n1_; (try clear hb); (try clear hb2); (try clear hk); (try clear hi); (try clear ho0); obtain ⟨Ao27, co27, eo27⟩ := Kd.R_slice HO199.out; subst eo27) | ((with_reducible refine gate_callee (f := 34) rfl ?_); refine goesL_ (some 14) rfl rfl Try.func34 (by kernel_rfl) rfl #[.int .i64 350, .slice Ao27 t197.length co27] rfl (by (try simp only [List.map_toArray, List.map_cons, List.map_nil]); first | done | rfl | (simp only [List.length_drop, List.length_take]; rfl)) ?_; (with_reducible refine (band_Exact.calls 350 _ _ t197 t200 t201 _ ?side1 ?side2 A2.out).mono ?_); (case side1 => repeat (first | exact (Kd.R_reads' HO199.out).2.2 | (with_reducible refine Kd.C_alloc ?_ _) | (with_reducible refine Kd.C_drewN ?_ _) | (with_reducible refine Kd.C_drew ?_))); (case side2 => exact (Kd.R_reads' HO199.out).2.1); rintro e w28 ⟨rfl, hb⟩; refine ⟨_, rfl, ?_⟩; have n0_ := Aside0.mk (Kd.R_below (by (with_reducible repeat (first | apply Kd.R_alloc | apply Kd.R_drewN | apply Kd.R_drew)); exact HO199.out) hb); have n1_ := Aside0.mk (below_step (by repeat (first | (with_reducible first | exact HB.out | apply below_alloc | apply pw_below_drewN | apply below_drew1) | exact HB.out)) hb); clear HO199; clear HB; have HO199 := n0_; have HB := n1_; clear n0_ n1_; (try clear hb); (try clear hb2); (try clear hk); (try clear hi)) | ((with_reducible refine gate_callee (f := 35) rfl ?_); refine goesL_ (some 19) rfl rfl Try.func35 (by kernel_rfl) rfl #[.int .i64 350, .slice Ao27 t197.length co27] rfl (by (try simp only [List.map_toArray, List.map_cons, List.map_nil]); first | done | rfl | (simp only [List.length_drop, List.length_take]; rfl)) ?_; (with_reducible refine (band_Employer.calls 350 _ _ t197 t202 t203 _ ?side1 ?side2 A3.out).mono ?_); (case side1 => repeat (first | exact (Kd.R_reads' HO199.out).2.2 | (with_reducible refine Kd.C_alloc ?_ _) | (with_reducible refine Kd.C_drewN ?_ _) | (with_reducible refine Kd.C_drew ?_))); (case side2 => exact (Kd.R_reads' HO199.out).2.1); rintro e w29 ⟨rfl, hb⟩; refine ⟨_, rfl, ?_⟩; have n0_ := Aside0.mk (Kd.R_below (by (with_reducible repeat (first | apply Kd.R_alloc | apply Kd.R_drewN | apply Kd.R_drew)); exact HO199.out) hb); have n1_ := Aside0.mk (below_step (by repeat (first | (with_reducible first | exact HB.out | apply below_alloc | apply pw_below_drewN | apply below_drew1) | exact HB.out)) hb); clear HO199; clear HB; have HO199 := n0_; have HB := n1_; clear n0_ n1_; (try clear hb); (try clear hb2); (try clear hk); (try clear hi)) | ((with_reducible refine gate_callee (f := 57) rfl ?_); refine goesL_ (some 24) rfl rfl Try.func57 (by kernel_rfl) rfl #[.int .i64 100, .int .i64 200, .slice Ao27 t197.length co27] rfl (by (try simp only [List.map_toArray, List.map_cons, List.map_nil]); first | done | rfl | (simp only [List.length_drop, List.length_take]; rfl)) ?_; (with_reducible refine (band_Between.calls 100 200 _ _ t197 t204 t205 _ ?side1 ?side2 A4.out).mono ?_); (case side1 => repeat (first | exact (Kd.R_reads' HO199.out).2.2 | (with_reducible refine Kd.C_alloc ?_ _) | (with_reducible refine Kd.C_drewN ?_ _) | (with_reducible refine Kd.C_drew ?_))); (case side2 => exact (Kd.R_reads' HO199.out).2.1); rintro e w30 ⟨rfl, hb⟩; refine ⟨_, rfl, ?_⟩; have n0_ := Aside0.mk (Kd.R_below (by (with_reducible repeat (first | apply Kd.R_alloc | apply Kd.R_drewN | apply Kd.R_drew)); exact HO199.out) hb); have n1_ := Aside0.mk (below_step (by repeat (first | (with_reducible first | exact HB.out | apply below_alloc | apply pw_below_drewN | apply below_drew1) | exact HB.out)) hb); clear HO199; clear HB; have HO199 := n0_; have HB := n1_; clear n0_ n1_; (try clear hb); (try clear hb2); (try clear hk); (try clear hi)) | ((with_reducible refine gate_callee (f := 37) rfl ?_); refine goesL_ (some 29) rfl rfl Try.func37 (by kernel_rfl) rfl #[.int .i64 1, .int .i64 2, .slice Ao27 t197.length co27] rfl (by (try simp only [List.map_toArray, List.map_cons, List.map_nil]); first | done | rfl | (simp only [List.length_drop, List.length_take]; rfl)) ?_; (with_reducible refine (band_Scale.calls k 1 2 _ _ t197 t206 t207 _ ?side1 ?side2 A5.out).mono ?_); (case side1 => repeat (first | exact (Kd.R_reads' HO199.out).2.2 | (with_reducible refine Kd.C_alloc ?_ _) | (with_reducible refine Kd.C_drewN ?_ _) | (with_reducible refine Kd.C_drew ?_))); (case side2 => exact (Kd.R_reads' HO199.out).2.1); rintro e w31 ⟨v208, rfl, ho0, hb⟩; refine ⟨_, rfl, ?_⟩; have n0_ := Aside0.mk (Kd.R_elder' (by (with_reducible repeat (first | apply Kd.R_alloc | apply Kd.R_drewN | apply Kd.R_drew)); exact HO199.out) (Kd.R_base ho0) hb); have n1_ := Aside0.mk (Kd.R_lower (Kd.R_new' ho0 (Kd.R_lt (by (with_reducible repeat (first | apply Kd.R_alloc | apply Kd.R_drewN | apply Kd.R_drew)); exact HO199.out))) (below_size (by repeat (first | (with_reducible first | exact HB.out | apply below_alloc | apply pw_below_drewN | apply below_drew1) | exact HB.out)))); have n2_ := Aside0.mk (below_step (by repeat (first | (with_reducible first | exact HB.out | apply below_alloc | apply pw_below_drewN | apply below_drew1) | exact HB.out)) hb); clear HO199; clear HB; have HO199 := n0_; have HO209 := n1_; have HB := n2_; clear n0_ n1_ n2_; (try clear hb); (try clear hb2); (try clear hk); (try clear hi); (try clear ho0)) | ((with_reducible refine gate_callee (f := 64) rfl ?_); refine goesL_ (some 33) rfl rfl Try.func64 (by kernel_rfl) rfl #[.slice Ao27 t197.length co27] rfl (by (try simp only [List.map_toArray, List.map_cons, List.map_nil]); first | done | rfl | (simp only [List.length_drop, List.length_take]; rfl)) ?_; (with_reducible refine (band_Corners.calls k _ _ t197 t210 _ ?side1 ?side2 A6.out).mono ?_); (case side1 => repeat (first | exact (Kd.R_reads' HO199.out).2.2 | (with_reducible refine Kd.C_alloc ?_ _) | (with_reducible refine Kd.C_drewN ?_ _) | (with_reducible refine Kd.C_drew ?_))); (case side2 => exact (Kd.R_reads' HO199.out).2.1); rintro e w32 ⟨v211, rfl, ho0, hb⟩; refine ⟨_, rfl, ?_⟩; have n0_ := Aside0.mk (Kd.R_below (by (with_reducible repeat (first | apply Kd.R_alloc | apply Kd.R_drewN | apply Kd.R_drew)); exact HO199.out) hb); have n1_ := Aside0.mk (Kd.R_below (by (with_reducible repeat (first | apply Kd.R_alloc | apply Kd.R_drewN | apply Kd.R_drew)); exact HO209.out) hb); have n2_ := Aside0.mk (Kd.R_lower ho0 (below_size (by repeat (first | (with_reducible first | exact HB.out | apply below_alloc | apply pw_below_drewN | apply below_drew1) | exact HB.out)))); have n3_ := Aside0.mk (below_step (by repeat (first | (with_reducible first | exact HB.out | apply below_alloc | apply pw_below_drewN | apply below_drew1) | exact HB.out)) hb); clear HO199; clear HO209; clear HB; have HO199 := n0_; have HO209 := n1_; have HO212 := n2_; have HB := n3_; clear n0_ n1_ n2_ n3_; (try clear hb); (try clear hb2); (try clear hk); (try clear hi); (try clear ho0); obtain ⟨Ao33, co33, eo33⟩ := Kd.R_slice HO209.out; subst eo33; have p213 : 0 ≤ (2 : Int) := (by omega); have q213 : 2 < (t206.length : Int) := of_decide_eq_true (by first | (with_reducible assumption) | assumption); obtain ⟨ad213, e213, hx213_0, hx213_1, hx213_2⟩ := at_T106 (Kd.R_reads' HO209.out).2.2 2 p213 q213; cases e213; (try simp only [show (2 : Int).toNat = 2 from rfl, Nat.reduceMul, Nat.reduceEqDiff, Go.Addr.add, ↓reduceIte] at hx213_0); (try simp only [show (2 : Int).toNat = 2 from rfl, Nat.reduceMul, Nat.reduceEqDiff, Go.Addr.add, ↓reduceIte] at hx213_1); (try simp only [show (2 : Int).toNat = 2 from rfl, Nat.reduceMul, Nat.reduceEqDiff, Go.Addr.add, ↓reduceIte] at hx213_2); have qi213 : (2 < t206.length) = True := eq_true (by omega); (try rw [show ((2 : Int)).toNat = 2 from rfl] at hx213_0); (try rw [show 2 * 3 = 6 from rfl] at hx213_0); (try rw [show ((2 : Int)).toNat = 2 from rfl] at hx213_1); (try rw [show 2 * 3 = 6 from rfl] at hx213_1); (try rw [show ((2 : Int)).toNat = 2 from rfl] at hx213_2); (try rw [show 2 * 3 = 6 from rfl] at hx213_2); replace p213 := eq_true p213; replace q213 := eq_true q213; obtain ⟨Ao34, co34, eo34⟩ := Kd.R_slice HO212.out; subst eo34; have p214 : 0 ≤ (0 : Int) := (by omega); have q214 : 0 < (t210.length : Int) := of_decide_eq_true (by first | (with_reducible assumption) | assumption); obtain ⟨ad214, e214, hx214_0⟩ := Kd.at_int (Kd.R_reads' HO212.out).2.2 0 p214 q214; cases e214; have qi214 : (0 < t210.length) = True := eq_true (by omega); (try rw [show ((0 : Int)).toNat = 0 from rfl] at hx214_0); (try rw [Addr.add_zero'] at hx214_0); replace p214 := eq_true p214; replace q214 := eq_true q214) | (go_at_call 58; (with_reducible refine (band_Find.calls k 300 _ _ t197 t215 _ ?side1 ?side2 A17.out).mono ?_); (case side1 => repeat (first | exact (Kd.R_reads' HO199.out).2.2 | (with_reducible refine Kd.C_alloc ?_ _) | (with_reducible refine Kd.C_drewN ?_ _) | (with_reducible refine Kd.C_drew ?_))); (case side2 => exact (Kd.R_reads' HO199.out).2.1); rintro e w' ⟨rfl, ⟨nd, rfl⟩⟩) | (go_at_call 58; (with_reducible refine (band_Find.calls k 301 _ _ t197 t216 _ ?side1 ?side2 A19.out).mono ?_); (case side1 => repeat (first | exact (Kd.R_reads' HO199.out).2.2 | (with_reducible refine Kd.C_alloc ?_ _) | (with_reducible refine Kd.C_drewN ?_ _) | (with_reducible refine Kd.C_drew ?_))); (case side2 => exact (Kd.R_reads' HO199.out).2.1); rintro e w' ⟨rfl, ⟨nd, rfl⟩⟩) | (go_at_call 60; (with_reducible refine (band_Top.calls k _ _ t197 t217 _ ?side1 ?side2 A21.out).mono ?_); (case side1 => repeat (first | exact (Kd.R_reads' HO199.out).2.2 | (with_reducible refine Kd.C_alloc ?_ _) | (with_reducible refine Kd.C_drewN ?_ _) | (with_reducible refine Kd.C_drew ?_))); (case side2 => exact (Kd.R_reads' HO199.out).2.1); rintro e w35 ⟨rfl, hb⟩; have n0_ := Aside0.mk (Kd.R_below (by (with_reducible repeat (first | apply Kd.R_alloc | apply Kd.R_drewN | apply Kd.R_drew)); exact HO199.out) hb); have n1_ := Aside0.mk (Kd.R_below (by (with_reducible repeat (first | apply Kd.R_alloc | apply Kd.R_drewN | apply Kd.R_drew)); exact HO209.out) hb); have n2_ := Aside0.mk (Kd.R_below (by (with_reducible repeat (first | apply Kd.R_alloc | apply Kd.R_drewN | apply Kd.R_drew)); exact HO212.out) hb); have n3_ := Aside0.mk (below_step (by repeat (first | (with_reducible first | exact HB.out | apply below_alloc | apply pw_below_drewN | apply below_drew1) | exact HB.out)) hb); clear HO199; clear HO209; clear HO212; clear HB; have HO199 := n0_; have HO209 := n1_; have HO212 := n2_; have HB := n3_; clear n0_ n1_ n2_ n3_; (try clear hb); (try clear hb2); (try clear hk); (try clear hi)) | (go_at_call 62; (with_reducible refine (band_Join.calls k _ _ t197 t218 _ ?side1 ?side2 A23.out).mono ?_); (case side1 => repeat (first | exact (Kd.R_reads' HO199.out).2.2 | (with_reducible refine Kd.C_alloc ?_ _) | (with_reducible refine Kd.C_drewN ?_ _) | (with_reducible refine Kd.C_drew ?_))); (case side2 => exact (Kd.R_reads' HO199.out).2.1); rintro e w36 ⟨v219, rfl, ho0, hb⟩; have n0_ := Aside0.mk (Kd.R_elder' (by (with_reducible repeat (first | apply Kd.R_alloc | apply Kd.R_drewN | apply Kd.R_drew)); exact HO199.out) (Kd.R_base ho0) hb); have n1_ := Aside0.mk (Kd.R_elder' (by (with_reducible repeat (first | apply Kd.R_alloc | apply Kd.R_drewN | apply Kd.R_drew)); exact HO209.out) (Kd.R_base ho0) hb); have n2_ := Aside0.mk (Kd.R_below (by (with_reducible repeat (first | apply Kd.R_alloc | apply Kd.R_drewN | apply Kd.R_drew)); exact HO212.out) hb); have n3_ := Aside0.mk (Kd.R_lower (Kd.R_new' (Kd.R_new' ho0 (Kd.R_lt (by (with_reducible repeat (first | apply Kd.R_alloc | apply Kd.R_drewN | apply Kd.R_drew)); exact HO199.out))) (Kd.R_lt (by (with_reducible repeat (first | apply Kd.R_alloc | apply Kd.R_drewN | apply Kd.R_drew)); exact HO209.out))) (below_size (by repeat (first | (with_reducible first | exact HB.out | apply below_alloc | apply pw_below_drewN | apply below_drew1) | exact HB.out)))); have n4_ := Aside0.mk (below_step (by repeat (first | (with_reducible first | exact HB.out | apply below_alloc | apply pw_below_drewN | apply below_drew1) | exact HB.out)) hb); clear HO199; clear HO209; clear HO212; clear HB; have HO199 := n0_; have HO209 := n1_; have HO212 := n2_; have HO220 := n3_; have HB := n4_; clear n0_ n1_ n2_ n3_ n4_; (try clear hb); (try clear hb2); (try clear hk); (try clear hi); (try clear ho0); obtain ⟨Ao37, co37, eo37⟩ := Kd.R_slice HO220.out; subst eo37) | (go_at_call 63; (with_reducible refine (band_Same.calls k _ _ t197 _ _ t218 true _ ?side1 ?side2 ?side3 ?side4 A24.out).mono ?_); (case side1 => repeat (first | exact (Kd.R_reads' HO199.out).2.2 | (with_reducible refine Kd.C_alloc ?_ _) | (with_reducible refine Kd.C_drewN ?_ _) | (with_reducible refine Kd.C_drew ?_))); (case side2 => exact (Kd.R_reads' HO199.out).2.1); (case side3 => repeat (first | exact (Kd.R_reads' HO220.out).2.2 | (with_reducible refine Kd.C_alloc ?_ _) | (with_reducible refine Kd.C_drewN ?_ _) | (with_reducible refine Kd.C_drew ?_))); (case side4 => exact (Kd.R_reads' HO220.out).2.1); rintro e w38 ⟨rfl, hb⟩; have n0_ := Aside0.mk (Kd.R_below (by (with_reducible repeat (first | apply Kd.R_alloc | apply Kd.R_drewN | apply Kd.R_drew)); exact HO199.out) hb); have n1_ := Aside0.mk (Kd.R_below (by (with_reducible repeat (first | apply Kd.R_alloc | apply Kd.R_drewN | apply Kd.R_drew)); exact HO209.out) hb); have n2_ := Aside0.mk (Kd.R_below (by (with_reducible repeat (first | apply Kd.R_alloc | apply Kd.R_drewN | apply Kd.R_drew)); exact HO212.out) hb); have n3_ := Aside0.mk (Kd.R_below (by (with_reducible repeat (first | apply Kd.R_alloc | apply Kd.R_drewN | apply Kd.R_drew)); exact HO220.out) hb); have n4_ := Aside0.mk (below_step (by repeat (first | (with_reducible first | exact HB.out | apply below_alloc | apply pw_below_drewN | apply below_drew1) | exact HB.out)) hb); clear HO199; clear HO209; clear HO212; clear HO220; clear HB; have HO199 := n0_; have HO209 := n1_; have HO212 := n2_; have HO220 := n3_; have HB := n4_; clear n0_ n1_ n2_ n3_ n4_; (try clear hb); (try clear hb2); (try clear hk); (try clear hi)))
                              go_ret
                              exact ⟨by first | rfl | (simp [errW_none, errW_some] <;> rfl) | (simp [*, errW_none, errW_some] <;> rfl), by repeat (first | (with_reducible first | exact HB.out | apply below_alloc | apply pw_below_drewN | apply below_drew1) | exact HB.out)⟩
                            · replace c25 := Bool.eq_false_iff.mpr c25
                              subst c25
                              have H1 : (none) = some r := by rw [if_neg (show ¬ (false = true) by decide)] at H; exact H
                              clear H
                              have H := H1
                              clear H1
                              exact absurd H (by simp)
                          · rw [if_neg c22] at H
                            exact absurd H (by simp)
                        · rw [if_neg c20] at H
                          exact absurd H (by simp)
                      · rw [if_neg c18] at H
                        exact absurd H (by simp)
                    · rw [if_neg c16] at H
                      exact absurd H (by simp)
                  · rw [if_neg c15] at H
                    exact absurd H (by simp)
                · rw [if_neg c14] at H
                  exact absurd H (by simp)
              · rw [if_neg c13] at H
                exact absurd H (by simp)
            · rw [if_neg c12] at H
              exact absurd H (by simp)
          · rw [if_neg c11] at H
            exact absurd H (by simp)
        · rw [if_neg c10] at H
          exact absurd H (by simp)
      · rw [if_neg c9] at H
        exact absurd H (by simp)
    · rw [if_neg c8] at H
      exact absurd H (by simp)
  · rw [if_neg c7] at H
    exact absurd H (by simp)

end Go.Proofs.Ytcapgmoipacioaa.P
