/- stipendlaw06.both: the head of layer 6's statements is true. -/
import Derived.Test.YtcapgmoipacioaaQ2
import Derived.Test.YtcapgmoipacioaaQ3
import Derived.Test.YtcapgmoipacioaaPe
import Derived.Test.YtcapgmoipacioaaPppair
namespace Go.Proofs.Ytcapgmoipacioaa.P
open Go.RowKit Go.Proofs.YtcapgmoipacioaaW.PrintWords Go.Proofs.YtcapgmoipacioaaW.PrintLast Go.Proofs.YtcapgmoipacioaaW.PrintMore
open Go.Proofs.YtcapgmoipacioaaW.FlW
attribute [local go_sem] max2_int min2_int max_two min_two max_three min_three max_four min_four
set_option linter.unusedVariables false
set_option linter.unusedSimpArgs false
def bothL : List S106 := [(⟨0, 0, 0⟩ : S106), (⟨100, 2000, 1000⟩ : S106)]
theorem bothL_good : Good bothL := good_iff.1 (by decide +kernel)
theorem both_a : exFrom S106.f1 350 bothL bothL.length 0 0 = 500000 := by decide +kernel
theorem both_b : exFrom S106.f2 350 bothL bothL.length 0 0 = 250000 := by decide +kernel
theorem both_r : frac_Round.f 9 500000 10000 1 = some (50, 0) := by decide +kernel
theorem both_s : frac_Round.f 9 250000 10000 1 = some (25, 0) := by decide +kernel
theorem both_t : pair_Total.f 30 [(⟨50, 25⟩ : S36), (⟨50, 25⟩ : S36)] = some (100, 50, 0) := by decide +kernel
theorem both_o : (FloatKind.f64.format.order (floatOfInt FloatKind.f64 25) 4627730092099895296 == some Ordering.eq && FloatKind.f64.format.order (floatOfInt FloatKind.f64 50) 4632233691727265792 == some Ordering.eq) = true := by decide +kernel
def stipendlaw06_both.f : Option (Bool) := some true
section
attribute [local go_sem high] eqA36
set_option maxHeartbeats 8000000 in
set_option maxRecDepth 100000 in
theorem stipendlaw06_both.calls  (r : Bool) (w : World) (h : stipendlaw06_both.f  = some r) :
    Calls Try.prog 24 #[] w fun e w' => e = .returned (.bool r) ∧ Below w.heap.size w w' := by
  have hu106 := Try.underlying106
  have hu36 := Try.underlying36
  obtain rfl := Option.some.inj h
  clear h
  have HB := Aside0.mk (Below.refl w.heap.size w)
  go_enter Try.func24, Try.ntmps24
  go_wp2_with ((with_reducible refine gate_dst (N := 17) rfl ?_); refine Kd.R_lit k106 _ 106 ?hg (N := 17) ?hd (xs := ([(⟨0, 0, 0⟩ : S106), (⟨100, 2000, 1000⟩ : S106)] : List (S106))) (inner := [.int .i64 0, .int .i64 0, .int .i64 0, .int .i64 100, .int .i64 2000, .int .i64 1000]) (ok := fun _ => True) (okp := fun _ => True) ?hr ?hp (fun _ hk => hk) trivial (Below.refl _ _) (Nat.le_refl _) (by simp) ?_; (case hd => rfl); (case hg => rfl); (case hr => first | (go_simp; done) | (go_simp; rfl)); (case hp => exact (Reps.c3 (show Kd.M k106 _ _ _ (⟨0, 0, 0⟩ : S106) [.int .i64 0, .int .i64 0, .int .i64 0] from (k106_mkM _ _ _ (⟨0, 0, 0⟩ : S106) )) (Reps.c3 (show Kd.M k106 _ _ _ (⟨100, 2000, 1000⟩ : S106) [.int .i64 100, .int .i64 2000, .int .i64 1000] from (k106_mkM _ _ _ (⟨100, 2000, 1000⟩ : S106) )) (Reps.none _ _)))); intro v195 w1 ho2 hb hg_ hnew_; clear hg_ hnew_; have n0_ := Aside0.mk (Kd.R_lower ho2 (below_size (by repeat (first | (with_reducible first | exact HB.out | apply below_alloc | apply pw_below_drewN | apply below_drew1) | exact HB.out)))); have n1_ := Aside0.mk (below_step (by repeat (first | (with_reducible first | exact HB.out | apply below_alloc | apply pw_below_drewN | apply below_drew1) | exact HB.out)) hb); clear HB; have HO196 := n0_; have HB := n1_; clear n0_ n1_; clear hb ho2)
  obtain ⟨Ao, co, eo⟩ := Kd.R_slice HO196.out
  subst eo
  change Calls Try.prog 65 #[.int .i64 350, .slice Ao bothL.length co] _ _
  (with_reducible refine (pair_Banded.good 350 _ _ bothL _ ?side1 ?side2 bothL_good ?side3).mono ?_)
  case side1 => exact (Kd.R_reads' HO196.out).2.2
  case side2 => exact (Kd.R_reads' HO196.out).2.1
  case side3 => decide
  rw [both_a, both_b]
  rintro e w2 ⟨⟨s, u, rfl, hs, hu⟩, hb⟩
  have HB1 := Aside0.mk (below_step HB.out hb)
  clear HB hb HO196
  have HB := HB1
  clear HB1
  have HF := Aside0.mk (And.intro hs hu)
  clear hs hu
  have n5 : (500000 : Int).natAbs ≤ 2 ^ 53 := by decide
  have n2 : (250000 : Int).natAbs ≤ 2 ^ 53 := by decide
  have HN := Aside0.mk (And.intro n5 n2)
  clear n5 n2
  go_wp2_with fail
  (with_reducible refine (pair_Sides.yes s u 500000 250000 HF.out.1 HF.out.2 HN.out.1 HN.out.2 _).mono ?_)
  rintro e w1 ⟨rfl, ⟨n1, rfl⟩⟩
  go_wp2_with fail
  (with_reducible refine (pair_Coins.ok 9 s u 500000 250000 1 50 25 HF.out.1 HF.out.2 HN.out.1 HN.out.2 both_r both_s _).mono ?_)
  rintro e w3 ⟨rfl, hb⟩
  have HB1 := Aside0.mk (below_step (by repeat (first | (with_reducible first | exact HB.out | apply below_alloc | apply pw_below_drewN | apply below_drew1) | exact HB.out)) hb)
  clear HB hb
  have HB := HB1
  clear HB1
  go_wp2_with fail
  (with_reducible refine (pair_Share.yes 50 25 (by decide) _).mono ?_)
  rintro e w4 ⟨rfl, hb⟩
  have h60 : w4.cell? ⟨w3.heap.size, 0, none⟩ = some (.int .i64 50) := (hb.cell (p := ⟨w3.heap.size, 0, none⟩) (by simp)).trans (by simp)
  have h61 : w4.cell? ⟨w3.heap.size, 1, none⟩ = some (.int .i64 25) := (hb.cell (p := ⟨w3.heap.size, 1, none⟩) (by simp)).trans (by simp)
  have HS6 : Aside0 (w3.heap.size < w4.heap.size) := ⟨by have := hb.size; simp at this; omega⟩
  have HB1 := Aside0.mk (below_step (by repeat (first | (with_reducible first | exact HB.out | apply below_alloc | apply pw_below_drewN | apply below_drew1) | exact HB.out)) hb)
  clear HB hb
  have HB := HB1
  clear HB1
  go_wp2_with ((with_reducible refine gate_dst (N := 40) rfl ?_); refine Kd.R_lit k36 _ 36 ?hg (N := 40) ?hd (xs := ([(⟨50, 25⟩ : S36), (⟨50, 25⟩ : S36)] : List (S36))) (inner := [.int .i64 50, .int .i64 25, .int .i64 50, .int .i64 25]) (ok := fun _ => True) (okp := fun _ => True) ?hr ?hp (fun _ hk => hk) trivial (Below.refl _ _) (Nat.le_refl _) (by simp) ?_; (case hd => rfl); (case hg => rfl); (case hr => first | (go_simp; done) | (go_simp; rfl)); (case hp => exact (Reps.c2 (show Kd.M k36 _ _ _ (⟨50, 25⟩ : S36) [.int .i64 50, .int .i64 25] from (k36_mkM _ _ _ (⟨50, 25⟩ : S36) )) (Reps.c2 (show Kd.M k36 _ _ _ (⟨50, 25⟩ : S36) [.int .i64 50, .int .i64 25] from (k36_mkM _ _ _ (⟨50, 25⟩ : S36) )) (Reps.none _ _)))); intro v295 w5 ho2 hb hg_ hnew_; clear hg_ hnew_; have hc60 := (hb.cell (p := ⟨w3.heap.size, 0, none⟩) HS6.out).trans h60; have hc61 := (hb.cell (p := ⟨w3.heap.size, 1, none⟩) HS6.out).trans h61; have HS6b := Aside0.mk (Nat.lt_of_lt_of_le HS6.out hb.size); have n0_ := Aside0.mk (Kd.R_lower ho2 (below_size (by repeat (first | (with_reducible first | exact HB.out | apply below_alloc | apply pw_below_drewN | apply below_drew1) | exact HB.out)))); have n1_ := Aside0.mk (below_step (by repeat (first | (with_reducible first | exact HB.out | apply below_alloc | apply pw_below_drewN | apply below_drew1) | exact HB.out)) hb); clear HB h60 h61 HS6; have h60 := hc60; have h61 := hc61; clear hc60 hc61; have HS6 := HS6b; clear HS6b; have HO296 := n0_; have HB := n1_; clear n0_ n1_; clear hb ho2)
  obtain ⟨Ap, cp, ep⟩ := Kd.R_slice HO296.out
  subst ep
  change Calls Try.prog 30 #[.slice Ap ([(⟨50, 25⟩ : S36), (⟨50, 25⟩ : S36)] : List S36).length cp] _ _
  (with_reducible refine (pair_Total.calls 30 _ _ [(⟨50, 25⟩ : S36), (⟨50, 25⟩ : S36)] 100 50 0 _ ?side1 ?side2 both_t).mono ?_)
  case side1 => exact (Kd.R_reads' HO296.out).2.2
  case side2 => exact (Kd.R_reads' HO296.out).2.1
  rintro e w6 ⟨rfl, hb⟩
  have hc60 := (hb.cell (p := ⟨w3.heap.size, 0, none⟩) HS6.out).trans h60
  have hc61 := (hb.cell (p := ⟨w3.heap.size, 1, none⟩) HS6.out).trans h61
  have HS6b := Aside0.mk (Nat.lt_of_lt_of_le HS6.out hb.size)
  have HB1 := Aside0.mk (below_step HB.out hb)
  clear HB hb h60 h61 HS6 HO296
  have HB := HB1
  have HS6 := HS6b
  clear HB1 HS6b
  have h60 : ∀ (o : Obj), (w6.alloc o).cell? ⟨w3.heap.size, 0, none⟩ = some (.int .i64 50) := fun o => pw_cell_below (below_alloc (Below.refl _ _) o) hc60
  have h61 : ∀ (o : Obj), (w6.alloc o).cell? ⟨w3.heap.size, 1, none⟩ = some (.int .i64 25) := fun o => pw_cell_below (below_alloc (Below.refl _ _) o) hc61
  clear hc60 hc61
  go_wp2_with fail
  (with_reducible refine (pair_Of.yes 50 25 (by decide) _).mono ?_)
  rintro e w7 ⟨rfl, ⟨n2, rfl⟩⟩
  go_wp2_with fail
  (with_reducible refine (pair_Swap.walk _ _ _).mono ?_)
  rintro e w8 ⟨rfl, ⟨n3, rfl⟩⟩
  go_wp2
  rw [both_o]
  go_ret
  exact ⟨rfl, (by repeat (first | (with_reducible first | exact HB.out | apply below_alloc | apply pw_below_drewN | apply below_drew1) | exact HB.out))⟩
end
end Go.Proofs.Ytcapgmoipacioaa.P
