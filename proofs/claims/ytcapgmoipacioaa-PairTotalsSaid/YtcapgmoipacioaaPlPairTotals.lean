import Derived.Test.YtcapgmoipacioaaPt
import Derived.Test.YtcapgmoipacioaaHpair
import Derived.Test.YtcapgmoipacioaaPe
import Derived.Test.YtcapgmoipacioaaPppair
namespace Go.Proofs.Ytcapgmoipacioaa.P
open Go.RowKit Go.Proofs.YtcapgmoipacioaaW.PrintWords Go.Proofs.YtcapgmoipacioaaW.PrintLast Go.Proofs.YtcapgmoipacioaaW.PrintMore
attribute [local go_sem] max2_int min2_int max_two min_two max_three min_three max_four min_four
set_option linter.unusedVariables false
set_option linter.unusedSimpArgs false

section
attribute [local go_sem high] eqA36
/-! ### stipendlaw06_PairTotals: function 4 -/
mutual
def stipendlaw06_PairTotals.l0 : Nat → Int → Int → Int → List (S36) → Int → Int → Int → Int → Option (Bool)
  | 0, _, _, _, _, _, _, _, _ => none
  | k + 1, x4, x5, x6, x22, x23, x24, x130000, x130001 => if x24 < x23 then (if 0 ≤ x24 then (if x24 < (x22.length : Int) then (stipendlaw06_PairTotals.l1 k x4 x5 x6 x22 x23 x24 0 ((rd_T36 x22 x24).f0) ((rd_T36 x22 x24).f1) x130000 x130001 ((rd_T36 x22 x24).f0) ((rd_T36 x22 x24).f1)) else (none)) else (none)) else (if x4 = 0 then (some (x130000 == x5 && (x130001 == x6))) else (none))
def stipendlaw06_PairTotals.l1 : Nat → Int → Int → Int → List (S36) → Int → Int → Int → Int → Int → Int → Int → Int → Int → Option (Bool)
  | 0, _, _, _, _, _, _, _, _, _, _, _, _, _ => none
  | k + 1, x4, x5, x6, x22, x23, x24, x33, x900, x901, x130000, x130001, x132000, x132001 => if x33 < 2 then (if 0 ≤ x33 then (if (sel2 x33 x900 x901) > 100000000000 then (if x4 = 10 then (some (x130000 == 0 && (x130001 == 0))) else (none)) else (if (sel2 x33 x900 x901) < (-100000000000) then (if x4 = 10 then (some (x130000 == 0 && (x130001 == 0))) else (none)) else (stipendlaw06_PairTotals.l1 k x4 x5 x6 x22 x23 x24 (wrap64 (x33 + 1)) x900 x901 x130000 x130001 x132000 x132001))) else (none)) else (if (wrap64 (x5 + x132000)) > 100000000000 then (if x4 = 10 then (some (x130000 == 0 && (x130001 == 0))) else (none)) else (if (wrap64 (x5 + x132000)) < (-100000000000) then (if x4 = 10 then (some (x130000 == 0 && (x130001 == 0))) else (none)) else (if (wrap64 (x6 + x132001)) > 100000000000 then (if x4 = 10 then (some (x130000 == 0 && (x130001 == 0))) else (none)) else (if (wrap64 (x6 + x132001)) < (-100000000000) then (if x4 = 10 then (some (x130000 == 0 && (x130001 == 0))) else (none)) else (stipendlaw06_PairTotals.l0 k x4 (wrap64 (x5 + x132000)) (wrap64 (x6 + x132001)) x22 x23 (wrap64 (x24 + 1)) x130000 x130001)))))
end
def stipendlaw06_PairTotals.f (k : Nat) (l0 : List (S36)) : Option (Bool) := (stipendlaw06_both.f).bind fun t125 => (if t125 = true then (if (l0.length : Int) > 50 then (some true) else ((pair_Total.f k l0).bind fun bt126 => (stipendlaw06_PairTotals.l0 k bt126.2.2 0 0 l0 (l0.length : Int) 0 bt126.1 bt126.2.1))) else (none))
theorem stipendlaw06_PairTotals.mono_l : ∀ k, (∀ y0 y1 y2 y3 y4 y5 y6 y7, LeO (stipendlaw06_PairTotals.l0 k y0 y1 y2 y3 y4 y5 y6 y7) (stipendlaw06_PairTotals.l0 (k + 1) y0 y1 y2 y3 y4 y5 y6 y7)) ∧ (∀ y0 y1 y2 y3 y4 y5 y6 y7 y8 y9 y10 y11 y12, LeO (stipendlaw06_PairTotals.l1 k y0 y1 y2 y3 y4 y5 y6 y7 y8 y9 y10 y11 y12) (stipendlaw06_PairTotals.l1 (k + 1) y0 y1 y2 y3 y4 y5 y6 y7 y8 y9 y10 y11 y12))
  | 0 => ⟨fun _ _ _ _ _ _ _ _ r h => by simp [stipendlaw06_PairTotals.l0] at h, fun _ _ _ _ _ _ _ _ _ _ _ _ _ r h => by simp [stipendlaw06_PairTotals.l1] at h⟩
  | k + 1 => by
    obtain ⟨ih0, ih1⟩ := stipendlaw06_PairTotals.mono_l k
    refine ⟨?_, ?_⟩
    · intro y0 y1 y2 y3 y4 y5 y6 y7
      unfold stipendlaw06_PairTotals.l0
      repeat' first
      | (with_reducible exact ih0 _ _ _ _ _ _ _ _)
      | (with_reducible exact ih1 _ _ _ _ _ _ _ _ _ _ _ _ _)
      | (with_reducible exact pair_Total.mono _ _)
      | (with_reducible exact LeO.refl _)
      | (with_reducible exact LeO.none _)
      | (with_reducible refine LeO.ite ?_ ?_)
      | (with_reducible refine LeO.bind ?_ (fun _ => ?_))
      | exact ih0 _ _ _ _ _ _ _ _
      | exact ih1 _ _ _ _ _ _ _ _ _ _ _ _ _
      | exact pair_Total.mono _ _
      | exact LeO.none _
      | refine LeO.ite ?_ ?_
      | refine LeO.bind ?_ (fun _ => ?_)
    · intro y0 y1 y2 y3 y4 y5 y6 y7 y8 y9 y10 y11 y12
      unfold stipendlaw06_PairTotals.l1
      repeat' first
      | (with_reducible exact ih0 _ _ _ _ _ _ _ _)
      | (with_reducible exact ih1 _ _ _ _ _ _ _ _ _ _ _ _ _)
      | (with_reducible exact pair_Total.mono _ _)
      | (with_reducible exact LeO.refl _)
      | (with_reducible exact LeO.none _)
      | (with_reducible refine LeO.ite ?_ ?_)
      | (with_reducible refine LeO.bind ?_ (fun _ => ?_))
      | exact ih0 _ _ _ _ _ _ _ _
      | exact ih1 _ _ _ _ _ _ _ _ _ _ _ _ _
      | exact pair_Total.mono _ _
      | exact LeO.none _
      | refine LeO.ite ?_ ?_
      | refine LeO.bind ?_ (fun _ => ?_)
theorem stipendlaw06_PairTotals.mono : ∀ a0 k, LeO (stipendlaw06_PairTotals.f k a0) (stipendlaw06_PairTotals.f (k + 1) a0) := by
  intro a0 k
  obtain ⟨ih0, ih1⟩ := stipendlaw06_PairTotals.mono_l k
  unfold stipendlaw06_PairTotals.f
  repeat' first
      | (with_reducible exact ih0 _ _ _ _ _ _ _ _)
      | (with_reducible exact ih1 _ _ _ _ _ _ _ _ _ _ _ _ _)
      | (with_reducible exact pair_Total.mono _ _)
      | (with_reducible exact LeO.refl _)
      | (with_reducible exact LeO.none _)
      | (with_reducible refine LeO.ite ?_ ?_)
      | (with_reducible refine LeO.bind ?_ (fun _ => ?_))
      | exact ih0 _ _ _ _ _ _ _ _
      | exact ih1 _ _ _ _ _ _ _ _ _ _ _ _ _
      | exact pair_Total.mono _ _
      | exact LeO.none _
      | refine LeO.ite ?_ ?_
      | refine LeO.bind ?_ (fun _ => ?_)
set_option maxHeartbeats 8000000 in
set_option maxRecDepth 100000 in
theorem stipendlaw06_PairTotals.calls (k : Nat) (A0 : Option Addr) (c0 : Nat) (l0 : List (S36)) (r : Bool) (w : World) (hr0 : Kd.C k36 w A0 l0.length l0) (hc0 : l0.length ≤ c0) (h : stipendlaw06_PairTotals.f k l0 = some r) :
    Calls Try.prog 4 #[.slice A0 l0.length c0] w fun e w' => e = .returned (.bool r) ∧ Below w.heap.size w w' := by
  have hu36 := Try.underlying36
  have hu39 := Try.underlying39
  have hix39_0 : ∀ (x0_ x1_ : Value) (w_ : World), (Instr.index 39 (.agg #[x0_, x1_]) (.int .i64 0)).run Try.prog w_ = .ok x0_ w_ := fun _ _ _ => by kernel_rfl
  have hix39_1 : ∀ (x0_ x1_ : Value) (w_ : World), (Instr.index 39 (.agg #[x0_, x1_]) (.int .i64 1)).run Try.prog w_ = .ok x1_ w_ := fun _ _ _ => by kernel_rfl
  have hiv39 : ∀ (j_ x0_ x1_ : Int) (w_ : World), decide (0 ≤ j_) = true → decide (j_ < 2) = true → (Instr.index 39 (.agg #[.int .i64 x0_, .int .i64 x1_]) (.int .i64 j_)).run Try.prog w_ = .ok (.int .i64 (sel2 j_ x0_ x1_)) w_ := by
    intro j_ x0_ x1_ w_ h0_ h1_
    have h0_ := of_decide_eq_true h0_
    have h1_ := of_decide_eq_true h1_
    rcases (show j_ = 0 ∨ j_ = 1 by omega) with rfl | rfl
    · exact hix39_0 (.int .i64 x0_) (.int .i64 x1_) w_
    · exact hix39_1 (.int .i64 x0_) (.int .i64 x1_) w_
  have HR0 := Aside0.mk hr0
  have HC0 := Aside0.mk hc0
  clear hr0 hc0
  have HB := Aside0.mk (Below.refl w.heap.size w)
  have H : ((stipendlaw06_both.f).bind fun t125 => (if t125 = true then (if (l0.length : Int) > 50 then (some true) else ((pair_Total.f k l0).bind fun bt126 => (stipendlaw06_PairTotals.l0 k bt126.2.2 0 0 l0 (l0.length : Int) 0 bt126.1 bt126.2.1))) else (none))) = some r := h
  clear h
  replace H := Option.bind_eq_some_iff.mp H
  obtain ⟨t125, A20, H⟩ := H
  replace H : (if t125 = true then (if (l0.length : Int) > 50 then (some true) else ((pair_Total.f k l0).bind fun bt126 => (stipendlaw06_PairTotals.l0 k bt126.2.2 0 0 l0 (l0.length : Int) 0 bt126.1 bt126.2.1))) else (none)) = some r := H
  have A2 := Aside0.mk A20
  clear A20
  by_cases c3 : t125 = true
  · subst c3
    have H1 : (if (l0.length : Int) > 50 then (some true) else ((pair_Total.f k l0).bind fun bt126 => (stipendlaw06_PairTotals.l0 k bt126.2.2 0 0 l0 (l0.length : Int) 0 bt126.1 bt126.2.1))) = some r := by rw [if_pos rfl] at H; exact H
    clear H
    have H := H1
    clear H1
    by_cases c4 : (l0.length : Int) > 50
    · rw [if_pos c4] at H
      have c4b0 : decide (50 < (l0.length : Int)) = true := decide_eq_true c4
      have c4b1 : decide (50 < l0.length) = true := decide_eq_true (by omega)
      clear c4
      obtain rfl := Option.some.inj H
      go_enter Try.func4, Try.ntmps4
      go_wp2_with (first | (go_at_call 24; (with_reducible refine (stipendlaw06_both.calls  true _ A2.out).mono ?_); rintro e w5 ⟨rfl, hb⟩; have n0_ := Aside0.mk (below_step (by repeat (first | (with_reducible first | exact HB.out | apply below_alloc | apply pw_below_drewN | apply below_drew1) | exact HB.out)) hb); clear HB; have HB := n0_; clear n0_; (try clear hb); (try clear hb2); (try clear hk); (try clear hi)))
      repeat (go_quiet (first | (go_at_call 24; (with_reducible refine (stipendlaw06_both.calls  true _ A2.out).mono ?_); rintro e w5 ⟨rfl, hb⟩; have n0_ := Aside0.mk (below_step (by repeat (first | (with_reducible first | exact HB.out | apply below_alloc | apply pw_below_drewN | apply below_drew1) | exact HB.out)) hb); clear HB; have HB := n0_; clear n0_; (try clear hb); (try clear hb2); (try clear hk); (try clear hi))); try go_wp2_with (first | (go_at_call 24; (with_reducible refine (stipendlaw06_both.calls  true _ A2.out).mono ?_); rintro e w5 ⟨rfl, hb⟩; have n0_ := Aside0.mk (below_step (by repeat (first | (with_reducible first | exact HB.out | apply below_alloc | apply pw_below_drewN | apply below_drew1) | exact HB.out)) hb); clear HB; have HB := n0_; clear n0_; (try clear hb); (try clear hb2); (try clear hk); (try clear hi))))
      go_ret
      exact ⟨by first | rfl | (simp [errW_none, errW_some] <;> rfl) | (simp [*, errW_none, errW_some] <;> rfl), by repeat (first | (with_reducible first | exact HB.out | apply below_alloc | apply pw_below_drewN | apply below_drew1) | exact HB.out)⟩
    · rw [if_neg c4] at H
      have c4b0 : decide (50 < (l0.length : Int)) = false := decide_eq_false c4
      have c4b1 : decide (50 < l0.length) = false := decide_eq_false (by omega)
      clear c4
      replace H := Option.bind_eq_some_iff.mp H
      obtain ⟨⟨t126, t127, t128⟩, A60, H⟩ := H
      replace H : (stipendlaw06_PairTotals.l0 k t128 0 0 l0 (l0.length : Int) 0 t126 t127) = some r := H
      have A6 := Aside0.mk A60
      clear A60
      have H' := Aside0.mk H
      clear H
      go_enter Try.func4, Try.ntmps4
      go_wp2_with (first | (go_at_call 24; (with_reducible refine (stipendlaw06_both.calls  true _ A2.out).mono ?_); rintro e w7 ⟨rfl, hb⟩; have n0_ := Aside0.mk (below_step (by repeat (first | (with_reducible first | exact HB.out | apply below_alloc | apply pw_below_drewN | apply below_drew1) | exact HB.out)) hb); clear HB; have HB := n0_; clear n0_; (try clear hb); (try clear hb2); (try clear hk); (try clear hi)) | (go_at_call 30; (with_reducible refine (pair_Total.calls k _ _ l0 t126 t127 t128 _ ?side1 ?side2 A6.out).mono ?_); (case side1 => repeat (first | exact (Kd.C_below HR0.out HB.out) | (with_reducible refine Kd.C_alloc ?_ _) | (with_reducible refine Kd.C_drewN ?_ _) | (with_reducible refine Kd.C_drew ?_))); (case side2 => exact HC0.out); rintro e w8 ⟨rfl, hb⟩; have n0_ := Aside0.mk (below_step (by repeat (first | (with_reducible first | exact HB.out | apply below_alloc | apply pw_below_drewN | apply below_drew1) | exact HB.out)) hb); clear HB; have HB := n0_; clear n0_; (try clear hb); (try clear hb2); (try clear hk); (try clear hi)) | ((with_reducible refine gate_dst (N := 3) rfl ?_); refine box_event ?hg (N := 3) ?hd (cs := #[.int .i64 0, .int .i64 0]) (t := 36) ?hr ?_; (case hd => rfl); (case hg => rfl); (case hr => first | (go_simp; done) | (go_simp; rfl)); intro gb129 hg w9 hbox hb; have n0_ := Aside0.mk (below_step (by repeat (first | (with_reducible first | exact HB.out | apply below_alloc | apply pw_below_drewN | apply below_drew1) | exact HB.out)) hb); have n1_ := Aside0.mk (hbox); have n2_ := Aside0.mk ((by rw [hg]; exact (below_size (by repeat (first | (with_reducible first | exact HB.out | apply below_alloc | apply pw_below_drewN | apply below_drew1) | exact HB.out))) : w.heap.size ≤ gb129)); have n3_ := Aside0.mk ((by rw [hg]; exact (below_size (by repeat (first | (with_reducible first | exact HB.out | apply below_alloc | apply pw_below_drewN | apply below_drew1) | exact HB.out))) : w.heap.size ≤ gb129)); clear HB; have HB := n0_; have BK129 := n1_; have GW129 := n2_; have GE129 := n3_; clear n0_ n1_ n2_ n3_; clear hb hbox hg; have hcz10_0 : w9.cell? ⟨gb129, 0, none⟩ = some (.int .i64 0) := (blk_cell BK129.out 0).trans rfl; have hcz10_1 : w9.cell? ⟨gb129, 1, none⟩ = some (.int .i64 0) := (blk_cell BK129.out 1).trans rfl; have hfz10_0 := blk_frozen BK129.out 0; have hfz10_1 := blk_frozen BK129.out 1))
      repeat (go_quiet (first | (go_at_call 24; (with_reducible refine (stipendlaw06_both.calls  true _ A2.out).mono ?_); rintro e w7 ⟨rfl, hb⟩; have n0_ := Aside0.mk (below_step (by repeat (first | (with_reducible first | exact HB.out | apply below_alloc | apply pw_below_drewN | apply below_drew1) | exact HB.out)) hb); clear HB; have HB := n0_; clear n0_; (try clear hb); (try clear hb2); (try clear hk); (try clear hi)) | (go_at_call 30; (with_reducible refine (pair_Total.calls k _ _ l0 t126 t127 t128 _ ?side1 ?side2 A6.out).mono ?_); (case side1 => repeat (first | exact (Kd.C_below HR0.out HB.out) | (with_reducible refine Kd.C_alloc ?_ _) | (with_reducible refine Kd.C_drewN ?_ _) | (with_reducible refine Kd.C_drew ?_))); (case side2 => exact HC0.out); rintro e w8 ⟨rfl, hb⟩; have n0_ := Aside0.mk (below_step (by repeat (first | (with_reducible first | exact HB.out | apply below_alloc | apply pw_below_drewN | apply below_drew1) | exact HB.out)) hb); clear HB; have HB := n0_; clear n0_; (try clear hb); (try clear hb2); (try clear hk); (try clear hi)) | ((with_reducible refine gate_dst (N := 3) rfl ?_); refine box_event ?hg (N := 3) ?hd (cs := #[.int .i64 0, .int .i64 0]) (t := 36) ?hr ?_; (case hd => rfl); (case hg => rfl); (case hr => first | (go_simp; done) | (go_simp; rfl)); intro gb129 hg w9 hbox hb; have n0_ := Aside0.mk (below_step (by repeat (first | (with_reducible first | exact HB.out | apply below_alloc | apply pw_below_drewN | apply below_drew1) | exact HB.out)) hb); have n1_ := Aside0.mk (hbox); have n2_ := Aside0.mk ((by rw [hg]; exact (below_size (by repeat (first | (with_reducible first | exact HB.out | apply below_alloc | apply pw_below_drewN | apply below_drew1) | exact HB.out))) : w.heap.size ≤ gb129)); have n3_ := Aside0.mk ((by rw [hg]; exact (below_size (by repeat (first | (with_reducible first | exact HB.out | apply below_alloc | apply pw_below_drewN | apply below_drew1) | exact HB.out))) : w.heap.size ≤ gb129)); clear HB; have HB := n0_; have BK129 := n1_; have GW129 := n2_; have GE129 := n3_; clear n0_ n1_ n2_ n3_; clear hb hbox hg; have hcz10_0 : w9.cell? ⟨gb129, 0, none⟩ = some (.int .i64 0) := (blk_cell BK129.out 0).trans rfl; have hcz10_1 : w9.cell? ⟨gb129, 1, none⟩ = some (.int .i64 0) := (blk_cell BK129.out 1).trans rfl; have hfz10_0 := blk_frozen BK129.out 0; have hfz10_1 := blk_frozen BK129.out 1)); try go_wp2_with (first | (go_at_call 24; (with_reducible refine (stipendlaw06_both.calls  true _ A2.out).mono ?_); rintro e w7 ⟨rfl, hb⟩; have n0_ := Aside0.mk (below_step (by repeat (first | (with_reducible first | exact HB.out | apply below_alloc | apply pw_below_drewN | apply below_drew1) | exact HB.out)) hb); clear HB; have HB := n0_; clear n0_; (try clear hb); (try clear hb2); (try clear hk); (try clear hi)) | (go_at_call 30; (with_reducible refine (pair_Total.calls k _ _ l0 t126 t127 t128 _ ?side1 ?side2 A6.out).mono ?_); (case side1 => repeat (first | exact (Kd.C_below HR0.out HB.out) | (with_reducible refine Kd.C_alloc ?_ _) | (with_reducible refine Kd.C_drewN ?_ _) | (with_reducible refine Kd.C_drew ?_))); (case side2 => exact HC0.out); rintro e w8 ⟨rfl, hb⟩; have n0_ := Aside0.mk (below_step (by repeat (first | (with_reducible first | exact HB.out | apply below_alloc | apply pw_below_drewN | apply below_drew1) | exact HB.out)) hb); clear HB; have HB := n0_; clear n0_; (try clear hb); (try clear hb2); (try clear hk); (try clear hi)) | ((with_reducible refine gate_dst (N := 3) rfl ?_); refine box_event ?hg (N := 3) ?hd (cs := #[.int .i64 0, .int .i64 0]) (t := 36) ?hr ?_; (case hd => rfl); (case hg => rfl); (case hr => first | (go_simp; done) | (go_simp; rfl)); intro gb129 hg w9 hbox hb; have n0_ := Aside0.mk (below_step (by repeat (first | (with_reducible first | exact HB.out | apply below_alloc | apply pw_below_drewN | apply below_drew1) | exact HB.out)) hb); have n1_ := Aside0.mk (hbox); have n2_ := Aside0.mk ((by rw [hg]; exact (below_size (by repeat (first | (with_reducible first | exact HB.out | apply below_alloc | apply pw_below_drewN | apply below_drew1) | exact HB.out))) : w.heap.size ≤ gb129)); have n3_ := Aside0.mk ((by rw [hg]; exact (below_size (by repeat (first | (with_reducible first | exact HB.out | apply below_alloc | apply pw_below_drewN | apply below_drew1) | exact HB.out))) : w.heap.size ≤ gb129)); clear HB; have HB := n0_; have BK129 := n1_; have GW129 := n2_; have GE129 := n3_; clear n0_ n1_ n2_ n3_; clear hb hbox hg; have hcz10_0 : w9.cell? ⟨gb129, 0, none⟩ = some (.int .i64 0) := (blk_cell BK129.out 0).trans rfl; have hcz10_1 : w9.cell? ⟨gb129, 1, none⟩ = some (.int .i64 0) := (blk_cell BK129.out 1).trans rfl; have hfz10_0 := blk_frozen BK129.out 0; have hfz10_1 := blk_frozen BK129.out 1)))
      go_loopg [5, 6, 24] k (fun kq v5 v6 v24 w' => ∃ (x5_1 : Int) (x6_1 : Int) (x24_1 : Int), v5 = .int .i64 x5_1 ∧ v6 = .int .i64 x6_1 ∧ v24 = .int .i64 x24_1 ∧ Aside0 (stipendlaw06_PairTotals.l0 kq t128 x5_1 x6_1 l0 (l0.length : Int) x24_1 t126 t127 = some r) ∧ Aside0 (kq ≤ k) ∧ Aside0 (w'.heap[gb129]? = some (.cells #[.int .i64 t126, .int .i64 t127] 36 (0, 0))) ∧ Aside0 (Below w.heap.size w w'))
      case atStart => exact ⟨(0), (0), (0), (by first | rfl | (simp; done) | (simp [*]; done)), (by first | rfl | (simp; done) | (simp [*]; done)), (by first | rfl | (simp; done) | (simp [*]; done)), H', ⟨Nat.le_refl _⟩, ⟨by (with_reducible repeat (first | refine blk_drewN ?_ _ | refine blk_drew ?_ | refine blk_alloc ?_ _)); refine blk_put (cs := #[.int .i64 t126, .int .i64 0]) ?_ 1 _ rfl; (with_reducible repeat (first | refine blk_drewN ?_ _ | refine blk_drew ?_ | refine blk_alloc ?_ _)); refine blk_put (cs := #[.int .i64 0, .int .i64 0]) ?_ 0 _ rfl; (with_reducible repeat (first | refine blk_drewN ?_ _ | refine blk_drew ?_ | refine blk_alloc ?_ _)); exact BK129.out⟩, ⟨by repeat (first | (with_reducible first | exact HB.out | apply below_alloc | apply pw_below_drewN | apply below_drew1 | refine below_set ?_ GE129.out) | exact HB.out)⟩⟩
      case round =>
        clear H'
        try clear p2
        try clear c3
        try clear c4
        try clear c4b0
        try clear c4b1
        try clear hcz10_0
        try clear hcz10_1
        try clear hfz10_0
        try clear hfz10_1
        obtain ⟨x5_1, x6_1, x24_1, rfl, rfl, rfl, HA, HK1, BK129, HB⟩ := hrel
        cases gk with
        | zero => exact absurd HA.out (by simp [stipendlaw06_PairTotals.l0])
        | succ k1 =>
          have H := HA.out
          clear HA
          simp only [stipendlaw06_PairTotals.l0] at H
          by_cases c11 : x24_1 < (l0.length : Int)
          · rw [if_pos c11] at H
            have c11b0 : decide (x24_1 < (l0.length : Int)) = true := decide_eq_true c11
            clear c11
            by_cases c12 : 0 ≤ x24_1
            · rw [if_pos c12] at H
              have c12b0 : decide (0 ≤ x24_1) = true := decide_eq_true c12
              clear c12
              by_cases c13 : x24_1 < (l0.length : Int)
              · rw [if_pos c13] at H
                have c13b0 : decide (x24_1 < (l0.length : Int)) = true := decide_eq_true c13
                clear c13
                have H' := Aside0.mk H
                clear H
                have p130 : 0 ≤ (x24_1 : Int) := of_decide_eq_true (by first | (with_reducible assumption) | assumption)
                have q130 : x24_1 < (l0.length : Int) := of_decide_eq_true (by first | (with_reducible assumption) | assumption)
                obtain ⟨ad130, e130, hx130_0, hx130_1⟩ := at_T36 HR0.out x24_1 p130 q130
                cases e130
                replace hx130_0 := (HB.out.cell (World.block_lt_of_cell? w _ hx130_0)).trans hx130_0
                replace hx130_1 := (HB.out.cell (World.block_lt_of_cell? w _ hx130_1)).trans hx130_1
                replace p130 := eq_true p130
                replace q130 := eq_true q130
                go_wp2_with (first | ((with_reducible refine gate_dst (N := 8) rfl ?_); refine box_event ?hg (N := 8) ?hd (cs := #[.int .i64 0, .int .i64 0]) (t := 36) ?hr ?_; (case hd => rfl); (case hg => rfl); (case hr => first | (go_simp; done) | (go_simp; rfl)); intro gb131 hg w14 hbox hb; have n0_ := Aside0.mk (blk_below (g := gb129) (o := .cells #[.int .i64 t126, .int .i64 t127] 36 (0, 0)) (by (with_reducible repeat (first | refine blk_drewN ?_ _ | refine blk_drew ?_ | refine blk_alloc ?_ _)); exact BK129.out) hb); have n1_ := Aside0.mk (below_step (by repeat (first | (with_reducible first | exact HB.out | apply below_alloc | apply pw_below_drewN | apply below_drew1 | refine below_set ?_ GE129.out) | exact HB.out)) hb); have n2_ := Aside0.mk (hbox); have n3_ := Aside0.mk ((by rw [hg]; exact (below_size (by repeat (first | (with_reducible first | exact HB.out | apply below_alloc | apply pw_below_drewN | apply below_drew1 | refine below_set ?_ GE129.out) | exact HB.out))) : w.heap.size ≤ gb131)); have n4_ := Aside0.mk ((by rw [hg]; exact (below_size (by repeat (first | (with_reducible first | exact HB.out | apply below_alloc | apply pw_below_drewN | apply below_drew1 | refine below_set ?_ GE129.out) | exact HB.out))) : w.heap.size ≤ gb131)); have n5_ := Aside0.mk ((by rw [hg]; exact Nat.ne_of_lt (blk_lt (g := gb129) (o := .cells #[.int .i64 t126, .int .i64 t127] 36 (0, 0)) (by (with_reducible repeat (first | refine blk_drewN ?_ _ | refine blk_drew ?_ | refine blk_alloc ?_ _)); exact BK129.out)) : gb129 ≠ gb131)); have n6_ := Aside0.mk ((by rw [hg]; exact Nat.ne_of_gt (blk_lt (g := gb129) (o := .cells #[.int .i64 t126, .int .i64 t127] 36 (0, 0)) (by (with_reducible repeat (first | refine blk_drewN ?_ _ | refine blk_drew ?_ | refine blk_alloc ?_ _)); exact BK129.out)) : gb131 ≠ gb129)); clear BK129; clear HB; have BK129 := n0_; have HB := n1_; have BK131 := n2_; have GW131 := n3_; have GE131 := n4_; have NB129_131 := n5_; have NB131_129 := n6_; clear n0_ n1_ n2_ n3_ n4_ n5_ n6_; clear hb hbox hg; have hnb15 := NB131_129.out; have hnc15 := NB129_131.out; have hcz16_0 : w14.cell? ⟨gb131, 0, none⟩ = some (.int .i64 0) := (blk_cell BK131.out 0).trans rfl; have hcz16_1 : w14.cell? ⟨gb131, 1, none⟩ = some (.int .i64 0) := (blk_cell BK131.out 1).trans rfl; have hfz16_0 := blk_frozen BK131.out 0; have hfz16_1 := blk_frozen BK131.out 1))
                repeat (go_quiet (first | ((with_reducible refine gate_dst (N := 8) rfl ?_); refine box_event ?hg (N := 8) ?hd (cs := #[.int .i64 0, .int .i64 0]) (t := 36) ?hr ?_; (case hd => rfl); (case hg => rfl); (case hr => first | (go_simp; done) | (go_simp; rfl)); intro gb131 hg w14 hbox hb; have n0_ := Aside0.mk (blk_below (g := gb129) (o := .cells #[.int .i64 t126, .int .i64 t127] 36 (0, 0)) (by (with_reducible repeat (first | refine blk_drewN ?_ _ | refine blk_drew ?_ | refine blk_alloc ?_ _)); exact BK129.out) hb); have n1_ := Aside0.mk (below_step (by repeat (first | (with_reducible first | exact HB.out | apply below_alloc | apply pw_below_drewN | apply below_drew1 | refine below_set ?_ GE129.out) | exact HB.out)) hb); have n2_ := Aside0.mk (hbox); have n3_ := Aside0.mk ((by rw [hg]; exact (below_size (by repeat (first | (with_reducible first | exact HB.out | apply below_alloc | apply pw_below_drewN | apply below_drew1 | refine below_set ?_ GE129.out) | exact HB.out))) : w.heap.size ≤ gb131)); have n4_ := Aside0.mk ((by rw [hg]; exact (below_size (by repeat (first | (with_reducible first | exact HB.out | apply below_alloc | apply pw_below_drewN | apply below_drew1 | refine below_set ?_ GE129.out) | exact HB.out))) : w.heap.size ≤ gb131)); have n5_ := Aside0.mk ((by rw [hg]; exact Nat.ne_of_lt (blk_lt (g := gb129) (o := .cells #[.int .i64 t126, .int .i64 t127] 36 (0, 0)) (by (with_reducible repeat (first | refine blk_drewN ?_ _ | refine blk_drew ?_ | refine blk_alloc ?_ _)); exact BK129.out)) : gb129 ≠ gb131)); have n6_ := Aside0.mk ((by rw [hg]; exact Nat.ne_of_gt (blk_lt (g := gb129) (o := .cells #[.int .i64 t126, .int .i64 t127] 36 (0, 0)) (by (with_reducible repeat (first | refine blk_drewN ?_ _ | refine blk_drew ?_ | refine blk_alloc ?_ _)); exact BK129.out)) : gb131 ≠ gb129)); clear BK129; clear HB; have BK129 := n0_; have HB := n1_; have BK131 := n2_; have GW131 := n3_; have GE131 := n4_; have NB129_131 := n5_; have NB131_129 := n6_; clear n0_ n1_ n2_ n3_ n4_ n5_ n6_; clear hb hbox hg; have hnb15 := NB131_129.out; have hnc15 := NB129_131.out; have hcz16_0 : w14.cell? ⟨gb131, 0, none⟩ = some (.int .i64 0) := (blk_cell BK131.out 0).trans rfl; have hcz16_1 : w14.cell? ⟨gb131, 1, none⟩ = some (.int .i64 0) := (blk_cell BK131.out 1).trans rfl; have hfz16_0 := blk_frozen BK131.out 0; have hfz16_1 := blk_frozen BK131.out 1)); try go_wp2_with (first | ((with_reducible refine gate_dst (N := 8) rfl ?_); refine box_event ?hg (N := 8) ?hd (cs := #[.int .i64 0, .int .i64 0]) (t := 36) ?hr ?_; (case hd => rfl); (case hg => rfl); (case hr => first | (go_simp; done) | (go_simp; rfl)); intro gb131 hg w14 hbox hb; have n0_ := Aside0.mk (blk_below (g := gb129) (o := .cells #[.int .i64 t126, .int .i64 t127] 36 (0, 0)) (by (with_reducible repeat (first | refine blk_drewN ?_ _ | refine blk_drew ?_ | refine blk_alloc ?_ _)); exact BK129.out) hb); have n1_ := Aside0.mk (below_step (by repeat (first | (with_reducible first | exact HB.out | apply below_alloc | apply pw_below_drewN | apply below_drew1 | refine below_set ?_ GE129.out) | exact HB.out)) hb); have n2_ := Aside0.mk (hbox); have n3_ := Aside0.mk ((by rw [hg]; exact (below_size (by repeat (first | (with_reducible first | exact HB.out | apply below_alloc | apply pw_below_drewN | apply below_drew1 | refine below_set ?_ GE129.out) | exact HB.out))) : w.heap.size ≤ gb131)); have n4_ := Aside0.mk ((by rw [hg]; exact (below_size (by repeat (first | (with_reducible first | exact HB.out | apply below_alloc | apply pw_below_drewN | apply below_drew1 | refine below_set ?_ GE129.out) | exact HB.out))) : w.heap.size ≤ gb131)); have n5_ := Aside0.mk ((by rw [hg]; exact Nat.ne_of_lt (blk_lt (g := gb129) (o := .cells #[.int .i64 t126, .int .i64 t127] 36 (0, 0)) (by (with_reducible repeat (first | refine blk_drewN ?_ _ | refine blk_drew ?_ | refine blk_alloc ?_ _)); exact BK129.out)) : gb129 ≠ gb131)); have n6_ := Aside0.mk ((by rw [hg]; exact Nat.ne_of_gt (blk_lt (g := gb129) (o := .cells #[.int .i64 t126, .int .i64 t127] 36 (0, 0)) (by (with_reducible repeat (first | refine blk_drewN ?_ _ | refine blk_drew ?_ | refine blk_alloc ?_ _)); exact BK129.out)) : gb131 ≠ gb129)); clear BK129; clear HB; have BK129 := n0_; have HB := n1_; have BK131 := n2_; have GW131 := n3_; have GE131 := n4_; have NB129_131 := n5_; have NB131_129 := n6_; clear n0_ n1_ n2_ n3_ n4_ n5_ n6_; clear hb hbox hg; have hnb15 := NB131_129.out; have hnc15 := NB129_131.out; have hcz16_0 : w14.cell? ⟨gb131, 0, none⟩ = some (.int .i64 0) := (blk_cell BK131.out 0).trans rfl; have hcz16_1 : w14.cell? ⟨gb131, 1, none⟩ = some (.int .i64 0) := (blk_cell BK131.out 1).trans rfl; have hfz16_0 := blk_frozen BK131.out 0; have hfz16_1 := blk_frozen BK131.out 1)))
                go_loopg [33] k1 (fun kq v33 w' => ∃ (x33_2 : Int), v33 = .int .i64 x33_2 ∧ Aside0 (stipendlaw06_PairTotals.l1 kq t128 x5_1 x6_1 l0 (l0.length : Int) x24_1 x33_2 ((rd_T36 l0 x24_1).f0) ((rd_T36 l0 x24_1).f1) t126 t127 ((rd_T36 l0 x24_1).f0) ((rd_T36 l0 x24_1).f1) = some r) ∧ Aside0 (kq ≤ k1) ∧ Aside0 (w'.heap[gb129]? = some (.cells #[.int .i64 t126, .int .i64 t127] 36 (0, 0))) ∧ Aside0 (w'.heap[gb131]? = some (.cells #[.int .i64 ((rd_T36 l0 x24_1).f0), .int .i64 ((rd_T36 l0 x24_1).f1)] 36 (0, 0))) ∧ Aside0 (Below w.heap.size w w'))
                case atStart => exact ⟨(0), (by first | rfl | (simp; done) | (simp [*]; done)), H', ⟨Nat.le_refl _⟩, ⟨by (with_reducible repeat (first | refine blk_drewN ?_ _ | refine blk_drew ?_ | refine blk_alloc ?_ _)); refine blk_far ?_ NB129_131.out _; (with_reducible repeat (first | refine blk_drewN ?_ _ | refine blk_drew ?_ | refine blk_alloc ?_ _)); refine blk_far ?_ NB129_131.out _; (with_reducible repeat (first | refine blk_drewN ?_ _ | refine blk_drew ?_ | refine blk_alloc ?_ _)); exact BK129.out⟩, ⟨by (with_reducible repeat (first | refine blk_drewN ?_ _ | refine blk_drew ?_ | refine blk_alloc ?_ _)); refine blk_put (cs := #[.int .i64 ((rd_T36 l0 x24_1).f0), .int .i64 0]) ?_ 1 _ rfl; (with_reducible repeat (first | refine blk_drewN ?_ _ | refine blk_drew ?_ | refine blk_alloc ?_ _)); refine blk_put (cs := #[.int .i64 0, .int .i64 0]) ?_ 0 _ rfl; (with_reducible repeat (first | refine blk_drewN ?_ _ | refine blk_drew ?_ | refine blk_alloc ?_ _)); exact BK131.out⟩, ⟨by repeat (first | (with_reducible first | exact HB.out | apply below_alloc | apply pw_below_drewN | apply below_drew1 | refine below_set ?_ GE129.out | refine below_set ?_ GE131.out) | exact HB.out)⟩⟩
                case round =>
                  clear H'
                  try clear c1
                  try clear p1
                  try clear q1
                  try clear hx1
                  try clear p2
                  try clear c3
                  try clear c4
                  try clear c4b0
                  try clear c4b1
                  try clear c11
                  try clear c11b0
                  try clear c12
                  try clear c12b0
                  try clear c13
                  try clear c13b0
                  try clear p13
                  try clear q13
                  try clear hx13
                  try clear c15
                  try clear hcz10_0
                  try clear hcz10_1
                  try clear hcz16_0
                  try clear hcz16_1
                  try clear hfz10_0
                  try clear hfz10_1
                  try clear hfz16_0
                  try clear hfz16_1
                  try clear hx130_0
                  try clear hx130_1
                  try clear p130
                  try clear p2
                  try clear q130
                  obtain ⟨x33_2, rfl, HA, HK2, BK129, BK131, HB⟩ := hrel
                  cases gk with
                  | zero => exact absurd HA.out (by simp [stipendlaw06_PairTotals.l1])
                  | succ k2 =>
                    have H := HA.out
                    clear HA
                    simp only [stipendlaw06_PairTotals.l1] at H
                    by_cases c17 : x33_2 < 2
                    · rw [if_pos c17] at H
                      have c17b0 : decide (x33_2 < 2) = true := decide_eq_true c17
                      clear c17
                      by_cases c18 : 0 ≤ x33_2
                      · rw [if_pos c18] at H
                        have c18b0 : decide (0 ≤ x33_2) = true := decide_eq_true c18
                        clear c18
                        by_cases c19 : (sel2 x33_2 ((rd_T36 l0 x24_1).f0) ((rd_T36 l0 x24_1).f1)) > 100000000000
                        · rw [if_pos c19] at H
                          have c19b0 : decide (100000000000 < (sel2 x33_2 ((rd_T36 l0 x24_1).f0) ((rd_T36 l0 x24_1).f1))) = true := decide_eq_true c19
                          clear c19
                          by_cases c20 : t128 = 10
                          · rw [if_pos c20] at H
                            have c20b0 : (t128 == 10) = true := beq_iff_eq.mpr c20
                            have c20b1 : (t128 != 10) = false := bne_eq_false_iff_eq.mpr c20
                            clear c20
                            obtain rfl := Option.some.inj H
                            have hnb21 := NB129_131.out
                            have hnc21 := NB131_129.out
                            have hcz22_0 : wr.cell? ⟨gb129, 0, none⟩ = some (.int .i64 t126) := (blk_cell BK129.out 0).trans rfl
                            have hcz22_1 : wr.cell? ⟨gb129, 1, none⟩ = some (.int .i64 t127) := (blk_cell BK129.out 1).trans rfl
                            have hfz22_0 := blk_frozen BK129.out 0
                            have hfz22_1 := blk_frozen BK129.out 1
                            go_wp2
                            repeat (go_quiet (fail); try go_wp2)
                            go_ret
                            exact ⟨by first | rfl | (simp [errW_none, errW_some] <;> rfl) | (simp [*, errW_none, errW_some] <;> rfl), by repeat (first | (with_reducible first | exact HB.out | apply below_alloc | apply pw_below_drewN | apply below_drew1 | refine below_set ?_ GE129.out | refine below_set ?_ GE131.out) | exact HB.out)⟩
                          · rw [if_neg c20] at H
                            exact absurd H (by simp)
                        · rw [if_neg c19] at H
                          have c19b0 : decide (100000000000 < (sel2 x33_2 ((rd_T36 l0 x24_1).f0) ((rd_T36 l0 x24_1).f1))) = false := decide_eq_false c19
                          clear c19
                          by_cases c23 : (sel2 x33_2 ((rd_T36 l0 x24_1).f0) ((rd_T36 l0 x24_1).f1)) < (-100000000000)
                          · rw [if_pos c23] at H
                            have c23b0 : decide ((sel2 x33_2 ((rd_T36 l0 x24_1).f0) ((rd_T36 l0 x24_1).f1)) < (-100000000000)) = true := decide_eq_true c23
                            clear c23
                            by_cases c24 : t128 = 10
                            · rw [if_pos c24] at H
                              have c24b0 : (t128 == 10) = true := beq_iff_eq.mpr c24
                              have c24b1 : (t128 != 10) = false := bne_eq_false_iff_eq.mpr c24
                              clear c24
                              obtain rfl := Option.some.inj H
                              have hnb25 := NB129_131.out
                              have hnc25 := NB131_129.out
                              have hcz26_0 : wr.cell? ⟨gb129, 0, none⟩ = some (.int .i64 t126) := (blk_cell BK129.out 0).trans rfl
                              have hcz26_1 : wr.cell? ⟨gb129, 1, none⟩ = some (.int .i64 t127) := (blk_cell BK129.out 1).trans rfl
                              have hfz26_0 := blk_frozen BK129.out 0
                              have hfz26_1 := blk_frozen BK129.out 1
                              go_wp2
                              repeat (go_quiet (fail); try go_wp2)
                              go_ret
                              exact ⟨by first | rfl | (simp [errW_none, errW_some] <;> rfl) | (simp [*, errW_none, errW_some] <;> rfl), by repeat (first | (with_reducible first | exact HB.out | apply below_alloc | apply pw_below_drewN | apply below_drew1 | refine below_set ?_ GE129.out | refine below_set ?_ GE131.out) | exact HB.out)⟩
                            · rw [if_neg c24] at H
                              exact absurd H (by simp)
                          · rw [if_neg c23] at H
                            have c23b0 : decide ((sel2 x33_2 ((rd_T36 l0 x24_1).f0) ((rd_T36 l0 x24_1).f1)) < (-100000000000)) = false := decide_eq_false c23
                            clear c23
                            have H' := Aside0.mk H
                            clear H
                            go_wp2
                            repeat (go_quiet (fail); try go_wp2)
                            go_roundg k2
                            case measure => have := HK1.out; have := HK2.out; omega
                            case rel => exact ⟨(wrap64 (x33_2 + 1)), (by first | rfl | (simp; done) | (simp [*]; done)), H', ⟨by have := HK1.out; have := HK2.out; omega⟩, ⟨by (with_reducible repeat (first | refine blk_drewN ?_ _ | refine blk_drew ?_ | refine blk_alloc ?_ _)); exact BK129.out⟩, ⟨by (with_reducible repeat (first | refine blk_drewN ?_ _ | refine blk_drew ?_ | refine blk_alloc ?_ _)); exact BK131.out⟩, ⟨by repeat (first | (with_reducible first | exact HB.out | apply below_alloc | apply pw_below_drewN | apply below_drew1 | refine below_set ?_ GE129.out | refine below_set ?_ GE131.out) | exact HB.out)⟩⟩
                      · rw [if_neg c18] at H
                        exact absurd H (by simp)
                    · rw [if_neg c17] at H
                      have c17b0 : decide (x33_2 < 2) = false := decide_eq_false c17
                      clear c17
                      by_cases c27 : (wrap64 (x5_1 + ((rd_T36 l0 x24_1).f0))) > 100000000000
                      · rw [if_pos c27] at H
                        have c27b0 : decide (100000000000 < (wrap64 (x5_1 + ((rd_T36 l0 x24_1).f0)))) = true := decide_eq_true c27
                        clear c27
                        by_cases c28 : t128 = 10
                        · rw [if_pos c28] at H
                          have c28b0 : (t128 == 10) = true := beq_iff_eq.mpr c28
                          have c28b1 : (t128 != 10) = false := bne_eq_false_iff_eq.mpr c28
                          clear c28
                          obtain rfl := Option.some.inj H
                          have hnb29 := NB131_129.out
                          have hnc29 := NB129_131.out
                          have hcz30_0 : wr.cell? ⟨gb131, 0, none⟩ = some (.int .i64 ((rd_T36 l0 x24_1).f0)) := (blk_cell BK131.out 0).trans rfl
                          have hcz30_1 : wr.cell? ⟨gb131, 1, none⟩ = some (.int .i64 ((rd_T36 l0 x24_1).f1)) := (blk_cell BK131.out 1).trans rfl
                          have hfz30_0 := blk_frozen BK131.out 0
                          have hfz30_1 := blk_frozen BK131.out 1
                          have hcz31_0 : wr.cell? ⟨gb129, 0, none⟩ = some (.int .i64 t126) := (blk_cell BK129.out 0).trans rfl
                          have hcz31_1 : wr.cell? ⟨gb129, 1, none⟩ = some (.int .i64 t127) := (blk_cell BK129.out 1).trans rfl
                          have hfz31_0 := blk_frozen BK129.out 0
                          have hfz31_1 := blk_frozen BK129.out 1
                          go_wp2
                          repeat (go_quiet (fail); try go_wp2)
                          go_ret
                          exact ⟨by first | rfl | (simp [errW_none, errW_some] <;> rfl) | (simp [*, errW_none, errW_some] <;> rfl), by repeat (first | (with_reducible first | exact HB.out | apply below_alloc | apply pw_below_drewN | apply below_drew1 | refine below_set ?_ GE129.out | refine below_set ?_ GE131.out) | exact HB.out)⟩
                        · rw [if_neg c28] at H
                          exact absurd H (by simp)
                      · rw [if_neg c27] at H
                        have c27b0 : decide (100000000000 < (wrap64 (x5_1 + ((rd_T36 l0 x24_1).f0)))) = false := decide_eq_false c27
                        clear c27
                        by_cases c32 : (wrap64 (x5_1 + ((rd_T36 l0 x24_1).f0))) < (-100000000000)
                        · rw [if_pos c32] at H
                          have c32b0 : decide ((wrap64 (x5_1 + ((rd_T36 l0 x24_1).f0))) < (-100000000000)) = true := decide_eq_true c32
                          clear c32
                          by_cases c33 : t128 = 10
                          · rw [if_pos c33] at H
                            have c33b0 : (t128 == 10) = true := beq_iff_eq.mpr c33
                            have c33b1 : (t128 != 10) = false := bne_eq_false_iff_eq.mpr c33
                            clear c33
                            obtain rfl := Option.some.inj H
                            have hnb34 := NB131_129.out
                            have hnc34 := NB129_131.out
                            have hcz35_0 : wr.cell? ⟨gb131, 0, none⟩ = some (.int .i64 ((rd_T36 l0 x24_1).f0)) := (blk_cell BK131.out 0).trans rfl
                            have hcz35_1 : wr.cell? ⟨gb131, 1, none⟩ = some (.int .i64 ((rd_T36 l0 x24_1).f1)) := (blk_cell BK131.out 1).trans rfl
                            have hfz35_0 := blk_frozen BK131.out 0
                            have hfz35_1 := blk_frozen BK131.out 1
                            have hcz36_0 : wr.cell? ⟨gb129, 0, none⟩ = some (.int .i64 t126) := (blk_cell BK129.out 0).trans rfl
                            have hcz36_1 : wr.cell? ⟨gb129, 1, none⟩ = some (.int .i64 t127) := (blk_cell BK129.out 1).trans rfl
                            have hfz36_0 := blk_frozen BK129.out 0
                            have hfz36_1 := blk_frozen BK129.out 1
                            go_wp2
                            repeat (go_quiet (fail); try go_wp2)
                            go_ret
                            exact ⟨by first | rfl | (simp [errW_none, errW_some] <;> rfl) | (simp [*, errW_none, errW_some] <;> rfl), by repeat (first | (with_reducible first | exact HB.out | apply below_alloc | apply pw_below_drewN | apply below_drew1 | refine below_set ?_ GE129.out | refine below_set ?_ GE131.out) | exact HB.out)⟩
                          · rw [if_neg c33] at H
                            exact absurd H (by simp)
                        · rw [if_neg c32] at H
                          have c32b0 : decide ((wrap64 (x5_1 + ((rd_T36 l0 x24_1).f0))) < (-100000000000)) = false := decide_eq_false c32
                          clear c32
                          by_cases c37 : (wrap64 (x6_1 + ((rd_T36 l0 x24_1).f1))) > 100000000000
                          · rw [if_pos c37] at H
                            have c37b0 : decide (100000000000 < (wrap64 (x6_1 + ((rd_T36 l0 x24_1).f1)))) = true := decide_eq_true c37
                            clear c37
                            by_cases c38 : t128 = 10
                            · rw [if_pos c38] at H
                              have c38b0 : (t128 == 10) = true := beq_iff_eq.mpr c38
                              have c38b1 : (t128 != 10) = false := bne_eq_false_iff_eq.mpr c38
                              clear c38
                              obtain rfl := Option.some.inj H
                              have hnb39 := NB131_129.out
                              have hnc39 := NB129_131.out
                              have hcz40_0 : wr.cell? ⟨gb131, 0, none⟩ = some (.int .i64 ((rd_T36 l0 x24_1).f0)) := (blk_cell BK131.out 0).trans rfl
                              have hcz40_1 : wr.cell? ⟨gb131, 1, none⟩ = some (.int .i64 ((rd_T36 l0 x24_1).f1)) := (blk_cell BK131.out 1).trans rfl
                              have hfz40_0 := blk_frozen BK131.out 0
                              have hfz40_1 := blk_frozen BK131.out 1
                              have hcz41_0 : wr.cell? ⟨gb129, 0, none⟩ = some (.int .i64 t126) := (blk_cell BK129.out 0).trans rfl
                              have hcz41_1 : wr.cell? ⟨gb129, 1, none⟩ = some (.int .i64 t127) := (blk_cell BK129.out 1).trans rfl
                              have hfz41_0 := blk_frozen BK129.out 0
                              have hfz41_1 := blk_frozen BK129.out 1
                              go_wp2
                              repeat (go_quiet (fail); try go_wp2)
                              go_ret
                              exact ⟨by first | rfl | (simp [errW_none, errW_some] <;> rfl) | (simp [*, errW_none, errW_some] <;> rfl), by repeat (first | (with_reducible first | exact HB.out | apply below_alloc | apply pw_below_drewN | apply below_drew1 | refine below_set ?_ GE129.out | refine below_set ?_ GE131.out) | exact HB.out)⟩
                            · rw [if_neg c38] at H
                              exact absurd H (by simp)
                          · rw [if_neg c37] at H
                            have c37b0 : decide (100000000000 < (wrap64 (x6_1 + ((rd_T36 l0 x24_1).f1)))) = false := decide_eq_false c37
                            clear c37
                            by_cases c42 : (wrap64 (x6_1 + ((rd_T36 l0 x24_1).f1))) < (-100000000000)
                            · rw [if_pos c42] at H
                              have c42b0 : decide ((wrap64 (x6_1 + ((rd_T36 l0 x24_1).f1))) < (-100000000000)) = true := decide_eq_true c42
                              clear c42
                              by_cases c43 : t128 = 10
                              · rw [if_pos c43] at H
                                have c43b0 : (t128 == 10) = true := beq_iff_eq.mpr c43
                                have c43b1 : (t128 != 10) = false := bne_eq_false_iff_eq.mpr c43
                                clear c43
                                obtain rfl := Option.some.inj H
                                have hnb44 := NB131_129.out
                                have hnc44 := NB129_131.out
                                have hcz45_0 : wr.cell? ⟨gb131, 0, none⟩ = some (.int .i64 ((rd_T36 l0 x24_1).f0)) := (blk_cell BK131.out 0).trans rfl
                                have hcz45_1 : wr.cell? ⟨gb131, 1, none⟩ = some (.int .i64 ((rd_T36 l0 x24_1).f1)) := (blk_cell BK131.out 1).trans rfl
                                have hfz45_0 := blk_frozen BK131.out 0
                                have hfz45_1 := blk_frozen BK131.out 1
                                have hcz46_0 : wr.cell? ⟨gb129, 0, none⟩ = some (.int .i64 t126) := (blk_cell BK129.out 0).trans rfl
                                have hcz46_1 : wr.cell? ⟨gb129, 1, none⟩ = some (.int .i64 t127) := (blk_cell BK129.out 1).trans rfl
                                have hfz46_0 := blk_frozen BK129.out 0
                                have hfz46_1 := blk_frozen BK129.out 1
                                go_wp2
                                repeat (go_quiet (fail); try go_wp2)
                                go_ret
                                exact ⟨by first | rfl | (simp [errW_none, errW_some] <;> rfl) | (simp [*, errW_none, errW_some] <;> rfl), by repeat (first | (with_reducible first | exact HB.out | apply below_alloc | apply pw_below_drewN | apply below_drew1 | refine below_set ?_ GE129.out | refine below_set ?_ GE131.out) | exact HB.out)⟩
                              · rw [if_neg c43] at H
                                exact absurd H (by simp)
                            · rw [if_neg c42] at H
                              have c42b0 : decide ((wrap64 (x6_1 + ((rd_T36 l0 x24_1).f1))) < (-100000000000)) = false := decide_eq_false c42
                              clear c42
                              have H' := Aside0.mk H
                              clear H
                              have hnb47 := NB131_129.out
                              have hnc47 := NB129_131.out
                              have hcz48_0 : wr.cell? ⟨gb131, 0, none⟩ = some (.int .i64 ((rd_T36 l0 x24_1).f0)) := (blk_cell BK131.out 0).trans rfl
                              have hcz48_1 : wr.cell? ⟨gb131, 1, none⟩ = some (.int .i64 ((rd_T36 l0 x24_1).f1)) := (blk_cell BK131.out 1).trans rfl
                              have hfz48_0 := blk_frozen BK131.out 0
                              have hfz48_1 := blk_frozen BK131.out 1
                              go_wp2
                              repeat (go_quiet (fail); try go_wp2)
                              go_roundg k2
                              case measure => have := HK1.out; have := HK2.out; omega
                              case rel => exact ⟨(wrap64 (x5_1 + ((rd_T36 l0 x24_1).f0))), (wrap64 (x6_1 + ((rd_T36 l0 x24_1).f1))), (wrap64 (x24_1 + 1)), (by first | rfl | (simp; done) | (simp [*]; done)), (by first | rfl | (simp; done) | (simp [*]; done)), (by first | rfl | (simp; done) | (simp [*]; done)), H', ⟨by have := HK1.out; have := HK2.out; omega⟩, ⟨by (with_reducible repeat (first | refine blk_drewN ?_ _ | refine blk_drew ?_ | refine blk_alloc ?_ _)); exact BK129.out⟩, ⟨by repeat (first | (with_reducible first | exact HB.out | apply below_alloc | apply pw_below_drewN | apply below_drew1 | refine below_set ?_ GE129.out | refine below_set ?_ GE131.out) | exact HB.out)⟩⟩
              · rw [if_neg c13] at H
                exact absurd H (by simp)
            · rw [if_neg c12] at H
              exact absurd H (by simp)
          · rw [if_neg c11] at H
            have c11b0 : decide (x24_1 < (l0.length : Int)) = false := decide_eq_false c11
            clear c11
            by_cases c49 : t128 = 0
            · rw [if_pos c49] at H
              have c49b0 : (t128 == 0) = true := beq_iff_eq.mpr c49
              have c49b1 : (t128 != 0) = false := bne_eq_false_iff_eq.mpr c49
              clear c49
              obtain rfl := Option.some.inj H
              have hcz50_0 : wr.cell? ⟨gb129, 0, none⟩ = some (.int .i64 t126) := (blk_cell BK129.out 0).trans rfl
              have hcz50_1 : wr.cell? ⟨gb129, 1, none⟩ = some (.int .i64 t127) := (blk_cell BK129.out 1).trans rfl
              have hfz50_0 := blk_frozen BK129.out 0
              have hfz50_1 := blk_frozen BK129.out 1
              go_wp2
              repeat (go_quiet (fail); try go_wp2)
              go_ret
              exact ⟨by first | rfl | (simp [errW_none, errW_some] <;> rfl) | (simp [*, errW_none, errW_some] <;> rfl), by repeat (first | (with_reducible first | exact HB.out | apply below_alloc | apply pw_below_drewN | apply below_drew1 | refine below_set ?_ GE129.out) | exact HB.out)⟩
            · rw [if_neg c49] at H
              exact absurd H (by simp)
  · replace c3 := Bool.eq_false_iff.mpr c3
    subst c3
    have H1 : (none) = some r := by rw [if_neg (show ¬ (false = true) by decide)] at H; exact H
    clear H
    have H := H1
    clear H1
    exact absurd H (by simp)

end

end Go.Proofs.Ytcapgmoipacioaa.P
