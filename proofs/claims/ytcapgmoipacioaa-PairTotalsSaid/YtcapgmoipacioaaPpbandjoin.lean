import Derived.Test.YtcapgmoipacioaaPt
namespace Go.Proofs.Ytcapgmoipacioaa.P
open Go.RowKit Go.Proofs.YtcapgmoipacioaaW.PrintWords Go.Proofs.YtcapgmoipacioaaW.PrintLast Go.Proofs.YtcapgmoipacioaaW.PrintMore
attribute [local go_sem] max2_int min2_int max_two min_two max_three min_three max_four min_four
set_option linter.unusedVariables false
set_option linter.unusedSimpArgs false

/-! ### band_Join: function 62 -/
mutual
def band_Join.l0 : Nat → List (S106) → List (S106) → Int → Int → Option ((List (S106)))
  | 0, _, _, _, _ => none
  | k + 1, x3, x7, x8, x9 => if x9 < x8 then (if 0 ≤ x9 then (if x9 < (x7.length : Int) then (if (x3.length : Int) > 0 then (if 0 ≤ (wrap64 ((x3.length : Int) - 1)) then (if (wrap64 ((x3.length : Int) - 1)) < (x3.length : Int) then (if ((rd_T106 x3 (wrap64 ((x3.length : Int) - 1))).f1) = ((rd_T106 x7 x9).f1) then (band_Join.j1 k x3 x7 x8 x9 (((rd_T106 x3 (wrap64 ((x3.length : Int) - 1))).f2) == ((rd_T106 x7 x9).f2)) ((rd_T106 x7 x9).f0) ((rd_T106 x7 x9).f1) ((rd_T106 x7 x9).f2)) else (band_Join.j1 k x3 x7 x8 x9 false ((rd_T106 x7 x9).f0) ((rd_T106 x7 x9).f1) ((rd_T106 x7 x9).f2))) else (none)) else (none)) else (band_Join.j1 k x3 x7 x8 x9 false ((rd_T106 x7 x9).f0) ((rd_T106 x7 x9).f1) ((rd_T106 x7 x9).f2))) else (none)) else (none)) else (some x3)
def band_Join.j1 : Nat → List (S106) → List (S106) → Int → Int → Bool → Int → Int → Int → Option ((List (S106)))
  | 0, _, _, _, _, _, _, _, _ => none
  | k + 1, x3, x7, x8, x9, x38, x175000, x175001, x175002 => if x38 = true then (band_Join.l0 k x3 x7 x8 (wrap64 (x9 + 1))) else (if x3.length < 5864062014805 then (band_Join.l0 k (x3 ++ [(⟨x175000, x175001, x175002⟩ : S106)]) x7 x8 (wrap64 (x9 + 1))) else (none))
end
def band_Join.f (k : Nat) (l0 : List (S106)) : Option ((List (S106))) := band_Join.l0 k ([] : List (S106)) l0 (l0.length : Int) 0
theorem band_Join.mono_l : ∀ k, (∀ y0 y1 y2 y3, LeO (band_Join.l0 k y0 y1 y2 y3) (band_Join.l0 (k + 1) y0 y1 y2 y3)) ∧ (∀ y0 y1 y2 y3 y4 y5 y6 y7, LeO (band_Join.j1 k y0 y1 y2 y3 y4 y5 y6 y7) (band_Join.j1 (k + 1) y0 y1 y2 y3 y4 y5 y6 y7))
  | 0 => ⟨fun _ _ _ _ r h => by simp [band_Join.l0] at h, fun _ _ _ _ _ _ _ _ r h => by simp [band_Join.j1] at h⟩
  | k + 1 => by
    obtain ⟨ih0, ih1⟩ := band_Join.mono_l k
    refine ⟨?_, ?_⟩
    · intro y0 y1 y2 y3
      unfold band_Join.l0
      repeat' first
      | (with_reducible exact ih0 _ _ _ _)
      | (with_reducible exact ih1 _ _ _ _ _ _ _ _)
      | (with_reducible exact LeO.refl _)
      | (with_reducible exact LeO.none _)
      | (with_reducible refine LeO.ite ?_ ?_)
      | (with_reducible refine LeO.bind ?_ (fun _ => ?_))
      | exact ih0 _ _ _ _
      | exact ih1 _ _ _ _ _ _ _ _
      | exact LeO.none _
      | refine LeO.ite ?_ ?_
      | refine LeO.bind ?_ (fun _ => ?_)
    · intro y0 y1 y2 y3 y4 y5 y6 y7
      unfold band_Join.j1
      repeat' first
      | (with_reducible exact ih0 _ _ _ _)
      | (with_reducible exact ih1 _ _ _ _ _ _ _ _)
      | (with_reducible exact LeO.refl _)
      | (with_reducible exact LeO.none _)
      | (with_reducible refine LeO.ite ?_ ?_)
      | (with_reducible refine LeO.bind ?_ (fun _ => ?_))
      | exact ih0 _ _ _ _
      | exact ih1 _ _ _ _ _ _ _ _
      | exact LeO.none _
      | refine LeO.ite ?_ ?_
      | refine LeO.bind ?_ (fun _ => ?_)
theorem band_Join.mono : ∀ a0 k, LeO (band_Join.f k a0) (band_Join.f (k + 1) a0) := by
  intro a0 k
  obtain ⟨ih0, ih1⟩ := band_Join.mono_l k
  unfold band_Join.f
  repeat' first
      | (with_reducible exact ih0 _ _ _ _)
      | (with_reducible exact ih1 _ _ _ _ _ _ _ _)
      | (with_reducible exact LeO.refl _)
      | (with_reducible exact LeO.none _)
      | (with_reducible refine LeO.ite ?_ ?_)
      | (with_reducible refine LeO.bind ?_ (fun _ => ?_))
      | exact ih0 _ _ _ _
      | exact ih1 _ _ _ _ _ _ _ _
      | exact LeO.none _
      | refine LeO.ite ?_ ?_
      | refine LeO.bind ?_ (fun _ => ?_)
set_option maxHeartbeats 8000000 in
set_option maxRecDepth 100000 in
theorem band_Join.calls (k : Nat) (A0 : Option Addr) (c0 : Nat) (l0 : List (S106)) (r : List (S106)) (w : World) (hr0 : Kd.C k106 w A0 l0.length l0) (hc0 : l0.length ≤ c0) (h : band_Join.f k l0 = some r) :
    Calls Try.prog 62 #[.slice A0 l0.length c0] w fun e w' => ∃ v0_ : Value, e = .returned (v0_) ∧ Kd.R k106 106 w' w.heap.size (fun _ => True) v0_ r ∧ Below w.heap.size w w' := by
  have hu106 := Try.underlying106
  have HR0 := Aside0.mk hr0
  have HC0 := Aside0.mk hc0
  clear hr0 hc0
  have HB := Aside0.mk (Below.refl w.heap.size w)
  have H : (band_Join.l0 k ([] : List (S106)) l0 (l0.length : Int) 0) = some r := h
  clear h
  have H' := Aside0.mk H
  clear H
  go_enter Try.func62, Try.ntmps62
  go_wp2
  repeat (go_quiet (fail); try go_wp2)
  go_loopg [3, 9] k (fun kq v3 v9 w' => ∃ (x3_1 : List (S106)) (x9_1 : Int), v9 = .int .i64 x9_1 ∧ Aside0 (band_Join.l0 kq x3_1 l0 (l0.length : Int) x9_1 = some r) ∧ Aside0 (kq ≤ k) ∧ Aside0 (Kd.R k106 106 w' w.heap.size (fun _ => True) v3 x3_1) ∧ Aside0 (Below w.heap.size w w'))
  case atStart => exact ⟨(([] : List (S106))), (0), (by first | rfl | (simp; done) | (simp [*]; done)), H', ⟨Nat.le_refl _⟩, ⟨by first | exact Kd.R_nil _ _ _ _ _ | exact Kd.N_nil _ _ _ _ _ | exact Kd.V_nil _ _ _ _ _ | exact Kd.Q_nil _ _ _ _ _ | exact Kd.S_nil _ _ _ _ _⟩, ⟨by repeat (first | (with_reducible first | exact HB.out | apply below_alloc | apply pw_below_drewN | apply below_drew1) | exact HB.out)⟩⟩
  case round =>
    clear H'
    obtain ⟨x3_1, x9_1, rfl, HA, HK1, HO_3, HB⟩ := hrel
    cases gk with
    | zero => exact absurd HA.out (by simp [band_Join.l0])
    | succ k1 =>
      have H := HA.out
      clear HA
      simp only [band_Join.l0] at H
      by_cases c2 : x9_1 < (l0.length : Int)
      · rw [if_pos c2] at H
        have c2b0 : decide (x9_1 < (l0.length : Int)) = true := decide_eq_true c2
        clear c2
        by_cases c3 : 0 ≤ x9_1
        · rw [if_pos c3] at H
          have c3b0 : decide (0 ≤ x9_1) = true := decide_eq_true c3
          clear c3
          by_cases c4 : x9_1 < (l0.length : Int)
          · rw [if_pos c4] at H
            have c4b0 : decide (x9_1 < (l0.length : Int)) = true := decide_eq_true c4
            clear c4
            have HC5 := Aside0.mk H
            clear H
            have p173 : 0 ≤ (x9_1 : Int) := of_decide_eq_true (by first | (with_reducible assumption) | assumption)
            have q173 : x9_1 < (l0.length : Int) := of_decide_eq_true (by first | (with_reducible assumption) | assumption)
            obtain ⟨ad173, e173, hx173_0, hx173_1, hx173_2⟩ := at_T106 HR0.out x9_1 p173 q173
            cases e173
            replace hx173_0 := (HB.out.cell (World.block_lt_of_cell? w _ hx173_0)).trans hx173_0
            replace hx173_1 := (HB.out.cell (World.block_lt_of_cell? w _ hx173_1)).trans hx173_1
            replace hx173_2 := (HB.out.cell (World.block_lt_of_cell? w _ hx173_2)).trans hx173_2
            replace p173 := eq_true p173
            replace q173 := eq_true q173
            go_upto_region 6 with (first | ((with_reducible refine gate_dst (N := 5) rfl ?_); refine box_event ?hg (N := 5) ?hd (cs := #[.int .i64 0, .int .i64 0, .int .i64 0]) (t := 106) ?hr ?_; (case hd => rfl); (case hg => rfl); (case hr => first | (go_simp; done) | (go_simp; rfl)); intro gb174 hg w6 hbox hb; have n0_ := Aside0.mk (Kd.R_below (Kd.R_elderB (by (with_reducible repeat (first | apply Kd.R_alloc | apply Kd.R_drewN | apply Kd.R_drew)); exact HO_3.out) gb174 (Nat.le_of_eq hg.symm)) hb); have n1_ := Aside0.mk (below_step (by repeat (first | (with_reducible first | exact HB.out | apply below_alloc | apply pw_below_drewN | apply below_drew1) | exact HB.out)) hb); have n2_ := Aside0.mk (hbox); have n3_ := Aside0.mk ((by rw [hg]; exact (below_size (by repeat (first | (with_reducible first | exact HB.out | apply below_alloc | apply pw_below_drewN | apply below_drew1) | exact HB.out))) : w.heap.size ≤ gb174)); have n4_ := Aside0.mk ((by rw [hg]; exact (below_size (by repeat (first | (with_reducible first | exact HB.out | apply below_alloc | apply pw_below_drewN | apply below_drew1) | exact HB.out))) : w.heap.size ≤ gb174)); clear HO_3; clear HB; have HO_3 := n0_; have HB := n1_; have BK174 := n2_; have GW174 := n3_; have GE174 := n4_; clear n0_ n1_ n2_ n3_ n4_; clear hb hbox hg; have hcz7_0 : w6.cell? ⟨gb174, 0, none⟩ = some (.int .i64 0) := (blk_cell BK174.out 0).trans rfl; have hcz7_1 : w6.cell? ⟨gb174, 1, none⟩ = some (.int .i64 0) := (blk_cell BK174.out 1).trans rfl; have hcz7_2 : w6.cell? ⟨gb174, 2, none⟩ = some (.int .i64 0) := (blk_cell BK174.out 2).trans rfl; have hfz7_0 := blk_frozen BK174.out 0; have hfz7_1 := blk_frozen BK174.out 1; have hfz7_2 := blk_frozen BK174.out 2; obtain ⟨Ao8, co8, eo8⟩ := Kd.R_slice HO_3.out; subst eo8))
            repeat (go_quiet (first | ((with_reducible refine gate_dst (N := 5) rfl ?_); refine box_event ?hg (N := 5) ?hd (cs := #[.int .i64 0, .int .i64 0, .int .i64 0]) (t := 106) ?hr ?_; (case hd => rfl); (case hg => rfl); (case hr => first | (go_simp; done) | (go_simp; rfl)); intro gb174 hg w6 hbox hb; have n0_ := Aside0.mk (Kd.R_below (Kd.R_elderB (by (with_reducible repeat (first | apply Kd.R_alloc | apply Kd.R_drewN | apply Kd.R_drew)); exact HO_3.out) gb174 (Nat.le_of_eq hg.symm)) hb); have n1_ := Aside0.mk (below_step (by repeat (first | (with_reducible first | exact HB.out | apply below_alloc | apply pw_below_drewN | apply below_drew1) | exact HB.out)) hb); have n2_ := Aside0.mk (hbox); have n3_ := Aside0.mk ((by rw [hg]; exact (below_size (by repeat (first | (with_reducible first | exact HB.out | apply below_alloc | apply pw_below_drewN | apply below_drew1) | exact HB.out))) : w.heap.size ≤ gb174)); have n4_ := Aside0.mk ((by rw [hg]; exact (below_size (by repeat (first | (with_reducible first | exact HB.out | apply below_alloc | apply pw_below_drewN | apply below_drew1) | exact HB.out))) : w.heap.size ≤ gb174)); clear HO_3; clear HB; have HO_3 := n0_; have HB := n1_; have BK174 := n2_; have GW174 := n3_; have GE174 := n4_; clear n0_ n1_ n2_ n3_ n4_; clear hb hbox hg; have hcz7_0 : w6.cell? ⟨gb174, 0, none⟩ = some (.int .i64 0) := (blk_cell BK174.out 0).trans rfl; have hcz7_1 : w6.cell? ⟨gb174, 1, none⟩ = some (.int .i64 0) := (blk_cell BK174.out 1).trans rfl; have hcz7_2 : w6.cell? ⟨gb174, 2, none⟩ = some (.int .i64 0) := (blk_cell BK174.out 2).trans rfl; have hfz7_0 := blk_frozen BK174.out 0; have hfz7_1 := blk_frozen BK174.out 1; have hfz7_2 := blk_frozen BK174.out 2; obtain ⟨Ao8, co8, eo8⟩ := Kd.R_slice HO_3.out; subst eo8)); go_upto_region 6 with (first | ((with_reducible refine gate_dst (N := 5) rfl ?_); refine box_event ?hg (N := 5) ?hd (cs := #[.int .i64 0, .int .i64 0, .int .i64 0]) (t := 106) ?hr ?_; (case hd => rfl); (case hg => rfl); (case hr => first | (go_simp; done) | (go_simp; rfl)); intro gb174 hg w6 hbox hb; have n0_ := Aside0.mk (Kd.R_below (Kd.R_elderB (by (with_reducible repeat (first | apply Kd.R_alloc | apply Kd.R_drewN | apply Kd.R_drew)); exact HO_3.out) gb174 (Nat.le_of_eq hg.symm)) hb); have n1_ := Aside0.mk (below_step (by repeat (first | (with_reducible first | exact HB.out | apply below_alloc | apply pw_below_drewN | apply below_drew1) | exact HB.out)) hb); have n2_ := Aside0.mk (hbox); have n3_ := Aside0.mk ((by rw [hg]; exact (below_size (by repeat (first | (with_reducible first | exact HB.out | apply below_alloc | apply pw_below_drewN | apply below_drew1) | exact HB.out))) : w.heap.size ≤ gb174)); have n4_ := Aside0.mk ((by rw [hg]; exact (below_size (by repeat (first | (with_reducible first | exact HB.out | apply below_alloc | apply pw_below_drewN | apply below_drew1) | exact HB.out))) : w.heap.size ≤ gb174)); clear HO_3; clear HB; have HO_3 := n0_; have HB := n1_; have BK174 := n2_; have GW174 := n3_; have GE174 := n4_; clear n0_ n1_ n2_ n3_ n4_; clear hb hbox hg; have hcz7_0 : w6.cell? ⟨gb174, 0, none⟩ = some (.int .i64 0) := (blk_cell BK174.out 0).trans rfl; have hcz7_1 : w6.cell? ⟨gb174, 1, none⟩ = some (.int .i64 0) := (blk_cell BK174.out 1).trans rfl; have hcz7_2 : w6.cell? ⟨gb174, 2, none⟩ = some (.int .i64 0) := (blk_cell BK174.out 2).trans rfl; have hfz7_0 := blk_frozen BK174.out 0; have hfz7_1 := blk_frozen BK174.out 1; have hfz7_2 := blk_frozen BK174.out 2; obtain ⟨Ao8, co8, eo8⟩ := Kd.R_slice HO_3.out; subst eo8)))
            (try simp only [Act.put, List.setIfInBounds_toArray, List.set_cons_zero, List.set_cons_succ])
            go_cut [38] (fun v38 wc => ∃ (kq : Nat) (x38_4 : Bool), v38 = .bool x38_4 ∧ Aside0 (band_Join.j1 kq x3_1 l0 (l0.length : Int) x9_1 x38_4 ((rd_T106 l0 x9_1).f0) ((rd_T106 l0 x9_1).f1) ((rd_T106 l0 x9_1).f2) = some r) ∧ Aside0 (kq ≤ k1) ∧ Aside0 (Kd.R k106 106 wc w.heap.size (fun k_ => k_ ≠ gb174) (.slice Ao8 x3_1.length co8) x3_1) ∧ Aside0 (wc.heap[gb174]? = some (.cells #[.int .i64 ((rd_T106 l0 x9_1).f0), .int .i64 ((rd_T106 l0 x9_1).f1), .int .i64 ((rd_T106 l0 x9_1).f2)] 106 (0, 0))) ∧ Aside0 (Below w.heap.size w wc))
            case first =>
              have H := HC5.out
              clear HC5
              by_cases c9 : (x3_1.length : Int) > 0
              · rw [if_pos c9] at H
                have c9b0 : decide (0 < (x3_1.length : Int)) = true := decide_eq_true c9
                have c9b1 : decide (0 < x3_1.length) = true := decide_eq_true (by omega)
                clear c9
                (first | rw [c9b0] | (simp only [i64_w, i32_w]; rw [c9b0]) | skip)
                obtain ⟨ji10, hji10⟩ : ∃ j_ : Int, (wrap64 ((x3_1.length : Int) - 1)) = j_ := ⟨_, rfl⟩
                replace H : (if 0 ≤ (ji10) then (if (ji10) < (x3_1.length : Int) then (if ((rd_T106 x3_1 (ji10)).f1) = ((rd_T106 l0 x9_1).f1) then (band_Join.j1 k1 x3_1 l0 (l0.length : Int) x9_1 (((rd_T106 x3_1 (ji10)).f2) == ((rd_T106 l0 x9_1).f2)) ((rd_T106 l0 x9_1).f0) ((rd_T106 l0 x9_1).f1) ((rd_T106 l0 x9_1).f2)) else (band_Join.j1 k1 x3_1 l0 (l0.length : Int) x9_1 false ((rd_T106 l0 x9_1).f0) ((rd_T106 l0 x9_1).f1) ((rd_T106 l0 x9_1).f2))) else (none)) else (none)) = some r := by first | (rw [hji10] at H; exact H) | (simp only [hji10] at H ⊢; exact H)
                have hji10w : (IntKind.i64.wrap ((x3_1.length : Int) - 1)) = ji10 := (i64_w _).trans hji10
                by_cases c11 : 0 ≤ (ji10)
                · rw [if_pos c11] at H
                  have c11b0 : decide (0 ≤ (ji10)) = true := decide_eq_true c11
                  clear c11
                  by_cases c12 : (ji10) < (x3_1.length : Int)
                  · rw [if_pos c12] at H
                    have c12b0 : decide ((ji10) < (x3_1.length : Int)) = true := decide_eq_true c12
                    clear c12
                    by_cases c13 : ((rd_T106 x3_1 (ji10)).f1) = ((rd_T106 l0 x9_1).f1)
                    · rw [if_pos c13] at H
                      have c13b0 : (((rd_T106 x3_1 (ji10)).f1) == ((rd_T106 l0 x9_1).f1)) = true := beq_iff_eq.mpr c13
                      have c13b1 : (((rd_T106 x3_1 (ji10)).f1) != ((rd_T106 l0 x9_1).f1)) = false := bne_eq_false_iff_eq.mpr c13
                      clear c13
                      have H' := Aside0.mk H
                      clear H
                      have p175 : 0 ≤ ((ji10) : Int) := of_decide_eq_true (by first | (with_reducible assumption) | assumption)
                      have q175 : (ji10) < (x3_1.length : Int) := of_decide_eq_true (by first | (with_reducible assumption) | assumption)
                      obtain ⟨ad175, e175, hx175_0, hx175_1, hx175_2⟩ := at_T106 (Kd.R_reads' HO_3.out).2.2 (ji10) p175 q175
                      cases e175
                      have hn175_0 : ad175.block ≠ gb174 := Kd.own_blk (by first | (refine Kd.R_ne HO_3.out BK174.out ?_; decide) | exact Kd.R_away HO_3.out (fun _ hk => hk) | exact Kd.R_away HO_3.out (fun _ hk => hk.1) | exact Kd.R_away HO_3.out (fun _ hk => hk.2) | exact Kd.R_away HO_3.out (fun _ hk => hk.1.2))
                      have hn175_1 : ad175.block ≠ gb174 := Kd.own_blk (by first | (refine Kd.R_ne HO_3.out BK174.out ?_; decide) | exact Kd.R_away HO_3.out (fun _ hk => hk) | exact Kd.R_away HO_3.out (fun _ hk => hk.1) | exact Kd.R_away HO_3.out (fun _ hk => hk.2) | exact Kd.R_away HO_3.out (fun _ hk => hk.1.2))
                      have hn175_2 : ad175.block ≠ gb174 := Kd.own_blk (by first | (refine Kd.R_ne HO_3.out BK174.out ?_; decide) | exact Kd.R_away HO_3.out (fun _ hk => hk) | exact Kd.R_away HO_3.out (fun _ hk => hk.1) | exact Kd.R_away HO_3.out (fun _ hk => hk.2) | exact Kd.R_away HO_3.out (fun _ hk => hk.1.2))
                      replace hx175_0 := (cell_far (p := ⟨gb174, 0, none⟩) (by first | (rw [add_block]; exact hn175_0) | (show (Addr.add _ _).block ≠ _; rw [add_block]; exact hn175_0) | exact hn175_0) (.int .i64 ((rd_T106 l0 x9_1).f0))).trans hx175_0
                      replace hx175_1 := (cell_far (p := ⟨gb174, 0, none⟩) (by first | (rw [add_block]; exact hn175_0) | (show (Addr.add _ _).block ≠ _; rw [add_block]; exact hn175_0) | exact hn175_0) (.int .i64 ((rd_T106 l0 x9_1).f0))).trans hx175_1
                      replace hx175_2 := (cell_far (p := ⟨gb174, 0, none⟩) (by first | (rw [add_block]; exact hn175_0) | (show (Addr.add _ _).block ≠ _; rw [add_block]; exact hn175_0) | exact hn175_0) (.int .i64 ((rd_T106 l0 x9_1).f0))).trans hx175_2
                      replace hx175_0 := (cell_far (p := ⟨gb174, 1, none⟩) (by first | (rw [add_block]; exact hn175_1) | (show (Addr.add _ _).block ≠ _; rw [add_block]; exact hn175_1) | exact hn175_1) (.int .i64 ((rd_T106 l0 x9_1).f1))).trans hx175_0
                      replace hx175_1 := (cell_far (p := ⟨gb174, 1, none⟩) (by first | (rw [add_block]; exact hn175_1) | (show (Addr.add _ _).block ≠ _; rw [add_block]; exact hn175_1) | exact hn175_1) (.int .i64 ((rd_T106 l0 x9_1).f1))).trans hx175_1
                      replace hx175_2 := (cell_far (p := ⟨gb174, 1, none⟩) (by first | (rw [add_block]; exact hn175_1) | (show (Addr.add _ _).block ≠ _; rw [add_block]; exact hn175_1) | exact hn175_1) (.int .i64 ((rd_T106 l0 x9_1).f1))).trans hx175_2
                      replace hx175_0 := (cell_far (p := ⟨gb174, 2, none⟩) (by first | (rw [add_block]; exact hn175_2) | (show (Addr.add _ _).block ≠ _; rw [add_block]; exact hn175_2) | exact hn175_2) (.int .i64 ((rd_T106 l0 x9_1).f2))).trans hx175_0
                      replace hx175_1 := (cell_far (p := ⟨gb174, 2, none⟩) (by first | (rw [add_block]; exact hn175_2) | (show (Addr.add _ _).block ≠ _; rw [add_block]; exact hn175_2) | exact hn175_2) (.int .i64 ((rd_T106 l0 x9_1).f2))).trans hx175_1
                      replace hx175_2 := (cell_far (p := ⟨gb174, 2, none⟩) (by first | (rw [add_block]; exact hn175_2) | (show (Addr.add _ _).block ≠ _; rw [add_block]; exact hn175_2) | exact hn175_2) (.int .i64 ((rd_T106 l0 x9_1).f2))).trans hx175_2
                      (try have hy175_0 := fun (n_ : Nat) => (show (((((w6.drewN n_).setCell ⟨gb174, 0, none⟩ (.int .i64 ((rd_T106 l0 x9_1).f0))).setCell ⟨gb174, 1, none⟩ (.int .i64 ((rd_T106 l0 x9_1).f1))).setCell ⟨gb174, 2, none⟩ (.int .i64 ((rd_T106 l0 x9_1).f2)))).cell? _ = some _ from hx175_0))
                      (try have hy175_1 := fun (n_ : Nat) => (show (((((w6.drewN n_).setCell ⟨gb174, 0, none⟩ (.int .i64 ((rd_T106 l0 x9_1).f0))).setCell ⟨gb174, 1, none⟩ (.int .i64 ((rd_T106 l0 x9_1).f1))).setCell ⟨gb174, 2, none⟩ (.int .i64 ((rd_T106 l0 x9_1).f2)))).cell? _ = some _ from hx175_1))
                      (try have hy175_2 := fun (n_ : Nat) => (show (((((w6.drewN n_).setCell ⟨gb174, 0, none⟩ (.int .i64 ((rd_T106 l0 x9_1).f0))).setCell ⟨gb174, 1, none⟩ (.int .i64 ((rd_T106 l0 x9_1).f1))).setCell ⟨gb174, 2, none⟩ (.int .i64 ((rd_T106 l0 x9_1).f2)))).cell? _ = some _ from hx175_2))
                      clear hn175_0
                      clear hn175_1
                      clear hn175_2
                      replace p175 := eq_true p175
                      replace q175 := eq_true q175
                      have hcz14_0 : w6.cell? ⟨gb174, 0, none⟩ = some (.int .i64 0) := (blk_cell BK174.out 0).trans rfl
                      have hcz14_1 : w6.cell? ⟨gb174, 1, none⟩ = some (.int .i64 0) := (blk_cell BK174.out 1).trans rfl
                      have hcz14_2 : w6.cell? ⟨gb174, 2, none⟩ = some (.int .i64 0) := (blk_cell BK174.out 2).trans rfl
                      have hfz14_0 := blk_frozen BK174.out 0
                      have hfz14_1 := blk_frozen BK174.out 1
                      have hfz14_2 := blk_frozen BK174.out 2
                      have p176 : 0 ≤ ((ji10) : Int) := of_decide_eq_true (by first | (with_reducible assumption) | assumption)
                      have q176 : (ji10) < (x3_1.length : Int) := of_decide_eq_true (by first | (with_reducible assumption) | assumption)
                      obtain ⟨ad176, e176, hx176_0, hx176_1, hx176_2⟩ := at_T106 (Kd.R_reads' HO_3.out).2.2 (ji10) p176 q176
                      obtain rfl : ad175 = ad176 := (by injection e176)
                      have hn176_0 : ad175.block ≠ gb174 := Kd.own_blk (by first | (refine Kd.R_ne HO_3.out BK174.out ?_; decide) | exact Kd.R_away HO_3.out (fun _ hk => hk) | exact Kd.R_away HO_3.out (fun _ hk => hk.1) | exact Kd.R_away HO_3.out (fun _ hk => hk.2) | exact Kd.R_away HO_3.out (fun _ hk => hk.1.2))
                      have hn176_1 : ad175.block ≠ gb174 := Kd.own_blk (by first | (refine Kd.R_ne HO_3.out BK174.out ?_; decide) | exact Kd.R_away HO_3.out (fun _ hk => hk) | exact Kd.R_away HO_3.out (fun _ hk => hk.1) | exact Kd.R_away HO_3.out (fun _ hk => hk.2) | exact Kd.R_away HO_3.out (fun _ hk => hk.1.2))
                      have hn176_2 : ad175.block ≠ gb174 := Kd.own_blk (by first | (refine Kd.R_ne HO_3.out BK174.out ?_; decide) | exact Kd.R_away HO_3.out (fun _ hk => hk) | exact Kd.R_away HO_3.out (fun _ hk => hk.1) | exact Kd.R_away HO_3.out (fun _ hk => hk.2) | exact Kd.R_away HO_3.out (fun _ hk => hk.1.2))
                      replace hx176_0 := (cell_far (p := ⟨gb174, 0, none⟩) (by first | (rw [add_block]; exact hn176_0) | (show (Addr.add _ _).block ≠ _; rw [add_block]; exact hn176_0) | exact hn176_0) (.int .i64 ((rd_T106 l0 x9_1).f0))).trans hx176_0
                      replace hx176_1 := (cell_far (p := ⟨gb174, 0, none⟩) (by first | (rw [add_block]; exact hn176_0) | (show (Addr.add _ _).block ≠ _; rw [add_block]; exact hn176_0) | exact hn176_0) (.int .i64 ((rd_T106 l0 x9_1).f0))).trans hx176_1
                      replace hx176_2 := (cell_far (p := ⟨gb174, 0, none⟩) (by first | (rw [add_block]; exact hn176_0) | (show (Addr.add _ _).block ≠ _; rw [add_block]; exact hn176_0) | exact hn176_0) (.int .i64 ((rd_T106 l0 x9_1).f0))).trans hx176_2
                      replace hx176_0 := (cell_far (p := ⟨gb174, 1, none⟩) (by first | (rw [add_block]; exact hn176_1) | (show (Addr.add _ _).block ≠ _; rw [add_block]; exact hn176_1) | exact hn176_1) (.int .i64 ((rd_T106 l0 x9_1).f1))).trans hx176_0
                      replace hx176_1 := (cell_far (p := ⟨gb174, 1, none⟩) (by first | (rw [add_block]; exact hn176_1) | (show (Addr.add _ _).block ≠ _; rw [add_block]; exact hn176_1) | exact hn176_1) (.int .i64 ((rd_T106 l0 x9_1).f1))).trans hx176_1
                      replace hx176_2 := (cell_far (p := ⟨gb174, 1, none⟩) (by first | (rw [add_block]; exact hn176_1) | (show (Addr.add _ _).block ≠ _; rw [add_block]; exact hn176_1) | exact hn176_1) (.int .i64 ((rd_T106 l0 x9_1).f1))).trans hx176_2
                      replace hx176_0 := (cell_far (p := ⟨gb174, 2, none⟩) (by first | (rw [add_block]; exact hn176_2) | (show (Addr.add _ _).block ≠ _; rw [add_block]; exact hn176_2) | exact hn176_2) (.int .i64 ((rd_T106 l0 x9_1).f2))).trans hx176_0
                      replace hx176_1 := (cell_far (p := ⟨gb174, 2, none⟩) (by first | (rw [add_block]; exact hn176_2) | (show (Addr.add _ _).block ≠ _; rw [add_block]; exact hn176_2) | exact hn176_2) (.int .i64 ((rd_T106 l0 x9_1).f2))).trans hx176_1
                      replace hx176_2 := (cell_far (p := ⟨gb174, 2, none⟩) (by first | (rw [add_block]; exact hn176_2) | (show (Addr.add _ _).block ≠ _; rw [add_block]; exact hn176_2) | exact hn176_2) (.int .i64 ((rd_T106 l0 x9_1).f2))).trans hx176_2
                      (try have hy176_0 := fun (n_ : Nat) => (show (((((w6.drewN n_).setCell ⟨gb174, 0, none⟩ (.int .i64 ((rd_T106 l0 x9_1).f0))).setCell ⟨gb174, 1, none⟩ (.int .i64 ((rd_T106 l0 x9_1).f1))).setCell ⟨gb174, 2, none⟩ (.int .i64 ((rd_T106 l0 x9_1).f2)))).cell? _ = some _ from hx176_0))
                      (try have hy176_1 := fun (n_ : Nat) => (show (((((w6.drewN n_).setCell ⟨gb174, 0, none⟩ (.int .i64 ((rd_T106 l0 x9_1).f0))).setCell ⟨gb174, 1, none⟩ (.int .i64 ((rd_T106 l0 x9_1).f1))).setCell ⟨gb174, 2, none⟩ (.int .i64 ((rd_T106 l0 x9_1).f2)))).cell? _ = some _ from hx176_1))
                      (try have hy176_2 := fun (n_ : Nat) => (show (((((w6.drewN n_).setCell ⟨gb174, 0, none⟩ (.int .i64 ((rd_T106 l0 x9_1).f0))).setCell ⟨gb174, 1, none⟩ (.int .i64 ((rd_T106 l0 x9_1).f1))).setCell ⟨gb174, 2, none⟩ (.int .i64 ((rd_T106 l0 x9_1).f2)))).cell? _ = some _ from hx176_2))
                      clear hn176_0
                      clear hn176_1
                      clear hn176_2
                      replace p176 := eq_true p176
                      replace q176 := eq_true q176
                      go_wp2
                      repeat (go_quiet (fail); try go_wp2)
                      go_meet
                      case rel => exact ⟨_, ((((rd_T106 x3_1 (ji10)).f2) == ((rd_T106 l0 x9_1).f2))), (by first | rfl | (simp; done) | (simp only [← hji10] <;> (first | rfl | simp)) | (simp [*]; done)), H', ⟨by have := HK1.out; first | omega | exact Nat.le_refl _⟩, ⟨by (with_reducible repeat (first | apply Kd.R_alloc | apply Kd.R_drewN | apply Kd.R_drew)); exact Kd.R_mono (Kd.R_far (p := ⟨gb174, 2, none⟩) (Kd.R_far (p := ⟨gb174, 1, none⟩) (Kd.R_far (p := ⟨gb174, 0, none⟩) (Kd.R_mono HO_3.out (fun k_ hk => (⟨hk, hk.2⟩ : _ ∧ k_ ≠ gb174))) (fun _ hk => hk.2) (.int .i64 ((rd_T106 l0 x9_1).f0))) (fun _ hk => hk.2) (.int .i64 ((rd_T106 l0 x9_1).f1))) (fun _ hk => hk.2) (.int .i64 ((rd_T106 l0 x9_1).f2))) (fun _ hk => hk.1.2)⟩, ⟨by (with_reducible repeat (first | refine blk_drewN ?_ _ | refine blk_drew ?_ | refine blk_alloc ?_ _)); refine blk_put (cs := #[.int .i64 ((rd_T106 l0 x9_1).f0), .int .i64 ((rd_T106 l0 x9_1).f1), .int .i64 0]) ?_ 2 _ rfl; (with_reducible repeat (first | refine blk_drewN ?_ _ | refine blk_drew ?_ | refine blk_alloc ?_ _)); refine blk_put (cs := #[.int .i64 ((rd_T106 l0 x9_1).f0), .int .i64 0, .int .i64 0]) ?_ 1 _ rfl; (with_reducible repeat (first | refine blk_drewN ?_ _ | refine blk_drew ?_ | refine blk_alloc ?_ _)); refine blk_put (cs := #[.int .i64 0, .int .i64 0, .int .i64 0]) ?_ 0 _ rfl; (with_reducible repeat (first | refine blk_drewN ?_ _ | refine blk_drew ?_ | refine blk_alloc ?_ _)); exact BK174.out⟩, ⟨by repeat (first | (with_reducible first | exact HB.out | apply below_alloc | apply pw_below_drewN | apply below_drew1 | refine below_set ?_ GE174.out) | exact HB.out)⟩⟩
                    · rw [if_neg c13] at H
                      have c13b0 : (((rd_T106 x3_1 (ji10)).f1) == ((rd_T106 l0 x9_1).f1)) = false := beq_eq_false_iff_ne.mpr c13
                      have c13b1 : (((rd_T106 x3_1 (ji10)).f1) != ((rd_T106 l0 x9_1).f1)) = true := bne_iff_ne.mpr c13
                      have H' := Aside0.mk H
                      clear H
                      have p175 : 0 ≤ ((ji10) : Int) := of_decide_eq_true (by first | (with_reducible assumption) | assumption)
                      have q175 : (ji10) < (x3_1.length : Int) := of_decide_eq_true (by first | (with_reducible assumption) | assumption)
                      obtain ⟨ad175, e175, hx175_0, hx175_1, hx175_2⟩ := at_T106 (Kd.R_reads' HO_3.out).2.2 (ji10) p175 q175
                      cases e175
                      have hn175_0 : ad175.block ≠ gb174 := Kd.own_blk (by first | (refine Kd.R_ne HO_3.out BK174.out ?_; decide) | exact Kd.R_away HO_3.out (fun _ hk => hk) | exact Kd.R_away HO_3.out (fun _ hk => hk.1) | exact Kd.R_away HO_3.out (fun _ hk => hk.2) | exact Kd.R_away HO_3.out (fun _ hk => hk.1.2))
                      have hn175_1 : ad175.block ≠ gb174 := Kd.own_blk (by first | (refine Kd.R_ne HO_3.out BK174.out ?_; decide) | exact Kd.R_away HO_3.out (fun _ hk => hk) | exact Kd.R_away HO_3.out (fun _ hk => hk.1) | exact Kd.R_away HO_3.out (fun _ hk => hk.2) | exact Kd.R_away HO_3.out (fun _ hk => hk.1.2))
                      have hn175_2 : ad175.block ≠ gb174 := Kd.own_blk (by first | (refine Kd.R_ne HO_3.out BK174.out ?_; decide) | exact Kd.R_away HO_3.out (fun _ hk => hk) | exact Kd.R_away HO_3.out (fun _ hk => hk.1) | exact Kd.R_away HO_3.out (fun _ hk => hk.2) | exact Kd.R_away HO_3.out (fun _ hk => hk.1.2))
                      replace hx175_0 := (cell_far (p := ⟨gb174, 0, none⟩) (by first | (rw [add_block]; exact hn175_0) | (show (Addr.add _ _).block ≠ _; rw [add_block]; exact hn175_0) | exact hn175_0) (.int .i64 ((rd_T106 l0 x9_1).f0))).trans hx175_0
                      replace hx175_1 := (cell_far (p := ⟨gb174, 0, none⟩) (by first | (rw [add_block]; exact hn175_0) | (show (Addr.add _ _).block ≠ _; rw [add_block]; exact hn175_0) | exact hn175_0) (.int .i64 ((rd_T106 l0 x9_1).f0))).trans hx175_1
                      replace hx175_2 := (cell_far (p := ⟨gb174, 0, none⟩) (by first | (rw [add_block]; exact hn175_0) | (show (Addr.add _ _).block ≠ _; rw [add_block]; exact hn175_0) | exact hn175_0) (.int .i64 ((rd_T106 l0 x9_1).f0))).trans hx175_2
                      replace hx175_0 := (cell_far (p := ⟨gb174, 1, none⟩) (by first | (rw [add_block]; exact hn175_1) | (show (Addr.add _ _).block ≠ _; rw [add_block]; exact hn175_1) | exact hn175_1) (.int .i64 ((rd_T106 l0 x9_1).f1))).trans hx175_0
                      replace hx175_1 := (cell_far (p := ⟨gb174, 1, none⟩) (by first | (rw [add_block]; exact hn175_1) | (show (Addr.add _ _).block ≠ _; rw [add_block]; exact hn175_1) | exact hn175_1) (.int .i64 ((rd_T106 l0 x9_1).f1))).trans hx175_1
                      replace hx175_2 := (cell_far (p := ⟨gb174, 1, none⟩) (by first | (rw [add_block]; exact hn175_1) | (show (Addr.add _ _).block ≠ _; rw [add_block]; exact hn175_1) | exact hn175_1) (.int .i64 ((rd_T106 l0 x9_1).f1))).trans hx175_2
                      replace hx175_0 := (cell_far (p := ⟨gb174, 2, none⟩) (by first | (rw [add_block]; exact hn175_2) | (show (Addr.add _ _).block ≠ _; rw [add_block]; exact hn175_2) | exact hn175_2) (.int .i64 ((rd_T106 l0 x9_1).f2))).trans hx175_0
                      replace hx175_1 := (cell_far (p := ⟨gb174, 2, none⟩) (by first | (rw [add_block]; exact hn175_2) | (show (Addr.add _ _).block ≠ _; rw [add_block]; exact hn175_2) | exact hn175_2) (.int .i64 ((rd_T106 l0 x9_1).f2))).trans hx175_1
                      replace hx175_2 := (cell_far (p := ⟨gb174, 2, none⟩) (by first | (rw [add_block]; exact hn175_2) | (show (Addr.add _ _).block ≠ _; rw [add_block]; exact hn175_2) | exact hn175_2) (.int .i64 ((rd_T106 l0 x9_1).f2))).trans hx175_2
                      (try have hy175_0 := fun (n_ : Nat) => (show (((((w6.drewN n_).setCell ⟨gb174, 0, none⟩ (.int .i64 ((rd_T106 l0 x9_1).f0))).setCell ⟨gb174, 1, none⟩ (.int .i64 ((rd_T106 l0 x9_1).f1))).setCell ⟨gb174, 2, none⟩ (.int .i64 ((rd_T106 l0 x9_1).f2)))).cell? _ = some _ from hx175_0))
                      (try have hy175_1 := fun (n_ : Nat) => (show (((((w6.drewN n_).setCell ⟨gb174, 0, none⟩ (.int .i64 ((rd_T106 l0 x9_1).f0))).setCell ⟨gb174, 1, none⟩ (.int .i64 ((rd_T106 l0 x9_1).f1))).setCell ⟨gb174, 2, none⟩ (.int .i64 ((rd_T106 l0 x9_1).f2)))).cell? _ = some _ from hx175_1))
                      (try have hy175_2 := fun (n_ : Nat) => (show (((((w6.drewN n_).setCell ⟨gb174, 0, none⟩ (.int .i64 ((rd_T106 l0 x9_1).f0))).setCell ⟨gb174, 1, none⟩ (.int .i64 ((rd_T106 l0 x9_1).f1))).setCell ⟨gb174, 2, none⟩ (.int .i64 ((rd_T106 l0 x9_1).f2)))).cell? _ = some _ from hx175_2))
                      clear hn175_0
                      clear hn175_1
                      clear hn175_2
                      replace p175 := eq_true p175
                      replace q175 := eq_true q175
                      have hcz15_0 : w6.cell? ⟨gb174, 0, none⟩ = some (.int .i64 0) := (blk_cell BK174.out 0).trans rfl
                      have hcz15_1 : w6.cell? ⟨gb174, 1, none⟩ = some (.int .i64 0) := (blk_cell BK174.out 1).trans rfl
                      have hcz15_2 : w6.cell? ⟨gb174, 2, none⟩ = some (.int .i64 0) := (blk_cell BK174.out 2).trans rfl
                      have hfz15_0 := blk_frozen BK174.out 0
                      have hfz15_1 := blk_frozen BK174.out 1
                      have hfz15_2 := blk_frozen BK174.out 2
                      go_wp2
                      repeat (go_quiet (fail); try go_wp2)
                      go_meet
                      case rel => exact ⟨_, (false), (by first | rfl | (simp; done) | (simp [*]; done)), H', ⟨by have := HK1.out; first | omega | exact Nat.le_refl _⟩, ⟨by (with_reducible repeat (first | apply Kd.R_alloc | apply Kd.R_drewN | apply Kd.R_drew)); exact Kd.R_mono (Kd.R_far (p := ⟨gb174, 2, none⟩) (Kd.R_far (p := ⟨gb174, 1, none⟩) (Kd.R_far (p := ⟨gb174, 0, none⟩) (Kd.R_mono HO_3.out (fun k_ hk => (⟨hk, hk.2⟩ : _ ∧ k_ ≠ gb174))) (fun _ hk => hk.2) (.int .i64 ((rd_T106 l0 x9_1).f0))) (fun _ hk => hk.2) (.int .i64 ((rd_T106 l0 x9_1).f1))) (fun _ hk => hk.2) (.int .i64 ((rd_T106 l0 x9_1).f2))) (fun _ hk => hk.1.2)⟩, ⟨by (with_reducible repeat (first | refine blk_drewN ?_ _ | refine blk_drew ?_ | refine blk_alloc ?_ _)); refine blk_put (cs := #[.int .i64 ((rd_T106 l0 x9_1).f0), .int .i64 ((rd_T106 l0 x9_1).f1), .int .i64 0]) ?_ 2 _ rfl; (with_reducible repeat (first | refine blk_drewN ?_ _ | refine blk_drew ?_ | refine blk_alloc ?_ _)); refine blk_put (cs := #[.int .i64 ((rd_T106 l0 x9_1).f0), .int .i64 0, .int .i64 0]) ?_ 1 _ rfl; (with_reducible repeat (first | refine blk_drewN ?_ _ | refine blk_drew ?_ | refine blk_alloc ?_ _)); refine blk_put (cs := #[.int .i64 0, .int .i64 0, .int .i64 0]) ?_ 0 _ rfl; (with_reducible repeat (first | refine blk_drewN ?_ _ | refine blk_drew ?_ | refine blk_alloc ?_ _)); exact BK174.out⟩, ⟨by repeat (first | (with_reducible first | exact HB.out | apply below_alloc | apply pw_below_drewN | apply below_drew1 | refine below_set ?_ GE174.out) | exact HB.out)⟩⟩
                  · rw [if_neg c12] at H
                    exact absurd H (by simp)
                · rw [if_neg c11] at H
                  exact absurd H (by simp)
              · rw [if_neg c9] at H
                have c9b0 : decide (0 < (x3_1.length : Int)) = false := decide_eq_false c9
                have c9b1 : decide (0 < x3_1.length) = false := decide_eq_false (by omega)
                clear c9
                (first | rw [c9b0] | (simp only [i64_w, i32_w]; rw [c9b0]) | skip)
                have H' := Aside0.mk H
                clear H
                go_wp2
                repeat (go_quiet (fail); try go_wp2)
                go_meet
                case rel => exact ⟨_, (false), (by first | rfl | (simp; done) | (simp [*]; done)), H', ⟨by have := HK1.out; first | omega | exact Nat.le_refl _⟩, ⟨by (with_reducible repeat (first | apply Kd.R_alloc | apply Kd.R_drewN | apply Kd.R_drew)); exact Kd.R_mono (Kd.R_far (p := ⟨gb174, 2, none⟩) (Kd.R_far (p := ⟨gb174, 1, none⟩) (Kd.R_far (p := ⟨gb174, 0, none⟩) (Kd.R_mono HO_3.out (fun k_ hk => (⟨hk, hk.2⟩ : _ ∧ k_ ≠ gb174))) (fun _ hk => hk.2) (.int .i64 ((rd_T106 l0 x9_1).f0))) (fun _ hk => hk.2) (.int .i64 ((rd_T106 l0 x9_1).f1))) (fun _ hk => hk.2) (.int .i64 ((rd_T106 l0 x9_1).f2))) (fun _ hk => hk.1.2)⟩, ⟨by (with_reducible repeat (first | refine blk_drewN ?_ _ | refine blk_drew ?_ | refine blk_alloc ?_ _)); refine blk_put (cs := #[.int .i64 ((rd_T106 l0 x9_1).f0), .int .i64 ((rd_T106 l0 x9_1).f1), .int .i64 0]) ?_ 2 _ rfl; (with_reducible repeat (first | refine blk_drewN ?_ _ | refine blk_drew ?_ | refine blk_alloc ?_ _)); refine blk_put (cs := #[.int .i64 ((rd_T106 l0 x9_1).f0), .int .i64 0, .int .i64 0]) ?_ 1 _ rfl; (with_reducible repeat (first | refine blk_drewN ?_ _ | refine blk_drew ?_ | refine blk_alloc ?_ _)); refine blk_put (cs := #[.int .i64 0, .int .i64 0, .int .i64 0]) ?_ 0 _ rfl; (with_reducible repeat (first | refine blk_drewN ?_ _ | refine blk_drew ?_ | refine blk_alloc ?_ _)); exact BK174.out⟩, ⟨by repeat (first | (with_reducible first | exact HB.out | apply below_alloc | apply pw_below_drewN | apply below_drew1 | refine below_set ?_ GE174.out) | exact HB.out)⟩⟩
            case rest =>
              clear HC5
              try clear c1
              try clear p1
              try clear q1
              try clear hx1
              try clear c2
              try clear c2b0
              try clear p2
              try clear c3
              try clear c3b0
              try clear c4
              try clear c4b0
              try clear c6
              try clear p6
              try clear c9
              try clear c9b0
              try clear c9b1
              try clear c11
              try clear c11b0
              try clear c12
              try clear c12b0
              try clear c13
              try clear c13b0
              try clear c13b1
              try clear hcz14_0
              try clear hcz14_1
              try clear hcz14_2
              try clear hcz15_0
              try clear hcz15_1
              try clear hcz15_2
              try clear hcz7_0
              try clear hcz7_1
              try clear hcz7_2
              try clear hfz14_0
              try clear hfz14_1
              try clear hfz14_2
              try clear hfz15_0
              try clear hfz15_1
              try clear hfz15_2
              try clear hfz7_0
              try clear hfz7_1
              try clear hfz7_2
              try clear hx173_0
              try clear hx173_1
              try clear hx173_2
              try clear hx175_0
              try clear hx175_1
              try clear hx175_2
              try clear hx176_0
              try clear hx176_1
              try clear hx176_2
              try clear p173
              try clear p175
              try clear p176
              try clear q173
              try clear q175
              try clear q176
              obtain ⟨kq, x38_4, rfl, HA, HJ4, HO_3, BK174, HB⟩ := hcut
              cases kq with
              | zero => exact absurd HA.out (by simp [band_Join.j1])
              | succ kj4 =>
                have H := HA.out
                clear HA
                simp only [band_Join.j1] at H
                by_cases c16 : x38_4 = true
                · subst c16
                  have H1 : (band_Join.l0 kj4 x3_1 l0 (l0.length : Int) (wrap64 (x9_1 + 1))) = some r := by rw [if_pos rfl] at H; exact H
                  clear H
                  have H := H1
                  clear H1
                  have H' := Aside0.mk H
                  clear H
                  go_wp2
                  repeat (go_quiet (fail); try go_wp2)
                  go_roundg kj4
                  case measure => have := HK1.out; have := HJ4.out; omega
                  case rel => exact ⟨(x3_1), (wrap64 (x9_1 + 1)), (by first | rfl | (simp; done) | (simp [*]; done)), H', ⟨by have := HK1.out; have := HJ4.out; omega⟩, ⟨by (with_reducible repeat (first | apply Kd.R_alloc | apply Kd.R_drewN | apply Kd.R_drew)); exact Kd.R_mono HO_3.out (fun _ hk => trivial)⟩, ⟨by repeat (first | (with_reducible first | exact HB.out | apply below_alloc | apply pw_below_drewN | apply below_drew1 | refine below_set ?_ GE174.out) | exact HB.out)⟩⟩
                · replace c16 := Bool.eq_false_iff.mpr c16
                  subst c16
                  have H1 : (if x3_1.length < 5864062014805 then (band_Join.l0 kj4 (x3_1 ++ [(⟨((rd_T106 l0 x9_1).f0), ((rd_T106 l0 x9_1).f1), ((rd_T106 l0 x9_1).f2)⟩ : S106)]) l0 (l0.length : Int) (wrap64 (x9_1 + 1))) else (none)) = some r := by rw [if_neg (show ¬ (false = true) by decide)] at H; exact H
                  clear H
                  have H := H1
                  clear H1
                  by_cases c17 : x3_1.length < 5864062014805
                  · rw [if_pos c17] at H
                    have LMc17 := Aside0.mk c17
                    clear c17
                    obtain ⟨y177, hy177⟩ : ∃ y_ : List (S106), y_ = (x3_1 ++ [(⟨((rd_T106 l0 x9_1).f0), ((rd_T106 l0 x9_1).f1), ((rd_T106 l0 x9_1).f2)⟩ : S106)]) := ⟨_, rfl⟩
                    replace H : (band_Join.l0 kj4 y177 l0 (l0.length : Int) (wrap64 (x9_1 + 1))) = some r := by first | (rw [hy177]; with_reducible exact H) | (have H2_ := (Option.bind_some _ _).symm.trans H; rw [hy177]; with_reducible exact H2_) | (have H2_ := (Option.bind_some _ _).symm.trans H; with_reducible exact H2_) | with_reducible exact H | (rw [hy177]; exact H) | exact H
                    have Ny177 := Aside0.mk hy177
                    clear hy177
                    have H' := Aside0.mk H
                    clear H
                    have hcz18_0 : wc.cell? ⟨gb174, 0, none⟩ = some (.int .i64 ((rd_T106 l0 x9_1).f0)) := (blk_cell BK174.out 0).trans rfl
                    have hcz18_1 : wc.cell? ⟨gb174, 1, none⟩ = some (.int .i64 ((rd_T106 l0 x9_1).f1)) := (blk_cell BK174.out 1).trans rfl
                    have hcz18_2 : wc.cell? ⟨gb174, 2, none⟩ = some (.int .i64 ((rd_T106 l0 x9_1).f2)) := (blk_cell BK174.out 2).trans rfl
                    have hfz18_0 := blk_frozen BK174.out 0
                    have hfz18_1 := blk_frozen BK174.out 1
                    have hfz18_2 := blk_frozen BK174.out 2
                    go_wp2_with (first | ((with_reducible refine gate_builtin (b := .append) (xs := #[.tmp 39, .tmp 41]) rfl ?_); at_builtin; refine Kd.R_append k106 (w0 := w) w.heap.size rfl (.tmp 39) (.tmp 41) 43 106 (.agg #[(.int .i64 0), (.int .i64 0), (.int .i64 0)]) 24 rfl Try.underlying43 info106 rfl (by decide) (by omega) (.slice Ao8 x3_1.length co8) x3_1 (⟨((rd_T106 l0 x9_1).f0), ((rd_T106 l0 x9_1).f1), ((rd_T106 l0 x9_1).f2)⟩ : S106) [.int .i64 ((rd_T106 l0 x9_1).f0), .int .i64 ((rd_T106 l0 x9_1).f1), .int .i64 ((rd_T106 l0 x9_1).f2)] (fun k_ => k_ ≠ gb174) (fun _ => False) rfl rfl ?aP (fun _ hk => hk.elim) ?aF ?aO ?aB ?aS ?aL ?_; (case aP => exact k106_mkM _ _ _ (⟨((rd_T106 l0 x9_1).f0), ((rd_T106 l0 x9_1).f1), ((rd_T106 l0 x9_1).f2)⟩ : S106)); (case aB => exact (by repeat (first | (with_reducible first | exact HB.out | apply below_alloc | apply pw_below_drewN | apply below_drew1 | refine below_set ?_ GE174.out) | exact HB.out))); (case aF => exact (fun k_ hk => Kd.freshB (g := gb174) (o := .cells #[.int .i64 ((rd_T106 l0 x9_1).f0), .int .i64 ((rd_T106 l0 x9_1).f1), .int .i64 ((rd_T106 l0 x9_1).f2)] 106 (0, 0)) (by (with_reducible repeat (first | refine blk_drewN ?_ _ | refine blk_drew ?_ | refine blk_alloc ?_ _)); exact BK174.out) k_ hk)); (case aO => exact (by (with_reducible repeat (first | apply Kd.R_alloc | apply Kd.R_drewN | apply Kd.R_drew)); exact HO_3.out)); (case aS => exact (below_size (by repeat (first | (with_reducible first | exact HB.out | apply below_alloc | apply pw_below_drewN | apply below_drew1 | refine below_set ?_ GE174.out) | exact HB.out)))); (case aL => have := LMc17.out; omega); intro v178 w19 ho hb hg hat; rw [← Ny177.out] at ho; have n0_ := Aside0.mk (blk_grown (g := gb174) (o := .cells #[.int .i64 ((rd_T106 l0 x9_1).f0), .int .i64 ((rd_T106 l0 x9_1).f1), .int .i64 ((rd_T106 l0 x9_1).f2)] 106 (0, 0)) (by (with_reducible repeat (first | refine blk_drewN ?_ _ | refine blk_drew ?_ | refine blk_alloc ?_ _)); exact BK174.out) hg (Kd.R_away HO_3.out (fun _ hk => hk))); have n1_ := Aside0.mk (hb); have n2_ := Aside0.mk (ho); clear BK174; clear HB; clear HO_3; have BK174 := n0_; have HB := n1_; have HO179 := n2_; clear n0_ n1_ n2_; clear ho hb hg hat))
                    repeat (go_quiet (first | ((with_reducible refine gate_builtin (b := .append) (xs := #[.tmp 39, .tmp 41]) rfl ?_); at_builtin; refine Kd.R_append k106 (w0 := w) w.heap.size rfl (.tmp 39) (.tmp 41) 43 106 (.agg #[(.int .i64 0), (.int .i64 0), (.int .i64 0)]) 24 rfl Try.underlying43 info106 rfl (by decide) (by omega) (.slice Ao8 x3_1.length co8) x3_1 (⟨((rd_T106 l0 x9_1).f0), ((rd_T106 l0 x9_1).f1), ((rd_T106 l0 x9_1).f2)⟩ : S106) [.int .i64 ((rd_T106 l0 x9_1).f0), .int .i64 ((rd_T106 l0 x9_1).f1), .int .i64 ((rd_T106 l0 x9_1).f2)] (fun k_ => k_ ≠ gb174) (fun _ => False) rfl rfl ?aP (fun _ hk => hk.elim) ?aF ?aO ?aB ?aS ?aL ?_; (case aP => exact k106_mkM _ _ _ (⟨((rd_T106 l0 x9_1).f0), ((rd_T106 l0 x9_1).f1), ((rd_T106 l0 x9_1).f2)⟩ : S106)); (case aB => exact (by repeat (first | (with_reducible first | exact HB.out | apply below_alloc | apply pw_below_drewN | apply below_drew1 | refine below_set ?_ GE174.out) | exact HB.out))); (case aF => exact (fun k_ hk => Kd.freshB (g := gb174) (o := .cells #[.int .i64 ((rd_T106 l0 x9_1).f0), .int .i64 ((rd_T106 l0 x9_1).f1), .int .i64 ((rd_T106 l0 x9_1).f2)] 106 (0, 0)) (by (with_reducible repeat (first | refine blk_drewN ?_ _ | refine blk_drew ?_ | refine blk_alloc ?_ _)); exact BK174.out) k_ hk)); (case aO => exact (by (with_reducible repeat (first | apply Kd.R_alloc | apply Kd.R_drewN | apply Kd.R_drew)); exact HO_3.out)); (case aS => exact (below_size (by repeat (first | (with_reducible first | exact HB.out | apply below_alloc | apply pw_below_drewN | apply below_drew1 | refine below_set ?_ GE174.out) | exact HB.out)))); (case aL => have := LMc17.out; omega); intro v178 w19 ho hb hg hat; rw [← Ny177.out] at ho; have n0_ := Aside0.mk (blk_grown (g := gb174) (o := .cells #[.int .i64 ((rd_T106 l0 x9_1).f0), .int .i64 ((rd_T106 l0 x9_1).f1), .int .i64 ((rd_T106 l0 x9_1).f2)] 106 (0, 0)) (by (with_reducible repeat (first | refine blk_drewN ?_ _ | refine blk_drew ?_ | refine blk_alloc ?_ _)); exact BK174.out) hg (Kd.R_away HO_3.out (fun _ hk => hk))); have n1_ := Aside0.mk (hb); have n2_ := Aside0.mk (ho); clear BK174; clear HB; clear HO_3; have BK174 := n0_; have HB := n1_; have HO179 := n2_; clear n0_ n1_ n2_; clear ho hb hg hat)); try go_wp2_with (first | ((with_reducible refine gate_builtin (b := .append) (xs := #[.tmp 39, .tmp 41]) rfl ?_); at_builtin; refine Kd.R_append k106 (w0 := w) w.heap.size rfl (.tmp 39) (.tmp 41) 43 106 (.agg #[(.int .i64 0), (.int .i64 0), (.int .i64 0)]) 24 rfl Try.underlying43 info106 rfl (by decide) (by omega) (.slice Ao8 x3_1.length co8) x3_1 (⟨((rd_T106 l0 x9_1).f0), ((rd_T106 l0 x9_1).f1), ((rd_T106 l0 x9_1).f2)⟩ : S106) [.int .i64 ((rd_T106 l0 x9_1).f0), .int .i64 ((rd_T106 l0 x9_1).f1), .int .i64 ((rd_T106 l0 x9_1).f2)] (fun k_ => k_ ≠ gb174) (fun _ => False) rfl rfl ?aP (fun _ hk => hk.elim) ?aF ?aO ?aB ?aS ?aL ?_; (case aP => exact k106_mkM _ _ _ (⟨((rd_T106 l0 x9_1).f0), ((rd_T106 l0 x9_1).f1), ((rd_T106 l0 x9_1).f2)⟩ : S106)); (case aB => exact (by repeat (first | (with_reducible first | exact HB.out | apply below_alloc | apply pw_below_drewN | apply below_drew1 | refine below_set ?_ GE174.out) | exact HB.out))); (case aF => exact (fun k_ hk => Kd.freshB (g := gb174) (o := .cells #[.int .i64 ((rd_T106 l0 x9_1).f0), .int .i64 ((rd_T106 l0 x9_1).f1), .int .i64 ((rd_T106 l0 x9_1).f2)] 106 (0, 0)) (by (with_reducible repeat (first | refine blk_drewN ?_ _ | refine blk_drew ?_ | refine blk_alloc ?_ _)); exact BK174.out) k_ hk)); (case aO => exact (by (with_reducible repeat (first | apply Kd.R_alloc | apply Kd.R_drewN | apply Kd.R_drew)); exact HO_3.out)); (case aS => exact (below_size (by repeat (first | (with_reducible first | exact HB.out | apply below_alloc | apply pw_below_drewN | apply below_drew1 | refine below_set ?_ GE174.out) | exact HB.out)))); (case aL => have := LMc17.out; omega); intro v178 w19 ho hb hg hat; rw [← Ny177.out] at ho; have n0_ := Aside0.mk (blk_grown (g := gb174) (o := .cells #[.int .i64 ((rd_T106 l0 x9_1).f0), .int .i64 ((rd_T106 l0 x9_1).f1), .int .i64 ((rd_T106 l0 x9_1).f2)] 106 (0, 0)) (by (with_reducible repeat (first | refine blk_drewN ?_ _ | refine blk_drew ?_ | refine blk_alloc ?_ _)); exact BK174.out) hg (Kd.R_away HO_3.out (fun _ hk => hk))); have n1_ := Aside0.mk (hb); have n2_ := Aside0.mk (ho); clear BK174; clear HB; clear HO_3; have BK174 := n0_; have HB := n1_; have HO179 := n2_; clear n0_ n1_ n2_; clear ho hb hg hat)))
                    go_roundg kj4
                    case measure => have := HK1.out; have := HJ4.out; omega
                    case rel => exact ⟨(y177), (wrap64 (x9_1 + 1)), (by first | rfl | (simp; done) | (simp [*]; done)), H', ⟨by have := HK1.out; have := HJ4.out; omega⟩, ⟨by (with_reducible repeat (first | apply Kd.R_alloc | apply Kd.R_drewN | apply Kd.R_drew)); exact Kd.R_mono HO179.out (fun _ hk => trivial)⟩, ⟨by repeat (first | (with_reducible first | exact HB.out | apply below_alloc | apply pw_below_drewN | apply below_drew1 | refine below_set ?_ GE174.out) | exact HB.out)⟩⟩
                  · rw [if_neg c17] at H
                    exact absurd H (by simp)
          · rw [if_neg c4] at H
            exact absurd H (by simp)
        · rw [if_neg c3] at H
          exact absurd H (by simp)
      · rw [if_neg c2] at H
        have c2b0 : decide (x9_1 < (l0.length : Int)) = false := decide_eq_false c2
        clear c2
        obtain rfl := Option.some.inj H
        go_wp2
        repeat (go_quiet (fail); try go_wp2)
        go_ret
        exact ⟨_, by first | rfl | (simp [errW_none, errW_some] <;> rfl) | (simp [*, errW_none, errW_some] <;> rfl), by (with_reducible repeat (first | apply Kd.R_alloc | apply Kd.R_drewN | apply Kd.R_drew)); exact HO_3.out, by repeat (first | (with_reducible first | exact HB.out | apply below_alloc | apply pw_below_drewN | apply below_drew1) | exact HB.out)⟩

end Go.Proofs.Ytcapgmoipacioaa.P
