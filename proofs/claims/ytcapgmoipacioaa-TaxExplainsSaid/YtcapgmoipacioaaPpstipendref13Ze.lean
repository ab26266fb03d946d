import Derived.Test.YtcapgmoipacioaaPtZe
import Derived.Test.YtcapgmoipacioaaY1Ze
namespace Go.Proofs.Ytcapgmoipacioaa.P
open Go.RowKit Go.Proofs.YtcapgmoipacioaaW.PrintWords Go.Proofs.YtcapgmoipacioaaW.PrintLast Go.Proofs.YtcapgmoipacioaaW.PrintMore
set_option linter.unusedVariables false
set_option linter.unusedSimpArgs false
def stipendref13_Free.f (a0_0 : Int) (a0_1 : Int) (a0_2 : Int) (a0_3 : Int) (a0_4 : Bool) (a1 : Int) (a2 : Int) : Option (Int) := if a2 = 0 then (none) else (if a0_1 = 2 then (some (wrap64 (-(wrap64 (Int.tdiv (wrap64 (a0_2 * a1)) a2))))) else (some (wrap64 (Int.tdiv (wrap64 (a0_2 * a1)) a2))))
set_option maxHeartbeats 8000000 in
set_option maxRecDepth 100000 in
theorem stipendref13_Free.calls (a0_0 : Int) (a0_1 : Int) (a0_2 : Int) (a0_3 : Int) (a0_4 : Bool) (a1 : Int) (a2 : Int) (r : Int) (w : World) (h : stipendref13_Free.f a0_0 a0_1 a0_2 a0_3 a0_4 a1 a2 = some r) :
  Calls Try.prog 132 #[.agg #[.int .i64 a0_0, .int .i64 a0_1, .int .i64 a0_2, .int .i64 a0_3, .bool a0_4], .int .i64 a1, .int .i64 a2] w fun e w' => e = .returned (.int .i64 r) ∧ Below w.heap.size w w' := by
 have hu88 := Try.underlying88; have HB := A_ (Below.refl w.heap.size w); unfold stipendref13_Free.f at h; have H := h; clear h; by_cases c4 : a2 = 0
 ·rw [if_pos c4] at H; exact absurd H (by simp)
 ·rw [if_neg c4] at H; have c4b0 : (a2 == 0) = false := beq_eq_false_iff_ne.mpr c4; have c4b1 : (a2 != 0) = true := bne_iff_ne.mpr c4; by_cases c5 : a0_1 = 2
  ·rw [if_pos c5] at H; have c5b0 : (a0_1 == 2) = true := beq_iff_eq.mpr c5; have c5b1 : (a0_1 != 2) = false := bne_eq_false_iff_eq.mpr c5; clear c5; obtain rfl := Option.some.inj H; go_enter Try.func132, Try.ntmps132
   go_wp2_with (first | ((with_reducible refine gate_dst (N := 3) rfl ?_); refine be_ (N := 3) (cs := #[.int .i64 a0_0, .int .i64 a0_1, .int .i64 a0_2, .int .i64 a0_3, .bool a0_4]) (t := 88) ?_; intro gb1060 hg w6 hbox hb; have BK1060 := A_ (hbox); have GW1060 := A_ ((by rw [hg]; exact (below_size (bl_ HB)) : w.heap.size ≤ gb1060)); have GE1060 := A_ ((by rw [hg]; exact (below_size (bl_ HB)) : w.heap.size ≤ gb1060)); replace HB := A_ (below_step (bl_ HB) hb); clear hb hbox hg; have hcz7_0 := cz_ BK1060 0; have hcz7_1 := cz_ BK1060 1; have hcz7_2 := cz_ BK1060 2; have hcz7_3 := cz_ BK1060 3; have hcz7_4 := cz_ BK1060 4; have hfz7_0 := fz_ BK1060 0; have hfz7_1 := fz_ BK1060 1; have hfz7_2 := fz_ BK1060 2; have hfz7_3 := fz_ BK1060 3; have hfz7_4 := fz_ BK1060 4))
   go_ret
   exact ⟨er_, bl1_ HB GE1060.out⟩
  ·rw [if_neg c5] at H; have c5b0 : (a0_1 == 2) = false := beq_eq_false_iff_ne.mpr c5; have c5b1 : (a0_1 != 2) = true := bne_iff_ne.mpr c5; obtain rfl := Option.some.inj H; go_enter Try.func132, Try.ntmps132
   go_wp2_with (first | ((with_reducible refine gate_dst (N := 3) rfl ?_); refine be_ (N := 3) (cs := #[.int .i64 a0_0, .int .i64 a0_1, .int .i64 a0_2, .int .i64 a0_3, .bool a0_4]) (t := 88) ?_; intro gb1060 hg w8 hbox hb; have BK1060 := A_ (hbox); have GW1060 := A_ ((by rw [hg]; exact (below_size (bl_ HB)) : w.heap.size ≤ gb1060)); have GE1060 := A_ ((by rw [hg]; exact (below_size (bl_ HB)) : w.heap.size ≤ gb1060)); replace HB := A_ (below_step (bl_ HB) hb); clear hb hbox hg; have hcz9_0 := cz_ BK1060 0; have hcz9_1 := cz_ BK1060 1; have hcz9_2 := cz_ BK1060 2; have hcz9_3 := cz_ BK1060 3; have hcz9_4 := cz_ BK1060 4; have hfz9_0 := fz_ BK1060 0; have hfz9_1 := fz_ BK1060 1; have hfz9_2 := fz_ BK1060 2; have hfz9_3 := fz_ BK1060 3; have hfz9_4 := fz_ BK1060 4))
   go_ret
   exact ⟨er_, bl1_ HB GE1060.out⟩
mutual
def stipendref13_Exact.j0 : Nat → Int → Int → List (S106) → Int → Int → Int → Int → Int → Bool → Option (Int)
 | 0, _, _, _, _, _, _, _, _, _ => none
 | k + 1, x3, x4, x11, x12, x1063000, x1063001, x1063002, x1063003, x1063004 => if x1063001 = 3 then (if 0 ≤ x1063003 then (if x1063003 < (x11.length : Int) then (some (wrap64 (x12 * ((rd_T106 x11 x1063003).f1)))) else (none)) else (none)) else (stipendref13_Exact.l0 k x3 x4 x11 x12 0 0)
def stipendref13_Exact.l0 : Nat → Int → Int → List (S106) → Int → Int → Int → Option (Int)
 | 0, _, _, _, _, _, _ => none
 | k + 1, x3, x4, x11, x12, x13, x14 => if x14 < (x11.length : Int) then (if 0 ≤ x14 then (if x4 = 0 then (none) else (if (wrap64 (x14 + 1)) < (x11.length : Int) then (if 0 ≤ (wrap64 (x14 + 1)) then (if (wrap64 (Int.tdiv (wrap64 (((rd_T106 x11 (wrap64 (x14 + 1))).f0) * x3)) x4)) < x12 then (stipendref13_Exact.j2 k x3 x4 x11 x12 x13 x14 (wrap64 (Int.tdiv (wrap64 (((rd_T106 x11 x14).f0) * x3)) x4)) (wrap64 (Int.tdiv (wrap64 (((rd_T106 x11 (wrap64 (x14 + 1))).f0) * x3)) x4))) else (stipendref13_Exact.j2 k x3 x4 x11 x12 x13 x14 (wrap64 (Int.tdiv (wrap64 (((rd_T106 x11 x14).f0) * x3)) x4)) x12)) else (none)) else (stipendref13_Exact.j2 k x3 x4 x11 x12 x13 x14 (wrap64 (Int.tdiv (wrap64 (((rd_T106 x11 x14).f0) * x3)) x4)) x12))) else (none)) else (some x13)
def stipendref13_Exact.j2 : Nat → Int → Int → List (S106) → Int → Int → Int → Int → Int → Option (Int)
 | 0, _, _, _, _, _, _, _, _ => none
 | k + 1, x3, x4, x11, x12, x13, x14, x15, x16 => if x16 > x15 then (if 0 ≤ x14 then (if x14 < (x11.length : Int) then (stipendref13_Exact.l0 k x3 x4 x11 x12 (wrap64 (x13 + (wrap64 ((wrap64 (x16 - x15)) * ((rd_T106 x11 x14).f1))))) (wrap64 (x14 + 1))) else (none)) else (none)) else (stipendref13_Exact.l0 k x3 x4 x11 x12 x13 (wrap64 (x14 + 1)))
end
def stipendref13_Exact.f (k : Nat) (l0_0 : List (List (S106))) (l0_1 : List (S120)) (l0_2 : List (S209)) (a0_3 : Int) (a0_4 : Int) (a1_0 : Int) (a1_1 : Int) (a1_2 : Int) (a1_3 : Int) (a1_4 : Bool) (a2 : Int) (a3 : Int) (a4 : Int) : Option (Int) := if a1_1 = 4 then (some 0) else (if 0 ≤ a1_0 then (if a1_0 < (l0_0.length : Int) then ((stipendref13_Free.f a1_0 a1_1 a1_2 a1_3 a1_4 a3 a4).bind fun t1064 => (if (wrap64 (a2 - t1064)) < 0 then (stipendref13_Exact.j0 k a3 a4 (rd_L3 l0_0 a1_0) 0 a1_0 a1_1 a1_2 a1_3 a1_4) else (stipendref13_Exact.j0 k a3 a4 (rd_L3 l0_0 a1_0) (wrap64 (a2 - t1064)) a1_0 a1_1 a1_2 a1_3 a1_4))) else (none)) else (none))
set_option maxHeartbeats 8000000 in
set_option maxRecDepth 100000 in
theorem stipendref13_Exact.calls (k : Nat) (A0_0 : Option Addr) (c0_0 : Nat) (l0_0 : List (List (S106))) (A0_1 : Option Addr) (c0_1 : Nat) (l0_1 : List (S120)) (A0_2 : Option Addr) (c0_2 : Nat) (l0_2 : List (S209)) (a0_3 : Int) (a0_4 : Int) (a1_0 : Int) (a1_1 : Int) (a1_2 : Int) (a1_3 : Int) (a1_4 : Bool) (a2 : Int) (a3 : Int) (a4 : Int) (r : Int) (w : World) (hr0_0 : Kd.C (Kd.slice 106 k106) w A0_0 l0_0.length l0_0) (hc0_0 : l0_0.length ≤ c0_0) (hr0_1 : Kd.C k120 w A0_1 l0_1.length l0_1) (hc0_1 : l0_1.length ≤ c0_1) (hr0_2 : Kd.C k209 w A0_2 l0_2.length l0_2) (hc0_2 : l0_2.length ≤ c0_2) (h : stipendref13_Exact.f k l0_0 l0_1 l0_2 a0_3 a0_4 a1_0 a1_1 a1_2 a1_3 a1_4 a2 a3 a4 = some r) :
  Calls Try.prog 82 #[.agg #[.slice A0_0 l0_0.length c0_0, .slice A0_1 l0_1.length c0_1, .slice A0_2 l0_2.length c0_2, .int .i64 a0_3, .int .i64 a0_4], .agg #[.int .i64 a1_0, .int .i64 a1_1, .int .i64 a1_2, .int .i64 a1_3, .bool a1_4], .int .i64 a2, .int .i64 a3, .int .i64 a4] w fun e w' => e = .returned (.int .i64 r) ∧ Below w.heap.size w w' := by
 have hu56 := Try.underlying56; have hu88 := Try.underlying88; have HR0_0 := A_ hr0_0; have HC0_0 := A_ hc0_0; clear hr0_0 hc0_0; have HR0_1 := A_ hr0_1; have HC0_1 := A_ hc0_1; clear hr0_1 hc0_1; have HR0_2 := A_ hr0_2; have HC0_2 := A_ hc0_2; clear hr0_2 hc0_2; have HB := A_ (Below.refl w.heap.size w); unfold stipendref13_Exact.f at h; have H := h; clear h; by_cases c6 : a1_1 = 4
 ·rw [if_pos c6] at H; have c6b0 : (a1_1 == 4) = true := beq_iff_eq.mpr c6; have c6b1 : (a1_1 != 4) = false := bne_eq_false_iff_eq.mpr c6; clear c6; obtain rfl := Option.some.inj H; go_enter Try.func82, Try.ntmps82
  go_wp2_with (first | ((with_reducible refine gate_dst (N := 5) rfl ?_); refine be_ (N := 5) (cs := #[.slice A0_0 l0_0.length c0_0, .slice A0_1 l0_1.length c0_1, .slice A0_2 l0_2.length c0_2, .int .i64 a0_3, .int .i64 a0_4]) (t := 56) ?_; intro gb1061 hg w7 hbox hb; have BK1061 := A_ (hbox); have GW1061 := A_ ((by rw [hg]; exact (below_size (bl_ HB)) : w.heap.size ≤ gb1061)); have GE1061 := A_ ((by rw [hg]; exact (below_size (bl_ HB)) : w.heap.size ≤ gb1061)); replace HB := A_ (below_step (bl_ HB) hb); clear hb hbox hg) | ((with_reducible refine gate_dst (N := 6) rfl ?_); refine be_ (N := 6) (cs := #[.int .i64 a1_0, .int .i64 a1_1, .int .i64 a1_2, .int .i64 a1_3, .bool a1_4]) (t := 88) ?_; intro gb1062 hg w8 hbox hb; have BK1062 := A_ (hbox); have GW1062 := A_ ((by rw [hg]; exact (below_size (bl1_ HB GE1061.out)) : w.heap.size ≤ gb1062)); have GE1062 := A_ ((by rw [hg]; exact (below_size (bl1_ HB GE1061.out)) : w.heap.size ≤ gb1062)); have NB1061_1062 := A_ ((by rw [hg]; exact Nat.ne_of_lt (blk_lt (bx_ BK1061)) : gb1061 ≠ gb1062)); have NB1062_1061 := A_ ((by rw [hg]; exact Nat.ne_of_gt (blk_lt (bx_ BK1061)) : gb1062 ≠ gb1061)); replace BK1061 := A_ (blk_below (bx_ BK1061) hb); replace HB := A_ (below_step (bl1_ HB GE1061.out) hb); clear hb hbox hg; have hnb9 := NB1062_1061.out; have hnc9 := NB1061_1062.out; have hcz10_0 := cz_ BK1062 0; have hcz10_1 := cz_ BK1062 1; have hcz10_2 := cz_ BK1062 2; have hcz10_3 := cz_ BK1062 3; have hcz10_4 := cz_ BK1062 4; have hfz10_0 := fz_ BK1062 0; have hfz10_1 := fz_ BK1062 1; have hfz10_2 := fz_ BK1062 2; have hfz10_3 := fz_ BK1062 3; have hfz10_4 := fz_ BK1062 4))
  go_ret
  exact ⟨er_, bl2_ HB GE1061.out GE1062.out⟩
 ·rw [if_neg c6] at H; have c6b0 : (a1_1 == 4) = false := beq_eq_false_iff_ne.mpr c6; have c6b1 : (a1_1 != 4) = true := bne_iff_ne.mpr c6; by_cases c11 : 0 ≤ a1_0
  ·rw [if_pos c11] at H; have c11b0 := decide_eq_true c11; clear c11; by_cases c12 : a1_0 < (l0_0.length : Int)
   ·rw [if_pos c12] at H; have c12b0 := decide_eq_true c12; clear c12; replace H := Option.bind_eq_some_iff.mp H; obtain ⟨t1064, A130, H⟩ := H; (try dsimp only at H); have A13 := A_ A130; clear A130; have HC14 := A_ H; clear H; go_enter Try.func82, Try.ntmps82
    go_upto_if 34 with (first | ((with_reducible refine gate_dst (N := 5) rfl ?_); refine be_ (N := 5) (cs := #[.slice A0_0 l0_0.length c0_0, .slice A0_1 l0_1.length c0_1, .slice A0_2 l0_2.length c0_2, .int .i64 a0_3, .int .i64 a0_4]) (t := 56) ?_; intro gb1061 hg w15 hbox hb; have BK1061 := A_ (hbox); have GW1061 := A_ ((by rw [hg]; exact (below_size (bl_ HB)) : w.heap.size ≤ gb1061)); have GE1061 := A_ ((by rw [hg]; exact (below_size (bl_ HB)) : w.heap.size ≤ gb1061)); replace HB := A_ (below_step (bl_ HB) hb); clear hb hbox hg) | ((with_reducible refine gate_dst (N := 6) rfl ?_); refine be_ (N := 6) (cs := #[.int .i64 a1_0, .int .i64 a1_1, .int .i64 a1_2, .int .i64 a1_3, .bool a1_4]) (t := 88) ?_; intro gb1062 hg w16 hbox hb; have BK1062 := A_ (hbox); have GW1062 := A_ ((by rw [hg]; exact (below_size (bl1_ HB GE1061.out)) : w.heap.size ≤ gb1062)); have GE1062 := A_ ((by rw [hg]; exact (below_size (bl1_ HB GE1061.out)) : w.heap.size ≤ gb1062)); have NB1061_1062 := A_ ((by rw [hg]; exact Nat.ne_of_lt (blk_lt (bx_ BK1061)) : gb1061 ≠ gb1062)); have NB1062_1061 := A_ ((by rw [hg]; exact Nat.ne_of_gt (blk_lt (bx_ BK1061)) : gb1062 ≠ gb1061)); replace BK1061 := A_ (blk_below (bx_ BK1061) hb); replace HB := A_ (below_step (bl1_ HB GE1061.out) hb); clear hb hbox hg; have hnb17 := NB1062_1061.out; have hnc17 := NB1061_1062.out; have hcz18_0 := cz_ BK1062 0; have hcz18_1 := cz_ BK1062 1; have hcz18_2 := cz_ BK1062 2; have hcz18_3 := cz_ BK1062 3; have hcz18_4 := cz_ BK1062 4; have hfz18_0 := fz_ BK1062 0; have hfz18_1 := fz_ BK1062 1; have hfz18_2 := fz_ BK1062 2; have hfz18_3 := fz_ BK1062 3; have hfz18_4 := fz_ BK1062 4; have hcz19_0 := cz_ BK1061 0; have hcz19_1 := cz_ BK1061 1; have hcz19_2 := cz_ BK1061 2; have hcz19_3 := cz_ BK1061 3; have hcz19_4 := cz_ BK1061 4; have hfz19_0 := fz_ BK1061 0; have hfz19_1 := fz_ BK1061 1; have hfz19_2 := fz_ BK1061 2; have hfz19_3 := fz_ BK1061 3; have hfz19_4 := fz_ BK1061 4; have p1063 : 0 ≤ (a1_0 : Int) := od_; have q1063 : a1_0 < (l0_0.length : Int) := od_; obtain ⟨ad1063, A1063_0, c1063_0, e1063, hx1063_0, hl1063_0, hi1063_0⟩ := at_L3 HR0_0.out a1_0 p1063 q1063; cases e1063; replace hx1063_0 := (HB.out.cell (World.block_lt_of_cell? w _ hx1063_0)).trans hx1063_0; have HR1063_0 := A_ hi1063_0; have HC1063_0 := A_ hl1063_0; clear hi1063_0 hl1063_0; replace p1063 := eq_true p1063; replace q1063 := eq_true q1063) | ((with_reducible refine gate_callee (f := 132) rfl ?_); refine gm_ (some 31) Try.func132 #[.agg #[.int .i64 a1_0, .int .i64 a1_1, .int .i64 a1_2, .int .i64 a1_3, .bool a1_4], .int .i64 a3, .int .i64 a4] ?_; (with_reducible refine (stipendref13_Free.calls a1_0 a1_1 a1_2 a1_3 a1_4 a3 a4 t1064 _ A13.out).mono ?_); rintro e w20 ⟨rfl, hb⟩; refine ⟨_, rfl, ?_⟩; replace BK1061 := A_ (blk_below (bx_ BK1061) hb); replace BK1062 := A_ (blk_below (bx_ BK1062) hb); replace HB := A_ (below_step (bl2_ HB GE1061.out GE1062.out) hb); (try clear hb); (try clear hb2); (try clear hk); (try clear hi)))
    (try simp only [Act.put, List.setIfInBounds_toArray, List.set_cons_zero, List.set_cons_succ])
    go_cut [12] (fun v12 wc => ∃ (kq : Nat) (x12_13 : Int), v12 = .int .i64 x12_13 ∧ Aside0 (stipendref13_Exact.j0 kq a3 a4 (rd_L3 l0_0 a1_0) x12_13 a1_0 a1_1 a1_2 a1_3 a1_4 = some r) ∧ Aside0 (kq ≤ k) ∧ Aside0 (wc.heap[gb1061]? = some (.cells #[(.slice (some ad1063) l0_0.length c0_0), (.slice A0_1 l0_1.length c0_1), (.slice A0_2 l0_2.length c0_2), .int .i64 a0_3, .int .i64 a0_4] 56 (0, 0))) ∧ Aside0 (wc.heap[gb1062]? = some (.cells #[.int .i64 a1_0, .int .i64 a1_1, .int .i64 a1_2, .int .i64 a1_3, .bool a1_4] 88 (0, 0))) ∧ Aside0 (Below w.heap.size w wc))
    case first =>
     have H := HC14.out; clear HC14; by_cases c21 : (wrap64 (a2 - t1064)) < 0
     ·rw [if_pos c21] at H; have c21b0 := decide_eq_true c21; clear c21
      (first | rw [c21b0] | (simp only [i64_w, i32_w]; rw [c21b0]) | skip)
      have H' := A_ H; clear H
      go_wp2
      go_meet
      case rel => exact ⟨_, (0), (sx_), H', ⟨by first | omega | exact Nat.le_refl _⟩, ⟨bx_ BK1061⟩, ⟨bx_ BK1062⟩, ⟨bl2_ HB GE1061.out GE1062.out⟩⟩
     ·rw [if_neg c21] at H; have c21b0 := decide_eq_false c21; clear c21
      (first | rw [c21b0] | (simp only [i64_w, i32_w]; rw [c21b0]) | skip)
      have H' := A_ H; clear H
      go_wp2
      go_meet
      case rel => exact ⟨_, (wrap64 (a2 - t1064)), (sx_), H', ⟨by first | omega | exact Nat.le_refl _⟩, ⟨bx_ BK1061⟩, ⟨bx_ BK1062⟩, ⟨bl2_ HB GE1061.out GE1062.out⟩⟩
    case rest =>
     clear HC14; try clear c1
     try clear p1
     try clear q1
     try clear hx1
     try clear c2
     try clear p2
     try clear c6
     try clear c6b0
     try clear c6b1
     try clear p6
     try clear c8
     try clear c9
     try clear c10
     try clear p10
     try clear q10
     try clear hx10
     try clear c11
     try clear c11b0
     try clear c12
     try clear c12b0
     try clear c13
     try clear c17
     try clear c21
     try clear c21b0
     try clear hcz10_0 hcz10_1 hcz10_2 hcz10_3 hcz10_4
     try clear hcz18_0 hcz18_1 hcz18_2 hcz18_3 hcz18_4
     try clear hcz19_0 hcz19_1 hcz19_2 hcz19_3 hcz19_4
     try clear hfz10_0 hfz10_1 hfz10_2 hfz10_3 hfz10_4
     try clear hfz18_0 hfz18_1 hfz18_2 hfz18_3 hfz18_4
     try clear hfz19_0 hfz19_1 hfz19_2 hfz19_3 hfz19_4
     try clear hx1063_0
     try clear p1063
     try clear q1063
     obtain ⟨kq, x12_13, rfl, HA, HJ13, BK1061, BK1062, HB⟩ := hcut
     cases kq with
     | zero => exact absurd HA.out (by simp [stipendref13_Exact.j0])
     | succ kj13 =>
      have H := HA.out; clear HA; simp only [stipendref13_Exact.j0] at H; by_cases c22 : a1_1 = 3
      ·rw [if_pos c22] at H; have c22b0 : (a1_1 == 3) = true := beq_iff_eq.mpr c22; have c22b1 : (a1_1 != 3) = false := bne_eq_false_iff_eq.mpr c22; clear c22; by_cases c23 : 0 ≤ a1_3
       ·rw [if_pos c23] at H; have c23b0 := decide_eq_true c23; clear c23; by_cases c24 : a1_3 < ((rd_L3 l0_0 a1_0).length : Int)
        ·rw [if_pos c24] at H; have c24b0 := decide_eq_true c24; clear c24; obtain rfl := Option.some.inj H; have hnb25 := NB1062_1061.out; have hnc25 := NB1061_1062.out; have hcz26_0 := cz_ BK1062 0; have hcz26_1 := cz_ BK1062 1; have hcz26_2 := cz_ BK1062 2; have hcz26_3 := cz_ BK1062 3; have hcz26_4 := cz_ BK1062 4; have hfz26_0 := fz_ BK1062 0; have hfz26_1 := fz_ BK1062 1; have hfz26_2 := fz_ BK1062 2; have hfz26_3 := fz_ BK1062 3; have hfz26_4 := fz_ BK1062 4; have p1065 : 0 ≤ (a1_3 : Int) := od_; have q1065 : a1_3 < ((rd_L3 l0_0 a1_0).length : Int) := od_; obtain ⟨ad1065, e1065, hx1065_0, hx1065_1, hx1065_2⟩ := at_T106 HR1063_0.out a1_3 p1065 q1065; cases e1065; replace hx1065_0 := (HB.out.cell (World.block_lt_of_cell? w _ hx1065_0)).trans hx1065_0; replace hx1065_1 := (HB.out.cell (World.block_lt_of_cell? w _ hx1065_1)).trans hx1065_1; replace hx1065_2 := (HB.out.cell (World.block_lt_of_cell? w _ hx1065_2)).trans hx1065_2; replace p1065 := eq_true p1065; replace q1065 := eq_true q1065
         go_wp2
         go_ret
         exact ⟨er_, bl2_ HB GE1061.out GE1062.out⟩
        ·rw [if_neg c24] at H; exact absurd H (by simp)
       ·rw [if_neg c23] at H; exact absurd H (by simp)
      ·rw [if_neg c22] at H; have c22b0 : (a1_1 == 3) = false := beq_eq_false_iff_ne.mpr c22; have c22b1 : (a1_1 != 3) = true := bne_iff_ne.mpr c22; have H' := A_ H; clear H; have hnb27 := NB1062_1061.out; have hnc27 := NB1061_1062.out; have hcz28_0 := cz_ BK1062 0; have hcz28_1 := cz_ BK1062 1; have hcz28_2 := cz_ BK1062 2; have hcz28_3 := cz_ BK1062 3; have hcz28_4 := cz_ BK1062 4; have hfz28_0 := fz_ BK1062 0; have hfz28_1 := fz_ BK1062 1; have hfz28_2 := fz_ BK1062 2; have hfz28_3 := fz_ BK1062 3; have hfz28_4 := fz_ BK1062 4
       go_wp2
       go_loopg [13, 14] kj13 (fun kq v13 v14 w' => ∃ (x13_2 : Int) (x14_2 : Int), v13 = .int .i64 x13_2 ∧ v14 = .int .i64 x14_2 ∧ Aside0 (stipendref13_Exact.l0 kq a3 a4 (rd_L3 l0_0 a1_0) x12_13 x13_2 x14_2 = some r) ∧ Aside0 (kq ≤ kj13) ∧ Aside0 (w'.heap[gb1061]? = some (.cells #[(.slice (some ad1063) l0_0.length c0_0), (.slice A0_1 l0_1.length c0_1), (.slice A0_2 l0_2.length c0_2), .int .i64 a0_3, .int .i64 a0_4] 56 (0, 0))) ∧ Aside0 (w'.heap[gb1062]? = some (.cells #[.int .i64 a1_0, .int .i64 a1_1, .int .i64 a1_2, .int .i64 a1_3, .bool a1_4] 88 (0, 0))) ∧ Aside0 (Below w.heap.size w w'))
       case atStart => exact ⟨(0), (0), (sx_), (sx_), H', ⟨Nat.le_refl _⟩, ⟨bx_ BK1061⟩, ⟨bx_ BK1062⟩, ⟨bl2_ HB GE1061.out GE1062.out⟩⟩
       case round =>
        clear H'; try clear c1
        try clear p1
        try clear q1
        try clear hx1
        try clear c2
        try clear p2
        try clear c6
        try clear c6b0
        try clear c6b1
        try clear p6
        try clear c8
        try clear c9
        try clear c10
        try clear p10
        try clear q10
        try clear hx10
        try clear c11
        try clear c11b0
        try clear c12
        try clear c12b0
        try clear c13
        try clear c17
        try clear c21
        try clear c21b0
        try clear c22
        try clear c22b0
        try clear c22b1
        try clear c23
        try clear c23b0
        try clear c24
        try clear c24b0
        try clear c25
        try clear c27
        try clear hcz10_0 hcz10_1 hcz10_2 hcz10_3 hcz10_4
        try clear hcz18_0 hcz18_1 hcz18_2 hcz18_3 hcz18_4
        try clear hcz19_0 hcz19_1 hcz19_2 hcz19_3 hcz19_4
        try clear hcz26_0 hcz26_1 hcz26_2 hcz26_3 hcz26_4
        try clear hcz28_0 hcz28_1 hcz28_2 hcz28_3 hcz28_4
        try clear hfz10_0 hfz10_1 hfz10_2 hfz10_3 hfz10_4
        try clear hfz18_0 hfz18_1 hfz18_2 hfz18_3 hfz18_4
        try clear hfz19_0 hfz19_1 hfz19_2 hfz19_3 hfz19_4
        try clear hfz26_0 hfz26_1 hfz26_2 hfz26_3 hfz26_4
        try clear hfz28_0 hfz28_1 hfz28_2 hfz28_3 hfz28_4
        try clear hx1063_0
        try clear hx1065_0
        try clear hx1065_1
        try clear hx1065_2
        try clear p1
        try clear p10
        try clear p1063
        try clear p1065
        try clear p2
        try clear p6
        try clear q1
        try clear q10
        try clear q1063
        try clear q1065
        obtain ⟨x13_2, x14_2, rfl, rfl, HA, HK2, BK1061, BK1062, HB⟩ := hrel
        cases gk with
        | zero => exact absurd HA.out (by simp [stipendref13_Exact.l0])
        | succ k2 =>
         have H := HA.out; clear HA; simp only [stipendref13_Exact.l0] at H; by_cases c29 : x14_2 < ((rd_L3 l0_0 a1_0).length : Int)
         ·rw [if_pos c29] at H; have c29b0 := decide_eq_true c29; clear c29; by_cases c30 : 0 ≤ x14_2
          ·rw [if_pos c30] at H; have c30b0 := decide_eq_true c30; clear c30; by_cases c31 : a4 = 0
           ·rw [if_pos c31] at H; exact absurd H (by simp)
           ·rw [if_neg c31] at H; have c31b0 : (a4 == 0) = false := beq_eq_false_iff_ne.mpr c31; have c31b1 : (a4 != 0) = true := bne_iff_ne.mpr c31; have HC32 := A_ H; clear H; have p1066 : 0 ≤ (x14_2 : Int) := od_; have q1066 : x14_2 < ((rd_L3 l0_0 a1_0).length : Int) := od_; obtain ⟨ad1066, e1066, hx1066_0, hx1066_1, hx1066_2⟩ := at_T106 HR1063_0.out x14_2 p1066 q1066; cases e1066; replace hx1066_0 := (HB.out.cell (World.block_lt_of_cell? w _ hx1066_0)).trans hx1066_0; replace hx1066_1 := (HB.out.cell (World.block_lt_of_cell? w _ hx1066_1)).trans hx1066_1; replace hx1066_2 := (HB.out.cell (World.block_lt_of_cell? w _ hx1066_2)).trans hx1066_2; replace p1066 := eq_true p1066; replace q1066 := eq_true q1066
            go_upto_if 66 with (fail)
            go_cut [16] (fun v16 wc => ∃ (kq : Nat) (x16_31 : Int), v16 = .int .i64 x16_31 ∧ Aside0 (stipendref13_Exact.j2 kq a3 a4 (rd_L3 l0_0 a1_0) x12_13 x13_2 x14_2 (wrap64 (Int.tdiv (wrap64 (((rd_T106 (rd_L3 l0_0 a1_0) x14_2).f0) * a3)) a4)) x16_31 = some r) ∧ Aside0 (kq ≤ k2) ∧ Aside0 (wc.heap[gb1061]? = some (.cells #[(.slice (some ad1063) l0_0.length c0_0), (.slice A0_1 l0_1.length c0_1), (.slice A0_2 l0_2.length c0_2), .int .i64 a0_3, .int .i64 a0_4] 56 (0, 0))) ∧ Aside0 (wc.heap[gb1062]? = some (.cells #[.int .i64 a1_0, .int .i64 a1_1, .int .i64 a1_2, .int .i64 a1_3, .bool a1_4] 88 (0, 0))) ∧ Aside0 (Below w.heap.size w wc))
            case first =>
             have H := HC32.out; clear HC32; by_cases c33 : (wrap64 (x14_2 + 1)) < ((rd_L3 l0_0 a1_0).length : Int)
             ·rw [if_pos c33] at H; have c33b0 := decide_eq_true c33; clear c33
              (first | rw [c33b0] | (simp only [i64_w, i32_w]; rw [c33b0]) | skip)
              obtain ⟨ji34, hji34⟩ : ∃ j_ : Int, (wrap64 (x14_2 + 1)) = j_ := ⟨_, rfl⟩; replace H : (if 0 ≤ (ji34) then (if (wrap64 (Int.tdiv (wrap64 (((rd_T106 (rd_L3 l0_0 a1_0) (ji34)).f0) * a3)) a4)) < x12_13 then (stipendref13_Exact.j2 k2 a3 a4 (rd_L3 l0_0 a1_0) x12_13 x13_2 x14_2 (wrap64 (Int.tdiv (wrap64 (((rd_T106 (rd_L3 l0_0 a1_0) x14_2).f0) * a3)) a4)) (wrap64 (Int.tdiv (wrap64 (((rd_T106 (rd_L3 l0_0 a1_0) (ji34)).f0) * a3)) a4))) else (stipendref13_Exact.j2 k2 a3 a4 (rd_L3 l0_0 a1_0) x12_13 x13_2 x14_2 (wrap64 (Int.tdiv (wrap64 (((rd_T106 (rd_L3 l0_0 a1_0) x14_2).f0) * a3)) a4)) x12_13)) else (none)) = some r := by first | (rw [hji34] at H; exact H) | (simp only [hji34] at H ⊢; exact H)
              (try rw [hji34] at c33b0)
              have hji34w : (IntKind.i64.wrap (x14_2 + 1)) = ji34 := (i64_w _).trans hji34; by_cases c35 : 0 ≤ (ji34)
              ·rw [if_pos c35] at H; have c35b0 := decide_eq_true c35; clear c35; by_cases c36 : (wrap64 (Int.tdiv (wrap64 (((rd_T106 (rd_L3 l0_0 a1_0) (ji34)).f0) * a3)) a4)) < x12_13
               ·rw [if_pos c36] at H; have c36b0 := decide_eq_true c36; clear c36; have H' := A_ H; clear H; have p1067 : 0 ≤ ((ji34) : Int) := od_; have q1067 : (ji34) < ((rd_L3 l0_0 a1_0).length : Int) := od_; obtain ⟨ad1067, e1067, hx1067_0, hx1067_1, hx1067_2⟩ := at_T106 HR1063_0.out (ji34) p1067 q1067; obtain rfl : ad1066 = ad1067 := (by injection e1067); replace hx1067_0 := (HB.out.cell (World.block_lt_of_cell? w _ hx1067_0)).trans hx1067_0; replace hx1067_1 := (HB.out.cell (World.block_lt_of_cell? w _ hx1067_1)).trans hx1067_1; replace hx1067_2 := (HB.out.cell (World.block_lt_of_cell? w _ hx1067_2)).trans hx1067_2; replace p1067 := eq_true p1067; replace q1067 := eq_true q1067
                go_wp2
                go_meet
                case rel => exact ⟨_, (wrap64 (Int.tdiv (wrap64 (((rd_T106 (rd_L3 l0_0 a1_0) (ji34)).f0) * a3)) a4)), (by first | rfl | (simp; done) | (simp only [← hji34] <;> (first | rfl | simp)) | (simp [*]; done)), H', ⟨by have := HJ13.out; have := HK2.out; first | omega | exact Nat.le_refl _⟩, ⟨bx_ BK1061⟩, ⟨bx_ BK1062⟩, ⟨bl2_ HB GE1061.out GE1062.out⟩⟩
               ·rw [if_neg c36] at H; have c36b0 := decide_eq_false c36; clear c36; have H' := A_ H; clear H; have p1067 : 0 ≤ ((ji34) : Int) := od_; have q1067 : (ji34) < ((rd_L3 l0_0 a1_0).length : Int) := od_; obtain ⟨ad1067, e1067, hx1067_0, hx1067_1, hx1067_2⟩ := at_T106 HR1063_0.out (ji34) p1067 q1067; obtain rfl : ad1066 = ad1067 := (by injection e1067); replace hx1067_0 := (HB.out.cell (World.block_lt_of_cell? w _ hx1067_0)).trans hx1067_0; replace hx1067_1 := (HB.out.cell (World.block_lt_of_cell? w _ hx1067_1)).trans hx1067_1; replace hx1067_2 := (HB.out.cell (World.block_lt_of_cell? w _ hx1067_2)).trans hx1067_2; replace p1067 := eq_true p1067; replace q1067 := eq_true q1067
                go_wp2
                go_meet
                case rel => exact ⟨_, (x12_13), (sx_), H', ⟨by have := HJ13.out; have := HK2.out; first | omega | exact Nat.le_refl _⟩, ⟨bx_ BK1061⟩, ⟨bx_ BK1062⟩, ⟨bl2_ HB GE1061.out GE1062.out⟩⟩
              ·rw [if_neg c35] at H; exact absurd H (by simp)
             ·rw [if_neg c33] at H; have c33b0 := decide_eq_false c33; clear c33
              (first | rw [c33b0] | (simp only [i64_w, i32_w]; rw [c33b0]) | skip)
              have H' := A_ H; clear H
              go_wp2
              go_meet
              case rel => exact ⟨_, (x12_13), (sx_), H', ⟨by have := HJ13.out; have := HK2.out; first | omega | exact Nat.le_refl _⟩, ⟨bx_ BK1061⟩, ⟨bx_ BK1062⟩, ⟨bl2_ HB GE1061.out GE1062.out⟩⟩
            case rest =>
             clear HC32; try clear c1
             try clear p1
             try clear q1
             try clear hx1
             try clear c2
             try clear p2
             try clear c3
             try clear c6
             try clear c6b0
             try clear c6b1
             try clear p6
             try clear c8
             try clear c9
             try clear c10
             try clear p10
             try clear q10
             try clear hx10
             try clear c11
             try clear c11b0
             try clear c12
             try clear c12b0
             try clear c13
             try clear c17
             try clear c21
             try clear c21b0
             try clear c22
             try clear c22b0
             try clear c22b1
             try clear c23
             try clear c23b0
             try clear c24
             try clear c24b0
             try clear c25
             try clear c27
             try clear c29
             try clear c29b0
             try clear c30
             try clear c30b0
             try clear c31
             try clear c31b0
             try clear c31b1
             try clear c33
             try clear c33b0
             try clear c35
             try clear c35b0
             try clear c36
             try clear c36b0
             try clear hcz10_0 hcz10_1 hcz10_2 hcz10_3 hcz10_4
             try clear hcz18_0 hcz18_1 hcz18_2 hcz18_3 hcz18_4
             try clear hcz19_0 hcz19_1 hcz19_2 hcz19_3 hcz19_4
             try clear hcz26_0 hcz26_1 hcz26_2 hcz26_3 hcz26_4
             try clear hcz28_0 hcz28_1 hcz28_2 hcz28_3 hcz28_4
             try clear hfz10_0 hfz10_1 hfz10_2 hfz10_3 hfz10_4
             try clear hfz18_0 hfz18_1 hfz18_2 hfz18_3 hfz18_4
             try clear hfz19_0 hfz19_1 hfz19_2 hfz19_3 hfz19_4
             try clear hfz26_0 hfz26_1 hfz26_2 hfz26_3 hfz26_4
             try clear hfz28_0 hfz28_1 hfz28_2 hfz28_3 hfz28_4
             try clear hx1063_0
             try clear hx1065_0
             try clear hx1065_1
             try clear hx1065_2
             try clear hx1066_0
             try clear hx1066_1
             try clear hx1066_2
             try clear hx1067_0
             try clear hx1067_1
             try clear hx1067_2
             try clear p1
             try clear p10
             try clear p1063
             try clear p1065
             try clear p1066
             try clear p1067
             try clear p2
             try clear p6
             try clear q1
             try clear q10
             try clear q1063
             try clear q1065
             try clear q1066
             try clear q1067
             obtain ⟨kq, x16_31, rfl, HA, HJ31, BK1061, BK1062, HB⟩ := hcut
             cases kq with
             | zero => exact absurd HA.out (by simp [stipendref13_Exact.j2])
             | succ kj31 =>
              have H := HA.out; clear HA; simp only [stipendref13_Exact.j2] at H; by_cases c37 : x16_31 > (wrap64 (Int.tdiv (wrap64 (((rd_T106 (rd_L3 l0_0 a1_0) x14_2).f0) * a3)) a4))
              ·rw [if_pos c37] at H; have c37b0 : decide ((wrap64 (Int.tdiv (wrap64 (((rd_T106 (rd_L3 l0_0 a1_0) x14_2).f0) * a3)) a4)) < x16_31) = true := decide_eq_true c37; clear c37; by_cases c38 : 0 ≤ x14_2
               ·rw [if_pos c38] at H; have c38b0 := decide_eq_true c38; clear c38; by_cases c39 : x14_2 < ((rd_L3 l0_0 a1_0).length : Int)
                ·rw [if_pos c39] at H; have c39b0 := decide_eq_true c39; clear c39; have H' := A_ H; clear H; have p1068 : 0 ≤ (x14_2 : Int) := od_; have q1068 : x14_2 < ((rd_L3 l0_0 a1_0).length : Int) := od_; obtain ⟨ad1068, e1068, hx1068_0, hx1068_1, hx1068_2⟩ := at_T106 HR1063_0.out x14_2 p1068 q1068; obtain rfl : ad1066 = ad1068 := (by injection e1068); replace hx1068_0 := (HB.out.cell (World.block_lt_of_cell? w _ hx1068_0)).trans hx1068_0; replace hx1068_1 := (HB.out.cell (World.block_lt_of_cell? w _ hx1068_1)).trans hx1068_1; replace hx1068_2 := (HB.out.cell (World.block_lt_of_cell? w _ hx1068_2)).trans hx1068_2; replace p1068 := eq_true p1068; replace q1068 := eq_true q1068
                 go_wp2
                 go_roundg kj31
                 case measure => have := HJ13.out; have := HK2.out; have := HJ31.out; omega
                 case rel => exact ⟨(wrap64 (x13_2 + (wrap64 ((wrap64 (x16_31 - (wrap64 (Int.tdiv (wrap64 (((rd_T106 (rd_L3 l0_0 a1_0) x14_2).f0) * a3)) a4)))) * ((rd_T106 (rd_L3 l0_0 a1_0) x14_2).f1))))), (wrap64 (x14_2 + 1)), (sx_), (sx_), H', ⟨by have := HJ13.out; have := HK2.out; have := HJ31.out; omega⟩, ⟨bx_ BK1061⟩, ⟨bx_ BK1062⟩, ⟨bl2_ HB GE1061.out GE1062.out⟩⟩
                ·rw [if_neg c39] at H; exact absurd H (by simp)
               ·rw [if_neg c38] at H; exact absurd H (by simp)
              ·rw [if_neg c37] at H; have c37b0 : decide ((wrap64 (Int.tdiv (wrap64 (((rd_T106 (rd_L3 l0_0 a1_0) x14_2).f0) * a3)) a4)) < x16_31) = false := decide_eq_false c37; clear c37; have H' := A_ H; clear H
               go_wp2
               go_roundg kj31
               case measure => have := HJ13.out; have := HK2.out; have := HJ31.out; omega
               case rel => exact ⟨(x13_2), (wrap64 (x14_2 + 1)), (sx_), (sx_), H', ⟨by have := HJ13.out; have := HK2.out; have := HJ31.out; omega⟩, ⟨bx_ BK1061⟩, ⟨bx_ BK1062⟩, ⟨bl2_ HB GE1061.out GE1062.out⟩⟩
          ·rw [if_neg c30] at H; exact absurd H (by simp)
         ·rw [if_neg c29] at H; have c29b0 := decide_eq_false c29; clear c29; obtain rfl := Option.some.inj H
          go_wp2
          go_ret
          exact ⟨er_, bl2_ HB GE1061.out GE1062.out⟩
   ·rw [if_neg c12] at H; exact absurd H (by simp)
  ·rw [if_neg c11] at H; exact absurd H (by simp)
end Go.Proofs.Ytcapgmoipacioaa.P
