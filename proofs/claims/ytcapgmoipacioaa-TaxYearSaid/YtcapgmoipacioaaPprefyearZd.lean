import Derived.Test.YtcapgmoipacioaaPtZd
import Derived.Test.YtcapgmoipacioaaPpstipendref13Zd
import Derived.Test.YtcapgmoipacioaaY1Zd
namespace Go.Proofs.Ytcapgmoipacioaa.P
open Go.RowKit Go.Proofs.YtcapgmoipacioaaW.PrintWords Go.Proofs.YtcapgmoipacioaaW.PrintLast Go.Proofs.YtcapgmoipacioaaW.PrintMore
set_option linter.unusedVariables false
set_option linter.unusedSimpArgs false
mutual
def stipendref13_Year.l0 : Nat → Int → List (S88) → List Int → List Int → Int → List (List (S106)) → List (S120) → List (S209) → Int → Int → Option (List Int)
 | 0, _, _, _, _, _, _, _, _, _, _ => none
 | k + 1, x1, x2, x3, x9, x10, x1117000, x1117001, x1117002, x1117003, x1117004 => if x10 < (x2.length : Int) then (if 0 ≤ x10 then (if (rd_T88 x2 x10).f4 = true then (if x10 > 0 then (if 0 ≤ (wrap64 (x10 - 1)) then (if (wrap64 (x10 - 1)) < (x9.length : Int) then (stipendref13_Year.j1 k x1 x2 x3 x9 x10 (rd x9 (wrap64 (x10 - 1))) x1117000 x1117001 x1117002 x1117003 x1117004) else (none)) else (none)) else (stipendref13_Year.j1 k x1 x2 x3 x9 x10 0 x1117000 x1117001 x1117002 x1117003 x1117004)) else (stipendref13_Year.l1 k x1 x2 x3 x9 x10 0 0 x1117000 x1117001 x1117002 x1117003 x1117004)) else (none)) else (some x9)
def stipendref13_Year.j1 : Nat → Int → List (S88) → List Int → List Int → Int → Int → List (List (S106)) → List (S120) → List (S209) → Int → Int → Option (List Int)
 | 0, _, _, _, _, _, _, _, _, _, _, _ => none
 | k + 1, x1, x2, x3, x9, x10, x11, x1117000, x1117001, x1117002, x1117003, x1117004 => if 0 ≤ x10 then (if x10 < (x2.length : Int) then (if x10 < (x3.length : Int) then ((stipendref13_Due.f k x1117000 x1117001 x1117002 x1117003 x1117004 ((rd_T88 x2 x10).f0) ((rd_T88 x2 x10).f1) ((rd_T88 x2 x10).f2) ((rd_T88 x2 x10).f3) ((rd_T88 x2 x10).f4) (rd x3 x10) 1 x1).bind fun t1121 => (if x9.length < 17592186044416 then (stipendref13_Year.l0 k x1 x2 x3 (x9 ++ [wrap64 (x11 + t1121)]) (wrap64 (x10 + 1)) x1117000 x1117001 x1117002 x1117003 x1117004) else (none))) else (none)) else (none)) else (none)
def stipendref13_Year.l1 : Nat → Int → List (S88) → List Int → List Int → Int → Int → Int → List (List (S106)) → List (S120) → List (S209) → Int → Int → Option (List Int)
 | 0, _, _, _, _, _, _, _, _, _, _, _, _ => none
 | k + 1, x1, x2, x3, x9, x10, x12, x13, x1117000, x1117001, x1117002, x1117003, x1117004 => if x13 ≤ x10 then (if 0 ≤ x13 then (if x13 < (x3.length : Int) then (stipendref13_Year.l1 k x1 x2 x3 x9 x10 (wrap64 (x12 + (rd x3 x13))) (wrap64 (x13 + 1)) x1117000 x1117001 x1117002 x1117003 x1117004) else (none)) else (none)) else (if (wrap64 (x10 + 1)) > x1 then (stipendref13_Year.j3 k x1 x2 x3 x9 x10 x12 x1 x1117000 x1117001 x1117002 x1117003 x1117004) else (stipendref13_Year.j3 k x1 x2 x3 x9 x10 x12 (wrap64 (x10 + 1)) x1117000 x1117001 x1117002 x1117003 x1117004))
def stipendref13_Year.j3 : Nat → Int → List (S88) → List Int → List Int → Int → Int → Int → List (List (S106)) → List (S120) → List (S209) → Int → Int → Option (List Int)
 | 0, _, _, _, _, _, _, _, _, _, _, _, _ => none
 | k + 1, x1, x2, x3, x9, x10, x12, x14, x1117000, x1117001, x1117002, x1117003, x1117004 => if 0 ≤ x10 then (if x10 < (x2.length : Int) then ((stipendref13_Due.f k x1117000 x1117001 x1117002 x1117003 x1117004 ((rd_T88 x2 x10).f0) ((rd_T88 x2 x10).f1) ((rd_T88 x2 x10).f2) ((rd_T88 x2 x10).f3) ((rd_T88 x2 x10).f4) x12 x14 x1).bind fun t1127 => (if x9.length < 17592186044416 then (stipendref13_Year.l0 k x1 x2 x3 (x9 ++ [t1127]) (wrap64 (x10 + 1)) x1117000 x1117001 x1117002 x1117003 x1117004) else (none))) else (none)) else (none)
end
def stipendref13_Year.f (k : Nat) (l0_0 : List (List (S106))) (l0_1 : List (S120)) (l0_2 : List (S209)) (a0_3 : Int) (a0_4 : Int) (a1 : Int) (l2 : List (S88)) (l3 : List Int) : Option (List Int) := stipendref13_Year.l0 k a1 l2 l3 ([] : List Int) 0 l0_0 l0_1 l0_2 a0_3 a0_4
def stipendref13_Year.T9 : Bool × List (List Nat × List Nat) := (true, [([], []), ([], []), ([], []), ([], []), ([], []), ([3, 4], [3, 4]), ([5], [5]), ([], []), ([], []), ([7, 8], [7, 8]), ([9], [9]), ([], []), ([2, 6, 10, 11], [2, 6, 10, 11]), ([1, 12], [1, 12]), ([13], [13]), ([0, 14, 12], [0, 14]), ([15, 15, 0, 1, 2, 3, 4, 5, 6, 7, 8, 9, 10, 11, 12, 13, 14, 15], [0, 15])])
def stipendref13_Year.B9 : List Nat := [0, 0, 0, 0, 0, 24, 56, 0, 0, 384, 896, 0, 4092, 8190, 16382, 32767, 65535]
theorem stipendref13_Year.tab9 : rtab .any (opsOf Try.f87 9) = stipendref13_Year.T9 := by kernel_rfl
theorem stipendref13_Year.bits9 : waitsOk stipendref13_Year.T9.2 stipendref13_Year.B9 = true := by kernel_rfl
def stipendref13_Year.T18 : Bool × List (List Nat × List Nat) := (true, [([], []), ([], []), ([], []), ([], []), ([2, 3], [2, 3]), ([4], [4]), ([], []), ([], []), ([], []), ([1, 5, 6, 7, 8], [1, 5, 6, 7, 8]), ([9], [9]), ([0, 10, 9], [0, 10]), ([11, 11, 0, 1, 2, 3, 4, 5, 6, 7, 8, 9, 10, 11], [0, 11])])
def stipendref13_Year.B18 : List Nat := [0, 0, 0, 0, 12, 28, 0, 0, 0, 510, 1022, 2047, 4095]
theorem stipendref13_Year.tab18 : rtab .any (opsOf Try.f87 18) = stipendref13_Year.T18 := by kernel_rfl
theorem stipendref13_Year.bits18 : waitsOk stipendref13_Year.T18.2 stipendref13_Year.B18 = true := by kernel_rfl
set_option maxHeartbeats 8000000 in
set_option maxRecDepth 100000 in
theorem stipendref13_Year.calls (k : Nat) (A0_0 : Option Addr) (c0_0 : Nat) (l0_0 : List (List (S106))) (A0_1 : Option Addr) (c0_1 : Nat) (l0_1 : List (S120)) (A0_2 : Option Addr) (c0_2 : Nat) (l0_2 : List (S209)) (a0_3 : Int) (a0_4 : Int) (a1 : Int) (A2 : Option Addr) (c2 : Nat) (l2 : List (S88)) (A3 : Option Addr) (c3 : Nat) (l3 : List Int) (r : List Int) (w : World) (hr0_0 : Kd.C (Kd.slice 106 k106) w A0_0 l0_0.length l0_0) (hc0_0 : l0_0.length ≤ c0_0) (hr0_1 : Kd.C k120 w A0_1 l0_1.length l0_1) (hc0_1 : l0_1.length ≤ c0_1) (hr0_2 : Kd.C k209 w A0_2 l0_2.length l0_2) (hc0_2 : l0_2.length ≤ c0_2) (hr2 : Kd.C k88 w A2 l2.length l2) (hc2 : l2.length ≤ c2) (hr3 : Kd.C (Kd.int .i64) w A3 l3.length l3) (hc3 : l3.length ≤ c3) (h : stipendref13_Year.f k l0_0 l0_1 l0_2 a0_3 a0_4 a1 l2 l3 = some r) :
  Calls Try.prog 87 #[.agg #[.slice A0_0 l0_0.length c0_0, .slice A0_1 l0_1.length c0_1, .slice A0_2 l0_2.length c0_2, .int .i64 a0_3, .int .i64 a0_4], .int .i64 a1, .slice A2 l2.length c2, .slice A3 l3.length c3] w fun e w' => ∃ v0_ : Value, e = .returned (v0_) ∧ Kd.R (Kd.int .i64) 2 w' w.heap.size (fun _ => True) v0_ r ∧ Below w.heap.size w w' := by
 have hu56 := Try.underlying56; have hu88 := Try.underlying88; have HR0_0 := A_ hr0_0; have HC0_0 := A_ hc0_0; clear hr0_0 hc0_0; have HR0_1 := A_ hr0_1; have HC0_1 := A_ hc0_1; clear hr0_1 hc0_1; have HR0_2 := A_ hr0_2; have HC0_2 := A_ hc0_2; clear hr0_2 hc0_2; have HR2 := A_ hr2; have HC2 := A_ hc2; clear hr2 hc2; have HR3 := A_ hr3; have HC3 := A_ hc3; clear hr3 hc3; have HB := A_ (Below.refl w.heap.size w); unfold stipendref13_Year.f at h; have H := h; clear h; have H' := A_ H; clear H; go_enter Try.func87, Try.ntmps87
 go_wp2_with (first | ((with_reducible refine gate_dst (N := 4) rfl ?_); refine be_ (N := 4) (cs := #[.slice A0_0 l0_0.length c0_0, .slice A0_1 l0_1.length c0_1, .slice A0_2 l0_2.length c0_2, .int .i64 a0_3, .int .i64 a0_4]) (t := 56) ?_; intro gb1116 hg w5 hbox hb; have BK1116 := A_ (hbox); have GW1116 := A_ ((by rw [hg]; exact (below_size (bl_ HB)) : w.heap.size ≤ gb1116)); have GE1116 := A_ ((by rw [hg]; exact (below_size (bl_ HB)) : w.heap.size ≤ gb1116)); replace HB := A_ (below_step (bl_ HB) hb); clear hb hbox hg))
 go_loopg [9, 10] k (fun kq v9 v10 w' => ∃ (x9_1 : List Int) (x10_1 : Int), v10 = .int .i64 x10_1 ∧ Aside0 (stipendref13_Year.l0 kq a1 l2 l3 x9_1 x10_1 l0_0 l0_1 l0_2 a0_3 a0_4 = some r) ∧ Aside0 (kq ≤ k) ∧ Aside0 (Kd.R (Kd.int .i64) 2 w' w.heap.size (fun _ => True) v9 x9_1) ∧ Aside0 (w'.heap[gb1116]? = some (.cells #[(.slice A0_0 l0_0.length c0_0), (.slice A0_1 l0_1.length c0_1), (.slice A0_2 l0_2.length c0_2), .int .i64 a0_3, .int .i64 a0_4] 56 (0, 0))) ∧ Aside0 (Below w.heap.size w w'))
 case atStart => exact ⟨(([] : List Int)), (0), (sx_), H', ⟨Nat.le_refl _⟩, ⟨by first | exact Kd.R_nil _ _ _ _ _ | exact Kd.N_nil _ _ _ _ _ | exact Kd.V_nil _ _ _ _ _ | exact Kd.Q_nil _ _ _ _ _ | exact Kd.S_nil _ _ _ _ _⟩, ⟨bx_ BK1116⟩, ⟨bl1_ HB GE1116.out⟩⟩
 case round =>
  clear H'; try clear c2
  try clear p2
  try clear c3
  obtain ⟨x9_1, x10_1, rfl, HA, HK1, HO_9, BK1116, HB⟩ := hrel
  cases gk with
  | zero => exact absurd HA.out (by simp [stipendref13_Year.l0])
  | succ k1 =>
   have H := HA.out; clear HA; simp only [stipendref13_Year.l0] at H; by_cases c6 : x10_1 < (l2.length : Int)
   ·rw [if_pos c6] at H; have c6b0 := decide_eq_true c6; clear c6; by_cases c7 : 0 ≤ x10_1
    ·rw [if_pos c7] at H; have c7b0 := decide_eq_true c7; clear c7; obtain ⟨bq8, hbq8⟩ : ∃ b_ : Bool, b_ = ((rd_T88 l2 x10_1).f4) := ⟨_, rfl⟩; replace H : (if bq8 = true then (if x10_1 > 0 then (if 0 ≤ (wrap64 (x10_1 - 1)) then (if (wrap64 (x10_1 - 1)) < (x9_1.length : Int) then (stipendref13_Year.j1 k1 a1 l2 l3 x9_1 x10_1 (rd x9_1 (wrap64 (x10_1 - 1))) l0_0 l0_1 l0_2 a0_3 a0_4) else (none)) else (none)) else (stipendref13_Year.j1 k1 a1 l2 l3 x9_1 x10_1 0 l0_0 l0_1 l0_2 a0_3 a0_4)) else (stipendref13_Year.l1 k1 a1 l2 l3 x9_1 x10_1 0 0 l0_0 l0_1 l0_2 a0_3 a0_4)) = some r := by rw [← hbq8] at H; exact H
     have Nbq8 := A_ hbq8; clear hbq8; by_cases c9 : bq8 = true
     ·subst c9; rw [if_pos rfl] at H; have HC10 := A_ H; clear H; have p1117 : 0 ≤ (x10_1 : Int) := od_; have q1117 : x10_1 < (l2.length : Int) := od_; obtain ⟨ad1117, e1117, hx1117_0, hx1117_1, hx1117_2, hx1117_3, hx1117_4⟩ := at_T88 HR2.out x10_1 p1117 q1117
      (try rw [← Nbq8.out] at hx1117_4); (try rw [← Nbq8.out] at hw1117_4)
      cases e1117; replace hx1117_0 := (HB.out.cell (World.block_lt_of_cell? w _ hx1117_0)).trans hx1117_0; replace hx1117_1 := (HB.out.cell (World.block_lt_of_cell? w _ hx1117_1)).trans hx1117_1; replace hx1117_2 := (HB.out.cell (World.block_lt_of_cell? w _ hx1117_2)).trans hx1117_2; replace hx1117_3 := (HB.out.cell (World.block_lt_of_cell? w _ hx1117_3)).trans hx1117_3; replace hx1117_4 := (HB.out.cell (World.block_lt_of_cell? w _ hx1117_4)).trans hx1117_4; replace p1117 := eq_true p1117; replace q1117 := eq_true q1117
      go_upto_if 27 with (fail)
      go_cut [11] (fun v11 wc => ∃ (kq : Nat) (x11_9 : Int), v11 = .int .i64 x11_9 ∧ Aside0 (stipendref13_Year.j1 kq a1 l2 l3 x9_1 x10_1 x11_9 l0_0 l0_1 l0_2 a0_3 a0_4 = some r) ∧ Aside0 (kq ≤ k1) ∧ Aside0 (Kd.R (Kd.int .i64) 2 wc w.heap.size (fun _ => True) u9 x9_1) ∧ Aside0 (wc.heap[gb1116]? = some (.cells #[(.slice A0_0 l0_0.length c0_0), (.slice A0_1 l0_1.length c0_1), (.slice A0_2 l0_2.length c0_2), .int .i64 a0_3, .int .i64 a0_4] 56 (0, 0))) ∧ Aside0 (Below w.heap.size w wc))
      case first =>
       have H := HC10.out; clear HC10; by_cases c11 : x10_1 > 0
       ·rw [if_pos c11] at H; have c11b0 : decide (0 < x10_1) = true := decide_eq_true c11; clear c11
        (first | rw [c11b0] | (simp only [i64_w, i32_w]; rw [c11b0]) | skip)
        obtain ⟨ji12, hji12⟩ : ∃ j_ : Int, (wrap64 (x10_1 - 1)) = j_ := ⟨_, rfl⟩; replace H : (if 0 ≤ (ji12) then (if (ji12) < (x9_1.length : Int) then (stipendref13_Year.j1 k1 a1 l2 l3 x9_1 x10_1 (rd x9_1 (ji12)) l0_0 l0_1 l0_2 a0_3 a0_4) else (none)) else (none)) = some r := by first | (rw [hji12] at H; exact H) | (simp only [hji12] at H ⊢; exact H)
        have hji12w : (IntKind.i64.wrap (x10_1 - 1)) = ji12 := (i64_w _).trans hji12; by_cases c13 : 0 ≤ (ji12)
        ·rw [if_pos c13] at H; have c13b0 := decide_eq_true c13; clear c13; by_cases c14 : (ji12) < (x9_1.length : Int)
         ·rw [if_pos c14] at H; have c14b0 := decide_eq_true c14; clear c14; have H' := A_ H; clear H; obtain ⟨Ao15, co15, eo15⟩ := Kd.R_slice HO_9.out; subst eo15; have p1118 : 0 ≤ ((ji12) : Int) := od_; have q1118 : (ji12) < (x9_1.length : Int) := od_; obtain ⟨ad1118, e1118, hx1118_0⟩ := Kd.at_int (Kd.R_reads' HO_9.out).2.2 (ji12) p1118 q1118; cases e1118; replace p1118 := eq_true p1118; replace q1118 := eq_true q1118
          go_wp2
          go_meet
          case rel => exact ⟨_, (rd x9_1 (ji12)), (by first | rfl | (simp; done) | (simp only [← hji12] <;> (first | rfl | simp)) | (simp [*]; done)), H', ⟨by have := HK1.out; first | omega | exact Nat.le_refl _⟩, ⟨ro_ HO_9⟩, ⟨bx_ BK1116⟩, ⟨bl1_ HB GE1116.out⟩⟩
         ·rw [if_neg c14] at H; exact absurd H (by simp)
        ·rw [if_neg c13] at H; exact absurd H (by simp)
       ·rw [if_neg c11] at H; have c11b0 : decide (0 < x10_1) = false := decide_eq_false c11; clear c11
        (first | rw [c11b0] | (simp only [i64_w, i32_w]; rw [c11b0]) | skip)
        have H' := A_ H; clear H
        go_wp2
        go_meet
        case rel => exact ⟨_, (0), (sx_), H', ⟨by have := HK1.out; first | omega | exact Nat.le_refl _⟩, ⟨ro_ HO_9⟩, ⟨bx_ BK1116⟩, ⟨bl1_ HB GE1116.out⟩⟩
      case rest =>
       clear HC10; try clear c1
       try clear p1
       try clear q1
       try clear hx1
       try clear c2
       try clear p2
       try clear c3
       try clear c6
       try clear c6b0
       try clear p6
       try clear c7
       try clear c7b0
       try clear c8
       try clear q8
       try clear c9
       try clear c11
       try clear c11b0
       try clear p11
       try clear q11
       try clear hx11
       try clear c13
       try clear c13b0
       try clear c14
       try clear c14b0
       try clear hx1117_0
       try clear hx1117_1
       try clear hx1117_2
       try clear hx1117_3
       try clear hx1117_4
       try clear hx1118_0
       try clear p1117
       try clear p1118
       try clear p2
       try clear q1117
       try clear q1118
       obtain ⟨kq, x11_9, rfl, HA, HJ9, HO_9, BK1116, HB⟩ := hcut
       cases kq with
       | zero => exact absurd HA.out (by simp [stipendref13_Year.j1])
       | succ kj9 =>
        have H := HA.out; clear HA; simp only [stipendref13_Year.j1] at H; by_cases c16 : 0 ≤ x10_1
        ·rw [if_pos c16] at H; have c16b0 := decide_eq_true c16; clear c16; by_cases c17 : x10_1 < (l2.length : Int)
         ·rw [if_pos c17] at H; have c17b0 := decide_eq_true c17; clear c17; by_cases c18 : x10_1 < (l3.length : Int)
          ·rw [if_pos c18] at H; have c18b0 := decide_eq_true c18; clear c18; replace H := Option.bind_eq_some_iff.mp H; obtain ⟨t1121, A190, H⟩ := H; (try dsimp only at H); have A19 := A_ A190; clear A190; by_cases c20 : x9_1.length < 17592186044416
           ·rw [if_pos c20] at H; have LMc20 := A_ c20; clear c20; obtain ⟨y1122, hy1122⟩ : ∃ y_ : List Int, y_ = (x9_1 ++ [wrap64 (x11_9 + t1121)]) := ⟨_, rfl⟩; replace H : (stipendref13_Year.l0 kj9 a1 l2 l3 y1122 (wrap64 (x10_1 + 1)) l0_0 l0_1 l0_2 a0_3 a0_4) = some r := by first | (rw [hy1122]; with_reducible exact H) | (have H2_ := (Option.bind_some _ _).symm.trans H; rw [hy1122]; with_reducible exact H2_) | (have H2_ := (Option.bind_some _ _).symm.trans H; with_reducible exact H2_) | with_reducible exact H | (rw [hy1122]; exact H) | exact H
            have Ny1122 := A_ hy1122; clear hy1122; have H' := A_ H; clear H
            try go_wp2
            replace HO_9 := A_ (Kd.R_drew HO_9.out); replace BK1116 := A_ (blk_drew BK1116.out); replace HB := A_ (below_drew1 HB.out); have p1119 : 0 ≤ (x10_1 : Int) := od_; have q1119 : x10_1 < (l2.length : Int) := od_; obtain ⟨ad1119, e1119, hx1119_0, hx1119_1, hx1119_2, hx1119_3, hx1119_4⟩ := at_T88 HR2.out x10_1 p1119 q1119; have hw1119_4 := hx1119_4; have hw1119_3 := hx1119_3; have hw1119_2 := hx1119_2; have hw1119_1 := hx1119_1; have hw1119_0 := hx1119_0
            (try rw [← Nbq8.out] at hx1119_4); (try rw [← Nbq8.out] at hw1119_4)
            obtain rfl : ad1117 = ad1119 := (by injection e1119); replace hx1119_0 := (HB.out.cell (World.block_lt_of_cell? w _ hx1119_0)).trans hx1119_0; replace hx1119_1 := (HB.out.cell (World.block_lt_of_cell? w _ hx1119_1)).trans hx1119_1; replace hx1119_2 := (HB.out.cell (World.block_lt_of_cell? w _ hx1119_2)).trans hx1119_2; replace hx1119_3 := (HB.out.cell (World.block_lt_of_cell? w _ hx1119_3)).trans hx1119_3; replace hx1119_4 := (HB.out.cell (World.block_lt_of_cell? w _ hx1119_4)).trans hx1119_4; replace p1119 := eq_true p1119; replace q1119 := eq_true q1119; have p1120 : 0 ≤ (x10_1 : Int) := od_; have q1120 : x10_1 < (l3.length : Int) := od_; obtain ⟨ad1120, e1120, hx1120_0⟩ := Kd.at_int HR3.out x10_1 p1120 q1120; have hw1120_0 := hx1120_0; cases e1120; replace hx1120_0 := (HB.out.cell (World.block_lt_of_cell? w _ hx1120_0)).trans hx1120_0; replace p1120 := eq_true p1120; replace q1120 := eq_true q1120; refine start_ (n := 17) (S := fun w' => w'.cell? ⟨gb1116, 0, none⟩ = some (.slice A0_0 l0_0.length c0_0) ∧ w'.cell? ⟨gb1116, 1, none⟩ = some (.slice A0_1 l0_1.length c0_1) ∧ w'.cell? ⟨gb1116, 2, none⟩ = some (.slice A0_2 l0_2.length c0_2) ∧ w'.cell? ⟨gb1116, 3, none⟩ = some (.int .i64 a0_3) ∧ w'.cell? ⟨gb1116, 4, none⟩ = some (.int .i64 a0_4) ∧ w'.cell? (ad1117.add ((x10_1).toNat * 5)) = some (.int .i64 ((rd_T88 l2 x10_1).f0)) ∧ w'.cell? ⟨(ad1117.add ((x10_1).toNat * 5)).block, (ad1117.add ((x10_1).toNat * 5)).off + 1, none⟩ = some (.int .i64 ((rd_T88 l2 x10_1).f1)) ∧ w'.cell? ⟨(ad1117.add ((x10_1).toNat * 5)).block, (ad1117.add ((x10_1).toNat * 5)).off + 2, none⟩ = some (.int .i64 ((rd_T88 l2 x10_1).f2)) ∧ w'.cell? ⟨(ad1117.add ((x10_1).toNat * 5)).block, (ad1117.add ((x10_1).toNat * 5)).off + 3, none⟩ = some (.int .i64 ((rd_T88 l2 x10_1).f3)) ∧ w'.cell? ⟨(ad1117.add ((x10_1).toNat * 5)).block, (ad1117.add ((x10_1).toNat * 5)).off + 4, none⟩ = some (.bool (true)) ∧ w'.cell? (ad1120.add (x10_1).toNat) = some (.int .i64 (rd l3 x10_1))) (ds := []) #[false, false, false, false, false, false, false, false, false, false, false, false, false, false, false, false, false] (by kernel_rfl) rfl rfl ⟨(blk_cell BK1116.out 0).trans rfl, (blk_cell BK1116.out 1).trans rfl, (blk_cell BK1116.out 2).trans rfl, (blk_cell BK1116.out 3).trans rfl, (blk_cell BK1116.out 4).trans rfl, ((HB.out.cell (World.block_lt_of_cell? w _ hw1119_0)).trans hw1119_0), ((HB.out.cell (World.block_lt_of_cell? w _ hw1119_1)).trans hw1119_1), ((HB.out.cell (World.block_lt_of_cell? w _ hw1119_2)).trans hw1119_2), ((HB.out.cell (World.block_lt_of_cell? w _ hw1119_3)).trans hw1119_3), ((HB.out.cell (World.block_lt_of_cell? w _ hw1119_4)).trans hw1119_4), ((HB.out.cell (World.block_lt_of_cell? w _ hw1120_0)).trans hw1120_0)⟩ (fun hHeld => ?_); refine with_tabW stipendref13_Year.tab9 stipendref13_Year.bits9 (fun HT_ HW_ => ?_)
            generalize wc.drew = w21 at HO_9 BK1116 HB hx1119_0 hx1119_1 hx1119_2 hx1119_3 hx1119_4 hx1120_0 hHeld ⊢; refine pure_ (i := 0) (N := some 33) (v := ?_) (a' := ?_) #[true, false, false, false, false, false, false, false, false, false, false, false, false, false, false, false, false] rfl rfl (any_of HT_.out (by kernel_rfl)) (fun _ _ _ h => h) (Or.inl ⟨by rfl, ?_⟩) ?_ ?_
            rotate_left
            ·intro w'
             go_simp
             with_reducible rfl
            rotate_left
            ·simp only [Act.put, List.setIfInBounds_toArray, List.set_cons_zero, List.set_cons_succ, i64_w, i32_w]
             rfl
            refine pure_ (i := 1) (N := some 34) (v := ?_) (a' := ?_) #[true, true, false, false, false, false, false, false, false, false, false, false, false, false, false, false, false] rfl rfl (any_of HT_.out (by kernel_rfl)) (fun _ _ _ h => h) (Or.inl ⟨by rfl, ?_⟩) ?_ ?_
            rotate_left
            ·intro w'
             go_simp
             with_reducible rfl
            rotate_left
            ·simp only [Act.put, List.setIfInBounds_toArray, List.set_cons_zero, List.set_cons_succ, i64_w, i32_w]
             rfl
            refine pure_ (i := 3) (N := some 36) (v := ?_) (a' := ?_) #[true, true, false, true, false, false, false, false, false, false, false, false, false, false, false, false, false] rfl rfl (any_of HT_.out (by kernel_rfl)) (fun _ _ _ h => h) (Or.inl ⟨by rfl, ?_⟩) ?_ ?_
            rotate_left
            ·intro w'
             go_simp
             with_reducible rfl
            rotate_left
            ·simp only [Act.put, List.setIfInBounds_toArray, List.set_cons_zero, List.set_cons_succ, i64_w, i32_w]
             rfl
            refine pure_ (i := 4) (N := some 37) (v := ?_) (a' := ?_) #[true, true, false, true, true, false, false, false, false, false, false, false, false, false, false, false, false] rfl rfl (any_of HT_.out (by kernel_rfl)) (fun _ _ _ h => h) (Or.inl ⟨by rfl, ?_⟩) ?_ ?_
            rotate_left
            ·intro w'
             go_simp
             with_reducible rfl
            rotate_left
            ·simp only [Act.put, List.setIfInBounds_toArray, List.set_cons_zero, List.set_cons_succ, i64_w, i32_w]
             rfl
            refine pure_ (i := 5) (N := some 38) (v := ?_) (a' := ?_) #[true, true, false, true, true, true, false, false, false, false, false, false, false, false, false, false, false] rfl rfl (any_of HT_.out (by kernel_rfl)) (fun _ _ _ h => h) (Or.inl ⟨by rfl, ?_⟩) ?_ ?_
            rotate_left
            ·intro w'
             go_simp
             with_reducible rfl
            rotate_left
            ·simp only [Act.put, List.setIfInBounds_toArray, List.set_cons_zero, List.set_cons_succ, i64_w, i32_w]
             rfl
            refine pure_ (i := 7) (N := some 40) (v := ?_) (a' := ?_) #[true, true, false, true, true, true, false, true, false, false, false, false, false, false, false, false, false] rfl rfl (any_of HT_.out (by kernel_rfl)) (fun _ _ _ h => h) (Or.inl ⟨by rfl, ?_⟩) ?_ ?_
            rotate_left
            ·intro w'
             go_simp
             with_reducible rfl
            rotate_left
            ·simp only [Act.put, List.setIfInBounds_toArray, List.set_cons_zero, List.set_cons_succ, i64_w, i32_w]
             rfl
            refine pure_ (i := 8) (N := some 41) (v := ?_) (a' := ?_) #[true, true, false, true, true, true, false, true, true, false, false, false, false, false, false, false, false] rfl rfl (any_of HT_.out (by kernel_rfl)) (fun _ _ _ h => h) (Or.inl ⟨by rfl, ?_⟩) ?_ ?_
            rotate_left
            ·intro w'
             go_simp
             with_reducible rfl
            rotate_left
            ·simp only [Act.put, List.setIfInBounds_toArray, List.set_cons_zero, List.set_cons_succ, i64_w, i32_w]
             rfl
            refine pure_ (i := 9) (N := some 42) (v := ?_) (a' := ?_) #[true, true, false, true, true, true, false, true, true, true, false, false, false, false, false, false, false] rfl rfl (any_of HT_.out (by kernel_rfl)) (fun _ _ _ h => h) (Or.inl ⟨by rfl, ?_⟩) ?_ ?_
            rotate_left
            ·intro w'
             go_simp
             with_reducible rfl
            rotate_left
            ·simp only [Act.put, List.setIfInBounds_toArray, List.set_cons_zero, List.set_cons_succ, i64_w, i32_w]
             rfl
            refine pure_ (i := 11) (N := some 44) (v := ?_) (a' := ?_) #[true, true, false, true, true, true, false, true, true, true, false, true, false, false, false, false, false] rfl rfl (any_of HT_.out (by kernel_rfl)) (fun _ _ _ h => h) (Or.inl ⟨by rfl, ?_⟩) ?_ ?_
            rotate_left
            ·intro w'
             go_simp
             with_reducible rfl
            rotate_left
            ·simp only [Act.put, List.setIfInBounds_toArray, List.set_cons_zero, List.set_cons_succ, i64_w, i32_w]
             rfl
            refine take_ (i := 2) (N := some 35) (v := ?_) (a' := ?_) #[true, true, true, true, true, true, false, true, true, true, false, true, false, false, false, false, false] rfl rfl (take_ofW HT_.out HW_.out (by kernel_rfl)) (fun _ _ _ h => h) (Or.inl ⟨by rfl, ?_⟩) hHeld ?_ ?_
            rotate_left
            ·rintro w' ⟨s0, s1, s2, s3, s4, s5, s6, s7, s8, s9, s10⟩
             go_simp
             with_reducible rfl
            rotate_left
            ·simp only [Act.put, List.setIfInBounds_toArray, List.set_cons_zero, List.set_cons_succ, i64_w, i32_w]
             rfl
            refine take_ (i := 6) (N := some 39) (v := ?_) (a' := ?_) #[true, true, true, true, true, true, true, true, true, true, false, true, false, false, false, false, false] rfl rfl (take_ofW HT_.out HW_.out (by kernel_rfl)) (fun _ _ _ h => h) (Or.inl ⟨by rfl, ?_⟩) hHeld ?_ ?_
            rotate_left
            ·rintro w' ⟨s0, s1, s2, s3, s4, s5, s6, s7, s8, s9, s10⟩
             go_simp
             with_reducible rfl
            rotate_left
            ·simp only [Act.put, List.setIfInBounds_toArray, List.set_cons_zero, List.set_cons_succ, i64_w, i32_w]
             rfl
            refine take_ (i := 10) (N := some 43) (v := ?_) (a' := ?_) #[true, true, true, true, true, true, true, true, true, true, true, true, false, false, false, false, false] rfl rfl (take_ofW HT_.out HW_.out (by kernel_rfl)) (fun _ _ _ h => h) (Or.inl ⟨by rfl, ?_⟩) hHeld ?_ ?_
            rotate_left
            ·rintro w' ⟨s0, s1, s2, s3, s4, s5, s6, s7, s8, s9, s10⟩
             go_simp
             with_reducible rfl
            rotate_left
            ·simp only [Act.put, List.setIfInBounds_toArray, List.set_cons_zero, List.set_cons_succ, i64_w, i32_w]
             rfl
            refine one_ (i := 12) (N := some 45) #[true, true, true, true, true, true, true, true, true, true, true, true, true, false, false, false, false] rfl rfl (one_of HT_.out (by kernel_rfl)) (by decide) (fun K hK => ?_)
            refine goes_ Try.func134 (by kernel_rfl) rfl #[.agg #[.slice A0_0 l0_0.length c0_0, .slice A0_1 l0_1.length c0_1, .slice A0_2 l0_2.length c0_2, .int .i64 a0_3, .int .i64 a0_4], .agg #[.int .i64 ((rd_T88 l2 x10_1).f0), .int .i64 ((rd_T88 l2 x10_1).f1), .int .i64 ((rd_T88 l2 x10_1).f2), .int .i64 ((rd_T88 l2 x10_1).f3), .bool true], .int .i64 (rd l3 x10_1), .int .i64 1, .int .i64 a1] (by rfl) rfl rfl (by (try simp only [List.map_toArray, List.map_cons, List.map_nil]); first | done | rfl | (simp only [List.length_drop, List.length_take]; rfl)) ?_
            with_reducible refine (stipendref13_Due.calls kj9 _ _ l0_0 _ _ l0_1 _ _ l0_2 a0_3 a0_4 ((rd_T88 l2 x10_1).f0) ((rd_T88 l2 x10_1).f1) ((rd_T88 l2 x10_1).f2) ((rd_T88 l2 x10_1).f3) true (rd l3 x10_1) 1 a1 t1121 _ ?side1 ?side2 ?side3 ?side4 ?side5 ?side6 (by rw [Nbq8.out]; exact A19.out)).mono ?_
            (case side1 => exact cb_ HR0_0 HB)
            (case side2 => exact HC0_0.out)
            (case side3 => exact cb_ HR0_1 HB)
            (case side4 => exact HC0_1.out)
            (case side5 => exact cb_ HR0_2 HB)
            (case side6 => exact HC0_2.out)
            rintro e w22 ⟨rfl, hb⟩; refine ⟨_, rfl, ?_⟩
            replace HO_9 := A_ (Kd.R_below (ro_ HO_9) hb); replace BK1116 := A_ (blk_below (bx_ BK1116) hb); replace HB := A_ (below_step (bl1_ HB GE1116.out) hb)
            (try clear hb)
            (try clear hb2)
            (try clear hk)
            (try clear hi)
            refine hK.out _ _ ⟨(blk_cell BK1116.out 0).trans rfl, (blk_cell BK1116.out 1).trans rfl, (blk_cell BK1116.out 2).trans rfl, (blk_cell BK1116.out 3).trans rfl, (blk_cell BK1116.out 4).trans rfl, ((HB.out.cell (World.block_lt_of_cell? w _ hw1119_0)).trans hw1119_0), ((HB.out.cell (World.block_lt_of_cell? w _ hw1119_1)).trans hw1119_1), ((HB.out.cell (World.block_lt_of_cell? w _ hw1119_2)).trans hw1119_2), ((HB.out.cell (World.block_lt_of_cell? w _ hw1119_3)).trans hw1119_3), ((HB.out.cell (World.block_lt_of_cell? w _ hw1119_4)).trans hw1119_4), ((HB.out.cell (World.block_lt_of_cell? w _ hw1120_0)).trans hw1120_0)⟩ (fun hHeld => ?_)
            clear hK K; refine norm_ (a' := ?_) ?_ ?_
            rotate_left
            ·show Act.put _ (some 45) _ = _
             simp only [Act.put, List.setIfInBounds_toArray, List.set_cons_zero, List.set_cons_succ, i64_w, i32_w]
             rfl
            refine pure_ (i := 13) (N := some 46) (v := ?_) (a' := ?_) #[true, true, true, true, true, true, true, true, true, true, true, true, true, true, false, false, false] rfl rfl (any_of HT_.out (by kernel_rfl)) (fun _ _ _ h => h) (Or.inl ⟨by rfl, ?_⟩) ?_ ?_
            rotate_left
            ·intro w'
             go_simp
             with_reducible rfl
            rotate_left
            ·simp only [Act.put, List.setIfInBounds_toArray, List.set_cons_zero, List.set_cons_succ, i64_w, i32_w]
             rfl
            refine one_ (i := 14) (N := some 47) #[true, true, true, true, true, true, true, true, true, true, true, true, true, true, true, false, false] rfl rfl (one_of HT_.out (by kernel_rfl)) (by decide) (fun K hK => ?_)
            refine value_ (w1 := ?_) (v := ?_) (by rfl) rfl ?_ ?_
            rotate_left 2
            ·go_simp
             constructor
             ·rfl
             ·rfl
            refine hK.out _ _ ⟨(blk_cell (blk_alloc BK1116.out _) 0).trans rfl, (blk_cell (blk_alloc BK1116.out _) 1).trans rfl, (blk_cell (blk_alloc BK1116.out _) 2).trans rfl, (blk_cell (blk_alloc BK1116.out _) 3).trans rfl, (blk_cell (blk_alloc BK1116.out _) 4).trans rfl, (World.cell?_alloc_lt _ _ _ (World.block_lt_of_cell? _ _ (((HB.out.cell (World.block_lt_of_cell? w _ hw1119_0)).trans hw1119_0)))).trans (((HB.out.cell (World.block_lt_of_cell? w _ hw1119_0)).trans hw1119_0)), (World.cell?_alloc_lt _ _ _ (World.block_lt_of_cell? _ _ (((HB.out.cell (World.block_lt_of_cell? w _ hw1119_1)).trans hw1119_1)))).trans (((HB.out.cell (World.block_lt_of_cell? w _ hw1119_1)).trans hw1119_1)), (World.cell?_alloc_lt _ _ _ (World.block_lt_of_cell? _ _ (((HB.out.cell (World.block_lt_of_cell? w _ hw1119_2)).trans hw1119_2)))).trans (((HB.out.cell (World.block_lt_of_cell? w _ hw1119_2)).trans hw1119_2)), (World.cell?_alloc_lt _ _ _ (World.block_lt_of_cell? _ _ (((HB.out.cell (World.block_lt_of_cell? w _ hw1119_3)).trans hw1119_3)))).trans (((HB.out.cell (World.block_lt_of_cell? w _ hw1119_3)).trans hw1119_3)), (World.cell?_alloc_lt _ _ _ (World.block_lt_of_cell? _ _ (((HB.out.cell (World.block_lt_of_cell? w _ hw1119_4)).trans hw1119_4)))).trans (((HB.out.cell (World.block_lt_of_cell? w _ hw1119_4)).trans hw1119_4)), (World.cell?_alloc_lt _ _ _ (World.block_lt_of_cell? _ _ (((HB.out.cell (World.block_lt_of_cell? w _ hw1120_0)).trans hw1120_0)))).trans (((HB.out.cell (World.block_lt_of_cell? w _ hw1120_0)).trans hw1120_0))⟩ (fun hHeld => ?_)
            clear hK K; refine norm_ (a' := ?_) ?_ ?_
            rotate_left
            ·show Act.put _ (some 47) _ = _
             simp only [Act.put, List.setIfInBounds_toArray, List.set_cons_zero, List.set_cons_succ, i64_w, i32_w]
             rfl
            refine one_ (i := 15) (N := some 48) #[true, true, true, true, true, true, true, true, true, true, true, true, true, true, true, true, false] rfl rfl (one_of HT_.out (by kernel_rfl)) (by decide) (fun K hK => ?_)
            refine Kd.R_append_step (Kd.int .i64) (w0 := w) w.heap.size (by rfl) (.tmp 33) (.tmp 47) 79 2 (.int .i64 0) 8 rfl Try.underlying79 info2 rfl (by decide) (by omega) u9 x9_1 (wrap64 (x11_9 + t1121)) [.int .i64 (wrap64 (x11_9 + t1121))] (fun _ => True) (fun _ => False) rfl rfl ?aP (fun _ hk => hk.elim) ?aF ?aO ?aB ?aS ?aL ?_
            (case aP => exact rfl)
            (case aB => exact (bl1_ HB GE1116.out))
            (case aF => exact (fun _ _ => trivial))
            (case aO => exact (ro_ HO_9))
            (case aS => exact (below_size (bl1_ HB GE1116.out)))
            (case aL => have := LMc20.out; omega)
            intro v1123 w23 ho hb hg hat; rw [← Ny1122.out] at ho; have HO1124 := A_ (ho); replace BK1116 := A_ (blk_grown (g := gb1116) (o := .cells #[.slice A0_0 l0_0.length c0_0, .slice A0_1 l0_1.length c0_1, .slice A0_2 l0_2.length c0_2, .int .i64 a0_3, .int .i64 a0_4] 56 (0, 0)) (bx_ BK1116) hg (Kd.R_ne HO_9.out BK1116.out (by decide))); replace HB := A_ (hb); clear HO_9; clear ho hb hg hat; refine hK.out _ _ ⟨(blk_cell BK1116.out 0).trans rfl, (blk_cell BK1116.out 1).trans rfl, (blk_cell BK1116.out 2).trans rfl, (blk_cell BK1116.out 3).trans rfl, (blk_cell BK1116.out 4).trans rfl, ((HB.out.cell (World.block_lt_of_cell? w _ hw1119_0)).trans hw1119_0), ((HB.out.cell (World.block_lt_of_cell? w _ hw1119_1)).trans hw1119_1), ((HB.out.cell (World.block_lt_of_cell? w _ hw1119_2)).trans hw1119_2), ((HB.out.cell (World.block_lt_of_cell? w _ hw1119_3)).trans hw1119_3), ((HB.out.cell (World.block_lt_of_cell? w _ hw1119_4)).trans hw1119_4), ((HB.out.cell (World.block_lt_of_cell? w _ hw1120_0)).trans hw1120_0)⟩ (fun hHeld => ?_)
            clear hK K; refine norm_ (a' := ?_) ?_ ?_
            rotate_left
            ·show Act.put _ (some 48) _ = _
             simp only [Act.put, List.setIfInBounds_toArray, List.set_cons_zero, List.set_cons_succ, i64_w, i32_w]
             rfl
            refine pure_ (i := 16) (N := some 9) (v := ?_) (a' := ?_) #[true, true, true, true, true, true, true, true, true, true, true, true, true, true, true, true, true] rfl rfl (any_of HT_.out (by kernel_rfl)) (fun _ _ _ h => h) (Or.inl ⟨by rfl, ?_⟩) ?_ ?_
            rotate_left
            ·intro w'
             go_simp
             with_reducible rfl
            rotate_left
            ·simp only [Act.put, List.setIfInBounds_toArray, List.set_cons_zero, List.set_cons_succ, i64_w, i32_w]
             rfl
            refine done_ (done_of HT_.out (by kernel_rfl)) ?_
            try go_wp2
            go_roundg kj9
            case measure => have := HK1.out; have := HJ9.out; omega
            case rel => exact ⟨(y1122), (wrap64 (x10_1 + 1)), (sx_), H', ⟨by have := HK1.out; have := HJ9.out; omega⟩, ⟨ro_ HO1124⟩, ⟨bx_ BK1116⟩, ⟨bl1_ HB GE1116.out⟩⟩
           ·rw [if_neg c20] at H; exact absurd H (by simp)
          ·rw [if_neg c18] at H; exact absurd H (by simp)
         ·rw [if_neg c17] at H; exact absurd H (by simp)
        ·rw [if_neg c16] at H; exact absurd H (by simp)
     ·replace c9 := Bool.eq_false_iff.mpr c9; subst c9; rw [if_neg (show ¬ (false = true) by decide)] at H; have H' := A_ H; clear H; have p1117 : 0 ≤ (x10_1 : Int) := od_; have q1117 : x10_1 < (l2.length : Int) := od_; obtain ⟨ad1117, e1117, hx1117_0, hx1117_1, hx1117_2, hx1117_3, hx1117_4⟩ := at_T88 HR2.out x10_1 p1117 q1117
      (try rw [← Nbq8.out] at hx1117_4); (try rw [← Nbq8.out] at hw1117_4)
      cases e1117; replace hx1117_0 := (HB.out.cell (World.block_lt_of_cell? w _ hx1117_0)).trans hx1117_0; replace hx1117_1 := (HB.out.cell (World.block_lt_of_cell? w _ hx1117_1)).trans hx1117_1; replace hx1117_2 := (HB.out.cell (World.block_lt_of_cell? w _ hx1117_2)).trans hx1117_2; replace hx1117_3 := (HB.out.cell (World.block_lt_of_cell? w _ hx1117_3)).trans hx1117_3; replace hx1117_4 := (HB.out.cell (World.block_lt_of_cell? w _ hx1117_4)).trans hx1117_4; replace p1117 := eq_true p1117; replace q1117 := eq_true q1117
      go_wp2
      go_loopg [12, 13] k1 (fun kq v12 v13 w' => ∃ (x12_2 : Int) (x13_2 : Int), v12 = .int .i64 x12_2 ∧ v13 = .int .i64 x13_2 ∧ Aside0 (stipendref13_Year.l1 kq a1 l2 l3 x9_1 x10_1 x12_2 x13_2 l0_0 l0_1 l0_2 a0_3 a0_4 = some r) ∧ Aside0 (kq ≤ k1) ∧ Aside0 (Kd.R (Kd.int .i64) 2 w' w.heap.size (fun _ => True) u9 x9_1) ∧ Aside0 (w'.heap[gb1116]? = some (.cells #[(.slice A0_0 l0_0.length c0_0), (.slice A0_1 l0_1.length c0_1), (.slice A0_2 l0_2.length c0_2), .int .i64 a0_3, .int .i64 a0_4] 56 (0, 0))) ∧ Aside0 (Below w.heap.size w w'))
      case atStart => exact ⟨(0), (0), (sx_), (sx_), H', ⟨Nat.le_refl _⟩, ⟨ro_ HO_9⟩, ⟨bx_ BK1116⟩, ⟨bl1_ HB GE1116.out⟩⟩
      case round =>
       clear H'; try clear c1
       try clear p1
       try clear q1
       try clear hx1
       try clear c2
       try clear p2
       try clear c3
       try clear c6
       try clear c6b0
       try clear p6
       try clear c7
       try clear c7b0
       try clear c8
       try clear q8
       try clear c9
       try clear c11
       try clear c11b0
       try clear p11
       try clear q11
       try clear hx11
       try clear c13
       try clear c13b0
       try clear c14
       try clear c14b0
       try clear c16
       try clear c16b0
       try clear c17
       try clear c17b0
       try clear c18
       try clear c18b0
       try clear c20
       try clear hx1117_0
       try clear hx1117_1
       try clear hx1117_2
       try clear hx1117_3
       try clear hx1117_4
       try clear hx1118_0
       try clear hx1119_0
       try clear hx1119_1
       try clear hx1119_2
       try clear hx1119_3
       try clear hx1119_4
       try clear hx1120_0
       try clear p1
       try clear p11
       try clear p1117
       try clear p1118
       try clear p1119
       try clear p1120
       try clear p2
       try clear p6
       try clear q1
       try clear q11
       try clear q1117
       try clear q1118
       try clear q1119
       try clear q1120
       try clear q8
       obtain ⟨x12_2, x13_2, rfl, rfl, HA, HK2, HO_9, BK1116, HB⟩ := hrel
       cases gk with
       | zero => exact absurd HA.out (by simp [stipendref13_Year.l1])
       | succ k2 =>
        have H := HA.out; clear HA; simp only [stipendref13_Year.l1] at H; by_cases c24 : x13_2 ≤ x10_1
        ·rw [if_pos c24] at H; have c24b0 := decide_eq_true c24; clear c24; by_cases c25 : 0 ≤ x13_2
         ·rw [if_pos c25] at H; have c25b0 := decide_eq_true c25; clear c25; by_cases c26 : x13_2 < (l3.length : Int)
          ·rw [if_pos c26] at H; have c26b0 := decide_eq_true c26; clear c26; have H' := A_ H; clear H; have p1125 : 0 ≤ (x13_2 : Int) := od_; have q1125 : x13_2 < (l3.length : Int) := od_; obtain ⟨ad1125, e1125, hx1125_0⟩ := Kd.at_int HR3.out x13_2 p1125 q1125; cases e1125; replace hx1125_0 := (HB.out.cell (World.block_lt_of_cell? w _ hx1125_0)).trans hx1125_0; replace p1125 := eq_true p1125; replace q1125 := eq_true q1125
           go_wp2
           go_roundg k2
           case measure => have := HK1.out; have := HK2.out; omega
           case rel => exact ⟨(wrap64 (x12_2 + (rd l3 x13_2))), (wrap64 (x13_2 + 1)), (sx_), (sx_), H', ⟨by have := HK1.out; have := HK2.out; omega⟩, ⟨ro_ HO_9⟩, ⟨bx_ BK1116⟩, ⟨bl1_ HB GE1116.out⟩⟩
          ·rw [if_neg c26] at H; exact absurd H (by simp)
         ·rw [if_neg c25] at H; exact absurd H (by simp)
        ·rw [if_neg c24] at H; have c24b0 := decide_eq_false c24; clear c24; have HC27 := A_ H; clear H
         go_upto_if 64 with (fail)
         go_cut [14] (fun v14 wc => ∃ (kq : Nat) (x14_26 : Int), v14 = .int .i64 x14_26 ∧ Aside0 (stipendref13_Year.j3 kq a1 l2 l3 x9_1 x10_1 x12_2 x14_26 l0_0 l0_1 l0_2 a0_3 a0_4 = some r) ∧ Aside0 (kq ≤ k2) ∧ Aside0 (Kd.R (Kd.int .i64) 2 wc w.heap.size (fun _ => True) u9 x9_1) ∧ Aside0 (wc.heap[gb1116]? = some (.cells #[(.slice A0_0 l0_0.length c0_0), (.slice A0_1 l0_1.length c0_1), (.slice A0_2 l0_2.length c0_2), .int .i64 a0_3, .int .i64 a0_4] 56 (0, 0))) ∧ Aside0 (Below w.heap.size w wc))
         case first =>
          have H := HC27.out; clear HC27; by_cases c28 : (wrap64 (x10_1 + 1)) > a1
          ·rw [if_pos c28] at H; have c28b0 : decide (a1 < (wrap64 (x10_1 + 1))) = true := decide_eq_true c28; clear c28
           (first | rw [c28b0] | (simp only [i64_w, i32_w]; rw [c28b0]) | skip)
           have H' := A_ H; clear H
           go_wp2
           go_meet
           case rel => exact ⟨_, (a1), (sx_), H', ⟨by have := HK1.out; have := HK2.out; first | omega | exact Nat.le_refl _⟩, ⟨ro_ HO_9⟩, ⟨bx_ BK1116⟩, ⟨bl1_ HB GE1116.out⟩⟩
          ·rw [if_neg c28] at H; have c28b0 : decide (a1 < (wrap64 (x10_1 + 1))) = false := decide_eq_false c28; clear c28
           (first | rw [c28b0] | (simp only [i64_w, i32_w]; rw [c28b0]) | skip)
           have H' := A_ H; clear H
           go_wp2
           go_meet
           case rel => exact ⟨_, (wrap64 (x10_1 + 1)), (sx_), H', ⟨by have := HK1.out; have := HK2.out; first | omega | exact Nat.le_refl _⟩, ⟨ro_ HO_9⟩, ⟨bx_ BK1116⟩, ⟨bl1_ HB GE1116.out⟩⟩
         case rest =>
          clear HC27; try clear c1
          try clear p1
          try clear q1
          try clear hx1
          try clear c2
          try clear p2
          try clear c3
          try clear c6
          try clear c6b0
          try clear p6
          try clear c7
          try clear c7b0
          try clear c8
          try clear q8
          try clear c9
          try clear c11
          try clear c11b0
          try clear p11
          try clear q11
          try clear hx11
          try clear c13
          try clear c13b0
          try clear c14
          try clear c14b0
          try clear c16
          try clear c16b0
          try clear c17
          try clear c17b0
          try clear c18
          try clear c18b0
          try clear c20
          try clear c24
          try clear c24b0
          try clear c25
          try clear c25b0
          try clear c26
          try clear c26b0
          try clear c28
          try clear c28b0
          try clear hx1117_0
          try clear hx1117_1
          try clear hx1117_2
          try clear hx1117_3
          try clear hx1117_4
          try clear hx1118_0
          try clear hx1119_0
          try clear hx1119_1
          try clear hx1119_2
          try clear hx1119_3
          try clear hx1119_4
          try clear hx1120_0
          try clear hx1125_0
          try clear p1
          try clear p11
          try clear p1117
          try clear p1118
          try clear p1119
          try clear p1120
          try clear p1125
          try clear p2
          try clear p6
          try clear q1
          try clear q11
          try clear q1117
          try clear q1118
          try clear q1119
          try clear q1120
          try clear q1125
          try clear q8
          obtain ⟨kq, x14_26, rfl, HA, HJ26, HO_9, BK1116, HB⟩ := hcut
          cases kq with
          | zero => exact absurd HA.out (by simp [stipendref13_Year.j3])
          | succ kj26 =>
           have H := HA.out; clear HA; simp only [stipendref13_Year.j3] at H; by_cases c29 : 0 ≤ x10_1
           ·rw [if_pos c29] at H; have c29b0 := decide_eq_true c29; clear c29; by_cases c30 : x10_1 < (l2.length : Int)
            ·rw [if_pos c30] at H; have c30b0 := decide_eq_true c30; clear c30; replace H := Option.bind_eq_some_iff.mp H; obtain ⟨t1127, A310, H⟩ := H; (try dsimp only at H); have A31 := A_ A310; clear A310; by_cases c32 : x9_1.length < 17592186044416
             ·rw [if_pos c32] at H; have LMc32 := A_ c32; clear c32; obtain ⟨y1128, hy1128⟩ : ∃ y_ : List Int, y_ = (x9_1 ++ [t1127]) := ⟨_, rfl⟩; replace H : (stipendref13_Year.l0 kj26 a1 l2 l3 y1128 (wrap64 (x10_1 + 1)) l0_0 l0_1 l0_2 a0_3 a0_4) = some r := by first | (rw [hy1128]; with_reducible exact H) | (have H2_ := (Option.bind_some _ _).symm.trans H; rw [hy1128]; with_reducible exact H2_) | (have H2_ := (Option.bind_some _ _).symm.trans H; with_reducible exact H2_) | with_reducible exact H | (rw [hy1128]; exact H) | exact H
              have Ny1128 := A_ hy1128; clear hy1128; have H' := A_ H; clear H
              try go_wp2
              replace HO_9 := A_ (Kd.R_drew HO_9.out); replace BK1116 := A_ (blk_drew BK1116.out); replace HB := A_ (below_drew1 HB.out); have p1126 : 0 ≤ (x10_1 : Int) := od_; have q1126 : x10_1 < (l2.length : Int) := od_; obtain ⟨ad1126, e1126, hx1126_0, hx1126_1, hx1126_2, hx1126_3, hx1126_4⟩ := at_T88 HR2.out x10_1 p1126 q1126; have hw1126_4 := hx1126_4; have hw1126_3 := hx1126_3; have hw1126_2 := hx1126_2; have hw1126_1 := hx1126_1; have hw1126_0 := hx1126_0
              (try rw [← Nbq8.out] at hx1126_4); (try rw [← Nbq8.out] at hw1126_4)
              obtain rfl : ad1117 = ad1126 := (by injection e1126); replace hx1126_0 := (HB.out.cell (World.block_lt_of_cell? w _ hx1126_0)).trans hx1126_0; replace hx1126_1 := (HB.out.cell (World.block_lt_of_cell? w _ hx1126_1)).trans hx1126_1; replace hx1126_2 := (HB.out.cell (World.block_lt_of_cell? w _ hx1126_2)).trans hx1126_2; replace hx1126_3 := (HB.out.cell (World.block_lt_of_cell? w _ hx1126_3)).trans hx1126_3; replace hx1126_4 := (HB.out.cell (World.block_lt_of_cell? w _ hx1126_4)).trans hx1126_4; replace p1126 := eq_true p1126; replace q1126 := eq_true q1126; refine start_ (n := 13) (S := fun w' => w'.cell? ⟨gb1116, 0, none⟩ = some (.slice A0_0 l0_0.length c0_0) ∧ w'.cell? ⟨gb1116, 1, none⟩ = some (.slice A0_1 l0_1.length c0_1) ∧ w'.cell? ⟨gb1116, 2, none⟩ = some (.slice A0_2 l0_2.length c0_2) ∧ w'.cell? ⟨gb1116, 3, none⟩ = some (.int .i64 a0_3) ∧ w'.cell? ⟨gb1116, 4, none⟩ = some (.int .i64 a0_4) ∧ w'.cell? (ad1117.add ((x10_1).toNat * 5)) = some (.int .i64 ((rd_T88 l2 x10_1).f0)) ∧ w'.cell? ⟨(ad1117.add ((x10_1).toNat * 5)).block, (ad1117.add ((x10_1).toNat * 5)).off + 1, none⟩ = some (.int .i64 ((rd_T88 l2 x10_1).f1)) ∧ w'.cell? ⟨(ad1117.add ((x10_1).toNat * 5)).block, (ad1117.add ((x10_1).toNat * 5)).off + 2, none⟩ = some (.int .i64 ((rd_T88 l2 x10_1).f2)) ∧ w'.cell? ⟨(ad1117.add ((x10_1).toNat * 5)).block, (ad1117.add ((x10_1).toNat * 5)).off + 3, none⟩ = some (.int .i64 ((rd_T88 l2 x10_1).f3)) ∧ w'.cell? ⟨(ad1117.add ((x10_1).toNat * 5)).block, (ad1117.add ((x10_1).toNat * 5)).off + 4, none⟩ = some (.bool (false))) (ds := []) #[false, false, false, false, false, false, false, false, false, false, false, false, false] (by kernel_rfl) rfl rfl ⟨(blk_cell BK1116.out 0).trans rfl, (blk_cell BK1116.out 1).trans rfl, (blk_cell BK1116.out 2).trans rfl, (blk_cell BK1116.out 3).trans rfl, (blk_cell BK1116.out 4).trans rfl, ((HB.out.cell (World.block_lt_of_cell? w _ hw1126_0)).trans hw1126_0), ((HB.out.cell (World.block_lt_of_cell? w _ hw1126_1)).trans hw1126_1), ((HB.out.cell (World.block_lt_of_cell? w _ hw1126_2)).trans hw1126_2), ((HB.out.cell (World.block_lt_of_cell? w _ hw1126_3)).trans hw1126_3), ((HB.out.cell (World.block_lt_of_cell? w _ hw1126_4)).trans hw1126_4)⟩ (fun hHeld => ?_); refine with_tabW stipendref13_Year.tab18 stipendref13_Year.bits18 (fun HT_ HW_ => ?_)
              generalize wc.drew = w33 at HO_9 BK1116 HB hx1126_0 hx1126_1 hx1126_2 hx1126_3 hx1126_4 hHeld ⊢; refine pure_ (i := 0) (N := some 66) (v := ?_) (a' := ?_) #[true, false, false, false, false, false, false, false, false, false, false, false, false] rfl rfl (any_of HT_.out (by kernel_rfl)) (fun _ _ _ h => h) (Or.inl ⟨by rfl, ?_⟩) ?_ ?_
              rotate_left
              ·intro w'
               go_simp
               with_reducible rfl
              rotate_left
              ·simp only [Act.put, List.setIfInBounds_toArray, List.set_cons_zero, List.set_cons_succ, i64_w, i32_w]
               rfl
              refine pure_ (i := 2) (N := some 68) (v := ?_) (a' := ?_) #[true, false, true, false, false, false, false, false, false, false, false, false, false] rfl rfl (any_of HT_.out (by kernel_rfl)) (fun _ _ _ h => h) (Or.inl ⟨by rfl, ?_⟩) ?_ ?_
              rotate_left
              ·intro w'
               go_simp
               with_reducible rfl
              rotate_left
              ·simp only [Act.put, List.setIfInBounds_toArray, List.set_cons_zero, List.set_cons_succ, i64_w, i32_w]
               rfl
              refine pure_ (i := 3) (N := some 69) (v := ?_) (a' := ?_) #[true, false, true, true, false, false, false, false, false, false, false, false, false] rfl rfl (any_of HT_.out (by kernel_rfl)) (fun _ _ _ h => h) (Or.inl ⟨by rfl, ?_⟩) ?_ ?_
              rotate_left
              ·intro w'
               go_simp
               with_reducible rfl
              rotate_left
              ·simp only [Act.put, List.setIfInBounds_toArray, List.set_cons_zero, List.set_cons_succ, i64_w, i32_w]
               rfl
              refine pure_ (i := 4) (N := some 70) (v := ?_) (a' := ?_) #[true, false, true, true, true, false, false, false, false, false, false, false, false] rfl rfl (any_of HT_.out (by kernel_rfl)) (fun _ _ _ h => h) (Or.inl ⟨by rfl, ?_⟩) ?_ ?_
              rotate_left
              ·intro w'
               go_simp
               with_reducible rfl
              rotate_left
              ·simp only [Act.put, List.setIfInBounds_toArray, List.set_cons_zero, List.set_cons_succ, i64_w, i32_w]
               rfl
              refine pure_ (i := 6) (N := some 72) (v := ?_) (a' := ?_) #[true, false, true, true, true, false, true, false, false, false, false, false, false] rfl rfl (any_of HT_.out (by kernel_rfl)) (fun _ _ _ h => h) (Or.inl ⟨by rfl, ?_⟩) ?_ ?_
              rotate_left
              ·intro w'
               go_simp
               with_reducible rfl
              rotate_left
              ·simp only [Act.put, List.setIfInBounds_toArray, List.set_cons_zero, List.set_cons_succ, i64_w, i32_w]
               rfl
              refine pure_ (i := 7) (N := some 73) (v := ?_) (a' := ?_) #[true, false, true, true, true, false, true, true, false, false, false, false, false] rfl rfl (any_of HT_.out (by kernel_rfl)) (fun _ _ _ h => h) (Or.inl ⟨by rfl, ?_⟩) ?_ ?_
              rotate_left
              ·intro w'
               go_simp
               with_reducible rfl
              rotate_left
              ·simp only [Act.put, List.setIfInBounds_toArray, List.set_cons_zero, List.set_cons_succ, i64_w, i32_w]
               rfl
              refine pure_ (i := 8) (N := some 74) (v := ?_) (a' := ?_) #[true, false, true, true, true, false, true, true, true, false, false, false, false] rfl rfl (any_of HT_.out (by kernel_rfl)) (fun _ _ _ h => h) (Or.inl ⟨by rfl, ?_⟩) ?_ ?_
              rotate_left
              ·intro w'
               go_simp
               with_reducible rfl
              rotate_left
              ·simp only [Act.put, List.setIfInBounds_toArray, List.set_cons_zero, List.set_cons_succ, i64_w, i32_w]
               rfl
              refine take_ (i := 1) (N := some 67) (v := ?_) (a' := ?_) #[true, true, true, true, true, false, true, true, true, false, false, false, false] rfl rfl (take_ofW HT_.out HW_.out (by kernel_rfl)) (fun _ _ _ h => h) (Or.inl ⟨by rfl, ?_⟩) hHeld ?_ ?_
              rotate_left
              ·rintro w' ⟨s0, s1, s2, s3, s4, s5, s6, s7, s8, s9⟩
               go_simp
               with_reducible rfl
              rotate_left
              ·simp only [Act.put, List.setIfInBounds_toArray, List.set_cons_zero, List.set_cons_succ, i64_w, i32_w]
               rfl
              refine take_ (i := 5) (N := some 71) (v := ?_) (a' := ?_) #[true, true, true, true, true, true, true, true, true, false, false, false, false] rfl rfl (take_ofW HT_.out HW_.out (by kernel_rfl)) (fun _ _ _ h => h) (Or.inl ⟨by rfl, ?_⟩) hHeld ?_ ?_
              rotate_left
              ·rintro w' ⟨s0, s1, s2, s3, s4, s5, s6, s7, s8, s9⟩
               go_simp
               with_reducible rfl
              rotate_left
              ·simp only [Act.put, List.setIfInBounds_toArray, List.set_cons_zero, List.set_cons_succ, i64_w, i32_w]
               rfl
              refine one_ (i := 9) (N := some 75) #[true, true, true, true, true, true, true, true, true, true, false, false, false] rfl rfl (one_of HT_.out (by kernel_rfl)) (by decide) (fun K hK => ?_)
              refine goes_ Try.func134 (by kernel_rfl) rfl #[.agg #[.slice A0_0 l0_0.length c0_0, .slice A0_1 l0_1.length c0_1, .slice A0_2 l0_2.length c0_2, .int .i64 a0_3, .int .i64 a0_4], .agg #[.int .i64 ((rd_T88 l2 x10_1).f0), .int .i64 ((rd_T88 l2 x10_1).f1), .int .i64 ((rd_T88 l2 x10_1).f2), .int .i64 ((rd_T88 l2 x10_1).f3), .bool false], .int .i64 x12_2, .int .i64 x14_26, .int .i64 a1] (by rfl) rfl rfl (by (try simp only [List.map_toArray, List.map_cons, List.map_nil]); first | done | rfl | (simp only [List.length_drop, List.length_take]; rfl)) ?_
              with_reducible refine (stipendref13_Due.calls kj26 _ _ l0_0 _ _ l0_1 _ _ l0_2 a0_3 a0_4 ((rd_T88 l2 x10_1).f0) ((rd_T88 l2 x10_1).f1) ((rd_T88 l2 x10_1).f2) ((rd_T88 l2 x10_1).f3) false x12_2 x14_26 a1 t1127 _ ?side1 ?side2 ?side3 ?side4 ?side5 ?side6 (by rw [Nbq8.out]; exact A31.out)).mono ?_
              (case side1 => exact cb_ HR0_0 HB)
              (case side2 => exact HC0_0.out)
              (case side3 => exact cb_ HR0_1 HB)
              (case side4 => exact HC0_1.out)
              (case side5 => exact cb_ HR0_2 HB)
              (case side6 => exact HC0_2.out)
              rintro e w34 ⟨rfl, hb⟩; refine ⟨_, rfl, ?_⟩
              replace HO_9 := A_ (Kd.R_below (ro_ HO_9) hb); replace BK1116 := A_ (blk_below (bx_ BK1116) hb); replace HB := A_ (below_step (bl1_ HB GE1116.out) hb)
              (try clear hb)
              (try clear hb2)
              (try clear hk)
              (try clear hi)
              refine hK.out _ _ ⟨(blk_cell BK1116.out 0).trans rfl, (blk_cell BK1116.out 1).trans rfl, (blk_cell BK1116.out 2).trans rfl, (blk_cell BK1116.out 3).trans rfl, (blk_cell BK1116.out 4).trans rfl, ((HB.out.cell (World.block_lt_of_cell? w _ hw1126_0)).trans hw1126_0), ((HB.out.cell (World.block_lt_of_cell? w _ hw1126_1)).trans hw1126_1), ((HB.out.cell (World.block_lt_of_cell? w _ hw1126_2)).trans hw1126_2), ((HB.out.cell (World.block_lt_of_cell? w _ hw1126_3)).trans hw1126_3), ((HB.out.cell (World.block_lt_of_cell? w _ hw1126_4)).trans hw1126_4)⟩ (fun hHeld => ?_)
              clear hK K; refine norm_ (a' := ?_) ?_ ?_
              rotate_left
              ·show Act.put _ (some 75) _ = _
               simp only [Act.put, List.setIfInBounds_toArray, List.set_cons_zero, List.set_cons_succ, i64_w, i32_w]
               rfl
              refine one_ (i := 10) (N := some 76) #[true, true, true, true, true, true, true, true, true, true, true, false, false] rfl rfl (one_of HT_.out (by kernel_rfl)) (by decide) (fun K hK => ?_)
              refine value_ (w1 := ?_) (v := ?_) (by rfl) rfl ?_ ?_
              rotate_left 2
              ·go_simp
               constructor
               ·rfl
               ·rfl
              refine hK.out _ _ ⟨(blk_cell (blk_alloc BK1116.out _) 0).trans rfl, (blk_cell (blk_alloc BK1116.out _) 1).trans rfl, (blk_cell (blk_alloc BK1116.out _) 2).trans rfl, (blk_cell (blk_alloc BK1116.out _) 3).trans rfl, (blk_cell (blk_alloc BK1116.out _) 4).trans rfl, (World.cell?_alloc_lt _ _ _ (World.block_lt_of_cell? _ _ (((HB.out.cell (World.block_lt_of_cell? w _ hw1126_0)).trans hw1126_0)))).trans (((HB.out.cell (World.block_lt_of_cell? w _ hw1126_0)).trans hw1126_0)), (World.cell?_alloc_lt _ _ _ (World.block_lt_of_cell? _ _ (((HB.out.cell (World.block_lt_of_cell? w _ hw1126_1)).trans hw1126_1)))).trans (((HB.out.cell (World.block_lt_of_cell? w _ hw1126_1)).trans hw1126_1)), (World.cell?_alloc_lt _ _ _ (World.block_lt_of_cell? _ _ (((HB.out.cell (World.block_lt_of_cell? w _ hw1126_2)).trans hw1126_2)))).trans (((HB.out.cell (World.block_lt_of_cell? w _ hw1126_2)).trans hw1126_2)), (World.cell?_alloc_lt _ _ _ (World.block_lt_of_cell? _ _ (((HB.out.cell (World.block_lt_of_cell? w _ hw1126_3)).trans hw1126_3)))).trans (((HB.out.cell (World.block_lt_of_cell? w _ hw1126_3)).trans hw1126_3)), (World.cell?_alloc_lt _ _ _ (World.block_lt_of_cell? _ _ (((HB.out.cell (World.block_lt_of_cell? w _ hw1126_4)).trans hw1126_4)))).trans (((HB.out.cell (World.block_lt_of_cell? w _ hw1126_4)).trans hw1126_4))⟩ (fun hHeld => ?_)
              clear hK K; refine norm_ (a' := ?_) ?_ ?_
              rotate_left
              ·show Act.put _ (some 76) _ = _
               simp only [Act.put, List.setIfInBounds_toArray, List.set_cons_zero, List.set_cons_succ, i64_w, i32_w]
               rfl
              refine one_ (i := 11) (N := some 77) #[true, true, true, true, true, true, true, true, true, true, true, true, false] rfl rfl (one_of HT_.out (by kernel_rfl)) (by decide) (fun K hK => ?_)
              refine Kd.R_append_step (Kd.int .i64) (w0 := w) w.heap.size (by rfl) (.tmp 66) (.tmp 76) 79 2 (.int .i64 0) 8 rfl Try.underlying79 info2 rfl (by decide) (by omega) u9 x9_1 t1127 [.int .i64 t1127] (fun _ => True) (fun _ => False) rfl rfl ?aP (fun _ hk => hk.elim) ?aF ?aO ?aB ?aS ?aL ?_
              (case aP => exact rfl)
              (case aB => exact (bl1_ HB GE1116.out))
              (case aF => exact (fun _ _ => trivial))
              (case aO => exact (ro_ HO_9))
              (case aS => exact (below_size (bl1_ HB GE1116.out)))
              (case aL => have := LMc32.out; omega)
              intro v1129 w35 ho hb hg hat; rw [← Ny1128.out] at ho; have HO1130 := A_ (ho); replace BK1116 := A_ (blk_grown (g := gb1116) (o := .cells #[.slice A0_0 l0_0.length c0_0, .slice A0_1 l0_1.length c0_1, .slice A0_2 l0_2.length c0_2, .int .i64 a0_3, .int .i64 a0_4] 56 (0, 0)) (bx_ BK1116) hg (Kd.R_ne HO_9.out BK1116.out (by decide))); replace HB := A_ (hb); clear HO_9; clear ho hb hg hat; refine hK.out _ _ ⟨(blk_cell BK1116.out 0).trans rfl, (blk_cell BK1116.out 1).trans rfl, (blk_cell BK1116.out 2).trans rfl, (blk_cell BK1116.out 3).trans rfl, (blk_cell BK1116.out 4).trans rfl, ((HB.out.cell (World.block_lt_of_cell? w _ hw1126_0)).trans hw1126_0), ((HB.out.cell (World.block_lt_of_cell? w _ hw1126_1)).trans hw1126_1), ((HB.out.cell (World.block_lt_of_cell? w _ hw1126_2)).trans hw1126_2), ((HB.out.cell (World.block_lt_of_cell? w _ hw1126_3)).trans hw1126_3), ((HB.out.cell (World.block_lt_of_cell? w _ hw1126_4)).trans hw1126_4)⟩ (fun hHeld => ?_)
              clear hK K; refine norm_ (a' := ?_) ?_ ?_
              rotate_left
              ·show Act.put _ (some 77) _ = _
               simp only [Act.put, List.setIfInBounds_toArray, List.set_cons_zero, List.set_cons_succ, i64_w, i32_w]
               rfl
              refine pure_ (i := 12) (N := some 9) (v := ?_) (a' := ?_) #[true, true, true, true, true, true, true, true, true, true, true, true, true] rfl rfl (any_of HT_.out (by kernel_rfl)) (fun _ _ _ h => h) (Or.inl ⟨by rfl, ?_⟩) ?_ ?_
              rotate_left
              ·intro w'
               go_simp
               with_reducible rfl
              rotate_left
              ·simp only [Act.put, List.setIfInBounds_toArray, List.set_cons_zero, List.set_cons_succ, i64_w, i32_w]
               rfl
              refine done_ (done_of HT_.out (by kernel_rfl)) ?_
              try go_wp2
              go_roundg kj26
              case measure => have := HK1.out; have := HK2.out; have := HJ26.out; omega
              case rel => exact ⟨(y1128), (wrap64 (x10_1 + 1)), (sx_), H', ⟨by have := HK1.out; have := HK2.out; have := HJ26.out; omega⟩, ⟨ro_ HO1130⟩, ⟨bx_ BK1116⟩, ⟨bl1_ HB GE1116.out⟩⟩
             ·rw [if_neg c32] at H; exact absurd H (by simp)
            ·rw [if_neg c30] at H; exact absurd H (by simp)
           ·rw [if_neg c29] at H; exact absurd H (by simp)
    ·rw [if_neg c7] at H; exact absurd H (by simp)
   ·rw [if_neg c6] at H; have c6b0 := decide_eq_false c6; clear c6; obtain rfl := Option.some.inj H
    go_wp2
    go_ret
    exact ⟨_, er_, ro_ HO_9, bl1_ HB GE1116.out⟩
end Go.Proofs.Ytcapgmoipacioaa.P
