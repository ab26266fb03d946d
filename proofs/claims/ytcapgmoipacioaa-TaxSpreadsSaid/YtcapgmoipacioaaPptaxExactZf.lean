import Derived.Test.YtcapgmoipacioaaPtZf
import Derived.Test.YtcapgmoipacioaaHexactZf
import Derived.Test.YtcapgmoipacioaaPpbandZf
import Derived.Test.YtcapgmoipacioaaPpcodeZf
import Derived.Test.YtcapgmoipacioaaPpfracZf
import Derived.Test.YtcapgmoipacioaaPptableZf
import Derived.Test.YtcapgmoipacioaaY1Zf
namespace Go.Proofs.Ytcapgmoipacioaa.P
open Go.RowKit Go.Proofs.YtcapgmoipacioaaW.PrintWords Go.Proofs.YtcapgmoipacioaaW.PrintLast Go.Proofs.YtcapgmoipacioaaW.PrintMore
set_option linter.unusedVariables false
set_option linter.unusedSimpArgs false
def tax_Exact.f (k : Nat) (l0_0 : List (List (S106))) (l0_1 : List (S120)) (l0_2 : List (S209)) (a0_3 : Int) (a0_4 : Int) (a1_0 : Int) (a1_1 : Int) (a1_2 : Int) (a1_3 : Int) (a1_4 : Bool) (a2 : Int) (a3 : Int) (a4 : Int) : Option (Int × Int) := (table_Fits.f k l0_0 l0_1 l0_2 a0_3 a0_4 a1_0 a1_1 a1_2 a1_3 a1_4).bind fun t472 => (if t472 = 0 then ((code_Charge.f k a1_0 a1_1 a1_2 a1_3 a1_4 a2 a3 a4).bind fun bt473 => (if bt473.2 = 0 then (if a1_1 = 4 then (some (0, 0)) else (if a1_1 = 3 then (if 0 ≤ a1_0 then (if a1_0 < (l0_0.length : Int) then (if 0 ≤ a1_3 then (if a1_3 < ((rd_L3 l0_0 a1_0).length : Int) then ((frac_Part.f k bt473.1 ((rd_T106 (rd_L3 l0_0 a1_0) a1_3).f1)).bind fun bt477 => (some (bt477.1, bt477.2))) else (none)) else (none)) else (none)) else (none)) else (if 0 ≤ a1_0 then (if a1_0 < (l0_0.length : Int) then ((band_Scale.f k a3 a4 (rd_L3 l0_0 a1_0)).bind fun bt480 => (if bt480.2 = 0 then ((band_Exact.f bt473.1 bt480.1).bind fun bt484 => (some (bt484.1, bt484.2))) else (some (0, bt480.2)))) else (none)) else (none)))) else (some (0, bt473.2)))) else (some (0, t472)))
def tax_Exact.T11 : Bool × List (List Nat × List Nat) := (true, [([], []), ([], []), ([1], [1]), ([], []), ([3], [3]), ([2, 4], [2, 4]), ([5], [5]), ([], []), ([7], [7]), ([6, 8], [6, 8]), ([9], [9]), ([10], [10]), ([0, 11], [0, 11]), ([12], [12]), ([12], [12]), ([13, 12, 0, 1, 2, 3, 4, 5, 6, 7, 8, 9, 10, 11, 12, 13, 14], [13]), ([14, 15, 0, 1, 2, 3, 4, 5, 6, 7, 8, 9, 10, 11, 12, 13, 14, 15], [14])])
def tax_Exact.B11 : List Nat := [0, 0, 2, 0, 8, 30, 62, 0, 128, 510, 1022, 2046, 4095, 8191, 8191, 32767, 65535]
theorem tax_Exact.tab11 : rtab .any (opsOf Try.f79 11) = tax_Exact.T11 := by kernel_rfl
theorem tax_Exact.bits11 : waitsOk tax_Exact.T11.2 tax_Exact.B11 = true := by kernel_rfl
set_option maxHeartbeats 8000000 in
set_option maxRecDepth 100000 in
theorem tax_Exact.calls (k : Nat) (A0_0 : Option Addr) (c0_0 : Nat) (l0_0 : List (List (S106))) (A0_1 : Option Addr) (c0_1 : Nat) (l0_1 : List (S120)) (A0_2 : Option Addr) (c0_2 : Nat) (l0_2 : List (S209)) (a0_3 : Int) (a0_4 : Int) (a1_0 : Int) (a1_1 : Int) (a1_2 : Int) (a1_3 : Int) (a1_4 : Bool) (a2 : Int) (a3 : Int) (a4 : Int) (r1 : Int) (r2 : Int) (w : World) (hr0_0 : Kd.C (Kd.slice 106 k106) w A0_0 l0_0.length l0_0) (hc0_0 : l0_0.length ≤ c0_0) (hr0_1 : Kd.C k120 w A0_1 l0_1.length l0_1) (hc0_1 : l0_1.length ≤ c0_1) (hr0_2 : Kd.C k209 w A0_2 l0_2.length l0_2) (hc0_2 : l0_2.length ≤ c0_2) (h : tax_Exact.f k l0_0 l0_1 l0_2 a0_3 a0_4 a1_0 a1_1 a1_2 a1_3 a1_4 a2 a3 a4 = some (r1, r2)) :
  Calls Try.prog 79 #[.agg #[.slice A0_0 l0_0.length c0_0, .slice A0_1 l0_1.length c0_1, .slice A0_2 l0_2.length c0_2, .int .i64 a0_3, .int .i64 a0_4], .agg #[.int .i64 a1_0, .int .i64 a1_1, .int .i64 a1_2, .int .i64 a1_3, .bool a1_4], .int .i64 a2, .int .i64 a3, .int .i64 a4] w fun e w' => e = .returned (.tuple #[.int .i64 r1, .int .i64 r2]) ∧ Below w.heap.size w w' := by
 have hu56 := Try.underlying56
 have hu88 := Try.underlying88
 have HR0_0 := A_ hr0_0
 have HC0_0 := A_ hc0_0
 clear hr0_0 hc0_0
 have HR0_1 := A_ hr0_1
 have HC0_1 := A_ hc0_1
 clear hr0_1 hc0_1
 have HR0_2 := A_ hr0_2
 have HC0_2 := A_ hc0_2
 clear hr0_2 hc0_2
 have HB := A_ (Below.refl w.heap.size w)
 have H : ((table_Fits.f k l0_0 l0_1 l0_2 a0_3 a0_4 a1_0 a1_1 a1_2 a1_3 a1_4).bind fun t472 => (if t472 = 0 then ((code_Charge.f k a1_0 a1_1 a1_2 a1_3 a1_4 a2 a3 a4).bind fun bt473 => (if bt473.2 = 0 then (if a1_1 = 4 then (some (0, 0)) else (if a1_1 = 3 then (if 0 ≤ a1_0 then (if a1_0 < (l0_0.length : Int) then (if 0 ≤ a1_3 then (if a1_3 < ((rd_L3 l0_0 a1_0).length : Int) then ((frac_Part.f k bt473.1 ((rd_T106 (rd_L3 l0_0 a1_0) a1_3).f1)).bind fun bt477 => (some (bt477.1, bt477.2))) else (none)) else (none)) else (none)) else (none)) else (if 0 ≤ a1_0 then (if a1_0 < (l0_0.length : Int) then ((band_Scale.f k a3 a4 (rd_L3 l0_0 a1_0)).bind fun bt480 => (if bt480.2 = 0 then ((band_Exact.f bt473.1 bt480.1).bind fun bt484 => (some (bt484.1, bt484.2))) else (some (0, bt480.2)))) else (none)) else (none)))) else (some (0, bt473.2)))) else (some (0, t472)))) = some (r1, r2) := h
 clear h
 replace H := Option.bind_eq_some_iff.mp H
 obtain ⟨t472, A60, H⟩ := H
 replace H : (if t472 = 0 then ((code_Charge.f k a1_0 a1_1 a1_2 a1_3 a1_4 a2 a3 a4).bind fun bt473 => (if bt473.2 = 0 then (if a1_1 = 4 then (some (0, 0)) else (if a1_1 = 3 then (if 0 ≤ a1_0 then (if a1_0 < (l0_0.length : Int) then (if 0 ≤ a1_3 then (if a1_3 < ((rd_L3 l0_0 a1_0).length : Int) then ((frac_Part.f k bt473.1 ((rd_T106 (rd_L3 l0_0 a1_0) a1_3).f1)).bind fun bt477 => (some (bt477.1, bt477.2))) else (none)) else (none)) else (none)) else (none)) else (if 0 ≤ a1_0 then (if a1_0 < (l0_0.length : Int) then ((band_Scale.f k a3 a4 (rd_L3 l0_0 a1_0)).bind fun bt480 => (if bt480.2 = 0 then ((band_Exact.f bt473.1 bt480.1).bind fun bt484 => (some (bt484.1, bt484.2))) else (some (0, bt480.2)))) else (none)) else (none)))) else (some (0, bt473.2)))) else (some (0, t472))) = some (r1, r2) := H
 have A6 := A_ A60
 clear A60
 by_cases c7 : t472 = 0
 ·rw [if_pos c7] at H
  have c7b0 : (t472 == 0) = true := beq_iff_eq.mpr c7
  have c7b1 : (t472 != 0) = false := bne_eq_false_iff_eq.mpr c7
  clear c7
  replace H := Option.bind_eq_some_iff.mp H
  obtain ⟨⟨t473, t474⟩, A80, H⟩ := H
  replace H : (if t474 = 0 then (if a1_1 = 4 then (some (0, 0)) else (if a1_1 = 3 then (if 0 ≤ a1_0 then (if a1_0 < (l0_0.length : Int) then (if 0 ≤ a1_3 then (if a1_3 < ((rd_L3 l0_0 a1_0).length : Int) then ((frac_Part.f k t473 ((rd_T106 (rd_L3 l0_0 a1_0) a1_3).f1)).bind fun bt477 => (some (bt477.1, bt477.2))) else (none)) else (none)) else (none)) else (none)) else (if 0 ≤ a1_0 then (if a1_0 < (l0_0.length : Int) then ((band_Scale.f k a3 a4 (rd_L3 l0_0 a1_0)).bind fun bt480 => (if bt480.2 = 0 then ((band_Exact.f t473 bt480.1).bind fun bt484 => (some (bt484.1, bt484.2))) else (some (0, bt480.2)))) else (none)) else (none)))) else (some (0, t474))) = some (r1, r2) := H
  have A8 := A_ A80
  clear A80
  by_cases c9 : t474 = 0
  ·rw [if_pos c9] at H
   have c9b0 : (t474 == 0) = true := beq_iff_eq.mpr c9
   have c9b1 : (t474 != 0) = false := bne_eq_false_iff_eq.mpr c9
   clear c9
   by_cases c10 : a1_1 = 4
   ·rw [if_pos c10] at H
    have c10b0 : (a1_1 == 4) = true := beq_iff_eq.mpr c10
    have c10b1 : (a1_1 != 4) = false := bne_eq_false_iff_eq.mpr c10
    clear c10
    simp only [Option.some.injEq, Prod.mk.injEq] at H
    obtain ⟨rfl, rfl⟩ := H
    go_enter Try.func79, Try.ntmps79
    go_wp2_with (first | ((with_reducible refine gate_dst (N := 5) rfl ?_); refine be_ (N := 5) (cs := #[.slice A0_0 l0_0.length c0_0, .slice A0_1 l0_1.length c0_1, .slice A0_2 l0_2.length c0_2, .int .i64 a0_3, .int .i64 a0_4]) (t := 56) ?_; intro gb470 hg w11 hbox hb; have BK470 := A_ (hbox); have GW470 := A_ ((by rw [hg]; exact (below_size (bl_ HB)) : w.heap.size ≤ gb470)); have GE470 := A_ ((by rw [hg]; exact (below_size (bl_ HB)) : w.heap.size ≤ gb470)); replace HB := A_ (below_step (bl_ HB) hb); clear hb hbox hg) | ((with_reducible refine gate_dst (N := 6) rfl ?_); refine be_ (N := 6) (cs := #[.int .i64 a1_0, .int .i64 a1_1, .int .i64 a1_2, .int .i64 a1_3, .bool a1_4]) (t := 88) ?_; intro gb471 hg w12 hbox hb; have BK471 := A_ (hbox); have GW471 := A_ ((by rw [hg]; exact (below_size (bl1_ HB GE470.out)) : w.heap.size ≤ gb471)); have GE471 := A_ ((by rw [hg]; exact (below_size (bl1_ HB GE470.out)) : w.heap.size ≤ gb471)); have NB470_471 := A_ ((by rw [hg]; exact Nat.ne_of_lt (blk_lt (bx_ BK470)) : gb470 ≠ gb471)); have NB471_470 := A_ ((by rw [hg]; exact Nat.ne_of_gt (blk_lt (bx_ BK470)) : gb471 ≠ gb470)); replace BK470 := A_ (blk_below (bx_ BK470) hb); replace HB := A_ (below_step (bl1_ HB GE470.out) hb); clear hb hbox hg; have hnb13 := NB470_471.out; have hnc13 := NB471_470.out; have hcz14_0 := cz_ BK470 0; have hcz14_1 := cz_ BK470 1; have hcz14_2 := cz_ BK470 2; have hcz14_3 := cz_ BK470 3; have hcz14_4 := cz_ BK470 4; have hfz14_0 := blk_frozen BK470.out 0; have hfz14_1 := blk_frozen BK470.out 1; have hfz14_2 := blk_frozen BK470.out 2; have hfz14_3 := blk_frozen BK470.out 3; have hfz14_4 := blk_frozen BK470.out 4; have hcz15_0 := cz_ BK471 0; have hcz15_1 := cz_ BK471 1; have hcz15_2 := cz_ BK471 2; have hcz15_3 := cz_ BK471 3; have hcz15_4 := cz_ BK471 4; have hfz15_0 := blk_frozen BK471.out 0; have hfz15_1 := blk_frozen BK471.out 1; have hfz15_2 := blk_frozen BK471.out 2; have hfz15_3 := blk_frozen BK471.out 3; have hfz15_4 := blk_frozen BK471.out 4) | ((with_reducible refine gate_callee (f := 53) rfl ?_); refine gm_ (some 18) Try.func53 #[.agg #[.slice A0_0 l0_0.length c0_0, .slice A0_1 l0_1.length c0_1, .slice A0_2 l0_2.length c0_2, .int .i64 a0_3, .int .i64 a0_4], .agg #[.int .i64 a1_0, .int .i64 a1_1, .int .i64 a1_2, .int .i64 a1_3, .bool a1_4]] ?_; (with_reducible refine (table_Fits.calls k _ _ l0_0 _ _ l0_1 _ _ l0_2 a0_3 a0_4 a1_0 a1_1 a1_2 a1_3 a1_4 t472 _ ?side1 ?side2 ?side3 ?side4 ?side5 ?side6 A6.out).mono ?_); (case side1 => exact cb_ HR0_0 HB); (case side2 => exact HC0_0.out); (case side3 => exact cb_ HR0_1 HB); (case side4 => exact HC0_1.out); (case side5 => exact cb_ HR0_2 HB); (case side6 => exact HC0_2.out); rintro e w16 ⟨rfl, hb⟩; refine ⟨_, rfl, ?_⟩; replace BK470 := A_ (blk_below (bx_ BK470) hb); replace BK471 := A_ (blk_below (bx_ BK471) hb); replace HB := A_ (below_step (bl2_ HB GE470.out GE471.out) hb); (try clear hb); (try clear hb2); (try clear hk); (try clear hi); have hcz17_0 := cz_ BK471 0; have hcz17_1 := cz_ BK471 1; have hcz17_2 := cz_ BK471 2; have hcz17_3 := cz_ BK471 3; have hcz17_4 := cz_ BK471 4; have hfz17_0 := blk_frozen BK471.out 0; have hfz17_1 := blk_frozen BK471.out 1; have hfz17_2 := blk_frozen BK471.out 2; have hfz17_3 := blk_frozen BK471.out 3; have hfz17_4 := blk_frozen BK471.out 4) | ((with_reducible refine gate_callee (f := 81) rfl ?_); refine gm_ (some 27) Try.func81 #[.agg #[.int .i64 a1_0, .int .i64 a1_1, .int .i64 a1_2, .int .i64 a1_3, .bool a1_4], .int .i64 a2, .int .i64 a3, .int .i64 a4] ?_; (with_reducible refine (code_Charge.calls k a1_0 a1_1 a1_2 a1_3 a1_4 a2 a3 a4 t473 t474 _ A8.out).mono ?_); rintro e w18 ⟨rfl, hb⟩; refine ⟨_, rfl, ?_⟩; replace BK470 := A_ (blk_below (bx_ BK470) hb); replace BK471 := A_ (blk_below (bx_ BK471) hb); replace HB := A_ (below_step (bl2_ HB GE470.out GE471.out) hb); (try clear hb); (try clear hb2); (try clear hk); (try clear hi); have hcz19_0 := cz_ BK471 0; have hcz19_1 := cz_ BK471 1; have hcz19_2 := cz_ BK471 2; have hcz19_3 := cz_ BK471 3; have hcz19_4 := cz_ BK471 4; have hfz19_0 := blk_frozen BK471.out 0; have hfz19_1 := blk_frozen BK471.out 1; have hfz19_2 := blk_frozen BK471.out 2; have hfz19_3 := blk_frozen BK471.out 3; have hfz19_4 := blk_frozen BK471.out 4))
    go_ret2
    exact ⟨er_, bl2_ HB GE470.out GE471.out⟩
   ·rw [if_neg c10] at H
    have c10b0 : (a1_1 == 4) = false := beq_eq_false_iff_ne.mpr c10
    have c10b1 : (a1_1 != 4) = true := bne_iff_ne.mpr c10
    by_cases c20 : a1_1 = 3
    ·rw [if_pos c20] at H
     have c20b0 : (a1_1 == 3) = true := beq_iff_eq.mpr c20
     have c20b1 : (a1_1 != 3) = false := bne_eq_false_iff_eq.mpr c20
     clear c20
     by_cases c21 : 0 ≤ a1_0
     ·rw [if_pos c21] at H
      have c21b0 : decide (0 ≤ a1_0) = true := decide_eq_true c21
      clear c21
      by_cases c22 : a1_0 < (l0_0.length : Int)
      ·rw [if_pos c22] at H
       have c22b0 : decide (a1_0 < (l0_0.length : Int)) = true := decide_eq_true c22
       clear c22
       by_cases c23 : 0 ≤ a1_3
       ·rw [if_pos c23] at H
        have c23b0 : decide (0 ≤ a1_3) = true := decide_eq_true c23
        clear c23
        by_cases c24 : a1_3 < ((rd_L3 l0_0 a1_0).length : Int)
        ·rw [if_pos c24] at H
         have c24b0 : decide (a1_3 < ((rd_L3 l0_0 a1_0).length : Int)) = true := decide_eq_true c24
         clear c24
         replace H := Option.bind_eq_some_iff.mp H
         obtain ⟨⟨t477, t478⟩, A250, H⟩ := H
         replace H : (some (t477, t478)) = some (r1, r2) := H
         have A25 := A_ A250
         clear A250
         simp only [Option.some.injEq, Prod.mk.injEq] at H
         obtain ⟨rfl, rfl⟩ := H
         go_enter Try.func79, Try.ntmps79
         try go_wp2_with (first | ((with_reducible refine gate_dst (N := 5) rfl ?_); refine be_ (N := 5) (cs := #[.slice A0_0 l0_0.length c0_0, .slice A0_1 l0_1.length c0_1, .slice A0_2 l0_2.length c0_2, .int .i64 a0_3, .int .i64 a0_4]) (t := 56) ?_; intro gb470 hg w26 hbox hb; have BK470 := A_ (hbox); have GW470 := A_ ((by rw [hg]; exact (below_size (bl_ HB)) : w.heap.size ≤ gb470)); have GE470 := A_ ((by rw [hg]; exact (below_size (bl_ HB)) : w.heap.size ≤ gb470)); replace HB := A_ (below_step (bl_ HB) hb); clear hb hbox hg) | ((with_reducible refine gate_dst (N := 6) rfl ?_); refine be_ (N := 6) (cs := #[.int .i64 a1_0, .int .i64 a1_1, .int .i64 a1_2, .int .i64 a1_3, .bool a1_4]) (t := 88) ?_; intro gb471 hg w27 hbox hb; have BK471 := A_ (hbox); have GW471 := A_ ((by rw [hg]; exact (below_size (bl1_ HB GE470.out)) : w.heap.size ≤ gb471)); have GE471 := A_ ((by rw [hg]; exact (below_size (bl1_ HB GE470.out)) : w.heap.size ≤ gb471)); have NB470_471 := A_ ((by rw [hg]; exact Nat.ne_of_lt (blk_lt (bx_ BK470)) : gb470 ≠ gb471)); have NB471_470 := A_ ((by rw [hg]; exact Nat.ne_of_gt (blk_lt (bx_ BK470)) : gb471 ≠ gb470)); replace BK470 := A_ (blk_below (bx_ BK470) hb); replace HB := A_ (below_step (bl1_ HB GE470.out) hb); clear hb hbox hg; have hnb28 := NB470_471.out; have hnc28 := NB471_470.out; have hcz29_0 := cz_ BK470 0; have hcz29_1 := cz_ BK470 1; have hcz29_2 := cz_ BK470 2; have hcz29_3 := cz_ BK470 3; have hcz29_4 := cz_ BK470 4; have hfz29_0 := blk_frozen BK470.out 0; have hfz29_1 := blk_frozen BK470.out 1; have hfz29_2 := blk_frozen BK470.out 2; have hfz29_3 := blk_frozen BK470.out 3; have hfz29_4 := blk_frozen BK470.out 4; have hcz30_0 := cz_ BK471 0; have hcz30_1 := cz_ BK471 1; have hcz30_2 := cz_ BK471 2; have hcz30_3 := cz_ BK471 3; have hcz30_4 := cz_ BK471 4; have hfz30_0 := blk_frozen BK471.out 0; have hfz30_1 := blk_frozen BK471.out 1; have hfz30_2 := blk_frozen BK471.out 2; have hfz30_3 := blk_frozen BK471.out 3; have hfz30_4 := blk_frozen BK471.out 4) | ((with_reducible refine gate_callee (f := 53) rfl ?_); refine gm_ (some 18) Try.func53 #[.agg #[.slice A0_0 l0_0.length c0_0, .slice A0_1 l0_1.length c0_1, .slice A0_2 l0_2.length c0_2, .int .i64 a0_3, .int .i64 a0_4], .agg #[.int .i64 a1_0, .int .i64 a1_1, .int .i64 a1_2, .int .i64 a1_3, .bool a1_4]] ?_; (with_reducible refine (table_Fits.calls k _ _ l0_0 _ _ l0_1 _ _ l0_2 a0_3 a0_4 a1_0 a1_1 a1_2 a1_3 a1_4 t472 _ ?side1 ?side2 ?side3 ?side4 ?side5 ?side6 A6.out).mono ?_); (case side1 => exact cb_ HR0_0 HB); (case side2 => exact HC0_0.out); (case side3 => exact cb_ HR0_1 HB); (case side4 => exact HC0_1.out); (case side5 => exact cb_ HR0_2 HB); (case side6 => exact HC0_2.out); rintro e w31 ⟨rfl, hb⟩; refine ⟨_, rfl, ?_⟩; replace BK470 := A_ (blk_below (bx_ BK470) hb); replace BK471 := A_ (blk_below (bx_ BK471) hb); replace HB := A_ (below_step (bl2_ HB GE470.out GE471.out) hb); (try clear hb); (try clear hb2); (try clear hk); (try clear hi); have hcz32_0 := cz_ BK471 0; have hcz32_1 := cz_ BK471 1; have hcz32_2 := cz_ BK471 2; have hcz32_3 := cz_ BK471 3; have hcz32_4 := cz_ BK471 4; have hfz32_0 := blk_frozen BK471.out 0; have hfz32_1 := blk_frozen BK471.out 1; have hfz32_2 := blk_frozen BK471.out 2; have hfz32_3 := blk_frozen BK471.out 3; have hfz32_4 := blk_frozen BK471.out 4) | ((with_reducible refine gate_callee (f := 81) rfl ?_); refine gm_ (some 27) Try.func81 #[.agg #[.int .i64 a1_0, .int .i64 a1_1, .int .i64 a1_2, .int .i64 a1_3, .bool a1_4], .int .i64 a2, .int .i64 a3, .int .i64 a4] ?_; (with_reducible refine (code_Charge.calls k a1_0 a1_1 a1_2 a1_3 a1_4 a2 a3 a4 t473 t474 _ A8.out).mono ?_); rintro e w33 ⟨rfl, hb⟩; refine ⟨_, rfl, ?_⟩; replace BK470 := A_ (blk_below (bx_ BK470) hb); replace BK471 := A_ (blk_below (bx_ BK471) hb); replace HB := A_ (below_step (bl2_ HB GE470.out GE471.out) hb); (try clear hb); (try clear hb2); (try clear hk); (try clear hi); have hcz34_0 := cz_ BK471 0; have hcz34_1 := cz_ BK471 1; have hcz34_2 := cz_ BK471 2; have hcz34_3 := cz_ BK471 3; have hcz34_4 := cz_ BK471 4; have hfz34_0 := blk_frozen BK471.out 0; have hfz34_1 := blk_frozen BK471.out 1; have hfz34_2 := blk_frozen BK471.out 2; have hfz34_3 := blk_frozen BK471.out 3; have hfz34_4 := blk_frozen BK471.out 4))
         replace BK470 := A_ (blk_drew BK470.out)
         replace BK471 := A_ (blk_drew BK471.out)
         replace HB := A_ (below_drew1 HB.out)
         have p475 : 0 ≤ (a1_0 : Int) := of_decide_eq_true (by first | (with_reducible assumption) | assumption)
         have q475 : a1_0 < (l0_0.length : Int) := of_decide_eq_true (by first | (with_reducible assumption) | assumption)
         obtain ⟨ad475, A475_0, c475_0, e475, hx475_0, hl475_0, hi475_0⟩ := at_L3 HR0_0.out a1_0 p475 q475
         have hw475_0 := hx475_0
         cases e475
         replace hx475_0 := (HB.out.cell (World.block_lt_of_cell? w _ hx475_0)).trans hx475_0
         have HR475_0 := A_ hi475_0
         have HC475_0 := A_ hl475_0
         clear hi475_0 hl475_0
         replace p475 := eq_true p475
         replace q475 := eq_true q475
         have p476 : 0 ≤ (a1_3 : Int) := of_decide_eq_true (by first | (with_reducible assumption) | assumption)
         have q476 : a1_3 < ((rd_L3 l0_0 a1_0).length : Int) := of_decide_eq_true (by first | (with_reducible assumption) | assumption)
         obtain ⟨ad476, e476, hx476_0, hx476_1, hx476_2⟩ := at_T106 HR475_0.out a1_3 p476 q476
         have hw476_2 := hx476_2
         have hw476_1 := hx476_1
         have hw476_0 := hx476_0
         cases e476
         replace hx476_0 := (HB.out.cell (World.block_lt_of_cell? w _ hx476_0)).trans hx476_0
         replace hx476_1 := (HB.out.cell (World.block_lt_of_cell? w _ hx476_1)).trans hx476_1
         replace hx476_2 := (HB.out.cell (World.block_lt_of_cell? w _ hx476_2)).trans hx476_2
         replace p476 := eq_true p476
         replace q476 := eq_true q476
         refine start_ (n := 17) (S := fun w' => w'.cell? ⟨gb470, 0, none⟩ = some (.slice (some ad475) l0_0.length c0_0) ∧ w'.cell? ⟨gb470, 1, none⟩ = some (.slice A0_1 l0_1.length c0_1) ∧ w'.cell? ⟨gb470, 2, none⟩ = some (.slice A0_2 l0_2.length c0_2) ∧ w'.cell? ⟨gb470, 3, none⟩ = some (.int .i64 a0_3) ∧ w'.cell? ⟨gb470, 4, none⟩ = some (.int .i64 a0_4) ∧ w'.cell? ⟨gb471, 0, none⟩ = some (.int .i64 a1_0) ∧ w'.cell? ⟨gb471, 1, none⟩ = some (.int .i64 a1_1) ∧ w'.cell? ⟨gb471, 2, none⟩ = some (.int .i64 a1_2) ∧ w'.cell? ⟨gb471, 3, none⟩ = some (.int .i64 a1_3) ∧ w'.cell? ⟨gb471, 4, none⟩ = some (.bool a1_4) ∧ w'.cell? (ad475.add (a1_0).toNat) = some (.slice (some ad476) (rd_L3 l0_0 a1_0).length c475_0) ∧ w'.cell? (ad476.add ((a1_3).toNat * 3)) = some (.int .i64 ((rd_T106 (rd_L3 l0_0 a1_0) a1_3).f0)) ∧ w'.cell? ⟨(ad476.add ((a1_3).toNat * 3)).block, (ad476.add ((a1_3).toNat * 3)).off + 1, none⟩ = some (.int .i64 ((rd_T106 (rd_L3 l0_0 a1_0) a1_3).f1)) ∧ w'.cell? ⟨(ad476.add ((a1_3).toNat * 3)).block, (ad476.add ((a1_3).toNat * 3)).off + 2, none⟩ = some (.int .i64 ((rd_T106 (rd_L3 l0_0 a1_0) a1_3).f2))) (ds := []) #[false, false, false, false, false, false, false, false, false, false, false, false, false, false, false, false, false] (by kernel_rfl) rfl rfl ⟨(blk_cell BK470.out 0).trans rfl, (blk_cell BK470.out 1).trans rfl, (blk_cell BK470.out 2).trans rfl, (blk_cell BK470.out 3).trans rfl, (blk_cell BK470.out 4).trans rfl, (blk_cell BK471.out 0).trans rfl, (blk_cell BK471.out 1).trans rfl, (blk_cell BK471.out 2).trans rfl, (blk_cell BK471.out 3).trans rfl, (blk_cell BK471.out 4).trans rfl, ((HB.out.cell (World.block_lt_of_cell? w _ hw475_0)).trans hw475_0), ((HB.out.cell (World.block_lt_of_cell? w _ hw476_0)).trans hw476_0), ((HB.out.cell (World.block_lt_of_cell? w _ hw476_1)).trans hw476_1), ((HB.out.cell (World.block_lt_of_cell? w _ hw476_2)).trans hw476_2)⟩ (fun hHeld => ?_); refine with_tabW tax_Exact.tab11 tax_Exact.bits11 (fun HT_ HW_ => ?_)
         generalize w33.drew = w35 at BK470 BK471 HB HR475_0 hx475_0 hx476_0 hx476_1 hx476_2 hHeld ⊢
         refine pure_ (i := 0) (N := some 39) (v := ?_) (a' := ?_) #[true, false, false, false, false, false, false, false, false, false, false, false, false, false, false, false, false] rfl rfl (any_of HT_.out (by kernel_rfl)) (fun _ _ _ h => h) (Or.inl ⟨by rfl, ?_⟩) ?_ ?_
         rotate_left
         ·intro w'
          go_simp
          with_reducible rfl
         rotate_left
         ·simp only [Act.put, List.setIfInBounds_toArray, List.set_cons_zero, List.set_cons_succ, i64_w, i32_w]
          rfl
         refine pure_ (i := 1) (N := some 40) (v := ?_) (a' := ?_) #[true, true, false, false, false, false, false, false, false, false, false, false, false, false, false, false, false] rfl rfl (any_of HT_.out (by kernel_rfl)) (fun _ _ _ h => h) (Or.inl ⟨by rfl, ?_⟩) ?_ ?_
         rotate_left
         ·intro w'
          go_simp
          with_reducible rfl
         rotate_left
         ·simp only [Act.put, List.setIfInBounds_toArray, List.set_cons_zero, List.set_cons_succ, i64_w, i32_w]
          rfl
         refine pure_ (i := 3) (N := some 42) (v := ?_) (a' := ?_) #[true, true, false, true, false, false, false, false, false, false, false, false, false, false, false, false, false] rfl rfl (any_of HT_.out (by kernel_rfl)) (fun _ _ _ h => h) (Or.inl ⟨by rfl, ?_⟩) ?_ ?_
         rotate_left
         ·intro w'
          go_simp
          with_reducible rfl
         rotate_left
         ·simp only [Act.put, List.setIfInBounds_toArray, List.set_cons_zero, List.set_cons_succ, i64_w, i32_w]
          rfl
         refine pure_ (i := 7) (N := some 46) (v := ?_) (a' := ?_) #[true, true, false, true, false, false, false, true, false, false, false, false, false, false, false, false, false] rfl rfl (any_of HT_.out (by kernel_rfl)) (fun _ _ _ h => h) (Or.inl ⟨by rfl, ?_⟩) ?_ ?_
         rotate_left
         ·intro w'
          go_simp
          with_reducible rfl
         rotate_left
         ·simp only [Act.put, List.setIfInBounds_toArray, List.set_cons_zero, List.set_cons_succ, i64_w, i32_w]
          rfl
         refine take_ (i := 2) (N := some 41) (v := ?_) (a' := ?_) #[true, true, true, true, false, false, false, true, false, false, false, false, false, false, false, false, false] rfl rfl (take_ofW HT_.out HW_.out (by kernel_rfl)) (fun _ _ _ h => h) (Or.inl ⟨by rfl, ?_⟩) hHeld ?_ ?_
         rotate_left
         ·rintro w' ⟨s0, s1, s2, s3, s4, s5, s6, s7, s8, s9, s10, s11, s12, s13⟩
          go_simp
          with_reducible rfl
         rotate_left
         ·simp only [Act.put, List.setIfInBounds_toArray, List.set_cons_zero, List.set_cons_succ, i64_w, i32_w]
          rfl
         refine take_ (i := 4) (N := some 43) (v := ?_) (a' := ?_) #[true, true, true, true, true, false, false, true, false, false, false, false, false, false, false, false, false] rfl rfl (take_ofW HT_.out HW_.out (by kernel_rfl)) (fun _ _ _ h => h) (Or.inl ⟨by rfl, ?_⟩) hHeld ?_ ?_
         rotate_left
         ·rintro w' ⟨s0, s1, s2, s3, s4, s5, s6, s7, s8, s9, s10, s11, s12, s13⟩
          go_simp
          with_reducible rfl
         rotate_left
         ·simp only [Act.put, List.setIfInBounds_toArray, List.set_cons_zero, List.set_cons_succ, i64_w, i32_w]
          rfl
         refine pure_ (i := 5) (N := some 44) (v := ?_) (a' := ?_) #[true, true, true, true, true, true, false, true, false, false, false, false, false, false, false, false, false] rfl rfl (any_of HT_.out (by kernel_rfl)) (fun _ _ _ h => h) (Or.inl ⟨by rfl, ?_⟩) ?_ ?_
         rotate_left
         ·intro w'
          go_simp
          with_reducible rfl
         rotate_left
         ·simp only [Act.put, List.setIfInBounds_toArray, List.set_cons_zero, List.set_cons_succ, i64_w, i32_w]
          rfl
         refine take_ (i := 6) (N := some 45) (v := ?_) (a' := ?_) #[true, true, true, true, true, true, true, true, false, false, false, false, false, false, false, false, false] rfl rfl (take_ofW HT_.out HW_.out (by kernel_rfl)) (fun _ _ _ h => h) (Or.inl ⟨by rfl, ?_⟩) hHeld ?_ ?_
         rotate_left
         ·rintro w' ⟨s0, s1, s2, s3, s4, s5, s6, s7, s8, s9, s10, s11, s12, s13⟩
          go_simp
          with_reducible rfl
         rotate_left
         ·simp only [Act.put, List.setIfInBounds_toArray, List.set_cons_zero, List.set_cons_succ, i64_w, i32_w]
          rfl
         refine take_ (i := 8) (N := some 47) (v := ?_) (a' := ?_) #[true, true, true, true, true, true, true, true, true, false, false, false, false, false, false, false, false] rfl rfl (take_ofW HT_.out HW_.out (by kernel_rfl)) (fun _ _ _ h => h) (Or.inl ⟨by rfl, ?_⟩) hHeld ?_ ?_
         rotate_left
         ·rintro w' ⟨s0, s1, s2, s3, s4, s5, s6, s7, s8, s9, s10, s11, s12, s13⟩
          go_simp
          with_reducible rfl
         rotate_left
         ·simp only [Act.put, List.setIfInBounds_toArray, List.set_cons_zero, List.set_cons_succ, i64_w, i32_w]
          rfl
         refine pure_ (i := 9) (N := some 48) (v := ?_) (a' := ?_) #[true, true, true, true, true, true, true, true, true, true, false, false, false, false, false, false, false] rfl rfl (any_of HT_.out (by kernel_rfl)) (fun _ _ _ h => h) (Or.inl ⟨by rfl, ?_⟩) ?_ ?_
         rotate_left
         ·intro w'
          go_simp
          with_reducible rfl
         rotate_left
         ·simp only [Act.put, List.setIfInBounds_toArray, List.set_cons_zero, List.set_cons_succ, i64_w, i32_w]
          rfl
         refine pure_ (i := 10) (N := some 49) (v := ?_) (a' := ?_) #[true, true, true, true, true, true, true, true, true, true, true, false, false, false, false, false, false] rfl rfl (any_of HT_.out (by kernel_rfl)) (fun _ _ _ h => h) (Or.inl ⟨by rfl, ?_⟩) ?_ ?_
         rotate_left
         ·intro w'
          go_simp
          with_reducible rfl
         rotate_left
         ·simp only [Act.put, List.setIfInBounds_toArray, List.set_cons_zero, List.set_cons_succ, i64_w, i32_w]
          rfl
         refine take_ (i := 11) (N := some 50) (v := ?_) (a' := ?_) #[true, true, true, true, true, true, true, true, true, true, true, true, false, false, false, false, false] rfl rfl (take_ofW HT_.out HW_.out (by kernel_rfl)) (fun _ _ _ h => h) (Or.inl ⟨by rfl, ?_⟩) hHeld ?_ ?_
         rotate_left
         ·rintro w' ⟨s0, s1, s2, s3, s4, s5, s6, s7, s8, s9, s10, s11, s12, s13⟩
          go_simp
          with_reducible rfl
         rotate_left
         ·simp only [Act.put, List.setIfInBounds_toArray, List.set_cons_zero, List.set_cons_succ, i64_w, i32_w]
          rfl
         refine one_ (i := 12) (N := some 51) #[true, true, true, true, true, true, true, true, true, true, true, true, true, false, false, false, false] rfl rfl (one_of HT_.out (by kernel_rfl)) (by decide) (fun K hK => ?_)
         refine goes_ Try.func59 (by kernel_rfl) rfl #[.int .i64 t473, .int .i64 ((rd_T106 (rd_L3 l0_0 a1_0) a1_3).f1)] (by rfl) rfl rfl (by (try simp only [List.map_toArray, List.map_cons, List.map_nil]); first | done | rfl | (simp only [List.length_drop, List.length_take]; rfl)) ?_
         with_reducible refine (frac_Part.calls k t473 ((rd_T106 (rd_L3 l0_0 a1_0) a1_3).f1) t477 t478 _ A25.out).mono ?_
         rintro e w36 ⟨rfl, hb⟩
         refine ⟨_, rfl, ?_⟩
         replace BK470 := A_ (blk_below (bx_ BK470) hb)
         replace BK471 := A_ (blk_below (bx_ BK471) hb)
         replace HB := A_ (below_step (bl2_ HB GE470.out GE471.out) hb)
         (try clear hb)
         (try clear hb2)
         (try clear hk)
         (try clear hi)
         refine hK.out _ _ ⟨(blk_cell BK470.out 0).trans rfl, (blk_cell BK470.out 1).trans rfl, (blk_cell BK470.out 2).trans rfl, (blk_cell BK470.out 3).trans rfl, (blk_cell BK470.out 4).trans rfl, (blk_cell BK471.out 0).trans rfl, (blk_cell BK471.out 1).trans rfl, (blk_cell BK471.out 2).trans rfl, (blk_cell BK471.out 3).trans rfl, (blk_cell BK471.out 4).trans rfl, ((HB.out.cell (World.block_lt_of_cell? w _ hw475_0)).trans hw475_0), ((HB.out.cell (World.block_lt_of_cell? w _ hw476_0)).trans hw476_0), ((HB.out.cell (World.block_lt_of_cell? w _ hw476_1)).trans hw476_1), ((HB.out.cell (World.block_lt_of_cell? w _ hw476_2)).trans hw476_2)⟩ (fun hHeld => ?_)
         clear hK K
         refine norm_ (a' := ?_) ?_ ?_
         rotate_left
         ·show Act.put _ (some 51) _ = _
          simp only [Act.put, List.setIfInBounds_toArray, List.set_cons_zero, List.set_cons_succ, i64_w, i32_w]
          rfl
         refine pure_ (i := 13) (N := some 52) (v := ?_) (a' := ?_) #[true, true, true, true, true, true, true, true, true, true, true, true, true, true, false, false, false] rfl rfl (any_of HT_.out (by kernel_rfl)) (fun _ _ _ h => h) (Or.inl ⟨by rfl, ?_⟩) ?_ ?_
         rotate_left
         ·intro w'
          go_simp
          with_reducible rfl
         rotate_left
         ·simp only [Act.put, List.setIfInBounds_toArray, List.set_cons_zero, List.set_cons_succ, i64_w, i32_w]
          rfl
         refine pure_ (i := 14) (N := some 53) (v := ?_) (a' := ?_) #[true, true, true, true, true, true, true, true, true, true, true, true, true, true, true, false, false] rfl rfl (any_of HT_.out (by kernel_rfl)) (fun _ _ _ h => h) (Or.inl ⟨by rfl, ?_⟩) ?_ ?_
         rotate_left
         ·intro w'
          go_simp
          with_reducible rfl
         rotate_left
         ·simp only [Act.put, List.setIfInBounds_toArray, List.set_cons_zero, List.set_cons_succ, i64_w, i32_w]
          rfl
         refine pure_ (i := 15) (N := some 10) (v := ?_) (a' := ?_) #[true, true, true, true, true, true, true, true, true, true, true, true, true, true, true, true, false] rfl rfl (any_of HT_.out (by kernel_rfl)) (fun _ _ _ h => h) (Or.inl ⟨by rfl, ?_⟩) ?_ ?_
         rotate_left
         ·intro w'
          go_simp
          with_reducible rfl
         rotate_left
         ·simp only [Act.put, List.setIfInBounds_toArray, List.set_cons_zero, List.set_cons_succ, i64_w, i32_w]
          rfl
         refine pure_ (i := 16) (N := some 11) (v := ?_) (a' := ?_) #[true, true, true, true, true, true, true, true, true, true, true, true, true, true, true, true, true] rfl rfl (any_of HT_.out (by kernel_rfl)) (fun _ _ _ h => h) (Or.inl ⟨by rfl, ?_⟩) ?_ ?_
         rotate_left
         ·intro w'
          go_simp
          with_reducible rfl
         rotate_left
         ·simp only [Act.put, List.setIfInBounds_toArray, List.set_cons_zero, List.set_cons_succ, i64_w, i32_w]
          rfl
         refine done_ (done_of HT_.out (by kernel_rfl)) ?_
         try go_wp2
         go_ret2
         exact ⟨er_, bl2_ HB GE470.out GE471.out⟩
        ·rw [if_neg c24] at H
         exact absurd H (by simp)
       ·rw [if_neg c23] at H
        exact absurd H (by simp)
      ·rw [if_neg c22] at H
       exact absurd H (by simp)
     ·rw [if_neg c21] at H
      exact absurd H (by simp)
    ·rw [if_neg c20] at H
     have c20b0 : (a1_1 == 3) = false := beq_eq_false_iff_ne.mpr c20
     have c20b1 : (a1_1 != 3) = true := bne_iff_ne.mpr c20
     by_cases c37 : 0 ≤ a1_0
     ·rw [if_pos c37] at H
      have c37b0 : decide (0 ≤ a1_0) = true := decide_eq_true c37
      clear c37
      by_cases c38 : a1_0 < (l0_0.length : Int)
      ·rw [if_pos c38] at H
       have c38b0 : decide (a1_0 < (l0_0.length : Int)) = true := decide_eq_true c38
       clear c38
       replace H := Option.bind_eq_some_iff.mp H
       obtain ⟨⟨t480, t481⟩, A390, H⟩ := H
       replace H : (if t481 = 0 then ((band_Exact.f t473 t480).bind fun bt484 => (some (bt484.1, bt484.2))) else (some (0, t481))) = some (r1, r2) := H
       have A39 := A_ A390
       clear A390
       by_cases c40 : t481 = 0
       ·rw [if_pos c40] at H
        have c40b0 : (t481 == 0) = true := beq_iff_eq.mpr c40
        have c40b1 : (t481 != 0) = false := bne_eq_false_iff_eq.mpr c40
        clear c40
        replace H := Option.bind_eq_some_iff.mp H
        obtain ⟨⟨t484, t485⟩, A410, H⟩ := H
        replace H : (some (t484, t485)) = some (r1, r2) := H
        have A41 := A_ A410
        clear A410
        simp only [Option.some.injEq, Prod.mk.injEq] at H
        obtain ⟨rfl, rfl⟩ := H
        go_enter Try.func79, Try.ntmps79
        go_wp2_with (first | ((with_reducible refine gate_dst (N := 5) rfl ?_); refine be_ (N := 5) (cs := #[.slice A0_0 l0_0.length c0_0, .slice A0_1 l0_1.length c0_1, .slice A0_2 l0_2.length c0_2, .int .i64 a0_3, .int .i64 a0_4]) (t := 56) ?_; intro gb470 hg w42 hbox hb; have BK470 := A_ (hbox); have GW470 := A_ ((by rw [hg]; exact (below_size (bl_ HB)) : w.heap.size ≤ gb470)); have GE470 := A_ ((by rw [hg]; exact (below_size (bl_ HB)) : w.heap.size ≤ gb470)); replace HB := A_ (below_step (bl_ HB) hb); clear hb hbox hg) | ((with_reducible refine gate_dst (N := 6) rfl ?_); refine be_ (N := 6) (cs := #[.int .i64 a1_0, .int .i64 a1_1, .int .i64 a1_2, .int .i64 a1_3, .bool a1_4]) (t := 88) ?_; intro gb471 hg w43 hbox hb; have BK471 := A_ (hbox); have GW471 := A_ ((by rw [hg]; exact (below_size (bl1_ HB GE470.out)) : w.heap.size ≤ gb471)); have GE471 := A_ ((by rw [hg]; exact (below_size (bl1_ HB GE470.out)) : w.heap.size ≤ gb471)); have NB470_471 := A_ ((by rw [hg]; exact Nat.ne_of_lt (blk_lt (bx_ BK470)) : gb470 ≠ gb471)); have NB471_470 := A_ ((by rw [hg]; exact Nat.ne_of_gt (blk_lt (bx_ BK470)) : gb471 ≠ gb470)); replace BK470 := A_ (blk_below (bx_ BK470) hb); replace HB := A_ (below_step (bl1_ HB GE470.out) hb); clear hb hbox hg; have hnb44 := NB470_471.out; have hnc44 := NB471_470.out; have hcz45_0 := cz_ BK470 0; have hcz45_1 := cz_ BK470 1; have hcz45_2 := cz_ BK470 2; have hcz45_3 := cz_ BK470 3; have hcz45_4 := cz_ BK470 4; have hfz45_0 := blk_frozen BK470.out 0; have hfz45_1 := blk_frozen BK470.out 1; have hfz45_2 := blk_frozen BK470.out 2; have hfz45_3 := blk_frozen BK470.out 3; have hfz45_4 := blk_frozen BK470.out 4; have hcz46_0 := cz_ BK471 0; have hcz46_1 := cz_ BK471 1; have hcz46_2 := cz_ BK471 2; have hcz46_3 := cz_ BK471 3; have hcz46_4 := cz_ BK471 4; have hfz46_0 := blk_frozen BK471.out 0; have hfz46_1 := blk_frozen BK471.out 1; have hfz46_2 := blk_frozen BK471.out 2; have hfz46_3 := blk_frozen BK471.out 3; have hfz46_4 := blk_frozen BK471.out 4) | ((with_reducible refine gate_callee (f := 53) rfl ?_); refine gm_ (some 18) Try.func53 #[.agg #[.slice A0_0 l0_0.length c0_0, .slice A0_1 l0_1.length c0_1, .slice A0_2 l0_2.length c0_2, .int .i64 a0_3, .int .i64 a0_4], .agg #[.int .i64 a1_0, .int .i64 a1_1, .int .i64 a1_2, .int .i64 a1_3, .bool a1_4]] ?_; (with_reducible refine (table_Fits.calls k _ _ l0_0 _ _ l0_1 _ _ l0_2 a0_3 a0_4 a1_0 a1_1 a1_2 a1_3 a1_4 t472 _ ?side1 ?side2 ?side3 ?side4 ?side5 ?side6 A6.out).mono ?_); (case side1 => exact cb_ HR0_0 HB); (case side2 => exact HC0_0.out); (case side3 => exact cb_ HR0_1 HB); (case side4 => exact HC0_1.out); (case side5 => exact cb_ HR0_2 HB); (case side6 => exact HC0_2.out); rintro e w47 ⟨rfl, hb⟩; refine ⟨_, rfl, ?_⟩; replace BK470 := A_ (blk_below (bx_ BK470) hb); replace BK471 := A_ (blk_below (bx_ BK471) hb); replace HB := A_ (below_step (bl2_ HB GE470.out GE471.out) hb); (try clear hb); (try clear hb2); (try clear hk); (try clear hi); have hcz48_0 := cz_ BK471 0; have hcz48_1 := cz_ BK471 1; have hcz48_2 := cz_ BK471 2; have hcz48_3 := cz_ BK471 3; have hcz48_4 := cz_ BK471 4; have hfz48_0 := blk_frozen BK471.out 0; have hfz48_1 := blk_frozen BK471.out 1; have hfz48_2 := blk_frozen BK471.out 2; have hfz48_3 := blk_frozen BK471.out 3; have hfz48_4 := blk_frozen BK471.out 4) | ((with_reducible refine gate_callee (f := 81) rfl ?_); refine gm_ (some 27) Try.func81 #[.agg #[.int .i64 a1_0, .int .i64 a1_1, .int .i64 a1_2, .int .i64 a1_3, .bool a1_4], .int .i64 a2, .int .i64 a3, .int .i64 a4] ?_; (with_reducible refine (code_Charge.calls k a1_0 a1_1 a1_2 a1_3 a1_4 a2 a3 a4 t473 t474 _ A8.out).mono ?_); rintro e w49 ⟨rfl, hb⟩; refine ⟨_, rfl, ?_⟩; replace BK470 := A_ (blk_below (bx_ BK470) hb); replace BK471 := A_ (blk_below (bx_ BK471) hb); replace HB := A_ (below_step (bl2_ HB GE470.out GE471.out) hb); (try clear hb); (try clear hb2); (try clear hk); (try clear hi); have hcz50_0 := cz_ BK471 0; have hcz50_1 := cz_ BK471 1; have hcz50_2 := cz_ BK471 2; have hcz50_3 := cz_ BK471 3; have hcz50_4 := cz_ BK471 4; have hfz50_0 := blk_frozen BK471.out 0; have hfz50_1 := blk_frozen BK471.out 1; have hfz50_2 := blk_frozen BK471.out 2; have hfz50_3 := blk_frozen BK471.out 3; have hfz50_4 := blk_frozen BK471.out 4; have hcz51_0 := cz_ BK470 0; have hcz51_1 := cz_ BK470 1; have hcz51_2 := cz_ BK470 2; have hcz51_3 := cz_ BK470 3; have hcz51_4 := cz_ BK470 4; have hfz51_0 := blk_frozen BK470.out 0; have hfz51_1 := blk_frozen BK470.out 1; have hfz51_2 := blk_frozen BK470.out 2; have hfz51_3 := blk_frozen BK470.out 3; have hfz51_4 := blk_frozen BK470.out 4; have p479 : 0 ≤ (a1_0 : Int) := of_decide_eq_true (by first | (with_reducible assumption) | assumption); have q479 : a1_0 < (l0_0.length : Int) := of_decide_eq_true (by first | (with_reducible assumption) | assumption); obtain ⟨ad479, A479_0, c479_0, e479, hx479_0, hl479_0, hi479_0⟩ := at_L3 HR0_0.out a1_0 p479 q479; cases e479; replace hx479_0 := (HB.out.cell (World.block_lt_of_cell? w _ hx479_0)).trans hx479_0; have HR479_0 := A_ hi479_0; have HC479_0 := A_ hl479_0; clear hi479_0 hl479_0; replace p479 := eq_true p479; replace q479 := eq_true q479) | ((with_reducible refine gate_callee (f := 37) rfl ?_); refine gm_ (some 63) Try.func37 #[.int .i64 a3, .int .i64 a4, .slice A479_0 (rd_L3 l0_0 a1_0).length c479_0] ?_; (with_reducible refine (band_Scale.calls k a3 a4 _ _ (rd_L3 l0_0 a1_0) t480 t481 _ ?side1 ?side2 A39.out).mono ?_); (case side1 => exact cb_ HR479_0 HB); (case side2 => exact HC479_0.out); rintro e w52 ⟨v482, rfl, ho0, hb⟩; refine ⟨_, rfl, ?_⟩; have HO483 := A_ (Kd.R_lower ho0 (below_size (bl2_ HB GE470.out GE471.out))); replace BK470 := A_ (blk_below (bx_ BK470) hb); replace BK471 := A_ (blk_below (bx_ BK471) hb); replace HB := A_ (below_step (bl2_ HB GE470.out GE471.out) hb); (try clear hb); (try clear hb2); (try clear hk); (try clear hi); (try clear ho0); obtain ⟨Ao53, co53, eo53⟩ := Kd.R_slice HO483.out; subst eo53) | ((with_reducible refine gate_callee (f := 34) rfl ?_); refine gm_ (some 71) Try.func34 #[.int .i64 t473, .slice Ao53 t480.length co53] ?_; (with_reducible refine (band_Exact.calls t473 _ _ t480 t484 t485 _ ?side1 ?side2 A41.out).mono ?_); (case side1 => repeat (first | exact (Kd.R_reads' HO483.out).2.2 | (with_reducible refine Kd.C_alloc ?_ _) | (with_reducible refine Kd.C_drewN ?_ _) | (with_reducible refine Kd.C_drew ?_))); (case side2 => exact (Kd.R_reads' HO483.out).2.1); rintro e w54 ⟨rfl, hb⟩; refine ⟨_, rfl, ?_⟩; replace HO483 := A_ (Kd.R_below (ro_ HO483) hb); replace BK470 := A_ (blk_below (bx_ BK470) hb); replace BK471 := A_ (blk_below (bx_ BK471) hb); replace HB := A_ (below_step (bl2_ HB GE470.out GE471.out) hb); (try clear hb); (try clear hb2); (try clear hk); (try clear hi)))
        go_ret2
        exact ⟨er_, bl2_ HB GE470.out GE471.out⟩
       ·rw [if_neg c40] at H
        have c40b0 : (t481 == 0) = false := beq_eq_false_iff_ne.mpr c40
        have c40b1 : (t481 != 0) = true := bne_iff_ne.mpr c40
        simp only [Option.some.injEq, Prod.mk.injEq] at H
        obtain ⟨rfl, rfl⟩ := H
        go_enter Try.func79, Try.ntmps79
        go_wp2_with (first | ((with_reducible refine gate_dst (N := 5) rfl ?_); refine be_ (N := 5) (cs := #[.slice A0_0 l0_0.length c0_0, .slice A0_1 l0_1.length c0_1, .slice A0_2 l0_2.length c0_2, .int .i64 a0_3, .int .i64 a0_4]) (t := 56) ?_; intro gb470 hg w55 hbox hb; have BK470 := A_ (hbox); have GW470 := A_ ((by rw [hg]; exact (below_size (bl_ HB)) : w.heap.size ≤ gb470)); have GE470 := A_ ((by rw [hg]; exact (below_size (bl_ HB)) : w.heap.size ≤ gb470)); replace HB := A_ (below_step (bl_ HB) hb); clear hb hbox hg) | ((with_reducible refine gate_dst (N := 6) rfl ?_); refine be_ (N := 6) (cs := #[.int .i64 a1_0, .int .i64 a1_1, .int .i64 a1_2, .int .i64 a1_3, .bool a1_4]) (t := 88) ?_; intro gb471 hg w56 hbox hb; have BK471 := A_ (hbox); have GW471 := A_ ((by rw [hg]; exact (below_size (bl1_ HB GE470.out)) : w.heap.size ≤ gb471)); have GE471 := A_ ((by rw [hg]; exact (below_size (bl1_ HB GE470.out)) : w.heap.size ≤ gb471)); have NB470_471 := A_ ((by rw [hg]; exact Nat.ne_of_lt (blk_lt (bx_ BK470)) : gb470 ≠ gb471)); have NB471_470 := A_ ((by rw [hg]; exact Nat.ne_of_gt (blk_lt (bx_ BK470)) : gb471 ≠ gb470)); replace BK470 := A_ (blk_below (bx_ BK470) hb); replace HB := A_ (below_step (bl1_ HB GE470.out) hb); clear hb hbox hg; have hnb57 := NB470_471.out; have hnc57 := NB471_470.out; have hcz58_0 := cz_ BK470 0; have hcz58_1 := cz_ BK470 1; have hcz58_2 := cz_ BK470 2; have hcz58_3 := cz_ BK470 3; have hcz58_4 := cz_ BK470 4; have hfz58_0 := blk_frozen BK470.out 0; have hfz58_1 := blk_frozen BK470.out 1; have hfz58_2 := blk_frozen BK470.out 2; have hfz58_3 := blk_frozen BK470.out 3; have hfz58_4 := blk_frozen BK470.out 4; have hcz59_0 := cz_ BK471 0; have hcz59_1 := cz_ BK471 1; have hcz59_2 := cz_ BK471 2; have hcz59_3 := cz_ BK471 3; have hcz59_4 := cz_ BK471 4; have hfz59_0 := blk_frozen BK471.out 0; have hfz59_1 := blk_frozen BK471.out 1; have hfz59_2 := blk_frozen BK471.out 2; have hfz59_3 := blk_frozen BK471.out 3; have hfz59_4 := blk_frozen BK471.out 4) | ((with_reducible refine gate_callee (f := 53) rfl ?_); refine gm_ (some 18) Try.func53 #[.agg #[.slice A0_0 l0_0.length c0_0, .slice A0_1 l0_1.length c0_1, .slice A0_2 l0_2.length c0_2, .int .i64 a0_3, .int .i64 a0_4], .agg #[.int .i64 a1_0, .int .i64 a1_1, .int .i64 a1_2, .int .i64 a1_3, .bool a1_4]] ?_; (with_reducible refine (table_Fits.calls k _ _ l0_0 _ _ l0_1 _ _ l0_2 a0_3 a0_4 a1_0 a1_1 a1_2 a1_3 a1_4 t472 _ ?side1 ?side2 ?side3 ?side4 ?side5 ?side6 A6.out).mono ?_); (case side1 => exact cb_ HR0_0 HB); (case side2 => exact HC0_0.out); (case side3 => exact cb_ HR0_1 HB); (case side4 => exact HC0_1.out); (case side5 => exact cb_ HR0_2 HB); (case side6 => exact HC0_2.out); rintro e w60 ⟨rfl, hb⟩; refine ⟨_, rfl, ?_⟩; replace BK470 := A_ (blk_below (bx_ BK470) hb); replace BK471 := A_ (blk_below (bx_ BK471) hb); replace HB := A_ (below_step (bl2_ HB GE470.out GE471.out) hb); (try clear hb); (try clear hb2); (try clear hk); (try clear hi); have hcz61_0 := cz_ BK471 0; have hcz61_1 := cz_ BK471 1; have hcz61_2 := cz_ BK471 2; have hcz61_3 := cz_ BK471 3; have hcz61_4 := cz_ BK471 4; have hfz61_0 := blk_frozen BK471.out 0; have hfz61_1 := blk_frozen BK471.out 1; have hfz61_2 := blk_frozen BK471.out 2; have hfz61_3 := blk_frozen BK471.out 3; have hfz61_4 := blk_frozen BK471.out 4) | ((with_reducible refine gate_callee (f := 81) rfl ?_); refine gm_ (some 27) Try.func81 #[.agg #[.int .i64 a1_0, .int .i64 a1_1, .int .i64 a1_2, .int .i64 a1_3, .bool a1_4], .int .i64 a2, .int .i64 a3, .int .i64 a4] ?_; (with_reducible refine (code_Charge.calls k a1_0 a1_1 a1_2 a1_3 a1_4 a2 a3 a4 t473 t474 _ A8.out).mono ?_); rintro e w62 ⟨rfl, hb⟩; refine ⟨_, rfl, ?_⟩; replace BK470 := A_ (blk_below (bx_ BK470) hb); replace BK471 := A_ (blk_below (bx_ BK471) hb); replace HB := A_ (below_step (bl2_ HB GE470.out GE471.out) hb); (try clear hb); (try clear hb2); (try clear hk); (try clear hi); have hcz63_0 := cz_ BK471 0; have hcz63_1 := cz_ BK471 1; have hcz63_2 := cz_ BK471 2; have hcz63_3 := cz_ BK471 3; have hcz63_4 := cz_ BK471 4; have hfz63_0 := blk_frozen BK471.out 0; have hfz63_1 := blk_frozen BK471.out 1; have hfz63_2 := blk_frozen BK471.out 2; have hfz63_3 := blk_frozen BK471.out 3; have hfz63_4 := blk_frozen BK471.out 4; have hcz64_0 := cz_ BK470 0; have hcz64_1 := cz_ BK470 1; have hcz64_2 := cz_ BK470 2; have hcz64_3 := cz_ BK470 3; have hcz64_4 := cz_ BK470 4; have hfz64_0 := blk_frozen BK470.out 0; have hfz64_1 := blk_frozen BK470.out 1; have hfz64_2 := blk_frozen BK470.out 2; have hfz64_3 := blk_frozen BK470.out 3; have hfz64_4 := blk_frozen BK470.out 4; have p479 : 0 ≤ (a1_0 : Int) := of_decide_eq_true (by first | (with_reducible assumption) | assumption); have q479 : a1_0 < (l0_0.length : Int) := of_decide_eq_true (by first | (with_reducible assumption) | assumption); obtain ⟨ad479, A479_0, c479_0, e479, hx479_0, hl479_0, hi479_0⟩ := at_L3 HR0_0.out a1_0 p479 q479; cases e479; replace hx479_0 := (HB.out.cell (World.block_lt_of_cell? w _ hx479_0)).trans hx479_0; have HR479_0 := A_ hi479_0; have HC479_0 := A_ hl479_0; clear hi479_0 hl479_0; replace p479 := eq_true p479; replace q479 := eq_true q479) | ((with_reducible refine gate_callee (f := 37) rfl ?_); refine gm_ (some 63) Try.func37 #[.int .i64 a3, .int .i64 a4, .slice A479_0 (rd_L3 l0_0 a1_0).length c479_0] ?_; (with_reducible refine (band_Scale.calls k a3 a4 _ _ (rd_L3 l0_0 a1_0) t480 t481 _ ?side1 ?side2 A39.out).mono ?_); (case side1 => exact cb_ HR479_0 HB); (case side2 => exact HC479_0.out); rintro e w65 ⟨v482, rfl, ho0, hb⟩; refine ⟨_, rfl, ?_⟩; have HO483 := A_ (Kd.R_lower ho0 (below_size (bl2_ HB GE470.out GE471.out))); replace BK470 := A_ (blk_below (bx_ BK470) hb); replace BK471 := A_ (blk_below (bx_ BK471) hb); replace HB := A_ (below_step (bl2_ HB GE470.out GE471.out) hb); (try clear hb); (try clear hb2); (try clear hk); (try clear hi); (try clear ho0)))
        go_ret2
        exact ⟨er_, bl2_ HB GE470.out GE471.out⟩
      ·rw [if_neg c38] at H
       exact absurd H (by simp)
     ·rw [if_neg c37] at H
      exact absurd H (by simp)
  ·rw [if_neg c9] at H
   have c9b0 : (t474 == 0) = false := beq_eq_false_iff_ne.mpr c9
   have c9b1 : (t474 != 0) = true := bne_iff_ne.mpr c9
   simp only [Option.some.injEq, Prod.mk.injEq] at H
   obtain ⟨rfl, rfl⟩ := H
   go_enter Try.func79, Try.ntmps79
   go_wp2_with (first | ((with_reducible refine gate_dst (N := 5) rfl ?_); refine be_ (N := 5) (cs := #[.slice A0_0 l0_0.length c0_0, .slice A0_1 l0_1.length c0_1, .slice A0_2 l0_2.length c0_2, .int .i64 a0_3, .int .i64 a0_4]) (t := 56) ?_; intro gb470 hg w66 hbox hb; have BK470 := A_ (hbox); have GW470 := A_ ((by rw [hg]; exact (below_size (bl_ HB)) : w.heap.size ≤ gb470)); have GE470 := A_ ((by rw [hg]; exact (below_size (bl_ HB)) : w.heap.size ≤ gb470)); replace HB := A_ (below_step (bl_ HB) hb); clear hb hbox hg) | ((with_reducible refine gate_dst (N := 6) rfl ?_); refine be_ (N := 6) (cs := #[.int .i64 a1_0, .int .i64 a1_1, .int .i64 a1_2, .int .i64 a1_3, .bool a1_4]) (t := 88) ?_; intro gb471 hg w67 hbox hb; have BK471 := A_ (hbox); have GW471 := A_ ((by rw [hg]; exact (below_size (bl1_ HB GE470.out)) : w.heap.size ≤ gb471)); have GE471 := A_ ((by rw [hg]; exact (below_size (bl1_ HB GE470.out)) : w.heap.size ≤ gb471)); have NB470_471 := A_ ((by rw [hg]; exact Nat.ne_of_lt (blk_lt (bx_ BK470)) : gb470 ≠ gb471)); have NB471_470 := A_ ((by rw [hg]; exact Nat.ne_of_gt (blk_lt (bx_ BK470)) : gb471 ≠ gb470)); replace BK470 := A_ (blk_below (bx_ BK470) hb); replace HB := A_ (below_step (bl1_ HB GE470.out) hb); clear hb hbox hg; have hnb68 := NB470_471.out; have hnc68 := NB471_470.out; have hcz69_0 := cz_ BK470 0; have hcz69_1 := cz_ BK470 1; have hcz69_2 := cz_ BK470 2; have hcz69_3 := cz_ BK470 3; have hcz69_4 := cz_ BK470 4; have hfz69_0 := blk_frozen BK470.out 0; have hfz69_1 := blk_frozen BK470.out 1; have hfz69_2 := blk_frozen BK470.out 2; have hfz69_3 := blk_frozen BK470.out 3; have hfz69_4 := blk_frozen BK470.out 4; have hcz70_0 := cz_ BK471 0; have hcz70_1 := cz_ BK471 1; have hcz70_2 := cz_ BK471 2; have hcz70_3 := cz_ BK471 3; have hcz70_4 := cz_ BK471 4; have hfz70_0 := blk_frozen BK471.out 0; have hfz70_1 := blk_frozen BK471.out 1; have hfz70_2 := blk_frozen BK471.out 2; have hfz70_3 := blk_frozen BK471.out 3; have hfz70_4 := blk_frozen BK471.out 4) | ((with_reducible refine gate_callee (f := 53) rfl ?_); refine gm_ (some 18) Try.func53 #[.agg #[.slice A0_0 l0_0.length c0_0, .slice A0_1 l0_1.length c0_1, .slice A0_2 l0_2.length c0_2, .int .i64 a0_3, .int .i64 a0_4], .agg #[.int .i64 a1_0, .int .i64 a1_1, .int .i64 a1_2, .int .i64 a1_3, .bool a1_4]] ?_; (with_reducible refine (table_Fits.calls k _ _ l0_0 _ _ l0_1 _ _ l0_2 a0_3 a0_4 a1_0 a1_1 a1_2 a1_3 a1_4 t472 _ ?side1 ?side2 ?side3 ?side4 ?side5 ?side6 A6.out).mono ?_); (case side1 => exact cb_ HR0_0 HB); (case side2 => exact HC0_0.out); (case side3 => exact cb_ HR0_1 HB); (case side4 => exact HC0_1.out); (case side5 => exact cb_ HR0_2 HB); (case side6 => exact HC0_2.out); rintro e w71 ⟨rfl, hb⟩; refine ⟨_, rfl, ?_⟩; replace BK470 := A_ (blk_below (bx_ BK470) hb); replace BK471 := A_ (blk_below (bx_ BK471) hb); replace HB := A_ (below_step (bl2_ HB GE470.out GE471.out) hb); (try clear hb); (try clear hb2); (try clear hk); (try clear hi); have hcz72_0 := cz_ BK471 0; have hcz72_1 := cz_ BK471 1; have hcz72_2 := cz_ BK471 2; have hcz72_3 := cz_ BK471 3; have hcz72_4 := cz_ BK471 4; have hfz72_0 := blk_frozen BK471.out 0; have hfz72_1 := blk_frozen BK471.out 1; have hfz72_2 := blk_frozen BK471.out 2; have hfz72_3 := blk_frozen BK471.out 3; have hfz72_4 := blk_frozen BK471.out 4) | ((with_reducible refine gate_callee (f := 81) rfl ?_); refine gm_ (some 27) Try.func81 #[.agg #[.int .i64 a1_0, .int .i64 a1_1, .int .i64 a1_2, .int .i64 a1_3, .bool a1_4], .int .i64 a2, .int .i64 a3, .int .i64 a4] ?_; (with_reducible refine (code_Charge.calls k a1_0 a1_1 a1_2 a1_3 a1_4 a2 a3 a4 t473 t474 _ A8.out).mono ?_); rintro e w73 ⟨rfl, hb⟩; refine ⟨_, rfl, ?_⟩; replace BK470 := A_ (blk_below (bx_ BK470) hb); replace BK471 := A_ (blk_below (bx_ BK471) hb); replace HB := A_ (below_step (bl2_ HB GE470.out GE471.out) hb); (try clear hb); (try clear hb2); (try clear hk); (try clear hi)))
   go_ret2
   exact ⟨er_, bl2_ HB GE470.out GE471.out⟩
 ·rw [if_neg c7] at H
  have c7b0 : (t472 == 0) = false := beq_eq_false_iff_ne.mpr c7
  have c7b1 : (t472 != 0) = true := bne_iff_ne.mpr c7
  simp only [Option.some.injEq, Prod.mk.injEq] at H
  obtain ⟨rfl, rfl⟩ := H
  go_enter Try.func79, Try.ntmps79
  go_wp2_with (first | ((with_reducible refine gate_dst (N := 5) rfl ?_); refine be_ (N := 5) (cs := #[.slice A0_0 l0_0.length c0_0, .slice A0_1 l0_1.length c0_1, .slice A0_2 l0_2.length c0_2, .int .i64 a0_3, .int .i64 a0_4]) (t := 56) ?_; intro gb470 hg w74 hbox hb; have BK470 := A_ (hbox); have GW470 := A_ ((by rw [hg]; exact (below_size (bl_ HB)) : w.heap.size ≤ gb470)); have GE470 := A_ ((by rw [hg]; exact (below_size (bl_ HB)) : w.heap.size ≤ gb470)); replace HB := A_ (below_step (bl_ HB) hb); clear hb hbox hg) | ((with_reducible refine gate_dst (N := 6) rfl ?_); refine be_ (N := 6) (cs := #[.int .i64 a1_0, .int .i64 a1_1, .int .i64 a1_2, .int .i64 a1_3, .bool a1_4]) (t := 88) ?_; intro gb471 hg w75 hbox hb; have BK471 := A_ (hbox); have GW471 := A_ ((by rw [hg]; exact (below_size (bl1_ HB GE470.out)) : w.heap.size ≤ gb471)); have GE471 := A_ ((by rw [hg]; exact (below_size (bl1_ HB GE470.out)) : w.heap.size ≤ gb471)); have NB470_471 := A_ ((by rw [hg]; exact Nat.ne_of_lt (blk_lt (bx_ BK470)) : gb470 ≠ gb471)); have NB471_470 := A_ ((by rw [hg]; exact Nat.ne_of_gt (blk_lt (bx_ BK470)) : gb471 ≠ gb470)); replace BK470 := A_ (blk_below (bx_ BK470) hb); replace HB := A_ (below_step (bl1_ HB GE470.out) hb); clear hb hbox hg; have hnb76 := NB470_471.out; have hnc76 := NB471_470.out; have hcz77_0 := cz_ BK470 0; have hcz77_1 := cz_ BK470 1; have hcz77_2 := cz_ BK470 2; have hcz77_3 := cz_ BK470 3; have hcz77_4 := cz_ BK470 4; have hfz77_0 := blk_frozen BK470.out 0; have hfz77_1 := blk_frozen BK470.out 1; have hfz77_2 := blk_frozen BK470.out 2; have hfz77_3 := blk_frozen BK470.out 3; have hfz77_4 := blk_frozen BK470.out 4; have hcz78_0 := cz_ BK471 0; have hcz78_1 := cz_ BK471 1; have hcz78_2 := cz_ BK471 2; have hcz78_3 := cz_ BK471 3; have hcz78_4 := cz_ BK471 4; have hfz78_0 := blk_frozen BK471.out 0; have hfz78_1 := blk_frozen BK471.out 1; have hfz78_2 := blk_frozen BK471.out 2; have hfz78_3 := blk_frozen BK471.out 3; have hfz78_4 := blk_frozen BK471.out 4) | ((with_reducible refine gate_callee (f := 53) rfl ?_); refine gm_ (some 18) Try.func53 #[.agg #[.slice A0_0 l0_0.length c0_0, .slice A0_1 l0_1.length c0_1, .slice A0_2 l0_2.length c0_2, .int .i64 a0_3, .int .i64 a0_4], .agg #[.int .i64 a1_0, .int .i64 a1_1, .int .i64 a1_2, .int .i64 a1_3, .bool a1_4]] ?_; (with_reducible refine (table_Fits.calls k _ _ l0_0 _ _ l0_1 _ _ l0_2 a0_3 a0_4 a1_0 a1_1 a1_2 a1_3 a1_4 t472 _ ?side1 ?side2 ?side3 ?side4 ?side5 ?side6 A6.out).mono ?_); (case side1 => exact cb_ HR0_0 HB); (case side2 => exact HC0_0.out); (case side3 => exact cb_ HR0_1 HB); (case side4 => exact HC0_1.out); (case side5 => exact cb_ HR0_2 HB); (case side6 => exact HC0_2.out); rintro e w79 ⟨rfl, hb⟩; refine ⟨_, rfl, ?_⟩; replace BK470 := A_ (blk_below (bx_ BK470) hb); replace BK471 := A_ (blk_below (bx_ BK471) hb); replace HB := A_ (below_step (bl2_ HB GE470.out GE471.out) hb); (try clear hb); (try clear hb2); (try clear hk); (try clear hi)))
  go_ret2
  exact ⟨er_, bl2_ HB GE470.out GE471.out⟩
end Go.Proofs.Ytcapgmoipacioaa.P
