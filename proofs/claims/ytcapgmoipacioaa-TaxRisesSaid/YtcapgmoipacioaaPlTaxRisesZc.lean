import Derived.Test.YtcapgmoipacioaaPtZc
import Derived.Test.YtcapgmoipacioaaPpstipendlaw13Zc
import Derived.Test.YtcapgmoipacioaaPptaxCornersZc
import Derived.Test.YtcapgmoipacioaaPptaxRateZc
import Derived.Test.YtcapgmoipacioaaY1Zc
namespace Go.Proofs.Ytcapgmoipacioaa.P
open Go.RowKit Go.Proofs.YtcapgmoipacioaaW.PrintWords Go.Proofs.YtcapgmoipacioaaW.PrintLast Go.Proofs.YtcapgmoipacioaaW.PrintMore
set_option linter.unusedVariables false
set_option linter.unusedSimpArgs false
mutual
def stipendlaw13_TaxRises.j0 : Nat → Bool → List (List (S106)) → List (S120) → List (S209) → Int → Int → Int → Int → Int → Int → Bool → Int → Int → Int → Option (Bool)
 | 0, _, _, _, _, _, _, _, _, _, _, _, _, _, _ => none
 | k + 1, x39, x1095000, x1095001, x1095002, x1095003, x1095004, x1096000, x1096001, x1096002, x1096003, x1096004, x1097000, x1097001, x1097002 => if x39 = true then (some true) else ((tax_Rate.f k x1095000 x1095001 x1095002 x1095003 x1095004 x1096000 x1096001 x1096002 x1096003 x1096004 x1097000 x1097001 x1097002).bind fun bt1099 => (if bt1099.2 = 0 then (stipendlaw13_TaxRises.j1 k bt1099.1 (decide (bt1099.1 < 0)) x1095000 x1095001 x1095002 x1095003 x1095004 x1096000 x1096001 x1096002 x1096003 x1096004 x1097000 x1097001 x1097002) else (stipendlaw13_TaxRises.j1 k bt1099.1 true x1095000 x1095001 x1095002 x1095003 x1095004 x1096000 x1096001 x1096002 x1096003 x1096004 x1097000 x1097001 x1097002)))
def stipendlaw13_TaxRises.j1 : Nat → Int → Bool → List (List (S106)) → List (S120) → List (S209) → Int → Int → Int → Int → Int → Int → Bool → Int → Int → Int → Option (Bool)
 | 0, _, _, _, _, _, _, _, _, _, _, _, _, _, _, _ => none
 | k + 1, x7, x57, x1095000, x1095001, x1095002, x1095003, x1095004, x1096000, x1096001, x1096002, x1096003, x1096004, x1097000, x1097001, x1097002 => if x57 = true then (none) else (if 0 ≤ x1096000 then (if x1096000 < (x1095000.length : Int) then (stipendlaw13_TaxRises.l0 k x7 0 (rd_L3 x1095000 x1096000) ((rd_L3 x1095000 x1096000).length : Int) 0 x1095000 x1095001 x1095002 x1095003 x1095004 x1096000 x1096001 x1096002 x1096003 x1096004 x1097000 x1097001 x1097002) else (none)) else (none))
def stipendlaw13_TaxRises.l0 : Nat → Int → Int → List (S106) → Int → Int → List (List (S106)) → List (S120) → List (S209) → Int → Int → Int → Int → Int → Int → Bool → Int → Int → Int → Option (Bool)
 | 0, _, _, _, _, _, _, _, _, _, _, _, _, _, _, _, _, _, _ => none
 | k + 1, x7, x9, x63, x64, x65, x1095000, x1095001, x1095002, x1095003, x1095004, x1096000, x1096001, x1096002, x1096003, x1096004, x1097000, x1097001, x1097002 => if x65 < x64 then (if 0 ≤ x65 then (if x65 < (x63.length : Int) then (stipendlaw13_TaxRises.l0 k x7 (mx x9 ((rd_T106 x63 x65).f1)) x63 x64 (wrap64 (x65 + 1)) x1095000 x1095001 x1095002 x1095003 x1095004 x1096000 x1096001 x1096002 x1096003 x1096004 x1097000 x1097001 x1097002) else (none)) else (none)) else (if x7 > x9 then (none) else ((tax_Rate.f k x1095000 x1095001 x1095002 x1095003 x1095004 x1096000 x1096001 x1096002 x1096003 x1096004 (wrap64 (x1097000 - 1)) x1097001 x1097002).bind fun bt1104 => ((tax_Corners.f k x1095000 x1095001 x1095002 x1095003 x1095004 x1096000 x1096001 x1096002 x1096003 x1096004 x1097001 x1097002).bind fun bt1106 => (stipendlaw13_TaxRises.l1 k x7 bt1104.1 bt1106.1 false bt1106.1 (bt1106.1.length : Int) 0 x1097000 x1097001 x1097002))))
def stipendlaw13_TaxRises.l1 : Nat → Int → Int → List Int → Bool → List Int → Int → Int → Int → Int → Int → Option (Bool)
 | 0, _, _, _, _, _, _, _, _, _, _ => none
 | k + 1, x7, x12, x14, x16, x100, x101, x102, x1097000, x1097001, x1097002 => if x102 < x101 then (if 0 ≤ x102 then (if x102 < (x100.length : Int) then (if x16 = true then (stipendlaw13_TaxRises.j4 k x7 x12 x14 true x102 (rd x100 x102) x100 x101 x102 x1097000 x1097001 x1097002) else (stipendlaw13_TaxRises.j4 k x7 x12 x14 ((rd x100 x102) == x1097000) x102 (rd x100 x102) x100 x101 x102 x1097000 x1097001 x1097002)) else (none)) else (none)) else (if x7 = x12 then (some true) else (some x16))
def stipendlaw13_TaxRises.j4 : Nat → Int → Int → List Int → Bool → Int → Int → List Int → Int → Int → Int → Int → Int → Option (Bool)
 | 0, _, _, _, _, _, _, _, _, _, _, _, _ => none
 | k + 1, x7, x12, x14, x16, x17, x18, x100, x101, x102, x1097000, x1097001, x1097002 => if x17 > 0 then (if 0 ≤ (wrap64 (x17 - 1)) then (if (wrap64 (x17 - 1)) < (x14.length : Int) then (stipendlaw13_TaxRises.j5 k x7 x12 x14 x16 x100 x101 x102 (decide ((rd x14 (wrap64 (x17 - 1))) ≥ x18)) x1097000 x1097001 x1097002) else (none)) else (none)) else (stipendlaw13_TaxRises.j5 k x7 x12 x14 x16 x100 x101 x102 false x1097000 x1097001 x1097002)
def stipendlaw13_TaxRises.j5 : Nat → Int → Int → List Int → Bool → List Int → Int → Int → Bool → Int → Int → Int → Option (Bool)
 | 0, _, _, _, _, _, _, _, _, _, _, _ => none
 | k + 1, x7, x12, x14, x16, x100, x101, x102, x124, x1097000, x1097001, x1097002 => if x124 = true then (none) else (stipendlaw13_TaxRises.l1 k x7 x12 x14 x16 x100 x101 (wrap64 (x102 + 1)) x1097000 x1097001 x1097002)
end
def stipendlaw13_TaxRises.f (k : Nat) (l0_0 : List (List (S106))) (l0_1 : List (S120)) (l0_2 : List (S209)) (a0_3 : Int) (a0_4 : Int) (a1_0 : Int) (a1_1 : Int) (a1_2 : Int) (a1_3 : Int) (a1_4 : Bool) (a2_0 : Int) (a2_1 : Int) (a2_2 : Int) : Option (Bool) := (stipendlaw13_dues.f k).bind fun t1097 => (if t1097 = true then ((stipendlaw13_fits.f k l0_0 l0_1 l0_2 a0_3 a0_4 a1_0 a1_1 a1_2 a1_3 a1_4 a2_1 a2_2).bind fun t1098 => (if t1098 = true then (if a2_0 > 50000000000 then (stipendlaw13_TaxRises.j0 k true l0_0 l0_1 l0_2 a0_3 a0_4 a1_0 a1_1 a1_2 a1_3 a1_4 a2_0 a2_1 a2_2) else (stipendlaw13_TaxRises.j0 k (decide (a2_0 < (-50000000000))) l0_0 l0_1 l0_2 a0_3 a0_4 a1_0 a1_1 a1_2 a1_3 a1_4 a2_0 a2_1 a2_2)) else (stipendlaw13_TaxRises.j0 k true l0_0 l0_1 l0_2 a0_3 a0_4 a1_0 a1_1 a1_2 a1_3 a1_4 a2_0 a2_1 a2_2))) else (none))
set_option maxHeartbeats 8000000 in
set_option maxRecDepth 100000 in
theorem stipendlaw13_TaxRises.calls (k : Nat) (A0_0 : Option Addr) (c0_0 : Nat) (l0_0 : List (List (S106))) (A0_1 : Option Addr) (c0_1 : Nat) (l0_1 : List (S120)) (A0_2 : Option Addr) (c0_2 : Nat) (l0_2 : List (S209)) (a0_3 : Int) (a0_4 : Int) (a1_0 : Int) (a1_1 : Int) (a1_2 : Int) (a1_3 : Int) (a1_4 : Bool) (a2_0 : Int) (a2_1 : Int) (a2_2 : Int) (r : Bool) (w : World) (hr0_0 : Kd.C (Kd.slice 106 k106) w A0_0 l0_0.length l0_0) (hc0_0 : l0_0.length ≤ c0_0) (hr0_1 : Kd.C k120 w A0_1 l0_1.length l0_1) (hc0_1 : l0_1.length ≤ c0_1) (hr0_2 : Kd.C k209 w A0_2 l0_2.length l0_2) (hc0_2 : l0_2.length ≤ c0_2) (h : stipendlaw13_TaxRises.f k l0_0 l0_1 l0_2 a0_3 a0_4 a1_0 a1_1 a1_2 a1_3 a1_4 a2_0 a2_1 a2_2 = some r) :
  Calls Try.prog 20 #[.agg #[.slice A0_0 l0_0.length c0_0, .slice A0_1 l0_1.length c0_1, .slice A0_2 l0_2.length c0_2, .int .i64 a0_3, .int .i64 a0_4], .agg #[.int .i64 a1_0, .int .i64 a1_1, .int .i64 a1_2, .int .i64 a1_3, .bool a1_4], .agg #[.int .i64 a2_0, .int .i64 a2_1, .int .i64 a2_2]] w fun e w' => e = .returned (.bool r) ∧ Below w.heap.size w w' := by
 have hu56 := Try.underlying56
 have hu88 := Try.underlying88
 have hu135 := Try.underlying135
 have hu137 := Try.underlying137
 have hu106 := Try.underlying106
 have HR0_0 := A_ hr0_0
 have HC0_0 := A_ hc0_0
 clear hr0_0 hc0_0
 have HR0_1 := A_ hr0_1
 have HC0_1 := A_ hc0_1
 clear hr0_1 hc0_1
 have HR0_2 := A_ hr0_2
 have HC0_2 := A_ hc0_2
 clear hr0_2 hc0_2
 have HB := A_ (Below.refl w.heap.size w)
 have H : ((stipendlaw13_dues.f k).bind fun t1097 => (if t1097 = true then ((stipendlaw13_fits.f k l0_0 l0_1 l0_2 a0_3 a0_4 a1_0 a1_1 a1_2 a1_3 a1_4 a2_1 a2_2).bind fun t1098 => (if t1098 = true then (if a2_0 > 50000000000 then (stipendlaw13_TaxRises.j0 k true l0_0 l0_1 l0_2 a0_3 a0_4 a1_0 a1_1 a1_2 a1_3 a1_4 a2_0 a2_1 a2_2) else (stipendlaw13_TaxRises.j0 k (decide (a2_0 < (-50000000000))) l0_0 l0_1 l0_2 a0_3 a0_4 a1_0 a1_1 a1_2 a1_3 a1_4 a2_0 a2_1 a2_2)) else (stipendlaw13_TaxRises.j0 k true l0_0 l0_1 l0_2 a0_3 a0_4 a1_0 a1_1 a1_2 a1_3 a1_4 a2_0 a2_1 a2_2))) else (none))) = some r := h
 clear h
 replace H := Option.bind_eq_some_iff.mp H
 obtain ⟨t1097, A40, H⟩ := H
 replace H : (if t1097 = true then ((stipendlaw13_fits.f k l0_0 l0_1 l0_2 a0_3 a0_4 a1_0 a1_1 a1_2 a1_3 a1_4 a2_1 a2_2).bind fun t1098 => (if t1098 = true then (if a2_0 > 50000000000 then (stipendlaw13_TaxRises.j0 k true l0_0 l0_1 l0_2 a0_3 a0_4 a1_0 a1_1 a1_2 a1_3 a1_4 a2_0 a2_1 a2_2) else (stipendlaw13_TaxRises.j0 k (decide (a2_0 < (-50000000000))) l0_0 l0_1 l0_2 a0_3 a0_4 a1_0 a1_1 a1_2 a1_3 a1_4 a2_0 a2_1 a2_2)) else (stipendlaw13_TaxRises.j0 k true l0_0 l0_1 l0_2 a0_3 a0_4 a1_0 a1_1 a1_2 a1_3 a1_4 a2_0 a2_1 a2_2))) else (none)) = some r := H
 have A4 := A_ A40
 clear A40
 by_cases c5 : t1097 = true
 ·subst c5
  have H1 : ((stipendlaw13_fits.f k l0_0 l0_1 l0_2 a0_3 a0_4 a1_0 a1_1 a1_2 a1_3 a1_4 a2_1 a2_2).bind fun t1098 => (if t1098 = true then (if a2_0 > 50000000000 then (stipendlaw13_TaxRises.j0 k true l0_0 l0_1 l0_2 a0_3 a0_4 a1_0 a1_1 a1_2 a1_3 a1_4 a2_0 a2_1 a2_2) else (stipendlaw13_TaxRises.j0 k (decide (a2_0 < (-50000000000))) l0_0 l0_1 l0_2 a0_3 a0_4 a1_0 a1_1 a1_2 a1_3 a1_4 a2_0 a2_1 a2_2)) else (stipendlaw13_TaxRises.j0 k true l0_0 l0_1 l0_2 a0_3 a0_4 a1_0 a1_1 a1_2 a1_3 a1_4 a2_0 a2_1 a2_2))) = some r := by rw [if_pos rfl] at H; exact H
  clear H
  have H := H1
  clear H1
  have HC6 := A_ H
  clear H
  go_enter Try.func20, Try.ntmps20
  go_upto_region 3 with (first | ((with_reducible refine gate_dst (N := 3) rfl ?_); refine be_ (N := 3) (cs := #[.slice A0_0 l0_0.length c0_0, .slice A0_1 l0_1.length c0_1, .slice A0_2 l0_2.length c0_2, .int .i64 a0_3, .int .i64 a0_4]) (t := 56) ?_; intro gb1094 hg w7 hbox hb; have BK1094 := A_ (hbox); have GW1094 := A_ ((by rw [hg]; exact (below_size (bl_ HB)) : w.heap.size ≤ gb1094)); have GE1094 := A_ ((by rw [hg]; exact (below_size (bl_ HB)) : w.heap.size ≤ gb1094)); replace HB := A_ (below_step (bl_ HB) hb); clear hb hbox hg) | ((with_reducible refine gate_dst (N := 4) rfl ?_); refine be_ (N := 4) (cs := #[.int .i64 a1_0, .int .i64 a1_1, .int .i64 a1_2, .int .i64 a1_3, .bool a1_4]) (t := 88) ?_; intro gb1095 hg w8 hbox hb; have BK1095 := A_ (hbox); have GW1095 := A_ ((by rw [hg]; exact (below_size (bl1_ HB GE1094.out)) : w.heap.size ≤ gb1095)); have GE1095 := A_ ((by rw [hg]; exact (below_size (bl1_ HB GE1094.out)) : w.heap.size ≤ gb1095)); have NB1094_1095 := A_ ((by rw [hg]; exact Nat.ne_of_lt (blk_lt (bx_ BK1094)) : gb1094 ≠ gb1095)); have NB1095_1094 := A_ ((by rw [hg]; exact Nat.ne_of_gt (blk_lt (bx_ BK1094)) : gb1095 ≠ gb1094)); replace BK1094 := A_ (blk_below (bx_ BK1094) hb); replace HB := A_ (below_step (bl1_ HB GE1094.out) hb); clear hb hbox hg) | ((with_reducible refine gate_dst (N := 5) rfl ?_); refine be_ (N := 5) (cs := #[.int .i64 a2_0, .int .i64 a2_1, .int .i64 a2_2]) (t := 135) ?_; intro gb1096 hg w9 hbox hb; have BK1096 := A_ (hbox); have GW1096 := A_ ((by rw [hg]; exact (below_size (bl2_ HB GE1094.out GE1095.out)) : w.heap.size ≤ gb1096)); have GE1096 := A_ ((by rw [hg]; exact (below_size (bl2_ HB GE1094.out GE1095.out)) : w.heap.size ≤ gb1096)); have NB1094_1096 := A_ ((by rw [hg]; exact Nat.ne_of_lt (blk_lt (bx_ BK1094)) : gb1094 ≠ gb1096)); have NB1096_1094 := A_ ((by rw [hg]; exact Nat.ne_of_gt (blk_lt (bx_ BK1094)) : gb1096 ≠ gb1094)); have NB1095_1096 := A_ ((by rw [hg]; exact Nat.ne_of_lt (blk_lt (bx_ BK1095)) : gb1095 ≠ gb1096)); have NB1096_1095 := A_ ((by rw [hg]; exact Nat.ne_of_gt (blk_lt (bx_ BK1095)) : gb1096 ≠ gb1095)); replace BK1094 := A_ (blk_below (bx_ BK1094) hb); replace BK1095 := A_ (blk_below (bx_ BK1095) hb); replace HB := A_ (below_step (bl2_ HB GE1094.out GE1095.out) hb); clear hb hbox hg) | ((with_reducible refine gate_callee (f := 77) rfl ?_); refine gm_ (some 19) Try.func77 #[] ?_; (with_reducible refine (stipendlaw13_dues.calls k  true _ A4.out).mono ?_); rintro e w10 ⟨rfl, hb⟩; refine ⟨_, rfl, ?_⟩; replace BK1094 := A_ (blk_below (bx_ BK1094) hb); replace BK1095 := A_ (blk_below (bx_ BK1095) hb); replace BK1096 := A_ (blk_below (bx_ BK1096) hb); replace HB := A_ (below_step (bl3_ HB GE1094.out GE1095.out GE1096.out) hb); (try clear hb); (try clear hb2); (try clear hk); (try clear hi)))
  (try simp only [Act.put, List.setIfInBounds_toArray, List.set_cons_zero, List.set_cons_succ])
  go_cut [39] (fun v39 wc => ∃ (kq : Nat) (x39_5 : Bool), v39 = .bool x39_5 ∧ Aside0 (stipendlaw13_TaxRises.j0 kq x39_5 l0_0 l0_1 l0_2 a0_3 a0_4 a1_0 a1_1 a1_2 a1_3 a1_4 a2_0 a2_1 a2_2 = some r) ∧ Aside0 (kq ≤ k) ∧ Aside0 (wc.heap[gb1094]? = some (.cells #[(.slice A0_0 l0_0.length c0_0), (.slice A0_1 l0_1.length c0_1), (.slice A0_2 l0_2.length c0_2), .int .i64 a0_3, .int .i64 a0_4] 56 (0, 0))) ∧ Aside0 (wc.heap[gb1095]? = some (.cells #[.int .i64 a1_0, .int .i64 a1_1, .int .i64 a1_2, .int .i64 a1_3, .bool a1_4] 88 (0, 0))) ∧ Aside0 (wc.heap[gb1096]? = some (.cells #[.int .i64 a2_0, .int .i64 a2_1, .int .i64 a2_2] 135 (0, 0))) ∧ Aside0 (Below w.heap.size w wc))
  case first =>
   have H := HC6.out
   clear HC6
   replace H := Option.bind_eq_some_iff.mp H
   obtain ⟨t1098, A110, H⟩ := H
   replace H : (if t1098 = true then (if a2_0 > 50000000000 then (stipendlaw13_TaxRises.j0 k true l0_0 l0_1 l0_2 a0_3 a0_4 a1_0 a1_1 a1_2 a1_3 a1_4 a2_0 a2_1 a2_2) else (stipendlaw13_TaxRises.j0 k (decide (a2_0 < (-50000000000))) l0_0 l0_1 l0_2 a0_3 a0_4 a1_0 a1_1 a1_2 a1_3 a1_4 a2_0 a2_1 a2_2)) else (stipendlaw13_TaxRises.j0 k true l0_0 l0_1 l0_2 a0_3 a0_4 a1_0 a1_1 a1_2 a1_3 a1_4 a2_0 a2_1 a2_2)) = some r := H
   have A11 := A_ A110
   clear A110
   by_cases c12 : t1098 = true
   ·subst c12
    have H1 : (if a2_0 > 50000000000 then (stipendlaw13_TaxRises.j0 k true l0_0 l0_1 l0_2 a0_3 a0_4 a1_0 a1_1 a1_2 a1_3 a1_4 a2_0 a2_1 a2_2) else (stipendlaw13_TaxRises.j0 k (decide (a2_0 < (-50000000000))) l0_0 l0_1 l0_2 a0_3 a0_4 a1_0 a1_1 a1_2 a1_3 a1_4 a2_0 a2_1 a2_2)) = some r := by rw [if_pos rfl] at H; exact H
    clear H
    have H := H1
    clear H1
    by_cases c13 : a2_0 > 50000000000
    ·rw [if_pos c13] at H
     have c13b0 : decide (50000000000 < a2_0) = true := decide_eq_true c13
     clear c13
     (first | rw [c13b0] | (simp only [i64_w, i32_w]; rw [c13b0]) | skip)
     have H' := A_ H
     clear H
     have hnb14 := NB1094_1095.out
     have hnc14 := NB1095_1094.out
     have hnb15 := NB1094_1096.out
     have hnc15 := NB1096_1094.out
     have hcz16_0 := cz_ BK1094 0
     have hcz16_1 := cz_ BK1094 1
     have hcz16_2 := cz_ BK1094 2
     have hcz16_3 := cz_ BK1094 3
     have hcz16_4 := cz_ BK1094 4
     have hfz16_0 := blk_frozen BK1094.out 0
     have hfz16_1 := blk_frozen BK1094.out 1
     have hfz16_2 := blk_frozen BK1094.out 2
     have hfz16_3 := blk_frozen BK1094.out 3
     have hfz16_4 := blk_frozen BK1094.out 4
     have hnb17 := NB1095_1096.out
     have hnc17 := NB1096_1095.out
     have hcz18_0 := cz_ BK1095 0
     have hcz18_1 := cz_ BK1095 1
     have hcz18_2 := cz_ BK1095 2
     have hcz18_3 := cz_ BK1095 3
     have hcz18_4 := cz_ BK1095 4
     have hfz18_0 := blk_frozen BK1095.out 0
     have hfz18_1 := blk_frozen BK1095.out 1
     have hfz18_2 := blk_frozen BK1095.out 2
     have hfz18_3 := blk_frozen BK1095.out 3
     have hfz18_4 := blk_frozen BK1095.out 4
     have hcz19_0 := cz_ BK1096 0
     have hcz19_1 := cz_ BK1096 1
     have hcz19_2 := cz_ BK1096 2
     have hfz19_0 := blk_frozen BK1096.out 0
     have hfz19_1 := blk_frozen BK1096.out 1
     have hfz19_2 := blk_frozen BK1096.out 2
     go_wp2_with (first | ((with_reducible refine gate_callee (f := 78) rfl ?_); refine gm_ (some 28) Try.func78 #[.agg #[.slice A0_0 l0_0.length c0_0, .slice A0_1 l0_1.length c0_1, .slice A0_2 l0_2.length c0_2, .int .i64 a0_3, .int .i64 a0_4], .agg #[.int .i64 a1_0, .int .i64 a1_1, .int .i64 a1_2, .int .i64 a1_3, .bool a1_4], .agg #[.int .i64 a2_1, .int .i64 a2_2]] ?_; (with_reducible refine (stipendlaw13_fits.calls k _ _ l0_0 _ _ l0_1 _ _ l0_2 a0_3 a0_4 a1_0 a1_1 a1_2 a1_3 a1_4 a2_1 a2_2 true _ ?side1 ?side2 ?side3 ?side4 ?side5 ?side6 A11.out).mono ?_); (case side1 => exact cb_ HR0_0 HB); (case side2 => exact HC0_0.out); (case side3 => exact cb_ HR0_1 HB); (case side4 => exact HC0_1.out); (case side5 => exact cb_ HR0_2 HB); (case side6 => exact HC0_2.out); rintro e w20 ⟨rfl, hb⟩; refine ⟨_, rfl, ?_⟩; replace BK1094 := A_ (blk_below (bx_ BK1094) hb); replace BK1095 := A_ (blk_below (bx_ BK1095) hb); replace BK1096 := A_ (blk_below (bx_ BK1096) hb); replace HB := A_ (below_step (bl3_ HB GE1094.out GE1095.out GE1096.out) hb); (try clear hb); (try clear hb2); (try clear hk); (try clear hi); have hcz21_0 := cz_ BK1096 0; have hcz21_1 := cz_ BK1096 1; have hcz21_2 := cz_ BK1096 2; have hfz21_0 := blk_frozen BK1096.out 0; have hfz21_1 := blk_frozen BK1096.out 1; have hfz21_2 := blk_frozen BK1096.out 2))
     go_meet
     case rel => exact ⟨_, (true), (sx_), H', ⟨by first | omega | exact Nat.le_refl _⟩, ⟨bx_ BK1094⟩, ⟨bx_ BK1095⟩, ⟨bx_ BK1096⟩, ⟨bl3_ HB GE1094.out GE1095.out GE1096.out⟩⟩
    ·rw [if_neg c13] at H
     have c13b0 : decide (50000000000 < a2_0) = false := decide_eq_false c13
     clear c13
     (first | rw [c13b0] | (simp only [i64_w, i32_w]; rw [c13b0]) | skip)
     have H' := A_ H
     clear H
     have hnb22 := NB1094_1095.out
     have hnc22 := NB1095_1094.out
     have hnb23 := NB1094_1096.out
     have hnc23 := NB1096_1094.out
     have hcz24_0 := cz_ BK1094 0
     have hcz24_1 := cz_ BK1094 1
     have hcz24_2 := cz_ BK1094 2
     have hcz24_3 := cz_ BK1094 3
     have hcz24_4 := cz_ BK1094 4
     have hfz24_0 := blk_frozen BK1094.out 0
     have hfz24_1 := blk_frozen BK1094.out 1
     have hfz24_2 := blk_frozen BK1094.out 2
     have hfz24_3 := blk_frozen BK1094.out 3
     have hfz24_4 := blk_frozen BK1094.out 4
     have hnb25 := NB1095_1096.out
     have hnc25 := NB1096_1095.out
     have hcz26_0 := cz_ BK1095 0
     have hcz26_1 := cz_ BK1095 1
     have hcz26_2 := cz_ BK1095 2
     have hcz26_3 := cz_ BK1095 3
     have hcz26_4 := cz_ BK1095 4
     have hfz26_0 := blk_frozen BK1095.out 0
     have hfz26_1 := blk_frozen BK1095.out 1
     have hfz26_2 := blk_frozen BK1095.out 2
     have hfz26_3 := blk_frozen BK1095.out 3
     have hfz26_4 := blk_frozen BK1095.out 4
     have hcz27_0 := cz_ BK1096 0
     have hcz27_1 := cz_ BK1096 1
     have hcz27_2 := cz_ BK1096 2
     have hfz27_0 := blk_frozen BK1096.out 0
     have hfz27_1 := blk_frozen BK1096.out 1
     have hfz27_2 := blk_frozen BK1096.out 2
     go_wp2_with (first | ((with_reducible refine gate_callee (f := 78) rfl ?_); refine gm_ (some 28) Try.func78 #[.agg #[.slice A0_0 l0_0.length c0_0, .slice A0_1 l0_1.length c0_1, .slice A0_2 l0_2.length c0_2, .int .i64 a0_3, .int .i64 a0_4], .agg #[.int .i64 a1_0, .int .i64 a1_1, .int .i64 a1_2, .int .i64 a1_3, .bool a1_4], .agg #[.int .i64 a2_1, .int .i64 a2_2]] ?_; (with_reducible refine (stipendlaw13_fits.calls k _ _ l0_0 _ _ l0_1 _ _ l0_2 a0_3 a0_4 a1_0 a1_1 a1_2 a1_3 a1_4 a2_1 a2_2 true _ ?side1 ?side2 ?side3 ?side4 ?side5 ?side6 A11.out).mono ?_); (case side1 => exact cb_ HR0_0 HB); (case side2 => exact HC0_0.out); (case side3 => exact cb_ HR0_1 HB); (case side4 => exact HC0_1.out); (case side5 => exact cb_ HR0_2 HB); (case side6 => exact HC0_2.out); rintro e w28 ⟨rfl, hb⟩; refine ⟨_, rfl, ?_⟩; replace BK1094 := A_ (blk_below (bx_ BK1094) hb); replace BK1095 := A_ (blk_below (bx_ BK1095) hb); replace BK1096 := A_ (blk_below (bx_ BK1096) hb); replace HB := A_ (below_step (bl3_ HB GE1094.out GE1095.out GE1096.out) hb); (try clear hb); (try clear hb2); (try clear hk); (try clear hi); have hcz29_0 := cz_ BK1096 0; have hcz29_1 := cz_ BK1096 1; have hcz29_2 := cz_ BK1096 2; have hfz29_0 := blk_frozen BK1096.out 0; have hfz29_1 := blk_frozen BK1096.out 1; have hfz29_2 := blk_frozen BK1096.out 2))
     go_meet
     case rel => exact ⟨_, (decide (a2_0 < (-50000000000))), (sx_), H', ⟨by first | omega | exact Nat.le_refl _⟩, ⟨bx_ BK1094⟩, ⟨bx_ BK1095⟩, ⟨bx_ BK1096⟩, ⟨bl3_ HB GE1094.out GE1095.out GE1096.out⟩⟩
   ·replace c12 := Bool.eq_false_iff.mpr c12
    subst c12
    have H1 : (stipendlaw13_TaxRises.j0 k true l0_0 l0_1 l0_2 a0_3 a0_4 a1_0 a1_1 a1_2 a1_3 a1_4 a2_0 a2_1 a2_2) = some r := by rw [if_neg (show ¬ (false = true) by decide)] at H; exact H
    clear H
    have H := H1
    clear H1
    have H' := A_ H
    clear H
    have hnb30 := NB1094_1095.out
    have hnc30 := NB1095_1094.out
    have hnb31 := NB1094_1096.out
    have hnc31 := NB1096_1094.out
    have hcz32_0 := cz_ BK1094 0
    have hcz32_1 := cz_ BK1094 1
    have hcz32_2 := cz_ BK1094 2
    have hcz32_3 := cz_ BK1094 3
    have hcz32_4 := cz_ BK1094 4
    have hfz32_0 := blk_frozen BK1094.out 0
    have hfz32_1 := blk_frozen BK1094.out 1
    have hfz32_2 := blk_frozen BK1094.out 2
    have hfz32_3 := blk_frozen BK1094.out 3
    have hfz32_4 := blk_frozen BK1094.out 4
    have hnb33 := NB1095_1096.out
    have hnc33 := NB1096_1095.out
    have hcz34_0 := cz_ BK1095 0
    have hcz34_1 := cz_ BK1095 1
    have hcz34_2 := cz_ BK1095 2
    have hcz34_3 := cz_ BK1095 3
    have hcz34_4 := cz_ BK1095 4
    have hfz34_0 := blk_frozen BK1095.out 0
    have hfz34_1 := blk_frozen BK1095.out 1
    have hfz34_2 := blk_frozen BK1095.out 2
    have hfz34_3 := blk_frozen BK1095.out 3
    have hfz34_4 := blk_frozen BK1095.out 4
    have hcz35_0 := cz_ BK1096 0
    have hcz35_1 := cz_ BK1096 1
    have hcz35_2 := cz_ BK1096 2
    have hfz35_0 := blk_frozen BK1096.out 0
    have hfz35_1 := blk_frozen BK1096.out 1
    have hfz35_2 := blk_frozen BK1096.out 2
    go_wp2_with (first | ((with_reducible refine gate_callee (f := 78) rfl ?_); refine gm_ (some 28) Try.func78 #[.agg #[.slice A0_0 l0_0.length c0_0, .slice A0_1 l0_1.length c0_1, .slice A0_2 l0_2.length c0_2, .int .i64 a0_3, .int .i64 a0_4], .agg #[.int .i64 a1_0, .int .i64 a1_1, .int .i64 a1_2, .int .i64 a1_3, .bool a1_4], .agg #[.int .i64 a2_1, .int .i64 a2_2]] ?_; (with_reducible refine (stipendlaw13_fits.calls k _ _ l0_0 _ _ l0_1 _ _ l0_2 a0_3 a0_4 a1_0 a1_1 a1_2 a1_3 a1_4 a2_1 a2_2 false _ ?side1 ?side2 ?side3 ?side4 ?side5 ?side6 A11.out).mono ?_); (case side1 => exact cb_ HR0_0 HB); (case side2 => exact HC0_0.out); (case side3 => exact cb_ HR0_1 HB); (case side4 => exact HC0_1.out); (case side5 => exact cb_ HR0_2 HB); (case side6 => exact HC0_2.out); rintro e w36 ⟨rfl, hb⟩; refine ⟨_, rfl, ?_⟩; replace BK1094 := A_ (blk_below (bx_ BK1094) hb); replace BK1095 := A_ (blk_below (bx_ BK1095) hb); replace BK1096 := A_ (blk_below (bx_ BK1096) hb); replace HB := A_ (below_step (bl3_ HB GE1094.out GE1095.out GE1096.out) hb); (try clear hb); (try clear hb2); (try clear hk); (try clear hi)))
    go_meet
    case rel => exact ⟨_, (true), (sx_), H', ⟨by first | omega | exact Nat.le_refl _⟩, ⟨bx_ BK1094⟩, ⟨bx_ BK1095⟩, ⟨bx_ BK1096⟩, ⟨bl3_ HB GE1094.out GE1095.out GE1096.out⟩⟩
  case rest =>
   clear HC6
   try clear c1
   try clear c2
   try clear p2
   try clear c3
   try clear c5
   try clear c7
   try clear c12
   try clear c13
   try clear c13b0
   try clear c14
   try clear c15
   try clear c17
   try clear c20
   try clear c22
   try clear c23
   try clear c25
   try clear c30
   try clear c31
   try clear c33
   try clear hcz16_0 hcz16_1 hcz16_2 hcz16_3 hcz16_4
   try clear hcz18_0 hcz18_1 hcz18_2 hcz18_3 hcz18_4
   try clear hcz19_0 hcz19_1 hcz19_2
   try clear hcz21_0 hcz21_1 hcz21_2
   try clear hcz24_0 hcz24_1 hcz24_2 hcz24_3 hcz24_4
   try clear hcz26_0 hcz26_1 hcz26_2 hcz26_3 hcz26_4
   try clear hcz27_0 hcz27_1 hcz27_2
   try clear hcz29_0 hcz29_1 hcz29_2
   try clear hcz32_0 hcz32_1 hcz32_2 hcz32_3 hcz32_4
   try clear hcz34_0 hcz34_1 hcz34_2 hcz34_3 hcz34_4
   try clear hcz35_0 hcz35_1 hcz35_2
   try clear hfz16_0 hfz16_1 hfz16_2 hfz16_3 hfz16_4
   try clear hfz18_0 hfz18_1 hfz18_2 hfz18_3 hfz18_4
   try clear hfz19_0 hfz19_1 hfz19_2
   try clear hfz21_0 hfz21_1 hfz21_2
   try clear hfz24_0 hfz24_1 hfz24_2 hfz24_3 hfz24_4
   try clear hfz26_0 hfz26_1 hfz26_2 hfz26_3 hfz26_4
   try clear hfz27_0 hfz27_1 hfz27_2
   try clear hfz29_0 hfz29_1 hfz29_2
   try clear hfz32_0 hfz32_1 hfz32_2 hfz32_3 hfz32_4
   try clear hfz34_0 hfz34_1 hfz34_2 hfz34_3 hfz34_4
   try clear hfz35_0 hfz35_1 hfz35_2
   obtain ⟨kq, x39_5, rfl, HA, HJ5, BK1094, BK1095, BK1096, HB⟩ := hcut
   cases kq with
   | zero => exact absurd HA.out (by simp [stipendlaw13_TaxRises.j0])
   | succ kj5 =>
    have H := HA.out
    clear HA
    simp only [stipendlaw13_TaxRises.j0] at H
    by_cases c37 : x39_5 = true
    ·subst c37
     have H1 : (some true) = some r := by rw [if_pos rfl] at H; exact H
     clear H
     have H := H1
     clear H1
     obtain rfl := Option.some.inj H
     go_wp2
     go_ret
     exact ⟨er_, bl3_ HB GE1094.out GE1095.out GE1096.out⟩
    ·replace c37 := Bool.eq_false_iff.mpr c37
     subst c37
     have H1 : ((tax_Rate.f kj5 l0_0 l0_1 l0_2 a0_3 a0_4 a1_0 a1_1 a1_2 a1_3 a1_4 a2_0 a2_1 a2_2).bind fun bt1099 => (if bt1099.2 = 0 then (stipendlaw13_TaxRises.j1 kj5 bt1099.1 (decide (bt1099.1 < 0)) l0_0 l0_1 l0_2 a0_3 a0_4 a1_0 a1_1 a1_2 a1_3 a1_4 a2_0 a2_1 a2_2) else (stipendlaw13_TaxRises.j1 kj5 bt1099.1 true l0_0 l0_1 l0_2 a0_3 a0_4 a1_0 a1_1 a1_2 a1_3 a1_4 a2_0 a2_1 a2_2))) = some r := by rw [if_neg (show ¬ (false = true) by decide)] at H; exact H
     clear H
     have H := H1
     clear H1
     replace H := Option.bind_eq_some_iff.mp H
     obtain ⟨⟨t1099, t1100⟩, A380, H⟩ := H
     replace H : (if t1100 = 0 then (stipendlaw13_TaxRises.j1 kj5 t1099 (decide (t1099 < 0)) l0_0 l0_1 l0_2 a0_3 a0_4 a1_0 a1_1 a1_2 a1_3 a1_4 a2_0 a2_1 a2_2) else (stipendlaw13_TaxRises.j1 kj5 t1099 true l0_0 l0_1 l0_2 a0_3 a0_4 a1_0 a1_1 a1_2 a1_3 a1_4 a2_0 a2_1 a2_2)) = some r := H
     have A38 := A_ A380
     clear A380
     have HC39 := A_ H
     clear H
     have hnb40 := NB1094_1095.out
     have hnc40 := NB1095_1094.out
     have hnb41 := NB1094_1096.out
     have hnc41 := NB1096_1094.out
     have hcz42_0 := cz_ BK1094 0
     have hcz42_1 := cz_ BK1094 1
     have hcz42_2 := cz_ BK1094 2
     have hcz42_3 := cz_ BK1094 3
     have hcz42_4 := cz_ BK1094 4
     have hfz42_0 := blk_frozen BK1094.out 0
     have hfz42_1 := blk_frozen BK1094.out 1
     have hfz42_2 := blk_frozen BK1094.out 2
     have hfz42_3 := blk_frozen BK1094.out 3
     have hfz42_4 := blk_frozen BK1094.out 4
     have hnb43 := NB1095_1096.out
     have hnc43 := NB1096_1095.out
     have hcz44_0 := cz_ BK1095 0
     have hcz44_1 := cz_ BK1095 1
     have hcz44_2 := cz_ BK1095 2
     have hcz44_3 := cz_ BK1095 3
     have hcz44_4 := cz_ BK1095 4
     have hfz44_0 := blk_frozen BK1095.out 0
     have hfz44_1 := blk_frozen BK1095.out 1
     have hfz44_2 := blk_frozen BK1095.out 2
     have hfz44_3 := blk_frozen BK1095.out 3
     have hfz44_4 := blk_frozen BK1095.out 4
     have hcz45_0 := cz_ BK1096 0
     have hcz45_1 := cz_ BK1096 1
     have hcz45_2 := cz_ BK1096 2
     have hfz45_0 := blk_frozen BK1096.out 0
     have hfz45_1 := blk_frozen BK1096.out 1
     have hfz45_2 := blk_frozen BK1096.out 2
     go_upto_region 6 with (first | ((with_reducible refine gate_callee (f := 85) rfl ?_); refine gm_ (some 49) Try.func85 #[.agg #[.slice A0_0 l0_0.length c0_0, .slice A0_1 l0_1.length c0_1, .slice A0_2 l0_2.length c0_2, .int .i64 a0_3, .int .i64 a0_4], .agg #[.int .i64 a1_0, .int .i64 a1_1, .int .i64 a1_2, .int .i64 a1_3, .bool a1_4], .int .i64 a2_0, .int .i64 a2_1, .int .i64 a2_2] ?_; (with_reducible refine (tax_Rate.calls kj5 _ _ l0_0 _ _ l0_1 _ _ l0_2 a0_3 a0_4 a1_0 a1_1 a1_2 a1_3 a1_4 a2_0 a2_1 a2_2 t1099 t1100 _ ?side1 ?side2 ?side3 ?side4 ?side5 ?side6 A38.out).mono ?_); (case side1 => exact cb_ HR0_0 HB); (case side2 => exact HC0_0.out); (case side3 => exact cb_ HR0_1 HB); (case side4 => exact HC0_1.out); (case side5 => exact cb_ HR0_2 HB); (case side6 => exact HC0_2.out); rintro e w46 ⟨rfl, hb⟩; refine ⟨_, rfl, ?_⟩; replace BK1094 := A_ (blk_below (bx_ BK1094) hb); replace BK1095 := A_ (blk_below (bx_ BK1095) hb); replace BK1096 := A_ (blk_below (bx_ BK1096) hb); replace HB := A_ (below_step (bl3_ HB GE1094.out GE1095.out GE1096.out) hb); (try clear hb); (try clear hb2); (try clear hk); (try clear hi)))
     (try simp only [Act.put, List.setIfInBounds_toArray, List.set_cons_zero, List.set_cons_succ])
     go_cut [57] (fun v57 wc => ∃ (kq : Nat) (x57_38 : Bool), v57 = .bool x57_38 ∧ Aside0 (stipendlaw13_TaxRises.j1 kq t1099 x57_38 l0_0 l0_1 l0_2 a0_3 a0_4 a1_0 a1_1 a1_2 a1_3 a1_4 a2_0 a2_1 a2_2 = some r) ∧ Aside0 (kq ≤ kj5) ∧ Aside0 (wc.heap[gb1094]? = some (.cells #[(.slice A0_0 l0_0.length c0_0), (.slice A0_1 l0_1.length c0_1), (.slice A0_2 l0_2.length c0_2), .int .i64 a0_3, .int .i64 a0_4] 56 (0, 0))) ∧ Aside0 (wc.heap[gb1095]? = some (.cells #[.int .i64 a1_0, .int .i64 a1_1, .int .i64 a1_2, .int .i64 a1_3, .bool a1_4] 88 (0, 0))) ∧ Aside0 (wc.heap[gb1096]? = some (.cells #[.int .i64 a2_0, .int .i64 a2_1, .int .i64 a2_2] 135 (0, 0))) ∧ Aside0 (Below w.heap.size w wc))
     case first =>
      have H := HC39.out
      clear HC39
      by_cases c47 : t1100 = 0
      ·rw [if_pos c47] at H
       have c47b0 : (t1100 == 0) = true := beq_iff_eq.mpr c47
       have c47b1 : (t1100 != 0) = false := bne_eq_false_iff_eq.mpr c47
       clear c47
       (first | rw [c47b0] | (simp only [i64_w, i32_w]; rw [c47b0]) | skip)
       have H' := A_ H
       clear H
       go_wp2
       go_meet
       case rel => exact ⟨_, (decide (t1099 < 0)), (sx_), H', ⟨by have := HJ5.out; first | omega | exact Nat.le_refl _⟩, ⟨bx_ BK1094⟩, ⟨bx_ BK1095⟩, ⟨bx_ BK1096⟩, ⟨bl3_ HB GE1094.out GE1095.out GE1096.out⟩⟩
      ·rw [if_neg c47] at H
       have c47b0 : (t1100 == 0) = false := beq_eq_false_iff_ne.mpr c47
       have c47b1 : (t1100 != 0) = true := bne_iff_ne.mpr c47
       (first | rw [c47b0] | (simp only [i64_w, i32_w]; rw [c47b0]) | skip)
       have H' := A_ H
       clear H
       go_wp2
       go_meet
       case rel => exact ⟨_, (true), (sx_), H', ⟨by have := HJ5.out; first | omega | exact Nat.le_refl _⟩, ⟨bx_ BK1094⟩, ⟨bx_ BK1095⟩, ⟨bx_ BK1096⟩, ⟨bl3_ HB GE1094.out GE1095.out GE1096.out⟩⟩
     case rest =>
      clear HC39
      try clear c1
      try clear c2
      try clear p2
      try clear c3
      try clear c4
      try clear c5
      try clear c7
      try clear c8
      try clear c12
      try clear c13
      try clear c13b0
      try clear c14
      try clear c15
      try clear c17
      try clear c20
      try clear c22
      try clear c23
      try clear c25
      try clear c30
      try clear c31
      try clear c33
      try clear c37
      try clear c40
      try clear c41
      try clear c43
      try clear c47
      try clear c47b0
      try clear c47b1
      try clear hcz16_0 hcz16_1 hcz16_2 hcz16_3 hcz16_4
      try clear hcz18_0 hcz18_1 hcz18_2 hcz18_3 hcz18_4
      try clear hcz19_0 hcz19_1 hcz19_2
      try clear hcz21_0 hcz21_1 hcz21_2
      try clear hcz24_0 hcz24_1 hcz24_2 hcz24_3 hcz24_4
      try clear hcz26_0 hcz26_1 hcz26_2 hcz26_3 hcz26_4
      try clear hcz27_0 hcz27_1 hcz27_2
      try clear hcz29_0 hcz29_1 hcz29_2
      try clear hcz32_0 hcz32_1 hcz32_2 hcz32_3 hcz32_4
      try clear hcz34_0 hcz34_1 hcz34_2 hcz34_3 hcz34_4
      try clear hcz35_0 hcz35_1 hcz35_2
      try clear hcz42_0 hcz42_1 hcz42_2 hcz42_3 hcz42_4
      try clear hcz44_0 hcz44_1 hcz44_2 hcz44_3 hcz44_4
      try clear hcz45_0 hcz45_1 hcz45_2
      try clear hfz16_0 hfz16_1 hfz16_2 hfz16_3 hfz16_4
      try clear hfz18_0 hfz18_1 hfz18_2 hfz18_3 hfz18_4
      try clear hfz19_0 hfz19_1 hfz19_2
      try clear hfz21_0 hfz21_1 hfz21_2
      try clear hfz24_0 hfz24_1 hfz24_2 hfz24_3 hfz24_4
      try clear hfz26_0 hfz26_1 hfz26_2 hfz26_3 hfz26_4
      try clear hfz27_0 hfz27_1 hfz27_2
      try clear hfz29_0 hfz29_1 hfz29_2
      try clear hfz32_0 hfz32_1 hfz32_2 hfz32_3 hfz32_4
      try clear hfz34_0 hfz34_1 hfz34_2 hfz34_3 hfz34_4
      try clear hfz35_0 hfz35_1 hfz35_2
      try clear hfz42_0 hfz42_1 hfz42_2 hfz42_3 hfz42_4
      try clear hfz44_0 hfz44_1 hfz44_2 hfz44_3 hfz44_4
      try clear hfz45_0 hfz45_1 hfz45_2
      try clear p2
      obtain ⟨kq, x57_38, rfl, HA, HJ38, BK1094, BK1095, BK1096, HB⟩ := hcut
      cases kq with
      | zero => exact absurd HA.out (by simp [stipendlaw13_TaxRises.j1])
      | succ kj38 =>
       have H := HA.out
       clear HA
       simp only [stipendlaw13_TaxRises.j1] at H
       by_cases c48 : x57_38 = true
       ·subst c48
        have H1 : (none) = some r := by rw [if_pos rfl] at H; exact H
        clear H
        have H := H1
        clear H1
        exact absurd H (by simp)
       ·replace c48 := Bool.eq_false_iff.mpr c48
        subst c48
        have H1 : (if 0 ≤ a1_0 then (if a1_0 < (l0_0.length : Int) then (stipendlaw13_TaxRises.l0 kj38 t1099 0 (rd_L3 l0_0 a1_0) ((rd_L3 l0_0 a1_0).length : Int) 0 l0_0 l0_1 l0_2 a0_3 a0_4 a1_0 a1_1 a1_2 a1_3 a1_4 a2_0 a2_1 a2_2) else (none)) else (none)) = some r := by rw [if_neg (show ¬ (false = true) by decide)] at H; exact H
        clear H
        have H := H1
        clear H1
        by_cases c49 : 0 ≤ a1_0
        ·rw [if_pos c49] at H
         have c49b0 : decide (0 ≤ a1_0) = true := decide_eq_true c49
         clear c49
         by_cases c50 : a1_0 < (l0_0.length : Int)
         ·rw [if_pos c50] at H
          have c50b0 : decide (a1_0 < (l0_0.length : Int)) = true := decide_eq_true c50
          clear c50
          have H' := A_ H
          clear H
          have hnb51 := NB1094_1095.out
          have hnc51 := NB1095_1094.out
          have hnb52 := NB1094_1096.out
          have hnc52 := NB1096_1094.out
          have hcz53_0 := cz_ BK1094 0
          have hcz53_1 := cz_ BK1094 1
          have hcz53_2 := cz_ BK1094 2
          have hcz53_3 := cz_ BK1094 3
          have hcz53_4 := cz_ BK1094 4
          have hfz53_0 := blk_frozen BK1094.out 0
          have hfz53_1 := blk_frozen BK1094.out 1
          have hfz53_2 := blk_frozen BK1094.out 2
          have hfz53_3 := blk_frozen BK1094.out 3
          have hfz53_4 := blk_frozen BK1094.out 4
          have hnb54 := NB1095_1096.out
          have hnc54 := NB1096_1095.out
          have hcz55_0 := cz_ BK1095 0
          have hcz55_1 := cz_ BK1095 1
          have hcz55_2 := cz_ BK1095 2
          have hcz55_3 := cz_ BK1095 3
          have hcz55_4 := cz_ BK1095 4
          have hfz55_0 := blk_frozen BK1095.out 0
          have hfz55_1 := blk_frozen BK1095.out 1
          have hfz55_2 := blk_frozen BK1095.out 2
          have hfz55_3 := blk_frozen BK1095.out 3
          have hfz55_4 := blk_frozen BK1095.out 4
          have p1101 : 0 ≤ (a1_0 : Int) := of_decide_eq_true (by first | (with_reducible assumption) | assumption)
          have q1101 : a1_0 < (l0_0.length : Int) := of_decide_eq_true (by first | (with_reducible assumption) | assumption)
          obtain ⟨ad1101, A1101_0, c1101_0, e1101, hx1101_0, hl1101_0, hi1101_0⟩ := at_L3 HR0_0.out a1_0 p1101 q1101
          cases e1101
          replace hx1101_0 := (HB.out.cell (World.block_lt_of_cell? w _ hx1101_0)).trans hx1101_0
          have HR1101_0 := A_ hi1101_0
          have HC1101_0 := A_ hl1101_0
          clear hi1101_0 hl1101_0
          replace p1101 := eq_true p1101
          replace q1101 := eq_true q1101
          go_wp2
          go_loopg [9, 65] kj38 (fun kq v9 v65 w' => ∃ (x9_3 : Int) (x65_3 : Int), v9 = .int .i64 x9_3 ∧ v65 = .int .i64 x65_3 ∧ Aside0 (stipendlaw13_TaxRises.l0 kq t1099 x9_3 (rd_L3 l0_0 a1_0) ((rd_L3 l0_0 a1_0).length : Int) x65_3 l0_0 l0_1 l0_2 a0_3 a0_4 a1_0 a1_1 a1_2 a1_3 a1_4 a2_0 a2_1 a2_2 = some r) ∧ Aside0 (kq ≤ kj38) ∧ Aside0 (w'.heap[gb1094]? = some (.cells #[(.slice (some ad1101) l0_0.length c0_0), (.slice A0_1 l0_1.length c0_1), (.slice A0_2 l0_2.length c0_2), .int .i64 a0_3, .int .i64 a0_4] 56 (0, 0))) ∧ Aside0 (w'.heap[gb1095]? = some (.cells #[.int .i64 a1_0, .int .i64 a1_1, .int .i64 a1_2, .int .i64 a1_3, .bool a1_4] 88 (0, 0))) ∧ Aside0 (w'.heap[gb1096]? = some (.cells #[.int .i64 a2_0, .int .i64 a2_1, .int .i64 a2_2] 135 (0, 0))) ∧ Aside0 (Below w.heap.size w w'))
          case atStart => exact ⟨(0), (0), (sx_), (sx_), H', ⟨Nat.le_refl _⟩, ⟨bx_ BK1094⟩, ⟨bx_ BK1095⟩, ⟨bx_ BK1096⟩, ⟨bl3_ HB GE1094.out GE1095.out GE1096.out⟩⟩
          case round =>
           clear H'
           try clear c1
           try clear p1
           try clear q1
           try clear hx1
           try clear c2
           try clear p2
           try clear c3
           try clear c4
           try clear c5
           try clear c7
           try clear c8
           try clear c11
           try clear p11
           try clear q11
           try clear hx11
           try clear c12
           try clear c13
           try clear c13b0
           try clear c14
           try clear c15
           try clear c17
           try clear c20
           try clear c22
           try clear c23
           try clear c25
           try clear c30
           try clear c31
           try clear c33
           try clear c37
           try clear c40
           try clear c41
           try clear c43
           try clear c47
           try clear c47b0
           try clear c47b1
           try clear c48
           try clear c49
           try clear c49b0
           try clear c50
           try clear c50b0
           try clear c51
           try clear c52
           try clear c54
           try clear hcz16_0 hcz16_1 hcz16_2 hcz16_3 hcz16_4
           try clear hcz18_0 hcz18_1 hcz18_2 hcz18_3 hcz18_4
           try clear hcz19_0 hcz19_1 hcz19_2
           try clear hcz21_0 hcz21_1 hcz21_2
           try clear hcz24_0 hcz24_1 hcz24_2 hcz24_3 hcz24_4
           try clear hcz26_0 hcz26_1 hcz26_2 hcz26_3 hcz26_4
           try clear hcz27_0 hcz27_1 hcz27_2
           try clear hcz29_0 hcz29_1 hcz29_2
           try clear hcz32_0 hcz32_1 hcz32_2 hcz32_3 hcz32_4
           try clear hcz34_0 hcz34_1 hcz34_2 hcz34_3 hcz34_4
           try clear hcz35_0 hcz35_1 hcz35_2
           try clear hcz42_0 hcz42_1 hcz42_2 hcz42_3 hcz42_4
           try clear hcz44_0 hcz44_1 hcz44_2 hcz44_3 hcz44_4
           try clear hcz45_0 hcz45_1 hcz45_2
           try clear hcz53_0 hcz53_1 hcz53_2 hcz53_3 hcz53_4
           try clear hcz55_0 hcz55_1 hcz55_2 hcz55_3 hcz55_4
           try clear hfz16_0 hfz16_1 hfz16_2 hfz16_3 hfz16_4
           try clear hfz18_0 hfz18_1 hfz18_2 hfz18_3 hfz18_4
           try clear hfz19_0 hfz19_1 hfz19_2
           try clear hfz21_0 hfz21_1 hfz21_2
           try clear hfz24_0 hfz24_1 hfz24_2 hfz24_3 hfz24_4
           try clear hfz26_0 hfz26_1 hfz26_2 hfz26_3 hfz26_4
           try clear hfz27_0 hfz27_1 hfz27_2
           try clear hfz29_0 hfz29_1 hfz29_2
           try clear hfz32_0 hfz32_1 hfz32_2 hfz32_3 hfz32_4
           try clear hfz34_0 hfz34_1 hfz34_2 hfz34_3 hfz34_4
           try clear hfz35_0 hfz35_1 hfz35_2
           try clear hfz42_0 hfz42_1 hfz42_2 hfz42_3 hfz42_4
           try clear hfz44_0 hfz44_1 hfz44_2 hfz44_3 hfz44_4
           try clear hfz45_0 hfz45_1 hfz45_2
           try clear hfz53_0 hfz53_1 hfz53_2 hfz53_3 hfz53_4
           try clear hfz55_0 hfz55_1 hfz55_2 hfz55_3 hfz55_4
           try clear hx1101_0
           try clear p1101
           try clear p2
           try clear q1101
           obtain ⟨x9_3, x65_3, rfl, rfl, HA, HK3, BK1094, BK1095, BK1096, HB⟩ := hrel
           cases gk with
           | zero => exact absurd HA.out (by simp [stipendlaw13_TaxRises.l0])
           | succ k3 =>
            have H := HA.out
            clear HA
            simp only [stipendlaw13_TaxRises.l0] at H
            by_cases c56 : x65_3 < ((rd_L3 l0_0 a1_0).length : Int)
            ·rw [if_pos c56] at H
             have c56b0 : decide (x65_3 < ((rd_L3 l0_0 a1_0).length : Int)) = true := decide_eq_true c56
             clear c56
             by_cases c57 : 0 ≤ x65_3
             ·rw [if_pos c57] at H
              have c57b0 : decide (0 ≤ x65_3) = true := decide_eq_true c57
              clear c57
              by_cases c58 : x65_3 < ((rd_L3 l0_0 a1_0).length : Int)
              ·rw [if_pos c58] at H
               have c58b0 : decide (x65_3 < ((rd_L3 l0_0 a1_0).length : Int)) = true := decide_eq_true c58
               clear c58
               obtain ⟨ji59, hji59⟩ : ∃ j_ : Int, (mx x9_3 ((rd_T106 (rd_L3 l0_0 a1_0) x65_3).f1)) = j_ := ⟨_, rfl⟩
               replace H : (stipendlaw13_TaxRises.l0 k3 t1099 ji59 (rd_L3 l0_0 a1_0) ((rd_L3 l0_0 a1_0).length : Int) (wrap64 (x65_3 + 1)) l0_0 l0_1 l0_2 a0_3 a0_4 a1_0 a1_1 a1_2 a1_3 a1_4 a2_0 a2_1 a2_2) = some r := by first | (rw [hji59] at H; exact H) | (simp only [hji59] at H ⊢; exact H)
               have hji59_ : (if x9_3 < ((rd_T106 (rd_L3 l0_0 a1_0) x65_3).f1) then ((rd_T106 (rd_L3 l0_0 a1_0) x65_3).f1) else x9_3) = ji59 := hji59
               have H' := A_ H
               clear H
               have p1102 : 0 ≤ (x65_3 : Int) := of_decide_eq_true (by first | (with_reducible assumption) | assumption)
               have q1102 : x65_3 < ((rd_L3 l0_0 a1_0).length : Int) := of_decide_eq_true (by first | (with_reducible assumption) | assumption)
               obtain ⟨ad1102, e1102, hx1102_0, hx1102_1, hx1102_2⟩ := at_T106 HR1101_0.out x65_3 p1102 q1102
               cases e1102
               replace hx1102_0 := (HB.out.cell (World.block_lt_of_cell? w _ hx1102_0)).trans hx1102_0
               replace hx1102_1 := (HB.out.cell (World.block_lt_of_cell? w _ hx1102_1)).trans hx1102_1
               replace hx1102_2 := (HB.out.cell (World.block_lt_of_cell? w _ hx1102_2)).trans hx1102_2
               replace p1102 := eq_true p1102
               replace q1102 := eq_true q1102
               go_wp2_with (first | ((with_reducible refine gate_dst (N := 11) rfl ?_); refine be_ (N := 11) (cs := #[.int .i64 0, .int .i64 0, .int .i64 0]) (t := 106) ?_; intro gb1103 hg w60 hbox hb; have BK1103 := A_ (hbox); have GW1103 := A_ ((by rw [hg]; exact (below_size (bl3_ HB GE1094.out GE1095.out GE1096.out)) : w.heap.size ≤ gb1103)); have GE1103 := A_ ((by rw [hg]; exact (below_size (bl3_ HB GE1094.out GE1095.out GE1096.out)) : w.heap.size ≤ gb1103)); have NB1094_1103 := A_ ((by rw [hg]; exact Nat.ne_of_lt (blk_lt (bx_ BK1094)) : gb1094 ≠ gb1103)); have NB1103_1094 := A_ ((by rw [hg]; exact Nat.ne_of_gt (blk_lt (bx_ BK1094)) : gb1103 ≠ gb1094)); have NB1095_1103 := A_ ((by rw [hg]; exact Nat.ne_of_lt (blk_lt (bx_ BK1095)) : gb1095 ≠ gb1103)); have NB1103_1095 := A_ ((by rw [hg]; exact Nat.ne_of_gt (blk_lt (bx_ BK1095)) : gb1103 ≠ gb1095)); have NB1096_1103 := A_ ((by rw [hg]; exact Nat.ne_of_lt (blk_lt (bx_ BK1096)) : gb1096 ≠ gb1103)); have NB1103_1096 := A_ ((by rw [hg]; exact Nat.ne_of_gt (blk_lt (bx_ BK1096)) : gb1103 ≠ gb1096)); replace BK1094 := A_ (blk_below (bx_ BK1094) hb); replace BK1095 := A_ (blk_below (bx_ BK1095) hb); replace BK1096 := A_ (blk_below (bx_ BK1096) hb); replace HB := A_ (below_step (bl3_ HB GE1094.out GE1095.out GE1096.out) hb); clear hb hbox hg; have hnb61 := NB1103_1094.out; have hnc61 := NB1094_1103.out; have hnb62 := NB1103_1095.out; have hnc62 := NB1095_1103.out; have hnb63 := NB1103_1096.out; have hnc63 := NB1096_1103.out; have hcz64_0 := cz_ BK1103 0; have hcz64_1 := cz_ BK1103 1; have hcz64_2 := cz_ BK1103 2; have hfz64_0 := blk_frozen BK1103.out 0; have hfz64_1 := blk_frozen BK1103.out 1; have hfz64_2 := blk_frozen BK1103.out 2))
               go_roundg k3
               case measure => have := HJ5.out; have := HJ38.out; have := HK3.out; omega
               case rel => exact ⟨(ji59), (wrap64 (x65_3 + 1)), (by first | rfl | (simp; done) | (simp only [← hji59] <;> (first | rfl | simp)) | (simp [*]; done)), (sx_), H', ⟨by have := HJ5.out; have := HJ38.out; have := HK3.out; omega⟩, ⟨by refine bw_ ?_; refine blk_far ?_ NB1094_1103.out _; refine bw_ ?_; refine blk_far ?_ NB1094_1103.out _; refine bw_ ?_; refine blk_far ?_ NB1094_1103.out _; refine bw_ ?_; exact BK1094.out⟩, ⟨by refine bw_ ?_; refine blk_far ?_ NB1095_1103.out _; refine bw_ ?_; refine blk_far ?_ NB1095_1103.out _; refine bw_ ?_; refine blk_far ?_ NB1095_1103.out _; refine bw_ ?_; exact BK1095.out⟩, ⟨by refine bw_ ?_; refine blk_far ?_ NB1096_1103.out _; refine bw_ ?_; refine blk_far ?_ NB1096_1103.out _; refine bw_ ?_; refine blk_far ?_ NB1096_1103.out _; refine bw_ ?_; exact BK1096.out⟩, ⟨bl4_ HB GE1094.out GE1095.out GE1096.out GE1103.out⟩⟩
              ·rw [if_neg c58] at H
               exact absurd H (by simp)
             ·rw [if_neg c57] at H
              exact absurd H (by simp)
            ·rw [if_neg c56] at H
             have c56b0 : decide (x65_3 < ((rd_L3 l0_0 a1_0).length : Int)) = false := decide_eq_false c56
             clear c56
             by_cases c65 : t1099 > x9_3
             ·rw [if_pos c65] at H
              exact absurd H (by simp)
             ·rw [if_neg c65] at H
              have c65b0 : decide (x9_3 < t1099) = false := decide_eq_false c65
              clear c65
              replace H := Option.bind_eq_some_iff.mp H
              obtain ⟨⟨t1104, t1105⟩, A660, H⟩ := H
              replace H : ((tax_Corners.f k3 l0_0 l0_1 l0_2 a0_3 a0_4 a1_0 a1_1 a1_2 a1_3 a1_4 a2_1 a2_2).bind fun bt1106 => (stipendlaw13_TaxRises.l1 k3 t1099 t1104 bt1106.1 false bt1106.1 (bt1106.1.length : Int) 0 a2_0 a2_1 a2_2)) = some r := H
              have A66 := A_ A660
              clear A660
              replace H := Option.bind_eq_some_iff.mp H
              obtain ⟨⟨t1106, t1109⟩, A670, H⟩ := H
              replace H : (stipendlaw13_TaxRises.l1 k3 t1099 t1104 t1106 false t1106 (t1106.length : Int) 0 a2_0 a2_1 a2_2) = some r := H
              have A67 := A_ A670
              clear A670
              have H' := A_ H
              clear H
              have hnb68 := NB1094_1095.out
              have hnc68 := NB1095_1094.out
              have hnb69 := NB1094_1096.out
              have hnc69 := NB1096_1094.out
              have hcz70_0 := cz_ BK1094 0
              have hcz70_1 := cz_ BK1094 1
              have hcz70_2 := cz_ BK1094 2
              have hcz70_3 := cz_ BK1094 3
              have hcz70_4 := cz_ BK1094 4
              have hfz70_0 := blk_frozen BK1094.out 0
              have hfz70_1 := blk_frozen BK1094.out 1
              have hfz70_2 := blk_frozen BK1094.out 2
              have hfz70_3 := blk_frozen BK1094.out 3
              have hfz70_4 := blk_frozen BK1094.out 4
              have hnb71 := NB1095_1096.out
              have hnc71 := NB1096_1095.out
              have hcz72_0 := cz_ BK1095 0
              have hcz72_1 := cz_ BK1095 1
              have hcz72_2 := cz_ BK1095 2
              have hcz72_3 := cz_ BK1095 3
              have hcz72_4 := cz_ BK1095 4
              have hfz72_0 := blk_frozen BK1095.out 0
              have hfz72_1 := blk_frozen BK1095.out 1
              have hfz72_2 := blk_frozen BK1095.out 2
              have hfz72_3 := blk_frozen BK1095.out 3
              have hfz72_4 := blk_frozen BK1095.out 4
              have hcz73_0 := cz_ BK1096 0
              have hcz73_1 := cz_ BK1096 1
              have hcz73_2 := cz_ BK1096 2
              have hfz73_0 := blk_frozen BK1096.out 0
              have hfz73_1 := blk_frozen BK1096.out 1
              have hfz73_2 := blk_frozen BK1096.out 2
              go_wp2_with (first | ((with_reducible refine gate_callee (f := 85) rfl ?_); refine gm_ (some 87) Try.func85 #[.agg #[.slice (some ad1101) l0_0.length c0_0, .slice A0_1 l0_1.length c0_1, .slice A0_2 l0_2.length c0_2, .int .i64 a0_3, .int .i64 a0_4], .agg #[.int .i64 a1_0, .int .i64 a1_1, .int .i64 a1_2, .int .i64 a1_3, .bool a1_4], .int .i64 (wrap64 (a2_0 - 1)), .int .i64 a2_1, .int .i64 a2_2] ?_; (with_reducible refine (tax_Rate.calls k3 _ _ l0_0 _ _ l0_1 _ _ l0_2 a0_3 a0_4 a1_0 a1_1 a1_2 a1_3 a1_4 (wrap64 (a2_0 - 1)) a2_1 a2_2 t1104 t1105 _ ?side1 ?side2 ?side3 ?side4 ?side5 ?side6 A66.out).mono ?_); (case side1 => exact cb_ HR0_0 HB); (case side2 => exact HC0_0.out); (case side3 => exact cb_ HR0_1 HB); (case side4 => exact HC0_1.out); (case side5 => exact cb_ HR0_2 HB); (case side6 => exact HC0_2.out); rintro e w74 ⟨rfl, hb⟩; refine ⟨_, rfl, ?_⟩; replace BK1094 := A_ (blk_below (bx_ BK1094) hb); replace BK1095 := A_ (blk_below (bx_ BK1095) hb); replace BK1096 := A_ (blk_below (bx_ BK1096) hb); replace HB := A_ (below_step (bl3_ HB GE1094.out GE1095.out GE1096.out) hb); (try clear hb); (try clear hb2); (try clear hk); (try clear hi); have hcz75_0 := cz_ BK1094 0; have hcz75_1 := cz_ BK1094 1; have hcz75_2 := cz_ BK1094 2; have hcz75_3 := cz_ BK1094 3; have hcz75_4 := cz_ BK1094 4; have hfz75_0 := blk_frozen BK1094.out 0; have hfz75_1 := blk_frozen BK1094.out 1; have hfz75_2 := blk_frozen BK1094.out 2; have hfz75_3 := blk_frozen BK1094.out 3; have hfz75_4 := blk_frozen BK1094.out 4; have hcz76_0 := cz_ BK1095 0; have hcz76_1 := cz_ BK1095 1; have hcz76_2 := cz_ BK1095 2; have hcz76_3 := cz_ BK1095 3; have hcz76_4 := cz_ BK1095 4; have hfz76_0 := blk_frozen BK1095.out 0; have hfz76_1 := blk_frozen BK1095.out 1; have hfz76_2 := blk_frozen BK1095.out 2; have hfz76_3 := blk_frozen BK1095.out 3; have hfz76_4 := blk_frozen BK1095.out 4; have hcz77_0 := cz_ BK1096 0; have hcz77_1 := cz_ BK1096 1; have hcz77_2 := cz_ BK1096 2; have hfz77_0 := blk_frozen BK1096.out 0; have hfz77_1 := blk_frozen BK1096.out 1; have hfz77_2 := blk_frozen BK1096.out 2) | ((with_reducible refine gate_callee (f := 84) rfl ?_); refine gm_ (some 97) Try.func84 #[.agg #[.slice (some ad1101) l0_0.length c0_0, .slice A0_1 l0_1.length c0_1, .slice A0_2 l0_2.length c0_2, .int .i64 a0_3, .int .i64 a0_4], .agg #[.int .i64 a1_0, .int .i64 a1_1, .int .i64 a1_2, .int .i64 a1_3, .bool a1_4], .int .i64 a2_1, .int .i64 a2_2] ?_; (with_reducible refine (tax_Corners.calls k3 _ _ l0_0 _ _ l0_1 _ _ l0_2 a0_3 a0_4 a1_0 a1_1 a1_2 a1_3 a1_4 a2_1 a2_2 t1106 t1109 _ ?side1 ?side2 ?side3 ?side4 ?side5 ?side6 A67.out).mono ?_); (case side1 => exact cb_ HR0_0 HB); (case side2 => exact HC0_0.out); (case side3 => exact cb_ HR0_1 HB); (case side4 => exact HC0_1.out); (case side5 => exact cb_ HR0_2 HB); (case side6 => exact HC0_2.out); rintro e w78 ⟨v1107, rfl, ho0, hb⟩; refine ⟨_, rfl, ?_⟩; have HO1108 := A_ (Kd.R_lower ho0 (below_size (bl3_ HB GE1094.out GE1095.out GE1096.out))); replace BK1094 := A_ (blk_below (bx_ BK1094) hb); replace BK1095 := A_ (blk_below (bx_ BK1095) hb); replace BK1096 := A_ (blk_below (bx_ BK1096) hb); replace HB := A_ (below_step (bl3_ HB GE1094.out GE1095.out GE1096.out) hb); (try clear hb); (try clear hb2); (try clear hk); (try clear hi); (try clear ho0); obtain ⟨Ao79, co79, eo79⟩ := Kd.R_slice HO1108.out; subst eo79))
              go_loopg [16, 102] k3 (fun kq v16 v102 w' => ∃ (x16_4 : Bool) (x102_4 : Int), v16 = .bool x16_4 ∧ v102 = .int .i64 x102_4 ∧ Aside0 (stipendlaw13_TaxRises.l1 kq t1099 t1104 t1106 x16_4 t1106 (t1106.length : Int) x102_4 a2_0 a2_1 a2_2 = some r) ∧ Aside0 (kq ≤ k3) ∧ Aside0 (Kd.R (Kd.int .i64) 2 w' w.heap.size (fun _ => True) (.slice Ao79 t1106.length co79) t1106) ∧ Aside0 (Kd.R (Kd.int .i64) 2 w' w.heap.size (fun _ => True) (.slice Ao79 t1106.length co79) t1106) ∧ Aside0 (w'.heap[gb1094]? = some (.cells #[(.slice (some ad1101) l0_0.length c0_0), (.slice A0_1 l0_1.length c0_1), (.slice A0_2 l0_2.length c0_2), .int .i64 a0_3, .int .i64 a0_4] 56 (0, 0))) ∧ Aside0 (w'.heap[gb1095]? = some (.cells #[.int .i64 a1_0, .int .i64 a1_1, .int .i64 a1_2, .int .i64 a1_3, .bool a1_4] 88 (0, 0))) ∧ Aside0 (w'.heap[gb1096]? = some (.cells #[.int .i64 a2_0, .int .i64 a2_1, .int .i64 a2_2] 135 (0, 0))) ∧ Aside0 (Below w.heap.size w w'))
              case atStart => exact ⟨(false), (0), (sx_), (sx_), H', ⟨Nat.le_refl _⟩, ⟨ro_ HO1108⟩, ⟨ro_ HO1108⟩, ⟨bx_ BK1094⟩, ⟨bx_ BK1095⟩, ⟨bx_ BK1096⟩, ⟨bl3_ HB GE1094.out GE1095.out GE1096.out⟩⟩
              case round =>
               clear H'
               try clear c1
               try clear p1
               try clear q1
               try clear hx1
               try clear c2
               try clear p2
               try clear c3
               try clear c4
               try clear c5
               try clear c6
               try clear p6
               try clear c7
               try clear c8
               try clear c11
               try clear p11
               try clear q11
               try clear hx11
               try clear c12
               try clear c13
               try clear c13b0
               try clear c14
               try clear c15
               try clear c17
               try clear c20
               try clear c22
               try clear c23
               try clear c25
               try clear c30
               try clear c31
               try clear c33
               try clear c37
               try clear c40
               try clear c41
               try clear c43
               try clear c47
               try clear c47b0
               try clear c47b1
               try clear c48
               try clear c49
               try clear c49b0
               try clear c50
               try clear c50b0
               try clear c51
               try clear c52
               try clear c54
               try clear c56
               try clear c56b0
               try clear c57
               try clear c57b0
               try clear c58
               try clear c58b0
               try clear c61
               try clear c62
               try clear c63
               try clear p64
               try clear c65
               try clear c65b0
               try clear c68
               try clear c69
               try clear c71
               try clear hcz16_0 hcz16_1 hcz16_2 hcz16_3 hcz16_4
               try clear hcz18_0 hcz18_1 hcz18_2 hcz18_3 hcz18_4
               try clear hcz19_0 hcz19_1 hcz19_2
               try clear hcz21_0 hcz21_1 hcz21_2
               try clear hcz24_0 hcz24_1 hcz24_2 hcz24_3 hcz24_4
               try clear hcz26_0 hcz26_1 hcz26_2 hcz26_3 hcz26_4
               try clear hcz27_0 hcz27_1 hcz27_2
               try clear hcz29_0 hcz29_1 hcz29_2
               try clear hcz32_0 hcz32_1 hcz32_2 hcz32_3 hcz32_4
               try clear hcz34_0 hcz34_1 hcz34_2 hcz34_3 hcz34_4
               try clear hcz35_0 hcz35_1 hcz35_2
               try clear hcz42_0 hcz42_1 hcz42_2 hcz42_3 hcz42_4
               try clear hcz44_0 hcz44_1 hcz44_2 hcz44_3 hcz44_4
               try clear hcz45_0 hcz45_1 hcz45_2
               try clear hcz53_0 hcz53_1 hcz53_2 hcz53_3 hcz53_4
               try clear hcz55_0 hcz55_1 hcz55_2 hcz55_3 hcz55_4
               try clear hcz64_0 hcz64_1 hcz64_2
               try clear hcz70_0 hcz70_1 hcz70_2 hcz70_3 hcz70_4
               try clear hcz72_0 hcz72_1 hcz72_2 hcz72_3 hcz72_4
               try clear hcz73_0 hcz73_1 hcz73_2
               try clear hcz75_0 hcz75_1 hcz75_2 hcz75_3 hcz75_4
               try clear hcz76_0 hcz76_1 hcz76_2 hcz76_3 hcz76_4
               try clear hcz77_0 hcz77_1 hcz77_2
               try clear hfz16_0 hfz16_1 hfz16_2 hfz16_3 hfz16_4
               try clear hfz18_0 hfz18_1 hfz18_2 hfz18_3 hfz18_4
               try clear hfz19_0 hfz19_1 hfz19_2
               try clear hfz21_0 hfz21_1 hfz21_2
               try clear hfz24_0 hfz24_1 hfz24_2 hfz24_3 hfz24_4
               try clear hfz26_0 hfz26_1 hfz26_2 hfz26_3 hfz26_4
               try clear hfz27_0 hfz27_1 hfz27_2
               try clear hfz29_0 hfz29_1 hfz29_2
               try clear hfz32_0 hfz32_1 hfz32_2 hfz32_3 hfz32_4
               try clear hfz34_0 hfz34_1 hfz34_2 hfz34_3 hfz34_4
               try clear hfz35_0 hfz35_1 hfz35_2
               try clear hfz42_0 hfz42_1 hfz42_2 hfz42_3 hfz42_4
               try clear hfz44_0 hfz44_1 hfz44_2 hfz44_3 hfz44_4
               try clear hfz45_0 hfz45_1 hfz45_2
               try clear hfz53_0 hfz53_1 hfz53_2 hfz53_3 hfz53_4
               try clear hfz55_0 hfz55_1 hfz55_2 hfz55_3 hfz55_4
               try clear hfz64_0 hfz64_1 hfz64_2
               try clear hfz70_0 hfz70_1 hfz70_2 hfz70_3 hfz70_4
               try clear hfz72_0 hfz72_1 hfz72_2 hfz72_3 hfz72_4
               try clear hfz73_0 hfz73_1 hfz73_2
               try clear hfz75_0 hfz75_1 hfz75_2 hfz75_3 hfz75_4
               try clear hfz76_0 hfz76_1 hfz76_2 hfz76_3 hfz76_4
               try clear hfz77_0 hfz77_1 hfz77_2
               try clear hx1101_0
               try clear hx1102_0
               try clear hx1102_1
               try clear hx1102_2
               try clear p1
               try clear p11
               try clear p1101
               try clear p1102
               try clear p2
               try clear q1
               try clear q11
               try clear q1101
               try clear q1102
               obtain ⟨x16_4, x102_4, rfl, rfl, HA, HK4, HO_14, HO_100, BK1094, BK1095, BK1096, HB⟩ := hrel
               cases gk with
               | zero => exact absurd HA.out (by simp [stipendlaw13_TaxRises.l1])
               | succ k4 =>
                have H := HA.out
                clear HA
                simp only [stipendlaw13_TaxRises.l1] at H
                by_cases c80 : x102_4 < (t1106.length : Int)
                ·rw [if_pos c80] at H
                 have c80b0 : decide (x102_4 < (t1106.length : Int)) = true := decide_eq_true c80
                 clear c80
                 by_cases c81 : 0 ≤ x102_4
                 ·rw [if_pos c81] at H
                  have c81b0 : decide (0 ≤ x102_4) = true := decide_eq_true c81
                  clear c81
                  by_cases c82 : x102_4 < (t1106.length : Int)
                  ·rw [if_pos c82] at H
                   have c82b0 : decide (x102_4 < (t1106.length : Int)) = true := decide_eq_true c82
                   clear c82
                   have HC83 := A_ H
                   clear H
                   have p1110 : 0 ≤ (x102_4 : Int) := of_decide_eq_true (by first | (with_reducible assumption) | assumption)
                   have q1110 : x102_4 < (t1106.length : Int) := of_decide_eq_true (by first | (with_reducible assumption) | assumption)
                   obtain ⟨ad1110, e1110, hx1110_0⟩ := Kd.at_int (Kd.R_reads' HO_100.out).2.2 x102_4 p1110 q1110
                   cases e1110
                   replace p1110 := eq_true p1110
                   replace q1110 := eq_true q1110
                   go_upto_region 22 with (fail)
                   go_cut [16] (fun v16 wc => ∃ (kq : Nat) (x16_82 : Bool), v16 = .bool x16_82 ∧ Aside0 (stipendlaw13_TaxRises.j4 kq t1099 t1104 t1106 x16_82 x102_4 (rd t1106 x102_4) t1106 (t1106.length : Int) x102_4 a2_0 a2_1 a2_2 = some r) ∧ Aside0 (kq ≤ k4) ∧ Aside0 (Kd.R (Kd.int .i64) 2 wc w.heap.size (fun _ => True) (.slice (some ad1110) t1106.length co79) t1106) ∧ Aside0 (Kd.R (Kd.int .i64) 2 wc w.heap.size (fun _ => True) (.slice (some ad1110) t1106.length co79) t1106) ∧ Aside0 (wc.heap[gb1094]? = some (.cells #[(.slice (some ad1101) l0_0.length c0_0), (.slice A0_1 l0_1.length c0_1), (.slice A0_2 l0_2.length c0_2), .int .i64 a0_3, .int .i64 a0_4] 56 (0, 0))) ∧ Aside0 (wc.heap[gb1095]? = some (.cells #[.int .i64 a1_0, .int .i64 a1_1, .int .i64 a1_2, .int .i64 a1_3, .bool a1_4] 88 (0, 0))) ∧ Aside0 (wc.heap[gb1096]? = some (.cells #[.int .i64 a2_0, .int .i64 a2_1, .int .i64 a2_2] 135 (0, 0))) ∧ Aside0 (Below w.heap.size w wc))
                   case first =>
                    have H := HC83.out
                    clear HC83
                    by_cases c84 : x16_4 = true
                    ·subst c84
                     have H1 : (stipendlaw13_TaxRises.j4 k4 t1099 t1104 t1106 true x102_4 (rd t1106 x102_4) t1106 (t1106.length : Int) x102_4 a2_0 a2_1 a2_2) = some r := by rw [if_pos rfl] at H; exact H
                     clear H
                     have H := H1
                     clear H1
                     have H' := A_ H
                     clear H
                     go_wp2
                     go_meet
                     case rel => exact ⟨_, (true), (sx_), H', ⟨by have := HJ5.out; have := HJ38.out; have := HK3.out; have := HK4.out; first | omega | exact Nat.le_refl _⟩, ⟨ro_ HO_14⟩, ⟨ro_ HO_100⟩, ⟨bx_ BK1094⟩, ⟨bx_ BK1095⟩, ⟨bx_ BK1096⟩, ⟨bl3_ HB GE1094.out GE1095.out GE1096.out⟩⟩
                    ·replace c84 := Bool.eq_false_iff.mpr c84
                     subst c84
                     have H1 : (stipendlaw13_TaxRises.j4 k4 t1099 t1104 t1106 ((rd t1106 x102_4) == a2_0) x102_4 (rd t1106 x102_4) t1106 (t1106.length : Int) x102_4 a2_0 a2_1 a2_2) = some r := by rw [if_neg (show ¬ (false = true) by decide)] at H; exact H
                     clear H
                     have H := H1
                     clear H1
                     have H' := A_ H
                     clear H
                     have hnb85 := NB1096_1094.out
                     have hnc85 := NB1094_1096.out
                     have hnb86 := NB1096_1095.out
                     have hnc86 := NB1095_1096.out
                     have hcz87_0 := cz_ BK1096 0
                     have hcz87_1 := cz_ BK1096 1
                     have hcz87_2 := cz_ BK1096 2
                     have hfz87_0 := blk_frozen BK1096.out 0
                     have hfz87_1 := blk_frozen BK1096.out 1
                     have hfz87_2 := blk_frozen BK1096.out 2
                     go_wp2
                     go_meet
                     case rel => exact ⟨_, (((rd t1106 x102_4) == a2_0)), (sx_), H', ⟨by have := HJ5.out; have := HJ38.out; have := HK3.out; have := HK4.out; first | omega | exact Nat.le_refl _⟩, ⟨ro_ HO_14⟩, ⟨ro_ HO_100⟩, ⟨bx_ BK1094⟩, ⟨bx_ BK1095⟩, ⟨bx_ BK1096⟩, ⟨bl3_ HB GE1094.out GE1095.out GE1096.out⟩⟩
                   case rest =>
                    clear HC83
                    try clear c1
                    try clear p1
                    try clear q1
                    try clear hx1
                    try clear c2
                    try clear p2
                    try clear c3
                    try clear c4
                    try clear c5
                    try clear c6
                    try clear p6
                    try clear c7
                    try clear c8
                    try clear c11
                    try clear p11
                    try clear q11
                    try clear hx11
                    try clear c12
                    try clear c13
                    try clear c13b0
                    try clear c14
                    try clear c15
                    try clear c17
                    try clear c20
                    try clear c22
                    try clear c23
                    try clear c25
                    try clear c30
                    try clear c31
                    try clear c33
                    try clear c37
                    try clear c40
                    try clear c41
                    try clear c43
                    try clear c47
                    try clear c47b0
                    try clear c47b1
                    try clear c48
                    try clear c49
                    try clear c49b0
                    try clear c50
                    try clear c50b0
                    try clear c51
                    try clear c52
                    try clear c54
                    try clear c56
                    try clear c56b0
                    try clear c57
                    try clear c57b0
                    try clear c58
                    try clear c58b0
                    try clear c61
                    try clear c62
                    try clear c63
                    try clear p64
                    try clear c65
                    try clear c65b0
                    try clear c68
                    try clear c69
                    try clear c71
                    try clear c80
                    try clear c80b0
                    try clear c81
                    try clear c81b0
                    try clear c82
                    try clear c82b0
                    try clear c84
                    try clear c85
                    try clear c86
                    try clear hcz16_0 hcz16_1 hcz16_2 hcz16_3 hcz16_4
                    try clear hcz18_0 hcz18_1 hcz18_2 hcz18_3 hcz18_4
                    try clear hcz19_0 hcz19_1 hcz19_2
                    try clear hcz21_0 hcz21_1 hcz21_2
                    try clear hcz24_0 hcz24_1 hcz24_2 hcz24_3 hcz24_4
                    try clear hcz26_0 hcz26_1 hcz26_2 hcz26_3 hcz26_4
                    try clear hcz27_0 hcz27_1 hcz27_2
                    try clear hcz29_0 hcz29_1 hcz29_2
                    try clear hcz32_0 hcz32_1 hcz32_2 hcz32_3 hcz32_4
                    try clear hcz34_0 hcz34_1 hcz34_2 hcz34_3 hcz34_4
                    try clear hcz35_0 hcz35_1 hcz35_2
                    try clear hcz42_0 hcz42_1 hcz42_2 hcz42_3 hcz42_4
                    try clear hcz44_0 hcz44_1 hcz44_2 hcz44_3 hcz44_4
                    try clear hcz45_0 hcz45_1 hcz45_2
                    try clear hcz53_0 hcz53_1 hcz53_2 hcz53_3 hcz53_4
                    try clear hcz55_0 hcz55_1 hcz55_2 hcz55_3 hcz55_4
                    try clear hcz64_0 hcz64_1 hcz64_2
                    try clear hcz70_0 hcz70_1 hcz70_2 hcz70_3 hcz70_4
                    try clear hcz72_0 hcz72_1 hcz72_2 hcz72_3 hcz72_4
                    try clear hcz73_0 hcz73_1 hcz73_2
                    try clear hcz75_0 hcz75_1 hcz75_2 hcz75_3 hcz75_4
                    try clear hcz76_0 hcz76_1 hcz76_2 hcz76_3 hcz76_4
                    try clear hcz77_0 hcz77_1 hcz77_2
                    try clear hcz87_0 hcz87_1 hcz87_2
                    try clear hfz16_0 hfz16_1 hfz16_2 hfz16_3 hfz16_4
                    try clear hfz18_0 hfz18_1 hfz18_2 hfz18_3 hfz18_4
                    try clear hfz19_0 hfz19_1 hfz19_2
                    try clear hfz21_0 hfz21_1 hfz21_2
                    try clear hfz24_0 hfz24_1 hfz24_2 hfz24_3 hfz24_4
                    try clear hfz26_0 hfz26_1 hfz26_2 hfz26_3 hfz26_4
                    try clear hfz27_0 hfz27_1 hfz27_2
                    try clear hfz29_0 hfz29_1 hfz29_2
                    try clear hfz32_0 hfz32_1 hfz32_2 hfz32_3 hfz32_4
                    try clear hfz34_0 hfz34_1 hfz34_2 hfz34_3 hfz34_4
                    try clear hfz35_0 hfz35_1 hfz35_2
                    try clear hfz42_0 hfz42_1 hfz42_2 hfz42_3 hfz42_4
                    try clear hfz44_0 hfz44_1 hfz44_2 hfz44_3 hfz44_4
                    try clear hfz45_0 hfz45_1 hfz45_2
                    try clear hfz53_0 hfz53_1 hfz53_2 hfz53_3 hfz53_4
                    try clear hfz55_0 hfz55_1 hfz55_2 hfz55_3 hfz55_4
                    try clear hfz64_0 hfz64_1 hfz64_2
                    try clear hfz70_0 hfz70_1 hfz70_2 hfz70_3 hfz70_4
                    try clear hfz72_0 hfz72_1 hfz72_2 hfz72_3 hfz72_4
                    try clear hfz73_0 hfz73_1 hfz73_2
                    try clear hfz75_0 hfz75_1 hfz75_2 hfz75_3 hfz75_4
                    try clear hfz76_0 hfz76_1 hfz76_2 hfz76_3 hfz76_4
                    try clear hfz77_0 hfz77_1 hfz77_2
                    try clear hfz87_0 hfz87_1 hfz87_2
                    try clear hx1101_0
                    try clear hx1102_0
                    try clear hx1102_1
                    try clear hx1102_2
                    try clear hx1110_0
                    try clear p1
                    try clear p11
                    try clear p1101
                    try clear p1102
                    try clear p1110
                    try clear p2
                    try clear p6
                    try clear p64
                    try clear q1
                    try clear q11
                    try clear q1101
                    try clear q1102
                    try clear q1110
                    obtain ⟨kq, x16_82, rfl, HA, HJ82, HO_14, HO_100, BK1094, BK1095, BK1096, HB⟩ := hcut
                    cases kq with
                    | zero => exact absurd HA.out (by simp [stipendlaw13_TaxRises.j4])
                    | succ kj82 =>
                     have H := HA.out
                     clear HA
                     simp only [stipendlaw13_TaxRises.j4] at H
                     have HC88 := A_ H
                     clear H
                     go_upto_region 23 with (fail)
                     go_cut [124] (fun v124 wc => ∃ (kq : Nat) (x124_87 : Bool), v124 = .bool x124_87 ∧ Aside0 (stipendlaw13_TaxRises.j5 kq t1099 t1104 t1106 x16_82 t1106 (t1106.length : Int) x102_4 x124_87 a2_0 a2_1 a2_2 = some r) ∧ Aside0 (kq ≤ kj82) ∧ Aside0 (Kd.R (Kd.int .i64) 2 wc w.heap.size (fun _ => True) (.slice (some ad1110) t1106.length co79) t1106) ∧ Aside0 (Kd.R (Kd.int .i64) 2 wc w.heap.size (fun _ => True) (.slice (some ad1110) t1106.length co79) t1106) ∧ Aside0 (wc.heap[gb1094]? = some (.cells #[(.slice (some ad1101) l0_0.length c0_0), (.slice A0_1 l0_1.length c0_1), (.slice A0_2 l0_2.length c0_2), .int .i64 a0_3, .int .i64 a0_4] 56 (0, 0))) ∧ Aside0 (wc.heap[gb1095]? = some (.cells #[.int .i64 a1_0, .int .i64 a1_1, .int .i64 a1_2, .int .i64 a1_3, .bool a1_4] 88 (0, 0))) ∧ Aside0 (wc.heap[gb1096]? = some (.cells #[.int .i64 a2_0, .int .i64 a2_1, .int .i64 a2_2] 135 (0, 0))) ∧ Aside0 (Below w.heap.size w wc))
                     case first =>
                      have H := HC88.out
                      clear HC88
                      by_cases c89 : x102_4 > 0
                      ·rw [if_pos c89] at H
                       have c89b0 : decide (0 < x102_4) = true := decide_eq_true c89
                       clear c89
                       (first | rw [c89b0] | (simp only [i64_w, i32_w]; rw [c89b0]) | skip)
                       obtain ⟨ji90, hji90⟩ : ∃ j_ : Int, (wrap64 (x102_4 - 1)) = j_ := ⟨_, rfl⟩
                       replace H : (if 0 ≤ (ji90) then (if (ji90) < (t1106.length : Int) then (stipendlaw13_TaxRises.j5 kj82 t1099 t1104 t1106 x16_82 t1106 (t1106.length : Int) x102_4 (decide ((rd t1106 (ji90)) ≥ (rd t1106 x102_4))) a2_0 a2_1 a2_2) else (none)) else (none)) = some r := by first | (rw [hji90] at H; exact H) | (simp only [hji90] at H ⊢; exact H)
                       have hji90w : (IntKind.i64.wrap (x102_4 - 1)) = ji90 := (i64_w _).trans hji90
                       by_cases c91 : 0 ≤ (ji90)
                       ·rw [if_pos c91] at H
                        have c91b0 : decide (0 ≤ (ji90)) = true := decide_eq_true c91
                        clear c91
                        by_cases c92 : (ji90) < (t1106.length : Int)
                        ·rw [if_pos c92] at H
                         have c92b0 : decide ((ji90) < (t1106.length : Int)) = true := decide_eq_true c92
                         clear c92
                         have H' := A_ H
                         clear H
                         have p1111 : 0 ≤ ((ji90) : Int) := of_decide_eq_true (by first | (with_reducible assumption) | assumption)
                         have q1111 : (ji90) < (t1106.length : Int) := of_decide_eq_true (by first | (with_reducible assumption) | assumption)
                         obtain ⟨ad1111, e1111, hx1111_0⟩ := Kd.at_int (Kd.R_reads' HO_14.out).2.2 (ji90) p1111 q1111
                         obtain rfl : ad1110 = ad1111 := (by injection e1111)
                         replace p1111 := eq_true p1111
                         replace q1111 := eq_true q1111
                         go_wp2
                         go_meet
                         case rel => exact ⟨_, (decide ((rd t1106 (ji90)) ≥ (rd t1106 x102_4))), (by first | rfl | (simp; done) | (simp only [← hji90] <;> (first | rfl | simp)) | (simp [*]; done)), H', ⟨by have := HJ5.out; have := HJ38.out; have := HK3.out; have := HK4.out; have := HJ82.out; first | omega | exact Nat.le_refl _⟩, ⟨ro_ HO_14⟩, ⟨ro_ HO_100⟩, ⟨bx_ BK1094⟩, ⟨bx_ BK1095⟩, ⟨bx_ BK1096⟩, ⟨bl3_ HB GE1094.out GE1095.out GE1096.out⟩⟩
                        ·rw [if_neg c92] at H
                         exact absurd H (by simp)
                       ·rw [if_neg c91] at H
                        exact absurd H (by simp)
                      ·rw [if_neg c89] at H
                       have c89b0 : decide (0 < x102_4) = false := decide_eq_false c89
                       clear c89
                       (first | rw [c89b0] | (simp only [i64_w, i32_w]; rw [c89b0]) | skip)
                       have H' := A_ H
                       clear H
                       go_wp2
                       go_meet
                       case rel => exact ⟨_, (false), (sx_), H', ⟨by have := HJ5.out; have := HJ38.out; have := HK3.out; have := HK4.out; have := HJ82.out; first | omega | exact Nat.le_refl _⟩, ⟨ro_ HO_14⟩, ⟨ro_ HO_100⟩, ⟨bx_ BK1094⟩, ⟨bx_ BK1095⟩, ⟨bx_ BK1096⟩, ⟨bl3_ HB GE1094.out GE1095.out GE1096.out⟩⟩
                     case rest =>
                      clear HC88
                      try clear c1
                      try clear p1
                      try clear q1
                      try clear hx1
                      try clear c2
                      try clear p2
                      try clear c3
                      try clear c4
                      try clear c5
                      try clear c6
                      try clear p6
                      try clear c7
                      try clear c8
                      try clear c9
                      try clear c11
                      try clear p11
                      try clear q11
                      try clear hx11
                      try clear c12
                      try clear c13
                      try clear c13b0
                      try clear c14
                      try clear c15
                      try clear c17
                      try clear c20
                      try clear c22
                      try clear c23
                      try clear c25
                      try clear c30
                      try clear c31
                      try clear c33
                      try clear c37
                      try clear c40
                      try clear c41
                      try clear c43
                      try clear c47
                      try clear c47b0
                      try clear c47b1
                      try clear c48
                      try clear c49
                      try clear c49b0
                      try clear c50
                      try clear c50b0
                      try clear c51
                      try clear c52
                      try clear c54
                      try clear c56
                      try clear c56b0
                      try clear c57
                      try clear c57b0
                      try clear c58
                      try clear c58b0
                      try clear c61
                      try clear c62
                      try clear c63
                      try clear p64
                      try clear c65
                      try clear c65b0
                      try clear c68
                      try clear c69
                      try clear c71
                      try clear c80
                      try clear c80b0
                      try clear c81
                      try clear c81b0
                      try clear c82
                      try clear c82b0
                      try clear c84
                      try clear c85
                      try clear c86
                      try clear c89
                      try clear c89b0
                      try clear c91
                      try clear c91b0
                      try clear c92
                      try clear c92b0
                      try clear hcz16_0 hcz16_1 hcz16_2 hcz16_3 hcz16_4
                      try clear hcz18_0 hcz18_1 hcz18_2 hcz18_3 hcz18_4
                      try clear hcz19_0 hcz19_1 hcz19_2
                      try clear hcz21_0 hcz21_1 hcz21_2
                      try clear hcz24_0 hcz24_1 hcz24_2 hcz24_3 hcz24_4
                      try clear hcz26_0 hcz26_1 hcz26_2 hcz26_3 hcz26_4
                      try clear hcz27_0 hcz27_1 hcz27_2
                      try clear hcz29_0 hcz29_1 hcz29_2
                      try clear hcz32_0 hcz32_1 hcz32_2 hcz32_3 hcz32_4
                      try clear hcz34_0 hcz34_1 hcz34_2 hcz34_3 hcz34_4
                      try clear hcz35_0 hcz35_1 hcz35_2
                      try clear hcz42_0 hcz42_1 hcz42_2 hcz42_3 hcz42_4
                      try clear hcz44_0 hcz44_1 hcz44_2 hcz44_3 hcz44_4
                      try clear hcz45_0 hcz45_1 hcz45_2
                      try clear hcz53_0 hcz53_1 hcz53_2 hcz53_3 hcz53_4
                      try clear hcz55_0 hcz55_1 hcz55_2 hcz55_3 hcz55_4
                      try clear hcz64_0 hcz64_1 hcz64_2
                      try clear hcz70_0 hcz70_1 hcz70_2 hcz70_3 hcz70_4
                      try clear hcz72_0 hcz72_1 hcz72_2 hcz72_3 hcz72_4
                      try clear hcz73_0 hcz73_1 hcz73_2
                      try clear hcz75_0 hcz75_1 hcz75_2 hcz75_3 hcz75_4
                      try clear hcz76_0 hcz76_1 hcz76_2 hcz76_3 hcz76_4
                      try clear hcz77_0 hcz77_1 hcz77_2
                      try clear hcz87_0 hcz87_1 hcz87_2
                      try clear hfz16_0 hfz16_1 hfz16_2 hfz16_3 hfz16_4
                      try clear hfz18_0 hfz18_1 hfz18_2 hfz18_3 hfz18_4
                      try clear hfz19_0 hfz19_1 hfz19_2
                      try clear hfz21_0 hfz21_1 hfz21_2
                      try clear hfz24_0 hfz24_1 hfz24_2 hfz24_3 hfz24_4
                      try clear hfz26_0 hfz26_1 hfz26_2 hfz26_3 hfz26_4
                      try clear hfz27_0 hfz27_1 hfz27_2
                      try clear hfz29_0 hfz29_1 hfz29_2
                      try clear hfz32_0 hfz32_1 hfz32_2 hfz32_3 hfz32_4
                      try clear hfz34_0 hfz34_1 hfz34_2 hfz34_3 hfz34_4
                      try clear hfz35_0 hfz35_1 hfz35_2
                      try clear hfz42_0 hfz42_1 hfz42_2 hfz42_3 hfz42_4
                      try clear hfz44_0 hfz44_1 hfz44_2 hfz44_3 hfz44_4
                      try clear hfz45_0 hfz45_1 hfz45_2
                      try clear hfz53_0 hfz53_1 hfz53_2 hfz53_3 hfz53_4
                      try clear hfz55_0 hfz55_1 hfz55_2 hfz55_3 hfz55_4
                      try clear hfz64_0 hfz64_1 hfz64_2
                      try clear hfz70_0 hfz70_1 hfz70_2 hfz70_3 hfz70_4
                      try clear hfz72_0 hfz72_1 hfz72_2 hfz72_3 hfz72_4
                      try clear hfz73_0 hfz73_1 hfz73_2
                      try clear hfz75_0 hfz75_1 hfz75_2 hfz75_3 hfz75_4
                      try clear hfz76_0 hfz76_1 hfz76_2 hfz76_3 hfz76_4
                      try clear hfz77_0 hfz77_1 hfz77_2
                      try clear hfz87_0 hfz87_1 hfz87_2
                      try clear hx1101_0
                      try clear hx1102_0
                      try clear hx1102_1
                      try clear hx1102_2
                      try clear hx1110_0
                      try clear hx1111_0
                      try clear p1
                      try clear p11
                      try clear p1101
                      try clear p1102
                      try clear p1110
                      try clear p1111
                      try clear p2
                      try clear p6
                      try clear p64
                      try clear q1
                      try clear q11
                      try clear q1101
                      try clear q1102
                      try clear q1110
                      try clear q1111
                      obtain ⟨kq, x124_87, rfl, HA, HJ87, HO_14, HO_100, BK1094, BK1095, BK1096, HB⟩ := hcut
                      cases kq with
                      | zero => exact absurd HA.out (by simp [stipendlaw13_TaxRises.j5])
                      | succ kj87 =>
                       have H := HA.out
                       clear HA
                       simp only [stipendlaw13_TaxRises.j5] at H
                       by_cases c93 : x124_87 = true
                       ·subst c93
                        have H1 : (none) = some r := by rw [if_pos rfl] at H; exact H
                        clear H
                        have H := H1
                        clear H1
                        exact absurd H (by simp)
                       ·replace c93 := Bool.eq_false_iff.mpr c93
                        subst c93
                        have H1 : (stipendlaw13_TaxRises.l1 kj87 t1099 t1104 t1106 x16_82 t1106 (t1106.length : Int) (wrap64 (x102_4 + 1)) a2_0 a2_1 a2_2) = some r := by rw [if_neg (show ¬ (false = true) by decide)] at H; exact H
                        clear H
                        have H := H1
                        clear H1
                        have H' := A_ H
                        clear H
                        go_wp2
                        go_roundg kj87
                        case measure => have := HJ5.out; have := HJ38.out; have := HK3.out; have := HK4.out; have := HJ82.out; have := HJ87.out; omega
                        case rel => exact ⟨(x16_82), (wrap64 (x102_4 + 1)), (sx_), (sx_), H', ⟨by have := HJ5.out; have := HJ38.out; have := HK3.out; have := HK4.out; have := HJ82.out; have := HJ87.out; omega⟩, ⟨ro_ HO_14⟩, ⟨ro_ HO_100⟩, ⟨bx_ BK1094⟩, ⟨bx_ BK1095⟩, ⟨bx_ BK1096⟩, ⟨bl3_ HB GE1094.out GE1095.out GE1096.out⟩⟩
                  ·rw [if_neg c82] at H
                   exact absurd H (by simp)
                 ·rw [if_neg c81] at H
                  exact absurd H (by simp)
                ·rw [if_neg c80] at H
                 have c80b0 : decide (x102_4 < (t1106.length : Int)) = false := decide_eq_false c80
                 clear c80
                 by_cases c94 : t1099 = t1104
                 ·rw [if_pos c94] at H
                  have c94b0 : (t1099 == t1104) = true := beq_iff_eq.mpr c94
                  have c94b1 : (t1099 != t1104) = false := bne_eq_false_iff_eq.mpr c94
                  clear c94
                  obtain rfl := Option.some.inj H
                  go_wp2
                  go_ret
                  exact ⟨er_, bl3_ HB GE1094.out GE1095.out GE1096.out⟩
                 ·rw [if_neg c94] at H
                  have c94b0 : (t1099 == t1104) = false := beq_eq_false_iff_ne.mpr c94
                  have c94b1 : (t1099 != t1104) = true := bne_iff_ne.mpr c94
                  obtain rfl := Option.some.inj H
                  go_wp2
                  go_ret
                  exact ⟨er_, bl3_ HB GE1094.out GE1095.out GE1096.out⟩
         ·rw [if_neg c50] at H
          exact absurd H (by simp)
        ·rw [if_neg c49] at H
         exact absurd H (by simp)
 ·replace c5 := Bool.eq_false_iff.mpr c5
  subst c5
  have H1 : (none) = some r := by rw [if_neg (show ¬ (false = true) by decide)] at H; exact H
  clear H
  have H := H1
  clear H1
  exact absurd H (by simp)
end Go.Proofs.Ytcapgmoipacioaa.P
