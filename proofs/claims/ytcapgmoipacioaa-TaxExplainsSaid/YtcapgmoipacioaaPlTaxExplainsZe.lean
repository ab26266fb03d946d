import Derived.Test.YtcapgmoipacioaaPtZe
import Derived.Test.YtcapgmoipacioaaPpcodeZe
import Derived.Test.YtcapgmoipacioaaPpstipendlaw13Ze
import Derived.Test.YtcapgmoipacioaaPpstipendref13Ze
import Derived.Test.YtcapgmoipacioaaPptaxAverageZe
import Derived.Test.YtcapgmoipacioaaPptaxExplainZe
import Derived.Test.YtcapgmoipacioaaY1Ze
namespace Go.Proofs.Ytcapgmoipacioaa.P
open Go.RowKit Go.Proofs.YtcapgmoipacioaaW.PrintWords Go.Proofs.YtcapgmoipacioaaW.PrintLast Go.Proofs.YtcapgmoipacioaaW.PrintMore
set_option linter.unusedVariables false
set_option linter.unusedSimpArgs false
mutual
def stipendlaw13_TaxExplains.l0 : Nat → List (S159) → Int → Int → Int → Int → Int → Int → Int → List (S159) → Int → Int → List (List (S106)) → List (S120) → List (S209) → Int → Int → Int → Int → Int → Int → Bool → Int → Int → Int → Option (Bool)
 | 0, _, _, _, _, _, _, _, _, _, _, _, _, _, _, _, _, _, _, _, _, _, _, _, _ => none
 | k + 1, x7, x8, x9, x10, x11, x13, x14, x15, x84, x85, x86, x1300000, x1300001, x1300002, x1300003, x1300004, x1301000, x1301001, x1301002, x1301003, x1301004, x1302000, x1302001, x1302002 => if x86 < x85 then (if 0 ≤ x86 then (if x86 < (x84.length : Int) then (if ((rd_T159 x84 x86).f1) ≤ 0 then (stipendlaw13_TaxExplains.j1 k x7 x8 x9 x10 x11 x13 x14 x15 x84 x85 x86 true x1300000 x1300001 x1300002 x1300003 x1300004 x1301000 x1301001 x1301002 x1301003 x1301004 x1302000 x1302001 x1302002 ((rd_T159 x84 x86).f0) ((rd_T159 x84 x86).f1) ((rd_T159 x84 x86).f2)) else (stipendlaw13_TaxExplains.j1 k x7 x8 x9 x10 x11 x13 x14 x15 x84 x85 x86 (((rd_T159 x84 x86).f2) != (wrap64 (((rd_T159 x84 x86).f1) * ((rd_T159 x84 x86).f0)))) x1300000 x1300001 x1300002 x1300003 x1300004 x1301000 x1301001 x1301002 x1301003 x1301004 x1302000 x1302001 x1302002 ((rd_T159 x84 x86).f0) ((rd_T159 x84 x86).f1) ((rd_T159 x84 x86).f2))) else (none)) else (none)) else ((stipendref13_Exact.f k x1300000 x1300001 x1300002 x1300003 x1300004 x1301000 x1301001 x1301002 x1301003 x1301004 x1302000 x1302001 x1302002).bind fun t1314 => (if x8 = 0 then (if x10 = 0 then (if x13 = x11 then (if x14 = t1314 then (if 0 ≤ x1301000 then (if x1301000 < (x1300000.length : Int) then (stipendlaw13_TaxExplains.j2 k x9 x15 t1314 (decide ((x7.length : Int) > ((rd_L3 x1300000 x1301000).length : Int))) x1301000 x1301001 x1301002 x1301003 x1301004 x1302000 x1302001 x1302002) else (none)) else (none)) else (stipendlaw13_TaxExplains.j2 k x9 x15 t1314 true x1301000 x1301001 x1301002 x1301003 x1301004 x1302000 x1302001 x1302002)) else (stipendlaw13_TaxExplains.j2 k x9 x15 t1314 true x1301000 x1301001 x1301002 x1301003 x1301004 x1302000 x1302001 x1302002)) else (stipendlaw13_TaxExplains.j2 k x9 x15 t1314 true x1301000 x1301001 x1301002 x1301003 x1301004 x1302000 x1302001 x1302002)) else (stipendlaw13_TaxExplains.j2 k x9 x15 t1314 true x1301000 x1301001 x1301002 x1301003 x1301004 x1302000 x1302001 x1302002)))
def stipendlaw13_TaxExplains.j1 : Nat → List (S159) → Int → Int → Int → Int → Int → Int → Int → List (S159) → Int → Int → Bool → List (List (S106)) → List (S120) → List (S209) → Int → Int → Int → Int → Int → Int → Bool → Int → Int → Int → Int → Int → Int → Option (Bool)
 | 0, _, _, _, _, _, _, _, _, _, _, _, _, _, _, _, _, _, _, _, _, _, _, _, _, _, _, _, _ => none
 | k + 1, x7, x8, x9, x10, x11, x13, x14, x15, x84, x85, x86, x102, x1300000, x1300001, x1300002, x1300003, x1300004, x1301000, x1301001, x1301002, x1301003, x1301004, x1302000, x1302001, x1302002, x1314000, x1314001, x1314002 => if x102 = true then (none) else (stipendlaw13_TaxExplains.l0 k x7 x8 x9 x10 x11 (wrap64 (x13 + x1314001)) (wrap64 (x14 + x1314002)) (mx x15 x1314000) x84 x85 (wrap64 (x86 + 1)) x1300000 x1300001 x1300002 x1300003 x1300004 x1301000 x1301001 x1301002 x1301003 x1301004 x1302000 x1302001 x1302002)
def stipendlaw13_TaxExplains.j2 : Nat → Int → Int → Int → Bool → Int → Int → Int → Int → Bool → Int → Int → Int → Option (Bool)
 | 0, _, _, _, _, _, _, _, _, _, _, _, _ => none
 | k + 1, x9, x15, x18, x152, x1301000, x1301001, x1301002, x1301003, x1301004, x1302000, x1302001, x1302002 => if x152 = true then (none) else (if x1302000 ≤ 0 then (some (x9 == 0)) else (if x1302000 = 0 then (none) else (if x9 = (wrap64 (Int.tdiv x18 x1302000)) then (if x1301001 = 2 then (some true) else (some (decide (x9 ≤ x15)))) else (none))))
end
def stipendlaw13_TaxExplains.f (k : Nat) (l0_0 : List (List (S106))) (l0_1 : List (S120)) (l0_2 : List (S209)) (a0_3 : Int) (a0_4 : Int) (a1_0 : Int) (a1_1 : Int) (a1_2 : Int) (a1_3 : Int) (a1_4 : Bool) (a2_0 : Int) (a2_1 : Int) (a2_2 : Int) : Option (Bool) := (stipendlaw13_dues.f k).bind fun t1302 => (if t1302 = true then ((stipendlaw13_fits.f k l0_0 l0_1 l0_2 a0_3 a0_4 a1_0 a1_1 a1_2 a1_3 a1_4 a2_1 a2_2).bind fun t1303 => (if t1303 = true then ((tax_Explain.f k l0_0 l0_1 l0_2 a0_3 a0_4 a1_0 a1_1 a1_2 a1_3 a1_4 a2_0 a2_1 a2_2).bind fun bt1304 => ((tax_Average.f k l0_0 l0_1 l0_2 a0_3 a0_4 a1_0 a1_1 a1_2 a1_3 a1_4 a2_0 a2_1 a2_2).bind fun bt1308 => ((code_Charge.f k a1_0 a1_1 a1_2 a1_3 a1_4 a2_0 a2_1 a2_2).bind fun bt1310 => (if bt1310.2 = 0 then (stipendlaw13_TaxExplains.l0 k bt1304.1 bt1304.2 bt1308.1 bt1308.2 bt1310.1 0 0 0 bt1304.1 (bt1304.1.length : Int) 0 l0_0 l0_1 l0_2 a0_3 a0_4 a1_0 a1_1 a1_2 a1_3 a1_4 a2_0 a2_1 a2_2) else (if bt1304.2 = bt1310.2 then (if bt1308.2 = bt1310.2 then (if (bt1304.1.length : Int) = 0 then (some (bt1308.1 == 0)) else (none)) else (none)) else (none)))))) else (some true))) else (none))
set_option maxHeartbeats 8000000 in
set_option maxRecDepth 100000 in
theorem stipendlaw13_TaxExplains.calls (k : Nat) (A0_0 : Option Addr) (c0_0 : Nat) (l0_0 : List (List (S106))) (A0_1 : Option Addr) (c0_1 : Nat) (l0_1 : List (S120)) (A0_2 : Option Addr) (c0_2 : Nat) (l0_2 : List (S209)) (a0_3 : Int) (a0_4 : Int) (a1_0 : Int) (a1_1 : Int) (a1_2 : Int) (a1_3 : Int) (a1_4 : Bool) (a2_0 : Int) (a2_1 : Int) (a2_2 : Int) (r : Bool) (w : World) (hr0_0 : Kd.C (Kd.slice 106 k106) w A0_0 l0_0.length l0_0) (hc0_0 : l0_0.length ≤ c0_0) (hr0_1 : Kd.C k120 w A0_1 l0_1.length l0_1) (hc0_1 : l0_1.length ≤ c0_1) (hr0_2 : Kd.C k209 w A0_2 l0_2.length l0_2) (hc0_2 : l0_2.length ≤ c0_2) (h : stipendlaw13_TaxExplains.f k l0_0 l0_1 l0_2 a0_3 a0_4 a1_0 a1_1 a1_2 a1_3 a1_4 a2_0 a2_1 a2_2 = some r) :
  Calls Try.prog 23 #[.agg #[.slice A0_0 l0_0.length c0_0, .slice A0_1 l0_1.length c0_1, .slice A0_2 l0_2.length c0_2, .int .i64 a0_3, .int .i64 a0_4], .agg #[.int .i64 a1_0, .int .i64 a1_1, .int .i64 a1_2, .int .i64 a1_3, .bool a1_4], .agg #[.int .i64 a2_0, .int .i64 a2_1, .int .i64 a2_2]] w fun e w' => e = .returned (.bool r) ∧ Below w.heap.size w w' := by
 have hu56 := Try.underlying56; have hu88 := Try.underlying88; have hu135 := Try.underlying135; have hu137 := Try.underlying137; have hu159 := Try.underlying159; have HR0_0 := A_ hr0_0; have HC0_0 := A_ hc0_0; clear hr0_0 hc0_0; have HR0_1 := A_ hr0_1; have HC0_1 := A_ hc0_1; clear hr0_1 hc0_1; have HR0_2 := A_ hr0_2; have HC0_2 := A_ hc0_2; clear hr0_2 hc0_2; have HB := A_ (Below.refl w.heap.size w); unfold stipendlaw13_TaxExplains.f at h; have H := h; clear h; replace H := Option.bind_eq_some_iff.mp H; obtain ⟨t1302, A40, H⟩ := H; (try dsimp only at H); have A4 := A_ A40; clear A40; by_cases c5 : t1302 = true
 ·subst c5; rw [if_pos rfl] at H; replace H := Option.bind_eq_some_iff.mp H; obtain ⟨t1303, A60, H⟩ := H; (try dsimp only at H); have A6 := A_ A60; clear A60; by_cases c7 : t1303 = true
  ·subst c7; rw [if_pos rfl] at H; replace H := Option.bind_eq_some_iff.mp H; obtain ⟨⟨t1304, t1307⟩, A80, H⟩ := H; (try dsimp only at H); have A8 := A_ A80; clear A80; replace H := Option.bind_eq_some_iff.mp H; obtain ⟨⟨t1308, t1309⟩, A90, H⟩ := H; (try dsimp only at H); have A9 := A_ A90; clear A90; replace H := Option.bind_eq_some_iff.mp H; obtain ⟨⟨t1310, t1311⟩, A100, H⟩ := H; (try dsimp only at H); have A10 := A_ A100; clear A100; by_cases c11 : t1311 = 0
   ·rw [if_pos c11] at H; have c11b0 : (t1311 == 0) = true := beq_iff_eq.mpr c11; have c11b1 : (t1311 != 0) = false := bne_eq_false_iff_eq.mpr c11; clear c11; have H' := A_ H; clear H; go_enter Try.func23, Try.ntmps23
    go_wp2_with (first | ((with_reducible refine gate_dst (N := 3) rfl ?_); refine be_ (N := 3) (cs := #[.slice A0_0 l0_0.length c0_0, .slice A0_1 l0_1.length c0_1, .slice A0_2 l0_2.length c0_2, .int .i64 a0_3, .int .i64 a0_4]) (t := 56) ?_; intro gb1299 hg w12 hbox hb; have BK1299 := A_ (hbox); have GW1299 := A_ ((by rw [hg]; exact (below_size (bl_ HB)) : w.heap.size ≤ gb1299)); have GE1299 := A_ ((by rw [hg]; exact (below_size (bl_ HB)) : w.heap.size ≤ gb1299)); replace HB := A_ (below_step (bl_ HB) hb); clear hb hbox hg) | ((with_reducible refine gate_dst (N := 4) rfl ?_); refine be_ (N := 4) (cs := #[.int .i64 a1_0, .int .i64 a1_1, .int .i64 a1_2, .int .i64 a1_3, .bool a1_4]) (t := 88) ?_; intro gb1300 hg w13 hbox hb; have BK1300 := A_ (hbox); have GW1300 := A_ ((by rw [hg]; exact (below_size (bl1_ HB GE1299.out)) : w.heap.size ≤ gb1300)); have GE1300 := A_ ((by rw [hg]; exact (below_size (bl1_ HB GE1299.out)) : w.heap.size ≤ gb1300)); have NB1299_1300 := A_ ((by rw [hg]; exact Nat.ne_of_lt (blk_lt (bx_ BK1299)) : gb1299 ≠ gb1300)); have NB1300_1299 := A_ ((by rw [hg]; exact Nat.ne_of_gt (blk_lt (bx_ BK1299)) : gb1300 ≠ gb1299)); replace BK1299 := A_ (blk_below (bx_ BK1299) hb); replace HB := A_ (below_step (bl1_ HB GE1299.out) hb); clear hb hbox hg) | ((with_reducible refine gate_dst (N := 5) rfl ?_); refine be_ (N := 5) (cs := #[.int .i64 a2_0, .int .i64 a2_1, .int .i64 a2_2]) (t := 135) ?_; intro gb1301 hg w14 hbox hb; have BK1301 := A_ (hbox); have GW1301 := A_ ((by rw [hg]; exact (below_size (bl2_ HB GE1299.out GE1300.out)) : w.heap.size ≤ gb1301)); have GE1301 := A_ ((by rw [hg]; exact (below_size (bl2_ HB GE1299.out GE1300.out)) : w.heap.size ≤ gb1301)); have NB1299_1301 := A_ ((by rw [hg]; exact Nat.ne_of_lt (blk_lt (bx_ BK1299)) : gb1299 ≠ gb1301)); have NB1301_1299 := A_ ((by rw [hg]; exact Nat.ne_of_gt (blk_lt (bx_ BK1299)) : gb1301 ≠ gb1299)); have NB1300_1301 := A_ ((by rw [hg]; exact Nat.ne_of_lt (blk_lt (bx_ BK1300)) : gb1300 ≠ gb1301)); have NB1301_1300 := A_ ((by rw [hg]; exact Nat.ne_of_gt (blk_lt (bx_ BK1300)) : gb1301 ≠ gb1300)); replace BK1299 := A_ (blk_below (bx_ BK1299) hb); replace BK1300 := A_ (blk_below (bx_ BK1300) hb); replace HB := A_ (below_step (bl2_ HB GE1299.out GE1300.out) hb); clear hb hbox hg) | ((with_reducible refine gate_callee (f := 77) rfl ?_); refine gm_ (some 19) Try.func77 #[] ?_; (with_reducible refine (stipendlaw13_dues.calls k  true _ A4.out).mono ?_); rintro e w15 ⟨rfl, hb⟩; refine ⟨_, rfl, ?_⟩; replace BK1299 := A_ (blk_below (bx_ BK1299) hb); replace BK1300 := A_ (blk_below (bx_ BK1300) hb); replace BK1301 := A_ (blk_below (bx_ BK1301) hb); replace HB := A_ (below_step (bl3_ HB GE1299.out GE1300.out GE1301.out) hb); (try clear hb); (try clear hb2); (try clear hk); (try clear hi); have hnb16 := NB1299_1300.out; have hnc16 := NB1300_1299.out; have hnb17 := NB1299_1301.out; have hnc17 := NB1301_1299.out; have hcz18_0 := cz_ BK1299 0; have hcz18_1 := cz_ BK1299 1; have hcz18_2 := cz_ BK1299 2; have hcz18_3 := cz_ BK1299 3; have hcz18_4 := cz_ BK1299 4; have hfz18_0 := fz_ BK1299 0; have hfz18_1 := fz_ BK1299 1; have hfz18_2 := fz_ BK1299 2; have hfz18_3 := fz_ BK1299 3; have hfz18_4 := fz_ BK1299 4; have hnb19 := NB1300_1301.out; have hnc19 := NB1301_1300.out; have hcz20_0 := cz_ BK1300 0; have hcz20_1 := cz_ BK1300 1; have hcz20_2 := cz_ BK1300 2; have hcz20_3 := cz_ BK1300 3; have hcz20_4 := cz_ BK1300 4; have hfz20_0 := fz_ BK1300 0; have hfz20_1 := fz_ BK1300 1; have hfz20_2 := fz_ BK1300 2; have hfz20_3 := fz_ BK1300 3; have hfz20_4 := fz_ BK1300 4; have hcz21_0 := cz_ BK1301 0; have hcz21_1 := cz_ BK1301 1; have hcz21_2 := cz_ BK1301 2; have hfz21_0 := fz_ BK1301 0; have hfz21_1 := fz_ BK1301 1; have hfz21_2 := fz_ BK1301 2) | ((with_reducible refine gate_callee (f := 78) rfl ?_); refine gm_ (some 28) Try.func78 #[.agg #[.slice A0_0 l0_0.length c0_0, .slice A0_1 l0_1.length c0_1, .slice A0_2 l0_2.length c0_2, .int .i64 a0_3, .int .i64 a0_4], .agg #[.int .i64 a1_0, .int .i64 a1_1, .int .i64 a1_2, .int .i64 a1_3, .bool a1_4], .agg #[.int .i64 a2_1, .int .i64 a2_2]] ?_; (with_reducible refine (stipendlaw13_fits.calls k _ _ l0_0 _ _ l0_1 _ _ l0_2 a0_3 a0_4 a1_0 a1_1 a1_2 a1_3 a1_4 a2_1 a2_2 true _ ?side1 ?side2 ?side3 ?side4 ?side5 ?side6 A6.out).mono ?_); (case side1 => exact cb_ HR0_0 HB); (case side2 => exact HC0_0.out); (case side3 => exact cb_ HR0_1 HB); (case side4 => exact HC0_1.out); (case side5 => exact cb_ HR0_2 HB); (case side6 => exact HC0_2.out); rintro e w22 ⟨rfl, hb⟩; refine ⟨_, rfl, ?_⟩; replace BK1299 := A_ (blk_below (bx_ BK1299) hb); replace BK1300 := A_ (blk_below (bx_ BK1300) hb); replace BK1301 := A_ (blk_below (bx_ BK1301) hb); replace HB := A_ (below_step (bl3_ HB GE1299.out GE1300.out GE1301.out) hb); (try clear hb); (try clear hb2); (try clear hk); (try clear hi); have hcz23_0 := cz_ BK1299 0; have hcz23_1 := cz_ BK1299 1; have hcz23_2 := cz_ BK1299 2; have hcz23_3 := cz_ BK1299 3; have hcz23_4 := cz_ BK1299 4; have hfz23_0 := fz_ BK1299 0; have hfz23_1 := fz_ BK1299 1; have hfz23_2 := fz_ BK1299 2; have hfz23_3 := fz_ BK1299 3; have hfz23_4 := fz_ BK1299 4; have hcz24_0 := cz_ BK1300 0; have hcz24_1 := cz_ BK1300 1; have hcz24_2 := cz_ BK1300 2; have hcz24_3 := cz_ BK1300 3; have hcz24_4 := cz_ BK1300 4; have hfz24_0 := fz_ BK1300 0; have hfz24_1 := fz_ BK1300 1; have hfz24_2 := fz_ BK1300 2; have hfz24_3 := fz_ BK1300 3; have hfz24_4 := fz_ BK1300 4; have hcz25_0 := cz_ BK1301 0; have hcz25_1 := cz_ BK1301 1; have hcz25_2 := cz_ BK1301 2; have hfz25_0 := fz_ BK1301 0; have hfz25_1 := fz_ BK1301 1; have hfz25_2 := fz_ BK1301 2) | ((with_reducible refine gate_callee (f := 92) rfl ?_); refine gm_ (some 39) Try.func92 #[.agg #[.slice A0_0 l0_0.length c0_0, .slice A0_1 l0_1.length c0_1, .slice A0_2 l0_2.length c0_2, .int .i64 a0_3, .int .i64 a0_4], .agg #[.int .i64 a1_0, .int .i64 a1_1, .int .i64 a1_2, .int .i64 a1_3, .bool a1_4], .int .i64 a2_0, .int .i64 a2_1, .int .i64 a2_2] ?_; (with_reducible refine (tax_Explain.calls k _ _ l0_0 _ _ l0_1 _ _ l0_2 a0_3 a0_4 a1_0 a1_1 a1_2 a1_3 a1_4 a2_0 a2_1 a2_2 t1304 t1307 _ ?side1 ?side2 ?side3 ?side4 ?side5 ?side6 A8.out).mono ?_); (case side1 => exact cb_ HR0_0 HB); (case side2 => exact HC0_0.out); (case side3 => exact cb_ HR0_1 HB); (case side4 => exact HC0_1.out); (case side5 => exact cb_ HR0_2 HB); (case side6 => exact HC0_2.out); rintro e w26 ⟨v1305, rfl, ho0, hb⟩; refine ⟨_, rfl, ?_⟩; have HO1306 := A_ (Kd.R_lower ho0 (below_size (bl3_ HB GE1299.out GE1300.out GE1301.out))); replace BK1299 := A_ (blk_below (bx_ BK1299) hb); replace BK1300 := A_ (blk_below (bx_ BK1300) hb); replace BK1301 := A_ (blk_below (bx_ BK1301) hb); replace HB := A_ (below_step (bl3_ HB GE1299.out GE1300.out GE1301.out) hb); (try clear hb); (try clear hb2); (try clear hk); (try clear hi); (try clear ho0); have hcz27_0 := cz_ BK1299 0; have hcz27_1 := cz_ BK1299 1; have hcz27_2 := cz_ BK1299 2; have hcz27_3 := cz_ BK1299 3; have hcz27_4 := cz_ BK1299 4; have hfz27_0 := fz_ BK1299 0; have hfz27_1 := fz_ BK1299 1; have hfz27_2 := fz_ BK1299 2; have hfz27_3 := fz_ BK1299 3; have hfz27_4 := fz_ BK1299 4; have hcz28_0 := cz_ BK1300 0; have hcz28_1 := cz_ BK1300 1; have hcz28_2 := cz_ BK1300 2; have hcz28_3 := cz_ BK1300 3; have hcz28_4 := cz_ BK1300 4; have hfz28_0 := fz_ BK1300 0; have hfz28_1 := fz_ BK1300 1; have hfz28_2 := fz_ BK1300 2; have hfz28_3 := fz_ BK1300 3; have hfz28_4 := fz_ BK1300 4; have hcz29_0 := cz_ BK1301 0; have hcz29_1 := cz_ BK1301 1; have hcz29_2 := cz_ BK1301 2; have hfz29_0 := fz_ BK1301 0; have hfz29_1 := fz_ BK1301 1; have hfz29_2 := fz_ BK1301 2) | ((with_reducible refine gate_callee (f := 93) rfl ?_); refine gm_ (some 51) Try.func93 #[.agg #[.slice A0_0 l0_0.length c0_0, .slice A0_1 l0_1.length c0_1, .slice A0_2 l0_2.length c0_2, .int .i64 a0_3, .int .i64 a0_4], .agg #[.int .i64 a1_0, .int .i64 a1_1, .int .i64 a1_2, .int .i64 a1_3, .bool a1_4], .int .i64 a2_0, .int .i64 a2_1, .int .i64 a2_2] ?_; (with_reducible refine (tax_Average.calls k _ _ l0_0 _ _ l0_1 _ _ l0_2 a0_3 a0_4 a1_0 a1_1 a1_2 a1_3 a1_4 a2_0 a2_1 a2_2 t1308 t1309 _ ?side1 ?side2 ?side3 ?side4 ?side5 ?side6 A9.out).mono ?_); (case side1 => exact cb_ HR0_0 HB); (case side2 => exact HC0_0.out); (case side3 => exact cb_ HR0_1 HB); (case side4 => exact HC0_1.out); (case side5 => exact cb_ HR0_2 HB); (case side6 => exact HC0_2.out); rintro e w30 ⟨rfl, hb⟩; refine ⟨_, rfl, ?_⟩; replace HO1306 := A_ (Kd.R_below (ro_ HO1306) hb); replace BK1299 := A_ (blk_below (bx_ BK1299) hb); replace BK1300 := A_ (blk_below (bx_ BK1300) hb); replace BK1301 := A_ (blk_below (bx_ BK1301) hb); replace HB := A_ (below_step (bl3_ HB GE1299.out GE1300.out GE1301.out) hb); (try clear hb); (try clear hb2); (try clear hk); (try clear hi); have hcz31_0 := cz_ BK1300 0; have hcz31_1 := cz_ BK1300 1; have hcz31_2 := cz_ BK1300 2; have hcz31_3 := cz_ BK1300 3; have hcz31_4 := cz_ BK1300 4; have hfz31_0 := fz_ BK1300 0; have hfz31_1 := fz_ BK1300 1; have hfz31_2 := fz_ BK1300 2; have hfz31_3 := fz_ BK1300 3; have hfz31_4 := fz_ BK1300 4; have hcz32_0 := cz_ BK1301 0; have hcz32_1 := cz_ BK1301 1; have hcz32_2 := cz_ BK1301 2; have hfz32_0 := fz_ BK1301 0; have hfz32_1 := fz_ BK1301 1; have hfz32_2 := fz_ BK1301 2) | ((with_reducible refine gate_callee (f := 81) rfl ?_); refine gm_ (some 62) Try.func81 #[.agg #[.int .i64 a1_0, .int .i64 a1_1, .int .i64 a1_2, .int .i64 a1_3, .bool a1_4], .int .i64 a2_0, .int .i64 a2_1, .int .i64 a2_2] ?_; (with_reducible refine (code_Charge.calls k a1_0 a1_1 a1_2 a1_3 a1_4 a2_0 a2_1 a2_2 t1310 t1311 _ A10.out).mono ?_); rintro e w33 ⟨rfl, hb⟩; refine ⟨_, rfl, ?_⟩; replace HO1306 := A_ (Kd.R_below (ro_ HO1306) hb); replace BK1299 := A_ (blk_below (bx_ BK1299) hb); replace BK1300 := A_ (blk_below (bx_ BK1300) hb); replace BK1301 := A_ (blk_below (bx_ BK1301) hb); replace HB := A_ (below_step (bl3_ HB GE1299.out GE1300.out GE1301.out) hb); (try clear hb); (try clear hb2); (try clear hk); (try clear hi); obtain ⟨Ao34, co34, eo34⟩ := Kd.R_slice HO1306.out; subst eo34))
    go_loopg [13, 14, 15, 86] k (fun kq v13 v14 v15 v86 w' => ∃ (x13_1 : Int) (x14_1 : Int) (x15_1 : Int) (x86_1 : Int), v13 = .int .i64 x13_1 ∧ v14 = .int .i64 x14_1 ∧ v15 = .int .i64 x15_1 ∧ v86 = .int .i64 x86_1 ∧ Aside0 (stipendlaw13_TaxExplains.l0 kq t1304 t1307 t1308 t1309 t1310 x13_1 x14_1 x15_1 t1304 (t1304.length : Int) x86_1 l0_0 l0_1 l0_2 a0_3 a0_4 a1_0 a1_1 a1_2 a1_3 a1_4 a2_0 a2_1 a2_2 = some r) ∧ Aside0 (kq ≤ k) ∧ Aside0 (Kd.R k159 159 w' w.heap.size (fun _ => True) (.slice Ao34 t1304.length co34) t1304) ∧ Aside0 (Kd.R k159 159 w' w.heap.size (fun _ => True) (.slice Ao34 t1304.length co34) t1304) ∧ Aside0 (w'.heap[gb1299]? = some (.cells #[(.slice A0_0 l0_0.length c0_0), (.slice A0_1 l0_1.length c0_1), (.slice A0_2 l0_2.length c0_2), .int .i64 a0_3, .int .i64 a0_4] 56 (0, 0))) ∧ Aside0 (w'.heap[gb1300]? = some (.cells #[.int .i64 a1_0, .int .i64 a1_1, .int .i64 a1_2, .int .i64 a1_3, .bool a1_4] 88 (0, 0))) ∧ Aside0 (w'.heap[gb1301]? = some (.cells #[.int .i64 a2_0, .int .i64 a2_1, .int .i64 a2_2] 135 (0, 0))) ∧ Aside0 (Below w.heap.size w w'))
    case atStart => exact ⟨(0), (0), (0), (0), (sx_), (sx_), (sx_), (sx_), H', ⟨Nat.le_refl _⟩, ⟨ro_ HO1306⟩, ⟨ro_ HO1306⟩, ⟨bx_ BK1299⟩, ⟨bx_ BK1300⟩, ⟨bx_ BK1301⟩, ⟨bl3_ HB GE1299.out GE1300.out GE1301.out⟩⟩
    case round =>
     clear H'; try clear c1
     try clear c2
     try clear p2
     try clear c5
     try clear c7
     try clear c8
     try clear c9
     try clear c11
     try clear c11b0
     try clear c11b1
     try clear c16
     try clear c17
     try clear c19
     try clear c23
     try clear hcz18_0 hcz18_1 hcz18_2 hcz18_3 hcz18_4
     try clear hcz20_0 hcz20_1 hcz20_2 hcz20_3 hcz20_4
     try clear hcz21_0 hcz21_1 hcz21_2
     try clear hcz23_0 hcz23_1 hcz23_2 hcz23_3 hcz23_4
     try clear hcz24_0 hcz24_1 hcz24_2 hcz24_3 hcz24_4
     try clear hcz25_0 hcz25_1 hcz25_2
     try clear hcz27_0 hcz27_1 hcz27_2 hcz27_3 hcz27_4
     try clear hcz28_0 hcz28_1 hcz28_2 hcz28_3 hcz28_4
     try clear hcz29_0 hcz29_1 hcz29_2
     try clear hcz31_0 hcz31_1 hcz31_2 hcz31_3 hcz31_4
     try clear hcz32_0 hcz32_1 hcz32_2
     try clear hfz18_0 hfz18_1 hfz18_2 hfz18_3 hfz18_4
     try clear hfz20_0 hfz20_1 hfz20_2 hfz20_3 hfz20_4
     try clear hfz21_0 hfz21_1 hfz21_2
     try clear hfz23_0 hfz23_1 hfz23_2 hfz23_3 hfz23_4
     try clear hfz24_0 hfz24_1 hfz24_2 hfz24_3 hfz24_4
     try clear hfz25_0 hfz25_1 hfz25_2
     try clear hfz27_0 hfz27_1 hfz27_2 hfz27_3 hfz27_4
     try clear hfz28_0 hfz28_1 hfz28_2 hfz28_3 hfz28_4
     try clear hfz29_0 hfz29_1 hfz29_2
     try clear hfz31_0 hfz31_1 hfz31_2 hfz31_3 hfz31_4
     try clear hfz32_0 hfz32_1 hfz32_2
     obtain ⟨x13_1, x14_1, x15_1, x86_1, rfl, rfl, rfl, rfl, HA, HK1, HO_7, HO_84, BK1299, BK1300, BK1301, HB⟩ := hrel
     cases gk with
     | zero => exact absurd HA.out (by simp [stipendlaw13_TaxExplains.l0])
     | succ k1 =>
      have H := HA.out; clear HA; simp only [stipendlaw13_TaxExplains.l0] at H; by_cases c35 : x86_1 < (t1304.length : Int)
      ·rw [if_pos c35] at H; have c35b0 := decide_eq_true c35; clear c35; by_cases c36 : 0 ≤ x86_1
       ·rw [if_pos c36] at H; have c36b0 := decide_eq_true c36; clear c36; by_cases c37 : x86_1 < (t1304.length : Int)
        ·rw [if_pos c37] at H; have c37b0 := decide_eq_true c37; clear c37; have HC38 := A_ H; clear H; have p1312 : 0 ≤ (x86_1 : Int) := od_; have q1312 : x86_1 < (t1304.length : Int) := od_; obtain ⟨ad1312, e1312, hx1312_0, hx1312_1, hx1312_2⟩ := at_T159 (Kd.R_reads' HO_84.out).2.2 x86_1 p1312 q1312; cases e1312; replace p1312 := eq_true p1312; replace q1312 := eq_true q1312; go_upto_region 14 with (first | ((with_reducible refine gate_dst (N := 17) rfl ?_); refine be_ (N := 17) (cs := #[.int .i64 0, .int .i64 0, .int .i64 0]) (t := 159) ?_; intro gb1313 hg w39 hbox hb; have BK1313 := A_ (hbox); have GW1313 := A_ ((by rw [hg]; exact (below_size (bl3_ HB GE1299.out GE1300.out GE1301.out)) : w.heap.size ≤ gb1313)); have GE1313 := A_ ((by rw [hg]; exact (below_size (bl3_ HB GE1299.out GE1300.out GE1301.out)) : w.heap.size ≤ gb1313)); have NB1299_1313 := A_ ((by rw [hg]; exact Nat.ne_of_lt (blk_lt (bx_ BK1299)) : gb1299 ≠ gb1313)); have NB1313_1299 := A_ ((by rw [hg]; exact Nat.ne_of_gt (blk_lt (bx_ BK1299)) : gb1313 ≠ gb1299)); have NB1300_1313 := A_ ((by rw [hg]; exact Nat.ne_of_lt (blk_lt (bx_ BK1300)) : gb1300 ≠ gb1313)); have NB1313_1300 := A_ ((by rw [hg]; exact Nat.ne_of_gt (blk_lt (bx_ BK1300)) : gb1313 ≠ gb1300)); have NB1301_1313 := A_ ((by rw [hg]; exact Nat.ne_of_lt (blk_lt (bx_ BK1301)) : gb1301 ≠ gb1313)); have NB1313_1301 := A_ ((by rw [hg]; exact Nat.ne_of_gt (blk_lt (bx_ BK1301)) : gb1313 ≠ gb1301)); replace HO_7 := A_ (Kd.R_below (Kd.R_elderB (ro_ HO_7) gb1313 (Nat.le_of_eq hg.symm)) hb); replace HO_84 := A_ (Kd.R_below (Kd.R_elderB (ro_ HO_84) gb1313 (Nat.le_of_eq hg.symm)) hb); replace BK1299 := A_ (blk_below (bx_ BK1299) hb); replace BK1300 := A_ (blk_below (bx_ BK1300) hb); replace BK1301 := A_ (blk_below (bx_ BK1301) hb); replace HB := A_ (below_step (bl3_ HB GE1299.out GE1300.out GE1301.out) hb); clear hb hbox hg; have hnb40 := NB1313_1299.out; have hnc40 := NB1299_1313.out; have hnb41 := NB1313_1300.out; have hnc41 := NB1300_1313.out; have hnb42 := NB1313_1301.out; have hnc42 := NB1301_1313.out; have hcz43_0 := cz_ BK1313 0; have hcz43_1 := cz_ BK1313 1; have hcz43_2 := cz_ BK1313 2; have hfz43_0 := fz_ BK1313 0; have hfz43_1 := fz_ BK1313 1; have hfz43_2 := fz_ BK1313 2))
         (try simp only [Act.put, List.setIfInBounds_toArray, List.set_cons_zero, List.set_cons_succ])
         go_cut [102] (fun v102 wc => ∃ (kq : Nat) (x102_37 : Bool), v102 = .bool x102_37 ∧ Aside0 (stipendlaw13_TaxExplains.j1 kq t1304 t1307 t1308 t1309 t1310 x13_1 x14_1 x15_1 t1304 (t1304.length : Int) x86_1 x102_37 l0_0 l0_1 l0_2 a0_3 a0_4 a1_0 a1_1 a1_2 a1_3 a1_4 a2_0 a2_1 a2_2 ((rd_T159 t1304 x86_1).f0) ((rd_T159 t1304 x86_1).f1) ((rd_T159 t1304 x86_1).f2) = some r) ∧ Aside0 (kq ≤ k1) ∧ Aside0 (Kd.R k159 159 wc w.heap.size (fun k_ => k_ ≠ gb1313) (.slice (some ad1312) t1304.length co34) t1304) ∧ Aside0 (Kd.R k159 159 wc w.heap.size (fun k_ => k_ ≠ gb1313) (.slice (some ad1312) t1304.length co34) t1304) ∧ Aside0 (wc.heap[gb1299]? = some (.cells #[(.slice A0_0 l0_0.length c0_0), (.slice A0_1 l0_1.length c0_1), (.slice A0_2 l0_2.length c0_2), .int .i64 a0_3, .int .i64 a0_4] 56 (0, 0))) ∧ Aside0 (wc.heap[gb1300]? = some (.cells #[.int .i64 a1_0, .int .i64 a1_1, .int .i64 a1_2, .int .i64 a1_3, .bool a1_4] 88 (0, 0))) ∧ Aside0 (wc.heap[gb1301]? = some (.cells #[.int .i64 a2_0, .int .i64 a2_1, .int .i64 a2_2] 135 (0, 0))) ∧ Aside0 (wc.heap[gb1313]? = some (.cells #[.int .i64 ((rd_T159 t1304 x86_1).f0), .int .i64 ((rd_T159 t1304 x86_1).f1), .int .i64 ((rd_T159 t1304 x86_1).f2)] 159 (0, 0))) ∧ Aside0 (Below w.heap.size w wc))
         case first =>
          have H := HC38.out; clear HC38; by_cases c44 : ((rd_T159 t1304 x86_1).f1) ≤ 0
          ·rw [if_pos c44] at H; have c44b0 := decide_eq_true c44; clear c44
           (first | rw [c44b0] | (simp only [i64_w, i32_w]; rw [c44b0]) | skip)
           have H' := A_ H; clear H; have hnb45 := NB1313_1299.out; have hnc45 := NB1299_1313.out; have hnb46 := NB1313_1300.out; have hnc46 := NB1300_1313.out; have hnb47 := NB1313_1301.out; have hnc47 := NB1301_1313.out; have hcz48_0 := cz_ BK1313 0; have hcz48_1 := cz_ BK1313 1; have hcz48_2 := cz_ BK1313 2; have hfz48_0 := fz_ BK1313 0; have hfz48_1 := fz_ BK1313 1; have hfz48_2 := fz_ BK1313 2
           go_wp2
           go_meet
           case rel => exact ⟨_, (true), (sx_), H', ⟨by have := HK1.out; first | omega | exact Nat.le_refl _⟩, ⟨by (with_reducible repeat (first | apply Kd.R_alloc | apply Kd.R_drewN | apply Kd.R_drew)); exact Kd.R_mono (Kd.R_far (p := ⟨gb1313, 2, none⟩) (Kd.R_far (p := ⟨gb1313, 1, none⟩) (Kd.R_far (p := ⟨gb1313, 0, none⟩) (Kd.R_mono HO_7.out (fun k_ hk => (⟨hk, hk.2⟩ : _ ∧ k_ ≠ gb1313))) (fun _ hk => hk.2) (.int .i64 ((rd_T159 t1304 x86_1).f0))) (fun _ hk => hk.2) (.int .i64 ((rd_T159 t1304 x86_1).f1))) (fun _ hk => hk.2) (.int .i64 ((rd_T159 t1304 x86_1).f2))) (fun _ hk => hk.1.2)⟩, ⟨by (with_reducible repeat (first | apply Kd.R_alloc | apply Kd.R_drewN | apply Kd.R_drew)); exact Kd.R_mono (Kd.R_far (p := ⟨gb1313, 2, none⟩) (Kd.R_far (p := ⟨gb1313, 1, none⟩) (Kd.R_far (p := ⟨gb1313, 0, none⟩) (Kd.R_mono HO_84.out (fun k_ hk => (⟨hk, hk.2⟩ : _ ∧ k_ ≠ gb1313))) (fun _ hk => hk.2) (.int .i64 ((rd_T159 t1304 x86_1).f0))) (fun _ hk => hk.2) (.int .i64 ((rd_T159 t1304 x86_1).f1))) (fun _ hk => hk.2) (.int .i64 ((rd_T159 t1304 x86_1).f2))) (fun _ hk => hk.1.2)⟩, ⟨by refine bw_ ?_; refine blk_far ?_ NB1299_1313.out _; refine bw_ ?_; refine blk_far ?_ NB1299_1313.out _; refine bw_ ?_; refine blk_far ?_ NB1299_1313.out _; refine bw_ ?_; exact BK1299.out⟩, ⟨by refine bw_ ?_; refine blk_far ?_ NB1300_1313.out _; refine bw_ ?_; refine blk_far ?_ NB1300_1313.out _; refine bw_ ?_; refine blk_far ?_ NB1300_1313.out _; refine bw_ ?_; exact BK1300.out⟩, ⟨by refine bw_ ?_; refine blk_far ?_ NB1301_1313.out _; refine bw_ ?_; refine blk_far ?_ NB1301_1313.out _; refine bw_ ?_; refine blk_far ?_ NB1301_1313.out _; refine bw_ ?_; exact BK1301.out⟩, ⟨by refine bw_ ?_; refine blk_put (cs := #[.int .i64 ((rd_T159 t1304 x86_1).f0), .int .i64 ((rd_T159 t1304 x86_1).f1), .int .i64 0]) ?_ 2 _ rfl; refine bw_ ?_; refine blk_put (cs := #[.int .i64 ((rd_T159 t1304 x86_1).f0), .int .i64 0, .int .i64 0]) ?_ 1 _ rfl; refine bw_ ?_; refine blk_put (cs := #[.int .i64 0, .int .i64 0, .int .i64 0]) ?_ 0 _ rfl; refine bw_ ?_; exact BK1313.out⟩, ⟨bl4_ HB GE1299.out GE1300.out GE1301.out GE1313.out⟩⟩
          ·rw [if_neg c44] at H; have c44b0 := decide_eq_false c44; clear c44
           (first | rw [c44b0] | (simp only [i64_w, i32_w]; rw [c44b0]) | skip)
           have H' := A_ H; clear H; have hnb49 := NB1313_1299.out; have hnc49 := NB1299_1313.out; have hnb50 := NB1313_1300.out; have hnc50 := NB1300_1313.out; have hnb51 := NB1313_1301.out; have hnc51 := NB1301_1313.out; have hcz52_0 := cz_ BK1313 0; have hcz52_1 := cz_ BK1313 1; have hcz52_2 := cz_ BK1313 2; have hfz52_0 := fz_ BK1313 0; have hfz52_1 := fz_ BK1313 1; have hfz52_2 := fz_ BK1313 2
           go_wp2
           go_meet
           case rel => exact ⟨_, ((((rd_T159 t1304 x86_1).f2) != (wrap64 (((rd_T159 t1304 x86_1).f1) * ((rd_T159 t1304 x86_1).f0))))), (sx_), H', ⟨by have := HK1.out; first | omega | exact Nat.le_refl _⟩, ⟨by (with_reducible repeat (first | apply Kd.R_alloc | apply Kd.R_drewN | apply Kd.R_drew)); exact Kd.R_mono (Kd.R_far (p := ⟨gb1313, 2, none⟩) (Kd.R_far (p := ⟨gb1313, 1, none⟩) (Kd.R_far (p := ⟨gb1313, 0, none⟩) (Kd.R_mono HO_7.out (fun k_ hk => (⟨hk, hk.2⟩ : _ ∧ k_ ≠ gb1313))) (fun _ hk => hk.2) (.int .i64 ((rd_T159 t1304 x86_1).f0))) (fun _ hk => hk.2) (.int .i64 ((rd_T159 t1304 x86_1).f1))) (fun _ hk => hk.2) (.int .i64 ((rd_T159 t1304 x86_1).f2))) (fun _ hk => hk.1.2)⟩, ⟨by (with_reducible repeat (first | apply Kd.R_alloc | apply Kd.R_drewN | apply Kd.R_drew)); exact Kd.R_mono (Kd.R_far (p := ⟨gb1313, 2, none⟩) (Kd.R_far (p := ⟨gb1313, 1, none⟩) (Kd.R_far (p := ⟨gb1313, 0, none⟩) (Kd.R_mono HO_84.out (fun k_ hk => (⟨hk, hk.2⟩ : _ ∧ k_ ≠ gb1313))) (fun _ hk => hk.2) (.int .i64 ((rd_T159 t1304 x86_1).f0))) (fun _ hk => hk.2) (.int .i64 ((rd_T159 t1304 x86_1).f1))) (fun _ hk => hk.2) (.int .i64 ((rd_T159 t1304 x86_1).f2))) (fun _ hk => hk.1.2)⟩, ⟨by refine bw_ ?_; refine blk_far ?_ NB1299_1313.out _; refine bw_ ?_; refine blk_far ?_ NB1299_1313.out _; refine bw_ ?_; refine blk_far ?_ NB1299_1313.out _; refine bw_ ?_; exact BK1299.out⟩, ⟨by refine bw_ ?_; refine blk_far ?_ NB1300_1313.out _; refine bw_ ?_; refine blk_far ?_ NB1300_1313.out _; refine bw_ ?_; refine blk_far ?_ NB1300_1313.out _; refine bw_ ?_; exact BK1300.out⟩, ⟨by refine bw_ ?_; refine blk_far ?_ NB1301_1313.out _; refine bw_ ?_; refine blk_far ?_ NB1301_1313.out _; refine bw_ ?_; refine blk_far ?_ NB1301_1313.out _; refine bw_ ?_; exact BK1301.out⟩, ⟨by refine bw_ ?_; refine blk_put (cs := #[.int .i64 ((rd_T159 t1304 x86_1).f0), .int .i64 ((rd_T159 t1304 x86_1).f1), .int .i64 0]) ?_ 2 _ rfl; refine bw_ ?_; refine blk_put (cs := #[.int .i64 ((rd_T159 t1304 x86_1).f0), .int .i64 0, .int .i64 0]) ?_ 1 _ rfl; refine bw_ ?_; refine blk_put (cs := #[.int .i64 0, .int .i64 0, .int .i64 0]) ?_ 0 _ rfl; refine bw_ ?_; exact BK1313.out⟩, ⟨bl4_ HB GE1299.out GE1300.out GE1301.out GE1313.out⟩⟩
         case rest =>
          clear HC38; try clear c1
          try clear p1
          try clear q1
          try clear hx1
          try clear c2
          try clear p2
          try clear c3
          try clear c4
          try clear c5
          try clear p6
          try clear c7
          try clear c8
          try clear c9
          try clear c11
          try clear c11b0
          try clear c11b1
          try clear p13
          try clear q13
          try clear hx13
          try clear c16
          try clear c17
          try clear c19
          try clear c23
          try clear c35
          try clear c35b0
          try clear c36
          try clear c36b0
          try clear c37
          try clear c37b0
          try clear c40
          try clear c41
          try clear c42
          try clear c44
          try clear c44b0
          try clear c45
          try clear c46
          try clear c47
          try clear c49
          try clear c50
          try clear c51
          try clear hcz18_0 hcz18_1 hcz18_2 hcz18_3 hcz18_4
          try clear hcz20_0 hcz20_1 hcz20_2 hcz20_3 hcz20_4
          try clear hcz21_0 hcz21_1 hcz21_2
          try clear hcz23_0 hcz23_1 hcz23_2 hcz23_3 hcz23_4
          try clear hcz24_0 hcz24_1 hcz24_2 hcz24_3 hcz24_4
          try clear hcz25_0 hcz25_1 hcz25_2
          try clear hcz27_0 hcz27_1 hcz27_2 hcz27_3 hcz27_4
          try clear hcz28_0 hcz28_1 hcz28_2 hcz28_3 hcz28_4
          try clear hcz29_0 hcz29_1 hcz29_2
          try clear hcz31_0 hcz31_1 hcz31_2 hcz31_3 hcz31_4
          try clear hcz32_0 hcz32_1 hcz32_2
          try clear hcz43_0 hcz43_1 hcz43_2
          try clear hcz48_0 hcz48_1 hcz48_2
          try clear hcz52_0 hcz52_1 hcz52_2
          try clear hfz18_0 hfz18_1 hfz18_2 hfz18_3 hfz18_4
          try clear hfz20_0 hfz20_1 hfz20_2 hfz20_3 hfz20_4
          try clear hfz21_0 hfz21_1 hfz21_2
          try clear hfz23_0 hfz23_1 hfz23_2 hfz23_3 hfz23_4
          try clear hfz24_0 hfz24_1 hfz24_2 hfz24_3 hfz24_4
          try clear hfz25_0 hfz25_1 hfz25_2
          try clear hfz27_0 hfz27_1 hfz27_2 hfz27_3 hfz27_4
          try clear hfz28_0 hfz28_1 hfz28_2 hfz28_3 hfz28_4
          try clear hfz29_0 hfz29_1 hfz29_2
          try clear hfz31_0 hfz31_1 hfz31_2 hfz31_3 hfz31_4
          try clear hfz32_0 hfz32_1 hfz32_2
          try clear hfz43_0 hfz43_1 hfz43_2
          try clear hfz48_0 hfz48_1 hfz48_2
          try clear hfz52_0 hfz52_1 hfz52_2
          try clear hx1312_0
          try clear hx1312_1
          try clear hx1312_2
          try clear p1312
          try clear p2
          try clear q1312
          obtain ⟨kq, x102_37, rfl, HA, HJ37, HO_7, HO_84, BK1299, BK1300, BK1301, BK1313, HB⟩ := hcut
          cases kq with
          | zero => exact absurd HA.out (by simp [stipendlaw13_TaxExplains.j1])
          | succ kj37 =>
           have H := HA.out; clear HA; simp only [stipendlaw13_TaxExplains.j1] at H; by_cases c53 : x102_37 = true
           ·subst c53; rw [if_pos rfl] at H; exact absurd H (by simp)
           ·replace c53 := Bool.eq_false_iff.mpr c53; subst c53; rw [if_neg (show ¬ (false = true) by decide)] at H; obtain ⟨ji54, hji54⟩ : ∃ j_ : Int, (mx x15_1 ((rd_T159 t1304 x86_1).f0)) = j_ := ⟨_, rfl⟩; replace H : (stipendlaw13_TaxExplains.l0 kj37 t1304 t1307 t1308 t1309 t1310 (wrap64 (x13_1 + ((rd_T159 t1304 x86_1).f1))) (wrap64 (x14_1 + ((rd_T159 t1304 x86_1).f2))) ji54 t1304 (t1304.length : Int) (wrap64 (x86_1 + 1)) l0_0 l0_1 l0_2 a0_3 a0_4 a1_0 a1_1 a1_2 a1_3 a1_4 a2_0 a2_1 a2_2) = some r := by first | (rw [hji54] at H; exact H) | (simp only [hji54] at H ⊢; exact H)
            have hji54_ : (if x15_1 < ((rd_T159 t1304 x86_1).f0) then ((rd_T159 t1304 x86_1).f0) else x15_1) = ji54 := hji54; have H' := A_ H; clear H; have hnb55 := NB1313_1299.out; have hnc55 := NB1299_1313.out; have hnb56 := NB1313_1300.out; have hnc56 := NB1300_1313.out; have hnb57 := NB1313_1301.out; have hnc57 := NB1301_1313.out; have hcz58_0 := cz_ BK1313 0; have hcz58_1 := cz_ BK1313 1; have hcz58_2 := cz_ BK1313 2; have hfz58_0 := fz_ BK1313 0; have hfz58_1 := fz_ BK1313 1; have hfz58_2 := fz_ BK1313 2
            go_wp2
            go_roundg kj37
            case measure => have := HK1.out; have := HJ37.out; omega
            case rel => exact ⟨(wrap64 (x13_1 + ((rd_T159 t1304 x86_1).f1))), (wrap64 (x14_1 + ((rd_T159 t1304 x86_1).f2))), (ji54), (wrap64 (x86_1 + 1)), (sx_), (sx_), (by first | rfl | (simp; done) | (simp only [← hji54] <;> (first | rfl | simp)) | (simp [*]; done)), (sx_), H', ⟨by have := HK1.out; have := HJ37.out; omega⟩, ⟨by (with_reducible repeat (first | apply Kd.R_alloc | apply Kd.R_drewN | apply Kd.R_drew)); exact Kd.R_mono HO_7.out (fun _ hk => trivial)⟩, ⟨by (with_reducible repeat (first | apply Kd.R_alloc | apply Kd.R_drewN | apply Kd.R_drew)); exact Kd.R_mono HO_84.out (fun _ hk => trivial)⟩, ⟨bx_ BK1299⟩, ⟨bx_ BK1300⟩, ⟨bx_ BK1301⟩, ⟨bl4_ HB GE1299.out GE1300.out GE1301.out GE1313.out⟩⟩
        ·rw [if_neg c37] at H; exact absurd H (by simp)
       ·rw [if_neg c36] at H; exact absurd H (by simp)
      ·rw [if_neg c35] at H; have c35b0 := decide_eq_false c35; clear c35; replace H := Option.bind_eq_some_iff.mp H; obtain ⟨t1314, A590, H⟩ := H; (try dsimp only at H); have A59 := A_ A590; clear A590; have HC60 := A_ H; clear H; have hnb61 := NB1299_1300.out; have hnc61 := NB1300_1299.out; have hnb62 := NB1299_1301.out; have hnc62 := NB1301_1299.out; have hcz63_0 := cz_ BK1299 0; have hcz63_1 := cz_ BK1299 1; have hcz63_2 := cz_ BK1299 2; have hcz63_3 := cz_ BK1299 3; have hcz63_4 := cz_ BK1299 4; have hfz63_0 := fz_ BK1299 0; have hfz63_1 := fz_ BK1299 1; have hfz63_2 := fz_ BK1299 2; have hfz63_3 := fz_ BK1299 3; have hfz63_4 := fz_ BK1299 4; have hnb64 := NB1300_1301.out; have hnc64 := NB1301_1300.out; have hcz65_0 := cz_ BK1300 0; have hcz65_1 := cz_ BK1300 1; have hcz65_2 := cz_ BK1300 2; have hcz65_3 := cz_ BK1300 3; have hcz65_4 := cz_ BK1300 4; have hfz65_0 := fz_ BK1300 0; have hfz65_1 := fz_ BK1300 1; have hfz65_2 := fz_ BK1300 2; have hfz65_3 := fz_ BK1300 3; have hfz65_4 := fz_ BK1300 4; have hcz66_0 := cz_ BK1301 0; have hcz66_1 := cz_ BK1301 1; have hcz66_2 := cz_ BK1301 2; have hfz66_0 := fz_ BK1301 0; have hfz66_1 := fz_ BK1301 1; have hfz66_2 := fz_ BK1301 2; go_upto_region 21 with (first | ((with_reducible refine gate_callee (f := 82) rfl ?_); refine gm_ (some 124) Try.func82 #[.agg #[.slice A0_0 l0_0.length c0_0, .slice A0_1 l0_1.length c0_1, .slice A0_2 l0_2.length c0_2, .int .i64 a0_3, .int .i64 a0_4], .agg #[.int .i64 a1_0, .int .i64 a1_1, .int .i64 a1_2, .int .i64 a1_3, .bool a1_4], .int .i64 a2_0, .int .i64 a2_1, .int .i64 a2_2] ?_; (with_reducible refine (stipendref13_Exact.calls k1 _ _ l0_0 _ _ l0_1 _ _ l0_2 a0_3 a0_4 a1_0 a1_1 a1_2 a1_3 a1_4 a2_0 a2_1 a2_2 t1314 _ ?side1 ?side2 ?side3 ?side4 ?side5 ?side6 A59.out).mono ?_); (case side1 => exact cb_ HR0_0 HB); (case side2 => exact HC0_0.out); (case side3 => exact cb_ HR0_1 HB); (case side4 => exact HC0_1.out); (case side5 => exact cb_ HR0_2 HB); (case side6 => exact HC0_2.out); rintro e w67 ⟨rfl, hb⟩; refine ⟨_, rfl, ?_⟩; replace HO_7 := A_ (Kd.R_below (ro_ HO_7) hb); replace HO_84 := A_ (Kd.R_below (ro_ HO_84) hb); replace BK1299 := A_ (blk_below (bx_ BK1299) hb); replace BK1300 := A_ (blk_below (bx_ BK1300) hb); replace BK1301 := A_ (blk_below (bx_ BK1301) hb); replace HB := A_ (below_step (bl3_ HB GE1299.out GE1300.out GE1301.out) hb); (try clear hb); (try clear hb2); (try clear hk); (try clear hi)))
       (try simp only [Act.put, List.setIfInBounds_toArray, List.set_cons_zero, List.set_cons_succ])
       go_cut [152] (fun v152 wc => ∃ (kq : Nat) (x152_59 : Bool), v152 = .bool x152_59 ∧ Aside0 (stipendlaw13_TaxExplains.j2 kq t1308 x15_1 t1314 x152_59 a1_0 a1_1 a1_2 a1_3 a1_4 a2_0 a2_1 a2_2 = some r) ∧ Aside0 (kq ≤ k1) ∧ Aside0 (wc.heap[gb1299]? = some (.cells #[(.slice A0_0 l0_0.length c0_0), (.slice A0_1 l0_1.length c0_1), (.slice A0_2 l0_2.length c0_2), .int .i64 a0_3, .int .i64 a0_4] 56 (0, 0))) ∧ Aside0 (wc.heap[gb1300]? = some (.cells #[.int .i64 a1_0, .int .i64 a1_1, .int .i64 a1_2, .int .i64 a1_3, .bool a1_4] 88 (0, 0))) ∧ Aside0 (wc.heap[gb1301]? = some (.cells #[.int .i64 a2_0, .int .i64 a2_1, .int .i64 a2_2] 135 (0, 0))) ∧ Aside0 (Below w.heap.size w wc))
       case first =>
        have H := HC60.out; clear HC60; by_cases c68 : t1307 = 0
        ·rw [if_pos c68] at H; have c68b0 : (t1307 == 0) = true := beq_iff_eq.mpr c68; have c68b1 : (t1307 != 0) = false := bne_eq_false_iff_eq.mpr c68; clear c68
         (first | rw [c68b0] | (simp only [i64_w, i32_w]; rw [c68b0]) | skip)
         by_cases c69 : t1309 = 0
         ·rw [if_pos c69] at H; have c69b0 : (t1309 == 0) = true := beq_iff_eq.mpr c69; have c69b1 : (t1309 != 0) = false := bne_eq_false_iff_eq.mpr c69; clear c69; by_cases c70 : x13_1 = t1310
          ·rw [if_pos c70] at H; have c70b0 : (x13_1 == t1310) = true := beq_iff_eq.mpr c70; have c70b1 : (x13_1 != t1310) = false := bne_eq_false_iff_eq.mpr c70; clear c70; by_cases c71 : x14_1 = t1314
           ·rw [if_pos c71] at H; have c71b0 : (x14_1 == t1314) = true := beq_iff_eq.mpr c71; have c71b1 : (x14_1 != t1314) = false := bne_eq_false_iff_eq.mpr c71; clear c71; by_cases c72 : 0 ≤ a1_0
            ·rw [if_pos c72] at H; have c72b0 := decide_eq_true c72; clear c72; by_cases c73 : a1_0 < (l0_0.length : Int)
             ·rw [if_pos c73] at H; have c73b0 := decide_eq_true c73; clear c73; have H' := A_ H; clear H; have hnb74 := NB1299_1300.out; have hnc74 := NB1300_1299.out; have hnb75 := NB1299_1301.out; have hnc75 := NB1301_1299.out; have hcz76_0 := cz_ BK1299 0; have hcz76_1 := cz_ BK1299 1; have hcz76_2 := cz_ BK1299 2; have hcz76_3 := cz_ BK1299 3; have hcz76_4 := cz_ BK1299 4; have hfz76_0 := fz_ BK1299 0; have hfz76_1 := fz_ BK1299 1; have hfz76_2 := fz_ BK1299 2; have hfz76_3 := fz_ BK1299 3; have hfz76_4 := fz_ BK1299 4; have hnb77 := NB1300_1301.out; have hnc77 := NB1301_1300.out; have hcz78_0 := cz_ BK1300 0; have hcz78_1 := cz_ BK1300 1; have hcz78_2 := cz_ BK1300 2; have hcz78_3 := cz_ BK1300 3; have hcz78_4 := cz_ BK1300 4; have hfz78_0 := fz_ BK1300 0; have hfz78_1 := fz_ BK1300 1; have hfz78_2 := fz_ BK1300 2; have hfz78_3 := fz_ BK1300 3; have hfz78_4 := fz_ BK1300 4; have p1315 : 0 ≤ (a1_0 : Int) := od_; have q1315 : a1_0 < (l0_0.length : Int) := od_; obtain ⟨ad1315, A1315_0, c1315_0, e1315, hx1315_0, hl1315_0, hi1315_0⟩ := at_L3 HR0_0.out a1_0 p1315 q1315; cases e1315; replace hx1315_0 := (HB.out.cell (World.block_lt_of_cell? w _ hx1315_0)).trans hx1315_0; have HR1315_0 := A_ hi1315_0; have HC1315_0 := A_ hl1315_0; clear hi1315_0 hl1315_0; replace p1315 := eq_true p1315; replace q1315 := eq_true q1315
              go_wp2
              go_meet
              case rel => exact ⟨_, (decide ((t1304.length : Int) > ((rd_L3 l0_0 a1_0).length : Int))), (sx_), H', ⟨by have := HK1.out; first | omega | exact Nat.le_refl _⟩, ⟨bx_ BK1299⟩, ⟨bx_ BK1300⟩, ⟨bx_ BK1301⟩, ⟨bl3_ HB GE1299.out GE1300.out GE1301.out⟩⟩
             ·rw [if_neg c73] at H; exact absurd H (by simp)
            ·rw [if_neg c72] at H; exact absurd H (by simp)
           ·rw [if_neg c71] at H; have c71b0 : (x14_1 == t1314) = false := beq_eq_false_iff_ne.mpr c71; have c71b1 : (x14_1 != t1314) = true := bne_iff_ne.mpr c71; have H' := A_ H; clear H
            go_wp2
            go_meet
            case rel => exact ⟨_, (true), (sx_), H', ⟨by have := HK1.out; first | omega | exact Nat.le_refl _⟩, ⟨bx_ BK1299⟩, ⟨bx_ BK1300⟩, ⟨bx_ BK1301⟩, ⟨bl3_ HB GE1299.out GE1300.out GE1301.out⟩⟩
          ·rw [if_neg c70] at H; have c70b0 : (x13_1 == t1310) = false := beq_eq_false_iff_ne.mpr c70; have c70b1 : (x13_1 != t1310) = true := bne_iff_ne.mpr c70; have H' := A_ H; clear H
           go_wp2
           go_meet
           case rel => exact ⟨_, (true), (sx_), H', ⟨by have := HK1.out; first | omega | exact Nat.le_refl _⟩, ⟨bx_ BK1299⟩, ⟨bx_ BK1300⟩, ⟨bx_ BK1301⟩, ⟨bl3_ HB GE1299.out GE1300.out GE1301.out⟩⟩
         ·rw [if_neg c69] at H; have c69b0 : (t1309 == 0) = false := beq_eq_false_iff_ne.mpr c69; have c69b1 : (t1309 != 0) = true := bne_iff_ne.mpr c69; have H' := A_ H; clear H
          go_wp2
          go_meet
          case rel => exact ⟨_, (true), (sx_), H', ⟨by have := HK1.out; first | omega | exact Nat.le_refl _⟩, ⟨bx_ BK1299⟩, ⟨bx_ BK1300⟩, ⟨bx_ BK1301⟩, ⟨bl3_ HB GE1299.out GE1300.out GE1301.out⟩⟩
        ·rw [if_neg c68] at H; have c68b0 : (t1307 == 0) = false := beq_eq_false_iff_ne.mpr c68; have c68b1 : (t1307 != 0) = true := bne_iff_ne.mpr c68
         (first | rw [c68b0] | (simp only [i64_w, i32_w]; rw [c68b0]) | skip)
         have H' := A_ H; clear H
         go_wp2
         go_meet
         case rel => exact ⟨_, (true), (sx_), H', ⟨by have := HK1.out; first | omega | exact Nat.le_refl _⟩, ⟨bx_ BK1299⟩, ⟨bx_ BK1300⟩, ⟨bx_ BK1301⟩, ⟨bl3_ HB GE1299.out GE1300.out GE1301.out⟩⟩
       case rest =>
        clear HC60; try clear c1
        try clear p1
        try clear q1
        try clear hx1
        try clear c2
        try clear p2
        try clear c3
        try clear c4
        try clear c5
        try clear c6
        try clear p6
        try clear c7
        try clear c8
        try clear c9
        try clear c11
        try clear c11b0
        try clear c11b1
        try clear c13
        try clear p13
        try clear q13
        try clear hx13
        try clear c16
        try clear c17
        try clear c19
        try clear c23
        try clear c35
        try clear c35b0
        try clear c36
        try clear c36b0
        try clear c37
        try clear c37b0
        try clear c40
        try clear c41
        try clear c42
        try clear c44
        try clear c44b0
        try clear c45
        try clear c46
        try clear c47
        try clear c49
        try clear c50
        try clear c51
        try clear c53
        try clear c55
        try clear c56
        try clear c57
        try clear c61
        try clear c62
        try clear c64
        try clear p64
        try clear c68
        try clear c68b0
        try clear c68b1
        try clear c69
        try clear c69b0
        try clear c69b1
        try clear c70
        try clear c70b0
        try clear c70b1
        try clear c71
        try clear c71b0
        try clear c71b1
        try clear c72
        try clear c72b0
        try clear c73
        try clear c73b0
        try clear c74
        try clear c75
        try clear c77
        try clear c78
        try clear hcz18_0 hcz18_1 hcz18_2 hcz18_3 hcz18_4
        try clear hcz20_0 hcz20_1 hcz20_2 hcz20_3 hcz20_4
        try clear hcz21_0 hcz21_1 hcz21_2
        try clear hcz23_0 hcz23_1 hcz23_2 hcz23_3 hcz23_4
        try clear hcz24_0 hcz24_1 hcz24_2 hcz24_3 hcz24_4
        try clear hcz25_0 hcz25_1 hcz25_2
        try clear hcz27_0 hcz27_1 hcz27_2 hcz27_3 hcz27_4
        try clear hcz28_0 hcz28_1 hcz28_2 hcz28_3 hcz28_4
        try clear hcz29_0 hcz29_1 hcz29_2
        try clear hcz31_0 hcz31_1 hcz31_2 hcz31_3 hcz31_4
        try clear hcz32_0 hcz32_1 hcz32_2
        try clear hcz43_0 hcz43_1 hcz43_2
        try clear hcz48_0 hcz48_1 hcz48_2
        try clear hcz52_0 hcz52_1 hcz52_2
        try clear hcz58_0 hcz58_1 hcz58_2
        try clear hcz63_0 hcz63_1 hcz63_2 hcz63_3 hcz63_4
        try clear hcz65_0 hcz65_1 hcz65_2 hcz65_3 hcz65_4
        try clear hcz66_0 hcz66_1 hcz66_2
        try clear hcz76_0 hcz76_1 hcz76_2 hcz76_3 hcz76_4
        try clear hcz78_0 hcz78_1 hcz78_2 hcz78_3 hcz78_4
        try clear hfz18_0 hfz18_1 hfz18_2 hfz18_3 hfz18_4
        try clear hfz20_0 hfz20_1 hfz20_2 hfz20_3 hfz20_4
        try clear hfz21_0 hfz21_1 hfz21_2
        try clear hfz23_0 hfz23_1 hfz23_2 hfz23_3 hfz23_4
        try clear hfz24_0 hfz24_1 hfz24_2 hfz24_3 hfz24_4
        try clear hfz25_0 hfz25_1 hfz25_2
        try clear hfz27_0 hfz27_1 hfz27_2 hfz27_3 hfz27_4
        try clear hfz28_0 hfz28_1 hfz28_2 hfz28_3 hfz28_4
        try clear hfz29_0 hfz29_1 hfz29_2
        try clear hfz31_0 hfz31_1 hfz31_2 hfz31_3 hfz31_4
        try clear hfz32_0 hfz32_1 hfz32_2
        try clear hfz43_0 hfz43_1 hfz43_2
        try clear hfz48_0 hfz48_1 hfz48_2
        try clear hfz52_0 hfz52_1 hfz52_2
        try clear hfz58_0 hfz58_1 hfz58_2
        try clear hfz63_0 hfz63_1 hfz63_2 hfz63_3 hfz63_4
        try clear hfz65_0 hfz65_1 hfz65_2 hfz65_3 hfz65_4
        try clear hfz66_0 hfz66_1 hfz66_2
        try clear hfz76_0 hfz76_1 hfz76_2 hfz76_3 hfz76_4
        try clear hfz78_0 hfz78_1 hfz78_2 hfz78_3 hfz78_4
        try clear hx1312_0
        try clear hx1312_1
        try clear hx1312_2
        try clear hx1315_0
        try clear p1
        try clear p13
        try clear p1312
        try clear p1315
        try clear p2
        try clear p6
        try clear q1
        try clear q13
        try clear q1312
        try clear q1315
        obtain ⟨kq, x152_59, rfl, HA, HJ59, BK1299, BK1300, BK1301, HB⟩ := hcut
        cases kq with
        | zero => exact absurd HA.out (by simp [stipendlaw13_TaxExplains.j2])
        | succ kj59 =>
         have H := HA.out; clear HA; simp only [stipendlaw13_TaxExplains.j2] at H; by_cases c79 : x152_59 = true
         ·subst c79; rw [if_pos rfl] at H; exact absurd H (by simp)
         ·replace c79 := Bool.eq_false_iff.mpr c79; subst c79; rw [if_neg (show ¬ (false = true) by decide)] at H; by_cases c80 : a2_0 ≤ 0
          ·rw [if_pos c80] at H; have c80b0 := decide_eq_true c80; clear c80; obtain rfl := Option.some.inj H; have hnb81 := NB1301_1299.out; have hnc81 := NB1299_1301.out; have hnb82 := NB1301_1300.out; have hnc82 := NB1300_1301.out; have hcz83_0 := cz_ BK1301 0; have hcz83_1 := cz_ BK1301 1; have hcz83_2 := cz_ BK1301 2; have hfz83_0 := fz_ BK1301 0; have hfz83_1 := fz_ BK1301 1; have hfz83_2 := fz_ BK1301 2
           go_wp2
           go_ret
           exact ⟨er_, bl3_ HB GE1299.out GE1300.out GE1301.out⟩
          ·rw [if_neg c80] at H; have c80b0 := decide_eq_false c80; clear c80; by_cases c84 : a2_0 = 0
           ·rw [if_pos c84] at H; exact absurd H (by simp)
           ·rw [if_neg c84] at H; have c84b0 : (a2_0 == 0) = false := beq_eq_false_iff_ne.mpr c84; have c84b1 : (a2_0 != 0) = true := bne_iff_ne.mpr c84; by_cases c85 : t1308 = (wrap64 (Int.tdiv t1314 a2_0))
            ·rw [if_pos c85] at H; have c85b0 : (t1308 == (wrap64 (Int.tdiv t1314 a2_0))) = true := beq_iff_eq.mpr c85; have c85b1 : (t1308 != (wrap64 (Int.tdiv t1314 a2_0))) = false := bne_eq_false_iff_eq.mpr c85; clear c85; by_cases c86 : a1_1 = 2
             ·rw [if_pos c86] at H; have c86b0 : (a1_1 == 2) = true := beq_iff_eq.mpr c86; have c86b1 : (a1_1 != 2) = false := bne_eq_false_iff_eq.mpr c86; clear c86; obtain rfl := Option.some.inj H; have hnb87 := NB1301_1299.out; have hnc87 := NB1299_1301.out; have hnb88 := NB1301_1300.out; have hnc88 := NB1300_1301.out; have hcz89_0 := cz_ BK1301 0; have hcz89_1 := cz_ BK1301 1; have hcz89_2 := cz_ BK1301 2; have hfz89_0 := fz_ BK1301 0; have hfz89_1 := fz_ BK1301 1; have hfz89_2 := fz_ BK1301 2; have hnb90 := NB1300_1299.out; have hnc90 := NB1299_1300.out; have hcz91_0 := cz_ BK1300 0; have hcz91_1 := cz_ BK1300 1; have hcz91_2 := cz_ BK1300 2; have hcz91_3 := cz_ BK1300 3; have hcz91_4 := cz_ BK1300 4; have hfz91_0 := fz_ BK1300 0; have hfz91_1 := fz_ BK1300 1; have hfz91_2 := fz_ BK1300 2; have hfz91_3 := fz_ BK1300 3; have hfz91_4 := fz_ BK1300 4
              go_wp2
              go_ret
              exact ⟨er_, bl3_ HB GE1299.out GE1300.out GE1301.out⟩
             ·rw [if_neg c86] at H; have c86b0 : (a1_1 == 2) = false := beq_eq_false_iff_ne.mpr c86; have c86b1 : (a1_1 != 2) = true := bne_iff_ne.mpr c86; obtain rfl := Option.some.inj H; have hnb92 := NB1301_1299.out; have hnc92 := NB1299_1301.out; have hnb93 := NB1301_1300.out; have hnc93 := NB1300_1301.out; have hcz94_0 := cz_ BK1301 0; have hcz94_1 := cz_ BK1301 1; have hcz94_2 := cz_ BK1301 2; have hfz94_0 := fz_ BK1301 0; have hfz94_1 := fz_ BK1301 1; have hfz94_2 := fz_ BK1301 2; have hnb95 := NB1300_1299.out; have hnc95 := NB1299_1300.out; have hcz96_0 := cz_ BK1300 0; have hcz96_1 := cz_ BK1300 1; have hcz96_2 := cz_ BK1300 2; have hcz96_3 := cz_ BK1300 3; have hcz96_4 := cz_ BK1300 4; have hfz96_0 := fz_ BK1300 0; have hfz96_1 := fz_ BK1300 1; have hfz96_2 := fz_ BK1300 2; have hfz96_3 := fz_ BK1300 3; have hfz96_4 := fz_ BK1300 4
              go_wp2
              go_ret
              exact ⟨er_, bl3_ HB GE1299.out GE1300.out GE1301.out⟩
            ·rw [if_neg c85] at H; exact absurd H (by simp)
   ·rw [if_neg c11] at H; have c11b0 : (t1311 == 0) = false := beq_eq_false_iff_ne.mpr c11; have c11b1 : (t1311 != 0) = true := bne_iff_ne.mpr c11; by_cases c97 : t1307 = t1311
    ·rw [if_pos c97] at H; have c97b0 : (t1307 == t1311) = true := beq_iff_eq.mpr c97; have c97b1 : (t1307 != t1311) = false := bne_eq_false_iff_eq.mpr c97; clear c97; by_cases c98 : t1309 = t1311
     ·rw [if_pos c98] at H; have c98b0 : (t1309 == t1311) = true := beq_iff_eq.mpr c98; have c98b1 : (t1309 != t1311) = false := bne_eq_false_iff_eq.mpr c98; clear c98; by_cases c99 : (t1304.length : Int) = 0
      ·rw [if_pos c99] at H; have c99b0 : ((t1304.length : Int) == 0) = true := beq_iff_eq.mpr c99; have c99b1 : ((t1304.length : Int) != 0) = false := bne_eq_false_iff_eq.mpr c99; clear c99; obtain rfl := Option.some.inj H; go_enter Try.func23, Try.ntmps23
       go_wp2_with (first | ((with_reducible refine gate_dst (N := 3) rfl ?_); refine be_ (N := 3) (cs := #[.slice A0_0 l0_0.length c0_0, .slice A0_1 l0_1.length c0_1, .slice A0_2 l0_2.length c0_2, .int .i64 a0_3, .int .i64 a0_4]) (t := 56) ?_; intro gb1299 hg w100 hbox hb; have BK1299 := A_ (hbox); have GW1299 := A_ ((by rw [hg]; exact (below_size (bl_ HB)) : w.heap.size ≤ gb1299)); have GE1299 := A_ ((by rw [hg]; exact (below_size (bl_ HB)) : w.heap.size ≤ gb1299)); replace HB := A_ (below_step (bl_ HB) hb); clear hb hbox hg) | ((with_reducible refine gate_dst (N := 4) rfl ?_); refine be_ (N := 4) (cs := #[.int .i64 a1_0, .int .i64 a1_1, .int .i64 a1_2, .int .i64 a1_3, .bool a1_4]) (t := 88) ?_; intro gb1300 hg w101 hbox hb; have BK1300 := A_ (hbox); have GW1300 := A_ ((by rw [hg]; exact (below_size (bl1_ HB GE1299.out)) : w.heap.size ≤ gb1300)); have GE1300 := A_ ((by rw [hg]; exact (below_size (bl1_ HB GE1299.out)) : w.heap.size ≤ gb1300)); have NB1299_1300 := A_ ((by rw [hg]; exact Nat.ne_of_lt (blk_lt (bx_ BK1299)) : gb1299 ≠ gb1300)); have NB1300_1299 := A_ ((by rw [hg]; exact Nat.ne_of_gt (blk_lt (bx_ BK1299)) : gb1300 ≠ gb1299)); replace BK1299 := A_ (blk_below (bx_ BK1299) hb); replace HB := A_ (below_step (bl1_ HB GE1299.out) hb); clear hb hbox hg) | ((with_reducible refine gate_dst (N := 5) rfl ?_); refine be_ (N := 5) (cs := #[.int .i64 a2_0, .int .i64 a2_1, .int .i64 a2_2]) (t := 135) ?_; intro gb1301 hg w102 hbox hb; have BK1301 := A_ (hbox); have GW1301 := A_ ((by rw [hg]; exact (below_size (bl2_ HB GE1299.out GE1300.out)) : w.heap.size ≤ gb1301)); have GE1301 := A_ ((by rw [hg]; exact (below_size (bl2_ HB GE1299.out GE1300.out)) : w.heap.size ≤ gb1301)); have NB1299_1301 := A_ ((by rw [hg]; exact Nat.ne_of_lt (blk_lt (bx_ BK1299)) : gb1299 ≠ gb1301)); have NB1301_1299 := A_ ((by rw [hg]; exact Nat.ne_of_gt (blk_lt (bx_ BK1299)) : gb1301 ≠ gb1299)); have NB1300_1301 := A_ ((by rw [hg]; exact Nat.ne_of_lt (blk_lt (bx_ BK1300)) : gb1300 ≠ gb1301)); have NB1301_1300 := A_ ((by rw [hg]; exact Nat.ne_of_gt (blk_lt (bx_ BK1300)) : gb1301 ≠ gb1300)); replace BK1299 := A_ (blk_below (bx_ BK1299) hb); replace BK1300 := A_ (blk_below (bx_ BK1300) hb); replace HB := A_ (below_step (bl2_ HB GE1299.out GE1300.out) hb); clear hb hbox hg) | ((with_reducible refine gate_callee (f := 77) rfl ?_); refine gm_ (some 19) Try.func77 #[] ?_; (with_reducible refine (stipendlaw13_dues.calls k  true _ A4.out).mono ?_); rintro e w103 ⟨rfl, hb⟩; refine ⟨_, rfl, ?_⟩; replace BK1299 := A_ (blk_below (bx_ BK1299) hb); replace BK1300 := A_ (blk_below (bx_ BK1300) hb); replace BK1301 := A_ (blk_below (bx_ BK1301) hb); replace HB := A_ (below_step (bl3_ HB GE1299.out GE1300.out GE1301.out) hb); (try clear hb); (try clear hb2); (try clear hk); (try clear hi); have hnb104 := NB1299_1300.out; have hnc104 := NB1300_1299.out; have hnb105 := NB1299_1301.out; have hnc105 := NB1301_1299.out; have hcz106_0 := cz_ BK1299 0; have hcz106_1 := cz_ BK1299 1; have hcz106_2 := cz_ BK1299 2; have hcz106_3 := cz_ BK1299 3; have hcz106_4 := cz_ BK1299 4; have hfz106_0 := fz_ BK1299 0; have hfz106_1 := fz_ BK1299 1; have hfz106_2 := fz_ BK1299 2; have hfz106_3 := fz_ BK1299 3; have hfz106_4 := fz_ BK1299 4; have hnb107 := NB1300_1301.out; have hnc107 := NB1301_1300.out; have hcz108_0 := cz_ BK1300 0; have hcz108_1 := cz_ BK1300 1; have hcz108_2 := cz_ BK1300 2; have hcz108_3 := cz_ BK1300 3; have hcz108_4 := cz_ BK1300 4; have hfz108_0 := fz_ BK1300 0; have hfz108_1 := fz_ BK1300 1; have hfz108_2 := fz_ BK1300 2; have hfz108_3 := fz_ BK1300 3; have hfz108_4 := fz_ BK1300 4; have hcz109_0 := cz_ BK1301 0; have hcz109_1 := cz_ BK1301 1; have hcz109_2 := cz_ BK1301 2; have hfz109_0 := fz_ BK1301 0; have hfz109_1 := fz_ BK1301 1; have hfz109_2 := fz_ BK1301 2) | ((with_reducible refine gate_callee (f := 78) rfl ?_); refine gm_ (some 28) Try.func78 #[.agg #[.slice A0_0 l0_0.length c0_0, .slice A0_1 l0_1.length c0_1, .slice A0_2 l0_2.length c0_2, .int .i64 a0_3, .int .i64 a0_4], .agg #[.int .i64 a1_0, .int .i64 a1_1, .int .i64 a1_2, .int .i64 a1_3, .bool a1_4], .agg #[.int .i64 a2_1, .int .i64 a2_2]] ?_; (with_reducible refine (stipendlaw13_fits.calls k _ _ l0_0 _ _ l0_1 _ _ l0_2 a0_3 a0_4 a1_0 a1_1 a1_2 a1_3 a1_4 a2_1 a2_2 true _ ?side1 ?side2 ?side3 ?side4 ?side5 ?side6 A6.out).mono ?_); (case side1 => exact cb_ HR0_0 HB); (case side2 => exact HC0_0.out); (case side3 => exact cb_ HR0_1 HB); (case side4 => exact HC0_1.out); (case side5 => exact cb_ HR0_2 HB); (case side6 => exact HC0_2.out); rintro e w110 ⟨rfl, hb⟩; refine ⟨_, rfl, ?_⟩; replace BK1299 := A_ (blk_below (bx_ BK1299) hb); replace BK1300 := A_ (blk_below (bx_ BK1300) hb); replace BK1301 := A_ (blk_below (bx_ BK1301) hb); replace HB := A_ (below_step (bl3_ HB GE1299.out GE1300.out GE1301.out) hb); (try clear hb); (try clear hb2); (try clear hk); (try clear hi); have hcz111_0 := cz_ BK1299 0; have hcz111_1 := cz_ BK1299 1; have hcz111_2 := cz_ BK1299 2; have hcz111_3 := cz_ BK1299 3; have hcz111_4 := cz_ BK1299 4; have hfz111_0 := fz_ BK1299 0; have hfz111_1 := fz_ BK1299 1; have hfz111_2 := fz_ BK1299 2; have hfz111_3 := fz_ BK1299 3; have hfz111_4 := fz_ BK1299 4; have hcz112_0 := cz_ BK1300 0; have hcz112_1 := cz_ BK1300 1; have hcz112_2 := cz_ BK1300 2; have hcz112_3 := cz_ BK1300 3; have hcz112_4 := cz_ BK1300 4; have hfz112_0 := fz_ BK1300 0; have hfz112_1 := fz_ BK1300 1; have hfz112_2 := fz_ BK1300 2; have hfz112_3 := fz_ BK1300 3; have hfz112_4 := fz_ BK1300 4; have hcz113_0 := cz_ BK1301 0; have hcz113_1 := cz_ BK1301 1; have hcz113_2 := cz_ BK1301 2; have hfz113_0 := fz_ BK1301 0; have hfz113_1 := fz_ BK1301 1; have hfz113_2 := fz_ BK1301 2) | ((with_reducible refine gate_callee (f := 92) rfl ?_); refine gm_ (some 39) Try.func92 #[.agg #[.slice A0_0 l0_0.length c0_0, .slice A0_1 l0_1.length c0_1, .slice A0_2 l0_2.length c0_2, .int .i64 a0_3, .int .i64 a0_4], .agg #[.int .i64 a1_0, .int .i64 a1_1, .int .i64 a1_2, .int .i64 a1_3, .bool a1_4], .int .i64 a2_0, .int .i64 a2_1, .int .i64 a2_2] ?_; (with_reducible refine (tax_Explain.calls k _ _ l0_0 _ _ l0_1 _ _ l0_2 a0_3 a0_4 a1_0 a1_1 a1_2 a1_3 a1_4 a2_0 a2_1 a2_2 t1304 t1307 _ ?side1 ?side2 ?side3 ?side4 ?side5 ?side6 A8.out).mono ?_); (case side1 => exact cb_ HR0_0 HB); (case side2 => exact HC0_0.out); (case side3 => exact cb_ HR0_1 HB); (case side4 => exact HC0_1.out); (case side5 => exact cb_ HR0_2 HB); (case side6 => exact HC0_2.out); rintro e w114 ⟨v1305, rfl, ho0, hb⟩; refine ⟨_, rfl, ?_⟩; have HO1306 := A_ (Kd.R_lower ho0 (below_size (bl3_ HB GE1299.out GE1300.out GE1301.out))); replace BK1299 := A_ (blk_below (bx_ BK1299) hb); replace BK1300 := A_ (blk_below (bx_ BK1300) hb); replace BK1301 := A_ (blk_below (bx_ BK1301) hb); replace HB := A_ (below_step (bl3_ HB GE1299.out GE1300.out GE1301.out) hb); (try clear hb); (try clear hb2); (try clear hk); (try clear hi); (try clear ho0); have hcz115_0 := cz_ BK1299 0; have hcz115_1 := cz_ BK1299 1; have hcz115_2 := cz_ BK1299 2; have hcz115_3 := cz_ BK1299 3; have hcz115_4 := cz_ BK1299 4; have hfz115_0 := fz_ BK1299 0; have hfz115_1 := fz_ BK1299 1; have hfz115_2 := fz_ BK1299 2; have hfz115_3 := fz_ BK1299 3; have hfz115_4 := fz_ BK1299 4; have hcz116_0 := cz_ BK1300 0; have hcz116_1 := cz_ BK1300 1; have hcz116_2 := cz_ BK1300 2; have hcz116_3 := cz_ BK1300 3; have hcz116_4 := cz_ BK1300 4; have hfz116_0 := fz_ BK1300 0; have hfz116_1 := fz_ BK1300 1; have hfz116_2 := fz_ BK1300 2; have hfz116_3 := fz_ BK1300 3; have hfz116_4 := fz_ BK1300 4; have hcz117_0 := cz_ BK1301 0; have hcz117_1 := cz_ BK1301 1; have hcz117_2 := cz_ BK1301 2; have hfz117_0 := fz_ BK1301 0; have hfz117_1 := fz_ BK1301 1; have hfz117_2 := fz_ BK1301 2) | ((with_reducible refine gate_callee (f := 93) rfl ?_); refine gm_ (some 51) Try.func93 #[.agg #[.slice A0_0 l0_0.length c0_0, .slice A0_1 l0_1.length c0_1, .slice A0_2 l0_2.length c0_2, .int .i64 a0_3, .int .i64 a0_4], .agg #[.int .i64 a1_0, .int .i64 a1_1, .int .i64 a1_2, .int .i64 a1_3, .bool a1_4], .int .i64 a2_0, .int .i64 a2_1, .int .i64 a2_2] ?_; (with_reducible refine (tax_Average.calls k _ _ l0_0 _ _ l0_1 _ _ l0_2 a0_3 a0_4 a1_0 a1_1 a1_2 a1_3 a1_4 a2_0 a2_1 a2_2 t1308 t1309 _ ?side1 ?side2 ?side3 ?side4 ?side5 ?side6 A9.out).mono ?_); (case side1 => exact cb_ HR0_0 HB); (case side2 => exact HC0_0.out); (case side3 => exact cb_ HR0_1 HB); (case side4 => exact HC0_1.out); (case side5 => exact cb_ HR0_2 HB); (case side6 => exact HC0_2.out); rintro e w118 ⟨rfl, hb⟩; refine ⟨_, rfl, ?_⟩; replace HO1306 := A_ (Kd.R_below (ro_ HO1306) hb); replace BK1299 := A_ (blk_below (bx_ BK1299) hb); replace BK1300 := A_ (blk_below (bx_ BK1300) hb); replace BK1301 := A_ (blk_below (bx_ BK1301) hb); replace HB := A_ (below_step (bl3_ HB GE1299.out GE1300.out GE1301.out) hb); (try clear hb); (try clear hb2); (try clear hk); (try clear hi); have hcz119_0 := cz_ BK1300 0; have hcz119_1 := cz_ BK1300 1; have hcz119_2 := cz_ BK1300 2; have hcz119_3 := cz_ BK1300 3; have hcz119_4 := cz_ BK1300 4; have hfz119_0 := fz_ BK1300 0; have hfz119_1 := fz_ BK1300 1; have hfz119_2 := fz_ BK1300 2; have hfz119_3 := fz_ BK1300 3; have hfz119_4 := fz_ BK1300 4; have hcz120_0 := cz_ BK1301 0; have hcz120_1 := cz_ BK1301 1; have hcz120_2 := cz_ BK1301 2; have hfz120_0 := fz_ BK1301 0; have hfz120_1 := fz_ BK1301 1; have hfz120_2 := fz_ BK1301 2) | ((with_reducible refine gate_callee (f := 81) rfl ?_); refine gm_ (some 62) Try.func81 #[.agg #[.int .i64 a1_0, .int .i64 a1_1, .int .i64 a1_2, .int .i64 a1_3, .bool a1_4], .int .i64 a2_0, .int .i64 a2_1, .int .i64 a2_2] ?_; (with_reducible refine (code_Charge.calls k a1_0 a1_1 a1_2 a1_3 a1_4 a2_0 a2_1 a2_2 t1310 t1311 _ A10.out).mono ?_); rintro e w121 ⟨rfl, hb⟩; refine ⟨_, rfl, ?_⟩; replace HO1306 := A_ (Kd.R_below (ro_ HO1306) hb); replace BK1299 := A_ (blk_below (bx_ BK1299) hb); replace BK1300 := A_ (blk_below (bx_ BK1300) hb); replace BK1301 := A_ (blk_below (bx_ BK1301) hb); replace HB := A_ (below_step (bl3_ HB GE1299.out GE1300.out GE1301.out) hb); (try clear hb); (try clear hb2); (try clear hk); (try clear hi); obtain ⟨Ao122, co122, eo122⟩ := Kd.R_slice HO1306.out; subst eo122))
       go_ret
       exact ⟨er_, bl3_ HB GE1299.out GE1300.out GE1301.out⟩
      ·rw [if_neg c99] at H; exact absurd H (by simp)
     ·rw [if_neg c98] at H; exact absurd H (by simp)
    ·rw [if_neg c97] at H; exact absurd H (by simp)
  ·replace c7 := Bool.eq_false_iff.mpr c7; subst c7; rw [if_neg (show ¬ (false = true) by decide)] at H; obtain rfl := Option.some.inj H; go_enter Try.func23, Try.ntmps23
   go_wp2_with (first | ((with_reducible refine gate_dst (N := 3) rfl ?_); refine be_ (N := 3) (cs := #[.slice A0_0 l0_0.length c0_0, .slice A0_1 l0_1.length c0_1, .slice A0_2 l0_2.length c0_2, .int .i64 a0_3, .int .i64 a0_4]) (t := 56) ?_; intro gb1299 hg w123 hbox hb; have BK1299 := A_ (hbox); have GW1299 := A_ ((by rw [hg]; exact (below_size (bl_ HB)) : w.heap.size ≤ gb1299)); have GE1299 := A_ ((by rw [hg]; exact (below_size (bl_ HB)) : w.heap.size ≤ gb1299)); replace HB := A_ (below_step (bl_ HB) hb); clear hb hbox hg) | ((with_reducible refine gate_dst (N := 4) rfl ?_); refine be_ (N := 4) (cs := #[.int .i64 a1_0, .int .i64 a1_1, .int .i64 a1_2, .int .i64 a1_3, .bool a1_4]) (t := 88) ?_; intro gb1300 hg w124 hbox hb; have BK1300 := A_ (hbox); have GW1300 := A_ ((by rw [hg]; exact (below_size (bl1_ HB GE1299.out)) : w.heap.size ≤ gb1300)); have GE1300 := A_ ((by rw [hg]; exact (below_size (bl1_ HB GE1299.out)) : w.heap.size ≤ gb1300)); have NB1299_1300 := A_ ((by rw [hg]; exact Nat.ne_of_lt (blk_lt (bx_ BK1299)) : gb1299 ≠ gb1300)); have NB1300_1299 := A_ ((by rw [hg]; exact Nat.ne_of_gt (blk_lt (bx_ BK1299)) : gb1300 ≠ gb1299)); replace BK1299 := A_ (blk_below (bx_ BK1299) hb); replace HB := A_ (below_step (bl1_ HB GE1299.out) hb); clear hb hbox hg) | ((with_reducible refine gate_dst (N := 5) rfl ?_); refine be_ (N := 5) (cs := #[.int .i64 a2_0, .int .i64 a2_1, .int .i64 a2_2]) (t := 135) ?_; intro gb1301 hg w125 hbox hb; have BK1301 := A_ (hbox); have GW1301 := A_ ((by rw [hg]; exact (below_size (bl2_ HB GE1299.out GE1300.out)) : w.heap.size ≤ gb1301)); have GE1301 := A_ ((by rw [hg]; exact (below_size (bl2_ HB GE1299.out GE1300.out)) : w.heap.size ≤ gb1301)); have NB1299_1301 := A_ ((by rw [hg]; exact Nat.ne_of_lt (blk_lt (bx_ BK1299)) : gb1299 ≠ gb1301)); have NB1301_1299 := A_ ((by rw [hg]; exact Nat.ne_of_gt (blk_lt (bx_ BK1299)) : gb1301 ≠ gb1299)); have NB1300_1301 := A_ ((by rw [hg]; exact Nat.ne_of_lt (blk_lt (bx_ BK1300)) : gb1300 ≠ gb1301)); have NB1301_1300 := A_ ((by rw [hg]; exact Nat.ne_of_gt (blk_lt (bx_ BK1300)) : gb1301 ≠ gb1300)); replace BK1299 := A_ (blk_below (bx_ BK1299) hb); replace BK1300 := A_ (blk_below (bx_ BK1300) hb); replace HB := A_ (below_step (bl2_ HB GE1299.out GE1300.out) hb); clear hb hbox hg) | ((with_reducible refine gate_callee (f := 77) rfl ?_); refine gm_ (some 19) Try.func77 #[] ?_; (with_reducible refine (stipendlaw13_dues.calls k  true _ A4.out).mono ?_); rintro e w126 ⟨rfl, hb⟩; refine ⟨_, rfl, ?_⟩; replace BK1299 := A_ (blk_below (bx_ BK1299) hb); replace BK1300 := A_ (blk_below (bx_ BK1300) hb); replace BK1301 := A_ (blk_below (bx_ BK1301) hb); replace HB := A_ (below_step (bl3_ HB GE1299.out GE1300.out GE1301.out) hb); (try clear hb); (try clear hb2); (try clear hk); (try clear hi); have hnb127 := NB1299_1300.out; have hnc127 := NB1300_1299.out; have hnb128 := NB1299_1301.out; have hnc128 := NB1301_1299.out; have hcz129_0 := cz_ BK1299 0; have hcz129_1 := cz_ BK1299 1; have hcz129_2 := cz_ BK1299 2; have hcz129_3 := cz_ BK1299 3; have hcz129_4 := cz_ BK1299 4; have hfz129_0 := fz_ BK1299 0; have hfz129_1 := fz_ BK1299 1; have hfz129_2 := fz_ BK1299 2; have hfz129_3 := fz_ BK1299 3; have hfz129_4 := fz_ BK1299 4; have hnb130 := NB1300_1301.out; have hnc130 := NB1301_1300.out; have hcz131_0 := cz_ BK1300 0; have hcz131_1 := cz_ BK1300 1; have hcz131_2 := cz_ BK1300 2; have hcz131_3 := cz_ BK1300 3; have hcz131_4 := cz_ BK1300 4; have hfz131_0 := fz_ BK1300 0; have hfz131_1 := fz_ BK1300 1; have hfz131_2 := fz_ BK1300 2; have hfz131_3 := fz_ BK1300 3; have hfz131_4 := fz_ BK1300 4; have hcz132_0 := cz_ BK1301 0; have hcz132_1 := cz_ BK1301 1; have hcz132_2 := cz_ BK1301 2; have hfz132_0 := fz_ BK1301 0; have hfz132_1 := fz_ BK1301 1; have hfz132_2 := fz_ BK1301 2) | ((with_reducible refine gate_callee (f := 78) rfl ?_); refine gm_ (some 28) Try.func78 #[.agg #[.slice A0_0 l0_0.length c0_0, .slice A0_1 l0_1.length c0_1, .slice A0_2 l0_2.length c0_2, .int .i64 a0_3, .int .i64 a0_4], .agg #[.int .i64 a1_0, .int .i64 a1_1, .int .i64 a1_2, .int .i64 a1_3, .bool a1_4], .agg #[.int .i64 a2_1, .int .i64 a2_2]] ?_; (with_reducible refine (stipendlaw13_fits.calls k _ _ l0_0 _ _ l0_1 _ _ l0_2 a0_3 a0_4 a1_0 a1_1 a1_2 a1_3 a1_4 a2_1 a2_2 false _ ?side1 ?side2 ?side3 ?side4 ?side5 ?side6 A6.out).mono ?_); (case side1 => exact cb_ HR0_0 HB); (case side2 => exact HC0_0.out); (case side3 => exact cb_ HR0_1 HB); (case side4 => exact HC0_1.out); (case side5 => exact cb_ HR0_2 HB); (case side6 => exact HC0_2.out); rintro e w133 ⟨rfl, hb⟩; refine ⟨_, rfl, ?_⟩; replace BK1299 := A_ (blk_below (bx_ BK1299) hb); replace BK1300 := A_ (blk_below (bx_ BK1300) hb); replace BK1301 := A_ (blk_below (bx_ BK1301) hb); replace HB := A_ (below_step (bl3_ HB GE1299.out GE1300.out GE1301.out) hb); (try clear hb); (try clear hb2); (try clear hk); (try clear hi)))
   go_ret
   exact ⟨er_, bl3_ HB GE1299.out GE1300.out GE1301.out⟩
 ·replace c5 := Bool.eq_false_iff.mpr c5; subst c5; rw [if_neg (show ¬ (false = true) by decide)] at H; exact absurd H (by simp)
end Go.Proofs.Ytcapgmoipacioaa.P
