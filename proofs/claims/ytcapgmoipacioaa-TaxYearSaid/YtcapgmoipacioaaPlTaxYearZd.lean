import Derived.Test.YtcapgmoipacioaaPtZd
import Derived.Test.YtcapgmoipacioaaHperiodZd
import Derived.Test.YtcapgmoipacioaaPpperiodZd
import Derived.Test.YtcapgmoipacioaaPprefyearZd
import Derived.Test.YtcapgmoipacioaaPpstipendlaw13Zd
import Derived.Test.YtcapgmoipacioaaPptableZd
import Derived.Test.YtcapgmoipacioaaPptaxNextZd
import Derived.Test.YtcapgmoipacioaaPptaxYearZd
import Derived.Test.YtcapgmoipacioaaY1Zd
namespace Go.Proofs.Ytcapgmoipacioaa.P
open Go.RowKit Go.Proofs.YtcapgmoipacioaaW.PrintWords Go.Proofs.YtcapgmoipacioaaW.PrintLast Go.Proofs.YtcapgmoipacioaaW.PrintMore
set_option linter.unusedVariables false
set_option linter.unusedSimpArgs false
mutual
def stipendlaw13_TaxYear.j0 : Nat → Int → List (S90) → Bool → List (List (S106)) → List (S120) → List (S209) → Int → Int → Int → Int → Int → Int → Int → Int → Int → Int → Int → Option (Bool)
 | 0, _, _, _, _, _, _, _, _, _, _, _, _, _, _, _, _, _ => none
 | k + 1, x1, x2, x50, x1132000, x1132001, x1132002, x1132003, x1132004, x1143000, x1143001, x1143002, x1143003, x1143004, x1143005, x1143006, x1143007, x1143008 => if x50 = true then (some true) else ((tax_Year.f k x1132000 x1132001 x1132002 x1132003 x1132004 x1143000 x1143001 x1143002 x1143003 x1143004 x1143005 x1143006 x1143007 x1143008 x2).bind fun bt1145 => ((period_Year_Count.f bt1145.2.2.1 bt1145.2.2.2.1 bt1145.2.2.2.2.1 bt1145.2.2.2.2.2.1 bt1145.2.2.2.2.2.2.1 bt1145.2.2.2.2.2.2.2.1 bt1145.2.2.2.2.2.2.2.2.1 bt1145.2.2.2.2.2.2.2.2.2.1 bt1145.2.2.2.2.2.2.2.2.2.2).bind fun bt1158 => (if (x2.length : Int) > bt1158.1 then (if bt1145.2.1 = 1 then (some ((bt1145.1.length : Int) == 0)) else (none)) else (stipendlaw13_TaxYear.l0 k x1 x2 bt1145.1 bt1145.2.1 ([] : List (S88)) ([] : List Int) 0 x2 (x2.length : Int) 0 x1132000 x1132001 x1132002 x1132003 x1132004 bt1158.2.1 bt1158.2.2.1 bt1158.2.2.2.1 bt1158.2.2.2.2.1 bt1158.2.2.2.2.2.1 bt1158.2.2.2.2.2.2.1 bt1158.2.2.2.2.2.2.2.1 bt1158.2.2.2.2.2.2.2.2.1 bt1158.2.2.2.2.2.2.2.2.2))))
def stipendlaw13_TaxYear.l0 : Nat → Int → List (S90) → List Int → Int → List (S88) → List Int → Int → List (S90) → Int → Int → List (List (S106)) → List (S120) → List (S209) → Int → Int → Int → Int → Int → Int → Int → Int → Int → Int → Int → Option (Bool)
 | 0, _, _, _, _, _, _, _, _, _, _, _, _, _, _, _, _, _, _, _, _, _, _, _, _ => none
 | k + 1, x1, x2, x9, x10, x11, x12, x13, x70, x71, x72, x1132000, x1132001, x1132002, x1132003, x1132004, x1143000, x1143001, x1143002, x1143003, x1143004, x1143005, x1143006, x1143007, x1143008 => if x72 < x71 then (if 0 ≤ x72 then (if x72 < (x70.length : Int) then (if ((rd_T90 x70 x72).f1) > 1000000000 then (stipendlaw13_TaxYear.j2 k x1 x2 x9 x10 x11 x12 x13 x70 x71 x72 true x1132000 x1132001 x1132002 x1132003 x1132004 x1143000 x1143001 x1143002 x1143003 x1143004 x1143005 x1143006 x1143007 x1143008 ((rd_T90 x70 x72).f0.f0) ((rd_T90 x70 x72).f0.f1) ((rd_T90 x70 x72).f0.f2) ((rd_T90 x70 x72).f0.f3) ((rd_T90 x70 x72).f0.f4) ((rd_T90 x70 x72).f1)) else (stipendlaw13_TaxYear.j2 k x1 x2 x9 x10 x11 x12 x13 x70 x71 x72 (decide (((rd_T90 x70 x72).f1) < (-1000000000))) x1132000 x1132001 x1132002 x1132003 x1132004 x1143000 x1143001 x1143002 x1143003 x1143004 x1143005 x1143006 x1143007 x1143008 ((rd_T90 x70 x72).f0.f0) ((rd_T90 x70 x72).f0.f1) ((rd_T90 x70 x72).f0.f2) ((rd_T90 x70 x72).f0.f3) ((rd_T90 x70 x72).f0.f4) ((rd_T90 x70 x72).f1))) else (none)) else (none)) else ((period_Nominal.f x1).bind fun t1177 => ((stipendref13_Year.f k x1132000 x1132001 x1132002 x1132003 x1132004 t1177 x11 x12).bind fun t1178 => (if x10 = 0 then (stipendlaw13_TaxYear.j3 k x2 x9 x12 x13 t1178 ((x9.length : Int) != (t1178.length : Int)) x1132000 x1132001 x1132002 x1132003 x1132004 x1143000 x1143001 x1143002 x1143003 x1143004 x1143005 x1143006 x1143007 x1143008) else (stipendlaw13_TaxYear.j3 k x2 x9 x12 x13 t1178 true x1132000 x1132001 x1132002 x1132003 x1132004 x1143000 x1143001 x1143002 x1143003 x1143004 x1143005 x1143006 x1143007 x1143008))))
def stipendlaw13_TaxYear.j2 : Nat → Int → List (S90) → List Int → Int → List (S88) → List Int → Int → List (S90) → Int → Int → Bool → List (List (S106)) → List (S120) → List (S209) → Int → Int → Int → Int → Int → Int → Int → Int → Int → Int → Int → Int → Int → Int → Int → Bool → Int → Option (Bool)
 | 0, _, _, _, _, _, _, _, _, _, _, _, _, _, _, _, _, _, _, _, _, _, _, _, _, _, _, _, _, _, _, _ => none
 | k + 1, x1, x2, x9, x10, x11, x12, x13, x70, x71, x72, x83, x1132000, x1132001, x1132002, x1132003, x1132004, x1143000, x1143001, x1143002, x1143003, x1143004, x1143005, x1143006, x1143007, x1143008, x1170000, x1170001, x1170002, x1170003, x1170004, x1170005 => if x83 = true then (some true) else ((table_Fits.f k x1132000 x1132001 x1132002 x1132003 x1132004 x1170000 x1170001 x1170002 x1170003 x1170004).bind fun t1170 => (if t1170 = 0 then (if x11.length < 3518437208883 then (if x12.length < 17592186044416 then (stipendlaw13_TaxYear.l0 k x1 x2 x9 x10 (x11 ++ [(⟨x1170000, x1170001, x1170002, x1170003, x1170004⟩ : S88)]) (x12 ++ [x1170005]) (wrap64 (x13 + x1170005)) x70 x71 (wrap64 (x72 + 1)) x1132000 x1132001 x1132002 x1132003 x1132004 x1143000 x1143001 x1143002 x1143003 x1143004 x1143005 x1143006 x1143007 x1143008) else (none)) else (none)) else (if x10 = t1170 then (some ((x9.length : Int) == 0)) else (none))))
def stipendlaw13_TaxYear.j3 : Nat → List (S90) → List Int → List Int → Int → List Int → Bool → List (List (S106)) → List (S120) → List (S209) → Int → Int → Int → Int → Int → Int → Int → Int → Int → Int → Int → Option (Bool)
 | 0, _, _, _, _, _, _, _, _, _, _, _, _, _, _, _, _, _, _, _, _ => none
 | k + 1, x2, x9, x12, x13, x17, x127, x1132000, x1132001, x1132002, x1132003, x1132004, x1143000, x1143001, x1143002, x1143003, x1143004, x1143005, x1143006, x1143007, x1143008 => if x127 = true then (none) else (stipendlaw13_TaxYear.l1 k x2 x9 x12 x13 x17 0 0 (x9.length : Int) 0 x1132000 x1132001 x1132002 x1132003 x1132004 x1143000 x1143001 x1143002 x1143003 x1143004 x1143005 x1143006 x1143007 x1143008)
def stipendlaw13_TaxYear.l1 : Nat → List (S90) → List Int → List Int → Int → List Int → Int → Int → Int → Int → List (List (S106)) → List (S120) → List (S209) → Int → Int → Int → Int → Int → Int → Int → Int → Int → Int → Int → Option (Bool)
 | 0, _, _, _, _, _, _, _, _, _, _, _, _, _, _, _, _, _, _, _, _, _, _, _ => none
 | k + 1, x2, x9, x12, x13, x17, x18, x19, x129, x130, x1132000, x1132001, x1132002, x1132003, x1132004, x1143000, x1143001, x1143002, x1143003, x1143004, x1143005, x1143006, x1143007, x1143008 => if x130 < x129 then (if 0 ≤ x130 then (if x130 < (x12.length : Int) then (if x130 < (x2.length : Int) then ((tax_Next.f k x1132000 x1132001 x1132002 x1132003 x1132004 x1143000 x1143001 x1143002 x1143003 x1143004 x1143005 x1143006 x1143007 x1143008 (wrap64 (x130 + 1)) ((rd_T90 x2 x130).f0.f0) ((rd_T90 x2 x130).f0.f1) ((rd_T90 x2 x130).f0.f2) ((rd_T90 x2 x130).f0.f3) ((rd_T90 x2 x130).f0.f4) ((rd_T90 x2 x130).f1) (wrap64 (x18 + (rd x12 x130))) x19).bind fun bt1194 => (if x130 < (x9.length : Int) then (if x130 < (x17.length : Int) then (if (rd x9 x130) = (rd x17 x130) then (if bt1194.2.1 = 0 then (stipendlaw13_TaxYear.j5 k x2 x9 x12 x13 x17 (wrap64 (x18 + (rd x12 x130))) bt1194.1 x129 x130 (bt1194.1 != (rd x17 x130)) x1132000 x1132001 x1132002 x1132003 x1132004 bt1194.2.2.1 bt1194.2.2.2.1 bt1194.2.2.2.2.1 bt1194.2.2.2.2.2.1 bt1194.2.2.2.2.2.2.1 bt1194.2.2.2.2.2.2.2.1 bt1194.2.2.2.2.2.2.2.2.1 bt1194.2.2.2.2.2.2.2.2.2.1 bt1194.2.2.2.2.2.2.2.2.2.2) else (stipendlaw13_TaxYear.j5 k x2 x9 x12 x13 x17 (wrap64 (x18 + (rd x12 x130))) bt1194.1 x129 x130 true x1132000 x1132001 x1132002 x1132003 x1132004 bt1194.2.2.1 bt1194.2.2.2.1 bt1194.2.2.2.2.1 bt1194.2.2.2.2.2.1 bt1194.2.2.2.2.2.2.1 bt1194.2.2.2.2.2.2.2.1 bt1194.2.2.2.2.2.2.2.2.1 bt1194.2.2.2.2.2.2.2.2.2.1 bt1194.2.2.2.2.2.2.2.2.2.2)) else (stipendlaw13_TaxYear.j5 k x2 x9 x12 x13 x17 (wrap64 (x18 + (rd x12 x130))) bt1194.1 x129 x130 true x1132000 x1132001 x1132002 x1132003 x1132004 bt1194.2.2.1 bt1194.2.2.2.1 bt1194.2.2.2.2.1 bt1194.2.2.2.2.2.1 bt1194.2.2.2.2.2.2.1 bt1194.2.2.2.2.2.2.2.1 bt1194.2.2.2.2.2.2.2.2.1 bt1194.2.2.2.2.2.2.2.2.2.1 bt1194.2.2.2.2.2.2.2.2.2.2)) else (none)) else (none))) else (none)) else (none)) else (none)) else ((tax_Next.f k x1132000 x1132001 x1132002 x1132003 x1132004 x1143000 x1143001 x1143002 x1143003 x1143004 x1143005 x1143006 x1143007 x1143008 0 0 0 0 0 false 0 0 0).bind fun bt1181 => (some (bt1181.2.1 == 1)))
def stipendlaw13_TaxYear.j5 : Nat → List (S90) → List Int → List Int → Int → List Int → Int → Int → Int → Int → Bool → List (List (S106)) → List (S120) → List (S209) → Int → Int → Int → Int → Int → Int → Int → Int → Int → Int → Int → Option (Bool)
 | 0, _, _, _, _, _, _, _, _, _, _, _, _, _, _, _, _, _, _, _, _, _, _, _, _ => none
 | k + 1, x2, x9, x12, x13, x17, x18, x21, x129, x130, x173, x1132000, x1132001, x1132002, x1132003, x1132004, x1143000, x1143001, x1143002, x1143003, x1143004, x1143005, x1143006, x1143007, x1143008 => if x173 = true then (none) else (stipendlaw13_TaxYear.l1 k x2 x9 x12 x13 x17 x18 x21 x129 (wrap64 (x130 + 1)) x1132000 x1132001 x1132002 x1132003 x1132004 x1143000 x1143001 x1143002 x1143003 x1143004 x1143005 x1143006 x1143007 x1143008)
end
def stipendlaw13_TaxYear.f (k : Nat) (l0_0 : List (List (S106))) (l0_1 : List (S120)) (l0_2 : List (S209)) (a0_3 : Int) (a0_4 : Int) (a1 : Int) (l2 : List (S90)) : Option (Bool) := (stipendlaw13_dues.f k).bind fun t1132 => (if t1132 = true then ((period_New.f a1 2023 4 6).bind fun bt1133 => (if (l0_0.length : Int) > 20 then (stipendlaw13_TaxYear.j0 k a1 l2 true l0_0 l0_1 l0_2 a0_3 a0_4 bt1133.1 bt1133.2.1 bt1133.2.2.1 bt1133.2.2.2.1 bt1133.2.2.2.2.1 bt1133.2.2.2.2.2.1 bt1133.2.2.2.2.2.2.1 bt1133.2.2.2.2.2.2.2.1 bt1133.2.2.2.2.2.2.2.2.1) else ((table_Check.f k l0_0 l0_1 l0_2 a0_3 a0_4).bind fun t1144 => (if t1144 = 0 then (stipendlaw13_TaxYear.j0 k a1 l2 (decide ((l2.length : Int) > 60)) l0_0 l0_1 l0_2 a0_3 a0_4 bt1133.1 bt1133.2.1 bt1133.2.2.1 bt1133.2.2.2.1 bt1133.2.2.2.2.1 bt1133.2.2.2.2.2.1 bt1133.2.2.2.2.2.2.1 bt1133.2.2.2.2.2.2.2.1 bt1133.2.2.2.2.2.2.2.2.1) else (stipendlaw13_TaxYear.j0 k a1 l2 true l0_0 l0_1 l0_2 a0_3 a0_4 bt1133.1 bt1133.2.1 bt1133.2.2.1 bt1133.2.2.2.1 bt1133.2.2.2.2.1 bt1133.2.2.2.2.2.1 bt1133.2.2.2.2.2.2.1 bt1133.2.2.2.2.2.2.2.1 bt1133.2.2.2.2.2.2.2.2.1))))) else (none))
def stipendlaw13_TaxYear.T32 : Bool × List (List Nat × List Nat) := (true, [([], []), ([], []), ([], []), ([2], [2]), ([], []), ([], []), ([4, 5], [4, 5]), ([6], [6]), ([], []), ([], []), ([0, 1, 3, 7, 8, 9], [0, 1, 3, 7, 8, 9]), ([10], [10]), ([11], [11]), ([11], [11]), ([12, 10, 0, 1, 2, 3, 4, 5, 6, 7, 8, 9, 10, 11, 12], [12]), ([13, 14, 0, 1, 2, 3, 4, 5, 6, 7, 8, 9, 10, 11, 12, 13, 14], [13])])
def stipendlaw13_TaxYear.B32 : List Nat := [0, 0, 0, 4, 0, 0, 48, 112, 0, 0, 1023, 2047, 4095, 4095, 8191, 32767]
theorem stipendlaw13_TaxYear.tab32 : rtab .any (opsOf Try.f21 32) = stipendlaw13_TaxYear.T32 := by kernel_rfl
theorem stipendlaw13_TaxYear.bits32 : waitsOk stipendlaw13_TaxYear.T32.2 stipendlaw13_TaxYear.B32 = true := by kernel_rfl
def stipendlaw13_TaxYear.T33 : Bool × List (List Nat × List Nat) := (true, [([], []), ([], []), ([0, 1], [0, 1]), ([2], [2]), ([], []), ([], []), ([4, 5], [4, 5]), ([6], [6]), ([3, 7], [3, 7]), ([8], [8]), ([9], [9]), ([10, 9], [9, 10]), ([9, 11], [9, 11]), ([12, 9], [12]), ([13], [13]), ([13], [13]), ([13], [13]), ([15, 16, 13], [13, 15, 16]), ([17, 13], [13, 17]), ([14, 18, 13], [13, 14, 18]), ([13, 19], [13, 19])])
def stipendlaw13_TaxYear.B33 : List Nat := [0, 0, 3, 7, 0, 0, 48, 112, 255, 511, 1023, 2047, 4095, 8191, 16383, 16383, 16383, 114687, 245759, 524287, 1048575]
theorem stipendlaw13_TaxYear.tab33 : rtab .any (opsOf Try.f21 33) = stipendlaw13_TaxYear.T33 := by kernel_rfl
theorem stipendlaw13_TaxYear.bits33 : waitsOk stipendlaw13_TaxYear.T33.2 stipendlaw13_TaxYear.B33 = true := by kernel_rfl
set_option maxHeartbeats 8000000 in
set_option maxRecDepth 100000 in
theorem stipendlaw13_TaxYear.calls (k : Nat) (A0_0 : Option Addr) (c0_0 : Nat) (l0_0 : List (List (S106))) (A0_1 : Option Addr) (c0_1 : Nat) (l0_1 : List (S120)) (A0_2 : Option Addr) (c0_2 : Nat) (l0_2 : List (S209)) (a0_3 : Int) (a0_4 : Int) (a1 : Int) (A2 : Option Addr) (c2 : Nat) (l2 : List (S90)) (r : Bool) (w : World) (hr0_0 : Kd.C (Kd.slice 106 k106) w A0_0 l0_0.length l0_0) (hc0_0 : l0_0.length ≤ c0_0) (hr0_1 : Kd.C k120 w A0_1 l0_1.length l0_1) (hc0_1 : l0_1.length ≤ c0_1) (hr0_2 : Kd.C k209 w A0_2 l0_2.length l0_2) (hc0_2 : l0_2.length ≤ c0_2) (hr2 : Kd.C k90 w A2 l2.length l2) (hc2 : l2.length ≤ c2) (h : stipendlaw13_TaxYear.f k l0_0 l0_1 l0_2 a0_3 a0_4 a1 l2 = some r) :
  Calls Try.prog 21 #[.agg #[.slice A0_0 l0_0.length c0_0, .slice A0_1 l0_1.length c0_1, .slice A0_2 l0_2.length c0_2, .int .i64 a0_3, .int .i64 a0_4], .int .i64 a1, .slice A2 l2.length c2] w fun e w' => e = .returned (.bool r) ∧ Below w.heap.size w w' := by
 have hu56 := Try.underlying56; have hu86 := Try.underlying86; have hu90 := Try.underlying90; have hu88 := Try.underlying88; have HR0_0 := A_ hr0_0; have HC0_0 := A_ hc0_0; clear hr0_0 hc0_0; have HR0_1 := A_ hr0_1; have HC0_1 := A_ hc0_1; clear hr0_1 hc0_1; have HR0_2 := A_ hr0_2; have HC0_2 := A_ hc0_2; clear hr0_2 hc0_2; have HR2 := A_ hr2; have HC2 := A_ hc2; clear hr2 hc2; have HB := A_ (Below.refl w.heap.size w); unfold stipendlaw13_TaxYear.f at h; have H := h; clear h; replace H := Option.bind_eq_some_iff.mp H; obtain ⟨t1132, A40, H⟩ := H; (try dsimp only at H); have A4 := A_ A40; clear A40; by_cases c5 : t1132 = true
 ·subst c5; rw [if_pos rfl] at H; replace H := Option.bind_eq_some_iff.mp H; obtain ⟨⟨t1133, t1134, t1135, t1136, t1137, t1138, t1139, t1140, t1141, t1143⟩, A60, H⟩ := H; (try dsimp only at H); have A6 := A_ A60; clear A60; have HC7 := A_ H; clear H; go_enter Try.func21, Try.ntmps21
  go_upto_region 4 with (first | ((with_reducible refine gate_dst (N := 3) rfl ?_); refine be_ (N := 3) (cs := #[.slice A0_0 l0_0.length c0_0, .slice A0_1 l0_1.length c0_1, .slice A0_2 l0_2.length c0_2, .int .i64 a0_3, .int .i64 a0_4]) (t := 56) ?_; intro gb1131 hg w8 hbox hb; have BK1131 := A_ (hbox); have GW1131 := A_ ((by rw [hg]; exact (below_size (bl_ HB)) : w.heap.size ≤ gb1131)); have GE1131 := A_ ((by rw [hg]; exact (below_size (bl_ HB)) : w.heap.size ≤ gb1131)); replace HB := A_ (below_step (bl_ HB) hb); clear hb hbox hg) | ((with_reducible refine gate_callee (f := 77) rfl ?_); refine gm_ (some 25) Try.func77 #[] ?_; (with_reducible refine (stipendlaw13_dues.calls k  true _ A4.out).mono ?_); rintro e w9 ⟨rfl, hb⟩; refine ⟨_, rfl, ?_⟩; replace BK1131 := A_ (blk_below (bx_ BK1131) hb); replace HB := A_ (below_step (bl1_ HB GE1131.out) hb); (try clear hb); (try clear hb2); (try clear hk); (try clear hi)) | ((with_reducible refine gate_callee (f := 52) rfl ?_); refine gm_ (some 30) Try.func52 #[.int .i64 a1, .agg #[.int .i64 2023, .int .i64 4, .int .i64 6]] ?_; (with_reducible refine (period_New.calls a1 2023 4 6 t1133 t1134 t1135 t1136 t1137 t1138 t1139 t1140 t1141 t1143 w _ ?side1 A6.out).mono ?_); (case side1 => repeat (first | (with_reducible first | exact HB.out | apply below_alloc | apply pw_below_drewN | apply below_drew1 | refine below_set ?_ GE1131.out) | exact HB.out)); rintro e w10 ⟨g1142, rfl, hi, hb, hb2⟩; refine ⟨_, rfl, ?_⟩; have HI1142 := A_ (hi); have NB1142_1131 := A_ (IsS180.ne_blk hi (blk_below (bx_ BK1131) hb2) (by decide)); have NB1131_1142 := A_ (Ne.symm (IsS180.ne_blk hi (blk_below (bx_ BK1131) hb2) (by decide))); replace BK1131 := A_ (blk_below (bx_ BK1131) hb2); replace HB := A_ (hb); (try clear hb); (try clear hb2); (try clear hk); (try clear hi)))
  (try simp only [Act.put, List.setIfInBounds_toArray, List.set_cons_zero, List.set_cons_succ])
  go_cut [50] (fun v50 wc => ∃ (kq : Nat) (x50_6 : Bool), v50 = .bool x50_6 ∧ Aside0 (stipendlaw13_TaxYear.j0 kq a1 l2 x50_6 l0_0 l0_1 l0_2 a0_3 a0_4 t1133 t1134 t1135 t1136 t1137 t1138 t1139 t1140 t1141 = some r) ∧ Aside0 (kq ≤ k) ∧ Aside0 (wc.heap[gb1131]? = some (.cells #[(.slice A0_0 l0_0.length c0_0), (.slice A0_1 l0_1.length c0_1), (.slice A0_2 l0_2.length c0_2), .int .i64 a0_3, .int .i64 a0_4] 56 (0, 0))) ∧ Aside0 (IsS180 w wc g1142 t1133 t1134 t1135 t1136 t1137 t1138 t1139 t1140 t1141) ∧ Aside0 (Below w.heap.size w wc))
  case first =>
   have H := HC7.out; clear HC7; by_cases c11 : (l0_0.length : Int) > 20
   ·rw [if_pos c11] at H; have c11b0 : decide (20 < (l0_0.length : Int)) = true := decide_eq_true c11; have c11b1 : decide (20 < l0_0.length) = true := decide_eq_true (by omega); clear c11
    (first | rw [c11b0] | (simp only [i64_w, i32_w]; rw [c11b0]) | skip)
    have H' := A_ H; clear H; have hnb12 := NB1131_1142.out; have hnc12 := NB1142_1131.out; have hcz13_0 := cz_ BK1131 0; have hcz13_1 := cz_ BK1131 1; have hcz13_2 := cz_ BK1131 2; have hcz13_3 := cz_ BK1131 3; have hcz13_4 := cz_ BK1131 4; have hfz13_0 := fz_ BK1131 0; have hfz13_1 := fz_ BK1131 1; have hfz13_2 := fz_ BK1131 2; have hfz13_3 := fz_ BK1131 3; have hfz13_4 := fz_ BK1131 4
    go_wp2
    go_meet
    case rel => exact ⟨_, (true), (sx_), H', ⟨by first | omega | exact Nat.le_refl _⟩, ⟨bx_ BK1131⟩, ⟨is1_ HI1142 NB1142_1131.out⟩, ⟨bl2_ HB (IsS180.ge HI1142.out) GE1131.out⟩⟩
   ·rw [if_neg c11] at H; have c11b0 : decide (20 < (l0_0.length : Int)) = false := decide_eq_false c11; have c11b1 : decide (20 < l0_0.length) = false := decide_eq_false (by omega); clear c11
    (first | rw [c11b0] | (simp only [i64_w, i32_w]; rw [c11b0]) | skip)
    replace H := Option.bind_eq_some_iff.mp H; obtain ⟨t1144, A140, H⟩ := H; (try dsimp only at H); have A14 := A_ A140; clear A140; by_cases c15 : t1144 = 0
    ·rw [if_pos c15] at H; have c15b0 : (t1144 == 0) = true := beq_iff_eq.mpr c15; have c15b1 : (t1144 != 0) = false := bne_eq_false_iff_eq.mpr c15; clear c15; have H' := A_ H; clear H; have hnb16 := NB1131_1142.out; have hnc16 := NB1142_1131.out; have hcz17_0 := cz_ BK1131 0; have hcz17_1 := cz_ BK1131 1; have hcz17_2 := cz_ BK1131 2; have hcz17_3 := cz_ BK1131 3; have hcz17_4 := cz_ BK1131 4; have hfz17_0 := fz_ BK1131 0; have hfz17_1 := fz_ BK1131 1; have hfz17_2 := fz_ BK1131 2; have hfz17_3 := fz_ BK1131 3; have hfz17_4 := fz_ BK1131 4; go_wp2_with (first | (go_at_call 41; (with_reducible refine (table_Check.calls k _ _ l0_0 _ _ l0_1 _ _ l0_2 a0_3 a0_4 t1144 _ ?side1 ?side2 ?side3 ?side4 ?side5 ?side6 A14.out).mono ?_); (case side1 => exact cb_ HR0_0 HB); (case side2 => exact HC0_0.out); (case side3 => exact cb_ HR0_1 HB); (case side4 => exact HC0_1.out); (case side5 => exact cb_ HR0_2 HB); (case side6 => exact HC0_2.out); rintro e w18 ⟨rfl, hb⟩; replace BK1131 := A_ (blk_below (bx_ BK1131) hb); replace HB := A_ (below_step (bl2_ HB (IsS180.ge HI1142.out) GE1131.out) hb); replace HI1142 := A_ (IsS180.below (is1_ HI1142 NB1142_1131.out) hb); (try clear hb); (try clear hb2); (try clear hk); (try clear hi)))
     go_meet
     case rel => exact ⟨_, (decide ((l2.length : Int) > 60)), (sx_), H', ⟨by first | omega | exact Nat.le_refl _⟩, ⟨bx_ BK1131⟩, ⟨is1_ HI1142 NB1142_1131.out⟩, ⟨bl2_ HB (IsS180.ge HI1142.out) GE1131.out⟩⟩
    ·rw [if_neg c15] at H; have c15b0 : (t1144 == 0) = false := beq_eq_false_iff_ne.mpr c15; have c15b1 : (t1144 != 0) = true := bne_iff_ne.mpr c15; have H' := A_ H; clear H; have hnb19 := NB1131_1142.out; have hnc19 := NB1142_1131.out; have hcz20_0 := cz_ BK1131 0; have hcz20_1 := cz_ BK1131 1; have hcz20_2 := cz_ BK1131 2; have hcz20_3 := cz_ BK1131 3; have hcz20_4 := cz_ BK1131 4; have hfz20_0 := fz_ BK1131 0; have hfz20_1 := fz_ BK1131 1; have hfz20_2 := fz_ BK1131 2; have hfz20_3 := fz_ BK1131 3; have hfz20_4 := fz_ BK1131 4; go_wp2_with (first | (go_at_call 41; (with_reducible refine (table_Check.calls k _ _ l0_0 _ _ l0_1 _ _ l0_2 a0_3 a0_4 t1144 _ ?side1 ?side2 ?side3 ?side4 ?side5 ?side6 A14.out).mono ?_); (case side1 => exact cb_ HR0_0 HB); (case side2 => exact HC0_0.out); (case side3 => exact cb_ HR0_1 HB); (case side4 => exact HC0_1.out); (case side5 => exact cb_ HR0_2 HB); (case side6 => exact HC0_2.out); rintro e w21 ⟨rfl, hb⟩; replace BK1131 := A_ (blk_below (bx_ BK1131) hb); replace HB := A_ (below_step (bl2_ HB (IsS180.ge HI1142.out) GE1131.out) hb); replace HI1142 := A_ (IsS180.below (is1_ HI1142 NB1142_1131.out) hb); (try clear hb); (try clear hb2); (try clear hk); (try clear hi)))
     go_meet
     case rel => exact ⟨_, (true), (sx_), H', ⟨by first | omega | exact Nat.le_refl _⟩, ⟨bx_ BK1131⟩, ⟨is1_ HI1142 NB1142_1131.out⟩, ⟨bl2_ HB (IsS180.ge HI1142.out) GE1131.out⟩⟩
  case rest =>
   clear HC7; try clear c1
   try clear c2
   try clear p2
   try clear c5
   try clear c7
   try clear c11
   try clear c11b0
   try clear c11b1
   try clear c12
   try clear c15
   try clear c15b0
   try clear c15b1
   try clear c16
   try clear c19
   try clear c21
   try clear hcz13_0 hcz13_1 hcz13_2 hcz13_3 hcz13_4
   try clear hcz17_0 hcz17_1 hcz17_2 hcz17_3 hcz17_4
   try clear hcz20_0 hcz20_1 hcz20_2 hcz20_3 hcz20_4
   try clear hfz13_0 hfz13_1 hfz13_2 hfz13_3 hfz13_4
   try clear hfz17_0 hfz17_1 hfz17_2 hfz17_3 hfz17_4
   try clear hfz20_0 hfz20_1 hfz20_2 hfz20_3 hfz20_4
   obtain ⟨kq, x50_6, rfl, HA, HJ6, BK1131, HI1142, HB⟩ := hcut
   cases kq with
   | zero => exact absurd HA.out (by simp [stipendlaw13_TaxYear.j0])
   | succ kj6 =>
    have H := HA.out; clear HA; simp only [stipendlaw13_TaxYear.j0] at H; by_cases c22 : x50_6 = true
    ·subst c22; rw [if_pos rfl] at H; obtain rfl := Option.some.inj H
     go_wp2
     go_ret
     exact ⟨er_, bl2_ HB (IsS180.ge HI1142.out) GE1131.out⟩
    ·replace c22 := Bool.eq_false_iff.mpr c22; subst c22; rw [if_neg (show ¬ (false = true) by decide)] at H; replace H := Option.bind_eq_some_iff.mp H; obtain ⟨⟨t1145, t1148, t1149, t1150, t1151, t1152, t1153, t1154, t1155, t1156, t1157⟩, A230, H⟩ := H; (try dsimp only at H); have A23 := A_ A230; clear A230; replace H := Option.bind_eq_some_iff.mp H; obtain ⟨⟨t1158, t1159, t1160, t1161, t1162, t1163, t1164, t1165, t1166, t1167⟩, A240, H⟩ := H; (try dsimp only at H); have A24 := A_ A240; clear A240; by_cases c25 : (l2.length : Int) > t1158
     ·rw [if_pos c25] at H; have c25b0 : decide (t1158 < (l2.length : Int)) = true := decide_eq_true c25; clear c25; by_cases c26 : t1148 = 1
      ·rw [if_pos c26] at H; have c26b0 : (t1148 == 1) = true := beq_iff_eq.mpr c26; have c26b1 : (t1148 != 1) = false := bne_eq_false_iff_eq.mpr c26; clear c26; obtain rfl := Option.some.inj H; have hnb27 := NB1131_1142.out; have hnc27 := NB1142_1131.out; have hcz28_0 := cz_ BK1131 0; have hcz28_1 := cz_ BK1131 1; have hcz28_2 := cz_ BK1131 2; have hcz28_3 := cz_ BK1131 3; have hcz28_4 := cz_ BK1131 4; have hfz28_0 := fz_ BK1131 0; have hfz28_1 := fz_ BK1131 1; have hfz28_2 := fz_ BK1131 2; have hfz28_3 := fz_ BK1131 3; have hfz28_4 := fz_ BK1131 4; go_wp2_with (first | ((with_reducible refine gate_callee (f := 54) rfl ?_); refine gm_ (some 55) Try.func54 #[.agg #[.slice A0_0 l0_0.length c0_0, .slice A0_1 l0_1.length c0_1, .slice A0_2 l0_2.length c0_2, .int .i64 a0_3, .int .i64 a0_4], .pointer (some ⟨g1142, 0, none⟩), .slice A2 l2.length c2] ?_; (with_reducible refine (tax_Year.calls kj6 _ _ l0_0 _ _ l0_1 _ _ l0_2 a0_3 a0_4 g1142 t1133 t1134 t1135 t1136 t1137 t1138 t1139 t1140 t1141 _ _ l2 t1145 t1148 t1149 t1150 t1151 t1152 t1153 t1154 t1155 t1156 t1157 w _ ?side1 ?side2 ?side3 ?side4 ?side5 ?side6 ?side7 ?side8 ?side9 ?side10 A23.out).mono ?_); (case side1 => repeat (first | (with_reducible first | exact HI1142.out | apply IsS180.alloc | apply IsS180.drewN | apply IsS180.drew | apply IsS180.set_0 | apply IsS180.set_1 | apply IsS180.set_2 | apply IsS180.set_3 | apply IsS180.set_4 | apply IsS180.set_5 | apply IsS180.set_6 | apply IsS180.set_7 | apply IsS180.set_8 | refine IsS180.far ?_ NB1142_1131.out _) | exact HI1142.out)); (case side2 => repeat (first | (with_reducible first | exact HB.out | apply below_alloc | apply pw_below_drewN | apply below_drew1 | refine below_set ?_ (IsS180.ge HI1142.out) | refine below_set ?_ GE1131.out) | exact HB.out)); (case side3 => exact Kd.C_foot_came (Kd.heap_slice 106 k106_heap) HR0_0.out (bl2_ HB (IsS180.ge HI1142.out) GE1131.out) (IsS180.ge HI1142.out)); (case side4 => exact HC0_0.out); (case side5 => exact Kd.C_foot_came k120_heap HR0_1.out (bl2_ HB (IsS180.ge HI1142.out) GE1131.out) (IsS180.ge HI1142.out)); (case side6 => exact HC0_1.out); (case side7 => exact Kd.C_foot_came k209_heap HR0_2.out (bl2_ HB (IsS180.ge HI1142.out) GE1131.out) (IsS180.ge HI1142.out)); (case side8 => exact HC0_2.out); (case side9 => exact Kd.C_foot_came k90_heap HR2.out (bl2_ HB (IsS180.ge HI1142.out) GE1131.out) (IsS180.ge HI1142.out)); (case side10 => exact HC2.out); rintro e w29 ⟨v1146, rfl, ho0, hi, hb, hk⟩; refine ⟨_, rfl, ?_⟩; have HO1147 := A_ (Kd.R_lower ho0 (below_size (bl2_ HB (IsS180.ge HI1142.out) GE1131.out))); replace BK1131 := A_ (KeepBut.blk hk (g' := gb1131) (o := .cells #[.slice A0_0 l0_0.length c0_0, .slice A0_1 l0_1.length c0_1, .slice A0_2 l0_2.length c0_2, .int .i64 a0_3, .int .i64 a0_4] 56 (0, 0)) (bx_ BK1131) NB1131_1142.out (by simp)); replace HB := A_ (hb); replace HI1142 := A_ (hi); (try clear hb); (try clear hb2); (try clear hk); (try clear hi); (try clear ho0)) | ((with_reducible refine gate_callee (f := 86) rfl ?_); refine gm_ (some 61) Try.func86 #[.pointer (some ⟨g1142, 0, none⟩)] ?_; (with_reducible refine (period_Year_Count.calls g1142 t1149 t1150 t1151 t1152 t1153 t1154 t1155 t1156 t1157 t1158 t1159 t1160 t1161 t1162 t1163 t1164 t1165 t1166 t1167 w _ ?side1 ?side2 A24.out).mono ?_); (case side1 => repeat (first | (with_reducible first | exact HI1142.out | apply IsS180.alloc | apply IsS180.drewN | apply IsS180.drew | apply IsS180.set_0 | apply IsS180.set_1 | apply IsS180.set_2 | apply IsS180.set_3 | apply IsS180.set_4 | apply IsS180.set_5 | apply IsS180.set_6 | apply IsS180.set_7 | apply IsS180.set_8 | refine IsS180.far ?_ NB1142_1131.out _) | exact HI1142.out)); (case side2 => repeat (first | (with_reducible first | exact HB.out | apply below_alloc | apply pw_below_drewN | apply below_drew1 | refine below_set ?_ (IsS180.ge HI1142.out) | refine below_set ?_ GE1131.out) | exact HB.out)); rintro e w30 ⟨rfl, hi, hb, hk⟩; refine ⟨_, rfl, ?_⟩; replace BK1131 := A_ (KeepBut.blk hk (g' := gb1131) (o := .cells #[.slice A0_0 l0_0.length c0_0, .slice A0_1 l0_1.length c0_1, .slice A0_2 l0_2.length c0_2, .int .i64 a0_3, .int .i64 a0_4] 56 (0, 0)) (bx_ BK1131) NB1131_1142.out (by simp)); replace HO1147 := A_ (Kd.R_mono (Kd.R_keep (IsS180.apart (show IsS180 w _ g1142 t1149 t1150 t1151 t1152 t1153 t1154 t1155 t1156 t1157 from is1_ HI1142 NB1142_1131.out) (ro_ HO1147) (by decide)) hk (fun _ h => h.2)) (fun _ h => h.1)); replace HB := A_ (hb); replace HI1142 := A_ (hi); (try clear hb); (try clear hb2); (try clear hk); (try clear hi); obtain ⟨Ao31, co31, eo31⟩ := Kd.R_slice HO1147.out; subst eo31))
       go_ret
       exact ⟨er_, bl2_ HB (IsS180.ge HI1142.out) GE1131.out⟩
      ·rw [if_neg c26] at H; exact absurd H (by simp)
     ·rw [if_neg c25] at H; have c25b0 : decide (t1158 < (l2.length : Int)) = false := decide_eq_false c25; clear c25; have H' := A_ H; clear H; have hnb32 := NB1131_1142.out; have hnc32 := NB1142_1131.out; have hcz33_0 := cz_ BK1131 0; have hcz33_1 := cz_ BK1131 1; have hcz33_2 := cz_ BK1131 2; have hcz33_3 := cz_ BK1131 3; have hcz33_4 := cz_ BK1131 4; have hfz33_0 := fz_ BK1131 0; have hfz33_1 := fz_ BK1131 1; have hfz33_2 := fz_ BK1131 2; have hfz33_3 := fz_ BK1131 3; have hfz33_4 := fz_ BK1131 4; go_wp2_with (first | ((with_reducible refine gate_callee (f := 54) rfl ?_); refine gm_ (some 55) Try.func54 #[.agg #[.slice A0_0 l0_0.length c0_0, .slice A0_1 l0_1.length c0_1, .slice A0_2 l0_2.length c0_2, .int .i64 a0_3, .int .i64 a0_4], .pointer (some ⟨g1142, 0, none⟩), .slice A2 l2.length c2] ?_; (with_reducible refine (tax_Year.calls kj6 _ _ l0_0 _ _ l0_1 _ _ l0_2 a0_3 a0_4 g1142 t1133 t1134 t1135 t1136 t1137 t1138 t1139 t1140 t1141 _ _ l2 t1145 t1148 t1149 t1150 t1151 t1152 t1153 t1154 t1155 t1156 t1157 w _ ?side1 ?side2 ?side3 ?side4 ?side5 ?side6 ?side7 ?side8 ?side9 ?side10 A23.out).mono ?_); (case side1 => repeat (first | (with_reducible first | exact HI1142.out | apply IsS180.alloc | apply IsS180.drewN | apply IsS180.drew | apply IsS180.set_0 | apply IsS180.set_1 | apply IsS180.set_2 | apply IsS180.set_3 | apply IsS180.set_4 | apply IsS180.set_5 | apply IsS180.set_6 | apply IsS180.set_7 | apply IsS180.set_8 | refine IsS180.far ?_ NB1142_1131.out _) | exact HI1142.out)); (case side2 => repeat (first | (with_reducible first | exact HB.out | apply below_alloc | apply pw_below_drewN | apply below_drew1 | refine below_set ?_ (IsS180.ge HI1142.out) | refine below_set ?_ GE1131.out) | exact HB.out)); (case side3 => exact Kd.C_foot_came (Kd.heap_slice 106 k106_heap) HR0_0.out (bl2_ HB (IsS180.ge HI1142.out) GE1131.out) (IsS180.ge HI1142.out)); (case side4 => exact HC0_0.out); (case side5 => exact Kd.C_foot_came k120_heap HR0_1.out (bl2_ HB (IsS180.ge HI1142.out) GE1131.out) (IsS180.ge HI1142.out)); (case side6 => exact HC0_1.out); (case side7 => exact Kd.C_foot_came k209_heap HR0_2.out (bl2_ HB (IsS180.ge HI1142.out) GE1131.out) (IsS180.ge HI1142.out)); (case side8 => exact HC0_2.out); (case side9 => exact Kd.C_foot_came k90_heap HR2.out (bl2_ HB (IsS180.ge HI1142.out) GE1131.out) (IsS180.ge HI1142.out)); (case side10 => exact HC2.out); rintro e w34 ⟨v1146, rfl, ho0, hi, hb, hk⟩; refine ⟨_, rfl, ?_⟩; have HO1147 := A_ (Kd.R_lower ho0 (below_size (bl2_ HB (IsS180.ge HI1142.out) GE1131.out))); replace BK1131 := A_ (KeepBut.blk hk (g' := gb1131) (o := .cells #[.slice A0_0 l0_0.length c0_0, .slice A0_1 l0_1.length c0_1, .slice A0_2 l0_2.length c0_2, .int .i64 a0_3, .int .i64 a0_4] 56 (0, 0)) (bx_ BK1131) NB1131_1142.out (by simp)); replace HB := A_ (hb); replace HI1142 := A_ (hi); (try clear hb); (try clear hb2); (try clear hk); (try clear hi); (try clear ho0)) | ((with_reducible refine gate_callee (f := 86) rfl ?_); refine gm_ (some 61) Try.func86 #[.pointer (some ⟨g1142, 0, none⟩)] ?_; (with_reducible refine (period_Year_Count.calls g1142 t1149 t1150 t1151 t1152 t1153 t1154 t1155 t1156 t1157 t1158 t1159 t1160 t1161 t1162 t1163 t1164 t1165 t1166 t1167 w _ ?side1 ?side2 A24.out).mono ?_); (case side1 => repeat (first | (with_reducible first | exact HI1142.out | apply IsS180.alloc | apply IsS180.drewN | apply IsS180.drew | apply IsS180.set_0 | apply IsS180.set_1 | apply IsS180.set_2 | apply IsS180.set_3 | apply IsS180.set_4 | apply IsS180.set_5 | apply IsS180.set_6 | apply IsS180.set_7 | apply IsS180.set_8 | refine IsS180.far ?_ NB1142_1131.out _) | exact HI1142.out)); (case side2 => repeat (first | (with_reducible first | exact HB.out | apply below_alloc | apply pw_below_drewN | apply below_drew1 | refine below_set ?_ (IsS180.ge HI1142.out) | refine below_set ?_ GE1131.out) | exact HB.out)); rintro e w35 ⟨rfl, hi, hb, hk⟩; refine ⟨_, rfl, ?_⟩; replace BK1131 := A_ (KeepBut.blk hk (g' := gb1131) (o := .cells #[.slice A0_0 l0_0.length c0_0, .slice A0_1 l0_1.length c0_1, .slice A0_2 l0_2.length c0_2, .int .i64 a0_3, .int .i64 a0_4] 56 (0, 0)) (bx_ BK1131) NB1131_1142.out (by simp)); replace HO1147 := A_ (Kd.R_mono (Kd.R_keep (IsS180.apart (show IsS180 w _ g1142 t1149 t1150 t1151 t1152 t1153 t1154 t1155 t1156 t1157 from is1_ HI1142 NB1142_1131.out) (ro_ HO1147) (by decide)) hk (fun _ h => h.2)) (fun _ h => h.1)); replace HB := A_ (hb); replace HI1142 := A_ (hi); (try clear hb); (try clear hb2); (try clear hk); (try clear hi)))
      go_loopg [11, 12, 13, 72] kj6 (fun kq v11 v12 v13 v72 w' => ∃ (x11_2 : List (S88)) (x12_2 : List Int) (x13_2 : Int) (x72_2 : Int), v13 = .int .i64 x13_2 ∧ v72 = .int .i64 x72_2 ∧ Aside0 (stipendlaw13_TaxYear.l0 kq a1 l2 t1145 t1148 x11_2 x12_2 x13_2 l2 (l2.length : Int) x72_2 l0_0 l0_1 l0_2 a0_3 a0_4 t1159 t1160 t1161 t1162 t1163 t1164 t1165 t1166 t1167 = some r) ∧ Aside0 (kq ≤ kj6) ∧ Aside0 (Kd.R (Kd.int .i64) 2 w' w.heap.size (fun k_ => some k_ ≠ (v12 : Value).ownBlock) v1146 t1145) ∧ Aside0 (Kd.R k88 88 w' w.heap.size (fun _ => True) v11 x11_2) ∧ Aside0 (Kd.R (Kd.int .i64) 2 w' w.heap.size (fun k_ => some k_ ≠ (v1146 : Value).ownBlock) v12 x12_2) ∧ Aside0 (w'.heap[gb1131]? = some (.cells #[(.slice A0_0 l0_0.length c0_0), (.slice A0_1 l0_1.length c0_1), (.slice A0_2 l0_2.length c0_2), .int .i64 a0_3, .int .i64 a0_4] 56 (0, 0))) ∧ Aside0 (IsS180 w w' g1142 t1159 t1160 t1161 t1162 t1163 t1164 t1165 t1166 t1167) ∧ Aside0 (Below w.heap.size w w'))
      case atStart => exact ⟨(([] : List (S88))), (([] : List Int)), (0), (0), (sx_), (sx_), H', ⟨Nat.le_refl _⟩, ⟨by (with_reducible repeat (first | apply Kd.R_alloc | apply Kd.R_drewN | apply Kd.R_drew)); exact Kd.R_mono HO1147.out (fun _ hk => (by simp [Value.ownBlock]))⟩, ⟨by first | exact Kd.R_nil _ _ _ _ _ | exact Kd.N_nil _ _ _ _ _ | exact Kd.V_nil _ _ _ _ _ | exact Kd.Q_nil _ _ _ _ _ | exact Kd.S_nil _ _ _ _ _⟩, ⟨by first | exact Kd.R_nil _ _ _ _ _ | exact Kd.N_nil _ _ _ _ _ | exact Kd.V_nil _ _ _ _ _ | exact Kd.Q_nil _ _ _ _ _ | exact Kd.S_nil _ _ _ _ _⟩, ⟨bx_ BK1131⟩, ⟨is1_ HI1142 NB1142_1131.out⟩, ⟨bl2_ HB (IsS180.ge HI1142.out) GE1131.out⟩⟩
      case round =>
       clear H'; try clear c1
       try clear c2
       try clear p2
       try clear c3
       try clear c5
       try clear c7
       try clear c8
       try clear c11
       try clear c11b0
       try clear c11b1
       try clear c12
       try clear c15
       try clear c15b0
       try clear c15b1
       try clear c16
       try clear c19
       try clear c21
       try clear c22
       try clear c25
       try clear c25b0
       try clear c26
       try clear c26b0
       try clear c26b1
       try clear c27
       try clear c32
       try clear hcz13_0 hcz13_1 hcz13_2 hcz13_3 hcz13_4
       try clear hcz17_0 hcz17_1 hcz17_2 hcz17_3 hcz17_4
       try clear hcz20_0 hcz20_1 hcz20_2 hcz20_3 hcz20_4
       try clear hcz28_0 hcz28_1 hcz28_2 hcz28_3 hcz28_4
       try clear hcz33_0 hcz33_1 hcz33_2 hcz33_3 hcz33_4
       try clear hfz13_0 hfz13_1 hfz13_2 hfz13_3 hfz13_4
       try clear hfz17_0 hfz17_1 hfz17_2 hfz17_3 hfz17_4
       try clear hfz20_0 hfz20_1 hfz20_2 hfz20_3 hfz20_4
       try clear hfz28_0 hfz28_1 hfz28_2 hfz28_3 hfz28_4
       try clear hfz33_0 hfz33_1 hfz33_2 hfz33_3 hfz33_4
       try clear p2
       obtain ⟨x11_2, x12_2, x13_2, x72_2, rfl, rfl, HA, HK2, HO_9, HO_11, HO_12, BK1131, HI1142, HB⟩ := hrel
       cases gk with
       | zero => exact absurd HA.out (by simp [stipendlaw13_TaxYear.l0])
       | succ k2 =>
        have H := HA.out; clear HA; simp only [stipendlaw13_TaxYear.l0] at H; by_cases c36 : x72_2 < (l2.length : Int)
        ·rw [if_pos c36] at H; have c36b0 := decide_eq_true c36; clear c36; by_cases c37 : 0 ≤ x72_2
         ·rw [if_pos c37] at H; have c37b0 := decide_eq_true c37; clear c37; by_cases c38 : x72_2 < (l2.length : Int)
          ·rw [if_pos c38] at H; have c38b0 := decide_eq_true c38; clear c38; have HC39 := A_ H; clear H; have p1168 : 0 ≤ (x72_2 : Int) := od_; have q1168 : x72_2 < (l2.length : Int) := od_; obtain ⟨ad1168, e1168, hx1168_0, hx1168_1, hx1168_2, hx1168_3, hx1168_4, hx1168_5⟩ := at_T90 HR2.out x72_2 p1168 q1168; cases e1168; replace hx1168_0 := (HB.out.cell (World.block_lt_of_cell? w _ hx1168_0)).trans hx1168_0; replace hx1168_1 := (HB.out.cell (World.block_lt_of_cell? w _ hx1168_1)).trans hx1168_1; replace hx1168_2 := (HB.out.cell (World.block_lt_of_cell? w _ hx1168_2)).trans hx1168_2; replace hx1168_3 := (HB.out.cell (World.block_lt_of_cell? w _ hx1168_3)).trans hx1168_3; replace hx1168_4 := (HB.out.cell (World.block_lt_of_cell? w _ hx1168_4)).trans hx1168_4; replace hx1168_5 := (HB.out.cell (World.block_lt_of_cell? w _ hx1168_5)).trans hx1168_5; replace p1168 := eq_true p1168; replace q1168 := eq_true q1168; go_upto_region 15 with (first | ((with_reducible refine gate_dst (N := 15) rfl ?_); refine be_ (N := 15) (cs := #[.int .i64 0, .int .i64 0, .int .i64 0, .int .i64 0, .bool false, .int .i64 0]) (t := 90) ?_; intro gb1169 hg w40 hbox hb; have BK1169 := A_ (hbox); have GW1169 := A_ ((by rw [hg]; exact (below_size (bl2_ HB (IsS180.ge HI1142.out) GE1131.out)) : w.heap.size ≤ gb1169)); have GE1169 := A_ ((by rw [hg]; exact (below_size (bl2_ HB (IsS180.ge HI1142.out) GE1131.out)) : w.heap.size ≤ gb1169)); have NB1131_1169 := A_ ((by rw [hg]; exact Nat.ne_of_lt (blk_lt (bx_ BK1131)) : gb1131 ≠ gb1169)); have NB1169_1131 := A_ ((by rw [hg]; exact Nat.ne_of_gt (blk_lt (bx_ BK1131)) : gb1169 ≠ gb1131)); have NB1142_1169 := A_ ((by rw [hg]; exact Nat.ne_of_lt (IsS180.lt (show IsS180 w _ g1142 t1159 t1160 t1161 t1162 t1163 t1164 t1165 t1166 t1167 from is1_ HI1142 NB1142_1131.out)) : g1142 ≠ gb1169)); have NB1169_1142 := A_ ((by rw [hg]; exact Nat.ne_of_gt (IsS180.lt (show IsS180 w _ g1142 t1159 t1160 t1161 t1162 t1163 t1164 t1165 t1166 t1167 from is1_ HI1142 NB1142_1131.out)) : gb1169 ≠ g1142)); replace HO_9 := A_ (Kd.R_below (ro_ HO_9) hb); replace HO_11 := A_ (Kd.R_below (ro_ HO_11) hb); replace HO_12 := A_ (Kd.R_below (ro_ HO_12) hb); replace BK1131 := A_ (blk_below (bx_ BK1131) hb); replace HB := A_ (below_step (bl2_ HB (IsS180.ge HI1142.out) GE1131.out) hb); replace HI1142 := A_ (IsS180.below (is1_ HI1142 NB1142_1131.out) hb); clear hb hbox hg; have hnb41 := NB1169_1131.out; have hnc41 := NB1131_1169.out; have hnb42 := NB1169_1142.out; have hnc42 := NB1142_1169.out; have hcz43_0 := cz_ BK1169 0; have hcz43_1 := cz_ BK1169 1; have hcz43_2 := cz_ BK1169 2; have hcz43_3 := cz_ BK1169 3; have hcz43_4 := cz_ BK1169 4; have hcz43_5 := cz_ BK1169 5; have hfz43_0 := fz_ BK1169 0; have hfz43_1 := fz_ BK1169 1; have hfz43_2 := fz_ BK1169 2; have hfz43_3 := fz_ BK1169 3; have hfz43_4 := fz_ BK1169 4; have hfz43_5 := fz_ BK1169 5))
           (try simp only [Act.put, List.setIfInBounds_toArray, List.set_cons_zero, List.set_cons_succ])
           go_cut [83] (fun v83 wc => ∃ (kq : Nat) (x83_38 : Bool), v83 = .bool x83_38 ∧ Aside0 (stipendlaw13_TaxYear.j2 kq a1 l2 t1145 t1148 x11_2 x12_2 x13_2 l2 (l2.length : Int) x72_2 x83_38 l0_0 l0_1 l0_2 a0_3 a0_4 t1159 t1160 t1161 t1162 t1163 t1164 t1165 t1166 t1167 ((rd_T90 l2 x72_2).f0.f0) ((rd_T90 l2 x72_2).f0.f1) ((rd_T90 l2 x72_2).f0.f2) ((rd_T90 l2 x72_2).f0.f3) ((rd_T90 l2 x72_2).f0.f4) ((rd_T90 l2 x72_2).f1) = some r) ∧ Aside0 (kq ≤ k2) ∧ Aside0 (Kd.R (Kd.int .i64) 2 wc w.heap.size (fun k_ => some k_ ≠ (u12 : Value).ownBlock) v1146 t1145) ∧ Aside0 (Kd.R k88 88 wc w.heap.size (fun _ => True) u11 x11_2) ∧ Aside0 (Kd.R (Kd.int .i64) 2 wc w.heap.size (fun k_ => some k_ ≠ (v1146 : Value).ownBlock) u12 x12_2) ∧ Aside0 (wc.heap[gb1131]? = some (.cells #[(.slice A0_0 l0_0.length c0_0), (.slice A0_1 l0_1.length c0_1), (.slice A0_2 l0_2.length c0_2), .int .i64 a0_3, .int .i64 a0_4] 56 (0, 0))) ∧ Aside0 (wc.heap[gb1169]? = some (.cells #[.int .i64 ((rd_T90 l2 x72_2).f0.f0), .int .i64 ((rd_T90 l2 x72_2).f0.f1), .int .i64 ((rd_T90 l2 x72_2).f0.f2), .int .i64 ((rd_T90 l2 x72_2).f0.f3), .bool ((rd_T90 l2 x72_2).f0.f4), .int .i64 ((rd_T90 l2 x72_2).f1)] 90 (0, 0))) ∧ Aside0 (IsS180 w wc g1142 t1159 t1160 t1161 t1162 t1163 t1164 t1165 t1166 t1167) ∧ Aside0 (Below w.heap.size w wc))
           case first =>
            have H := HC39.out; clear HC39; by_cases c44 : ((rd_T90 l2 x72_2).f1) > 1000000000
            ·rw [if_pos c44] at H; have c44b0 : decide (1000000000 < ((rd_T90 l2 x72_2).f1)) = true := decide_eq_true c44; clear c44
             (first | rw [c44b0] | (simp only [i64_w, i32_w]; rw [c44b0]) | skip)
             have H' := A_ H; clear H; have hnb45 := NB1169_1131.out; have hnc45 := NB1131_1169.out; have hnb46 := NB1169_1142.out; have hnc46 := NB1142_1169.out; have hcz47_0 := cz_ BK1169 0; have hcz47_1 := cz_ BK1169 1; have hcz47_2 := cz_ BK1169 2; have hcz47_3 := cz_ BK1169 3; have hcz47_4 := cz_ BK1169 4; have hcz47_5 := cz_ BK1169 5; have hfz47_0 := fz_ BK1169 0; have hfz47_1 := fz_ BK1169 1; have hfz47_2 := fz_ BK1169 2; have hfz47_3 := fz_ BK1169 3; have hfz47_4 := fz_ BK1169 4; have hfz47_5 := fz_ BK1169 5
             go_wp2
             go_meet
             case rel => exact ⟨_, (true), (sx_), H', ⟨by have := HJ6.out; have := HK2.out; first | omega | exact Nat.le_refl _⟩, ⟨by (with_reducible repeat (first | apply Kd.R_alloc | apply Kd.R_drewN | apply Kd.R_drew)); exact Kd.R_mono (Kd.R_far (p := ⟨gb1169, 5, none⟩) (Kd.R_far (p := ⟨gb1169, 4, none⟩) (Kd.R_far (p := ⟨gb1169, 3, none⟩) (Kd.R_far (p := ⟨gb1169, 2, none⟩) (Kd.R_far (p := ⟨gb1169, 1, none⟩) (Kd.R_far (p := ⟨gb1169, 0, none⟩) (Kd.R_types HO_9.out BK1169.out (by decide)) (fun _ hk => hk.2) (.int .i64 ((rd_T90 l2 x72_2).f0.f0))) (fun _ hk => hk.2) (.int .i64 ((rd_T90 l2 x72_2).f0.f1))) (fun _ hk => hk.2) (.int .i64 ((rd_T90 l2 x72_2).f0.f2))) (fun _ hk => hk.2) (.int .i64 ((rd_T90 l2 x72_2).f0.f3))) (fun _ hk => hk.2) (.bool ((rd_T90 l2 x72_2).f0.f4))) (fun _ hk => hk.2) (.int .i64 ((rd_T90 l2 x72_2).f1))) (fun _ hk => hk.1)⟩, ⟨by (with_reducible repeat (first | apply Kd.R_alloc | apply Kd.R_drewN | apply Kd.R_drew)); exact Kd.R_mono (Kd.R_far (p := ⟨gb1169, 5, none⟩) (Kd.R_far (p := ⟨gb1169, 4, none⟩) (Kd.R_far (p := ⟨gb1169, 3, none⟩) (Kd.R_far (p := ⟨gb1169, 2, none⟩) (Kd.R_far (p := ⟨gb1169, 1, none⟩) (Kd.R_far (p := ⟨gb1169, 0, none⟩) (Kd.R_types HO_11.out BK1169.out (by decide)) (fun _ hk => hk.2) (.int .i64 ((rd_T90 l2 x72_2).f0.f0))) (fun _ hk => hk.2) (.int .i64 ((rd_T90 l2 x72_2).f0.f1))) (fun _ hk => hk.2) (.int .i64 ((rd_T90 l2 x72_2).f0.f2))) (fun _ hk => hk.2) (.int .i64 ((rd_T90 l2 x72_2).f0.f3))) (fun _ hk => hk.2) (.bool ((rd_T90 l2 x72_2).f0.f4))) (fun _ hk => hk.2) (.int .i64 ((rd_T90 l2 x72_2).f1))) (fun _ hk => trivial)⟩, ⟨by (with_reducible repeat (first | apply Kd.R_alloc | apply Kd.R_drewN | apply Kd.R_drew)); exact Kd.R_mono (Kd.R_far (p := ⟨gb1169, 5, none⟩) (Kd.R_far (p := ⟨gb1169, 4, none⟩) (Kd.R_far (p := ⟨gb1169, 3, none⟩) (Kd.R_far (p := ⟨gb1169, 2, none⟩) (Kd.R_far (p := ⟨gb1169, 1, none⟩) (Kd.R_far (p := ⟨gb1169, 0, none⟩) (Kd.R_types HO_12.out BK1169.out (by decide)) (fun _ hk => hk.2) (.int .i64 ((rd_T90 l2 x72_2).f0.f0))) (fun _ hk => hk.2) (.int .i64 ((rd_T90 l2 x72_2).f0.f1))) (fun _ hk => hk.2) (.int .i64 ((rd_T90 l2 x72_2).f0.f2))) (fun _ hk => hk.2) (.int .i64 ((rd_T90 l2 x72_2).f0.f3))) (fun _ hk => hk.2) (.bool ((rd_T90 l2 x72_2).f0.f4))) (fun _ hk => hk.2) (.int .i64 ((rd_T90 l2 x72_2).f1))) (fun _ hk => hk.1)⟩, ⟨by refine bw_ ?_; refine blk_far ?_ NB1131_1169.out _; refine bw_ ?_; refine blk_far ?_ NB1131_1169.out _; refine bw_ ?_; refine blk_far ?_ NB1131_1169.out _; refine bw_ ?_; refine blk_far ?_ NB1131_1169.out _; refine bw_ ?_; refine blk_far ?_ NB1131_1169.out _; refine bw_ ?_; refine blk_far ?_ NB1131_1169.out _; refine bw_ ?_; exact BK1131.out⟩, ⟨by refine bw_ ?_; refine blk_put (cs := #[.int .i64 ((rd_T90 l2 x72_2).f0.f0), .int .i64 ((rd_T90 l2 x72_2).f0.f1), .int .i64 ((rd_T90 l2 x72_2).f0.f2), .int .i64 ((rd_T90 l2 x72_2).f0.f3), .bool ((rd_T90 l2 x72_2).f0.f4), .int .i64 0]) ?_ 5 _ rfl; refine bw_ ?_; refine blk_put (cs := #[.int .i64 ((rd_T90 l2 x72_2).f0.f0), .int .i64 ((rd_T90 l2 x72_2).f0.f1), .int .i64 ((rd_T90 l2 x72_2).f0.f2), .int .i64 ((rd_T90 l2 x72_2).f0.f3), .bool false, .int .i64 0]) ?_ 4 _ rfl; refine bw_ ?_; refine blk_put (cs := #[.int .i64 ((rd_T90 l2 x72_2).f0.f0), .int .i64 ((rd_T90 l2 x72_2).f0.f1), .int .i64 ((rd_T90 l2 x72_2).f0.f2), .int .i64 0, .bool false, .int .i64 0]) ?_ 3 _ rfl; refine bw_ ?_; refine blk_put (cs := #[.int .i64 ((rd_T90 l2 x72_2).f0.f0), .int .i64 ((rd_T90 l2 x72_2).f0.f1), .int .i64 0, .int .i64 0, .bool false, .int .i64 0]) ?_ 2 _ rfl; refine bw_ ?_; refine blk_put (cs := #[.int .i64 ((rd_T90 l2 x72_2).f0.f0), .int .i64 0, .int .i64 0, .int .i64 0, .bool false, .int .i64 0]) ?_ 1 _ rfl; refine bw_ ?_; refine blk_put (cs := #[.int .i64 0, .int .i64 0, .int .i64 0, .int .i64 0, .bool false, .int .i64 0]) ?_ 0 _ rfl; refine bw_ ?_; exact BK1169.out⟩, ⟨is2_ HI1142 NB1142_1131.out NB1142_1169.out⟩, ⟨bl3_ HB (IsS180.ge HI1142.out) GE1131.out GE1169.out⟩⟩
            ·rw [if_neg c44] at H; have c44b0 : decide (1000000000 < ((rd_T90 l2 x72_2).f1)) = false := decide_eq_false c44; clear c44
             (first | rw [c44b0] | (simp only [i64_w, i32_w]; rw [c44b0]) | skip)
             have H' := A_ H; clear H; have hnb48 := NB1169_1131.out; have hnc48 := NB1131_1169.out; have hnb49 := NB1169_1142.out; have hnc49 := NB1142_1169.out; have hcz50_0 := cz_ BK1169 0; have hcz50_1 := cz_ BK1169 1; have hcz50_2 := cz_ BK1169 2; have hcz50_3 := cz_ BK1169 3; have hcz50_4 := cz_ BK1169 4; have hcz50_5 := cz_ BK1169 5; have hfz50_0 := fz_ BK1169 0; have hfz50_1 := fz_ BK1169 1; have hfz50_2 := fz_ BK1169 2; have hfz50_3 := fz_ BK1169 3; have hfz50_4 := fz_ BK1169 4; have hfz50_5 := fz_ BK1169 5
             go_wp2
             go_meet
             case rel => exact ⟨_, (decide (((rd_T90 l2 x72_2).f1) < (-1000000000))), (sx_), H', ⟨by have := HJ6.out; have := HK2.out; first | omega | exact Nat.le_refl _⟩, ⟨by (with_reducible repeat (first | apply Kd.R_alloc | apply Kd.R_drewN | apply Kd.R_drew)); exact Kd.R_mono (Kd.R_far (p := ⟨gb1169, 5, none⟩) (Kd.R_far (p := ⟨gb1169, 4, none⟩) (Kd.R_far (p := ⟨gb1169, 3, none⟩) (Kd.R_far (p := ⟨gb1169, 2, none⟩) (Kd.R_far (p := ⟨gb1169, 1, none⟩) (Kd.R_far (p := ⟨gb1169, 0, none⟩) (Kd.R_types HO_9.out BK1169.out (by decide)) (fun _ hk => hk.2) (.int .i64 ((rd_T90 l2 x72_2).f0.f0))) (fun _ hk => hk.2) (.int .i64 ((rd_T90 l2 x72_2).f0.f1))) (fun _ hk => hk.2) (.int .i64 ((rd_T90 l2 x72_2).f0.f2))) (fun _ hk => hk.2) (.int .i64 ((rd_T90 l2 x72_2).f0.f3))) (fun _ hk => hk.2) (.bool ((rd_T90 l2 x72_2).f0.f4))) (fun _ hk => hk.2) (.int .i64 ((rd_T90 l2 x72_2).f1))) (fun _ hk => hk.1)⟩, ⟨by (with_reducible repeat (first | apply Kd.R_alloc | apply Kd.R_drewN | apply Kd.R_drew)); exact Kd.R_mono (Kd.R_far (p := ⟨gb1169, 5, none⟩) (Kd.R_far (p := ⟨gb1169, 4, none⟩) (Kd.R_far (p := ⟨gb1169, 3, none⟩) (Kd.R_far (p := ⟨gb1169, 2, none⟩) (Kd.R_far (p := ⟨gb1169, 1, none⟩) (Kd.R_far (p := ⟨gb1169, 0, none⟩) (Kd.R_types HO_11.out BK1169.out (by decide)) (fun _ hk => hk.2) (.int .i64 ((rd_T90 l2 x72_2).f0.f0))) (fun _ hk => hk.2) (.int .i64 ((rd_T90 l2 x72_2).f0.f1))) (fun _ hk => hk.2) (.int .i64 ((rd_T90 l2 x72_2).f0.f2))) (fun _ hk => hk.2) (.int .i64 ((rd_T90 l2 x72_2).f0.f3))) (fun _ hk => hk.2) (.bool ((rd_T90 l2 x72_2).f0.f4))) (fun _ hk => hk.2) (.int .i64 ((rd_T90 l2 x72_2).f1))) (fun _ hk => trivial)⟩, ⟨by (with_reducible repeat (first | apply Kd.R_alloc | apply Kd.R_drewN | apply Kd.R_drew)); exact Kd.R_mono (Kd.R_far (p := ⟨gb1169, 5, none⟩) (Kd.R_far (p := ⟨gb1169, 4, none⟩) (Kd.R_far (p := ⟨gb1169, 3, none⟩) (Kd.R_far (p := ⟨gb1169, 2, none⟩) (Kd.R_far (p := ⟨gb1169, 1, none⟩) (Kd.R_far (p := ⟨gb1169, 0, none⟩) (Kd.R_types HO_12.out BK1169.out (by decide)) (fun _ hk => hk.2) (.int .i64 ((rd_T90 l2 x72_2).f0.f0))) (fun _ hk => hk.2) (.int .i64 ((rd_T90 l2 x72_2).f0.f1))) (fun _ hk => hk.2) (.int .i64 ((rd_T90 l2 x72_2).f0.f2))) (fun _ hk => hk.2) (.int .i64 ((rd_T90 l2 x72_2).f0.f3))) (fun _ hk => hk.2) (.bool ((rd_T90 l2 x72_2).f0.f4))) (fun _ hk => hk.2) (.int .i64 ((rd_T90 l2 x72_2).f1))) (fun _ hk => hk.1)⟩, ⟨by refine bw_ ?_; refine blk_far ?_ NB1131_1169.out _; refine bw_ ?_; refine blk_far ?_ NB1131_1169.out _; refine bw_ ?_; refine blk_far ?_ NB1131_1169.out _; refine bw_ ?_; refine blk_far ?_ NB1131_1169.out _; refine bw_ ?_; refine blk_far ?_ NB1131_1169.out _; refine bw_ ?_; refine blk_far ?_ NB1131_1169.out _; refine bw_ ?_; exact BK1131.out⟩, ⟨by refine bw_ ?_; refine blk_put (cs := #[.int .i64 ((rd_T90 l2 x72_2).f0.f0), .int .i64 ((rd_T90 l2 x72_2).f0.f1), .int .i64 ((rd_T90 l2 x72_2).f0.f2), .int .i64 ((rd_T90 l2 x72_2).f0.f3), .bool ((rd_T90 l2 x72_2).f0.f4), .int .i64 0]) ?_ 5 _ rfl; refine bw_ ?_; refine blk_put (cs := #[.int .i64 ((rd_T90 l2 x72_2).f0.f0), .int .i64 ((rd_T90 l2 x72_2).f0.f1), .int .i64 ((rd_T90 l2 x72_2).f0.f2), .int .i64 ((rd_T90 l2 x72_2).f0.f3), .bool false, .int .i64 0]) ?_ 4 _ rfl; refine bw_ ?_; refine blk_put (cs := #[.int .i64 ((rd_T90 l2 x72_2).f0.f0), .int .i64 ((rd_T90 l2 x72_2).f0.f1), .int .i64 ((rd_T90 l2 x72_2).f0.f2), .int .i64 0, .bool false, .int .i64 0]) ?_ 3 _ rfl; refine bw_ ?_; refine blk_put (cs := #[.int .i64 ((rd_T90 l2 x72_2).f0.f0), .int .i64 ((rd_T90 l2 x72_2).f0.f1), .int .i64 0, .int .i64 0, .bool false, .int .i64 0]) ?_ 2 _ rfl; refine bw_ ?_; refine blk_put (cs := #[.int .i64 ((rd_T90 l2 x72_2).f0.f0), .int .i64 0, .int .i64 0, .int .i64 0, .bool false, .int .i64 0]) ?_ 1 _ rfl; refine bw_ ?_; refine blk_put (cs := #[.int .i64 0, .int .i64 0, .int .i64 0, .int .i64 0, .bool false, .int .i64 0]) ?_ 0 _ rfl; refine bw_ ?_; exact BK1169.out⟩, ⟨is2_ HI1142 NB1142_1131.out NB1142_1169.out⟩, ⟨bl3_ HB (IsS180.ge HI1142.out) GE1131.out GE1169.out⟩⟩
           case rest =>
            clear HC39; try clear c1
            try clear p1
            try clear q1
            try clear hx1
            try clear c2
            try clear p2
            try clear c3
            try clear c4
            try clear c5
            try clear c7
            try clear c8
            try clear c11
            try clear c11b0
            try clear c11b1
            try clear p11
            try clear q11
            try clear hx11
            try clear c12
            try clear c15
            try clear c15b0
            try clear c15b1
            try clear c16
            try clear c19
            try clear c21
            try clear c22
            try clear c25
            try clear c25b0
            try clear c26
            try clear c26b0
            try clear c26b1
            try clear c27
            try clear c32
            try clear c36
            try clear c36b0
            try clear c37
            try clear c37b0
            try clear c38
            try clear c38b0
            try clear c41
            try clear c42
            try clear c44
            try clear c44b0
            try clear c45
            try clear c46
            try clear c48
            try clear c49
            try clear hcz13_0 hcz13_1 hcz13_2 hcz13_3 hcz13_4
            try clear hcz17_0 hcz17_1 hcz17_2 hcz17_3 hcz17_4
            try clear hcz20_0 hcz20_1 hcz20_2 hcz20_3 hcz20_4
            try clear hcz28_0 hcz28_1 hcz28_2 hcz28_3 hcz28_4
            try clear hcz33_0 hcz33_1 hcz33_2 hcz33_3 hcz33_4
            try clear hcz43_0 hcz43_1 hcz43_2 hcz43_3 hcz43_4 hcz43_5
            try clear hcz47_0 hcz47_1 hcz47_2 hcz47_3 hcz47_4 hcz47_5
            try clear hcz50_0 hcz50_1 hcz50_2 hcz50_3 hcz50_4 hcz50_5
            try clear hfz13_0 hfz13_1 hfz13_2 hfz13_3 hfz13_4
            try clear hfz17_0 hfz17_1 hfz17_2 hfz17_3 hfz17_4
            try clear hfz20_0 hfz20_1 hfz20_2 hfz20_3 hfz20_4
            try clear hfz28_0 hfz28_1 hfz28_2 hfz28_3 hfz28_4
            try clear hfz33_0 hfz33_1 hfz33_2 hfz33_3 hfz33_4
            try clear hfz43_0 hfz43_1 hfz43_2 hfz43_3 hfz43_4 hfz43_5
            try clear hfz47_0 hfz47_1 hfz47_2 hfz47_3 hfz47_4 hfz47_5
            try clear hfz50_0 hfz50_1 hfz50_2 hfz50_3 hfz50_4 hfz50_5
            try clear hx1168_0
            try clear hx1168_1
            try clear hx1168_2
            try clear hx1168_3
            try clear hx1168_4
            try clear hx1168_5
            try clear p1168
            try clear p2
            try clear q1168
            obtain ⟨kq, x83_38, rfl, HA, HJ38, HO_9, HO_11, HO_12, BK1131, BK1169, HI1142, HB⟩ := hcut
            cases kq with
            | zero => exact absurd HA.out (by simp [stipendlaw13_TaxYear.j2])
            | succ kj38 =>
             have H := HA.out; clear HA; simp only [stipendlaw13_TaxYear.j2] at H; by_cases c51 : x83_38 = true
             ·subst c51; rw [if_pos rfl] at H; obtain rfl := Option.some.inj H
              go_wp2
              go_ret
              exact ⟨er_, bl3_ HB (IsS180.ge HI1142.out) GE1131.out GE1169.out⟩
             ·replace c51 := Bool.eq_false_iff.mpr c51; subst c51; rw [if_neg (show ¬ (false = true) by decide)] at H; replace H := Option.bind_eq_some_iff.mp H; obtain ⟨t1170, A520, H⟩ := H; (try dsimp only at H); have A52 := A_ A520; clear A520; by_cases c53 : t1170 = 0
              ·rw [if_pos c53] at H; have c53b0 : (t1170 == 0) = true := beq_iff_eq.mpr c53; have c53b1 : (t1170 != 0) = false := bne_eq_false_iff_eq.mpr c53; clear c53; by_cases c54 : x11_2.length < 3518437208883
               ·rw [if_pos c54] at H; have LMc54 := A_ c54; clear c54; obtain ⟨y1171, hy1171⟩ : ∃ y_ : List (S88), y_ = (x11_2 ++ [(⟨((rd_T90 l2 x72_2).f0.f0), ((rd_T90 l2 x72_2).f0.f1), ((rd_T90 l2 x72_2).f0.f2), ((rd_T90 l2 x72_2).f0.f3), ((rd_T90 l2 x72_2).f0.f4)⟩ : S88)]) := ⟨_, rfl⟩; replace H : (if x12_2.length < 17592186044416 then (stipendlaw13_TaxYear.l0 kj38 a1 l2 t1145 t1148 y1171 (x12_2 ++ [((rd_T90 l2 x72_2).f1)]) (wrap64 (x13_2 + ((rd_T90 l2 x72_2).f1))) l2 (l2.length : Int) (wrap64 (x72_2 + 1)) l0_0 l0_1 l0_2 a0_3 a0_4 t1159 t1160 t1161 t1162 t1163 t1164 t1165 t1166 t1167) else (none)) = some r := by first | (rw [hy1171]; with_reducible exact H) | (have H2_ := (Option.bind_some _ _).symm.trans H; rw [hy1171]; with_reducible exact H2_) | (have H2_ := (Option.bind_some _ _).symm.trans H; with_reducible exact H2_) | with_reducible exact H | (rw [hy1171]; exact H) | exact H
                have Ny1171 := A_ hy1171; clear hy1171; by_cases c55 : x12_2.length < 17592186044416
                ·rw [if_pos c55] at H; have LMc55 := A_ c55; clear c55; obtain ⟨y1174, hy1174⟩ : ∃ y_ : List Int, y_ = (x12_2 ++ [((rd_T90 l2 x72_2).f1)]) := ⟨_, rfl⟩; replace H : (stipendlaw13_TaxYear.l0 kj38 a1 l2 t1145 t1148 y1171 y1174 (wrap64 (x13_2 + ((rd_T90 l2 x72_2).f1))) l2 (l2.length : Int) (wrap64 (x72_2 + 1)) l0_0 l0_1 l0_2 a0_3 a0_4 t1159 t1160 t1161 t1162 t1163 t1164 t1165 t1166 t1167) = some r := by first | (rw [hy1174]; with_reducible exact H) | (have H2_ := (Option.bind_some _ _).symm.trans H; rw [hy1174]; with_reducible exact H2_) | (have H2_ := (Option.bind_some _ _).symm.trans H; with_reducible exact H2_) | with_reducible exact H | (rw [hy1174]; exact H) | exact H
                 have Ny1174 := A_ hy1174; clear hy1174; have H' := A_ H; clear H; have hnb56 := NB1131_1169.out; have hnc56 := NB1169_1131.out; have hnb57 := NB1131_1142.out; have hnc57 := NB1142_1131.out; have hcz58_0 := cz_ BK1131 0; have hcz58_1 := cz_ BK1131 1; have hcz58_2 := cz_ BK1131 2; have hcz58_3 := cz_ BK1131 3; have hcz58_4 := cz_ BK1131 4; have hfz58_0 := fz_ BK1131 0; have hfz58_1 := fz_ BK1131 1; have hfz58_2 := fz_ BK1131 2; have hfz58_3 := fz_ BK1131 3; have hfz58_4 := fz_ BK1131 4; have hnb59 := NB1169_1142.out; have hnc59 := NB1142_1169.out; have hcz60_0 := cz_ BK1169 0; have hcz60_1 := cz_ BK1169 1; have hcz60_2 := cz_ BK1169 2; have hcz60_3 := cz_ BK1169 3; have hcz60_4 := cz_ BK1169 4; have hcz60_5 := cz_ BK1169 5; have hfz60_0 := fz_ BK1169 0; have hfz60_1 := fz_ BK1169 1; have hfz60_2 := fz_ BK1169 2; have hfz60_3 := fz_ BK1169 3; have hfz60_4 := fz_ BK1169 4; have hfz60_5 := fz_ BK1169 5; go_wp2_with (first | ((with_reducible refine gate_callee (f := 53) rfl ?_); refine gm_ (some 87) Try.func53 #[.agg #[.slice A0_0 l0_0.length c0_0, .slice A0_1 l0_1.length c0_1, .slice A0_2 l0_2.length c0_2, .int .i64 a0_3, .int .i64 a0_4], .agg #[.int .i64 ((rd_T90 l2 x72_2).f0.f0), .int .i64 ((rd_T90 l2 x72_2).f0.f1), .int .i64 ((rd_T90 l2 x72_2).f0.f2), .int .i64 ((rd_T90 l2 x72_2).f0.f3), .bool ((rd_T90 l2 x72_2).f0.f4)]] ?_; (with_reducible refine (table_Fits.calls kj38 _ _ l0_0 _ _ l0_1 _ _ l0_2 a0_3 a0_4 ((rd_T90 l2 x72_2).f0.f0) ((rd_T90 l2 x72_2).f0.f1) ((rd_T90 l2 x72_2).f0.f2) ((rd_T90 l2 x72_2).f0.f3) ((rd_T90 l2 x72_2).f0.f4) t1170 _ ?side1 ?side2 ?side3 ?side4 ?side5 ?side6 A52.out).mono ?_); (case side1 => exact cb_ HR0_0 HB); (case side2 => exact HC0_0.out); (case side3 => exact cb_ HR0_1 HB); (case side4 => exact HC0_1.out); (case side5 => exact cb_ HR0_2 HB); (case side6 => exact HC0_2.out); rintro e w61 ⟨rfl, hb⟩; refine ⟨_, rfl, ?_⟩; replace HO_9 := A_ (Kd.R_below (ro_ HO_9) hb); replace HO_11 := A_ (Kd.R_below (ro_ HO_11) hb); replace HO_12 := A_ (Kd.R_below (ro_ HO_12) hb); replace BK1131 := A_ (blk_below (bx_ BK1131) hb); replace BK1169 := A_ (blk_below (bx_ BK1169) hb); replace HB := A_ (below_step (bl3_ HB (IsS180.ge HI1142.out) GE1131.out GE1169.out) hb); replace HI1142 := A_ (IsS180.below (is2_ HI1142 NB1142_1131.out NB1142_1169.out) hb); (try clear hb); (try clear hb2); (try clear hk); (try clear hi); have hcz62_0 := cz_ BK1169 0; have hcz62_1 := cz_ BK1169 1; have hcz62_2 := cz_ BK1169 2; have hcz62_3 := cz_ BK1169 3; have hcz62_4 := cz_ BK1169 4; have hcz62_5 := cz_ BK1169 5; have hfz62_0 := fz_ BK1169 0; have hfz62_1 := fz_ BK1169 1; have hfz62_2 := fz_ BK1169 2; have hfz62_3 := fz_ BK1169 3; have hfz62_4 := fz_ BK1169 4; have hfz62_5 := fz_ BK1169 5) | ((with_reducible refine gate_builtin (b := .append) (xs := #[.tmp 102, .tmp 105]) rfl ?_); at_builtin; refine Kd.R_append k88 (w0 := w) w.heap.size rfl (.tmp 102) (.tmp 105) 147 88 (.agg #[(.int .i64 0), (.int .i64 0), (.int .i64 0), (.int .i64 0), (.bool false)]) 40 rfl Try.underlying147 info88 rfl (by decide) (by omega) u11 x11_2 (⟨((rd_T90 l2 x72_2).f0.f0), ((rd_T90 l2 x72_2).f0.f1), ((rd_T90 l2 x72_2).f0.f2), ((rd_T90 l2 x72_2).f0.f3), ((rd_T90 l2 x72_2).f0.f4)⟩ : S88) [.int .i64 ((rd_T90 l2 x72_2).f0.f0), .int .i64 ((rd_T90 l2 x72_2).f0.f1), .int .i64 ((rd_T90 l2 x72_2).f0.f2), .int .i64 ((rd_T90 l2 x72_2).f0.f3), .bool ((rd_T90 l2 x72_2).f0.f4)] (fun _ => True) (fun _ => False) rfl rfl ?aP (fun _ hk => hk.elim) ?aF ?aO ?aB ?aS ?aL ?_; (case aP => exact k88_mkM _ _ _ (⟨((rd_T90 l2 x72_2).f0.f0), ((rd_T90 l2 x72_2).f0.f1), ((rd_T90 l2 x72_2).f0.f2), ((rd_T90 l2 x72_2).f0.f3), ((rd_T90 l2 x72_2).f0.f4)⟩ : S88)); (case aB => exact (bl3_ HB (IsS180.ge HI1142.out) GE1131.out GE1169.out)); (case aF => exact (fun _ _ => trivial)); (case aO => exact (ro_ HO_11)); (case aS => exact (below_size (bl3_ HB (IsS180.ge HI1142.out) GE1131.out GE1169.out))); (case aL => have := LMc54.out; omega); intro v1172 w63 ho hb hg hat; rw [← Ny1171.out] at ho; have HO1173 := A_ (ho); replace HO_9 := A_ (Kd.R_over' (ro_ HO_9) (Kd.R_typed (ro_ HO_11)) (by decide) hg); replace HO_12 := A_ (Kd.R_over' (ro_ HO_12) (Kd.R_typed (ro_ HO_11)) (by decide) hg); replace BK1131 := A_ (blk_grown (g := gb1131) (o := .cells #[.slice A0_0 l0_0.length c0_0, .slice A0_1 l0_1.length c0_1, .slice A0_2 l0_2.length c0_2, .int .i64 a0_3, .int .i64 a0_4] 56 (0, 0)) (bx_ BK1131) hg (Kd.R_ne HO_11.out BK1131.out (by decide))); replace BK1169 := A_ (blk_grown (g := gb1169) (o := .cells #[.int .i64 ((rd_T90 l2 x72_2).f0.f0), .int .i64 ((rd_T90 l2 x72_2).f0.f1), .int .i64 ((rd_T90 l2 x72_2).f0.f2), .int .i64 ((rd_T90 l2 x72_2).f0.f3), .bool ((rd_T90 l2 x72_2).f0.f4), .int .i64 ((rd_T90 l2 x72_2).f1)] 90 (0, 0)) (bx_ BK1169) hg (Kd.R_ne HO_11.out BK1169.out (by decide))); replace HI1142 := A_ (IsS180.grown (is2_ HI1142 NB1142_1131.out NB1142_1169.out) hg (IsS180.own_ne HI1142.out HO_11.out (by decide))); replace HB := A_ (hb); clear HO_11; clear ho hb hg hat; have hcz64_0 := cz_ BK1169 0; have hcz64_1 := cz_ BK1169 1; have hcz64_2 := cz_ BK1169 2; have hcz64_3 := cz_ BK1169 3; have hcz64_4 := cz_ BK1169 4; have hcz64_5 := cz_ BK1169 5; have hfz64_0 := fz_ BK1169 0; have hfz64_1 := fz_ BK1169 1; have hfz64_2 := fz_ BK1169 2; have hfz64_3 := fz_ BK1169 3; have hfz64_4 := fz_ BK1169 4; have hfz64_5 := fz_ BK1169 5) | ((with_reducible refine gate_builtin (b := .append) (xs := #[.tmp 107, .tmp 110]) rfl ?_); at_builtin; refine Kd.R_append (Kd.int .i64) (w0 := w) w.heap.size rfl (.tmp 107) (.tmp 110) 79 2 (.int .i64 0) 8 rfl Try.underlying79 info2 rfl (by decide) (by omega) u12 x12_2 ((rd_T90 l2 x72_2).f1) [.int .i64 ((rd_T90 l2 x72_2).f1)] (fun k_ => some k_ ≠ (v1146 : Value).ownBlock) (fun _ => False) rfl rfl ?aP (fun _ hk => hk.elim) ?aF ?aO ?aB ?aS ?aL ?_; (case aP => exact rfl); (case aB => exact (bl3_ HB (IsS180.ge HI1142.out) GE1131.out GE1169.out)); (case aF => exact (fun k_ hk => Kd.fresh' (Kd.R_lt (ro_ HO_9)) k_ hk)); (case aO => exact (ro_ HO_12)); (case aS => exact (below_size (bl3_ HB (IsS180.ge HI1142.out) GE1131.out GE1169.out))); (case aL => have := LMc55.out; omega); intro v1175 w65 ho hb hg hat; rw [← Ny1174.out] at ho; have HO1176 := A_ (ho); replace HO_9 := A_ (Kd.R_after (ok := (fun _ => True)) (by (with_reducible repeat (first | apply Kd.R_alloc | apply Kd.R_drewN | apply Kd.R_drew)); exact Kd.R_mono HO_9.out (fun _ hk => ⟨trivial, hk⟩)) hg hat); replace BK1131 := A_ (blk_grown (g := gb1131) (o := .cells #[.slice A0_0 l0_0.length c0_0, .slice A0_1 l0_1.length c0_1, .slice A0_2 l0_2.length c0_2, .int .i64 a0_3, .int .i64 a0_4] 56 (0, 0)) (bx_ BK1131) hg (Kd.R_ne HO_12.out BK1131.out (by decide))); replace BK1169 := A_ (blk_grown (g := gb1169) (o := .cells #[.int .i64 ((rd_T90 l2 x72_2).f0.f0), .int .i64 ((rd_T90 l2 x72_2).f0.f1), .int .i64 ((rd_T90 l2 x72_2).f0.f2), .int .i64 ((rd_T90 l2 x72_2).f0.f3), .bool ((rd_T90 l2 x72_2).f0.f4), .int .i64 ((rd_T90 l2 x72_2).f1)] 90 (0, 0)) (bx_ BK1169) hg (Kd.R_ne HO_12.out BK1169.out (by decide))); replace HI1142 := A_ (IsS180.grown (is2_ HI1142 NB1142_1131.out NB1142_1169.out) hg (IsS180.own_ne HI1142.out HO_12.out (by decide))); replace HO1173 := A_ (Kd.R_over' (ro_ HO1173) (Kd.R_typed (ro_ HO_12)) (by decide) hg); replace HB := A_ (hb); clear HO_12; clear ho hb hg hat))
                 go_roundg kj38
                 case measure => have := HJ6.out; have := HK2.out; have := HJ38.out; omega
                 case rel => exact ⟨(y1171), (y1174), (wrap64 (x13_2 + ((rd_T90 l2 x72_2).f1))), (wrap64 (x72_2 + 1)), (sx_), (sx_), H', ⟨by have := HJ6.out; have := HK2.out; have := HJ38.out; omega⟩, ⟨by (with_reducible repeat (first | apply Kd.R_alloc | apply Kd.R_drewN | apply Kd.R_drew)); exact Kd.R_mono HO_9.out (fun _ hk => hk.2)⟩, ⟨ro_ HO1173⟩, ⟨ro_ HO1176⟩, ⟨bx_ BK1131⟩, ⟨is2_ HI1142 NB1142_1131.out NB1142_1169.out⟩, ⟨bl3_ HB (IsS180.ge HI1142.out) GE1131.out GE1169.out⟩⟩
                ·rw [if_neg c55] at H; exact absurd H (by simp)
               ·rw [if_neg c54] at H; exact absurd H (by simp)
              ·rw [if_neg c53] at H; have c53b0 : (t1170 == 0) = false := beq_eq_false_iff_ne.mpr c53; have c53b1 : (t1170 != 0) = true := bne_iff_ne.mpr c53; by_cases c66 : t1148 = t1170
               ·rw [if_pos c66] at H; have c66b0 : (t1148 == t1170) = true := beq_iff_eq.mpr c66; have c66b1 : (t1148 != t1170) = false := bne_eq_false_iff_eq.mpr c66; clear c66; obtain rfl := Option.some.inj H; have hnb67 := NB1131_1169.out; have hnc67 := NB1169_1131.out; have hnb68 := NB1131_1142.out; have hnc68 := NB1142_1131.out; have hcz69_0 := cz_ BK1131 0; have hcz69_1 := cz_ BK1131 1; have hcz69_2 := cz_ BK1131 2; have hcz69_3 := cz_ BK1131 3; have hcz69_4 := cz_ BK1131 4; have hfz69_0 := fz_ BK1131 0; have hfz69_1 := fz_ BK1131 1; have hfz69_2 := fz_ BK1131 2; have hfz69_3 := fz_ BK1131 3; have hfz69_4 := fz_ BK1131 4; have hnb70 := NB1169_1142.out; have hnc70 := NB1142_1169.out; have hcz71_0 := cz_ BK1169 0; have hcz71_1 := cz_ BK1169 1; have hcz71_2 := cz_ BK1169 2; have hcz71_3 := cz_ BK1169 3; have hcz71_4 := cz_ BK1169 4; have hcz71_5 := cz_ BK1169 5; have hfz71_0 := fz_ BK1169 0; have hfz71_1 := fz_ BK1169 1; have hfz71_2 := fz_ BK1169 2; have hfz71_3 := fz_ BK1169 3; have hfz71_4 := fz_ BK1169 4; have hfz71_5 := fz_ BK1169 5; go_wp2_with (first | ((with_reducible refine gate_callee (f := 53) rfl ?_); refine gm_ (some 87) Try.func53 #[.agg #[.slice A0_0 l0_0.length c0_0, .slice A0_1 l0_1.length c0_1, .slice A0_2 l0_2.length c0_2, .int .i64 a0_3, .int .i64 a0_4], .agg #[.int .i64 ((rd_T90 l2 x72_2).f0.f0), .int .i64 ((rd_T90 l2 x72_2).f0.f1), .int .i64 ((rd_T90 l2 x72_2).f0.f2), .int .i64 ((rd_T90 l2 x72_2).f0.f3), .bool ((rd_T90 l2 x72_2).f0.f4)]] ?_; (with_reducible refine (table_Fits.calls kj38 _ _ l0_0 _ _ l0_1 _ _ l0_2 a0_3 a0_4 ((rd_T90 l2 x72_2).f0.f0) ((rd_T90 l2 x72_2).f0.f1) ((rd_T90 l2 x72_2).f0.f2) ((rd_T90 l2 x72_2).f0.f3) ((rd_T90 l2 x72_2).f0.f4) t1170 _ ?side1 ?side2 ?side3 ?side4 ?side5 ?side6 A52.out).mono ?_); (case side1 => exact cb_ HR0_0 HB); (case side2 => exact HC0_0.out); (case side3 => exact cb_ HR0_1 HB); (case side4 => exact HC0_1.out); (case side5 => exact cb_ HR0_2 HB); (case side6 => exact HC0_2.out); rintro e w72 ⟨rfl, hb⟩; refine ⟨_, rfl, ?_⟩; replace HO_9 := A_ (Kd.R_below (ro_ HO_9) hb); replace HO_11 := A_ (Kd.R_below (ro_ HO_11) hb); replace HO_12 := A_ (Kd.R_below (ro_ HO_12) hb); replace BK1131 := A_ (blk_below (bx_ BK1131) hb); replace BK1169 := A_ (blk_below (bx_ BK1169) hb); replace HB := A_ (below_step (bl3_ HB (IsS180.ge HI1142.out) GE1131.out GE1169.out) hb); replace HI1142 := A_ (IsS180.below (is2_ HI1142 NB1142_1131.out NB1142_1169.out) hb); (try clear hb); (try clear hb2); (try clear hk); (try clear hi); obtain ⟨Ao73, co73, eo73⟩ := Kd.R_slice HO_9.out; subst eo73))
                go_ret
                exact ⟨er_, bl3_ HB (IsS180.ge HI1142.out) GE1131.out GE1169.out⟩
               ·rw [if_neg c66] at H; exact absurd H (by simp)
          ·rw [if_neg c38] at H; exact absurd H (by simp)
         ·rw [if_neg c37] at H; exact absurd H (by simp)
        ·rw [if_neg c36] at H; have c36b0 := decide_eq_false c36; clear c36; replace H := Option.bind_eq_some_iff.mp H; obtain ⟨t1177, A740, H⟩ := H; (try dsimp only at H); have A74 := A_ A740; clear A740; replace H := Option.bind_eq_some_iff.mp H; obtain ⟨t1178, A750, H⟩ := H; (try dsimp only at H); have A75 := A_ A750; clear A750; have HC76 := A_ H; clear H
         try go_wp2
         replace HO_9 := A_ (Kd.R_drew HO_9.out); replace HO_11 := A_ (Kd.R_drew HO_11.out); replace HO_12 := A_ (Kd.R_drew HO_12.out); replace BK1131 := A_ (blk_drew BK1131.out); replace HI1142 := A_ (IsS180.drew HI1142.out); replace HB := A_ (below_drew1 HB.out); refine start_ (n := 7) (S := fun w' => w'.cell? ⟨gb1131, 0, none⟩ = some (.slice A0_0 l0_0.length c0_0) ∧ w'.cell? ⟨gb1131, 1, none⟩ = some (.slice A0_1 l0_1.length c0_1) ∧ w'.cell? ⟨gb1131, 2, none⟩ = some (.slice A0_2 l0_2.length c0_2) ∧ w'.cell? ⟨gb1131, 3, none⟩ = some (.int .i64 a0_3) ∧ w'.cell? ⟨gb1131, 4, none⟩ = some (.int .i64 a0_4)) (ds := []) #[false, false, false, false, false, false, false] (by kernel_rfl) rfl rfl ⟨(blk_cell BK1131.out 0).trans rfl, (blk_cell BK1131.out 1).trans rfl, (blk_cell BK1131.out 2).trans rfl, (blk_cell BK1131.out 3).trans rfl, (blk_cell BK1131.out 4).trans rfl⟩ (fun hHeld => ?_)
         generalize wr.drew = w77 at HO_9 HO_11 HO_12 BK1131 HI1142 HB hHeld ⊢; refine pure_ (i := 1) (N := some 114) (v := ?_) (a' := ?_) #[false, true, false, false, false, false, false] rfl rfl (by kernel_rfl) (fun _ _ _ h => h) (Or.inl ⟨by rfl, ?_⟩) ?_ ?_
         rotate_left
         ·intro w'
          go_simp
          with_reducible rfl
         rotate_left
         ·simp only [Act.put, List.setIfInBounds_toArray, List.set_cons_zero, List.set_cons_succ, i64_w, i32_w]
          rfl
         refine pure_ (i := 3) (N := some 116) (v := ?_) (a' := ?_) #[false, true, false, true, false, false, false] rfl rfl (by kernel_rfl) (fun _ _ _ h => h) (Or.inl ⟨by rfl, ?_⟩) ?_ ?_
         rotate_left
         ·intro w'
          go_simp
          with_reducible rfl
         rotate_left
         ·simp only [Act.put, List.setIfInBounds_toArray, List.set_cons_zero, List.set_cons_succ, i64_w, i32_w]
          rfl
         refine pure_ (i := 4) (N := some 117) (v := ?_) (a' := ?_) #[false, true, false, true, true, false, false] rfl rfl (by kernel_rfl) (fun _ _ _ h => h) (Or.inl ⟨by rfl, ?_⟩) ?_ ?_
         rotate_left
         ·intro w'
          go_simp
          with_reducible rfl
         rotate_left
         ·simp only [Act.put, List.setIfInBounds_toArray, List.set_cons_zero, List.set_cons_succ, i64_w, i32_w]
          rfl
         refine take_ (i := 0) (N := some 113) (v := ?_) (a' := ?_) #[true, true, false, true, true, false, false] rfl rfl (by kernel_rfl) (fun _ _ _ h => h) (Or.inl ⟨by rfl, ?_⟩) hHeld ?_ ?_
         rotate_left
         ·rintro w' ⟨s0, s1, s2, s3, s4⟩
          go_simp
          with_reducible rfl
         rotate_left
         ·simp only [Act.put, List.setIfInBounds_toArray, List.set_cons_zero, List.set_cons_succ, i64_w, i32_w]
          rfl
         refine one_ (i := 2) (N := some 115) #[true, true, true, true, true, false, false] rfl rfl (by kernel_rfl) (by decide) (fun K hK => ?_)
         refine goes_ Try.func88 (by kernel_rfl) rfl #[.int .i64 a1] (by rfl) rfl rfl (by (try simp only [List.map_toArray, List.map_cons, List.map_nil]); first | done | rfl | (simp only [List.length_drop, List.length_take]; rfl)) ?_
         with_reducible refine (period_Nominal.calls a1 t1177 _ A74.out).mono ?_
         rintro e w' ⟨rfl, ⟨nd, rfl⟩⟩; refine ⟨_, rfl, ?_⟩
         obtain ⟨Ao78, co78, eo78⟩ := Kd.R_slice HO_11.out
         (first | subst eo78 | (injection eo78 with f1_ f2_ f3_; have f4_ := f1_.symm; have f5_ := f3_.symm; clear f1_ f2_ f3_; subst f4_; subst f5_))
         obtain ⟨Ao79, co79, eo79⟩ := Kd.R_slice HO_12.out
         (first | subst eo79 | (injection eo79 with f1_ f2_ f3_; have f4_ := f1_.symm; have f5_ := f3_.symm; clear f1_ f2_ f3_; subst f4_; subst f5_))
         refine hK.out _ _ ⟨(blk_cell BK1131.out 0).trans rfl, (blk_cell BK1131.out 1).trans rfl, (blk_cell BK1131.out 2).trans rfl, (blk_cell BK1131.out 3).trans rfl, (blk_cell BK1131.out 4).trans rfl⟩ (fun hHeld => ?_)
         clear hK K; refine norm_ (a' := ?_) ?_ ?_
         rotate_left
         ·show Act.put _ (some 115) _ = _
          simp only [Act.put, List.setIfInBounds_toArray, List.set_cons_zero, List.set_cons_succ, i64_w, i32_w]
          rfl
         refine one_ (i := 5) (N := some 118) #[true, true, true, true, true, true, false] rfl rfl (by kernel_rfl) (by decide) (fun K hK => ?_)
         refine goes_ Try.func87 (by kernel_rfl) rfl #[.agg #[.slice A0_0 l0_0.length c0_0, .slice A0_1 l0_1.length c0_1, .slice A0_2 l0_2.length c0_2, .int .i64 a0_3, .int .i64 a0_4], .int .i64 t1177, .slice Ao78 x11_2.length co78, .slice Ao79 x12_2.length co79] (by rfl) rfl rfl (by (try simp only [List.map_toArray, List.map_cons, List.map_nil]); first | done | rfl | (simp only [List.length_drop, List.length_take]; rfl)) ?_
         with_reducible refine (stipendref13_Year.calls k2 _ _ l0_0 _ _ l0_1 _ _ l0_2 a0_3 a0_4 t1177 _ _ x11_2 _ _ x12_2 t1178 _ ?side1 ?side2 ?side3 ?side4 ?side5 ?side6 ?side7 ?side8 ?side9 ?side10 A75.out).mono ?_
         (case side1 => exact Kd.C_below HR0_0.out (bl2_ HB (IsS180.ge HI1142.out) GE1131.out))
         (case side2 => exact HC0_0.out)
         (case side3 => exact Kd.C_below HR0_1.out (bl2_ HB (IsS180.ge HI1142.out) GE1131.out))
         (case side4 => exact HC0_1.out)
         (case side5 => exact Kd.C_below HR0_2.out (bl2_ HB (IsS180.ge HI1142.out) GE1131.out))
         (case side6 => exact HC0_2.out)
         (case side7 => repeat (first | exact (Kd.R_reads' HO_11.out).2.2 | (with_reducible refine Kd.C_alloc ?_ _) | (with_reducible refine Kd.C_drewN ?_ _) | (with_reducible refine Kd.C_drew ?_)))
         (case side8 => exact (Kd.R_reads' HO_11.out).2.1)
         (case side9 => repeat (first | exact (Kd.R_reads' HO_12.out).2.2 | (with_reducible refine Kd.C_alloc ?_ _) | (with_reducible refine Kd.C_drewN ?_ _) | (with_reducible refine Kd.C_drew ?_)))
         (case side10 => exact (Kd.R_reads' HO_12.out).2.1)
         rintro e w80 ⟨v1179, rfl, ho0, hb⟩; refine ⟨_, rfl, ?_⟩
         have HO1180 := A_ (Kd.R_lower (Kd.R_new' (Kd.R_new' ho0 (Kd.R_lt (ro_ HO_9))) (Kd.R_lt (ro_ HO_12))) (below_size (bl2_ HB (IsS180.ge HI1142.out) GE1131.out))); replace HO_9 := A_ (Kd.R_elder' (ro_ HO_9) (Kd.R_base ho0) hb); replace HO_11 := A_ (Kd.R_below (ro_ HO_11) hb); replace HO_12 := A_ (Kd.R_elder' (ro_ HO_12) (Kd.R_base ho0) hb); replace BK1131 := A_ (blk_below (bx_ BK1131) hb); replace HB := A_ (below_step (bl2_ HB (IsS180.ge HI1142.out) GE1131.out) hb); replace HI1142 := A_ (IsS180.below (is1_ HI1142 NB1142_1131.out) hb)
         (try clear hb)
         (try clear hb2)
         (try clear hk)
         (try clear hi)
         (try clear ho0)
         refine hK.out _ _ ⟨(blk_cell BK1131.out 0).trans rfl, (blk_cell BK1131.out 1).trans rfl, (blk_cell BK1131.out 2).trans rfl, (blk_cell BK1131.out 3).trans rfl, (blk_cell BK1131.out 4).trans rfl⟩ (fun hHeld => ?_)
         clear hK K; refine norm_ (a' := ?_) ?_ ?_
         rotate_left
         ·show Act.put _ (some 118) _ = _
          simp only [Act.put, List.setIfInBounds_toArray, List.set_cons_zero, List.set_cons_succ, i64_w, i32_w]
          rfl
         refine pure_ (i := 6) (N := some 17) (v := ?_) (a' := ?_) #[true, true, true, true, true, true, true] rfl rfl (by kernel_rfl) (fun _ _ _ h => h) (Or.inl ⟨by rfl, ?_⟩) ?_ ?_
         rotate_left
         ·intro w'
          go_simp
          with_reducible rfl
         rotate_left
         ·simp only [Act.put, List.setIfInBounds_toArray, List.set_cons_zero, List.set_cons_succ, i64_w, i32_w]
          rfl
         refine done_ (by kernel_rfl) ?_
         go_upto_region 25 with (fail)
         go_cut [127] (fun v127 wc => ∃ (kq : Nat) (x127_75 : Bool), v127 = .bool x127_75 ∧ Aside0 (stipendlaw13_TaxYear.j3 kq l2 t1145 x12_2 x13_2 t1178 x127_75 l0_0 l0_1 l0_2 a0_3 a0_4 t1159 t1160 t1161 t1162 t1163 t1164 t1165 t1166 t1167 = some r) ∧ Aside0 (kq ≤ k2) ∧ Aside0 (Kd.R (Kd.int .i64) 2 wc w.heap.size (fun k_ => some k_ ≠ ((.slice Ao79 x12_2.length co79) : Value).ownBlock ∧ some k_ ≠ (v1179 : Value).ownBlock) v1146 t1145) ∧ Aside0 (Kd.R (Kd.int .i64) 2 wc w.heap.size (fun k_ => some k_ ≠ (v1146 : Value).ownBlock ∧ some k_ ≠ (v1179 : Value).ownBlock) (.slice Ao79 x12_2.length co79) x12_2) ∧ Aside0 (Kd.R (Kd.int .i64) 2 wc w.heap.size (fun k_ => some k_ ≠ (v1146 : Value).ownBlock ∧ some k_ ≠ ((.slice Ao79 x12_2.length co79) : Value).ownBlock) v1179 t1178) ∧ Aside0 (wc.heap[gb1131]? = some (.cells #[(.slice A0_0 l0_0.length c0_0), (.slice A0_1 l0_1.length c0_1), (.slice A0_2 l0_2.length c0_2), .int .i64 a0_3, .int .i64 a0_4] 56 (0, 0))) ∧ Aside0 (IsS180 w wc g1142 t1159 t1160 t1161 t1162 t1163 t1164 t1165 t1166 t1167) ∧ Aside0 (Below w.heap.size w wc))
         case first =>
          have H := HC76.out; clear HC76; by_cases c81 : t1148 = 0
          ·rw [if_pos c81] at H; have c81b0 : (t1148 == 0) = true := beq_iff_eq.mpr c81; have c81b1 : (t1148 != 0) = false := bne_eq_false_iff_eq.mpr c81; clear c81
           (first | rw [c81b0] | (simp only [i64_w, i32_w]; rw [c81b0]) | skip)
           have H' := A_ H; clear H; obtain ⟨Ao82, co82, eo82⟩ := Kd.R_slice HO_9.out; subst eo82; obtain ⟨Ao83, co83, eo83⟩ := Kd.R_slice HO1180.out; subst eo83
           go_wp2
           go_meet
           case rel => exact ⟨_, (((t1145.length : Int) != (t1178.length : Int))), (sx_), H', ⟨by have := HJ6.out; have := HK2.out; first | omega | exact Nat.le_refl _⟩, ⟨ro_ HO_9⟩, ⟨ro_ HO_12⟩, ⟨by (with_reducible repeat (first | apply Kd.R_alloc | apply Kd.R_drewN | apply Kd.R_drew)); exact Kd.R_mono HO1180.out (fun _ hk => ⟨hk.1.2, hk.2⟩)⟩, ⟨bx_ BK1131⟩, ⟨is1_ HI1142 NB1142_1131.out⟩, ⟨bl2_ HB (IsS180.ge HI1142.out) GE1131.out⟩⟩
          ·rw [if_neg c81] at H; have c81b0 : (t1148 == 0) = false := beq_eq_false_iff_ne.mpr c81; have c81b1 : (t1148 != 0) = true := bne_iff_ne.mpr c81
           (first | rw [c81b0] | (simp only [i64_w, i32_w]; rw [c81b0]) | skip)
           have H' := A_ H; clear H
           go_wp2
           go_meet
           case rel => exact ⟨_, (true), (sx_), H', ⟨by have := HJ6.out; have := HK2.out; first | omega | exact Nat.le_refl _⟩, ⟨ro_ HO_9⟩, ⟨ro_ HO_12⟩, ⟨by (with_reducible repeat (first | apply Kd.R_alloc | apply Kd.R_drewN | apply Kd.R_drew)); exact Kd.R_mono HO1180.out (fun _ hk => ⟨hk.1.2, hk.2⟩)⟩, ⟨bx_ BK1131⟩, ⟨is1_ HI1142 NB1142_1131.out⟩, ⟨bl2_ HB (IsS180.ge HI1142.out) GE1131.out⟩⟩
         case rest =>
          clear HC76; try clear c1
          try clear p1
          try clear q1
          try clear hx1
          try clear c2
          try clear p2
          try clear c3
          try clear c4
          try clear c5
          try clear c6
          try clear p6
          try clear c7
          try clear c8
          try clear c11
          try clear c11b0
          try clear c11b1
          try clear p11
          try clear q11
          try clear hx11
          try clear c12
          try clear c15
          try clear c15b0
          try clear c15b1
          try clear c16
          try clear c19
          try clear c21
          try clear c22
          try clear c25
          try clear c25b0
          try clear c26
          try clear c26b0
          try clear c26b1
          try clear c27
          try clear c32
          try clear c36
          try clear c36b0
          try clear c37
          try clear c37b0
          try clear c38
          try clear c38b0
          try clear c41
          try clear c42
          try clear c44
          try clear c44b0
          try clear c45
          try clear c46
          try clear c48
          try clear c49
          try clear c51
          try clear c53
          try clear c53b0
          try clear c53b1
          try clear c54
          try clear c55
          try clear c56
          try clear c57
          try clear c59
          try clear p64
          try clear c66
          try clear c66b0
          try clear c66b1
          try clear c67
          try clear c68
          try clear c70
          try clear c81
          try clear c81b0
          try clear c81b1
          try clear hcz13_0 hcz13_1 hcz13_2 hcz13_3 hcz13_4
          try clear hcz17_0 hcz17_1 hcz17_2 hcz17_3 hcz17_4
          try clear hcz20_0 hcz20_1 hcz20_2 hcz20_3 hcz20_4
          try clear hcz28_0 hcz28_1 hcz28_2 hcz28_3 hcz28_4
          try clear hcz33_0 hcz33_1 hcz33_2 hcz33_3 hcz33_4
          try clear hcz43_0 hcz43_1 hcz43_2 hcz43_3 hcz43_4 hcz43_5
          try clear hcz47_0 hcz47_1 hcz47_2 hcz47_3 hcz47_4 hcz47_5
          try clear hcz50_0 hcz50_1 hcz50_2 hcz50_3 hcz50_4 hcz50_5
          try clear hcz58_0 hcz58_1 hcz58_2 hcz58_3 hcz58_4
          try clear hcz60_0 hcz60_1 hcz60_2 hcz60_3 hcz60_4 hcz60_5
          try clear hcz62_0 hcz62_1 hcz62_2 hcz62_3 hcz62_4 hcz62_5
          try clear hcz64_0 hcz64_1 hcz64_2 hcz64_3 hcz64_4 hcz64_5
          try clear hcz69_0 hcz69_1 hcz69_2 hcz69_3 hcz69_4
          try clear hcz71_0 hcz71_1 hcz71_2 hcz71_3 hcz71_4 hcz71_5
          try clear hfz13_0 hfz13_1 hfz13_2 hfz13_3 hfz13_4
          try clear hfz17_0 hfz17_1 hfz17_2 hfz17_3 hfz17_4
          try clear hfz20_0 hfz20_1 hfz20_2 hfz20_3 hfz20_4
          try clear hfz28_0 hfz28_1 hfz28_2 hfz28_3 hfz28_4
          try clear hfz33_0 hfz33_1 hfz33_2 hfz33_3 hfz33_4
          try clear hfz43_0 hfz43_1 hfz43_2 hfz43_3 hfz43_4 hfz43_5
          try clear hfz47_0 hfz47_1 hfz47_2 hfz47_3 hfz47_4 hfz47_5
          try clear hfz50_0 hfz50_1 hfz50_2 hfz50_3 hfz50_4 hfz50_5
          try clear hfz58_0 hfz58_1 hfz58_2 hfz58_3 hfz58_4
          try clear hfz60_0 hfz60_1 hfz60_2 hfz60_3 hfz60_4 hfz60_5
          try clear hfz62_0 hfz62_1 hfz62_2 hfz62_3 hfz62_4 hfz62_5
          try clear hfz64_0 hfz64_1 hfz64_2 hfz64_3 hfz64_4 hfz64_5
          try clear hfz69_0 hfz69_1 hfz69_2 hfz69_3 hfz69_4
          try clear hfz71_0 hfz71_1 hfz71_2 hfz71_3 hfz71_4 hfz71_5
          try clear hx1168_0
          try clear hx1168_1
          try clear hx1168_2
          try clear hx1168_3
          try clear hx1168_4
          try clear hx1168_5
          try clear p1
          try clear p11
          try clear p1168
          try clear p2
          try clear q1
          try clear q11
          try clear q1168
          obtain ⟨kq, x127_75, rfl, HA, HJ75, HO_9, HO_12, HO_17, BK1131, HI1142, HB⟩ := hcut
          cases kq with
          | zero => exact absurd HA.out (by simp [stipendlaw13_TaxYear.j3])
          | succ kj75 =>
           have H := HA.out; clear HA; simp only [stipendlaw13_TaxYear.j3] at H; by_cases c84 : x127_75 = true
           ·subst c84; rw [if_pos rfl] at H; exact absurd H (by simp)
           ·replace c84 := Bool.eq_false_iff.mpr c84; subst c84; rw [if_neg (show ¬ (false = true) by decide)] at H; have H' := A_ H; clear H; obtain ⟨Ao85, co85, eo85⟩ := Kd.R_slice HO_9.out; subst eo85
            go_wp2
            go_loopg [18, 19, 130] kj75 (fun kq v18 v19 v130 w' => ∃ (x18_4 : Int) (x19_4 : Int) (x130_4 : Int) (x1143000_4 : Int) (x1143001_4 : Int) (x1143002_4 : Int) (x1143003_4 : Int) (x1143004_4 : Int) (x1143005_4 : Int) (x1143006_4 : Int) (x1143007_4 : Int) (x1143008_4 : Int), v18 = .int .i64 x18_4 ∧ v19 = .int .i64 x19_4 ∧ v130 = .int .i64 x130_4 ∧ Aside0 (stipendlaw13_TaxYear.l1 kq l2 t1145 x12_2 x13_2 t1178 x18_4 x19_4 (t1145.length : Int) x130_4 l0_0 l0_1 l0_2 a0_3 a0_4 x1143000_4 x1143001_4 x1143002_4 x1143003_4 x1143004_4 x1143005_4 x1143006_4 x1143007_4 x1143008_4 = some r) ∧ Aside0 (kq ≤ kj75) ∧ Aside0 (Kd.R (Kd.int .i64) 2 w' w.heap.size (fun k_ => some k_ ≠ ((.slice Ao79 x12_2.length co79) : Value).ownBlock ∧ some k_ ≠ (v1179 : Value).ownBlock) (.slice Ao85 t1145.length co85) t1145) ∧ Aside0 (Kd.R (Kd.int .i64) 2 w' w.heap.size (fun k_ => some k_ ≠ ((.slice Ao85 t1145.length co85) : Value).ownBlock ∧ some k_ ≠ (v1179 : Value).ownBlock) (.slice Ao79 x12_2.length co79) x12_2) ∧ Aside0 (Kd.R (Kd.int .i64) 2 w' w.heap.size (fun k_ => some k_ ≠ ((.slice Ao85 t1145.length co85) : Value).ownBlock ∧ some k_ ≠ ((.slice Ao79 x12_2.length co79) : Value).ownBlock) v1179 t1178) ∧ Aside0 (w'.heap[gb1131]? = some (.cells #[(.slice A0_0 l0_0.length c0_0), (.slice A0_1 l0_1.length c0_1), (.slice A0_2 l0_2.length c0_2), .int .i64 a0_3, .int .i64 a0_4] 56 (0, 0))) ∧ Aside0 (IsS180 w w' g1142 x1143000_4 x1143001_4 x1143002_4 x1143003_4 x1143004_4 x1143005_4 x1143006_4 x1143007_4 x1143008_4) ∧ Aside0 (Below w.heap.size w w'))
            case atStart => exact ⟨(0), (0), (0), (t1159), (t1160), (t1161), (t1162), (t1163), (t1164), (t1165), (t1166), (t1167), (sx_), (sx_), (sx_), H', ⟨Nat.le_refl _⟩, ⟨ro_ HO_9⟩, ⟨ro_ HO_12⟩, ⟨ro_ HO_17⟩, ⟨bx_ BK1131⟩, ⟨is1_ HI1142 NB1142_1131.out⟩, ⟨bl2_ HB (IsS180.ge HI1142.out) GE1131.out⟩⟩
            case round =>
             clear H'; try clear c1
             try clear p1
             try clear q1
             try clear hx1
             try clear c2
             try clear p2
             try clear c3
             try clear c4
             try clear c5
             try clear c6
             try clear p6
             try clear c7
             try clear c8
             try clear c11
             try clear c11b0
             try clear c11b1
             try clear p11
             try clear q11
             try clear hx11
             try clear c12
             try clear c15
             try clear c15b0
             try clear c15b1
             try clear c16
             try clear c19
             try clear c21
             try clear c22
             try clear c25
             try clear c25b0
             try clear c26
             try clear c26b0
             try clear c26b1
             try clear c27
             try clear c32
             try clear c36
             try clear c36b0
             try clear c37
             try clear c37b0
             try clear c38
             try clear c38b0
             try clear c41
             try clear c42
             try clear c44
             try clear c44b0
             try clear c45
             try clear c46
             try clear c48
             try clear c49
             try clear c51
             try clear c53
             try clear c53b0
             try clear c53b1
             try clear c54
             try clear c55
             try clear c56
             try clear c57
             try clear c59
             try clear p64
             try clear c66
             try clear c66b0
             try clear c66b1
             try clear c67
             try clear c68
             try clear c70
             try clear c81
             try clear c81b0
             try clear c81b1
             try clear c84
             try clear hcz13_0 hcz13_1 hcz13_2 hcz13_3 hcz13_4
             try clear hcz17_0 hcz17_1 hcz17_2 hcz17_3 hcz17_4
             try clear hcz20_0 hcz20_1 hcz20_2 hcz20_3 hcz20_4
             try clear hcz28_0 hcz28_1 hcz28_2 hcz28_3 hcz28_4
             try clear hcz33_0 hcz33_1 hcz33_2 hcz33_3 hcz33_4
             try clear hcz43_0 hcz43_1 hcz43_2 hcz43_3 hcz43_4 hcz43_5
             try clear hcz47_0 hcz47_1 hcz47_2 hcz47_3 hcz47_4 hcz47_5
             try clear hcz50_0 hcz50_1 hcz50_2 hcz50_3 hcz50_4 hcz50_5
             try clear hcz58_0 hcz58_1 hcz58_2 hcz58_3 hcz58_4
             try clear hcz60_0 hcz60_1 hcz60_2 hcz60_3 hcz60_4 hcz60_5
             try clear hcz62_0 hcz62_1 hcz62_2 hcz62_3 hcz62_4 hcz62_5
             try clear hcz64_0 hcz64_1 hcz64_2 hcz64_3 hcz64_4 hcz64_5
             try clear hcz69_0 hcz69_1 hcz69_2 hcz69_3 hcz69_4
             try clear hcz71_0 hcz71_1 hcz71_2 hcz71_3 hcz71_4 hcz71_5
             try clear hfz13_0 hfz13_1 hfz13_2 hfz13_3 hfz13_4
             try clear hfz17_0 hfz17_1 hfz17_2 hfz17_3 hfz17_4
             try clear hfz20_0 hfz20_1 hfz20_2 hfz20_3 hfz20_4
             try clear hfz28_0 hfz28_1 hfz28_2 hfz28_3 hfz28_4
             try clear hfz33_0 hfz33_1 hfz33_2 hfz33_3 hfz33_4
             try clear hfz43_0 hfz43_1 hfz43_2 hfz43_3 hfz43_4 hfz43_5
             try clear hfz47_0 hfz47_1 hfz47_2 hfz47_3 hfz47_4 hfz47_5
             try clear hfz50_0 hfz50_1 hfz50_2 hfz50_3 hfz50_4 hfz50_5
             try clear hfz58_0 hfz58_1 hfz58_2 hfz58_3 hfz58_4
             try clear hfz60_0 hfz60_1 hfz60_2 hfz60_3 hfz60_4 hfz60_5
             try clear hfz62_0 hfz62_1 hfz62_2 hfz62_3 hfz62_4 hfz62_5
             try clear hfz64_0 hfz64_1 hfz64_2 hfz64_3 hfz64_4 hfz64_5
             try clear hfz69_0 hfz69_1 hfz69_2 hfz69_3 hfz69_4
             try clear hfz71_0 hfz71_1 hfz71_2 hfz71_3 hfz71_4 hfz71_5
             try clear hx1168_0
             try clear hx1168_1
             try clear hx1168_2
             try clear hx1168_3
             try clear hx1168_4
             try clear hx1168_5
             try clear p1
             try clear p11
             try clear p1168
             try clear p2
             try clear p6
             try clear p64
             try clear q1
             try clear q11
             try clear q1168
             obtain ⟨x18_4, x19_4, x130_4, x1143000_4, x1143001_4, x1143002_4, x1143003_4, x1143004_4, x1143005_4, x1143006_4, x1143007_4, x1143008_4, rfl, rfl, rfl, HA, HK4, HO_9, HO_12, HO_17, BK1131, HI1142, HB⟩ := hrel
             cases gk with
             | zero => exact absurd HA.out (by simp [stipendlaw13_TaxYear.l1])
             | succ k4 =>
              have H := HA.out; clear HA; simp only [stipendlaw13_TaxYear.l1] at H; by_cases c86 : x130_4 < (t1145.length : Int)
              ·rw [if_pos c86] at H; have c86b0 := decide_eq_true c86; clear c86; by_cases c87 : 0 ≤ x130_4
               ·rw [if_pos c87] at H; have c87b0 := decide_eq_true c87; clear c87; by_cases c88 : x130_4 < (x12_2.length : Int)
                ·rw [if_pos c88] at H; have c88b0 := decide_eq_true c88; clear c88; by_cases c89 : x130_4 < (l2.length : Int)
                 ·rw [if_pos c89] at H; have c89b0 := decide_eq_true c89; clear c89; replace H := Option.bind_eq_some_iff.mp H; obtain ⟨⟨t1194, t1195, t1196, t1197, t1198, t1199, t1200, t1201, t1202, t1203, t1204⟩, A900, H⟩ := H; (try dsimp only at H); have A90 := A_ A900; clear A900; have HC91 := A_ H; clear H; have p1192 : 0 ≤ (x130_4 : Int) := od_; have q1192 : x130_4 < (x12_2.length : Int) := od_; obtain ⟨ad1192, e1192, hx1192_0⟩ := Kd.at_int (Kd.R_reads' HO_12.out).2.2 x130_4 p1192 q1192; cases e1192; replace p1192 := eq_true p1192; replace q1192 := eq_true q1192
                  try go_wp2
                  replace HO_9 := A_ (Kd.R_drew HO_9.out); replace HO_12 := A_ (Kd.R_drew HO_12.out); replace HO_17 := A_ (Kd.R_drew HO_17.out); replace BK1131 := A_ (blk_drew BK1131.out); replace HI1142 := A_ (IsS180.drew HI1142.out); replace HB := A_ (below_drew1 HB.out); have p1193 : 0 ≤ (x130_4 : Int) := od_; have q1193 : x130_4 < (l2.length : Int) := od_; obtain ⟨ad1193, e1193, hx1193_0, hx1193_1, hx1193_2, hx1193_3, hx1193_4, hx1193_5⟩ := at_T90 HR2.out x130_4 p1193 q1193; have hw1193_5 := hx1193_5; have hw1193_4 := hx1193_4; have hw1193_3 := hx1193_3; have hw1193_2 := hx1193_2; have hw1193_1 := hx1193_1; have hw1193_0 := hx1193_0; cases e1193; replace hx1193_0 := (HB.out.cell (World.block_lt_of_cell? w _ hx1193_0)).trans hx1193_0; replace hx1193_1 := (HB.out.cell (World.block_lt_of_cell? w _ hx1193_1)).trans hx1193_1; replace hx1193_2 := (HB.out.cell (World.block_lt_of_cell? w _ hx1193_2)).trans hx1193_2; replace hx1193_3 := (HB.out.cell (World.block_lt_of_cell? w _ hx1193_3)).trans hx1193_3; replace hx1193_4 := (HB.out.cell (World.block_lt_of_cell? w _ hx1193_4)).trans hx1193_4; replace hx1193_5 := (HB.out.cell (World.block_lt_of_cell? w _ hx1193_5)).trans hx1193_5; replace p1193 := eq_true p1193; replace q1193 := eq_true q1193; refine start_ (n := 16) (S := fun w' => w'.cell? ⟨gb1131, 0, none⟩ = some (.slice A0_0 l0_0.length c0_0) ∧ w'.cell? ⟨gb1131, 1, none⟩ = some (.slice A0_1 l0_1.length c0_1) ∧ w'.cell? ⟨gb1131, 2, none⟩ = some (.slice A0_2 l0_2.length c0_2) ∧ w'.cell? ⟨gb1131, 3, none⟩ = some (.int .i64 a0_3) ∧ w'.cell? ⟨gb1131, 4, none⟩ = some (.int .i64 a0_4) ∧ w'.cell? (ad1193.add ((x130_4).toNat * 6)) = some (.int .i64 ((rd_T90 l2 x130_4).f0.f0)) ∧ w'.cell? ⟨(ad1193.add ((x130_4).toNat * 6)).block, (ad1193.add ((x130_4).toNat * 6)).off + 1, none⟩ = some (.int .i64 ((rd_T90 l2 x130_4).f0.f1)) ∧ w'.cell? ⟨(ad1193.add ((x130_4).toNat * 6)).block, (ad1193.add ((x130_4).toNat * 6)).off + 2, none⟩ = some (.int .i64 ((rd_T90 l2 x130_4).f0.f2)) ∧ w'.cell? ⟨(ad1193.add ((x130_4).toNat * 6)).block, (ad1193.add ((x130_4).toNat * 6)).off + 3, none⟩ = some (.int .i64 ((rd_T90 l2 x130_4).f0.f3)) ∧ w'.cell? ⟨(ad1193.add ((x130_4).toNat * 6)).block, (ad1193.add ((x130_4).toNat * 6)).off + 4, none⟩ = some (.bool ((rd_T90 l2 x130_4).f0.f4)) ∧ w'.cell? ⟨(ad1193.add ((x130_4).toNat * 6)).block, (ad1193.add ((x130_4).toNat * 6)).off + 5, none⟩ = some (.int .i64 ((rd_T90 l2 x130_4).f1))) (ds := []) #[false, false, false, false, false, false, false, false, false, false, false, false, false, false, false, false] (by kernel_rfl) rfl rfl ⟨(blk_cell BK1131.out 0).trans rfl, (blk_cell BK1131.out 1).trans rfl, (blk_cell BK1131.out 2).trans rfl, (blk_cell BK1131.out 3).trans rfl, (blk_cell BK1131.out 4).trans rfl, ((HB.out.cell (World.block_lt_of_cell? w _ hw1193_0)).trans hw1193_0), ((HB.out.cell (World.block_lt_of_cell? w _ hw1193_1)).trans hw1193_1), ((HB.out.cell (World.block_lt_of_cell? w _ hw1193_2)).trans hw1193_2), ((HB.out.cell (World.block_lt_of_cell? w _ hw1193_3)).trans hw1193_3), ((HB.out.cell (World.block_lt_of_cell? w _ hw1193_4)).trans hw1193_4), ((HB.out.cell (World.block_lt_of_cell? w _ hw1193_5)).trans hw1193_5)⟩ (fun hHeld => ?_); refine with_tabW stipendlaw13_TaxYear.tab32 stipendlaw13_TaxYear.bits32 (fun HT_ HW_ => ?_)
                  generalize wr.drew = w92 at HO_9 HO_12 HO_17 BK1131 HI1142 HB hx1193_0 hx1193_1 hx1193_2 hx1193_3 hx1193_4 hx1193_5 hHeld ⊢; refine pure_ (i := 1) (N := some 141) (v := ?_) (a' := ?_) #[false, true, false, false, false, false, false, false, false, false, false, false, false, false, false, false] rfl rfl (any_of HT_.out (by kernel_rfl)) (fun _ _ _ h => h) (Or.inl ⟨by rfl, ?_⟩) ?_ ?_
                  rotate_left
                  ·intro w'
                   go_simp
                   with_reducible rfl
                  rotate_left
                  ·simp only [Act.put, List.setIfInBounds_toArray, List.set_cons_zero, List.set_cons_succ, i64_w, i32_w]
                   rfl
                  refine pure_ (i := 2) (N := some 142) (v := ?_) (a' := ?_) #[false, true, true, false, false, false, false, false, false, false, false, false, false, false, false, false] rfl rfl (any_of HT_.out (by kernel_rfl)) (fun _ _ _ h => h) (Or.inl ⟨by rfl, ?_⟩) ?_ ?_
                  rotate_left
                  ·intro w'
                   go_simp
                   with_reducible rfl
                  rotate_left
                  ·simp only [Act.put, List.setIfInBounds_toArray, List.set_cons_zero, List.set_cons_succ, i64_w, i32_w]
                   rfl
                  refine pure_ (i := 3) (N := some 143) (v := ?_) (a' := ?_) #[false, true, true, true, false, false, false, false, false, false, false, false, false, false, false, false] rfl rfl (any_of HT_.out (by kernel_rfl)) (fun _ _ _ h => h) (Or.inl ⟨by rfl, ?_⟩) ?_ ?_
                  rotate_left
                  ·intro w'
                   go_simp
                   with_reducible rfl
                  rotate_left
                  ·simp only [Act.put, List.setIfInBounds_toArray, List.set_cons_zero, List.set_cons_succ, i64_w, i32_w]
                   rfl
                  refine pure_ (i := 4) (N := some 144) (v := ?_) (a' := ?_) #[false, true, true, true, true, false, false, false, false, false, false, false, false, false, false, false] rfl rfl (any_of HT_.out (by kernel_rfl)) (fun _ _ _ h => h) (Or.inl ⟨by rfl, ?_⟩) ?_ ?_
                  rotate_left
                  ·intro w'
                   go_simp
                   with_reducible rfl
                  rotate_left
                  ·simp only [Act.put, List.setIfInBounds_toArray, List.set_cons_zero, List.set_cons_succ, i64_w, i32_w]
                   rfl
                  refine pure_ (i := 5) (N := some 145) (v := ?_) (a' := ?_) #[false, true, true, true, true, true, false, false, false, false, false, false, false, false, false, false] rfl rfl (any_of HT_.out (by kernel_rfl)) (fun _ _ _ h => h) (Or.inl ⟨by rfl, ?_⟩) ?_ ?_
                  rotate_left
                  ·intro w'
                   go_simp
                   with_reducible rfl
                  rotate_left
                  ·simp only [Act.put, List.setIfInBounds_toArray, List.set_cons_zero, List.set_cons_succ, i64_w, i32_w]
                   rfl
                  refine pure_ (i := 6) (N := some 146) (v := ?_) (a' := ?_) #[false, true, true, true, true, true, true, false, false, false, false, false, false, false, false, false] rfl rfl (any_of HT_.out (by kernel_rfl)) (fun _ _ _ h => h) (Or.inl ⟨by rfl, ?_⟩) ?_ ?_
                  rotate_left
                  ·intro w'
                   go_simp
                   with_reducible rfl
                  rotate_left
                  ·simp only [Act.put, List.setIfInBounds_toArray, List.set_cons_zero, List.set_cons_succ, i64_w, i32_w]
                   rfl
                  refine pure_ (i := 8) (N := some 148) (v := ?_) (a' := ?_) #[false, true, true, true, true, true, true, false, true, false, false, false, false, false, false, false] rfl rfl (any_of HT_.out (by kernel_rfl)) (fun _ _ _ h => h) (Or.inl ⟨by rfl, ?_⟩) ?_ ?_
                  rotate_left
                  ·intro w'
                   go_simp
                   with_reducible rfl
                  rotate_left
                  ·simp only [Act.put, List.setIfInBounds_toArray, List.set_cons_zero, List.set_cons_succ, i64_w, i32_w]
                   rfl
                  refine pure_ (i := 9) (N := some 149) (v := ?_) (a' := ?_) #[false, true, true, true, true, true, true, false, true, true, false, false, false, false, false, false] rfl rfl (any_of HT_.out (by kernel_rfl)) (fun _ _ _ h => h) (Or.inl ⟨by rfl, ?_⟩) ?_ ?_
                  rotate_left
                  ·intro w'
                   go_simp
                   with_reducible rfl
                  rotate_left
                  ·simp only [Act.put, List.setIfInBounds_toArray, List.set_cons_zero, List.set_cons_succ, i64_w, i32_w]
                   rfl
                  refine take_ (i := 0) (N := some 140) (v := ?_) (a' := ?_) #[true, true, true, true, true, true, true, false, true, true, false, false, false, false, false, false] rfl rfl (take_ofW HT_.out HW_.out (by kernel_rfl)) (fun _ _ _ h => h) (Or.inl ⟨by rfl, ?_⟩) hHeld ?_ ?_
                  rotate_left
                  ·rintro w' ⟨s0, s1, s2, s3, s4, s5, s6, s7, s8, s9, s10⟩
                   go_simp
                   with_reducible rfl
                  rotate_left
                  ·simp only [Act.put, List.setIfInBounds_toArray, List.set_cons_zero, List.set_cons_succ, i64_w, i32_w]
                   rfl
                  refine take_ (i := 7) (N := some 147) (v := ?_) (a' := ?_) #[true, true, true, true, true, true, true, true, true, true, false, false, false, false, false, false] rfl rfl (take_ofW HT_.out HW_.out (by kernel_rfl)) (fun _ _ _ h => h) (Or.inl ⟨by rfl, ?_⟩) hHeld ?_ ?_
                  rotate_left
                  ·rintro w' ⟨s0, s1, s2, s3, s4, s5, s6, s7, s8, s9, s10⟩
                   go_simp
                   with_reducible rfl
                  rotate_left
                  ·simp only [Act.put, List.setIfInBounds_toArray, List.set_cons_zero, List.set_cons_succ, i64_w, i32_w]
                   rfl
                  refine one_ (i := 10) (N := some 150) #[true, true, true, true, true, true, true, true, true, true, true, false, false, false, false, false] rfl rfl (one_of HT_.out (by kernel_rfl)) (by decide) (fun K hK => ?_)
                  refine goes_ Try.func89 (by kernel_rfl) rfl #[.agg #[.slice A0_0 l0_0.length c0_0, .slice A0_1 l0_1.length c0_1, .slice A0_2 l0_2.length c0_2, .int .i64 a0_3, .int .i64 a0_4], .pointer (some ⟨g1142, 0, none⟩), .int .i64 (wrap64 (x130_4 + 1)), .agg #[.int .i64 ((rd_T90 l2 x130_4).f0.f0), .int .i64 ((rd_T90 l2 x130_4).f0.f1), .int .i64 ((rd_T90 l2 x130_4).f0.f2), .int .i64 ((rd_T90 l2 x130_4).f0.f3), .bool ((rd_T90 l2 x130_4).f0.f4), .int .i64 ((rd_T90 l2 x130_4).f1)], .int .i64 (wrap64 (x18_4 + (rd x12_2 x130_4))), .int .i64 x19_4] (by rfl) rfl rfl (by (try simp only [List.map_toArray, List.map_cons, List.map_nil]); first | done | rfl | (simp only [List.length_drop, List.length_take]; rfl)) ?_
                  with_reducible refine (tax_Next.calls k4 _ _ l0_0 _ _ l0_1 _ _ l0_2 a0_3 a0_4 g1142 x1143000_4 x1143001_4 x1143002_4 x1143003_4 x1143004_4 x1143005_4 x1143006_4 x1143007_4 x1143008_4 (wrap64 (x130_4 + 1)) ((rd_T90 l2 x130_4).f0.f0) ((rd_T90 l2 x130_4).f0.f1) ((rd_T90 l2 x130_4).f0.f2) ((rd_T90 l2 x130_4).f0.f3) ((rd_T90 l2 x130_4).f0.f4) ((rd_T90 l2 x130_4).f1) (wrap64 (x18_4 + (rd x12_2 x130_4))) x19_4 t1194 t1195 t1196 t1197 t1198 t1199 t1200 t1201 t1202 t1203 t1204 w _ ?side1 ?side2 ?side3 ?side4 ?side5 ?side6 ?side7 ?side8 A90.out).mono ?_
                  (case side1 => repeat (first | (with_reducible first | exact HI1142.out | apply IsS180.alloc | apply IsS180.drewN | apply IsS180.drew | apply IsS180.set_0 | apply IsS180.set_1 | apply IsS180.set_2 | apply IsS180.set_3 | apply IsS180.set_4 | apply IsS180.set_5 | apply IsS180.set_6 | apply IsS180.set_7 | apply IsS180.set_8 | refine IsS180.far ?_ NB1142_1131.out _) | exact HI1142.out))
                  (case side2 => repeat (first | (with_reducible first | exact HB.out | apply below_alloc | apply pw_below_drewN | apply below_drew1 | refine below_set ?_ (IsS180.ge HI1142.out) | refine below_set ?_ GE1131.out) | exact HB.out))
                  (case side3 => exact Kd.C_foot_came (Kd.heap_slice 106 k106_heap) HR0_0.out (bl2_ HB (IsS180.ge HI1142.out) GE1131.out) (IsS180.ge HI1142.out))
                  (case side4 => exact HC0_0.out)
                  (case side5 => exact Kd.C_foot_came k120_heap HR0_1.out (bl2_ HB (IsS180.ge HI1142.out) GE1131.out) (IsS180.ge HI1142.out))
                  (case side6 => exact HC0_1.out)
                  (case side7 => exact Kd.C_foot_came k209_heap HR0_2.out (bl2_ HB (IsS180.ge HI1142.out) GE1131.out) (IsS180.ge HI1142.out))
                  (case side8 => exact HC0_2.out)
                  rintro e w93 ⟨rfl, hi, hb, hk⟩; refine ⟨_, rfl, ?_⟩
                  replace HO_9 := A_ (Kd.R_mono (Kd.R_keep (IsS180.apart (show IsS180 w _ g1142 x1143000_4 x1143001_4 x1143002_4 x1143003_4 x1143004_4 x1143005_4 x1143006_4 x1143007_4 x1143008_4 from is1_ HI1142 NB1142_1131.out) (ro_ HO_9) (by decide)) hk (fun _ h => h.2)) (fun _ h => h.1)); replace HO_12 := A_ (Kd.R_mono (Kd.R_keep (IsS180.apart (show IsS180 w _ g1142 x1143000_4 x1143001_4 x1143002_4 x1143003_4 x1143004_4 x1143005_4 x1143006_4 x1143007_4 x1143008_4 from is1_ HI1142 NB1142_1131.out) (ro_ HO_12) (by decide)) hk (fun _ h => h.2)) (fun _ h => h.1)); replace HO_17 := A_ (Kd.R_mono (Kd.R_keep (IsS180.apart (show IsS180 w _ g1142 x1143000_4 x1143001_4 x1143002_4 x1143003_4 x1143004_4 x1143005_4 x1143006_4 x1143007_4 x1143008_4 from is1_ HI1142 NB1142_1131.out) (ro_ HO_17) (by decide)) hk (fun _ h => h.2)) (fun _ h => h.1)); replace BK1131 := A_ (KeepBut.blk hk (g' := gb1131) (o := .cells #[.slice A0_0 l0_0.length c0_0, .slice A0_1 l0_1.length c0_1, .slice A0_2 l0_2.length c0_2, .int .i64 a0_3, .int .i64 a0_4] 56 (0, 0)) (bx_ BK1131) NB1131_1142.out (by simp)); replace HB := A_ (hb); replace HI1142 := A_ (hi)
                  (try clear hb)
                  (try clear hb2)
                  (try clear hk)
                  (try clear hi)
                  refine hK.out _ _ ⟨(blk_cell BK1131.out 0).trans rfl, (blk_cell BK1131.out 1).trans rfl, (blk_cell BK1131.out 2).trans rfl, (blk_cell BK1131.out 3).trans rfl, (blk_cell BK1131.out 4).trans rfl, ((HB.out.cell (World.block_lt_of_cell? w _ hw1193_0)).trans hw1193_0), ((HB.out.cell (World.block_lt_of_cell? w _ hw1193_1)).trans hw1193_1), ((HB.out.cell (World.block_lt_of_cell? w _ hw1193_2)).trans hw1193_2), ((HB.out.cell (World.block_lt_of_cell? w _ hw1193_3)).trans hw1193_3), ((HB.out.cell (World.block_lt_of_cell? w _ hw1193_4)).trans hw1193_4), ((HB.out.cell (World.block_lt_of_cell? w _ hw1193_5)).trans hw1193_5)⟩ (fun hHeld => ?_)
                  clear hK K; refine norm_ (a' := ?_) ?_ ?_
                  rotate_left
                  ·show Act.put _ (some 150) _ = _
                   simp only [Act.put, List.setIfInBounds_toArray, List.set_cons_zero, List.set_cons_succ, i64_w, i32_w]
                   rfl
                  refine pure_ (i := 11) (N := some 139) (v := ?_) (a' := ?_) #[true, true, true, true, true, true, true, true, true, true, true, true, false, false, false, false] rfl rfl (any_of HT_.out (by kernel_rfl)) (fun _ _ _ h => h) (Or.inl ⟨by rfl, ?_⟩) ?_ ?_
                  rotate_left
                  ·intro w'
                   go_simp
                   with_reducible rfl
                  rotate_left
                  ·simp only [Act.put, List.setIfInBounds_toArray, List.set_cons_zero, List.set_cons_succ, i64_w, i32_w]
                   rfl
                  refine pure_ (i := 12) (N := some 151) (v := ?_) (a' := ?_) #[true, true, true, true, true, true, true, true, true, true, true, true, true, false, false, false] rfl rfl (any_of HT_.out (by kernel_rfl)) (fun _ _ _ h => h) (Or.inl ⟨by rfl, ?_⟩) ?_ ?_
                  rotate_left
                  ·intro w'
                   go_simp
                   with_reducible rfl
                  rotate_left
                  ·simp only [Act.put, List.setIfInBounds_toArray, List.set_cons_zero, List.set_cons_succ, i64_w, i32_w]
                   rfl
                  refine pure_ (i := 13) (N := some 152) (v := ?_) (a' := ?_) #[true, true, true, true, true, true, true, true, true, true, true, true, true, true, false, false] rfl rfl (any_of HT_.out (by kernel_rfl)) (fun _ _ _ h => h) (Or.inl ⟨by rfl, ?_⟩) ?_ ?_
                  rotate_left
                  ·intro w'
                   go_simp
                   with_reducible rfl
                  rotate_left
                  ·simp only [Act.put, List.setIfInBounds_toArray, List.set_cons_zero, List.set_cons_succ, i64_w, i32_w]
                   rfl
                  refine pure_ (i := 14) (N := some 21) (v := ?_) (a' := ?_) #[true, true, true, true, true, true, true, true, true, true, true, true, true, true, true, false] rfl rfl (any_of HT_.out (by kernel_rfl)) (fun _ _ _ h => h) (Or.inl ⟨by rfl, ?_⟩) ?_ ?_
                  rotate_left
                  ·intro w'
                   go_simp
                   with_reducible rfl
                  rotate_left
                  ·simp only [Act.put, List.setIfInBounds_toArray, List.set_cons_zero, List.set_cons_succ, i64_w, i32_w]
                   rfl
                  refine pure_ (i := 15) (N := some 22) (v := ?_) (a' := ?_) #[true, true, true, true, true, true, true, true, true, true, true, true, true, true, true, true] rfl rfl (any_of HT_.out (by kernel_rfl)) (fun _ _ _ h => h) (Or.inl ⟨by rfl, ?_⟩) ?_ ?_
                  rotate_left
                  ·intro w'
                   go_simp
                   with_reducible rfl
                  rotate_left
                  ·simp only [Act.put, List.setIfInBounds_toArray, List.set_cons_zero, List.set_cons_succ, i64_w, i32_w]
                   rfl
                  refine done_ (done_of HT_.out (by kernel_rfl)) ?_
                  go_upto_region 33 with (fail)
                  go_cut [173] (fun v173 wc => ∃ (kq : Nat) (x173_90 : Bool), v173 = .bool x173_90 ∧ Aside0 (stipendlaw13_TaxYear.j5 kq l2 t1145 x12_2 x13_2 t1178 (wrap64 (x18_4 + (rd x12_2 x130_4))) t1194 (t1145.length : Int) x130_4 x173_90 l0_0 l0_1 l0_2 a0_3 a0_4 t1196 t1197 t1198 t1199 t1200 t1201 t1202 t1203 t1204 = some r) ∧ Aside0 (kq ≤ k4) ∧ Aside0 (Kd.R (Kd.int .i64) 2 wc w.heap.size (fun k_ => some k_ ≠ ((.slice (some ad1192) x12_2.length co79) : Value).ownBlock ∧ some k_ ≠ (v1179 : Value).ownBlock) (.slice Ao85 t1145.length co85) t1145) ∧ Aside0 (Kd.R (Kd.int .i64) 2 wc w.heap.size (fun k_ => some k_ ≠ ((.slice Ao85 t1145.length co85) : Value).ownBlock ∧ some k_ ≠ (v1179 : Value).ownBlock) (.slice (some ad1192) x12_2.length co79) x12_2) ∧ Aside0 (Kd.R (Kd.int .i64) 2 wc w.heap.size (fun k_ => some k_ ≠ ((.slice Ao85 t1145.length co85) : Value).ownBlock ∧ some k_ ≠ ((.slice (some ad1192) x12_2.length co79) : Value).ownBlock) v1179 t1178) ∧ Aside0 (wc.heap[gb1131]? = some (.cells #[(.slice A0_0 l0_0.length c0_0), (.slice A0_1 l0_1.length c0_1), (.slice A0_2 l0_2.length c0_2), .int .i64 a0_3, .int .i64 a0_4] 56 (0, 0))) ∧ Aside0 (IsS180 w wc g1142 t1196 t1197 t1198 t1199 t1200 t1201 t1202 t1203 t1204) ∧ Aside0 (Below w.heap.size w wc))
                  case first =>
                   have H := HC91.out; clear HC91; by_cases c94 : x130_4 < (t1145.length : Int)
                   ·rw [if_pos c94] at H; have c94b0 := decide_eq_true c94; clear c94
                    (first | rw [c94b0] | (simp only [i64_w, i32_w]; rw [c94b0]) | skip)
                    by_cases c95 : x130_4 < (t1178.length : Int)
                    ·rw [if_pos c95] at H; have c95b0 := decide_eq_true c95; clear c95; by_cases c96 : (rd t1145 x130_4) = (rd t1178 x130_4)
                     ·rw [if_pos c96] at H; have c96b0 : ((rd t1145 x130_4) == (rd t1178 x130_4)) = true := beq_iff_eq.mpr c96; have c96b1 : ((rd t1145 x130_4) != (rd t1178 x130_4)) = false := bne_eq_false_iff_eq.mpr c96; clear c96; by_cases c97 : t1195 = 0
                      ·rw [if_pos c97] at H; have c97b0 : (t1195 == 0) = true := beq_iff_eq.mpr c97; have c97b1 : (t1195 != 0) = false := bne_eq_false_iff_eq.mpr c97; clear c97; have H' := A_ H; clear H
                       try go_wp2
                       replace HO_9 := A_ (Kd.R_drew HO_9.out); replace HO_12 := A_ (Kd.R_drew HO_12.out); replace HO_17 := A_ (Kd.R_drew HO_17.out); replace BK1131 := A_ (blk_drew BK1131.out); replace HI1142 := A_ (IsS180.drew HI1142.out); replace HB := A_ (below_drew1 HB.out); have p1205 : 0 ≤ (x130_4 : Int) := od_; have q1205 : x130_4 < (t1145.length : Int) := od_; obtain ⟨ad1205, e1205, hx1205_0⟩ := Kd.at_int (Kd.R_reads' HO_9.out).2.2 x130_4 p1205 q1205; cases e1205; replace p1205 := eq_true p1205; replace q1205 := eq_true q1205; obtain ⟨Ao99, co99, eo99⟩ := Kd.R_slice HO_17.out
                       (first | subst eo99 | (injection eo99 with f1_ f2_ f3_; have f4_ := f1_.symm; have f5_ := f3_.symm; clear f1_ f2_ f3_; subst f4_; subst f5_))
                       have p1206 : 0 ≤ (x130_4 : Int) := od_; have q1206 : x130_4 < (t1178.length : Int) := od_; obtain ⟨ad1206, e1206, hx1206_0⟩ := Kd.at_int (Kd.R_reads' HO_17.out).2.2 x130_4 p1206 q1206; cases e1206; replace p1206 := eq_true p1206; replace q1206 := eq_true q1206; have p1207 : 0 ≤ (x130_4 : Int) := od_; have q1207 : x130_4 < (t1178.length : Int) := od_; obtain ⟨ad1207, e1207, hx1207_0⟩ := Kd.at_int (Kd.R_reads' HO_17.out).2.2 x130_4 p1207 q1207; obtain rfl : ad1206 = ad1207 := (by injection e1207); replace p1207 := eq_true p1207; replace q1207 := eq_true q1207; refine start_ (n := 21) (S := fun w' => w'.cell? (ad1205.add (x130_4).toNat) = some (.int .i64 (rd t1145 x130_4)) ∧ w'.cell? (ad1206.add (x130_4).toNat) = some (.int .i64 (rd t1178 x130_4)) ∧ w'.cell? (ad1206.add (x130_4).toNat) = some (.int .i64 (rd t1178 x130_4))) (ds := []) #[false, false, false, false, false, false, false, false, false, false, false, false, false, false, false, false, false, false, false, false, false] (by kernel_rfl) rfl rfl ⟨hx1205_0, hx1206_0, hx1207_0⟩ (fun hHeld => ?_); refine with_tabW stipendlaw13_TaxYear.tab33 stipendlaw13_TaxYear.bits33 (fun HT_ HW_ => ?_)
                       generalize w93.drew = w98 at HO_9 HO_12 HO_17 BK1131 HI1142 HB hx1205_0 hx1206_0 hx1207_0 hHeld ⊢; refine pure_ (i := 0) (N := some 153) (v := ?_) (a' := ?_) #[true, false, false, false, false, false, false, false, false, false, false, false, false, false, false, false, false, false, false, false, false] rfl rfl (any_of HT_.out (by kernel_rfl)) (fun _ _ _ h => h) (Or.inl ⟨by rfl, ?_⟩) ?_ ?_
                       rotate_left
                       ·intro w'
                        go_simp
                        with_reducible rfl
                       rotate_left
                       ·simp only [Act.put, List.setIfInBounds_toArray, List.set_cons_zero, List.set_cons_succ, i64_w, i32_w]
                        rfl
                       refine pure_ (i := 1) (N := some 154) (v := ?_) (a' := ?_) #[true, true, false, false, false, false, false, false, false, false, false, false, false, false, false, false, false, false, false, false, false] rfl rfl (any_of HT_.out (by kernel_rfl)) (fun _ _ _ h => h) (Or.inl ⟨by rfl, ?_⟩) ?_ ?_
                       rotate_left
                       ·intro w'
                        go_simp
                        with_reducible rfl
                       rotate_left
                       ·simp only [Act.put, List.setIfInBounds_toArray, List.set_cons_zero, List.set_cons_succ, i64_w, i32_w]
                        rfl
                       refine pure_ (i := 2) (N := some 155) (v := ?_) (a' := ?_) #[true, true, true, false, false, false, false, false, false, false, false, false, false, false, false, false, false, false, false, false, false] rfl rfl (any_of HT_.out (by kernel_rfl)) (fun _ _ _ h => h) (Or.inl ⟨by rfl, ?_⟩) ?_ ?_
                       rotate_left
                       ·intro w'
                        go_simp
                        with_reducible rfl
                       rotate_left
                       ·simp only [Act.put, List.setIfInBounds_toArray, List.set_cons_zero, List.set_cons_succ, i64_w, i32_w]
                        rfl
                       refine pure_ (i := 4) (N := some 157) (v := ?_) (a' := ?_) #[true, true, true, false, true, false, false, false, false, false, false, false, false, false, false, false, false, false, false, false, false] rfl rfl (any_of HT_.out (by kernel_rfl)) (fun _ _ _ h => h) (Or.inl ⟨by rfl, ?_⟩) ?_ ?_
                       rotate_left
                       ·intro w'
                        go_simp
                        with_reducible rfl
                       rotate_left
                       ·simp only [Act.put, List.setIfInBounds_toArray, List.set_cons_zero, List.set_cons_succ, i64_w, i32_w]
                        rfl
                       refine pure_ (i := 5) (N := some 158) (v := ?_) (a' := ?_) #[true, true, true, false, true, true, false, false, false, false, false, false, false, false, false, false, false, false, false, false, false] rfl rfl (any_of HT_.out (by kernel_rfl)) (fun _ _ _ h => h) (Or.inl ⟨by rfl, ?_⟩) ?_ ?_
                       rotate_left
                       ·intro w'
                        go_simp
                        with_reducible rfl
                       rotate_left
                       ·simp only [Act.put, List.setIfInBounds_toArray, List.set_cons_zero, List.set_cons_succ, i64_w, i32_w]
                        rfl
                       refine pure_ (i := 6) (N := some 159) (v := ?_) (a' := ?_) #[true, true, true, false, true, true, true, false, false, false, false, false, false, false, false, false, false, false, false, false, false] rfl rfl (any_of HT_.out (by kernel_rfl)) (fun _ _ _ h => h) (Or.inl ⟨by rfl, ?_⟩) ?_ ?_
                       rotate_left
                       ·intro w'
                        go_simp
                        with_reducible rfl
                       rotate_left
                       ·simp only [Act.put, List.setIfInBounds_toArray, List.set_cons_zero, List.set_cons_succ, i64_w, i32_w]
                        rfl
                       refine take_ (i := 3) (N := some 156) (v := ?_) (a' := ?_) #[true, true, true, true, true, true, true, false, false, false, false, false, false, false, false, false, false, false, false, false, false] rfl rfl (take_ofW HT_.out HW_.out (by kernel_rfl)) (fun _ _ _ h => h) (Or.inl ⟨by rfl, ?_⟩) hHeld ?_ ?_
                       rotate_left
                       ·rintro w' ⟨s0, s1, s2⟩
                        go_simp
                        with_reducible rfl
                       rotate_left
                       ·simp only [Act.put, List.setIfInBounds_toArray, List.set_cons_zero, List.set_cons_succ, i64_w, i32_w]
                        rfl
                       refine take_ (i := 7) (N := some 160) (v := ?_) (a' := ?_) #[true, true, true, true, true, true, true, true, false, false, false, false, false, false, false, false, false, false, false, false, false] rfl rfl (take_ofW HT_.out HW_.out (by kernel_rfl)) (fun _ _ _ h => h) (Or.inl ⟨by rfl, ?_⟩) hHeld ?_ ?_
                       rotate_left
                       ·rintro w' ⟨s0, s1, s2⟩
                        go_simp
                        with_reducible rfl
                       rotate_left
                       ·simp only [Act.put, List.setIfInBounds_toArray, List.set_cons_zero, List.set_cons_succ, i64_w, i32_w]
                        rfl
                       refine pure_ (i := 8) (N := some 161) (v := ?_) (a' := ?_) #[true, true, true, true, true, true, true, true, true, false, false, false, false, false, false, false, false, false, false, false, false] rfl rfl (any_of HT_.out (by kernel_rfl)) (fun _ _ _ h => h) (Or.inl ⟨by rfl, ?_⟩) ?_ ?_
                       rotate_left
                       ·intro w'
                        go_simp
                        with_reducible rfl
                       rotate_left
                       ·simp only [Act.put, List.setIfInBounds_toArray, List.set_cons_zero, List.set_cons_succ, i64_w, i32_w]
                        rfl
                       refine pure_ (i := 9) (N := some 162) (v := ?_) (a' := ?_) #[true, true, true, true, true, true, true, true, true, true, false, false, false, false, false, false, false, false, false, false, false] rfl rfl (any_of HT_.out (by kernel_rfl)) (fun _ _ _ h => h) (Or.inl ⟨by rfl, ?_⟩) ?_ ?_
                       rotate_left
                       ·intro w'
                        go_simp
                        with_reducible rfl
                       rotate_left
                       ·simp only [Act.put, List.setIfInBounds_toArray, List.set_cons_zero, List.set_cons_succ, i64_w, i32_w]
                        rfl
                       refine pure_ (i := 10) (N := some 163) (v := ?_) (a' := ?_) #[true, true, true, true, true, true, true, true, true, true, true, false, false, false, false, false, false, false, false, false, false] rfl rfl (any_of HT_.out (by kernel_rfl)) (fun _ _ _ h => h) (Or.inl ⟨by rfl, ?_⟩) ?_ ?_
                       rotate_left
                       ·intro w'
                        go_simp
                        with_reducible rfl
                       rotate_left
                       ·simp only [Act.put, List.setIfInBounds_toArray, List.set_cons_zero, List.set_cons_succ, i64_w, i32_w]
                        rfl
                       refine pure_ (i := 11) (N := some 164) (v := ?_) (a' := ?_) #[true, true, true, true, true, true, true, true, true, true, true, true, false, false, false, false, false, false, false, false, false] rfl rfl (any_of HT_.out (by kernel_rfl)) (fun _ _ _ h => h) (Or.inl ⟨by rfl, ?_⟩) ?_ ?_
                       rotate_left
                       ·intro w'
                        go_simp
                        with_reducible rfl
                       rotate_left
                       ·simp only [Act.put, List.setIfInBounds_toArray, List.set_cons_zero, List.set_cons_succ, i64_w, i32_w]
                        rfl
                       refine pure_ (i := 12) (N := some 165) (v := ?_) (a' := ?_) #[true, true, true, true, true, true, true, true, true, true, true, true, true, false, false, false, false, false, false, false, false] rfl rfl (any_of HT_.out (by kernel_rfl)) (fun _ _ _ h => h) (Or.inl ⟨by rfl, ?_⟩) ?_ ?_
                       rotate_left
                       ·intro w'
                        go_simp
                        with_reducible rfl
                       rotate_left
                       ·simp only [Act.put, List.setIfInBounds_toArray, List.set_cons_zero, List.set_cons_succ, i64_w, i32_w]
                        rfl
                       refine pure_ (i := 13) (N := some 166) (v := ?_) (a' := ?_) #[true, true, true, true, true, true, true, true, true, true, true, true, true, true, false, false, false, false, false, false, false] rfl rfl (any_of HT_.out (by kernel_rfl)) (fun _ _ _ h => h) (Or.inl ⟨by rfl, ?_⟩) ?_ ?_
                       rotate_left
                       ·intro w'
                        go_simp
                        with_reducible rfl
                       rotate_left
                       ·simp only [Act.put, List.setIfInBounds_toArray, List.set_cons_zero, List.set_cons_succ, i64_w, i32_w]
                        rfl
                       refine pure_ (i := 14) (N := some 167) (v := ?_) (a' := ?_) #[true, true, true, true, true, true, true, true, true, true, true, true, true, true, true, false, false, false, false, false, false] rfl rfl (any_of HT_.out (by kernel_rfl)) (fun _ _ _ h => h) (Or.inl ⟨by rfl, ?_⟩) ?_ ?_
                       rotate_left
                       ·intro w'
                        go_simp
                        with_reducible rfl
                       rotate_left
                       ·simp only [Act.put, List.setIfInBounds_toArray, List.set_cons_zero, List.set_cons_succ, i64_w, i32_w]
                        rfl
                       refine pure_ (i := 15) (N := some 168) (v := ?_) (a' := ?_) #[true, true, true, true, true, true, true, true, true, true, true, true, true, true, true, true, false, false, false, false, false] rfl rfl (any_of HT_.out (by kernel_rfl)) (fun _ _ _ h => h) (Or.inl ⟨by rfl, ?_⟩) ?_ ?_
                       rotate_left
                       ·intro w'
                        go_simp
                        with_reducible rfl
                       rotate_left
                       ·simp only [Act.put, List.setIfInBounds_toArray, List.set_cons_zero, List.set_cons_succ, i64_w, i32_w]
                        rfl
                       refine pure_ (i := 16) (N := some 169) (v := ?_) (a' := ?_) #[true, true, true, true, true, true, true, true, true, true, true, true, true, true, true, true, true, false, false, false, false] rfl rfl (any_of HT_.out (by kernel_rfl)) (fun _ _ _ h => h) (Or.inl ⟨by rfl, ?_⟩) ?_ ?_
                       rotate_left
                       ·intro w'
                        go_simp
                        with_reducible rfl
                       rotate_left
                       ·simp only [Act.put, List.setIfInBounds_toArray, List.set_cons_zero, List.set_cons_succ, i64_w, i32_w]
                        rfl
                       refine pure_ (i := 17) (N := some 170) (v := ?_) (a' := ?_) #[true, true, true, true, true, true, true, true, true, true, true, true, true, true, true, true, true, true, false, false, false] rfl rfl (any_of HT_.out (by kernel_rfl)) (fun _ _ _ h => h) (Or.inl ⟨by rfl, ?_⟩) ?_ ?_
                       rotate_left
                       ·intro w'
                        go_simp
                        with_reducible rfl
                       rotate_left
                       ·simp only [Act.put, List.setIfInBounds_toArray, List.set_cons_zero, List.set_cons_succ, i64_w, i32_w]
                        rfl
                       refine take_ (i := 18) (N := some 171) (v := ?_) (a' := ?_) #[true, true, true, true, true, true, true, true, true, true, true, true, true, true, true, true, true, true, true, false, false] rfl rfl (take_ofW HT_.out HW_.out (by kernel_rfl)) (fun _ _ _ h => h) (Or.inl ⟨by rfl, ?_⟩) hHeld ?_ ?_
                       rotate_left
                       ·rintro w' ⟨s0, s1, s2⟩
                        go_simp
                        with_reducible rfl
                       rotate_left
                       ·simp only [Act.put, List.setIfInBounds_toArray, List.set_cons_zero, List.set_cons_succ, i64_w, i32_w]
                        rfl
                       refine pure_ (i := 19) (N := some 172) (v := ?_) (a' := ?_) #[true, true, true, true, true, true, true, true, true, true, true, true, true, true, true, true, true, true, true, true, false] rfl rfl (any_of HT_.out (by kernel_rfl)) (fun _ _ _ h => h) (Or.inl ⟨by rfl, ?_⟩) ?_ ?_
                       rotate_left
                       ·intro w'
                        go_simp
                        with_reducible rfl
                       rotate_left
                       ·simp only [Act.put, List.setIfInBounds_toArray, List.set_cons_zero, List.set_cons_succ, i64_w, i32_w]
                        rfl
                       refine pure_ (i := 20) (N := some 173) (v := ?_) (a' := ?_) #[true, true, true, true, true, true, true, true, true, true, true, true, true, true, true, true, true, true, true, true, true] rfl rfl (any_of HT_.out (by kernel_rfl)) (fun _ _ _ h => h) (Or.inl ⟨by rfl, ?_⟩) ?_ ?_
                       rotate_left
                       ·intro w'
                        go_simp
                        with_reducible rfl
                       rotate_left
                       ·simp only [Act.put, List.setIfInBounds_toArray, List.set_cons_zero, List.set_cons_succ, i64_w, i32_w]
                        rfl
                       refine done_ (done_of HT_.out (by kernel_rfl)) ?_
                       try go_wp2
                       go_meet
                       case rel => exact ⟨_, ((t1194 != (rd t1178 x130_4))), (sx_), H', ⟨by have := HJ6.out; have := HK2.out; have := HJ75.out; have := HK4.out; first | omega | exact Nat.le_refl _⟩, ⟨ro_ HO_9⟩, ⟨ro_ HO_12⟩, ⟨ro_ HO_17⟩, ⟨bx_ BK1131⟩, ⟨is1_ HI1142 NB1142_1131.out⟩, ⟨bl2_ HB (IsS180.ge HI1142.out) GE1131.out⟩⟩
                      ·rw [if_neg c97] at H; have c97b0 : (t1195 == 0) = false := beq_eq_false_iff_ne.mpr c97; have c97b1 : (t1195 != 0) = true := bne_iff_ne.mpr c97; have H' := A_ H; clear H
                       try go_wp2
                       replace HO_9 := A_ (Kd.R_drew HO_9.out); replace HO_12 := A_ (Kd.R_drew HO_12.out); replace HO_17 := A_ (Kd.R_drew HO_17.out); replace BK1131 := A_ (blk_drew BK1131.out); replace HI1142 := A_ (IsS180.drew HI1142.out); replace HB := A_ (below_drew1 HB.out); have p1205 : 0 ≤ (x130_4 : Int) := od_; have q1205 : x130_4 < (t1145.length : Int) := od_; obtain ⟨ad1205, e1205, hx1205_0⟩ := Kd.at_int (Kd.R_reads' HO_9.out).2.2 x130_4 p1205 q1205; cases e1205; replace p1205 := eq_true p1205; replace q1205 := eq_true q1205; obtain ⟨Ao101, co101, eo101⟩ := Kd.R_slice HO_17.out
                       (first | subst eo101 | (injection eo101 with f1_ f2_ f3_; have f4_ := f1_.symm; have f5_ := f3_.symm; clear f1_ f2_ f3_; subst f4_; subst f5_))
                       have p1206 : 0 ≤ (x130_4 : Int) := od_; have q1206 : x130_4 < (t1178.length : Int) := od_; obtain ⟨ad1206, e1206, hx1206_0⟩ := Kd.at_int (Kd.R_reads' HO_17.out).2.2 x130_4 p1206 q1206; cases e1206; replace p1206 := eq_true p1206; replace q1206 := eq_true q1206; refine start_ (n := 21) (S := fun w' => w'.cell? (ad1205.add (x130_4).toNat) = some (.int .i64 (rd t1145 x130_4)) ∧ w'.cell? (ad1206.add (x130_4).toNat) = some (.int .i64 (rd t1178 x130_4))) (ds := []) #[false, false, false, false, false, false, false, false, false, false, false, false, false, false, false, false, false, false, false, false, false] (by kernel_rfl) rfl rfl ⟨hx1205_0, hx1206_0⟩ (fun hHeld => ?_); refine with_tabW stipendlaw13_TaxYear.tab33 stipendlaw13_TaxYear.bits33 (fun HT_ HW_ => ?_)
                       generalize w93.drew = w100 at HO_9 HO_12 HO_17 BK1131 HI1142 HB hx1205_0 hx1206_0 hHeld ⊢; refine pure_ (i := 0) (N := some 153) (v := ?_) (a' := ?_) #[true, false, false, false, false, false, false, false, false, false, false, false, false, false, false, false, false, false, false, false, false] rfl rfl (any_of HT_.out (by kernel_rfl)) (fun _ _ _ h => h) (Or.inl ⟨by rfl, ?_⟩) ?_ ?_
                       rotate_left
                       ·intro w'
                        go_simp
                        with_reducible rfl
                       rotate_left
                       ·simp only [Act.put, List.setIfInBounds_toArray, List.set_cons_zero, List.set_cons_succ, i64_w, i32_w]
                        rfl
                       refine pure_ (i := 1) (N := some 154) (v := ?_) (a' := ?_) #[true, true, false, false, false, false, false, false, false, false, false, false, false, false, false, false, false, false, false, false, false] rfl rfl (any_of HT_.out (by kernel_rfl)) (fun _ _ _ h => h) (Or.inl ⟨by rfl, ?_⟩) ?_ ?_
                       rotate_left
                       ·intro w'
                        go_simp
                        with_reducible rfl
                       rotate_left
                       ·simp only [Act.put, List.setIfInBounds_toArray, List.set_cons_zero, List.set_cons_succ, i64_w, i32_w]
                        rfl
                       refine pure_ (i := 2) (N := some 155) (v := ?_) (a' := ?_) #[true, true, true, false, false, false, false, false, false, false, false, false, false, false, false, false, false, false, false, false, false] rfl rfl (any_of HT_.out (by kernel_rfl)) (fun _ _ _ h => h) (Or.inl ⟨by rfl, ?_⟩) ?_ ?_
                       rotate_left
                       ·intro w'
                        go_simp
                        with_reducible rfl
                       rotate_left
                       ·simp only [Act.put, List.setIfInBounds_toArray, List.set_cons_zero, List.set_cons_succ, i64_w, i32_w]
                        rfl
                       refine pure_ (i := 4) (N := some 157) (v := ?_) (a' := ?_) #[true, true, true, false, true, false, false, false, false, false, false, false, false, false, false, false, false, false, false, false, false] rfl rfl (any_of HT_.out (by kernel_rfl)) (fun _ _ _ h => h) (Or.inl ⟨by rfl, ?_⟩) ?_ ?_
                       rotate_left
                       ·intro w'
                        go_simp
                        with_reducible rfl
                       rotate_left
                       ·simp only [Act.put, List.setIfInBounds_toArray, List.set_cons_zero, List.set_cons_succ, i64_w, i32_w]
                        rfl
                       refine pure_ (i := 5) (N := some 158) (v := ?_) (a' := ?_) #[true, true, true, false, true, true, false, false, false, false, false, false, false, false, false, false, false, false, false, false, false] rfl rfl (any_of HT_.out (by kernel_rfl)) (fun _ _ _ h => h) (Or.inl ⟨by rfl, ?_⟩) ?_ ?_
                       rotate_left
                       ·intro w'
                        go_simp
                        with_reducible rfl
                       rotate_left
                       ·simp only [Act.put, List.setIfInBounds_toArray, List.set_cons_zero, List.set_cons_succ, i64_w, i32_w]
                        rfl
                       refine pure_ (i := 6) (N := some 159) (v := ?_) (a' := ?_) #[true, true, true, false, true, true, true, false, false, false, false, false, false, false, false, false, false, false, false, false, false] rfl rfl (any_of HT_.out (by kernel_rfl)) (fun _ _ _ h => h) (Or.inl ⟨by rfl, ?_⟩) ?_ ?_
                       rotate_left
                       ·intro w'
                        go_simp
                        with_reducible rfl
                       rotate_left
                       ·simp only [Act.put, List.setIfInBounds_toArray, List.set_cons_zero, List.set_cons_succ, i64_w, i32_w]
                        rfl
                       refine take_ (i := 3) (N := some 156) (v := ?_) (a' := ?_) #[true, true, true, true, true, true, true, false, false, false, false, false, false, false, false, false, false, false, false, false, false] rfl rfl (take_ofW HT_.out HW_.out (by kernel_rfl)) (fun _ _ _ h => h) (Or.inl ⟨by rfl, ?_⟩) hHeld ?_ ?_
                       rotate_left
                       ·rintro w' ⟨s0, s1⟩
                        go_simp
                        with_reducible rfl
                       rotate_left
                       ·simp only [Act.put, List.setIfInBounds_toArray, List.set_cons_zero, List.set_cons_succ, i64_w, i32_w]
                        rfl
                       refine take_ (i := 7) (N := some 160) (v := ?_) (a' := ?_) #[true, true, true, true, true, true, true, true, false, false, false, false, false, false, false, false, false, false, false, false, false] rfl rfl (take_ofW HT_.out HW_.out (by kernel_rfl)) (fun _ _ _ h => h) (Or.inl ⟨by rfl, ?_⟩) hHeld ?_ ?_
                       rotate_left
                       ·rintro w' ⟨s0, s1⟩
                        go_simp
                        with_reducible rfl
                       rotate_left
                       ·simp only [Act.put, List.setIfInBounds_toArray, List.set_cons_zero, List.set_cons_succ, i64_w, i32_w]
                        rfl
                       refine pure_ (i := 8) (N := some 161) (v := ?_) (a' := ?_) #[true, true, true, true, true, true, true, true, true, false, false, false, false, false, false, false, false, false, false, false, false] rfl rfl (any_of HT_.out (by kernel_rfl)) (fun _ _ _ h => h) (Or.inl ⟨by rfl, ?_⟩) ?_ ?_
                       rotate_left
                       ·intro w'
                        go_simp
                        with_reducible rfl
                       rotate_left
                       ·simp only [Act.put, List.setIfInBounds_toArray, List.set_cons_zero, List.set_cons_succ, i64_w, i32_w]
                        rfl
                       refine pure_ (i := 9) (N := some 162) (v := ?_) (a' := ?_) #[true, true, true, true, true, true, true, true, true, true, false, false, false, false, false, false, false, false, false, false, false] rfl rfl (any_of HT_.out (by kernel_rfl)) (fun _ _ _ h => h) (Or.inl ⟨by rfl, ?_⟩) ?_ ?_
                       rotate_left
                       ·intro w'
                        go_simp
                        with_reducible rfl
                       rotate_left
                       ·simp only [Act.put, List.setIfInBounds_toArray, List.set_cons_zero, List.set_cons_succ, i64_w, i32_w]
                        rfl
                       refine pure_ (i := 10) (N := some 163) (v := ?_) (a' := ?_) #[true, true, true, true, true, true, true, true, true, true, true, false, false, false, false, false, false, false, false, false, false] rfl rfl (any_of HT_.out (by kernel_rfl)) (fun _ _ _ h => h) (Or.inl ⟨by rfl, ?_⟩) ?_ ?_
                       rotate_left
                       ·intro w'
                        go_simp
                        with_reducible rfl
                       rotate_left
                       ·simp only [Act.put, List.setIfInBounds_toArray, List.set_cons_zero, List.set_cons_succ, i64_w, i32_w]
                        rfl
                       refine pure_ (i := 11) (N := some 164) (v := ?_) (a' := ?_) #[true, true, true, true, true, true, true, true, true, true, true, true, false, false, false, false, false, false, false, false, false] rfl rfl (any_of HT_.out (by kernel_rfl)) (fun _ _ _ h => h) (Or.inl ⟨by rfl, ?_⟩) ?_ ?_
                       rotate_left
                       ·intro w'
                        go_simp
                        with_reducible rfl
                       rotate_left
                       ·simp only [Act.put, List.setIfInBounds_toArray, List.set_cons_zero, List.set_cons_succ, i64_w, i32_w]
                        rfl
                       refine pure_ (i := 12) (N := some 165) (v := ?_) (a' := ?_) #[true, true, true, true, true, true, true, true, true, true, true, true, true, false, false, false, false, false, false, false, false] rfl rfl (any_of HT_.out (by kernel_rfl)) (fun _ _ _ h => h) (Or.inl ⟨by rfl, ?_⟩) ?_ ?_
                       rotate_left
                       ·intro w'
                        go_simp
                        with_reducible rfl
                       rotate_left
                       ·simp only [Act.put, List.setIfInBounds_toArray, List.set_cons_zero, List.set_cons_succ, i64_w, i32_w]
                        rfl
                       refine pure_ (i := 13) (N := some 166) (v := ?_) (a' := ?_) #[true, true, true, true, true, true, true, true, true, true, true, true, true, true, false, false, false, false, false, false, false] rfl rfl (any_of HT_.out (by kernel_rfl)) (fun _ _ _ h => h) (Or.inl ⟨by rfl, ?_⟩) ?_ ?_
                       rotate_left
                       ·intro w'
                        go_simp
                        with_reducible rfl
                       rotate_left
                       ·simp only [Act.put, List.setIfInBounds_toArray, List.set_cons_zero, List.set_cons_succ, i64_w, i32_w]
                        rfl
                       refine pure_ (i := 14) (N := some 167) (v := undef) (a' := ?_) #[true, true, true, true, true, true, true, true, true, true, true, true, true, true, true, false, false, false, false, false, false] rfl rfl (any_of HT_.out (by kernel_rfl)) (fun _ _ _ h => h) (Or.inr ⟨by rfl, rfl⟩) ?_ ?_
                       rotate_left
                       ·simp only [Act.put, List.setIfInBounds_toArray, List.set_cons_zero, List.set_cons_succ, i64_w, i32_w]
                        rfl
                       refine pure_ (i := 15) (N := some 168) (v := undef) (a' := ?_) #[true, true, true, true, true, true, true, true, true, true, true, true, true, true, true, true, false, false, false, false, false] rfl rfl (any_of HT_.out (by kernel_rfl)) (fun _ _ _ h => h) (Or.inr ⟨by rfl, rfl⟩) ?_ ?_
                       rotate_left
                       ·simp only [Act.put, List.setIfInBounds_toArray, List.set_cons_zero, List.set_cons_succ, i64_w, i32_w]
                        rfl
                       refine pure_ (i := 16) (N := some 169) (v := undef) (a' := ?_) #[true, true, true, true, true, true, true, true, true, true, true, true, true, true, true, true, true, false, false, false, false] rfl rfl (any_of HT_.out (by kernel_rfl)) (fun _ _ _ h => h) (Or.inr ⟨by rfl, rfl⟩) ?_ ?_
                       rotate_left
                       ·simp only [Act.put, List.setIfInBounds_toArray, List.set_cons_zero, List.set_cons_succ, i64_w, i32_w]
                        rfl
                       refine pure_ (i := 17) (N := some 170) (v := undef) (a' := ?_) #[true, true, true, true, true, true, true, true, true, true, true, true, true, true, true, true, true, true, false, false, false] rfl rfl (any_of HT_.out (by kernel_rfl)) (fun _ _ _ h => h) (Or.inr ⟨by rfl, rfl⟩) ?_ ?_
                       rotate_left
                       ·simp only [Act.put, List.setIfInBounds_toArray, List.set_cons_zero, List.set_cons_succ, i64_w, i32_w]
                        rfl
                       refine pure_ (i := 18) (N := some 171) (v := undef) (a' := ?_) #[true, true, true, true, true, true, true, true, true, true, true, true, true, true, true, true, true, true, true, false, false] rfl rfl (any_of HT_.out (by kernel_rfl)) (fun _ _ _ h => h) (Or.inr ⟨by rfl, rfl⟩) ?_ ?_
                       rotate_left
                       ·simp only [Act.put, List.setIfInBounds_toArray, List.set_cons_zero, List.set_cons_succ, i64_w, i32_w]
                        rfl
                       refine pure_ (i := 19) (N := some 172) (v := undef) (a' := ?_) #[true, true, true, true, true, true, true, true, true, true, true, true, true, true, true, true, true, true, true, true, false] rfl rfl (any_of HT_.out (by kernel_rfl)) (fun _ _ _ h => h) (Or.inr ⟨by rfl, rfl⟩) ?_ ?_
                       rotate_left
                       ·simp only [Act.put, List.setIfInBounds_toArray, List.set_cons_zero, List.set_cons_succ, i64_w, i32_w]
                        rfl
                       refine pure_ (i := 20) (N := some 173) (v := ?_) (a' := ?_) #[true, true, true, true, true, true, true, true, true, true, true, true, true, true, true, true, true, true, true, true, true] rfl rfl (any_of HT_.out (by kernel_rfl)) (fun _ _ _ h => h) (Or.inl ⟨by rfl, ?_⟩) ?_ ?_
                       rotate_left
                       ·intro w'
                        go_simp
                        with_reducible rfl
                       rotate_left
                       ·simp only [Act.put, List.setIfInBounds_toArray, List.set_cons_zero, List.set_cons_succ, i64_w, i32_w]
                        rfl
                       refine done_ (done_of HT_.out (by kernel_rfl)) ?_
                       try go_wp2
                       go_meet
                       case rel => exact ⟨_, (true), (sx_), H', ⟨by have := HJ6.out; have := HK2.out; have := HJ75.out; have := HK4.out; first | omega | exact Nat.le_refl _⟩, ⟨ro_ HO_9⟩, ⟨ro_ HO_12⟩, ⟨ro_ HO_17⟩, ⟨bx_ BK1131⟩, ⟨is1_ HI1142 NB1142_1131.out⟩, ⟨bl2_ HB (IsS180.ge HI1142.out) GE1131.out⟩⟩
                     ·rw [if_neg c96] at H; have c96b0 : ((rd t1145 x130_4) == (rd t1178 x130_4)) = false := beq_eq_false_iff_ne.mpr c96; have c96b1 : ((rd t1145 x130_4) != (rd t1178 x130_4)) = true := bne_iff_ne.mpr c96; have H' := A_ H; clear H
                      try go_wp2
                      replace HO_9 := A_ (Kd.R_drew HO_9.out); replace HO_12 := A_ (Kd.R_drew HO_12.out); replace HO_17 := A_ (Kd.R_drew HO_17.out); replace BK1131 := A_ (blk_drew BK1131.out); replace HI1142 := A_ (IsS180.drew HI1142.out); replace HB := A_ (below_drew1 HB.out); have p1205 : 0 ≤ (x130_4 : Int) := od_; have q1205 : x130_4 < (t1145.length : Int) := od_; obtain ⟨ad1205, e1205, hx1205_0⟩ := Kd.at_int (Kd.R_reads' HO_9.out).2.2 x130_4 p1205 q1205; cases e1205; replace p1205 := eq_true p1205; replace q1205 := eq_true q1205; obtain ⟨Ao103, co103, eo103⟩ := Kd.R_slice HO_17.out
                      (first | subst eo103 | (injection eo103 with f1_ f2_ f3_; have f4_ := f1_.symm; have f5_ := f3_.symm; clear f1_ f2_ f3_; subst f4_; subst f5_))
                      have p1206 : 0 ≤ (x130_4 : Int) := od_; have q1206 : x130_4 < (t1178.length : Int) := od_; obtain ⟨ad1206, e1206, hx1206_0⟩ := Kd.at_int (Kd.R_reads' HO_17.out).2.2 x130_4 p1206 q1206; cases e1206; replace p1206 := eq_true p1206; replace q1206 := eq_true q1206; refine start_ (n := 21) (S := fun w' => w'.cell? (ad1205.add (x130_4).toNat) = some (.int .i64 (rd t1145 x130_4)) ∧ w'.cell? (ad1206.add (x130_4).toNat) = some (.int .i64 (rd t1178 x130_4))) (ds := []) #[false, false, false, false, false, false, false, false, false, false, false, false, false, false, false, false, false, false, false, false, false] (by kernel_rfl) rfl rfl ⟨hx1205_0, hx1206_0⟩ (fun hHeld => ?_); refine with_tabW stipendlaw13_TaxYear.tab33 stipendlaw13_TaxYear.bits33 (fun HT_ HW_ => ?_)
                      generalize w93.drew = w102 at HO_9 HO_12 HO_17 BK1131 HI1142 HB hx1205_0 hx1206_0 hHeld ⊢; refine pure_ (i := 0) (N := some 153) (v := ?_) (a' := ?_) #[true, false, false, false, false, false, false, false, false, false, false, false, false, false, false, false, false, false, false, false, false] rfl rfl (any_of HT_.out (by kernel_rfl)) (fun _ _ _ h => h) (Or.inl ⟨by rfl, ?_⟩) ?_ ?_
                      rotate_left
                      ·intro w'
                       go_simp
                       with_reducible rfl
                      rotate_left
                      ·simp only [Act.put, List.setIfInBounds_toArray, List.set_cons_zero, List.set_cons_succ, i64_w, i32_w]
                       rfl
                      refine pure_ (i := 1) (N := some 154) (v := ?_) (a' := ?_) #[true, true, false, false, false, false, false, false, false, false, false, false, false, false, false, false, false, false, false, false, false] rfl rfl (any_of HT_.out (by kernel_rfl)) (fun _ _ _ h => h) (Or.inl ⟨by rfl, ?_⟩) ?_ ?_
                      rotate_left
                      ·intro w'
                       go_simp
                       with_reducible rfl
                      rotate_left
                      ·simp only [Act.put, List.setIfInBounds_toArray, List.set_cons_zero, List.set_cons_succ, i64_w, i32_w]
                       rfl
                      refine pure_ (i := 2) (N := some 155) (v := ?_) (a' := ?_) #[true, true, true, false, false, false, false, false, false, false, false, false, false, false, false, false, false, false, false, false, false] rfl rfl (any_of HT_.out (by kernel_rfl)) (fun _ _ _ h => h) (Or.inl ⟨by rfl, ?_⟩) ?_ ?_
                      rotate_left
                      ·intro w'
                       go_simp
                       with_reducible rfl
                      rotate_left
                      ·simp only [Act.put, List.setIfInBounds_toArray, List.set_cons_zero, List.set_cons_succ, i64_w, i32_w]
                       rfl
                      refine pure_ (i := 4) (N := some 157) (v := ?_) (a' := ?_) #[true, true, true, false, true, false, false, false, false, false, false, false, false, false, false, false, false, false, false, false, false] rfl rfl (any_of HT_.out (by kernel_rfl)) (fun _ _ _ h => h) (Or.inl ⟨by rfl, ?_⟩) ?_ ?_
                      rotate_left
                      ·intro w'
                       go_simp
                       with_reducible rfl
                      rotate_left
                      ·simp only [Act.put, List.setIfInBounds_toArray, List.set_cons_zero, List.set_cons_succ, i64_w, i32_w]
                       rfl
                      refine pure_ (i := 5) (N := some 158) (v := ?_) (a' := ?_) #[true, true, true, false, true, true, false, false, false, false, false, false, false, false, false, false, false, false, false, false, false] rfl rfl (any_of HT_.out (by kernel_rfl)) (fun _ _ _ h => h) (Or.inl ⟨by rfl, ?_⟩) ?_ ?_
                      rotate_left
                      ·intro w'
                       go_simp
                       with_reducible rfl
                      rotate_left
                      ·simp only [Act.put, List.setIfInBounds_toArray, List.set_cons_zero, List.set_cons_succ, i64_w, i32_w]
                       rfl
                      refine pure_ (i := 6) (N := some 159) (v := ?_) (a' := ?_) #[true, true, true, false, true, true, true, false, false, false, false, false, false, false, false, false, false, false, false, false, false] rfl rfl (any_of HT_.out (by kernel_rfl)) (fun _ _ _ h => h) (Or.inl ⟨by rfl, ?_⟩) ?_ ?_
                      rotate_left
                      ·intro w'
                       go_simp
                       with_reducible rfl
                      rotate_left
                      ·simp only [Act.put, List.setIfInBounds_toArray, List.set_cons_zero, List.set_cons_succ, i64_w, i32_w]
                       rfl
                      refine take_ (i := 3) (N := some 156) (v := ?_) (a' := ?_) #[true, true, true, true, true, true, true, false, false, false, false, false, false, false, false, false, false, false, false, false, false] rfl rfl (take_ofW HT_.out HW_.out (by kernel_rfl)) (fun _ _ _ h => h) (Or.inl ⟨by rfl, ?_⟩) hHeld ?_ ?_
                      rotate_left
                      ·rintro w' ⟨s0, s1⟩
                       go_simp
                       with_reducible rfl
                      rotate_left
                      ·simp only [Act.put, List.setIfInBounds_toArray, List.set_cons_zero, List.set_cons_succ, i64_w, i32_w]
                       rfl
                      refine take_ (i := 7) (N := some 160) (v := ?_) (a' := ?_) #[true, true, true, true, true, true, true, true, false, false, false, false, false, false, false, false, false, false, false, false, false] rfl rfl (take_ofW HT_.out HW_.out (by kernel_rfl)) (fun _ _ _ h => h) (Or.inl ⟨by rfl, ?_⟩) hHeld ?_ ?_
                      rotate_left
                      ·rintro w' ⟨s0, s1⟩
                       go_simp
                       with_reducible rfl
                      rotate_left
                      ·simp only [Act.put, List.setIfInBounds_toArray, List.set_cons_zero, List.set_cons_succ, i64_w, i32_w]
                       rfl
                      refine pure_ (i := 8) (N := some 161) (v := ?_) (a' := ?_) #[true, true, true, true, true, true, true, true, true, false, false, false, false, false, false, false, false, false, false, false, false] rfl rfl (any_of HT_.out (by kernel_rfl)) (fun _ _ _ h => h) (Or.inl ⟨by rfl, ?_⟩) ?_ ?_
                      rotate_left
                      ·intro w'
                       go_simp
                       with_reducible rfl
                      rotate_left
                      ·simp only [Act.put, List.setIfInBounds_toArray, List.set_cons_zero, List.set_cons_succ, i64_w, i32_w]
                       rfl
                      refine pure_ (i := 9) (N := some 162) (v := ?_) (a' := ?_) #[true, true, true, true, true, true, true, true, true, true, false, false, false, false, false, false, false, false, false, false, false] rfl rfl (any_of HT_.out (by kernel_rfl)) (fun _ _ _ h => h) (Or.inl ⟨by rfl, ?_⟩) ?_ ?_
                      rotate_left
                      ·intro w'
                       go_simp
                       with_reducible rfl
                      rotate_left
                      ·simp only [Act.put, List.setIfInBounds_toArray, List.set_cons_zero, List.set_cons_succ, i64_w, i32_w]
                       rfl
                      refine pure_ (i := 10) (N := some 163) (v := undef) (a' := ?_) #[true, true, true, true, true, true, true, true, true, true, true, false, false, false, false, false, false, false, false, false, false] rfl rfl (any_of HT_.out (by kernel_rfl)) (fun _ _ _ h => h) (Or.inr ⟨by rfl, rfl⟩) ?_ ?_
                      rotate_left
                      ·simp only [Act.put, List.setIfInBounds_toArray, List.set_cons_zero, List.set_cons_succ, i64_w, i32_w]
                       rfl
                      refine pure_ (i := 11) (N := some 164) (v := undef) (a' := ?_) #[true, true, true, true, true, true, true, true, true, true, true, true, false, false, false, false, false, false, false, false, false] rfl rfl (any_of HT_.out (by kernel_rfl)) (fun _ _ _ h => h) (Or.inr ⟨by rfl, rfl⟩) ?_ ?_
                      rotate_left
                      ·simp only [Act.put, List.setIfInBounds_toArray, List.set_cons_zero, List.set_cons_succ, i64_w, i32_w]
                       rfl
                      refine pure_ (i := 12) (N := some 165) (v := ?_) (a' := ?_) #[true, true, true, true, true, true, true, true, true, true, true, true, true, false, false, false, false, false, false, false, false] rfl rfl (any_of HT_.out (by kernel_rfl)) (fun _ _ _ h => h) (Or.inl ⟨by rfl, ?_⟩) ?_ ?_
                      rotate_left
                      ·intro w'
                       go_simp
                       with_reducible rfl
                      rotate_left
                      ·simp only [Act.put, List.setIfInBounds_toArray, List.set_cons_zero, List.set_cons_succ, i64_w, i32_w]
                       rfl
                      refine pure_ (i := 13) (N := some 166) (v := ?_) (a' := ?_) #[true, true, true, true, true, true, true, true, true, true, true, true, true, true, false, false, false, false, false, false, false] rfl rfl (any_of HT_.out (by kernel_rfl)) (fun _ _ _ h => h) (Or.inl ⟨by rfl, ?_⟩) ?_ ?_
                      rotate_left
                      ·intro w'
                       go_simp
                       with_reducible rfl
                      rotate_left
                      ·simp only [Act.put, List.setIfInBounds_toArray, List.set_cons_zero, List.set_cons_succ, i64_w, i32_w]
                       rfl
                      refine pure_ (i := 14) (N := some 167) (v := undef) (a' := ?_) #[true, true, true, true, true, true, true, true, true, true, true, true, true, true, true, false, false, false, false, false, false] rfl rfl (any_of HT_.out (by kernel_rfl)) (fun _ _ _ h => h) (Or.inr ⟨by rfl, rfl⟩) ?_ ?_
                      rotate_left
                      ·simp only [Act.put, List.setIfInBounds_toArray, List.set_cons_zero, List.set_cons_succ, i64_w, i32_w]
                       rfl
                      refine pure_ (i := 15) (N := some 168) (v := undef) (a' := ?_) #[true, true, true, true, true, true, true, true, true, true, true, true, true, true, true, true, false, false, false, false, false] rfl rfl (any_of HT_.out (by kernel_rfl)) (fun _ _ _ h => h) (Or.inr ⟨by rfl, rfl⟩) ?_ ?_
                      rotate_left
                      ·simp only [Act.put, List.setIfInBounds_toArray, List.set_cons_zero, List.set_cons_succ, i64_w, i32_w]
                       rfl
                      refine pure_ (i := 16) (N := some 169) (v := undef) (a' := ?_) #[true, true, true, true, true, true, true, true, true, true, true, true, true, true, true, true, true, false, false, false, false] rfl rfl (any_of HT_.out (by kernel_rfl)) (fun _ _ _ h => h) (Or.inr ⟨by rfl, rfl⟩) ?_ ?_
                      rotate_left
                      ·simp only [Act.put, List.setIfInBounds_toArray, List.set_cons_zero, List.set_cons_succ, i64_w, i32_w]
                       rfl
                      refine pure_ (i := 17) (N := some 170) (v := undef) (a' := ?_) #[true, true, true, true, true, true, true, true, true, true, true, true, true, true, true, true, true, true, false, false, false] rfl rfl (any_of HT_.out (by kernel_rfl)) (fun _ _ _ h => h) (Or.inr ⟨by rfl, rfl⟩) ?_ ?_
                      rotate_left
                      ·simp only [Act.put, List.setIfInBounds_toArray, List.set_cons_zero, List.set_cons_succ, i64_w, i32_w]
                       rfl
                      refine pure_ (i := 18) (N := some 171) (v := undef) (a' := ?_) #[true, true, true, true, true, true, true, true, true, true, true, true, true, true, true, true, true, true, true, false, false] rfl rfl (any_of HT_.out (by kernel_rfl)) (fun _ _ _ h => h) (Or.inr ⟨by rfl, rfl⟩) ?_ ?_
                      rotate_left
                      ·simp only [Act.put, List.setIfInBounds_toArray, List.set_cons_zero, List.set_cons_succ, i64_w, i32_w]
                       rfl
                      refine pure_ (i := 19) (N := some 172) (v := undef) (a' := ?_) #[true, true, true, true, true, true, true, true, true, true, true, true, true, true, true, true, true, true, true, true, false] rfl rfl (any_of HT_.out (by kernel_rfl)) (fun _ _ _ h => h) (Or.inr ⟨by rfl, rfl⟩) ?_ ?_
                      rotate_left
                      ·simp only [Act.put, List.setIfInBounds_toArray, List.set_cons_zero, List.set_cons_succ, i64_w, i32_w]
                       rfl
                      refine pure_ (i := 20) (N := some 173) (v := ?_) (a' := ?_) #[true, true, true, true, true, true, true, true, true, true, true, true, true, true, true, true, true, true, true, true, true] rfl rfl (any_of HT_.out (by kernel_rfl)) (fun _ _ _ h => h) (Or.inl ⟨by rfl, ?_⟩) ?_ ?_
                      rotate_left
                      ·intro w'
                       go_simp
                       with_reducible rfl
                      rotate_left
                      ·simp only [Act.put, List.setIfInBounds_toArray, List.set_cons_zero, List.set_cons_succ, i64_w, i32_w]
                       rfl
                      refine done_ (done_of HT_.out (by kernel_rfl)) ?_
                      try go_wp2
                      go_meet
                      case rel => exact ⟨_, (true), (sx_), H', ⟨by have := HJ6.out; have := HK2.out; have := HJ75.out; have := HK4.out; first | omega | exact Nat.le_refl _⟩, ⟨ro_ HO_9⟩, ⟨ro_ HO_12⟩, ⟨ro_ HO_17⟩, ⟨bx_ BK1131⟩, ⟨is1_ HI1142 NB1142_1131.out⟩, ⟨bl2_ HB (IsS180.ge HI1142.out) GE1131.out⟩⟩
                    ·rw [if_neg c95] at H; exact absurd H (by simp)
                   ·rw [if_neg c94] at H; exact absurd H (by simp)
                  case rest =>
                   clear HC91; try clear p1
                   try clear q1
                   try clear hx1
                   try clear p2
                   try clear c9
                   try clear p12
                   try clear q12
                   try clear hx12
                   try clear c94
                   try clear c95
                   try clear c96
                   try clear c96b0
                   try clear c96b1
                   try clear c97
                   try clear c97b0
                   try clear c97b1
                   try clear hx1205_0
                   try clear hx1206_0
                   try clear hx1207_0
                   try clear p1205
                   try clear p1206
                   try clear p1207
                   try clear q1205
                   try clear q1206
                   try clear q1207
                   obtain ⟨kq, x173_90, rfl, HA, HJ90, HO_9, HO_12, HO_17, BK1131, HI1142, HB⟩ := hcut
                   cases kq with
                   | zero => exact absurd HA.out (by simp [stipendlaw13_TaxYear.j5])
                   | succ kj90 =>
                    have H := HA.out; clear HA; simp only [stipendlaw13_TaxYear.j5] at H; by_cases c104 : x173_90 = true
                    ·subst c104; rw [if_pos rfl] at H; exact absurd H (by simp)
                    ·replace c104 := Bool.eq_false_iff.mpr c104; subst c104; rw [if_neg (show ¬ (false = true) by decide)] at H; have H' := A_ H; clear H
                     go_wp2
                     go_roundg kj90
                     case measure => have := HJ6.out; have := HK2.out; have := HJ75.out; have := HK4.out; have := HJ90.out; omega
                     case rel => exact ⟨((wrap64 (x18_4 + (rd x12_2 x130_4)))), (t1194), (wrap64 (x130_4 + 1)), (t1196), (t1197), (t1198), (t1199), (t1200), (t1201), (t1202), (t1203), (t1204), (sx_), (sx_), (sx_), H', ⟨by have := HJ6.out; have := HK2.out; have := HJ75.out; have := HK4.out; have := HJ90.out; omega⟩, ⟨ro_ HO_9⟩, ⟨ro_ HO_12⟩, ⟨ro_ HO_17⟩, ⟨bx_ BK1131⟩, ⟨is1_ HI1142 NB1142_1131.out⟩, ⟨bl2_ HB (IsS180.ge HI1142.out) GE1131.out⟩⟩
                 ·rw [if_neg c89] at H; exact absurd H (by simp)
                ·rw [if_neg c88] at H; exact absurd H (by simp)
               ·rw [if_neg c87] at H; exact absurd H (by simp)
              ·rw [if_neg c86] at H; have c86b0 := decide_eq_false c86; clear c86; replace H := Option.bind_eq_some_iff.mp H; obtain ⟨⟨t1181, t1182, t1183, t1184, t1185, t1186, t1187, t1188, t1189, t1190, t1191⟩, A1050, H⟩ := H; replace H : (some (t1182 == 1)) = some r := H; have A105 := A_ A1050; clear A1050; obtain rfl := Option.some.inj H; have hnb106 := NB1131_1142.out; have hnc106 := NB1142_1131.out; have hcz107_0 := cz_ BK1131 0; have hcz107_1 := cz_ BK1131 1; have hcz107_2 := cz_ BK1131 2; have hcz107_3 := cz_ BK1131 3; have hcz107_4 := cz_ BK1131 4; have hfz107_0 := fz_ BK1131 0; have hfz107_1 := fz_ BK1131 1; have hfz107_2 := fz_ BK1131 2; have hfz107_3 := fz_ BK1131 3; have hfz107_4 := fz_ BK1131 4; go_wp2_with (first | ((with_reducible refine gate_callee (f := 89) rfl ?_); refine gm_ (some 180) Try.func89 #[.agg #[.slice A0_0 l0_0.length c0_0, .slice A0_1 l0_1.length c0_1, .slice A0_2 l0_2.length c0_2, .int .i64 a0_3, .int .i64 a0_4], .pointer (some ⟨g1142, 0, none⟩), .int .i64 0, .agg #[.int .i64 0, .int .i64 0, .int .i64 0, .int .i64 0, .bool false, .int .i64 0], .int .i64 0, .int .i64 0] ?_; (with_reducible refine (tax_Next.calls k4 _ _ l0_0 _ _ l0_1 _ _ l0_2 a0_3 a0_4 g1142 x1143000_4 x1143001_4 x1143002_4 x1143003_4 x1143004_4 x1143005_4 x1143006_4 x1143007_4 x1143008_4 0 0 0 0 0 false 0 0 0 t1181 t1182 t1183 t1184 t1185 t1186 t1187 t1188 t1189 t1190 t1191 w _ ?side1 ?side2 ?side3 ?side4 ?side5 ?side6 ?side7 ?side8 A105.out).mono ?_); (case side1 => repeat (first | (with_reducible first | exact HI1142.out | apply IsS180.alloc | apply IsS180.drewN | apply IsS180.drew | apply IsS180.set_0 | apply IsS180.set_1 | apply IsS180.set_2 | apply IsS180.set_3 | apply IsS180.set_4 | apply IsS180.set_5 | apply IsS180.set_6 | apply IsS180.set_7 | apply IsS180.set_8 | refine IsS180.far ?_ NB1142_1131.out _) | exact HI1142.out)); (case side2 => repeat (first | (with_reducible first | exact HB.out | apply below_alloc | apply pw_below_drewN | apply below_drew1 | refine below_set ?_ (IsS180.ge HI1142.out) | refine below_set ?_ GE1131.out) | exact HB.out)); (case side3 => exact Kd.C_foot_came (Kd.heap_slice 106 k106_heap) HR0_0.out (bl2_ HB (IsS180.ge HI1142.out) GE1131.out) (IsS180.ge HI1142.out)); (case side4 => exact HC0_0.out); (case side5 => exact Kd.C_foot_came k120_heap HR0_1.out (bl2_ HB (IsS180.ge HI1142.out) GE1131.out) (IsS180.ge HI1142.out)); (case side6 => exact HC0_1.out); (case side7 => exact Kd.C_foot_came k209_heap HR0_2.out (bl2_ HB (IsS180.ge HI1142.out) GE1131.out) (IsS180.ge HI1142.out)); (case side8 => exact HC0_2.out); rintro e w108 ⟨rfl, hi, hb, hk⟩; refine ⟨_, rfl, ?_⟩; replace HO_9 := A_ (Kd.R_mono (Kd.R_keep (IsS180.apart (show IsS180 w _ g1142 x1143000_4 x1143001_4 x1143002_4 x1143003_4 x1143004_4 x1143005_4 x1143006_4 x1143007_4 x1143008_4 from is1_ HI1142 NB1142_1131.out) (ro_ HO_9) (by decide)) hk (fun _ h => h.2)) (fun _ h => h.1)); replace HO_12 := A_ (Kd.R_mono (Kd.R_keep (IsS180.apart (show IsS180 w _ g1142 x1143000_4 x1143001_4 x1143002_4 x1143003_4 x1143004_4 x1143005_4 x1143006_4 x1143007_4 x1143008_4 from is1_ HI1142 NB1142_1131.out) (ro_ HO_12) (by decide)) hk (fun _ h => h.2)) (fun _ h => h.1)); replace HO_17 := A_ (Kd.R_mono (Kd.R_keep (IsS180.apart (show IsS180 w _ g1142 x1143000_4 x1143001_4 x1143002_4 x1143003_4 x1143004_4 x1143005_4 x1143006_4 x1143007_4 x1143008_4 from is1_ HI1142 NB1142_1131.out) (ro_ HO_17) (by decide)) hk (fun _ h => h.2)) (fun _ h => h.1)); replace BK1131 := A_ (KeepBut.blk hk (g' := gb1131) (o := .cells #[.slice A0_0 l0_0.length c0_0, .slice A0_1 l0_1.length c0_1, .slice A0_2 l0_2.length c0_2, .int .i64 a0_3, .int .i64 a0_4] 56 (0, 0)) (bx_ BK1131) NB1131_1142.out (by simp)); replace HB := A_ (hb); replace HI1142 := A_ (hi); (try clear hb); (try clear hb2); (try clear hk); (try clear hi)))
               go_ret
               exact ⟨er_, bl2_ HB (IsS180.ge HI1142.out) GE1131.out⟩
 ·replace c5 := Bool.eq_false_iff.mpr c5; subst c5; rw [if_neg (show ¬ (false = true) by decide)] at H; exact absurd H (by simp)
end Go.Proofs.Ytcapgmoipacioaa.P
