import Derived.Test.YtcapgmoipacioaaPtZf
import Derived.Test.YtcapgmoipacioaaHperiodZf
import Derived.Test.YtcapgmoipacioaaPpfracZf
import Derived.Test.YtcapgmoipacioaaPpstipendlaw13Zf
import Derived.Test.YtcapgmoipacioaaPptaxDueZf
import Derived.Test.YtcapgmoipacioaaPptaxYearZf
import Derived.Test.YtcapgmoipacioaaY1Zf
namespace Go.Proofs.Ytcapgmoipacioaa.P
open Go.RowKit Go.Proofs.YtcapgmoipacioaaW.PrintWords Go.Proofs.YtcapgmoipacioaaW.PrintLast Go.Proofs.YtcapgmoipacioaaW.PrintMore
set_option linter.unusedVariables false
set_option linter.unusedSimpArgs false
mutual
def stipendlaw13_TaxSpreads.j0 : Nat → List Int → Bool → List (List (S106)) → List (S120) → List (S209) → Int → Int → Int → Int → Int → Int → Bool → Int → Int → Int → Int → Int → Int → Int → Int → Int → Option (Bool)
 | 0, _, _, _, _, _, _, _, _, _, _, _, _, _, _, _, _, _, _, _, _, _ => none
 | k + 1, x2, x52, x1213000, x1213001, x1213002, x1213003, x1213004, x1214000, x1214001, x1214002, x1214003, x1214004, x1225000, x1225001, x1225002, x1225003, x1225004, x1225005, x1225006, x1225007, x1225008 => if x52 = true then (some true) else (stipendlaw13_TaxSpreads.l0 k x2 ([] : List (S90)) ([] : List (S90)) 0 x2 (x2.length : Int) 0 x1213000 x1213001 x1213002 x1213003 x1213004 x1214000 x1214001 x1214002 x1214003 x1214004 x1225000 x1225001 x1225002 x1225003 x1225004 x1225005 x1225006 x1225007 x1225008)
def stipendlaw13_TaxSpreads.l0 : Nat → List Int → List (S90) → List (S90) → Int → List Int → Int → Int → List (List (S106)) → List (S120) → List (S209) → Int → Int → Int → Int → Int → Int → Bool → Int → Int → Int → Int → Int → Int → Int → Int → Int → Option (Bool)
 | 0, _, _, _, _, _, _, _, _, _, _, _, _, _, _, _, _, _, _, _, _, _, _, _, _, _, _ => none
 | k + 1, x2, x9, x10, x11, x53, x54, x55, x1213000, x1213001, x1213002, x1213003, x1213004, x1214000, x1214001, x1214002, x1214003, x1214004, x1225000, x1225001, x1225002, x1225003, x1225004, x1225005, x1225006, x1225007, x1225008 => if x55 < x54 then (if 0 ≤ x55 then (if x55 < (x53.length : Int) then (if (rd x53 x55) > 1000000000 then (stipendlaw13_TaxSpreads.j2 k x2 x9 x10 x11 x55 (rd x53 x55) x53 x54 x55 true x1213000 x1213001 x1213002 x1213003 x1213004 x1214000 x1214001 x1214002 x1214003 x1214004 x1225000 x1225001 x1225002 x1225003 x1225004 x1225005 x1225006 x1225007 x1225008) else (stipendlaw13_TaxSpreads.j2 k x2 x9 x10 x11 x55 (rd x53 x55) x53 x54 x55 (decide ((rd x53 x55) < (-1000000000))) x1213000 x1213001 x1213002 x1213003 x1213004 x1214000 x1214001 x1214002 x1214003 x1214004 x1225000 x1225001 x1225002 x1225003 x1225004 x1225005 x1225006 x1225007 x1225008)) else (none)) else (none)) else ((tax_Year.f k x1213000 x1213001 x1213002 x1213003 x1213004 x1225000 x1225001 x1225002 x1225003 x1225004 x1225005 x1225006 x1225007 x1225008 x9).bind fun bt1235 => ((tax_Year.f k x1213000 x1213001 x1213002 x1213003 x1213004 bt1235.2.2.1 bt1235.2.2.2.1 bt1235.2.2.2.2.1 bt1235.2.2.2.2.2.1 bt1235.2.2.2.2.2.2.1 bt1235.2.2.2.2.2.2.2.1 bt1235.2.2.2.2.2.2.2.2.1 bt1235.2.2.2.2.2.2.2.2.2.1 bt1235.2.2.2.2.2.2.2.2.2.2 x10).bind fun bt1248 => (if bt1235.2.1 = 0 then (stipendlaw13_TaxSpreads.j3 k x2 x11 bt1235.1 bt1248.1 (bt1248.2.1 != 0) x1213000 x1213001 x1213002 x1213003 x1213004 x1214000 x1214001 x1214002 x1214003 x1214004) else (stipendlaw13_TaxSpreads.j3 k x2 x11 bt1235.1 bt1248.1 true x1213000 x1213001 x1213002 x1213003 x1213004 x1214000 x1214001 x1214002 x1214003 x1214004))))
def stipendlaw13_TaxSpreads.j2 : Nat → List Int → List (S90) → List (S90) → Int → Int → Int → List Int → Int → Int → Bool → List (List (S106)) → List (S120) → List (S209) → Int → Int → Int → Int → Int → Int → Bool → Int → Int → Int → Int → Int → Int → Int → Int → Int → Option (Bool)
 | 0, _, _, _, _, _, _, _, _, _, _, _, _, _, _, _, _, _, _, _, _, _, _, _, _, _, _, _, _, _ => none
 | k + 1, x2, x9, x10, x11, x12, x13, x53, x54, x55, x65, x1213000, x1213001, x1213002, x1213003, x1213004, x1214000, x1214001, x1214002, x1214003, x1214004, x1225000, x1225001, x1225002, x1225003, x1225004, x1225005, x1225006, x1225007, x1225008 => if x65 = true then (some true) else (if x9.length < 2932031007402 then ((some (x9 ++ [(⟨(⟨x1214000, x1214001, x1214002, x1214003, x1214004⟩ : S88), x13⟩ : S90)] : List (S90))).bind fun y1228 => (if x10.length < 2932031007402 then ((some (x10 ++ [(⟨(⟨x1214000, x1214001, x1214002, x1214003, x1214004⟩ : S88), 0⟩ : S90)] : List (S90))).bind fun y1231 => (if x12 = (wrap64 ((x2.length : Int) - 1)) then (if 0 < (y1231.length : Int) then (stipendlaw13_TaxSpreads.l0 k x2 y1228 (y1231.set (0 : Int).toNat (⟨(⟨(rd_T90 y1231 0).f0.f0, (rd_T90 y1231 0).f0.f1, (rd_T90 y1231 0).f0.f2, (rd_T90 y1231 0).f0.f3, (rd_T90 y1231 0).f0.f4⟩ : S88), wrap64 (x11 + x13)⟩ : S90)) (wrap64 (x11 + x13)) x53 x54 (wrap64 (x55 + 1)) x1213000 x1213001 x1213002 x1213003 x1213004 x1214000 x1214001 x1214002 x1214003 x1214004 x1225000 x1225001 x1225002 x1225003 x1225004 x1225005 x1225006 x1225007 x1225008) else (none)) else (stipendlaw13_TaxSpreads.l0 k x2 y1228 y1231 (wrap64 (x11 + x13)) x53 x54 (wrap64 (x55 + 1)) x1213000 x1213001 x1213002 x1213003 x1213004 x1214000 x1214001 x1214002 x1214003 x1214004 x1225000 x1225001 x1225002 x1225003 x1225004 x1225005 x1225006 x1225007 x1225008))) else (none))) else (none))
def stipendlaw13_TaxSpreads.j3 : Nat → List Int → Int → List Int → List Int → Bool → List (List (S106)) → List (S120) → List (S209) → Int → Int → Int → Int → Int → Int → Bool → Option (Bool)
 | 0, _, _, _, _, _, _, _, _, _, _, _, _, _, _, _ => none
 | k + 1, x2, x11, x14, x16, x109, x1213000, x1213001, x1213002, x1213003, x1213004, x1214000, x1214001, x1214002, x1214003, x1214004 => if x109 = true then (none) else ((tax_Due.f k x1213000 x1213001 x1213002 x1213003 x1213004 x1214000 x1214001 x1214002 x1214003 x1214004 x11 (x2.length : Int) 12).bind fun bt1261 => ((frac_Of.f k bt1261.1).bind fun bt1263 => (if 0 ≤ (wrap64 ((x2.length : Int) - 1)) then (if (wrap64 ((x2.length : Int) - 1)) < (x14.length : Int) then (if (wrap64 ((x2.length : Int) - 1)) < (x16.length : Int) then (if (rd x14 (wrap64 ((x2.length : Int) - 1))) = (rd x16 (wrap64 ((x2.length : Int) - 1))) then (if bt1261.2 = 0 then (if (rd x14 (wrap64 ((x2.length : Int) - 1))) = bt1261.1 then (if bt1263.2 = 0 then ((frac_Right.f bt1263.1).bind fun t1268 => (some t1268)) else (none)) else (none)) else (none)) else (none)) else (none)) else (none)) else (none))))
end
def stipendlaw13_TaxSpreads.f (k : Nat) (l0_0 : List (List (S106))) (l0_1 : List (S120)) (l0_2 : List (S209)) (a0_3 : Int) (a0_4 : Int) (a1_0 : Int) (a1_1 : Int) (a1_2 : Int) (a1_3 : Int) (a1_4 : Bool) (l2 : List Int) : Option (Bool) := (stipendlaw13_dues.f k).bind fun t1214 => (if t1214 = true then ((period_New.f 4 2024 4 6).bind fun bt1215 => ((stipendlaw13_fits.f k l0_0 l0_1 l0_2 a0_3 a0_4 a1_0 a1_1 a1_2 a1_3 a1_4 1 1).bind fun t1226 => (if t1226 = true then (if a1_4 = true then (stipendlaw13_TaxSpreads.j0 k l2 true l0_0 l0_1 l0_2 a0_3 a0_4 a1_0 a1_1 a1_2 a1_3 a1_4 bt1215.1 bt1215.2.1 bt1215.2.2.1 bt1215.2.2.2.1 bt1215.2.2.2.2.1 bt1215.2.2.2.2.2.1 bt1215.2.2.2.2.2.2.1 bt1215.2.2.2.2.2.2.2.1 bt1215.2.2.2.2.2.2.2.2.1) else (if (l2.length : Int) = 0 then (stipendlaw13_TaxSpreads.j0 k l2 true l0_0 l0_1 l0_2 a0_3 a0_4 a1_0 a1_1 a1_2 a1_3 a1_4 bt1215.1 bt1215.2.1 bt1215.2.2.1 bt1215.2.2.2.1 bt1215.2.2.2.2.1 bt1215.2.2.2.2.2.1 bt1215.2.2.2.2.2.2.1 bt1215.2.2.2.2.2.2.2.1 bt1215.2.2.2.2.2.2.2.2.1) else (stipendlaw13_TaxSpreads.j0 k l2 (decide ((l2.length : Int) > 12)) l0_0 l0_1 l0_2 a0_3 a0_4 a1_0 a1_1 a1_2 a1_3 a1_4 bt1215.1 bt1215.2.1 bt1215.2.2.1 bt1215.2.2.2.1 bt1215.2.2.2.2.1 bt1215.2.2.2.2.2.1 bt1215.2.2.2.2.2.2.1 bt1215.2.2.2.2.2.2.2.1 bt1215.2.2.2.2.2.2.2.2.1))) else (stipendlaw13_TaxSpreads.j0 k l2 true l0_0 l0_1 l0_2 a0_3 a0_4 a1_0 a1_1 a1_2 a1_3 a1_4 bt1215.1 bt1215.2.1 bt1215.2.2.1 bt1215.2.2.2.1 bt1215.2.2.2.2.1 bt1215.2.2.2.2.2.1 bt1215.2.2.2.2.2.2.1 bt1215.2.2.2.2.2.2.2.1 bt1215.2.2.2.2.2.2.2.2.1)))) else (none))
def stipendlaw13_TaxSpreads.T26 : Bool × List (List Nat × List Nat) := (true, [([], []), ([], []), ([0, 1], [0, 1]), ([2], [2]), ([], []), ([], []), ([4, 5], [4, 5]), ([6], [6]), ([3, 7], [3, 7]), ([8], [8]), ([9], [9]), ([10, 9], [9, 10]), ([9, 11], [9, 11]), ([12, 9], [12]), ([13], [13]), ([13], [13]), ([14, 15, 13], [13, 14, 15]), ([16, 13], [13, 16]), ([13], [13]), ([17, 18, 13], [13, 17, 18]), ([13, 19], [13, 19]), ([20, 13], [20]), ([21], [21]), ([22, 21], [21, 22]), ([21, 23], [21, 23]), ([24, 21], [24]), ([25], [25]), ([26, 25, 25], [25, 26]), ([25, 27], [25, 27]), ([28, 27, 0, 1, 2, 3, 4, 5, 6, 7, 8, 9, 10, 11, 12, 13, 14, 15, 16, 17, 18, 19, 20, 21, 22, 23, 24, 25, 26, 27, 28], [28])])
def stipendlaw13_TaxSpreads.B26 : List Nat := [0, 0, 3, 7, 0, 0, 48, 112, 255, 511, 1023, 2047, 4095, 8191, 16383, 16383, 65535, 131071, 16383, 524287, 1048575, 2097151, 4194303, 8388607, 16777215, 33554431, 67108863, 134217727, 268435455, 536870911]
theorem stipendlaw13_TaxSpreads.tab26 : rtab .any (opsOf Try.f22 26) = stipendlaw13_TaxSpreads.T26 := by kernel_rfl
theorem stipendlaw13_TaxSpreads.bits26 : waitsOk stipendlaw13_TaxSpreads.T26.2 stipendlaw13_TaxSpreads.B26 = true := by kernel_rfl
set_option maxHeartbeats 8000000 in
set_option maxRecDepth 100000 in
theorem stipendlaw13_TaxSpreads.calls (k : Nat) (A0_0 : Option Addr) (c0_0 : Nat) (l0_0 : List (List (S106))) (A0_1 : Option Addr) (c0_1 : Nat) (l0_1 : List (S120)) (A0_2 : Option Addr) (c0_2 : Nat) (l0_2 : List (S209)) (a0_3 : Int) (a0_4 : Int) (a1_0 : Int) (a1_1 : Int) (a1_2 : Int) (a1_3 : Int) (a1_4 : Bool) (A2 : Option Addr) (c2 : Nat) (l2 : List Int) (r : Bool) (w : World) (hr0_0 : Kd.C (Kd.slice 106 k106) w A0_0 l0_0.length l0_0) (hc0_0 : l0_0.length ≤ c0_0) (hr0_1 : Kd.C k120 w A0_1 l0_1.length l0_1) (hc0_1 : l0_1.length ≤ c0_1) (hr0_2 : Kd.C k209 w A0_2 l0_2.length l0_2) (hc0_2 : l0_2.length ≤ c0_2) (hr2 : Kd.C (Kd.int .i64) w A2 l2.length l2) (hc2 : l2.length ≤ c2) (h : stipendlaw13_TaxSpreads.f k l0_0 l0_1 l0_2 a0_3 a0_4 a1_0 a1_1 a1_2 a1_3 a1_4 l2 = some r) :
  Calls Try.prog 22 #[.agg #[.slice A0_0 l0_0.length c0_0, .slice A0_1 l0_1.length c0_1, .slice A0_2 l0_2.length c0_2, .int .i64 a0_3, .int .i64 a0_4], .agg #[.int .i64 a1_0, .int .i64 a1_1, .int .i64 a1_2, .int .i64 a1_3, .bool a1_4], .slice A2 l2.length c2] w fun e w' => e = .returned (.bool r) ∧ Below w.heap.size w w' := by
 have hu56 := Try.underlying56
 have hu88 := Try.underlying88
 have hu86 := Try.underlying86
 have hu137 := Try.underlying137
 have hu90 := Try.underlying90
 have HR0_0 := A_ hr0_0
 have HC0_0 := A_ hc0_0
 clear hr0_0 hc0_0
 have HR0_1 := A_ hr0_1
 have HC0_1 := A_ hc0_1
 clear hr0_1 hc0_1
 have HR0_2 := A_ hr0_2
 have HC0_2 := A_ hc0_2
 clear hr0_2 hc0_2
 have HR2 := A_ hr2
 have HC2 := A_ hc2
 clear hr2 hc2
 have HB := A_ (Below.refl w.heap.size w)
 have H : ((stipendlaw13_dues.f k).bind fun t1214 => (if t1214 = true then ((period_New.f 4 2024 4 6).bind fun bt1215 => ((stipendlaw13_fits.f k l0_0 l0_1 l0_2 a0_3 a0_4 a1_0 a1_1 a1_2 a1_3 a1_4 1 1).bind fun t1226 => (if t1226 = true then (if a1_4 = true then (stipendlaw13_TaxSpreads.j0 k l2 true l0_0 l0_1 l0_2 a0_3 a0_4 a1_0 a1_1 a1_2 a1_3 a1_4 bt1215.1 bt1215.2.1 bt1215.2.2.1 bt1215.2.2.2.1 bt1215.2.2.2.2.1 bt1215.2.2.2.2.2.1 bt1215.2.2.2.2.2.2.1 bt1215.2.2.2.2.2.2.2.1 bt1215.2.2.2.2.2.2.2.2.1) else (if (l2.length : Int) = 0 then (stipendlaw13_TaxSpreads.j0 k l2 true l0_0 l0_1 l0_2 a0_3 a0_4 a1_0 a1_1 a1_2 a1_3 a1_4 bt1215.1 bt1215.2.1 bt1215.2.2.1 bt1215.2.2.2.1 bt1215.2.2.2.2.1 bt1215.2.2.2.2.2.1 bt1215.2.2.2.2.2.2.1 bt1215.2.2.2.2.2.2.2.1 bt1215.2.2.2.2.2.2.2.2.1) else (stipendlaw13_TaxSpreads.j0 k l2 (decide ((l2.length : Int) > 12)) l0_0 l0_1 l0_2 a0_3 a0_4 a1_0 a1_1 a1_2 a1_3 a1_4 bt1215.1 bt1215.2.1 bt1215.2.2.1 bt1215.2.2.2.1 bt1215.2.2.2.2.1 bt1215.2.2.2.2.2.1 bt1215.2.2.2.2.2.2.1 bt1215.2.2.2.2.2.2.2.1 bt1215.2.2.2.2.2.2.2.2.1))) else (stipendlaw13_TaxSpreads.j0 k l2 true l0_0 l0_1 l0_2 a0_3 a0_4 a1_0 a1_1 a1_2 a1_3 a1_4 bt1215.1 bt1215.2.1 bt1215.2.2.1 bt1215.2.2.2.1 bt1215.2.2.2.2.1 bt1215.2.2.2.2.2.1 bt1215.2.2.2.2.2.2.1 bt1215.2.2.2.2.2.2.2.1 bt1215.2.2.2.2.2.2.2.2.1)))) else (none))) = some r := h
 clear h
 replace H := Option.bind_eq_some_iff.mp H
 obtain ⟨t1214, A40, H⟩ := H
 replace H : (if t1214 = true then ((period_New.f 4 2024 4 6).bind fun bt1215 => ((stipendlaw13_fits.f k l0_0 l0_1 l0_2 a0_3 a0_4 a1_0 a1_1 a1_2 a1_3 a1_4 1 1).bind fun t1226 => (if t1226 = true then (if a1_4 = true then (stipendlaw13_TaxSpreads.j0 k l2 true l0_0 l0_1 l0_2 a0_3 a0_4 a1_0 a1_1 a1_2 a1_3 a1_4 bt1215.1 bt1215.2.1 bt1215.2.2.1 bt1215.2.2.2.1 bt1215.2.2.2.2.1 bt1215.2.2.2.2.2.1 bt1215.2.2.2.2.2.2.1 bt1215.2.2.2.2.2.2.2.1 bt1215.2.2.2.2.2.2.2.2.1) else (if (l2.length : Int) = 0 then (stipendlaw13_TaxSpreads.j0 k l2 true l0_0 l0_1 l0_2 a0_3 a0_4 a1_0 a1_1 a1_2 a1_3 a1_4 bt1215.1 bt1215.2.1 bt1215.2.2.1 bt1215.2.2.2.1 bt1215.2.2.2.2.1 bt1215.2.2.2.2.2.1 bt1215.2.2.2.2.2.2.1 bt1215.2.2.2.2.2.2.2.1 bt1215.2.2.2.2.2.2.2.2.1) else (stipendlaw13_TaxSpreads.j0 k l2 (decide ((l2.length : Int) > 12)) l0_0 l0_1 l0_2 a0_3 a0_4 a1_0 a1_1 a1_2 a1_3 a1_4 bt1215.1 bt1215.2.1 bt1215.2.2.1 bt1215.2.2.2.1 bt1215.2.2.2.2.1 bt1215.2.2.2.2.2.1 bt1215.2.2.2.2.2.2.1 bt1215.2.2.2.2.2.2.2.1 bt1215.2.2.2.2.2.2.2.2.1))) else (stipendlaw13_TaxSpreads.j0 k l2 true l0_0 l0_1 l0_2 a0_3 a0_4 a1_0 a1_1 a1_2 a1_3 a1_4 bt1215.1 bt1215.2.1 bt1215.2.2.1 bt1215.2.2.2.1 bt1215.2.2.2.2.1 bt1215.2.2.2.2.2.1 bt1215.2.2.2.2.2.2.1 bt1215.2.2.2.2.2.2.2.1 bt1215.2.2.2.2.2.2.2.2.1)))) else (none)) = some r := H
 have A4 := A_ A40
 clear A40
 by_cases c5 : t1214 = true
 ·subst c5
  have H1 : ((period_New.f 4 2024 4 6).bind fun bt1215 => ((stipendlaw13_fits.f k l0_0 l0_1 l0_2 a0_3 a0_4 a1_0 a1_1 a1_2 a1_3 a1_4 1 1).bind fun t1226 => (if t1226 = true then (if a1_4 = true then (stipendlaw13_TaxSpreads.j0 k l2 true l0_0 l0_1 l0_2 a0_3 a0_4 a1_0 a1_1 a1_2 a1_3 a1_4 bt1215.1 bt1215.2.1 bt1215.2.2.1 bt1215.2.2.2.1 bt1215.2.2.2.2.1 bt1215.2.2.2.2.2.1 bt1215.2.2.2.2.2.2.1 bt1215.2.2.2.2.2.2.2.1 bt1215.2.2.2.2.2.2.2.2.1) else (if (l2.length : Int) = 0 then (stipendlaw13_TaxSpreads.j0 k l2 true l0_0 l0_1 l0_2 a0_3 a0_4 a1_0 a1_1 a1_2 a1_3 a1_4 bt1215.1 bt1215.2.1 bt1215.2.2.1 bt1215.2.2.2.1 bt1215.2.2.2.2.1 bt1215.2.2.2.2.2.1 bt1215.2.2.2.2.2.2.1 bt1215.2.2.2.2.2.2.2.1 bt1215.2.2.2.2.2.2.2.2.1) else (stipendlaw13_TaxSpreads.j0 k l2 (decide ((l2.length : Int) > 12)) l0_0 l0_1 l0_2 a0_3 a0_4 a1_0 a1_1 a1_2 a1_3 a1_4 bt1215.1 bt1215.2.1 bt1215.2.2.1 bt1215.2.2.2.1 bt1215.2.2.2.2.1 bt1215.2.2.2.2.2.1 bt1215.2.2.2.2.2.2.1 bt1215.2.2.2.2.2.2.2.1 bt1215.2.2.2.2.2.2.2.2.1))) else (stipendlaw13_TaxSpreads.j0 k l2 true l0_0 l0_1 l0_2 a0_3 a0_4 a1_0 a1_1 a1_2 a1_3 a1_4 bt1215.1 bt1215.2.1 bt1215.2.2.1 bt1215.2.2.2.1 bt1215.2.2.2.2.1 bt1215.2.2.2.2.2.1 bt1215.2.2.2.2.2.2.1 bt1215.2.2.2.2.2.2.2.1 bt1215.2.2.2.2.2.2.2.2.1)))) = some r := by rw [if_pos rfl] at H; exact H
  clear H
  have H := H1
  clear H1
  replace H := Option.bind_eq_some_iff.mp H
  obtain ⟨⟨t1215, t1216, t1217, t1218, t1219, t1220, t1221, t1222, t1223, t1225⟩, A60, H⟩ := H
  replace H : ((stipendlaw13_fits.f k l0_0 l0_1 l0_2 a0_3 a0_4 a1_0 a1_1 a1_2 a1_3 a1_4 1 1).bind fun t1226 => (if t1226 = true then (if a1_4 = true then (stipendlaw13_TaxSpreads.j0 k l2 true l0_0 l0_1 l0_2 a0_3 a0_4 a1_0 a1_1 a1_2 a1_3 a1_4 t1215 t1216 t1217 t1218 t1219 t1220 t1221 t1222 t1223) else (if (l2.length : Int) = 0 then (stipendlaw13_TaxSpreads.j0 k l2 true l0_0 l0_1 l0_2 a0_3 a0_4 a1_0 a1_1 a1_2 a1_3 a1_4 t1215 t1216 t1217 t1218 t1219 t1220 t1221 t1222 t1223) else (stipendlaw13_TaxSpreads.j0 k l2 (decide ((l2.length : Int) > 12)) l0_0 l0_1 l0_2 a0_3 a0_4 a1_0 a1_1 a1_2 a1_3 a1_4 t1215 t1216 t1217 t1218 t1219 t1220 t1221 t1222 t1223))) else (stipendlaw13_TaxSpreads.j0 k l2 true l0_0 l0_1 l0_2 a0_3 a0_4 a1_0 a1_1 a1_2 a1_3 a1_4 t1215 t1216 t1217 t1218 t1219 t1220 t1221 t1222 t1223))) = some r := H
  have A6 := A_ A60
  clear A60
  have HC7 := A_ H
  clear H
  go_enter Try.func22, Try.ntmps22
  go_upto_region 4 with (first | ((with_reducible refine gate_dst (N := 3) rfl ?_); refine be_ (N := 3) (cs := #[.slice A0_0 l0_0.length c0_0, .slice A0_1 l0_1.length c0_1, .slice A0_2 l0_2.length c0_2, .int .i64 a0_3, .int .i64 a0_4]) (t := 56) ?_; intro gb1212 hg w8 hbox hb; have BK1212 := A_ (hbox); have GW1212 := A_ ((by rw [hg]; exact (below_size (bl_ HB)) : w.heap.size ≤ gb1212)); have GE1212 := A_ ((by rw [hg]; exact (below_size (bl_ HB)) : w.heap.size ≤ gb1212)); replace HB := A_ (below_step (bl_ HB) hb); clear hb hbox hg) | ((with_reducible refine gate_dst (N := 4) rfl ?_); refine be_ (N := 4) (cs := #[.int .i64 a1_0, .int .i64 a1_1, .int .i64 a1_2, .int .i64 a1_3, .bool a1_4]) (t := 88) ?_; intro gb1213 hg w9 hbox hb; have BK1213 := A_ (hbox); have GW1213 := A_ ((by rw [hg]; exact (below_size (bl1_ HB GE1212.out)) : w.heap.size ≤ gb1213)); have GE1213 := A_ ((by rw [hg]; exact (below_size (bl1_ HB GE1212.out)) : w.heap.size ≤ gb1213)); have NB1212_1213 := A_ ((by rw [hg]; exact Nat.ne_of_lt (blk_lt (bx_ BK1212)) : gb1212 ≠ gb1213)); have NB1213_1212 := A_ ((by rw [hg]; exact Nat.ne_of_gt (blk_lt (bx_ BK1212)) : gb1213 ≠ gb1212)); replace BK1212 := A_ (blk_below (bx_ BK1212) hb); replace HB := A_ (below_step (bl1_ HB GE1212.out) hb); clear hb hbox hg) | ((with_reducible refine gate_callee (f := 77) rfl ?_); refine gm_ (some 23) Try.func77 #[] ?_; (with_reducible refine (stipendlaw13_dues.calls k  true _ A4.out).mono ?_); rintro e w10 ⟨rfl, hb⟩; refine ⟨_, rfl, ?_⟩; replace BK1212 := A_ (blk_below (bx_ BK1212) hb); replace BK1213 := A_ (blk_below (bx_ BK1213) hb); replace HB := A_ (below_step (bl2_ HB GE1212.out GE1213.out) hb); (try clear hb); (try clear hb2); (try clear hk); (try clear hi)) | ((with_reducible refine gate_callee (f := 52) rfl ?_); refine gm_ (some 27) Try.func52 #[.int .i64 4, .agg #[.int .i64 2024, .int .i64 4, .int .i64 6]] ?_; (with_reducible refine (period_New.calls 4 2024 4 6 t1215 t1216 t1217 t1218 t1219 t1220 t1221 t1222 t1223 t1225 w _ ?side1 A6.out).mono ?_); (case side1 => repeat (first | (with_reducible first | exact HB.out | apply below_alloc | apply pw_below_drewN | apply below_drew1 | refine below_set ?_ GE1212.out | refine below_set ?_ GE1213.out) | exact HB.out)); rintro e w11 ⟨g1224, rfl, hi, hb, hb2⟩; refine ⟨_, rfl, ?_⟩; have HI1224 := A_ (hi); have NB1224_1212 := A_ (IsS180.ne_blk hi (blk_below (bx_ BK1212) hb2) (by decide)); have NB1212_1224 := A_ (Ne.symm (IsS180.ne_blk hi (blk_below (bx_ BK1212) hb2) (by decide))); have NB1224_1213 := A_ (IsS180.ne_blk hi (blk_below (bx_ BK1213) hb2) (by decide)); have NB1213_1224 := A_ (Ne.symm (IsS180.ne_blk hi (blk_below (bx_ BK1213) hb2) (by decide))); replace BK1212 := A_ (blk_below (bx_ BK1212) hb2); replace BK1213 := A_ (blk_below (bx_ BK1213) hb2); replace HB := A_ (hb); (try clear hb); (try clear hb2); (try clear hk); (try clear hi)))
  (try simp only [Act.put, List.setIfInBounds_toArray, List.set_cons_zero, List.set_cons_succ])
  go_cut [52] (fun v52 wc => ∃ (kq : Nat) (x52_6 : Bool), v52 = .bool x52_6 ∧ Aside0 (stipendlaw13_TaxSpreads.j0 kq l2 x52_6 l0_0 l0_1 l0_2 a0_3 a0_4 a1_0 a1_1 a1_2 a1_3 a1_4 t1215 t1216 t1217 t1218 t1219 t1220 t1221 t1222 t1223 = some r) ∧ Aside0 (kq ≤ k) ∧ Aside0 (wc.heap[gb1212]? = some (.cells #[(.slice A0_0 l0_0.length c0_0), (.slice A0_1 l0_1.length c0_1), (.slice A0_2 l0_2.length c0_2), .int .i64 a0_3, .int .i64 a0_4] 56 (0, 0))) ∧ Aside0 (wc.heap[gb1213]? = some (.cells #[.int .i64 a1_0, .int .i64 a1_1, .int .i64 a1_2, .int .i64 a1_3, .bool a1_4] 88 (0, 0))) ∧ Aside0 (IsS180 w wc g1224 t1215 t1216 t1217 t1218 t1219 t1220 t1221 t1222 t1223) ∧ Aside0 (Below w.heap.size w wc))
  case first =>
   have H := HC7.out
   clear HC7
   replace H := Option.bind_eq_some_iff.mp H
   obtain ⟨t1226, A120, H⟩ := H
   replace H : (if t1226 = true then (if a1_4 = true then (stipendlaw13_TaxSpreads.j0 k l2 true l0_0 l0_1 l0_2 a0_3 a0_4 a1_0 a1_1 a1_2 a1_3 a1_4 t1215 t1216 t1217 t1218 t1219 t1220 t1221 t1222 t1223) else (if (l2.length : Int) = 0 then (stipendlaw13_TaxSpreads.j0 k l2 true l0_0 l0_1 l0_2 a0_3 a0_4 a1_0 a1_1 a1_2 a1_3 a1_4 t1215 t1216 t1217 t1218 t1219 t1220 t1221 t1222 t1223) else (stipendlaw13_TaxSpreads.j0 k l2 (decide ((l2.length : Int) > 12)) l0_0 l0_1 l0_2 a0_3 a0_4 a1_0 a1_1 a1_2 a1_3 a1_4 t1215 t1216 t1217 t1218 t1219 t1220 t1221 t1222 t1223))) else (stipendlaw13_TaxSpreads.j0 k l2 true l0_0 l0_1 l0_2 a0_3 a0_4 a1_0 a1_1 a1_2 a1_3 a1_4 t1215 t1216 t1217 t1218 t1219 t1220 t1221 t1222 t1223)) = some r := H
   have A12 := A_ A120
   clear A120
   by_cases c13 : t1226 = true
   ·subst c13
    have H1 : (if a1_4 = true then (stipendlaw13_TaxSpreads.j0 k l2 true l0_0 l0_1 l0_2 a0_3 a0_4 a1_0 a1_1 a1_2 a1_3 a1_4 t1215 t1216 t1217 t1218 t1219 t1220 t1221 t1222 t1223) else (if (l2.length : Int) = 0 then (stipendlaw13_TaxSpreads.j0 k l2 true l0_0 l0_1 l0_2 a0_3 a0_4 a1_0 a1_1 a1_2 a1_3 a1_4 t1215 t1216 t1217 t1218 t1219 t1220 t1221 t1222 t1223) else (stipendlaw13_TaxSpreads.j0 k l2 (decide ((l2.length : Int) > 12)) l0_0 l0_1 l0_2 a0_3 a0_4 a1_0 a1_1 a1_2 a1_3 a1_4 t1215 t1216 t1217 t1218 t1219 t1220 t1221 t1222 t1223))) = some r := by rw [if_pos rfl] at H; exact H
    clear H
    have H := H1
    clear H1
    by_cases c14 : a1_4 = true
    ·subst c14
     have H1 : (stipendlaw13_TaxSpreads.j0 k l2 true l0_0 l0_1 l0_2 a0_3 a0_4 a1_0 a1_1 a1_2 a1_3 true t1215 t1216 t1217 t1218 t1219 t1220 t1221 t1222 t1223) = some r := by rw [if_pos rfl] at H; exact H
     clear H
     have H := H1
     clear H1
     have H' := A_ H
     clear H
     have hnb15 := NB1212_1213.out
     have hnc15 := NB1213_1212.out
     have hnb16 := NB1212_1224.out
     have hnc16 := NB1224_1212.out
     have hcz17_0 := cz_ BK1212 0
     have hcz17_1 := cz_ BK1212 1
     have hcz17_2 := cz_ BK1212 2
     have hcz17_3 := cz_ BK1212 3
     have hcz17_4 := cz_ BK1212 4
     have hfz17_0 := blk_frozen BK1212.out 0
     have hfz17_1 := blk_frozen BK1212.out 1
     have hfz17_2 := blk_frozen BK1212.out 2
     have hfz17_3 := blk_frozen BK1212.out 3
     have hfz17_4 := blk_frozen BK1212.out 4
     have hnb18 := NB1213_1224.out
     have hnc18 := NB1224_1213.out
     have hcz19_0 := cz_ BK1213 0
     have hcz19_1 := cz_ BK1213 1
     have hcz19_2 := cz_ BK1213 2
     have hcz19_3 := cz_ BK1213 3
     have hcz19_4 := cz_ BK1213 4
     have hfz19_0 := blk_frozen BK1213.out 0
     have hfz19_1 := blk_frozen BK1213.out 1
     have hfz19_2 := blk_frozen BK1213.out 2
     have hfz19_3 := blk_frozen BK1213.out 3
     have hfz19_4 := blk_frozen BK1213.out 4
     go_wp2_with (first | (go_at_call 78; (with_reducible refine (stipendlaw13_fits.calls k _ _ l0_0 _ _ l0_1 _ _ l0_2 a0_3 a0_4 a1_0 a1_1 a1_2 a1_3 true 1 1 true _ ?side1 ?side2 ?side3 ?side4 ?side5 ?side6 A12.out).mono ?_); (case side1 => exact cb_ HR0_0 HB); (case side2 => exact HC0_0.out); (case side3 => exact cb_ HR0_1 HB); (case side4 => exact HC0_1.out); (case side5 => exact cb_ HR0_2 HB); (case side6 => exact HC0_2.out); rintro e w20 ⟨rfl, hb⟩; replace BK1212 := A_ (blk_below (bx_ BK1212) hb); replace BK1213 := A_ (blk_below (bx_ BK1213) hb); replace HB := A_ (below_step (bl3_ HB (IsS180.ge HI1224.out) GE1212.out GE1213.out) hb); replace HI1224 := A_ (IsS180.below (is2_ HI1224 NB1224_1212.out NB1224_1213.out) hb); (try clear hb); (try clear hb2); (try clear hk); (try clear hi); have hcz21_0 := cz_ BK1213 0; have hcz21_1 := cz_ BK1213 1; have hcz21_2 := cz_ BK1213 2; have hcz21_3 := cz_ BK1213 3; have hcz21_4 := cz_ BK1213 4; have hfz21_0 := blk_frozen BK1213.out 0; have hfz21_1 := blk_frozen BK1213.out 1; have hfz21_2 := blk_frozen BK1213.out 2; have hfz21_3 := blk_frozen BK1213.out 3; have hfz21_4 := blk_frozen BK1213.out 4))
     go_meet
     case rel => exact ⟨_, (true), (sx_), H', ⟨by first | omega | exact Nat.le_refl _⟩, ⟨bx_ BK1212⟩, ⟨bx_ BK1213⟩, ⟨is2_ HI1224 NB1224_1212.out NB1224_1213.out⟩, ⟨bl3_ HB (IsS180.ge HI1224.out) GE1212.out GE1213.out⟩⟩
    ·replace c14 := Bool.eq_false_iff.mpr c14
     subst c14
     have H1 : (if (l2.length : Int) = 0 then (stipendlaw13_TaxSpreads.j0 k l2 true l0_0 l0_1 l0_2 a0_3 a0_4 a1_0 a1_1 a1_2 a1_3 false t1215 t1216 t1217 t1218 t1219 t1220 t1221 t1222 t1223) else (stipendlaw13_TaxSpreads.j0 k l2 (decide ((l2.length : Int) > 12)) l0_0 l0_1 l0_2 a0_3 a0_4 a1_0 a1_1 a1_2 a1_3 false t1215 t1216 t1217 t1218 t1219 t1220 t1221 t1222 t1223)) = some r := by rw [if_neg (show ¬ (false = true) by decide)] at H; exact H
     clear H
     have H := H1
     clear H1
     by_cases c22 : (l2.length : Int) = 0
     ·rw [if_pos c22] at H
      have c22b0 : ((l2.length : Int) == 0) = true := beq_iff_eq.mpr c22
      have c22b1 : ((l2.length : Int) != 0) = false := bne_eq_false_iff_eq.mpr c22
      clear c22
      (first | rw [c22b0] | (simp only [i64_w, i32_w]; rw [c22b0]) | skip)
      have H' := A_ H
      clear H
      have hnb23 := NB1212_1213.out
      have hnc23 := NB1213_1212.out
      have hnb24 := NB1212_1224.out
      have hnc24 := NB1224_1212.out
      have hcz25_0 := cz_ BK1212 0
      have hcz25_1 := cz_ BK1212 1
      have hcz25_2 := cz_ BK1212 2
      have hcz25_3 := cz_ BK1212 3
      have hcz25_4 := cz_ BK1212 4
      have hfz25_0 := blk_frozen BK1212.out 0
      have hfz25_1 := blk_frozen BK1212.out 1
      have hfz25_2 := blk_frozen BK1212.out 2
      have hfz25_3 := blk_frozen BK1212.out 3
      have hfz25_4 := blk_frozen BK1212.out 4
      have hnb26 := NB1213_1224.out
      have hnc26 := NB1224_1213.out
      have hcz27_0 := cz_ BK1213 0
      have hcz27_1 := cz_ BK1213 1
      have hcz27_2 := cz_ BK1213 2
      have hcz27_3 := cz_ BK1213 3
      have hcz27_4 := cz_ BK1213 4
      have hfz27_0 := blk_frozen BK1213.out 0
      have hfz27_1 := blk_frozen BK1213.out 1
      have hfz27_2 := blk_frozen BK1213.out 2
      have hfz27_3 := blk_frozen BK1213.out 3
      have hfz27_4 := blk_frozen BK1213.out 4
      go_wp2_with (first | (go_at_call 78; (with_reducible refine (stipendlaw13_fits.calls k _ _ l0_0 _ _ l0_1 _ _ l0_2 a0_3 a0_4 a1_0 a1_1 a1_2 a1_3 false 1 1 true _ ?side1 ?side2 ?side3 ?side4 ?side5 ?side6 A12.out).mono ?_); (case side1 => exact cb_ HR0_0 HB); (case side2 => exact HC0_0.out); (case side3 => exact cb_ HR0_1 HB); (case side4 => exact HC0_1.out); (case side5 => exact cb_ HR0_2 HB); (case side6 => exact HC0_2.out); rintro e w28 ⟨rfl, hb⟩; replace BK1212 := A_ (blk_below (bx_ BK1212) hb); replace BK1213 := A_ (blk_below (bx_ BK1213) hb); replace HB := A_ (below_step (bl3_ HB (IsS180.ge HI1224.out) GE1212.out GE1213.out) hb); replace HI1224 := A_ (IsS180.below (is2_ HI1224 NB1224_1212.out NB1224_1213.out) hb); (try clear hb); (try clear hb2); (try clear hk); (try clear hi); have hcz29_0 := cz_ BK1213 0; have hcz29_1 := cz_ BK1213 1; have hcz29_2 := cz_ BK1213 2; have hcz29_3 := cz_ BK1213 3; have hcz29_4 := cz_ BK1213 4; have hfz29_0 := blk_frozen BK1213.out 0; have hfz29_1 := blk_frozen BK1213.out 1; have hfz29_2 := blk_frozen BK1213.out 2; have hfz29_3 := blk_frozen BK1213.out 3; have hfz29_4 := blk_frozen BK1213.out 4))
      go_meet
      case rel => exact ⟨_, (true), (sx_), H', ⟨by first | omega | exact Nat.le_refl _⟩, ⟨bx_ BK1212⟩, ⟨bx_ BK1213⟩, ⟨is2_ HI1224 NB1224_1212.out NB1224_1213.out⟩, ⟨bl3_ HB (IsS180.ge HI1224.out) GE1212.out GE1213.out⟩⟩
     ·rw [if_neg c22] at H
      have c22b0 : ((l2.length : Int) == 0) = false := beq_eq_false_iff_ne.mpr c22
      have c22b1 : ((l2.length : Int) != 0) = true := bne_iff_ne.mpr c22
      have c22b2 : ¬ (l2 = []) := fun h_ => c22 (by rw [h_]; rfl)
      (first | rw [c22b0] | (simp only [i64_w, i32_w]; rw [c22b0]) | skip)
      have H' := A_ H
      clear H
      have hnb30 := NB1212_1213.out
      have hnc30 := NB1213_1212.out
      have hnb31 := NB1212_1224.out
      have hnc31 := NB1224_1212.out
      have hcz32_0 := cz_ BK1212 0
      have hcz32_1 := cz_ BK1212 1
      have hcz32_2 := cz_ BK1212 2
      have hcz32_3 := cz_ BK1212 3
      have hcz32_4 := cz_ BK1212 4
      have hfz32_0 := blk_frozen BK1212.out 0
      have hfz32_1 := blk_frozen BK1212.out 1
      have hfz32_2 := blk_frozen BK1212.out 2
      have hfz32_3 := blk_frozen BK1212.out 3
      have hfz32_4 := blk_frozen BK1212.out 4
      have hnb33 := NB1213_1224.out
      have hnc33 := NB1224_1213.out
      have hcz34_0 := cz_ BK1213 0
      have hcz34_1 := cz_ BK1213 1
      have hcz34_2 := cz_ BK1213 2
      have hcz34_3 := cz_ BK1213 3
      have hcz34_4 := cz_ BK1213 4
      have hfz34_0 := blk_frozen BK1213.out 0
      have hfz34_1 := blk_frozen BK1213.out 1
      have hfz34_2 := blk_frozen BK1213.out 2
      have hfz34_3 := blk_frozen BK1213.out 3
      have hfz34_4 := blk_frozen BK1213.out 4
      go_wp2_with (first | (go_at_call 78; (with_reducible refine (stipendlaw13_fits.calls k _ _ l0_0 _ _ l0_1 _ _ l0_2 a0_3 a0_4 a1_0 a1_1 a1_2 a1_3 false 1 1 true _ ?side1 ?side2 ?side3 ?side4 ?side5 ?side6 A12.out).mono ?_); (case side1 => exact cb_ HR0_0 HB); (case side2 => exact HC0_0.out); (case side3 => exact cb_ HR0_1 HB); (case side4 => exact HC0_1.out); (case side5 => exact cb_ HR0_2 HB); (case side6 => exact HC0_2.out); rintro e w35 ⟨rfl, hb⟩; replace BK1212 := A_ (blk_below (bx_ BK1212) hb); replace BK1213 := A_ (blk_below (bx_ BK1213) hb); replace HB := A_ (below_step (bl3_ HB (IsS180.ge HI1224.out) GE1212.out GE1213.out) hb); replace HI1224 := A_ (IsS180.below (is2_ HI1224 NB1224_1212.out NB1224_1213.out) hb); (try clear hb); (try clear hb2); (try clear hk); (try clear hi); have hcz36_0 := cz_ BK1213 0; have hcz36_1 := cz_ BK1213 1; have hcz36_2 := cz_ BK1213 2; have hcz36_3 := cz_ BK1213 3; have hcz36_4 := cz_ BK1213 4; have hfz36_0 := blk_frozen BK1213.out 0; have hfz36_1 := blk_frozen BK1213.out 1; have hfz36_2 := blk_frozen BK1213.out 2; have hfz36_3 := blk_frozen BK1213.out 3; have hfz36_4 := blk_frozen BK1213.out 4))
      go_meet
      case rel => exact ⟨_, (decide ((l2.length : Int) > 12)), (sx_), H', ⟨by first | omega | exact Nat.le_refl _⟩, ⟨bx_ BK1212⟩, ⟨bx_ BK1213⟩, ⟨is2_ HI1224 NB1224_1212.out NB1224_1213.out⟩, ⟨bl3_ HB (IsS180.ge HI1224.out) GE1212.out GE1213.out⟩⟩
   ·replace c13 := Bool.eq_false_iff.mpr c13
    subst c13
    have H1 : (stipendlaw13_TaxSpreads.j0 k l2 true l0_0 l0_1 l0_2 a0_3 a0_4 a1_0 a1_1 a1_2 a1_3 a1_4 t1215 t1216 t1217 t1218 t1219 t1220 t1221 t1222 t1223) = some r := by rw [if_neg (show ¬ (false = true) by decide)] at H; exact H
    clear H
    have H := H1
    clear H1
    have H' := A_ H
    clear H
    have hnb37 := NB1212_1213.out
    have hnc37 := NB1213_1212.out
    have hnb38 := NB1212_1224.out
    have hnc38 := NB1224_1212.out
    have hcz39_0 := cz_ BK1212 0
    have hcz39_1 := cz_ BK1212 1
    have hcz39_2 := cz_ BK1212 2
    have hcz39_3 := cz_ BK1212 3
    have hcz39_4 := cz_ BK1212 4
    have hfz39_0 := blk_frozen BK1212.out 0
    have hfz39_1 := blk_frozen BK1212.out 1
    have hfz39_2 := blk_frozen BK1212.out 2
    have hfz39_3 := blk_frozen BK1212.out 3
    have hfz39_4 := blk_frozen BK1212.out 4
    have hnb40 := NB1213_1224.out
    have hnc40 := NB1224_1213.out
    have hcz41_0 := cz_ BK1213 0
    have hcz41_1 := cz_ BK1213 1
    have hcz41_2 := cz_ BK1213 2
    have hcz41_3 := cz_ BK1213 3
    have hcz41_4 := cz_ BK1213 4
    have hfz41_0 := blk_frozen BK1213.out 0
    have hfz41_1 := blk_frozen BK1213.out 1
    have hfz41_2 := blk_frozen BK1213.out 2
    have hfz41_3 := blk_frozen BK1213.out 3
    have hfz41_4 := blk_frozen BK1213.out 4
    go_wp2_with (first | (go_at_call 78; (with_reducible refine (stipendlaw13_fits.calls k _ _ l0_0 _ _ l0_1 _ _ l0_2 a0_3 a0_4 a1_0 a1_1 a1_2 a1_3 a1_4 1 1 false _ ?side1 ?side2 ?side3 ?side4 ?side5 ?side6 A12.out).mono ?_); (case side1 => exact cb_ HR0_0 HB); (case side2 => exact HC0_0.out); (case side3 => exact cb_ HR0_1 HB); (case side4 => exact HC0_1.out); (case side5 => exact cb_ HR0_2 HB); (case side6 => exact HC0_2.out); rintro e w42 ⟨rfl, hb⟩; replace BK1212 := A_ (blk_below (bx_ BK1212) hb); replace BK1213 := A_ (blk_below (bx_ BK1213) hb); replace HB := A_ (below_step (bl3_ HB (IsS180.ge HI1224.out) GE1212.out GE1213.out) hb); replace HI1224 := A_ (IsS180.below (is2_ HI1224 NB1224_1212.out NB1224_1213.out) hb); (try clear hb); (try clear hb2); (try clear hk); (try clear hi)))
    go_meet
    case rel => exact ⟨_, (true), (sx_), H', ⟨by first | omega | exact Nat.le_refl _⟩, ⟨bx_ BK1212⟩, ⟨bx_ BK1213⟩, ⟨is2_ HI1224 NB1224_1212.out NB1224_1213.out⟩, ⟨bl3_ HB (IsS180.ge HI1224.out) GE1212.out GE1213.out⟩⟩
  case rest =>
   clear HC7
   try clear c1
   try clear c2
   try clear p2
   try clear c3
   try clear c4
   try clear c5
   try clear c7
   try clear c13
   try clear c14
   try clear c15
   try clear c16
   try clear c18
   try clear c22
   try clear c22b0
   try clear c22b1
   try clear c22b2
   try clear c23
   try clear c24
   try clear c26
   try clear c30
   try clear c31
   try clear c33
   try clear c37
   try clear c38
   try clear c40
   try clear hcz17_0 hcz17_1 hcz17_2 hcz17_3 hcz17_4
   try clear hcz19_0 hcz19_1 hcz19_2 hcz19_3 hcz19_4
   try clear hcz21_0 hcz21_1 hcz21_2 hcz21_3 hcz21_4
   try clear hcz25_0 hcz25_1 hcz25_2 hcz25_3 hcz25_4
   try clear hcz27_0 hcz27_1 hcz27_2 hcz27_3 hcz27_4
   try clear hcz29_0 hcz29_1 hcz29_2 hcz29_3 hcz29_4
   try clear hcz32_0 hcz32_1 hcz32_2 hcz32_3 hcz32_4
   try clear hcz34_0 hcz34_1 hcz34_2 hcz34_3 hcz34_4
   try clear hcz36_0 hcz36_1 hcz36_2 hcz36_3 hcz36_4
   try clear hcz39_0 hcz39_1 hcz39_2 hcz39_3 hcz39_4
   try clear hcz41_0 hcz41_1 hcz41_2 hcz41_3 hcz41_4
   try clear hfz17_0 hfz17_1 hfz17_2 hfz17_3 hfz17_4
   try clear hfz19_0 hfz19_1 hfz19_2 hfz19_3 hfz19_4
   try clear hfz21_0 hfz21_1 hfz21_2 hfz21_3 hfz21_4
   try clear hfz25_0 hfz25_1 hfz25_2 hfz25_3 hfz25_4
   try clear hfz27_0 hfz27_1 hfz27_2 hfz27_3 hfz27_4
   try clear hfz29_0 hfz29_1 hfz29_2 hfz29_3 hfz29_4
   try clear hfz32_0 hfz32_1 hfz32_2 hfz32_3 hfz32_4
   try clear hfz34_0 hfz34_1 hfz34_2 hfz34_3 hfz34_4
   try clear hfz36_0 hfz36_1 hfz36_2 hfz36_3 hfz36_4
   try clear hfz39_0 hfz39_1 hfz39_2 hfz39_3 hfz39_4
   try clear hfz41_0 hfz41_1 hfz41_2 hfz41_3 hfz41_4
   obtain ⟨kq, x52_6, rfl, HA, HJ6, BK1212, BK1213, HI1224, HB⟩ := hcut
   cases kq with
   | zero => exact absurd HA.out (by simp [stipendlaw13_TaxSpreads.j0])
   | succ kj6 =>
    have H := HA.out
    clear HA
    simp only [stipendlaw13_TaxSpreads.j0] at H
    by_cases c43 : x52_6 = true
    ·subst c43
     have H1 : (some true) = some r := by rw [if_pos rfl] at H; exact H
     clear H
     have H := H1
     clear H1
     obtain rfl := Option.some.inj H
     go_wp2
     go_ret
     exact ⟨er_, bl3_ HB (IsS180.ge HI1224.out) GE1212.out GE1213.out⟩
    ·replace c43 := Bool.eq_false_iff.mpr c43
     subst c43
     have H1 : (stipendlaw13_TaxSpreads.l0 kj6 l2 ([] : List (S90)) ([] : List (S90)) 0 l2 (l2.length : Int) 0 l0_0 l0_1 l0_2 a0_3 a0_4 a1_0 a1_1 a1_2 a1_3 a1_4 t1215 t1216 t1217 t1218 t1219 t1220 t1221 t1222 t1223) = some r := by rw [if_neg (show ¬ (false = true) by decide)] at H; exact H
     clear H
     have H := H1
     clear H1
     have H' := A_ H
     clear H
     go_wp2
     go_loopg [9, 10, 11, 55] kj6 (fun kq v9 v10 v11 v55 w' => ∃ (x9_2 : List (S90)) (x10_2 : List (S90)) (x11_2 : Int) (x55_2 : Int), v11 = .int .i64 x11_2 ∧ v55 = .int .i64 x55_2 ∧ Aside0 (stipendlaw13_TaxSpreads.l0 kq l2 x9_2 x10_2 x11_2 l2 (l2.length : Int) x55_2 l0_0 l0_1 l0_2 a0_3 a0_4 a1_0 a1_1 a1_2 a1_3 a1_4 t1215 t1216 t1217 t1218 t1219 t1220 t1221 t1222 t1223 = some r) ∧ Aside0 (kq ≤ kj6) ∧ Aside0 (Kd.R k90 90 w' w.heap.size (fun k_ => some k_ ≠ (v10 : Value).ownBlock) v9 x9_2) ∧ Aside0 (Kd.R k90 90 w' w.heap.size (fun k_ => some k_ ≠ (v9 : Value).ownBlock) v10 x10_2) ∧ Aside0 (w'.heap[gb1212]? = some (.cells #[(.slice A0_0 l0_0.length c0_0), (.slice A0_1 l0_1.length c0_1), (.slice A0_2 l0_2.length c0_2), .int .i64 a0_3, .int .i64 a0_4] 56 (0, 0))) ∧ Aside0 (w'.heap[gb1213]? = some (.cells #[.int .i64 a1_0, .int .i64 a1_1, .int .i64 a1_2, .int .i64 a1_3, .bool a1_4] 88 (0, 0))) ∧ Aside0 (IsS180 w w' g1224 t1215 t1216 t1217 t1218 t1219 t1220 t1221 t1222 t1223) ∧ Aside0 (Below w.heap.size w w'))
     case atStart => exact ⟨(([] : List (S90))), (([] : List (S90))), (0), (0), (sx_), (sx_), H', ⟨Nat.le_refl _⟩, ⟨by first | exact Kd.R_nil _ _ _ _ _ | exact Kd.N_nil _ _ _ _ _ | exact Kd.V_nil _ _ _ _ _ | exact Kd.Q_nil _ _ _ _ _ | exact Kd.S_nil _ _ _ _ _⟩, ⟨by first | exact Kd.R_nil _ _ _ _ _ | exact Kd.N_nil _ _ _ _ _ | exact Kd.V_nil _ _ _ _ _ | exact Kd.Q_nil _ _ _ _ _ | exact Kd.S_nil _ _ _ _ _⟩, ⟨bx_ BK1212⟩, ⟨bx_ BK1213⟩, ⟨is2_ HI1224 NB1224_1212.out NB1224_1213.out⟩, ⟨bl3_ HB (IsS180.ge HI1224.out) GE1212.out GE1213.out⟩⟩
     case round =>
      clear H'
      try clear c1
      try clear c2
      try clear p2
      try clear c3
      try clear c4
      try clear c5
      try clear c7
      try clear c13
      try clear c14
      try clear c15
      try clear c16
      try clear c18
      try clear c22
      try clear c22b0
      try clear c22b1
      try clear c22b2
      try clear c23
      try clear c24
      try clear c26
      try clear c30
      try clear c31
      try clear c33
      try clear c37
      try clear c38
      try clear c40
      try clear c43
      try clear hcz17_0 hcz17_1 hcz17_2 hcz17_3 hcz17_4
      try clear hcz19_0 hcz19_1 hcz19_2 hcz19_3 hcz19_4
      try clear hcz21_0 hcz21_1 hcz21_2 hcz21_3 hcz21_4
      try clear hcz25_0 hcz25_1 hcz25_2 hcz25_3 hcz25_4
      try clear hcz27_0 hcz27_1 hcz27_2 hcz27_3 hcz27_4
      try clear hcz29_0 hcz29_1 hcz29_2 hcz29_3 hcz29_4
      try clear hcz32_0 hcz32_1 hcz32_2 hcz32_3 hcz32_4
      try clear hcz34_0 hcz34_1 hcz34_2 hcz34_3 hcz34_4
      try clear hcz36_0 hcz36_1 hcz36_2 hcz36_3 hcz36_4
      try clear hcz39_0 hcz39_1 hcz39_2 hcz39_3 hcz39_4
      try clear hcz41_0 hcz41_1 hcz41_2 hcz41_3 hcz41_4
      try clear hfz17_0 hfz17_1 hfz17_2 hfz17_3 hfz17_4
      try clear hfz19_0 hfz19_1 hfz19_2 hfz19_3 hfz19_4
      try clear hfz21_0 hfz21_1 hfz21_2 hfz21_3 hfz21_4
      try clear hfz25_0 hfz25_1 hfz25_2 hfz25_3 hfz25_4
      try clear hfz27_0 hfz27_1 hfz27_2 hfz27_3 hfz27_4
      try clear hfz29_0 hfz29_1 hfz29_2 hfz29_3 hfz29_4
      try clear hfz32_0 hfz32_1 hfz32_2 hfz32_3 hfz32_4
      try clear hfz34_0 hfz34_1 hfz34_2 hfz34_3 hfz34_4
      try clear hfz36_0 hfz36_1 hfz36_2 hfz36_3 hfz36_4
      try clear hfz39_0 hfz39_1 hfz39_2 hfz39_3 hfz39_4
      try clear hfz41_0 hfz41_1 hfz41_2 hfz41_3 hfz41_4
      try clear p2
      obtain ⟨x9_2, x10_2, x11_2, x55_2, rfl, rfl, HA, HK2, HO_9, HO_10, BK1212, BK1213, HI1224, HB⟩ := hrel
      cases gk with
      | zero => exact absurd HA.out (by simp [stipendlaw13_TaxSpreads.l0])
      | succ k2 =>
       have H := HA.out
       clear HA
       simp only [stipendlaw13_TaxSpreads.l0] at H
       by_cases c44 : x55_2 < (l2.length : Int)
       ·rw [if_pos c44] at H
        have c44b0 : decide (x55_2 < (l2.length : Int)) = true := decide_eq_true c44
        clear c44
        by_cases c45 : 0 ≤ x55_2
        ·rw [if_pos c45] at H
         have c45b0 : decide (0 ≤ x55_2) = true := decide_eq_true c45
         clear c45
         by_cases c46 : x55_2 < (l2.length : Int)
         ·rw [if_pos c46] at H
          have c46b0 : decide (x55_2 < (l2.length : Int)) = true := decide_eq_true c46
          clear c46
          have HC47 := A_ H
          clear H
          have p1227 : 0 ≤ (x55_2 : Int) := of_decide_eq_true (by first | (with_reducible assumption) | assumption)
          have q1227 : x55_2 < (l2.length : Int) := of_decide_eq_true (by first | (with_reducible assumption) | assumption)
          obtain ⟨ad1227, e1227, hx1227_0⟩ := Kd.at_int HR2.out x55_2 p1227 q1227
          cases e1227
          replace hx1227_0 := (HB.out.cell (World.block_lt_of_cell? w _ hx1227_0)).trans hx1227_0
          replace p1227 := eq_true p1227
          replace q1227 := eq_true q1227
          go_upto_region 11 with (fail)
          go_cut [65] (fun v65 wc => ∃ (kq : Nat) (x65_46 : Bool), v65 = .bool x65_46 ∧ Aside0 (stipendlaw13_TaxSpreads.j2 kq l2 x9_2 x10_2 x11_2 x55_2 (rd l2 x55_2) l2 (l2.length : Int) x55_2 x65_46 l0_0 l0_1 l0_2 a0_3 a0_4 a1_0 a1_1 a1_2 a1_3 a1_4 t1215 t1216 t1217 t1218 t1219 t1220 t1221 t1222 t1223 = some r) ∧ Aside0 (kq ≤ k2) ∧ Aside0 (Kd.R k90 90 wc w.heap.size (fun k_ => some k_ ≠ (u10 : Value).ownBlock) u9 x9_2) ∧ Aside0 (Kd.R k90 90 wc w.heap.size (fun k_ => some k_ ≠ (u9 : Value).ownBlock) u10 x10_2) ∧ Aside0 (wc.heap[gb1212]? = some (.cells #[(.slice A0_0 l0_0.length c0_0), (.slice A0_1 l0_1.length c0_1), (.slice A0_2 l0_2.length c0_2), .int .i64 a0_3, .int .i64 a0_4] 56 (0, 0))) ∧ Aside0 (wc.heap[gb1213]? = some (.cells #[.int .i64 a1_0, .int .i64 a1_1, .int .i64 a1_2, .int .i64 a1_3, .bool a1_4] 88 (0, 0))) ∧ Aside0 (IsS180 w wc g1224 t1215 t1216 t1217 t1218 t1219 t1220 t1221 t1222 t1223) ∧ Aside0 (Below w.heap.size w wc))
          case first =>
           have H := HC47.out
           clear HC47
           by_cases c48 : (rd l2 x55_2) > 1000000000
           ·rw [if_pos c48] at H
            have c48b0 : decide (1000000000 < (rd l2 x55_2)) = true := decide_eq_true c48
            clear c48
            (first | rw [c48b0] | (simp only [i64_w, i32_w]; rw [c48b0]) | skip)
            have H' := A_ H
            clear H
            go_wp2
            go_meet
            case rel => exact ⟨_, (true), (sx_), H', ⟨by have := HJ6.out; have := HK2.out; first | omega | exact Nat.le_refl _⟩, ⟨ro_ HO_9⟩, ⟨ro_ HO_10⟩, ⟨bx_ BK1212⟩, ⟨bx_ BK1213⟩, ⟨is2_ HI1224 NB1224_1212.out NB1224_1213.out⟩, ⟨bl3_ HB (IsS180.ge HI1224.out) GE1212.out GE1213.out⟩⟩
           ·rw [if_neg c48] at H
            have c48b0 : decide (1000000000 < (rd l2 x55_2)) = false := decide_eq_false c48
            clear c48
            (first | rw [c48b0] | (simp only [i64_w, i32_w]; rw [c48b0]) | skip)
            have H' := A_ H
            clear H
            go_wp2
            go_meet
            case rel => exact ⟨_, (decide ((rd l2 x55_2) < (-1000000000))), (sx_), H', ⟨by have := HJ6.out; have := HK2.out; first | omega | exact Nat.le_refl _⟩, ⟨ro_ HO_9⟩, ⟨ro_ HO_10⟩, ⟨bx_ BK1212⟩, ⟨bx_ BK1213⟩, ⟨is2_ HI1224 NB1224_1212.out NB1224_1213.out⟩, ⟨bl3_ HB (IsS180.ge HI1224.out) GE1212.out GE1213.out⟩⟩
          case rest =>
           clear HC47
           try clear c1
           try clear p1
           try clear q1
           try clear hx1
           try clear c2
           try clear p2
           try clear c3
           try clear c4
           try clear c5
           try clear c7
           try clear p12
           try clear q12
           try clear hx12
           try clear c13
           try clear c14
           try clear c15
           try clear c16
           try clear c18
           try clear c22
           try clear c22b0
           try clear c22b1
           try clear c22b2
           try clear c23
           try clear c24
           try clear c26
           try clear c30
           try clear c31
           try clear c33
           try clear c37
           try clear c38
           try clear c40
           try clear c43
           try clear c44
           try clear c44b0
           try clear c45
           try clear c45b0
           try clear c46
           try clear c46b0
           try clear c48
           try clear c48b0
           try clear hcz17_0 hcz17_1 hcz17_2 hcz17_3 hcz17_4
           try clear hcz19_0 hcz19_1 hcz19_2 hcz19_3 hcz19_4
           try clear hcz21_0 hcz21_1 hcz21_2 hcz21_3 hcz21_4
           try clear hcz25_0 hcz25_1 hcz25_2 hcz25_3 hcz25_4
           try clear hcz27_0 hcz27_1 hcz27_2 hcz27_3 hcz27_4
           try clear hcz29_0 hcz29_1 hcz29_2 hcz29_3 hcz29_4
           try clear hcz32_0 hcz32_1 hcz32_2 hcz32_3 hcz32_4
           try clear hcz34_0 hcz34_1 hcz34_2 hcz34_3 hcz34_4
           try clear hcz36_0 hcz36_1 hcz36_2 hcz36_3 hcz36_4
           try clear hcz39_0 hcz39_1 hcz39_2 hcz39_3 hcz39_4
           try clear hcz41_0 hcz41_1 hcz41_2 hcz41_3 hcz41_4
           try clear hfz17_0 hfz17_1 hfz17_2 hfz17_3 hfz17_4
           try clear hfz19_0 hfz19_1 hfz19_2 hfz19_3 hfz19_4
           try clear hfz21_0 hfz21_1 hfz21_2 hfz21_3 hfz21_4
           try clear hfz25_0 hfz25_1 hfz25_2 hfz25_3 hfz25_4
           try clear hfz27_0 hfz27_1 hfz27_2 hfz27_3 hfz27_4
           try clear hfz29_0 hfz29_1 hfz29_2 hfz29_3 hfz29_4
           try clear hfz32_0 hfz32_1 hfz32_2 hfz32_3 hfz32_4
           try clear hfz34_0 hfz34_1 hfz34_2 hfz34_3 hfz34_4
           try clear hfz36_0 hfz36_1 hfz36_2 hfz36_3 hfz36_4
           try clear hfz39_0 hfz39_1 hfz39_2 hfz39_3 hfz39_4
           try clear hfz41_0 hfz41_1 hfz41_2 hfz41_3 hfz41_4
           try clear hx1227_0
           try clear p1227
           try clear p2
           try clear q1227
           obtain ⟨kq, x65_46, rfl, HA, HJ46, HO_9, HO_10, BK1212, BK1213, HI1224, HB⟩ := hcut
           cases kq with
           | zero => exact absurd HA.out (by simp [stipendlaw13_TaxSpreads.j2])
           | succ kj46 =>
            have H := HA.out
            clear HA
            simp only [stipendlaw13_TaxSpreads.j2] at H
            by_cases c49 : x65_46 = true
            ·subst c49
             have H1 : (some true) = some r := by rw [if_pos rfl] at H; exact H
             clear H
             have H := H1
             clear H1
             obtain rfl := Option.some.inj H
             go_wp2
             go_ret
             exact ⟨er_, bl3_ HB (IsS180.ge HI1224.out) GE1212.out GE1213.out⟩
            ·replace c49 := Bool.eq_false_iff.mpr c49
             subst c49
             have H1 : (if x9_2.length < 2932031007402 then ((some (x9_2 ++ [(⟨(⟨a1_0, a1_1, a1_2, a1_3, a1_4⟩ : S88), (rd l2 x55_2)⟩ : S90)] : List (S90))).bind fun y1228 => (if x10_2.length < 2932031007402 then ((some (x10_2 ++ [(⟨(⟨a1_0, a1_1, a1_2, a1_3, a1_4⟩ : S88), 0⟩ : S90)] : List (S90))).bind fun y1231 => (if x55_2 = (wrap64 ((l2.length : Int) - 1)) then (if 0 < (y1231.length : Int) then (stipendlaw13_TaxSpreads.l0 kj46 l2 y1228 (y1231.set (0 : Int).toNat (⟨(⟨(rd_T90 y1231 0).f0.f0, (rd_T90 y1231 0).f0.f1, (rd_T90 y1231 0).f0.f2, (rd_T90 y1231 0).f0.f3, (rd_T90 y1231 0).f0.f4⟩ : S88), wrap64 (x11_2 + (rd l2 x55_2))⟩ : S90)) (wrap64 (x11_2 + (rd l2 x55_2))) l2 (l2.length : Int) (wrap64 (x55_2 + 1)) l0_0 l0_1 l0_2 a0_3 a0_4 a1_0 a1_1 a1_2 a1_3 a1_4 t1215 t1216 t1217 t1218 t1219 t1220 t1221 t1222 t1223) else (none)) else (stipendlaw13_TaxSpreads.l0 kj46 l2 y1228 y1231 (wrap64 (x11_2 + (rd l2 x55_2))) l2 (l2.length : Int) (wrap64 (x55_2 + 1)) l0_0 l0_1 l0_2 a0_3 a0_4 a1_0 a1_1 a1_2 a1_3 a1_4 t1215 t1216 t1217 t1218 t1219 t1220 t1221 t1222 t1223))) else (none))) else (none)) = some r := by rw [if_neg (show ¬ (false = true) by decide)] at H; exact H
             clear H
             have H := H1
             clear H1
             by_cases c50 : x9_2.length < 2932031007402
             ·rw [if_pos c50] at H
              have LMc50 := A_ c50
              clear c50
              obtain ⟨y1228, hy1228⟩ : ∃ y_ : List (S90), y_ = (x9_2 ++ [(⟨(⟨a1_0, a1_1, a1_2, a1_3, a1_4⟩ : S88), (rd l2 x55_2)⟩ : S90)]) := ⟨_, rfl⟩
              replace H : (if x10_2.length < 2932031007402 then ((some (x10_2 ++ [(⟨(⟨a1_0, a1_1, a1_2, a1_3, a1_4⟩ : S88), 0⟩ : S90)] : List (S90))).bind fun y1231 => (if x55_2 = (wrap64 ((l2.length : Int) - 1)) then (if 0 < (y1231.length : Int) then (stipendlaw13_TaxSpreads.l0 kj46 l2 y1228 (y1231.set (0 : Int).toNat (⟨(⟨(rd_T90 y1231 0).f0.f0, (rd_T90 y1231 0).f0.f1, (rd_T90 y1231 0).f0.f2, (rd_T90 y1231 0).f0.f3, (rd_T90 y1231 0).f0.f4⟩ : S88), wrap64 (x11_2 + (rd l2 x55_2))⟩ : S90)) (wrap64 (x11_2 + (rd l2 x55_2))) l2 (l2.length : Int) (wrap64 (x55_2 + 1)) l0_0 l0_1 l0_2 a0_3 a0_4 a1_0 a1_1 a1_2 a1_3 a1_4 t1215 t1216 t1217 t1218 t1219 t1220 t1221 t1222 t1223) else (none)) else (stipendlaw13_TaxSpreads.l0 kj46 l2 y1228 y1231 (wrap64 (x11_2 + (rd l2 x55_2))) l2 (l2.length : Int) (wrap64 (x55_2 + 1)) l0_0 l0_1 l0_2 a0_3 a0_4 a1_0 a1_1 a1_2 a1_3 a1_4 t1215 t1216 t1217 t1218 t1219 t1220 t1221 t1222 t1223))) else (none)) = some r := by first | (rw [hy1228]; with_reducible exact H) | (have H2_ := (Option.bind_some _ _).symm.trans H; rw [hy1228]; with_reducible exact H2_) | (have H2_ := (Option.bind_some _ _).symm.trans H; with_reducible exact H2_) | with_reducible exact H | (rw [hy1228]; exact H) | exact H
              have Ny1228 := A_ hy1228
              clear hy1228
              by_cases c51 : x10_2.length < 2932031007402
              ·rw [if_pos c51] at H
               have LMc51 := A_ c51
               clear c51
               obtain ⟨y1231, hy1231⟩ : ∃ y_ : List (S90), y_ = (x10_2 ++ [(⟨(⟨a1_0, a1_1, a1_2, a1_3, a1_4⟩ : S88), 0⟩ : S90)]) := ⟨_, rfl⟩
               replace H : (if x55_2 = (wrap64 ((l2.length : Int) - 1)) then (if 0 < (y1231.length : Int) then (stipendlaw13_TaxSpreads.l0 kj46 l2 y1228 (y1231.set (0 : Int).toNat (⟨(⟨(rd_T90 y1231 0).f0.f0, (rd_T90 y1231 0).f0.f1, (rd_T90 y1231 0).f0.f2, (rd_T90 y1231 0).f0.f3, (rd_T90 y1231 0).f0.f4⟩ : S88), wrap64 (x11_2 + (rd l2 x55_2))⟩ : S90)) (wrap64 (x11_2 + (rd l2 x55_2))) l2 (l2.length : Int) (wrap64 (x55_2 + 1)) l0_0 l0_1 l0_2 a0_3 a0_4 a1_0 a1_1 a1_2 a1_3 a1_4 t1215 t1216 t1217 t1218 t1219 t1220 t1221 t1222 t1223) else (none)) else (stipendlaw13_TaxSpreads.l0 kj46 l2 y1228 y1231 (wrap64 (x11_2 + (rd l2 x55_2))) l2 (l2.length : Int) (wrap64 (x55_2 + 1)) l0_0 l0_1 l0_2 a0_3 a0_4 a1_0 a1_1 a1_2 a1_3 a1_4 t1215 t1216 t1217 t1218 t1219 t1220 t1221 t1222 t1223)) = some r := by first | (rw [hy1231]; with_reducible exact H) | (have H2_ := (Option.bind_some _ _).symm.trans H; rw [hy1231]; with_reducible exact H2_) | (have H2_ := (Option.bind_some _ _).symm.trans H; with_reducible exact H2_) | with_reducible exact H | (rw [hy1231]; exact H) | exact H
               have Ny1231 := A_ hy1231
               clear hy1231
               by_cases c52 : x55_2 = (wrap64 ((l2.length : Int) - 1))
               ·rw [if_pos c52] at H
                have c52b0 : (x55_2 == (wrap64 ((l2.length : Int) - 1))) = true := beq_iff_eq.mpr c52
                have c52b1 : (x55_2 != (wrap64 ((l2.length : Int) - 1))) = false := bne_eq_false_iff_eq.mpr c52
                clear c52
                by_cases c53 : 0 < (y1231.length : Int)
                ·rw [if_pos c53] at H
                 have c53b0 : decide (0 < (y1231.length : Int)) = true := decide_eq_true c53
                 have c53b1 : decide (0 < y1231.length) = true := decide_eq_true (by omega)
                 clear c53
                 obtain ⟨y1234, hy1234⟩ : ∃ y_ : List (S90), y_ = (y1231.set (0 : Int).toNat (⟨(⟨(rd_T90 y1231 0).f0.f0, (rd_T90 y1231 0).f0.f1, (rd_T90 y1231 0).f0.f2, (rd_T90 y1231 0).f0.f3, (rd_T90 y1231 0).f0.f4⟩ : S88), wrap64 (x11_2 + (rd l2 x55_2))⟩ : S90)) := ⟨_, rfl⟩
                 replace H : (stipendlaw13_TaxSpreads.l0 kj46 l2 y1228 y1234 (wrap64 (x11_2 + (rd l2 x55_2))) l2 (l2.length : Int) (wrap64 (x55_2 + 1)) l0_0 l0_1 l0_2 a0_3 a0_4 a1_0 a1_1 a1_2 a1_3 a1_4 t1215 t1216 t1217 t1218 t1219 t1220 t1221 t1222 t1223) = some r := by first | (rw [hy1234]; with_reducible exact H) | (have H2_ := (Option.bind_some _ _).symm.trans H; rw [hy1234]; with_reducible exact H2_) | (have H2_ := (Option.bind_some _ _).symm.trans H; with_reducible exact H2_) | with_reducible exact H | (rw [hy1234]; exact H) | exact H
                 have Ny1234 := A_ hy1234
                 clear hy1234
                 have H' := A_ H
                 clear H
                 have hnb55 := NB1213_1212.out
                 have hnc55 := NB1212_1213.out
                 have hnb56 := NB1213_1224.out
                 have hnc56 := NB1224_1213.out
                 have hcz57_0 := cz_ BK1213 0
                 have hcz57_1 := cz_ BK1213 1
                 have hcz57_2 := cz_ BK1213 2
                 have hcz57_3 := cz_ BK1213 3
                 have hcz57_4 := cz_ BK1213 4
                 have hfz57_0 := blk_frozen BK1213.out 0
                 have hfz57_1 := blk_frozen BK1213.out 1
                 have hfz57_2 := blk_frozen BK1213.out 2
                 have hfz57_3 := blk_frozen BK1213.out 3
                 have hfz57_4 := blk_frozen BK1213.out 4
                 go_wp2_with (first | ((with_reducible refine gate_builtin (b := .append) (xs := #[.tmp 66, .tmp 70]) rfl ?_); at_builtin; refine Kd.R_append k90 (w0 := w) w.heap.size rfl (.tmp 66) (.tmp 70) 78 90 (.agg #[(.int .i64 0), (.int .i64 0), (.int .i64 0), (.int .i64 0), (.bool false), (.int .i64 0)]) 48 rfl Try.underlying78 info90 rfl (by decide) (by omega) u9 x9_2 (⟨(⟨a1_0, a1_1, a1_2, a1_3, a1_4⟩ : S88), (rd l2 x55_2)⟩ : S90) [.int .i64 a1_0, .int .i64 a1_1, .int .i64 a1_2, .int .i64 a1_3, .bool a1_4, .int .i64 (rd l2 x55_2)] (fun k_ => some k_ ≠ (u10 : Value).ownBlock) (fun _ => False) rfl rfl ?aP (fun _ hk => hk.elim) ?aF ?aO ?aB ?aS ?aL ?_; (case aP => exact k90_mkM _ _ _ (⟨(⟨a1_0, a1_1, a1_2, a1_3, a1_4⟩ : S88), (rd l2 x55_2)⟩ : S90)); (case aB => exact (bl3_ HB (IsS180.ge HI1224.out) GE1212.out GE1213.out)); (case aF => exact (fun k_ hk => Kd.fresh' (Kd.R_lt (ro_ HO_10)) k_ hk)); (case aO => exact (ro_ HO_9)); (case aS => exact (below_size (bl3_ HB (IsS180.ge HI1224.out) GE1212.out GE1213.out))); (case aL => have := LMc50.out; omega); intro v1229 w58 ho hb hg hat; rw [← Ny1228.out] at ho; have HO1230 := A_ (ho); replace HO_10 := A_ (Kd.R_after (ok := (fun _ => True)) (by (with_reducible repeat (first | apply Kd.R_alloc | apply Kd.R_drewN | apply Kd.R_drew)); exact Kd.R_mono HO_10.out (fun _ hk => ⟨trivial, hk⟩)) hg hat); replace BK1212 := A_ (blk_grown (g := gb1212) (o := .cells #[.slice A0_0 l0_0.length c0_0, .slice A0_1 l0_1.length c0_1, .slice A0_2 l0_2.length c0_2, .int .i64 a0_3, .int .i64 a0_4] 56 (0, 0)) (bx_ BK1212) hg (Kd.R_ne HO_9.out BK1212.out (by decide))); replace BK1213 := A_ (blk_grown (g := gb1213) (o := .cells #[.int .i64 a1_0, .int .i64 a1_1, .int .i64 a1_2, .int .i64 a1_3, .bool a1_4] 88 (0, 0)) (bx_ BK1213) hg (Kd.R_ne HO_9.out BK1213.out (by decide))); replace HI1224 := A_ (IsS180.grown (is2_ HI1224 NB1224_1212.out NB1224_1213.out) hg (IsS180.own_ne HI1224.out HO_9.out (by decide))); replace HB := A_ (hb); clear HO_9; clear ho hb hg hat; have hcz59_0 := cz_ BK1213 0; have hcz59_1 := cz_ BK1213 1; have hcz59_2 := cz_ BK1213 2; have hcz59_3 := cz_ BK1213 3; have hcz59_4 := cz_ BK1213 4; have hfz59_0 := blk_frozen BK1213.out 0; have hfz59_1 := blk_frozen BK1213.out 1; have hfz59_2 := blk_frozen BK1213.out 2; have hfz59_3 := blk_frozen BK1213.out 3; have hfz59_4 := blk_frozen BK1213.out 4) | ((with_reducible refine gate_builtin (b := .append) (xs := #[.tmp 72, .tmp 75]) rfl ?_); at_builtin; refine Kd.R_append k90 (w0 := w) w.heap.size rfl (.tmp 72) (.tmp 75) 78 90 (.agg #[(.int .i64 0), (.int .i64 0), (.int .i64 0), (.int .i64 0), (.bool false), (.int .i64 0)]) 48 rfl Try.underlying78 info90 rfl (by decide) (by omega) u10 x10_2 (⟨(⟨a1_0, a1_1, a1_2, a1_3, a1_4⟩ : S88), 0⟩ : S90) [.int .i64 a1_0, .int .i64 a1_1, .int .i64 a1_2, .int .i64 a1_3, .bool a1_4, .int .i64 0] (fun k_ => some k_ ≠ (v1229 : Value).ownBlock) (fun _ => False) rfl rfl ?aP (fun _ hk => hk.elim) ?aF ?aO ?aB ?aS ?aL ?_; (case aP => exact k90_mkM _ _ _ (⟨(⟨a1_0, a1_1, a1_2, a1_3, a1_4⟩ : S88), 0⟩ : S90)); (case aB => exact (bl3_ HB (IsS180.ge HI1224.out) GE1212.out GE1213.out)); (case aF => exact (fun k_ hk => Kd.fresh' (Kd.R_lt (ro_ HO1230)) k_ hk)); (case aO => exact (by (with_reducible repeat (first | apply Kd.R_alloc | apply Kd.R_drewN | apply Kd.R_drew)); exact Kd.R_mono HO_10.out (fun _ hk => hk.2))); (case aS => exact (below_size (bl3_ HB (IsS180.ge HI1224.out) GE1212.out GE1213.out))); (case aL => have := LMc51.out; omega); intro v1232 w60 ho hb hg hat; rw [← Ny1231.out] at ho; have HO1233 := A_ (ho); replace BK1212 := A_ (blk_grown (g := gb1212) (o := .cells #[.slice A0_0 l0_0.length c0_0, .slice A0_1 l0_1.length c0_1, .slice A0_2 l0_2.length c0_2, .int .i64 a0_3, .int .i64 a0_4] 56 (0, 0)) (bx_ BK1212) hg (Kd.R_ne HO_10.out BK1212.out (by decide))); replace BK1213 := A_ (blk_grown (g := gb1213) (o := .cells #[.int .i64 a1_0, .int .i64 a1_1, .int .i64 a1_2, .int .i64 a1_3, .bool a1_4] 88 (0, 0)) (bx_ BK1213) hg (Kd.R_ne HO_10.out BK1213.out (by decide))); replace HI1224 := A_ (IsS180.grown (is2_ HI1224 NB1224_1212.out NB1224_1213.out) hg (IsS180.own_ne HI1224.out HO_10.out (by decide))); replace HO1230 := A_ (Kd.R_after (ok := (fun _ => True)) (by (with_reducible repeat (first | apply Kd.R_alloc | apply Kd.R_drewN | apply Kd.R_drew)); exact Kd.R_mono HO1230.out (fun _ hk => ⟨trivial, hk⟩)) hg hat); replace HB := A_ (hb); clear HO_10; clear ho hb hg hat; have p54 : 0 ≤ (0 : Int) := (by omega); have q54 : (0 : Int) < ((y1231.length : Int) : Int) := of_decide_eq_true (by first | (with_reducible assumption) | assumption); have qi54 : (0 < y1231.length) = True := eq_true (by omega); obtain ⟨go54, co54, eo54, gb54, gl54, cl54, HG54⟩ := Kd.R_form HO1233.out (by omega); (first | cases eo54 | (injection eo54 with ea_ en_ ec_; (first | subst ea_ | (injection ea_ with ea_; subst ea_)); subst ec_; clear en_)); have GB54 := A_ gb54; have GG54 := A_ HG54; clear gb54 gl54 HG54; obtain ⟨ce54, hcl54, hM54, hcc54, hfr54⟩ := Kd.R_elem HO1233.out z90 (0 : Int) p54 q54; obtain rfl := k90_openM hM54; have hx54_0 : w60.cell? ⟨go54, (0 : Int).toNat * 6, none⟩ = some (.int .i64 ((rd_T90 y1231 0).f0.f0)) := hcc54 0 _ rfl; have hx54_1 : w60.cell? ⟨go54, (0 : Int).toNat * 6 + 1, none⟩ = some (.int .i64 ((rd_T90 y1231 0).f0.f1)) := hcc54 1 _ rfl; have hx54_2 : w60.cell? ⟨go54, (0 : Int).toNat * 6 + 2, none⟩ = some (.int .i64 ((rd_T90 y1231 0).f0.f2)) := hcc54 2 _ rfl; have hx54_3 : w60.cell? ⟨go54, (0 : Int).toNat * 6 + 3, none⟩ = some (.int .i64 ((rd_T90 y1231 0).f0.f3)) := hcc54 3 _ rfl; have hx54_4 : w60.cell? ⟨go54, (0 : Int).toNat * 6 + 4, none⟩ = some (.bool ((rd_T90 y1231 0).f0.f4)) := hcc54 4 _ rfl; have hx54_5 : w60.cell? ⟨go54, (0 : Int).toNat * 6 + 5, none⟩ = some (.int .i64 ((rd_T90 y1231 0).f1)) := hcc54 5 _ rfl; have hf54_0 : w60.frozen? ⟨go54, (0 : Int).toNat * 6, none⟩ = false := hfr54 0; have hf54_1 : w60.frozen? ⟨go54, (0 : Int).toNat * 6 + 1, none⟩ = false := hfr54 1; have hf54_2 : w60.frozen? ⟨go54, (0 : Int).toNat * 6 + 2, none⟩ = false := hfr54 2; have hf54_3 : w60.frozen? ⟨go54, (0 : Int).toNat * 6 + 3, none⟩ = false := hfr54 3; have hf54_4 : w60.frozen? ⟨go54, (0 : Int).toNat * 6 + 4, none⟩ = false := hfr54 4; have hf54_5 : w60.frozen? ⟨go54, (0 : Int).toNat * 6 + 5, none⟩ = false := hfr54 5; clear hcl54 hcc54 hfr54 hM54; (try rw [show ((0 : Int)).toNat = 0 from rfl] at hx54_0); (try simp only [Nat.reduceMul, Nat.zero_mul, Nat.zero_add, Nat.reduceAdd] at hx54_0); (try rw [show ((0 : Int)).toNat = 0 from rfl] at hf54_0); (try simp only [Nat.reduceMul, Nat.zero_mul, Nat.zero_add, Nat.reduceAdd] at hf54_0); (try rw [show ((0 : Int)).toNat = 0 from rfl] at hx54_1); (try simp only [Nat.reduceMul, Nat.zero_mul, Nat.zero_add, Nat.reduceAdd] at hx54_1); (try rw [show ((0 : Int)).toNat = 0 from rfl] at hf54_1); (try simp only [Nat.reduceMul, Nat.zero_mul, Nat.zero_add, Nat.reduceAdd] at hf54_1); (try rw [show ((0 : Int)).toNat = 0 from rfl] at hx54_2); (try simp only [Nat.reduceMul, Nat.zero_mul, Nat.zero_add, Nat.reduceAdd] at hx54_2); (try rw [show ((0 : Int)).toNat = 0 from rfl] at hf54_2); (try simp only [Nat.reduceMul, Nat.zero_mul, Nat.zero_add, Nat.reduceAdd] at hf54_2); (try rw [show ((0 : Int)).toNat = 0 from rfl] at hx54_3); (try simp only [Nat.reduceMul, Nat.zero_mul, Nat.zero_add, Nat.reduceAdd] at hx54_3); (try rw [show ((0 : Int)).toNat = 0 from rfl] at hf54_3); (try simp only [Nat.reduceMul, Nat.zero_mul, Nat.zero_add, Nat.reduceAdd] at hf54_3); (try rw [show ((0 : Int)).toNat = 0 from rfl] at hx54_4); (try simp only [Nat.reduceMul, Nat.zero_mul, Nat.zero_add, Nat.reduceAdd] at hx54_4); (try rw [show ((0 : Int)).toNat = 0 from rfl] at hf54_4); (try simp only [Nat.reduceMul, Nat.zero_mul, Nat.zero_add, Nat.reduceAdd] at hf54_4); (try rw [show ((0 : Int)).toNat = 0 from rfl] at hx54_5); (try simp only [Nat.reduceMul, Nat.zero_mul, Nat.zero_add, Nat.reduceAdd] at hx54_5); (try rw [show ((0 : Int)).toNat = 0 from rfl] at hf54_5); (try simp only [Nat.reduceMul, Nat.zero_mul, Nat.zero_add, Nat.reduceAdd] at hf54_5); replace p54 := eq_true p54; replace q54 := eq_true q54; have HX61 := A_ (show Kd.R k90 90 w60 w.heap.size (fun k_ => some k_ ≠ (v1229 : Value).ownBlock) (.slice (some ⟨go54, 0, none⟩) y1231.length co54) y1231 from (ro_ HO1233)); obtain ⟨ce61, hcl61, hM61, hcc61, hfr61⟩ := Kd.R_elem HX61.out z90 (0 : Int) (by omega) (by have h_ : (0 : Int) < ((y1231.length : Int) : Int) := of_decide_eq_true (by first | (with_reducible assumption) | assumption); first | exact h_ | (have e_ := (Kd.R_reads' HO1233.out).1; omega) | simpa using h_); obtain rfl := k90_openM hM61; have HP61 := Kd.R_seg HX61.out (0 : Int) (by omega) (by have h_ : (0 : Int) < ((y1231.length : Int) : Int) := of_decide_eq_true (by first | (with_reducible assumption) | assumption); first | exact h_ | (have e_ := (Kd.R_reads' HO1233.out).1; omega) | simpa using h_) (seg := [.int .i64 (wrap64 (x11_2 + (rd l2 x55_2)))]) (j := 5) hcl61 hcc61 (show 6 ≤ 6 from by decide) (x' := (⟨(⟨(rd_T90 y1231 0).f0.f0, (rd_T90 y1231 0).f0.f1, (rd_T90 y1231 0).f0.f2, (rd_T90 y1231 0).f0.f3, (rd_T90 y1231 0).f0.f4⟩ : S88), wrap64 (x11_2 + (rd l2 x55_2))⟩ : S90)) (k90_mkM _ _ _ (⟨(⟨(rd_T90 y1231 0).f0.f0, (rd_T90 y1231 0).f0.f1, (rd_T90 y1231 0).f0.f2, (rd_T90 y1231 0).f0.f3, (rd_T90 y1231 0).f0.f4⟩ : S88), wrap64 (x11_2 + (rd l2 x55_2))⟩ : S90) ) (fun _ hk => hk); have hx61_5 := hcc61 5 _ rfl; (try simp only [show (k90).sz = 6 from rfl, Nat.mul_one, Nat.add_zero] at hx61_5); (try rw [show ((0 : Int)).toNat = 0 from rfl] at hx61_5); (try simp only [Nat.reduceMul, Nat.zero_mul, Nat.zero_add, Nat.reduceAdd] at hx61_5); have hf61_5 := hfr61 5; (try simp only [show (k90).sz = 6 from rfl, Nat.mul_one, Nat.add_zero] at hf61_5); (try rw [show ((0 : Int)).toNat = 0 from rfl] at hf61_5); (try simp only [Nat.reduceMul, Nat.zero_mul, Nat.zero_add, Nat.reduceAdd] at hf61_5); clear hcl61 hcc61 hfr61 hM61) | ((with_reducible refine gate_store (t := 2) (p := 88) rfl ?_); refine se_ (t := 2) (p := 88) (w1 := (w60.setCell ⟨go54, 5, none⟩ (.int .i64 (wrap64 (x11_2 + (rd l2 x55_2)))))) ?_; intro w62 hw; have hg : w60.grownBy w62 (some go54) := (by rw [hw]; exact HP61.2); have hp_ : Kd.R k90 90 w62 w.heap.size (fun k_ => some k_ ≠ (v1229 : Value).ownBlock) (.slice (some ⟨go54, 0, none⟩) y1231.length co54) y1234 := (by rw [hw, Ny1234.out]; exact HP61.1); clear HP61; replace BK1212 := A_ (blk_grown (g := gb1212) (o := .cells #[.slice A0_0 l0_0.length c0_0, .slice A0_1 l0_1.length c0_1, .slice A0_2 l0_2.length c0_2, .int .i64 a0_3, .int .i64 a0_4] 56 (0, 0)) (bx_ BK1212) hg (Kd.R_ne HO1233.out BK1212.out (by decide))); replace BK1213 := A_ (blk_grown (g := gb1213) (o := .cells #[.int .i64 a1_0, .int .i64 a1_1, .int .i64 a1_2, .int .i64 a1_3, .bool a1_4] 88 (0, 0)) (bx_ BK1213) hg (Kd.R_ne HO1233.out BK1213.out (by decide))); replace HI1224 := A_ (IsS180.grown (is2_ HI1224 NB1224_1212.out NB1224_1213.out) hg (IsS180.own_ne HI1224.out HO1233.out (by decide))); replace HO1230 := A_ (Kd.R_after (v := (.slice (some ⟨go54, 0, none⟩) y1231.length co54)) (v1 := (.slice (some ⟨go54, 0, none⟩) y1231.length co54)) (ok := (fun _ => True)) (ro_ HO1230) hg (.inl rfl)); replace HO1233 := A_ (hp_); replace HB := A_ ((by rw [hw]; exact below_set (HB.out) GB54.out : Below w.heap.size w w62)); clear hg hw hp_))
                 go_roundg kj46
                 case measure => have := HJ6.out; have := HK2.out; have := HJ46.out; omega
                 case rel => exact ⟨(y1228), (y1234), (wrap64 (x11_2 + (rd l2 x55_2))), (wrap64 (x55_2 + 1)), (sx_), (sx_), H', ⟨by have := HJ6.out; have := HK2.out; have := HJ46.out; omega⟩, ⟨by (with_reducible repeat (first | apply Kd.R_alloc | apply Kd.R_drewN | apply Kd.R_drew)); exact Kd.R_mono HO1230.out (fun _ hk => hk.2)⟩, ⟨ro_ HO1233⟩, ⟨bx_ BK1212⟩, ⟨bx_ BK1213⟩, ⟨is2_ HI1224 NB1224_1212.out NB1224_1213.out⟩, ⟨bl3_ HB (IsS180.ge HI1224.out) GE1212.out GE1213.out⟩⟩
                ·rw [if_neg c53] at H
                 exact absurd H (by simp)
               ·rw [if_neg c52] at H
                have c52b0 : (x55_2 == (wrap64 ((l2.length : Int) - 1))) = false := beq_eq_false_iff_ne.mpr c52
                have c52b1 : (x55_2 != (wrap64 ((l2.length : Int) - 1))) = true := bne_iff_ne.mpr c52
                have H' := A_ H
                clear H
                have hnb63 := NB1213_1212.out
                have hnc63 := NB1212_1213.out
                have hnb64 := NB1213_1224.out
                have hnc64 := NB1224_1213.out
                have hcz65_0 := cz_ BK1213 0
                have hcz65_1 := cz_ BK1213 1
                have hcz65_2 := cz_ BK1213 2
                have hcz65_3 := cz_ BK1213 3
                have hcz65_4 := cz_ BK1213 4
                have hfz65_0 := blk_frozen BK1213.out 0
                have hfz65_1 := blk_frozen BK1213.out 1
                have hfz65_2 := blk_frozen BK1213.out 2
                have hfz65_3 := blk_frozen BK1213.out 3
                have hfz65_4 := blk_frozen BK1213.out 4
                go_wp2_with (first | ((with_reducible refine gate_builtin (b := .append) (xs := #[.tmp 66, .tmp 70]) rfl ?_); at_builtin; refine Kd.R_append k90 (w0 := w) w.heap.size rfl (.tmp 66) (.tmp 70) 78 90 (.agg #[(.int .i64 0), (.int .i64 0), (.int .i64 0), (.int .i64 0), (.bool false), (.int .i64 0)]) 48 rfl Try.underlying78 info90 rfl (by decide) (by omega) u9 x9_2 (⟨(⟨a1_0, a1_1, a1_2, a1_3, a1_4⟩ : S88), (rd l2 x55_2)⟩ : S90) [.int .i64 a1_0, .int .i64 a1_1, .int .i64 a1_2, .int .i64 a1_3, .bool a1_4, .int .i64 (rd l2 x55_2)] (fun k_ => some k_ ≠ (u10 : Value).ownBlock) (fun _ => False) rfl rfl ?aP (fun _ hk => hk.elim) ?aF ?aO ?aB ?aS ?aL ?_; (case aP => exact k90_mkM _ _ _ (⟨(⟨a1_0, a1_1, a1_2, a1_3, a1_4⟩ : S88), (rd l2 x55_2)⟩ : S90)); (case aB => exact (bl3_ HB (IsS180.ge HI1224.out) GE1212.out GE1213.out)); (case aF => exact (fun k_ hk => Kd.fresh' (Kd.R_lt (ro_ HO_10)) k_ hk)); (case aO => exact (ro_ HO_9)); (case aS => exact (below_size (bl3_ HB (IsS180.ge HI1224.out) GE1212.out GE1213.out))); (case aL => have := LMc50.out; omega); intro v1229 w66 ho hb hg hat; rw [← Ny1228.out] at ho; have HO1230 := A_ (ho); replace HO_10 := A_ (Kd.R_after (ok := (fun _ => True)) (by (with_reducible repeat (first | apply Kd.R_alloc | apply Kd.R_drewN | apply Kd.R_drew)); exact Kd.R_mono HO_10.out (fun _ hk => ⟨trivial, hk⟩)) hg hat); replace BK1212 := A_ (blk_grown (g := gb1212) (o := .cells #[.slice A0_0 l0_0.length c0_0, .slice A0_1 l0_1.length c0_1, .slice A0_2 l0_2.length c0_2, .int .i64 a0_3, .int .i64 a0_4] 56 (0, 0)) (bx_ BK1212) hg (Kd.R_ne HO_9.out BK1212.out (by decide))); replace BK1213 := A_ (blk_grown (g := gb1213) (o := .cells #[.int .i64 a1_0, .int .i64 a1_1, .int .i64 a1_2, .int .i64 a1_3, .bool a1_4] 88 (0, 0)) (bx_ BK1213) hg (Kd.R_ne HO_9.out BK1213.out (by decide))); replace HI1224 := A_ (IsS180.grown (is2_ HI1224 NB1224_1212.out NB1224_1213.out) hg (IsS180.own_ne HI1224.out HO_9.out (by decide))); replace HB := A_ (hb); clear HO_9; clear ho hb hg hat; have hcz67_0 := cz_ BK1213 0; have hcz67_1 := cz_ BK1213 1; have hcz67_2 := cz_ BK1213 2; have hcz67_3 := cz_ BK1213 3; have hcz67_4 := cz_ BK1213 4; have hfz67_0 := blk_frozen BK1213.out 0; have hfz67_1 := blk_frozen BK1213.out 1; have hfz67_2 := blk_frozen BK1213.out 2; have hfz67_3 := blk_frozen BK1213.out 3; have hfz67_4 := blk_frozen BK1213.out 4) | ((with_reducible refine gate_builtin (b := .append) (xs := #[.tmp 72, .tmp 75]) rfl ?_); at_builtin; refine Kd.R_append k90 (w0 := w) w.heap.size rfl (.tmp 72) (.tmp 75) 78 90 (.agg #[(.int .i64 0), (.int .i64 0), (.int .i64 0), (.int .i64 0), (.bool false), (.int .i64 0)]) 48 rfl Try.underlying78 info90 rfl (by decide) (by omega) u10 x10_2 (⟨(⟨a1_0, a1_1, a1_2, a1_3, a1_4⟩ : S88), 0⟩ : S90) [.int .i64 a1_0, .int .i64 a1_1, .int .i64 a1_2, .int .i64 a1_3, .bool a1_4, .int .i64 0] (fun k_ => some k_ ≠ (v1229 : Value).ownBlock) (fun _ => False) rfl rfl ?aP (fun _ hk => hk.elim) ?aF ?aO ?aB ?aS ?aL ?_; (case aP => exact k90_mkM _ _ _ (⟨(⟨a1_0, a1_1, a1_2, a1_3, a1_4⟩ : S88), 0⟩ : S90)); (case aB => exact (bl3_ HB (IsS180.ge HI1224.out) GE1212.out GE1213.out)); (case aF => exact (fun k_ hk => Kd.fresh' (Kd.R_lt (ro_ HO1230)) k_ hk)); (case aO => exact (by (with_reducible repeat (first | apply Kd.R_alloc | apply Kd.R_drewN | apply Kd.R_drew)); exact Kd.R_mono HO_10.out (fun _ hk => hk.2))); (case aS => exact (below_size (bl3_ HB (IsS180.ge HI1224.out) GE1212.out GE1213.out))); (case aL => have := LMc51.out; omega); intro v1232 w68 ho hb hg hat; rw [← Ny1231.out] at ho; have HO1233 := A_ (ho); replace BK1212 := A_ (blk_grown (g := gb1212) (o := .cells #[.slice A0_0 l0_0.length c0_0, .slice A0_1 l0_1.length c0_1, .slice A0_2 l0_2.length c0_2, .int .i64 a0_3, .int .i64 a0_4] 56 (0, 0)) (bx_ BK1212) hg (Kd.R_ne HO_10.out BK1212.out (by decide))); replace BK1213 := A_ (blk_grown (g := gb1213) (o := .cells #[.int .i64 a1_0, .int .i64 a1_1, .int .i64 a1_2, .int .i64 a1_3, .bool a1_4] 88 (0, 0)) (bx_ BK1213) hg (Kd.R_ne HO_10.out BK1213.out (by decide))); replace HI1224 := A_ (IsS180.grown (is2_ HI1224 NB1224_1212.out NB1224_1213.out) hg (IsS180.own_ne HI1224.out HO_10.out (by decide))); replace HO1230 := A_ (Kd.R_after (ok := (fun _ => True)) (by (with_reducible repeat (first | apply Kd.R_alloc | apply Kd.R_drewN | apply Kd.R_drew)); exact Kd.R_mono HO1230.out (fun _ hk => ⟨trivial, hk⟩)) hg hat); replace HB := A_ (hb); clear HO_10; clear ho hb hg hat))
                go_roundg kj46
                case measure => have := HJ6.out; have := HK2.out; have := HJ46.out; omega
                case rel => exact ⟨(y1228), (y1231), (wrap64 (x11_2 + (rd l2 x55_2))), (wrap64 (x55_2 + 1)), (sx_), (sx_), H', ⟨by have := HJ6.out; have := HK2.out; have := HJ46.out; omega⟩, ⟨by (with_reducible repeat (first | apply Kd.R_alloc | apply Kd.R_drewN | apply Kd.R_drew)); exact Kd.R_mono HO1230.out (fun _ hk => hk.2)⟩, ⟨ro_ HO1233⟩, ⟨bx_ BK1212⟩, ⟨bx_ BK1213⟩, ⟨is2_ HI1224 NB1224_1212.out NB1224_1213.out⟩, ⟨bl3_ HB (IsS180.ge HI1224.out) GE1212.out GE1213.out⟩⟩
              ·rw [if_neg c51] at H
               exact absurd H (by simp)
             ·rw [if_neg c50] at H
              exact absurd H (by simp)
         ·rw [if_neg c46] at H
          exact absurd H (by simp)
        ·rw [if_neg c45] at H
         exact absurd H (by simp)
       ·rw [if_neg c44] at H
        have c44b0 : decide (x55_2 < (l2.length : Int)) = false := decide_eq_false c44
        clear c44
        replace H := Option.bind_eq_some_iff.mp H
        obtain ⟨⟨t1235, t1238, t1239, t1240, t1241, t1242, t1243, t1244, t1245, t1246, t1247⟩, A690, H⟩ := H
        replace H : ((tax_Year.f k2 l0_0 l0_1 l0_2 a0_3 a0_4 t1239 t1240 t1241 t1242 t1243 t1244 t1245 t1246 t1247 x10_2).bind fun bt1248 => (if t1238 = 0 then (stipendlaw13_TaxSpreads.j3 k2 l2 x11_2 t1235 bt1248.1 (bt1248.2.1 != 0) l0_0 l0_1 l0_2 a0_3 a0_4 a1_0 a1_1 a1_2 a1_3 a1_4) else (stipendlaw13_TaxSpreads.j3 k2 l2 x11_2 t1235 bt1248.1 true l0_0 l0_1 l0_2 a0_3 a0_4 a1_0 a1_1 a1_2 a1_3 a1_4))) = some r := H
        have A69 := A_ A690
        clear A690
        replace H := Option.bind_eq_some_iff.mp H
        obtain ⟨⟨t1248, t1251, t1252, t1253, t1254, t1255, t1256, t1257, t1258, t1259, t1260⟩, A700, H⟩ := H
        replace H : (if t1238 = 0 then (stipendlaw13_TaxSpreads.j3 k2 l2 x11_2 t1235 t1248 (t1251 != 0) l0_0 l0_1 l0_2 a0_3 a0_4 a1_0 a1_1 a1_2 a1_3 a1_4) else (stipendlaw13_TaxSpreads.j3 k2 l2 x11_2 t1235 t1248 true l0_0 l0_1 l0_2 a0_3 a0_4 a1_0 a1_1 a1_2 a1_3 a1_4)) = some r := H
        have A70 := A_ A700
        clear A700
        have HC71 := A_ H
        clear H
        have hnb72 := NB1212_1213.out
        have hnc72 := NB1213_1212.out
        have hnb73 := NB1212_1224.out
        have hnc73 := NB1224_1212.out
        have hcz74_0 := cz_ BK1212 0
        have hcz74_1 := cz_ BK1212 1
        have hcz74_2 := cz_ BK1212 2
        have hcz74_3 := cz_ BK1212 3
        have hcz74_4 := cz_ BK1212 4
        have hfz74_0 := blk_frozen BK1212.out 0
        have hfz74_1 := blk_frozen BK1212.out 1
        have hfz74_2 := blk_frozen BK1212.out 2
        have hfz74_3 := blk_frozen BK1212.out 3
        have hfz74_4 := blk_frozen BK1212.out 4
        obtain ⟨Ao75, co75, eo75⟩ := Kd.R_slice HO_9.out
        subst eo75
        go_upto_region 21 with (first | ((with_reducible refine gate_callee (f := 54) rfl ?_); refine gm_ (some 94) Try.func54 #[.agg #[.slice A0_0 l0_0.length c0_0, .slice A0_1 l0_1.length c0_1, .slice A0_2 l0_2.length c0_2, .int .i64 a0_3, .int .i64 a0_4], .pointer (some ⟨g1224, 0, none⟩), .slice Ao75 x9_2.length co75] ?_; (with_reducible refine (tax_Year.calls k2 _ _ l0_0 _ _ l0_1 _ _ l0_2 a0_3 a0_4 g1224 t1215 t1216 t1217 t1218 t1219 t1220 t1221 t1222 t1223 _ _ x9_2 t1235 t1238 t1239 t1240 t1241 t1242 t1243 t1244 t1245 t1246 t1247 w _ ?side1 ?side2 ?side3 ?side4 ?side5 ?side6 ?side7 ?side8 ?side9 ?side10 A69.out).mono ?_); (case side1 => repeat (first | (with_reducible first | exact HI1224.out | apply IsS180.alloc | apply IsS180.drewN | apply IsS180.drew | apply IsS180.set_0 | apply IsS180.set_1 | apply IsS180.set_2 | apply IsS180.set_3 | apply IsS180.set_4 | apply IsS180.set_5 | apply IsS180.set_6 | apply IsS180.set_7 | apply IsS180.set_8 | refine IsS180.far ?_ NB1224_1212.out _ | refine IsS180.far ?_ NB1224_1213.out _) | exact HI1224.out)); (case side2 => repeat (first | (with_reducible first | exact HB.out | apply below_alloc | apply pw_below_drewN | apply below_drew1 | refine below_set ?_ (IsS180.ge HI1224.out) | refine below_set ?_ GE1212.out | refine below_set ?_ GE1213.out) | exact HB.out)); (case side3 => exact Kd.C_foot_came (Kd.heap_slice 106 k106_heap) HR0_0.out (bl3_ HB (IsS180.ge HI1224.out) GE1212.out GE1213.out) (IsS180.ge HI1224.out)); (case side4 => exact HC0_0.out); (case side5 => exact Kd.C_foot_came k120_heap HR0_1.out (bl3_ HB (IsS180.ge HI1224.out) GE1212.out GE1213.out) (IsS180.ge HI1224.out)); (case side6 => exact HC0_1.out); (case side7 => exact Kd.C_foot_came k209_heap HR0_2.out (bl3_ HB (IsS180.ge HI1224.out) GE1212.out GE1213.out) (IsS180.ge HI1224.out)); (case side8 => exact HC0_2.out); (case side9 => exact Kd.C_foot_own (IsS180.apart (show IsS180 w _ g1224 t1215 t1216 t1217 t1218 t1219 t1220 t1221 t1222 t1223 from is2_ HI1224 NB1224_1212.out NB1224_1213.out) (ro_ HO_9) (by decide)) (fun _ h_ => h_.2)); (case side10 => exact (Kd.R_reads' HO_9.out).2.1); rintro e w76 ⟨v1236, rfl, ho0, hi, hb, hk⟩; refine ⟨_, rfl, ?_⟩; have HO1237 := A_ (Kd.R_lower ho0 (below_size (bl3_ HB (IsS180.ge HI1224.out) GE1212.out GE1213.out))); replace HO_9 := A_ (Kd.R_mono (Kd.R_keep (IsS180.apart (show IsS180 w _ g1224 t1215 t1216 t1217 t1218 t1219 t1220 t1221 t1222 t1223 from is2_ HI1224 NB1224_1212.out NB1224_1213.out) (ro_ HO_9) (by decide)) hk (fun _ h => h.2)) (fun _ h => h.1)); replace HO_10 := A_ (Kd.R_mono (Kd.R_keep (IsS180.apart (show IsS180 w _ g1224 t1215 t1216 t1217 t1218 t1219 t1220 t1221 t1222 t1223 from is2_ HI1224 NB1224_1212.out NB1224_1213.out) (ro_ HO_10) (by decide)) hk (fun _ h => h.2)) (fun _ h => h.1)); replace BK1212 := A_ (KeepBut.blk hk (g' := gb1212) (o := .cells #[.slice A0_0 l0_0.length c0_0, .slice A0_1 l0_1.length c0_1, .slice A0_2 l0_2.length c0_2, .int .i64 a0_3, .int .i64 a0_4] 56 (0, 0)) (bx_ BK1212) NB1212_1224.out (by simp)); replace BK1213 := A_ (KeepBut.blk hk (g' := gb1213) (o := .cells #[.int .i64 a1_0, .int .i64 a1_1, .int .i64 a1_2, .int .i64 a1_3, .bool a1_4] 88 (0, 0)) (bx_ BK1213) NB1213_1224.out (by simp)); replace HB := A_ (hb); replace HI1224 := A_ (hi); (try clear hb); (try clear hb2); (try clear hk); (try clear hi); (try clear ho0); have hcz77_0 := cz_ BK1212 0; have hcz77_1 := cz_ BK1212 1; have hcz77_2 := cz_ BK1212 2; have hcz77_3 := cz_ BK1212 3; have hcz77_4 := cz_ BK1212 4; have hfz77_0 := blk_frozen BK1212.out 0; have hfz77_1 := blk_frozen BK1212.out 1; have hfz77_2 := blk_frozen BK1212.out 2; have hfz77_3 := blk_frozen BK1212.out 3; have hfz77_4 := blk_frozen BK1212.out 4; obtain ⟨Ao78, co78, eo78⟩ := Kd.R_slice HO_10.out; subst eo78) | ((with_reducible refine gate_callee (f := 54) rfl ?_); refine gm_ (some 101) Try.func54 #[.agg #[.slice A0_0 l0_0.length c0_0, .slice A0_1 l0_1.length c0_1, .slice A0_2 l0_2.length c0_2, .int .i64 a0_3, .int .i64 a0_4], .pointer (some ⟨g1224, 0, none⟩), .slice Ao78 x10_2.length co78] ?_; (with_reducible refine (tax_Year.calls k2 _ _ l0_0 _ _ l0_1 _ _ l0_2 a0_3 a0_4 g1224 t1239 t1240 t1241 t1242 t1243 t1244 t1245 t1246 t1247 _ _ x10_2 t1248 t1251 t1252 t1253 t1254 t1255 t1256 t1257 t1258 t1259 t1260 w _ ?side1 ?side2 ?side3 ?side4 ?side5 ?side6 ?side7 ?side8 ?side9 ?side10 A70.out).mono ?_); (case side1 => repeat (first | (with_reducible first | exact HI1224.out | apply IsS180.alloc | apply IsS180.drewN | apply IsS180.drew | apply IsS180.set_0 | apply IsS180.set_1 | apply IsS180.set_2 | apply IsS180.set_3 | apply IsS180.set_4 | apply IsS180.set_5 | apply IsS180.set_6 | apply IsS180.set_7 | apply IsS180.set_8 | refine IsS180.far ?_ NB1224_1212.out _ | refine IsS180.far ?_ NB1224_1213.out _) | exact HI1224.out)); (case side2 => repeat (first | (with_reducible first | exact HB.out | apply below_alloc | apply pw_below_drewN | apply below_drew1 | refine below_set ?_ (IsS180.ge HI1224.out) | refine below_set ?_ GE1212.out | refine below_set ?_ GE1213.out) | exact HB.out)); (case side3 => exact Kd.C_foot_came (Kd.heap_slice 106 k106_heap) HR0_0.out (bl3_ HB (IsS180.ge HI1224.out) GE1212.out GE1213.out) (IsS180.ge HI1224.out)); (case side4 => exact HC0_0.out); (case side5 => exact Kd.C_foot_came k120_heap HR0_1.out (bl3_ HB (IsS180.ge HI1224.out) GE1212.out GE1213.out) (IsS180.ge HI1224.out)); (case side6 => exact HC0_1.out); (case side7 => exact Kd.C_foot_came k209_heap HR0_2.out (bl3_ HB (IsS180.ge HI1224.out) GE1212.out GE1213.out) (IsS180.ge HI1224.out)); (case side8 => exact HC0_2.out); (case side9 => exact Kd.C_foot_own (IsS180.apart (show IsS180 w _ g1224 t1239 t1240 t1241 t1242 t1243 t1244 t1245 t1246 t1247 from is2_ HI1224 NB1224_1212.out NB1224_1213.out) (ro_ HO_10) (by decide)) (fun _ h_ => h_.2)); (case side10 => exact (Kd.R_reads' HO_10.out).2.1); rintro e w79 ⟨v1249, rfl, ho0, hi, hb, hk⟩; refine ⟨_, rfl, ?_⟩; have HO1250 := A_ (Kd.R_lower (Kd.R_new' ho0 (Kd.R_lt (ro_ HO1237))) (below_size (bl3_ HB (IsS180.ge HI1224.out) GE1212.out GE1213.out))); replace HO_9 := A_ (Kd.R_mono (Kd.R_keep (IsS180.apart (show IsS180 w _ g1224 t1239 t1240 t1241 t1242 t1243 t1244 t1245 t1246 t1247 from is2_ HI1224 NB1224_1212.out NB1224_1213.out) (ro_ HO_9) (by decide)) hk (fun _ h => h.2)) (fun _ h => h.1)); replace HO_10 := A_ (Kd.R_mono (Kd.R_keep (IsS180.apart (show IsS180 w _ g1224 t1239 t1240 t1241 t1242 t1243 t1244 t1245 t1246 t1247 from is2_ HI1224 NB1224_1212.out NB1224_1213.out) (ro_ HO_10) (by decide)) hk (fun _ h => h.2)) (fun _ h => h.1)); replace BK1212 := A_ (KeepBut.blk hk (g' := gb1212) (o := .cells #[.slice A0_0 l0_0.length c0_0, .slice A0_1 l0_1.length c0_1, .slice A0_2 l0_2.length c0_2, .int .i64 a0_3, .int .i64 a0_4] 56 (0, 0)) (bx_ BK1212) NB1212_1224.out (by simp)); replace BK1213 := A_ (KeepBut.blk hk (g' := gb1213) (o := .cells #[.int .i64 a1_0, .int .i64 a1_1, .int .i64 a1_2, .int .i64 a1_3, .bool a1_4] 88 (0, 0)) (bx_ BK1213) NB1213_1224.out (by simp)); replace HO1237 := A_ (Kd.R_mono (Kd.R_told (Kd.R_oldK (IsS180.apart (show IsS180 w _ g1224 t1239 t1240 t1241 t1242 t1243 t1244 t1245 t1246 t1247 from is2_ HI1224 NB1224_1212.out NB1224_1213.out) (ro_ HO1237) (by decide)) hk) (Kd.R_base ho0)) (fun _ h_ => h_.1)); replace HB := A_ (hb); replace HI1224 := A_ (hi); (try clear hb); (try clear hb2); (try clear hk); (try clear hi); (try clear ho0)))
        (try simp only [Act.put, List.setIfInBounds_toArray, List.set_cons_zero, List.set_cons_succ])
        go_cut [109] (fun v109 wc => ∃ (kq : Nat) (x109_70 : Bool), v109 = .bool x109_70 ∧ Aside0 (stipendlaw13_TaxSpreads.j3 kq l2 x11_2 t1235 t1248 x109_70 l0_0 l0_1 l0_2 a0_3 a0_4 a1_0 a1_1 a1_2 a1_3 a1_4 = some r) ∧ Aside0 (kq ≤ k2) ∧ Aside0 (Kd.R (Kd.int .i64) 2 wc w.heap.size (fun k_ => some k_ ≠ (v1249 : Value).ownBlock) v1236 t1235) ∧ Aside0 (Kd.R (Kd.int .i64) 2 wc w.heap.size (fun k_ => some k_ ≠ (v1236 : Value).ownBlock) v1249 t1248) ∧ Aside0 (wc.heap[gb1212]? = some (.cells #[(.slice A0_0 l0_0.length c0_0), (.slice A0_1 l0_1.length c0_1), (.slice A0_2 l0_2.length c0_2), .int .i64 a0_3, .int .i64 a0_4] 56 (0, 0))) ∧ Aside0 (wc.heap[gb1213]? = some (.cells #[.int .i64 a1_0, .int .i64 a1_1, .int .i64 a1_2, .int .i64 a1_3, .bool a1_4] 88 (0, 0))) ∧ Aside0 (Below w.heap.size w wc))
        case first =>
         have H := HC71.out
         clear HC71
         by_cases c80 : t1238 = 0
         ·rw [if_pos c80] at H
          have c80b0 : (t1238 == 0) = true := beq_iff_eq.mpr c80
          have c80b1 : (t1238 != 0) = false := bne_eq_false_iff_eq.mpr c80
          clear c80
          (first | rw [c80b0] | (simp only [i64_w, i32_w]; rw [c80b0]) | skip)
          have H' := A_ H
          clear H
          go_wp2
          go_meet
          case rel => exact ⟨_, ((t1251 != 0)), (sx_), H', ⟨by have := HJ6.out; have := HK2.out; first | omega | exact Nat.le_refl _⟩, ⟨by (with_reducible repeat (first | apply Kd.R_alloc | apply Kd.R_drewN | apply Kd.R_drew)); exact Kd.R_mono HO1237.out (fun _ hk => hk.2)⟩, ⟨by (with_reducible repeat (first | apply Kd.R_alloc | apply Kd.R_drewN | apply Kd.R_drew)); exact Kd.R_mono HO1250.out (fun _ hk => hk.2)⟩, ⟨bx_ BK1212⟩, ⟨bx_ BK1213⟩, ⟨bl3_ HB (IsS180.ge HI1224.out) GE1212.out GE1213.out⟩⟩
         ·rw [if_neg c80] at H
          have c80b0 : (t1238 == 0) = false := beq_eq_false_iff_ne.mpr c80
          have c80b1 : (t1238 != 0) = true := bne_iff_ne.mpr c80
          (first | rw [c80b0] | (simp only [i64_w, i32_w]; rw [c80b0]) | skip)
          have H' := A_ H
          clear H
          go_wp2
          go_meet
          case rel => exact ⟨_, (true), (sx_), H', ⟨by have := HJ6.out; have := HK2.out; first | omega | exact Nat.le_refl _⟩, ⟨by (with_reducible repeat (first | apply Kd.R_alloc | apply Kd.R_drewN | apply Kd.R_drew)); exact Kd.R_mono HO1237.out (fun _ hk => hk.2)⟩, ⟨by (with_reducible repeat (first | apply Kd.R_alloc | apply Kd.R_drewN | apply Kd.R_drew)); exact Kd.R_mono HO1250.out (fun _ hk => hk.2)⟩, ⟨bx_ BK1212⟩, ⟨bx_ BK1213⟩, ⟨bl3_ HB (IsS180.ge HI1224.out) GE1212.out GE1213.out⟩⟩
        case rest =>
         clear HC71
         try clear c1
         try clear p1
         try clear q1
         try clear hx1
         try clear c2
         try clear p2
         try clear c3
         try clear c4
         try clear c5
         try clear p5
         try clear q5
         try clear hx5
         try clear qi5
         try clear hf5
         try clear c6
         try clear p6
         try clear hx6
         try clear hf6
         try clear c7
         try clear c8
         try clear p12
         try clear q12
         try clear hx12
         try clear c13
         try clear c14
         try clear c15
         try clear c16
         try clear c18
         try clear c22
         try clear c22b0
         try clear c22b1
         try clear c22b2
         try clear c23
         try clear c24
         try clear c26
         try clear c30
         try clear c31
         try clear c33
         try clear c37
         try clear c38
         try clear c40
         try clear c43
         try clear c44
         try clear c44b0
         try clear c45
         try clear c45b0
         try clear c46
         try clear c46b0
         try clear c48
         try clear c48b0
         try clear c49
         try clear c50
         try clear c51
         try clear c52
         try clear c52b0
         try clear c52b1
         try clear c53
         try clear c53b0
         try clear c53b1
         try clear c54
         try clear p54
         try clear q54
         try clear hx54
         try clear qi54
         try clear hf54
         try clear c55
         try clear c56
         try clear c61
         try clear hx61
         try clear hf61
         try clear c63
         try clear c64
         try clear p64
         try clear c72
         try clear c73
         try clear c80
         try clear c80b0
         try clear c80b1
         try clear hcz17_0 hcz17_1 hcz17_2 hcz17_3 hcz17_4
         try clear hcz19_0 hcz19_1 hcz19_2 hcz19_3 hcz19_4
         try clear hcz21_0 hcz21_1 hcz21_2 hcz21_3 hcz21_4
         try clear hcz25_0 hcz25_1 hcz25_2 hcz25_3 hcz25_4
         try clear hcz27_0 hcz27_1 hcz27_2 hcz27_3 hcz27_4
         try clear hcz29_0 hcz29_1 hcz29_2 hcz29_3 hcz29_4
         try clear hcz32_0 hcz32_1 hcz32_2 hcz32_3 hcz32_4
         try clear hcz34_0 hcz34_1 hcz34_2 hcz34_3 hcz34_4
         try clear hcz36_0 hcz36_1 hcz36_2 hcz36_3 hcz36_4
         try clear hcz39_0 hcz39_1 hcz39_2 hcz39_3 hcz39_4
         try clear hcz41_0 hcz41_1 hcz41_2 hcz41_3 hcz41_4
         try clear hcz57_0 hcz57_1 hcz57_2 hcz57_3 hcz57_4
         try clear hcz59_0 hcz59_1 hcz59_2 hcz59_3 hcz59_4
         try clear hcz65_0 hcz65_1 hcz65_2 hcz65_3 hcz65_4
         try clear hcz67_0 hcz67_1 hcz67_2 hcz67_3 hcz67_4
         try clear hcz74_0 hcz74_1 hcz74_2 hcz74_3 hcz74_4
         try clear hcz77_0 hcz77_1 hcz77_2 hcz77_3 hcz77_4
         try clear hfz17_0 hfz17_1 hfz17_2 hfz17_3 hfz17_4
         try clear hfz19_0 hfz19_1 hfz19_2 hfz19_3 hfz19_4
         try clear hfz21_0 hfz21_1 hfz21_2 hfz21_3 hfz21_4
         try clear hfz25_0 hfz25_1 hfz25_2 hfz25_3 hfz25_4
         try clear hfz27_0 hfz27_1 hfz27_2 hfz27_3 hfz27_4
         try clear hfz29_0 hfz29_1 hfz29_2 hfz29_3 hfz29_4
         try clear hfz32_0 hfz32_1 hfz32_2 hfz32_3 hfz32_4
         try clear hfz34_0 hfz34_1 hfz34_2 hfz34_3 hfz34_4
         try clear hfz36_0 hfz36_1 hfz36_2 hfz36_3 hfz36_4
         try clear hfz39_0 hfz39_1 hfz39_2 hfz39_3 hfz39_4
         try clear hfz41_0 hfz41_1 hfz41_2 hfz41_3 hfz41_4
         try clear hfz57_0 hfz57_1 hfz57_2 hfz57_3 hfz57_4
         try clear hfz59_0 hfz59_1 hfz59_2 hfz59_3 hfz59_4
         try clear hfz65_0 hfz65_1 hfz65_2 hfz65_3 hfz65_4
         try clear hfz67_0 hfz67_1 hfz67_2 hfz67_3 hfz67_4
         try clear hfz74_0 hfz74_1 hfz74_2 hfz74_3 hfz74_4
         try clear hfz77_0 hfz77_1 hfz77_2 hfz77_3 hfz77_4
         try clear hx1227_0
         try clear hx54_0
         try clear hx54_1
         try clear hx54_2
         try clear hx54_3
         try clear hx54_4
         try clear hx54_5
         try clear hx61_5
         try clear p1
         try clear p12
         try clear p1227
         try clear p2
         try clear p54
         try clear q1
         try clear q12
         try clear q1227
         try clear q54
         obtain ⟨kq, x109_70, rfl, HA, HJ70, HO_14, HO_16, BK1212, BK1213, HB⟩ := hcut
         cases kq with
         | zero => exact absurd HA.out (by simp [stipendlaw13_TaxSpreads.j3])
         | succ kj70 =>
          have H := HA.out
          clear HA
          simp only [stipendlaw13_TaxSpreads.j3] at H
          by_cases c81 : x109_70 = true
          ·subst c81
           have H1 : (none) = some r := by rw [if_pos rfl] at H; exact H
           clear H
           have H := H1
           clear H1
           exact absurd H (by simp)
          ·replace c81 := Bool.eq_false_iff.mpr c81
           subst c81
           have H1 : ((tax_Due.f kj70 l0_0 l0_1 l0_2 a0_3 a0_4 a1_0 a1_1 a1_2 a1_3 a1_4 x11_2 (l2.length : Int) 12).bind fun bt1261 => ((frac_Of.f kj70 bt1261.1).bind fun bt1263 => (if 0 ≤ (wrap64 ((l2.length : Int) - 1)) then (if (wrap64 ((l2.length : Int) - 1)) < (t1235.length : Int) then (if (wrap64 ((l2.length : Int) - 1)) < (t1248.length : Int) then (if (rd t1235 (wrap64 ((l2.length : Int) - 1))) = (rd t1248 (wrap64 ((l2.length : Int) - 1))) then (if bt1261.2 = 0 then (if (rd t1235 (wrap64 ((l2.length : Int) - 1))) = bt1261.1 then (if bt1263.2 = 0 then ((frac_Right.f bt1263.1).bind fun t1268 => (some t1268)) else (none)) else (none)) else (none)) else (none)) else (none)) else (none)) else (none)))) = some r := by rw [if_neg (show ¬ (false = true) by decide)] at H; exact H
           clear H
           have H := H1
           clear H1
           replace H := Option.bind_eq_some_iff.mp H
           obtain ⟨⟨t1261, t1262⟩, A820, H⟩ := H
           replace H : ((frac_Of.f kj70 t1261).bind fun bt1263 => (if 0 ≤ (wrap64 ((l2.length : Int) - 1)) then (if (wrap64 ((l2.length : Int) - 1)) < (t1235.length : Int) then (if (wrap64 ((l2.length : Int) - 1)) < (t1248.length : Int) then (if (rd t1235 (wrap64 ((l2.length : Int) - 1))) = (rd t1248 (wrap64 ((l2.length : Int) - 1))) then (if t1262 = 0 then (if (rd t1235 (wrap64 ((l2.length : Int) - 1))) = t1261 then (if bt1263.2 = 0 then ((frac_Right.f bt1263.1).bind fun t1268 => (some t1268)) else (none)) else (none)) else (none)) else (none)) else (none)) else (none)) else (none))) = some r := H
           have A82 := A_ A820
           clear A820
           replace H := Option.bind_eq_some_iff.mp H
           obtain ⟨⟨t1263, t1264⟩, A830, H⟩ := H
           replace H : (if 0 ≤ (wrap64 ((l2.length : Int) - 1)) then (if (wrap64 ((l2.length : Int) - 1)) < (t1235.length : Int) then (if (wrap64 ((l2.length : Int) - 1)) < (t1248.length : Int) then (if (rd t1235 (wrap64 ((l2.length : Int) - 1))) = (rd t1248 (wrap64 ((l2.length : Int) - 1))) then (if t1262 = 0 then (if (rd t1235 (wrap64 ((l2.length : Int) - 1))) = t1261 then (if t1264 = 0 then ((frac_Right.f t1263).bind fun t1268 => (some t1268)) else (none)) else (none)) else (none)) else (none)) else (none)) else (none)) else (none)) = some r := H
           have A83 := A_ A830
           clear A830
           obtain ⟨ji84, hji84⟩ : ∃ j_ : Int, (wrap64 ((l2.length : Int) - 1)) = j_ := ⟨_, rfl⟩
           replace H : (if 0 ≤ (ji84) then (if (ji84) < (t1235.length : Int) then (if (ji84) < (t1248.length : Int) then (if (rd t1235 (ji84)) = (rd t1248 (ji84)) then (if t1262 = 0 then (if (rd t1235 (ji84)) = t1261 then (if t1264 = 0 then ((frac_Right.f t1263).bind fun t1268 => (some t1268)) else (none)) else (none)) else (none)) else (none)) else (none)) else (none)) else (none)) = some r := by first | (rw [hji84] at H; exact H) | (simp only [hji84] at H ⊢; exact H)
           (try rw [hji84] at A82)
           (try rw [hji84] at A83)
           have hji84w : (IntKind.i64.wrap ((l2.length : Int) - 1)) = ji84 := (i64_w _).trans hji84
           by_cases c85 : 0 ≤ (ji84)
           ·rw [if_pos c85] at H
            have c85b0 : decide (0 ≤ (ji84)) = true := decide_eq_true c85
            clear c85
            by_cases c86 : (ji84) < (t1235.length : Int)
            ·rw [if_pos c86] at H
             have c86b0 : decide ((ji84) < (t1235.length : Int)) = true := decide_eq_true c86
             clear c86
             by_cases c87 : (ji84) < (t1248.length : Int)
             ·rw [if_pos c87] at H
              have c87b0 : decide ((ji84) < (t1248.length : Int)) = true := decide_eq_true c87
              clear c87
              by_cases c88 : (rd t1235 (ji84)) = (rd t1248 (ji84))
              ·rw [if_pos c88] at H
               have c88b0 : ((rd t1235 (ji84)) == (rd t1248 (ji84))) = true := beq_iff_eq.mpr c88
               have c88b1 : ((rd t1235 (ji84)) != (rd t1248 (ji84))) = false := bne_eq_false_iff_eq.mpr c88
               clear c88
               by_cases c89 : t1262 = 0
               ·rw [if_pos c89] at H
                have c89b0 : (t1262 == 0) = true := beq_iff_eq.mpr c89
                have c89b1 : (t1262 != 0) = false := bne_eq_false_iff_eq.mpr c89
                clear c89
                by_cases c90 : (rd t1235 (ji84)) = t1261
                ·rw [if_pos c90] at H
                 have c90b0 : ((rd t1235 (ji84)) == t1261) = true := beq_iff_eq.mpr c90
                 have c90b1 : ((rd t1235 (ji84)) != t1261) = false := bne_eq_false_iff_eq.mpr c90
                 clear c90
                 by_cases c91 : t1264 = 0
                 ·rw [if_pos c91] at H
                  have c91b0 : (t1264 == 0) = true := beq_iff_eq.mpr c91
                  have c91b1 : (t1264 != 0) = false := bne_eq_false_iff_eq.mpr c91
                  clear c91
                  replace H := Option.bind_eq_some_iff.mp H
                  obtain ⟨t1268, A920, H⟩ := H
                  replace H : (some t1268) = some r := H
                  have A92 := A_ A920
                  clear A920
                  obtain rfl := Option.some.inj H
                  have hnb93 := NB1212_1213.out
                  have hnc93 := NB1213_1212.out
                  have hcz94_0 := cz_ BK1212 0
                  have hcz94_1 := cz_ BK1212 1
                  have hcz94_2 := cz_ BK1212 2
                  have hcz94_3 := cz_ BK1212 3
                  have hcz94_4 := cz_ BK1212 4
                  have hfz94_0 := blk_frozen BK1212.out 0
                  have hfz94_1 := blk_frozen BK1212.out 1
                  have hfz94_2 := blk_frozen BK1212.out 2
                  have hfz94_3 := blk_frozen BK1212.out 3
                  have hfz94_4 := blk_frozen BK1212.out 4
                  have hcz95_0 := cz_ BK1213 0
                  have hcz95_1 := cz_ BK1213 1
                  have hcz95_2 := cz_ BK1213 2
                  have hcz95_3 := cz_ BK1213 3
                  have hcz95_4 := cz_ BK1213 4
                  have hfz95_0 := blk_frozen BK1213.out 0
                  have hfz95_1 := blk_frozen BK1213.out 1
                  have hfz95_2 := blk_frozen BK1213.out 2
                  have hfz95_3 := blk_frozen BK1213.out 3
                  have hfz95_4 := blk_frozen BK1213.out 4
                  try go_wp2_with (first | ((with_reducible refine gate_callee (f := 80) rfl ?_); refine gm_ (some 116) Try.func80 #[.agg #[.slice A0_0 l0_0.length c0_0, .slice A0_1 l0_1.length c0_1, .slice A0_2 l0_2.length c0_2, .int .i64 a0_3, .int .i64 a0_4], .agg #[.int .i64 a1_0, .int .i64 a1_1, .int .i64 a1_2, .int .i64 a1_3, .bool a1_4], .int .i64 x11_2, .int .i64 (l2.length : Int), .int .i64 12] ?_; (with_reducible refine (tax_Due.calls kj70 _ _ l0_0 _ _ l0_1 _ _ l0_2 a0_3 a0_4 a1_0 a1_1 a1_2 a1_3 a1_4 x11_2 (l2.length : Int) 12 t1261 t1262 _ ?side1 ?side2 ?side3 ?side4 ?side5 ?side6 A82.out).mono ?_); (case side1 => exact cb_ HR0_0 HB); (case side2 => exact HC0_0.out); (case side3 => exact cb_ HR0_1 HB); (case side4 => exact HC0_1.out); (case side5 => exact cb_ HR0_2 HB); (case side6 => exact HC0_2.out); rintro e w96 ⟨rfl, hb⟩; refine ⟨_, rfl, ?_⟩; replace HO_14 := A_ (Kd.R_below (ro_ HO_14) hb); replace HO_16 := A_ (Kd.R_below (ro_ HO_16) hb); replace BK1212 := A_ (blk_below (bx_ BK1212) hb); replace BK1213 := A_ (blk_below (bx_ BK1213) hb); replace HB := A_ (below_step (bl2_ HB GE1212.out GE1213.out) hb); (try clear hb); (try clear hb2); (try clear hk); (try clear hi)) | ((with_reducible refine gate_callee (f := 90) rfl ?_); refine gm_ (some 124) Try.func90 #[.int .i64 t1261] ?_; (with_reducible refine (frac_Of.calls kj70 t1261 t1263 t1264 _ A83.out).mono ?_); rintro e w97 ⟨rfl, hb⟩; refine ⟨_, rfl, ?_⟩; replace HO_14 := A_ (Kd.R_below (ro_ HO_14) hb); replace HO_16 := A_ (Kd.R_below (ro_ HO_16) hb); replace BK1212 := A_ (blk_below (bx_ BK1212) hb); replace BK1213 := A_ (blk_below (bx_ BK1213) hb); replace HB := A_ (below_step (bl2_ HB GE1212.out GE1213.out) hb); (try clear hb); (try clear hb2); (try clear hk); (try clear hi)))
                  replace HO_14 := A_ (Kd.R_drew HO_14.out)
                  replace HO_16 := A_ (Kd.R_drew HO_16.out)
                  replace BK1212 := A_ (blk_drew BK1212.out)
                  replace BK1213 := A_ (blk_drew BK1213.out)
                  replace HB := A_ (below_drew1 HB.out)
                  obtain ⟨Ao99, co99, eo99⟩ := Kd.R_slice HO_14.out
                  (first | subst eo99 | (injection eo99 with f1_ f2_ f3_; have f4_ := f1_.symm; have f5_ := f3_.symm; clear f1_ f2_ f3_; subst f4_; subst f5_))
                  have p1265 : 0 ≤ ((ji84) : Int) := of_decide_eq_true (by first | (with_reducible assumption) | assumption)
                  have q1265 : (ji84) < (t1235.length : Int) := of_decide_eq_true (by first | (with_reducible assumption) | assumption)
                  obtain ⟨ad1265, e1265, hx1265_0⟩ := Kd.at_int (Kd.R_reads' HO_14.out).2.2 (ji84) p1265 q1265
                  cases e1265
                  replace p1265 := eq_true p1265
                  replace q1265 := eq_true q1265
                  obtain ⟨Ao100, co100, eo100⟩ := Kd.R_slice HO_16.out
                  (first | subst eo100 | (injection eo100 with f1_ f2_ f3_; have f4_ := f1_.symm; have f5_ := f3_.symm; clear f1_ f2_ f3_; subst f4_; subst f5_))
                  have p1266 : 0 ≤ ((ji84) : Int) := of_decide_eq_true (by first | (with_reducible assumption) | assumption)
                  have q1266 : (ji84) < (t1248.length : Int) := of_decide_eq_true (by first | (with_reducible assumption) | assumption)
                  obtain ⟨ad1266, e1266, hx1266_0⟩ := Kd.at_int (Kd.R_reads' HO_16.out).2.2 (ji84) p1266 q1266
                  cases e1266
                  replace p1266 := eq_true p1266
                  replace q1266 := eq_true q1266
                  have p1267 : 0 ≤ ((ji84) : Int) := of_decide_eq_true (by first | (with_reducible assumption) | assumption)
                  have q1267 : (ji84) < (t1235.length : Int) := of_decide_eq_true (by first | (with_reducible assumption) | assumption)
                  obtain ⟨ad1267, e1267, hx1267_0⟩ := Kd.at_int (Kd.R_reads' HO_14.out).2.2 (ji84) p1267 q1267
                  obtain rfl : ad1265 = ad1267 := (by injection e1267)
                  replace p1267 := eq_true p1267
                  replace q1267 := eq_true q1267
                  refine start_ (n := 30) (S := fun w' => w'.cell? (ad1265.add ((ji84)).toNat) = some (.int .i64 (rd t1235 (ji84))) ∧ w'.cell? (ad1266.add ((ji84)).toNat) = some (.int .i64 (rd t1248 (ji84))) ∧ w'.cell? (ad1265.add ((ji84)).toNat) = some (.int .i64 (rd t1235 (ji84)))) (ds := []) #[false, false, false, false, false, false, false, false, false, false, false, false, false, false, false, false, false, false, false, false, false, false, false, false, false, false, false, false, false, false] (by kernel_rfl) rfl rfl ⟨hx1265_0, hx1266_0, hx1267_0⟩ (fun hHeld => ?_); refine with_tabW stipendlaw13_TaxSpreads.tab26 stipendlaw13_TaxSpreads.bits26 (fun HT_ HW_ => ?_)
                  generalize w97.drew = w98 at HO_14 HO_16 BK1212 BK1213 HB hx1265_0 hx1266_0 hx1267_0 hHeld ⊢
                  refine pure_ (i := 0) (N := some 127) (v := ?_) (a' := ?_) #[true, false, false, false, false, false, false, false, false, false, false, false, false, false, false, false, false, false, false, false, false, false, false, false, false, false, false, false, false, false] rfl rfl (any_of HT_.out (by kernel_rfl)) (fun _ _ _ h => h) (Or.inl ⟨by rfl, ?_⟩) ?_ ?_
                  rotate_left
                  ·intro w'
                   go_simp
                   with_reducible rfl
                  rotate_left
                  ·simp only [Act.put, List.setIfInBounds_toArray, List.set_cons_zero, List.set_cons_succ, i64_w, i32_w]
                   rfl
                  refine pure_ (i := 1) (N := some 128) (v := ?_) (a' := ?_) #[true, true, false, false, false, false, false, false, false, false, false, false, false, false, false, false, false, false, false, false, false, false, false, false, false, false, false, false, false, false] rfl rfl (any_of HT_.out (by kernel_rfl)) (fun _ _ _ h => h) (Or.inl ⟨by rfl, ?_⟩) ?_ ?_
                  rotate_left
                  ·intro w'
                   go_simp
                   with_reducible rfl
                  rotate_left
                  ·simp only [Act.put, List.setIfInBounds_toArray, List.set_cons_zero, List.set_cons_succ, i64_w, i32_w]
                   rfl
                  refine pure_ (i := 2) (N := some 129) (v := ?_) (a' := ?_) #[true, true, true, false, false, false, false, false, false, false, false, false, false, false, false, false, false, false, false, false, false, false, false, false, false, false, false, false, false, false] rfl rfl (any_of HT_.out (by kernel_rfl)) (fun _ _ _ h => h) (Or.inl ⟨by rfl, ?_⟩) ?_ ?_
                  rotate_left
                  ·intro w'
                   go_simp
                   with_reducible rfl
                  rotate_left
                  ·simp only [Act.put, List.setIfInBounds_toArray, List.set_cons_zero, List.set_cons_succ, i64_w, i32_w]
                   rfl
                  refine pure_ (i := 4) (N := some 131) (v := ?_) (a' := ?_) #[true, true, true, false, true, false, false, false, false, false, false, false, false, false, false, false, false, false, false, false, false, false, false, false, false, false, false, false, false, false] rfl rfl (any_of HT_.out (by kernel_rfl)) (fun _ _ _ h => h) (Or.inl ⟨by rfl, ?_⟩) ?_ ?_
                  rotate_left
                  ·intro w'
                   go_simp
                   with_reducible rfl
                  rotate_left
                  ·simp only [Act.put, List.setIfInBounds_toArray, List.set_cons_zero, List.set_cons_succ, i64_w, i32_w]
                   rfl
                  refine pure_ (i := 5) (N := some 132) (v := ?_) (a' := ?_) #[true, true, true, false, true, true, false, false, false, false, false, false, false, false, false, false, false, false, false, false, false, false, false, false, false, false, false, false, false, false] rfl rfl (any_of HT_.out (by kernel_rfl)) (fun _ _ _ h => h) (Or.inl ⟨by rfl, ?_⟩) ?_ ?_
                  rotate_left
                  ·intro w'
                   go_simp
                   with_reducible rfl
                  rotate_left
                  ·simp only [Act.put, List.setIfInBounds_toArray, List.set_cons_zero, List.set_cons_succ, i64_w, i32_w]
                   rfl
                  refine pure_ (i := 6) (N := some 133) (v := ?_) (a' := ?_) #[true, true, true, false, true, true, true, false, false, false, false, false, false, false, false, false, false, false, false, false, false, false, false, false, false, false, false, false, false, false] rfl rfl (any_of HT_.out (by kernel_rfl)) (fun _ _ _ h => h) (Or.inl ⟨by rfl, ?_⟩) ?_ ?_
                  rotate_left
                  ·intro w'
                   go_simp
                   with_reducible rfl
                  rotate_left
                  ·simp only [Act.put, List.setIfInBounds_toArray, List.set_cons_zero, List.set_cons_succ, i64_w, i32_w]
                   rfl
                  refine take_ (i := 3) (N := some 130) (v := ?_) (a' := ?_) #[true, true, true, true, true, true, true, false, false, false, false, false, false, false, false, false, false, false, false, false, false, false, false, false, false, false, false, false, false, false] rfl rfl (take_ofW HT_.out HW_.out (by kernel_rfl)) (fun _ _ _ h => h) (Or.inl ⟨by rfl, ?_⟩) hHeld ?_ ?_
                  rotate_left
                  ·rintro w' ⟨s0, s1, s2⟩
                   go_simp
                   with_reducible rfl
                  rotate_left
                  ·simp only [Act.put, List.setIfInBounds_toArray, List.set_cons_zero, List.set_cons_succ, i64_w, i32_w]
                   rfl
                  refine take_ (i := 7) (N := some 134) (v := ?_) (a' := ?_) #[true, true, true, true, true, true, true, true, false, false, false, false, false, false, false, false, false, false, false, false, false, false, false, false, false, false, false, false, false, false] rfl rfl (take_ofW HT_.out HW_.out (by kernel_rfl)) (fun _ _ _ h => h) (Or.inl ⟨by rfl, ?_⟩) hHeld ?_ ?_
                  rotate_left
                  ·rintro w' ⟨s0, s1, s2⟩
                   go_simp
                   with_reducible rfl
                  rotate_left
                  ·simp only [Act.put, List.setIfInBounds_toArray, List.set_cons_zero, List.set_cons_succ, i64_w, i32_w]
                   rfl
                  refine pure_ (i := 8) (N := some 135) (v := ?_) (a' := ?_) #[true, true, true, true, true, true, true, true, true, false, false, false, false, false, false, false, false, false, false, false, false, false, false, false, false, false, false, false, false, false] rfl rfl (any_of HT_.out (by kernel_rfl)) (fun _ _ _ h => h) (Or.inl ⟨by rfl, ?_⟩) ?_ ?_
                  rotate_left
                  ·intro w'
                   go_simp
                   with_reducible rfl
                  rotate_left
                  ·simp only [Act.put, List.setIfInBounds_toArray, List.set_cons_zero, List.set_cons_succ, i64_w, i32_w]
                   rfl
                  refine pure_ (i := 9) (N := some 136) (v := ?_) (a' := ?_) #[true, true, true, true, true, true, true, true, true, true, false, false, false, false, false, false, false, false, false, false, false, false, false, false, false, false, false, false, false, false] rfl rfl (any_of HT_.out (by kernel_rfl)) (fun _ _ _ h => h) (Or.inl ⟨by rfl, ?_⟩) ?_ ?_
                  rotate_left
                  ·intro w'
                   go_simp
                   with_reducible rfl
                  rotate_left
                  ·simp only [Act.put, List.setIfInBounds_toArray, List.set_cons_zero, List.set_cons_succ, i64_w, i32_w]
                   rfl
                  refine pure_ (i := 10) (N := some 137) (v := ?_) (a' := ?_) #[true, true, true, true, true, true, true, true, true, true, true, false, false, false, false, false, false, false, false, false, false, false, false, false, false, false, false, false, false, false] rfl rfl (any_of HT_.out (by kernel_rfl)) (fun _ _ _ h => h) (Or.inl ⟨by rfl, ?_⟩) ?_ ?_
                  rotate_left
                  ·intro w'
                   go_simp
                   with_reducible rfl
                  rotate_left
                  ·simp only [Act.put, List.setIfInBounds_toArray, List.set_cons_zero, List.set_cons_succ, i64_w, i32_w]
                   rfl
                  refine pure_ (i := 11) (N := some 138) (v := ?_) (a' := ?_) #[true, true, true, true, true, true, true, true, true, true, true, true, false, false, false, false, false, false, false, false, false, false, false, false, false, false, false, false, false, false] rfl rfl (any_of HT_.out (by kernel_rfl)) (fun _ _ _ h => h) (Or.inl ⟨by rfl, ?_⟩) ?_ ?_
                  rotate_left
                  ·intro w'
                   go_simp
                   with_reducible rfl
                  rotate_left
                  ·simp only [Act.put, List.setIfInBounds_toArray, List.set_cons_zero, List.set_cons_succ, i64_w, i32_w]
                   rfl
                  refine pure_ (i := 12) (N := some 139) (v := ?_) (a' := ?_) #[true, true, true, true, true, true, true, true, true, true, true, true, true, false, false, false, false, false, false, false, false, false, false, false, false, false, false, false, false, false] rfl rfl (any_of HT_.out (by kernel_rfl)) (fun _ _ _ h => h) (Or.inl ⟨by rfl, ?_⟩) ?_ ?_
                  rotate_left
                  ·intro w'
                   go_simp
                   with_reducible rfl
                  rotate_left
                  ·simp only [Act.put, List.setIfInBounds_toArray, List.set_cons_zero, List.set_cons_succ, i64_w, i32_w]
                   rfl
                  refine pure_ (i := 13) (N := some 140) (v := ?_) (a' := ?_) #[true, true, true, true, true, true, true, true, true, true, true, true, true, true, false, false, false, false, false, false, false, false, false, false, false, false, false, false, false, false] rfl rfl (any_of HT_.out (by kernel_rfl)) (fun _ _ _ h => h) (Or.inl ⟨by rfl, ?_⟩) ?_ ?_
                  rotate_left
                  ·intro w'
                   go_simp
                   with_reducible rfl
                  rotate_left
                  ·simp only [Act.put, List.setIfInBounds_toArray, List.set_cons_zero, List.set_cons_succ, i64_w, i32_w]
                   rfl
                  refine pure_ (i := 14) (N := some 141) (v := ?_) (a' := ?_) #[true, true, true, true, true, true, true, true, true, true, true, true, true, true, true, false, false, false, false, false, false, false, false, false, false, false, false, false, false, false] rfl rfl (any_of HT_.out (by kernel_rfl)) (fun _ _ _ h => h) (Or.inl ⟨by rfl, ?_⟩) ?_ ?_
                  rotate_left
                  ·intro w'
                   go_simp
                   with_reducible rfl
                  rotate_left
                  ·simp only [Act.put, List.setIfInBounds_toArray, List.set_cons_zero, List.set_cons_succ, i64_w, i32_w]
                   rfl
                  refine pure_ (i := 15) (N := some 142) (v := ?_) (a' := ?_) #[true, true, true, true, true, true, true, true, true, true, true, true, true, true, true, true, false, false, false, false, false, false, false, false, false, false, false, false, false, false] rfl rfl (any_of HT_.out (by kernel_rfl)) (fun _ _ _ h => h) (Or.inl ⟨by rfl, ?_⟩) ?_ ?_
                  rotate_left
                  ·intro w'
                   go_simp
                   with_reducible rfl
                  rotate_left
                  ·simp only [Act.put, List.setIfInBounds_toArray, List.set_cons_zero, List.set_cons_succ, i64_w, i32_w]
                   rfl
                  refine pure_ (i := 16) (N := some 143) (v := ?_) (a' := ?_) #[true, true, true, true, true, true, true, true, true, true, true, true, true, true, true, true, true, false, false, false, false, false, false, false, false, false, false, false, false, false] rfl rfl (any_of HT_.out (by kernel_rfl)) (fun _ _ _ h => h) (Or.inl ⟨by rfl, ?_⟩) ?_ ?_
                  rotate_left
                  ·intro w'
                   go_simp
                   with_reducible rfl
                  rotate_left
                  ·simp only [Act.put, List.setIfInBounds_toArray, List.set_cons_zero, List.set_cons_succ, i64_w, i32_w]
                   rfl
                  refine pure_ (i := 18) (N := some 145) (v := ?_) (a' := ?_) #[true, true, true, true, true, true, true, true, true, true, true, true, true, true, true, true, true, false, true, false, false, false, false, false, false, false, false, false, false, false] rfl rfl (any_of HT_.out (by kernel_rfl)) (fun _ _ _ h => h) (Or.inl ⟨by rfl, ?_⟩) ?_ ?_
                  rotate_left
                  ·intro w'
                   go_simp
                   with_reducible rfl
                  rotate_left
                  ·simp only [Act.put, List.setIfInBounds_toArray, List.set_cons_zero, List.set_cons_succ, i64_w, i32_w]
                   rfl
                  refine take_ (i := 17) (N := some 144) (v := ?_) (a' := ?_) #[true, true, true, true, true, true, true, true, true, true, true, true, true, true, true, true, true, true, true, false, false, false, false, false, false, false, false, false, false, false] rfl rfl (take_ofW HT_.out HW_.out (by kernel_rfl)) (fun _ _ _ h => h) (Or.inl ⟨by rfl, ?_⟩) hHeld ?_ ?_
                  rotate_left
                  ·rintro w' ⟨s0, s1, s2⟩
                   go_simp
                   with_reducible rfl
                  rotate_left
                  ·simp only [Act.put, List.setIfInBounds_toArray, List.set_cons_zero, List.set_cons_succ, i64_w, i32_w]
                   rfl
                  refine pure_ (i := 19) (N := some 146) (v := ?_) (a' := ?_) #[true, true, true, true, true, true, true, true, true, true, true, true, true, true, true, true, true, true, true, true, false, false, false, false, false, false, false, false, false, false] rfl rfl (any_of HT_.out (by kernel_rfl)) (fun _ _ _ h => h) (Or.inl ⟨by rfl, ?_⟩) ?_ ?_
                  rotate_left
                  ·intro w'
                   go_simp
                   with_reducible rfl
                  rotate_left
                  ·simp only [Act.put, List.setIfInBounds_toArray, List.set_cons_zero, List.set_cons_succ, i64_w, i32_w]
                   rfl
                  refine pure_ (i := 20) (N := some 147) (v := ?_) (a' := ?_) #[true, true, true, true, true, true, true, true, true, true, true, true, true, true, true, true, true, true, true, true, true, false, false, false, false, false, false, false, false, false] rfl rfl (any_of HT_.out (by kernel_rfl)) (fun _ _ _ h => h) (Or.inl ⟨by rfl, ?_⟩) ?_ ?_
                  rotate_left
                  ·intro w'
                   go_simp
                   with_reducible rfl
                  rotate_left
                  ·simp only [Act.put, List.setIfInBounds_toArray, List.set_cons_zero, List.set_cons_succ, i64_w, i32_w]
                   rfl
                  refine pure_ (i := 21) (N := some 148) (v := ?_) (a' := ?_) #[true, true, true, true, true, true, true, true, true, true, true, true, true, true, true, true, true, true, true, true, true, true, false, false, false, false, false, false, false, false] rfl rfl (any_of HT_.out (by kernel_rfl)) (fun _ _ _ h => h) (Or.inl ⟨by rfl, ?_⟩) ?_ ?_
                  rotate_left
                  ·intro w'
                   go_simp
                   with_reducible rfl
                  rotate_left
                  ·simp only [Act.put, List.setIfInBounds_toArray, List.set_cons_zero, List.set_cons_succ, i64_w, i32_w]
                   rfl
                  refine pure_ (i := 22) (N := some 149) (v := ?_) (a' := ?_) #[true, true, true, true, true, true, true, true, true, true, true, true, true, true, true, true, true, true, true, true, true, true, true, false, false, false, false, false, false, false] rfl rfl (any_of HT_.out (by kernel_rfl)) (fun _ _ _ h => h) (Or.inl ⟨by rfl, ?_⟩) ?_ ?_
                  rotate_left
                  ·intro w'
                   go_simp
                   with_reducible rfl
                  rotate_left
                  ·simp only [Act.put, List.setIfInBounds_toArray, List.set_cons_zero, List.set_cons_succ, i64_w, i32_w]
                   rfl
                  refine pure_ (i := 23) (N := some 150) (v := ?_) (a' := ?_) #[true, true, true, true, true, true, true, true, true, true, true, true, true, true, true, true, true, true, true, true, true, true, true, true, false, false, false, false, false, false] rfl rfl (any_of HT_.out (by kernel_rfl)) (fun _ _ _ h => h) (Or.inl ⟨by rfl, ?_⟩) ?_ ?_
                  rotate_left
                  ·intro w'
                   go_simp
                   with_reducible rfl
                  rotate_left
                  ·simp only [Act.put, List.setIfInBounds_toArray, List.set_cons_zero, List.set_cons_succ, i64_w, i32_w]
                   rfl
                  refine pure_ (i := 24) (N := some 151) (v := ?_) (a' := ?_) #[true, true, true, true, true, true, true, true, true, true, true, true, true, true, true, true, true, true, true, true, true, true, true, true, true, false, false, false, false, false] rfl rfl (any_of HT_.out (by kernel_rfl)) (fun _ _ _ h => h) (Or.inl ⟨by rfl, ?_⟩) ?_ ?_
                  rotate_left
                  ·intro w'
                   go_simp
                   with_reducible rfl
                  rotate_left
                  ·simp only [Act.put, List.setIfInBounds_toArray, List.set_cons_zero, List.set_cons_succ, i64_w, i32_w]
                   rfl
                  refine pure_ (i := 25) (N := some 152) (v := ?_) (a' := ?_) #[true, true, true, true, true, true, true, true, true, true, true, true, true, true, true, true, true, true, true, true, true, true, true, true, true, true, false, false, false, false] rfl rfl (any_of HT_.out (by kernel_rfl)) (fun _ _ _ h => h) (Or.inl ⟨by rfl, ?_⟩) ?_ ?_
                  rotate_left
                  ·intro w'
                   go_simp
                   with_reducible rfl
                  rotate_left
                  ·simp only [Act.put, List.setIfInBounds_toArray, List.set_cons_zero, List.set_cons_succ, i64_w, i32_w]
                   rfl
                  refine pure_ (i := 26) (N := some 153) (v := ?_) (a' := ?_) #[true, true, true, true, true, true, true, true, true, true, true, true, true, true, true, true, true, true, true, true, true, true, true, true, true, true, true, false, false, false] rfl rfl (any_of HT_.out (by kernel_rfl)) (fun _ _ _ h => h) (Or.inl ⟨by rfl, ?_⟩) ?_ ?_
                  rotate_left
                  ·intro w'
                   go_simp
                   with_reducible rfl
                  rotate_left
                  ·simp only [Act.put, List.setIfInBounds_toArray, List.set_cons_zero, List.set_cons_succ, i64_w, i32_w]
                   rfl
                  refine one_ (i := 27) (N := some 154) #[true, true, true, true, true, true, true, true, true, true, true, true, true, true, true, true, true, true, true, true, true, true, true, true, true, true, true, true, false, false] rfl rfl (one_of HT_.out (by kernel_rfl)) (by decide) (fun K hK => ?_)
                  refine goes_ Try.func91 (by kernel_rfl) rfl #[.int .i64 t1263] (by rfl) rfl rfl (by (try simp only [List.map_toArray, List.map_cons, List.map_nil]); first | done | rfl | (simp only [List.length_drop, List.length_take]; rfl)) ?_
                  with_reducible refine (frac_Right.calls t1263 t1268 _ A92.out).mono ?_
                  rintro e w' ⟨rfl, ⟨nd, rfl⟩⟩
                  refine ⟨_, rfl, ?_⟩
                  refine hK.out _ _ ⟨hHeld.1, hHeld.2.1, hHeld.2.2⟩ (fun hHeld => ?_)
                  clear hK K
                  refine norm_ (a' := ?_) ?_ ?_
                  rotate_left
                  ·show Act.put _ (some 154) _ = _
                   simp only [Act.put, List.setIfInBounds_toArray, List.set_cons_zero, List.set_cons_succ, i64_w, i32_w]
                   rfl
                  refine pure_ (i := 28) (N := some 155) (v := ?_) (a' := ?_) #[true, true, true, true, true, true, true, true, true, true, true, true, true, true, true, true, true, true, true, true, true, true, true, true, true, true, true, true, true, false] rfl rfl (any_of HT_.out (by kernel_rfl)) (fun _ _ _ h => h) (Or.inl ⟨by rfl, ?_⟩) ?_ ?_
                  rotate_left
                  ·intro w'
                   go_simp
                   with_reducible rfl
                  rotate_left
                  ·simp only [Act.put, List.setIfInBounds_toArray, List.set_cons_zero, List.set_cons_succ, i64_w, i32_w]
                   rfl
                  refine pure_ (i := 29) (N := some 6) (v := ?_) (a' := ?_) #[true, true, true, true, true, true, true, true, true, true, true, true, true, true, true, true, true, true, true, true, true, true, true, true, true, true, true, true, true, true] rfl rfl (any_of HT_.out (by kernel_rfl)) (fun _ _ _ h => h) (Or.inl ⟨by rfl, ?_⟩) ?_ ?_
                  rotate_left
                  ·intro w'
                   go_simp
                   with_reducible rfl
                  rotate_left
                  ·simp only [Act.put, List.setIfInBounds_toArray, List.set_cons_zero, List.set_cons_succ, i64_w, i32_w]
                   rfl
                  refine done_ (done_of HT_.out (by kernel_rfl)) ?_
                  try go_wp2
                  go_ret
                  exact ⟨by first | rfl | (simp [errW_none, errW_some] <;> rfl) | (simp only [← hji84]; first | rfl | (simp [errW_none, errW_some] <;> rfl)) | (simp [*, errW_none, errW_some] <;> rfl), bl2_ HB GE1212.out GE1213.out⟩
                 ·rw [if_neg c91] at H
                  have c91b0 : (t1264 == 0) = false := beq_eq_false_iff_ne.mpr c91
                  have c91b1 : (t1264 != 0) = true := bne_iff_ne.mpr c91
                  exact absurd H (by simp)
                ·rw [if_neg c90] at H
                 have c90b0 : ((rd t1235 (ji84)) == t1261) = false := beq_eq_false_iff_ne.mpr c90
                 have c90b1 : ((rd t1235 (ji84)) != t1261) = true := bne_iff_ne.mpr c90
                 exact absurd H (by simp)
               ·rw [if_neg c89] at H
                have c89b0 : (t1262 == 0) = false := beq_eq_false_iff_ne.mpr c89
                have c89b1 : (t1262 != 0) = true := bne_iff_ne.mpr c89
                exact absurd H (by simp)
              ·rw [if_neg c88] at H
               have c88b0 : ((rd t1235 (ji84)) == (rd t1248 (ji84))) = false := beq_eq_false_iff_ne.mpr c88
               have c88b1 : ((rd t1235 (ji84)) != (rd t1248 (ji84))) = true := bne_iff_ne.mpr c88
               exact absurd H (by simp)
             ·rw [if_neg c87] at H
              exact absurd H (by simp)
            ·rw [if_neg c86] at H
             exact absurd H (by simp)
           ·rw [if_neg c85] at H
            exact absurd H (by simp)
 ·replace c5 := Bool.eq_false_iff.mpr c5
  subst c5
  have H1 : (none) = some r := by rw [if_neg (show ¬ (false = true) by decide)] at H; exact H
  clear H
  have H := H1
  clear H1
  exact absurd H (by simp)
end Go.Proofs.Ytcapgmoipacioaa.P
