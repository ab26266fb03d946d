import Derived.Test.YtcapgmoipacioaaPtZe
import Derived.Test.YtcapgmoipacioaaPpbandZe
import Derived.Test.YtcapgmoipacioaaPpcodeZe
import Derived.Test.YtcapgmoipacioaaPpfracZe
import Derived.Test.YtcapgmoipacioaaPptaxExactZe
import Derived.Test.YtcapgmoipacioaaY1Ze
namespace Go.Proofs.Ytcapgmoipacioaa.P
open Go.RowKit Go.Proofs.YtcapgmoipacioaaW.PrintWords Go.Proofs.YtcapgmoipacioaaW.PrintLast Go.Proofs.YtcapgmoipacioaaW.PrintMore
set_option linter.unusedVariables false
set_option linter.unusedSimpArgs false
mutual
def tax_Explain.j0 : Nat → Int → Int → Int → Int → Int → Bool → List (List (S106)) → List (S120) → List (S209) → Int → Int → Int → Int → Int → Int → Bool → Option ((List (S159)) × Int)
 | 0, _, _, _, _, _, _, _, _, _, _, _, _, _, _, _, _ => none
 | k + 1, x3, x4, x12, x13, x14, x52, x1270000, x1270001, x1270002, x1270003, x1270004, x1271000, x1271001, x1271002, x1271003, x1271004 => if x52 = true then (some (([] : List (S159)), x13)) else (if x1271001 = 3 then (if 0 ≤ x1271000 then (if x1271000 < (x1270000.length : Int) then (if 0 ≤ x1271003 then (if x1271003 < ((rd_L3 x1270000 x1271000).length : Int) then (some ((([(⟨(rd_T106 (rd_L3 x1270000 x1271000) x1271003).f1, x14, x12⟩ : S159)] : List (S159))), 0)) else (none)) else (none)) else (none)) else (none)) else (if 0 ≤ x1271000 then (if x1271000 < (x1270000.length : Int) then ((band_Scale.f k x3 x4 (rd_L3 x1270000 x1271000)).bind fun bt1281 => (if bt1281.2 = 0 then (tax_Explain.l0 k x14 bt1281.1 ([] : List (S159)) bt1281.1 (bt1281.1.length : Int) 0) else (some (([] : List (S159)), bt1281.2)))) else (none)) else (none)))
def tax_Explain.l0 : Nat → Int → List (S106) → List (S159) → List (S106) → Int → Int → Option ((List (S159)) × Int)
 | 0, _, _, _, _, _, _ => none
 | k + 1, x14, x15, x16, x87, x88, x89 => if x89 < x88 then (if 0 ≤ x89 then (if x89 < (x87.length : Int) then (if (wrap64 (x89 + 1)) < (x15.length : Int) then (if 0 ≤ (wrap64 (x89 + 1)) then (tax_Explain.j2 k x14 x15 x16 (mn x14 ((rd_T106 x15 (wrap64 (x89 + 1))).f0)) x87 x88 x89 ((rd_T106 x87 x89).f0) ((rd_T106 x87 x89).f1) ((rd_T106 x87 x89).f2)) else (none)) else (tax_Explain.j2 k x14 x15 x16 x14 x87 x88 x89 ((rd_T106 x87 x89).f0) ((rd_T106 x87 x89).f1) ((rd_T106 x87 x89).f2))) else (none)) else (none)) else (some (x16, 0))
def tax_Explain.j2 : Nat → Int → List (S106) → List (S159) → Int → List (S106) → Int → Int → Int → Int → Int → Option ((List (S159)) × Int)
 | 0, _, _, _, _, _, _, _, _, _, _ => none
 | k + 1, x14, x15, x16, x19, x87, x88, x89, x1287000, x1287001, x1287002 => if x19 ≤ x1287000 then (some (x16, 0)) else ((frac_Part.f k (wrap64 (x19 - x1287000)) x1287001).bind fun bt1288 => (if bt1288.2 = 0 then (if x16.length < 5864062014805 then (tax_Explain.l0 k x14 x15 (x16 ++ [(⟨x1287001, wrap64 (x19 - x1287000), bt1288.1⟩ : S159)]) x87 x88 (wrap64 (x89 + 1))) else (none)) else (some (([] : List (S159)), bt1288.2))))
end
def tax_Explain.f (k : Nat) (l0_0 : List (List (S106))) (l0_1 : List (S120)) (l0_2 : List (S209)) (a0_3 : Int) (a0_4 : Int) (a1_0 : Int) (a1_1 : Int) (a1_2 : Int) (a1_3 : Int) (a1_4 : Bool) (a2 : Int) (a3 : Int) (a4 : Int) : Option ((List (S159)) × Int) := (tax_Exact.f k l0_0 l0_1 l0_2 a0_3 a0_4 a1_0 a1_1 a1_2 a1_3 a1_4 a2 a3 a4).bind fun bt1271 => (if bt1271.2 = 0 then ((code_Charge.f k a1_0 a1_1 a1_2 a1_3 a1_4 a2 a3 a4).bind fun bt1273 => (if bt1273.2 = 0 then (if bt1273.1 = 0 then (tax_Explain.j0 k a3 a4 bt1271.1 bt1273.2 bt1273.1 true l0_0 l0_1 l0_2 a0_3 a0_4 a1_0 a1_1 a1_2 a1_3 a1_4) else (tax_Explain.j0 k a3 a4 bt1271.1 bt1273.2 bt1273.1 (a1_1 == 4) l0_0 l0_1 l0_2 a0_3 a0_4 a1_0 a1_1 a1_2 a1_3 a1_4)) else (tax_Explain.j0 k a3 a4 bt1271.1 bt1273.2 bt1273.1 true l0_0 l0_1 l0_2 a0_3 a0_4 a1_0 a1_1 a1_2 a1_3 a1_4))) else (some (([] : List (S159)), bt1271.2)))
def tax_Explain.T8 : Bool × List (List Nat × List Nat) := (true, [([], []), ([0], [0]), ([], []), ([2], [2]), ([1, 3], [1, 3]), ([4], [4]), ([], []), ([6], [6]), ([5, 7], [5, 7]), ([8], [8]), ([9], [9]), ([], []), ([], []), ([10, 11, 12], [10, 11, 12]), ([13], [13]), ([14, 0, 1, 2, 3, 4, 5, 6, 7, 8, 9, 10, 11, 12, 13, 14], [14]), ([15, 0, 1, 2, 3, 4, 5, 6, 7, 8, 9, 10, 11, 12, 13, 14, 15], [])])
def tax_Explain.B8 : List Nat := [0, 1, 0, 4, 15, 31, 0, 64, 255, 511, 1023, 0, 0, 8191, 16383, 32767, 65535]
theorem tax_Explain.tab8 : rtab .any (opsOf Try.f92 8) = tax_Explain.T8 := by kernel_rfl
theorem tax_Explain.bits8 : waitsOk tax_Explain.T8.2 tax_Explain.B8 = true := by kernel_rfl
set_option maxHeartbeats 8000000 in
set_option maxRecDepth 100000 in
theorem tax_Explain.calls (k : Nat) (A0_0 : Option Addr) (c0_0 : Nat) (l0_0 : List (List (S106))) (A0_1 : Option Addr) (c0_1 : Nat) (l0_1 : List (S120)) (A0_2 : Option Addr) (c0_2 : Nat) (l0_2 : List (S209)) (a0_3 : Int) (a0_4 : Int) (a1_0 : Int) (a1_1 : Int) (a1_2 : Int) (a1_3 : Int) (a1_4 : Bool) (a2 : Int) (a3 : Int) (a4 : Int) (r1 : List (S159)) (r2 : Int) (w : World) (hr0_0 : Kd.C (Kd.slice 106 k106) w A0_0 l0_0.length l0_0) (hc0_0 : l0_0.length ≤ c0_0) (hr0_1 : Kd.C k120 w A0_1 l0_1.length l0_1) (hc0_1 : l0_1.length ≤ c0_1) (hr0_2 : Kd.C k209 w A0_2 l0_2.length l0_2) (hc0_2 : l0_2.length ≤ c0_2) (h : tax_Explain.f k l0_0 l0_1 l0_2 a0_3 a0_4 a1_0 a1_1 a1_2 a1_3 a1_4 a2 a3 a4 = some (r1, r2)) :
  Calls Try.prog 92 #[.agg #[.slice A0_0 l0_0.length c0_0, .slice A0_1 l0_1.length c0_1, .slice A0_2 l0_2.length c0_2, .int .i64 a0_3, .int .i64 a0_4], .agg #[.int .i64 a1_0, .int .i64 a1_1, .int .i64 a1_2, .int .i64 a1_3, .bool a1_4], .int .i64 a2, .int .i64 a3, .int .i64 a4] w fun e w' => ∃ v0_ : Value, e = .returned (.tuple #[v0_, .int .i64 r2]) ∧ Kd.R k159 159 w' w.heap.size (fun _ => True) v0_ r1 ∧ Below w.heap.size w w' := by
 have hu56 := Try.underlying56; have hu88 := Try.underlying88; have hu159 := Try.underlying159; have hu106 := Try.underlying106; have HR0_0 := A_ hr0_0; have HC0_0 := A_ hc0_0; clear hr0_0 hc0_0; have HR0_1 := A_ hr0_1; have HC0_1 := A_ hc0_1; clear hr0_1 hc0_1; have HR0_2 := A_ hr0_2; have HC0_2 := A_ hc0_2; clear hr0_2 hc0_2; have HB := A_ (Below.refl w.heap.size w); unfold tax_Explain.f at h; have H := h; clear h; replace H := Option.bind_eq_some_iff.mp H; obtain ⟨⟨t1271, t1272⟩, A60, H⟩ := H; (try dsimp only at H); have A6 := A_ A60; clear A60; by_cases c7 : t1272 = 0
 ·rw [if_pos c7] at H; have c7b0 : (t1272 == 0) = true := beq_iff_eq.mpr c7; have c7b1 : (t1272 != 0) = false := bne_eq_false_iff_eq.mpr c7; clear c7; replace H := Option.bind_eq_some_iff.mp H; obtain ⟨⟨t1273, t1274⟩, A80, H⟩ := H; (try dsimp only at H); have A8 := A_ A80; clear A80; have HC9 := A_ H; clear H; go_enter Try.func92, Try.ntmps92
  go_upto_region 5 with (first | ((with_reducible refine gate_dst (N := 5) rfl ?_); refine be_ (N := 5) (cs := #[.slice A0_0 l0_0.length c0_0, .slice A0_1 l0_1.length c0_1, .slice A0_2 l0_2.length c0_2, .int .i64 a0_3, .int .i64 a0_4]) (t := 56) ?_; intro gb1269 hg w10 hbox hb; have BK1269 := A_ (hbox); have GW1269 := A_ ((by rw [hg]; exact (below_size (bl_ HB)) : w.heap.size ≤ gb1269)); have GE1269 := A_ ((by rw [hg]; exact (below_size (bl_ HB)) : w.heap.size ≤ gb1269)); replace HB := A_ (below_step (bl_ HB) hb); clear hb hbox hg) | ((with_reducible refine gate_dst (N := 6) rfl ?_); refine be_ (N := 6) (cs := #[.int .i64 a1_0, .int .i64 a1_1, .int .i64 a1_2, .int .i64 a1_3, .bool a1_4]) (t := 88) ?_; intro gb1270 hg w11 hbox hb; have BK1270 := A_ (hbox); have GW1270 := A_ ((by rw [hg]; exact (below_size (bl1_ HB GE1269.out)) : w.heap.size ≤ gb1270)); have GE1270 := A_ ((by rw [hg]; exact (below_size (bl1_ HB GE1269.out)) : w.heap.size ≤ gb1270)); have NB1269_1270 := A_ ((by rw [hg]; exact Nat.ne_of_lt (blk_lt (bx_ BK1269)) : gb1269 ≠ gb1270)); have NB1270_1269 := A_ ((by rw [hg]; exact Nat.ne_of_gt (blk_lt (bx_ BK1269)) : gb1270 ≠ gb1269)); replace BK1269 := A_ (blk_below (bx_ BK1269) hb); replace HB := A_ (below_step (bl1_ HB GE1269.out) hb); clear hb hbox hg; have hnb12 := NB1269_1270.out; have hnc12 := NB1270_1269.out; have hcz13_0 := cz_ BK1269 0; have hcz13_1 := cz_ BK1269 1; have hcz13_2 := cz_ BK1269 2; have hcz13_3 := cz_ BK1269 3; have hcz13_4 := cz_ BK1269 4; have hfz13_0 := fz_ BK1269 0; have hfz13_1 := fz_ BK1269 1; have hfz13_2 := fz_ BK1269 2; have hfz13_3 := fz_ BK1269 3; have hfz13_4 := fz_ BK1269 4; have hcz14_0 := cz_ BK1270 0; have hcz14_1 := cz_ BK1270 1; have hcz14_2 := cz_ BK1270 2; have hcz14_3 := cz_ BK1270 3; have hcz14_4 := cz_ BK1270 4; have hfz14_0 := fz_ BK1270 0; have hfz14_1 := fz_ BK1270 1; have hfz14_2 := fz_ BK1270 2; have hfz14_3 := fz_ BK1270 3; have hfz14_4 := fz_ BK1270 4) | ((with_reducible refine gate_callee (f := 79) rfl ?_); refine gm_ (some 28) Try.func79 #[.agg #[.slice A0_0 l0_0.length c0_0, .slice A0_1 l0_1.length c0_1, .slice A0_2 l0_2.length c0_2, .int .i64 a0_3, .int .i64 a0_4], .agg #[.int .i64 a1_0, .int .i64 a1_1, .int .i64 a1_2, .int .i64 a1_3, .bool a1_4], .int .i64 a2, .int .i64 a3, .int .i64 a4] ?_; (with_reducible refine (tax_Exact.calls k _ _ l0_0 _ _ l0_1 _ _ l0_2 a0_3 a0_4 a1_0 a1_1 a1_2 a1_3 a1_4 a2 a3 a4 t1271 t1272 _ ?side1 ?side2 ?side3 ?side4 ?side5 ?side6 A6.out).mono ?_); (case side1 => exact cb_ HR0_0 HB); (case side2 => exact HC0_0.out); (case side3 => exact cb_ HR0_1 HB); (case side4 => exact HC0_1.out); (case side5 => exact cb_ HR0_2 HB); (case side6 => exact HC0_2.out); rintro e w15 ⟨rfl, hb⟩; refine ⟨_, rfl, ?_⟩; replace BK1269 := A_ (blk_below (bx_ BK1269) hb); replace BK1270 := A_ (blk_below (bx_ BK1270) hb); replace HB := A_ (below_step (bl2_ HB GE1269.out GE1270.out) hb); (try clear hb); (try clear hb2); (try clear hk); (try clear hi); have hcz16_0 := cz_ BK1270 0; have hcz16_1 := cz_ BK1270 1; have hcz16_2 := cz_ BK1270 2; have hcz16_3 := cz_ BK1270 3; have hcz16_4 := cz_ BK1270 4; have hfz16_0 := fz_ BK1270 0; have hfz16_1 := fz_ BK1270 1; have hfz16_2 := fz_ BK1270 2; have hfz16_3 := fz_ BK1270 3; have hfz16_4 := fz_ BK1270 4) | ((with_reducible refine gate_callee (f := 81) rfl ?_); refine gm_ (some 39) Try.func81 #[.agg #[.int .i64 a1_0, .int .i64 a1_1, .int .i64 a1_2, .int .i64 a1_3, .bool a1_4], .int .i64 a2, .int .i64 a3, .int .i64 a4] ?_; (with_reducible refine (code_Charge.calls k a1_0 a1_1 a1_2 a1_3 a1_4 a2 a3 a4 t1273 t1274 _ A8.out).mono ?_); rintro e w17 ⟨rfl, hb⟩; refine ⟨_, rfl, ?_⟩; replace BK1269 := A_ (blk_below (bx_ BK1269) hb); replace BK1270 := A_ (blk_below (bx_ BK1270) hb); replace HB := A_ (below_step (bl2_ HB GE1269.out GE1270.out) hb); (try clear hb); (try clear hb2); (try clear hk); (try clear hi)))
  (try simp only [Act.put, List.setIfInBounds_toArray, List.set_cons_zero, List.set_cons_succ])
  go_cut [52] (fun v52 wc => ∃ (kq : Nat) (x52_8 : Bool), v52 = .bool x52_8 ∧ Aside0 (tax_Explain.j0 kq a3 a4 t1271 t1274 t1273 x52_8 l0_0 l0_1 l0_2 a0_3 a0_4 a1_0 a1_1 a1_2 a1_3 a1_4 = some (r1, r2)) ∧ Aside0 (kq ≤ k) ∧ Aside0 (wc.heap[gb1269]? = some (.cells #[(.slice A0_0 l0_0.length c0_0), (.slice A0_1 l0_1.length c0_1), (.slice A0_2 l0_2.length c0_2), .int .i64 a0_3, .int .i64 a0_4] 56 (0, 0))) ∧ Aside0 (wc.heap[gb1270]? = some (.cells #[.int .i64 a1_0, .int .i64 a1_1, .int .i64 a1_2, .int .i64 a1_3, .bool a1_4] 88 (0, 0))) ∧ Aside0 (Below w.heap.size w wc))
  case first =>
   have H := HC9.out; clear HC9; by_cases c18 : t1274 = 0
   ·rw [if_pos c18] at H; have c18b0 : (t1274 == 0) = true := beq_iff_eq.mpr c18; have c18b1 : (t1274 != 0) = false := bne_eq_false_iff_eq.mpr c18; clear c18
    (first | rw [c18b0] | (simp only [i64_w, i32_w]; rw [c18b0]) | skip)
    by_cases c19 : t1273 = 0
    ·rw [if_pos c19] at H; have c19b0 : (t1273 == 0) = true := beq_iff_eq.mpr c19; have c19b1 : (t1273 != 0) = false := bne_eq_false_iff_eq.mpr c19; clear c19; have H' := A_ H; clear H
     go_wp2
     go_meet
     case rel => exact ⟨_, (true), (sx_), H', ⟨by first | omega | exact Nat.le_refl _⟩, ⟨bx_ BK1269⟩, ⟨bx_ BK1270⟩, ⟨bl2_ HB GE1269.out GE1270.out⟩⟩
    ·rw [if_neg c19] at H; have c19b0 : (t1273 == 0) = false := beq_eq_false_iff_ne.mpr c19; have c19b1 : (t1273 != 0) = true := bne_iff_ne.mpr c19; have H' := A_ H; clear H; have hnb20 := NB1270_1269.out; have hnc20 := NB1269_1270.out; have hcz21_0 := cz_ BK1270 0; have hcz21_1 := cz_ BK1270 1; have hcz21_2 := cz_ BK1270 2; have hcz21_3 := cz_ BK1270 3; have hcz21_4 := cz_ BK1270 4; have hfz21_0 := fz_ BK1270 0; have hfz21_1 := fz_ BK1270 1; have hfz21_2 := fz_ BK1270 2; have hfz21_3 := fz_ BK1270 3; have hfz21_4 := fz_ BK1270 4
     go_wp2
     go_meet
     case rel => exact ⟨_, ((a1_1 == 4)), (sx_), H', ⟨by first | omega | exact Nat.le_refl _⟩, ⟨bx_ BK1269⟩, ⟨bx_ BK1270⟩, ⟨bl2_ HB GE1269.out GE1270.out⟩⟩
   ·rw [if_neg c18] at H; have c18b0 : (t1274 == 0) = false := beq_eq_false_iff_ne.mpr c18; have c18b1 : (t1274 != 0) = true := bne_iff_ne.mpr c18
    (first | rw [c18b0] | (simp only [i64_w, i32_w]; rw [c18b0]) | skip)
    have H' := A_ H; clear H
    go_wp2
    go_meet
    case rel => exact ⟨_, (true), (sx_), H', ⟨by first | omega | exact Nat.le_refl _⟩, ⟨bx_ BK1269⟩, ⟨bx_ BK1270⟩, ⟨bl2_ HB GE1269.out GE1270.out⟩⟩
  case rest =>
   clear HC9; try clear c1
   try clear c2
   try clear p2
   try clear c7
   try clear c7b0
   try clear c7b1
   try clear c8
   try clear c9
   try clear c12
   try clear c18
   try clear c18b0
   try clear c18b1
   try clear c19
   try clear c19b0
   try clear c19b1
   try clear c20
   try clear hcz13_0 hcz13_1 hcz13_2 hcz13_3 hcz13_4
   try clear hcz14_0 hcz14_1 hcz14_2 hcz14_3 hcz14_4
   try clear hcz16_0 hcz16_1 hcz16_2 hcz16_3 hcz16_4
   try clear hcz21_0 hcz21_1 hcz21_2 hcz21_3 hcz21_4
   try clear hfz13_0 hfz13_1 hfz13_2 hfz13_3 hfz13_4
   try clear hfz14_0 hfz14_1 hfz14_2 hfz14_3 hfz14_4
   try clear hfz16_0 hfz16_1 hfz16_2 hfz16_3 hfz16_4
   try clear hfz21_0 hfz21_1 hfz21_2 hfz21_3 hfz21_4
   obtain ⟨kq, x52_8, rfl, HA, HJ8, BK1269, BK1270, HB⟩ := hcut
   cases kq with
   | zero => exact absurd HA.out (by simp [tax_Explain.j0])
   | succ kj8 =>
    have H := HA.out; clear HA; simp only [tax_Explain.j0] at H; by_cases c22 : x52_8 = true
    ·subst c22; rw [if_pos rfl] at H; simp only [Option.some.injEq, Prod.mk.injEq] at H; obtain ⟨rfl, rfl⟩ := H
     go_wp2
     go_ret2
     exact ⟨_, er_, by first | exact Kd.R_nil _ _ _ _ _ | exact Kd.N_nil _ _ _ _ _ | exact Kd.V_nil _ _ _ _ _ | exact Kd.Q_nil _ _ _ _ _ | exact Kd.S_nil _ _ _ _ _, bl2_ HB GE1269.out GE1270.out⟩
    ·replace c22 := Bool.eq_false_iff.mpr c22; subst c22; rw [if_neg (show ¬ (false = true) by decide)] at H; by_cases c23 : a1_1 = 3
     ·rw [if_pos c23] at H; have c23b0 : (a1_1 == 3) = true := beq_iff_eq.mpr c23; have c23b1 : (a1_1 != 3) = false := bne_eq_false_iff_eq.mpr c23; clear c23; by_cases c24 : 0 ≤ a1_0
      ·rw [if_pos c24] at H; have c24b0 := decide_eq_true c24; clear c24; by_cases c25 : a1_0 < (l0_0.length : Int)
       ·rw [if_pos c25] at H; have c25b0 := decide_eq_true c25; clear c25; by_cases c26 : 0 ≤ a1_3
        ·rw [if_pos c26] at H; have c26b0 := decide_eq_true c26; clear c26; by_cases c27 : a1_3 < ((rd_L3 l0_0 a1_0).length : Int)
         ·rw [if_pos c27] at H; have c27b0 := decide_eq_true c27; clear c27; obtain ⟨y1277, hy1277⟩ : ∃ y_ : List (S159), y_ = (([(⟨(rd_T106 (rd_L3 l0_0 a1_0) a1_3).f1, t1273, t1271⟩ : S159)] : List (S159))) := ⟨_, rfl⟩; replace H : (some (y1277, 0)) = some (r1, r2) := by first | (rw [hy1277]; with_reducible exact H) | (have H2_ := (Option.bind_some _ _).symm.trans H; rw [hy1277]; with_reducible exact H2_) | (have H2_ := (Option.bind_some _ _).symm.trans H; with_reducible exact H2_) | with_reducible exact H | (rw [hy1277]; exact H) | exact H
          have Ny1277 := A_ hy1277; clear hy1277; simp only [Option.some.injEq, Prod.mk.injEq] at H; obtain ⟨rfl, rfl⟩ := H; have hnb28 := NB1270_1269.out; have hnc28 := NB1269_1270.out; have hcz29_0 := cz_ BK1270 0; have hcz29_1 := cz_ BK1270 1; have hcz29_2 := cz_ BK1270 2; have hcz29_3 := cz_ BK1270 3; have hcz29_4 := cz_ BK1270 4; have hfz29_0 := fz_ BK1270 0; have hfz29_1 := fz_ BK1270 1; have hfz29_2 := fz_ BK1270 2; have hfz29_3 := fz_ BK1270 3; have hfz29_4 := fz_ BK1270 4
          try go_wp2
          replace BK1269 := A_ (blk_drew BK1269.out); replace BK1270 := A_ (blk_drew BK1270.out); replace HB := A_ (below_drew1 HB.out); have p1275 : 0 ≤ (a1_0 : Int) := od_; have q1275 : a1_0 < (l0_0.length : Int) := od_; obtain ⟨ad1275, A1275_0, c1275_0, e1275, hx1275_0, hl1275_0, hi1275_0⟩ := at_L3 HR0_0.out a1_0 p1275 q1275; have hw1275_0 := hx1275_0; cases e1275; replace hx1275_0 := (HB.out.cell (World.block_lt_of_cell? w _ hx1275_0)).trans hx1275_0; have HR1275_0 := A_ hi1275_0; have HC1275_0 := A_ hl1275_0; clear hi1275_0 hl1275_0; replace p1275 := eq_true p1275; replace q1275 := eq_true q1275; have p1276 : 0 ≤ (a1_3 : Int) := od_; have q1276 : a1_3 < ((rd_L3 l0_0 a1_0).length : Int) := od_; obtain ⟨ad1276, e1276, hx1276_0, hx1276_1, hx1276_2⟩ := at_T106 HR1275_0.out a1_3 p1276 q1276; have hw1276_2 := hx1276_2; have hw1276_1 := hx1276_1; have hw1276_0 := hx1276_0; cases e1276; replace hx1276_0 := (HB.out.cell (World.block_lt_of_cell? w _ hx1276_0)).trans hx1276_0; replace hx1276_1 := (HB.out.cell (World.block_lt_of_cell? w _ hx1276_1)).trans hx1276_1; replace hx1276_2 := (HB.out.cell (World.block_lt_of_cell? w _ hx1276_2)).trans hx1276_2; replace p1276 := eq_true p1276; replace q1276 := eq_true q1276; refine start_ (n := 17) (S := fun w' => w'.cell? ⟨gb1269, 0, none⟩ = some (.slice (some ad1275) l0_0.length c0_0) ∧ w'.cell? ⟨gb1269, 1, none⟩ = some (.slice A0_1 l0_1.length c0_1) ∧ w'.cell? ⟨gb1269, 2, none⟩ = some (.slice A0_2 l0_2.length c0_2) ∧ w'.cell? ⟨gb1269, 3, none⟩ = some (.int .i64 a0_3) ∧ w'.cell? ⟨gb1269, 4, none⟩ = some (.int .i64 a0_4) ∧ w'.cell? ⟨gb1270, 0, none⟩ = some (.int .i64 a1_0) ∧ w'.cell? ⟨gb1270, 1, none⟩ = some (.int .i64 a1_1) ∧ w'.cell? ⟨gb1270, 2, none⟩ = some (.int .i64 a1_2) ∧ w'.cell? ⟨gb1270, 3, none⟩ = some (.int .i64 a1_3) ∧ w'.cell? ⟨gb1270, 4, none⟩ = some (.bool a1_4) ∧ w'.cell? (ad1275.add (a1_0).toNat) = some (.slice (some ad1276) (rd_L3 l0_0 a1_0).length c1275_0) ∧ w'.cell? (ad1276.add ((a1_3).toNat * 3)) = some (.int .i64 ((rd_T106 (rd_L3 l0_0 a1_0) a1_3).f0)) ∧ w'.cell? ⟨(ad1276.add ((a1_3).toNat * 3)).block, (ad1276.add ((a1_3).toNat * 3)).off + 1, none⟩ = some (.int .i64 ((rd_T106 (rd_L3 l0_0 a1_0) a1_3).f1)) ∧ w'.cell? ⟨(ad1276.add ((a1_3).toNat * 3)).block, (ad1276.add ((a1_3).toNat * 3)).off + 2, none⟩ = some (.int .i64 ((rd_T106 (rd_L3 l0_0 a1_0) a1_3).f2))) (ds := []) #[false, false, false, false, false, false, false, false, false, false, false, false, false, false, false, false, false] (by kernel_rfl) rfl rfl ⟨(blk_cell BK1269.out 0).trans rfl, (blk_cell BK1269.out 1).trans rfl, (blk_cell BK1269.out 2).trans rfl, (blk_cell BK1269.out 3).trans rfl, (blk_cell BK1269.out 4).trans rfl, (blk_cell BK1270.out 0).trans rfl, (blk_cell BK1270.out 1).trans rfl, (blk_cell BK1270.out 2).trans rfl, (blk_cell BK1270.out 3).trans rfl, (blk_cell BK1270.out 4).trans rfl, ((HB.out.cell (World.block_lt_of_cell? w _ hw1275_0)).trans hw1275_0), ((HB.out.cell (World.block_lt_of_cell? w _ hw1276_0)).trans hw1276_0), ((HB.out.cell (World.block_lt_of_cell? w _ hw1276_1)).trans hw1276_1), ((HB.out.cell (World.block_lt_of_cell? w _ hw1276_2)).trans hw1276_2)⟩ (fun hHeld => ?_); refine with_tabW tax_Explain.tab8 tax_Explain.bits8 (fun HT_ HW_ => ?_)
          generalize wc.drew = w30 at BK1269 BK1270 HB HR1275_0 hx1275_0 hx1276_0 hx1276_1 hx1276_2 hHeld ⊢; refine pure_ (i := 0) (N := some 57) (v := ?_) (a' := ?_) #[true, false, false, false, false, false, false, false, false, false, false, false, false, false, false, false, false] rfl rfl (any_of HT_.out (by kernel_rfl)) (fun _ _ _ h => h) (Or.inl ⟨by rfl, ?_⟩) ?_ ?_
          rotate_left
          ·intro w'
           go_simp
           with_reducible rfl
          rotate_left
          ·simp only [Act.put, List.setIfInBounds_toArray, List.set_cons_zero, List.set_cons_succ, i64_w, i32_w]
           rfl
          refine pure_ (i := 2) (N := some 59) (v := ?_) (a' := ?_) #[true, false, true, false, false, false, false, false, false, false, false, false, false, false, false, false, false] rfl rfl (any_of HT_.out (by kernel_rfl)) (fun _ _ _ h => h) (Or.inl ⟨by rfl, ?_⟩) ?_ ?_
          rotate_left
          ·intro w'
           go_simp
           with_reducible rfl
          rotate_left
          ·simp only [Act.put, List.setIfInBounds_toArray, List.set_cons_zero, List.set_cons_succ, i64_w, i32_w]
           rfl
          refine pure_ (i := 6) (N := some 63) (v := ?_) (a' := ?_) #[true, false, true, false, false, false, true, false, false, false, false, false, false, false, false, false, false] rfl rfl (any_of HT_.out (by kernel_rfl)) (fun _ _ _ h => h) (Or.inl ⟨by rfl, ?_⟩) ?_ ?_
          rotate_left
          ·intro w'
           go_simp
           with_reducible rfl
          rotate_left
          ·simp only [Act.put, List.setIfInBounds_toArray, List.set_cons_zero, List.set_cons_succ, i64_w, i32_w]
           rfl
          refine pure_ (i := 11) (N := some 68) (v := ?_) (a' := ?_) #[true, false, true, false, false, false, true, false, false, false, false, true, false, false, false, false, false] rfl rfl (any_of HT_.out (by kernel_rfl)) (fun _ _ _ h => h) (Or.inl ⟨by rfl, ?_⟩) ?_ ?_
          rotate_left
          ·intro w'
           go_simp
           with_reducible rfl
          rotate_left
          ·simp only [Act.put, List.setIfInBounds_toArray, List.set_cons_zero, List.set_cons_succ, i64_w, i32_w]
           rfl
          refine pure_ (i := 12) (N := some 69) (v := ?_) (a' := ?_) #[true, false, true, false, false, false, true, false, false, false, false, true, true, false, false, false, false] rfl rfl (any_of HT_.out (by kernel_rfl)) (fun _ _ _ h => h) (Or.inl ⟨by rfl, ?_⟩) ?_ ?_
          rotate_left
          ·intro w'
           go_simp
           with_reducible rfl
          rotate_left
          ·simp only [Act.put, List.setIfInBounds_toArray, List.set_cons_zero, List.set_cons_succ, i64_w, i32_w]
           rfl
          refine take_ (i := 1) (N := some 58) (v := ?_) (a' := ?_) #[true, true, true, false, false, false, true, false, false, false, false, true, true, false, false, false, false] rfl rfl (take_ofW HT_.out HW_.out (by kernel_rfl)) (fun _ _ _ h => h) (Or.inl ⟨by rfl, ?_⟩) hHeld ?_ ?_
          rotate_left
          ·rintro w' ⟨s0, s1, s2, s3, s4, s5, s6, s7, s8, s9, s10, s11, s12, s13⟩
           go_simp
           with_reducible rfl
          rotate_left
          ·simp only [Act.put, List.setIfInBounds_toArray, List.set_cons_zero, List.set_cons_succ, i64_w, i32_w]
           rfl
          refine take_ (i := 3) (N := some 60) (v := ?_) (a' := ?_) #[true, true, true, true, false, false, true, false, false, false, false, true, true, false, false, false, false] rfl rfl (take_ofW HT_.out HW_.out (by kernel_rfl)) (fun _ _ _ h => h) (Or.inl ⟨by rfl, ?_⟩) hHeld ?_ ?_
          rotate_left
          ·rintro w' ⟨s0, s1, s2, s3, s4, s5, s6, s7, s8, s9, s10, s11, s12, s13⟩
           go_simp
           with_reducible rfl
          rotate_left
          ·simp only [Act.put, List.setIfInBounds_toArray, List.set_cons_zero, List.set_cons_succ, i64_w, i32_w]
           rfl
          refine pure_ (i := 4) (N := some 61) (v := ?_) (a' := ?_) #[true, true, true, true, true, false, true, false, false, false, false, true, true, false, false, false, false] rfl rfl (any_of HT_.out (by kernel_rfl)) (fun _ _ _ h => h) (Or.inl ⟨by rfl, ?_⟩) ?_ ?_
          rotate_left
          ·intro w'
           go_simp
           with_reducible rfl
          rotate_left
          ·simp only [Act.put, List.setIfInBounds_toArray, List.set_cons_zero, List.set_cons_succ, i64_w, i32_w]
           rfl
          refine take_ (i := 5) (N := some 62) (v := ?_) (a' := ?_) #[true, true, true, true, true, true, true, false, false, false, false, true, true, false, false, false, false] rfl rfl (take_ofW HT_.out HW_.out (by kernel_rfl)) (fun _ _ _ h => h) (Or.inl ⟨by rfl, ?_⟩) hHeld ?_ ?_
          rotate_left
          ·rintro w' ⟨s0, s1, s2, s3, s4, s5, s6, s7, s8, s9, s10, s11, s12, s13⟩
           go_simp
           with_reducible rfl
          rotate_left
          ·simp only [Act.put, List.setIfInBounds_toArray, List.set_cons_zero, List.set_cons_succ, i64_w, i32_w]
           rfl
          refine take_ (i := 7) (N := some 64) (v := ?_) (a' := ?_) #[true, true, true, true, true, true, true, true, false, false, false, true, true, false, false, false, false] rfl rfl (take_ofW HT_.out HW_.out (by kernel_rfl)) (fun _ _ _ h => h) (Or.inl ⟨by rfl, ?_⟩) hHeld ?_ ?_
          rotate_left
          ·rintro w' ⟨s0, s1, s2, s3, s4, s5, s6, s7, s8, s9, s10, s11, s12, s13⟩
           go_simp
           with_reducible rfl
          rotate_left
          ·simp only [Act.put, List.setIfInBounds_toArray, List.set_cons_zero, List.set_cons_succ, i64_w, i32_w]
           rfl
          refine pure_ (i := 8) (N := some 65) (v := ?_) (a' := ?_) #[true, true, true, true, true, true, true, true, true, false, false, true, true, false, false, false, false] rfl rfl (any_of HT_.out (by kernel_rfl)) (fun _ _ _ h => h) (Or.inl ⟨by rfl, ?_⟩) ?_ ?_
          rotate_left
          ·intro w'
           go_simp
           with_reducible rfl
          rotate_left
          ·simp only [Act.put, List.setIfInBounds_toArray, List.set_cons_zero, List.set_cons_succ, i64_w, i32_w]
           rfl
          refine pure_ (i := 9) (N := some 66) (v := ?_) (a' := ?_) #[true, true, true, true, true, true, true, true, true, true, false, true, true, false, false, false, false] rfl rfl (any_of HT_.out (by kernel_rfl)) (fun _ _ _ h => h) (Or.inl ⟨by rfl, ?_⟩) ?_ ?_
          rotate_left
          ·intro w'
           go_simp
           with_reducible rfl
          rotate_left
          ·simp only [Act.put, List.setIfInBounds_toArray, List.set_cons_zero, List.set_cons_succ, i64_w, i32_w]
           rfl
          refine take_ (i := 10) (N := some 67) (v := ?_) (a' := ?_) #[true, true, true, true, true, true, true, true, true, true, true, true, true, false, false, false, false] rfl rfl (take_ofW HT_.out HW_.out (by kernel_rfl)) (fun _ _ _ h => h) (Or.inl ⟨by rfl, ?_⟩) hHeld ?_ ?_
          rotate_left
          ·rintro w' ⟨s0, s1, s2, s3, s4, s5, s6, s7, s8, s9, s10, s11, s12, s13⟩
           go_simp
           with_reducible rfl
          rotate_left
          ·simp only [Act.put, List.setIfInBounds_toArray, List.set_cons_zero, List.set_cons_succ, i64_w, i32_w]
           rfl
          refine pure_ (i := 13) (N := some 70) (v := ?_) (a' := ?_) #[true, true, true, true, true, true, true, true, true, true, true, true, true, true, false, false, false] rfl rfl (any_of HT_.out (by kernel_rfl)) (fun _ _ _ h => h) (Or.inl ⟨by rfl, ?_⟩) ?_ ?_
          rotate_left
          ·intro w'
           go_simp
           with_reducible rfl
          rotate_left
          ·simp only [Act.put, List.setIfInBounds_toArray, List.set_cons_zero, List.set_cons_succ, i64_w, i32_w]
           rfl
          refine one_ (i := 14) (N := some 71) #[true, true, true, true, true, true, true, true, true, true, true, true, true, true, true, false, false] rfl rfl (one_of HT_.out (by kernel_rfl)) (by decide) (fun K hK => ?_)
          refine Kd.R_lit_step k159 _ 159 ?hg (N := 71) ?hd (xs := ([(⟨(rd_T106 (rd_L3 l0_0 a1_0) a1_3).f1, t1273, t1271⟩ : S159)] : List (S159))) (inner := [.int .i64 ((rd_T106 (rd_L3 l0_0 a1_0) a1_3).f1), .int .i64 t1273, .int .i64 t1271]) (ok := fun _ => True) (okp := fun _ => True) ?hr ?hp (fun _ hk => hk) trivial (Below.refl _ _) (Nat.le_refl _) (by simp) ?_; (case hd => rfl); (case hg => rfl); (case hr => first | (go_simp; done) | (go_simp; rfl)); (case hp => exact (Reps.c3 (show Kd.M k159 _ _ _ (⟨(rd_T106 (rd_L3 l0_0 a1_0) a1_3).f1, t1273, t1271⟩ : S159) [.int .i64 ((rd_T106 (rd_L3 l0_0 a1_0) a1_3).f1), .int .i64 t1273, .int .i64 t1271] from (k159_mkM _ _ _ (⟨(rd_T106 (rd_L3 l0_0 a1_0) a1_3).f1, t1273, t1271⟩ : S159) )) (Reps.none _ _)))
          intro v1278 w31 ho32 hb hg_ hnew_; clear hg_ hnew_
          (first | rw [← Ny1277.out] at ho32 | (simp only [Int.reduceToNat] at ho32; rw [← Ny1277.out] at ho32))
          have HO1279 := A_ (Kd.R_lower ho32 (below_size (bl2_ HB GE1269.out GE1270.out))); replace BK1269 := A_ (blk_below (bx_ BK1269) hb); replace BK1270 := A_ (blk_below (bx_ BK1270) hb); replace HB := A_ (below_step (bl2_ HB GE1269.out GE1270.out) hb); clear hb ho32; refine hK.out _ _ ⟨(blk_cell BK1269.out 0).trans rfl, (blk_cell BK1269.out 1).trans rfl, (blk_cell BK1269.out 2).trans rfl, (blk_cell BK1269.out 3).trans rfl, (blk_cell BK1269.out 4).trans rfl, (blk_cell BK1270.out 0).trans rfl, (blk_cell BK1270.out 1).trans rfl, (blk_cell BK1270.out 2).trans rfl, (blk_cell BK1270.out 3).trans rfl, (blk_cell BK1270.out 4).trans rfl, ((HB.out.cell (World.block_lt_of_cell? w _ hw1275_0)).trans hw1275_0), ((HB.out.cell (World.block_lt_of_cell? w _ hw1276_0)).trans hw1276_0), ((HB.out.cell (World.block_lt_of_cell? w _ hw1276_1)).trans hw1276_1), ((HB.out.cell (World.block_lt_of_cell? w _ hw1276_2)).trans hw1276_2)⟩ (fun hHeld => ?_)
          clear hK K; refine norm_ (a' := ?_) ?_ ?_
          rotate_left
          ·show Act.put _ (some 71) _ = _
           simp only [Act.put, List.setIfInBounds_toArray, List.set_cons_zero, List.set_cons_succ, i64_w, i32_w]
           rfl
          refine pure_ (i := 15) (N := some 10) (v := ?_) (a' := ?_) #[true, true, true, true, true, true, true, true, true, true, true, true, true, true, true, true, false] rfl rfl (any_of HT_.out (by kernel_rfl)) (fun _ _ _ h => h) (Or.inl ⟨by rfl, ?_⟩) ?_ ?_
          rotate_left
          ·intro w'
           go_simp
           with_reducible rfl
          rotate_left
          ·simp only [Act.put, List.setIfInBounds_toArray, List.set_cons_zero, List.set_cons_succ, i64_w, i32_w]
           rfl
          refine pure_ (i := 16) (N := some 11) (v := ?_) (a' := ?_) #[true, true, true, true, true, true, true, true, true, true, true, true, true, true, true, true, true] rfl rfl (any_of HT_.out (by kernel_rfl)) (fun _ _ _ h => h) (Or.inl ⟨by rfl, ?_⟩) ?_ ?_
          rotate_left
          ·intro w'
           go_simp
           with_reducible rfl
          rotate_left
          ·simp only [Act.put, List.setIfInBounds_toArray, List.set_cons_zero, List.set_cons_succ, i64_w, i32_w]
           rfl
          refine done_ (done_of HT_.out (by kernel_rfl)) ?_
          try go_wp2
          go_ret2
          exact ⟨_, er_, ro_ HO1279, bl2_ HB GE1269.out GE1270.out⟩
         ·rw [if_neg c27] at H; exact absurd H (by simp)
        ·rw [if_neg c26] at H; exact absurd H (by simp)
       ·rw [if_neg c25] at H; exact absurd H (by simp)
      ·rw [if_neg c24] at H; exact absurd H (by simp)
     ·rw [if_neg c23] at H; have c23b0 : (a1_1 == 3) = false := beq_eq_false_iff_ne.mpr c23; have c23b1 : (a1_1 != 3) = true := bne_iff_ne.mpr c23; by_cases c33 : 0 ≤ a1_0
      ·rw [if_pos c33] at H; have c33b0 := decide_eq_true c33; clear c33; by_cases c34 : a1_0 < (l0_0.length : Int)
       ·rw [if_pos c34] at H; have c34b0 := decide_eq_true c34; clear c34; replace H := Option.bind_eq_some_iff.mp H; obtain ⟨⟨t1281, t1282⟩, A350, H⟩ := H; (try dsimp only at H); have A35 := A_ A350; clear A350; by_cases c36 : t1282 = 0
        ·rw [if_pos c36] at H; have c36b0 : (t1282 == 0) = true := beq_iff_eq.mpr c36; have c36b1 : (t1282 != 0) = false := bne_eq_false_iff_eq.mpr c36; clear c36; have H' := A_ H; clear H; have hnb37 := NB1270_1269.out; have hnc37 := NB1269_1270.out; have hcz38_0 := cz_ BK1270 0; have hcz38_1 := cz_ BK1270 1; have hcz38_2 := cz_ BK1270 2; have hcz38_3 := cz_ BK1270 3; have hcz38_4 := cz_ BK1270 4; have hfz38_0 := fz_ BK1270 0; have hfz38_1 := fz_ BK1270 1; have hfz38_2 := fz_ BK1270 2; have hfz38_3 := fz_ BK1270 3; have hfz38_4 := fz_ BK1270 4; have hcz39_0 := cz_ BK1269 0; have hcz39_1 := cz_ BK1269 1; have hcz39_2 := cz_ BK1269 2; have hcz39_3 := cz_ BK1269 3; have hcz39_4 := cz_ BK1269 4; have hfz39_0 := fz_ BK1269 0; have hfz39_1 := fz_ BK1269 1; have hfz39_2 := fz_ BK1269 2; have hfz39_3 := fz_ BK1269 3; have hfz39_4 := fz_ BK1269 4; have p1280 : 0 ≤ (a1_0 : Int) := od_; have q1280 : a1_0 < (l0_0.length : Int) := od_; obtain ⟨ad1280, A1280_0, c1280_0, e1280, hx1280_0, hl1280_0, hi1280_0⟩ := at_L3 HR0_0.out a1_0 p1280 q1280; cases e1280; replace hx1280_0 := (HB.out.cell (World.block_lt_of_cell? w _ hx1280_0)).trans hx1280_0; have HR1280_0 := A_ hi1280_0; have HC1280_0 := A_ hl1280_0; clear hi1280_0 hl1280_0; replace p1280 := eq_true p1280; replace q1280 := eq_true q1280; go_wp2_with (first | ((with_reducible refine gate_callee (f := 37) rfl ?_); refine gm_ (some 81) Try.func37 #[.int .i64 a3, .int .i64 a4, .slice A1280_0 (rd_L3 l0_0 a1_0).length c1280_0] ?_; (with_reducible refine (band_Scale.calls kj8 a3 a4 _ _ (rd_L3 l0_0 a1_0) t1281 t1282 _ ?side1 ?side2 A35.out).mono ?_); (case side1 => exact cb_ HR1280_0 HB); (case side2 => exact HC1280_0.out); rintro e w40 ⟨v1283, rfl, ho0, hb⟩; refine ⟨_, rfl, ?_⟩; have HO1284 := A_ (Kd.R_lower ho0 (below_size (bl2_ HB GE1269.out GE1270.out))); replace BK1269 := A_ (blk_below (bx_ BK1269) hb); replace BK1270 := A_ (blk_below (bx_ BK1270) hb); replace HB := A_ (below_step (bl2_ HB GE1269.out GE1270.out) hb); (try clear hb); (try clear hb2); (try clear hk); (try clear hi); (try clear ho0); obtain ⟨Ao41, co41, eo41⟩ := Kd.R_slice HO1284.out; subst eo41))
         go_loopg [16, 89] kj8 (fun kq v16 v89 w' => ∃ (x16_2 : List (S159)) (x89_2 : Int), v89 = .int .i64 x89_2 ∧ Aside0 (tax_Explain.l0 kq t1273 t1281 x16_2 t1281 (t1281.length : Int) x89_2 = some (r1, r2)) ∧ Aside0 (kq ≤ kj8) ∧ Aside0 (Kd.R k106 106 w' w.heap.size (fun _ => True) (.slice Ao41 t1281.length co41) t1281) ∧ Aside0 (Kd.R k159 159 w' w.heap.size (fun _ => True) v16 x16_2) ∧ Aside0 (Kd.R k106 106 w' w.heap.size (fun _ => True) (.slice Ao41 t1281.length co41) t1281) ∧ Aside0 (w'.heap[gb1269]? = some (.cells #[(.slice (some ad1280) l0_0.length c0_0), (.slice A0_1 l0_1.length c0_1), (.slice A0_2 l0_2.length c0_2), .int .i64 a0_3, .int .i64 a0_4] 56 (0, 0))) ∧ Aside0 (w'.heap[gb1270]? = some (.cells #[.int .i64 a1_0, .int .i64 a1_1, .int .i64 a1_2, .int .i64 a1_3, .bool a1_4] 88 (0, 0))) ∧ Aside0 (Below w.heap.size w w'))
         case atStart => exact ⟨(([] : List (S159))), (0), (sx_), H', ⟨Nat.le_refl _⟩, ⟨ro_ HO1284⟩, ⟨by first | exact Kd.R_nil _ _ _ _ _ | exact Kd.N_nil _ _ _ _ _ | exact Kd.V_nil _ _ _ _ _ | exact Kd.Q_nil _ _ _ _ _ | exact Kd.S_nil _ _ _ _ _⟩, ⟨ro_ HO1284⟩, ⟨bx_ BK1269⟩, ⟨bx_ BK1270⟩, ⟨bl2_ HB GE1269.out GE1270.out⟩⟩
         case round =>
          clear H'; try clear c1
          try clear p1
          try clear q1
          try clear hx1
          try clear c2
          try clear p2
          try clear c3
          try clear c7
          try clear c7b0
          try clear c7b1
          try clear c8
          try clear c9
          try clear c12
          try clear p12
          try clear q12
          try clear hx12
          try clear c18
          try clear c18b0
          try clear c18b1
          try clear c19
          try clear c19b0
          try clear c19b1
          try clear c20
          try clear c22
          try clear c23
          try clear c23b0
          try clear c23b1
          try clear c24
          try clear c24b0
          try clear c25
          try clear c25b0
          try clear c26
          try clear c26b0
          try clear c27
          try clear c27b0
          try clear c28
          try clear c33
          try clear c33b0
          try clear c34
          try clear c34b0
          try clear c36
          try clear c36b0
          try clear c36b1
          try clear c37
          try clear hcz13_0 hcz13_1 hcz13_2 hcz13_3 hcz13_4
          try clear hcz14_0 hcz14_1 hcz14_2 hcz14_3 hcz14_4
          try clear hcz16_0 hcz16_1 hcz16_2 hcz16_3 hcz16_4
          try clear hcz21_0 hcz21_1 hcz21_2 hcz21_3 hcz21_4
          try clear hcz29_0 hcz29_1 hcz29_2 hcz29_3 hcz29_4
          try clear hcz38_0 hcz38_1 hcz38_2 hcz38_3 hcz38_4
          try clear hcz39_0 hcz39_1 hcz39_2 hcz39_3 hcz39_4
          try clear hfz13_0 hfz13_1 hfz13_2 hfz13_3 hfz13_4
          try clear hfz14_0 hfz14_1 hfz14_2 hfz14_3 hfz14_4
          try clear hfz16_0 hfz16_1 hfz16_2 hfz16_3 hfz16_4
          try clear hfz21_0 hfz21_1 hfz21_2 hfz21_3 hfz21_4
          try clear hfz29_0 hfz29_1 hfz29_2 hfz29_3 hfz29_4
          try clear hfz38_0 hfz38_1 hfz38_2 hfz38_3 hfz38_4
          try clear hfz39_0 hfz39_1 hfz39_2 hfz39_3 hfz39_4
          try clear hx1275_0
          try clear hx1276_0
          try clear hx1276_1
          try clear hx1276_2
          try clear hx1280_0
          try clear p1275
          try clear p1276
          try clear p1280
          try clear p2
          try clear q1275
          try clear q1276
          try clear q1280
          obtain ⟨x16_2, x89_2, rfl, HA, HK2, HO_15, HO_16, HO_87, BK1269, BK1270, HB⟩ := hrel
          cases gk with
          | zero => exact absurd HA.out (by simp [tax_Explain.l0])
          | succ k2 =>
           have H := HA.out; clear HA; simp only [tax_Explain.l0] at H; by_cases c42 : x89_2 < (t1281.length : Int)
           ·rw [if_pos c42] at H; have c42b0 := decide_eq_true c42; clear c42; by_cases c43 : 0 ≤ x89_2
            ·rw [if_pos c43] at H; have c43b0 := decide_eq_true c43; clear c43; by_cases c44 : x89_2 < (t1281.length : Int)
             ·rw [if_pos c44] at H; have c44b0 := decide_eq_true c44; clear c44; have HC45 := A_ H; clear H; have p1285 : 0 ≤ (x89_2 : Int) := od_; have q1285 : x89_2 < (t1281.length : Int) := od_; obtain ⟨ad1285, e1285, hx1285_0, hx1285_1, hx1285_2⟩ := at_T106 (Kd.R_reads' HO_87.out).2.2 x89_2 p1285 q1285; cases e1285; replace p1285 := eq_true p1285; replace q1285 := eq_true q1285
              go_upto_if 99 with (first | ((with_reducible refine gate_dst (N := 18) rfl ?_); refine be_ (N := 18) (cs := #[.int .i64 0, .int .i64 0, .int .i64 0]) (t := 106) ?_; intro gb1286 hg w46 hbox hb; have BK1286 := A_ (hbox); have GW1286 := A_ ((by rw [hg]; exact (below_size (bl2_ HB GE1269.out GE1270.out)) : w.heap.size ≤ gb1286)); have GE1286 := A_ ((by rw [hg]; exact (below_size (bl2_ HB GE1269.out GE1270.out)) : w.heap.size ≤ gb1286)); have NB1269_1286 := A_ ((by rw [hg]; exact Nat.ne_of_lt (blk_lt (bx_ BK1269)) : gb1269 ≠ gb1286)); have NB1286_1269 := A_ ((by rw [hg]; exact Nat.ne_of_gt (blk_lt (bx_ BK1269)) : gb1286 ≠ gb1269)); have NB1270_1286 := A_ ((by rw [hg]; exact Nat.ne_of_lt (blk_lt (bx_ BK1270)) : gb1270 ≠ gb1286)); have NB1286_1270 := A_ ((by rw [hg]; exact Nat.ne_of_gt (blk_lt (bx_ BK1270)) : gb1286 ≠ gb1270)); replace HO_15 := A_ (Kd.R_below (Kd.R_elderB (ro_ HO_15) gb1286 (Nat.le_of_eq hg.symm)) hb); replace HO_16 := A_ (Kd.R_below (ro_ HO_16) hb); replace HO_87 := A_ (Kd.R_below (Kd.R_elderB (ro_ HO_87) gb1286 (Nat.le_of_eq hg.symm)) hb); replace BK1269 := A_ (blk_below (bx_ BK1269) hb); replace BK1270 := A_ (blk_below (bx_ BK1270) hb); replace HB := A_ (below_step (bl2_ HB GE1269.out GE1270.out) hb); clear hb hbox hg; have hnb47 := NB1286_1269.out; have hnc47 := NB1269_1286.out; have hnb48 := NB1286_1270.out; have hnc48 := NB1270_1286.out; have hcz49_0 := cz_ BK1286 0; have hcz49_1 := cz_ BK1286 1; have hcz49_2 := cz_ BK1286 2; have hfz49_0 := fz_ BK1286 0; have hfz49_1 := fz_ BK1286 1; have hfz49_2 := fz_ BK1286 2))
              (try simp only [Act.put, List.setIfInBounds_toArray, List.set_cons_zero, List.set_cons_succ])
              go_cut [19] (fun v19 wc => ∃ (kq : Nat) (x19_44 : Int), v19 = .int .i64 x19_44 ∧ Aside0 (tax_Explain.j2 kq t1273 t1281 x16_2 x19_44 t1281 (t1281.length : Int) x89_2 ((rd_T106 t1281 x89_2).f0) ((rd_T106 t1281 x89_2).f1) ((rd_T106 t1281 x89_2).f2) = some (r1, r2)) ∧ Aside0 (kq ≤ k2) ∧ Aside0 (Kd.R k106 106 wc w.heap.size (fun k_ => k_ ≠ gb1286) (.slice (some ad1285) t1281.length co41) t1281) ∧ Aside0 (Kd.R k159 159 wc w.heap.size (fun _ => True) u16 x16_2) ∧ Aside0 (Kd.R k106 106 wc w.heap.size (fun k_ => k_ ≠ gb1286) (.slice (some ad1285) t1281.length co41) t1281) ∧ Aside0 (wc.heap[gb1269]? = some (.cells #[(.slice (some ad1280) l0_0.length c0_0), (.slice A0_1 l0_1.length c0_1), (.slice A0_2 l0_2.length c0_2), .int .i64 a0_3, .int .i64 a0_4] 56 (0, 0))) ∧ Aside0 (wc.heap[gb1270]? = some (.cells #[.int .i64 a1_0, .int .i64 a1_1, .int .i64 a1_2, .int .i64 a1_3, .bool a1_4] 88 (0, 0))) ∧ Aside0 (wc.heap[gb1286]? = some (.cells #[.int .i64 ((rd_T106 t1281 x89_2).f0), .int .i64 ((rd_T106 t1281 x89_2).f1), .int .i64 ((rd_T106 t1281 x89_2).f2)] 106 (0, 0))) ∧ Aside0 (Below w.heap.size w wc))
              case first =>
               have H := HC45.out; clear HC45; by_cases c50 : (wrap64 (x89_2 + 1)) < (t1281.length : Int)
               ·rw [if_pos c50] at H; have c50b0 := decide_eq_true c50; clear c50
                (first | rw [c50b0] | (simp only [i64_w, i32_w]; rw [c50b0]) | skip)
                obtain ⟨ji51, hji51⟩ : ∃ j_ : Int, (wrap64 (x89_2 + 1)) = j_ := ⟨_, rfl⟩; replace H : (if 0 ≤ (ji51) then (tax_Explain.j2 k2 t1273 t1281 x16_2 (mn t1273 ((rd_T106 t1281 (ji51)).f0)) t1281 (t1281.length : Int) x89_2 ((rd_T106 t1281 x89_2).f0) ((rd_T106 t1281 x89_2).f1) ((rd_T106 t1281 x89_2).f2)) else (none)) = some (r1, r2) := by first | (rw [hji51] at H; exact H) | (simp only [hji51] at H ⊢; exact H)
                (try rw [hji51] at c50b0)
                have hji51w : (IntKind.i64.wrap (x89_2 + 1)) = ji51 := (i64_w _).trans hji51; by_cases c52 : 0 ≤ (ji51)
                ·rw [if_pos c52] at H; have c52b0 := decide_eq_true c52; clear c52; obtain ⟨ji53, hji53⟩ : ∃ j_ : Int, (mn t1273 ((rd_T106 t1281 (ji51)).f0)) = j_ := ⟨_, rfl⟩; replace H : (tax_Explain.j2 k2 t1273 t1281 x16_2 ji53 t1281 (t1281.length : Int) x89_2 ((rd_T106 t1281 x89_2).f0) ((rd_T106 t1281 x89_2).f1) ((rd_T106 t1281 x89_2).f2)) = some (r1, r2) := by first | (rw [hji53] at H; exact H) | (simp only [hji53] at H ⊢; exact H)
                 have hji53_ : (if ((rd_T106 t1281 (ji51)).f0) < t1273 then ((rd_T106 t1281 (ji51)).f0) else t1273) = ji53 := hji53; have H' := A_ H; clear H; have p1287 : 0 ≤ ((ji51) : Int) := od_; have q1287 : (ji51) < (t1281.length : Int) := od_; obtain ⟨ad1287, e1287, hx1287_0, hx1287_1, hx1287_2⟩ := at_T106 (Kd.R_reads' HO_15.out).2.2 (ji51) p1287 q1287; obtain rfl : ad1285 = ad1287 := (by injection e1287); have hn1287_0 : ad1285.block ≠ gb1286 := Kd.own_blk (by first | (refine Kd.R_ne HO_15.out BK1286.out ?_; decide) | exact Kd.R_away HO_15.out (fun _ hk => hk) | exact Kd.R_away HO_15.out (fun _ hk => hk.1) | exact Kd.R_away HO_15.out (fun _ hk => hk.2) | exact Kd.R_away HO_15.out (fun _ hk => hk.1.2)); have hn1287_1 : ad1285.block ≠ gb1286 := Kd.own_blk (by first | (refine Kd.R_ne HO_15.out BK1286.out ?_; decide) | exact Kd.R_away HO_15.out (fun _ hk => hk) | exact Kd.R_away HO_15.out (fun _ hk => hk.1) | exact Kd.R_away HO_15.out (fun _ hk => hk.2) | exact Kd.R_away HO_15.out (fun _ hk => hk.1.2)); have hn1287_2 : ad1285.block ≠ gb1286 := Kd.own_blk (by first | (refine Kd.R_ne HO_15.out BK1286.out ?_; decide) | exact Kd.R_away HO_15.out (fun _ hk => hk) | exact Kd.R_away HO_15.out (fun _ hk => hk.1) | exact Kd.R_away HO_15.out (fun _ hk => hk.2) | exact Kd.R_away HO_15.out (fun _ hk => hk.1.2)); replace hx1287_0 := (cell_far (p := ⟨gb1286, 0, none⟩) (by first | (rw [add_block]; exact hn1287_0) | (show (Addr.add _ _).block ≠ _; rw [add_block]; exact hn1287_0) | exact hn1287_0) (.int .i64 ((rd_T106 t1281 x89_2).f0))).trans hx1287_0; replace hx1287_1 := (cell_far (p := ⟨gb1286, 0, none⟩) (by first | (rw [add_block]; exact hn1287_0) | (show (Addr.add _ _).block ≠ _; rw [add_block]; exact hn1287_0) | exact hn1287_0) (.int .i64 ((rd_T106 t1281 x89_2).f0))).trans hx1287_1; replace hx1287_2 := (cell_far (p := ⟨gb1286, 0, none⟩) (by first | (rw [add_block]; exact hn1287_0) | (show (Addr.add _ _).block ≠ _; rw [add_block]; exact hn1287_0) | exact hn1287_0) (.int .i64 ((rd_T106 t1281 x89_2).f0))).trans hx1287_2; replace hx1287_0 := (cell_far (p := ⟨gb1286, 1, none⟩) (by first | (rw [add_block]; exact hn1287_1) | (show (Addr.add _ _).block ≠ _; rw [add_block]; exact hn1287_1) | exact hn1287_1) (.int .i64 ((rd_T106 t1281 x89_2).f1))).trans hx1287_0; replace hx1287_1 := (cell_far (p := ⟨gb1286, 1, none⟩) (by first | (rw [add_block]; exact hn1287_1) | (show (Addr.add _ _).block ≠ _; rw [add_block]; exact hn1287_1) | exact hn1287_1) (.int .i64 ((rd_T106 t1281 x89_2).f1))).trans hx1287_1; replace hx1287_2 := (cell_far (p := ⟨gb1286, 1, none⟩) (by first | (rw [add_block]; exact hn1287_1) | (show (Addr.add _ _).block ≠ _; rw [add_block]; exact hn1287_1) | exact hn1287_1) (.int .i64 ((rd_T106 t1281 x89_2).f1))).trans hx1287_2; replace hx1287_0 := (cell_far (p := ⟨gb1286, 2, none⟩) (by first | (rw [add_block]; exact hn1287_2) | (show (Addr.add _ _).block ≠ _; rw [add_block]; exact hn1287_2) | exact hn1287_2) (.int .i64 ((rd_T106 t1281 x89_2).f2))).trans hx1287_0; replace hx1287_1 := (cell_far (p := ⟨gb1286, 2, none⟩) (by first | (rw [add_block]; exact hn1287_2) | (show (Addr.add _ _).block ≠ _; rw [add_block]; exact hn1287_2) | exact hn1287_2) (.int .i64 ((rd_T106 t1281 x89_2).f2))).trans hx1287_1; replace hx1287_2 := (cell_far (p := ⟨gb1286, 2, none⟩) (by first | (rw [add_block]; exact hn1287_2) | (show (Addr.add _ _).block ≠ _; rw [add_block]; exact hn1287_2) | exact hn1287_2) (.int .i64 ((rd_T106 t1281 x89_2).f2))).trans hx1287_2; clear hn1287_0; clear hn1287_1; clear hn1287_2; replace p1287 := eq_true p1287; replace q1287 := eq_true q1287
                 go_wp2
                 go_meet
                 case rel => exact ⟨_, (ji53), (by first | rfl | (simp; done) | (simp only [← hji53] <;> (first | rfl | simp)) | (simp [*]; done)), H', ⟨by have := HJ8.out; have := HK2.out; first | omega | exact Nat.le_refl _⟩, ⟨by (with_reducible repeat (first | apply Kd.R_alloc | apply Kd.R_drewN | apply Kd.R_drew)); exact Kd.R_mono (Kd.R_far (p := ⟨gb1286, 2, none⟩) (Kd.R_far (p := ⟨gb1286, 1, none⟩) (Kd.R_far (p := ⟨gb1286, 0, none⟩) (Kd.R_mono HO_15.out (fun k_ hk => (⟨hk, hk.2⟩ : _ ∧ k_ ≠ gb1286))) (fun _ hk => hk.2) (.int .i64 ((rd_T106 t1281 x89_2).f0))) (fun _ hk => hk.2) (.int .i64 ((rd_T106 t1281 x89_2).f1))) (fun _ hk => hk.2) (.int .i64 ((rd_T106 t1281 x89_2).f2))) (fun _ hk => hk.1.2)⟩, ⟨by (with_reducible repeat (first | apply Kd.R_alloc | apply Kd.R_drewN | apply Kd.R_drew)); exact Kd.R_mono (Kd.R_far (p := ⟨gb1286, 2, none⟩) (Kd.R_far (p := ⟨gb1286, 1, none⟩) (Kd.R_far (p := ⟨gb1286, 0, none⟩) (Kd.R_types HO_16.out BK1286.out (by decide)) (fun _ hk => hk.2) (.int .i64 ((rd_T106 t1281 x89_2).f0))) (fun _ hk => hk.2) (.int .i64 ((rd_T106 t1281 x89_2).f1))) (fun _ hk => hk.2) (.int .i64 ((rd_T106 t1281 x89_2).f2))) (fun _ hk => trivial)⟩, ⟨by (with_reducible repeat (first | apply Kd.R_alloc | apply Kd.R_drewN | apply Kd.R_drew)); exact Kd.R_mono (Kd.R_far (p := ⟨gb1286, 2, none⟩) (Kd.R_far (p := ⟨gb1286, 1, none⟩) (Kd.R_far (p := ⟨gb1286, 0, none⟩) (Kd.R_mono HO_87.out (fun k_ hk => (⟨hk, hk.2⟩ : _ ∧ k_ ≠ gb1286))) (fun _ hk => hk.2) (.int .i64 ((rd_T106 t1281 x89_2).f0))) (fun _ hk => hk.2) (.int .i64 ((rd_T106 t1281 x89_2).f1))) (fun _ hk => hk.2) (.int .i64 ((rd_T106 t1281 x89_2).f2))) (fun _ hk => hk.1.2)⟩, ⟨by refine bw_ ?_; refine blk_far ?_ NB1269_1286.out _; refine bw_ ?_; refine blk_far ?_ NB1269_1286.out _; refine bw_ ?_; refine blk_far ?_ NB1269_1286.out _; refine bw_ ?_; exact BK1269.out⟩, ⟨by refine bw_ ?_; refine blk_far ?_ NB1270_1286.out _; refine bw_ ?_; refine blk_far ?_ NB1270_1286.out _; refine bw_ ?_; refine blk_far ?_ NB1270_1286.out _; refine bw_ ?_; exact BK1270.out⟩, ⟨by refine bw_ ?_; refine blk_put (cs := #[.int .i64 ((rd_T106 t1281 x89_2).f0), .int .i64 ((rd_T106 t1281 x89_2).f1), .int .i64 0]) ?_ 2 _ rfl; refine bw_ ?_; refine blk_put (cs := #[.int .i64 ((rd_T106 t1281 x89_2).f0), .int .i64 0, .int .i64 0]) ?_ 1 _ rfl; refine bw_ ?_; refine blk_put (cs := #[.int .i64 0, .int .i64 0, .int .i64 0]) ?_ 0 _ rfl; refine bw_ ?_; exact BK1286.out⟩, ⟨bl3_ HB GE1269.out GE1270.out GE1286.out⟩⟩
                ·rw [if_neg c52] at H; exact absurd H (by simp)
               ·rw [if_neg c50] at H; have c50b0 := decide_eq_false c50; clear c50
                (first | rw [c50b0] | (simp only [i64_w, i32_w]; rw [c50b0]) | skip)
                have H' := A_ H; clear H
                go_wp2
                go_meet
                case rel => exact ⟨_, (t1273), (sx_), H', ⟨by have := HJ8.out; have := HK2.out; first | omega | exact Nat.le_refl _⟩, ⟨by (with_reducible repeat (first | apply Kd.R_alloc | apply Kd.R_drewN | apply Kd.R_drew)); exact Kd.R_mono (Kd.R_far (p := ⟨gb1286, 2, none⟩) (Kd.R_far (p := ⟨gb1286, 1, none⟩) (Kd.R_far (p := ⟨gb1286, 0, none⟩) (Kd.R_mono HO_15.out (fun k_ hk => (⟨hk, hk.2⟩ : _ ∧ k_ ≠ gb1286))) (fun _ hk => hk.2) (.int .i64 ((rd_T106 t1281 x89_2).f0))) (fun _ hk => hk.2) (.int .i64 ((rd_T106 t1281 x89_2).f1))) (fun _ hk => hk.2) (.int .i64 ((rd_T106 t1281 x89_2).f2))) (fun _ hk => hk.1.2)⟩, ⟨by (with_reducible repeat (first | apply Kd.R_alloc | apply Kd.R_drewN | apply Kd.R_drew)); exact Kd.R_mono (Kd.R_far (p := ⟨gb1286, 2, none⟩) (Kd.R_far (p := ⟨gb1286, 1, none⟩) (Kd.R_far (p := ⟨gb1286, 0, none⟩) (Kd.R_types HO_16.out BK1286.out (by decide)) (fun _ hk => hk.2) (.int .i64 ((rd_T106 t1281 x89_2).f0))) (fun _ hk => hk.2) (.int .i64 ((rd_T106 t1281 x89_2).f1))) (fun _ hk => hk.2) (.int .i64 ((rd_T106 t1281 x89_2).f2))) (fun _ hk => trivial)⟩, ⟨by (with_reducible repeat (first | apply Kd.R_alloc | apply Kd.R_drewN | apply Kd.R_drew)); exact Kd.R_mono (Kd.R_far (p := ⟨gb1286, 2, none⟩) (Kd.R_far (p := ⟨gb1286, 1, none⟩) (Kd.R_far (p := ⟨gb1286, 0, none⟩) (Kd.R_mono HO_87.out (fun k_ hk => (⟨hk, hk.2⟩ : _ ∧ k_ ≠ gb1286))) (fun _ hk => hk.2) (.int .i64 ((rd_T106 t1281 x89_2).f0))) (fun _ hk => hk.2) (.int .i64 ((rd_T106 t1281 x89_2).f1))) (fun _ hk => hk.2) (.int .i64 ((rd_T106 t1281 x89_2).f2))) (fun _ hk => hk.1.2)⟩, ⟨by refine bw_ ?_; refine blk_far ?_ NB1269_1286.out _; refine bw_ ?_; refine blk_far ?_ NB1269_1286.out _; refine bw_ ?_; refine blk_far ?_ NB1269_1286.out _; refine bw_ ?_; exact BK1269.out⟩, ⟨by refine bw_ ?_; refine blk_far ?_ NB1270_1286.out _; refine bw_ ?_; refine blk_far ?_ NB1270_1286.out _; refine bw_ ?_; refine blk_far ?_ NB1270_1286.out _; refine bw_ ?_; exact BK1270.out⟩, ⟨by refine bw_ ?_; refine blk_put (cs := #[.int .i64 ((rd_T106 t1281 x89_2).f0), .int .i64 ((rd_T106 t1281 x89_2).f1), .int .i64 0]) ?_ 2 _ rfl; refine bw_ ?_; refine blk_put (cs := #[.int .i64 ((rd_T106 t1281 x89_2).f0), .int .i64 0, .int .i64 0]) ?_ 1 _ rfl; refine bw_ ?_; refine blk_put (cs := #[.int .i64 0, .int .i64 0, .int .i64 0]) ?_ 0 _ rfl; refine bw_ ?_; exact BK1286.out⟩, ⟨bl3_ HB GE1269.out GE1270.out GE1286.out⟩⟩
              case rest =>
               clear HC45; try clear c1
               try clear p1
               try clear q1
               try clear hx1
               try clear c2
               try clear p2
               try clear c3
               try clear c4
               try clear c5
               try clear p6
               try clear c7
               try clear c7b0
               try clear c7b1
               try clear c8
               try clear c9
               try clear c12
               try clear p12
               try clear q12
               try clear hx12
               try clear c18
               try clear c18b0
               try clear c18b1
               try clear c19
               try clear c19b0
               try clear c19b1
               try clear c20
               try clear c22
               try clear c23
               try clear c23b0
               try clear c23b1
               try clear c24
               try clear c24b0
               try clear c25
               try clear c25b0
               try clear c26
               try clear c26b0
               try clear c27
               try clear c27b0
               try clear c28
               try clear c33
               try clear c33b0
               try clear c34
               try clear c34b0
               try clear c36
               try clear c36b0
               try clear c36b1
               try clear c37
               try clear c42
               try clear c42b0
               try clear c43
               try clear c43b0
               try clear c44
               try clear c44b0
               try clear c47
               try clear c48
               try clear c50
               try clear c50b0
               try clear c52
               try clear c52b0
               try clear hcz13_0 hcz13_1 hcz13_2 hcz13_3 hcz13_4
               try clear hcz14_0 hcz14_1 hcz14_2 hcz14_3 hcz14_4
               try clear hcz16_0 hcz16_1 hcz16_2 hcz16_3 hcz16_4
               try clear hcz21_0 hcz21_1 hcz21_2 hcz21_3 hcz21_4
               try clear hcz29_0 hcz29_1 hcz29_2 hcz29_3 hcz29_4
               try clear hcz38_0 hcz38_1 hcz38_2 hcz38_3 hcz38_4
               try clear hcz39_0 hcz39_1 hcz39_2 hcz39_3 hcz39_4
               try clear hcz49_0 hcz49_1 hcz49_2
               try clear hfz13_0 hfz13_1 hfz13_2 hfz13_3 hfz13_4
               try clear hfz14_0 hfz14_1 hfz14_2 hfz14_3 hfz14_4
               try clear hfz16_0 hfz16_1 hfz16_2 hfz16_3 hfz16_4
               try clear hfz21_0 hfz21_1 hfz21_2 hfz21_3 hfz21_4
               try clear hfz29_0 hfz29_1 hfz29_2 hfz29_3 hfz29_4
               try clear hfz38_0 hfz38_1 hfz38_2 hfz38_3 hfz38_4
               try clear hfz39_0 hfz39_1 hfz39_2 hfz39_3 hfz39_4
               try clear hfz49_0 hfz49_1 hfz49_2
               try clear hx1275_0
               try clear hx1276_0
               try clear hx1276_1
               try clear hx1276_2
               try clear hx1280_0
               try clear hx1285_0
               try clear hx1285_1
               try clear hx1285_2
               try clear hx1287_0
               try clear hx1287_1
               try clear hx1287_2
               try clear p1
               try clear p12
               try clear p1275
               try clear p1276
               try clear p1280
               try clear p1285
               try clear p1287
               try clear p2
               try clear q1
               try clear q12
               try clear q1275
               try clear q1276
               try clear q1280
               try clear q1285
               try clear q1287
               obtain ⟨kq, x19_44, rfl, HA, HJ44, HO_15, HO_16, HO_87, BK1269, BK1270, BK1286, HB⟩ := hcut
               cases kq with
               | zero => exact absurd HA.out (by simp [tax_Explain.j2])
               | succ kj44 =>
                have H := HA.out; clear HA; simp only [tax_Explain.j2] at H; by_cases c54 : x19_44 ≤ ((rd_T106 t1281 x89_2).f0)
                ·rw [if_pos c54] at H; have c54b0 := decide_eq_true c54; clear c54; simp only [Option.some.injEq, Prod.mk.injEq] at H; obtain ⟨rfl, rfl⟩ := H; have hnb55 := NB1286_1269.out; have hnc55 := NB1269_1286.out; have hnb56 := NB1286_1270.out; have hnc56 := NB1270_1286.out; have hcz57_0 := cz_ BK1286 0; have hcz57_1 := cz_ BK1286 1; have hcz57_2 := cz_ BK1286 2; have hfz57_0 := fz_ BK1286 0; have hfz57_1 := fz_ BK1286 1; have hfz57_2 := fz_ BK1286 2
                 go_wp2
                 go_ret2
                 exact ⟨_, er_, ro_ HO_16, bl3_ HB GE1269.out GE1270.out GE1286.out⟩
                ·rw [if_neg c54] at H; have c54b0 := decide_eq_false c54; clear c54; replace H := Option.bind_eq_some_iff.mp H; obtain ⟨⟨t1288, t1289⟩, A580, H⟩ := H; (try dsimp only at H); have A58 := A_ A580; clear A580; by_cases c59 : t1289 = 0
                 ·rw [if_pos c59] at H; have c59b0 : (t1289 == 0) = true := beq_iff_eq.mpr c59; have c59b1 : (t1289 != 0) = false := bne_eq_false_iff_eq.mpr c59; clear c59; by_cases c60 : x16_2.length < 5864062014805
                  ·rw [if_pos c60] at H; have LMc60 := A_ c60; clear c60; obtain ⟨y1290, hy1290⟩ : ∃ y_ : List (S159), y_ = (x16_2 ++ [(⟨((rd_T106 t1281 x89_2).f1), wrap64 (x19_44 - ((rd_T106 t1281 x89_2).f0)), t1288⟩ : S159)]) := ⟨_, rfl⟩; replace H : (tax_Explain.l0 kj44 t1273 t1281 y1290 t1281 (t1281.length : Int) (wrap64 (x89_2 + 1))) = some (r1, r2) := by first | (rw [hy1290]; with_reducible exact H) | (have H2_ := (Option.bind_some _ _).symm.trans H; rw [hy1290]; with_reducible exact H2_) | (have H2_ := (Option.bind_some _ _).symm.trans H; with_reducible exact H2_) | with_reducible exact H | (rw [hy1290]; exact H) | exact H
                   have Ny1290 := A_ hy1290; clear hy1290; have H' := A_ H; clear H; have hnb61 := NB1286_1269.out; have hnc61 := NB1269_1286.out; have hnb62 := NB1286_1270.out; have hnc62 := NB1270_1286.out; have hcz63_0 := cz_ BK1286 0; have hcz63_1 := cz_ BK1286 1; have hcz63_2 := cz_ BK1286 2; have hfz63_0 := fz_ BK1286 0; have hfz63_1 := fz_ BK1286 1; have hfz63_2 := fz_ BK1286 2; go_wp2_with (first | ((with_reducible refine gate_callee (f := 59) rfl ?_); refine gm_ (some 119) Try.func59 #[.int .i64 (wrap64 (x19_44 - ((rd_T106 t1281 x89_2).f0))), .int .i64 ((rd_T106 t1281 x89_2).f1)] ?_; (with_reducible refine (frac_Part.calls kj44 (wrap64 (x19_44 - ((rd_T106 t1281 x89_2).f0))) ((rd_T106 t1281 x89_2).f1) t1288 t1289 _ A58.out).mono ?_); rintro e w64 ⟨rfl, hb⟩; refine ⟨_, rfl, ?_⟩; replace HO_15 := A_ (Kd.R_below (ro_ HO_15) hb); replace HO_16 := A_ (Kd.R_below (ro_ HO_16) hb); replace HO_87 := A_ (Kd.R_below (ro_ HO_87) hb); replace BK1269 := A_ (blk_below (bx_ BK1269) hb); replace BK1270 := A_ (blk_below (bx_ BK1270) hb); replace BK1286 := A_ (blk_below (bx_ BK1286) hb); replace HB := A_ (below_step (bl3_ HB GE1269.out GE1270.out GE1286.out) hb); (try clear hb); (try clear hb2); (try clear hk); (try clear hi); have hcz65_0 := cz_ BK1286 0; have hcz65_1 := cz_ BK1286 1; have hcz65_2 := cz_ BK1286 2; have hfz65_0 := fz_ BK1286 0; have hfz65_1 := fz_ BK1286 1; have hfz65_2 := fz_ BK1286 2) | ((with_reducible refine gate_builtin (b := .append) (xs := #[.tmp 125, .tmp 134]) rfl ?_); at_builtin; refine Kd.R_append k159 (w0 := w) w.heap.size rfl (.tmp 125) (.tmp 134) 155 159 (.agg #[(.int .i64 0), (.int .i64 0), (.int .i64 0)]) 24 rfl Try.underlying155 info159 rfl (by decide) (by omega) u16 x16_2 (⟨((rd_T106 t1281 x89_2).f1), wrap64 (x19_44 - ((rd_T106 t1281 x89_2).f0)), t1288⟩ : S159) [.int .i64 ((rd_T106 t1281 x89_2).f1), .int .i64 (wrap64 (x19_44 - ((rd_T106 t1281 x89_2).f0))), .int .i64 t1288] (fun _ => True) (fun _ => False) rfl rfl ?aP (fun _ hk => hk.elim) ?aF ?aO ?aB ?aS ?aL ?_; (case aP => exact k159_mkM _ _ _ (⟨((rd_T106 t1281 x89_2).f1), wrap64 (x19_44 - ((rd_T106 t1281 x89_2).f0)), t1288⟩ : S159)); (case aB => exact (bl3_ HB GE1269.out GE1270.out GE1286.out)); (case aF => exact (fun _ _ => trivial)); (case aO => exact (ro_ HO_16)); (case aS => exact (below_size (bl3_ HB GE1269.out GE1270.out GE1286.out))); (case aL => have := LMc60.out; omega); intro v1291 w66 ho hb hg hat; rw [← Ny1290.out] at ho; have HO1292 := A_ (ho); replace HO_15 := A_ (Kd.R_over' (ro_ HO_15) (Kd.R_typed (ro_ HO_16)) (by decide) hg); replace HO_87 := A_ (Kd.R_over' (ro_ HO_87) (Kd.R_typed (ro_ HO_16)) (by decide) hg); replace BK1269 := A_ (blk_grown (g := gb1269) (o := .cells #[.slice (some ad1280) l0_0.length c0_0, .slice A0_1 l0_1.length c0_1, .slice A0_2 l0_2.length c0_2, .int .i64 a0_3, .int .i64 a0_4] 56 (0, 0)) (bx_ BK1269) hg (by first | (refine Kd.R_ne HO_16.out BK1269.out ?_; decide) | exact Kd.R_away HO_16.out (fun _ hk => hk) | exact Kd.R_away HO_16.out (fun _ hk => hk.1) | exact Kd.R_away HO_16.out (fun _ hk => hk.2) | exact Kd.R_away HO_16.out (fun _ hk => hk.1.2))); replace BK1270 := A_ (blk_grown (g := gb1270) (o := .cells #[.int .i64 a1_0, .int .i64 a1_1, .int .i64 a1_2, .int .i64 a1_3, .bool a1_4] 88 (0, 0)) (bx_ BK1270) hg (by first | (refine Kd.R_ne HO_16.out BK1270.out ?_; decide) | exact Kd.R_away HO_16.out (fun _ hk => hk) | exact Kd.R_away HO_16.out (fun _ hk => hk.1) | exact Kd.R_away HO_16.out (fun _ hk => hk.2) | exact Kd.R_away HO_16.out (fun _ hk => hk.1.2))); replace BK1286 := A_ (blk_grown (g := gb1286) (o := .cells #[.int .i64 ((rd_T106 t1281 x89_2).f0), .int .i64 ((rd_T106 t1281 x89_2).f1), .int .i64 ((rd_T106 t1281 x89_2).f2)] 106 (0, 0)) (bx_ BK1286) hg (by first | (refine Kd.R_ne HO_16.out BK1286.out ?_; decide) | exact Kd.R_away HO_16.out (fun _ hk => hk) | exact Kd.R_away HO_16.out (fun _ hk => hk.1) | exact Kd.R_away HO_16.out (fun _ hk => hk.2) | exact Kd.R_away HO_16.out (fun _ hk => hk.1.2))); replace HB := A_ (hb); clear HO_16; clear ho hb hg hat))
                   go_roundg kj44
                   case measure => have := HJ8.out; have := HK2.out; have := HJ44.out; omega
                   case rel => exact ⟨(y1290), (wrap64 (x89_2 + 1)), (sx_), H', ⟨by have := HJ8.out; have := HK2.out; have := HJ44.out; omega⟩, ⟨by (with_reducible repeat (first | apply Kd.R_alloc | apply Kd.R_drewN | apply Kd.R_drew)); exact Kd.R_mono HO_15.out (fun _ hk => trivial)⟩, ⟨ro_ HO1292⟩, ⟨by (with_reducible repeat (first | apply Kd.R_alloc | apply Kd.R_drewN | apply Kd.R_drew)); exact Kd.R_mono HO_87.out (fun _ hk => trivial)⟩, ⟨bx_ BK1269⟩, ⟨bx_ BK1270⟩, ⟨bl3_ HB GE1269.out GE1270.out GE1286.out⟩⟩
                  ·rw [if_neg c60] at H; exact absurd H (by simp)
                 ·rw [if_neg c59] at H; have c59b0 : (t1289 == 0) = false := beq_eq_false_iff_ne.mpr c59; have c59b1 : (t1289 != 0) = true := bne_iff_ne.mpr c59; simp only [Option.some.injEq, Prod.mk.injEq] at H; obtain ⟨rfl, rfl⟩ := H; have hnb67 := NB1286_1269.out; have hnc67 := NB1269_1286.out; have hnb68 := NB1286_1270.out; have hnc68 := NB1270_1286.out; have hcz69_0 := cz_ BK1286 0; have hcz69_1 := cz_ BK1286 1; have hcz69_2 := cz_ BK1286 2; have hfz69_0 := fz_ BK1286 0; have hfz69_1 := fz_ BK1286 1; have hfz69_2 := fz_ BK1286 2; go_wp2_with (first | ((with_reducible refine gate_callee (f := 59) rfl ?_); refine gm_ (some 119) Try.func59 #[.int .i64 (wrap64 (x19_44 - ((rd_T106 t1281 x89_2).f0))), .int .i64 ((rd_T106 t1281 x89_2).f1)] ?_; (with_reducible refine (frac_Part.calls kj44 (wrap64 (x19_44 - ((rd_T106 t1281 x89_2).f0))) ((rd_T106 t1281 x89_2).f1) t1288 t1289 _ A58.out).mono ?_); rintro e w70 ⟨rfl, hb⟩; refine ⟨_, rfl, ?_⟩; replace HO_15 := A_ (Kd.R_below (ro_ HO_15) hb); replace HO_16 := A_ (Kd.R_below (ro_ HO_16) hb); replace HO_87 := A_ (Kd.R_below (ro_ HO_87) hb); replace BK1269 := A_ (blk_below (bx_ BK1269) hb); replace BK1270 := A_ (blk_below (bx_ BK1270) hb); replace BK1286 := A_ (blk_below (bx_ BK1286) hb); replace HB := A_ (below_step (bl3_ HB GE1269.out GE1270.out GE1286.out) hb); (try clear hb); (try clear hb2); (try clear hk); (try clear hi)))
                  go_ret2
                  exact ⟨_, er_, by first | exact Kd.R_nil _ _ _ _ _ | exact Kd.N_nil _ _ _ _ _ | exact Kd.V_nil _ _ _ _ _ | exact Kd.Q_nil _ _ _ _ _ | exact Kd.S_nil _ _ _ _ _, bl3_ HB GE1269.out GE1270.out GE1286.out⟩
             ·rw [if_neg c44] at H; exact absurd H (by simp)
            ·rw [if_neg c43] at H; exact absurd H (by simp)
           ·rw [if_neg c42] at H; have c42b0 := decide_eq_false c42; clear c42; simp only [Option.some.injEq, Prod.mk.injEq] at H; obtain ⟨rfl, rfl⟩ := H
            go_wp2
            go_ret2
            exact ⟨_, er_, ro_ HO_16, bl2_ HB GE1269.out GE1270.out⟩
        ·rw [if_neg c36] at H; have c36b0 : (t1282 == 0) = false := beq_eq_false_iff_ne.mpr c36; have c36b1 : (t1282 != 0) = true := bne_iff_ne.mpr c36; simp only [Option.some.injEq, Prod.mk.injEq] at H; obtain ⟨rfl, rfl⟩ := H; have hnb71 := NB1270_1269.out; have hnc71 := NB1269_1270.out; have hcz72_0 := cz_ BK1270 0; have hcz72_1 := cz_ BK1270 1; have hcz72_2 := cz_ BK1270 2; have hcz72_3 := cz_ BK1270 3; have hcz72_4 := cz_ BK1270 4; have hfz72_0 := fz_ BK1270 0; have hfz72_1 := fz_ BK1270 1; have hfz72_2 := fz_ BK1270 2; have hfz72_3 := fz_ BK1270 3; have hfz72_4 := fz_ BK1270 4; have hcz73_0 := cz_ BK1269 0; have hcz73_1 := cz_ BK1269 1; have hcz73_2 := cz_ BK1269 2; have hcz73_3 := cz_ BK1269 3; have hcz73_4 := cz_ BK1269 4; have hfz73_0 := fz_ BK1269 0; have hfz73_1 := fz_ BK1269 1; have hfz73_2 := fz_ BK1269 2; have hfz73_3 := fz_ BK1269 3; have hfz73_4 := fz_ BK1269 4; have p1280 : 0 ≤ (a1_0 : Int) := od_; have q1280 : a1_0 < (l0_0.length : Int) := od_; obtain ⟨ad1280, A1280_0, c1280_0, e1280, hx1280_0, hl1280_0, hi1280_0⟩ := at_L3 HR0_0.out a1_0 p1280 q1280; cases e1280; replace hx1280_0 := (HB.out.cell (World.block_lt_of_cell? w _ hx1280_0)).trans hx1280_0; have HR1280_0 := A_ hi1280_0; have HC1280_0 := A_ hl1280_0; clear hi1280_0 hl1280_0; replace p1280 := eq_true p1280; replace q1280 := eq_true q1280; go_wp2_with (first | ((with_reducible refine gate_callee (f := 37) rfl ?_); refine gm_ (some 81) Try.func37 #[.int .i64 a3, .int .i64 a4, .slice A1280_0 (rd_L3 l0_0 a1_0).length c1280_0] ?_; (with_reducible refine (band_Scale.calls kj8 a3 a4 _ _ (rd_L3 l0_0 a1_0) t1281 t1282 _ ?side1 ?side2 A35.out).mono ?_); (case side1 => exact cb_ HR1280_0 HB); (case side2 => exact HC1280_0.out); rintro e w74 ⟨v1283, rfl, ho0, hb⟩; refine ⟨_, rfl, ?_⟩; have HO1284 := A_ (Kd.R_lower ho0 (below_size (bl2_ HB GE1269.out GE1270.out))); replace BK1269 := A_ (blk_below (bx_ BK1269) hb); replace BK1270 := A_ (blk_below (bx_ BK1270) hb); replace HB := A_ (below_step (bl2_ HB GE1269.out GE1270.out) hb); (try clear hb); (try clear hb2); (try clear hk); (try clear hi); (try clear ho0)))
         go_ret2
         exact ⟨_, er_, by first | exact Kd.R_nil _ _ _ _ _ | exact Kd.N_nil _ _ _ _ _ | exact Kd.V_nil _ _ _ _ _ | exact Kd.Q_nil _ _ _ _ _ | exact Kd.S_nil _ _ _ _ _, bl2_ HB GE1269.out GE1270.out⟩
       ·rw [if_neg c34] at H; exact absurd H (by simp)
      ·rw [if_neg c33] at H; exact absurd H (by simp)
 ·rw [if_neg c7] at H; have c7b0 : (t1272 == 0) = false := beq_eq_false_iff_ne.mpr c7; have c7b1 : (t1272 != 0) = true := bne_iff_ne.mpr c7; simp only [Option.some.injEq, Prod.mk.injEq] at H; obtain ⟨rfl, rfl⟩ := H; go_enter Try.func92, Try.ntmps92
  go_wp2_with (first | ((with_reducible refine gate_dst (N := 5) rfl ?_); refine be_ (N := 5) (cs := #[.slice A0_0 l0_0.length c0_0, .slice A0_1 l0_1.length c0_1, .slice A0_2 l0_2.length c0_2, .int .i64 a0_3, .int .i64 a0_4]) (t := 56) ?_; intro gb1269 hg w75 hbox hb; have BK1269 := A_ (hbox); have GW1269 := A_ ((by rw [hg]; exact (below_size (bl_ HB)) : w.heap.size ≤ gb1269)); have GE1269 := A_ ((by rw [hg]; exact (below_size (bl_ HB)) : w.heap.size ≤ gb1269)); replace HB := A_ (below_step (bl_ HB) hb); clear hb hbox hg) | ((with_reducible refine gate_dst (N := 6) rfl ?_); refine be_ (N := 6) (cs := #[.int .i64 a1_0, .int .i64 a1_1, .int .i64 a1_2, .int .i64 a1_3, .bool a1_4]) (t := 88) ?_; intro gb1270 hg w76 hbox hb; have BK1270 := A_ (hbox); have GW1270 := A_ ((by rw [hg]; exact (below_size (bl1_ HB GE1269.out)) : w.heap.size ≤ gb1270)); have GE1270 := A_ ((by rw [hg]; exact (below_size (bl1_ HB GE1269.out)) : w.heap.size ≤ gb1270)); have NB1269_1270 := A_ ((by rw [hg]; exact Nat.ne_of_lt (blk_lt (bx_ BK1269)) : gb1269 ≠ gb1270)); have NB1270_1269 := A_ ((by rw [hg]; exact Nat.ne_of_gt (blk_lt (bx_ BK1269)) : gb1270 ≠ gb1269)); replace BK1269 := A_ (blk_below (bx_ BK1269) hb); replace HB := A_ (below_step (bl1_ HB GE1269.out) hb); clear hb hbox hg; have hnb77 := NB1269_1270.out; have hnc77 := NB1270_1269.out; have hcz78_0 := cz_ BK1269 0; have hcz78_1 := cz_ BK1269 1; have hcz78_2 := cz_ BK1269 2; have hcz78_3 := cz_ BK1269 3; have hcz78_4 := cz_ BK1269 4; have hfz78_0 := fz_ BK1269 0; have hfz78_1 := fz_ BK1269 1; have hfz78_2 := fz_ BK1269 2; have hfz78_3 := fz_ BK1269 3; have hfz78_4 := fz_ BK1269 4; have hcz79_0 := cz_ BK1270 0; have hcz79_1 := cz_ BK1270 1; have hcz79_2 := cz_ BK1270 2; have hcz79_3 := cz_ BK1270 3; have hcz79_4 := cz_ BK1270 4; have hfz79_0 := fz_ BK1270 0; have hfz79_1 := fz_ BK1270 1; have hfz79_2 := fz_ BK1270 2; have hfz79_3 := fz_ BK1270 3; have hfz79_4 := fz_ BK1270 4) | ((with_reducible refine gate_callee (f := 79) rfl ?_); refine gm_ (some 28) Try.func79 #[.agg #[.slice A0_0 l0_0.length c0_0, .slice A0_1 l0_1.length c0_1, .slice A0_2 l0_2.length c0_2, .int .i64 a0_3, .int .i64 a0_4], .agg #[.int .i64 a1_0, .int .i64 a1_1, .int .i64 a1_2, .int .i64 a1_3, .bool a1_4], .int .i64 a2, .int .i64 a3, .int .i64 a4] ?_; (with_reducible refine (tax_Exact.calls k _ _ l0_0 _ _ l0_1 _ _ l0_2 a0_3 a0_4 a1_0 a1_1 a1_2 a1_3 a1_4 a2 a3 a4 t1271 t1272 _ ?side1 ?side2 ?side3 ?side4 ?side5 ?side6 A6.out).mono ?_); (case side1 => exact cb_ HR0_0 HB); (case side2 => exact HC0_0.out); (case side3 => exact cb_ HR0_1 HB); (case side4 => exact HC0_1.out); (case side5 => exact cb_ HR0_2 HB); (case side6 => exact HC0_2.out); rintro e w80 ⟨rfl, hb⟩; refine ⟨_, rfl, ?_⟩; replace BK1269 := A_ (blk_below (bx_ BK1269) hb); replace BK1270 := A_ (blk_below (bx_ BK1270) hb); replace HB := A_ (below_step (bl2_ HB GE1269.out GE1270.out) hb); (try clear hb); (try clear hb2); (try clear hk); (try clear hi)))
  go_ret2
  exact ⟨_, er_, by first | exact Kd.R_nil _ _ _ _ _ | exact Kd.N_nil _ _ _ _ _ | exact Kd.V_nil _ _ _ _ _ | exact Kd.Q_nil _ _ _ _ _ | exact Kd.S_nil _ _ _ _ _, bl2_ HB GE1269.out GE1270.out⟩
end Go.Proofs.Ytcapgmoipacioaa.P
