import Derived.Test.YtcapgmoipacioaaPtZe
import Derived.Test.YtcapgmoipacioaaPpbandZe
import Derived.Test.YtcapgmoipacioaaPpcodeZe
import Derived.Test.YtcapgmoipacioaaPptableZe
import Derived.Test.YtcapgmoipacioaaY1Ze
namespace Go.Proofs.Ytcapgmoipacioaa.P
open Go.RowKit Go.Proofs.YtcapgmoipacioaaW.PrintWords Go.Proofs.YtcapgmoipacioaaW.PrintLast Go.Proofs.YtcapgmoipacioaaW.PrintMore
set_option linter.unusedVariables false
set_option linter.unusedSimpArgs false
mutual
def tax_Corners.j0 : Nat → Int → Int → Int → Int → Bool → List (List (S106)) → List (S120) → List (S209) → Int → Int → Int → Int → Int → Int → Bool → Option (List Int × Int)
 | 0, _, _, _, _, _, _, _, _, _, _, _, _, _, _, _ => none
 | k + 1, x2, x3, x11, x12, x36, x944000, x944001, x944002, x944003, x944004, x945000, x945001, x945002, x945003, x945004 => if x36 = true then (some (([] : List Int), x12)) else (if x945001 = 3 then (some ((([0] : List Int)), 0)) else (if 0 ≤ x945000 then (if x945000 < (x944000.length : Int) then ((band_Scale.f k x2 x3 (rd_L3 x944000 x945000)).bind fun bt952 => (if bt952.2 = 0 then ((band_Corners.f k bt952.1).bind fun t959 => (tax_Corners.l0 k x11 (([x11] : List Int)) t959 (t959.length : Int) 0)) else (some (([] : List Int), bt952.2)))) else (none)) else (none)))
def tax_Corners.l0 : Nat → Int → List Int → List Int → Int → Int → Option (List Int × Int)
 | 0, _, _, _, _, _ => none
 | k + 1, x11, x14, x60, x61, x62 => if x62 < x61 then (if 0 ≤ x62 then (if x62 < (x60.length : Int) then (if x14.length < 17592186044416 then (tax_Corners.l0 k x11 (x14 ++ [wrap64 ((rd x60 x62) + x11)]) x60 x61 (wrap64 (x62 + 1))) else (none)) else (none)) else (none)) else (some (x14, 0))
end
def tax_Corners.f (k : Nat) (l0_0 : List (List (S106))) (l0_1 : List (S120)) (l0_2 : List (S209)) (a0_3 : Int) (a0_4 : Int) (a1_0 : Int) (a1_1 : Int) (a1_2 : Int) (a1_3 : Int) (a1_4 : Bool) (a2 : Int) (a3 : Int) : Option (List Int × Int) := (table_Fits.f k l0_0 l0_1 l0_2 a0_3 a0_4 a1_0 a1_1 a1_2 a1_3 a1_4).bind fun t945 => (if t945 = 0 then ((code_Free.f k a1_0 a1_1 a1_2 a1_3 a1_4 a2 a3).bind fun bt946 => (if bt946.2 = 0 then (tax_Corners.j0 k a2 a3 bt946.1 bt946.2 (a1_1 == 4) l0_0 l0_1 l0_2 a0_3 a0_4 a1_0 a1_1 a1_2 a1_3 a1_4) else (tax_Corners.j0 k a2 a3 bt946.1 bt946.2 true l0_0 l0_1 l0_2 a0_3 a0_4 a1_0 a1_1 a1_2 a1_3 a1_4))) else (some (([] : List Int), t945)))
set_option maxHeartbeats 8000000 in
set_option maxRecDepth 100000 in
theorem tax_Corners.calls (k : Nat) (A0_0 : Option Addr) (c0_0 : Nat) (l0_0 : List (List (S106))) (A0_1 : Option Addr) (c0_1 : Nat) (l0_1 : List (S120)) (A0_2 : Option Addr) (c0_2 : Nat) (l0_2 : List (S209)) (a0_3 : Int) (a0_4 : Int) (a1_0 : Int) (a1_1 : Int) (a1_2 : Int) (a1_3 : Int) (a1_4 : Bool) (a2 : Int) (a3 : Int) (r1 : List Int) (r2 : Int) (w : World) (hr0_0 : Kd.C (Kd.slice 106 k106) w A0_0 l0_0.length l0_0) (hc0_0 : l0_0.length ≤ c0_0) (hr0_1 : Kd.C k120 w A0_1 l0_1.length l0_1) (hc0_1 : l0_1.length ≤ c0_1) (hr0_2 : Kd.C k209 w A0_2 l0_2.length l0_2) (hc0_2 : l0_2.length ≤ c0_2) (h : tax_Corners.f k l0_0 l0_1 l0_2 a0_3 a0_4 a1_0 a1_1 a1_2 a1_3 a1_4 a2 a3 = some (r1, r2)) :
  Calls Try.prog 84 #[.agg #[.slice A0_0 l0_0.length c0_0, .slice A0_1 l0_1.length c0_1, .slice A0_2 l0_2.length c0_2, .int .i64 a0_3, .int .i64 a0_4], .agg #[.int .i64 a1_0, .int .i64 a1_1, .int .i64 a1_2, .int .i64 a1_3, .bool a1_4], .int .i64 a2, .int .i64 a3] w fun e w' => ∃ v0_ : Value, e = .returned (.tuple #[v0_, .int .i64 r2]) ∧ Kd.R (Kd.int .i64) 2 w' w.heap.size (fun _ => True) v0_ r1 ∧ Below w.heap.size w w' := by
 have hu56 := Try.underlying56; have hu88 := Try.underlying88; have HR0_0 := A_ hr0_0; have HC0_0 := A_ hc0_0; clear hr0_0 hc0_0; have HR0_1 := A_ hr0_1; have HC0_1 := A_ hc0_1; clear hr0_1 hc0_1; have HR0_2 := A_ hr0_2; have HC0_2 := A_ hc0_2; clear hr0_2 hc0_2; have HB := A_ (Below.refl w.heap.size w); unfold tax_Corners.f at h; have H := h; clear h; replace H := Option.bind_eq_some_iff.mp H; obtain ⟨t945, A50, H⟩ := H; (try dsimp only at H); have A5 := A_ A50; clear A50; by_cases c6 : t945 = 0
 ·rw [if_pos c6] at H; have c6b0 : (t945 == 0) = true := beq_iff_eq.mpr c6; have c6b1 : (t945 != 0) = false := bne_eq_false_iff_eq.mpr c6; clear c6; replace H := Option.bind_eq_some_iff.mp H; obtain ⟨⟨t946, t947⟩, A70, H⟩ := H; (try dsimp only at H); have A7 := A_ A70; clear A70; have HC8 := A_ H; clear H; go_enter Try.func84, Try.ntmps84
  go_upto_region 5 with (first | ((with_reducible refine gate_dst (N := 4) rfl ?_); refine be_ (N := 4) (cs := #[.slice A0_0 l0_0.length c0_0, .slice A0_1 l0_1.length c0_1, .slice A0_2 l0_2.length c0_2, .int .i64 a0_3, .int .i64 a0_4]) (t := 56) ?_; intro gb943 hg w9 hbox hb; have BK943 := A_ (hbox); have GW943 := A_ ((by rw [hg]; exact (below_size (bl_ HB)) : w.heap.size ≤ gb943)); have GE943 := A_ ((by rw [hg]; exact (below_size (bl_ HB)) : w.heap.size ≤ gb943)); replace HB := A_ (below_step (bl_ HB) hb); clear hb hbox hg) | ((with_reducible refine gate_dst (N := 5) rfl ?_); refine be_ (N := 5) (cs := #[.int .i64 a1_0, .int .i64 a1_1, .int .i64 a1_2, .int .i64 a1_3, .bool a1_4]) (t := 88) ?_; intro gb944 hg w10 hbox hb; have BK944 := A_ (hbox); have GW944 := A_ ((by rw [hg]; exact (below_size (bl1_ HB GE943.out)) : w.heap.size ≤ gb944)); have GE944 := A_ ((by rw [hg]; exact (below_size (bl1_ HB GE943.out)) : w.heap.size ≤ gb944)); have NB943_944 := A_ ((by rw [hg]; exact Nat.ne_of_lt (blk_lt (bx_ BK943)) : gb943 ≠ gb944)); have NB944_943 := A_ ((by rw [hg]; exact Nat.ne_of_gt (blk_lt (bx_ BK943)) : gb944 ≠ gb943)); replace BK943 := A_ (blk_below (bx_ BK943) hb); replace HB := A_ (below_step (bl1_ HB GE943.out) hb); clear hb hbox hg; have hnb11 := NB943_944.out; have hnc11 := NB944_943.out; have hcz12_0 := cz_ BK943 0; have hcz12_1 := cz_ BK943 1; have hcz12_2 := cz_ BK943 2; have hcz12_3 := cz_ BK943 3; have hcz12_4 := cz_ BK943 4; have hfz12_0 := fz_ BK943 0; have hfz12_1 := fz_ BK943 1; have hfz12_2 := fz_ BK943 2; have hfz12_3 := fz_ BK943 3; have hfz12_4 := fz_ BK943 4; have hcz13_0 := cz_ BK944 0; have hcz13_1 := cz_ BK944 1; have hcz13_2 := cz_ BK944 2; have hcz13_3 := cz_ BK944 3; have hcz13_4 := cz_ BK944 4; have hfz13_0 := fz_ BK944 0; have hfz13_1 := fz_ BK944 1; have hfz13_2 := fz_ BK944 2; have hfz13_3 := fz_ BK944 3; have hfz13_4 := fz_ BK944 4) | ((with_reducible refine gate_callee (f := 53) rfl ?_); refine gm_ (some 19) Try.func53 #[.agg #[.slice A0_0 l0_0.length c0_0, .slice A0_1 l0_1.length c0_1, .slice A0_2 l0_2.length c0_2, .int .i64 a0_3, .int .i64 a0_4], .agg #[.int .i64 a1_0, .int .i64 a1_1, .int .i64 a1_2, .int .i64 a1_3, .bool a1_4]] ?_; (with_reducible refine (table_Fits.calls k _ _ l0_0 _ _ l0_1 _ _ l0_2 a0_3 a0_4 a1_0 a1_1 a1_2 a1_3 a1_4 t945 _ ?side1 ?side2 ?side3 ?side4 ?side5 ?side6 A5.out).mono ?_); (case side1 => exact cb_ HR0_0 HB); (case side2 => exact HC0_0.out); (case side3 => exact cb_ HR0_1 HB); (case side4 => exact HC0_1.out); (case side5 => exact cb_ HR0_2 HB); (case side6 => exact HC0_2.out); rintro e w14 ⟨rfl, hb⟩; refine ⟨_, rfl, ?_⟩; replace BK943 := A_ (blk_below (bx_ BK943) hb); replace BK944 := A_ (blk_below (bx_ BK944) hb); replace HB := A_ (below_step (bl2_ HB GE943.out GE944.out) hb); (try clear hb); (try clear hb2); (try clear hk); (try clear hi); have hcz15_0 := cz_ BK944 0; have hcz15_1 := cz_ BK944 1; have hcz15_2 := cz_ BK944 2; have hcz15_3 := cz_ BK944 3; have hcz15_4 := cz_ BK944 4; have hfz15_0 := fz_ BK944 0; have hfz15_1 := fz_ BK944 1; have hfz15_2 := fz_ BK944 2; have hfz15_3 := fz_ BK944 3; have hfz15_4 := fz_ BK944 4) | ((with_reducible refine gate_callee (f := 130) rfl ?_); refine gm_ (some 27) Try.func130 #[.agg #[.int .i64 a1_0, .int .i64 a1_1, .int .i64 a1_2, .int .i64 a1_3, .bool a1_4], .int .i64 a2, .int .i64 a3] ?_; (with_reducible refine (code_Free.calls k a1_0 a1_1 a1_2 a1_3 a1_4 a2 a3 t946 t947 _ A7.out).mono ?_); rintro e w16 ⟨rfl, hb⟩; refine ⟨_, rfl, ?_⟩; replace BK943 := A_ (blk_below (bx_ BK943) hb); replace BK944 := A_ (blk_below (bx_ BK944) hb); replace HB := A_ (below_step (bl2_ HB GE943.out GE944.out) hb); (try clear hb); (try clear hb2); (try clear hk); (try clear hi)))
  (try simp only [Act.put, List.setIfInBounds_toArray, List.set_cons_zero, List.set_cons_succ])
  go_cut [36] (fun v36 wc => ∃ (kq : Nat) (x36_7 : Bool), v36 = .bool x36_7 ∧ Aside0 (tax_Corners.j0 kq a2 a3 t946 t947 x36_7 l0_0 l0_1 l0_2 a0_3 a0_4 a1_0 a1_1 a1_2 a1_3 a1_4 = some (r1, r2)) ∧ Aside0 (kq ≤ k) ∧ Aside0 (wc.heap[gb943]? = some (.cells #[(.slice A0_0 l0_0.length c0_0), (.slice A0_1 l0_1.length c0_1), (.slice A0_2 l0_2.length c0_2), .int .i64 a0_3, .int .i64 a0_4] 56 (0, 0))) ∧ Aside0 (wc.heap[gb944]? = some (.cells #[.int .i64 a1_0, .int .i64 a1_1, .int .i64 a1_2, .int .i64 a1_3, .bool a1_4] 88 (0, 0))) ∧ Aside0 (Below w.heap.size w wc))
  case first =>
   have H := HC8.out; clear HC8; by_cases c17 : t947 = 0
   ·rw [if_pos c17] at H; have c17b0 : (t947 == 0) = true := beq_iff_eq.mpr c17; have c17b1 : (t947 != 0) = false := bne_eq_false_iff_eq.mpr c17; clear c17
    (first | rw [c17b0] | (simp only [i64_w, i32_w]; rw [c17b0]) | skip)
    have H' := A_ H; clear H; have hnb18 := NB944_943.out; have hnc18 := NB943_944.out; have hcz19_0 := cz_ BK944 0; have hcz19_1 := cz_ BK944 1; have hcz19_2 := cz_ BK944 2; have hcz19_3 := cz_ BK944 3; have hcz19_4 := cz_ BK944 4; have hfz19_0 := fz_ BK944 0; have hfz19_1 := fz_ BK944 1; have hfz19_2 := fz_ BK944 2; have hfz19_3 := fz_ BK944 3; have hfz19_4 := fz_ BK944 4
    go_wp2
    go_meet
    case rel => exact ⟨_, ((a1_1 == 4)), (sx_), H', ⟨by first | omega | exact Nat.le_refl _⟩, ⟨bx_ BK943⟩, ⟨bx_ BK944⟩, ⟨bl2_ HB GE943.out GE944.out⟩⟩
   ·rw [if_neg c17] at H; have c17b0 : (t947 == 0) = false := beq_eq_false_iff_ne.mpr c17; have c17b1 : (t947 != 0) = true := bne_iff_ne.mpr c17
    (first | rw [c17b0] | (simp only [i64_w, i32_w]; rw [c17b0]) | skip)
    have H' := A_ H; clear H
    go_wp2
    go_meet
    case rel => exact ⟨_, (true), (sx_), H', ⟨by first | omega | exact Nat.le_refl _⟩, ⟨bx_ BK943⟩, ⟨bx_ BK944⟩, ⟨bl2_ HB GE943.out GE944.out⟩⟩
  case rest =>
   clear HC8; try clear c1
   try clear p2
   try clear c5
   try clear c6
   try clear c6b0
   try clear c6b1
   try clear c8
   try clear c11
   try clear c13
   try clear c17
   try clear c17b0
   try clear c17b1
   try clear c18
   try clear hcz12_0 hcz12_1 hcz12_2 hcz12_3 hcz12_4
   try clear hcz13_0 hcz13_1 hcz13_2 hcz13_3 hcz13_4
   try clear hcz15_0 hcz15_1 hcz15_2 hcz15_3 hcz15_4
   try clear hcz19_0 hcz19_1 hcz19_2 hcz19_3 hcz19_4
   try clear hfz12_0 hfz12_1 hfz12_2 hfz12_3 hfz12_4
   try clear hfz13_0 hfz13_1 hfz13_2 hfz13_3 hfz13_4
   try clear hfz15_0 hfz15_1 hfz15_2 hfz15_3 hfz15_4
   try clear hfz19_0 hfz19_1 hfz19_2 hfz19_3 hfz19_4
   obtain ⟨kq, x36_7, rfl, HA, HJ7, BK943, BK944, HB⟩ := hcut
   cases kq with
   | zero => exact absurd HA.out (by simp [tax_Corners.j0])
   | succ kj7 =>
    have H := HA.out; clear HA; simp only [tax_Corners.j0] at H; by_cases c20 : x36_7 = true
    ·subst c20; rw [if_pos rfl] at H; simp only [Option.some.injEq, Prod.mk.injEq] at H; obtain ⟨rfl, rfl⟩ := H
     go_wp2
     go_ret2
     exact ⟨_, er_, by first | exact Kd.R_nil _ _ _ _ _ | exact Kd.N_nil _ _ _ _ _ | exact Kd.V_nil _ _ _ _ _ | exact Kd.Q_nil _ _ _ _ _ | exact Kd.S_nil _ _ _ _ _, bl2_ HB GE943.out GE944.out⟩
    ·replace c20 := Bool.eq_false_iff.mpr c20; subst c20; rw [if_neg (show ¬ (false = true) by decide)] at H; by_cases c21 : a1_1 = 3
     ·rw [if_pos c21] at H; have c21b0 : (a1_1 == 3) = true := beq_iff_eq.mpr c21; have c21b1 : (a1_1 != 3) = false := bne_eq_false_iff_eq.mpr c21; clear c21; obtain ⟨y948, hy948⟩ : ∃ y_ : List Int, y_ = (([0] : List Int)) := ⟨_, rfl⟩; replace H : (some (y948, 0)) = some (r1, r2) := by first | (rw [hy948]; with_reducible exact H) | (have H2_ := (Option.bind_some _ _).symm.trans H; rw [hy948]; with_reducible exact H2_) | (have H2_ := (Option.bind_some _ _).symm.trans H; with_reducible exact H2_) | with_reducible exact H | (rw [hy948]; exact H) | exact H
      have Ny948 := A_ hy948; clear hy948; simp only [Option.some.injEq, Prod.mk.injEq] at H; obtain ⟨rfl, rfl⟩ := H; have hnb22 := NB944_943.out; have hnc22 := NB943_944.out; have hcz23_0 := cz_ BK944 0; have hcz23_1 := cz_ BK944 1; have hcz23_2 := cz_ BK944 2; have hcz23_3 := cz_ BK944 3; have hcz23_4 := cz_ BK944 4; have hfz23_0 := fz_ BK944 0; have hfz23_1 := fz_ BK944 1; have hfz23_2 := fz_ BK944 2; have hfz23_3 := fz_ BK944 3; have hfz23_4 := fz_ BK944 4; go_wp2_with (first | ((with_reducible refine gate_dst (N := 41) rfl ?_); refine Kd.R_lit (Kd.int .i64) _ 2 ?hg (N := 41) ?hd (xs := ([0] : List Int)) (inner := [.int .i64 0]) (ok := fun _ => True) (okp := fun _ => True) ?hr ?hp (fun _ hk => hk) trivial (Below.refl _ _) (Nat.le_refl _) (by simp) ?_; (case hd => rfl); (case hg => rfl); (case hr => first | (go_simp; done) | (go_simp; rfl)); (case hp => exact (Reps.one (show Kd.M (Kd.int .i64) _ _ _ 0 [.int .i64 0] from rfl) (Reps.none _ _))); intro v949 w24 ho25 hb hg_ hnew_; clear hg_ hnew_; (first | rw [← Ny948.out] at ho25 | (simp only [Int.reduceToNat] at ho25; rw [← Ny948.out] at ho25)); have HO950 := A_ (Kd.R_lower ho25 (below_size (bl2_ HB GE943.out GE944.out))); replace BK943 := A_ (blk_below (bx_ BK943) hb); replace BK944 := A_ (blk_below (bx_ BK944) hb); replace HB := A_ (below_step (bl2_ HB GE943.out GE944.out) hb); clear hb ho25))
      go_ret2
      exact ⟨_, er_, ro_ HO950, bl2_ HB GE943.out GE944.out⟩
     ·rw [if_neg c21] at H; have c21b0 : (a1_1 == 3) = false := beq_eq_false_iff_ne.mpr c21; have c21b1 : (a1_1 != 3) = true := bne_iff_ne.mpr c21; by_cases c26 : 0 ≤ a1_0
      ·rw [if_pos c26] at H; have c26b0 := decide_eq_true c26; clear c26; by_cases c27 : a1_0 < (l0_0.length : Int)
       ·rw [if_pos c27] at H; have c27b0 := decide_eq_true c27; clear c27; replace H := Option.bind_eq_some_iff.mp H; obtain ⟨⟨t952, t953⟩, A280, H⟩ := H; (try dsimp only at H); have A28 := A_ A280; clear A280; by_cases c29 : t953 = 0
        ·rw [if_pos c29] at H; have c29b0 : (t953 == 0) = true := beq_iff_eq.mpr c29; have c29b1 : (t953 != 0) = false := bne_eq_false_iff_eq.mpr c29; clear c29; obtain ⟨y956, hy956⟩ : ∃ y_ : List Int, y_ = (([t946] : List Int)) := ⟨_, rfl⟩; replace H : ((band_Corners.f kj7 t952).bind fun t959 => (tax_Corners.l0 kj7 t946 y956 t959 (t959.length : Int) 0)) = some (r1, r2) := by first | (rw [hy956]; with_reducible exact H) | (have H2_ := (Option.bind_some _ _).symm.trans H; rw [hy956]; with_reducible exact H2_) | (have H2_ := (Option.bind_some _ _).symm.trans H; with_reducible exact H2_) | with_reducible exact H | (rw [hy956]; exact H) | exact H
         have Ny956 := A_ hy956; clear hy956; replace H := Option.bind_eq_some_iff.mp H; obtain ⟨t959, A300, H⟩ := H; (try dsimp only at H); have A30 := A_ A300; clear A300; have H' := A_ H; clear H; have hnb31 := NB944_943.out; have hnc31 := NB943_944.out; have hcz32_0 := cz_ BK944 0; have hcz32_1 := cz_ BK944 1; have hcz32_2 := cz_ BK944 2; have hcz32_3 := cz_ BK944 3; have hcz32_4 := cz_ BK944 4; have hfz32_0 := fz_ BK944 0; have hfz32_1 := fz_ BK944 1; have hfz32_2 := fz_ BK944 2; have hfz32_3 := fz_ BK944 3; have hfz32_4 := fz_ BK944 4; have hcz33_0 := cz_ BK943 0; have hcz33_1 := cz_ BK943 1; have hcz33_2 := cz_ BK943 2; have hcz33_3 := cz_ BK943 3; have hcz33_4 := cz_ BK943 4; have hfz33_0 := fz_ BK943 0; have hfz33_1 := fz_ BK943 1; have hfz33_2 := fz_ BK943 2; have hfz33_3 := fz_ BK943 3; have hfz33_4 := fz_ BK943 4; have p951 : 0 ≤ (a1_0 : Int) := od_; have q951 : a1_0 < (l0_0.length : Int) := od_; obtain ⟨ad951, A951_0, c951_0, e951, hx951_0, hl951_0, hi951_0⟩ := at_L3 HR0_0.out a1_0 p951 q951; cases e951; replace hx951_0 := (HB.out.cell (World.block_lt_of_cell? w _ hx951_0)).trans hx951_0; have HR951_0 := A_ hi951_0; have HC951_0 := A_ hl951_0; clear hi951_0 hl951_0; replace p951 := eq_true p951; replace q951 := eq_true q951; go_wp2_with (first | ((with_reducible refine gate_callee (f := 37) rfl ?_); refine gm_ (some 51) Try.func37 #[.int .i64 a2, .int .i64 a3, .slice A951_0 (rd_L3 l0_0 a1_0).length c951_0] ?_; (with_reducible refine (band_Scale.calls kj7 a2 a3 _ _ (rd_L3 l0_0 a1_0) t952 t953 _ ?side1 ?side2 A28.out).mono ?_); (case side1 => exact cb_ HR951_0 HB); (case side2 => exact HC951_0.out); rintro e w34 ⟨v954, rfl, ho0, hb⟩; refine ⟨_, rfl, ?_⟩; have HO955 := A_ (Kd.R_lower ho0 (below_size (bl2_ HB GE943.out GE944.out))); replace BK943 := A_ (blk_below (bx_ BK943) hb); replace BK944 := A_ (blk_below (bx_ BK944) hb); replace HB := A_ (below_step (bl2_ HB GE943.out GE944.out) hb); (try clear hb); (try clear hb2); (try clear hk); (try clear hi); (try clear ho0)) | ((with_reducible refine gate_dst (N := 58) rfl ?_); refine Kd.R_lit (Kd.int .i64) _ 2 ?hg (N := 58) ?hd (xs := ([t946] : List Int)) (inner := [.int .i64 t946]) (ok := fun _ => True) (okp := fun _ => True) ?hr ?hp (fun _ hk => hk) trivial (Below.refl _ _) (Nat.le_refl _) (by simp) ?_; (case hd => rfl); (case hg => rfl); (case hr => first | (go_simp; done) | (go_simp; rfl)); (case hp => exact (Reps.one (show Kd.M (Kd.int .i64) _ _ _ t946 [.int .i64 t946] from rfl) (Reps.none _ _))); intro v957 w35 ho36 hb hg_ hnew_; clear hg_ hnew_; (first | rw [← Ny956.out] at ho36 | (simp only [Int.reduceToNat] at ho36; rw [← Ny956.out] at ho36)); have HO958 := A_ (Kd.R_lower ho36 (below_size (bl2_ HB GE943.out GE944.out))); replace HO955 := A_ (Kd.R_below (ro_ HO955) hb); replace BK943 := A_ (blk_below (bx_ BK943) hb); replace BK944 := A_ (blk_below (bx_ BK944) hb); replace HB := A_ (below_step (bl2_ HB GE943.out GE944.out) hb); clear hb ho36; obtain ⟨Ao37, co37, eo37⟩ := Kd.R_slice HO955.out; subst eo37) | ((with_reducible refine gate_callee (f := 64) rfl ?_); refine gm_ (some 60) Try.func64 #[.slice Ao37 t952.length co37] ?_; (with_reducible refine (band_Corners.calls kj7 _ _ t952 t959 _ ?side1 ?side2 A30.out).mono ?_); (case side1 => repeat (first | exact (Kd.R_reads' HO955.out).2.2 | (with_reducible refine Kd.C_alloc ?_ _) | (with_reducible refine Kd.C_drewN ?_ _) | (with_reducible refine Kd.C_drew ?_))); (case side2 => exact (Kd.R_reads' HO955.out).2.1); rintro e w38 ⟨v960, rfl, ho0, hb⟩; refine ⟨_, rfl, ?_⟩; have HO961 := A_ (Kd.R_lower (Kd.R_new' ho0 (Kd.R_lt (ro_ HO958))) (below_size (bl2_ HB GE943.out GE944.out))); replace HO955 := A_ (Kd.R_below (ro_ HO955) hb); replace HO958 := A_ (Kd.R_elder' (ro_ HO958) (Kd.R_base ho0) hb); replace BK943 := A_ (blk_below (bx_ BK943) hb); replace BK944 := A_ (blk_below (bx_ BK944) hb); replace HB := A_ (below_step (bl2_ HB GE943.out GE944.out) hb); (try clear hb); (try clear hb2); (try clear hk); (try clear hi); (try clear ho0); obtain ⟨Ao39, co39, eo39⟩ := Kd.R_slice HO961.out; subst eo39))
         go_loopg [14, 62] kj7 (fun kq v14 v62 w' => ∃ (x14_2 : List Int) (x62_2 : Int), v62 = .int .i64 x62_2 ∧ Aside0 (tax_Corners.l0 kq t946 x14_2 t959 (t959.length : Int) x62_2 = some (r1, r2)) ∧ Aside0 (kq ≤ kj7) ∧ Aside0 (Kd.R (Kd.int .i64) 2 w' w.heap.size (fun k_ => some k_ ≠ ((.slice Ao39 t959.length co39) : Value).ownBlock) v14 x14_2) ∧ Aside0 (Kd.R (Kd.int .i64) 2 w' w.heap.size (fun k_ => some k_ ≠ (v14 : Value).ownBlock) (.slice Ao39 t959.length co39) t959) ∧ Aside0 (w'.heap[gb943]? = some (.cells #[(.slice (some ad951) l0_0.length c0_0), (.slice A0_1 l0_1.length c0_1), (.slice A0_2 l0_2.length c0_2), .int .i64 a0_3, .int .i64 a0_4] 56 (0, 0))) ∧ Aside0 (w'.heap[gb944]? = some (.cells #[.int .i64 a1_0, .int .i64 a1_1, .int .i64 a1_2, .int .i64 a1_3, .bool a1_4] 88 (0, 0))) ∧ Aside0 (Below w.heap.size w w'))
         case atStart => exact ⟨(y956), (0), (sx_), H', ⟨Nat.le_refl _⟩, ⟨by (with_reducible repeat (first | apply Kd.R_alloc | apply Kd.R_drewN | apply Kd.R_drew)); exact Kd.R_mono HO958.out (fun _ hk => hk.2)⟩, ⟨by (with_reducible repeat (first | apply Kd.R_alloc | apply Kd.R_drewN | apply Kd.R_drew)); exact Kd.R_mono HO961.out (fun _ hk => hk.2)⟩, ⟨bx_ BK943⟩, ⟨bx_ BK944⟩, ⟨bl2_ HB GE943.out GE944.out⟩⟩
         case round =>
          clear H'; try clear c1
          try clear c2
          try clear p2
          try clear c3
          try clear c5
          try clear c6
          try clear c6b0
          try clear c6b1
          try clear c8
          try clear c9
          try clear p9
          try clear q9
          try clear hx9
          try clear c11
          try clear c13
          try clear c17
          try clear c17b0
          try clear c17b1
          try clear c18
          try clear c20
          try clear c21
          try clear c21b0
          try clear c21b1
          try clear c22
          try clear c26
          try clear c26b0
          try clear c27
          try clear c27b0
          try clear c29
          try clear c29b0
          try clear c29b1
          try clear c31
          try clear c37
          try clear hcz12_0 hcz12_1 hcz12_2 hcz12_3 hcz12_4
          try clear hcz13_0 hcz13_1 hcz13_2 hcz13_3 hcz13_4
          try clear hcz15_0 hcz15_1 hcz15_2 hcz15_3 hcz15_4
          try clear hcz19_0 hcz19_1 hcz19_2 hcz19_3 hcz19_4
          try clear hcz23_0 hcz23_1 hcz23_2 hcz23_3 hcz23_4
          try clear hcz32_0 hcz32_1 hcz32_2 hcz32_3 hcz32_4
          try clear hcz33_0 hcz33_1 hcz33_2 hcz33_3 hcz33_4
          try clear hfz12_0 hfz12_1 hfz12_2 hfz12_3 hfz12_4
          try clear hfz13_0 hfz13_1 hfz13_2 hfz13_3 hfz13_4
          try clear hfz15_0 hfz15_1 hfz15_2 hfz15_3 hfz15_4
          try clear hfz19_0 hfz19_1 hfz19_2 hfz19_3 hfz19_4
          try clear hfz23_0 hfz23_1 hfz23_2 hfz23_3 hfz23_4
          try clear hfz32_0 hfz32_1 hfz32_2 hfz32_3 hfz32_4
          try clear hfz33_0 hfz33_1 hfz33_2 hfz33_3 hfz33_4
          try clear hx951_0
          try clear p2
          try clear p951
          try clear q951
          obtain ⟨x14_2, x62_2, rfl, HA, HK2, HO_14, HO_60, BK943, BK944, HB⟩ := hrel
          cases gk with
          | zero => exact absurd HA.out (by simp [tax_Corners.l0])
          | succ k2 =>
           have H := HA.out; clear HA; simp only [tax_Corners.l0] at H; by_cases c40 : x62_2 < (t959.length : Int)
           ·rw [if_pos c40] at H; have c40b0 := decide_eq_true c40; clear c40; by_cases c41 : 0 ≤ x62_2
            ·rw [if_pos c41] at H; have c41b0 := decide_eq_true c41; clear c41; by_cases c42 : x62_2 < (t959.length : Int)
             ·rw [if_pos c42] at H; have c42b0 := decide_eq_true c42; clear c42; by_cases c43 : x14_2.length < 17592186044416
              ·rw [if_pos c43] at H; have LMc43 := A_ c43; clear c43; obtain ⟨y963, hy963⟩ : ∃ y_ : List Int, y_ = (x14_2 ++ [wrap64 ((rd t959 x62_2) + t946)]) := ⟨_, rfl⟩; replace H : (tax_Corners.l0 k2 t946 y963 t959 (t959.length : Int) (wrap64 (x62_2 + 1))) = some (r1, r2) := by first | (rw [hy963]; with_reducible exact H) | (have H2_ := (Option.bind_some _ _).symm.trans H; rw [hy963]; with_reducible exact H2_) | (have H2_ := (Option.bind_some _ _).symm.trans H; with_reducible exact H2_) | with_reducible exact H | (rw [hy963]; exact H) | exact H
               have Ny963 := A_ hy963; clear hy963; have H' := A_ H; clear H; have p962 : 0 ≤ (x62_2 : Int) := od_; have q962 : x62_2 < (t959.length : Int) := od_; obtain ⟨ad962, e962, hx962_0⟩ := Kd.at_int (Kd.R_reads' HO_60.out).2.2 x62_2 p962 q962; cases e962; replace p962 := eq_true p962; replace q962 := eq_true q962; go_wp2_with (first | ((with_reducible refine gate_builtin (b := .append) (xs := #[.tmp 66, .tmp 70]) rfl ?_); at_builtin; refine Kd.R_append (Kd.int .i64) (w0 := w) w.heap.size rfl (.tmp 66) (.tmp 70) 79 2 (.int .i64 0) 8 rfl Try.underlying79 info2 rfl (by decide) (by omega) u14 x14_2 (wrap64 ((rd t959 x62_2) + t946)) [.int .i64 (wrap64 ((rd t959 x62_2) + t946))] (fun k_ => some k_ ≠ (.slice (some ad962) t959.length co39 : Value).ownBlock) (fun _ => False) rfl rfl ?aP (fun _ hk => hk.elim) ?aF ?aO ?aB ?aS ?aL ?_; (case aP => exact rfl); (case aB => exact (bl2_ HB GE943.out GE944.out)); (case aF => exact (fun k_ hk => Kd.fresh' (Kd.R_lt (ro_ HO_60)) k_ hk)); (case aO => exact (ro_ HO_14)); (case aS => exact (below_size (bl2_ HB GE943.out GE944.out))); (case aL => have := LMc43.out; omega); intro v964 w44 ho hb hg hat; rw [← Ny963.out] at ho; have HO965 := A_ (ho); replace HO_60 := A_ (Kd.R_after (ok := (fun _ => True)) (by (with_reducible repeat (first | apply Kd.R_alloc | apply Kd.R_drewN | apply Kd.R_drew)); exact Kd.R_mono HO_60.out (fun _ hk => ⟨trivial, hk⟩)) hg hat); replace BK943 := A_ (blk_grown (g := gb943) (o := .cells #[.slice (some ad951) l0_0.length c0_0, .slice A0_1 l0_1.length c0_1, .slice A0_2 l0_2.length c0_2, .int .i64 a0_3, .int .i64 a0_4] 56 (0, 0)) (bx_ BK943) hg (Kd.R_ne HO_14.out BK943.out (by decide))); replace BK944 := A_ (blk_grown (g := gb944) (o := .cells #[.int .i64 a1_0, .int .i64 a1_1, .int .i64 a1_2, .int .i64 a1_3, .bool a1_4] 88 (0, 0)) (bx_ BK944) hg (Kd.R_ne HO_14.out BK944.out (by decide))); replace HB := A_ (hb); clear HO_14; clear ho hb hg hat))
               go_roundg k2
               case measure => have := HJ7.out; have := HK2.out; omega
               case rel => exact ⟨(y963), (wrap64 (x62_2 + 1)), (sx_), H', ⟨by have := HJ7.out; have := HK2.out; omega⟩, ⟨ro_ HO965⟩, ⟨by (with_reducible repeat (first | apply Kd.R_alloc | apply Kd.R_drewN | apply Kd.R_drew)); exact Kd.R_mono HO_60.out (fun _ hk => hk.2)⟩, ⟨bx_ BK943⟩, ⟨bx_ BK944⟩, ⟨bl2_ HB GE943.out GE944.out⟩⟩
              ·rw [if_neg c43] at H; exact absurd H (by simp)
             ·rw [if_neg c42] at H; exact absurd H (by simp)
            ·rw [if_neg c41] at H; exact absurd H (by simp)
           ·rw [if_neg c40] at H; have c40b0 := decide_eq_false c40; clear c40; simp only [Option.some.injEq, Prod.mk.injEq] at H; obtain ⟨rfl, rfl⟩ := H
            go_wp2
            go_ret2
            exact ⟨_, er_, by (with_reducible repeat (first | apply Kd.R_alloc | apply Kd.R_drewN | apply Kd.R_drew)); exact Kd.R_mono HO_14.out (fun _ hk => trivial), bl2_ HB GE943.out GE944.out⟩
        ·rw [if_neg c29] at H; have c29b0 : (t953 == 0) = false := beq_eq_false_iff_ne.mpr c29; have c29b1 : (t953 != 0) = true := bne_iff_ne.mpr c29; simp only [Option.some.injEq, Prod.mk.injEq] at H; obtain ⟨rfl, rfl⟩ := H; have hnb45 := NB944_943.out; have hnc45 := NB943_944.out; have hcz46_0 := cz_ BK944 0; have hcz46_1 := cz_ BK944 1; have hcz46_2 := cz_ BK944 2; have hcz46_3 := cz_ BK944 3; have hcz46_4 := cz_ BK944 4; have hfz46_0 := fz_ BK944 0; have hfz46_1 := fz_ BK944 1; have hfz46_2 := fz_ BK944 2; have hfz46_3 := fz_ BK944 3; have hfz46_4 := fz_ BK944 4; have hcz47_0 := cz_ BK943 0; have hcz47_1 := cz_ BK943 1; have hcz47_2 := cz_ BK943 2; have hcz47_3 := cz_ BK943 3; have hcz47_4 := cz_ BK943 4; have hfz47_0 := fz_ BK943 0; have hfz47_1 := fz_ BK943 1; have hfz47_2 := fz_ BK943 2; have hfz47_3 := fz_ BK943 3; have hfz47_4 := fz_ BK943 4; have p951 : 0 ≤ (a1_0 : Int) := od_; have q951 : a1_0 < (l0_0.length : Int) := od_; obtain ⟨ad951, A951_0, c951_0, e951, hx951_0, hl951_0, hi951_0⟩ := at_L3 HR0_0.out a1_0 p951 q951; cases e951; replace hx951_0 := (HB.out.cell (World.block_lt_of_cell? w _ hx951_0)).trans hx951_0; have HR951_0 := A_ hi951_0; have HC951_0 := A_ hl951_0; clear hi951_0 hl951_0; replace p951 := eq_true p951; replace q951 := eq_true q951; go_wp2_with (first | ((with_reducible refine gate_callee (f := 37) rfl ?_); refine gm_ (some 51) Try.func37 #[.int .i64 a2, .int .i64 a3, .slice A951_0 (rd_L3 l0_0 a1_0).length c951_0] ?_; (with_reducible refine (band_Scale.calls kj7 a2 a3 _ _ (rd_L3 l0_0 a1_0) t952 t953 _ ?side1 ?side2 A28.out).mono ?_); (case side1 => exact cb_ HR951_0 HB); (case side2 => exact HC951_0.out); rintro e w48 ⟨v954, rfl, ho0, hb⟩; refine ⟨_, rfl, ?_⟩; have HO955 := A_ (Kd.R_lower ho0 (below_size (bl2_ HB GE943.out GE944.out))); replace BK943 := A_ (blk_below (bx_ BK943) hb); replace BK944 := A_ (blk_below (bx_ BK944) hb); replace HB := A_ (below_step (bl2_ HB GE943.out GE944.out) hb); (try clear hb); (try clear hb2); (try clear hk); (try clear hi); (try clear ho0)))
         go_ret2
         exact ⟨_, er_, by first | exact Kd.R_nil _ _ _ _ _ | exact Kd.N_nil _ _ _ _ _ | exact Kd.V_nil _ _ _ _ _ | exact Kd.Q_nil _ _ _ _ _ | exact Kd.S_nil _ _ _ _ _, bl2_ HB GE943.out GE944.out⟩
       ·rw [if_neg c27] at H; exact absurd H (by simp)
      ·rw [if_neg c26] at H; exact absurd H (by simp)
 ·rw [if_neg c6] at H; have c6b0 : (t945 == 0) = false := beq_eq_false_iff_ne.mpr c6; have c6b1 : (t945 != 0) = true := bne_iff_ne.mpr c6; simp only [Option.some.injEq, Prod.mk.injEq] at H; obtain ⟨rfl, rfl⟩ := H; go_enter Try.func84, Try.ntmps84
  go_wp2_with (first | ((with_reducible refine gate_dst (N := 4) rfl ?_); refine be_ (N := 4) (cs := #[.slice A0_0 l0_0.length c0_0, .slice A0_1 l0_1.length c0_1, .slice A0_2 l0_2.length c0_2, .int .i64 a0_3, .int .i64 a0_4]) (t := 56) ?_; intro gb943 hg w49 hbox hb; have BK943 := A_ (hbox); have GW943 := A_ ((by rw [hg]; exact (below_size (bl_ HB)) : w.heap.size ≤ gb943)); have GE943 := A_ ((by rw [hg]; exact (below_size (bl_ HB)) : w.heap.size ≤ gb943)); replace HB := A_ (below_step (bl_ HB) hb); clear hb hbox hg) | ((with_reducible refine gate_dst (N := 5) rfl ?_); refine be_ (N := 5) (cs := #[.int .i64 a1_0, .int .i64 a1_1, .int .i64 a1_2, .int .i64 a1_3, .bool a1_4]) (t := 88) ?_; intro gb944 hg w50 hbox hb; have BK944 := A_ (hbox); have GW944 := A_ ((by rw [hg]; exact (below_size (bl1_ HB GE943.out)) : w.heap.size ≤ gb944)); have GE944 := A_ ((by rw [hg]; exact (below_size (bl1_ HB GE943.out)) : w.heap.size ≤ gb944)); have NB943_944 := A_ ((by rw [hg]; exact Nat.ne_of_lt (blk_lt (bx_ BK943)) : gb943 ≠ gb944)); have NB944_943 := A_ ((by rw [hg]; exact Nat.ne_of_gt (blk_lt (bx_ BK943)) : gb944 ≠ gb943)); replace BK943 := A_ (blk_below (bx_ BK943) hb); replace HB := A_ (below_step (bl1_ HB GE943.out) hb); clear hb hbox hg; have hnb51 := NB943_944.out; have hnc51 := NB944_943.out; have hcz52_0 := cz_ BK943 0; have hcz52_1 := cz_ BK943 1; have hcz52_2 := cz_ BK943 2; have hcz52_3 := cz_ BK943 3; have hcz52_4 := cz_ BK943 4; have hfz52_0 := fz_ BK943 0; have hfz52_1 := fz_ BK943 1; have hfz52_2 := fz_ BK943 2; have hfz52_3 := fz_ BK943 3; have hfz52_4 := fz_ BK943 4; have hcz53_0 := cz_ BK944 0; have hcz53_1 := cz_ BK944 1; have hcz53_2 := cz_ BK944 2; have hcz53_3 := cz_ BK944 3; have hcz53_4 := cz_ BK944 4; have hfz53_0 := fz_ BK944 0; have hfz53_1 := fz_ BK944 1; have hfz53_2 := fz_ BK944 2; have hfz53_3 := fz_ BK944 3; have hfz53_4 := fz_ BK944 4) | ((with_reducible refine gate_callee (f := 53) rfl ?_); refine gm_ (some 19) Try.func53 #[.agg #[.slice A0_0 l0_0.length c0_0, .slice A0_1 l0_1.length c0_1, .slice A0_2 l0_2.length c0_2, .int .i64 a0_3, .int .i64 a0_4], .agg #[.int .i64 a1_0, .int .i64 a1_1, .int .i64 a1_2, .int .i64 a1_3, .bool a1_4]] ?_; (with_reducible refine (table_Fits.calls k _ _ l0_0 _ _ l0_1 _ _ l0_2 a0_3 a0_4 a1_0 a1_1 a1_2 a1_3 a1_4 t945 _ ?side1 ?side2 ?side3 ?side4 ?side5 ?side6 A5.out).mono ?_); (case side1 => exact cb_ HR0_0 HB); (case side2 => exact HC0_0.out); (case side3 => exact cb_ HR0_1 HB); (case side4 => exact HC0_1.out); (case side5 => exact cb_ HR0_2 HB); (case side6 => exact HC0_2.out); rintro e w54 ⟨rfl, hb⟩; refine ⟨_, rfl, ?_⟩; replace BK943 := A_ (blk_below (bx_ BK943) hb); replace BK944 := A_ (blk_below (bx_ BK944) hb); replace HB := A_ (below_step (bl2_ HB GE943.out GE944.out) hb); (try clear hb); (try clear hb2); (try clear hk); (try clear hi)))
  go_ret2
  exact ⟨_, er_, by first | exact Kd.R_nil _ _ _ _ _ | exact Kd.N_nil _ _ _ _ _ | exact Kd.V_nil _ _ _ _ _ | exact Kd.Q_nil _ _ _ _ _ | exact Kd.S_nil _ _ _ _ _, bl2_ HB GE943.out GE944.out⟩
end Go.Proofs.Ytcapgmoipacioaa.P
