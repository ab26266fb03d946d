import Derived.Test.YtcapgmoipacioaaPtZe
import Derived.Test.YtcapgmoipacioaaPpfracZe
import Derived.Test.YtcapgmoipacioaaPptaxExactZe
import Derived.Test.YtcapgmoipacioaaY1Ze
namespace Go.Proofs.Ytcapgmoipacioaa.P
open Go.RowKit Go.Proofs.YtcapgmoipacioaaW.PrintWords Go.Proofs.YtcapgmoipacioaaW.PrintLast Go.Proofs.YtcapgmoipacioaaW.PrintMore
set_option linter.unusedVariables false
set_option linter.unusedSimpArgs false
def tax_Average.j0 : Nat → Int → Int → Int → Bool → Option (Int × Int)
 | 0, _, _, _, _ => none
 | k + 1, x2, x12, x13, x29 => if x29 = true then (some (0, x13)) else ((frac_Round.f k x12 x2 1).bind fun bt1297 => (some (bt1297.1, bt1297.2)))
def tax_Average.f (k : Nat) (l0_0 : List (List (S106))) (l0_1 : List (S120)) (l0_2 : List (S209)) (a0_3 : Int) (a0_4 : Int) (a1_0 : Int) (a1_1 : Int) (a1_2 : Int) (a1_3 : Int) (a1_4 : Bool) (a2 : Int) (a3 : Int) (a4 : Int) : Option (Int × Int) := (tax_Exact.f k l0_0 l0_1 l0_2 a0_3 a0_4 a1_0 a1_1 a1_2 a1_3 a1_4 a2 a3 a4).bind fun bt1295 => (if bt1295.2 = 0 then (tax_Average.j0 k a2 bt1295.1 bt1295.2 (decide (a2 ≤ 0))) else (tax_Average.j0 k a2 bt1295.1 bt1295.2 true))
set_option maxHeartbeats 8000000 in
set_option maxRecDepth 100000 in
theorem tax_Average.calls (k : Nat) (A0_0 : Option Addr) (c0_0 : Nat) (l0_0 : List (List (S106))) (A0_1 : Option Addr) (c0_1 : Nat) (l0_1 : List (S120)) (A0_2 : Option Addr) (c0_2 : Nat) (l0_2 : List (S209)) (a0_3 : Int) (a0_4 : Int) (a1_0 : Int) (a1_1 : Int) (a1_2 : Int) (a1_3 : Int) (a1_4 : Bool) (a2 : Int) (a3 : Int) (a4 : Int) (r1 : Int) (r2 : Int) (w : World) (hr0_0 : Kd.C (Kd.slice 106 k106) w A0_0 l0_0.length l0_0) (hc0_0 : l0_0.length ≤ c0_0) (hr0_1 : Kd.C k120 w A0_1 l0_1.length l0_1) (hc0_1 : l0_1.length ≤ c0_1) (hr0_2 : Kd.C k209 w A0_2 l0_2.length l0_2) (hc0_2 : l0_2.length ≤ c0_2) (h : tax_Average.f k l0_0 l0_1 l0_2 a0_3 a0_4 a1_0 a1_1 a1_2 a1_3 a1_4 a2 a3 a4 = some (r1, r2)) :
  Calls Try.prog 93 #[.agg #[.slice A0_0 l0_0.length c0_0, .slice A0_1 l0_1.length c0_1, .slice A0_2 l0_2.length c0_2, .int .i64 a0_3, .int .i64 a0_4], .agg #[.int .i64 a1_0, .int .i64 a1_1, .int .i64 a1_2, .int .i64 a1_3, .bool a1_4], .int .i64 a2, .int .i64 a3, .int .i64 a4] w fun e w' => e = .returned (.tuple #[.int .i64 r1, .int .i64 r2]) ∧ Below w.heap.size w w' := by
 have hu56 := Try.underlying56; have hu88 := Try.underlying88; have HR0_0 := A_ hr0_0; have HC0_0 := A_ hc0_0; clear hr0_0 hc0_0; have HR0_1 := A_ hr0_1; have HC0_1 := A_ hc0_1; clear hr0_1 hc0_1; have HR0_2 := A_ hr0_2; have HC0_2 := A_ hc0_2; clear hr0_2 hc0_2; have HB := A_ (Below.refl w.heap.size w); unfold tax_Average.f at h; have H := h; clear h; replace H := Option.bind_eq_some_iff.mp H; obtain ⟨⟨t1295, t1296⟩, A60, H⟩ := H; (try dsimp only at H); have A6 := A_ A60; clear A60; have HC7 := A_ H; clear H; go_enter Try.func93, Try.ntmps93
 go_upto_region 2 with (first | ((with_reducible refine gate_dst (N := 5) rfl ?_); refine be_ (N := 5) (cs := #[.slice A0_0 l0_0.length c0_0, .slice A0_1 l0_1.length c0_1, .slice A0_2 l0_2.length c0_2, .int .i64 a0_3, .int .i64 a0_4]) (t := 56) ?_; intro gb1293 hg w8 hbox hb; have BK1293 := A_ (hbox); have GW1293 := A_ ((by rw [hg]; exact (below_size (bl_ HB)) : w.heap.size ≤ gb1293)); have GE1293 := A_ ((by rw [hg]; exact (below_size (bl_ HB)) : w.heap.size ≤ gb1293)); replace HB := A_ (below_step (bl_ HB) hb); clear hb hbox hg) | ((with_reducible refine gate_dst (N := 6) rfl ?_); refine be_ (N := 6) (cs := #[.int .i64 a1_0, .int .i64 a1_1, .int .i64 a1_2, .int .i64 a1_3, .bool a1_4]) (t := 88) ?_; intro gb1294 hg w9 hbox hb; have BK1294 := A_ (hbox); have GW1294 := A_ ((by rw [hg]; exact (below_size (bl1_ HB GE1293.out)) : w.heap.size ≤ gb1294)); have GE1294 := A_ ((by rw [hg]; exact (below_size (bl1_ HB GE1293.out)) : w.heap.size ≤ gb1294)); have NB1293_1294 := A_ ((by rw [hg]; exact Nat.ne_of_lt (blk_lt (bx_ BK1293)) : gb1293 ≠ gb1294)); have NB1294_1293 := A_ ((by rw [hg]; exact Nat.ne_of_gt (blk_lt (bx_ BK1293)) : gb1294 ≠ gb1293)); replace BK1293 := A_ (blk_below (bx_ BK1293) hb); replace HB := A_ (below_step (bl1_ HB GE1293.out) hb); clear hb hbox hg; have hnb10 := NB1293_1294.out; have hnc10 := NB1294_1293.out; have hcz11_0 := cz_ BK1293 0; have hcz11_1 := cz_ BK1293 1; have hcz11_2 := cz_ BK1293 2; have hcz11_3 := cz_ BK1293 3; have hcz11_4 := cz_ BK1293 4; have hfz11_0 := fz_ BK1293 0; have hfz11_1 := fz_ BK1293 1; have hfz11_2 := fz_ BK1293 2; have hfz11_3 := fz_ BK1293 3; have hfz11_4 := fz_ BK1293 4; have hcz12_0 := cz_ BK1294 0; have hcz12_1 := cz_ BK1294 1; have hcz12_2 := cz_ BK1294 2; have hcz12_3 := cz_ BK1294 3; have hcz12_4 := cz_ BK1294 4; have hfz12_0 := fz_ BK1294 0; have hfz12_1 := fz_ BK1294 1; have hfz12_2 := fz_ BK1294 2; have hfz12_3 := fz_ BK1294 3; have hfz12_4 := fz_ BK1294 4) | ((with_reducible refine gate_callee (f := 79) rfl ?_); refine gm_ (some 21) Try.func79 #[.agg #[.slice A0_0 l0_0.length c0_0, .slice A0_1 l0_1.length c0_1, .slice A0_2 l0_2.length c0_2, .int .i64 a0_3, .int .i64 a0_4], .agg #[.int .i64 a1_0, .int .i64 a1_1, .int .i64 a1_2, .int .i64 a1_3, .bool a1_4], .int .i64 a2, .int .i64 a3, .int .i64 a4] ?_; (with_reducible refine (tax_Exact.calls k _ _ l0_0 _ _ l0_1 _ _ l0_2 a0_3 a0_4 a1_0 a1_1 a1_2 a1_3 a1_4 a2 a3 a4 t1295 t1296 _ ?side1 ?side2 ?side3 ?side4 ?side5 ?side6 A6.out).mono ?_); (case side1 => exact cb_ HR0_0 HB); (case side2 => exact HC0_0.out); (case side3 => exact cb_ HR0_1 HB); (case side4 => exact HC0_1.out); (case side5 => exact cb_ HR0_2 HB); (case side6 => exact HC0_2.out); rintro e w13 ⟨rfl, hb⟩; refine ⟨_, rfl, ?_⟩; replace BK1293 := A_ (blk_below (bx_ BK1293) hb); replace BK1294 := A_ (blk_below (bx_ BK1294) hb); replace HB := A_ (below_step (bl2_ HB GE1293.out GE1294.out) hb); (try clear hb); (try clear hb2); (try clear hk); (try clear hi)))
 (try simp only [Act.put, List.setIfInBounds_toArray, List.set_cons_zero, List.set_cons_succ])
 go_cut [29] (fun v29 wc => ∃ (kq : Nat) (x29_6 : Bool), v29 = .bool x29_6 ∧ Aside0 (tax_Average.j0 kq a2 t1295 t1296 x29_6 = some (r1, r2)) ∧ Aside0 (kq ≤ k) ∧ Aside0 (wc.heap[gb1293]? = some (.cells #[(.slice A0_0 l0_0.length c0_0), (.slice A0_1 l0_1.length c0_1), (.slice A0_2 l0_2.length c0_2), .int .i64 a0_3, .int .i64 a0_4] 56 (0, 0))) ∧ Aside0 (wc.heap[gb1294]? = some (.cells #[.int .i64 a1_0, .int .i64 a1_1, .int .i64 a1_2, .int .i64 a1_3, .bool a1_4] 88 (0, 0))) ∧ Aside0 (Below w.heap.size w wc))
 case first =>
  have H := HC7.out; clear HC7; by_cases c14 : t1296 = 0
  ·rw [if_pos c14] at H; have c14b0 : (t1296 == 0) = true := beq_iff_eq.mpr c14; have c14b1 : (t1296 != 0) = false := bne_eq_false_iff_eq.mpr c14; clear c14
   (first | rw [c14b0] | (simp only [i64_w, i32_w]; rw [c14b0]) | skip)
   have H' := A_ H; clear H
   go_wp2
   go_meet
   case rel => exact ⟨_, (decide (a2 ≤ 0)), (sx_), H', ⟨by first | omega | exact Nat.le_refl _⟩, ⟨bx_ BK1293⟩, ⟨bx_ BK1294⟩, ⟨bl2_ HB GE1293.out GE1294.out⟩⟩
  ·rw [if_neg c14] at H; have c14b0 : (t1296 == 0) = false := beq_eq_false_iff_ne.mpr c14; have c14b1 : (t1296 != 0) = true := bne_iff_ne.mpr c14
   (first | rw [c14b0] | (simp only [i64_w, i32_w]; rw [c14b0]) | skip)
   have H' := A_ H; clear H
   go_wp2
   go_meet
   case rel => exact ⟨_, (true), (sx_), H', ⟨by first | omega | exact Nat.le_refl _⟩, ⟨bx_ BK1293⟩, ⟨bx_ BK1294⟩, ⟨bl2_ HB GE1293.out GE1294.out⟩⟩
 case rest =>
  clear HC7; try clear c1
  try clear p2
  try clear c7
  try clear c9
  try clear c10
  try clear c14
  try clear c14b0
  try clear c14b1
  try clear hcz11_0 hcz11_1 hcz11_2 hcz11_3 hcz11_4
  try clear hcz12_0 hcz12_1 hcz12_2 hcz12_3 hcz12_4
  try clear hfz11_0 hfz11_1 hfz11_2 hfz11_3 hfz11_4
  try clear hfz12_0 hfz12_1 hfz12_2 hfz12_3 hfz12_4
  obtain ⟨kq, x29_6, rfl, HA, HJ6, BK1293, BK1294, HB⟩ := hcut
  cases kq with
  | zero => exact absurd HA.out (by simp [tax_Average.j0])
  | succ kj6 =>
   have H := HA.out; clear HA; simp only [tax_Average.j0] at H; by_cases c15 : x29_6 = true
   ·subst c15; rw [if_pos rfl] at H; simp only [Option.some.injEq, Prod.mk.injEq] at H; obtain ⟨rfl, rfl⟩ := H
    go_wp2
    go_ret2
    exact ⟨er_, bl2_ HB GE1293.out GE1294.out⟩
   ·replace c15 := Bool.eq_false_iff.mpr c15; subst c15; rw [if_neg (show ¬ (false = true) by decide)] at H; replace H := Option.bind_eq_some_iff.mp H; obtain ⟨⟨t1297, t1298⟩, A160, H⟩ := H; replace H : (some (t1297, t1298)) = some (r1, r2) := H; have A16 := A_ A160; clear A160; simp only [Option.some.injEq, Prod.mk.injEq] at H; obtain ⟨rfl, rfl⟩ := H; go_wp2_with (first | ((with_reducible refine gate_callee (f := 121) rfl ?_); refine gm_ (some 34) Try.func121 #[.int .i64 t1295, .int .i64 a2, .int .i64 1] ?_; (with_reducible refine (frac_Round.calls kj6 t1295 a2 1 t1297 t1298 _ A16.out).mono ?_); rintro e w' ⟨rfl, ⟨nd, rfl⟩⟩; refine ⟨_, rfl, ?_⟩))
    go_ret2
    exact ⟨er_, bl2_ HB GE1293.out GE1294.out⟩
end Go.Proofs.Ytcapgmoipacioaa.P
