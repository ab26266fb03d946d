import Derived.Test.YtcapgmoipacioaaPtZf
import Derived.Test.YtcapgmoipacioaaPpfracZf
import Derived.Test.YtcapgmoipacioaaPptaxExactZf
import Derived.Test.YtcapgmoipacioaaY1Zf
namespace Go.Proofs.Ytcapgmoipacioaa.P
open Go.RowKit Go.Proofs.YtcapgmoipacioaaW.PrintWords Go.Proofs.YtcapgmoipacioaaW.PrintLast Go.Proofs.YtcapgmoipacioaaW.PrintMore
set_option linter.unusedVariables false
set_option linter.unusedSimpArgs false
def tax_Due.f (k : Nat) (l0_0 : List (List (S106))) (l0_1 : List (S120)) (l0_2 : List (S209)) (a0_3 : Int) (a0_4 : Int) (a1_0 : Int) (a1_1 : Int) (a1_2 : Int) (a1_3 : Int) (a1_4 : Bool) (a2 : Int) (a3 : Int) (a4 : Int) : Option (Int × Int) := (tax_Exact.f k l0_0 l0_1 l0_2 a0_3 a0_4 a1_0 a1_1 a1_2 a1_3 a1_4 a2 a3 a4).bind fun bt488 => (if bt488.2 = 0 then ((frac_Coins.f k bt488.1 a0_4).bind fun bt490 => (some (bt490.1, bt490.2))) else (some (0, bt488.2)))
set_option maxHeartbeats 8000000 in
set_option maxRecDepth 100000 in
theorem tax_Due.calls (k : Nat) (A0_0 : Option Addr) (c0_0 : Nat) (l0_0 : List (List (S106))) (A0_1 : Option Addr) (c0_1 : Nat) (l0_1 : List (S120)) (A0_2 : Option Addr) (c0_2 : Nat) (l0_2 : List (S209)) (a0_3 : Int) (a0_4 : Int) (a1_0 : Int) (a1_1 : Int) (a1_2 : Int) (a1_3 : Int) (a1_4 : Bool) (a2 : Int) (a3 : Int) (a4 : Int) (r1 : Int) (r2 : Int) (w : World) (hr0_0 : Kd.C (Kd.slice 106 k106) w A0_0 l0_0.length l0_0) (hc0_0 : l0_0.length ≤ c0_0) (hr0_1 : Kd.C k120 w A0_1 l0_1.length l0_1) (hc0_1 : l0_1.length ≤ c0_1) (hr0_2 : Kd.C k209 w A0_2 l0_2.length l0_2) (hc0_2 : l0_2.length ≤ c0_2) (h : tax_Due.f k l0_0 l0_1 l0_2 a0_3 a0_4 a1_0 a1_1 a1_2 a1_3 a1_4 a2 a3 a4 = some (r1, r2)) :
  Calls Try.prog 80 #[.agg #[.slice A0_0 l0_0.length c0_0, .slice A0_1 l0_1.length c0_1, .slice A0_2 l0_2.length c0_2, .int .i64 a0_3, .int .i64 a0_4], .agg #[.int .i64 a1_0, .int .i64 a1_1, .int .i64 a1_2, .int .i64 a1_3, .bool a1_4], .int .i64 a2, .int .i64 a3, .int .i64 a4] w fun e w' => e = .returned (.tuple #[.int .i64 r1, .int .i64 r2]) ∧ Below w.heap.size w w' := by
 have hu56 := Try.underlying56
 have hu88 := Try.underlying88
 have HR0_0 := A_ hr0_0
 have HC0_0 := A_ hc0_0
 clear hr0_0 hc0_0
 have HR0_1 := A_ hr0_1
 have HC0_1 := A_ hc0_1
 clear hr0_1 hc0_1
 have HR0_2 := A_ hr0_2
 have HC0_2 := A_ hc0_2
 clear hr0_2 hc0_2
 have HB := A_ (Below.refl w.heap.size w)
 have H : ((tax_Exact.f k l0_0 l0_1 l0_2 a0_3 a0_4 a1_0 a1_1 a1_2 a1_3 a1_4 a2 a3 a4).bind fun bt488 => (if bt488.2 = 0 then ((frac_Coins.f k bt488.1 a0_4).bind fun bt490 => (some (bt490.1, bt490.2))) else (some (0, bt488.2)))) = some (r1, r2) := h
 clear h
 replace H := Option.bind_eq_some_iff.mp H
 obtain ⟨⟨t488, t489⟩, A60, H⟩ := H
 replace H : (if t489 = 0 then ((frac_Coins.f k t488 a0_4).bind fun bt490 => (some (bt490.1, bt490.2))) else (some (0, t489))) = some (r1, r2) := H
 have A6 := A_ A60
 clear A60
 by_cases c7 : t489 = 0
 ·rw [if_pos c7] at H
  have c7b0 : (t489 == 0) = true := beq_iff_eq.mpr c7
  have c7b1 : (t489 != 0) = false := bne_eq_false_iff_eq.mpr c7
  clear c7
  replace H := Option.bind_eq_some_iff.mp H
  obtain ⟨⟨t490, t491⟩, A80, H⟩ := H
  replace H : (some (t490, t491)) = some (r1, r2) := H
  have A8 := A_ A80
  clear A80
  simp only [Option.some.injEq, Prod.mk.injEq] at H
  obtain ⟨rfl, rfl⟩ := H
  go_enter Try.func80, Try.ntmps80
  go_wp2_with (first | ((with_reducible refine gate_dst (N := 5) rfl ?_); refine be_ (N := 5) (cs := #[.slice A0_0 l0_0.length c0_0, .slice A0_1 l0_1.length c0_1, .slice A0_2 l0_2.length c0_2, .int .i64 a0_3, .int .i64 a0_4]) (t := 56) ?_; intro gb486 hg w9 hbox hb; have BK486 := A_ (hbox); have GW486 := A_ ((by rw [hg]; exact (below_size (bl_ HB)) : w.heap.size ≤ gb486)); have GE486 := A_ ((by rw [hg]; exact (below_size (bl_ HB)) : w.heap.size ≤ gb486)); replace HB := A_ (below_step (bl_ HB) hb); clear hb hbox hg) | ((with_reducible refine gate_dst (N := 6) rfl ?_); refine be_ (N := 6) (cs := #[.int .i64 a1_0, .int .i64 a1_1, .int .i64 a1_2, .int .i64 a1_3, .bool a1_4]) (t := 88) ?_; intro gb487 hg w10 hbox hb; have BK487 := A_ (hbox); have GW487 := A_ ((by rw [hg]; exact (below_size (bl1_ HB GE486.out)) : w.heap.size ≤ gb487)); have GE487 := A_ ((by rw [hg]; exact (below_size (bl1_ HB GE486.out)) : w.heap.size ≤ gb487)); have NB486_487 := A_ ((by rw [hg]; exact Nat.ne_of_lt (blk_lt (bx_ BK486)) : gb486 ≠ gb487)); have NB487_486 := A_ ((by rw [hg]; exact Nat.ne_of_gt (blk_lt (bx_ BK486)) : gb487 ≠ gb486)); replace BK486 := A_ (blk_below (bx_ BK486) hb); replace HB := A_ (below_step (bl1_ HB GE486.out) hb); clear hb hbox hg; have hnb11 := NB486_487.out; have hnc11 := NB487_486.out; have hcz12_0 := cz_ BK486 0; have hcz12_1 := cz_ BK486 1; have hcz12_2 := cz_ BK486 2; have hcz12_3 := cz_ BK486 3; have hcz12_4 := cz_ BK486 4; have hfz12_0 := blk_frozen BK486.out 0; have hfz12_1 := blk_frozen BK486.out 1; have hfz12_2 := blk_frozen BK486.out 2; have hfz12_3 := blk_frozen BK486.out 3; have hfz12_4 := blk_frozen BK486.out 4; have hcz13_0 := cz_ BK487 0; have hcz13_1 := cz_ BK487 1; have hcz13_2 := cz_ BK487 2; have hcz13_3 := cz_ BK487 3; have hcz13_4 := cz_ BK487 4; have hfz13_0 := blk_frozen BK487.out 0; have hfz13_1 := blk_frozen BK487.out 1; have hfz13_2 := blk_frozen BK487.out 2; have hfz13_3 := blk_frozen BK487.out 3; have hfz13_4 := blk_frozen BK487.out 4) | ((with_reducible refine gate_callee (f := 79) rfl ?_); refine gm_ (some 20) Try.func79 #[.agg #[.slice A0_0 l0_0.length c0_0, .slice A0_1 l0_1.length c0_1, .slice A0_2 l0_2.length c0_2, .int .i64 a0_3, .int .i64 a0_4], .agg #[.int .i64 a1_0, .int .i64 a1_1, .int .i64 a1_2, .int .i64 a1_3, .bool a1_4], .int .i64 a2, .int .i64 a3, .int .i64 a4] ?_; (with_reducible refine (tax_Exact.calls k _ _ l0_0 _ _ l0_1 _ _ l0_2 a0_3 a0_4 a1_0 a1_1 a1_2 a1_3 a1_4 a2 a3 a4 t488 t489 _ ?side1 ?side2 ?side3 ?side4 ?side5 ?side6 A6.out).mono ?_); (case side1 => exact cb_ HR0_0 HB); (case side2 => exact HC0_0.out); (case side3 => exact cb_ HR0_1 HB); (case side4 => exact HC0_1.out); (case side5 => exact cb_ HR0_2 HB); (case side6 => exact HC0_2.out); rintro e w14 ⟨rfl, hb⟩; refine ⟨_, rfl, ?_⟩; replace BK486 := A_ (blk_below (bx_ BK486) hb); replace BK487 := A_ (blk_below (bx_ BK487) hb); replace HB := A_ (below_step (bl2_ HB GE486.out GE487.out) hb); (try clear hb); (try clear hb2); (try clear hk); (try clear hi); have hcz15_0 := cz_ BK486 0; have hcz15_1 := cz_ BK486 1; have hcz15_2 := cz_ BK486 2; have hcz15_3 := cz_ BK486 3; have hcz15_4 := cz_ BK486 4; have hfz15_0 := blk_frozen BK486.out 0; have hfz15_1 := blk_frozen BK486.out 1; have hfz15_2 := blk_frozen BK486.out 2; have hfz15_3 := blk_frozen BK486.out 3; have hfz15_4 := blk_frozen BK486.out 4) | ((with_reducible refine gate_callee (f := 67) rfl ?_); refine gm_ (some 29) Try.func67 #[.int .i64 t488, .int .i64 a0_4] ?_; (with_reducible refine (frac_Coins.calls k t488 a0_4 t490 t491 _ A8.out).mono ?_); rintro e w' ⟨rfl, ⟨nd, rfl⟩⟩; refine ⟨_, rfl, ?_⟩))
  go_ret2
  exact ⟨er_, bl2_ HB GE486.out GE487.out⟩
 ·rw [if_neg c7] at H
  have c7b0 : (t489 == 0) = false := beq_eq_false_iff_ne.mpr c7
  have c7b1 : (t489 != 0) = true := bne_iff_ne.mpr c7
  simp only [Option.some.injEq, Prod.mk.injEq] at H
  obtain ⟨rfl, rfl⟩ := H
  go_enter Try.func80, Try.ntmps80
  go_wp2_with (first | ((with_reducible refine gate_dst (N := 5) rfl ?_); refine be_ (N := 5) (cs := #[.slice A0_0 l0_0.length c0_0, .slice A0_1 l0_1.length c0_1, .slice A0_2 l0_2.length c0_2, .int .i64 a0_3, .int .i64 a0_4]) (t := 56) ?_; intro gb486 hg w16 hbox hb; have BK486 := A_ (hbox); have GW486 := A_ ((by rw [hg]; exact (below_size (bl_ HB)) : w.heap.size ≤ gb486)); have GE486 := A_ ((by rw [hg]; exact (below_size (bl_ HB)) : w.heap.size ≤ gb486)); replace HB := A_ (below_step (bl_ HB) hb); clear hb hbox hg) | ((with_reducible refine gate_dst (N := 6) rfl ?_); refine be_ (N := 6) (cs := #[.int .i64 a1_0, .int .i64 a1_1, .int .i64 a1_2, .int .i64 a1_3, .bool a1_4]) (t := 88) ?_; intro gb487 hg w17 hbox hb; have BK487 := A_ (hbox); have GW487 := A_ ((by rw [hg]; exact (below_size (bl1_ HB GE486.out)) : w.heap.size ≤ gb487)); have GE487 := A_ ((by rw [hg]; exact (below_size (bl1_ HB GE486.out)) : w.heap.size ≤ gb487)); have NB486_487 := A_ ((by rw [hg]; exact Nat.ne_of_lt (blk_lt (bx_ BK486)) : gb486 ≠ gb487)); have NB487_486 := A_ ((by rw [hg]; exact Nat.ne_of_gt (blk_lt (bx_ BK486)) : gb487 ≠ gb486)); replace BK486 := A_ (blk_below (bx_ BK486) hb); replace HB := A_ (below_step (bl1_ HB GE486.out) hb); clear hb hbox hg; have hnb18 := NB486_487.out; have hnc18 := NB487_486.out; have hcz19_0 := cz_ BK486 0; have hcz19_1 := cz_ BK486 1; have hcz19_2 := cz_ BK486 2; have hcz19_3 := cz_ BK486 3; have hcz19_4 := cz_ BK486 4; have hfz19_0 := blk_frozen BK486.out 0; have hfz19_1 := blk_frozen BK486.out 1; have hfz19_2 := blk_frozen BK486.out 2; have hfz19_3 := blk_frozen BK486.out 3; have hfz19_4 := blk_frozen BK486.out 4; have hcz20_0 := cz_ BK487 0; have hcz20_1 := cz_ BK487 1; have hcz20_2 := cz_ BK487 2; have hcz20_3 := cz_ BK487 3; have hcz20_4 := cz_ BK487 4; have hfz20_0 := blk_frozen BK487.out 0; have hfz20_1 := blk_frozen BK487.out 1; have hfz20_2 := blk_frozen BK487.out 2; have hfz20_3 := blk_frozen BK487.out 3; have hfz20_4 := blk_frozen BK487.out 4) | ((with_reducible refine gate_callee (f := 79) rfl ?_); refine gm_ (some 20) Try.func79 #[.agg #[.slice A0_0 l0_0.length c0_0, .slice A0_1 l0_1.length c0_1, .slice A0_2 l0_2.length c0_2, .int .i64 a0_3, .int .i64 a0_4], .agg #[.int .i64 a1_0, .int .i64 a1_1, .int .i64 a1_2, .int .i64 a1_3, .bool a1_4], .int .i64 a2, .int .i64 a3, .int .i64 a4] ?_; (with_reducible refine (tax_Exact.calls k _ _ l0_0 _ _ l0_1 _ _ l0_2 a0_3 a0_4 a1_0 a1_1 a1_2 a1_3 a1_4 a2 a3 a4 t488 t489 _ ?side1 ?side2 ?side3 ?side4 ?side5 ?side6 A6.out).mono ?_); (case side1 => exact cb_ HR0_0 HB); (case side2 => exact HC0_0.out); (case side3 => exact cb_ HR0_1 HB); (case side4 => exact HC0_1.out); (case side5 => exact cb_ HR0_2 HB); (case side6 => exact HC0_2.out); rintro e w21 ⟨rfl, hb⟩; refine ⟨_, rfl, ?_⟩; replace BK486 := A_ (blk_below (bx_ BK486) hb); replace BK487 := A_ (blk_below (bx_ BK487) hb); replace HB := A_ (below_step (bl2_ HB GE486.out GE487.out) hb); (try clear hb); (try clear hb2); (try clear hk); (try clear hi)))
  go_ret2
  exact ⟨er_, bl2_ HB GE486.out GE487.out⟩
end Go.Proofs.Ytcapgmoipacioaa.P
