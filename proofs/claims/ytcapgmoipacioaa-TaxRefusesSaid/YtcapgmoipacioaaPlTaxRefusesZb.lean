import Derived.Test.YtcapgmoipacioaaPtZb
import Derived.Test.YtcapgmoipacioaaPpstipendlaw13Zb
import Derived.Test.YtcapgmoipacioaaPptableZb
import Derived.Test.YtcapgmoipacioaaPptaxCornersZb
import Derived.Test.YtcapgmoipacioaaPptaxExactZb
import Derived.Test.YtcapgmoipacioaaY1Zb
namespace Go.Proofs.Ytcapgmoipacioaa.P
open Go.RowKit Go.Proofs.YtcapgmoipacioaaW.PrintWords Go.Proofs.YtcapgmoipacioaaW.PrintLast Go.Proofs.YtcapgmoipacioaaW.PrintMore
set_option linter.unusedVariables false
set_option linter.unusedSimpArgs false
mutual
def stipendlaw13_TaxRefuses.j0 : Nat → Bool → List (List (S106)) → List (S120) → List (S209) → Int → Int → Int → Int → Int → Int → Bool → Int → Int → Int → Option (Bool)
 | 0, _, _, _, _, _, _, _, _, _, _, _, _, _, _ => none
 | k + 1, x22, x1083000, x1083001, x1083002, x1083003, x1083004, x1084000, x1084001, x1084002, x1084003, x1084004, x1085000, x1085001, x1085002 => if x22 = true then (some true) else ((tax_Exact.f k x1083000 x1083001 x1083002 x1083003 x1083004 x1084000 x1084001 x1084002 x1084003 x1084004 x1085000 x1085001 x1085002).bind fun bt1087 => ((tax_Corners.f k x1083000 x1083001 x1083002 x1083003 x1083004 x1084000 x1084001 x1084002 x1084003 x1084004 x1085001 x1085002).bind fun bt1089 => ((table_Fits.f k x1083000 x1083001 x1083002 x1083003 x1083004 x1084000 x1084001 x1084002 x1084003 x1084004).bind fun t1093 => (if t1093 = 0 then (if x1085001 < 0 then (stipendlaw13_TaxRefuses.j1 k bt1087.1 bt1087.2 bt1089.1 bt1089.2 true) else (if x1085002 < 1 then (stipendlaw13_TaxRefuses.j1 k bt1087.1 bt1087.2 bt1089.1 bt1089.2 true) else (if x1085001 > x1085002 then (stipendlaw13_TaxRefuses.j1 k bt1087.1 bt1087.2 bt1089.1 bt1089.2 true) else (stipendlaw13_TaxRefuses.j1 k bt1087.1 bt1087.2 bt1089.1 bt1089.2 (decide (x1085002 > 1048576)))))) else (if bt1087.2 = t1093 then (if bt1089.2 = t1093 then (if bt1087.1 = 0 then (some ((bt1089.1.length : Int) == 0)) else (none)) else (none)) else (none))))))
def stipendlaw13_TaxRefuses.j1 : Nat → Int → Int → List Int → Int → Bool → Option (Bool)
 | 0, _, _, _, _, _ => none
 | k + 1, x7, x8, x9, x10, x86 => if x86 = true then (if x8 = 1 then (if x10 = 1 then (if x7 = 0 then (some ((x9.length : Int) == 0)) else (none)) else (none)) else (none)) else (some (x10 == 0))
end
def stipendlaw13_TaxRefuses.f (k : Nat) (l0_0 : List (List (S106))) (l0_1 : List (S120)) (l0_2 : List (S209)) (a0_3 : Int) (a0_4 : Int) (a1_0 : Int) (a1_1 : Int) (a1_2 : Int) (a1_3 : Int) (a1_4 : Bool) (a2_0 : Int) (a2_1 : Int) (a2_2 : Int) : Option (Bool) := (stipendlaw13_dues.f k).bind fun t1085 => (if t1085 = true then (if (l0_0.length : Int) > 20 then (stipendlaw13_TaxRefuses.j0 k true l0_0 l0_1 l0_2 a0_3 a0_4 a1_0 a1_1 a1_2 a1_3 a1_4 a2_0 a2_1 a2_2) else ((table_Check.f k l0_0 l0_1 l0_2 a0_3 a0_4).bind fun t1086 => (stipendlaw13_TaxRefuses.j0 k (t1086 != 0) l0_0 l0_1 l0_2 a0_3 a0_4 a1_0 a1_1 a1_2 a1_3 a1_4 a2_0 a2_1 a2_2))) else (none))
set_option maxHeartbeats 8000000 in
set_option maxRecDepth 100000 in
theorem stipendlaw13_TaxRefuses.calls (k : Nat) (A0_0 : Option Addr) (c0_0 : Nat) (l0_0 : List (List (S106))) (A0_1 : Option Addr) (c0_1 : Nat) (l0_1 : List (S120)) (A0_2 : Option Addr) (c0_2 : Nat) (l0_2 : List (S209)) (a0_3 : Int) (a0_4 : Int) (a1_0 : Int) (a1_1 : Int) (a1_2 : Int) (a1_3 : Int) (a1_4 : Bool) (a2_0 : Int) (a2_1 : Int) (a2_2 : Int) (r : Bool) (w : World) (hr0_0 : Kd.C (Kd.slice 106 k106) w A0_0 l0_0.length l0_0) (hc0_0 : l0_0.length ≤ c0_0) (hr0_1 : Kd.C k120 w A0_1 l0_1.length l0_1) (hc0_1 : l0_1.length ≤ c0_1) (hr0_2 : Kd.C k209 w A0_2 l0_2.length l0_2) (hc0_2 : l0_2.length ≤ c0_2) (h : stipendlaw13_TaxRefuses.f k l0_0 l0_1 l0_2 a0_3 a0_4 a1_0 a1_1 a1_2 a1_3 a1_4 a2_0 a2_1 a2_2 = some r) :
  Calls Try.prog 19 #[.agg #[.slice A0_0 l0_0.length c0_0, .slice A0_1 l0_1.length c0_1, .slice A0_2 l0_2.length c0_2, .int .i64 a0_3, .int .i64 a0_4], .agg #[.int .i64 a1_0, .int .i64 a1_1, .int .i64 a1_2, .int .i64 a1_3, .bool a1_4], .agg #[.int .i64 a2_0, .int .i64 a2_1, .int .i64 a2_2]] w fun e w' => e = .returned (.bool r) ∧ Below w.heap.size w w' := by
 have hu56 := Try.underlying56
 have hu88 := Try.underlying88
 have hu135 := Try.underlying135
 have HR0_0 := A_ hr0_0
 have HC0_0 := A_ hc0_0
 clear hr0_0 hc0_0
 have HR0_1 := A_ hr0_1
 have HC0_1 := A_ hc0_1
 clear hr0_1 hc0_1
 have HR0_2 := A_ hr0_2
 have HC0_2 := A_ hc0_2
 clear hr0_2 hc0_2
 have HB := A_ (Below.refl w.heap.size w)
 have H : ((stipendlaw13_dues.f k).bind fun t1085 => (if t1085 = true then (if (l0_0.length : Int) > 20 then (stipendlaw13_TaxRefuses.j0 k true l0_0 l0_1 l0_2 a0_3 a0_4 a1_0 a1_1 a1_2 a1_3 a1_4 a2_0 a2_1 a2_2) else ((table_Check.f k l0_0 l0_1 l0_2 a0_3 a0_4).bind fun t1086 => (stipendlaw13_TaxRefuses.j0 k (t1086 != 0) l0_0 l0_1 l0_2 a0_3 a0_4 a1_0 a1_1 a1_2 a1_3 a1_4 a2_0 a2_1 a2_2))) else (none))) = some r := h
 clear h
 replace H := Option.bind_eq_some_iff.mp H
 obtain ⟨t1085, A40, H⟩ := H
 replace H : (if t1085 = true then (if (l0_0.length : Int) > 20 then (stipendlaw13_TaxRefuses.j0 k true l0_0 l0_1 l0_2 a0_3 a0_4 a1_0 a1_1 a1_2 a1_3 a1_4 a2_0 a2_1 a2_2) else ((table_Check.f k l0_0 l0_1 l0_2 a0_3 a0_4).bind fun t1086 => (stipendlaw13_TaxRefuses.j0 k (t1086 != 0) l0_0 l0_1 l0_2 a0_3 a0_4 a1_0 a1_1 a1_2 a1_3 a1_4 a2_0 a2_1 a2_2))) else (none)) = some r := H
 have A4 := A_ A40
 clear A40
 by_cases c5 : t1085 = true
 ·subst c5
  have H1 : (if (l0_0.length : Int) > 20 then (stipendlaw13_TaxRefuses.j0 k true l0_0 l0_1 l0_2 a0_3 a0_4 a1_0 a1_1 a1_2 a1_3 a1_4 a2_0 a2_1 a2_2) else ((table_Check.f k l0_0 l0_1 l0_2 a0_3 a0_4).bind fun t1086 => (stipendlaw13_TaxRefuses.j0 k (t1086 != 0) l0_0 l0_1 l0_2 a0_3 a0_4 a1_0 a1_1 a1_2 a1_3 a1_4 a2_0 a2_1 a2_2))) = some r := by rw [if_pos rfl] at H; exact H
  clear H
  have H := H1
  clear H1
  have HC6 := A_ H
  clear H
  go_enter Try.func19, Try.ntmps19
  go_upto_region 3 with (first | ((with_reducible refine gate_dst (N := 3) rfl ?_); refine be_ (N := 3) (cs := #[.slice A0_0 l0_0.length c0_0, .slice A0_1 l0_1.length c0_1, .slice A0_2 l0_2.length c0_2, .int .i64 a0_3, .int .i64 a0_4]) (t := 56) ?_; intro gb1082 hg w7 hbox hb; have BK1082 := A_ (hbox); have GW1082 := A_ ((by rw [hg]; exact (below_size (bl_ HB)) : w.heap.size ≤ gb1082)); have GE1082 := A_ ((by rw [hg]; exact (below_size (bl_ HB)) : w.heap.size ≤ gb1082)); replace HB := A_ (below_step (bl_ HB) hb); clear hb hbox hg) | ((with_reducible refine gate_dst (N := 4) rfl ?_); refine be_ (N := 4) (cs := #[.int .i64 a1_0, .int .i64 a1_1, .int .i64 a1_2, .int .i64 a1_3, .bool a1_4]) (t := 88) ?_; intro gb1083 hg w8 hbox hb; have BK1083 := A_ (hbox); have GW1083 := A_ ((by rw [hg]; exact (below_size (bl1_ HB GE1082.out)) : w.heap.size ≤ gb1083)); have GE1083 := A_ ((by rw [hg]; exact (below_size (bl1_ HB GE1082.out)) : w.heap.size ≤ gb1083)); have NB1082_1083 := A_ ((by rw [hg]; exact Nat.ne_of_lt (blk_lt (bx_ BK1082)) : gb1082 ≠ gb1083)); have NB1083_1082 := A_ ((by rw [hg]; exact Nat.ne_of_gt (blk_lt (bx_ BK1082)) : gb1083 ≠ gb1082)); replace BK1082 := A_ (blk_below (bx_ BK1082) hb); replace HB := A_ (below_step (bl1_ HB GE1082.out) hb); clear hb hbox hg) | ((with_reducible refine gate_dst (N := 5) rfl ?_); refine be_ (N := 5) (cs := #[.int .i64 a2_0, .int .i64 a2_1, .int .i64 a2_2]) (t := 135) ?_; intro gb1084 hg w9 hbox hb; have BK1084 := A_ (hbox); have GW1084 := A_ ((by rw [hg]; exact (below_size (bl2_ HB GE1082.out GE1083.out)) : w.heap.size ≤ gb1084)); have GE1084 := A_ ((by rw [hg]; exact (below_size (bl2_ HB GE1082.out GE1083.out)) : w.heap.size ≤ gb1084)); have NB1082_1084 := A_ ((by rw [hg]; exact Nat.ne_of_lt (blk_lt (bx_ BK1082)) : gb1082 ≠ gb1084)); have NB1084_1082 := A_ ((by rw [hg]; exact Nat.ne_of_gt (blk_lt (bx_ BK1082)) : gb1084 ≠ gb1082)); have NB1083_1084 := A_ ((by rw [hg]; exact Nat.ne_of_lt (blk_lt (bx_ BK1083)) : gb1083 ≠ gb1084)); have NB1084_1083 := A_ ((by rw [hg]; exact Nat.ne_of_gt (blk_lt (bx_ BK1083)) : gb1084 ≠ gb1083)); replace BK1082 := A_ (blk_below (bx_ BK1082) hb); replace BK1083 := A_ (blk_below (bx_ BK1083) hb); replace HB := A_ (below_step (bl2_ HB GE1082.out GE1083.out) hb); clear hb hbox hg) | ((with_reducible refine gate_callee (f := 77) rfl ?_); refine gm_ (some 12) Try.func77 #[] ?_; (with_reducible refine (stipendlaw13_dues.calls k  true _ A4.out).mono ?_); rintro e w10 ⟨rfl, hb⟩; refine ⟨_, rfl, ?_⟩; replace BK1082 := A_ (blk_below (bx_ BK1082) hb); replace BK1083 := A_ (blk_below (bx_ BK1083) hb); replace BK1084 := A_ (blk_below (bx_ BK1084) hb); replace HB := A_ (below_step (bl3_ HB GE1082.out GE1083.out GE1084.out) hb); (try clear hb); (try clear hb2); (try clear hk); (try clear hi)))
  (try simp only [Act.put, List.setIfInBounds_toArray, List.set_cons_zero, List.set_cons_succ])
  go_cut [22] (fun v22 wc => ∃ (kq : Nat) (x22_5 : Bool), v22 = .bool x22_5 ∧ Aside0 (stipendlaw13_TaxRefuses.j0 kq x22_5 l0_0 l0_1 l0_2 a0_3 a0_4 a1_0 a1_1 a1_2 a1_3 a1_4 a2_0 a2_1 a2_2 = some r) ∧ Aside0 (kq ≤ k) ∧ Aside0 (wc.heap[gb1082]? = some (.cells #[(.slice A0_0 l0_0.length c0_0), (.slice A0_1 l0_1.length c0_1), (.slice A0_2 l0_2.length c0_2), .int .i64 a0_3, .int .i64 a0_4] 56 (0, 0))) ∧ Aside0 (wc.heap[gb1083]? = some (.cells #[.int .i64 a1_0, .int .i64 a1_1, .int .i64 a1_2, .int .i64 a1_3, .bool a1_4] 88 (0, 0))) ∧ Aside0 (wc.heap[gb1084]? = some (.cells #[.int .i64 a2_0, .int .i64 a2_1, .int .i64 a2_2] 135 (0, 0))) ∧ Aside0 (Below w.heap.size w wc))
  case first =>
   have H := HC6.out
   clear HC6
   by_cases c11 : (l0_0.length : Int) > 20
   ·rw [if_pos c11] at H
    have c11b0 : decide (20 < (l0_0.length : Int)) = true := decide_eq_true c11
    have c11b1 : decide (20 < l0_0.length) = true := decide_eq_true (by omega)
    clear c11
    (first | rw [c11b0] | (simp only [i64_w, i32_w]; rw [c11b0]) | skip)
    have H' := A_ H
    clear H
    have hnb12 := NB1082_1083.out
    have hnc12 := NB1083_1082.out
    have hnb13 := NB1082_1084.out
    have hnc13 := NB1084_1082.out
    have hcz14_0 := cz_ BK1082 0
    have hcz14_1 := cz_ BK1082 1
    have hcz14_2 := cz_ BK1082 2
    have hcz14_3 := cz_ BK1082 3
    have hcz14_4 := cz_ BK1082 4
    have hfz14_0 := blk_frozen BK1082.out 0
    have hfz14_1 := blk_frozen BK1082.out 1
    have hfz14_2 := blk_frozen BK1082.out 2
    have hfz14_3 := blk_frozen BK1082.out 3
    have hfz14_4 := blk_frozen BK1082.out 4
    go_wp2
    go_meet
    case rel => exact ⟨_, (true), (sx_), H', ⟨by first | omega | exact Nat.le_refl _⟩, ⟨bx_ BK1082⟩, ⟨bx_ BK1083⟩, ⟨bx_ BK1084⟩, ⟨bl3_ HB GE1082.out GE1083.out GE1084.out⟩⟩
   ·rw [if_neg c11] at H
    have c11b0 : decide (20 < (l0_0.length : Int)) = false := decide_eq_false c11
    have c11b1 : decide (20 < l0_0.length) = false := decide_eq_false (by omega)
    clear c11
    (first | rw [c11b0] | (simp only [i64_w, i32_w]; rw [c11b0]) | skip)
    replace H := Option.bind_eq_some_iff.mp H
    obtain ⟨t1086, A150, H⟩ := H
    replace H : (stipendlaw13_TaxRefuses.j0 k (t1086 != 0) l0_0 l0_1 l0_2 a0_3 a0_4 a1_0 a1_1 a1_2 a1_3 a1_4 a2_0 a2_1 a2_2) = some r := H
    have A15 := A_ A150
    clear A150
    have H' := A_ H
    clear H
    have hnb16 := NB1082_1083.out
    have hnc16 := NB1083_1082.out
    have hnb17 := NB1082_1084.out
    have hnc17 := NB1084_1082.out
    have hcz18_0 := cz_ BK1082 0
    have hcz18_1 := cz_ BK1082 1
    have hcz18_2 := cz_ BK1082 2
    have hcz18_3 := cz_ BK1082 3
    have hcz18_4 := cz_ BK1082 4
    have hfz18_0 := blk_frozen BK1082.out 0
    have hfz18_1 := blk_frozen BK1082.out 1
    have hfz18_2 := blk_frozen BK1082.out 2
    have hfz18_3 := blk_frozen BK1082.out 3
    have hfz18_4 := blk_frozen BK1082.out 4
    go_wp2_with (first | (go_at_call 41; (with_reducible refine (table_Check.calls k _ _ l0_0 _ _ l0_1 _ _ l0_2 a0_3 a0_4 t1086 _ ?side1 ?side2 ?side3 ?side4 ?side5 ?side6 A15.out).mono ?_); (case side1 => exact cb_ HR0_0 HB); (case side2 => exact HC0_0.out); (case side3 => exact cb_ HR0_1 HB); (case side4 => exact HC0_1.out); (case side5 => exact cb_ HR0_2 HB); (case side6 => exact HC0_2.out); rintro e w19 ⟨rfl, hb⟩; replace BK1082 := A_ (blk_below (bx_ BK1082) hb); replace BK1083 := A_ (blk_below (bx_ BK1083) hb); replace BK1084 := A_ (blk_below (bx_ BK1084) hb); replace HB := A_ (below_step (bl3_ HB GE1082.out GE1083.out GE1084.out) hb); (try clear hb); (try clear hb2); (try clear hk); (try clear hi)))
    go_meet
    case rel => exact ⟨_, ((t1086 != 0)), (sx_), H', ⟨by first | omega | exact Nat.le_refl _⟩, ⟨bx_ BK1082⟩, ⟨bx_ BK1083⟩, ⟨bx_ BK1084⟩, ⟨bl3_ HB GE1082.out GE1083.out GE1084.out⟩⟩
  case rest =>
   clear HC6
   try clear c1
   try clear p2
   try clear c5
   try clear c7
   try clear c11
   try clear c11b0
   try clear c11b1
   try clear c12
   try clear c13
   try clear c16
   try clear c17
   try clear c19
   try clear hcz14_0 hcz14_1 hcz14_2 hcz14_3 hcz14_4
   try clear hcz18_0 hcz18_1 hcz18_2 hcz18_3 hcz18_4
   try clear hfz14_0 hfz14_1 hfz14_2 hfz14_3 hfz14_4
   try clear hfz18_0 hfz18_1 hfz18_2 hfz18_3 hfz18_4
   obtain ⟨kq, x22_5, rfl, HA, HJ5, BK1082, BK1083, BK1084, HB⟩ := hcut
   cases kq with
   | zero => exact absurd HA.out (by simp [stipendlaw13_TaxRefuses.j0])
   | succ kj5 =>
    have H := HA.out
    clear HA
    simp only [stipendlaw13_TaxRefuses.j0] at H
    by_cases c20 : x22_5 = true
    ·subst c20
     have H1 : (some true) = some r := by rw [if_pos rfl] at H; exact H
     clear H
     have H := H1
     clear H1
     obtain rfl := Option.some.inj H
     go_wp2
     go_ret
     exact ⟨er_, bl3_ HB GE1082.out GE1083.out GE1084.out⟩
    ·replace c20 := Bool.eq_false_iff.mpr c20
     subst c20
     have H1 : ((tax_Exact.f kj5 l0_0 l0_1 l0_2 a0_3 a0_4 a1_0 a1_1 a1_2 a1_3 a1_4 a2_0 a2_1 a2_2).bind fun bt1087 => ((tax_Corners.f kj5 l0_0 l0_1 l0_2 a0_3 a0_4 a1_0 a1_1 a1_2 a1_3 a1_4 a2_1 a2_2).bind fun bt1089 => ((table_Fits.f kj5 l0_0 l0_1 l0_2 a0_3 a0_4 a1_0 a1_1 a1_2 a1_3 a1_4).bind fun t1093 => (if t1093 = 0 then (if a2_1 < 0 then (stipendlaw13_TaxRefuses.j1 kj5 bt1087.1 bt1087.2 bt1089.1 bt1089.2 true) else (if a2_2 < 1 then (stipendlaw13_TaxRefuses.j1 kj5 bt1087.1 bt1087.2 bt1089.1 bt1089.2 true) else (if a2_1 > a2_2 then (stipendlaw13_TaxRefuses.j1 kj5 bt1087.1 bt1087.2 bt1089.1 bt1089.2 true) else (stipendlaw13_TaxRefuses.j1 kj5 bt1087.1 bt1087.2 bt1089.1 bt1089.2 (decide (a2_2 > 1048576)))))) else (if bt1087.2 = t1093 then (if bt1089.2 = t1093 then (if bt1087.1 = 0 then (some ((bt1089.1.length : Int) == 0)) else (none)) else (none)) else (none)))))) = some r := by rw [if_neg (show ¬ (false = true) by decide)] at H; exact H
     clear H
     have H := H1
     clear H1
     replace H := Option.bind_eq_some_iff.mp H
     obtain ⟨⟨t1087, t1088⟩, A210, H⟩ := H
     replace H : ((tax_Corners.f kj5 l0_0 l0_1 l0_2 a0_3 a0_4 a1_0 a1_1 a1_2 a1_3 a1_4 a2_1 a2_2).bind fun bt1089 => ((table_Fits.f kj5 l0_0 l0_1 l0_2 a0_3 a0_4 a1_0 a1_1 a1_2 a1_3 a1_4).bind fun t1093 => (if t1093 = 0 then (if a2_1 < 0 then (stipendlaw13_TaxRefuses.j1 kj5 t1087 t1088 bt1089.1 bt1089.2 true) else (if a2_2 < 1 then (stipendlaw13_TaxRefuses.j1 kj5 t1087 t1088 bt1089.1 bt1089.2 true) else (if a2_1 > a2_2 then (stipendlaw13_TaxRefuses.j1 kj5 t1087 t1088 bt1089.1 bt1089.2 true) else (stipendlaw13_TaxRefuses.j1 kj5 t1087 t1088 bt1089.1 bt1089.2 (decide (a2_2 > 1048576)))))) else (if t1088 = t1093 then (if bt1089.2 = t1093 then (if t1087 = 0 then (some ((bt1089.1.length : Int) == 0)) else (none)) else (none)) else (none))))) = some r := H
     have A21 := A_ A210
     clear A210
     replace H := Option.bind_eq_some_iff.mp H
     obtain ⟨⟨t1089, t1092⟩, A220, H⟩ := H
     replace H : ((table_Fits.f kj5 l0_0 l0_1 l0_2 a0_3 a0_4 a1_0 a1_1 a1_2 a1_3 a1_4).bind fun t1093 => (if t1093 = 0 then (if a2_1 < 0 then (stipendlaw13_TaxRefuses.j1 kj5 t1087 t1088 t1089 t1092 true) else (if a2_2 < 1 then (stipendlaw13_TaxRefuses.j1 kj5 t1087 t1088 t1089 t1092 true) else (if a2_1 > a2_2 then (stipendlaw13_TaxRefuses.j1 kj5 t1087 t1088 t1089 t1092 true) else (stipendlaw13_TaxRefuses.j1 kj5 t1087 t1088 t1089 t1092 (decide (a2_2 > 1048576)))))) else (if t1088 = t1093 then (if t1092 = t1093 then (if t1087 = 0 then (some ((t1089.length : Int) == 0)) else (none)) else (none)) else (none)))) = some r := H
     have A22 := A_ A220
     clear A220
     replace H := Option.bind_eq_some_iff.mp H
     obtain ⟨t1093, A230, H⟩ := H
     replace H : (if t1093 = 0 then (if a2_1 < 0 then (stipendlaw13_TaxRefuses.j1 kj5 t1087 t1088 t1089 t1092 true) else (if a2_2 < 1 then (stipendlaw13_TaxRefuses.j1 kj5 t1087 t1088 t1089 t1092 true) else (if a2_1 > a2_2 then (stipendlaw13_TaxRefuses.j1 kj5 t1087 t1088 t1089 t1092 true) else (stipendlaw13_TaxRefuses.j1 kj5 t1087 t1088 t1089 t1092 (decide (a2_2 > 1048576)))))) else (if t1088 = t1093 then (if t1092 = t1093 then (if t1087 = 0 then (some ((t1089.length : Int) == 0)) else (none)) else (none)) else (none))) = some r := H
     have A23 := A_ A230
     clear A230
     by_cases c24 : t1093 = 0
     ·rw [if_pos c24] at H
      have c24b0 : (t1093 == 0) = true := beq_iff_eq.mpr c24
      have c24b1 : (t1093 != 0) = false := bne_eq_false_iff_eq.mpr c24
      clear c24
      have HC25 := A_ H
      clear H
      have hnb26 := NB1082_1083.out
      have hnc26 := NB1083_1082.out
      have hnb27 := NB1082_1084.out
      have hnc27 := NB1084_1082.out
      have hcz28_0 := cz_ BK1082 0
      have hcz28_1 := cz_ BK1082 1
      have hcz28_2 := cz_ BK1082 2
      have hcz28_3 := cz_ BK1082 3
      have hcz28_4 := cz_ BK1082 4
      have hfz28_0 := blk_frozen BK1082.out 0
      have hfz28_1 := blk_frozen BK1082.out 1
      have hfz28_2 := blk_frozen BK1082.out 2
      have hfz28_3 := blk_frozen BK1082.out 3
      have hfz28_4 := blk_frozen BK1082.out 4
      have hnb29 := NB1083_1084.out
      have hnc29 := NB1084_1083.out
      have hcz30_0 := cz_ BK1083 0
      have hcz30_1 := cz_ BK1083 1
      have hcz30_2 := cz_ BK1083 2
      have hcz30_3 := cz_ BK1083 3
      have hcz30_4 := cz_ BK1083 4
      have hfz30_0 := blk_frozen BK1083.out 0
      have hfz30_1 := blk_frozen BK1083.out 1
      have hfz30_2 := blk_frozen BK1083.out 2
      have hfz30_3 := blk_frozen BK1083.out 3
      have hfz30_4 := blk_frozen BK1083.out 4
      have hcz31_0 := cz_ BK1084 0
      have hcz31_1 := cz_ BK1084 1
      have hcz31_2 := cz_ BK1084 2
      have hfz31_0 := blk_frozen BK1084.out 0
      have hfz31_1 := blk_frozen BK1084.out 1
      have hfz31_2 := blk_frozen BK1084.out 2
      go_upto_region 10 with (first | ((with_reducible refine gate_callee (f := 79) rfl ?_); refine gm_ (some 32) Try.func79 #[.agg #[.slice A0_0 l0_0.length c0_0, .slice A0_1 l0_1.length c0_1, .slice A0_2 l0_2.length c0_2, .int .i64 a0_3, .int .i64 a0_4], .agg #[.int .i64 a1_0, .int .i64 a1_1, .int .i64 a1_2, .int .i64 a1_3, .bool a1_4], .int .i64 a2_0, .int .i64 a2_1, .int .i64 a2_2] ?_; (with_reducible refine (tax_Exact.calls kj5 _ _ l0_0 _ _ l0_1 _ _ l0_2 a0_3 a0_4 a1_0 a1_1 a1_2 a1_3 a1_4 a2_0 a2_1 a2_2 t1087 t1088 _ ?side1 ?side2 ?side3 ?side4 ?side5 ?side6 A21.out).mono ?_); (case side1 => exact cb_ HR0_0 HB); (case side2 => exact HC0_0.out); (case side3 => exact cb_ HR0_1 HB); (case side4 => exact HC0_1.out); (case side5 => exact cb_ HR0_2 HB); (case side6 => exact HC0_2.out); rintro e w32 ⟨rfl, hb⟩; refine ⟨_, rfl, ?_⟩; replace BK1082 := A_ (blk_below (bx_ BK1082) hb); replace BK1083 := A_ (blk_below (bx_ BK1083) hb); replace BK1084 := A_ (blk_below (bx_ BK1084) hb); replace HB := A_ (below_step (bl3_ HB GE1082.out GE1083.out GE1084.out) hb); (try clear hb); (try clear hb2); (try clear hk); (try clear hi); have hcz33_0 := cz_ BK1082 0; have hcz33_1 := cz_ BK1082 1; have hcz33_2 := cz_ BK1082 2; have hcz33_3 := cz_ BK1082 3; have hcz33_4 := cz_ BK1082 4; have hfz33_0 := blk_frozen BK1082.out 0; have hfz33_1 := blk_frozen BK1082.out 1; have hfz33_2 := blk_frozen BK1082.out 2; have hfz33_3 := blk_frozen BK1082.out 3; have hfz33_4 := blk_frozen BK1082.out 4; have hcz34_0 := cz_ BK1083 0; have hcz34_1 := cz_ BK1083 1; have hcz34_2 := cz_ BK1083 2; have hcz34_3 := cz_ BK1083 3; have hcz34_4 := cz_ BK1083 4; have hfz34_0 := blk_frozen BK1083.out 0; have hfz34_1 := blk_frozen BK1083.out 1; have hfz34_2 := blk_frozen BK1083.out 2; have hfz34_3 := blk_frozen BK1083.out 3; have hfz34_4 := blk_frozen BK1083.out 4; have hcz35_0 := cz_ BK1084 0; have hcz35_1 := cz_ BK1084 1; have hcz35_2 := cz_ BK1084 2; have hfz35_0 := blk_frozen BK1084.out 0; have hfz35_1 := blk_frozen BK1084.out 1; have hfz35_2 := blk_frozen BK1084.out 2) | ((with_reducible refine gate_callee (f := 84) rfl ?_); refine gm_ (some 42) Try.func84 #[.agg #[.slice A0_0 l0_0.length c0_0, .slice A0_1 l0_1.length c0_1, .slice A0_2 l0_2.length c0_2, .int .i64 a0_3, .int .i64 a0_4], .agg #[.int .i64 a1_0, .int .i64 a1_1, .int .i64 a1_2, .int .i64 a1_3, .bool a1_4], .int .i64 a2_1, .int .i64 a2_2] ?_; (with_reducible refine (tax_Corners.calls kj5 _ _ l0_0 _ _ l0_1 _ _ l0_2 a0_3 a0_4 a1_0 a1_1 a1_2 a1_3 a1_4 a2_1 a2_2 t1089 t1092 _ ?side1 ?side2 ?side3 ?side4 ?side5 ?side6 A22.out).mono ?_); (case side1 => exact cb_ HR0_0 HB); (case side2 => exact HC0_0.out); (case side3 => exact cb_ HR0_1 HB); (case side4 => exact HC0_1.out); (case side5 => exact cb_ HR0_2 HB); (case side6 => exact HC0_2.out); rintro e w36 ⟨v1090, rfl, ho0, hb⟩; refine ⟨_, rfl, ?_⟩; have HO1091 := A_ (Kd.R_lower ho0 (below_size (bl3_ HB GE1082.out GE1083.out GE1084.out))); replace BK1082 := A_ (blk_below (bx_ BK1082) hb); replace BK1083 := A_ (blk_below (bx_ BK1083) hb); replace BK1084 := A_ (blk_below (bx_ BK1084) hb); replace HB := A_ (below_step (bl3_ HB GE1082.out GE1083.out GE1084.out) hb); (try clear hb); (try clear hb2); (try clear hk); (try clear hi); (try clear ho0); have hcz37_0 := cz_ BK1082 0; have hcz37_1 := cz_ BK1082 1; have hcz37_2 := cz_ BK1082 2; have hcz37_3 := cz_ BK1082 3; have hcz37_4 := cz_ BK1082 4; have hfz37_0 := blk_frozen BK1082.out 0; have hfz37_1 := blk_frozen BK1082.out 1; have hfz37_2 := blk_frozen BK1082.out 2; have hfz37_3 := blk_frozen BK1082.out 3; have hfz37_4 := blk_frozen BK1082.out 4; have hcz38_0 := cz_ BK1083 0; have hcz38_1 := cz_ BK1083 1; have hcz38_2 := cz_ BK1083 2; have hcz38_3 := cz_ BK1083 3; have hcz38_4 := cz_ BK1083 4; have hfz38_0 := blk_frozen BK1083.out 0; have hfz38_1 := blk_frozen BK1083.out 1; have hfz38_2 := blk_frozen BK1083.out 2; have hfz38_3 := blk_frozen BK1083.out 3; have hfz38_4 := blk_frozen BK1083.out 4) | ((with_reducible refine gate_callee (f := 53) rfl ?_); refine gm_ (some 47) Try.func53 #[.agg #[.slice A0_0 l0_0.length c0_0, .slice A0_1 l0_1.length c0_1, .slice A0_2 l0_2.length c0_2, .int .i64 a0_3, .int .i64 a0_4], .agg #[.int .i64 a1_0, .int .i64 a1_1, .int .i64 a1_2, .int .i64 a1_3, .bool a1_4]] ?_; (with_reducible refine (table_Fits.calls kj5 _ _ l0_0 _ _ l0_1 _ _ l0_2 a0_3 a0_4 a1_0 a1_1 a1_2 a1_3 a1_4 t1093 _ ?side1 ?side2 ?side3 ?side4 ?side5 ?side6 A23.out).mono ?_); (case side1 => exact cb_ HR0_0 HB); (case side2 => exact HC0_0.out); (case side3 => exact cb_ HR0_1 HB); (case side4 => exact HC0_1.out); (case side5 => exact cb_ HR0_2 HB); (case side6 => exact HC0_2.out); rintro e w39 ⟨rfl, hb⟩; refine ⟨_, rfl, ?_⟩; replace HO1091 := A_ (Kd.R_below (ro_ HO1091) hb); replace BK1082 := A_ (blk_below (bx_ BK1082) hb); replace BK1083 := A_ (blk_below (bx_ BK1083) hb); replace BK1084 := A_ (blk_below (bx_ BK1084) hb); replace HB := A_ (below_step (bl3_ HB GE1082.out GE1083.out GE1084.out) hb); (try clear hb); (try clear hb2); (try clear hk); (try clear hi)))
      (try simp only [Act.put, List.setIfInBounds_toArray, List.set_cons_zero, List.set_cons_succ])
      go_cut [86] (fun v86 wc => ∃ (kq : Nat) (x86_24 : Bool), v86 = .bool x86_24 ∧ Aside0 (stipendlaw13_TaxRefuses.j1 kq t1087 t1088 t1089 t1092 x86_24 = some r) ∧ Aside0 (kq ≤ kj5) ∧ Aside0 (Kd.R (Kd.int .i64) 2 wc w.heap.size (fun _ => True) v1090 t1089) ∧ Aside0 (wc.heap[gb1082]? = some (.cells #[(.slice A0_0 l0_0.length c0_0), (.slice A0_1 l0_1.length c0_1), (.slice A0_2 l0_2.length c0_2), .int .i64 a0_3, .int .i64 a0_4] 56 (0, 0))) ∧ Aside0 (wc.heap[gb1083]? = some (.cells #[.int .i64 a1_0, .int .i64 a1_1, .int .i64 a1_2, .int .i64 a1_3, .bool a1_4] 88 (0, 0))) ∧ Aside0 (wc.heap[gb1084]? = some (.cells #[.int .i64 a2_0, .int .i64 a2_1, .int .i64 a2_2] 135 (0, 0))) ∧ Aside0 (Below w.heap.size w wc))
      case first =>
       have H := HC25.out
       clear HC25
       by_cases c40 : a2_1 < 0
       ·rw [if_pos c40] at H
        have c40b0 : decide (a2_1 < 0) = true := decide_eq_true c40
        clear c40
        (first | rw [c40b0] | (simp only [i64_w, i32_w]; rw [c40b0]) | skip)
        have H' := A_ H
        clear H
        have hnb41 := NB1084_1082.out
        have hnc41 := NB1082_1084.out
        have hnb42 := NB1084_1083.out
        have hnc42 := NB1083_1084.out
        have hcz43_0 := cz_ BK1084 0
        have hcz43_1 := cz_ BK1084 1
        have hcz43_2 := cz_ BK1084 2
        have hfz43_0 := blk_frozen BK1084.out 0
        have hfz43_1 := blk_frozen BK1084.out 1
        have hfz43_2 := blk_frozen BK1084.out 2
        go_wp2
        go_meet
        case rel => exact ⟨_, (true), (sx_), H', ⟨by have := HJ5.out; first | omega | exact Nat.le_refl _⟩, ⟨ro_ HO1091⟩, ⟨bx_ BK1082⟩, ⟨bx_ BK1083⟩, ⟨bx_ BK1084⟩, ⟨bl3_ HB GE1082.out GE1083.out GE1084.out⟩⟩
       ·rw [if_neg c40] at H
        have c40b0 : decide (a2_1 < 0) = false := decide_eq_false c40
        clear c40
        (first | rw [c40b0] | (simp only [i64_w, i32_w]; rw [c40b0]) | skip)
        by_cases c44 : a2_2 < 1
        ·rw [if_pos c44] at H
         have c44b0 : decide (a2_2 < 1) = true := decide_eq_true c44
         clear c44
         have H' := A_ H
         clear H
         have hnb45 := NB1084_1082.out
         have hnc45 := NB1082_1084.out
         have hnb46 := NB1084_1083.out
         have hnc46 := NB1083_1084.out
         have hcz47_0 := cz_ BK1084 0
         have hcz47_1 := cz_ BK1084 1
         have hcz47_2 := cz_ BK1084 2
         have hfz47_0 := blk_frozen BK1084.out 0
         have hfz47_1 := blk_frozen BK1084.out 1
         have hfz47_2 := blk_frozen BK1084.out 2
         go_wp2
         go_meet
         case rel => exact ⟨_, (true), (sx_), H', ⟨by have := HJ5.out; first | omega | exact Nat.le_refl _⟩, ⟨ro_ HO1091⟩, ⟨bx_ BK1082⟩, ⟨bx_ BK1083⟩, ⟨bx_ BK1084⟩, ⟨bl3_ HB GE1082.out GE1083.out GE1084.out⟩⟩
        ·rw [if_neg c44] at H
         have c44b0 : decide (a2_2 < 1) = false := decide_eq_false c44
         clear c44
         by_cases c48 : a2_1 > a2_2
         ·rw [if_pos c48] at H
          have c48b0 : decide (a2_2 < a2_1) = true := decide_eq_true c48
          clear c48
          have H' := A_ H
          clear H
          have hnb49 := NB1084_1082.out
          have hnc49 := NB1082_1084.out
          have hnb50 := NB1084_1083.out
          have hnc50 := NB1083_1084.out
          have hcz51_0 := cz_ BK1084 0
          have hcz51_1 := cz_ BK1084 1
          have hcz51_2 := cz_ BK1084 2
          have hfz51_0 := blk_frozen BK1084.out 0
          have hfz51_1 := blk_frozen BK1084.out 1
          have hfz51_2 := blk_frozen BK1084.out 2
          go_wp2
          go_meet
          case rel => exact ⟨_, (true), (sx_), H', ⟨by have := HJ5.out; first | omega | exact Nat.le_refl _⟩, ⟨ro_ HO1091⟩, ⟨bx_ BK1082⟩, ⟨bx_ BK1083⟩, ⟨bx_ BK1084⟩, ⟨bl3_ HB GE1082.out GE1083.out GE1084.out⟩⟩
         ·rw [if_neg c48] at H
          have c48b0 : decide (a2_2 < a2_1) = false := decide_eq_false c48
          clear c48
          have H' := A_ H
          clear H
          have hnb52 := NB1084_1082.out
          have hnc52 := NB1082_1084.out
          have hnb53 := NB1084_1083.out
          have hnc53 := NB1083_1084.out
          have hcz54_0 := cz_ BK1084 0
          have hcz54_1 := cz_ BK1084 1
          have hcz54_2 := cz_ BK1084 2
          have hfz54_0 := blk_frozen BK1084.out 0
          have hfz54_1 := blk_frozen BK1084.out 1
          have hfz54_2 := blk_frozen BK1084.out 2
          go_wp2
          go_meet
          case rel => exact ⟨_, (decide (a2_2 > 1048576)), (sx_), H', ⟨by have := HJ5.out; first | omega | exact Nat.le_refl _⟩, ⟨ro_ HO1091⟩, ⟨bx_ BK1082⟩, ⟨bx_ BK1083⟩, ⟨bx_ BK1084⟩, ⟨bl3_ HB GE1082.out GE1083.out GE1084.out⟩⟩
      case rest =>
       clear HC25
       try clear c1
       try clear c2
       try clear p2
       try clear c4
       try clear c5
       try clear c7
       try clear c8
       try clear c11
       try clear c11b0
       try clear c11b1
       try clear c12
       try clear c13
       try clear c16
       try clear c17
       try clear c19
       try clear c20
       try clear c24
       try clear c24b0
       try clear c24b1
       try clear c26
       try clear c27
       try clear c29
       try clear c40
       try clear c40b0
       try clear c41
       try clear c42
       try clear c44
       try clear c44b0
       try clear c45
       try clear c46
       try clear c48
       try clear c48b0
       try clear c49
       try clear c50
       try clear c52
       try clear c53
       try clear hcz14_0 hcz14_1 hcz14_2 hcz14_3 hcz14_4
       try clear hcz18_0 hcz18_1 hcz18_2 hcz18_3 hcz18_4
       try clear hcz28_0 hcz28_1 hcz28_2 hcz28_3 hcz28_4
       try clear hcz30_0 hcz30_1 hcz30_2 hcz30_3 hcz30_4
       try clear hcz31_0 hcz31_1 hcz31_2
       try clear hcz33_0 hcz33_1 hcz33_2 hcz33_3 hcz33_4
       try clear hcz34_0 hcz34_1 hcz34_2 hcz34_3 hcz34_4
       try clear hcz35_0 hcz35_1 hcz35_2
       try clear hcz37_0 hcz37_1 hcz37_2 hcz37_3 hcz37_4
       try clear hcz38_0 hcz38_1 hcz38_2 hcz38_3 hcz38_4
       try clear hcz43_0 hcz43_1 hcz43_2
       try clear hcz47_0 hcz47_1 hcz47_2
       try clear hcz51_0 hcz51_1 hcz51_2
       try clear hcz54_0 hcz54_1 hcz54_2
       try clear hfz14_0 hfz14_1 hfz14_2 hfz14_3 hfz14_4
       try clear hfz18_0 hfz18_1 hfz18_2 hfz18_3 hfz18_4
       try clear hfz28_0 hfz28_1 hfz28_2 hfz28_3 hfz28_4
       try clear hfz30_0 hfz30_1 hfz30_2 hfz30_3 hfz30_4
       try clear hfz31_0 hfz31_1 hfz31_2
       try clear hfz33_0 hfz33_1 hfz33_2 hfz33_3 hfz33_4
       try clear hfz34_0 hfz34_1 hfz34_2 hfz34_3 hfz34_4
       try clear hfz35_0 hfz35_1 hfz35_2
       try clear hfz37_0 hfz37_1 hfz37_2 hfz37_3 hfz37_4
       try clear hfz38_0 hfz38_1 hfz38_2 hfz38_3 hfz38_4
       try clear hfz43_0 hfz43_1 hfz43_2
       try clear hfz47_0 hfz47_1 hfz47_2
       try clear hfz51_0 hfz51_1 hfz51_2
       try clear hfz54_0 hfz54_1 hfz54_2
       try clear p2
       obtain ⟨kq, x86_24, rfl, HA, HJ24, HO_9, BK1082, BK1083, BK1084, HB⟩ := hcut
       cases kq with
       | zero => exact absurd HA.out (by simp [stipendlaw13_TaxRefuses.j1])
       | succ kj24 =>
        have H := HA.out
        clear HA
        simp only [stipendlaw13_TaxRefuses.j1] at H
        by_cases c55 : x86_24 = true
        ·subst c55
         have H1 : (if t1088 = 1 then (if t1092 = 1 then (if t1087 = 0 then (some ((t1089.length : Int) == 0)) else (none)) else (none)) else (none)) = some r := by rw [if_pos rfl] at H; exact H
         clear H
         have H := H1
         clear H1
         by_cases c56 : t1088 = 1
         ·rw [if_pos c56] at H
          have c56b0 : (t1088 == 1) = true := beq_iff_eq.mpr c56
          have c56b1 : (t1088 != 1) = false := bne_eq_false_iff_eq.mpr c56
          clear c56
          by_cases c57 : t1092 = 1
          ·rw [if_pos c57] at H
           have c57b0 : (t1092 == 1) = true := beq_iff_eq.mpr c57
           have c57b1 : (t1092 != 1) = false := bne_eq_false_iff_eq.mpr c57
           clear c57
           by_cases c58 : t1087 = 0
           ·rw [if_pos c58] at H
            have c58b0 : (t1087 == 0) = true := beq_iff_eq.mpr c58
            have c58b1 : (t1087 != 0) = false := bne_eq_false_iff_eq.mpr c58
            clear c58
            obtain rfl := Option.some.inj H
            obtain ⟨Ao59, co59, eo59⟩ := Kd.R_slice HO_9.out
            subst eo59
            go_wp2
            go_ret
            exact ⟨er_, bl3_ HB GE1082.out GE1083.out GE1084.out⟩
           ·rw [if_neg c58] at H
            exact absurd H (by simp)
          ·rw [if_neg c57] at H
           exact absurd H (by simp)
         ·rw [if_neg c56] at H
          exact absurd H (by simp)
        ·replace c55 := Bool.eq_false_iff.mpr c55
         subst c55
         have H1 : (some (t1092 == 0)) = some r := by rw [if_neg (show ¬ (false = true) by decide)] at H; exact H
         clear H
         have H := H1
         clear H1
         obtain rfl := Option.some.inj H
         go_wp2
         go_ret
         exact ⟨er_, bl3_ HB GE1082.out GE1083.out GE1084.out⟩
     ·rw [if_neg c24] at H
      have c24b0 : (t1093 == 0) = false := beq_eq_false_iff_ne.mpr c24
      have c24b1 : (t1093 != 0) = true := bne_iff_ne.mpr c24
      by_cases c60 : t1088 = t1093
      ·rw [if_pos c60] at H
       have c60b0 : (t1088 == t1093) = true := beq_iff_eq.mpr c60
       have c60b1 : (t1088 != t1093) = false := bne_eq_false_iff_eq.mpr c60
       clear c60
       by_cases c61 : t1092 = t1093
       ·rw [if_pos c61] at H
        have c61b0 : (t1092 == t1093) = true := beq_iff_eq.mpr c61
        have c61b1 : (t1092 != t1093) = false := bne_eq_false_iff_eq.mpr c61
        clear c61
        by_cases c62 : t1087 = 0
        ·rw [if_pos c62] at H
         have c62b0 : (t1087 == 0) = true := beq_iff_eq.mpr c62
         have c62b1 : (t1087 != 0) = false := bne_eq_false_iff_eq.mpr c62
         clear c62
         obtain rfl := Option.some.inj H
         have hnb63 := NB1082_1083.out
         have hnc63 := NB1083_1082.out
         have hnb64 := NB1082_1084.out
         have hnc64 := NB1084_1082.out
         have hcz65_0 := cz_ BK1082 0
         have hcz65_1 := cz_ BK1082 1
         have hcz65_2 := cz_ BK1082 2
         have hcz65_3 := cz_ BK1082 3
         have hcz65_4 := cz_ BK1082 4
         have hfz65_0 := blk_frozen BK1082.out 0
         have hfz65_1 := blk_frozen BK1082.out 1
         have hfz65_2 := blk_frozen BK1082.out 2
         have hfz65_3 := blk_frozen BK1082.out 3
         have hfz65_4 := blk_frozen BK1082.out 4
         have hnb66 := NB1083_1084.out
         have hnc66 := NB1084_1083.out
         have hcz67_0 := cz_ BK1083 0
         have hcz67_1 := cz_ BK1083 1
         have hcz67_2 := cz_ BK1083 2
         have hcz67_3 := cz_ BK1083 3
         have hcz67_4 := cz_ BK1083 4
         have hfz67_0 := blk_frozen BK1083.out 0
         have hfz67_1 := blk_frozen BK1083.out 1
         have hfz67_2 := blk_frozen BK1083.out 2
         have hfz67_3 := blk_frozen BK1083.out 3
         have hfz67_4 := blk_frozen BK1083.out 4
         have hcz68_0 := cz_ BK1084 0
         have hcz68_1 := cz_ BK1084 1
         have hcz68_2 := cz_ BK1084 2
         have hfz68_0 := blk_frozen BK1084.out 0
         have hfz68_1 := blk_frozen BK1084.out 1
         have hfz68_2 := blk_frozen BK1084.out 2
         go_wp2_with (first | ((with_reducible refine gate_callee (f := 79) rfl ?_); refine gm_ (some 32) Try.func79 #[.agg #[.slice A0_0 l0_0.length c0_0, .slice A0_1 l0_1.length c0_1, .slice A0_2 l0_2.length c0_2, .int .i64 a0_3, .int .i64 a0_4], .agg #[.int .i64 a1_0, .int .i64 a1_1, .int .i64 a1_2, .int .i64 a1_3, .bool a1_4], .int .i64 a2_0, .int .i64 a2_1, .int .i64 a2_2] ?_; (with_reducible refine (tax_Exact.calls kj5 _ _ l0_0 _ _ l0_1 _ _ l0_2 a0_3 a0_4 a1_0 a1_1 a1_2 a1_3 a1_4 a2_0 a2_1 a2_2 t1087 t1088 _ ?side1 ?side2 ?side3 ?side4 ?side5 ?side6 A21.out).mono ?_); (case side1 => exact cb_ HR0_0 HB); (case side2 => exact HC0_0.out); (case side3 => exact cb_ HR0_1 HB); (case side4 => exact HC0_1.out); (case side5 => exact cb_ HR0_2 HB); (case side6 => exact HC0_2.out); rintro e w69 ⟨rfl, hb⟩; refine ⟨_, rfl, ?_⟩; replace BK1082 := A_ (blk_below (bx_ BK1082) hb); replace BK1083 := A_ (blk_below (bx_ BK1083) hb); replace BK1084 := A_ (blk_below (bx_ BK1084) hb); replace HB := A_ (below_step (bl3_ HB GE1082.out GE1083.out GE1084.out) hb); (try clear hb); (try clear hb2); (try clear hk); (try clear hi); have hcz70_0 := cz_ BK1082 0; have hcz70_1 := cz_ BK1082 1; have hcz70_2 := cz_ BK1082 2; have hcz70_3 := cz_ BK1082 3; have hcz70_4 := cz_ BK1082 4; have hfz70_0 := blk_frozen BK1082.out 0; have hfz70_1 := blk_frozen BK1082.out 1; have hfz70_2 := blk_frozen BK1082.out 2; have hfz70_3 := blk_frozen BK1082.out 3; have hfz70_4 := blk_frozen BK1082.out 4; have hcz71_0 := cz_ BK1083 0; have hcz71_1 := cz_ BK1083 1; have hcz71_2 := cz_ BK1083 2; have hcz71_3 := cz_ BK1083 3; have hcz71_4 := cz_ BK1083 4; have hfz71_0 := blk_frozen BK1083.out 0; have hfz71_1 := blk_frozen BK1083.out 1; have hfz71_2 := blk_frozen BK1083.out 2; have hfz71_3 := blk_frozen BK1083.out 3; have hfz71_4 := blk_frozen BK1083.out 4; have hcz72_0 := cz_ BK1084 0; have hcz72_1 := cz_ BK1084 1; have hcz72_2 := cz_ BK1084 2; have hfz72_0 := blk_frozen BK1084.out 0; have hfz72_1 := blk_frozen BK1084.out 1; have hfz72_2 := blk_frozen BK1084.out 2) | ((with_reducible refine gate_callee (f := 84) rfl ?_); refine gm_ (some 42) Try.func84 #[.agg #[.slice A0_0 l0_0.length c0_0, .slice A0_1 l0_1.length c0_1, .slice A0_2 l0_2.length c0_2, .int .i64 a0_3, .int .i64 a0_4], .agg #[.int .i64 a1_0, .int .i64 a1_1, .int .i64 a1_2, .int .i64 a1_3, .bool a1_4], .int .i64 a2_1, .int .i64 a2_2] ?_; (with_reducible refine (tax_Corners.calls kj5 _ _ l0_0 _ _ l0_1 _ _ l0_2 a0_3 a0_4 a1_0 a1_1 a1_2 a1_3 a1_4 a2_1 a2_2 t1089 t1092 _ ?side1 ?side2 ?side3 ?side4 ?side5 ?side6 A22.out).mono ?_); (case side1 => exact cb_ HR0_0 HB); (case side2 => exact HC0_0.out); (case side3 => exact cb_ HR0_1 HB); (case side4 => exact HC0_1.out); (case side5 => exact cb_ HR0_2 HB); (case side6 => exact HC0_2.out); rintro e w73 ⟨v1090, rfl, ho0, hb⟩; refine ⟨_, rfl, ?_⟩; have HO1091 := A_ (Kd.R_lower ho0 (below_size (bl3_ HB GE1082.out GE1083.out GE1084.out))); replace BK1082 := A_ (blk_below (bx_ BK1082) hb); replace BK1083 := A_ (blk_below (bx_ BK1083) hb); replace BK1084 := A_ (blk_below (bx_ BK1084) hb); replace HB := A_ (below_step (bl3_ HB GE1082.out GE1083.out GE1084.out) hb); (try clear hb); (try clear hb2); (try clear hk); (try clear hi); (try clear ho0); have hcz74_0 := cz_ BK1082 0; have hcz74_1 := cz_ BK1082 1; have hcz74_2 := cz_ BK1082 2; have hcz74_3 := cz_ BK1082 3; have hcz74_4 := cz_ BK1082 4; have hfz74_0 := blk_frozen BK1082.out 0; have hfz74_1 := blk_frozen BK1082.out 1; have hfz74_2 := blk_frozen BK1082.out 2; have hfz74_3 := blk_frozen BK1082.out 3; have hfz74_4 := blk_frozen BK1082.out 4; have hcz75_0 := cz_ BK1083 0; have hcz75_1 := cz_ BK1083 1; have hcz75_2 := cz_ BK1083 2; have hcz75_3 := cz_ BK1083 3; have hcz75_4 := cz_ BK1083 4; have hfz75_0 := blk_frozen BK1083.out 0; have hfz75_1 := blk_frozen BK1083.out 1; have hfz75_2 := blk_frozen BK1083.out 2; have hfz75_3 := blk_frozen BK1083.out 3; have hfz75_4 := blk_frozen BK1083.out 4) | ((with_reducible refine gate_callee (f := 53) rfl ?_); refine gm_ (some 47) Try.func53 #[.agg #[.slice A0_0 l0_0.length c0_0, .slice A0_1 l0_1.length c0_1, .slice A0_2 l0_2.length c0_2, .int .i64 a0_3, .int .i64 a0_4], .agg #[.int .i64 a1_0, .int .i64 a1_1, .int .i64 a1_2, .int .i64 a1_3, .bool a1_4]] ?_; (with_reducible refine (table_Fits.calls kj5 _ _ l0_0 _ _ l0_1 _ _ l0_2 a0_3 a0_4 a1_0 a1_1 a1_2 a1_3 a1_4 t1093 _ ?side1 ?side2 ?side3 ?side4 ?side5 ?side6 A23.out).mono ?_); (case side1 => exact cb_ HR0_0 HB); (case side2 => exact HC0_0.out); (case side3 => exact cb_ HR0_1 HB); (case side4 => exact HC0_1.out); (case side5 => exact cb_ HR0_2 HB); (case side6 => exact HC0_2.out); rintro e w76 ⟨rfl, hb⟩; refine ⟨_, rfl, ?_⟩; replace HO1091 := A_ (Kd.R_below (ro_ HO1091) hb); replace BK1082 := A_ (blk_below (bx_ BK1082) hb); replace BK1083 := A_ (blk_below (bx_ BK1083) hb); replace BK1084 := A_ (blk_below (bx_ BK1084) hb); replace HB := A_ (below_step (bl3_ HB GE1082.out GE1083.out GE1084.out) hb); (try clear hb); (try clear hb2); (try clear hk); (try clear hi); obtain ⟨Ao77, co77, eo77⟩ := Kd.R_slice HO1091.out; subst eo77))
         go_ret
         exact ⟨er_, bl3_ HB GE1082.out GE1083.out GE1084.out⟩
        ·rw [if_neg c62] at H
         exact absurd H (by simp)
       ·rw [if_neg c61] at H
        exact absurd H (by simp)
      ·rw [if_neg c60] at H
       exact absurd H (by simp)
 ·replace c5 := Bool.eq_false_iff.mpr c5
  subst c5
  have H1 : (none) = some r := by rw [if_neg (show ¬ (false = true) by decide)] at H; exact H
  clear H
  have H := H1
  clear H1
  exact absurd H (by simp)
end Go.Proofs.Ytcapgmoipacioaa.P
