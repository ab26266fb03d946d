import Derived.Test.YtcapgmoipacioaaPtZg
import Derived.Test.YtcapgmoipacioaaHcheckZg
import Derived.Test.YtcapgmoipacioaaHhasZg
import Derived.Test.YtcapgmoipacioaaPpfracZg
import Derived.Test.YtcapgmoipacioaaPpmoneyZg
import Derived.Test.YtcapgmoipacioaaPpwordZg
import Derived.Test.YtcapgmoipacioaaY1Zg
namespace Go.Proofs.Ytcapgmoipacioaa.P
open Go.RowKit Go.Proofs.YtcapgmoipacioaaW.PrintWords Go.Proofs.YtcapgmoipacioaaW.PrintLast Go.Proofs.YtcapgmoipacioaaW.PrintMore
set_option linter.unusedVariables false
set_option linter.unusedSimpArgs false
mutual
def table_schemes.j0 : Nat → Bool → List (List (S106)) → List (S120) → List (S209) → Int → Int → Option (Int)
 | 0, _, _, _, _, _, _ => none
 | k + 1, x17, x264000, x264001, x264002, x264003, x264004 => if x17 = true then (some 2) else (table_schemes.l0 k x264000 (x264000.length : Int) 0)
def table_schemes.l0 : Nat → List (List (S106)) → Int → Int → Option (Int)
 | 0, _, _, _ => none
 | k + 1, x19, x20, x21 => if x21 < x20 then (if 0 ≤ x21 then (if x21 < (x19.length : Int) then ((band_Check.f (rd_L3 x19 x21)).bind fun t265 => (if t265 = 0 then (table_schemes.l1 k x19 x20 x21 (rd_L3 x19 x21) ((rd_L3 x19 x21).length : Int) 0) else (some t265))) else (none)) else (none)) else (some 0)
def table_schemes.l1 : Nat → List (List (S106)) → Int → Int → List (S106) → Int → Int → Option (Int)
 | 0, _, _, _, _, _, _ => none
 | k + 1, x19, x20, x21, x30, x31, x32 => if x32 < x31 then (if 0 ≤ x32 then (if x32 < (x30.length : Int) then (if ((rd_T106 x30 x32).f2) = 0 then (table_schemes.l1 k x19 x20 x21 x30 x31 (wrap64 (x32 + 1))) else (some 50)) else (none)) else (none)) else (table_schemes.l0 k x19 x20 (wrap64 (x21 + 1)))
end
def table_schemes.f (k : Nat) (l0_0 : List (List (S106))) (l0_1 : List (S120)) (l0_2 : List (S209)) (a0_3 : Int) (a0_4 : Int) : Option (Int) := if (l0_0.length : Int) = 0 then (table_schemes.j0 k true l0_0 l0_1 l0_2 a0_3 a0_4) else (table_schemes.j0 k (decide ((l0_0.length : Int) > 8)) l0_0 l0_1 l0_2 a0_3 a0_4)
set_option maxHeartbeats 8000000 in
set_option maxRecDepth 100000 in
theorem table_schemes.calls (k : Nat) (A0_0 : Option Addr) (c0_0 : Nat) (l0_0 : List (List (S106))) (A0_1 : Option Addr) (c0_1 : Nat) (l0_1 : List (S120)) (A0_2 : Option Addr) (c0_2 : Nat) (l0_2 : List (S209)) (a0_3 : Int) (a0_4 : Int) (r : Int) (w : World) (hr0_0 : Kd.C (Kd.slice 106 k106) w A0_0 l0_0.length l0_0) (hc0_0 : l0_0.length ≤ c0_0) (hr0_1 : Kd.C k120 w A0_1 l0_1.length l0_1) (hc0_1 : l0_1.length ≤ c0_1) (hr0_2 : Kd.C k209 w A0_2 l0_2.length l0_2) (hc0_2 : l0_2.length ≤ c0_2) (h : table_schemes.f k l0_0 l0_1 l0_2 a0_3 a0_4 = some r) :
  Calls Try.prog 105 #[.agg #[.slice A0_0 l0_0.length c0_0, .slice A0_1 l0_1.length c0_1, .slice A0_2 l0_2.length c0_2, .int .i64 a0_3, .int .i64 a0_4]] w fun e w' => e = .returned (.int .i64 r) ∧ Below w.heap.size w w' := by
 have hu56 := Try.underlying56; have hu106 := Try.underlying106; have HR0_0 := A_ hr0_0; have HC0_0 := A_ hc0_0; clear hr0_0 hc0_0; have HR0_1 := A_ hr0_1; have HC0_1 := A_ hc0_1; clear hr0_1 hc0_1; have HR0_2 := A_ hr0_2; have HC0_2 := A_ hc0_2; clear hr0_2 hc0_2; have HB := A_ (Below.refl w.heap.size w); unfold table_schemes.f at h; have H := h; clear h; have HC2 := A_ H; clear H; go_enter Try.func105, Try.ntmps105
 go_upto_region 1 with (first | ((with_reducible refine gate_dst (N := 1) rfl ?_); refine be_ (N := 1) (cs := #[.slice A0_0 l0_0.length c0_0, .slice A0_1 l0_1.length c0_1, .slice A0_2 l0_2.length c0_2, .int .i64 a0_3, .int .i64 a0_4]) (t := 56) ?_; intro gb263 hg w3 hbox hb; have BK263 := A_ (hbox); have GW263 := A_ ((by rw [hg]; exact (below_size (bl_ HB)) : w.heap.size ≤ gb263)); have GE263 := A_ ((by rw [hg]; exact (below_size (bl_ HB)) : w.heap.size ≤ gb263)); replace HB := A_ (below_step (bl_ HB) hb); clear hb hbox hg))
 (try simp only [Act.put, List.setIfInBounds_toArray, List.set_cons_zero, List.set_cons_succ])
 go_cut [17] (fun v17 wc => ∃ (kq : Nat) (x17_1 : Bool), v17 = .bool x17_1 ∧ Aside0 (table_schemes.j0 kq x17_1 l0_0 l0_1 l0_2 a0_3 a0_4 = some r) ∧ Aside0 (kq ≤ k) ∧ Aside0 (wc.heap[gb263]? = some (.cells #[(.slice A0_0 l0_0.length c0_0), (.slice A0_1 l0_1.length c0_1), (.slice A0_2 l0_2.length c0_2), .int .i64 a0_3, .int .i64 a0_4] 56 (0, 0))) ∧ Aside0 (Below w.heap.size w wc))
 case first =>
  have H := HC2.out; clear HC2; by_cases c4 : (l0_0.length : Int) = 0
  ·rw [if_pos c4] at H; have c4b0 : ((l0_0.length : Int) == 0) = true := beq_iff_eq.mpr c4; have c4b1 : ((l0_0.length : Int) != 0) = false := bne_eq_false_iff_eq.mpr c4; clear c4
   (first | rw [c4b0] | (simp only [i64_w, i32_w]; rw [c4b0]) | skip)
   have H' := A_ H; clear H; have hcz5_0 := cz_ BK263 0; have hcz5_1 := cz_ BK263 1; have hcz5_2 := cz_ BK263 2; have hcz5_3 := cz_ BK263 3; have hcz5_4 := cz_ BK263 4; have hfz5_0 := fz_ BK263 0; have hfz5_1 := fz_ BK263 1; have hfz5_2 := fz_ BK263 2; have hfz5_3 := fz_ BK263 3; have hfz5_4 := fz_ BK263 4
   go_wp2
   go_meet
   case rel => exact ⟨_, (true), (sx_), H', ⟨by first | omega | exact Nat.le_refl _⟩, ⟨bx_ BK263⟩, ⟨bl1_ HB GE263.out⟩⟩
  ·rw [if_neg c4] at H; have c4b0 : ((l0_0.length : Int) == 0) = false := beq_eq_false_iff_ne.mpr c4; have c4b1 : ((l0_0.length : Int) != 0) = true := bne_iff_ne.mpr c4; have c4b2 : ¬ (l0_0 = []) := fun h_ => c4 (by rw [h_]; rfl)
   (first | rw [c4b0] | (simp only [i64_w, i32_w]; rw [c4b0]) | skip)
   have H' := A_ H; clear H; have hcz6_0 := cz_ BK263 0; have hcz6_1 := cz_ BK263 1; have hcz6_2 := cz_ BK263 2; have hcz6_3 := cz_ BK263 3; have hcz6_4 := cz_ BK263 4; have hfz6_0 := fz_ BK263 0; have hfz6_1 := fz_ BK263 1; have hfz6_2 := fz_ BK263 2; have hfz6_3 := fz_ BK263 3; have hfz6_4 := fz_ BK263 4
   go_wp2
   go_meet
   case rel => exact ⟨_, (decide ((l0_0.length : Int) > 8)), (sx_), H', ⟨by first | omega | exact Nat.le_refl _⟩, ⟨bx_ BK263⟩, ⟨bl1_ HB GE263.out⟩⟩
 case rest =>
  clear HC2; try clear c1
  try clear p2
  try clear c4
  try clear c4b0
  try clear c4b1
  try clear c4b2
  try clear hcz5_0 hcz5_1 hcz5_2 hcz5_3 hcz5_4
  try clear hcz6_0 hcz6_1 hcz6_2 hcz6_3 hcz6_4
  try clear hfz5_0 hfz5_1 hfz5_2 hfz5_3 hfz5_4
  try clear hfz6_0 hfz6_1 hfz6_2 hfz6_3 hfz6_4
  obtain ⟨kq, x17_1, rfl, HA, HJ1, BK263, HB⟩ := hcut
  cases kq with
  | zero => exact absurd HA.out (by simp [table_schemes.j0])
  | succ kj1 =>
   have H := HA.out; clear HA; simp only [table_schemes.j0] at H; by_cases c7 : x17_1 = true
   ·subst c7; rw [if_pos rfl] at H; obtain rfl := Option.some.inj H
    go_wp2
    go_ret
    exact ⟨er_, bl1_ HB GE263.out⟩
   ·replace c7 := Bool.eq_false_iff.mpr c7; subst c7; rw [if_neg (show ¬ (false = true) by decide)] at H; have H' := A_ H; clear H; have hcz8_0 := cz_ BK263 0; have hcz8_1 := cz_ BK263 1; have hcz8_2 := cz_ BK263 2; have hcz8_3 := cz_ BK263 3; have hcz8_4 := cz_ BK263 4; have hfz8_0 := fz_ BK263 0; have hfz8_1 := fz_ BK263 1; have hfz8_2 := fz_ BK263 2; have hfz8_3 := fz_ BK263 3; have hfz8_4 := fz_ BK263 4
    go_wp2
    go_loopg [21] kj1 (fun kq v21 w' => ∃ (x21_2 : Int), v21 = .int .i64 x21_2 ∧ Aside0 (table_schemes.l0 kq l0_0 (l0_0.length : Int) x21_2 = some r) ∧ Aside0 (kq ≤ kj1) ∧ Aside0 (w'.heap[gb263]? = some (.cells #[(.slice A0_0 l0_0.length c0_0), (.slice A0_1 l0_1.length c0_1), (.slice A0_2 l0_2.length c0_2), .int .i64 a0_3, .int .i64 a0_4] 56 (0, 0))) ∧ Aside0 (Below w.heap.size w w'))
    case atStart => exact ⟨(0), (sx_), H', ⟨Nat.le_refl _⟩, ⟨bx_ BK263⟩, ⟨bl1_ HB GE263.out⟩⟩
    case round =>
     clear H'; try clear c1
     try clear p2
     try clear c4
     try clear c4b0
     try clear c4b1
     try clear c4b2
     try clear c7
     try clear hcz5_0 hcz5_1 hcz5_2 hcz5_3 hcz5_4
     try clear hcz6_0 hcz6_1 hcz6_2 hcz6_3 hcz6_4
     try clear hcz8_0 hcz8_1 hcz8_2 hcz8_3 hcz8_4
     try clear hfz5_0 hfz5_1 hfz5_2 hfz5_3 hfz5_4
     try clear hfz6_0 hfz6_1 hfz6_2 hfz6_3 hfz6_4
     try clear hfz8_0 hfz8_1 hfz8_2 hfz8_3 hfz8_4
     try clear p2
     obtain ⟨x21_2, rfl, HA, HK2, BK263, HB⟩ := hrel
     cases gk with
     | zero => exact absurd HA.out (by simp [table_schemes.l0])
     | succ k2 =>
      have H := HA.out; clear HA; simp only [table_schemes.l0] at H; by_cases c9 : x21_2 < (l0_0.length : Int)
      ·rw [if_pos c9] at H; have c9b0 := decide_eq_true c9; clear c9; by_cases c10 : 0 ≤ x21_2
       ·rw [if_pos c10] at H; have c10b0 := decide_eq_true c10; clear c10; by_cases c11 : x21_2 < (l0_0.length : Int)
        ·rw [if_pos c11] at H; have c11b0 := decide_eq_true c11; clear c11; replace H := Option.bind_eq_some_iff.mp H; obtain ⟨t265, A120, H⟩ := H; (try dsimp only at H); have A12 := A_ A120; clear A120; by_cases c13 : t265 = 0
         ·rw [if_pos c13] at H; have c13b0 : (t265 == 0) = true := beq_iff_eq.mpr c13; have c13b1 : (t265 != 0) = false := bne_eq_false_iff_eq.mpr c13; clear c13; have H' := A_ H; clear H; have p264 : 0 ≤ (x21_2 : Int) := od_; have q264 : x21_2 < (l0_0.length : Int) := od_; obtain ⟨ad264, A264_0, c264_0, e264, hx264_0, hl264_0, hi264_0⟩ := at_L3 HR0_0.out x21_2 p264 q264; cases e264; replace hx264_0 := (HB.out.cell (World.block_lt_of_cell? w _ hx264_0)).trans hx264_0; have HR264_0 := A_ hi264_0; have HC264_0 := A_ hl264_0; clear hi264_0 hl264_0; replace p264 := eq_true p264; replace q264 := eq_true q264; go_wp2_with (first | ((with_reducible refine gate_callee (f := 36) rfl ?_); refine gm_ (some 26) Try.func36 #[.slice A264_0 (rd_L3 l0_0 x21_2).length c264_0] ?_; (with_reducible refine (band_Check.calls _ _ (rd_L3 l0_0 x21_2) t265 _ ?side1 ?side2 A12.out).mono ?_); (case side1 => exact cb_ HR264_0 HB); (case side2 => exact HC264_0.out); rintro e w14 ⟨rfl, hb⟩; refine ⟨_, rfl, ?_⟩; replace BK263 := A_ (blk_below (bx_ BK263) hb); replace HB := A_ (below_step (bl1_ HB GE263.out) hb); (try clear hb); (try clear hb2); (try clear hk); (try clear hi)))
          go_loopg [32] k2 (fun kq v32 w' => ∃ (x32_3 : Int), v32 = .int .i64 x32_3 ∧ Aside0 (table_schemes.l1 kq l0_0 (l0_0.length : Int) x21_2 (rd_L3 l0_0 x21_2) ((rd_L3 l0_0 x21_2).length : Int) x32_3 = some r) ∧ Aside0 (kq ≤ k2) ∧ Aside0 (w'.heap[gb263]? = some (.cells #[(.slice (some ad264) l0_0.length c0_0), (.slice A0_1 l0_1.length c0_1), (.slice A0_2 l0_2.length c0_2), .int .i64 a0_3, .int .i64 a0_4] 56 (0, 0))) ∧ Aside0 (Below w.heap.size w w'))
          case atStart => exact ⟨(0), (sx_), H', ⟨Nat.le_refl _⟩, ⟨bx_ BK263⟩, ⟨bl1_ HB GE263.out⟩⟩
          case round =>
           clear H'; try clear c1
           try clear c2
           try clear p2
           try clear q2
           try clear hx2
           try clear c3
           try clear c4
           try clear c4b0
           try clear c4b1
           try clear c4b2
           try clear c7
           try clear c9
           try clear c9b0
           try clear c10
           try clear c10b0
           try clear c11
           try clear c11b0
           try clear c13
           try clear c13b0
           try clear c13b1
           try clear hcz5_0 hcz5_1 hcz5_2 hcz5_3 hcz5_4
           try clear hcz6_0 hcz6_1 hcz6_2 hcz6_3 hcz6_4
           try clear hcz8_0 hcz8_1 hcz8_2 hcz8_3 hcz8_4
           try clear hfz5_0 hfz5_1 hfz5_2 hfz5_3 hfz5_4
           try clear hfz6_0 hfz6_1 hfz6_2 hfz6_3 hfz6_4
           try clear hfz8_0 hfz8_1 hfz8_2 hfz8_3 hfz8_4
           try clear hx264_0
           try clear p2
           try clear p264
           try clear q264
           obtain ⟨x32_3, rfl, HA, HK3, BK263, HB⟩ := hrel
           cases gk with
           | zero => exact absurd HA.out (by simp [table_schemes.l1])
           | succ k3 =>
            have H := HA.out; clear HA; simp only [table_schemes.l1] at H; by_cases c15 : x32_3 < ((rd_L3 l0_0 x21_2).length : Int)
            ·rw [if_pos c15] at H; have c15b0 := decide_eq_true c15; clear c15; by_cases c16 : 0 ≤ x32_3
             ·rw [if_pos c16] at H; have c16b0 := decide_eq_true c16; clear c16; by_cases c17 : x32_3 < ((rd_L3 l0_0 x21_2).length : Int)
              ·rw [if_pos c17] at H; have c17b0 := decide_eq_true c17; clear c17; by_cases c18 : ((rd_T106 (rd_L3 l0_0 x21_2) x32_3).f2) = 0
               ·rw [if_pos c18] at H; have c18b0 : (((rd_T106 (rd_L3 l0_0 x21_2) x32_3).f2) == 0) = true := beq_iff_eq.mpr c18; have c18b1 : (((rd_T106 (rd_L3 l0_0 x21_2) x32_3).f2) != 0) = false := bne_eq_false_iff_eq.mpr c18; clear c18; have H' := A_ H; clear H; have p266 : 0 ≤ (x32_3 : Int) := od_; have q266 : x32_3 < ((rd_L3 l0_0 x21_2).length : Int) := od_; obtain ⟨ad266, e266, hx266_0, hx266_1, hx266_2⟩ := at_T106 HR264_0.out x32_3 p266 q266; cases e266; replace hx266_0 := (HB.out.cell (World.block_lt_of_cell? w _ hx266_0)).trans hx266_0; replace hx266_1 := (HB.out.cell (World.block_lt_of_cell? w _ hx266_1)).trans hx266_1; replace hx266_2 := (HB.out.cell (World.block_lt_of_cell? w _ hx266_2)).trans hx266_2; replace p266 := eq_true p266; replace q266 := eq_true q266; go_wp2_with (first | ((with_reducible refine gate_dst (N := 7) rfl ?_); refine be_ (N := 7) (cs := #[.int .i64 0, .int .i64 0, .int .i64 0]) (t := 106) ?_; intro gb267 hg w19 hbox hb; have BK267 := A_ (hbox); have GW267 := A_ ((by rw [hg]; exact (below_size (bl1_ HB GE263.out)) : w.heap.size ≤ gb267)); have GE267 := A_ ((by rw [hg]; exact (below_size (bl1_ HB GE263.out)) : w.heap.size ≤ gb267)); have NB263_267 := A_ ((by rw [hg]; exact Nat.ne_of_lt (blk_lt (bx_ BK263)) : gb263 ≠ gb267)); have NB267_263 := A_ ((by rw [hg]; exact Nat.ne_of_gt (blk_lt (bx_ BK263)) : gb267 ≠ gb263)); replace BK263 := A_ (blk_below (bx_ BK263) hb); replace HB := A_ (below_step (bl1_ HB GE263.out) hb); clear hb hbox hg; have hnb20 := NB267_263.out; have hnc20 := NB263_267.out; have hcz21_0 := cz_ BK267 0; have hcz21_1 := cz_ BK267 1; have hcz21_2 := cz_ BK267 2; have hfz21_0 := fz_ BK267 0; have hfz21_1 := fz_ BK267 1; have hfz21_2 := fz_ BK267 2))
                go_roundg k3
                case measure => have := HJ1.out; have := HK2.out; have := HK3.out; omega
                case rel => exact ⟨(wrap64 (x32_3 + 1)), (sx_), H', ⟨by have := HJ1.out; have := HK2.out; have := HK3.out; omega⟩, ⟨by refine bw_ ?_; refine blk_far ?_ NB263_267.out _; refine bw_ ?_; refine blk_far ?_ NB263_267.out _; refine bw_ ?_; refine blk_far ?_ NB263_267.out _; refine bw_ ?_; exact BK263.out⟩, ⟨bl2_ HB GE263.out GE267.out⟩⟩
               ·rw [if_neg c18] at H; have c18b0 : (((rd_T106 (rd_L3 l0_0 x21_2) x32_3).f2) == 0) = false := beq_eq_false_iff_ne.mpr c18; have c18b1 : (((rd_T106 (rd_L3 l0_0 x21_2) x32_3).f2) != 0) = true := bne_iff_ne.mpr c18; obtain rfl := Option.some.inj H; have p266 : 0 ≤ (x32_3 : Int) := od_; have q266 : x32_3 < ((rd_L3 l0_0 x21_2).length : Int) := od_; obtain ⟨ad266, e266, hx266_0, hx266_1, hx266_2⟩ := at_T106 HR264_0.out x32_3 p266 q266; cases e266; replace hx266_0 := (HB.out.cell (World.block_lt_of_cell? w _ hx266_0)).trans hx266_0; replace hx266_1 := (HB.out.cell (World.block_lt_of_cell? w _ hx266_1)).trans hx266_1; replace hx266_2 := (HB.out.cell (World.block_lt_of_cell? w _ hx266_2)).trans hx266_2; replace p266 := eq_true p266; replace q266 := eq_true q266; go_wp2_with (first | ((with_reducible refine gate_dst (N := 7) rfl ?_); refine be_ (N := 7) (cs := #[.int .i64 0, .int .i64 0, .int .i64 0]) (t := 106) ?_; intro gb267 hg w22 hbox hb; have BK267 := A_ (hbox); have GW267 := A_ ((by rw [hg]; exact (below_size (bl1_ HB GE263.out)) : w.heap.size ≤ gb267)); have GE267 := A_ ((by rw [hg]; exact (below_size (bl1_ HB GE263.out)) : w.heap.size ≤ gb267)); have NB263_267 := A_ ((by rw [hg]; exact Nat.ne_of_lt (blk_lt (bx_ BK263)) : gb263 ≠ gb267)); have NB267_263 := A_ ((by rw [hg]; exact Nat.ne_of_gt (blk_lt (bx_ BK263)) : gb267 ≠ gb263)); replace BK263 := A_ (blk_below (bx_ BK263) hb); replace HB := A_ (below_step (bl1_ HB GE263.out) hb); clear hb hbox hg; have hnb23 := NB267_263.out; have hnc23 := NB263_267.out; have hcz24_0 := cz_ BK267 0; have hcz24_1 := cz_ BK267 1; have hcz24_2 := cz_ BK267 2; have hfz24_0 := fz_ BK267 0; have hfz24_1 := fz_ BK267 1; have hfz24_2 := fz_ BK267 2))
                go_ret
                exact ⟨er_, bl2_ HB GE263.out GE267.out⟩
              ·rw [if_neg c17] at H; exact absurd H (by simp)
             ·rw [if_neg c16] at H; exact absurd H (by simp)
            ·rw [if_neg c15] at H; have c15b0 := decide_eq_false c15; clear c15; have H' := A_ H; clear H
             go_wp2
             go_roundg k3
             case measure => have := HJ1.out; have := HK2.out; have := HK3.out; omega
             case rel => exact ⟨(wrap64 (x21_2 + 1)), (sx_), H', ⟨by have := HJ1.out; have := HK2.out; have := HK3.out; omega⟩, ⟨bx_ BK263⟩, ⟨bl1_ HB GE263.out⟩⟩
         ·rw [if_neg c13] at H; have c13b0 : (t265 == 0) = false := beq_eq_false_iff_ne.mpr c13; have c13b1 : (t265 != 0) = true := bne_iff_ne.mpr c13; obtain rfl := Option.some.inj H; have p264 : 0 ≤ (x21_2 : Int) := od_; have q264 : x21_2 < (l0_0.length : Int) := od_; obtain ⟨ad264, A264_0, c264_0, e264, hx264_0, hl264_0, hi264_0⟩ := at_L3 HR0_0.out x21_2 p264 q264; cases e264; replace hx264_0 := (HB.out.cell (World.block_lt_of_cell? w _ hx264_0)).trans hx264_0; have HR264_0 := A_ hi264_0; have HC264_0 := A_ hl264_0; clear hi264_0 hl264_0; replace p264 := eq_true p264; replace q264 := eq_true q264; go_wp2_with (first | ((with_reducible refine gate_callee (f := 36) rfl ?_); refine gm_ (some 26) Try.func36 #[.slice A264_0 (rd_L3 l0_0 x21_2).length c264_0] ?_; (with_reducible refine (band_Check.calls _ _ (rd_L3 l0_0 x21_2) t265 _ ?side1 ?side2 A12.out).mono ?_); (case side1 => exact cb_ HR264_0 HB); (case side2 => exact HC264_0.out); rintro e w25 ⟨rfl, hb⟩; refine ⟨_, rfl, ?_⟩; replace BK263 := A_ (blk_below (bx_ BK263) hb); replace HB := A_ (below_step (bl1_ HB GE263.out) hb); (try clear hb); (try clear hb2); (try clear hk); (try clear hi)))
          go_ret
          exact ⟨er_, bl1_ HB GE263.out⟩
        ·rw [if_neg c11] at H; exact absurd H (by simp)
       ·rw [if_neg c10] at H; exact absurd H (by simp)
      ·rw [if_neg c9] at H; have c9b0 := decide_eq_false c9; clear c9; obtain rfl := Option.some.inj H
       go_wp2
       go_ret
       exact ⟨er_, bl1_ HB GE263.out⟩
mutual
def table_contribs.l0 : Nat → List (S120) → Int → Int → List (List (S106)) → List (S120) → List (S209) → Int → Int → Option (Int)
 | 0, _, _, _, _, _, _, _, _ => none
 | k + 1, x11, x12, x13, x269000, x269001, x269002, x269003, x269004 => if x13 < x12 then (if 0 ≤ x13 then (if x13 < (x11.length : Int) then ((word_Name.f k ((rd_T120 x11 x13).f0)).bind fun t271 => (if t271 = true then (if x13 ≤ (x269001.length : Int) then ((api_Contrib_141.f (x269001.take (x13 : Int).toNat) ((rd_T120 x11 x13).f0) ((rd_T120 x11 x13).f1) ((rd_T120 x11 x13).f2) ((rd_T120 x11 x13).f3) ((rd_T120 x11 x13).f4) ((rd_T120 x11 x13).f5)).bind fun t276 => (if t276 = true then (some 4) else (if ((rd_T120 x11 x13).f1) = 1 then (table_contribs.j1 k x11 x12 x13 false x269000 x269001 x269002 x269003 x269004 ((rd_T120 x11 x13).f0) ((rd_T120 x11 x13).f1) ((rd_T120 x11 x13).f2) ((rd_T120 x11 x13).f3) ((rd_T120 x11 x13).f4) ((rd_T120 x11 x13).f5)) else (table_contribs.j1 k x11 x12 x13 (((rd_T120 x11 x13).f1) != 2) x269000 x269001 x269002 x269003 x269004 ((rd_T120 x11 x13).f0) ((rd_T120 x11 x13).f1) ((rd_T120 x11 x13).f2) ((rd_T120 x11 x13).f3) ((rd_T120 x11 x13).f4) ((rd_T120 x11 x13).f5))))) else (none)) else (some 5))) else (none)) else (none)) else (some 0)
def table_contribs.j1 : Nat → List (S120) → Int → Int → Bool → List (List (S106)) → List (S120) → List (S209) → Int → Int → ByteArray → Int → List (S106) → Int → Int → Int → Option (Int)
 | 0, _, _, _, _, _, _, _, _, _, _, _, _, _, _, _ => none
 | k + 1, x11, x12, x13, x30, x269000, x269001, x269002, x269003, x269004, x271000, x271001, x271002, x271003, x271004, x271005 => if x30 = true then (table_contribs.j2 k x11 x12 x13 x30 x269000 x269001 x269002 x269003 x269004 x271000 x271001 x271002 x271003 x271004 x271005) else ((frac_Mode.f x271005).bind fun t277 => (table_contribs.j2 k x11 x12 x13 (!t277) x269000 x269001 x269002 x269003 x269004 x271000 x271001 x271002 x271003 x271004 x271005))
def table_contribs.j2 : Nat → List (S120) → Int → Int → Bool → List (List (S106)) → List (S120) → List (S209) → Int → Int → ByteArray → Int → List (S106) → Int → Int → Int → Option (Int)
 | 0, _, _, _, _, _, _, _, _, _, _, _, _, _, _, _ => none
 | k + 1, x11, x12, x13, x30, x269000, x269001, x269002, x269003, x269004, x271000, x271001, x271002, x271003, x271004, x271005 => if x30 = true then (some 1) else (if x271003 < 0 then (table_contribs.j3 k x11 x12 x13 true x269000 x269001 x269002 x269003 x269004 x271000 x271001 x271002 x271003 x271004 x271005) else (if x271003 > 100000000000 then (table_contribs.j3 k x11 x12 x13 true x269000 x269001 x269002 x269003 x269004 x271000 x271001 x271002 x271003 x271004 x271005) else (if x271004 < 0 then (table_contribs.j3 k x11 x12 x13 true x269000 x269001 x269002 x269003 x269004 x271000 x271001 x271002 x271003 x271004 x271005) else (table_contribs.j3 k x11 x12 x13 (decide (x271004 > 100000000000)) x269000 x269001 x269002 x269003 x269004 x271000 x271001 x271002 x271003 x271004 x271005))))
def table_contribs.j3 : Nat → List (S120) → Int → Int → Bool → List (List (S106)) → List (S120) → List (S209) → Int → Int → ByteArray → Int → List (S106) → Int → Int → Int → Option (Int)
 | 0, _, _, _, _, _, _, _, _, _, _, _, _, _, _, _ => none
 | k + 1, x11, x12, x13, x43, x269000, x269001, x269002, x269003, x269004, x271000, x271001, x271002, x271003, x271004, x271005 => if x43 = true then (some 1) else ((band_Check.f x271002).bind fun t278 => (if t278 = 0 then (table_contribs.l0 k x11 x12 (wrap64 (x13 + 1)) x269000 x269001 x269002 x269003 x269004) else (some t278)))
end
def table_contribs.f (k : Nat) (l0_0 : List (List (S106))) (l0_1 : List (S120)) (l0_2 : List (S209)) (a0_3 : Int) (a0_4 : Int) : Option (Int) := if (l0_1.length : Int) > 6 then (some 2) else (table_contribs.l0 k l0_1 (l0_1.length : Int) 0 l0_0 l0_1 l0_2 a0_3 a0_4)
set_option maxHeartbeats 8000000 in
set_option maxRecDepth 100000 in
theorem table_contribs.calls (k : Nat) (A0_0 : Option Addr) (c0_0 : Nat) (l0_0 : List (List (S106))) (A0_1 : Option Addr) (c0_1 : Nat) (l0_1 : List (S120)) (A0_2 : Option Addr) (c0_2 : Nat) (l0_2 : List (S209)) (a0_3 : Int) (a0_4 : Int) (r : Int) (w : World) (hr0_0 : Kd.C (Kd.slice 106 k106) w A0_0 l0_0.length l0_0) (hc0_0 : l0_0.length ≤ c0_0) (hr0_1 : Kd.C k120 w A0_1 l0_1.length l0_1) (hc0_1 : l0_1.length ≤ c0_1) (hr0_2 : Kd.C k209 w A0_2 l0_2.length l0_2) (hc0_2 : l0_2.length ≤ c0_2) (h : table_contribs.f k l0_0 l0_1 l0_2 a0_3 a0_4 = some r) :
  Calls Try.prog 106 #[.agg #[.slice A0_0 l0_0.length c0_0, .slice A0_1 l0_1.length c0_1, .slice A0_2 l0_2.length c0_2, .int .i64 a0_3, .int .i64 a0_4]] w fun e w' => e = .returned (.int .i64 r) ∧ Below w.heap.size w w' := by
 have hu56 := Try.underlying56; have hu120 := Try.underlying120; have HR0_0 := A_ hr0_0; have HC0_0 := A_ hc0_0; clear hr0_0 hc0_0; have HR0_1 := A_ hr0_1; have HC0_1 := A_ hc0_1; clear hr0_1 hc0_1; have HR0_2 := A_ hr0_2; have HC0_2 := A_ hc0_2; clear hr0_2 hc0_2; have HB := A_ (Below.refl w.heap.size w); unfold table_contribs.f at h; have H := h; clear h; by_cases c2 : (l0_1.length : Int) > 6
 ·rw [if_pos c2] at H; have c2b0 : decide (6 < (l0_1.length : Int)) = true := decide_eq_true c2; have c2b1 : decide (6 < l0_1.length) = true := decide_eq_true (by omega); clear c2; obtain rfl := Option.some.inj H; go_enter Try.func106, Try.ntmps106
  go_wp2_with (first | ((with_reducible refine gate_dst (N := 1) rfl ?_); refine be_ (N := 1) (cs := #[.slice A0_0 l0_0.length c0_0, .slice A0_1 l0_1.length c0_1, .slice A0_2 l0_2.length c0_2, .int .i64 a0_3, .int .i64 a0_4]) (t := 56) ?_; intro gb268 hg w3 hbox hb; have BK268 := A_ (hbox); have GW268 := A_ ((by rw [hg]; exact (below_size (bl_ HB)) : w.heap.size ≤ gb268)); have GE268 := A_ ((by rw [hg]; exact (below_size (bl_ HB)) : w.heap.size ≤ gb268)); replace HB := A_ (below_step (bl_ HB) hb); clear hb hbox hg; have hcz4_0 := cz_ BK268 0; have hcz4_1 := cz_ BK268 1; have hcz4_2 := cz_ BK268 2; have hcz4_3 := cz_ BK268 3; have hcz4_4 := cz_ BK268 4; have hfz4_0 := fz_ BK268 0; have hfz4_1 := fz_ BK268 1; have hfz4_2 := fz_ BK268 2; have hfz4_3 := fz_ BK268 3; have hfz4_4 := fz_ BK268 4))
  go_ret
  exact ⟨er_, bl1_ HB GE268.out⟩
 ·rw [if_neg c2] at H; have c2b0 : decide (6 < (l0_1.length : Int)) = false := decide_eq_false c2; have c2b1 : decide (6 < l0_1.length) = false := decide_eq_false (by omega); clear c2; have H' := A_ H; clear H; go_enter Try.func106, Try.ntmps106
  go_wp2_with (first | ((with_reducible refine gate_dst (N := 1) rfl ?_); refine be_ (N := 1) (cs := #[.slice A0_0 l0_0.length c0_0, .slice A0_1 l0_1.length c0_1, .slice A0_2 l0_2.length c0_2, .int .i64 a0_3, .int .i64 a0_4]) (t := 56) ?_; intro gb268 hg w5 hbox hb; have BK268 := A_ (hbox); have GW268 := A_ ((by rw [hg]; exact (below_size (bl_ HB)) : w.heap.size ≤ gb268)); have GE268 := A_ ((by rw [hg]; exact (below_size (bl_ HB)) : w.heap.size ≤ gb268)); replace HB := A_ (below_step (bl_ HB) hb); clear hb hbox hg; have hcz6_0 := cz_ BK268 0; have hcz6_1 := cz_ BK268 1; have hcz6_2 := cz_ BK268 2; have hcz6_3 := cz_ BK268 3; have hcz6_4 := cz_ BK268 4; have hfz6_0 := fz_ BK268 0; have hfz6_1 := fz_ BK268 1; have hfz6_2 := fz_ BK268 2; have hfz6_3 := fz_ BK268 3; have hfz6_4 := fz_ BK268 4))
  go_loopg [13] k (fun kq v13 w' => ∃ (x13_1 : Int), v13 = .int .i64 x13_1 ∧ Aside0 (table_contribs.l0 kq l0_1 (l0_1.length : Int) x13_1 l0_0 l0_1 l0_2 a0_3 a0_4 = some r) ∧ Aside0 (kq ≤ k) ∧ Aside0 (w'.heap[gb268]? = some (.cells #[(.slice A0_0 l0_0.length c0_0), (.slice A0_1 l0_1.length c0_1), (.slice A0_2 l0_2.length c0_2), .int .i64 a0_3, .int .i64 a0_4] 56 (0, 0))) ∧ Aside0 (Below w.heap.size w w'))
  case atStart => exact ⟨(0), (sx_), H', ⟨Nat.le_refl _⟩, ⟨bx_ BK268⟩, ⟨bl1_ HB GE268.out⟩⟩
  case round =>
   clear H'; try clear c1
   try clear c2
   try clear c2b0
   try clear c2b1
   try clear p2
   try clear hcz4_0 hcz4_1 hcz4_2 hcz4_3 hcz4_4
   try clear hcz6_0 hcz6_1 hcz6_2 hcz6_3 hcz6_4
   try clear hfz4_0 hfz4_1 hfz4_2 hfz4_3 hfz4_4
   try clear hfz6_0 hfz6_1 hfz6_2 hfz6_3 hfz6_4
   obtain ⟨x13_1, rfl, HA, HK1, BK268, HB⟩ := hrel
   cases gk with
   | zero => exact absurd HA.out (by simp [table_contribs.l0])
   | succ k1 =>
    have H := HA.out; clear HA; simp only [table_contribs.l0] at H; by_cases c7 : x13_1 < (l0_1.length : Int)
    ·rw [if_pos c7] at H; have c7b0 := decide_eq_true c7; clear c7; by_cases c8 : 0 ≤ x13_1
     ·rw [if_pos c8] at H; have c8b0 := decide_eq_true c8; clear c8; by_cases c9 : x13_1 < (l0_1.length : Int)
      ·rw [if_pos c9] at H; have c9b0 := decide_eq_true c9; clear c9; replace H := Option.bind_eq_some_iff.mp H; obtain ⟨t271, A100, H⟩ := H; (try dsimp only at H); have A10 := A_ A100; clear A100; by_cases c11 : t271 = true
       ·subst c11; rw [if_pos rfl] at H; have c12b0 := eq_true (od_ : 0 ≤ x13_1); by_cases c13 : x13_1 ≤ (l0_1.length : Int)
        ·rw [if_pos c13] at H; have c13b0 := eq_true c13; have c13b1 := decide_eq_true c13; clear c13; obtain ⟨y272, hy272⟩ : ∃ y_ : List (S120), y_ = (l0_1.take (x13_1 : Int).toNat) := ⟨_, rfl⟩; replace H : ((api_Contrib_141.f y272 ((rd_T120 l0_1 x13_1).f0) ((rd_T120 l0_1 x13_1).f1) ((rd_T120 l0_1 x13_1).f2) ((rd_T120 l0_1 x13_1).f3) ((rd_T120 l0_1 x13_1).f4) ((rd_T120 l0_1 x13_1).f5)).bind fun t276 => (if t276 = true then (some 4) else (if ((rd_T120 l0_1 x13_1).f1) = 1 then (table_contribs.j1 k1 l0_1 (l0_1.length : Int) x13_1 false l0_0 l0_1 l0_2 a0_3 a0_4 ((rd_T120 l0_1 x13_1).f0) ((rd_T120 l0_1 x13_1).f1) ((rd_T120 l0_1 x13_1).f2) ((rd_T120 l0_1 x13_1).f3) ((rd_T120 l0_1 x13_1).f4) ((rd_T120 l0_1 x13_1).f5)) else (table_contribs.j1 k1 l0_1 (l0_1.length : Int) x13_1 (((rd_T120 l0_1 x13_1).f1) != 2) l0_0 l0_1 l0_2 a0_3 a0_4 ((rd_T120 l0_1 x13_1).f0) ((rd_T120 l0_1 x13_1).f1) ((rd_T120 l0_1 x13_1).f2) ((rd_T120 l0_1 x13_1).f3) ((rd_T120 l0_1 x13_1).f4) ((rd_T120 l0_1 x13_1).f5))))) = some r := by first | (rw [hy272]; with_reducible exact H) | (have H2_ := (Option.bind_some _ _).symm.trans H; rw [hy272]; with_reducible exact H2_) | (have H2_ := (Option.bind_some _ _).symm.trans H; with_reducible exact H2_) | with_reducible exact H | (rw [hy272]; exact H) | exact H
         have Ny272 := A_ hy272; clear hy272; replace H := Option.bind_eq_some_iff.mp H; obtain ⟨t276, A140, H⟩ := H; (try dsimp only at H); have A14 := A_ A140; clear A140; by_cases c15 : t276 = true
         ·subst c15; rw [if_pos rfl] at H; obtain rfl := Option.some.inj H; have p269 : 0 ≤ (x13_1 : Int) := od_; have q269 : x13_1 < (l0_1.length : Int) := od_; obtain ⟨ad269, A269_2, c269_2, e269, hx269_0, hx269_1, hx269_2, hx269_3, hx269_4, hx269_5, hl269_2, hi269_2⟩ := at_T120 HR0_1.out x13_1 p269 q269; cases e269; replace hx269_0 := (HB.out.cell (World.block_lt_of_cell? w _ hx269_0)).trans hx269_0; replace hx269_1 := (HB.out.cell (World.block_lt_of_cell? w _ hx269_1)).trans hx269_1; replace hx269_2 := (HB.out.cell (World.block_lt_of_cell? w _ hx269_2)).trans hx269_2; replace hx269_3 := (HB.out.cell (World.block_lt_of_cell? w _ hx269_3)).trans hx269_3; replace hx269_4 := (HB.out.cell (World.block_lt_of_cell? w _ hx269_4)).trans hx269_4; replace hx269_5 := (HB.out.cell (World.block_lt_of_cell? w _ hx269_5)).trans hx269_5; have HR269_2 := A_ hi269_2; have HC269_2 := A_ hl269_2; clear hi269_2 hl269_2; replace p269 := eq_true p269; replace q269 := eq_true q269; go_wp2_with (first | ((with_reducible refine gate_dst (N := 4) rfl ?_); refine be_ (N := 4) (cs := #[.string (⟨#[]⟩ : ByteArray), .int .i64 0, .slice none 0 0, .int .i64 0, .int .i64 0, .int .i64 0]) (t := 120) ?_; intro gb270 hg w16 hbox hb; have BK270 := A_ (hbox); have GW270 := A_ ((by rw [hg]; exact (below_size (bl1_ HB GE268.out)) : w.heap.size ≤ gb270)); have GE270 := A_ ((by rw [hg]; exact (below_size (bl1_ HB GE268.out)) : w.heap.size ≤ gb270)); have NB268_270 := A_ ((by rw [hg]; exact Nat.ne_of_lt (blk_lt (bx_ BK268)) : gb268 ≠ gb270)); have NB270_268 := A_ ((by rw [hg]; exact Nat.ne_of_gt (blk_lt (bx_ BK268)) : gb270 ≠ gb268)); replace BK268 := A_ (blk_below (bx_ BK268) hb); replace HB := A_ (below_step (bl1_ HB GE268.out) hb); clear hb hbox hg; have hnb17 := NB270_268.out; have hnc17 := NB268_270.out; have hcz18_0 := cz_ BK270 0; have hcz18_1 := cz_ BK270 1; have hcz18_2 := cz_ BK270 2; have hcz18_3 := cz_ BK270 3; have hcz18_4 := cz_ BK270 4; have hcz18_5 := cz_ BK270 5; have hfz18_0 := fz_ BK270 0; have hfz18_1 := fz_ BK270 1; have hfz18_2 := fz_ BK270 2; have hfz18_3 := fz_ BK270 3; have hfz18_4 := fz_ BK270 4; have hfz18_5 := fz_ BK270 5) | ((with_reducible refine gate_store (t := 120) (p := 4) rfl ?_); refine se_ (t := 120) (p := 4) (w1 := ((((((w16.setCell ⟨gb270, 0, none⟩ (.string ((rd_T120 l0_1 x13_1).f0))).setCell ⟨gb270, 1, none⟩ (.int .i64 ((rd_T120 l0_1 x13_1).f1))).setCell ⟨gb270, 2, none⟩ (.slice A269_2 ((rd_T120 l0_1 x13_1).f2).length c269_2)).setCell ⟨gb270, 3, none⟩ (.int .i64 ((rd_T120 l0_1 x13_1).f3))).setCell ⟨gb270, 4, none⟩ (.int .i64 ((rd_T120 l0_1 x13_1).f4))).setCell ⟨gb270, 5, none⟩ (.int .i64 ((rd_T120 l0_1 x13_1).f5)))) ?_; intro w19 hw; have n0_ : Aside0 (w19.heap[gb268]? = some (.cells #[.slice A0_0 l0_0.length c0_0, .slice (some ad269) l0_1.length c0_1, .slice A0_2 l0_2.length c0_2, .int .i64 a0_3, .int .i64 a0_4] 56 (0, 0))) := ⟨(by rw [hw]; exact (by refine bw_ ?_; refine blk_far ?_ NB268_270.out _; refine bw_ ?_; refine blk_far ?_ NB268_270.out _; refine bw_ ?_; refine blk_far ?_ NB268_270.out _; refine bw_ ?_; refine blk_far ?_ NB268_270.out _; refine bw_ ?_; refine blk_far ?_ NB268_270.out _; refine bw_ ?_; refine blk_far ?_ NB268_270.out _; refine bw_ ?_; exact BK268.out))⟩; have n1_ : Aside0 (w19.heap[gb270]? = some (.cells #[.string ((rd_T120 l0_1 x13_1).f0), .int .i64 ((rd_T120 l0_1 x13_1).f1), .slice A269_2 ((rd_T120 l0_1 x13_1).f2).length c269_2, .int .i64 ((rd_T120 l0_1 x13_1).f3), .int .i64 ((rd_T120 l0_1 x13_1).f4), .int .i64 ((rd_T120 l0_1 x13_1).f5)] 120 (0, 0))) := ⟨(by rw [hw]; exact (by refine bw_ ?_; refine blk_put (cs := #[.string ((rd_T120 l0_1 x13_1).f0), .int .i64 ((rd_T120 l0_1 x13_1).f1), .slice A269_2 ((rd_T120 l0_1 x13_1).f2).length c269_2, .int .i64 ((rd_T120 l0_1 x13_1).f3), .int .i64 ((rd_T120 l0_1 x13_1).f4), .int .i64 0]) ?_ 5 _ rfl; refine bw_ ?_; refine blk_put (cs := #[.string ((rd_T120 l0_1 x13_1).f0), .int .i64 ((rd_T120 l0_1 x13_1).f1), .slice A269_2 ((rd_T120 l0_1 x13_1).f2).length c269_2, .int .i64 ((rd_T120 l0_1 x13_1).f3), .int .i64 0, .int .i64 0]) ?_ 4 _ rfl; refine bw_ ?_; refine blk_put (cs := #[.string ((rd_T120 l0_1 x13_1).f0), .int .i64 ((rd_T120 l0_1 x13_1).f1), .slice A269_2 ((rd_T120 l0_1 x13_1).f2).length c269_2, .int .i64 0, .int .i64 0, .int .i64 0]) ?_ 3 _ rfl; refine bw_ ?_; refine blk_put (cs := #[.string ((rd_T120 l0_1 x13_1).f0), .int .i64 ((rd_T120 l0_1 x13_1).f1), .slice none 0 0, .int .i64 0, .int .i64 0, .int .i64 0]) ?_ 2 _ rfl; refine bw_ ?_; refine blk_put (cs := #[.string ((rd_T120 l0_1 x13_1).f0), .int .i64 0, .slice none 0 0, .int .i64 0, .int .i64 0, .int .i64 0]) ?_ 1 _ rfl; refine bw_ ?_; refine blk_put (cs := #[.string (⟨#[]⟩ : ByteArray), .int .i64 0, .slice none 0 0, .int .i64 0, .int .i64 0, .int .i64 0]) ?_ 0 _ rfl; refine bw_ ?_; exact BK270.out))⟩; have n2_ : Aside0 (Below w.heap.size w w19) := ⟨(by rw [hw]; exact (bl2_ HB GE268.out GE270.out))⟩; clear hw; clear BK268; clear BK270; clear HB; have BK268 := n0_; have BK270 := n1_; have HB := n2_; clear n0_ n1_ n2_; have hcz20_0 := cz_ BK270 0; have hcz20_1 := cz_ BK270 1; have hcz20_2 := cz_ BK270 2; have hcz20_3 := cz_ BK270 3; have hcz20_4 := cz_ BK270 4; have hcz20_5 := cz_ BK270 5; have hfz20_0 := fz_ BK270 0; have hfz20_1 := fz_ BK270 1; have hfz20_2 := fz_ BK270 2; have hfz20_3 := fz_ BK270 3; have hfz20_4 := fz_ BK270 4; have hfz20_5 := fz_ BK270 5) | ((with_reducible refine gate_callee (f := 140) rfl ?_); refine gm_ (some 21) Try.func140 #[.string ((rd_T120 l0_1 x13_1).f0)] ?_; (with_reducible refine (word_Name.calls k1 ((rd_T120 l0_1 x13_1).f0) true _ A10.out).mono ?_); rintro e w' ⟨rfl, ⟨nd, rfl⟩⟩; refine ⟨_, rfl, ?_⟩; have hcz21_0 := cz_ BK268 0; have hcz21_1 := cz_ BK268 1; have hcz21_2 := cz_ BK268 2; have hcz21_3 := cz_ BK268 3; have hcz21_4 := cz_ BK268 4; have hfz21_0 := fz_ BK268 0; have hfz21_1 := fz_ BK268 1; have hfz21_2 := fz_ BK268 2; have hfz21_3 := fz_ BK268 3; have hfz21_4 := fz_ BK268 4; have q22 : (x13_1 : Int) ≤ ((l0_1.length : Int) : Int) := od_; obtain ⟨i022, hi022, _, hsz22, _⟩ := info_parts info120; have hroom22 : l0_1.length ≤ c0_1 := HC0_1.out; have hC22 : Kd.C k120 _ (some ad269) l0_1.length l0_1 := HR0_1.out; have hcut22 := cut_to (P := Try.prog) 53 120 .i64 Try.underlying53 hi022 (some ad269) l0_1.length c0_1 x13_1 (od_) q22 hroom22; have hr22 := Kd.C_take (m := (x13_1 : Int).toNat) hC22 (by omega); have hy22 : y272.length = (x13_1 : Int).toNat := (by rw [Ny272.out, List.length_take]; omega); rw [← Ny272.out] at hr22; rw [← hy22] at hcut22; have HR275 := A_ hr22; have HC275 := A_ (show y272.length ≤ c0_1 from by omega); clear hr22 hC22 hroom22 hi022 hsz22; have KY22 := A_ hy22; clear hy22; replace q22 := eq_true q22) | ((with_reducible refine gate_callee (f := 141) rfl ?_); refine gm_ (some 29) Try.func141 #[.slice (some ad269) y272.length c0_1, .func (.func 142) #[] #[.pointer (some ⟨gb270, 0, none⟩)]] ?_; (with_reducible refine (api_Contrib_141.asks gb270 _ _ y272 ((rd_T120 l0_1 x13_1).f0) ((rd_T120 l0_1 x13_1).f1) A269_2 c269_2 ((rd_T120 l0_1 x13_1).f2) ((rd_T120 l0_1 x13_1).f3) ((rd_T120 l0_1 x13_1).f4) ((rd_T120 l0_1 x13_1).f5) true _ ?side1 ?side2 ?side3 ?side4 ?sideP A14.out).mono ?_); (case sideP => exact (blk_cell (g := gb270) (t := 120) (cs := #[.string ((rd_T120 l0_1 x13_1).f0), .int .i64 ((rd_T120 l0_1 x13_1).f1), .slice A269_2 ((rd_T120 l0_1 x13_1).f2).length c269_2, .int .i64 ((rd_T120 l0_1 x13_1).f3), .int .i64 ((rd_T120 l0_1 x13_1).f4), .int .i64 ((rd_T120 l0_1 x13_1).f5)]) (bx_ BK270) 0).trans rfl); (case side1 => exact Kd.C_below HR275.out (bl2_ HB GE268.out GE270.out)); (case side2 => exact HC275.out); (case side3 => exact Kd.C_below HR269_2.out (bl2_ HB GE268.out GE270.out)); (case side4 => exact HC269_2.out); rintro e w23 ⟨rfl, hb⟩; refine ⟨_, rfl, ?_⟩; replace BK268 := A_ (blk_below (bx_ BK268) hb); replace BK270 := A_ (blk_below (bx_ BK270) hb); replace HB := A_ (below_step (bl2_ HB GE268.out GE270.out) hb); (try clear hb); (try clear hb2); (try clear hk); (try clear hi)))
          go_ret
          exact ⟨er_, bl2_ HB GE268.out GE270.out⟩
         ·replace c15 := Bool.eq_false_iff.mpr c15; subst c15; rw [if_neg (show ¬ (false = true) by decide)] at H; have HC24 := A_ H; clear H; have p269 : 0 ≤ (x13_1 : Int) := od_; have q269 : x13_1 < (l0_1.length : Int) := od_; obtain ⟨ad269, A269_2, c269_2, e269, hx269_0, hx269_1, hx269_2, hx269_3, hx269_4, hx269_5, hl269_2, hi269_2⟩ := at_T120 HR0_1.out x13_1 p269 q269; cases e269; replace hx269_0 := (HB.out.cell (World.block_lt_of_cell? w _ hx269_0)).trans hx269_0; replace hx269_1 := (HB.out.cell (World.block_lt_of_cell? w _ hx269_1)).trans hx269_1; replace hx269_2 := (HB.out.cell (World.block_lt_of_cell? w _ hx269_2)).trans hx269_2; replace hx269_3 := (HB.out.cell (World.block_lt_of_cell? w _ hx269_3)).trans hx269_3; replace hx269_4 := (HB.out.cell (World.block_lt_of_cell? w _ hx269_4)).trans hx269_4; replace hx269_5 := (HB.out.cell (World.block_lt_of_cell? w _ hx269_5)).trans hx269_5; have HR269_2 := A_ hi269_2; have HC269_2 := A_ hl269_2; clear hi269_2 hl269_2; replace p269 := eq_true p269; replace q269 := eq_true q269; go_upto_region 10 with (first | ((with_reducible refine gate_dst (N := 4) rfl ?_); refine be_ (N := 4) (cs := #[.string (⟨#[]⟩ : ByteArray), .int .i64 0, .slice none 0 0, .int .i64 0, .int .i64 0, .int .i64 0]) (t := 120) ?_; intro gb270 hg w25 hbox hb; have BK270 := A_ (hbox); have GW270 := A_ ((by rw [hg]; exact (below_size (bl1_ HB GE268.out)) : w.heap.size ≤ gb270)); have GE270 := A_ ((by rw [hg]; exact (below_size (bl1_ HB GE268.out)) : w.heap.size ≤ gb270)); have NB268_270 := A_ ((by rw [hg]; exact Nat.ne_of_lt (blk_lt (bx_ BK268)) : gb268 ≠ gb270)); have NB270_268 := A_ ((by rw [hg]; exact Nat.ne_of_gt (blk_lt (bx_ BK268)) : gb270 ≠ gb268)); replace BK268 := A_ (blk_below (bx_ BK268) hb); replace HB := A_ (below_step (bl1_ HB GE268.out) hb); clear hb hbox hg; have hnb26 := NB270_268.out; have hnc26 := NB268_270.out; have hcz27_0 := cz_ BK270 0; have hcz27_1 := cz_ BK270 1; have hcz27_2 := cz_ BK270 2; have hcz27_3 := cz_ BK270 3; have hcz27_4 := cz_ BK270 4; have hcz27_5 := cz_ BK270 5; have hfz27_0 := fz_ BK270 0; have hfz27_1 := fz_ BK270 1; have hfz27_2 := fz_ BK270 2; have hfz27_3 := fz_ BK270 3; have hfz27_4 := fz_ BK270 4; have hfz27_5 := fz_ BK270 5) | ((with_reducible refine gate_store (t := 120) (p := 4) rfl ?_); refine se_ (t := 120) (p := 4) (w1 := ((((((w25.setCell ⟨gb270, 0, none⟩ (.string ((rd_T120 l0_1 x13_1).f0))).setCell ⟨gb270, 1, none⟩ (.int .i64 ((rd_T120 l0_1 x13_1).f1))).setCell ⟨gb270, 2, none⟩ (.slice A269_2 ((rd_T120 l0_1 x13_1).f2).length c269_2)).setCell ⟨gb270, 3, none⟩ (.int .i64 ((rd_T120 l0_1 x13_1).f3))).setCell ⟨gb270, 4, none⟩ (.int .i64 ((rd_T120 l0_1 x13_1).f4))).setCell ⟨gb270, 5, none⟩ (.int .i64 ((rd_T120 l0_1 x13_1).f5)))) ?_; intro w28 hw; have n0_ : Aside0 (w28.heap[gb268]? = some (.cells #[.slice A0_0 l0_0.length c0_0, .slice (some ad269) l0_1.length c0_1, .slice A0_2 l0_2.length c0_2, .int .i64 a0_3, .int .i64 a0_4] 56 (0, 0))) := ⟨(by rw [hw]; exact (by refine bw_ ?_; refine blk_far ?_ NB268_270.out _; refine bw_ ?_; refine blk_far ?_ NB268_270.out _; refine bw_ ?_; refine blk_far ?_ NB268_270.out _; refine bw_ ?_; refine blk_far ?_ NB268_270.out _; refine bw_ ?_; refine blk_far ?_ NB268_270.out _; refine bw_ ?_; refine blk_far ?_ NB268_270.out _; refine bw_ ?_; exact BK268.out))⟩; have n1_ : Aside0 (w28.heap[gb270]? = some (.cells #[.string ((rd_T120 l0_1 x13_1).f0), .int .i64 ((rd_T120 l0_1 x13_1).f1), .slice A269_2 ((rd_T120 l0_1 x13_1).f2).length c269_2, .int .i64 ((rd_T120 l0_1 x13_1).f3), .int .i64 ((rd_T120 l0_1 x13_1).f4), .int .i64 ((rd_T120 l0_1 x13_1).f5)] 120 (0, 0))) := ⟨(by rw [hw]; exact (by refine bw_ ?_; refine blk_put (cs := #[.string ((rd_T120 l0_1 x13_1).f0), .int .i64 ((rd_T120 l0_1 x13_1).f1), .slice A269_2 ((rd_T120 l0_1 x13_1).f2).length c269_2, .int .i64 ((rd_T120 l0_1 x13_1).f3), .int .i64 ((rd_T120 l0_1 x13_1).f4), .int .i64 0]) ?_ 5 _ rfl; refine bw_ ?_; refine blk_put (cs := #[.string ((rd_T120 l0_1 x13_1).f0), .int .i64 ((rd_T120 l0_1 x13_1).f1), .slice A269_2 ((rd_T120 l0_1 x13_1).f2).length c269_2, .int .i64 ((rd_T120 l0_1 x13_1).f3), .int .i64 0, .int .i64 0]) ?_ 4 _ rfl; refine bw_ ?_; refine blk_put (cs := #[.string ((rd_T120 l0_1 x13_1).f0), .int .i64 ((rd_T120 l0_1 x13_1).f1), .slice A269_2 ((rd_T120 l0_1 x13_1).f2).length c269_2, .int .i64 0, .int .i64 0, .int .i64 0]) ?_ 3 _ rfl; refine bw_ ?_; refine blk_put (cs := #[.string ((rd_T120 l0_1 x13_1).f0), .int .i64 ((rd_T120 l0_1 x13_1).f1), .slice none 0 0, .int .i64 0, .int .i64 0, .int .i64 0]) ?_ 2 _ rfl; refine bw_ ?_; refine blk_put (cs := #[.string ((rd_T120 l0_1 x13_1).f0), .int .i64 0, .slice none 0 0, .int .i64 0, .int .i64 0, .int .i64 0]) ?_ 1 _ rfl; refine bw_ ?_; refine blk_put (cs := #[.string (⟨#[]⟩ : ByteArray), .int .i64 0, .slice none 0 0, .int .i64 0, .int .i64 0, .int .i64 0]) ?_ 0 _ rfl; refine bw_ ?_; exact BK270.out))⟩; have n2_ : Aside0 (Below w.heap.size w w28) := ⟨(by rw [hw]; exact (bl2_ HB GE268.out GE270.out))⟩; clear hw; clear BK268; clear BK270; clear HB; have BK268 := n0_; have BK270 := n1_; have HB := n2_; clear n0_ n1_ n2_; have hcz29_0 := cz_ BK270 0; have hcz29_1 := cz_ BK270 1; have hcz29_2 := cz_ BK270 2; have hcz29_3 := cz_ BK270 3; have hcz29_4 := cz_ BK270 4; have hcz29_5 := cz_ BK270 5; have hfz29_0 := fz_ BK270 0; have hfz29_1 := fz_ BK270 1; have hfz29_2 := fz_ BK270 2; have hfz29_3 := fz_ BK270 3; have hfz29_4 := fz_ BK270 4; have hfz29_5 := fz_ BK270 5) | ((with_reducible refine gate_callee (f := 140) rfl ?_); refine gm_ (some 21) Try.func140 #[.string ((rd_T120 l0_1 x13_1).f0)] ?_; (with_reducible refine (word_Name.calls k1 ((rd_T120 l0_1 x13_1).f0) true _ A10.out).mono ?_); rintro e w' ⟨rfl, ⟨nd, rfl⟩⟩; refine ⟨_, rfl, ?_⟩; have hcz30_0 := cz_ BK268 0; have hcz30_1 := cz_ BK268 1; have hcz30_2 := cz_ BK268 2; have hcz30_3 := cz_ BK268 3; have hcz30_4 := cz_ BK268 4; have hfz30_0 := fz_ BK268 0; have hfz30_1 := fz_ BK268 1; have hfz30_2 := fz_ BK268 2; have hfz30_3 := fz_ BK268 3; have hfz30_4 := fz_ BK268 4; have q31 : (x13_1 : Int) ≤ ((l0_1.length : Int) : Int) := od_; obtain ⟨i031, hi031, _, hsz31, _⟩ := info_parts info120; have hroom31 : l0_1.length ≤ c0_1 := HC0_1.out; have hC31 : Kd.C k120 _ (some ad269) l0_1.length l0_1 := HR0_1.out; have hcut31 := cut_to (P := Try.prog) 53 120 .i64 Try.underlying53 hi031 (some ad269) l0_1.length c0_1 x13_1 (od_) q31 hroom31; have hr31 := Kd.C_take (m := (x13_1 : Int).toNat) hC31 (by omega); have hy31 : y272.length = (x13_1 : Int).toNat := (by rw [Ny272.out, List.length_take]; omega); rw [← Ny272.out] at hr31; rw [← hy31] at hcut31; have HR275 := A_ hr31; have HC275 := A_ (show y272.length ≤ c0_1 from by omega); clear hr31 hC31 hroom31 hi031 hsz31; have KY31 := A_ hy31; clear hy31; replace q31 := eq_true q31) | ((with_reducible refine gate_callee (f := 141) rfl ?_); refine gm_ (some 29) Try.func141 #[.slice (some ad269) y272.length c0_1, .func (.func 142) #[] #[.pointer (some ⟨gb270, 0, none⟩)]] ?_; (with_reducible refine (api_Contrib_141.asks gb270 _ _ y272 ((rd_T120 l0_1 x13_1).f0) ((rd_T120 l0_1 x13_1).f1) A269_2 c269_2 ((rd_T120 l0_1 x13_1).f2) ((rd_T120 l0_1 x13_1).f3) ((rd_T120 l0_1 x13_1).f4) ((rd_T120 l0_1 x13_1).f5) false _ ?side1 ?side2 ?side3 ?side4 ?sideP A14.out).mono ?_); (case sideP => exact (blk_cell (g := gb270) (t := 120) (cs := #[.string ((rd_T120 l0_1 x13_1).f0), .int .i64 ((rd_T120 l0_1 x13_1).f1), .slice A269_2 ((rd_T120 l0_1 x13_1).f2).length c269_2, .int .i64 ((rd_T120 l0_1 x13_1).f3), .int .i64 ((rd_T120 l0_1 x13_1).f4), .int .i64 ((rd_T120 l0_1 x13_1).f5)]) (bx_ BK270) 0).trans rfl); (case side1 => exact Kd.C_below HR275.out (bl2_ HB GE268.out GE270.out)); (case side2 => exact HC275.out); (case side3 => exact Kd.C_below HR269_2.out (bl2_ HB GE268.out GE270.out)); (case side4 => exact HC269_2.out); rintro e w32 ⟨rfl, hb⟩; refine ⟨_, rfl, ?_⟩; replace BK268 := A_ (blk_below (bx_ BK268) hb); replace BK270 := A_ (blk_below (bx_ BK270) hb); replace HB := A_ (below_step (bl2_ HB GE268.out GE270.out) hb); (try clear hb); (try clear hb2); (try clear hk); (try clear hi)))
          (try simp only [Act.put, List.setIfInBounds_toArray, List.set_cons_zero, List.set_cons_succ])
          go_cut [30] (fun v30 wc => ∃ (kq : Nat) (x30_23 : Bool), v30 = .bool x30_23 ∧ Aside0 (table_contribs.j1 kq l0_1 (l0_1.length : Int) x13_1 x30_23 l0_0 l0_1 l0_2 a0_3 a0_4 ((rd_T120 l0_1 x13_1).f0) ((rd_T120 l0_1 x13_1).f1) ((rd_T120 l0_1 x13_1).f2) ((rd_T120 l0_1 x13_1).f3) ((rd_T120 l0_1 x13_1).f4) ((rd_T120 l0_1 x13_1).f5) = some r) ∧ Aside0 (kq ≤ k1) ∧ Aside0 (wc.heap[gb268]? = some (.cells #[(.slice A0_0 l0_0.length c0_0), (.slice (some ad269) l0_1.length c0_1), (.slice A0_2 l0_2.length c0_2), .int .i64 a0_3, .int .i64 a0_4] 56 (0, 0))) ∧ Aside0 (wc.heap[gb270]? = some (.cells #[.string ((rd_T120 l0_1 x13_1).f0), .int .i64 ((rd_T120 l0_1 x13_1).f1), (.slice A269_2 ((rd_T120 l0_1 x13_1).f2).length c269_2), .int .i64 ((rd_T120 l0_1 x13_1).f3), .int .i64 ((rd_T120 l0_1 x13_1).f4), .int .i64 ((rd_T120 l0_1 x13_1).f5)] 120 (0, 0))) ∧ Aside0 (Below w.heap.size w wc))
          case first =>
           have H := HC24.out; clear HC24; by_cases c33 : ((rd_T120 l0_1 x13_1).f1) = 1
           ·rw [if_pos c33] at H; have c33b0 : (((rd_T120 l0_1 x13_1).f1) == 1) = true := beq_iff_eq.mpr c33; have c33b1 : (((rd_T120 l0_1 x13_1).f1) != 1) = false := bne_eq_false_iff_eq.mpr c33; clear c33
            (first | rw [c33b0] | (simp only [i64_w, i32_w]; rw [c33b0]) | skip)
            have H' := A_ H; clear H; have hnb34 := NB270_268.out; have hnc34 := NB268_270.out; have hcz35_0 := cz_ BK270 0; have hcz35_1 := cz_ BK270 1; have hcz35_2 := cz_ BK270 2; have hcz35_3 := cz_ BK270 3; have hcz35_4 := cz_ BK270 4; have hcz35_5 := cz_ BK270 5; have hfz35_0 := fz_ BK270 0; have hfz35_1 := fz_ BK270 1; have hfz35_2 := fz_ BK270 2; have hfz35_3 := fz_ BK270 3; have hfz35_4 := fz_ BK270 4; have hfz35_5 := fz_ BK270 5
            go_wp2
            go_meet
            case rel => exact ⟨_, (false), (sx_), H', ⟨by have := HK1.out; first | omega | exact Nat.le_refl _⟩, ⟨bx_ BK268⟩, ⟨bx_ BK270⟩, ⟨bl2_ HB GE268.out GE270.out⟩⟩
           ·rw [if_neg c33] at H; have c33b0 : (((rd_T120 l0_1 x13_1).f1) == 1) = false := beq_eq_false_iff_ne.mpr c33; have c33b1 : (((rd_T120 l0_1 x13_1).f1) != 1) = true := bne_iff_ne.mpr c33
            (first | rw [c33b0] | (simp only [i64_w, i32_w]; rw [c33b0]) | skip)
            have H' := A_ H; clear H; have hnb36 := NB270_268.out; have hnc36 := NB268_270.out; have hcz37_0 := cz_ BK270 0; have hcz37_1 := cz_ BK270 1; have hcz37_2 := cz_ BK270 2; have hcz37_3 := cz_ BK270 3; have hcz37_4 := cz_ BK270 4; have hcz37_5 := cz_ BK270 5; have hfz37_0 := fz_ BK270 0; have hfz37_1 := fz_ BK270 1; have hfz37_2 := fz_ BK270 2; have hfz37_3 := fz_ BK270 3; have hfz37_4 := fz_ BK270 4; have hfz37_5 := fz_ BK270 5
            go_wp2
            go_meet
            case rel => exact ⟨_, ((((rd_T120 l0_1 x13_1).f1) != 2)), (sx_), H', ⟨by have := HK1.out; first | omega | exact Nat.le_refl _⟩, ⟨bx_ BK268⟩, ⟨bx_ BK270⟩, ⟨bl2_ HB GE268.out GE270.out⟩⟩
          case rest =>
           clear HC24; try clear c1
           try clear c2
           try clear c2b0
           try clear c2b1
           try clear p2
           try clear q2
           try clear hx2
           try clear c3
           try clear q3
           try clear c7
           try clear c7b0
           try clear c8
           try clear c8b0
           try clear c9
           try clear c9b0
           try clear c10
           try clear c11
           try clear c12
           try clear c12b0
           try clear c13
           try clear c13b0
           try clear c13b1
           try clear c14
           try clear c15
           try clear c17
           try clear q22
           try clear c26
           try clear p26
           try clear q26
           try clear hx26
           try clear q31
           try clear c33
           try clear c33b0
           try clear c33b1
           try clear c34
           try clear c36
           try clear hcz18_0 hcz18_1 hcz18_2 hcz18_3 hcz18_4 hcz18_5
           try clear hcz20_0 hcz20_1 hcz20_2 hcz20_3 hcz20_4 hcz20_5
           try clear hcz21_0 hcz21_1 hcz21_2 hcz21_3 hcz21_4
           try clear hcz27_0 hcz27_1 hcz27_2 hcz27_3 hcz27_4 hcz27_5
           try clear hcz29_0 hcz29_1 hcz29_2 hcz29_3 hcz29_4 hcz29_5
           try clear hcz30_0 hcz30_1 hcz30_2 hcz30_3 hcz30_4
           try clear hcz35_0 hcz35_1 hcz35_2 hcz35_3 hcz35_4 hcz35_5
           try clear hcz37_0 hcz37_1 hcz37_2 hcz37_3 hcz37_4 hcz37_5
           try clear hcz4_0 hcz4_1 hcz4_2 hcz4_3 hcz4_4
           try clear hcz6_0 hcz6_1 hcz6_2 hcz6_3 hcz6_4
           try clear hfz18_0 hfz18_1 hfz18_2 hfz18_3 hfz18_4 hfz18_5
           try clear hfz20_0 hfz20_1 hfz20_2 hfz20_3 hfz20_4 hfz20_5
           try clear hfz21_0 hfz21_1 hfz21_2 hfz21_3 hfz21_4
           try clear hfz27_0 hfz27_1 hfz27_2 hfz27_3 hfz27_4 hfz27_5
           try clear hfz29_0 hfz29_1 hfz29_2 hfz29_3 hfz29_4 hfz29_5
           try clear hfz30_0 hfz30_1 hfz30_2 hfz30_3 hfz30_4
           try clear hfz35_0 hfz35_1 hfz35_2 hfz35_3 hfz35_4 hfz35_5
           try clear hfz37_0 hfz37_1 hfz37_2 hfz37_3 hfz37_4 hfz37_5
           try clear hfz4_0 hfz4_1 hfz4_2 hfz4_3 hfz4_4
           try clear hfz6_0 hfz6_1 hfz6_2 hfz6_3 hfz6_4
           try clear hx269_0
           try clear hx269_1
           try clear hx269_2
           try clear hx269_3
           try clear hx269_4
           try clear hx269_5
           try clear p2
           try clear p269
           try clear q22
           try clear q269
           try clear q31
           obtain ⟨kq, x30_23, rfl, HA, HJ23, BK268, BK270, HB⟩ := hcut
           cases kq with
           | zero => exact absurd HA.out (by simp [table_contribs.j1])
           | succ kj23 =>
            have H := HA.out; clear HA; simp only [table_contribs.j1] at H; have HC38 := A_ H; clear H
            go_upto_if 30 with (fail)
            go_cut [30] (fun v30 wc => ∃ (kq : Nat) (x30_37 : Bool), v30 = .bool x30_37 ∧ Aside0 (table_contribs.j2 kq l0_1 (l0_1.length : Int) x13_1 x30_37 l0_0 l0_1 l0_2 a0_3 a0_4 ((rd_T120 l0_1 x13_1).f0) ((rd_T120 l0_1 x13_1).f1) ((rd_T120 l0_1 x13_1).f2) ((rd_T120 l0_1 x13_1).f3) ((rd_T120 l0_1 x13_1).f4) ((rd_T120 l0_1 x13_1).f5) = some r) ∧ Aside0 (kq ≤ kj23) ∧ Aside0 (wc.heap[gb268]? = some (.cells #[(.slice A0_0 l0_0.length c0_0), (.slice (some ad269) l0_1.length c0_1), (.slice A0_2 l0_2.length c0_2), .int .i64 a0_3, .int .i64 a0_4] 56 (0, 0))) ∧ Aside0 (wc.heap[gb270]? = some (.cells #[.string ((rd_T120 l0_1 x13_1).f0), .int .i64 ((rd_T120 l0_1 x13_1).f1), (.slice A269_2 ((rd_T120 l0_1 x13_1).f2).length c269_2), .int .i64 ((rd_T120 l0_1 x13_1).f3), .int .i64 ((rd_T120 l0_1 x13_1).f4), .int .i64 ((rd_T120 l0_1 x13_1).f5)] 120 (0, 0))) ∧ Aside0 (Below w.heap.size w wc))
            case first =>
             have H := HC38.out; clear HC38; by_cases c39 : x30_23 = true
             ·subst c39; rw [if_pos rfl] at H; have H' := A_ H; clear H
              go_wp2
              go_meet
              case rel => exact ⟨_, (true), (sx_), H', ⟨by have := HK1.out; have := HJ23.out; first | omega | exact Nat.le_refl _⟩, ⟨bx_ BK268⟩, ⟨bx_ BK270⟩, ⟨bl2_ HB GE268.out GE270.out⟩⟩
             ·replace c39 := Bool.eq_false_iff.mpr c39; subst c39; rw [if_neg (show ¬ (false = true) by decide)] at H; replace H := Option.bind_eq_some_iff.mp H; obtain ⟨t277, A400, H⟩ := H; (try dsimp only at H); have A40 := A_ A400; clear A400; have H' := A_ H; clear H; have hnb41 := NB270_268.out; have hnc41 := NB268_270.out; have hcz42_0 := cz_ BK270 0; have hcz42_1 := cz_ BK270 1; have hcz42_2 := cz_ BK270 2; have hcz42_3 := cz_ BK270 3; have hcz42_4 := cz_ BK270 4; have hcz42_5 := cz_ BK270 5; have hfz42_0 := fz_ BK270 0; have hfz42_1 := fz_ BK270 1; have hfz42_2 := fz_ BK270 2; have hfz42_3 := fz_ BK270 3; have hfz42_4 := fz_ BK270 4; have hfz42_5 := fz_ BK270 5; go_wp2_with (first | ((with_reducible refine gate_callee (f := 104) rfl ?_); refine gm_ (some 41) Try.func104 #[.int .i64 ((rd_T120 l0_1 x13_1).f5)] ?_; (with_reducible refine (frac_Mode.calls ((rd_T120 l0_1 x13_1).f5) t277 _ A40.out).mono ?_); rintro e w' ⟨rfl, ⟨nd, rfl⟩⟩; refine ⟨_, rfl, ?_⟩))
              go_meet
              case rel => exact ⟨_, (!t277), (sx_), H', ⟨by have := HK1.out; have := HJ23.out; first | omega | exact Nat.le_refl _⟩, ⟨bx_ BK268⟩, ⟨bx_ BK270⟩, ⟨bl2_ HB GE268.out GE270.out⟩⟩
            case rest =>
             clear HC38; try clear c1
             try clear c2
             try clear c2b0
             try clear c2b1
             try clear p2
             try clear q2
             try clear hx2
             try clear c3
             try clear q3
             try clear c4
             try clear c7
             try clear c7b0
             try clear c8
             try clear c8b0
             try clear c9
             try clear c9b0
             try clear c10
             try clear c11
             try clear c12
             try clear c12b0
             try clear c13
             try clear c13b0
             try clear c13b1
             try clear c14
             try clear c15
             try clear c17
             try clear q22
             try clear c26
             try clear p26
             try clear q26
             try clear hx26
             try clear q31
             try clear c33
             try clear c33b0
             try clear c33b1
             try clear c34
             try clear c36
             try clear c39
             try clear c41
             try clear hcz18_0 hcz18_1 hcz18_2 hcz18_3 hcz18_4 hcz18_5
             try clear hcz20_0 hcz20_1 hcz20_2 hcz20_3 hcz20_4 hcz20_5
             try clear hcz21_0 hcz21_1 hcz21_2 hcz21_3 hcz21_4
             try clear hcz27_0 hcz27_1 hcz27_2 hcz27_3 hcz27_4 hcz27_5
             try clear hcz29_0 hcz29_1 hcz29_2 hcz29_3 hcz29_4 hcz29_5
             try clear hcz30_0 hcz30_1 hcz30_2 hcz30_3 hcz30_4
             try clear hcz35_0 hcz35_1 hcz35_2 hcz35_3 hcz35_4 hcz35_5
             try clear hcz37_0 hcz37_1 hcz37_2 hcz37_3 hcz37_4 hcz37_5
             try clear hcz42_0 hcz42_1 hcz42_2 hcz42_3 hcz42_4 hcz42_5
             try clear hcz4_0 hcz4_1 hcz4_2 hcz4_3 hcz4_4
             try clear hcz6_0 hcz6_1 hcz6_2 hcz6_3 hcz6_4
             try clear hfz18_0 hfz18_1 hfz18_2 hfz18_3 hfz18_4 hfz18_5
             try clear hfz20_0 hfz20_1 hfz20_2 hfz20_3 hfz20_4 hfz20_5
             try clear hfz21_0 hfz21_1 hfz21_2 hfz21_3 hfz21_4
             try clear hfz27_0 hfz27_1 hfz27_2 hfz27_3 hfz27_4 hfz27_5
             try clear hfz29_0 hfz29_1 hfz29_2 hfz29_3 hfz29_4 hfz29_5
             try clear hfz30_0 hfz30_1 hfz30_2 hfz30_3 hfz30_4
             try clear hfz35_0 hfz35_1 hfz35_2 hfz35_3 hfz35_4 hfz35_5
             try clear hfz37_0 hfz37_1 hfz37_2 hfz37_3 hfz37_4 hfz37_5
             try clear hfz42_0 hfz42_1 hfz42_2 hfz42_3 hfz42_4 hfz42_5
             try clear hfz4_0 hfz4_1 hfz4_2 hfz4_3 hfz4_4
             try clear hfz6_0 hfz6_1 hfz6_2 hfz6_3 hfz6_4
             try clear hx269_0
             try clear hx269_1
             try clear hx269_2
             try clear hx269_3
             try clear hx269_4
             try clear hx269_5
             try clear p2
             try clear p26
             try clear p269
             try clear q2
             try clear q22
             try clear q26
             try clear q269
             try clear q3
             try clear q31
             obtain ⟨kq, x30_37, rfl, HA, HJ37, BK268, BK270, HB⟩ := hcut
             cases kq with
             | zero => exact absurd HA.out (by simp [table_contribs.j2])
             | succ kj37 =>
              have H := HA.out; clear HA; simp only [table_contribs.j2] at H; by_cases c43 : x30_37 = true
              ·subst c43; rw [if_pos rfl] at H; obtain rfl := Option.some.inj H
               go_wp2
               go_ret
               exact ⟨er_, bl2_ HB GE268.out GE270.out⟩
              ·replace c43 := Bool.eq_false_iff.mpr c43; subst c43; rw [if_neg (show ¬ (false = true) by decide)] at H; have HC44 := A_ H; clear H; go_upto_region 13 with (fail)
               go_cut [43] (fun v43 wc => ∃ (kq : Nat) (x43_43 : Bool), v43 = .bool x43_43 ∧ Aside0 (table_contribs.j3 kq l0_1 (l0_1.length : Int) x13_1 x43_43 l0_0 l0_1 l0_2 a0_3 a0_4 ((rd_T120 l0_1 x13_1).f0) ((rd_T120 l0_1 x13_1).f1) ((rd_T120 l0_1 x13_1).f2) ((rd_T120 l0_1 x13_1).f3) ((rd_T120 l0_1 x13_1).f4) ((rd_T120 l0_1 x13_1).f5) = some r) ∧ Aside0 (kq ≤ kj37) ∧ Aside0 (wc.heap[gb268]? = some (.cells #[(.slice A0_0 l0_0.length c0_0), (.slice (some ad269) l0_1.length c0_1), (.slice A0_2 l0_2.length c0_2), .int .i64 a0_3, .int .i64 a0_4] 56 (0, 0))) ∧ Aside0 (wc.heap[gb270]? = some (.cells #[.string ((rd_T120 l0_1 x13_1).f0), .int .i64 ((rd_T120 l0_1 x13_1).f1), (.slice A269_2 ((rd_T120 l0_1 x13_1).f2).length c269_2), .int .i64 ((rd_T120 l0_1 x13_1).f3), .int .i64 ((rd_T120 l0_1 x13_1).f4), .int .i64 ((rd_T120 l0_1 x13_1).f5)] 120 (0, 0))) ∧ Aside0 (Below w.heap.size w wc))
               case first =>
                have H := HC44.out; clear HC44; by_cases c45 : ((rd_T120 l0_1 x13_1).f3) < 0
                ·rw [if_pos c45] at H; have c45b0 := decide_eq_true c45; clear c45
                 (first | rw [c45b0] | (simp only [i64_w, i32_w]; rw [c45b0]) | skip)
                 have H' := A_ H; clear H; have hnb46 := NB270_268.out; have hnc46 := NB268_270.out; have hcz47_0 := cz_ BK270 0; have hcz47_1 := cz_ BK270 1; have hcz47_2 := cz_ BK270 2; have hcz47_3 := cz_ BK270 3; have hcz47_4 := cz_ BK270 4; have hcz47_5 := cz_ BK270 5; have hfz47_0 := fz_ BK270 0; have hfz47_1 := fz_ BK270 1; have hfz47_2 := fz_ BK270 2; have hfz47_3 := fz_ BK270 3; have hfz47_4 := fz_ BK270 4; have hfz47_5 := fz_ BK270 5
                 go_wp2
                 go_meet
                 case rel => exact ⟨_, (true), (sx_), H', ⟨by have := HK1.out; have := HJ23.out; have := HJ37.out; first | omega | exact Nat.le_refl _⟩, ⟨bx_ BK268⟩, ⟨bx_ BK270⟩, ⟨bl2_ HB GE268.out GE270.out⟩⟩
                ·rw [if_neg c45] at H; have c45b0 := decide_eq_false c45; clear c45
                 (first | rw [c45b0] | (simp only [i64_w, i32_w]; rw [c45b0]) | skip)
                 by_cases c48 : ((rd_T120 l0_1 x13_1).f3) > 100000000000
                 ·rw [if_pos c48] at H; have c48b0 : decide (100000000000 < ((rd_T120 l0_1 x13_1).f3)) = true := decide_eq_true c48; clear c48; have H' := A_ H; clear H; have hnb49 := NB270_268.out; have hnc49 := NB268_270.out; have hcz50_0 := cz_ BK270 0; have hcz50_1 := cz_ BK270 1; have hcz50_2 := cz_ BK270 2; have hcz50_3 := cz_ BK270 3; have hcz50_4 := cz_ BK270 4; have hcz50_5 := cz_ BK270 5; have hfz50_0 := fz_ BK270 0; have hfz50_1 := fz_ BK270 1; have hfz50_2 := fz_ BK270 2; have hfz50_3 := fz_ BK270 3; have hfz50_4 := fz_ BK270 4; have hfz50_5 := fz_ BK270 5
                  go_wp2
                  go_meet
                  case rel => exact ⟨_, (true), (sx_), H', ⟨by have := HK1.out; have := HJ23.out; have := HJ37.out; first | omega | exact Nat.le_refl _⟩, ⟨bx_ BK268⟩, ⟨bx_ BK270⟩, ⟨bl2_ HB GE268.out GE270.out⟩⟩
                 ·rw [if_neg c48] at H; have c48b0 : decide (100000000000 < ((rd_T120 l0_1 x13_1).f3)) = false := decide_eq_false c48; clear c48; by_cases c51 : ((rd_T120 l0_1 x13_1).f4) < 0
                  ·rw [if_pos c51] at H; have c51b0 := decide_eq_true c51; clear c51; have H' := A_ H; clear H; have hnb52 := NB270_268.out; have hnc52 := NB268_270.out; have hcz53_0 := cz_ BK270 0; have hcz53_1 := cz_ BK270 1; have hcz53_2 := cz_ BK270 2; have hcz53_3 := cz_ BK270 3; have hcz53_4 := cz_ BK270 4; have hcz53_5 := cz_ BK270 5; have hfz53_0 := fz_ BK270 0; have hfz53_1 := fz_ BK270 1; have hfz53_2 := fz_ BK270 2; have hfz53_3 := fz_ BK270 3; have hfz53_4 := fz_ BK270 4; have hfz53_5 := fz_ BK270 5
                   go_wp2
                   go_meet
                   case rel => exact ⟨_, (true), (sx_), H', ⟨by have := HK1.out; have := HJ23.out; have := HJ37.out; first | omega | exact Nat.le_refl _⟩, ⟨bx_ BK268⟩, ⟨bx_ BK270⟩, ⟨bl2_ HB GE268.out GE270.out⟩⟩
                  ·rw [if_neg c51] at H; have c51b0 := decide_eq_false c51; clear c51; have H' := A_ H; clear H; have hnb54 := NB270_268.out; have hnc54 := NB268_270.out; have hcz55_0 := cz_ BK270 0; have hcz55_1 := cz_ BK270 1; have hcz55_2 := cz_ BK270 2; have hcz55_3 := cz_ BK270 3; have hcz55_4 := cz_ BK270 4; have hcz55_5 := cz_ BK270 5; have hfz55_0 := fz_ BK270 0; have hfz55_1 := fz_ BK270 1; have hfz55_2 := fz_ BK270 2; have hfz55_3 := fz_ BK270 3; have hfz55_4 := fz_ BK270 4; have hfz55_5 := fz_ BK270 5
                   go_wp2
                   go_meet
                   case rel => exact ⟨_, (decide (((rd_T120 l0_1 x13_1).f4) > 100000000000)), (sx_), H', ⟨by have := HK1.out; have := HJ23.out; have := HJ37.out; first | omega | exact Nat.le_refl _⟩, ⟨bx_ BK268⟩, ⟨bx_ BK270⟩, ⟨bl2_ HB GE268.out GE270.out⟩⟩
               case rest =>
                clear HC44; try clear c1
                try clear c2
                try clear c2b0
                try clear c2b1
                try clear p2
                try clear q2
                try clear hx2
                try clear c3
                try clear q3
                try clear c4
                try clear c5
                try clear c7
                try clear c7b0
                try clear c8
                try clear c8b0
                try clear c9
                try clear c9b0
                try clear c10
                try clear c11
                try clear c12
                try clear c12b0
                try clear c13
                try clear c13b0
                try clear c13b1
                try clear c14
                try clear c15
                try clear c17
                try clear q22
                try clear c26
                try clear p26
                try clear q26
                try clear hx26
                try clear q31
                try clear c33
                try clear c33b0
                try clear c33b1
                try clear c34
                try clear c36
                try clear c39
                try clear c41
                try clear c43
                try clear c45
                try clear c45b0
                try clear c46
                try clear c48
                try clear c48b0
                try clear c49
                try clear c51
                try clear c51b0
                try clear c52
                try clear c54
                try clear hcz18_0 hcz18_1 hcz18_2 hcz18_3 hcz18_4 hcz18_5
                try clear hcz20_0 hcz20_1 hcz20_2 hcz20_3 hcz20_4 hcz20_5
                try clear hcz21_0 hcz21_1 hcz21_2 hcz21_3 hcz21_4
                try clear hcz27_0 hcz27_1 hcz27_2 hcz27_3 hcz27_4 hcz27_5
                try clear hcz29_0 hcz29_1 hcz29_2 hcz29_3 hcz29_4 hcz29_5
                try clear hcz30_0 hcz30_1 hcz30_2 hcz30_3 hcz30_4
                try clear hcz35_0 hcz35_1 hcz35_2 hcz35_3 hcz35_4 hcz35_5
                try clear hcz37_0 hcz37_1 hcz37_2 hcz37_3 hcz37_4 hcz37_5
                try clear hcz42_0 hcz42_1 hcz42_2 hcz42_3 hcz42_4 hcz42_5
                try clear hcz47_0 hcz47_1 hcz47_2 hcz47_3 hcz47_4 hcz47_5
                try clear hcz4_0 hcz4_1 hcz4_2 hcz4_3 hcz4_4
                try clear hcz50_0 hcz50_1 hcz50_2 hcz50_3 hcz50_4 hcz50_5
                try clear hcz53_0 hcz53_1 hcz53_2 hcz53_3 hcz53_4 hcz53_5
                try clear hcz55_0 hcz55_1 hcz55_2 hcz55_3 hcz55_4 hcz55_5
                try clear hcz6_0 hcz6_1 hcz6_2 hcz6_3 hcz6_4
                try clear hfz18_0 hfz18_1 hfz18_2 hfz18_3 hfz18_4 hfz18_5
                try clear hfz20_0 hfz20_1 hfz20_2 hfz20_3 hfz20_4 hfz20_5
                try clear hfz21_0 hfz21_1 hfz21_2 hfz21_3 hfz21_4
                try clear hfz27_0 hfz27_1 hfz27_2 hfz27_3 hfz27_4 hfz27_5
                try clear hfz29_0 hfz29_1 hfz29_2 hfz29_3 hfz29_4 hfz29_5
                try clear hfz30_0 hfz30_1 hfz30_2 hfz30_3 hfz30_4
                try clear hfz35_0 hfz35_1 hfz35_2 hfz35_3 hfz35_4 hfz35_5
                try clear hfz37_0 hfz37_1 hfz37_2 hfz37_3 hfz37_4 hfz37_5
                try clear hfz42_0 hfz42_1 hfz42_2 hfz42_3 hfz42_4 hfz42_5
                try clear hfz47_0 hfz47_1 hfz47_2 hfz47_3 hfz47_4 hfz47_5
                try clear hfz4_0 hfz4_1 hfz4_2 hfz4_3 hfz4_4
                try clear hfz50_0 hfz50_1 hfz50_2 hfz50_3 hfz50_4 hfz50_5
                try clear hfz53_0 hfz53_1 hfz53_2 hfz53_3 hfz53_4 hfz53_5
                try clear hfz55_0 hfz55_1 hfz55_2 hfz55_3 hfz55_4 hfz55_5
                try clear hfz6_0 hfz6_1 hfz6_2 hfz6_3 hfz6_4
                try clear hx269_0
                try clear hx269_1
                try clear hx269_2
                try clear hx269_3
                try clear hx269_4
                try clear hx269_5
                try clear p2
                try clear p26
                try clear p269
                try clear q2
                try clear q22
                try clear q26
                try clear q269
                try clear q3
                try clear q31
                obtain ⟨kq, x43_43, rfl, HA, HJ43, BK268, BK270, HB⟩ := hcut
                cases kq with
                | zero => exact absurd HA.out (by simp [table_contribs.j3])
                | succ kj43 =>
                 have H := HA.out; clear HA; simp only [table_contribs.j3] at H; by_cases c56 : x43_43 = true
                 ·subst c56; rw [if_pos rfl] at H; obtain rfl := Option.some.inj H
                  go_wp2
                  go_ret
                  exact ⟨er_, bl2_ HB GE268.out GE270.out⟩
                 ·replace c56 := Bool.eq_false_iff.mpr c56; subst c56; rw [if_neg (show ¬ (false = true) by decide)] at H; replace H := Option.bind_eq_some_iff.mp H; obtain ⟨t278, A570, H⟩ := H; (try dsimp only at H); have A57 := A_ A570; clear A570; by_cases c58 : t278 = 0
                  ·rw [if_pos c58] at H; have c58b0 : (t278 == 0) = true := beq_iff_eq.mpr c58; have c58b1 : (t278 != 0) = false := bne_eq_false_iff_eq.mpr c58; clear c58; have H' := A_ H; clear H; have hnb59 := NB270_268.out; have hnc59 := NB268_270.out; have hcz60_0 := cz_ BK270 0; have hcz60_1 := cz_ BK270 1; have hcz60_2 := cz_ BK270 2; have hcz60_3 := cz_ BK270 3; have hcz60_4 := cz_ BK270 4; have hcz60_5 := cz_ BK270 5; have hfz60_0 := fz_ BK270 0; have hfz60_1 := fz_ BK270 1; have hfz60_2 := fz_ BK270 2; have hfz60_3 := fz_ BK270 3; have hfz60_4 := fz_ BK270 4; have hfz60_5 := fz_ BK270 5; go_wp2_with (first | ((with_reducible refine gate_callee (f := 36) rfl ?_); refine gm_ (some 64) Try.func36 #[.slice A269_2 ((rd_T120 l0_1 x13_1).f2).length c269_2] ?_; (with_reducible refine (band_Check.calls _ _ ((rd_T120 l0_1 x13_1).f2) t278 _ ?side1 ?side2 A57.out).mono ?_); (case side1 => exact cb_ HR269_2 HB); (case side2 => exact HC269_2.out); rintro e w61 ⟨rfl, hb⟩; refine ⟨_, rfl, ?_⟩; replace BK268 := A_ (blk_below (bx_ BK268) hb); replace BK270 := A_ (blk_below (bx_ BK270) hb); replace HB := A_ (below_step (bl2_ HB GE268.out GE270.out) hb); (try clear hb); (try clear hb2); (try clear hk); (try clear hi)))
                   go_roundg kj43
                   case measure => have := HK1.out; have := HJ23.out; have := HJ37.out; have := HJ43.out; omega
                   case rel => exact ⟨(wrap64 (x13_1 + 1)), (sx_), H', ⟨by have := HK1.out; have := HJ23.out; have := HJ37.out; have := HJ43.out; omega⟩, ⟨bx_ BK268⟩, ⟨bl2_ HB GE268.out GE270.out⟩⟩
                  ·rw [if_neg c58] at H; have c58b0 : (t278 == 0) = false := beq_eq_false_iff_ne.mpr c58; have c58b1 : (t278 != 0) = true := bne_iff_ne.mpr c58; obtain rfl := Option.some.inj H; have hnb62 := NB270_268.out; have hnc62 := NB268_270.out; have hcz63_0 := cz_ BK270 0; have hcz63_1 := cz_ BK270 1; have hcz63_2 := cz_ BK270 2; have hcz63_3 := cz_ BK270 3; have hcz63_4 := cz_ BK270 4; have hcz63_5 := cz_ BK270 5; have hfz63_0 := fz_ BK270 0; have hfz63_1 := fz_ BK270 1; have hfz63_2 := fz_ BK270 2; have hfz63_3 := fz_ BK270 3; have hfz63_4 := fz_ BK270 4; have hfz63_5 := fz_ BK270 5; go_wp2_with (first | ((with_reducible refine gate_callee (f := 36) rfl ?_); refine gm_ (some 64) Try.func36 #[.slice A269_2 ((rd_T120 l0_1 x13_1).f2).length c269_2] ?_; (with_reducible refine (band_Check.calls _ _ ((rd_T120 l0_1 x13_1).f2) t278 _ ?side1 ?side2 A57.out).mono ?_); (case side1 => exact cb_ HR269_2 HB); (case side2 => exact HC269_2.out); rintro e w64 ⟨rfl, hb⟩; refine ⟨_, rfl, ?_⟩; replace BK268 := A_ (blk_below (bx_ BK268) hb); replace BK270 := A_ (blk_below (bx_ BK270) hb); replace HB := A_ (below_step (bl2_ HB GE268.out GE270.out) hb); (try clear hb); (try clear hb2); (try clear hk); (try clear hi)))
                   go_ret
                   exact ⟨er_, bl2_ HB GE268.out GE270.out⟩
        ·rw [if_neg c13] at H; exact absurd H (by simp)
       ·replace c11 := Bool.eq_false_iff.mpr c11; subst c11; rw [if_neg (show ¬ (false = true) by decide)] at H; obtain rfl := Option.some.inj H; have p269 : 0 ≤ (x13_1 : Int) := od_; have q269 : x13_1 < (l0_1.length : Int) := od_; obtain ⟨ad269, A269_2, c269_2, e269, hx269_0, hx269_1, hx269_2, hx269_3, hx269_4, hx269_5, hl269_2, hi269_2⟩ := at_T120 HR0_1.out x13_1 p269 q269; cases e269; replace hx269_0 := (HB.out.cell (World.block_lt_of_cell? w _ hx269_0)).trans hx269_0; replace hx269_1 := (HB.out.cell (World.block_lt_of_cell? w _ hx269_1)).trans hx269_1; replace hx269_2 := (HB.out.cell (World.block_lt_of_cell? w _ hx269_2)).trans hx269_2; replace hx269_3 := (HB.out.cell (World.block_lt_of_cell? w _ hx269_3)).trans hx269_3; replace hx269_4 := (HB.out.cell (World.block_lt_of_cell? w _ hx269_4)).trans hx269_4; replace hx269_5 := (HB.out.cell (World.block_lt_of_cell? w _ hx269_5)).trans hx269_5; have HR269_2 := A_ hi269_2; have HC269_2 := A_ hl269_2; clear hi269_2 hl269_2; replace p269 := eq_true p269; replace q269 := eq_true q269; go_wp2_with (first | ((with_reducible refine gate_dst (N := 4) rfl ?_); refine be_ (N := 4) (cs := #[.string (⟨#[]⟩ : ByteArray), .int .i64 0, .slice none 0 0, .int .i64 0, .int .i64 0, .int .i64 0]) (t := 120) ?_; intro gb270 hg w65 hbox hb; have BK270 := A_ (hbox); have GW270 := A_ ((by rw [hg]; exact (below_size (bl1_ HB GE268.out)) : w.heap.size ≤ gb270)); have GE270 := A_ ((by rw [hg]; exact (below_size (bl1_ HB GE268.out)) : w.heap.size ≤ gb270)); have NB268_270 := A_ ((by rw [hg]; exact Nat.ne_of_lt (blk_lt (bx_ BK268)) : gb268 ≠ gb270)); have NB270_268 := A_ ((by rw [hg]; exact Nat.ne_of_gt (blk_lt (bx_ BK268)) : gb270 ≠ gb268)); replace BK268 := A_ (blk_below (bx_ BK268) hb); replace HB := A_ (below_step (bl1_ HB GE268.out) hb); clear hb hbox hg; have hnb66 := NB270_268.out; have hnc66 := NB268_270.out; have hcz67_0 := cz_ BK270 0; have hcz67_1 := cz_ BK270 1; have hcz67_2 := cz_ BK270 2; have hcz67_3 := cz_ BK270 3; have hcz67_4 := cz_ BK270 4; have hcz67_5 := cz_ BK270 5; have hfz67_0 := fz_ BK270 0; have hfz67_1 := fz_ BK270 1; have hfz67_2 := fz_ BK270 2; have hfz67_3 := fz_ BK270 3; have hfz67_4 := fz_ BK270 4; have hfz67_5 := fz_ BK270 5) | ((with_reducible refine gate_callee (f := 140) rfl ?_); refine gm_ (some 21) Try.func140 #[.string ((rd_T120 l0_1 x13_1).f0)] ?_; (with_reducible refine (word_Name.calls k1 ((rd_T120 l0_1 x13_1).f0) false _ A10.out).mono ?_); rintro e w' ⟨rfl, ⟨nd, rfl⟩⟩; refine ⟨_, rfl, ?_⟩))
        go_ret
        exact ⟨er_, bl2_ HB GE268.out GE270.out⟩
      ·rw [if_neg c9] at H; exact absurd H (by simp)
     ·rw [if_neg c8] at H; exact absurd H (by simp)
    ·rw [if_neg c7] at H; have c7b0 := decide_eq_false c7; clear c7; obtain rfl := Option.some.inj H
     go_wp2
     go_ret
     exact ⟨er_, bl1_ HB GE268.out⟩
def table_sign.f (a0 : Int) : Option (Bool) := if a0 ≥ (-1) then (some (decide (a0 ≤ 1))) else (some false)
set_option maxHeartbeats 8000000 in
set_option maxRecDepth 100000 in
theorem table_sign.calls (a0 : Int) (r : Bool) (w : World) (h : table_sign.f a0 = some r) :
  Calls Try.prog 145 #[.int .i64 a0] w fun e w' => e = .returned (.bool r) ∧ Drawn0 w w' := by
 unfold table_sign.f at h; have H := h; clear h; by_cases c2 : a0 ≥ (-1)
 ·rw [if_pos c2] at H; have c2b0 : decide ((-1) ≤ a0) = true := decide_eq_true c2; clear c2; obtain rfl := Option.some.inj H; go_enter Try.func145, Try.ntmps145
  go_wp2
  go_ret
  exact ⟨sx_, by repeat (first | exact Drawn0.refl _ | apply Drawn0.step)⟩
 ·rw [if_neg c2] at H; have c2b0 : decide ((-1) ≤ a0) = false := decide_eq_false c2; clear c2; obtain rfl := Option.some.inj H; go_enter Try.func145, Try.ntmps145
  go_wp2
  go_ret
  exact ⟨sx_, by repeat (first | exact Drawn0.refl _ | apply Drawn0.step)⟩
mutual
def table_kinds.j0 : Nat → Bool → List (List (S106)) → List (S120) → List (S209) → Int → Int → Option (Int)
 | 0, _, _, _, _, _, _ => none
 | k + 1, x14, x280000, x280001, x280002, x280003, x280004 => if x14 = true then (some 2) else (table_kinds.l0 k x280002 (x280002.length : Int) 0 x280000 x280001 x280002 x280003 x280004)
def table_kinds.l0 : Nat → List (S209) → Int → Int → List (List (S106)) → List (S120) → List (S209) → Int → Int → Option (Int)
 | 0, _, _, _, _, _, _, _, _ => none
 | k + 1, x16, x17, x18, x280000, x280001, x280002, x280003, x280004 => if x18 < x17 then (if 0 ≤ x18 then (if x18 < (x16.length : Int) then ((word_Name.f k ((rd_T209 x16 x18).f0)).bind fun t282 => (if t282 = true then (if x18 ≤ (x280002.length : Int) then ((api_Kind_143.f (x280002.take (x18 : Int).toNat) ((rd_T209 x16 x18).f0) ((rd_T209 x16 x18).f1) ((rd_T209 x16 x18).f2) ((rd_T209 x16 x18).f3)).bind fun t287 => (if t287 = true then (some 4) else ((table_sign.f ((rd_T209 x16 x18).f1)).bind fun t288 => (if t288 = true then ((table_sign.f ((rd_T209 x16 x18).f2)).bind fun t289 => (if t289 = true then ((table_sign.f ((rd_T209 x16 x18).f3)).bind fun t290 => (table_kinds.j2 k x16 x17 x18 (!t290) x280000 x280001 x280002 x280003 x280004)) else (table_kinds.j2 k x16 x17 x18 true x280000 x280001 x280002 x280003 x280004))) else (table_kinds.j2 k x16 x17 x18 true x280000 x280001 x280002 x280003 x280004))))) else (none)) else (some 5))) else (none)) else (none)) else (some 0)
def table_kinds.j2 : Nat → List (S209) → Int → Int → Bool → List (List (S106)) → List (S120) → List (S209) → Int → Int → Option (Int)
 | 0, _, _, _, _, _, _, _, _, _ => none
 | k + 1, x16, x17, x18, x35, x280000, x280001, x280002, x280003, x280004 => if x35 = true then (some 1) else (table_kinds.l0 k x16 x17 (wrap64 (x18 + 1)) x280000 x280001 x280002 x280003 x280004)
end
def table_kinds.f (k : Nat) (l0_0 : List (List (S106))) (l0_1 : List (S120)) (l0_2 : List (S209)) (a0_3 : Int) (a0_4 : Int) : Option (Int) := if (l0_2.length : Int) = 0 then (table_kinds.j0 k true l0_0 l0_1 l0_2 a0_3 a0_4) else (table_kinds.j0 k (decide ((l0_2.length : Int) > 12)) l0_0 l0_1 l0_2 a0_3 a0_4)
set_option maxHeartbeats 8000000 in
set_option maxRecDepth 100000 in
theorem table_kinds.calls (k : Nat) (A0_0 : Option Addr) (c0_0 : Nat) (l0_0 : List (List (S106))) (A0_1 : Option Addr) (c0_1 : Nat) (l0_1 : List (S120)) (A0_2 : Option Addr) (c0_2 : Nat) (l0_2 : List (S209)) (a0_3 : Int) (a0_4 : Int) (r : Int) (w : World) (hr0_0 : Kd.C (Kd.slice 106 k106) w A0_0 l0_0.length l0_0) (hc0_0 : l0_0.length ≤ c0_0) (hr0_1 : Kd.C k120 w A0_1 l0_1.length l0_1) (hc0_1 : l0_1.length ≤ c0_1) (hr0_2 : Kd.C k209 w A0_2 l0_2.length l0_2) (hc0_2 : l0_2.length ≤ c0_2) (h : table_kinds.f k l0_0 l0_1 l0_2 a0_3 a0_4 = some r) :
  Calls Try.prog 107 #[.agg #[.slice A0_0 l0_0.length c0_0, .slice A0_1 l0_1.length c0_1, .slice A0_2 l0_2.length c0_2, .int .i64 a0_3, .int .i64 a0_4]] w fun e w' => e = .returned (.int .i64 r) ∧ Below w.heap.size w w' := by
 have hu56 := Try.underlying56; have hu209 := Try.underlying209; have HR0_0 := A_ hr0_0; have HC0_0 := A_ hc0_0; clear hr0_0 hc0_0; have HR0_1 := A_ hr0_1; have HC0_1 := A_ hc0_1; clear hr0_1 hc0_1; have HR0_2 := A_ hr0_2; have HC0_2 := A_ hc0_2; clear hr0_2 hc0_2; have HB := A_ (Below.refl w.heap.size w); unfold table_kinds.f at h; have H := h; clear h; have HC2 := A_ H; clear H; go_enter Try.func107, Try.ntmps107
 go_upto_region 1 with (first | ((with_reducible refine gate_dst (N := 1) rfl ?_); refine be_ (N := 1) (cs := #[.slice A0_0 l0_0.length c0_0, .slice A0_1 l0_1.length c0_1, .slice A0_2 l0_2.length c0_2, .int .i64 a0_3, .int .i64 a0_4]) (t := 56) ?_; intro gb279 hg w3 hbox hb; have BK279 := A_ (hbox); have GW279 := A_ ((by rw [hg]; exact (below_size (bl_ HB)) : w.heap.size ≤ gb279)); have GE279 := A_ ((by rw [hg]; exact (below_size (bl_ HB)) : w.heap.size ≤ gb279)); replace HB := A_ (below_step (bl_ HB) hb); clear hb hbox hg))
 (try simp only [Act.put, List.setIfInBounds_toArray, List.set_cons_zero, List.set_cons_succ])
 go_cut [14] (fun v14 wc => ∃ (kq : Nat) (x14_1 : Bool), v14 = .bool x14_1 ∧ Aside0 (table_kinds.j0 kq x14_1 l0_0 l0_1 l0_2 a0_3 a0_4 = some r) ∧ Aside0 (kq ≤ k) ∧ Aside0 (wc.heap[gb279]? = some (.cells #[(.slice A0_0 l0_0.length c0_0), (.slice A0_1 l0_1.length c0_1), (.slice A0_2 l0_2.length c0_2), .int .i64 a0_3, .int .i64 a0_4] 56 (0, 0))) ∧ Aside0 (Below w.heap.size w wc))
 case first =>
  have H := HC2.out; clear HC2; by_cases c4 : (l0_2.length : Int) = 0
  ·rw [if_pos c4] at H; have c4b0 : ((l0_2.length : Int) == 0) = true := beq_iff_eq.mpr c4; have c4b1 : ((l0_2.length : Int) != 0) = false := bne_eq_false_iff_eq.mpr c4; clear c4
   (first | rw [c4b0] | (simp only [i64_w, i32_w]; rw [c4b0]) | skip)
   have H' := A_ H; clear H; have hcz5_0 := cz_ BK279 0; have hcz5_1 := cz_ BK279 1; have hcz5_2 := cz_ BK279 2; have hcz5_3 := cz_ BK279 3; have hcz5_4 := cz_ BK279 4; have hfz5_0 := fz_ BK279 0; have hfz5_1 := fz_ BK279 1; have hfz5_2 := fz_ BK279 2; have hfz5_3 := fz_ BK279 3; have hfz5_4 := fz_ BK279 4
   go_wp2
   go_meet
   case rel => exact ⟨_, (true), (sx_), H', ⟨by first | omega | exact Nat.le_refl _⟩, ⟨bx_ BK279⟩, ⟨bl1_ HB GE279.out⟩⟩
  ·rw [if_neg c4] at H; have c4b0 : ((l0_2.length : Int) == 0) = false := beq_eq_false_iff_ne.mpr c4; have c4b1 : ((l0_2.length : Int) != 0) = true := bne_iff_ne.mpr c4; have c4b2 : ¬ (l0_2 = []) := fun h_ => c4 (by rw [h_]; rfl)
   (first | rw [c4b0] | (simp only [i64_w, i32_w]; rw [c4b0]) | skip)
   have H' := A_ H; clear H; have hcz6_0 := cz_ BK279 0; have hcz6_1 := cz_ BK279 1; have hcz6_2 := cz_ BK279 2; have hcz6_3 := cz_ BK279 3; have hcz6_4 := cz_ BK279 4; have hfz6_0 := fz_ BK279 0; have hfz6_1 := fz_ BK279 1; have hfz6_2 := fz_ BK279 2; have hfz6_3 := fz_ BK279 3; have hfz6_4 := fz_ BK279 4
   go_wp2
   go_meet
   case rel => exact ⟨_, (decide ((l0_2.length : Int) > 12)), (sx_), H', ⟨by first | omega | exact Nat.le_refl _⟩, ⟨bx_ BK279⟩, ⟨bl1_ HB GE279.out⟩⟩
 case rest =>
  clear HC2; try clear c1
  try clear p2
  try clear c4
  try clear c4b0
  try clear c4b1
  try clear c4b2
  try clear hcz5_0 hcz5_1 hcz5_2 hcz5_3 hcz5_4
  try clear hcz6_0 hcz6_1 hcz6_2 hcz6_3 hcz6_4
  try clear hfz5_0 hfz5_1 hfz5_2 hfz5_3 hfz5_4
  try clear hfz6_0 hfz6_1 hfz6_2 hfz6_3 hfz6_4
  obtain ⟨kq, x14_1, rfl, HA, HJ1, BK279, HB⟩ := hcut
  cases kq with
  | zero => exact absurd HA.out (by simp [table_kinds.j0])
  | succ kj1 =>
   have H := HA.out; clear HA; simp only [table_kinds.j0] at H; by_cases c7 : x14_1 = true
   ·subst c7; rw [if_pos rfl] at H; obtain rfl := Option.some.inj H
    go_wp2
    go_ret
    exact ⟨er_, bl1_ HB GE279.out⟩
   ·replace c7 := Bool.eq_false_iff.mpr c7; subst c7; rw [if_neg (show ¬ (false = true) by decide)] at H; have H' := A_ H; clear H; have hcz8_0 := cz_ BK279 0; have hcz8_1 := cz_ BK279 1; have hcz8_2 := cz_ BK279 2; have hcz8_3 := cz_ BK279 3; have hcz8_4 := cz_ BK279 4; have hfz8_0 := fz_ BK279 0; have hfz8_1 := fz_ BK279 1; have hfz8_2 := fz_ BK279 2; have hfz8_3 := fz_ BK279 3; have hfz8_4 := fz_ BK279 4
    go_wp2
    go_loopg [18] kj1 (fun kq v18 w' => ∃ (x18_2 : Int), v18 = .int .i64 x18_2 ∧ Aside0 (table_kinds.l0 kq l0_2 (l0_2.length : Int) x18_2 l0_0 l0_1 l0_2 a0_3 a0_4 = some r) ∧ Aside0 (kq ≤ kj1) ∧ Aside0 (w'.heap[gb279]? = some (.cells #[(.slice A0_0 l0_0.length c0_0), (.slice A0_1 l0_1.length c0_1), (.slice A0_2 l0_2.length c0_2), .int .i64 a0_3, .int .i64 a0_4] 56 (0, 0))) ∧ Aside0 (Below w.heap.size w w'))
    case atStart => exact ⟨(0), (sx_), H', ⟨Nat.le_refl _⟩, ⟨bx_ BK279⟩, ⟨bl1_ HB GE279.out⟩⟩
    case round =>
     clear H'; try clear c1
     try clear p2
     try clear c4
     try clear c4b0
     try clear c4b1
     try clear c4b2
     try clear c7
     try clear hcz5_0 hcz5_1 hcz5_2 hcz5_3 hcz5_4
     try clear hcz6_0 hcz6_1 hcz6_2 hcz6_3 hcz6_4
     try clear hcz8_0 hcz8_1 hcz8_2 hcz8_3 hcz8_4
     try clear hfz5_0 hfz5_1 hfz5_2 hfz5_3 hfz5_4
     try clear hfz6_0 hfz6_1 hfz6_2 hfz6_3 hfz6_4
     try clear hfz8_0 hfz8_1 hfz8_2 hfz8_3 hfz8_4
     try clear p2
     obtain ⟨x18_2, rfl, HA, HK2, BK279, HB⟩ := hrel
     cases gk with
     | zero => exact absurd HA.out (by simp [table_kinds.l0])
     | succ k2 =>
      have H := HA.out; clear HA; simp only [table_kinds.l0] at H; by_cases c9 : x18_2 < (l0_2.length : Int)
      ·rw [if_pos c9] at H; have c9b0 := decide_eq_true c9; clear c9; by_cases c10 : 0 ≤ x18_2
       ·rw [if_pos c10] at H; have c10b0 := decide_eq_true c10; clear c10; by_cases c11 : x18_2 < (l0_2.length : Int)
        ·rw [if_pos c11] at H; have c11b0 := decide_eq_true c11; clear c11; replace H := Option.bind_eq_some_iff.mp H; obtain ⟨t282, A120, H⟩ := H; (try dsimp only at H); have A12 := A_ A120; clear A120; by_cases c13 : t282 = true
         ·subst c13; rw [if_pos rfl] at H; have c14b0 := eq_true (od_ : 0 ≤ x18_2); by_cases c15 : x18_2 ≤ (l0_2.length : Int)
          ·rw [if_pos c15] at H; have c15b0 := eq_true c15; have c15b1 := decide_eq_true c15; clear c15; obtain ⟨y283, hy283⟩ : ∃ y_ : List (S209), y_ = (l0_2.take (x18_2 : Int).toNat) := ⟨_, rfl⟩; replace H : ((api_Kind_143.f y283 ((rd_T209 l0_2 x18_2).f0) ((rd_T209 l0_2 x18_2).f1) ((rd_T209 l0_2 x18_2).f2) ((rd_T209 l0_2 x18_2).f3)).bind fun t287 => (if t287 = true then (some 4) else ((table_sign.f ((rd_T209 l0_2 x18_2).f1)).bind fun t288 => (if t288 = true then ((table_sign.f ((rd_T209 l0_2 x18_2).f2)).bind fun t289 => (if t289 = true then ((table_sign.f ((rd_T209 l0_2 x18_2).f3)).bind fun t290 => (table_kinds.j2 k2 l0_2 (l0_2.length : Int) x18_2 (!t290) l0_0 l0_1 l0_2 a0_3 a0_4)) else (table_kinds.j2 k2 l0_2 (l0_2.length : Int) x18_2 true l0_0 l0_1 l0_2 a0_3 a0_4))) else (table_kinds.j2 k2 l0_2 (l0_2.length : Int) x18_2 true l0_0 l0_1 l0_2 a0_3 a0_4))))) = some r := by first | (rw [hy283]; with_reducible exact H) | (have H2_ := (Option.bind_some _ _).symm.trans H; rw [hy283]; with_reducible exact H2_) | (have H2_ := (Option.bind_some _ _).symm.trans H; with_reducible exact H2_) | with_reducible exact H | (rw [hy283]; exact H) | exact H
           have Ny283 := A_ hy283; clear hy283; replace H := Option.bind_eq_some_iff.mp H; obtain ⟨t287, A160, H⟩ := H; (try dsimp only at H); have A16 := A_ A160; clear A160; by_cases c17 : t287 = true
           ·subst c17; rw [if_pos rfl] at H; obtain rfl := Option.some.inj H; have p280 : 0 ≤ (x18_2 : Int) := od_; have q280 : x18_2 < (l0_2.length : Int) := od_; obtain ⟨ad280, e280, hx280_0, hx280_1, hx280_2, hx280_3⟩ := at_T209 HR0_2.out x18_2 p280 q280; cases e280; replace hx280_0 := (HB.out.cell (World.block_lt_of_cell? w _ hx280_0)).trans hx280_0; replace hx280_1 := (HB.out.cell (World.block_lt_of_cell? w _ hx280_1)).trans hx280_1; replace hx280_2 := (HB.out.cell (World.block_lt_of_cell? w _ hx280_2)).trans hx280_2; replace hx280_3 := (HB.out.cell (World.block_lt_of_cell? w _ hx280_3)).trans hx280_3; replace p280 := eq_true p280; replace q280 := eq_true q280; go_wp2_with (first | ((with_reducible refine gate_dst (N := 4) rfl ?_); refine be_ (N := 4) (cs := #[.string (⟨#[]⟩ : ByteArray), .int .i64 0, .int .i64 0, .int .i64 0]) (t := 209) ?_; intro gb281 hg w18 hbox hb; have BK281 := A_ (hbox); have GW281 := A_ ((by rw [hg]; exact (below_size (bl1_ HB GE279.out)) : w.heap.size ≤ gb281)); have GE281 := A_ ((by rw [hg]; exact (below_size (bl1_ HB GE279.out)) : w.heap.size ≤ gb281)); have NB279_281 := A_ ((by rw [hg]; exact Nat.ne_of_lt (blk_lt (bx_ BK279)) : gb279 ≠ gb281)); have NB281_279 := A_ ((by rw [hg]; exact Nat.ne_of_gt (blk_lt (bx_ BK279)) : gb281 ≠ gb279)); replace BK279 := A_ (blk_below (bx_ BK279) hb); replace HB := A_ (below_step (bl1_ HB GE279.out) hb); clear hb hbox hg; have hnb19 := NB281_279.out; have hnc19 := NB279_281.out; have hcz20_0 := cz_ BK281 0; have hcz20_1 := cz_ BK281 1; have hcz20_2 := cz_ BK281 2; have hcz20_3 := cz_ BK281 3; have hfz20_0 := fz_ BK281 0; have hfz20_1 := fz_ BK281 1; have hfz20_2 := fz_ BK281 2; have hfz20_3 := fz_ BK281 3) | ((with_reducible refine gate_store (t := 209) (p := 4) rfl ?_); refine se_ (t := 209) (p := 4) (w1 := ((((w18.setCell ⟨gb281, 0, none⟩ (.string ((rd_T209 l0_2 x18_2).f0))).setCell ⟨gb281, 1, none⟩ (.int .i64 ((rd_T209 l0_2 x18_2).f1))).setCell ⟨gb281, 2, none⟩ (.int .i64 ((rd_T209 l0_2 x18_2).f2))).setCell ⟨gb281, 3, none⟩ (.int .i64 ((rd_T209 l0_2 x18_2).f3)))) ?_; intro w21 hw; have n0_ : Aside0 (w21.heap[gb279]? = some (.cells #[.slice A0_0 l0_0.length c0_0, .slice A0_1 l0_1.length c0_1, .slice (some ad280) l0_2.length c0_2, .int .i64 a0_3, .int .i64 a0_4] 56 (0, 0))) := ⟨(by rw [hw]; exact (by refine bw_ ?_; refine blk_far ?_ NB279_281.out _; refine bw_ ?_; refine blk_far ?_ NB279_281.out _; refine bw_ ?_; refine blk_far ?_ NB279_281.out _; refine bw_ ?_; refine blk_far ?_ NB279_281.out _; refine bw_ ?_; exact BK279.out))⟩; have n1_ : Aside0 (w21.heap[gb281]? = some (.cells #[.string ((rd_T209 l0_2 x18_2).f0), .int .i64 ((rd_T209 l0_2 x18_2).f1), .int .i64 ((rd_T209 l0_2 x18_2).f2), .int .i64 ((rd_T209 l0_2 x18_2).f3)] 209 (0, 0))) := ⟨(by rw [hw]; exact (by refine bw_ ?_; refine blk_put (cs := #[.string ((rd_T209 l0_2 x18_2).f0), .int .i64 ((rd_T209 l0_2 x18_2).f1), .int .i64 ((rd_T209 l0_2 x18_2).f2), .int .i64 0]) ?_ 3 _ rfl; refine bw_ ?_; refine blk_put (cs := #[.string ((rd_T209 l0_2 x18_2).f0), .int .i64 ((rd_T209 l0_2 x18_2).f1), .int .i64 0, .int .i64 0]) ?_ 2 _ rfl; refine bw_ ?_; refine blk_put (cs := #[.string ((rd_T209 l0_2 x18_2).f0), .int .i64 0, .int .i64 0, .int .i64 0]) ?_ 1 _ rfl; refine bw_ ?_; refine blk_put (cs := #[.string (⟨#[]⟩ : ByteArray), .int .i64 0, .int .i64 0, .int .i64 0]) ?_ 0 _ rfl; refine bw_ ?_; exact BK281.out))⟩; have n2_ : Aside0 (Below w.heap.size w w21) := ⟨(by rw [hw]; exact (bl2_ HB GE279.out GE281.out))⟩; clear hw; clear BK279; clear BK281; clear HB; have BK279 := n0_; have BK281 := n1_; have HB := n2_; clear n0_ n1_ n2_; have hcz22_0 := cz_ BK281 0; have hcz22_1 := cz_ BK281 1; have hcz22_2 := cz_ BK281 2; have hcz22_3 := cz_ BK281 3; have hfz22_0 := fz_ BK281 0; have hfz22_1 := fz_ BK281 1; have hfz22_2 := fz_ BK281 2; have hfz22_3 := fz_ BK281 3) | ((with_reducible refine gate_callee (f := 140) rfl ?_); refine gm_ (some 26) Try.func140 #[.string ((rd_T209 l0_2 x18_2).f0)] ?_; (with_reducible refine (word_Name.calls k2 ((rd_T209 l0_2 x18_2).f0) true _ A12.out).mono ?_); rintro e w' ⟨rfl, ⟨nd, rfl⟩⟩; refine ⟨_, rfl, ?_⟩; have hcz23_0 := cz_ BK279 0; have hcz23_1 := cz_ BK279 1; have hcz23_2 := cz_ BK279 2; have hcz23_3 := cz_ BK279 3; have hcz23_4 := cz_ BK279 4; have hfz23_0 := fz_ BK279 0; have hfz23_1 := fz_ BK279 1; have hfz23_2 := fz_ BK279 2; have hfz23_3 := fz_ BK279 3; have hfz23_4 := fz_ BK279 4; have q24 : (x18_2 : Int) ≤ ((l0_2.length : Int) : Int) := od_; obtain ⟨i024, hi024, _, hsz24, _⟩ := info_parts info209; have hroom24 : l0_2.length ≤ c0_2 := HC0_2.out; have hC24 : Kd.C k209 _ (some ad280) l0_2.length l0_2 := HR0_2.out; have hcut24 := cut_to (P := Try.prog) 54 209 .i64 Try.underlying54 hi024 (some ad280) l0_2.length c0_2 x18_2 (od_) q24 hroom24; have hr24 := Kd.C_take (m := (x18_2 : Int).toNat) hC24 (by omega); have hy24 : y283.length = (x18_2 : Int).toNat := (by rw [Ny283.out, List.length_take]; omega); rw [← Ny283.out] at hr24; rw [← hy24] at hcut24; have HR286 := A_ hr24; have HC286 := A_ (show y283.length ≤ c0_2 from by omega); clear hr24 hC24 hroom24 hi024 hsz24; have KY24 := A_ hy24; clear hy24; replace q24 := eq_true q24) | ((with_reducible refine gate_callee (f := 143) rfl ?_); refine gm_ (some 34) Try.func143 #[.slice (some ad280) y283.length c0_2, .func (.func 144) #[] #[.pointer (some ⟨gb281, 0, none⟩)]] ?_; (with_reducible refine (api_Kind_143.asks gb281 _ _ y283 ((rd_T209 l0_2 x18_2).f0) ((rd_T209 l0_2 x18_2).f1) ((rd_T209 l0_2 x18_2).f2) ((rd_T209 l0_2 x18_2).f3) true _ ?side1 ?side2 ?sideP A16.out).mono ?_); (case sideP => exact (blk_cell (g := gb281) (t := 209) (cs := #[.string ((rd_T209 l0_2 x18_2).f0), .int .i64 ((rd_T209 l0_2 x18_2).f1), .int .i64 ((rd_T209 l0_2 x18_2).f2), .int .i64 ((rd_T209 l0_2 x18_2).f3)]) (bx_ BK281) 0).trans rfl); (case side1 => exact Kd.C_below HR286.out (bl2_ HB GE279.out GE281.out)); (case side2 => exact HC286.out); rintro e w25 ⟨rfl, hb⟩; refine ⟨_, rfl, ?_⟩; replace BK279 := A_ (blk_below (bx_ BK279) hb); replace BK281 := A_ (blk_below (bx_ BK281) hb); replace HB := A_ (below_step (bl2_ HB GE279.out GE281.out) hb); (try clear hb); (try clear hb2); (try clear hk); (try clear hi)))
            go_ret
            exact ⟨er_, bl2_ HB GE279.out GE281.out⟩
           ·replace c17 := Bool.eq_false_iff.mpr c17; subst c17; rw [if_neg (show ¬ (false = true) by decide)] at H; have HC26 := A_ H; clear H; have p280 : 0 ≤ (x18_2 : Int) := od_; have q280 : x18_2 < (l0_2.length : Int) := od_; obtain ⟨ad280, e280, hx280_0, hx280_1, hx280_2, hx280_3⟩ := at_T209 HR0_2.out x18_2 p280 q280; cases e280; replace hx280_0 := (HB.out.cell (World.block_lt_of_cell? w _ hx280_0)).trans hx280_0; replace hx280_1 := (HB.out.cell (World.block_lt_of_cell? w _ hx280_1)).trans hx280_1; replace hx280_2 := (HB.out.cell (World.block_lt_of_cell? w _ hx280_2)).trans hx280_2; replace hx280_3 := (HB.out.cell (World.block_lt_of_cell? w _ hx280_3)).trans hx280_3; replace p280 := eq_true p280; replace q280 := eq_true q280; go_upto_region 10 with (first | ((with_reducible refine gate_dst (N := 4) rfl ?_); refine be_ (N := 4) (cs := #[.string (⟨#[]⟩ : ByteArray), .int .i64 0, .int .i64 0, .int .i64 0]) (t := 209) ?_; intro gb281 hg w27 hbox hb; have BK281 := A_ (hbox); have GW281 := A_ ((by rw [hg]; exact (below_size (bl1_ HB GE279.out)) : w.heap.size ≤ gb281)); have GE281 := A_ ((by rw [hg]; exact (below_size (bl1_ HB GE279.out)) : w.heap.size ≤ gb281)); have NB279_281 := A_ ((by rw [hg]; exact Nat.ne_of_lt (blk_lt (bx_ BK279)) : gb279 ≠ gb281)); have NB281_279 := A_ ((by rw [hg]; exact Nat.ne_of_gt (blk_lt (bx_ BK279)) : gb281 ≠ gb279)); replace BK279 := A_ (blk_below (bx_ BK279) hb); replace HB := A_ (below_step (bl1_ HB GE279.out) hb); clear hb hbox hg; have hnb28 := NB281_279.out; have hnc28 := NB279_281.out; have hcz29_0 := cz_ BK281 0; have hcz29_1 := cz_ BK281 1; have hcz29_2 := cz_ BK281 2; have hcz29_3 := cz_ BK281 3; have hfz29_0 := fz_ BK281 0; have hfz29_1 := fz_ BK281 1; have hfz29_2 := fz_ BK281 2; have hfz29_3 := fz_ BK281 3) | ((with_reducible refine gate_store (t := 209) (p := 4) rfl ?_); refine se_ (t := 209) (p := 4) (w1 := ((((w27.setCell ⟨gb281, 0, none⟩ (.string ((rd_T209 l0_2 x18_2).f0))).setCell ⟨gb281, 1, none⟩ (.int .i64 ((rd_T209 l0_2 x18_2).f1))).setCell ⟨gb281, 2, none⟩ (.int .i64 ((rd_T209 l0_2 x18_2).f2))).setCell ⟨gb281, 3, none⟩ (.int .i64 ((rd_T209 l0_2 x18_2).f3)))) ?_; intro w30 hw; have n0_ : Aside0 (w30.heap[gb279]? = some (.cells #[.slice A0_0 l0_0.length c0_0, .slice A0_1 l0_1.length c0_1, .slice (some ad280) l0_2.length c0_2, .int .i64 a0_3, .int .i64 a0_4] 56 (0, 0))) := ⟨(by rw [hw]; exact (by refine bw_ ?_; refine blk_far ?_ NB279_281.out _; refine bw_ ?_; refine blk_far ?_ NB279_281.out _; refine bw_ ?_; refine blk_far ?_ NB279_281.out _; refine bw_ ?_; refine blk_far ?_ NB279_281.out _; refine bw_ ?_; exact BK279.out))⟩; have n1_ : Aside0 (w30.heap[gb281]? = some (.cells #[.string ((rd_T209 l0_2 x18_2).f0), .int .i64 ((rd_T209 l0_2 x18_2).f1), .int .i64 ((rd_T209 l0_2 x18_2).f2), .int .i64 ((rd_T209 l0_2 x18_2).f3)] 209 (0, 0))) := ⟨(by rw [hw]; exact (by refine bw_ ?_; refine blk_put (cs := #[.string ((rd_T209 l0_2 x18_2).f0), .int .i64 ((rd_T209 l0_2 x18_2).f1), .int .i64 ((rd_T209 l0_2 x18_2).f2), .int .i64 0]) ?_ 3 _ rfl; refine bw_ ?_; refine blk_put (cs := #[.string ((rd_T209 l0_2 x18_2).f0), .int .i64 ((rd_T209 l0_2 x18_2).f1), .int .i64 0, .int .i64 0]) ?_ 2 _ rfl; refine bw_ ?_; refine blk_put (cs := #[.string ((rd_T209 l0_2 x18_2).f0), .int .i64 0, .int .i64 0, .int .i64 0]) ?_ 1 _ rfl; refine bw_ ?_; refine blk_put (cs := #[.string (⟨#[]⟩ : ByteArray), .int .i64 0, .int .i64 0, .int .i64 0]) ?_ 0 _ rfl; refine bw_ ?_; exact BK281.out))⟩; have n2_ : Aside0 (Below w.heap.size w w30) := ⟨(by rw [hw]; exact (bl2_ HB GE279.out GE281.out))⟩; clear hw; clear BK279; clear BK281; clear HB; have BK279 := n0_; have BK281 := n1_; have HB := n2_; clear n0_ n1_ n2_; have hcz31_0 := cz_ BK281 0; have hcz31_1 := cz_ BK281 1; have hcz31_2 := cz_ BK281 2; have hcz31_3 := cz_ BK281 3; have hfz31_0 := fz_ BK281 0; have hfz31_1 := fz_ BK281 1; have hfz31_2 := fz_ BK281 2; have hfz31_3 := fz_ BK281 3) | ((with_reducible refine gate_callee (f := 140) rfl ?_); refine gm_ (some 26) Try.func140 #[.string ((rd_T209 l0_2 x18_2).f0)] ?_; (with_reducible refine (word_Name.calls k2 ((rd_T209 l0_2 x18_2).f0) true _ A12.out).mono ?_); rintro e w' ⟨rfl, ⟨nd, rfl⟩⟩; refine ⟨_, rfl, ?_⟩; have hcz32_0 := cz_ BK279 0; have hcz32_1 := cz_ BK279 1; have hcz32_2 := cz_ BK279 2; have hcz32_3 := cz_ BK279 3; have hcz32_4 := cz_ BK279 4; have hfz32_0 := fz_ BK279 0; have hfz32_1 := fz_ BK279 1; have hfz32_2 := fz_ BK279 2; have hfz32_3 := fz_ BK279 3; have hfz32_4 := fz_ BK279 4; have q33 : (x18_2 : Int) ≤ ((l0_2.length : Int) : Int) := od_; obtain ⟨i033, hi033, _, hsz33, _⟩ := info_parts info209; have hroom33 : l0_2.length ≤ c0_2 := HC0_2.out; have hC33 : Kd.C k209 _ (some ad280) l0_2.length l0_2 := HR0_2.out; have hcut33 := cut_to (P := Try.prog) 54 209 .i64 Try.underlying54 hi033 (some ad280) l0_2.length c0_2 x18_2 (od_) q33 hroom33; have hr33 := Kd.C_take (m := (x18_2 : Int).toNat) hC33 (by omega); have hy33 : y283.length = (x18_2 : Int).toNat := (by rw [Ny283.out, List.length_take]; omega); rw [← Ny283.out] at hr33; rw [← hy33] at hcut33; have HR286 := A_ hr33; have HC286 := A_ (show y283.length ≤ c0_2 from by omega); clear hr33 hC33 hroom33 hi033 hsz33; have KY33 := A_ hy33; clear hy33; replace q33 := eq_true q33) | ((with_reducible refine gate_callee (f := 143) rfl ?_); refine gm_ (some 34) Try.func143 #[.slice (some ad280) y283.length c0_2, .func (.func 144) #[] #[.pointer (some ⟨gb281, 0, none⟩)]] ?_; (with_reducible refine (api_Kind_143.asks gb281 _ _ y283 ((rd_T209 l0_2 x18_2).f0) ((rd_T209 l0_2 x18_2).f1) ((rd_T209 l0_2 x18_2).f2) ((rd_T209 l0_2 x18_2).f3) false _ ?side1 ?side2 ?sideP A16.out).mono ?_); (case sideP => exact (blk_cell (g := gb281) (t := 209) (cs := #[.string ((rd_T209 l0_2 x18_2).f0), .int .i64 ((rd_T209 l0_2 x18_2).f1), .int .i64 ((rd_T209 l0_2 x18_2).f2), .int .i64 ((rd_T209 l0_2 x18_2).f3)]) (bx_ BK281) 0).trans rfl); (case side1 => exact Kd.C_below HR286.out (bl2_ HB GE279.out GE281.out)); (case side2 => exact HC286.out); rintro e w34 ⟨rfl, hb⟩; refine ⟨_, rfl, ?_⟩; replace BK279 := A_ (blk_below (bx_ BK279) hb); replace BK281 := A_ (blk_below (bx_ BK281) hb); replace HB := A_ (below_step (bl2_ HB GE279.out GE281.out) hb); (try clear hb); (try clear hb2); (try clear hk); (try clear hi)))
            (try simp only [Act.put, List.setIfInBounds_toArray, List.set_cons_zero, List.set_cons_succ])
            go_cut [35] (fun v35 wc => ∃ (kq : Nat) (x35_25 : Bool), v35 = .bool x35_25 ∧ Aside0 (table_kinds.j2 kq l0_2 (l0_2.length : Int) x18_2 x35_25 l0_0 l0_1 l0_2 a0_3 a0_4 = some r) ∧ Aside0 (kq ≤ k2) ∧ Aside0 (wc.heap[gb279]? = some (.cells #[(.slice A0_0 l0_0.length c0_0), (.slice A0_1 l0_1.length c0_1), (.slice (some ad280) l0_2.length c0_2), .int .i64 a0_3, .int .i64 a0_4] 56 (0, 0))) ∧ Aside0 (wc.heap[gb281]? = some (.cells #[.string ((rd_T209 l0_2 x18_2).f0), .int .i64 ((rd_T209 l0_2 x18_2).f1), .int .i64 ((rd_T209 l0_2 x18_2).f2), .int .i64 ((rd_T209 l0_2 x18_2).f3)] 209 (0, 0))) ∧ Aside0 (Below w.heap.size w wc))
            case first =>
             have H := HC26.out; clear HC26; replace H := Option.bind_eq_some_iff.mp H; obtain ⟨t288, A350, H⟩ := H; (try dsimp only at H); have A35 := A_ A350; clear A350; by_cases c36 : t288 = true
             ·subst c36; rw [if_pos rfl] at H; replace H := Option.bind_eq_some_iff.mp H; obtain ⟨t289, A370, H⟩ := H; (try dsimp only at H); have A37 := A_ A370; clear A370; by_cases c38 : t289 = true
              ·subst c38; rw [if_pos rfl] at H; replace H := Option.bind_eq_some_iff.mp H; obtain ⟨t290, A390, H⟩ := H; (try dsimp only at H); have A39 := A_ A390; clear A390; have H' := A_ H; clear H; have hnb40 := NB281_279.out; have hnc40 := NB279_281.out; have hcz41_0 := cz_ BK281 0; have hcz41_1 := cz_ BK281 1; have hcz41_2 := cz_ BK281 2; have hcz41_3 := cz_ BK281 3; have hfz41_0 := fz_ BK281 0; have hfz41_1 := fz_ BK281 1; have hfz41_2 := fz_ BK281 2; have hfz41_3 := fz_ BK281 3; go_wp2_with (first | ((with_reducible refine gate_callee (f := 145) rfl ?_); refine gm_ (some 38) Try.func145 #[.int .i64 ((rd_T209 l0_2 x18_2).f1)] ?_; (with_reducible refine (table_sign.calls ((rd_T209 l0_2 x18_2).f1) true _ A35.out).mono ?_); rintro e w' ⟨rfl, ⟨nd, rfl⟩⟩; refine ⟨_, rfl, ?_⟩) | (go_at_call 145; (with_reducible refine (table_sign.calls ((rd_T209 l0_2 x18_2).f2) true _ A37.out).mono ?_); rintro e w' ⟨rfl, ⟨nd, rfl⟩⟩) | (go_at_call 145; (with_reducible refine (table_sign.calls ((rd_T209 l0_2 x18_2).f3) t290 _ A39.out).mono ?_); rintro e w' ⟨rfl, ⟨nd, rfl⟩⟩))
               go_meet
               case rel => exact ⟨_, (!t290), (sx_), H', ⟨by have := HJ1.out; have := HK2.out; first | omega | exact Nat.le_refl _⟩, ⟨bx_ BK279⟩, ⟨bx_ BK281⟩, ⟨bl2_ HB GE279.out GE281.out⟩⟩
              ·replace c38 := Bool.eq_false_iff.mpr c38; subst c38; rw [if_neg (show ¬ (false = true) by decide)] at H; have H' := A_ H; clear H; have hnb42 := NB281_279.out; have hnc42 := NB279_281.out; have hcz43_0 := cz_ BK281 0; have hcz43_1 := cz_ BK281 1; have hcz43_2 := cz_ BK281 2; have hcz43_3 := cz_ BK281 3; have hfz43_0 := fz_ BK281 0; have hfz43_1 := fz_ BK281 1; have hfz43_2 := fz_ BK281 2; have hfz43_3 := fz_ BK281 3; go_wp2_with (first | ((with_reducible refine gate_callee (f := 145) rfl ?_); refine gm_ (some 38) Try.func145 #[.int .i64 ((rd_T209 l0_2 x18_2).f1)] ?_; (with_reducible refine (table_sign.calls ((rd_T209 l0_2 x18_2).f1) true _ A35.out).mono ?_); rintro e w' ⟨rfl, ⟨nd, rfl⟩⟩; refine ⟨_, rfl, ?_⟩) | (go_at_call 145; (with_reducible refine (table_sign.calls ((rd_T209 l0_2 x18_2).f2) false _ A37.out).mono ?_); rintro e w' ⟨rfl, ⟨nd, rfl⟩⟩))
               go_meet
               case rel => exact ⟨_, (true), (sx_), H', ⟨by have := HJ1.out; have := HK2.out; first | omega | exact Nat.le_refl _⟩, ⟨bx_ BK279⟩, ⟨bx_ BK281⟩, ⟨bl2_ HB GE279.out GE281.out⟩⟩
             ·replace c36 := Bool.eq_false_iff.mpr c36; subst c36; rw [if_neg (show ¬ (false = true) by decide)] at H; have H' := A_ H; clear H; have hnb44 := NB281_279.out; have hnc44 := NB279_281.out; have hcz45_0 := cz_ BK281 0; have hcz45_1 := cz_ BK281 1; have hcz45_2 := cz_ BK281 2; have hcz45_3 := cz_ BK281 3; have hfz45_0 := fz_ BK281 0; have hfz45_1 := fz_ BK281 1; have hfz45_2 := fz_ BK281 2; have hfz45_3 := fz_ BK281 3; go_wp2_with (first | ((with_reducible refine gate_callee (f := 145) rfl ?_); refine gm_ (some 38) Try.func145 #[.int .i64 ((rd_T209 l0_2 x18_2).f1)] ?_; (with_reducible refine (table_sign.calls ((rd_T209 l0_2 x18_2).f1) false _ A35.out).mono ?_); rintro e w' ⟨rfl, ⟨nd, rfl⟩⟩; refine ⟨_, rfl, ?_⟩))
              go_meet
              case rel => exact ⟨_, (true), (sx_), H', ⟨by have := HJ1.out; have := HK2.out; first | omega | exact Nat.le_refl _⟩, ⟨bx_ BK279⟩, ⟨bx_ BK281⟩, ⟨bl2_ HB GE279.out GE281.out⟩⟩
            case rest =>
             clear HC26; try clear c1
             try clear c2
             try clear p2
             try clear q2
             try clear hx2
             try clear c3
             try clear q3
             try clear c4
             try clear c4b0
             try clear c4b1
             try clear c4b2
             try clear c7
             try clear c9
             try clear c9b0
             try clear c10
             try clear c10b0
             try clear c11
             try clear c11b0
             try clear c13
             try clear c14
             try clear c14b0
             try clear c15
             try clear c15b0
             try clear c15b1
             try clear c17
             try clear c19
             try clear q24
             try clear c28
             try clear p28
             try clear q28
             try clear hx28
             try clear q33
             try clear c36
             try clear c38
             try clear c40
             try clear c42
             try clear c44
             try clear hcz20_0 hcz20_1 hcz20_2 hcz20_3
             try clear hcz22_0 hcz22_1 hcz22_2 hcz22_3
             try clear hcz23_0 hcz23_1 hcz23_2 hcz23_3 hcz23_4
             try clear hcz29_0 hcz29_1 hcz29_2 hcz29_3
             try clear hcz31_0 hcz31_1 hcz31_2 hcz31_3
             try clear hcz32_0 hcz32_1 hcz32_2 hcz32_3 hcz32_4
             try clear hcz41_0 hcz41_1 hcz41_2 hcz41_3
             try clear hcz43_0 hcz43_1 hcz43_2 hcz43_3
             try clear hcz45_0 hcz45_1 hcz45_2 hcz45_3
             try clear hcz5_0 hcz5_1 hcz5_2 hcz5_3 hcz5_4
             try clear hcz6_0 hcz6_1 hcz6_2 hcz6_3 hcz6_4
             try clear hcz8_0 hcz8_1 hcz8_2 hcz8_3 hcz8_4
             try clear hfz20_0 hfz20_1 hfz20_2 hfz20_3
             try clear hfz22_0 hfz22_1 hfz22_2 hfz22_3
             try clear hfz23_0 hfz23_1 hfz23_2 hfz23_3 hfz23_4
             try clear hfz29_0 hfz29_1 hfz29_2 hfz29_3
             try clear hfz31_0 hfz31_1 hfz31_2 hfz31_3
             try clear hfz32_0 hfz32_1 hfz32_2 hfz32_3 hfz32_4
             try clear hfz41_0 hfz41_1 hfz41_2 hfz41_3
             try clear hfz43_0 hfz43_1 hfz43_2 hfz43_3
             try clear hfz45_0 hfz45_1 hfz45_2 hfz45_3
             try clear hfz5_0 hfz5_1 hfz5_2 hfz5_3 hfz5_4
             try clear hfz6_0 hfz6_1 hfz6_2 hfz6_3 hfz6_4
             try clear hfz8_0 hfz8_1 hfz8_2 hfz8_3 hfz8_4
             try clear hx280_0
             try clear hx280_1
             try clear hx280_2
             try clear hx280_3
             try clear p2
             try clear p280
             try clear q24
             try clear q280
             try clear q33
             obtain ⟨kq, x35_25, rfl, HA, HJ25, BK279, BK281, HB⟩ := hcut
             cases kq with
             | zero => exact absurd HA.out (by simp [table_kinds.j2])
             | succ kj25 =>
              have H := HA.out; clear HA; simp only [table_kinds.j2] at H; by_cases c46 : x35_25 = true
              ·subst c46; rw [if_pos rfl] at H; obtain rfl := Option.some.inj H
               go_wp2
               go_ret
               exact ⟨er_, bl2_ HB GE279.out GE281.out⟩
              ·replace c46 := Bool.eq_false_iff.mpr c46; subst c46; rw [if_neg (show ¬ (false = true) by decide)] at H; have H' := A_ H; clear H
               go_wp2
               go_roundg kj25
               case measure => have := HJ1.out; have := HK2.out; have := HJ25.out; omega
               case rel => exact ⟨(wrap64 (x18_2 + 1)), (sx_), H', ⟨by have := HJ1.out; have := HK2.out; have := HJ25.out; omega⟩, ⟨bx_ BK279⟩, ⟨bl2_ HB GE279.out GE281.out⟩⟩
          ·rw [if_neg c15] at H; exact absurd H (by simp)
         ·replace c13 := Bool.eq_false_iff.mpr c13; subst c13; rw [if_neg (show ¬ (false = true) by decide)] at H; obtain rfl := Option.some.inj H; have p280 : 0 ≤ (x18_2 : Int) := od_; have q280 : x18_2 < (l0_2.length : Int) := od_; obtain ⟨ad280, e280, hx280_0, hx280_1, hx280_2, hx280_3⟩ := at_T209 HR0_2.out x18_2 p280 q280; cases e280; replace hx280_0 := (HB.out.cell (World.block_lt_of_cell? w _ hx280_0)).trans hx280_0; replace hx280_1 := (HB.out.cell (World.block_lt_of_cell? w _ hx280_1)).trans hx280_1; replace hx280_2 := (HB.out.cell (World.block_lt_of_cell? w _ hx280_2)).trans hx280_2; replace hx280_3 := (HB.out.cell (World.block_lt_of_cell? w _ hx280_3)).trans hx280_3; replace p280 := eq_true p280; replace q280 := eq_true q280; go_wp2_with (first | ((with_reducible refine gate_dst (N := 4) rfl ?_); refine be_ (N := 4) (cs := #[.string (⟨#[]⟩ : ByteArray), .int .i64 0, .int .i64 0, .int .i64 0]) (t := 209) ?_; intro gb281 hg w47 hbox hb; have BK281 := A_ (hbox); have GW281 := A_ ((by rw [hg]; exact (below_size (bl1_ HB GE279.out)) : w.heap.size ≤ gb281)); have GE281 := A_ ((by rw [hg]; exact (below_size (bl1_ HB GE279.out)) : w.heap.size ≤ gb281)); have NB279_281 := A_ ((by rw [hg]; exact Nat.ne_of_lt (blk_lt (bx_ BK279)) : gb279 ≠ gb281)); have NB281_279 := A_ ((by rw [hg]; exact Nat.ne_of_gt (blk_lt (bx_ BK279)) : gb281 ≠ gb279)); replace BK279 := A_ (blk_below (bx_ BK279) hb); replace HB := A_ (below_step (bl1_ HB GE279.out) hb); clear hb hbox hg; have hnb48 := NB281_279.out; have hnc48 := NB279_281.out; have hcz49_0 := cz_ BK281 0; have hcz49_1 := cz_ BK281 1; have hcz49_2 := cz_ BK281 2; have hcz49_3 := cz_ BK281 3; have hfz49_0 := fz_ BK281 0; have hfz49_1 := fz_ BK281 1; have hfz49_2 := fz_ BK281 2; have hfz49_3 := fz_ BK281 3) | ((with_reducible refine gate_callee (f := 140) rfl ?_); refine gm_ (some 26) Try.func140 #[.string ((rd_T209 l0_2 x18_2).f0)] ?_; (with_reducible refine (word_Name.calls k2 ((rd_T209 l0_2 x18_2).f0) false _ A12.out).mono ?_); rintro e w' ⟨rfl, ⟨nd, rfl⟩⟩; refine ⟨_, rfl, ?_⟩))
          go_ret
          exact ⟨er_, bl2_ HB GE279.out GE281.out⟩
        ·rw [if_neg c11] at H; exact absurd H (by simp)
       ·rw [if_neg c10] at H; exact absurd H (by simp)
      ·rw [if_neg c9] at H; have c9b0 := decide_eq_false c9; clear c9; obtain rfl := Option.some.inj H
       go_wp2
       go_ret
       exact ⟨er_, bl1_ HB GE279.out⟩
def table_Check.l0 : Nat → Int → Int → Int → Int → Option (Int)
 | 0, _, _, _, _ => none
 | k + 1, x20, x900, x901, x902 => if x20 < 3 then (if 0 ≤ x20 then (if (sel3 x20 x900 x901 x902) = 0 then (table_Check.l0 k (wrap64 (x20 + 1)) x900 x901 x902) else (some (sel3 x20 x900 x901 x902))) else (none)) else (some 0)
def table_Check.f (k : Nat) (l0_0 : List (List (S106))) (l0_1 : List (S120)) (l0_2 : List (S209)) (a0_3 : Int) (a0_4 : Int) : Option (Int) := (frac_Rate.f a0_3).bind fun t292 => (if t292 = true then ((frac_Mode.f a0_4).bind fun t293 => (if t293 = true then ((table_schemes.f k l0_0 l0_1 l0_2 a0_3 a0_4).bind fun t294 => ((table_contribs.f k l0_0 l0_1 l0_2 a0_3 a0_4).bind fun t295 => ((table_kinds.f k l0_0 l0_1 l0_2 a0_3 a0_4).bind fun t296 => (table_Check.l0 k 0 t294 t295 t296)))) else (some 1))) else (some 50))
def table_Check.T5 : Bool × List (List Nat × List Nat) := (true, [([], []), ([0], [0]), ([], []), ([2, 1], [2]), ([], []), ([4, 3], [4]), ([1, 3, 5], [1, 3, 5]), ([], [])])
def table_Check.B5 : List Nat := [0, 1, 0, 7, 0, 31, 63, 0]
theorem table_Check.tab5 : rtab .any (opsOf Try.f41 5) = table_Check.T5 := by kernel_rfl
theorem table_Check.bits5 : waitsOk table_Check.T5.2 table_Check.B5 = true := by kernel_rfl
set_option maxHeartbeats 8000000 in
set_option maxRecDepth 100000 in
theorem table_Check.calls (k : Nat) (A0_0 : Option Addr) (c0_0 : Nat) (l0_0 : List (List (S106))) (A0_1 : Option Addr) (c0_1 : Nat) (l0_1 : List (S120)) (A0_2 : Option Addr) (c0_2 : Nat) (l0_2 : List (S209)) (a0_3 : Int) (a0_4 : Int) (r : Int) (w : World) (hr0_0 : Kd.C (Kd.slice 106 k106) w A0_0 l0_0.length l0_0) (hc0_0 : l0_0.length ≤ c0_0) (hr0_1 : Kd.C k120 w A0_1 l0_1.length l0_1) (hc0_1 : l0_1.length ≤ c0_1) (hr0_2 : Kd.C k209 w A0_2 l0_2.length l0_2) (hc0_2 : l0_2.length ≤ c0_2) (h : table_Check.f k l0_0 l0_1 l0_2 a0_3 a0_4 = some r) :
  Calls Try.prog 41 #[.agg #[.slice A0_0 l0_0.length c0_0, .slice A0_1 l0_1.length c0_1, .slice A0_2 l0_2.length c0_2, .int .i64 a0_3, .int .i64 a0_4]] w fun e w' => e = .returned (.int .i64 r) ∧ Below w.heap.size w w' := by
 have hu56 := Try.underlying56; have hu172 := Try.underlying172; have hix172_0 : ∀ (x0_ x1_ x2_ : Value) (w_ : World), (Instr.index 172 (.agg #[x0_, x1_, x2_]) (.int .i64 0)).run Try.prog w_ = .ok x0_ w_ := fun _ _ _ _ => by kernel_rfl
 have hix172_1 : ∀ (x0_ x1_ x2_ : Value) (w_ : World), (Instr.index 172 (.agg #[x0_, x1_, x2_]) (.int .i64 1)).run Try.prog w_ = .ok x1_ w_ := fun _ _ _ _ => by kernel_rfl
 have hix172_2 : ∀ (x0_ x1_ x2_ : Value) (w_ : World), (Instr.index 172 (.agg #[x0_, x1_, x2_]) (.int .i64 2)).run Try.prog w_ = .ok x2_ w_ := fun _ _ _ _ => by kernel_rfl
 have hiv172 : ∀ (j_ x0_ x1_ x2_ : Int) (w_ : World), decide (0 ≤ j_) = true → decide (j_ < 3) = true → (Instr.index 172 (.agg #[.int .i64 x0_, .int .i64 x1_, .int .i64 x2_]) (.int .i64 j_)).run Try.prog w_ = .ok (.int .i64 (sel3 j_ x0_ x1_ x2_)) w_ := by
  intro j_ x0_ x1_ x2_ w_ h0_ h1_; have h0_ := of_decide_eq_true h0_; have h1_ := of_decide_eq_true h1_
  rcases (show j_ = 0 ∨ j_ = 1 ∨ j_ = 2 by omega) with rfl | rfl | rfl
  ·exact hix172_0 (.int .i64 x0_) (.int .i64 x1_) (.int .i64 x2_) w_
  ·exact hix172_1 (.int .i64 x0_) (.int .i64 x1_) (.int .i64 x2_) w_
  ·exact hix172_2 (.int .i64 x0_) (.int .i64 x1_) (.int .i64 x2_) w_
 have HR0_0 := A_ hr0_0; have HC0_0 := A_ hc0_0; clear hr0_0 hc0_0; have HR0_1 := A_ hr0_1; have HC0_1 := A_ hc0_1; clear hr0_1 hc0_1; have HR0_2 := A_ hr0_2; have HC0_2 := A_ hc0_2; clear hr0_2 hc0_2; have HB := A_ (Below.refl w.heap.size w); unfold table_Check.f at h; have H := h; clear h; replace H := Option.bind_eq_some_iff.mp H; obtain ⟨t292, A20, H⟩ := H; (try dsimp only at H); have A2 := A_ A20; clear A20; by_cases c3 : t292 = true
 ·subst c3; rw [if_pos rfl] at H; replace H := Option.bind_eq_some_iff.mp H; obtain ⟨t293, A40, H⟩ := H; (try dsimp only at H); have A4 := A_ A40; clear A40; by_cases c5 : t293 = true
  ·subst c5; rw [if_pos rfl] at H; replace H := Option.bind_eq_some_iff.mp H; obtain ⟨t294, A60, H⟩ := H; (try dsimp only at H); have A6 := A_ A60; clear A60; replace H := Option.bind_eq_some_iff.mp H; obtain ⟨t295, A70, H⟩ := H; (try dsimp only at H); have A7 := A_ A70; clear A70; replace H := Option.bind_eq_some_iff.mp H; obtain ⟨t296, A80, H⟩ := H; (try dsimp only at H); have A8 := A_ A80; clear A80; have H' := A_ H; clear H; go_enter Try.func41, Try.ntmps41
   try go_wp2_with (first | ((with_reducible refine gate_dst (N := 1) rfl ?_); refine be_ (N := 1) (cs := #[.slice A0_0 l0_0.length c0_0, .slice A0_1 l0_1.length c0_1, .slice A0_2 l0_2.length c0_2, .int .i64 a0_3, .int .i64 a0_4]) (t := 56) ?_; intro gb291 hg w9 hbox hb; have BK291 := A_ (hbox); have GW291 := A_ ((by rw [hg]; exact (below_size (bl_ HB)) : w.heap.size ≤ gb291)); have GE291 := A_ ((by rw [hg]; exact (below_size (bl_ HB)) : w.heap.size ≤ gb291)); replace HB := A_ (below_step (bl_ HB) hb); clear hb hbox hg; have hcz10_0 := cz_ BK291 0; have hcz10_1 := cz_ BK291 1; have hcz10_2 := cz_ BK291 2; have hcz10_3 := cz_ BK291 3; have hcz10_4 := cz_ BK291 4; have hfz10_0 := fz_ BK291 0; have hfz10_1 := fz_ BK291 1; have hfz10_2 := fz_ BK291 2; have hfz10_3 := fz_ BK291 3; have hfz10_4 := fz_ BK291 4) | ((with_reducible refine gate_callee (f := 102) rfl ?_); refine gm_ (some 7) Try.func102 #[.int .i64 a0_3] ?_; (with_reducible refine (frac_Rate.calls a0_3 true _ A2.out).mono ?_); rintro e w' ⟨rfl, ⟨nd, rfl⟩⟩; refine ⟨_, rfl, ?_⟩) | ((with_reducible refine gate_callee (f := 104) rfl ?_); refine gm_ (some 11) Try.func104 #[.int .i64 a0_4] ?_; (with_reducible refine (frac_Mode.calls a0_4 true _ A4.out).mono ?_); rintro e w' ⟨rfl, ⟨nd, rfl⟩⟩; refine ⟨_, rfl, ?_⟩))
   (try (rw [drewN_self w9]; generalize hq_ : World.drewN w9 _ = w9; have n0_ : Aside0 (w9.heap[gb291]? = some (.cells #[.slice A0_0 l0_0.length c0_0, .slice A0_1 l0_1.length c0_1, .slice A0_2 l0_2.length c0_2, .int .i64 a0_3, .int .i64 a0_4] 56 (0, 0))) := ⟨by rw [← hq_]; exact (bx_ BK291)⟩; have n1_ : Aside0 (Below w.heap.size w w9) := ⟨by rw [← hq_]; exact (bl1_ HB GE291.out)⟩; clear BK291 HB hq_; have BK291 := n0_; have HB := n1_; clear n0_ n1_))
   replace BK291 := A_ (blk_drew BK291.out); replace HB := A_ (below_drew1 HB.out); refine start_ (n := 8) (S := fun w' => w'.cell? ⟨gb291, 0, none⟩ = some (.slice A0_0 l0_0.length c0_0) ∧ w'.cell? ⟨gb291, 1, none⟩ = some (.slice A0_1 l0_1.length c0_1) ∧ w'.cell? ⟨gb291, 2, none⟩ = some (.slice A0_2 l0_2.length c0_2) ∧ w'.cell? ⟨gb291, 3, none⟩ = some (.int .i64 a0_3) ∧ w'.cell? ⟨gb291, 4, none⟩ = some (.int .i64 a0_4)) (ds := []) #[false, false, false, false, false, false, false, false] (by kernel_rfl) rfl rfl ⟨(blk_cell BK291.out 0).trans rfl, (blk_cell BK291.out 1).trans rfl, (blk_cell BK291.out 2).trans rfl, (blk_cell BK291.out 3).trans rfl, (blk_cell BK291.out 4).trans rfl⟩ (fun hHeld => ?_); refine with_tabW table_Check.tab5 table_Check.bits5 (fun HT_ HW_ => ?_)
   generalize w9.drew = w11 at BK291 HB hHeld ⊢; refine pure_ (i := 7) (N := some 20) (v := ?_) (a' := ?_) #[false, false, false, false, false, false, false, true] rfl rfl (any_of HT_.out (by kernel_rfl)) (fun _ _ _ h => h) (Or.inl ⟨by rfl, ?_⟩) ?_ ?_
   rotate_left
   ·intro w'
    go_simp
    with_reducible rfl
   rotate_left
   ·simp only [Act.put, List.setIfInBounds_toArray, List.set_cons_zero, List.set_cons_succ, i64_w, i32_w]
    rfl
   refine take_ (i := 0) (N := some 13) (v := ?_) (a' := ?_) #[true, false, false, false, false, false, false, true] rfl rfl (take_ofW HT_.out HW_.out (by kernel_rfl)) (fun _ _ _ h => h) (Or.inl ⟨by rfl, ?_⟩) hHeld ?_ ?_
   rotate_left
   ·rintro w' ⟨s0, s1, s2, s3, s4⟩
    go_simp
    with_reducible rfl
   rotate_left
   ·simp only [Act.put, List.setIfInBounds_toArray, List.set_cons_zero, List.set_cons_succ, i64_w, i32_w]
    rfl
   refine take_ (i := 2) (N := some 15) (v := ?_) (a' := ?_) #[true, false, true, false, false, false, false, true] rfl rfl (take_ofW HT_.out HW_.out (by kernel_rfl)) (fun _ _ _ h => h) (Or.inl ⟨by rfl, ?_⟩) hHeld ?_ ?_
   rotate_left
   ·rintro w' ⟨s0, s1, s2, s3, s4⟩
    go_simp
    with_reducible rfl
   rotate_left
   ·simp only [Act.put, List.setIfInBounds_toArray, List.set_cons_zero, List.set_cons_succ, i64_w, i32_w]
    rfl
   refine take_ (i := 4) (N := some 17) (v := ?_) (a' := ?_) #[true, false, true, false, true, false, false, true] rfl rfl (take_ofW HT_.out HW_.out (by kernel_rfl)) (fun _ _ _ h => h) (Or.inl ⟨by rfl, ?_⟩) hHeld ?_ ?_
   rotate_left
   ·rintro w' ⟨s0, s1, s2, s3, s4⟩
    go_simp
    with_reducible rfl
   rotate_left
   ·simp only [Act.put, List.setIfInBounds_toArray, List.set_cons_zero, List.set_cons_succ, i64_w, i32_w]
    rfl
   refine one_ (i := 1) (N := some 14) #[true, true, true, false, true, false, false, true] rfl rfl (one_of HT_.out (by kernel_rfl)) (by decide) (fun K hK => ?_)
   refine goes_ Try.func105 (by kernel_rfl) rfl #[.agg #[.slice A0_0 l0_0.length c0_0, .slice A0_1 l0_1.length c0_1, .slice A0_2 l0_2.length c0_2, .int .i64 a0_3, .int .i64 a0_4]] (by rfl) rfl rfl (by (try simp only [List.map_toArray, List.map_cons, List.map_nil]); first | done | rfl | (simp only [List.length_drop, List.length_take]; rfl)) ?_
   with_reducible refine (table_schemes.calls k _ _ l0_0 _ _ l0_1 _ _ l0_2 a0_3 a0_4 t294 _ ?side1 ?side2 ?side3 ?side4 ?side5 ?side6 A6.out).mono ?_
   (case side1 => exact cb_ HR0_0 HB)
   (case side2 => exact HC0_0.out)
   (case side3 => exact cb_ HR0_1 HB)
   (case side4 => exact HC0_1.out)
   (case side5 => exact cb_ HR0_2 HB)
   (case side6 => exact HC0_2.out)
   rintro e w12 ⟨rfl, hb⟩; refine ⟨_, rfl, ?_⟩
   replace BK291 := A_ (blk_below (bx_ BK291) hb); replace HB := A_ (below_step (bl1_ HB GE291.out) hb)
   (try clear hb)
   (try clear hb2)
   (try clear hk)
   (try clear hi)
   refine hK.out _ _ ⟨(blk_cell BK291.out 0).trans rfl, (blk_cell BK291.out 1).trans rfl, (blk_cell BK291.out 2).trans rfl, (blk_cell BK291.out 3).trans rfl, (blk_cell BK291.out 4).trans rfl⟩ (fun hHeld => ?_)
   clear hK K; refine norm_ (a' := ?_) ?_ ?_
   rotate_left
   ·show Act.put _ (some 14) _ = _
    simp only [Act.put, List.setIfInBounds_toArray, List.set_cons_zero, List.set_cons_succ, i64_w, i32_w]
    rfl
   refine one_ (i := 3) (N := some 16) #[true, true, true, true, true, false, false, true] rfl rfl (one_of HT_.out (by kernel_rfl)) (by decide) (fun K hK => ?_)
   refine goes_ Try.func106 (by kernel_rfl) rfl #[.agg #[.slice A0_0 l0_0.length c0_0, .slice A0_1 l0_1.length c0_1, .slice A0_2 l0_2.length c0_2, .int .i64 a0_3, .int .i64 a0_4]] (by rfl) rfl rfl (by (try simp only [List.map_toArray, List.map_cons, List.map_nil]); first | done | rfl | (simp only [List.length_drop, List.length_take]; rfl)) ?_
   with_reducible refine (table_contribs.calls k _ _ l0_0 _ _ l0_1 _ _ l0_2 a0_3 a0_4 t295 _ ?side1 ?side2 ?side3 ?side4 ?side5 ?side6 A7.out).mono ?_
   (case side1 => exact cb_ HR0_0 HB)
   (case side2 => exact HC0_0.out)
   (case side3 => exact cb_ HR0_1 HB)
   (case side4 => exact HC0_1.out)
   (case side5 => exact cb_ HR0_2 HB)
   (case side6 => exact HC0_2.out)
   rintro e w13 ⟨rfl, hb⟩; refine ⟨_, rfl, ?_⟩
   replace BK291 := A_ (blk_below (bx_ BK291) hb); replace HB := A_ (below_step (bl1_ HB GE291.out) hb)
   (try clear hb)
   (try clear hb2)
   (try clear hk)
   (try clear hi)
   refine hK.out _ _ ⟨(blk_cell BK291.out 0).trans rfl, (blk_cell BK291.out 1).trans rfl, (blk_cell BK291.out 2).trans rfl, (blk_cell BK291.out 3).trans rfl, (blk_cell BK291.out 4).trans rfl⟩ (fun hHeld => ?_)
   clear hK K; refine norm_ (a' := ?_) ?_ ?_
   rotate_left
   ·show Act.put _ (some 16) _ = _
    simp only [Act.put, List.setIfInBounds_toArray, List.set_cons_zero, List.set_cons_succ, i64_w, i32_w]
    rfl
   refine one_ (i := 5) (N := some 18) #[true, true, true, true, true, true, false, true] rfl rfl (one_of HT_.out (by kernel_rfl)) (by decide) (fun K hK => ?_)
   refine goes_ Try.func107 (by kernel_rfl) rfl #[.agg #[.slice A0_0 l0_0.length c0_0, .slice A0_1 l0_1.length c0_1, .slice A0_2 l0_2.length c0_2, .int .i64 a0_3, .int .i64 a0_4]] (by rfl) rfl rfl (by (try simp only [List.map_toArray, List.map_cons, List.map_nil]); first | done | rfl | (simp only [List.length_drop, List.length_take]; rfl)) ?_
   with_reducible refine (table_kinds.calls k _ _ l0_0 _ _ l0_1 _ _ l0_2 a0_3 a0_4 t296 _ ?side1 ?side2 ?side3 ?side4 ?side5 ?side6 A8.out).mono ?_
   (case side1 => exact cb_ HR0_0 HB)
   (case side2 => exact HC0_0.out)
   (case side3 => exact cb_ HR0_1 HB)
   (case side4 => exact HC0_1.out)
   (case side5 => exact cb_ HR0_2 HB)
   (case side6 => exact HC0_2.out)
   rintro e w14 ⟨rfl, hb⟩; refine ⟨_, rfl, ?_⟩
   replace BK291 := A_ (blk_below (bx_ BK291) hb); replace HB := A_ (below_step (bl1_ HB GE291.out) hb)
   (try clear hb)
   (try clear hb2)
   (try clear hk)
   (try clear hi)
   refine hK.out _ _ ⟨(blk_cell BK291.out 0).trans rfl, (blk_cell BK291.out 1).trans rfl, (blk_cell BK291.out 2).trans rfl, (blk_cell BK291.out 3).trans rfl, (blk_cell BK291.out 4).trans rfl⟩ (fun hHeld => ?_)
   clear hK K; refine norm_ (a' := ?_) ?_ ?_
   rotate_left
   ·show Act.put _ (some 18) _ = _
    simp only [Act.put, List.setIfInBounds_toArray, List.set_cons_zero, List.set_cons_succ, i64_w, i32_w]
    rfl
   refine pure_ (i := 6) (N := some 19) (v := ?_) (a' := ?_) #[true, true, true, true, true, true, true, true] rfl rfl (any_of HT_.out (by kernel_rfl)) (fun _ _ _ h => h) (Or.inl ⟨by rfl, ?_⟩) ?_ ?_
   rotate_left
   ·intro w'
    go_simp
    with_reducible rfl
   rotate_left
   ·simp only [Act.put, List.setIfInBounds_toArray, List.set_cons_zero, List.set_cons_succ, i64_w, i32_w]
    rfl
   refine done_ (done_of HT_.out (by kernel_rfl)) ?_
   try go_wp2
   go_loopg [20] k (fun kq v20 w' => ∃ (x20_1 : Int), v20 = .int .i64 x20_1 ∧ Aside0 (table_Check.l0 kq x20_1 t294 t295 t296 = some r) ∧ Aside0 (kq ≤ k) ∧ Aside0 (w'.heap[gb291]? = some (.cells #[(.slice A0_0 l0_0.length c0_0), (.slice A0_1 l0_1.length c0_1), (.slice A0_2 l0_2.length c0_2), .int .i64 a0_3, .int .i64 a0_4] 56 (0, 0))) ∧ Aside0 (Below w.heap.size w w'))
   case atStart => exact ⟨(0), (sx_), H', ⟨Nat.le_refl _⟩, ⟨bx_ BK291⟩, ⟨bl1_ HB GE291.out⟩⟩
   case round =>
    clear H'; try clear c1
    try clear p2
    try clear c3
    try clear c4
    try clear c5
    try clear c10
    try clear hcz10_0 hcz10_1 hcz10_2 hcz10_3 hcz10_4
    try clear hfz10_0 hfz10_1 hfz10_2 hfz10_3 hfz10_4
    obtain ⟨x20_1, rfl, HA, HK1, BK291, HB⟩ := hrel
    cases gk with
    | zero => exact absurd HA.out (by simp [table_Check.l0])
    | succ k1 =>
     have H := HA.out; clear HA; simp only [table_Check.l0] at H; by_cases c15 : x20_1 < 3
     ·rw [if_pos c15] at H; have c15b0 := decide_eq_true c15; clear c15; by_cases c16 : 0 ≤ x20_1
      ·rw [if_pos c16] at H; have c16b0 := decide_eq_true c16; clear c16; by_cases c17 : (sel3 x20_1 t294 t295 t296) = 0
       ·rw [if_pos c17] at H; have c17b0 : ((sel3 x20_1 t294 t295 t296) == 0) = true := beq_iff_eq.mpr c17; have c17b1 : ((sel3 x20_1 t294 t295 t296) != 0) = false := bne_eq_false_iff_eq.mpr c17; clear c17; have H' := A_ H; clear H
        go_wp2
        go_roundg k1
        case measure => have := HK1.out; omega
        case rel => exact ⟨(wrap64 (x20_1 + 1)), (sx_), H', ⟨by have := HK1.out; omega⟩, ⟨bx_ BK291⟩, ⟨bl1_ HB GE291.out⟩⟩
       ·rw [if_neg c17] at H; have c17b0 : ((sel3 x20_1 t294 t295 t296) == 0) = false := beq_eq_false_iff_ne.mpr c17; have c17b1 : ((sel3 x20_1 t294 t295 t296) != 0) = true := bne_iff_ne.mpr c17; obtain rfl := Option.some.inj H
        go_wp2
        go_ret
        exact ⟨er_, bl1_ HB GE291.out⟩
      ·rw [if_neg c16] at H; exact absurd H (by simp)
     ·rw [if_neg c15] at H; have c15b0 := decide_eq_false c15; clear c15; obtain rfl := Option.some.inj H
      go_wp2
      go_ret
      exact ⟨er_, bl1_ HB GE291.out⟩
  ·replace c5 := Bool.eq_false_iff.mpr c5; subst c5; rw [if_neg (show ¬ (false = true) by decide)] at H; obtain rfl := Option.some.inj H; go_enter Try.func41, Try.ntmps41
   go_wp2_with (first | ((with_reducible refine gate_dst (N := 1) rfl ?_); refine be_ (N := 1) (cs := #[.slice A0_0 l0_0.length c0_0, .slice A0_1 l0_1.length c0_1, .slice A0_2 l0_2.length c0_2, .int .i64 a0_3, .int .i64 a0_4]) (t := 56) ?_; intro gb291 hg w18 hbox hb; have BK291 := A_ (hbox); have GW291 := A_ ((by rw [hg]; exact (below_size (bl_ HB)) : w.heap.size ≤ gb291)); have GE291 := A_ ((by rw [hg]; exact (below_size (bl_ HB)) : w.heap.size ≤ gb291)); replace HB := A_ (below_step (bl_ HB) hb); clear hb hbox hg; have hcz19_0 := cz_ BK291 0; have hcz19_1 := cz_ BK291 1; have hcz19_2 := cz_ BK291 2; have hcz19_3 := cz_ BK291 3; have hcz19_4 := cz_ BK291 4; have hfz19_0 := fz_ BK291 0; have hfz19_1 := fz_ BK291 1; have hfz19_2 := fz_ BK291 2; have hfz19_3 := fz_ BK291 3; have hfz19_4 := fz_ BK291 4) | ((with_reducible refine gate_callee (f := 102) rfl ?_); refine gm_ (some 7) Try.func102 #[.int .i64 a0_3] ?_; (with_reducible refine (frac_Rate.calls a0_3 true _ A2.out).mono ?_); rintro e w' ⟨rfl, ⟨nd, rfl⟩⟩; refine ⟨_, rfl, ?_⟩) | ((with_reducible refine gate_callee (f := 104) rfl ?_); refine gm_ (some 11) Try.func104 #[.int .i64 a0_4] ?_; (with_reducible refine (frac_Mode.calls a0_4 false _ A4.out).mono ?_); rintro e w' ⟨rfl, ⟨nd, rfl⟩⟩; refine ⟨_, rfl, ?_⟩))
   go_ret
   exact ⟨er_, bl1_ HB GE291.out⟩
 ·replace c3 := Bool.eq_false_iff.mpr c3; subst c3; rw [if_neg (show ¬ (false = true) by decide)] at H; obtain rfl := Option.some.inj H; go_enter Try.func41, Try.ntmps41
  go_wp2_with (first | ((with_reducible refine gate_dst (N := 1) rfl ?_); refine be_ (N := 1) (cs := #[.slice A0_0 l0_0.length c0_0, .slice A0_1 l0_1.length c0_1, .slice A0_2 l0_2.length c0_2, .int .i64 a0_3, .int .i64 a0_4]) (t := 56) ?_; intro gb291 hg w20 hbox hb; have BK291 := A_ (hbox); have GW291 := A_ ((by rw [hg]; exact (below_size (bl_ HB)) : w.heap.size ≤ gb291)); have GE291 := A_ ((by rw [hg]; exact (below_size (bl_ HB)) : w.heap.size ≤ gb291)); replace HB := A_ (below_step (bl_ HB) hb); clear hb hbox hg; have hcz21_0 := cz_ BK291 0; have hcz21_1 := cz_ BK291 1; have hcz21_2 := cz_ BK291 2; have hcz21_3 := cz_ BK291 3; have hcz21_4 := cz_ BK291 4; have hfz21_0 := fz_ BK291 0; have hfz21_1 := fz_ BK291 1; have hfz21_2 := fz_ BK291 2; have hfz21_3 := fz_ BK291 3; have hfz21_4 := fz_ BK291 4) | ((with_reducible refine gate_callee (f := 102) rfl ?_); refine gm_ (some 7) Try.func102 #[.int .i64 a0_3] ?_; (with_reducible refine (frac_Rate.calls a0_3 false _ A2.out).mono ?_); rintro e w' ⟨rfl, ⟨nd, rfl⟩⟩; refine ⟨_, rfl, ?_⟩))
  go_ret
  exact ⟨er_, bl1_ HB GE291.out⟩
end Go.Proofs.Ytcapgmoipacioaa.P
