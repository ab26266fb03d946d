import Derived.Test.YtcapgmoipacioaaPtZg
import Derived.Test.YtcapgmoipacioaaPpbandZg
import Derived.Test.YtcapgmoipacioaaPpbaseZg
import Derived.Test.YtcapgmoipacioaaY1Zg
namespace Go.Proofs.Ytcapgmoipacioaa.P
open Go.RowKit Go.Proofs.YtcapgmoipacioaaW.PrintWords Go.Proofs.YtcapgmoipacioaaW.PrintLast Go.Proofs.YtcapgmoipacioaaW.PrintMore
set_option linter.unusedVariables false
set_option linter.unusedSimpArgs false
mutual
def social_Corners.l0 : Nat → List Int → Int → List Int → Int → Int → Option (List Int)
 | 0, _, _, _, _, _ => none
 | k + 1, x5, x6, x15, x16, x17 => if x17 < x16 then (if 0 ≤ x17 then (if x17 < (x15.length : Int) then (if (rd x15 x17) < x6 then (if x5.length < 17592186044416 then (social_Corners.l0 k (x5 ++ [rd x15 x17]) x6 x15 x16 (wrap64 (x17 + 1))) else (none)) else (social_Corners.l0 k x5 x6 x15 x16 (wrap64 (x17 + 1)))) else (none)) else (none)) else (if x6 > 0 then (social_Corners.j1 k x5 x6 (decide (x6 < 100000000000))) else (social_Corners.j1 k x5 x6 false))
def social_Corners.j1 : Nat → List Int → Int → Bool → Option (List Int)
 | 0, _, _, _ => none
 | k + 1, x5, x6, x34 => if x34 = true then (if x5.length < 17592186044416 then (some (x5 ++ [x6])) else (none)) else (some x5)
end
def social_Corners.f (k : Nat) (a0_0 : ByteArray) (a0_1 : Int) (l0_2 : List (S106)) (a0_3 : Int) (a0_4 : Int) (a0_5 : Int) (a1 : Int) : Option (List Int) := (base_Under.f k a0_0 a0_1 l0_2 a0_3 a0_4 a0_5 100000000000 a1).bind fun t731 => ((band_Corners.f k l0_2).bind fun t732 => (social_Corners.l0 k (([0] : List Int)) t731 t732 (t732.length : Int) 0))
set_option maxHeartbeats 8000000 in
set_option maxRecDepth 100000 in
theorem social_Corners.calls (k : Nat) (a0_0 : ByteArray) (a0_1 : Int) (A0_2 : Option Addr) (c0_2 : Nat) (l0_2 : List (S106)) (a0_3 : Int) (a0_4 : Int) (a0_5 : Int) (a1 : Int) (r : List Int) (w : World) (hr0_2 : Kd.C k106 w A0_2 l0_2.length l0_2) (hc0_2 : l0_2.length ≤ c0_2) (h : social_Corners.f k a0_0 a0_1 l0_2 a0_3 a0_4 a0_5 a1 = some r) :
  Calls Try.prog 123 #[.agg #[.string a0_0, .int .i64 a0_1, .slice A0_2 l0_2.length c0_2, .int .i64 a0_3, .int .i64 a0_4, .int .i64 a0_5], .int .i64 a1] w fun e w' => ∃ v0_ : Value, e = .returned (v0_) ∧ Kd.R (Kd.int .i64) 2 w' w.heap.size (fun _ => True) v0_ r ∧ Below w.heap.size w w' := by
 have hu120 := Try.underlying120; have HR0_2 := A_ hr0_2; have HC0_2 := A_ hc0_2; clear hr0_2 hc0_2; have HB := A_ (Below.refl w.heap.size w); unfold social_Corners.f at h; have H := h; clear h; obtain ⟨y728, hy728⟩ : ∃ y_ : List Int, y_ = (([0] : List Int)) := ⟨_, rfl⟩; replace H : ((base_Under.f k a0_0 a0_1 l0_2 a0_3 a0_4 a0_5 100000000000 a1).bind fun t731 => ((band_Corners.f k l0_2).bind fun t732 => (social_Corners.l0 k y728 t731 t732 (t732.length : Int) 0))) = some r := by first | (rw [hy728]; with_reducible exact H) | (have H2_ := (Option.bind_some _ _).symm.trans H; rw [hy728]; with_reducible exact H2_) | (have H2_ := (Option.bind_some _ _).symm.trans H; with_reducible exact H2_) | with_reducible exact H | (rw [hy728]; exact H) | exact H
 have Ny728 := A_ hy728; clear hy728; replace H := Option.bind_eq_some_iff.mp H; obtain ⟨t731, A30, H⟩ := H; (try dsimp only at H); have A3 := A_ A30; clear A30; replace H := Option.bind_eq_some_iff.mp H; obtain ⟨t732, A40, H⟩ := H; (try dsimp only at H); have A4 := A_ A40; clear A40; have H' := A_ H; clear H; go_enter Try.func123, Try.ntmps123
 go_wp2_with (first | ((with_reducible refine gate_dst (N := 2) rfl ?_); refine be_ (N := 2) (cs := #[.string a0_0, .int .i64 a0_1, .slice A0_2 l0_2.length c0_2, .int .i64 a0_3, .int .i64 a0_4, .int .i64 a0_5]) (t := 120) ?_; intro gb727 hg w5 hbox hb; have BK727 := A_ (hbox); have GW727 := A_ ((by rw [hg]; exact (below_size (bl_ HB)) : w.heap.size ≤ gb727)); have GE727 := A_ ((by rw [hg]; exact (below_size (bl_ HB)) : w.heap.size ≤ gb727)); replace HB := A_ (below_step (bl_ HB) hb); clear hb hbox hg) | ((with_reducible refine gate_dst (N := 9) rfl ?_); refine Kd.R_lit (Kd.int .i64) _ 2 ?hg (N := 9) ?hd (xs := ([0] : List Int)) (inner := [.int .i64 0]) (ok := fun _ => True) (okp := fun _ => True) ?hr ?hp (fun _ hk => hk) trivial (Below.refl _ _) (Nat.le_refl _) (by simp) ?_; (case hd => rfl); (case hg => rfl); (case hr => first | (go_simp; done) | (go_simp; rfl)); (case hp => exact (Reps.one (show Kd.M (Kd.int .i64) _ _ _ 0 [.int .i64 0] from rfl) (Reps.none _ _))); intro v729 w6 ho7 hb hg_ hnew_; clear hg_ hnew_; (first | rw [← Ny728.out] at ho7 | (simp only [Int.reduceToNat] at ho7; rw [← Ny728.out] at ho7)); have HO730 := A_ (Kd.R_lower ho7 (below_size (bl1_ HB GE727.out))); replace BK727 := A_ (blk_below (bx_ BK727) hb); replace HB := A_ (below_step (bl1_ HB GE727.out) hb); clear hb ho7; have hcz8_0 := cz_ BK727 0; have hcz8_1 := cz_ BK727 1; have hcz8_2 := cz_ BK727 2; have hcz8_3 := cz_ BK727 3; have hcz8_4 := cz_ BK727 4; have hcz8_5 := cz_ BK727 5; have hfz8_0 := fz_ BK727 0; have hfz8_1 := fz_ BK727 1; have hfz8_2 := fz_ BK727 2; have hfz8_3 := fz_ BK727 3; have hfz8_4 := fz_ BK727 4; have hfz8_5 := fz_ BK727 5) | ((with_reducible refine gate_callee (f := 127) rfl ?_); refine gm_ (some 12) Try.func127 #[.agg #[.string a0_0, .int .i64 a0_1, .slice A0_2 l0_2.length c0_2, .int .i64 a0_3, .int .i64 a0_4, .int .i64 a0_5], .int .i64 100000000000, .int .i64 a1] ?_; (with_reducible refine (base_Under.calls k a0_0 a0_1 _ _ l0_2 a0_3 a0_4 a0_5 100000000000 a1 t731 _ ?side1 ?side2 A3.out).mono ?_); (case side1 => exact cb_ HR0_2 HB); (case side2 => exact HC0_2.out); rintro e w9 ⟨rfl, hb⟩; refine ⟨_, rfl, ?_⟩; replace HO730 := A_ (Kd.R_below (ro_ HO730) hb); replace BK727 := A_ (blk_below (bx_ BK727) hb); replace HB := A_ (below_step (bl1_ HB GE727.out) hb); (try clear hb); (try clear hb2); (try clear hk); (try clear hi); have hcz10_0 := cz_ BK727 0; have hcz10_1 := cz_ BK727 1; have hcz10_2 := cz_ BK727 2; have hcz10_3 := cz_ BK727 3; have hcz10_4 := cz_ BK727 4; have hcz10_5 := cz_ BK727 5; have hfz10_0 := fz_ BK727 0; have hfz10_1 := fz_ BK727 1; have hfz10_2 := fz_ BK727 2; have hfz10_3 := fz_ BK727 3; have hfz10_4 := fz_ BK727 4; have hfz10_5 := fz_ BK727 5) | ((with_reducible refine gate_callee (f := 64) rfl ?_); refine gm_ (some 15) Try.func64 #[.slice A0_2 l0_2.length c0_2] ?_; (with_reducible refine (band_Corners.calls k _ _ l0_2 t732 _ ?side1 ?side2 A4.out).mono ?_); (case side1 => exact cb_ HR0_2 HB); (case side2 => exact HC0_2.out); rintro e w11 ⟨v733, rfl, ho0, hb⟩; refine ⟨_, rfl, ?_⟩; have HO734 := A_ (Kd.R_lower (Kd.R_new' ho0 (Kd.R_lt (ro_ HO730))) (below_size (bl1_ HB GE727.out))); replace HO730 := A_ (Kd.R_elder' (ro_ HO730) (Kd.R_base ho0) hb); replace BK727 := A_ (blk_below (bx_ BK727) hb); replace HB := A_ (below_step (bl1_ HB GE727.out) hb); (try clear hb); (try clear hb2); (try clear hk); (try clear hi); (try clear ho0); obtain ⟨Ao12, co12, eo12⟩ := Kd.R_slice HO734.out; subst eo12))
 go_loopg [5, 17] k (fun kq v5 v17 w' => ∃ (x5_1 : List Int) (x17_1 : Int), v17 = .int .i64 x17_1 ∧ Aside0 (social_Corners.l0 kq x5_1 t731 t732 (t732.length : Int) x17_1 = some r) ∧ Aside0 (kq ≤ k) ∧ Aside0 (Kd.R (Kd.int .i64) 2 w' w.heap.size (fun k_ => some k_ ≠ ((.slice Ao12 t732.length co12) : Value).ownBlock) v5 x5_1) ∧ Aside0 (Kd.R (Kd.int .i64) 2 w' w.heap.size (fun k_ => some k_ ≠ (v5 : Value).ownBlock) (.slice Ao12 t732.length co12) t732) ∧ Aside0 (w'.heap[gb727]? = some (.cells #[.string a0_0, .int .i64 a0_1, (.slice A0_2 l0_2.length c0_2), .int .i64 a0_3, .int .i64 a0_4, .int .i64 a0_5] 120 (0, 0))) ∧ Aside0 (Below w.heap.size w w'))
 case atStart => exact ⟨(y728), (0), (sx_), H', ⟨Nat.le_refl _⟩, ⟨by (with_reducible repeat (first | apply Kd.R_alloc | apply Kd.R_drewN | apply Kd.R_drew)); exact Kd.R_mono HO730.out (fun _ hk => hk.2)⟩, ⟨by (with_reducible repeat (first | apply Kd.R_alloc | apply Kd.R_drewN | apply Kd.R_drew)); exact Kd.R_mono HO734.out (fun _ hk => hk.2)⟩, ⟨bx_ BK727⟩, ⟨bl1_ HB GE727.out⟩⟩
 case round =>
  clear H'; try clear c1
  try clear p2
  try clear c6
  try clear c12
  try clear hcz10_0 hcz10_1 hcz10_2 hcz10_3 hcz10_4 hcz10_5
  try clear hcz8_0 hcz8_1 hcz8_2 hcz8_3 hcz8_4 hcz8_5
  try clear hfz10_0 hfz10_1 hfz10_2 hfz10_3 hfz10_4 hfz10_5
  try clear hfz8_0 hfz8_1 hfz8_2 hfz8_3 hfz8_4 hfz8_5
  obtain ⟨x5_1, x17_1, rfl, HA, HK1, HO_5, HO_15, BK727, HB⟩ := hrel
  cases gk with
  | zero => exact absurd HA.out (by simp [social_Corners.l0])
  | succ k1 =>
   have H := HA.out; clear HA; simp only [social_Corners.l0] at H; by_cases c13 : x17_1 < (t732.length : Int)
   ·rw [if_pos c13] at H; have c13b0 := decide_eq_true c13; clear c13; by_cases c14 : 0 ≤ x17_1
    ·rw [if_pos c14] at H; have c14b0 := decide_eq_true c14; clear c14; by_cases c15 : x17_1 < (t732.length : Int)
     ·rw [if_pos c15] at H; have c15b0 := decide_eq_true c15; clear c15; by_cases c16 : (rd t732 x17_1) < t731
      ·rw [if_pos c16] at H; have c16b0 := decide_eq_true c16; clear c16; by_cases c17 : x5_1.length < 17592186044416
       ·rw [if_pos c17] at H; have LMc17 := A_ c17; clear c17; obtain ⟨y736, hy736⟩ : ∃ y_ : List Int, y_ = (x5_1 ++ [rd t732 x17_1]) := ⟨_, rfl⟩; replace H : (social_Corners.l0 k1 y736 t731 t732 (t732.length : Int) (wrap64 (x17_1 + 1))) = some r := by first | (rw [hy736]; with_reducible exact H) | (have H2_ := (Option.bind_some _ _).symm.trans H; rw [hy736]; with_reducible exact H2_) | (have H2_ := (Option.bind_some _ _).symm.trans H; with_reducible exact H2_) | with_reducible exact H | (rw [hy736]; exact H) | exact H
        have Ny736 := A_ hy736; clear hy736; have H' := A_ H; clear H; have p735 : 0 ≤ (x17_1 : Int) := od_; have q735 : x17_1 < (t732.length : Int) := od_; obtain ⟨ad735, e735, hx735_0⟩ := Kd.at_int (Kd.R_reads' HO_15.out).2.2 x17_1 p735 q735; cases e735; replace p735 := eq_true p735; replace q735 := eq_true q735; go_wp2_with (first | ((with_reducible refine gate_builtin (b := .append) (xs := #[.tmp 24, .tmp 26]) rfl ?_); at_builtin; refine Kd.R_append (Kd.int .i64) (w0 := w) w.heap.size rfl (.tmp 24) (.tmp 26) 79 2 (.int .i64 0) 8 rfl Try.underlying79 info2 rfl (by decide) (by omega) u5 x5_1 (rd t732 x17_1) [.int .i64 (rd t732 x17_1)] (fun k_ => some k_ ≠ (.slice (some ad735) t732.length co12 : Value).ownBlock) (fun _ => False) rfl rfl ?aP (fun _ hk => hk.elim) ?aF ?aO ?aB ?aS ?aL ?_; (case aP => exact rfl); (case aB => exact (bl1_ HB GE727.out)); (case aF => exact (fun k_ hk => Kd.fresh' (Kd.R_lt (ro_ HO_15)) k_ hk)); (case aO => exact (ro_ HO_5)); (case aS => exact (below_size (bl1_ HB GE727.out))); (case aL => have := LMc17.out; omega); intro v737 w18 ho hb hg hat; rw [← Ny736.out] at ho; have HO738 := A_ (ho); replace HO_15 := A_ (Kd.R_after (ok := (fun _ => True)) (by (with_reducible repeat (first | apply Kd.R_alloc | apply Kd.R_drewN | apply Kd.R_drew)); exact Kd.R_mono HO_15.out (fun _ hk => ⟨trivial, hk⟩)) hg hat); replace BK727 := A_ (blk_grown (g := gb727) (o := .cells #[.string a0_0, .int .i64 a0_1, .slice A0_2 l0_2.length c0_2, .int .i64 a0_3, .int .i64 a0_4, .int .i64 a0_5] 120 (0, 0)) (bx_ BK727) hg (Kd.R_ne HO_5.out BK727.out (by decide))); replace HB := A_ (hb); clear HO_5; clear ho hb hg hat))
        go_roundg k1
        case measure => have := HK1.out; omega
        case rel => exact ⟨(y736), (wrap64 (x17_1 + 1)), (sx_), H', ⟨by have := HK1.out; omega⟩, ⟨ro_ HO738⟩, ⟨by (with_reducible repeat (first | apply Kd.R_alloc | apply Kd.R_drewN | apply Kd.R_drew)); exact Kd.R_mono HO_15.out (fun _ hk => hk.2)⟩, ⟨bx_ BK727⟩, ⟨bl1_ HB GE727.out⟩⟩
       ·rw [if_neg c17] at H; exact absurd H (by simp)
      ·rw [if_neg c16] at H; have c16b0 := decide_eq_false c16; clear c16; have H' := A_ H; clear H; have p735 : 0 ≤ (x17_1 : Int) := od_; have q735 : x17_1 < (t732.length : Int) := od_; obtain ⟨ad735, e735, hx735_0⟩ := Kd.at_int (Kd.R_reads' HO_15.out).2.2 x17_1 p735 q735; cases e735; replace p735 := eq_true p735; replace q735 := eq_true q735
       go_wp2
       go_roundg k1
       case measure => have := HK1.out; omega
       case rel => exact ⟨(x5_1), (wrap64 (x17_1 + 1)), (sx_), H', ⟨by have := HK1.out; omega⟩, ⟨ro_ HO_5⟩, ⟨ro_ HO_15⟩, ⟨bx_ BK727⟩, ⟨bl1_ HB GE727.out⟩⟩
     ·rw [if_neg c15] at H; exact absurd H (by simp)
    ·rw [if_neg c14] at H; exact absurd H (by simp)
   ·rw [if_neg c13] at H; have c13b0 := decide_eq_false c13; clear c13; have HC19 := A_ H; clear H; go_upto_region 9 with (fail)
    go_cut [34] (fun v34 wc => ∃ (kq : Nat) (x34_18 : Bool), v34 = .bool x34_18 ∧ Aside0 (social_Corners.j1 kq x5_1 t731 x34_18 = some r) ∧ Aside0 (kq ≤ k1) ∧ Aside0 (Kd.R (Kd.int .i64) 2 wc w.heap.size (fun _ => True) u5 x5_1) ∧ Aside0 (wc.heap[gb727]? = some (.cells #[.string a0_0, .int .i64 a0_1, (.slice A0_2 l0_2.length c0_2), .int .i64 a0_3, .int .i64 a0_4, .int .i64 a0_5] 120 (0, 0))) ∧ Aside0 (Below w.heap.size w wc))
    case first =>
     have H := HC19.out; clear HC19; by_cases c20 : t731 > 0
     ·rw [if_pos c20] at H; have c20b0 : decide (0 < t731) = true := decide_eq_true c20; clear c20
      (first | rw [c20b0] | (simp only [i64_w, i32_w]; rw [c20b0]) | skip)
      have H' := A_ H; clear H
      go_wp2
      go_meet
      case rel => exact ⟨_, (decide (t731 < 100000000000)), (sx_), H', ⟨by have := HK1.out; first | omega | exact Nat.le_refl _⟩, ⟨by (with_reducible repeat (first | apply Kd.R_alloc | apply Kd.R_drewN | apply Kd.R_drew)); exact Kd.R_mono HO_5.out (fun _ hk => trivial)⟩, ⟨bx_ BK727⟩, ⟨bl1_ HB GE727.out⟩⟩
     ·rw [if_neg c20] at H; have c20b0 : decide (0 < t731) = false := decide_eq_false c20; clear c20
      (first | rw [c20b0] | (simp only [i64_w, i32_w]; rw [c20b0]) | skip)
      have H' := A_ H; clear H
      go_wp2
      go_meet
      case rel => exact ⟨_, (false), (sx_), H', ⟨by have := HK1.out; first | omega | exact Nat.le_refl _⟩, ⟨by (with_reducible repeat (first | apply Kd.R_alloc | apply Kd.R_drewN | apply Kd.R_drew)); exact Kd.R_mono HO_5.out (fun _ hk => trivial)⟩, ⟨bx_ BK727⟩, ⟨bl1_ HB GE727.out⟩⟩
    case rest =>
     clear HC19; try clear c1
     try clear c2
     try clear p2
     try clear c6
     try clear p6
     try clear p7
     try clear q7
     try clear hx7
     try clear c12
     try clear c13
     try clear c13b0
     try clear c14
     try clear c14b0
     try clear c15
     try clear c15b0
     try clear c16
     try clear c16b0
     try clear c17
     try clear c20
     try clear c20b0
     try clear hcz10_0 hcz10_1 hcz10_2 hcz10_3 hcz10_4 hcz10_5
     try clear hcz8_0 hcz8_1 hcz8_2 hcz8_3 hcz8_4 hcz8_5
     try clear hfz10_0 hfz10_1 hfz10_2 hfz10_3 hfz10_4 hfz10_5
     try clear hfz8_0 hfz8_1 hfz8_2 hfz8_3 hfz8_4 hfz8_5
     try clear hx735_0
     try clear p2
     try clear p735
     try clear q735
     obtain ⟨kq, x34_18, rfl, HA, HJ18, HO_5, BK727, HB⟩ := hcut
     cases kq with
     | zero => exact absurd HA.out (by simp [social_Corners.j1])
     | succ kj18 =>
      have H := HA.out; clear HA; simp only [social_Corners.j1] at H; by_cases c21 : x34_18 = true
      ·subst c21; rw [if_pos rfl] at H; by_cases c22 : x5_1.length < 17592186044416
       ·rw [if_pos c22] at H; have LMc22 := A_ c22; clear c22; obtain ⟨y739, hy739⟩ : ∃ y_ : List Int, y_ = (x5_1 ++ [t731]) := ⟨_, rfl⟩; replace H : (some y739) = some r := by first | (rw [hy739]; with_reducible exact H) | (have H2_ := (Option.bind_some _ _).symm.trans H; rw [hy739]; with_reducible exact H2_) | (have H2_ := (Option.bind_some _ _).symm.trans H; with_reducible exact H2_) | with_reducible exact H | (rw [hy739]; exact H) | exact H
        have Ny739 := A_ hy739; clear hy739; obtain rfl := Option.some.inj H; go_wp2_with (first | ((with_reducible refine gate_builtin (b := .append) (xs := #[.tmp 35, .tmp 37]) rfl ?_); at_builtin; refine Kd.R_append (Kd.int .i64) (w0 := w) w.heap.size rfl (.tmp 35) (.tmp 37) 79 2 (.int .i64 0) 8 rfl Try.underlying79 info2 rfl (by decide) (by omega) u5 x5_1 t731 [.int .i64 t731] (fun _ => True) (fun _ => False) rfl rfl ?aP (fun _ hk => hk.elim) ?aF ?aO ?aB ?aS ?aL ?_; (case aP => exact rfl); (case aB => exact (bl1_ HB GE727.out)); (case aF => exact (fun _ _ => trivial)); (case aO => exact (ro_ HO_5)); (case aS => exact (below_size (bl1_ HB GE727.out))); (case aL => have := LMc22.out; omega); intro v740 w23 ho hb hg hat; rw [← Ny739.out] at ho; have HO741 := A_ (ho); replace BK727 := A_ (blk_grown (g := gb727) (o := .cells #[.string a0_0, .int .i64 a0_1, .slice A0_2 l0_2.length c0_2, .int .i64 a0_3, .int .i64 a0_4, .int .i64 a0_5] 120 (0, 0)) (bx_ BK727) hg (Kd.R_ne HO_5.out BK727.out (by decide))); replace HB := A_ (hb); clear HO_5; clear ho hb hg hat))
        go_ret
        exact ⟨_, er_, ro_ HO741, bl1_ HB GE727.out⟩
       ·rw [if_neg c22] at H; exact absurd H (by simp)
      ·replace c21 := Bool.eq_false_iff.mpr c21; subst c21; rw [if_neg (show ¬ (false = true) by decide)] at H; obtain rfl := Option.some.inj H
       go_wp2
       go_ret
       exact ⟨_, er_, ro_ HO_5, bl1_ HB GE727.out⟩
end Go.Proofs.Ytcapgmoipacioaa.P
