import Derived.Test.YtcapgmoipacioaaPtZg
import Derived.Test.YtcapgmoipacioaaHcheckZg
import Derived.Test.YtcapgmoipacioaaHexactZg
import Derived.Test.YtcapgmoipacioaaPpfracZg
import Derived.Test.YtcapgmoipacioaaY1Zg
namespace Go.Proofs.Ytcapgmoipacioaa.P
open Go.RowKit Go.Proofs.YtcapgmoipacioaaW.PrintWords Go.Proofs.YtcapgmoipacioaaW.PrintLast Go.Proofs.YtcapgmoipacioaaW.PrintMore
set_option linter.unusedVariables false
set_option linter.unusedSimpArgs false
mutual
def band_Find.l0 : Nat → Int → List (S106) → Int → Option (Int)
 | 0, _, _, _ => none
 | k + 1, x0, x1, x5 => if (wrap64 (x5 + 1)) < (x1.length : Int) then (if 0 ≤ (wrap64 (x5 + 1)) then (band_Find.j1 k x0 x1 x5 (decide (((rd_T106 x1 (wrap64 (x5 + 1))).f0) < x0))) else (none)) else (band_Find.j1 k x0 x1 x5 false)
def band_Find.j1 : Nat → Int → List (S106) → Int → Bool → Option (Int)
 | 0, _, _, _, _ => none
 | k + 1, x0, x1, x5, x20 => if x20 = true then (band_Find.l0 k x0 x1 (wrap64 (x5 + 1))) else (some x5)
end
def band_Find.f (k : Nat) (a0 : Int) (l1 : List (S106)) : Option (Int) := band_Find.l0 k a0 l1 0
set_option maxHeartbeats 8000000 in
set_option maxRecDepth 100000 in
theorem band_Find.calls (k : Nat) (a0 : Int) (A1 : Option Addr) (c1 : Nat) (l1 : List (S106)) (r : Int) (w : World) (hr1 : Kd.C k106 w A1 l1.length l1) (hc1 : l1.length ≤ c1) (h : band_Find.f k a0 l1 = some r) :
  Calls Try.prog 58 #[.int .i64 a0, .slice A1 l1.length c1] w fun e w' => e = .returned (.int .i64 r) ∧ Drawn0 w w' := by
 have HR1 := A_ hr1; have HC1 := A_ hc1; clear hr1 hc1; have H : (band_Find.l0 k a0 l1 0) = some r := h; clear h; have H' := A_ H; clear H; go_enter Try.func58, Try.ntmps58
 go_wp2
 go_loopg [5] k (fun kq v5 w' => ∃ (x5_1 : Int), v5 = .int .i64 x5_1 ∧ Aside0 (band_Find.l0 kq a0 l1 x5_1 = some r) ∧ Aside0 (kq ≤ k) ∧ Drawn0 w w')
 case atStart => exact ⟨(0), (sx_), H', ⟨Nat.le_refl _⟩, by repeat (first | exact Drawn0.refl _ | apply Drawn0.step)⟩
 case round =>
  clear H'; try clear c1
  try clear p2
  obtain ⟨x5_1, rfl, HA, HK1, ⟨m1, rfl⟩⟩ := hrel
  cases gk with
  | zero => exact absurd HA.out (by simp [band_Find.l0])
  | succ k1 =>
   have H := HA.out; clear HA; simp only [band_Find.l0] at H; have HC3 := A_ H; clear H; go_upto_region 2 with (fail)
   go_cut [20] (fun v20 wc => ∃ (kq : Nat) (x20_2 : Bool), v20 = .bool x20_2 ∧ Aside0 (band_Find.j1 kq a0 l1 x5_1 x20_2 = some r) ∧ Aside0 (kq ≤ k1) ∧ Drawn0 w wc)
   case first =>
    have H := HC3.out; clear HC3; by_cases c4 : (wrap64 (x5_1 + 1)) < (l1.length : Int)
    ·rw [if_pos c4] at H; have c4b0 := decide_eq_true c4; clear c4
     (first | rw [c4b0] | (simp only [i64_w, i32_w]; rw [c4b0]) | skip)
     obtain ⟨ji5, hji5⟩ : ∃ j_ : Int, (wrap64 (x5_1 + 1)) = j_ := ⟨_, rfl⟩; replace H : (if 0 ≤ (ji5) then (band_Find.j1 k1 a0 l1 x5_1 (decide (((rd_T106 l1 (ji5)).f0) < a0))) else (none)) = some r := by first | (rw [hji5] at H; exact H) | (simp only [hji5] at H ⊢; exact H)
     (try rw [hji5] at c4b0)
     have hji5w : (IntKind.i64.wrap (x5_1 + 1)) = ji5 := (i64_w _).trans hji5; by_cases c6 : 0 ≤ (ji5)
     ·rw [if_pos c6] at H; have c6b0 := decide_eq_true c6; clear c6; have H' := A_ H; clear H; have p170 : 0 ≤ ((ji5) : Int) := od_; have q170 : (ji5) < (l1.length : Int) := od_; obtain ⟨ad170, e170, hx170_0, hx170_1, hx170_2⟩ := at_T106 HR1.out (ji5) p170 q170; cases e170; replace p170 := eq_true p170; replace q170 := eq_true q170
      go_wp2
      go_meet
      case rel => exact ⟨_, (decide (((rd_T106 l1 (ji5)).f0) < a0)), (by first | rfl | (simp; done) | (simp only [← hji5] <;> (first | rfl | simp)) | (simp [*]; done)), H', ⟨by have := HK1.out; first | omega | exact Nat.le_refl _⟩, by repeat (first | exact Drawn0.refl _ | apply Drawn0.step)⟩
     ·rw [if_neg c6] at H; exact absurd H (by simp)
    ·rw [if_neg c4] at H; have c4b0 := decide_eq_false c4; clear c4
     (first | rw [c4b0] | (simp only [i64_w, i32_w]; rw [c4b0]) | skip)
     have H' := A_ H; clear H
     go_wp2
     go_meet
     case rel => exact ⟨_, (false), (sx_), H', ⟨by have := HK1.out; first | omega | exact Nat.le_refl _⟩, by repeat (first | exact Drawn0.refl _ | apply Drawn0.step)⟩
   case rest =>
    clear HC3; try clear c1
    try clear p1
    try clear q1
    try clear hx1
    try clear p2
    try clear c4
    try clear c4b0
    try clear c5
    try clear c6
    try clear c6b0
    try clear p6
    try clear hx170_0
    try clear hx170_1
    try clear hx170_2
    try clear p170
    try clear p2
    try clear q170
    obtain ⟨kq, x20_2, rfl, HA, HJ2, ⟨mc2, rfl⟩⟩ := hcut
    cases kq with
    | zero => exact absurd HA.out (by simp [band_Find.j1])
    | succ kj2 =>
     have H := HA.out; clear HA; simp only [band_Find.j1] at H; by_cases c7 : x20_2 = true
     ·subst c7; rw [if_pos rfl] at H; have H' := A_ H; clear H
      go_wp2
      go_roundg kj2
      case measure => have := HK1.out; have := HJ2.out; omega
      case rel => exact ⟨(wrap64 (x5_1 + 1)), (sx_), H', ⟨by have := HK1.out; have := HJ2.out; omega⟩, by repeat (first | exact Drawn0.refl _ | apply Drawn0.step)⟩
     ·replace c7 := Bool.eq_false_iff.mpr c7; subst c7; rw [if_neg (show ¬ (false = true) by decide)] at H; obtain rfl := Option.some.inj H
      go_wp2
      go_ret
      exact ⟨sx_, by repeat (first | exact Drawn0.refl _ | apply Drawn0.step)⟩
def band_Corners.l0 : Nat → List Int → List (S106) → Int → Int → Option (List Int)
 | 0, _, _, _, _ => none
 | k + 1, x3, x6, x7, x8 => if x8 < x7 then (if 0 ≤ x8 then (if x8 < (x6.length : Int) then (if x8 > 0 then (if x3.length < 17592186044416 then (band_Corners.l0 k (x3 ++ [(rd_T106 x6 x8).f0]) x6 x7 (wrap64 (x8 + 1))) else (none)) else (band_Corners.l0 k x3 x6 x7 (wrap64 (x8 + 1)))) else (none)) else (none)) else (some x3)
def band_Corners.f (k : Nat) (l0 : List (S106)) : Option (List Int) := band_Corners.l0 k ([] : List Int) l0 (l0.length : Int) 0
set_option maxHeartbeats 8000000 in
set_option maxRecDepth 100000 in
theorem band_Corners.calls (k : Nat) (A0 : Option Addr) (c0 : Nat) (l0 : List (S106)) (r : List Int) (w : World) (hr0 : Kd.C k106 w A0 l0.length l0) (hc0 : l0.length ≤ c0) (h : band_Corners.f k l0 = some r) :
  Calls Try.prog 64 #[.slice A0 l0.length c0] w fun e w' => ∃ v0_ : Value, e = .returned (v0_) ∧ Kd.R (Kd.int .i64) 2 w' w.heap.size (fun _ => True) v0_ r ∧ Below w.heap.size w w' := by
 have hu106 := Try.underlying106; have HR0 := A_ hr0; have HC0 := A_ hc0; clear hr0 hc0; have HB := A_ (Below.refl w.heap.size w); unfold band_Corners.f at h; have H := h; clear h; have H' := A_ H; clear H; go_enter Try.func64, Try.ntmps64
 go_wp2
 go_loopg [3, 8] k (fun kq v3 v8 w' => ∃ (x3_1 : List Int) (x8_1 : Int), v8 = .int .i64 x8_1 ∧ Aside0 (band_Corners.l0 kq x3_1 l0 (l0.length : Int) x8_1 = some r) ∧ Aside0 (kq ≤ k) ∧ Aside0 (Kd.R (Kd.int .i64) 2 w' w.heap.size (fun _ => True) v3 x3_1) ∧ Aside0 (Below w.heap.size w w'))
 case atStart => exact ⟨(([] : List Int)), (0), (sx_), H', ⟨Nat.le_refl _⟩, ⟨by first | exact Kd.R_nil _ _ _ _ _ | exact Kd.N_nil _ _ _ _ _ | exact Kd.V_nil _ _ _ _ _ | exact Kd.Q_nil _ _ _ _ _ | exact Kd.S_nil _ _ _ _ _⟩, ⟨bl_ HB⟩⟩
 case round =>
  clear H'; obtain ⟨x3_1, x8_1, rfl, HA, HK1, HO_3, HB⟩ := hrel
  cases gk with
  | zero => exact absurd HA.out (by simp [band_Corners.l0])
  | succ k1 =>
   have H := HA.out; clear HA; simp only [band_Corners.l0] at H; by_cases c2 : x8_1 < (l0.length : Int)
   ·rw [if_pos c2] at H; have c2b0 := decide_eq_true c2; clear c2; by_cases c3 : 0 ≤ x8_1
    ·rw [if_pos c3] at H; have c3b0 := decide_eq_true c3; clear c3; by_cases c4 : x8_1 < (l0.length : Int)
     ·rw [if_pos c4] at H; have c4b0 := decide_eq_true c4; clear c4; by_cases c5 : x8_1 > 0
      ·rw [if_pos c5] at H; have c5b0 : decide (0 < x8_1) = true := decide_eq_true c5; clear c5; by_cases c6 : x3_1.length < 17592186044416
       ·rw [if_pos c6] at H; have LMc6 := A_ c6; clear c6; obtain ⟨y191, hy191⟩ : ∃ y_ : List Int, y_ = (x3_1 ++ [(rd_T106 l0 x8_1).f0]) := ⟨_, rfl⟩; replace H : (band_Corners.l0 k1 y191 l0 (l0.length : Int) (wrap64 (x8_1 + 1))) = some r := by first | (rw [hy191]; with_reducible exact H) | (have H2_ := (Option.bind_some _ _).symm.trans H; rw [hy191]; with_reducible exact H2_) | (have H2_ := (Option.bind_some _ _).symm.trans H; with_reducible exact H2_) | with_reducible exact H | (rw [hy191]; exact H) | exact H
        have Ny191 := A_ hy191; clear hy191; have H' := A_ H; clear H; have p189 : 0 ≤ (x8_1 : Int) := od_; have q189 : x8_1 < (l0.length : Int) := od_; obtain ⟨ad189, e189, hx189_0, hx189_1, hx189_2⟩ := at_T106 HR0.out x8_1 p189 q189; cases e189; replace hx189_0 := (HB.out.cell (World.block_lt_of_cell? w _ hx189_0)).trans hx189_0; replace hx189_1 := (HB.out.cell (World.block_lt_of_cell? w _ hx189_1)).trans hx189_1; replace hx189_2 := (HB.out.cell (World.block_lt_of_cell? w _ hx189_2)).trans hx189_2; replace p189 := eq_true p189; replace q189 := eq_true q189; go_wp2_with (first | ((with_reducible refine gate_dst (N := 5) rfl ?_); refine be_ (N := 5) (cs := #[.int .i64 0, .int .i64 0, .int .i64 0]) (t := 106) ?_; intro gb190 hg w7 hbox hb; have BK190 := A_ (hbox); have GW190 := A_ ((by rw [hg]; exact (below_size (bl_ HB)) : w.heap.size ≤ gb190)); have GE190 := A_ ((by rw [hg]; exact (below_size (bl_ HB)) : w.heap.size ≤ gb190)); replace HO_3 := A_ (Kd.R_below (ro_ HO_3) hb); replace HB := A_ (below_step (bl_ HB) hb); clear hb hbox hg; have hcz8_0 := cz_ BK190 0; have hcz8_1 := cz_ BK190 1; have hcz8_2 := cz_ BK190 2; have hfz8_0 := fz_ BK190 0; have hfz8_1 := fz_ BK190 1; have hfz8_2 := fz_ BK190 2) | ((with_reducible refine gate_builtin (b := .append) (xs := #[.tmp 15, .tmp 18]) rfl ?_); at_builtin; refine Kd.R_append (Kd.int .i64) (w0 := w) w.heap.size rfl (.tmp 15) (.tmp 18) 79 2 (.int .i64 0) 8 rfl Try.underlying79 info2 rfl (by decide) (by omega) u3 x3_1 ((rd_T106 l0 x8_1).f0) [.int .i64 ((rd_T106 l0 x8_1).f0)] (fun _ => True) (fun _ => False) rfl (by first | (go_simp; done) | (go_simp; rfl)) ?aP (fun _ hk => hk.elim) ?aF ?aO ?aB ?aS ?aL ?_; (case aP => exact rfl); (case aB => exact (bl1_ HB GE190.out)); (case aF => exact (fun _ _ => trivial)); (case aO => exact (by (with_reducible repeat (first | apply Kd.R_alloc | apply Kd.R_drewN | apply Kd.R_drew)); exact Kd.R_mono (Kd.R_far (p := ⟨gb190, 2, none⟩) (Kd.R_far (p := ⟨gb190, 1, none⟩) (Kd.R_far (p := ⟨gb190, 0, none⟩) (Kd.R_types HO_3.out BK190.out (by decide)) (fun _ hk => hk.2) (.int .i64 ((rd_T106 l0 x8_1).f0))) (fun _ hk => hk.2) (.int .i64 ((rd_T106 l0 x8_1).f1))) (fun _ hk => hk.2) (.int .i64 ((rd_T106 l0 x8_1).f2))) (fun _ hk => trivial))); (case aS => exact (below_size (bl1_ HB GE190.out))); (case aL => have := LMc6.out; omega); intro v192 w9 ho hb hg hat; rw [← Ny191.out] at ho; have HO193 := A_ (ho); replace BK190 := A_ (blk_grown (g := gb190) (o := .cells #[.int .i64 ((rd_T106 l0 x8_1).f0), .int .i64 ((rd_T106 l0 x8_1).f1), .int .i64 ((rd_T106 l0 x8_1).f2)] 106 (0, 0)) (by refine bw_ ?_; refine blk_put (cs := #[.int .i64 ((rd_T106 l0 x8_1).f0), .int .i64 ((rd_T106 l0 x8_1).f1), .int .i64 0]) ?_ 2 _ rfl; refine bw_ ?_; refine blk_put (cs := #[.int .i64 ((rd_T106 l0 x8_1).f0), .int .i64 0, .int .i64 0]) ?_ 1 _ rfl; refine bw_ ?_; refine blk_put (cs := #[.int .i64 0, .int .i64 0, .int .i64 0]) ?_ 0 _ rfl; refine bw_ ?_; exact BK190.out) hg (Kd.R_ne HO_3.out BK190.out (by decide))); replace HB := A_ (hb); clear HO_3; clear ho hb hg hat))
        go_roundg k1
        case measure => have := HK1.out; omega
        case rel => exact ⟨(y191), (wrap64 (x8_1 + 1)), (sx_), H', ⟨by have := HK1.out; omega⟩, ⟨ro_ HO193⟩, ⟨bl1_ HB GE190.out⟩⟩
       ·rw [if_neg c6] at H; exact absurd H (by simp)
      ·rw [if_neg c5] at H; have c5b0 : decide (0 < x8_1) = false := decide_eq_false c5; clear c5; have H' := A_ H; clear H; have p189 : 0 ≤ (x8_1 : Int) := od_; have q189 : x8_1 < (l0.length : Int) := od_; obtain ⟨ad189, e189, hx189_0, hx189_1, hx189_2⟩ := at_T106 HR0.out x8_1 p189 q189; cases e189; replace hx189_0 := (HB.out.cell (World.block_lt_of_cell? w _ hx189_0)).trans hx189_0; replace hx189_1 := (HB.out.cell (World.block_lt_of_cell? w _ hx189_1)).trans hx189_1; replace hx189_2 := (HB.out.cell (World.block_lt_of_cell? w _ hx189_2)).trans hx189_2; replace p189 := eq_true p189; replace q189 := eq_true q189; go_wp2_with (first | ((with_reducible refine gate_dst (N := 5) rfl ?_); refine be_ (N := 5) (cs := #[.int .i64 0, .int .i64 0, .int .i64 0]) (t := 106) ?_; intro gb190 hg w10 hbox hb; have BK190 := A_ (hbox); have GW190 := A_ ((by rw [hg]; exact (below_size (bl_ HB)) : w.heap.size ≤ gb190)); have GE190 := A_ ((by rw [hg]; exact (below_size (bl_ HB)) : w.heap.size ≤ gb190)); replace HO_3 := A_ (Kd.R_below (ro_ HO_3) hb); replace HB := A_ (below_step (bl_ HB) hb); clear hb hbox hg; have hcz11_0 := cz_ BK190 0; have hcz11_1 := cz_ BK190 1; have hcz11_2 := cz_ BK190 2; have hfz11_0 := fz_ BK190 0; have hfz11_1 := fz_ BK190 1; have hfz11_2 := fz_ BK190 2))
       go_roundg k1
       case measure => have := HK1.out; omega
       case rel => exact ⟨(x3_1), (wrap64 (x8_1 + 1)), (sx_), H', ⟨by have := HK1.out; omega⟩, ⟨by (with_reducible repeat (first | apply Kd.R_alloc | apply Kd.R_drewN | apply Kd.R_drew)); exact Kd.R_mono (Kd.R_far (p := ⟨gb190, 2, none⟩) (Kd.R_far (p := ⟨gb190, 1, none⟩) (Kd.R_far (p := ⟨gb190, 0, none⟩) (Kd.R_types HO_3.out BK190.out (by decide)) (fun _ hk => hk.2) (.int .i64 ((rd_T106 l0 x8_1).f0))) (fun _ hk => hk.2) (.int .i64 ((rd_T106 l0 x8_1).f1))) (fun _ hk => hk.2) (.int .i64 ((rd_T106 l0 x8_1).f2))) (fun _ hk => trivial)⟩, ⟨bl1_ HB GE190.out⟩⟩
     ·rw [if_neg c4] at H; exact absurd H (by simp)
    ·rw [if_neg c3] at H; exact absurd H (by simp)
   ·rw [if_neg c2] at H; have c2b0 := decide_eq_false c2; clear c2; obtain rfl := Option.some.inj H
    go_wp2
    go_ret
    exact ⟨_, er_, ro_ HO_3, bl_ HB⟩
end Go.Proofs.Ytcapgmoipacioaa.P
