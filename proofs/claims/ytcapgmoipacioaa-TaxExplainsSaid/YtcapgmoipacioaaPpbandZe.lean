import Derived.Test.YtcapgmoipacioaaPtZe
import Derived.Test.YtcapgmoipacioaaHcheckZe
import Derived.Test.YtcapgmoipacioaaHexactZe
import Derived.Test.YtcapgmoipacioaaPpfracZe
import Derived.Test.YtcapgmoipacioaaY1Ze
namespace Go.Proofs.Ytcapgmoipacioaa.P
open Go.RowKit Go.Proofs.YtcapgmoipacioaaW.PrintWords Go.Proofs.YtcapgmoipacioaaW.PrintLast Go.Proofs.YtcapgmoipacioaaW.PrintMore
set_option linter.unusedVariables false
set_option linter.unusedSimpArgs false
mutual
def band_Scale.j0 : Nat → Int → Int → List (S106) → Bool → Option ((List (S106)) × Int)
 | 0, _, _, _, _ => none
 | k + 1, x0, x1, x2, x34 => if x34 = true then (some (([] : List (S106)), 1)) else (band_Scale.l0 k x0 x1 ([] : List (S106)) x2 (x2.length : Int) 0)
def band_Scale.l0 : Nat → Int → Int → List (S106) → List (S106) → Int → Int → Option ((List (S106)) × Int)
 | 0, _, _, _, _, _, _ => none
 | k + 1, x0, x1, x9, x35, x36, x37 => if x37 < x36 then (if 0 ≤ x37 then (if x37 < (x35.length : Int) then ((frac_Scale.f k ((rd_T106 x35 x37).f0) x0 x1).bind fun bt154 => (if bt154.2 = 0 then (if (x9.length : Int) > 0 then (if 0 ≤ (wrap64 ((x9.length : Int) - 1)) then (if (wrap64 ((x9.length : Int) - 1)) < (x9.length : Int) then (band_Scale.j2 k x0 x1 x9 bt154.1 (x9.length : Int) x35 x36 x37 (((rd_T106 x9 (wrap64 ((x9.length : Int) - 1))).f0) == bt154.1) ((rd_T106 x35 x37).f0) ((rd_T106 x35 x37).f1) ((rd_T106 x35 x37).f2)) else (none)) else (none)) else (band_Scale.j2 k x0 x1 x9 bt154.1 (x9.length : Int) x35 x36 x37 false ((rd_T106 x35 x37).f0) ((rd_T106 x35 x37).f1) ((rd_T106 x35 x37).f2))) else (some (([] : List (S106)), bt154.2)))) else (none)) else (none)) else (some (x9, 0))
def band_Scale.j2 : Nat → Int → Int → List (S106) → Int → Int → List (S106) → Int → Int → Bool → Int → Int → Int → Option ((List (S106)) × Int)
 | 0, _, _, _, _, _, _, _, _, _, _, _, _ => none
 | k + 1, x0, x1, x9, x12, x14, x35, x36, x37, x65, x154000, x154001, x154002 => if x65 = true then (if 0 ≤ (wrap64 (x14 - 1)) then (if (wrap64 (x14 - 1)) ≤ (x9.length : Int) then ((some (x9.take ((wrap64 (x14 - 1)) : Int).toNat : List (S106))).bind fun y157 => (if y157.length < 5864062014805 then (band_Scale.l0 k x0 x1 (y157 ++ [(⟨x12, x154001, x154002⟩ : S106)]) x35 x36 (wrap64 (x37 + 1))) else (none))) else (none)) else (none)) else (if x9.length < 5864062014805 then (band_Scale.l0 k x0 x1 (x9 ++ [(⟨x12, x154001, x154002⟩ : S106)]) x35 x36 (wrap64 (x37 + 1))) else (none))
end
def band_Scale.f (k : Nat) (a0 : Int) (a1 : Int) (l2 : List (S106)) : Option ((List (S106)) × Int) := (band_Check.f l2).bind fun t151 => (if t151 = 0 then (if a0 < 0 then (band_Scale.j0 k a0 a1 l2 true) else (if a1 < 1 then (band_Scale.j0 k a0 a1 l2 true) else (if a0 > a1 then (band_Scale.j0 k a0 a1 l2 true) else (band_Scale.j0 k a0 a1 l2 (decide (a1 > 1048576)))))) else (some (([] : List (S106)), t151)))
set_option maxHeartbeats 8000000 in
set_option maxRecDepth 100000 in
theorem band_Scale.calls (k : Nat) (a0 : Int) (a1 : Int) (A2 : Option Addr) (c2 : Nat) (l2 : List (S106)) (r1 : List (S106)) (r2 : Int) (w : World) (hr2 : Kd.C k106 w A2 l2.length l2) (hc2 : l2.length ≤ c2) (h : band_Scale.f k a0 a1 l2 = some (r1, r2)) :
  Calls Try.prog 37 #[.int .i64 a0, .int .i64 a1, .slice A2 l2.length c2] w fun e w' => ∃ v0_ : Value, e = .returned (.tuple #[v0_, .int .i64 r2]) ∧ Kd.R k106 106 w' w.heap.size (fun _ => True) v0_ r1 ∧ Below w.heap.size w w' := by
 have hu106 := Try.underlying106; have HR2 := A_ hr2; have HC2 := A_ hc2; clear hr2 hc2; have HB := A_ (Below.refl w.heap.size w); unfold band_Scale.f at h; have H := h; clear h; replace H := Option.bind_eq_some_iff.mp H; obtain ⟨t151, A40, H⟩ := H; (try dsimp only at H); have A4 := A_ A40; clear A40; by_cases c5 : t151 = 0
 ·rw [if_pos c5] at H; have c5b0 : (t151 == 0) = true := beq_iff_eq.mpr c5; have c5b1 : (t151 != 0) = false := bne_eq_false_iff_eq.mpr c5; clear c5; have HC6 := A_ H; clear H; go_enter Try.func37, Try.ntmps37
  go_upto_region 4 with (first | ((with_reducible refine gate_callee (f := 36) rfl ?_); refine gm_ (some 16) Try.func36 #[.slice A2 l2.length c2] ?_; (with_reducible refine (band_Check.calls _ _ l2 t151 _ ?side1 ?side2 A4.out).mono ?_); (case side1 => repeat (first | exact HR2.out | (with_reducible refine Kd.C_alloc ?_ _) | (with_reducible refine Kd.C_drewN ?_ _) | (with_reducible refine Kd.C_drew ?_))); (case side2 => exact HC2.out); rintro e w7 ⟨rfl, hb⟩; refine ⟨_, rfl, ?_⟩; replace HB := A_ (below_step (bl_ HB) hb); (try clear hb); (try clear hb2); (try clear hk); (try clear hi)))
  (try simp only [Act.put, List.setIfInBounds_toArray, List.set_cons_zero, List.set_cons_succ])
  go_cut [34] (fun v34 wc => ∃ (kq : Nat) (x34_5 : Bool), v34 = .bool x34_5 ∧ Aside0 (band_Scale.j0 kq a0 a1 l2 x34_5 = some (r1, r2)) ∧ Aside0 (kq ≤ k) ∧ Aside0 (Below w.heap.size w wc))
  case first =>
   have H := HC6.out; clear HC6; by_cases c8 : a0 < 0
   ·rw [if_pos c8] at H; have c8b0 := decide_eq_true c8; clear c8
    (first | rw [c8b0] | (simp only [i64_w, i32_w]; rw [c8b0]) | skip)
    have H' := A_ H; clear H
    go_wp2
    go_meet
    case rel => exact ⟨_, (true), (sx_), H', ⟨by first | omega | exact Nat.le_refl _⟩, ⟨bl_ HB⟩⟩
   ·rw [if_neg c8] at H; have c8b0 := decide_eq_false c8; clear c8
    (first | rw [c8b0] | (simp only [i64_w, i32_w]; rw [c8b0]) | skip)
    by_cases c9 : a1 < 1
    ·rw [if_pos c9] at H; have c9b0 := decide_eq_true c9; clear c9; have H' := A_ H; clear H
     go_wp2
     go_meet
     case rel => exact ⟨_, (true), (sx_), H', ⟨by first | omega | exact Nat.le_refl _⟩, ⟨bl_ HB⟩⟩
    ·rw [if_neg c9] at H; have c9b0 := decide_eq_false c9; clear c9; by_cases c10 : a0 > a1
     ·rw [if_pos c10] at H; have c10b0 : decide (a1 < a0) = true := decide_eq_true c10; clear c10; have H' := A_ H; clear H
      go_wp2
      go_meet
      case rel => exact ⟨_, (true), (sx_), H', ⟨by first | omega | exact Nat.le_refl _⟩, ⟨bl_ HB⟩⟩
     ·rw [if_neg c10] at H; have c10b0 : decide (a1 < a0) = false := decide_eq_false c10; clear c10; have H' := A_ H; clear H
      go_wp2
      go_meet
      case rel => exact ⟨_, (decide (a1 > 1048576)), (sx_), H', ⟨by first | omega | exact Nat.le_refl _⟩, ⟨bl_ HB⟩⟩
  case rest =>
   clear HC6; try clear c1
   try clear c2
   try clear p2
   try clear c3
   try clear c5
   try clear c5b0
   try clear c5b1
   try clear c8
   try clear c8b0
   try clear c9
   try clear c9b0
   try clear c10
   try clear c10b0
   obtain ⟨kq, x34_5, rfl, HA, HJ5, HB⟩ := hcut
   cases kq with
   | zero => exact absurd HA.out (by simp [band_Scale.j0])
   | succ kj5 =>
    have H := HA.out; clear HA; simp only [band_Scale.j0] at H; by_cases c11 : x34_5 = true
    ·subst c11; rw [if_pos rfl] at H; simp only [Option.some.injEq, Prod.mk.injEq] at H; obtain ⟨rfl, rfl⟩ := H
     go_wp2
     go_ret2
     exact ⟨_, er_, by first | exact Kd.R_nil _ _ _ _ _ | exact Kd.N_nil _ _ _ _ _ | exact Kd.V_nil _ _ _ _ _ | exact Kd.Q_nil _ _ _ _ _ | exact Kd.S_nil _ _ _ _ _, bl_ HB⟩
    ·replace c11 := Bool.eq_false_iff.mpr c11; subst c11; rw [if_neg (show ¬ (false = true) by decide)] at H; have H' := A_ H; clear H
     go_wp2
     go_loopg [9, 37] kj5 (fun kq v9 v37 w' => ∃ (x9_2 : List (S106)) (x37_2 : Int), v37 = .int .i64 x37_2 ∧ Aside0 (band_Scale.l0 kq a0 a1 x9_2 l2 (l2.length : Int) x37_2 = some (r1, r2)) ∧ Aside0 (kq ≤ kj5) ∧ Aside0 (Kd.R k106 106 w' w.heap.size (fun _ => True) v9 x9_2) ∧ Aside0 (Below w.heap.size w w'))
     case atStart => exact ⟨(([] : List (S106))), (0), (sx_), H', ⟨Nat.le_refl _⟩, ⟨by first | exact Kd.R_nil _ _ _ _ _ | exact Kd.N_nil _ _ _ _ _ | exact Kd.V_nil _ _ _ _ _ | exact Kd.Q_nil _ _ _ _ _ | exact Kd.S_nil _ _ _ _ _⟩, ⟨bl_ HB⟩⟩
     case round =>
      clear H'; try clear c1
      try clear c2
      try clear p2
      try clear c3
      try clear c5
      try clear c5b0
      try clear c5b1
      try clear c8
      try clear c8b0
      try clear c9
      try clear c9b0
      try clear c10
      try clear c10b0
      try clear c11
      try clear p2
      obtain ⟨x9_2, x37_2, rfl, HA, HK2, HO_9, HB⟩ := hrel
      cases gk with
      | zero => exact absurd HA.out (by simp [band_Scale.l0])
      | succ k2 =>
       have H := HA.out; clear HA; simp only [band_Scale.l0] at H; by_cases c12 : x37_2 < (l2.length : Int)
       ·rw [if_pos c12] at H; have c12b0 := decide_eq_true c12; clear c12; by_cases c13 : 0 ≤ x37_2
        ·rw [if_pos c13] at H; have c13b0 := decide_eq_true c13; clear c13; by_cases c14 : x37_2 < (l2.length : Int)
         ·rw [if_pos c14] at H; have c14b0 := decide_eq_true c14; clear c14; replace H := Option.bind_eq_some_iff.mp H; obtain ⟨⟨t154, t155⟩, A150, H⟩ := H; (try dsimp only at H); have A15 := A_ A150; clear A150; by_cases c16 : t155 = 0
          ·rw [if_pos c16] at H; have c16b0 : (t155 == 0) = true := beq_iff_eq.mpr c16; have c16b1 : (t155 != 0) = false := bne_eq_false_iff_eq.mpr c16; clear c16; have HC17 := A_ H; clear H; have p152 : 0 ≤ (x37_2 : Int) := od_; have q152 : x37_2 < (l2.length : Int) := od_; obtain ⟨ad152, e152, hx152_0, hx152_1, hx152_2⟩ := at_T106 HR2.out x37_2 p152 q152; cases e152; replace hx152_0 := (HB.out.cell (World.block_lt_of_cell? w _ hx152_0)).trans hx152_0; replace hx152_1 := (HB.out.cell (World.block_lt_of_cell? w _ hx152_1)).trans hx152_1; replace hx152_2 := (HB.out.cell (World.block_lt_of_cell? w _ hx152_2)).trans hx152_2; replace p152 := eq_true p152; replace q152 := eq_true q152; go_upto_region 14 with (first | ((with_reducible refine gate_dst (N := 11) rfl ?_); refine be_ (N := 11) (cs := #[.int .i64 0, .int .i64 0, .int .i64 0]) (t := 106) ?_; intro gb153 hg w18 hbox hb; have BK153 := A_ (hbox); have GW153 := A_ ((by rw [hg]; exact (below_size (bl_ HB)) : w.heap.size ≤ gb153)); have GE153 := A_ ((by rw [hg]; exact (below_size (bl_ HB)) : w.heap.size ≤ gb153)); replace HO_9 := A_ (Kd.R_below (Kd.R_elderB (ro_ HO_9) gb153 (Nat.le_of_eq hg.symm)) hb); replace HB := A_ (below_step (bl_ HB) hb); clear hb hbox hg; have hcz19_0 := cz_ BK153 0; have hcz19_1 := cz_ BK153 1; have hcz19_2 := cz_ BK153 2; have hfz19_0 := fz_ BK153 0; have hfz19_1 := fz_ BK153 1; have hfz19_2 := fz_ BK153 2) | ((with_reducible refine gate_callee (f := 103) rfl ?_); refine gm_ (some 46) Try.func103 #[.int .i64 ((rd_T106 l2 x37_2).f0), .int .i64 a0, .int .i64 a1] ?_; (with_reducible refine (frac_Scale.calls k2 ((rd_T106 l2 x37_2).f0) a0 a1 t154 t155 _ A15.out).mono ?_); rintro e w20 ⟨rfl, hb⟩; refine ⟨_, rfl, ?_⟩; replace HO_9 := A_ (Kd.R_below (by (with_reducible repeat (first | apply Kd.R_alloc | apply Kd.R_drewN | apply Kd.R_drew)); exact (Kd.R_mono (Kd.R_far (p := ⟨gb153, 2, none⟩) (Kd.R_far (p := ⟨gb153, 1, none⟩) (Kd.R_far (p := ⟨gb153, 0, none⟩) (Kd.R_mono HO_9.out (fun k_ hk => (⟨hk, hk.2⟩ : _ ∧ k_ ≠ gb153))) (fun _ hk => hk.2) (.int .i64 ((rd_T106 l2 x37_2).f0))) (fun _ hk => hk.2) (.int .i64 ((rd_T106 l2 x37_2).f1))) (fun _ hk => hk.2) (.int .i64 ((rd_T106 l2 x37_2).f2))) (fun _ h_ => h_.1))) hb); replace BK153 := A_ (blk_below (g := gb153) (o := .cells #[.int .i64 ((rd_T106 l2 x37_2).f0), .int .i64 ((rd_T106 l2 x37_2).f1), .int .i64 ((rd_T106 l2 x37_2).f2)] 106 (0, 0)) (by refine bw_ ?_; refine blk_put (cs := #[.int .i64 ((rd_T106 l2 x37_2).f0), .int .i64 ((rd_T106 l2 x37_2).f1), .int .i64 0]) ?_ 2 _ rfl; refine bw_ ?_; refine blk_put (cs := #[.int .i64 ((rd_T106 l2 x37_2).f0), .int .i64 0, .int .i64 0]) ?_ 1 _ rfl; refine bw_ ?_; refine blk_put (cs := #[.int .i64 0, .int .i64 0, .int .i64 0]) ?_ 0 _ rfl; refine bw_ ?_; exact BK153.out) hb); replace HB := A_ (below_step (bl1_ HB GE153.out) hb); (try clear hb); (try clear hb2); (try clear hk); (try clear hi); obtain ⟨Ao21, co21, eo21⟩ := Kd.R_slice HO_9.out; subst eo21))
           (try simp only [Act.put, List.setIfInBounds_toArray, List.set_cons_zero, List.set_cons_succ])
           go_cut [65] (fun v65 wc => ∃ (kq : Nat) (x65_16 : Bool), v65 = .bool x65_16 ∧ Aside0 (band_Scale.j2 kq a0 a1 x9_2 t154 (x9_2.length : Int) l2 (l2.length : Int) x37_2 x65_16 ((rd_T106 l2 x37_2).f0) ((rd_T106 l2 x37_2).f1) ((rd_T106 l2 x37_2).f2) = some (r1, r2)) ∧ Aside0 (kq ≤ k2) ∧ Aside0 (Kd.R k106 106 wc w.heap.size (fun k_ => k_ ≠ gb153) (.slice Ao21 x9_2.length co21) x9_2) ∧ Aside0 (wc.heap[gb153]? = some (.cells #[.int .i64 ((rd_T106 l2 x37_2).f0), .int .i64 ((rd_T106 l2 x37_2).f1), .int .i64 ((rd_T106 l2 x37_2).f2)] 106 (0, 0))) ∧ Aside0 (Below w.heap.size w wc))
           case first =>
            have H := HC17.out; clear HC17; by_cases c22 : (x9_2.length : Int) > 0
            ·rw [if_pos c22] at H; have c22b0 : decide (0 < (x9_2.length : Int)) = true := decide_eq_true c22; have c22b1 : decide (0 < x9_2.length) = true := decide_eq_true (by omega); clear c22
             (first | rw [c22b0] | (simp only [i64_w, i32_w]; rw [c22b0]) | skip)
             obtain ⟨ji23, hji23⟩ : ∃ j_ : Int, (wrap64 ((x9_2.length : Int) - 1)) = j_ := ⟨_, rfl⟩; replace H : (if 0 ≤ (ji23) then (if (ji23) < (x9_2.length : Int) then (band_Scale.j2 k2 a0 a1 x9_2 t154 (x9_2.length : Int) l2 (l2.length : Int) x37_2 (((rd_T106 x9_2 (ji23)).f0) == t154) ((rd_T106 l2 x37_2).f0) ((rd_T106 l2 x37_2).f1) ((rd_T106 l2 x37_2).f2)) else (none)) else (none)) = some (r1, r2) := by first | (rw [hji23] at H; exact H) | (simp only [hji23] at H ⊢; exact H)
             have hji23w : (IntKind.i64.wrap ((x9_2.length : Int) - 1)) = ji23 := (i64_w _).trans hji23; by_cases c24 : 0 ≤ (ji23)
             ·rw [if_pos c24] at H; have c24b0 := decide_eq_true c24; clear c24; by_cases c25 : (ji23) < (x9_2.length : Int)
              ·rw [if_pos c25] at H; have c25b0 := decide_eq_true c25; clear c25; have H' := A_ H; clear H; have p156 : 0 ≤ ((ji23) : Int) := od_; have q156 : (ji23) < (x9_2.length : Int) := od_; obtain ⟨ad156, e156, hx156_0, hx156_1, hx156_2⟩ := at_T106 (Kd.R_reads' HO_9.out).2.2 (ji23) p156 q156; cases e156; replace p156 := eq_true p156; replace q156 := eq_true q156
               go_wp2
               go_meet
               case rel => exact ⟨_, ((((rd_T106 x9_2 (ji23)).f0) == t154)), (by first | rfl | (simp; done) | (simp only [← hji23] <;> (first | rfl | simp)) | (simp [*]; done)), H', ⟨by have := HJ5.out; have := HK2.out; first | omega | exact Nat.le_refl _⟩, ⟨by (with_reducible repeat (first | apply Kd.R_alloc | apply Kd.R_drewN | apply Kd.R_drew)); exact Kd.R_mono HO_9.out (fun _ hk => hk.2)⟩, ⟨bx_ BK153⟩, ⟨bl1_ HB GE153.out⟩⟩
              ·rw [if_neg c25] at H; exact absurd H (by simp)
             ·rw [if_neg c24] at H; exact absurd H (by simp)
            ·rw [if_neg c22] at H; have c22b0 : decide (0 < (x9_2.length : Int)) = false := decide_eq_false c22; have c22b1 : decide (0 < x9_2.length) = false := decide_eq_false (by omega); clear c22
             (first | rw [c22b0] | (simp only [i64_w, i32_w]; rw [c22b0]) | skip)
             have H' := A_ H; clear H
             go_wp2
             go_meet
             case rel => exact ⟨_, (false), (sx_), H', ⟨by have := HJ5.out; have := HK2.out; first | omega | exact Nat.le_refl _⟩, ⟨by (with_reducible repeat (first | apply Kd.R_alloc | apply Kd.R_drewN | apply Kd.R_drew)); exact Kd.R_mono HO_9.out (fun _ hk => hk.2)⟩, ⟨bx_ BK153⟩, ⟨bl1_ HB GE153.out⟩⟩
           case rest =>
            clear HC17; try clear c1
            try clear p1
            try clear q1
            try clear hx1
            try clear c2
            try clear p2
            try clear c3
            try clear c5
            try clear c5b0
            try clear c5b1
            try clear p6
            try clear c8
            try clear c8b0
            try clear c9
            try clear c9b0
            try clear c10
            try clear c10b0
            try clear c11
            try clear c12
            try clear c12b0
            try clear c13
            try clear c13b0
            try clear c14
            try clear c14b0
            try clear p15
            try clear q15
            try clear hx15
            try clear c16
            try clear c16b0
            try clear c16b1
            try clear c22
            try clear c22b0
            try clear c22b1
            try clear c24
            try clear c24b0
            try clear c25
            try clear c25b0
            try clear hcz19_0 hcz19_1 hcz19_2
            try clear hfz19_0 hfz19_1 hfz19_2
            try clear hx152_0
            try clear hx152_1
            try clear hx152_2
            try clear hx156_0
            try clear hx156_1
            try clear hx156_2
            try clear p152
            try clear p156
            try clear p2
            try clear q152
            try clear q156
            obtain ⟨kq, x65_16, rfl, HA, HJ16, HO_9, BK153, HB⟩ := hcut
            cases kq with
            | zero => exact absurd HA.out (by simp [band_Scale.j2])
            | succ kj16 =>
             have H := HA.out; clear HA; simp only [band_Scale.j2] at H; by_cases c26 : x65_16 = true
             ·subst c26; rw [if_pos rfl] at H; obtain ⟨ji27, hji27⟩ : ∃ j_ : Int, (wrap64 ((x9_2.length : Int) - 1)) = j_ := ⟨_, rfl⟩; replace H : (if 0 ≤ (ji27) then (if (ji27) ≤ (x9_2.length : Int) then ((some (x9_2.take ((ji27) : Int).toNat : List (S106))).bind fun y157 => (if y157.length < 5864062014805 then (band_Scale.l0 kj16 a0 a1 (y157 ++ [(⟨t154, ((rd_T106 l2 x37_2).f1), ((rd_T106 l2 x37_2).f2)⟩ : S106)]) l2 (l2.length : Int) (wrap64 (x37_2 + 1))) else (none))) else (none)) else (none)) = some (r1, r2) := by first | (rw [hji27] at H; exact H) | (simp only [hji27] at H ⊢; exact H)
              have hji27w : (IntKind.i64.wrap ((x9_2.length : Int) - 1)) = ji27 := (i64_w _).trans hji27; by_cases c28 : 0 ≤ (ji27)
              ·rw [if_pos c28] at H; have c28b0 := eq_true c28; have c28b1 := decide_eq_true c28; clear c28; by_cases c29 : (ji27) ≤ (x9_2.length : Int)
               ·rw [if_pos c29] at H; have c29b0 := eq_true c29; have c29b1 := decide_eq_true c29; clear c29; obtain ⟨y157, hy157⟩ : ∃ y_ : List (S106), y_ = (x9_2.take ((ji27) : Int).toNat) := ⟨_, rfl⟩; replace H : (if y157.length < 5864062014805 then (band_Scale.l0 kj16 a0 a1 (y157 ++ [(⟨t154, ((rd_T106 l2 x37_2).f1), ((rd_T106 l2 x37_2).f2)⟩ : S106)]) l2 (l2.length : Int) (wrap64 (x37_2 + 1))) else (none)) = some (r1, r2) := by first | (rw [hy157]; with_reducible exact H) | (have H2_ := (Option.bind_some _ _).symm.trans H; rw [hy157]; with_reducible exact H2_) | (have H2_ := (Option.bind_some _ _).symm.trans H; with_reducible exact H2_) | with_reducible exact H | (rw [hy157]; exact H) | exact H
                have Ny157 := A_ hy157; clear hy157; by_cases c30 : y157.length < 5864062014805
                ·rw [if_pos c30] at H; have LMc30 := A_ c30; clear c30; obtain ⟨y160, hy160⟩ : ∃ y_ : List (S106), y_ = (y157 ++ [(⟨t154, ((rd_T106 l2 x37_2).f1), ((rd_T106 l2 x37_2).f2)⟩ : S106)]) := ⟨_, rfl⟩; replace H : (band_Scale.l0 kj16 a0 a1 y160 l2 (l2.length : Int) (wrap64 (x37_2 + 1))) = some (r1, r2) := by first | (rw [hy160]; with_reducible exact H) | (have H2_ := (Option.bind_some _ _).symm.trans H; rw [hy160]; with_reducible exact H2_) | (have H2_ := (Option.bind_some _ _).symm.trans H; with_reducible exact H2_) | with_reducible exact H | (rw [hy160]; exact H) | exact H
                 have Ny160 := A_ hy160; clear hy160; have H' := A_ H; clear H; have q31 : ((ji27) : Int) ≤ ((x9_2.length : Int) : Int) := od_; obtain ⟨i031, hi031, _, hsz31, _⟩ := info_parts info106; have hcut31 := cut_to (P := Try.prog) 43 106 .i64 Try.underlying43 hi031 Ao21 x9_2.length co21 (ji27) (od_) q31 (Kd.R_reads' HO_9.out).2.1; have hr31 := Kd.R_take (m := ((ji27) : Int).toNat) HO_9.out (by omega); have hy31 : y157.length = ((ji27) : Int).toNat := (by rw [Ny157.out, List.length_take]; omega); rw [← Ny157.out] at hr31; rw [← hy31] at hr31 hcut31; clear hy31 hi031 hsz31 HO_9; have HO159 := A_ hr31; clear hr31; replace q31 := eq_true q31; have hcz32_0 := cz_ BK153 0; have hcz32_1 := cz_ BK153 1; have hcz32_2 := cz_ BK153 2; have hfz32_0 := fz_ BK153 0; have hfz32_1 := fz_ BK153 1; have hfz32_2 := fz_ BK153 2; go_wp2_with (first | ((with_reducible refine gate_builtin (b := .append) (xs := #[.tmp 72, .tmp 74]) rfl ?_); at_builtin; refine Kd.R_append k106 (w0 := w) w.heap.size rfl (.tmp 72) (.tmp 74) 43 106 (.agg #[(.int .i64 0), (.int .i64 0), (.int .i64 0)]) 24 rfl Try.underlying43 info106 rfl (by decide) (by omega) (.slice Ao21 y157.length co21) y157 (⟨t154, ((rd_T106 l2 x37_2).f1), ((rd_T106 l2 x37_2).f2)⟩ : S106) [.int .i64 t154, .int .i64 ((rd_T106 l2 x37_2).f1), .int .i64 ((rd_T106 l2 x37_2).f2)] (fun k_ => k_ ≠ gb153) (fun _ => False) rfl (by first | (go_simp; done) | (go_simp; rfl)) ?aP (fun _ hk => hk.elim) ?aF ?aO ?aB ?aS ?aL ?_; (case aP => exact k106_mkM _ _ _ (⟨t154, ((rd_T106 l2 x37_2).f1), ((rd_T106 l2 x37_2).f2)⟩ : S106)); (case aB => exact (bl1_ HB GE153.out)); (case aF => exact (fun k_ hk => Kd.freshB (g := gb153) (o := .cells #[.int .i64 t154, .int .i64 ((rd_T106 l2 x37_2).f1), .int .i64 ((rd_T106 l2 x37_2).f2)] 106 (0, 0)) (by refine bw_ ?_; refine blk_put (cs := #[.int .i64 ((rd_T106 l2 x37_2).f0), .int .i64 ((rd_T106 l2 x37_2).f1), .int .i64 ((rd_T106 l2 x37_2).f2)]) ?_ 0 _ rfl; refine bw_ ?_; exact BK153.out) k_ hk)); (case aO => exact (by (with_reducible repeat (first | apply Kd.R_alloc | apply Kd.R_drewN | apply Kd.R_drew)); exact Kd.R_mono (Kd.R_far (p := ⟨gb153, 0, none⟩) (Kd.R_mono HO159.out (fun k_ hk => (⟨hk, hk⟩ : _ ∧ k_ ≠ gb153))) (fun _ hk => hk.2) (.int .i64 t154)) (fun _ hk => hk.1))); (case aS => exact (below_size (bl1_ HB GE153.out))); (case aL => have := LMc30.out; omega); intro v161 w33 ho hb hg hat; rw [← Ny160.out] at ho; have HO162 := A_ (ho); replace BK153 := A_ (blk_grown (g := gb153) (o := .cells #[.int .i64 t154, .int .i64 ((rd_T106 l2 x37_2).f1), .int .i64 ((rd_T106 l2 x37_2).f2)] 106 (0, 0)) (by refine bw_ ?_; refine blk_put (cs := #[.int .i64 ((rd_T106 l2 x37_2).f0), .int .i64 ((rd_T106 l2 x37_2).f1), .int .i64 ((rd_T106 l2 x37_2).f2)]) ?_ 0 _ rfl; refine bw_ ?_; exact BK153.out) hg (Kd.R_away HO159.out (fun _ hk => hk))); replace HB := A_ (hb); clear HO159; clear ho hb hg hat))
                 go_roundg kj16
                 case measure => have := HJ5.out; have := HK2.out; have := HJ16.out; omega
                 case rel => exact ⟨(y160), (wrap64 (x37_2 + 1)), (sx_), H', ⟨by have := HJ5.out; have := HK2.out; have := HJ16.out; omega⟩, ⟨by (with_reducible repeat (first | apply Kd.R_alloc | apply Kd.R_drewN | apply Kd.R_drew)); exact Kd.R_mono HO162.out (fun _ hk => trivial)⟩, ⟨bl1_ HB GE153.out⟩⟩
                ·rw [if_neg c30] at H; exact absurd H (by simp)
               ·rw [if_neg c29] at H; exact absurd H (by simp)
              ·rw [if_neg c28] at H; exact absurd H (by simp)
             ·replace c26 := Bool.eq_false_iff.mpr c26; subst c26; rw [if_neg (show ¬ (false = true) by decide)] at H; by_cases c34 : x9_2.length < 5864062014805
              ·rw [if_pos c34] at H; have LMc34 := A_ c34; clear c34; obtain ⟨y163, hy163⟩ : ∃ y_ : List (S106), y_ = (x9_2 ++ [(⟨t154, ((rd_T106 l2 x37_2).f1), ((rd_T106 l2 x37_2).f2)⟩ : S106)]) := ⟨_, rfl⟩; replace H : (band_Scale.l0 kj16 a0 a1 y163 l2 (l2.length : Int) (wrap64 (x37_2 + 1))) = some (r1, r2) := by first | (rw [hy163]; with_reducible exact H) | (have H2_ := (Option.bind_some _ _).symm.trans H; rw [hy163]; with_reducible exact H2_) | (have H2_ := (Option.bind_some _ _).symm.trans H; with_reducible exact H2_) | with_reducible exact H | (rw [hy163]; exact H) | exact H
               have Ny163 := A_ hy163; clear hy163; have H' := A_ H; clear H; have hcz35_0 := cz_ BK153 0; have hcz35_1 := cz_ BK153 1; have hcz35_2 := cz_ BK153 2; have hfz35_0 := fz_ BK153 0; have hfz35_1 := fz_ BK153 1; have hfz35_2 := fz_ BK153 2; go_wp2_with (first | ((with_reducible refine gate_builtin (b := .append) (xs := #[.tmp 72, .tmp 74]) rfl ?_); at_builtin; refine Kd.R_append k106 (w0 := w) w.heap.size rfl (.tmp 72) (.tmp 74) 43 106 (.agg #[(.int .i64 0), (.int .i64 0), (.int .i64 0)]) 24 rfl Try.underlying43 info106 rfl (by decide) (by omega) (.slice Ao21 x9_2.length co21) x9_2 (⟨t154, ((rd_T106 l2 x37_2).f1), ((rd_T106 l2 x37_2).f2)⟩ : S106) [.int .i64 t154, .int .i64 ((rd_T106 l2 x37_2).f1), .int .i64 ((rd_T106 l2 x37_2).f2)] (fun k_ => k_ ≠ gb153) (fun _ => False) rfl (by first | (go_simp; done) | (go_simp; rfl)) ?aP (fun _ hk => hk.elim) ?aF ?aO ?aB ?aS ?aL ?_; (case aP => exact k106_mkM _ _ _ (⟨t154, ((rd_T106 l2 x37_2).f1), ((rd_T106 l2 x37_2).f2)⟩ : S106)); (case aB => exact (bl1_ HB GE153.out)); (case aF => exact (fun k_ hk => Kd.freshB (g := gb153) (o := .cells #[.int .i64 t154, .int .i64 ((rd_T106 l2 x37_2).f1), .int .i64 ((rd_T106 l2 x37_2).f2)] 106 (0, 0)) (by refine bw_ ?_; refine blk_put (cs := #[.int .i64 ((rd_T106 l2 x37_2).f0), .int .i64 ((rd_T106 l2 x37_2).f1), .int .i64 ((rd_T106 l2 x37_2).f2)]) ?_ 0 _ rfl; refine bw_ ?_; exact BK153.out) k_ hk)); (case aO => exact (by (with_reducible repeat (first | apply Kd.R_alloc | apply Kd.R_drewN | apply Kd.R_drew)); exact Kd.R_mono (Kd.R_far (p := ⟨gb153, 0, none⟩) (Kd.R_mono HO_9.out (fun k_ hk => (⟨hk, hk⟩ : _ ∧ k_ ≠ gb153))) (fun _ hk => hk.2) (.int .i64 t154)) (fun _ hk => hk.1))); (case aS => exact (below_size (bl1_ HB GE153.out))); (case aL => have := LMc34.out; omega); intro v164 w36 ho hb hg hat; rw [← Ny163.out] at ho; have HO165 := A_ (ho); replace BK153 := A_ (blk_grown (g := gb153) (o := .cells #[.int .i64 t154, .int .i64 ((rd_T106 l2 x37_2).f1), .int .i64 ((rd_T106 l2 x37_2).f2)] 106 (0, 0)) (by refine bw_ ?_; refine blk_put (cs := #[.int .i64 ((rd_T106 l2 x37_2).f0), .int .i64 ((rd_T106 l2 x37_2).f1), .int .i64 ((rd_T106 l2 x37_2).f2)]) ?_ 0 _ rfl; refine bw_ ?_; exact BK153.out) hg (Kd.R_away HO_9.out (fun _ hk => hk))); replace HB := A_ (hb); clear HO_9; clear ho hb hg hat))
               go_roundg kj16
               case measure => have := HJ5.out; have := HK2.out; have := HJ16.out; omega
               case rel => exact ⟨(y163), (wrap64 (x37_2 + 1)), (sx_), H', ⟨by have := HJ5.out; have := HK2.out; have := HJ16.out; omega⟩, ⟨by (with_reducible repeat (first | apply Kd.R_alloc | apply Kd.R_drewN | apply Kd.R_drew)); exact Kd.R_mono HO165.out (fun _ hk => trivial)⟩, ⟨bl1_ HB GE153.out⟩⟩
              ·rw [if_neg c34] at H; exact absurd H (by simp)
          ·rw [if_neg c16] at H; have c16b0 : (t155 == 0) = false := beq_eq_false_iff_ne.mpr c16; have c16b1 : (t155 != 0) = true := bne_iff_ne.mpr c16; simp only [Option.some.injEq, Prod.mk.injEq] at H; obtain ⟨rfl, rfl⟩ := H; have p152 : 0 ≤ (x37_2 : Int) := od_; have q152 : x37_2 < (l2.length : Int) := od_; obtain ⟨ad152, e152, hx152_0, hx152_1, hx152_2⟩ := at_T106 HR2.out x37_2 p152 q152; cases e152; replace hx152_0 := (HB.out.cell (World.block_lt_of_cell? w _ hx152_0)).trans hx152_0; replace hx152_1 := (HB.out.cell (World.block_lt_of_cell? w _ hx152_1)).trans hx152_1; replace hx152_2 := (HB.out.cell (World.block_lt_of_cell? w _ hx152_2)).trans hx152_2; replace p152 := eq_true p152; replace q152 := eq_true q152; go_wp2_with (first | ((with_reducible refine gate_dst (N := 11) rfl ?_); refine be_ (N := 11) (cs := #[.int .i64 0, .int .i64 0, .int .i64 0]) (t := 106) ?_; intro gb153 hg w37 hbox hb; have BK153 := A_ (hbox); have GW153 := A_ ((by rw [hg]; exact (below_size (bl_ HB)) : w.heap.size ≤ gb153)); have GE153 := A_ ((by rw [hg]; exact (below_size (bl_ HB)) : w.heap.size ≤ gb153)); replace HO_9 := A_ (Kd.R_below (Kd.R_elderB (ro_ HO_9) gb153 (Nat.le_of_eq hg.symm)) hb); replace HB := A_ (below_step (bl_ HB) hb); clear hb hbox hg; have hcz38_0 := cz_ BK153 0; have hcz38_1 := cz_ BK153 1; have hcz38_2 := cz_ BK153 2; have hfz38_0 := fz_ BK153 0; have hfz38_1 := fz_ BK153 1; have hfz38_2 := fz_ BK153 2) | ((with_reducible refine gate_callee (f := 103) rfl ?_); refine gm_ (some 46) Try.func103 #[.int .i64 ((rd_T106 l2 x37_2).f0), .int .i64 a0, .int .i64 a1] ?_; (with_reducible refine (frac_Scale.calls k2 ((rd_T106 l2 x37_2).f0) a0 a1 t154 t155 _ A15.out).mono ?_); rintro e w39 ⟨rfl, hb⟩; refine ⟨_, rfl, ?_⟩; replace HO_9 := A_ (Kd.R_below (by (with_reducible repeat (first | apply Kd.R_alloc | apply Kd.R_drewN | apply Kd.R_drew)); exact (Kd.R_mono (Kd.R_far (p := ⟨gb153, 2, none⟩) (Kd.R_far (p := ⟨gb153, 1, none⟩) (Kd.R_far (p := ⟨gb153, 0, none⟩) (Kd.R_mono HO_9.out (fun k_ hk => (⟨hk, hk.2⟩ : _ ∧ k_ ≠ gb153))) (fun _ hk => hk.2) (.int .i64 ((rd_T106 l2 x37_2).f0))) (fun _ hk => hk.2) (.int .i64 ((rd_T106 l2 x37_2).f1))) (fun _ hk => hk.2) (.int .i64 ((rd_T106 l2 x37_2).f2))) (fun _ h_ => h_.1))) hb); replace BK153 := A_ (blk_below (g := gb153) (o := .cells #[.int .i64 ((rd_T106 l2 x37_2).f0), .int .i64 ((rd_T106 l2 x37_2).f1), .int .i64 ((rd_T106 l2 x37_2).f2)] 106 (0, 0)) (by refine bw_ ?_; refine blk_put (cs := #[.int .i64 ((rd_T106 l2 x37_2).f0), .int .i64 ((rd_T106 l2 x37_2).f1), .int .i64 0]) ?_ 2 _ rfl; refine bw_ ?_; refine blk_put (cs := #[.int .i64 ((rd_T106 l2 x37_2).f0), .int .i64 0, .int .i64 0]) ?_ 1 _ rfl; refine bw_ ?_; refine blk_put (cs := #[.int .i64 0, .int .i64 0, .int .i64 0]) ?_ 0 _ rfl; refine bw_ ?_; exact BK153.out) hb); replace HB := A_ (below_step (bl1_ HB GE153.out) hb); (try clear hb); (try clear hb2); (try clear hk); (try clear hi)))
           go_ret2
           exact ⟨_, er_, by first | exact Kd.R_nil _ _ _ _ _ | exact Kd.N_nil _ _ _ _ _ | exact Kd.V_nil _ _ _ _ _ | exact Kd.Q_nil _ _ _ _ _ | exact Kd.S_nil _ _ _ _ _, bl1_ HB GE153.out⟩
         ·rw [if_neg c14] at H; exact absurd H (by simp)
        ·rw [if_neg c13] at H; exact absurd H (by simp)
       ·rw [if_neg c12] at H; have c12b0 := decide_eq_false c12; clear c12; simp only [Option.some.injEq, Prod.mk.injEq] at H; obtain ⟨rfl, rfl⟩ := H
        go_wp2
        go_ret2
        exact ⟨_, er_, ro_ HO_9, bl_ HB⟩
 ·rw [if_neg c5] at H; have c5b0 : (t151 == 0) = false := beq_eq_false_iff_ne.mpr c5; have c5b1 : (t151 != 0) = true := bne_iff_ne.mpr c5; simp only [Option.some.injEq, Prod.mk.injEq] at H; obtain ⟨rfl, rfl⟩ := H; go_enter Try.func37, Try.ntmps37
  go_wp2_with (first | ((with_reducible refine gate_callee (f := 36) rfl ?_); refine gm_ (some 16) Try.func36 #[.slice A2 l2.length c2] ?_; (with_reducible refine (band_Check.calls _ _ l2 t151 _ ?side1 ?side2 A4.out).mono ?_); (case side1 => repeat (first | exact HR2.out | (with_reducible refine Kd.C_alloc ?_ _) | (with_reducible refine Kd.C_drewN ?_ _) | (with_reducible refine Kd.C_drew ?_))); (case side2 => exact HC2.out); rintro e w40 ⟨rfl, hb⟩; refine ⟨_, rfl, ?_⟩; replace HB := A_ (below_step (bl_ HB) hb); (try clear hb); (try clear hb2); (try clear hk); (try clear hi)))
  go_ret2
  exact ⟨_, er_, by first | exact Kd.R_nil _ _ _ _ _ | exact Kd.N_nil _ _ _ _ _ | exact Kd.V_nil _ _ _ _ _ | exact Kd.Q_nil _ _ _ _ _ | exact Kd.S_nil _ _ _ _ _, bl_ HB⟩
def band_Corners.l0 : Nat → List Int → List (S106) → Int → Int → Option (List Int)
 | 0, _, _, _, _ => none
 | k + 1, x3, x6, x7, x8 => if x8 < x7 then (if 0 ≤ x8 then (if x8 < (x6.length : Int) then (if x8 > 0 then (if x3.length < 17592186044416 then (band_Corners.l0 k (x3 ++ [(rd_T106 x6 x8).f0]) x6 x7 (wrap64 (x8 + 1))) else (none)) else (band_Corners.l0 k x3 x6 x7 (wrap64 (x8 + 1)))) else (none)) else (none)) else (some x3)
def band_Corners.f (k : Nat) (l0 : List (S106)) : Option (List Int) := band_Corners.l0 k ([] : List Int) l0 (l0.length : Int) 0
set_option maxHeartbeats 8000000 in
set_option maxRecDepth 100000 in
theorem band_Corners.calls (k : Nat) (A0 : Option Addr) (c0 : Nat) (l0 : List (S106)) (r : List Int) (w : World) (hr0 : Kd.C k106 w A0 l0.length l0) (hc0 : l0.length ≤ c0) (h : band_Corners.f k l0 = some r) :
  Calls Try.prog 64 #[.slice A0 l0.length c0] w fun e w' => ∃ v0_ : Value, e = .returned (v0_) ∧ Kd.R (Kd.int .i64) 2 w' w.heap.size (fun _ => True) v0_ r ∧ Below w.heap.size w w' := by
 have hu106 := Try.underlying106; have HR0 := A_ hr0; have HC0 := A_ hc0; clear hr0 hc0; have HB := A_ (Below.refl w.heap.size w); unfold band_Corners.f at h; have H := h; clear h; have H' := A_ H; clear H; go_enter Try.func64, Try.ntmps64
 go_wp2
 go_loopg [3, 8] k (fun kq v3 v8 w' => ∃ (x3_1 : List Int) (x8_1 : Int), v8 = .int .i64 x8_1 ∧ Aside0 (band_Corners.l0 kq x3_1 l0 (l0.length : Int) x8_1 = some r) ∧ Aside0 (kq ≤ k) ∧ Aside0 (Kd.R (Kd.int .i64) 2 w' w.heap.size (fun _ => True) v3 x3_1) ∧ Aside0 (Below w.heap.size w w'))
 case atStart => exact ⟨(([] : List Int)), (0), (sx_), H', ⟨Nat.le_refl _⟩, ⟨by first | exact Kd.R_nil _ _ _ _ _ | exact Kd.N_nil _ _ _ _ _ | exact Kd.V_nil _ _ _ _ _ | exact Kd.Q_nil _ _ _ _ _ | exact Kd.S_nil _ _ _ _ _⟩, ⟨bl_ HB⟩⟩
 case round =>
  clear H'; obtain ⟨x3_1, x8_1, rfl, HA, HK1, HO_3, HB⟩ := hrel
  cases gk with
  | zero => exact absurd HA.out (by simp [band_Corners.l0])
  | succ k1 =>
   have H := HA.out; clear HA; simp only [band_Corners.l0] at H; by_cases c2 : x8_1 < (l0.length : Int)
   ·rw [if_pos c2] at H; have c2b0 := decide_eq_true c2; clear c2; by_cases c3 : 0 ≤ x8_1
    ·rw [if_pos c3] at H; have c3b0 := decide_eq_true c3; clear c3; by_cases c4 : x8_1 < (l0.length : Int)
     ·rw [if_pos c4] at H; have c4b0 := decide_eq_true c4; clear c4; by_cases c5 : x8_1 > 0
      ·rw [if_pos c5] at H; have c5b0 : decide (0 < x8_1) = true := decide_eq_true c5; clear c5; by_cases c6 : x3_1.length < 17592186044416
       ·rw [if_pos c6] at H; have LMc6 := A_ c6; clear c6; obtain ⟨y191, hy191⟩ : ∃ y_ : List Int, y_ = (x3_1 ++ [(rd_T106 l0 x8_1).f0]) := ⟨_, rfl⟩; replace H : (band_Corners.l0 k1 y191 l0 (l0.length : Int) (wrap64 (x8_1 + 1))) = some r := by first | (rw [hy191]; with_reducible exact H) | (have H2_ := (Option.bind_some _ _).symm.trans H; rw [hy191]; with_reducible exact H2_) | (have H2_ := (Option.bind_some _ _).symm.trans H; with_reducible exact H2_) | with_reducible exact H | (rw [hy191]; exact H) | exact H
        have Ny191 := A_ hy191; clear hy191; have H' := A_ H; clear H; have p189 : 0 ≤ (x8_1 : Int) := od_; have q189 : x8_1 < (l0.length : Int) := od_; obtain ⟨ad189, e189, hx189_0, hx189_1, hx189_2⟩ := at_T106 HR0.out x8_1 p189 q189; cases e189; replace hx189_0 := (HB.out.cell (World.block_lt_of_cell? w _ hx189_0)).trans hx189_0; replace hx189_1 := (HB.out.cell (World.block_lt_of_cell? w _ hx189_1)).trans hx189_1; replace hx189_2 := (HB.out.cell (World.block_lt_of_cell? w _ hx189_2)).trans hx189_2; replace p189 := eq_true p189; replace q189 := eq_true q189; go_wp2_with (first | ((with_reducible refine gate_dst (N := 5) rfl ?_); refine be_ (N := 5) (cs := #[.int .i64 0, .int .i64 0, .int .i64 0]) (t := 106) ?_; intro gb190 hg w7 hbox hb; have BK190 := A_ (hbox); have GW190 := A_ ((by rw [hg]; exact (below_size (bl_ HB)) : w.heap.size ≤ gb190)); have GE190 := A_ ((by rw [hg]; exact (below_size (bl_ HB)) : w.heap.size ≤ gb190)); replace HO_3 := A_ (Kd.R_below (ro_ HO_3) hb); replace HB := A_ (below_step (bl_ HB) hb); clear hb hbox hg; have hcz8_0 := cz_ BK190 0; have hcz8_1 := cz_ BK190 1; have hcz8_2 := cz_ BK190 2; have hfz8_0 := fz_ BK190 0; have hfz8_1 := fz_ BK190 1; have hfz8_2 := fz_ BK190 2) | ((with_reducible refine gate_builtin (b := .append) (xs := #[.tmp 15, .tmp 18]) rfl ?_); at_builtin; refine Kd.R_append (Kd.int .i64) (w0 := w) w.heap.size rfl (.tmp 15) (.tmp 18) 79 2 (.int .i64 0) 8 rfl Try.underlying79 info2 rfl (by decide) (by omega) u3 x3_1 ((rd_T106 l0 x8_1).f0) [.int .i64 ((rd_T106 l0 x8_1).f0)] (fun _ => True) (fun _ => False) rfl (by first | (go_simp; done) | (go_simp; rfl)) ?aP (fun _ hk => hk.elim) ?aF ?aO ?aB ?aS ?aL ?_; (case aP => exact rfl); (case aB => exact (bl1_ HB GE190.out)); (case aF => exact (fun _ _ => trivial)); (case aO => exact (by (with_reducible repeat (first | apply Kd.R_alloc | apply Kd.R_drewN | apply Kd.R_drew)); exact Kd.R_mono (Kd.R_far (p := ⟨gb190, 2, none⟩) (Kd.R_far (p := ⟨gb190, 1, none⟩) (Kd.R_far (p := ⟨gb190, 0, none⟩) (Kd.R_types HO_3.out BK190.out (by decide)) (fun _ hk => hk.2) (.int .i64 ((rd_T106 l0 x8_1).f0))) (fun _ hk => hk.2) (.int .i64 ((rd_T106 l0 x8_1).f1))) (fun _ hk => hk.2) (.int .i64 ((rd_T106 l0 x8_1).f2))) (fun _ hk => trivial))); (case aS => exact (below_size (bl1_ HB GE190.out))); (case aL => have := LMc6.out; omega); intro v192 w9 ho hb hg hat; rw [← Ny191.out] at ho; have HO193 := A_ (ho); replace BK190 := A_ (blk_grown (g := gb190) (o := .cells #[.int .i64 ((rd_T106 l0 x8_1).f0), .int .i64 ((rd_T106 l0 x8_1).f1), .int .i64 ((rd_T106 l0 x8_1).f2)] 106 (0, 0)) (by refine bw_ ?_; refine blk_put (cs := #[.int .i64 ((rd_T106 l0 x8_1).f0), .int .i64 ((rd_T106 l0 x8_1).f1), .int .i64 0]) ?_ 2 _ rfl; refine bw_ ?_; refine blk_put (cs := #[.int .i64 ((rd_T106 l0 x8_1).f0), .int .i64 0, .int .i64 0]) ?_ 1 _ rfl; refine bw_ ?_; refine blk_put (cs := #[.int .i64 0, .int .i64 0, .int .i64 0]) ?_ 0 _ rfl; refine bw_ ?_; exact BK190.out) hg (Kd.R_ne HO_3.out BK190.out (by decide))); replace HB := A_ (hb); clear HO_3; clear ho hb hg hat))
        go_roundg k1
        case measure => have := HK1.out; omega
        case rel => exact ⟨(y191), (wrap64 (x8_1 + 1)), (sx_), H', ⟨by have := HK1.out; omega⟩, ⟨ro_ HO193⟩, ⟨bl1_ HB GE190.out⟩⟩
       ·rw [if_neg c6] at H; exact absurd H (by simp)
      ·rw [if_neg c5] at H; have c5b0 : decide (0 < x8_1) = false := decide_eq_false c5; clear c5; have H' := A_ H; clear H; have p189 : 0 ≤ (x8_1 : Int) := od_; have q189 : x8_1 < (l0.length : Int) := od_; obtain ⟨ad189, e189, hx189_0, hx189_1, hx189_2⟩ := at_T106 HR0.out x8_1 p189 q189; cases e189; replace hx189_0 := (HB.out.cell (World.block_lt_of_cell? w _ hx189_0)).trans hx189_0; replace hx189_1 := (HB.out.cell (World.block_lt_of_cell? w _ hx189_1)).trans hx189_1; replace hx189_2 := (HB.out.cell (World.block_lt_of_cell? w _ hx189_2)).trans hx189_2; replace p189 := eq_true p189; replace q189 := eq_true q189; go_wp2_with (first | ((with_reducible refine gate_dst (N := 5) rfl ?_); refine be_ (N := 5) (cs := #[.int .i64 0, .int .i64 0, .int .i64 0]) (t := 106) ?_; intro gb190 hg w10 hbox hb; have BK190 := A_ (hbox); have GW190 := A_ ((by rw [hg]; exact (below_size (bl_ HB)) : w.heap.size ≤ gb190)); have GE190 := A_ ((by rw [hg]; exact (below_size (bl_ HB)) : w.heap.size ≤ gb190)); replace HO_3 := A_ (Kd.R_below (ro_ HO_3) hb); replace HB := A_ (below_step (bl_ HB) hb); clear hb hbox hg; have hcz11_0 := cz_ BK190 0; have hcz11_1 := cz_ BK190 1; have hcz11_2 := cz_ BK190 2; have hfz11_0 := fz_ BK190 0; have hfz11_1 := fz_ BK190 1; have hfz11_2 := fz_ BK190 2))
       go_roundg k1
       case measure => have := HK1.out; omega
       case rel => exact ⟨(x3_1), (wrap64 (x8_1 + 1)), (sx_), H', ⟨by have := HK1.out; omega⟩, ⟨by (with_reducible repeat (first | apply Kd.R_alloc | apply Kd.R_drewN | apply Kd.R_drew)); exact Kd.R_mono (Kd.R_far (p := ⟨gb190, 2, none⟩) (Kd.R_far (p := ⟨gb190, 1, none⟩) (Kd.R_far (p := ⟨gb190, 0, none⟩) (Kd.R_types HO_3.out BK190.out (by decide)) (fun _ hk => hk.2) (.int .i64 ((rd_T106 l0 x8_1).f0))) (fun _ hk => hk.2) (.int .i64 ((rd_T106 l0 x8_1).f1))) (fun _ hk => hk.2) (.int .i64 ((rd_T106 l0 x8_1).f2))) (fun _ hk => trivial)⟩, ⟨bl1_ HB GE190.out⟩⟩
     ·rw [if_neg c4] at H; exact absurd H (by simp)
    ·rw [if_neg c3] at H; exact absurd H (by simp)
   ·rw [if_neg c2] at H; have c2b0 := decide_eq_false c2; clear c2; obtain rfl := Option.some.inj H
    go_wp2
    go_ret
    exact ⟨_, er_, ro_ HO_3, bl_ HB⟩
end Go.Proofs.Ytcapgmoipacioaa.P
