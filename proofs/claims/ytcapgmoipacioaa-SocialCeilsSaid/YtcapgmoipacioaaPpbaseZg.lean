import Derived.Test.YtcapgmoipacioaaPtZg
import Derived.Test.YtcapgmoipacioaaPpmoneyZg
import Derived.Test.YtcapgmoipacioaaY1Zg
namespace Go.Proofs.Ytcapgmoipacioaa.P
open Go.RowKit Go.Proofs.YtcapgmoipacioaaW.PrintWords Go.Proofs.YtcapgmoipacioaaW.PrintLast Go.Proofs.YtcapgmoipacioaaW.PrintMore
set_option linter.unusedVariables false
set_option linter.unusedSimpArgs false
def base_Right.f (k : Nat) (a0_0 : Int) (a0_1 : Int) (a0_2 : Int) : Option (Bool) := (money_Right.f k (([a0_0, a0_1, a0_2] : List Int))).bind fun t302 => (some t302)
set_option maxHeartbeats 8000000 in
set_option maxRecDepth 100000 in
theorem base_Right.calls (k : Nat) (a0_0 : Int) (a0_1 : Int) (a0_2 : Int) (r : Bool) (w : World) (h : base_Right.f k a0_0 a0_1 a0_2 = some r) :
  Calls Try.prog 125 #[.agg #[.int .i64 a0_0, .int .i64 a0_1, .int .i64 a0_2]] w fun e w' => e = .returned (.bool r) ∧ Below w.heap.size w w' := by
 have hu67 := Try.underlying67; have HB := A_ (Below.refl w.heap.size w); unfold base_Right.f at h; have H := h; clear h; obtain ⟨y299, hy299⟩ : ∃ y_ : List Int, y_ = (([a0_0, a0_1, a0_2] : List Int)) := ⟨_, rfl⟩; replace H : ((money_Right.f k y299).bind fun t302 => (some t302)) = some r := by first | (rw [hy299]; with_reducible exact H) | (have H2_ := (Option.bind_some _ _).symm.trans H; rw [hy299]; with_reducible exact H2_) | (have H2_ := (Option.bind_some _ _).symm.trans H; with_reducible exact H2_) | with_reducible exact H | (rw [hy299]; exact H) | exact H
 have Ny299 := A_ hy299; clear hy299; replace H := Option.bind_eq_some_iff.mp H; obtain ⟨t302, A20, H⟩ := H; replace H : (some t302) = some r := H; have A2 := A_ A20; clear A20; obtain rfl := Option.some.inj H; go_enter Try.func125, Try.ntmps125
 go_wp2_with (first | ((with_reducible refine gate_dst (N := 1) rfl ?_); refine be_ (N := 1) (cs := #[.int .i64 a0_0, .int .i64 a0_1, .int .i64 a0_2]) (t := 67) ?_; intro gb298 hg w3 hbox hb; have BK298 := A_ (hbox); have GW298 := A_ ((by rw [hg]; exact (below_size (bl_ HB)) : w.heap.size ≤ gb298)); have GE298 := A_ ((by rw [hg]; exact (below_size (bl_ HB)) : w.heap.size ≤ gb298)); replace HB := A_ (below_step (bl_ HB) hb); clear hb hbox hg; have hcz4_0 := cz_ BK298 0; have hcz4_1 := cz_ BK298 1; have hcz4_2 := cz_ BK298 2; have hfz4_0 := fz_ BK298 0; have hfz4_1 := fz_ BK298 1; have hfz4_2 := fz_ BK298 2) | ((with_reducible refine gate_dst (N := 9) rfl ?_); refine Kd.R_lit (Kd.int .i64) _ 2 ?hg (N := 9) ?hd (xs := ([a0_0, a0_1, a0_2] : List Int)) (inner := [.int .i64 a0_0, .int .i64 a0_1, .int .i64 a0_2]) (ok := fun _ => True) (okp := fun _ => True) ?hr ?hp (fun _ hk => hk) trivial (Below.refl _ _) (Nat.le_refl _) (by simp) ?_; (case hd => rfl); (case hg => rfl); (case hr => first | (go_simp; done) | (go_simp; rfl)); (case hp => exact (Reps.one (show Kd.M (Kd.int .i64) _ _ _ a0_0 [.int .i64 a0_0] from rfl) (Reps.one (show Kd.M (Kd.int .i64) _ _ _ a0_1 [.int .i64 a0_1] from rfl) (Reps.one (show Kd.M (Kd.int .i64) _ _ _ a0_2 [.int .i64 a0_2] from rfl) (Reps.none _ _))))); intro v300 w5 ho6 hb hg_ hnew_; clear hg_ hnew_; (first | rw [← Ny299.out] at ho6 | (simp only [Int.reduceToNat] at ho6; rw [← Ny299.out] at ho6)); have HO301 := A_ (Kd.R_lower ho6 (below_size (bl1_ HB GE298.out))); replace BK298 := A_ (blk_below (bx_ BK298) hb); replace HB := A_ (below_step (bl1_ HB GE298.out) hb); clear hb ho6; obtain ⟨Ao7, co7, eo7⟩ := Kd.R_slice HO301.out; subst eo7) | ((with_reducible refine gate_callee (f := 118) rfl ?_); refine gm_ (some 10) Try.func118 #[.slice Ao7 y299.length co7] ?_; (with_reducible refine (money_Right.calls k _ _ y299 t302 _ ?side1 ?side2 A2.out).mono ?_); (case side1 => repeat (first | exact (Kd.R_reads' HO301.out).2.2 | (with_reducible refine Kd.C_alloc ?_ _) | (with_reducible refine Kd.C_drewN ?_ _) | (with_reducible refine Kd.C_drew ?_))); (case side2 => exact (Kd.R_reads' HO301.out).2.1); rintro e w' ⟨rfl, ⟨nd, rfl⟩⟩; refine ⟨_, rfl, ?_⟩))
 go_ret
 exact ⟨er_, bl1_ HB GE298.out⟩
def base_Under.j0 : Nat → Int → Int → ByteArray → Int → List (S106) → Int → Int → Int → Option (Int)
 | 0, _, _, _, _, _, _, _, _ => none
 | k + 1, x1, x2, x304000, x304001, x304002, x304003, x304004, x304005 => if x304004 > 0 then (some (mn x1 (mx 0 (wrap64 (x304004 - (mx 0 x2)))))) else (some x1)
def base_Under.f (k : Nat) (a0_0 : ByteArray) (a0_1 : Int) (l0_2 : List (S106)) (a0_3 : Int) (a0_4 : Int) (a0_5 : Int) (a1 : Int) (a2 : Int) : Option (Int) := if a0_3 > 0 then (base_Under.j0 k (mn (mx 0 a1) a0_3) a2 a0_0 a0_1 l0_2 a0_3 a0_4 a0_5) else (base_Under.j0 k (mx 0 a1) a2 a0_0 a0_1 l0_2 a0_3 a0_4 a0_5)
set_option maxHeartbeats 8000000 in
set_option maxRecDepth 100000 in
theorem base_Under.calls (k : Nat) (a0_0 : ByteArray) (a0_1 : Int) (A0_2 : Option Addr) (c0_2 : Nat) (l0_2 : List (S106)) (a0_3 : Int) (a0_4 : Int) (a0_5 : Int) (a1 : Int) (a2 : Int) (r : Int) (w : World) (hr0_2 : Kd.C k106 w A0_2 l0_2.length l0_2) (hc0_2 : l0_2.length ≤ c0_2) (h : base_Under.f k a0_0 a0_1 l0_2 a0_3 a0_4 a0_5 a1 a2 = some r) :
  Calls Try.prog 127 #[.agg #[.string a0_0, .int .i64 a0_1, .slice A0_2 l0_2.length c0_2, .int .i64 a0_3, .int .i64 a0_4, .int .i64 a0_5], .int .i64 a1, .int .i64 a2] w fun e w' => e = .returned (.int .i64 r) ∧ Below w.heap.size w w' := by
 have hu120 := Try.underlying120; have HR0_2 := A_ hr0_2; have HC0_2 := A_ hc0_2; clear hr0_2 hc0_2; have HB := A_ (Below.refl w.heap.size w); unfold base_Under.f at h; have H := h; clear h; obtain ⟨ji4, hji4⟩ : ∃ j_ : Int, (mx 0 a1) = j_ := ⟨_, rfl⟩; replace H : (if a0_3 > 0 then (base_Under.j0 k (mn (ji4) a0_3) a2 a0_0 a0_1 l0_2 a0_3 a0_4 a0_5) else (base_Under.j0 k ji4 a2 a0_0 a0_1 l0_2 a0_3 a0_4 a0_5)) = some r := by first | (rw [hji4] at H; exact H) | (simp only [hji4] at H ⊢; exact H)
 (try (have hji4l : 0 ≤ ji4 := by (rw [← hji4]; unfold mx; (repeat' split) <;> omega)))
 (try (have hji4m : 0 ≤ ji4 := by omega))
 have hji4_ : (if 0 < a1 then a1 else 0) = ji4 := hji4; have HC5 := A_ H; clear H; go_enter Try.func127, Try.ntmps127
 go_upto_if 11 with (first | ((with_reducible refine gate_dst (N := 3) rfl ?_); refine be_ (N := 3) (cs := #[.string a0_0, .int .i64 a0_1, .slice A0_2 l0_2.length c0_2, .int .i64 a0_3, .int .i64 a0_4, .int .i64 a0_5]) (t := 120) ?_; intro gb303 hg w6 hbox hb; have BK303 := A_ (hbox); have GW303 := A_ ((by rw [hg]; exact (below_size (bl_ HB)) : w.heap.size ≤ gb303)); have GE303 := A_ ((by rw [hg]; exact (below_size (bl_ HB)) : w.heap.size ≤ gb303)); replace HB := A_ (below_step (bl_ HB) hb); clear hb hbox hg; have hcz7_0 := cz_ BK303 0; have hcz7_1 := cz_ BK303 1; have hcz7_2 := cz_ BK303 2; have hcz7_3 := cz_ BK303 3; have hcz7_4 := cz_ BK303 4; have hcz7_5 := cz_ BK303 5; have hfz7_0 := fz_ BK303 0; have hfz7_1 := fz_ BK303 1; have hfz7_2 := fz_ BK303 2; have hfz7_3 := fz_ BK303 3; have hfz7_4 := fz_ BK303 4; have hfz7_5 := fz_ BK303 5))
 (try simp only [Act.put, List.setIfInBounds_toArray, List.set_cons_zero, List.set_cons_succ])
 go_cut [1] (fun v1 wc => ∃ (kq : Nat) (x1_4 : Int), v1 = .int .i64 x1_4 ∧ Aside0 (base_Under.j0 kq x1_4 a2 a0_0 a0_1 l0_2 a0_3 a0_4 a0_5 = some r) ∧ Aside0 (kq ≤ k) ∧ Aside0 (wc.heap[gb303]? = some (.cells #[.string a0_0, .int .i64 a0_1, (.slice A0_2 l0_2.length c0_2), .int .i64 a0_3, .int .i64 a0_4, .int .i64 a0_5] 120 (0, 0))) ∧ Aside0 (Below w.heap.size w wc))
 case first =>
  have H := HC5.out; clear HC5; by_cases c8 : a0_3 > 0
  ·rw [if_pos c8] at H; have c8b0 : decide (0 < a0_3) = true := decide_eq_true c8; clear c8
   (first | rw [c8b0] | (simp only [i64_w, i32_w]; rw [c8b0]) | skip)
   obtain ⟨ji9, hji9⟩ : ∃ j_ : Int, (mn (ji4) a0_3) = j_ := ⟨_, rfl⟩; replace H : (base_Under.j0 k ji9 a2 a0_0 a0_1 l0_2 a0_3 a0_4 a0_5) = some r := by first | (rw [hji9] at H; exact H) | (simp only [hji9] at H ⊢; exact H)
   have hji9_ : (if a0_3 < (ji4) then a0_3 else (ji4)) = ji9 := hji9; have H' := A_ H; clear H; have hcz10_0 := cz_ BK303 0; have hcz10_1 := cz_ BK303 1; have hcz10_2 := cz_ BK303 2; have hcz10_3 := cz_ BK303 3; have hcz10_4 := cz_ BK303 4; have hcz10_5 := cz_ BK303 5; have hfz10_0 := fz_ BK303 0; have hfz10_1 := fz_ BK303 1; have hfz10_2 := fz_ BK303 2; have hfz10_3 := fz_ BK303 3; have hfz10_4 := fz_ BK303 4; have hfz10_5 := fz_ BK303 5
   go_wp2
   go_meet
   case rel => exact ⟨_, (ji9), (by first | rfl | (simp; done) | (simp only [← hji9] <;> (first | rfl | simp)) | (simp [*]; done)), H', ⟨by first | omega | exact Nat.le_refl _⟩, ⟨bx_ BK303⟩, ⟨bl1_ HB GE303.out⟩⟩
  ·rw [if_neg c8] at H; have c8b0 : decide (0 < a0_3) = false := decide_eq_false c8; clear c8
   (first | rw [c8b0] | (simp only [i64_w, i32_w]; rw [c8b0]) | skip)
   have H' := A_ H; clear H
   go_wp2
   go_meet
   case rel => exact ⟨_, (ji4), (by first | rfl | (simp; done) | (simp only [← hji4] <;> (first | rfl | simp)) | (simp [*]; done)), H', ⟨by first | omega | exact Nat.le_refl _⟩, ⟨bx_ BK303⟩, ⟨bl1_ HB GE303.out⟩⟩
 case rest =>
  clear HC5; try clear c1
  try clear p2
  try clear c8
  try clear c8b0
  try clear hcz10_0 hcz10_1 hcz10_2 hcz10_3 hcz10_4 hcz10_5
  try clear hcz7_0 hcz7_1 hcz7_2 hcz7_3 hcz7_4 hcz7_5
  try clear hfz10_0 hfz10_1 hfz10_2 hfz10_3 hfz10_4 hfz10_5
  try clear hfz7_0 hfz7_1 hfz7_2 hfz7_3 hfz7_4 hfz7_5
  obtain ⟨kq, x1_4, rfl, HA, HJ4, BK303, HB⟩ := hcut
  cases kq with
  | zero => exact absurd HA.out (by simp [base_Under.j0])
  | succ kj4 =>
   have H := HA.out; clear HA; simp only [base_Under.j0] at H; by_cases c11 : a0_4 > 0
   ·rw [if_pos c11] at H; have c11b0 : decide (0 < a0_4) = true := decide_eq_true c11; clear c11; obtain ⟨ji12, hji12⟩ : ∃ j_ : Int, (mx 0 a2) = j_ := ⟨_, rfl⟩; replace H : (some (mn x1_4 (mx 0 (wrap64 (a0_4 - (ji12)))))) = some r := by first | (rw [hji12] at H; exact H) | (simp only [hji12] at H ⊢; exact H)
    have hji12_ : (if 0 < a2 then a2 else 0) = ji12 := hji12; obtain ⟨ji13, hji13⟩ : ∃ j_ : Int, (mx 0 (wrap64 (a0_4 - (ji12)))) = j_ := ⟨_, rfl⟩; replace H : (some (mn x1_4 (ji13))) = some r := by first | (rw [hji13] at H; exact H) | (simp only [hji13] at H ⊢; exact H)
    have hji13_ : (if 0 < (wrap64 (a0_4 - (ji12))) then (wrap64 (a0_4 - (ji12))) else 0) = ji13 := hji13; obtain ⟨ji14, hji14⟩ : ∃ j_ : Int, (mn x1_4 (ji13)) = j_ := ⟨_, rfl⟩; replace H : (some ji14) = some r := by first | (rw [hji14] at H; exact H) | (simp only [hji14] at H ⊢; exact H)
    have hji14_ : (if (ji13) < x1_4 then (ji13) else x1_4) = ji14 := hji14; obtain rfl := Option.some.inj H; have hcz15_0 := cz_ BK303 0; have hcz15_1 := cz_ BK303 1; have hcz15_2 := cz_ BK303 2; have hcz15_3 := cz_ BK303 3; have hcz15_4 := cz_ BK303 4; have hcz15_5 := cz_ BK303 5; have hfz15_0 := fz_ BK303 0; have hfz15_1 := fz_ BK303 1; have hfz15_2 := fz_ BK303 2; have hfz15_3 := fz_ BK303 3; have hfz15_4 := fz_ BK303 4; have hfz15_5 := fz_ BK303 5
    go_wp2
    go_ret
    exact ⟨by first | rfl | (simp [errW_none, errW_some] <;> rfl) | (simp only [← hji4, ← hji12, ← hji13, ← hji14]; first | rfl | (simp [errW_none, errW_some] <;> rfl)) | (simp [*, errW_none, errW_some] <;> rfl), bl1_ HB GE303.out⟩
   ·rw [if_neg c11] at H; have c11b0 : decide (0 < a0_4) = false := decide_eq_false c11; clear c11; obtain rfl := Option.some.inj H; have hcz16_0 := cz_ BK303 0; have hcz16_1 := cz_ BK303 1; have hcz16_2 := cz_ BK303 2; have hcz16_3 := cz_ BK303 3; have hcz16_4 := cz_ BK303 4; have hcz16_5 := cz_ BK303 5; have hfz16_0 := fz_ BK303 0; have hfz16_1 := fz_ BK303 1; have hfz16_2 := fz_ BK303 2; have hfz16_3 := fz_ BK303 3; have hfz16_4 := fz_ BK303 4; have hfz16_5 := fz_ BK303 5
    go_wp2
    go_ret
    exact ⟨by first | rfl | (simp [errW_none, errW_some] <;> rfl) | (simp only [← hji4]; first | rfl | (simp [errW_none, errW_some] <;> rfl)) | (simp [*, errW_none, errW_some] <;> rfl), bl1_ HB GE303.out⟩
def base_On.f (a0_0 : ByteArray) (a0_1 : Int) (l0_2 : List (S106)) (a0_3 : Int) (a0_4 : Int) (a0_5 : Int) (a1_0 : Int) (a1_1 : Int) (a1_2 : Int) : Option (Int) := if a0_1 = 1 then (some (mx 0 a1_1)) else (some (mx 0 a1_2))
set_option maxHeartbeats 8000000 in
set_option maxRecDepth 100000 in
theorem base_On.calls (a0_0 : ByteArray) (a0_1 : Int) (A0_2 : Option Addr) (c0_2 : Nat) (l0_2 : List (S106)) (a0_3 : Int) (a0_4 : Int) (a0_5 : Int) (a1_0 : Int) (a1_1 : Int) (a1_2 : Int) (r : Int) (w : World) (hr0_2 : Kd.C k106 w A0_2 l0_2.length l0_2) (hc0_2 : l0_2.length ≤ c0_2) (h : base_On.f a0_0 a0_1 l0_2 a0_3 a0_4 a0_5 a1_0 a1_1 a1_2 = some r) :
  Calls Try.prog 128 #[.agg #[.string a0_0, .int .i64 a0_1, .slice A0_2 l0_2.length c0_2, .int .i64 a0_3, .int .i64 a0_4, .int .i64 a0_5], .agg #[.int .i64 a1_0, .int .i64 a1_1, .int .i64 a1_2]] w fun e w' => e = .returned (.int .i64 r) ∧ Below w.heap.size w w' := by
 have hu120 := Try.underlying120; have hu67 := Try.underlying67; have HR0_2 := A_ hr0_2; have HC0_2 := A_ hc0_2; clear hr0_2 hc0_2; have HB := A_ (Below.refl w.heap.size w); unfold base_On.f at h; have H := h; clear h; by_cases c3 : a0_1 = 1
 ·rw [if_pos c3] at H; have c3b0 : (a0_1 == 1) = true := beq_iff_eq.mpr c3; have c3b1 : (a0_1 != 1) = false := bne_eq_false_iff_eq.mpr c3; clear c3; obtain ⟨ji4, hji4⟩ : ∃ j_ : Int, (mx 0 a1_1) = j_ := ⟨_, rfl⟩; replace H : (some ji4) = some r := by first | (rw [hji4] at H; exact H) | (simp only [hji4] at H ⊢; exact H)
  (try (have hji4l : 0 ≤ ji4 := by (rw [← hji4]; unfold mx; (repeat' split) <;> omega)))
  (try (have hji4m : 0 ≤ ji4 := by omega))
  have hji4_ : (if 0 < a1_1 then a1_1 else 0) = ji4 := hji4; obtain rfl := Option.some.inj H; go_enter Try.func128, Try.ntmps128
  go_wp2_with (first | ((with_reducible refine gate_dst (N := 2) rfl ?_); refine be_ (N := 2) (cs := #[.string a0_0, .int .i64 a0_1, .slice A0_2 l0_2.length c0_2, .int .i64 a0_3, .int .i64 a0_4, .int .i64 a0_5]) (t := 120) ?_; intro gb304 hg w5 hbox hb; have BK304 := A_ (hbox); have GW304 := A_ ((by rw [hg]; exact (below_size (bl_ HB)) : w.heap.size ≤ gb304)); have GE304 := A_ ((by rw [hg]; exact (below_size (bl_ HB)) : w.heap.size ≤ gb304)); replace HB := A_ (below_step (bl_ HB) hb); clear hb hbox hg) | ((with_reducible refine gate_dst (N := 3) rfl ?_); refine be_ (N := 3) (cs := #[.int .i64 a1_0, .int .i64 a1_1, .int .i64 a1_2]) (t := 67) ?_; intro gb305 hg w6 hbox hb; have BK305 := A_ (hbox); have GW305 := A_ ((by rw [hg]; exact (below_size (bl1_ HB GE304.out)) : w.heap.size ≤ gb305)); have GE305 := A_ ((by rw [hg]; exact (below_size (bl1_ HB GE304.out)) : w.heap.size ≤ gb305)); have NB304_305 := A_ ((by rw [hg]; exact Nat.ne_of_lt (blk_lt (bx_ BK304)) : gb304 ≠ gb305)); have NB305_304 := A_ ((by rw [hg]; exact Nat.ne_of_gt (blk_lt (bx_ BK304)) : gb305 ≠ gb304)); replace BK304 := A_ (blk_below (bx_ BK304) hb); replace HB := A_ (below_step (bl1_ HB GE304.out) hb); clear hb hbox hg; have hnb7 := NB304_305.out; have hnc7 := NB305_304.out; have hcz8_0 := cz_ BK304 0; have hcz8_1 := cz_ BK304 1; have hcz8_2 := cz_ BK304 2; have hcz8_3 := cz_ BK304 3; have hcz8_4 := cz_ BK304 4; have hcz8_5 := cz_ BK304 5; have hfz8_0 := fz_ BK304 0; have hfz8_1 := fz_ BK304 1; have hfz8_2 := fz_ BK304 2; have hfz8_3 := fz_ BK304 3; have hfz8_4 := fz_ BK304 4; have hfz8_5 := fz_ BK304 5; have hcz9_0 := cz_ BK305 0; have hcz9_1 := cz_ BK305 1; have hcz9_2 := cz_ BK305 2; have hfz9_0 := fz_ BK305 0; have hfz9_1 := fz_ BK305 1; have hfz9_2 := fz_ BK305 2))
  go_ret
  exact ⟨by first | rfl | (simp [errW_none, errW_some] <;> rfl) | (simp only [← hji4]; first | rfl | (simp [errW_none, errW_some] <;> rfl)) | (simp [*, errW_none, errW_some] <;> rfl), bl2_ HB GE304.out GE305.out⟩
 ·rw [if_neg c3] at H; have c3b0 : (a0_1 == 1) = false := beq_eq_false_iff_ne.mpr c3; have c3b1 : (a0_1 != 1) = true := bne_iff_ne.mpr c3; obtain ⟨ji10, hji10⟩ : ∃ j_ : Int, (mx 0 a1_2) = j_ := ⟨_, rfl⟩; replace H : (some ji10) = some r := by first | (rw [hji10] at H; exact H) | (simp only [hji10] at H ⊢; exact H)
  (try (have hji10l : 0 ≤ ji10 := by (rw [← hji10]; unfold mx; (repeat' split) <;> omega)))
  (try (have hji10m : 0 ≤ ji10 := by omega))
  have hji10_ : (if 0 < a1_2 then a1_2 else 0) = ji10 := hji10; obtain rfl := Option.some.inj H; go_enter Try.func128, Try.ntmps128
  go_wp2_with (first | ((with_reducible refine gate_dst (N := 2) rfl ?_); refine be_ (N := 2) (cs := #[.string a0_0, .int .i64 a0_1, .slice A0_2 l0_2.length c0_2, .int .i64 a0_3, .int .i64 a0_4, .int .i64 a0_5]) (t := 120) ?_; intro gb304 hg w11 hbox hb; have BK304 := A_ (hbox); have GW304 := A_ ((by rw [hg]; exact (below_size (bl_ HB)) : w.heap.size ≤ gb304)); have GE304 := A_ ((by rw [hg]; exact (below_size (bl_ HB)) : w.heap.size ≤ gb304)); replace HB := A_ (below_step (bl_ HB) hb); clear hb hbox hg) | ((with_reducible refine gate_dst (N := 3) rfl ?_); refine be_ (N := 3) (cs := #[.int .i64 a1_0, .int .i64 a1_1, .int .i64 a1_2]) (t := 67) ?_; intro gb305 hg w12 hbox hb; have BK305 := A_ (hbox); have GW305 := A_ ((by rw [hg]; exact (below_size (bl1_ HB GE304.out)) : w.heap.size ≤ gb305)); have GE305 := A_ ((by rw [hg]; exact (below_size (bl1_ HB GE304.out)) : w.heap.size ≤ gb305)); have NB304_305 := A_ ((by rw [hg]; exact Nat.ne_of_lt (blk_lt (bx_ BK304)) : gb304 ≠ gb305)); have NB305_304 := A_ ((by rw [hg]; exact Nat.ne_of_gt (blk_lt (bx_ BK304)) : gb305 ≠ gb304)); replace BK304 := A_ (blk_below (bx_ BK304) hb); replace HB := A_ (below_step (bl1_ HB GE304.out) hb); clear hb hbox hg; have hnb13 := NB304_305.out; have hnc13 := NB305_304.out; have hcz14_0 := cz_ BK304 0; have hcz14_1 := cz_ BK304 1; have hcz14_2 := cz_ BK304 2; have hcz14_3 := cz_ BK304 3; have hcz14_4 := cz_ BK304 4; have hcz14_5 := cz_ BK304 5; have hfz14_0 := fz_ BK304 0; have hfz14_1 := fz_ BK304 1; have hfz14_2 := fz_ BK304 2; have hfz14_3 := fz_ BK304 3; have hfz14_4 := fz_ BK304 4; have hfz14_5 := fz_ BK304 5; have hcz15_0 := cz_ BK305 0; have hcz15_1 := cz_ BK305 1; have hcz15_2 := cz_ BK305 2; have hfz15_0 := fz_ BK305 0; have hfz15_1 := fz_ BK305 1; have hfz15_2 := fz_ BK305 2))
  go_ret
  exact ⟨by first | rfl | (simp [errW_none, errW_some] <;> rfl) | (simp only [← hji10]; first | rfl | (simp [errW_none, errW_some] <;> rfl)) | (simp [*, errW_none, errW_some] <;> rfl), bl2_ HB GE304.out GE305.out⟩
end Go.Proofs.Ytcapgmoipacioaa.P
