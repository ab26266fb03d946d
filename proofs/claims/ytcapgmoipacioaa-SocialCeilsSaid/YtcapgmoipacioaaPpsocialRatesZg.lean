import Derived.Test.YtcapgmoipacioaaPtZg
import Derived.Test.YtcapgmoipacioaaHcheckZg
import Derived.Test.YtcapgmoipacioaaPpbandZg
import Derived.Test.YtcapgmoipacioaaPpbaseZg
import Derived.Test.YtcapgmoipacioaaPpmoneyZg
import Derived.Test.YtcapgmoipacioaaY1Zg
namespace Go.Proofs.Ytcapgmoipacioaa.P
open Go.RowKit Go.Proofs.YtcapgmoipacioaaW.PrintWords Go.Proofs.YtcapgmoipacioaaW.PrintLast Go.Proofs.YtcapgmoipacioaaW.PrintMore
set_option linter.unusedVariables false
set_option linter.unusedSimpArgs false
def social_Rates.f (k : Nat) (a0_0 : ByteArray) (a0_1 : Int) (l0_2 : List (S106)) (a0_3 : Int) (a0_4 : Int) (a0_5 : Int) (a1 : Int) (a2 : Int) : Option (Int × Int × Int) := (band_Check.f l0_2).bind fun t743 => (if t743 = 0 then ((money_Right.f k (([a1, a2] : List Int))).bind fun t747 => (if t747 = true then (if a1 < 0 then (some (0, 0, 0)) else ((base_Under.f k a0_0 a0_1 l0_2 a0_3 a0_4 a0_5 (wrap64 (a1 + 1)) a2).bind fun t748 => ((base_Under.f k a0_0 a0_1 l0_2 a0_3 a0_4 a0_5 a1 a2).bind fun t749 => (if t748 = t749 then (some (0, 0, 0)) else ((band_Find.f k (wrap64 (a1 + 1)) l0_2).bind fun t750 => (if 0 ≤ t750 then (if t750 < (l0_2.length : Int) then (some ((rd_T106 l0_2 t750).f1, (rd_T106 l0_2 t750).f2, 0)) else (none)) else (none))))))) else (some (0, 0, 10)))) else (some (0, 0, t743)))
def social_Rates.T6 : Bool × List (List Nat × List Nat) := (true, [([], []), ([0], [0]), ([1], [1]), ([2], [2]), ([2], [2]), ([4, 2], [2, 4]), ([2], [2]), ([3, 5, 6, 2, 2], [2, 3, 5, 6]), ([2], [2]), ([2], [2]), ([2], [2]), ([8, 9, 10, 7, 2], [2, 8, 9, 10]), ([7, 11, 2], [2, 7, 11]), ([2, 12], [2, 12])])
def social_Rates.B6 : List Nat := [0, 1, 3, 7, 7, 23, 7, 127, 7, 7, 7, 2047, 4095, 8191]
theorem social_Rates.tab6 : rtab .any (opsOf Try.f124 6) = social_Rates.T6 := by kernel_rfl
theorem social_Rates.bits6 : waitsOk social_Rates.T6.2 social_Rates.B6 = true := by kernel_rfl
def social_Rates.T8 : Bool × List (List Nat × List Nat) := (true, [([], []), ([0], [0]), ([], []), ([2], [2]), ([], []), ([4], [4]), ([3, 5], [3, 5]), ([1, 6], [1, 6]), ([7], [7]), ([], []), ([9, 8, 6, 0, 1, 2, 3, 4, 5, 6, 7, 8, 9], [8, 9])])
def social_Rates.B8 : List Nat := [0, 1, 0, 4, 0, 16, 60, 127, 255, 0, 1023]
theorem social_Rates.tab8 : rtab .any (opsOf Try.f124 8) = social_Rates.T8 := by kernel_rfl
theorem social_Rates.bits8 : waitsOk social_Rates.T8.2 social_Rates.B8 = true := by kernel_rfl
set_option maxHeartbeats 8000000 in
set_option maxRecDepth 100000 in
theorem social_Rates.calls (k : Nat) (a0_0 : ByteArray) (a0_1 : Int) (A0_2 : Option Addr) (c0_2 : Nat) (l0_2 : List (S106)) (a0_3 : Int) (a0_4 : Int) (a0_5 : Int) (a1 : Int) (a2 : Int) (r1 : Int) (r2 : Int) (r3 : Int) (w : World) (hr0_2 : Kd.C k106 w A0_2 l0_2.length l0_2) (hc0_2 : l0_2.length ≤ c0_2) (h : social_Rates.f k a0_0 a0_1 l0_2 a0_3 a0_4 a0_5 a1 a2 = some (r1, r2, r3)) :
  Calls Try.prog 124 #[.agg #[.string a0_0, .int .i64 a0_1, .slice A0_2 l0_2.length c0_2, .int .i64 a0_3, .int .i64 a0_4, .int .i64 a0_5], .int .i64 a1, .int .i64 a2] w fun e w' => e = .returned (.tuple #[.int .i64 r1, .int .i64 r2, .int .i64 r3]) ∧ Below w.heap.size w w' := by
 have hu120 := Try.underlying120; have hu106 := Try.underlying106; have HR0_2 := A_ hr0_2; have HC0_2 := A_ hc0_2; clear hr0_2 hc0_2; have HB := A_ (Below.refl w.heap.size w); unfold social_Rates.f at h; have H := h; clear h; replace H := Option.bind_eq_some_iff.mp H; obtain ⟨t743, A40, H⟩ := H; (try dsimp only at H); have A4 := A_ A40; clear A40; by_cases c5 : t743 = 0
 ·rw [if_pos c5] at H; have c5b0 : (t743 == 0) = true := beq_iff_eq.mpr c5; have c5b1 : (t743 != 0) = false := bne_eq_false_iff_eq.mpr c5; clear c5; obtain ⟨y744, hy744⟩ : ∃ y_ : List Int, y_ = (([a1, a2] : List Int)) := ⟨_, rfl⟩; replace H : ((money_Right.f k y744).bind fun t747 => (if t747 = true then (if a1 < 0 then (some (0, 0, 0)) else ((base_Under.f k a0_0 a0_1 l0_2 a0_3 a0_4 a0_5 (wrap64 (a1 + 1)) a2).bind fun t748 => ((base_Under.f k a0_0 a0_1 l0_2 a0_3 a0_4 a0_5 a1 a2).bind fun t749 => (if t748 = t749 then (some (0, 0, 0)) else ((band_Find.f k (wrap64 (a1 + 1)) l0_2).bind fun t750 => (if 0 ≤ t750 then (if t750 < (l0_2.length : Int) then (some ((rd_T106 l0_2 t750).f1, (rd_T106 l0_2 t750).f2, 0)) else (none)) else (none))))))) else (some (0, 0, 10)))) = some (r1, r2, r3) := by first | (rw [hy744]; with_reducible exact H) | (have H2_ := (Option.bind_some _ _).symm.trans H; rw [hy744]; with_reducible exact H2_) | (have H2_ := (Option.bind_some _ _).symm.trans H; with_reducible exact H2_) | with_reducible exact H | (rw [hy744]; exact H) | exact H
  have Ny744 := A_ hy744; clear hy744; replace H := Option.bind_eq_some_iff.mp H; obtain ⟨t747, A60, H⟩ := H; (try dsimp only at H); have A6 := A_ A60; clear A60; by_cases c7 : t747 = true
  ·subst c7; rw [if_pos rfl] at H; by_cases c8 : a1 < 0
   ·rw [if_pos c8] at H; have c8b0 := decide_eq_true c8; clear c8; simp only [Option.some.injEq, Prod.mk.injEq] at H; obtain ⟨rfl, rfl, rfl⟩ := H; go_enter Try.func124, Try.ntmps124
    try go_wp2_with (first | ((with_reducible refine gate_dst (N := 3) rfl ?_); refine be_ (N := 3) (cs := #[.string a0_0, .int .i64 a0_1, .slice A0_2 l0_2.length c0_2, .int .i64 a0_3, .int .i64 a0_4, .int .i64 a0_5]) (t := 120) ?_; intro gb742 hg w9 hbox hb; have BK742 := A_ (hbox); have GW742 := A_ ((by rw [hg]; exact (below_size (bl_ HB)) : w.heap.size ≤ gb742)); have GE742 := A_ ((by rw [hg]; exact (below_size (bl_ HB)) : w.heap.size ≤ gb742)); replace HB := A_ (below_step (bl_ HB) hb); clear hb hbox hg; have hcz10_0 := cz_ BK742 0; have hcz10_1 := cz_ BK742 1; have hcz10_2 := cz_ BK742 2; have hcz10_3 := cz_ BK742 3; have hcz10_4 := cz_ BK742 4; have hcz10_5 := cz_ BK742 5; have hfz10_0 := fz_ BK742 0; have hfz10_1 := fz_ BK742 1; have hfz10_2 := fz_ BK742 2; have hfz10_3 := fz_ BK742 3; have hfz10_4 := fz_ BK742 4; have hfz10_5 := fz_ BK742 5) | ((with_reducible refine gate_callee (f := 36) rfl ?_); refine gm_ (some 13) Try.func36 #[.slice A0_2 l0_2.length c0_2] ?_; (with_reducible refine (band_Check.calls _ _ l0_2 t743 _ ?side1 ?side2 A4.out).mono ?_); (case side1 => exact cb_ HR0_2 HB); (case side2 => exact HC0_2.out); rintro e w11 ⟨rfl, hb⟩; refine ⟨_, rfl, ?_⟩; replace BK742 := A_ (blk_below (bx_ BK742) hb); replace HB := A_ (below_step (bl1_ HB GE742.out) hb); (try clear hb); (try clear hb2); (try clear hk); (try clear hi)) | ((with_reducible refine gate_dst (N := 19) rfl ?_); refine Kd.R_lit (Kd.int .i64) _ 2 ?hg (N := 19) ?hd (xs := ([a1, a2] : List Int)) (inner := [.int .i64 a1, .int .i64 a2]) (ok := fun _ => True) (okp := fun _ => True) ?hr ?hp (fun _ hk => hk) trivial (Below.refl _ _) (Nat.le_refl _) (by simp) ?_; (case hd => rfl); (case hg => rfl); (case hr => first | (go_simp; done) | (go_simp; rfl)); (case hp => exact (Reps.one (show Kd.M (Kd.int .i64) _ _ _ a1 [.int .i64 a1] from rfl) (Reps.one (show Kd.M (Kd.int .i64) _ _ _ a2 [.int .i64 a2] from rfl) (Reps.none _ _)))); intro v745 w12 ho13 hb hg_ hnew_; clear hg_ hnew_; (first | rw [← Ny744.out] at ho13 | (simp only [Int.reduceToNat] at ho13; rw [← Ny744.out] at ho13)); have HO746 := A_ (Kd.R_lower ho13 (below_size (bl1_ HB GE742.out))); replace BK742 := A_ (blk_below (bx_ BK742) hb); replace HB := A_ (below_step (bl1_ HB GE742.out) hb); clear hb ho13; obtain ⟨Ao14, co14, eo14⟩ := Kd.R_slice HO746.out; subst eo14) | ((with_reducible refine gate_callee (f := 118) rfl ?_); refine gm_ (some 20) Try.func118 #[.slice Ao14 y744.length co14] ?_; (with_reducible refine (money_Right.calls k _ _ y744 true _ ?side1 ?side2 A6.out).mono ?_); (case side1 => repeat (first | exact (Kd.R_reads' HO746.out).2.2 | (with_reducible refine Kd.C_alloc ?_ _) | (with_reducible refine Kd.C_drewN ?_ _) | (with_reducible refine Kd.C_drew ?_))); (case side2 => exact (Kd.R_reads' HO746.out).2.1); rintro e w' ⟨rfl, ⟨nd, rfl⟩⟩; refine ⟨_, rfl, ?_⟩))
    (try (rw [drewN_self w12]; generalize hq_ : World.drewN w12 _ = w12; have n0_ : Aside0 (Kd.R (Kd.int .i64) 2 w12 w.heap.size (fun _ => True) (.slice Ao14 y744.length co14) y744) := ⟨by rw [← hq_]; exact (ro_ HO746)⟩; have n1_ : Aside0 (w12.heap[gb742]? = some (.cells #[.string a0_0, .int .i64 a0_1, .slice A0_2 l0_2.length c0_2, .int .i64 a0_3, .int .i64 a0_4, .int .i64 a0_5] 120 (0, 0))) := ⟨by rw [← hq_]; exact (bx_ BK742)⟩; have n2_ : Aside0 (Below w.heap.size w w12) := ⟨by rw [← hq_]; exact (bl1_ HB GE742.out)⟩; clear HO746 BK742 HB hq_; have HO746 := n0_; have BK742 := n1_; have HB := n2_; clear n0_ n1_ n2_))
    replace HO746 := A_ (Kd.R_drew HO746.out); replace BK742 := A_ (blk_drew BK742.out); replace HB := A_ (below_drew1 HB.out); refine start_ (n := 14) (S := fun w' => True) (ds := []) #[false, false, false, false, false, false, false, false, false, false, false, false, false, false] (by kernel_rfl) rfl rfl trivial (fun hHeld => ?_); refine with_tabW social_Rates.tab6 social_Rates.bits6 (fun HT_ HW_ => ?_)
    generalize w12.drew = w15 at HO746 BK742 HB hHeld ⊢; refine pure_ (i := 0) (N := some 22) (v := ?_) (a' := ?_) #[true, false, false, false, false, false, false, false, false, false, false, false, false, false] rfl rfl (any_of HT_.out (by kernel_rfl)) (fun _ _ _ h => h) (Or.inl ⟨by rfl, ?_⟩) ?_ ?_
    rotate_left
    ·intro w'
     go_simp
     with_reducible rfl
    rotate_left
    ·simp only [Act.put, List.setIfInBounds_toArray, List.set_cons_zero, List.set_cons_succ, i64_w, i32_w]
     rfl
    refine pure_ (i := 1) (N := some 23) (v := ?_) (a' := ?_) #[true, true, false, false, false, false, false, false, false, false, false, false, false, false] rfl rfl (any_of HT_.out (by kernel_rfl)) (fun _ _ _ h => h) (Or.inl ⟨by rfl, ?_⟩) ?_ ?_
    rotate_left
    ·intro w'
     go_simp
     with_reducible rfl
    rotate_left
    ·simp only [Act.put, List.setIfInBounds_toArray, List.set_cons_zero, List.set_cons_succ, i64_w, i32_w]
     rfl
    refine pure_ (i := 2) (N := some 24) (v := ?_) (a' := ?_) #[true, true, true, false, false, false, false, false, false, false, false, false, false, false] rfl rfl (any_of HT_.out (by kernel_rfl)) (fun _ _ _ h => h) (Or.inl ⟨by rfl, ?_⟩) ?_ ?_
    rotate_left
    ·intro w'
     go_simp
     with_reducible rfl
    rotate_left
    ·simp only [Act.put, List.setIfInBounds_toArray, List.set_cons_zero, List.set_cons_succ, i64_w, i32_w]
     rfl
    refine pure_ (i := 3) (N := some 25) (v := undef) (a' := ?_) #[true, true, true, true, false, false, false, false, false, false, false, false, false, false] rfl rfl (any_of HT_.out (by kernel_rfl)) (fun _ _ _ h => h) (Or.inr ⟨by rfl, rfl⟩) ?_ ?_
    rotate_left
    ·simp only [Act.put, List.setIfInBounds_toArray, List.set_cons_zero, List.set_cons_succ, i64_w, i32_w]
     rfl
    refine pure_ (i := 4) (N := some 26) (v := undef) (a' := ?_) #[true, true, true, true, true, false, false, false, false, false, false, false, false, false] rfl rfl (any_of HT_.out (by kernel_rfl)) (fun _ _ _ h => h) (Or.inr ⟨by rfl, rfl⟩) ?_ ?_
    rotate_left
    ·simp only [Act.put, List.setIfInBounds_toArray, List.set_cons_zero, List.set_cons_succ, i64_w, i32_w]
     rfl
    refine pure_ (i := 5) (N := some 27) (v := undef) (a' := ?_) #[true, true, true, true, true, true, false, false, false, false, false, false, false, false] rfl rfl (any_of HT_.out (by kernel_rfl)) (fun _ _ _ h => h) (Or.inr ⟨by rfl, rfl⟩) ?_ ?_
    rotate_left
    ·simp only [Act.put, List.setIfInBounds_toArray, List.set_cons_zero, List.set_cons_succ, i64_w, i32_w]
     rfl
    refine pure_ (i := 6) (N := some 28) (v := undef) (a' := ?_) #[true, true, true, true, true, true, true, false, false, false, false, false, false, false] rfl rfl (any_of HT_.out (by kernel_rfl)) (fun _ _ _ h => h) (Or.inr ⟨by rfl, rfl⟩) ?_ ?_
    rotate_left
    ·simp only [Act.put, List.setIfInBounds_toArray, List.set_cons_zero, List.set_cons_succ, i64_w, i32_w]
     rfl
    refine pure_ (i := 7) (N := some 29) (v := undef) (a' := ?_) #[true, true, true, true, true, true, true, true, false, false, false, false, false, false] rfl rfl (any_of HT_.out (by kernel_rfl)) (fun _ _ _ h => h) (Or.inr ⟨by rfl, rfl⟩) ?_ ?_
    rotate_left
    ·simp only [Act.put, List.setIfInBounds_toArray, List.set_cons_zero, List.set_cons_succ, i64_w, i32_w]
     rfl
    refine pure_ (i := 8) (N := some 30) (v := undef) (a' := ?_) #[true, true, true, true, true, true, true, true, true, false, false, false, false, false] rfl rfl (any_of HT_.out (by kernel_rfl)) (fun _ _ _ h => h) (Or.inr ⟨by rfl, rfl⟩) ?_ ?_
    rotate_left
    ·simp only [Act.put, List.setIfInBounds_toArray, List.set_cons_zero, List.set_cons_succ, i64_w, i32_w]
     rfl
    refine pure_ (i := 9) (N := some 31) (v := undef) (a' := ?_) #[true, true, true, true, true, true, true, true, true, true, false, false, false, false] rfl rfl (any_of HT_.out (by kernel_rfl)) (fun _ _ _ h => h) (Or.inr ⟨by rfl, rfl⟩) ?_ ?_
    rotate_left
    ·simp only [Act.put, List.setIfInBounds_toArray, List.set_cons_zero, List.set_cons_succ, i64_w, i32_w]
     rfl
    refine pure_ (i := 10) (N := some 32) (v := undef) (a' := ?_) #[true, true, true, true, true, true, true, true, true, true, true, false, false, false] rfl rfl (any_of HT_.out (by kernel_rfl)) (fun _ _ _ h => h) (Or.inr ⟨by rfl, rfl⟩) ?_ ?_
    rotate_left
    ·simp only [Act.put, List.setIfInBounds_toArray, List.set_cons_zero, List.set_cons_succ, i64_w, i32_w]
     rfl
    refine pure_ (i := 11) (N := some 33) (v := undef) (a' := ?_) #[true, true, true, true, true, true, true, true, true, true, true, true, false, false] rfl rfl (any_of HT_.out (by kernel_rfl)) (fun _ _ _ h => h) (Or.inr ⟨by rfl, rfl⟩) ?_ ?_
    rotate_left
    ·simp only [Act.put, List.setIfInBounds_toArray, List.set_cons_zero, List.set_cons_succ, i64_w, i32_w]
     rfl
    refine pure_ (i := 12) (N := some 34) (v := undef) (a' := ?_) #[true, true, true, true, true, true, true, true, true, true, true, true, true, false] rfl rfl (any_of HT_.out (by kernel_rfl)) (fun _ _ _ h => h) (Or.inr ⟨by rfl, rfl⟩) ?_ ?_
    rotate_left
    ·simp only [Act.put, List.setIfInBounds_toArray, List.set_cons_zero, List.set_cons_succ, i64_w, i32_w]
     rfl
    refine pure_ (i := 13) (N := some 35) (v := ?_) (a' := ?_) #[true, true, true, true, true, true, true, true, true, true, true, true, true, true] rfl rfl (any_of HT_.out (by kernel_rfl)) (fun _ _ _ h => h) (Or.inl ⟨by rfl, ?_⟩) ?_ ?_
    rotate_left
    ·intro w'
     go_simp
     with_reducible rfl
    rotate_left
    ·simp only [Act.put, List.setIfInBounds_toArray, List.set_cons_zero, List.set_cons_succ, i64_w, i32_w]
     rfl
    refine done_ (done_of HT_.out (by kernel_rfl)) ?_
    try go_wp2
    go_ret3
    exact ⟨er_, bl1_ HB GE742.out⟩
   ·rw [if_neg c8] at H; have c8b0 := decide_eq_false c8; clear c8; replace H := Option.bind_eq_some_iff.mp H; obtain ⟨t748, A160, H⟩ := H; (try dsimp only at H); have A16 := A_ A160; clear A160; replace H := Option.bind_eq_some_iff.mp H; obtain ⟨t749, A170, H⟩ := H; (try dsimp only at H); have A17 := A_ A170; clear A170; by_cases c18 : t748 = t749
    ·rw [if_pos c18] at H; have c18b0 : (t748 == t749) = true := beq_iff_eq.mpr c18; have c18b1 : (t748 != t749) = false := bne_eq_false_iff_eq.mpr c18; clear c18; simp only [Option.some.injEq, Prod.mk.injEq] at H; obtain ⟨rfl, rfl, rfl⟩ := H; go_enter Try.func124, Try.ntmps124
     try go_wp2_with (first | ((with_reducible refine gate_dst (N := 3) rfl ?_); refine be_ (N := 3) (cs := #[.string a0_0, .int .i64 a0_1, .slice A0_2 l0_2.length c0_2, .int .i64 a0_3, .int .i64 a0_4, .int .i64 a0_5]) (t := 120) ?_; intro gb742 hg w19 hbox hb; have BK742 := A_ (hbox); have GW742 := A_ ((by rw [hg]; exact (below_size (bl_ HB)) : w.heap.size ≤ gb742)); have GE742 := A_ ((by rw [hg]; exact (below_size (bl_ HB)) : w.heap.size ≤ gb742)); replace HB := A_ (below_step (bl_ HB) hb); clear hb hbox hg; have hcz20_0 := cz_ BK742 0; have hcz20_1 := cz_ BK742 1; have hcz20_2 := cz_ BK742 2; have hcz20_3 := cz_ BK742 3; have hcz20_4 := cz_ BK742 4; have hcz20_5 := cz_ BK742 5; have hfz20_0 := fz_ BK742 0; have hfz20_1 := fz_ BK742 1; have hfz20_2 := fz_ BK742 2; have hfz20_3 := fz_ BK742 3; have hfz20_4 := fz_ BK742 4; have hfz20_5 := fz_ BK742 5) | ((with_reducible refine gate_callee (f := 36) rfl ?_); refine gm_ (some 13) Try.func36 #[.slice A0_2 l0_2.length c0_2] ?_; (with_reducible refine (band_Check.calls _ _ l0_2 t743 _ ?side1 ?side2 A4.out).mono ?_); (case side1 => exact cb_ HR0_2 HB); (case side2 => exact HC0_2.out); rintro e w21 ⟨rfl, hb⟩; refine ⟨_, rfl, ?_⟩; replace BK742 := A_ (blk_below (bx_ BK742) hb); replace HB := A_ (below_step (bl1_ HB GE742.out) hb); (try clear hb); (try clear hb2); (try clear hk); (try clear hi)) | ((with_reducible refine gate_dst (N := 19) rfl ?_); refine Kd.R_lit (Kd.int .i64) _ 2 ?hg (N := 19) ?hd (xs := ([a1, a2] : List Int)) (inner := [.int .i64 a1, .int .i64 a2]) (ok := fun _ => True) (okp := fun _ => True) ?hr ?hp (fun _ hk => hk) trivial (Below.refl _ _) (Nat.le_refl _) (by simp) ?_; (case hd => rfl); (case hg => rfl); (case hr => first | (go_simp; done) | (go_simp; rfl)); (case hp => exact (Reps.one (show Kd.M (Kd.int .i64) _ _ _ a1 [.int .i64 a1] from rfl) (Reps.one (show Kd.M (Kd.int .i64) _ _ _ a2 [.int .i64 a2] from rfl) (Reps.none _ _)))); intro v745 w22 ho23 hb hg_ hnew_; clear hg_ hnew_; (first | rw [← Ny744.out] at ho23 | (simp only [Int.reduceToNat] at ho23; rw [← Ny744.out] at ho23)); have HO746 := A_ (Kd.R_lower ho23 (below_size (bl1_ HB GE742.out))); replace BK742 := A_ (blk_below (bx_ BK742) hb); replace HB := A_ (below_step (bl1_ HB GE742.out) hb); clear hb ho23; obtain ⟨Ao24, co24, eo24⟩ := Kd.R_slice HO746.out; subst eo24) | ((with_reducible refine gate_callee (f := 118) rfl ?_); refine gm_ (some 20) Try.func118 #[.slice Ao24 y744.length co24] ?_; (with_reducible refine (money_Right.calls k _ _ y744 true _ ?side1 ?side2 A6.out).mono ?_); (case side1 => repeat (first | exact (Kd.R_reads' HO746.out).2.2 | (with_reducible refine Kd.C_alloc ?_ _) | (with_reducible refine Kd.C_drewN ?_ _) | (with_reducible refine Kd.C_drew ?_))); (case side2 => exact (Kd.R_reads' HO746.out).2.1); rintro e w' ⟨rfl, ⟨nd, rfl⟩⟩; refine ⟨_, rfl, ?_⟩))
     (try (rw [drewN_self w22]; generalize hq_ : World.drewN w22 _ = w22; have n0_ : Aside0 (Kd.R (Kd.int .i64) 2 w22 w.heap.size (fun _ => True) (.slice Ao24 y744.length co24) y744) := ⟨by rw [← hq_]; exact (ro_ HO746)⟩; have n1_ : Aside0 (w22.heap[gb742]? = some (.cells #[.string a0_0, .int .i64 a0_1, .slice A0_2 l0_2.length c0_2, .int .i64 a0_3, .int .i64 a0_4, .int .i64 a0_5] 120 (0, 0))) := ⟨by rw [← hq_]; exact (bx_ BK742)⟩; have n2_ : Aside0 (Below w.heap.size w w22) := ⟨by rw [← hq_]; exact (bl1_ HB GE742.out)⟩; clear HO746 BK742 HB hq_; have HO746 := n0_; have BK742 := n1_; have HB := n2_; clear n0_ n1_ n2_))
     replace HO746 := A_ (Kd.R_drew HO746.out); replace BK742 := A_ (blk_drew BK742.out); replace HB := A_ (below_drew1 HB.out); refine start_ (n := 14) (S := fun w' => w'.cell? ⟨gb742, 0, none⟩ = some (.string a0_0) ∧ w'.cell? ⟨gb742, 1, none⟩ = some (.int .i64 a0_1) ∧ w'.cell? ⟨gb742, 2, none⟩ = some (.slice A0_2 l0_2.length c0_2) ∧ w'.cell? ⟨gb742, 3, none⟩ = some (.int .i64 a0_3) ∧ w'.cell? ⟨gb742, 4, none⟩ = some (.int .i64 a0_4) ∧ w'.cell? ⟨gb742, 5, none⟩ = some (.int .i64 a0_5)) (ds := []) #[false, false, false, false, false, false, false, false, false, false, false, false, false, false] (by kernel_rfl) rfl rfl ⟨(blk_cell BK742.out 0).trans rfl, (blk_cell BK742.out 1).trans rfl, (blk_cell BK742.out 2).trans rfl, (blk_cell BK742.out 3).trans rfl, (blk_cell BK742.out 4).trans rfl, (blk_cell BK742.out 5).trans rfl⟩ (fun hHeld => ?_); refine with_tabW social_Rates.tab6 social_Rates.bits6 (fun HT_ HW_ => ?_)
     generalize w22.drew = w25 at HO746 BK742 HB hHeld ⊢; refine pure_ (i := 0) (N := some 22) (v := ?_) (a' := ?_) #[true, false, false, false, false, false, false, false, false, false, false, false, false, false] rfl rfl (any_of HT_.out (by kernel_rfl)) (fun _ _ _ h => h) (Or.inl ⟨by rfl, ?_⟩) ?_ ?_
     rotate_left
     ·intro w'
      go_simp
      with_reducible rfl
     rotate_left
     ·simp only [Act.put, List.setIfInBounds_toArray, List.set_cons_zero, List.set_cons_succ, i64_w, i32_w]
      rfl
     refine pure_ (i := 1) (N := some 23) (v := ?_) (a' := ?_) #[true, true, false, false, false, false, false, false, false, false, false, false, false, false] rfl rfl (any_of HT_.out (by kernel_rfl)) (fun _ _ _ h => h) (Or.inl ⟨by rfl, ?_⟩) ?_ ?_
     rotate_left
     ·intro w'
      go_simp
      with_reducible rfl
     rotate_left
     ·simp only [Act.put, List.setIfInBounds_toArray, List.set_cons_zero, List.set_cons_succ, i64_w, i32_w]
      rfl
     refine pure_ (i := 2) (N := some 24) (v := ?_) (a' := ?_) #[true, true, true, false, false, false, false, false, false, false, false, false, false, false] rfl rfl (any_of HT_.out (by kernel_rfl)) (fun _ _ _ h => h) (Or.inl ⟨by rfl, ?_⟩) ?_ ?_
     rotate_left
     ·intro w'
      go_simp
      with_reducible rfl
     rotate_left
     ·simp only [Act.put, List.setIfInBounds_toArray, List.set_cons_zero, List.set_cons_succ, i64_w, i32_w]
      rfl
     refine pure_ (i := 4) (N := some 26) (v := ?_) (a' := ?_) #[true, true, true, false, true, false, false, false, false, false, false, false, false, false] rfl rfl (any_of HT_.out (by kernel_rfl)) (fun _ _ _ h => h) (Or.inl ⟨by rfl, ?_⟩) ?_ ?_
     rotate_left
     ·intro w'
      go_simp
      with_reducible rfl
     rotate_left
     ·simp only [Act.put, List.setIfInBounds_toArray, List.set_cons_zero, List.set_cons_succ, i64_w, i32_w]
      rfl
     refine pure_ (i := 5) (N := some 27) (v := ?_) (a' := ?_) #[true, true, true, false, true, true, false, false, false, false, false, false, false, false] rfl rfl (any_of HT_.out (by kernel_rfl)) (fun _ _ _ h => h) (Or.inl ⟨by rfl, ?_⟩) ?_ ?_
     rotate_left
     ·intro w'
      go_simp
      with_reducible rfl
     rotate_left
     ·simp only [Act.put, List.setIfInBounds_toArray, List.set_cons_zero, List.set_cons_succ, i64_w, i32_w]
      rfl
     refine pure_ (i := 6) (N := some 28) (v := ?_) (a' := ?_) #[true, true, true, false, true, true, true, false, false, false, false, false, false, false] rfl rfl (any_of HT_.out (by kernel_rfl)) (fun _ _ _ h => h) (Or.inl ⟨by rfl, ?_⟩) ?_ ?_
     rotate_left
     ·intro w'
      go_simp
      with_reducible rfl
     rotate_left
     ·simp only [Act.put, List.setIfInBounds_toArray, List.set_cons_zero, List.set_cons_succ, i64_w, i32_w]
      rfl
     refine pure_ (i := 9) (N := some 31) (v := ?_) (a' := ?_) #[true, true, true, false, true, true, true, false, false, true, false, false, false, false] rfl rfl (any_of HT_.out (by kernel_rfl)) (fun _ _ _ h => h) (Or.inl ⟨by rfl, ?_⟩) ?_ ?_
     rotate_left
     ·intro w'
      go_simp
      with_reducible rfl
     rotate_left
     ·simp only [Act.put, List.setIfInBounds_toArray, List.set_cons_zero, List.set_cons_succ, i64_w, i32_w]
      rfl
     refine pure_ (i := 10) (N := some 32) (v := ?_) (a' := ?_) #[true, true, true, false, true, true, true, false, false, true, true, false, false, false] rfl rfl (any_of HT_.out (by kernel_rfl)) (fun _ _ _ h => h) (Or.inl ⟨by rfl, ?_⟩) ?_ ?_
     rotate_left
     ·intro w'
      go_simp
      with_reducible rfl
     rotate_left
     ·simp only [Act.put, List.setIfInBounds_toArray, List.set_cons_zero, List.set_cons_succ, i64_w, i32_w]
      rfl
     refine take_ (i := 3) (N := some 25) (v := ?_) (a' := ?_) #[true, true, true, true, true, true, true, false, false, true, true, false, false, false] rfl rfl (take_ofW HT_.out HW_.out (by kernel_rfl)) (fun _ _ _ h => h) (Or.inl ⟨by rfl, ?_⟩) hHeld ?_ ?_
     rotate_left
     ·rintro w' ⟨s0, s1, s2, s3, s4, s5⟩
      go_simp
      with_reducible rfl
     rotate_left
     ·simp only [Act.put, List.setIfInBounds_toArray, List.set_cons_zero, List.set_cons_succ, i64_w, i32_w]
      rfl
     refine take_ (i := 8) (N := some 30) (v := ?_) (a' := ?_) #[true, true, true, true, true, true, true, false, true, true, true, false, false, false] rfl rfl (take_ofW HT_.out HW_.out (by kernel_rfl)) (fun _ _ _ h => h) (Or.inl ⟨by rfl, ?_⟩) hHeld ?_ ?_
     rotate_left
     ·rintro w' ⟨s0, s1, s2, s3, s4, s5⟩
      go_simp
      with_reducible rfl
     rotate_left
     ·simp only [Act.put, List.setIfInBounds_toArray, List.set_cons_zero, List.set_cons_succ, i64_w, i32_w]
      rfl
     refine one_ (i := 7) (N := some 29) #[true, true, true, true, true, true, true, true, true, true, true, false, false, false] rfl rfl (one_of HT_.out (by kernel_rfl)) (by decide) (fun K hK => ?_)
     refine goes_ Try.func127 (by kernel_rfl) rfl #[.agg #[.string a0_0, .int .i64 a0_1, .slice A0_2 l0_2.length c0_2, .int .i64 a0_3, .int .i64 a0_4, .int .i64 a0_5], .int .i64 (wrap64 (a1 + 1)), .int .i64 a2] (by rfl) rfl rfl (by (try simp only [List.map_toArray, List.map_cons, List.map_nil]); first | done | rfl | (simp only [List.length_drop, List.length_take]; rfl)) ?_
     with_reducible refine (base_Under.calls k a0_0 a0_1 _ _ l0_2 a0_3 a0_4 a0_5 (wrap64 (a1 + 1)) a2 t748 _ ?side1 ?side2 A16.out).mono ?_
     (case side1 => exact cb_ HR0_2 HB)
     (case side2 => exact HC0_2.out)
     rintro e w26 ⟨rfl, hb⟩; refine ⟨_, rfl, ?_⟩
     replace HO746 := A_ (Kd.R_below (ro_ HO746) hb); replace BK742 := A_ (blk_below (bx_ BK742) hb); replace HB := A_ (below_step (bl1_ HB GE742.out) hb)
     (try clear hb)
     (try clear hb2)
     (try clear hk)
     (try clear hi)
     refine hK.out _ _ ⟨(blk_cell BK742.out 0).trans rfl, (blk_cell BK742.out 1).trans rfl, (blk_cell BK742.out 2).trans rfl, (blk_cell BK742.out 3).trans rfl, (blk_cell BK742.out 4).trans rfl, (blk_cell BK742.out 5).trans rfl⟩ (fun hHeld => ?_)
     clear hK K; refine norm_ (a' := ?_) ?_ ?_
     rotate_left
     ·show Act.put _ (some 29) _ = _
      simp only [Act.put, List.setIfInBounds_toArray, List.set_cons_zero, List.set_cons_succ, i64_w, i32_w]
      rfl
     refine one_ (i := 11) (N := some 33) #[true, true, true, true, true, true, true, true, true, true, true, true, false, false] rfl rfl (one_of HT_.out (by kernel_rfl)) (by decide) (fun K hK => ?_)
     refine goes_ Try.func127 (by kernel_rfl) rfl #[.agg #[.string a0_0, .int .i64 a0_1, .slice A0_2 l0_2.length c0_2, .int .i64 a0_3, .int .i64 a0_4, .int .i64 a0_5], .int .i64 a1, .int .i64 a2] (by rfl) rfl rfl (by (try simp only [List.map_toArray, List.map_cons, List.map_nil]); first | done | rfl | (simp only [List.length_drop, List.length_take]; rfl)) ?_
     with_reducible refine (base_Under.calls k a0_0 a0_1 _ _ l0_2 a0_3 a0_4 a0_5 a1 a2 t749 _ ?side1 ?side2 A17.out).mono ?_
     (case side1 => exact cb_ HR0_2 HB)
     (case side2 => exact HC0_2.out)
     rintro e w27 ⟨rfl, hb⟩; refine ⟨_, rfl, ?_⟩
     replace HO746 := A_ (Kd.R_below (ro_ HO746) hb); replace BK742 := A_ (blk_below (bx_ BK742) hb); replace HB := A_ (below_step (bl1_ HB GE742.out) hb)
     (try clear hb)
     (try clear hb2)
     (try clear hk)
     (try clear hi)
     refine hK.out _ _ ⟨(blk_cell BK742.out 0).trans rfl, (blk_cell BK742.out 1).trans rfl, (blk_cell BK742.out 2).trans rfl, (blk_cell BK742.out 3).trans rfl, (blk_cell BK742.out 4).trans rfl, (blk_cell BK742.out 5).trans rfl⟩ (fun hHeld => ?_)
     clear hK K; refine norm_ (a' := ?_) ?_ ?_
     rotate_left
     ·show Act.put _ (some 33) _ = _
      simp only [Act.put, List.setIfInBounds_toArray, List.set_cons_zero, List.set_cons_succ, i64_w, i32_w]
      rfl
     refine pure_ (i := 12) (N := some 34) (v := ?_) (a' := ?_) #[true, true, true, true, true, true, true, true, true, true, true, true, true, false] rfl rfl (any_of HT_.out (by kernel_rfl)) (fun _ _ _ h => h) (Or.inl ⟨by rfl, ?_⟩) ?_ ?_
     rotate_left
     ·intro w'
      go_simp
      with_reducible rfl
     rotate_left
     ·simp only [Act.put, List.setIfInBounds_toArray, List.set_cons_zero, List.set_cons_succ, i64_w, i32_w]
      rfl
     refine pure_ (i := 13) (N := some 35) (v := ?_) (a' := ?_) #[true, true, true, true, true, true, true, true, true, true, true, true, true, true] rfl rfl (any_of HT_.out (by kernel_rfl)) (fun _ _ _ h => h) (Or.inl ⟨by rfl, ?_⟩) ?_ ?_
     rotate_left
     ·intro w'
      go_simp
      with_reducible rfl
     rotate_left
     ·simp only [Act.put, List.setIfInBounds_toArray, List.set_cons_zero, List.set_cons_succ, i64_w, i32_w]
      rfl
     refine done_ (done_of HT_.out (by kernel_rfl)) ?_
     try go_wp2
     go_ret3
     exact ⟨er_, bl1_ HB GE742.out⟩
    ·rw [if_neg c18] at H; have c18b0 : (t748 == t749) = false := beq_eq_false_iff_ne.mpr c18; have c18b1 : (t748 != t749) = true := bne_iff_ne.mpr c18; replace H := Option.bind_eq_some_iff.mp H; obtain ⟨t750, A280, H⟩ := H; (try dsimp only at H); have A28 := A_ A280; clear A280; by_cases c29 : 0 ≤ t750
     ·rw [if_pos c29] at H; have c29b0 := decide_eq_true c29; clear c29; by_cases c30 : t750 < (l0_2.length : Int)
      ·rw [if_pos c30] at H; have c30b0 := decide_eq_true c30; clear c30; simp only [Option.some.injEq, Prod.mk.injEq] at H; obtain ⟨rfl, rfl, rfl⟩ := H; go_enter Try.func124, Try.ntmps124
       try go_wp2_with (first | ((with_reducible refine gate_dst (N := 3) rfl ?_); refine be_ (N := 3) (cs := #[.string a0_0, .int .i64 a0_1, .slice A0_2 l0_2.length c0_2, .int .i64 a0_3, .int .i64 a0_4, .int .i64 a0_5]) (t := 120) ?_; intro gb742 hg w31 hbox hb; have BK742 := A_ (hbox); have GW742 := A_ ((by rw [hg]; exact (below_size (bl_ HB)) : w.heap.size ≤ gb742)); have GE742 := A_ ((by rw [hg]; exact (below_size (bl_ HB)) : w.heap.size ≤ gb742)); replace HB := A_ (below_step (bl_ HB) hb); clear hb hbox hg; have hcz32_0 := cz_ BK742 0; have hcz32_1 := cz_ BK742 1; have hcz32_2 := cz_ BK742 2; have hcz32_3 := cz_ BK742 3; have hcz32_4 := cz_ BK742 4; have hcz32_5 := cz_ BK742 5; have hfz32_0 := fz_ BK742 0; have hfz32_1 := fz_ BK742 1; have hfz32_2 := fz_ BK742 2; have hfz32_3 := fz_ BK742 3; have hfz32_4 := fz_ BK742 4; have hfz32_5 := fz_ BK742 5) | ((with_reducible refine gate_callee (f := 36) rfl ?_); refine gm_ (some 13) Try.func36 #[.slice A0_2 l0_2.length c0_2] ?_; (with_reducible refine (band_Check.calls _ _ l0_2 t743 _ ?side1 ?side2 A4.out).mono ?_); (case side1 => exact cb_ HR0_2 HB); (case side2 => exact HC0_2.out); rintro e w33 ⟨rfl, hb⟩; refine ⟨_, rfl, ?_⟩; replace BK742 := A_ (blk_below (bx_ BK742) hb); replace HB := A_ (below_step (bl1_ HB GE742.out) hb); (try clear hb); (try clear hb2); (try clear hk); (try clear hi)) | ((with_reducible refine gate_dst (N := 19) rfl ?_); refine Kd.R_lit (Kd.int .i64) _ 2 ?hg (N := 19) ?hd (xs := ([a1, a2] : List Int)) (inner := [.int .i64 a1, .int .i64 a2]) (ok := fun _ => True) (okp := fun _ => True) ?hr ?hp (fun _ hk => hk) trivial (Below.refl _ _) (Nat.le_refl _) (by simp) ?_; (case hd => rfl); (case hg => rfl); (case hr => first | (go_simp; done) | (go_simp; rfl)); (case hp => exact (Reps.one (show Kd.M (Kd.int .i64) _ _ _ a1 [.int .i64 a1] from rfl) (Reps.one (show Kd.M (Kd.int .i64) _ _ _ a2 [.int .i64 a2] from rfl) (Reps.none _ _)))); intro v745 w34 ho35 hb hg_ hnew_; clear hg_ hnew_; (first | rw [← Ny744.out] at ho35 | (simp only [Int.reduceToNat] at ho35; rw [← Ny744.out] at ho35)); have HO746 := A_ (Kd.R_lower ho35 (below_size (bl1_ HB GE742.out))); replace BK742 := A_ (blk_below (bx_ BK742) hb); replace HB := A_ (below_step (bl1_ HB GE742.out) hb); clear hb ho35; obtain ⟨Ao36, co36, eo36⟩ := Kd.R_slice HO746.out; subst eo36) | ((with_reducible refine gate_callee (f := 118) rfl ?_); refine gm_ (some 20) Try.func118 #[.slice Ao36 y744.length co36] ?_; (with_reducible refine (money_Right.calls k _ _ y744 true _ ?side1 ?side2 A6.out).mono ?_); (case side1 => repeat (first | exact (Kd.R_reads' HO746.out).2.2 | (with_reducible refine Kd.C_alloc ?_ _) | (with_reducible refine Kd.C_drewN ?_ _) | (with_reducible refine Kd.C_drew ?_))); (case side2 => exact (Kd.R_reads' HO746.out).2.1); rintro e w' ⟨rfl, ⟨nd, rfl⟩⟩; refine ⟨_, rfl, ?_⟩; (try (rw [drewN_self w34]; generalize hq_ : World.drewN w34 _ = w34; have n0_ : Aside0 (Kd.R (Kd.int .i64) 2 w34 w.heap.size (fun _ => True) (.slice Ao36 y744.length co36) y744) := ⟨by rw [← hq_]; exact (ro_ HO746)⟩; have n1_ : Aside0 (w34.heap[gb742]? = some (.cells #[.string a0_0, .int .i64 a0_1, .slice A0_2 l0_2.length c0_2, .int .i64 a0_3, .int .i64 a0_4, .int .i64 a0_5] 120 (0, 0))) := ⟨by rw [← hq_]; exact (bx_ BK742)⟩; have n2_ : Aside0 (Below w.heap.size w w34) := ⟨by rw [← hq_]; exact (bl1_ HB GE742.out)⟩; clear HO746 BK742 HB hq_; have HO746 := n0_; have BK742 := n1_; have HB := n2_; clear n0_ n1_ n2_))))
       replace HO746 := A_ (Kd.R_drew HO746.out); replace BK742 := A_ (blk_drew BK742.out); replace HB := A_ (below_drew1 HB.out); refine start_ (n := 14) (S := fun w' => w'.cell? ⟨gb742, 0, none⟩ = some (.string a0_0) ∧ w'.cell? ⟨gb742, 1, none⟩ = some (.int .i64 a0_1) ∧ w'.cell? ⟨gb742, 2, none⟩ = some (.slice A0_2 l0_2.length c0_2) ∧ w'.cell? ⟨gb742, 3, none⟩ = some (.int .i64 a0_3) ∧ w'.cell? ⟨gb742, 4, none⟩ = some (.int .i64 a0_4) ∧ w'.cell? ⟨gb742, 5, none⟩ = some (.int .i64 a0_5)) (ds := []) #[false, false, false, false, false, false, false, false, false, false, false, false, false, false] (by kernel_rfl) rfl rfl ⟨(blk_cell BK742.out 0).trans rfl, (blk_cell BK742.out 1).trans rfl, (blk_cell BK742.out 2).trans rfl, (blk_cell BK742.out 3).trans rfl, (blk_cell BK742.out 4).trans rfl, (blk_cell BK742.out 5).trans rfl⟩ (fun hHeld => ?_); refine with_tabW social_Rates.tab6 social_Rates.bits6 (fun HT_ HW_ => ?_)
       generalize w34.drew = w37 at HO746 BK742 HB hHeld ⊢; refine pure_ (i := 0) (N := some 22) (v := ?_) (a' := ?_) #[true, false, false, false, false, false, false, false, false, false, false, false, false, false] rfl rfl (any_of HT_.out (by kernel_rfl)) (fun _ _ _ h => h) (Or.inl ⟨by rfl, ?_⟩) ?_ ?_
       rotate_left
       ·intro w'
        go_simp
        with_reducible rfl
       rotate_left
       ·simp only [Act.put, List.setIfInBounds_toArray, List.set_cons_zero, List.set_cons_succ, i64_w, i32_w]
        rfl
       refine pure_ (i := 1) (N := some 23) (v := ?_) (a' := ?_) #[true, true, false, false, false, false, false, false, false, false, false, false, false, false] rfl rfl (any_of HT_.out (by kernel_rfl)) (fun _ _ _ h => h) (Or.inl ⟨by rfl, ?_⟩) ?_ ?_
       rotate_left
       ·intro w'
        go_simp
        with_reducible rfl
       rotate_left
       ·simp only [Act.put, List.setIfInBounds_toArray, List.set_cons_zero, List.set_cons_succ, i64_w, i32_w]
        rfl
       refine pure_ (i := 2) (N := some 24) (v := ?_) (a' := ?_) #[true, true, true, false, false, false, false, false, false, false, false, false, false, false] rfl rfl (any_of HT_.out (by kernel_rfl)) (fun _ _ _ h => h) (Or.inl ⟨by rfl, ?_⟩) ?_ ?_
       rotate_left
       ·intro w'
        go_simp
        with_reducible rfl
       rotate_left
       ·simp only [Act.put, List.setIfInBounds_toArray, List.set_cons_zero, List.set_cons_succ, i64_w, i32_w]
        rfl
       refine pure_ (i := 4) (N := some 26) (v := ?_) (a' := ?_) #[true, true, true, false, true, false, false, false, false, false, false, false, false, false] rfl rfl (any_of HT_.out (by kernel_rfl)) (fun _ _ _ h => h) (Or.inl ⟨by rfl, ?_⟩) ?_ ?_
       rotate_left
       ·intro w'
        go_simp
        with_reducible rfl
       rotate_left
       ·simp only [Act.put, List.setIfInBounds_toArray, List.set_cons_zero, List.set_cons_succ, i64_w, i32_w]
        rfl
       refine pure_ (i := 5) (N := some 27) (v := ?_) (a' := ?_) #[true, true, true, false, true, true, false, false, false, false, false, false, false, false] rfl rfl (any_of HT_.out (by kernel_rfl)) (fun _ _ _ h => h) (Or.inl ⟨by rfl, ?_⟩) ?_ ?_
       rotate_left
       ·intro w'
        go_simp
        with_reducible rfl
       rotate_left
       ·simp only [Act.put, List.setIfInBounds_toArray, List.set_cons_zero, List.set_cons_succ, i64_w, i32_w]
        rfl
       refine pure_ (i := 6) (N := some 28) (v := ?_) (a' := ?_) #[true, true, true, false, true, true, true, false, false, false, false, false, false, false] rfl rfl (any_of HT_.out (by kernel_rfl)) (fun _ _ _ h => h) (Or.inl ⟨by rfl, ?_⟩) ?_ ?_
       rotate_left
       ·intro w'
        go_simp
        with_reducible rfl
       rotate_left
       ·simp only [Act.put, List.setIfInBounds_toArray, List.set_cons_zero, List.set_cons_succ, i64_w, i32_w]
        rfl
       refine pure_ (i := 9) (N := some 31) (v := ?_) (a' := ?_) #[true, true, true, false, true, true, true, false, false, true, false, false, false, false] rfl rfl (any_of HT_.out (by kernel_rfl)) (fun _ _ _ h => h) (Or.inl ⟨by rfl, ?_⟩) ?_ ?_
       rotate_left
       ·intro w'
        go_simp
        with_reducible rfl
       rotate_left
       ·simp only [Act.put, List.setIfInBounds_toArray, List.set_cons_zero, List.set_cons_succ, i64_w, i32_w]
        rfl
       refine pure_ (i := 10) (N := some 32) (v := ?_) (a' := ?_) #[true, true, true, false, true, true, true, false, false, true, true, false, false, false] rfl rfl (any_of HT_.out (by kernel_rfl)) (fun _ _ _ h => h) (Or.inl ⟨by rfl, ?_⟩) ?_ ?_
       rotate_left
       ·intro w'
        go_simp
        with_reducible rfl
       rotate_left
       ·simp only [Act.put, List.setIfInBounds_toArray, List.set_cons_zero, List.set_cons_succ, i64_w, i32_w]
        rfl
       refine take_ (i := 3) (N := some 25) (v := ?_) (a' := ?_) #[true, true, true, true, true, true, true, false, false, true, true, false, false, false] rfl rfl (take_ofW HT_.out HW_.out (by kernel_rfl)) (fun _ _ _ h => h) (Or.inl ⟨by rfl, ?_⟩) hHeld ?_ ?_
       rotate_left
       ·rintro w' ⟨s0, s1, s2, s3, s4, s5⟩
        go_simp
        with_reducible rfl
       rotate_left
       ·simp only [Act.put, List.setIfInBounds_toArray, List.set_cons_zero, List.set_cons_succ, i64_w, i32_w]
        rfl
       refine take_ (i := 8) (N := some 30) (v := ?_) (a' := ?_) #[true, true, true, true, true, true, true, false, true, true, true, false, false, false] rfl rfl (take_ofW HT_.out HW_.out (by kernel_rfl)) (fun _ _ _ h => h) (Or.inl ⟨by rfl, ?_⟩) hHeld ?_ ?_
       rotate_left
       ·rintro w' ⟨s0, s1, s2, s3, s4, s5⟩
        go_simp
        with_reducible rfl
       rotate_left
       ·simp only [Act.put, List.setIfInBounds_toArray, List.set_cons_zero, List.set_cons_succ, i64_w, i32_w]
        rfl
       refine one_ (i := 7) (N := some 29) #[true, true, true, true, true, true, true, true, true, true, true, false, false, false] rfl rfl (one_of HT_.out (by kernel_rfl)) (by decide) (fun K hK => ?_)
       refine goes_ Try.func127 (by kernel_rfl) rfl #[.agg #[.string a0_0, .int .i64 a0_1, .slice A0_2 l0_2.length c0_2, .int .i64 a0_3, .int .i64 a0_4, .int .i64 a0_5], .int .i64 (wrap64 (a1 + 1)), .int .i64 a2] (by rfl) rfl rfl (by (try simp only [List.map_toArray, List.map_cons, List.map_nil]); first | done | rfl | (simp only [List.length_drop, List.length_take]; rfl)) ?_
       with_reducible refine (base_Under.calls k a0_0 a0_1 _ _ l0_2 a0_3 a0_4 a0_5 (wrap64 (a1 + 1)) a2 t748 _ ?side1 ?side2 A16.out).mono ?_
       (case side1 => exact cb_ HR0_2 HB)
       (case side2 => exact HC0_2.out)
       rintro e w38 ⟨rfl, hb⟩; refine ⟨_, rfl, ?_⟩
       replace HO746 := A_ (Kd.R_below (ro_ HO746) hb); replace BK742 := A_ (blk_below (bx_ BK742) hb); replace HB := A_ (below_step (bl1_ HB GE742.out) hb)
       (try clear hb)
       (try clear hb2)
       (try clear hk)
       (try clear hi)
       refine hK.out _ _ ⟨(blk_cell BK742.out 0).trans rfl, (blk_cell BK742.out 1).trans rfl, (blk_cell BK742.out 2).trans rfl, (blk_cell BK742.out 3).trans rfl, (blk_cell BK742.out 4).trans rfl, (blk_cell BK742.out 5).trans rfl⟩ (fun hHeld => ?_)
       clear hK K; refine norm_ (a' := ?_) ?_ ?_
       rotate_left
       ·show Act.put _ (some 29) _ = _
        simp only [Act.put, List.setIfInBounds_toArray, List.set_cons_zero, List.set_cons_succ, i64_w, i32_w]
        rfl
       refine one_ (i := 11) (N := some 33) #[true, true, true, true, true, true, true, true, true, true, true, true, false, false] rfl rfl (one_of HT_.out (by kernel_rfl)) (by decide) (fun K hK => ?_)
       refine goes_ Try.func127 (by kernel_rfl) rfl #[.agg #[.string a0_0, .int .i64 a0_1, .slice A0_2 l0_2.length c0_2, .int .i64 a0_3, .int .i64 a0_4, .int .i64 a0_5], .int .i64 a1, .int .i64 a2] (by rfl) rfl rfl (by (try simp only [List.map_toArray, List.map_cons, List.map_nil]); first | done | rfl | (simp only [List.length_drop, List.length_take]; rfl)) ?_
       with_reducible refine (base_Under.calls k a0_0 a0_1 _ _ l0_2 a0_3 a0_4 a0_5 a1 a2 t749 _ ?side1 ?side2 A17.out).mono ?_
       (case side1 => exact cb_ HR0_2 HB)
       (case side2 => exact HC0_2.out)
       rintro e w39 ⟨rfl, hb⟩; refine ⟨_, rfl, ?_⟩
       replace HO746 := A_ (Kd.R_below (ro_ HO746) hb); replace BK742 := A_ (blk_below (bx_ BK742) hb); replace HB := A_ (below_step (bl1_ HB GE742.out) hb)
       (try clear hb)
       (try clear hb2)
       (try clear hk)
       (try clear hi)
       refine hK.out _ _ ⟨(blk_cell BK742.out 0).trans rfl, (blk_cell BK742.out 1).trans rfl, (blk_cell BK742.out 2).trans rfl, (blk_cell BK742.out 3).trans rfl, (blk_cell BK742.out 4).trans rfl, (blk_cell BK742.out 5).trans rfl⟩ (fun hHeld => ?_)
       clear hK K; refine norm_ (a' := ?_) ?_ ?_
       rotate_left
       ·show Act.put _ (some 33) _ = _
        simp only [Act.put, List.setIfInBounds_toArray, List.set_cons_zero, List.set_cons_succ, i64_w, i32_w]
        rfl
       refine pure_ (i := 12) (N := some 34) (v := ?_) (a' := ?_) #[true, true, true, true, true, true, true, true, true, true, true, true, true, false] rfl rfl (any_of HT_.out (by kernel_rfl)) (fun _ _ _ h => h) (Or.inl ⟨by rfl, ?_⟩) ?_ ?_
       rotate_left
       ·intro w'
        go_simp
        with_reducible rfl
       rotate_left
       ·simp only [Act.put, List.setIfInBounds_toArray, List.set_cons_zero, List.set_cons_succ, i64_w, i32_w]
        rfl
       refine pure_ (i := 13) (N := some 35) (v := ?_) (a' := ?_) #[true, true, true, true, true, true, true, true, true, true, true, true, true, true] rfl rfl (any_of HT_.out (by kernel_rfl)) (fun _ _ _ h => h) (Or.inl ⟨by rfl, ?_⟩) ?_ ?_
       rotate_left
       ·intro w'
        go_simp
        with_reducible rfl
       rotate_left
       ·simp only [Act.put, List.setIfInBounds_toArray, List.set_cons_zero, List.set_cons_succ, i64_w, i32_w]
        rfl
       refine done_ (done_of HT_.out (by kernel_rfl)) ?_
       try go_wp2
       replace HO746 := A_ (Kd.R_drew HO746.out); replace BK742 := A_ (blk_drew BK742.out); replace HB := A_ (below_drew1 HB.out); have p751 : 0 ≤ (t750 : Int) := od_; have q751 : t750 < (l0_2.length : Int) := od_; obtain ⟨ad751, e751, hx751_0, hx751_1, hx751_2⟩ := at_T106 HR0_2.out t750 p751 q751; have hw751_2 := hx751_2; have hw751_1 := hx751_1; have hw751_0 := hx751_0; cases e751; replace hx751_0 := (HB.out.cell (World.block_lt_of_cell? w _ hx751_0)).trans hx751_0; replace hx751_1 := (HB.out.cell (World.block_lt_of_cell? w _ hx751_1)).trans hx751_1; replace hx751_2 := (HB.out.cell (World.block_lt_of_cell? w _ hx751_2)).trans hx751_2; replace p751 := eq_true p751; replace q751 := eq_true q751; refine start_ (n := 11) (S := fun w' => w'.cell? ⟨gb742, 0, none⟩ = some (.string a0_0) ∧ w'.cell? ⟨gb742, 1, none⟩ = some (.int .i64 a0_1) ∧ w'.cell? ⟨gb742, 2, none⟩ = some (.slice (some ad751) l0_2.length c0_2) ∧ w'.cell? ⟨gb742, 3, none⟩ = some (.int .i64 a0_3) ∧ w'.cell? ⟨gb742, 4, none⟩ = some (.int .i64 a0_4) ∧ w'.cell? ⟨gb742, 5, none⟩ = some (.int .i64 a0_5) ∧ w'.cell? (ad751.add ((t750).toNat * 3)) = some (.int .i64 ((rd_T106 l0_2 t750).f0)) ∧ w'.cell? ⟨(ad751.add ((t750).toNat * 3)).block, (ad751.add ((t750).toNat * 3)).off + 1, none⟩ = some (.int .i64 ((rd_T106 l0_2 t750).f1)) ∧ w'.cell? ⟨(ad751.add ((t750).toNat * 3)).block, (ad751.add ((t750).toNat * 3)).off + 2, none⟩ = some (.int .i64 ((rd_T106 l0_2 t750).f2))) (ds := []) #[false, false, false, false, false, false, false, false, false, false, false] (by kernel_rfl) rfl rfl ⟨(blk_cell BK742.out 0).trans rfl, (blk_cell BK742.out 1).trans rfl, (blk_cell BK742.out 2).trans rfl, (blk_cell BK742.out 3).trans rfl, (blk_cell BK742.out 4).trans rfl, (blk_cell BK742.out 5).trans rfl, ((HB.out.cell (World.block_lt_of_cell? w _ hw751_0)).trans hw751_0), ((HB.out.cell (World.block_lt_of_cell? w _ hw751_1)).trans hw751_1), ((HB.out.cell (World.block_lt_of_cell? w _ hw751_2)).trans hw751_2)⟩ (fun hHeld => ?_); refine with_tabW social_Rates.tab8 social_Rates.bits8 (fun HT_ HW_ => ?_)
       generalize w39.drew = w40 at HO746 BK742 HB hx751_0 hx751_1 hx751_2 hHeld ⊢; refine pure_ (i := 0) (N := some 36) (v := ?_) (a' := ?_) #[true, false, false, false, false, false, false, false, false, false, false] rfl rfl (any_of HT_.out (by kernel_rfl)) (fun _ _ _ h => h) (Or.inl ⟨by rfl, ?_⟩) ?_ ?_
       rotate_left
       ·intro w'
        go_simp
        with_reducible rfl
       rotate_left
       ·simp only [Act.put, List.setIfInBounds_toArray, List.set_cons_zero, List.set_cons_succ, i64_w, i32_w]
        rfl
       refine pure_ (i := 2) (N := some 38) (v := ?_) (a' := ?_) #[true, false, true, false, false, false, false, false, false, false, false] rfl rfl (any_of HT_.out (by kernel_rfl)) (fun _ _ _ h => h) (Or.inl ⟨by rfl, ?_⟩) ?_ ?_
       rotate_left
       ·intro w'
        go_simp
        with_reducible rfl
       rotate_left
       ·simp only [Act.put, List.setIfInBounds_toArray, List.set_cons_zero, List.set_cons_succ, i64_w, i32_w]
        rfl
       refine pure_ (i := 3) (N := some 39) (v := ?_) (a' := ?_) #[true, false, true, true, false, false, false, false, false, false, false] rfl rfl (any_of HT_.out (by kernel_rfl)) (fun _ _ _ h => h) (Or.inl ⟨by rfl, ?_⟩) ?_ ?_
       rotate_left
       ·intro w'
        go_simp
        with_reducible rfl
       rotate_left
       ·simp only [Act.put, List.setIfInBounds_toArray, List.set_cons_zero, List.set_cons_succ, i64_w, i32_w]
        rfl
       refine pure_ (i := 4) (N := some 40) (v := ?_) (a' := ?_) #[true, false, true, true, true, false, false, false, false, false, false] rfl rfl (any_of HT_.out (by kernel_rfl)) (fun _ _ _ h => h) (Or.inl ⟨by rfl, ?_⟩) ?_ ?_
       rotate_left
       ·intro w'
        go_simp
        with_reducible rfl
       rotate_left
       ·simp only [Act.put, List.setIfInBounds_toArray, List.set_cons_zero, List.set_cons_succ, i64_w, i32_w]
        rfl
       refine take_ (i := 1) (N := some 37) (v := ?_) (a' := ?_) #[true, true, true, true, true, false, false, false, false, false, false] rfl rfl (take_ofW HT_.out HW_.out (by kernel_rfl)) (fun _ _ _ h => h) (Or.inl ⟨by rfl, ?_⟩) hHeld ?_ ?_
       rotate_left
       ·rintro w' ⟨s0, s1, s2, s3, s4, s5, s6, s7, s8⟩
        go_simp
        with_reducible rfl
       rotate_left
       ·simp only [Act.put, List.setIfInBounds_toArray, List.set_cons_zero, List.set_cons_succ, i64_w, i32_w]
        rfl
       refine take_ (i := 5) (N := some 41) (v := ?_) (a' := ?_) #[true, true, true, true, true, true, false, false, false, false, false] rfl rfl (take_ofW HT_.out HW_.out (by kernel_rfl)) (fun _ _ _ h => h) (Or.inl ⟨by rfl, ?_⟩) hHeld ?_ ?_
       rotate_left
       ·rintro w' ⟨s0, s1, s2, s3, s4, s5, s6, s7, s8⟩
        go_simp
        with_reducible rfl
       rotate_left
       ·simp only [Act.put, List.setIfInBounds_toArray, List.set_cons_zero, List.set_cons_succ, i64_w, i32_w]
        rfl
       refine join_ (σ := Nat) 1 #[true, true, true, true, true, true, true, true, true, true, false] (fun s_ => [(42, .int .i64 t750), (10, .pointer (some ⟨s_, 0, none⟩)), (43, .pointer (some (ad751.add ((t750).toNat * 3)))), (44, .agg #[.int .i64 ((rd_T106 l0_2 t750).f0), .int .i64 ((rd_T106 l0_2 t750).f1), .int .i64 ((rd_T106 l0_2 t750).f2)])]) (fun s_ w' => (w'.cell? ⟨gb742, 0, none⟩ = some (.string a0_0) ∧ w'.cell? ⟨gb742, 1, none⟩ = some (.int .i64 a0_1) ∧ w'.cell? ⟨gb742, 2, none⟩ = some (.slice (some ad751) l0_2.length c0_2) ∧ w'.cell? ⟨gb742, 3, none⟩ = some (.int .i64 a0_3) ∧ w'.cell? ⟨gb742, 4, none⟩ = some (.int .i64 a0_4) ∧ w'.cell? ⟨gb742, 5, none⟩ = some (.int .i64 a0_5) ∧ w'.cell? (ad751.add ((t750).toNat * 3)) = some (.int .i64 ((rd_T106 l0_2 t750).f0)) ∧ w'.cell? ⟨(ad751.add ((t750).toNat * 3)).block, (ad751.add ((t750).toNat * 3)).off + 1, none⟩ = some (.int .i64 ((rd_T106 l0_2 t750).f1)) ∧ w'.cell? ⟨(ad751.add ((t750).toNat * 3)).block, (ad751.add ((t750).toNat * 3)).off + 2, none⟩ = some (.int .i64 ((rd_T106 l0_2 t750).f2))) ∧ (Kd.R (Kd.int .i64) 2 w' w.heap.size (fun _ => True) (.slice Ao36 y744.length co36) y744) ∧ (w'.heap[gb742]? = some (.cells #[.string a0_0, .int .i64 a0_1, .slice (some ad751) l0_2.length c0_2, .int .i64 a0_3, .int .i64 a0_4, .int .i64 a0_5] 120 (0, 0))) ∧ (w'.heap[s_]? = some (.cells #[.int .i64 0, .int .i64 0, .int .i64 0] 106 (0, 0))) ∧ (w.heap.size ≤ s_) ∧ (w.heap.size ≤ s_) ∧ (gb742 ≠ s_) ∧ (s_ ≠ gb742) ∧ (Below w.heap.size w w')) ?_ ?_
       rotate_left
       ·intro hCont; refine two_ (i := 6) (j := 9) (Ni := some 42) (Nj := some 10) #[true, true, true, true, true, true, true, false, false, false, false] #[true, true, true, true, true, true, false, false, false, true, false] rfl rfl rfl rfl (two_of HT_.out (by kernel_rfl)) (by decide) (by decide) (fun K hK => ?_) (fun K hK => ?_)
        ·skip
         refine goes_ Try.func58 (by kernel_rfl) rfl #[.int .i64 (wrap64 (a1 + 1)), .slice (some ad751) l0_2.length c0_2] (by rfl) rfl rfl (by (try simp only [List.map_toArray, List.map_cons, List.map_nil]); first | done | rfl | (simp only [List.length_drop, List.length_take]; rfl)) ?_
         with_reducible refine (band_Find.calls k (wrap64 (a1 + 1)) _ _ l0_2 t750 _ ?side1 ?side2 A28.out).mono ?_
         (case side1 => exact cb_ HR0_2 HB)
         (case side2 => exact HC0_2.out)
         rintro e w' ⟨rfl, ⟨nd, rfl⟩⟩; refine ⟨_, rfl, ?_⟩
         refine hK.out _ _ ⟨(blk_cell BK742.out 0).trans rfl, (blk_cell BK742.out 1).trans rfl, (blk_cell BK742.out 2).trans rfl, (blk_cell BK742.out 3).trans rfl, (blk_cell BK742.out 4).trans rfl, (blk_cell BK742.out 5).trans rfl, ((HB.out.cell (World.block_lt_of_cell? w _ hw751_0)).trans hw751_0), ((HB.out.cell (World.block_lt_of_cell? w _ hw751_1)).trans hw751_1), ((HB.out.cell (World.block_lt_of_cell? w _ hw751_2)).trans hw751_2)⟩ (fun hHeld => ?_)
         clear hK K; refine norm_ (a' := ?_) ?_ ?_
         rotate_left
         ·show Act.put _ (some 42) _ = _
          simp only [Act.put, List.setIfInBounds_toArray, List.set_cons_zero, List.set_cons_succ, i64_w, i32_w]
          rfl
         refine pure_ (i := 7) (N := some 43) (v := ?_) (a' := ?_) #[true, true, true, true, true, true, true, true, false, false, false] rfl rfl (any_of HT_.out (by kernel_rfl)) (fun _ _ _ h => h) (Or.inl ⟨by rfl, ?_⟩) ?_ ?_
         rotate_left
         ·intro w'
          go_simp
          with_reducible rfl
         rotate_left
         ·simp only [Act.put, List.setIfInBounds_toArray, List.set_cons_zero, List.set_cons_succ, i64_w, i32_w]
          rfl
         refine take_ (i := 8) (N := some 44) (v := ?_) (a' := ?_) #[true, true, true, true, true, true, true, true, true, false, false] rfl rfl (take_ofW HT_.out HW_.out (by kernel_rfl)) (fun _ _ _ h => h) (Or.inl ⟨by rfl, ?_⟩) hHeld ?_ ?_
         rotate_left
         ·rintro w' ⟨s0, s1, s2, s3, s4, s5, s6, s7, s8⟩
          go_simp
          with_reducible rfl
         rotate_left
         ·simp only [Act.put, List.setIfInBounds_toArray, List.set_cons_zero, List.set_cons_succ, i64_w, i32_w]
          rfl
         refine one_ (i := 9) (N := some 10) #[true, true, true, true, true, true, true, true, true, true, false] rfl rfl (one_of HT_.out (by kernel_rfl)) (by decide) (fun K hK => ?_)
         refine box_step ?hg (N := 10) ?hd (cs := #[.int .i64 0, .int .i64 0, .int .i64 0]) (t := 106) ?hr ?_; (case hd => rfl); (case hg => rfl); (case hr => first | (go_simp; done) | (go_simp; rfl))
         intro gb752 hg w41 hbox hb; have BK752 := A_ (hbox); have GW752 := A_ ((by rw [hg]; exact (below_size (bl1_ HB GE742.out)) : w.heap.size ≤ gb752)); have GE752 := A_ ((by rw [hg]; exact (below_size (bl1_ HB GE742.out)) : w.heap.size ≤ gb752)); have NB742_752 := A_ ((by rw [hg]; exact Nat.ne_of_lt (blk_lt (bx_ BK742)) : gb742 ≠ gb752)); have NB752_742 := A_ ((by rw [hg]; exact Nat.ne_of_gt (blk_lt (bx_ BK742)) : gb752 ≠ gb742)); replace HO746 := A_ (Kd.R_below (ro_ HO746) hb); replace BK742 := A_ (blk_below (bx_ BK742) hb); replace HB := A_ (below_step (bl1_ HB GE742.out) hb); clear hb hbox hg; refine hK.out _ _ ⟨(blk_cell BK742.out 0).trans rfl, (blk_cell BK742.out 1).trans rfl, (blk_cell BK742.out 2).trans rfl, (blk_cell BK742.out 3).trans rfl, (blk_cell BK742.out 4).trans rfl, (blk_cell BK742.out 5).trans rfl, ((HB.out.cell (World.block_lt_of_cell? w _ hw751_0)).trans hw751_0), ((HB.out.cell (World.block_lt_of_cell? w _ hw751_1)).trans hw751_1), ((HB.out.cell (World.block_lt_of_cell? w _ hw751_2)).trans hw751_2)⟩ (fun hHeld => ?_)
         clear hK K; refine norm_ (a' := ?_) ?_ ?_
         rotate_left
         ·show Act.put _ (some 10) _ = _
          simp only [Act.put, List.setIfInBounds_toArray, List.set_cons_zero, List.set_cons_succ, i64_w, i32_w]
          rfl
         exact norm_ (by simp only [putAll, Act.put, List.setIfInBounds_toArray, List.set_cons_zero, List.set_cons_succ]) (hCont (gb752) _ ⟨hHeld, (ro_ HO746), (bx_ BK742), (bx_ BK752), GW752.out, GE752.out, NB742_752.out, NB752_742.out, (bl2_ HB GE742.out GE752.out)⟩)
        ·skip
         refine box_step ?hg (N := 10) ?hd (cs := #[.int .i64 0, .int .i64 0, .int .i64 0]) (t := 106) ?hr ?_; (case hd => rfl); (case hg => rfl); (case hr => first | (go_simp; done) | (go_simp; rfl))
         intro gb752 hg w41 hbox hb; have BK752 := A_ (hbox); have GW752 := A_ ((by rw [hg]; exact (below_size (bl1_ HB GE742.out)) : w.heap.size ≤ gb752)); have GE752 := A_ ((by rw [hg]; exact (below_size (bl1_ HB GE742.out)) : w.heap.size ≤ gb752)); have NB742_752 := A_ ((by rw [hg]; exact Nat.ne_of_lt (blk_lt (bx_ BK742)) : gb742 ≠ gb752)); have NB752_742 := A_ ((by rw [hg]; exact Nat.ne_of_gt (blk_lt (bx_ BK742)) : gb752 ≠ gb742)); replace HO746 := A_ (Kd.R_below (ro_ HO746) hb); replace BK742 := A_ (blk_below (bx_ BK742) hb); replace HB := A_ (below_step (bl1_ HB GE742.out) hb); clear hb hbox hg; refine hK.out _ _ ⟨(blk_cell BK742.out 0).trans rfl, (blk_cell BK742.out 1).trans rfl, (blk_cell BK742.out 2).trans rfl, (blk_cell BK742.out 3).trans rfl, (blk_cell BK742.out 4).trans rfl, (blk_cell BK742.out 5).trans rfl, ((HB.out.cell (World.block_lt_of_cell? w _ hw751_0)).trans hw751_0), ((HB.out.cell (World.block_lt_of_cell? w _ hw751_1)).trans hw751_1), ((HB.out.cell (World.block_lt_of_cell? w _ hw751_2)).trans hw751_2)⟩ (fun hHeld => ?_)
         clear hK K; refine norm_ (a' := ?_) ?_ ?_
         rotate_left
         ·show Act.put _ (some 10) _ = _
          simp only [Act.put, List.setIfInBounds_toArray, List.set_cons_zero, List.set_cons_succ, i64_w, i32_w]
          rfl
         refine one_ (i := 6) (N := some 42) #[true, true, true, true, true, true, true, false, false, true, false] rfl rfl (one_of HT_.out (by kernel_rfl)) (by decide) (fun K hK => ?_)
         refine goes_ Try.func58 (by kernel_rfl) rfl #[.int .i64 (wrap64 (a1 + 1)), .slice (some ad751) l0_2.length c0_2] (by rfl) rfl rfl (by (try simp only [List.map_toArray, List.map_cons, List.map_nil]); first | done | rfl | (simp only [List.length_drop, List.length_take]; rfl)) ?_
         with_reducible refine (band_Find.calls k (wrap64 (a1 + 1)) _ _ l0_2 t750 _ ?side1 ?side2 A28.out).mono ?_
         (case side1 => exact cb_ HR0_2 HB)
         (case side2 => exact HC0_2.out)
         rintro e w' ⟨rfl, ⟨nd, rfl⟩⟩; refine ⟨_, rfl, ?_⟩
         refine hK.out _ _ ⟨(blk_cell BK742.out 0).trans rfl, (blk_cell BK742.out 1).trans rfl, (blk_cell BK742.out 2).trans rfl, (blk_cell BK742.out 3).trans rfl, (blk_cell BK742.out 4).trans rfl, (blk_cell BK742.out 5).trans rfl, ((HB.out.cell (World.block_lt_of_cell? w _ hw751_0)).trans hw751_0), ((HB.out.cell (World.block_lt_of_cell? w _ hw751_1)).trans hw751_1), ((HB.out.cell (World.block_lt_of_cell? w _ hw751_2)).trans hw751_2)⟩ (fun hHeld => ?_)
         clear hK K; refine norm_ (a' := ?_) ?_ ?_
         rotate_left
         ·show Act.put _ (some 42) _ = _
          simp only [Act.put, List.setIfInBounds_toArray, List.set_cons_zero, List.set_cons_succ, i64_w, i32_w]
          rfl
         refine pure_ (i := 7) (N := some 43) (v := ?_) (a' := ?_) #[true, true, true, true, true, true, true, true, false, true, false] rfl rfl (any_of HT_.out (by kernel_rfl)) (fun _ _ _ h => h) (Or.inl ⟨by rfl, ?_⟩) ?_ ?_
         rotate_left
         ·intro w'
          go_simp
          with_reducible rfl
         rotate_left
         ·simp only [Act.put, List.setIfInBounds_toArray, List.set_cons_zero, List.set_cons_succ, i64_w, i32_w]
          rfl
         refine take_ (i := 8) (N := some 44) (v := ?_) (a' := ?_) #[true, true, true, true, true, true, true, true, true, true, false] rfl rfl (take_ofW HT_.out HW_.out (by kernel_rfl)) (fun _ _ _ h => h) (Or.inl ⟨by rfl, ?_⟩) hHeld ?_ ?_
         rotate_left
         ·rintro w' ⟨s0, s1, s2, s3, s4, s5, s6, s7, s8⟩
          go_simp
          with_reducible rfl
         rotate_left
         ·simp only [Act.put, List.setIfInBounds_toArray, List.set_cons_zero, List.set_cons_succ, i64_w, i32_w]
          rfl
         exact norm_ (by simp only [putAll, Act.put, List.setIfInBounds_toArray, List.set_cons_zero, List.set_cons_succ]) (hCont (gb752) _ ⟨hHeld, (ro_ HO746), (bx_ BK742), (bx_ BK752), GW752.out, GE752.out, NB742_752.out, NB752_742.out, (bl2_ HB GE742.out GE752.out)⟩)
       rintro gb752 w42 ⟨hS_, h0_, h1_, h2_, h3_, h4_, h5_, h6_, h7_⟩; have n0_ : Aside0 (Kd.R (Kd.int .i64) 2 w42 w.heap.size (fun _ => True) (.slice Ao36 y744.length co36) y744) := ⟨h0_⟩; have n1_ : Aside0 (w42.heap[gb742]? = some (.cells #[.string a0_0, .int .i64 a0_1, .slice (some ad751) l0_2.length c0_2, .int .i64 a0_3, .int .i64 a0_4, .int .i64 a0_5] 120 (0, 0))) := ⟨h1_⟩; have n2_ : Aside0 (w42.heap[gb752]? = some (.cells #[.int .i64 0, .int .i64 0, .int .i64 0] 106 (0, 0))) := ⟨h2_⟩; have n3_ : Aside0 (w.heap.size ≤ gb752) := ⟨h3_⟩; have n4_ : Aside0 (w.heap.size ≤ gb752) := ⟨h4_⟩; have n5_ : Aside0 (gb742 ≠ gb752) := ⟨h5_⟩; have n6_ : Aside0 (gb752 ≠ gb742) := ⟨h6_⟩; have n7_ : Aside0 (Below w.heap.size w w42) := ⟨h7_⟩; clear HO746; clear BK742; clear HB; clear h0_ h1_ h2_ h3_ h4_ h5_ h6_ h7_; have HO746 := n0_; have BK742 := n1_; have BK752 := n2_; have GW752 := n3_; have GE752 := n4_; have NB742_752 := n5_; have NB752_742 := n6_; have HB := n7_; clear n0_ n1_ n2_ n3_ n4_ n5_ n6_ n7_; have hHeld : w42.cell? ⟨gb742, 0, none⟩ = some (.string a0_0) ∧ w42.cell? ⟨gb742, 1, none⟩ = some (.int .i64 a0_1) ∧ w42.cell? ⟨gb742, 2, none⟩ = some (.slice (some ad751) l0_2.length c0_2) ∧ w42.cell? ⟨gb742, 3, none⟩ = some (.int .i64 a0_3) ∧ w42.cell? ⟨gb742, 4, none⟩ = some (.int .i64 a0_4) ∧ w42.cell? ⟨gb742, 5, none⟩ = some (.int .i64 a0_5) ∧ w42.cell? (ad751.add ((t750).toNat * 3)) = some (.int .i64 ((rd_T106 l0_2 t750).f0)) ∧ w42.cell? ⟨(ad751.add ((t750).toNat * 3)).block, (ad751.add ((t750).toNat * 3)).off + 1, none⟩ = some (.int .i64 ((rd_T106 l0_2 t750).f1)) ∧ w42.cell? ⟨(ad751.add ((t750).toNat * 3)).block, (ad751.add ((t750).toNat * 3)).off + 2, none⟩ = some (.int .i64 ((rd_T106 l0_2 t750).f2)) := hS_; refine norm_ (a' := ?_) ?_ ?_
       rotate_left
       ·simp only [putAll, Act.put, List.setIfInBounds_toArray, List.set_cons_zero, List.set_cons_succ]
        rfl
       refine one_ (i := 10) (N := none) #[true, true, true, true, true, true, true, true, true, true, true] rfl rfl (one_of HT_.out (by kernel_rfl)) (by decide) (fun K hK => ?_)
       have hs43 : w42.cell? ⟨gb752, 0, none⟩ = some (.int .i64 0) := (blk_cell BK752.out 0).trans rfl; have hfs43 := fz_ BK752 0; have hns43_0 := NB742_752.out; have hms43_0 := NB752_742.out; have hs44 : w42.cell? ⟨gb752, 1, none⟩ = some (.int .i64 0) := (blk_cell BK752.out 1).trans rfl; have hfs44 := fz_ BK752 1; have hns44_0 := NB742_752.out; have hms44_0 := NB752_742.out; have hs45 : w42.cell? ⟨gb752, 2, none⟩ = some (.int .i64 0) := (blk_cell BK752.out 2).trans rfl; have hfs45 := fz_ BK752 2; have hns45_0 := NB742_752.out; have hms45_0 := NB752_742.out; refine skip_ (w1 := ?_) (by rfl) rfl ?_ ?_
       rotate_left
       ·go_simp
        rfl
       refine hK.out _ _ ⟨((cell_far (p := ⟨gb752, _, none⟩) NB742_752.out _).trans (((cell_far (p := ⟨gb752, _, none⟩) NB742_752.out _).trans (((cell_far (p := ⟨gb752, _, none⟩) NB742_752.out _).trans (hHeld.1)))))), ((cell_far (p := ⟨gb752, _, none⟩) NB742_752.out _).trans (((cell_far (p := ⟨gb752, _, none⟩) NB742_752.out _).trans (((cell_far (p := ⟨gb752, _, none⟩) NB742_752.out _).trans (hHeld.2.1)))))), ((cell_far (p := ⟨gb752, _, none⟩) NB742_752.out _).trans (((cell_far (p := ⟨gb752, _, none⟩) NB742_752.out _).trans (((cell_far (p := ⟨gb752, _, none⟩) NB742_752.out _).trans (hHeld.2.2.1)))))), ((cell_far (p := ⟨gb752, _, none⟩) NB742_752.out _).trans (((cell_far (p := ⟨gb752, _, none⟩) NB742_752.out _).trans (((cell_far (p := ⟨gb752, _, none⟩) NB742_752.out _).trans (hHeld.2.2.2.1)))))), ((cell_far (p := ⟨gb752, _, none⟩) NB742_752.out _).trans (((cell_far (p := ⟨gb752, _, none⟩) NB742_752.out _).trans (((cell_far (p := ⟨gb752, _, none⟩) NB742_752.out _).trans (hHeld.2.2.2.2.1)))))), ((cell_far (p := ⟨gb752, _, none⟩) NB742_752.out _).trans (((cell_far (p := ⟨gb752, _, none⟩) NB742_752.out _).trans (((cell_far (p := ⟨gb752, _, none⟩) NB742_752.out _).trans (hHeld.2.2.2.2.2.1)))))), ((cell_far (p := ⟨gb752, _, none⟩) (by first | exact Nat.ne_of_lt (Nat.lt_of_lt_of_le (by have := World.block_lt_of_cell? _ _ hw751_0; first | rwa [add_block] at this | exact this) GW752.out) | (rw [add_block]; exact Nat.ne_of_lt (Nat.lt_of_lt_of_le (by have := World.block_lt_of_cell? _ _ hw751_0; first | rwa [add_block] at this | exact this) GW752.out)) | (show (Addr.add _ _).block ≠ _; rw [add_block]; exact Nat.ne_of_lt (Nat.lt_of_lt_of_le (by have := World.block_lt_of_cell? _ _ hw751_0; first | rwa [add_block] at this | exact this) GW752.out)) | (dsimp only; exact Nat.ne_of_lt (Nat.lt_of_lt_of_le (by have := World.block_lt_of_cell? _ _ hw751_0; first | rwa [add_block] at this | exact this) GW752.out))) _).trans (((cell_far (p := ⟨gb752, _, none⟩) (by first | exact Nat.ne_of_lt (Nat.lt_of_lt_of_le (by have := World.block_lt_of_cell? _ _ hw751_0; first | rwa [add_block] at this | exact this) GW752.out) | (rw [add_block]; exact Nat.ne_of_lt (Nat.lt_of_lt_of_le (by have := World.block_lt_of_cell? _ _ hw751_0; first | rwa [add_block] at this | exact this) GW752.out)) | (show (Addr.add _ _).block ≠ _; rw [add_block]; exact Nat.ne_of_lt (Nat.lt_of_lt_of_le (by have := World.block_lt_of_cell? _ _ hw751_0; first | rwa [add_block] at this | exact this) GW752.out)) | (dsimp only; exact Nat.ne_of_lt (Nat.lt_of_lt_of_le (by have := World.block_lt_of_cell? _ _ hw751_0; first | rwa [add_block] at this | exact this) GW752.out))) _).trans (((cell_far (p := ⟨gb752, _, none⟩) (by first | exact Nat.ne_of_lt (Nat.lt_of_lt_of_le (by have := World.block_lt_of_cell? _ _ hw751_0; first | rwa [add_block] at this | exact this) GW752.out) | (rw [add_block]; exact Nat.ne_of_lt (Nat.lt_of_lt_of_le (by have := World.block_lt_of_cell? _ _ hw751_0; first | rwa [add_block] at this | exact this) GW752.out)) | (show (Addr.add _ _).block ≠ _; rw [add_block]; exact Nat.ne_of_lt (Nat.lt_of_lt_of_le (by have := World.block_lt_of_cell? _ _ hw751_0; first | rwa [add_block] at this | exact this) GW752.out)) | (dsimp only; exact Nat.ne_of_lt (Nat.lt_of_lt_of_le (by have := World.block_lt_of_cell? _ _ hw751_0; first | rwa [add_block] at this | exact this) GW752.out))) _).trans (hHeld.2.2.2.2.2.2.1)))))), ((cell_far (p := ⟨gb752, _, none⟩) (by first | exact Nat.ne_of_lt (Nat.lt_of_lt_of_le (by have := World.block_lt_of_cell? _ _ hw751_1; first | rwa [add_block] at this | exact this) GW752.out) | (rw [add_block]; exact Nat.ne_of_lt (Nat.lt_of_lt_of_le (by have := World.block_lt_of_cell? _ _ hw751_1; first | rwa [add_block] at this | exact this) GW752.out)) | (show (Addr.add _ _).block ≠ _; rw [add_block]; exact Nat.ne_of_lt (Nat.lt_of_lt_of_le (by have := World.block_lt_of_cell? _ _ hw751_1; first | rwa [add_block] at this | exact this) GW752.out)) | (dsimp only; exact Nat.ne_of_lt (Nat.lt_of_lt_of_le (by have := World.block_lt_of_cell? _ _ hw751_1; first | rwa [add_block] at this | exact this) GW752.out))) _).trans (((cell_far (p := ⟨gb752, _, none⟩) (by first | exact Nat.ne_of_lt (Nat.lt_of_lt_of_le (by have := World.block_lt_of_cell? _ _ hw751_1; first | rwa [add_block] at this | exact this) GW752.out) | (rw [add_block]; exact Nat.ne_of_lt (Nat.lt_of_lt_of_le (by have := World.block_lt_of_cell? _ _ hw751_1; first | rwa [add_block] at this | exact this) GW752.out)) | (show (Addr.add _ _).block ≠ _; rw [add_block]; exact Nat.ne_of_lt (Nat.lt_of_lt_of_le (by have := World.block_lt_of_cell? _ _ hw751_1; first | rwa [add_block] at this | exact this) GW752.out)) | (dsimp only; exact Nat.ne_of_lt (Nat.lt_of_lt_of_le (by have := World.block_lt_of_cell? _ _ hw751_1; first | rwa [add_block] at this | exact this) GW752.out))) _).trans (((cell_far (p := ⟨gb752, _, none⟩) (by first | exact Nat.ne_of_lt (Nat.lt_of_lt_of_le (by have := World.block_lt_of_cell? _ _ hw751_1; first | rwa [add_block] at this | exact this) GW752.out) | (rw [add_block]; exact Nat.ne_of_lt (Nat.lt_of_lt_of_le (by have := World.block_lt_of_cell? _ _ hw751_1; first | rwa [add_block] at this | exact this) GW752.out)) | (show (Addr.add _ _).block ≠ _; rw [add_block]; exact Nat.ne_of_lt (Nat.lt_of_lt_of_le (by have := World.block_lt_of_cell? _ _ hw751_1; first | rwa [add_block] at this | exact this) GW752.out)) | (dsimp only; exact Nat.ne_of_lt (Nat.lt_of_lt_of_le (by have := World.block_lt_of_cell? _ _ hw751_1; first | rwa [add_block] at this | exact this) GW752.out))) _).trans (hHeld.2.2.2.2.2.2.2.1)))))), ((cell_far (p := ⟨gb752, _, none⟩) (by first | exact Nat.ne_of_lt (Nat.lt_of_lt_of_le (by have := World.block_lt_of_cell? _ _ hw751_2; first | rwa [add_block] at this | exact this) GW752.out) | (rw [add_block]; exact Nat.ne_of_lt (Nat.lt_of_lt_of_le (by have := World.block_lt_of_cell? _ _ hw751_2; first | rwa [add_block] at this | exact this) GW752.out)) | (show (Addr.add _ _).block ≠ _; rw [add_block]; exact Nat.ne_of_lt (Nat.lt_of_lt_of_le (by have := World.block_lt_of_cell? _ _ hw751_2; first | rwa [add_block] at this | exact this) GW752.out)) | (dsimp only; exact Nat.ne_of_lt (Nat.lt_of_lt_of_le (by have := World.block_lt_of_cell? _ _ hw751_2; first | rwa [add_block] at this | exact this) GW752.out))) _).trans (((cell_far (p := ⟨gb752, _, none⟩) (by first | exact Nat.ne_of_lt (Nat.lt_of_lt_of_le (by have := World.block_lt_of_cell? _ _ hw751_2; first | rwa [add_block] at this | exact this) GW752.out) | (rw [add_block]; exact Nat.ne_of_lt (Nat.lt_of_lt_of_le (by have := World.block_lt_of_cell? _ _ hw751_2; first | rwa [add_block] at this | exact this) GW752.out)) | (show (Addr.add _ _).block ≠ _; rw [add_block]; exact Nat.ne_of_lt (Nat.lt_of_lt_of_le (by have := World.block_lt_of_cell? _ _ hw751_2; first | rwa [add_block] at this | exact this) GW752.out)) | (dsimp only; exact Nat.ne_of_lt (Nat.lt_of_lt_of_le (by have := World.block_lt_of_cell? _ _ hw751_2; first | rwa [add_block] at this | exact this) GW752.out))) _).trans (((cell_far (p := ⟨gb752, _, none⟩) (by first | exact Nat.ne_of_lt (Nat.lt_of_lt_of_le (by have := World.block_lt_of_cell? _ _ hw751_2; first | rwa [add_block] at this | exact this) GW752.out) | (rw [add_block]; exact Nat.ne_of_lt (Nat.lt_of_lt_of_le (by have := World.block_lt_of_cell? _ _ hw751_2; first | rwa [add_block] at this | exact this) GW752.out)) | (show (Addr.add _ _).block ≠ _; rw [add_block]; exact Nat.ne_of_lt (Nat.lt_of_lt_of_le (by have := World.block_lt_of_cell? _ _ hw751_2; first | rwa [add_block] at this | exact this) GW752.out)) | (dsimp only; exact Nat.ne_of_lt (Nat.lt_of_lt_of_le (by have := World.block_lt_of_cell? _ _ hw751_2; first | rwa [add_block] at this | exact this) GW752.out))) _).trans (hHeld.2.2.2.2.2.2.2.2))))))⟩ (fun hHeld => ?_)
       clear hK K; refine done_ (done_of HT_.out (by kernel_rfl)) ?_
       try go_wp2
       have n0_ : Aside0 (Kd.R (Kd.int .i64) 2 (((w42.setCell ⟨gb752, 0, none⟩ (.int .i64 ((rd_T106 l0_2 t750).f0))).setCell ⟨gb752, 1, none⟩ (.int .i64 ((rd_T106 l0_2 t750).f1))).setCell ⟨gb752, 2, none⟩ (.int .i64 ((rd_T106 l0_2 t750).f2))) w.heap.size (fun _ => True) (.slice Ao36 y744.length co36) y744) := ⟨by (with_reducible repeat (first | apply Kd.R_alloc | apply Kd.R_drewN | apply Kd.R_drew)); exact Kd.R_mono (Kd.R_far (p := ⟨gb752, 2, none⟩) (Kd.R_far (p := ⟨gb752, 1, none⟩) (Kd.R_far (p := ⟨gb752, 0, none⟩) (Kd.R_types HO746.out BK752.out (by decide)) (fun _ hk => hk.2) (.int .i64 ((rd_T106 l0_2 t750).f0))) (fun _ hk => hk.2) (.int .i64 ((rd_T106 l0_2 t750).f1))) (fun _ hk => hk.2) (.int .i64 ((rd_T106 l0_2 t750).f2))) (fun _ hk => trivial)⟩; have n1_ : Aside0 ((((w42.setCell ⟨gb752, 0, none⟩ (.int .i64 ((rd_T106 l0_2 t750).f0))).setCell ⟨gb752, 1, none⟩ (.int .i64 ((rd_T106 l0_2 t750).f1))).setCell ⟨gb752, 2, none⟩ (.int .i64 ((rd_T106 l0_2 t750).f2))).heap[gb742]? = some (.cells #[.string a0_0, .int .i64 a0_1, .slice (some ad751) l0_2.length c0_2, .int .i64 a0_3, .int .i64 a0_4, .int .i64 a0_5] 120 (0, 0))) := ⟨by refine bw_ ?_; refine blk_far ?_ NB742_752.out _; refine bw_ ?_; refine blk_far ?_ NB742_752.out _; refine bw_ ?_; refine blk_far ?_ NB742_752.out _; refine bw_ ?_; exact BK742.out⟩; have n2_ : Aside0 ((((w42.setCell ⟨gb752, 0, none⟩ (.int .i64 ((rd_T106 l0_2 t750).f0))).setCell ⟨gb752, 1, none⟩ (.int .i64 ((rd_T106 l0_2 t750).f1))).setCell ⟨gb752, 2, none⟩ (.int .i64 ((rd_T106 l0_2 t750).f2))).heap[gb752]? = some (.cells #[.int .i64 ((rd_T106 l0_2 t750).f0), .int .i64 ((rd_T106 l0_2 t750).f1), .int .i64 ((rd_T106 l0_2 t750).f2)] 106 (0, 0))) := ⟨by refine bw_ ?_; refine blk_put (cs := #[.int .i64 ((rd_T106 l0_2 t750).f0), .int .i64 ((rd_T106 l0_2 t750).f1), .int .i64 0]) ?_ 2 _ rfl; refine bw_ ?_; refine blk_put (cs := #[.int .i64 ((rd_T106 l0_2 t750).f0), .int .i64 0, .int .i64 0]) ?_ 1 _ rfl; refine bw_ ?_; refine blk_put (cs := #[.int .i64 0, .int .i64 0, .int .i64 0]) ?_ 0 _ rfl; refine bw_ ?_; exact BK752.out⟩; have n3_ : Aside0 (Below w.heap.size w (((w42.setCell ⟨gb752, 0, none⟩ (.int .i64 ((rd_T106 l0_2 t750).f0))).setCell ⟨gb752, 1, none⟩ (.int .i64 ((rd_T106 l0_2 t750).f1))).setCell ⟨gb752, 2, none⟩ (.int .i64 ((rd_T106 l0_2 t750).f2)))) := ⟨bl2_ HB GE742.out GE752.out⟩
       (try clear HO746)
       (try clear BK742)
       (try clear BK752)
       (try clear HB)
       generalize (((w42.setCell ⟨gb752, 0, none⟩ (.int .i64 ((rd_T106 l0_2 t750).f0))).setCell ⟨gb752, 1, none⟩ (.int .i64 ((rd_T106 l0_2 t750).f1))).setCell ⟨gb752, 2, none⟩ (.int .i64 ((rd_T106 l0_2 t750).f2))) = w46 at n0_ n1_ n2_ n3_ ⊢; have HO746 := n0_; have BK742 := n1_; have BK752 := n2_; have HB := n3_; clear n0_ n1_ n2_ n3_; replace HO746 := A_ (Kd.R_drew HO746.out); replace BK742 := A_ (blk_drew BK742.out); replace BK752 := A_ (blk_drew BK752.out); replace HB := A_ (below_drew1 HB.out); refine start_ (n := 7) (S := fun w' => w'.cell? ⟨gb752, 0, none⟩ = some (.int .i64 ((rd_T106 l0_2 t750).f0)) ∧ w'.cell? ⟨gb752, 1, none⟩ = some (.int .i64 ((rd_T106 l0_2 t750).f1)) ∧ w'.cell? ⟨gb752, 2, none⟩ = some (.int .i64 ((rd_T106 l0_2 t750).f2))) (ds := []) #[false, false, false, false, false, false, false] (by kernel_rfl) rfl rfl ⟨(blk_cell BK752.out 0).trans rfl, (blk_cell BK752.out 1).trans rfl, (blk_cell BK752.out 2).trans rfl⟩ (fun hHeld => ?_)
       generalize w46.drew = w47 at HO746 BK742 BK752 HB hHeld ⊢; refine pure_ (i := 0) (N := some 45) (v := ?_) (a' := ?_) #[true, false, false, false, false, false, false] rfl rfl (by kernel_rfl) (fun _ _ _ h => h) (Or.inl ⟨by rfl, ?_⟩) ?_ ?_
       rotate_left
       ·intro w'
        go_simp
        with_reducible rfl
       rotate_left
       ·simp only [Act.put, List.setIfInBounds_toArray, List.set_cons_zero, List.set_cons_succ, i64_w, i32_w]
        rfl
       refine pure_ (i := 2) (N := some 47) (v := ?_) (a' := ?_) #[true, false, true, false, false, false, false] rfl rfl (by kernel_rfl) (fun _ _ _ h => h) (Or.inl ⟨by rfl, ?_⟩) ?_ ?_
       rotate_left
       ·intro w'
        go_simp
        with_reducible rfl
       rotate_left
       ·simp only [Act.put, List.setIfInBounds_toArray, List.set_cons_zero, List.set_cons_succ, i64_w, i32_w]
        rfl
       refine take_ (i := 1) (N := some 46) (v := ?_) (a' := ?_) #[true, true, true, false, false, false, false] rfl rfl (by kernel_rfl) (fun _ _ _ h => h) (Or.inl ⟨by rfl, ?_⟩) hHeld ?_ ?_
       rotate_left
       ·rintro w' ⟨s0, s1, s2⟩
        go_simp
        with_reducible rfl
       rotate_left
       ·simp only [Act.put, List.setIfInBounds_toArray, List.set_cons_zero, List.set_cons_succ, i64_w, i32_w]
        rfl
       refine pure_ (i := 4) (N := some 6) (v := ?_) (a' := ?_) #[true, true, true, false, true, false, false] rfl rfl (by kernel_rfl) (fun _ _ _ h => h) (Or.inl ⟨by rfl, ?_⟩) ?_ ?_
       rotate_left
       ·intro w'
        go_simp
        with_reducible rfl
       rotate_left
       ·simp only [Act.put, List.setIfInBounds_toArray, List.set_cons_zero, List.set_cons_succ, i64_w, i32_w]
        rfl
       refine take_ (i := 3) (N := some 48) (v := ?_) (a' := ?_) #[true, true, true, true, true, false, false] rfl rfl (by kernel_rfl) (fun _ _ _ h => h) (Or.inl ⟨by rfl, ?_⟩) hHeld ?_ ?_
       rotate_left
       ·rintro w' ⟨s0, s1, s2⟩
        go_simp
        with_reducible rfl
       rotate_left
       ·simp only [Act.put, List.setIfInBounds_toArray, List.set_cons_zero, List.set_cons_succ, i64_w, i32_w]
        rfl
       refine pure_ (i := 5) (N := some 7) (v := ?_) (a' := ?_) #[true, true, true, true, true, true, false] rfl rfl (by kernel_rfl) (fun _ _ _ h => h) (Or.inl ⟨by rfl, ?_⟩) ?_ ?_
       rotate_left
       ·intro w'
        go_simp
        with_reducible rfl
       rotate_left
       ·simp only [Act.put, List.setIfInBounds_toArray, List.set_cons_zero, List.set_cons_succ, i64_w, i32_w]
        rfl
       refine pure_ (i := 6) (N := some 8) (v := ?_) (a' := ?_) #[true, true, true, true, true, true, true] rfl rfl (by kernel_rfl) (fun _ _ _ h => h) (Or.inl ⟨by rfl, ?_⟩) ?_ ?_
       rotate_left
       ·intro w'
        go_simp
        with_reducible rfl
       rotate_left
       ·simp only [Act.put, List.setIfInBounds_toArray, List.set_cons_zero, List.set_cons_succ, i64_w, i32_w]
        rfl
       refine done_ (by kernel_rfl) ?_
       try go_wp2
       go_ret3
       exact ⟨er_, bl2_ HB GE742.out GE752.out⟩
      ·rw [if_neg c30] at H; exact absurd H (by simp)
     ·rw [if_neg c29] at H; exact absurd H (by simp)
  ·replace c7 := Bool.eq_false_iff.mpr c7; subst c7; rw [if_neg (show ¬ (false = true) by decide)] at H; simp only [Option.some.injEq, Prod.mk.injEq] at H; obtain ⟨rfl, rfl, rfl⟩ := H; go_enter Try.func124, Try.ntmps124
   go_wp2_with (first | ((with_reducible refine gate_dst (N := 3) rfl ?_); refine be_ (N := 3) (cs := #[.string a0_0, .int .i64 a0_1, .slice A0_2 l0_2.length c0_2, .int .i64 a0_3, .int .i64 a0_4, .int .i64 a0_5]) (t := 120) ?_; intro gb742 hg w48 hbox hb; have BK742 := A_ (hbox); have GW742 := A_ ((by rw [hg]; exact (below_size (bl_ HB)) : w.heap.size ≤ gb742)); have GE742 := A_ ((by rw [hg]; exact (below_size (bl_ HB)) : w.heap.size ≤ gb742)); replace HB := A_ (below_step (bl_ HB) hb); clear hb hbox hg; have hcz49_0 := cz_ BK742 0; have hcz49_1 := cz_ BK742 1; have hcz49_2 := cz_ BK742 2; have hcz49_3 := cz_ BK742 3; have hcz49_4 := cz_ BK742 4; have hcz49_5 := cz_ BK742 5; have hfz49_0 := fz_ BK742 0; have hfz49_1 := fz_ BK742 1; have hfz49_2 := fz_ BK742 2; have hfz49_3 := fz_ BK742 3; have hfz49_4 := fz_ BK742 4; have hfz49_5 := fz_ BK742 5) | ((with_reducible refine gate_callee (f := 36) rfl ?_); refine gm_ (some 13) Try.func36 #[.slice A0_2 l0_2.length c0_2] ?_; (with_reducible refine (band_Check.calls _ _ l0_2 t743 _ ?side1 ?side2 A4.out).mono ?_); (case side1 => exact cb_ HR0_2 HB); (case side2 => exact HC0_2.out); rintro e w50 ⟨rfl, hb⟩; refine ⟨_, rfl, ?_⟩; replace BK742 := A_ (blk_below (bx_ BK742) hb); replace HB := A_ (below_step (bl1_ HB GE742.out) hb); (try clear hb); (try clear hb2); (try clear hk); (try clear hi)) | ((with_reducible refine gate_dst (N := 19) rfl ?_); refine Kd.R_lit (Kd.int .i64) _ 2 ?hg (N := 19) ?hd (xs := ([a1, a2] : List Int)) (inner := [.int .i64 a1, .int .i64 a2]) (ok := fun _ => True) (okp := fun _ => True) ?hr ?hp (fun _ hk => hk) trivial (Below.refl _ _) (Nat.le_refl _) (by simp) ?_; (case hd => rfl); (case hg => rfl); (case hr => first | (go_simp; done) | (go_simp; rfl)); (case hp => exact (Reps.one (show Kd.M (Kd.int .i64) _ _ _ a1 [.int .i64 a1] from rfl) (Reps.one (show Kd.M (Kd.int .i64) _ _ _ a2 [.int .i64 a2] from rfl) (Reps.none _ _)))); intro v745 w51 ho52 hb hg_ hnew_; clear hg_ hnew_; (first | rw [← Ny744.out] at ho52 | (simp only [Int.reduceToNat] at ho52; rw [← Ny744.out] at ho52)); have HO746 := A_ (Kd.R_lower ho52 (below_size (bl1_ HB GE742.out))); replace BK742 := A_ (blk_below (bx_ BK742) hb); replace HB := A_ (below_step (bl1_ HB GE742.out) hb); clear hb ho52; obtain ⟨Ao53, co53, eo53⟩ := Kd.R_slice HO746.out; subst eo53) | ((with_reducible refine gate_callee (f := 118) rfl ?_); refine gm_ (some 20) Try.func118 #[.slice Ao53 y744.length co53] ?_; (with_reducible refine (money_Right.calls k _ _ y744 false _ ?side1 ?side2 A6.out).mono ?_); (case side1 => repeat (first | exact (Kd.R_reads' HO746.out).2.2 | (with_reducible refine Kd.C_alloc ?_ _) | (with_reducible refine Kd.C_drewN ?_ _) | (with_reducible refine Kd.C_drew ?_))); (case side2 => exact (Kd.R_reads' HO746.out).2.1); rintro e w' ⟨rfl, ⟨nd, rfl⟩⟩; refine ⟨_, rfl, ?_⟩))
   go_ret3
   exact ⟨er_, bl1_ HB GE742.out⟩
 ·rw [if_neg c5] at H; have c5b0 : (t743 == 0) = false := beq_eq_false_iff_ne.mpr c5; have c5b1 : (t743 != 0) = true := bne_iff_ne.mpr c5; simp only [Option.some.injEq, Prod.mk.injEq] at H; obtain ⟨rfl, rfl, rfl⟩ := H; go_enter Try.func124, Try.ntmps124
  go_wp2_with (first | ((with_reducible refine gate_dst (N := 3) rfl ?_); refine be_ (N := 3) (cs := #[.string a0_0, .int .i64 a0_1, .slice A0_2 l0_2.length c0_2, .int .i64 a0_3, .int .i64 a0_4, .int .i64 a0_5]) (t := 120) ?_; intro gb742 hg w54 hbox hb; have BK742 := A_ (hbox); have GW742 := A_ ((by rw [hg]; exact (below_size (bl_ HB)) : w.heap.size ≤ gb742)); have GE742 := A_ ((by rw [hg]; exact (below_size (bl_ HB)) : w.heap.size ≤ gb742)); replace HB := A_ (below_step (bl_ HB) hb); clear hb hbox hg; have hcz55_0 := cz_ BK742 0; have hcz55_1 := cz_ BK742 1; have hcz55_2 := cz_ BK742 2; have hcz55_3 := cz_ BK742 3; have hcz55_4 := cz_ BK742 4; have hcz55_5 := cz_ BK742 5; have hfz55_0 := fz_ BK742 0; have hfz55_1 := fz_ BK742 1; have hfz55_2 := fz_ BK742 2; have hfz55_3 := fz_ BK742 3; have hfz55_4 := fz_ BK742 4; have hfz55_5 := fz_ BK742 5) | ((with_reducible refine gate_callee (f := 36) rfl ?_); refine gm_ (some 13) Try.func36 #[.slice A0_2 l0_2.length c0_2] ?_; (with_reducible refine (band_Check.calls _ _ l0_2 t743 _ ?side1 ?side2 A4.out).mono ?_); (case side1 => exact cb_ HR0_2 HB); (case side2 => exact HC0_2.out); rintro e w56 ⟨rfl, hb⟩; refine ⟨_, rfl, ?_⟩; replace BK742 := A_ (blk_below (bx_ BK742) hb); replace HB := A_ (below_step (bl1_ HB GE742.out) hb); (try clear hb); (try clear hb2); (try clear hk); (try clear hi)))
  go_ret3
  exact ⟨er_, bl1_ HB GE742.out⟩
end Go.Proofs.Ytcapgmoipacioaa.P
