import Derived.Test.YtcapgmoipacioaaPtZe
import Derived.Test.YtcapgmoipacioaaY1Ze
namespace Go.Proofs.Ytcapgmoipacioaa.P
open Go.RowKit Go.Proofs.YtcapgmoipacioaaW.PrintWords Go.Proofs.YtcapgmoipacioaaW.PrintLast Go.Proofs.YtcapgmoipacioaaW.PrintMore
set_option linter.unusedVariables false
set_option linter.unusedSimpArgs false
def period_Nominal.f (a0 : Int) : Option (Int) := if a0 = 1 then (some 52) else (if a0 = 2 then (some 26) else (if a0 = 3 then (some 13) else (if a0 = 4 then (some 12) else (some 0))))
set_option maxHeartbeats 8000000 in
set_option maxRecDepth 100000 in
theorem period_Nominal.calls (a0 : Int) (r : Int) (w : World) (h : period_Nominal.f a0 = some r) :
  Calls Try.prog 88 #[.int .i64 a0] w fun e w' => e = .returned (.int .i64 r) ∧ Drawn0 w w' := by
 unfold period_Nominal.f at h; have H := h; clear h; by_cases c2 : a0 = 1
 ·rw [if_pos c2] at H; have c2b0 : (a0 == 1) = true := beq_iff_eq.mpr c2; have c2b1 : (a0 != 1) = false := bne_eq_false_iff_eq.mpr c2; clear c2; obtain rfl := Option.some.inj H; go_enter Try.func88, Try.ntmps88
  go_wp2
  go_ret
  exact ⟨sx_, by repeat (first | exact Drawn0.refl _ | apply Drawn0.step)⟩
 ·rw [if_neg c2] at H; have c2b0 : (a0 == 1) = false := beq_eq_false_iff_ne.mpr c2; have c2b1 : (a0 != 1) = true := bne_iff_ne.mpr c2; by_cases c3 : a0 = 2
  ·rw [if_pos c3] at H; have c3b0 : (a0 == 2) = true := beq_iff_eq.mpr c3; have c3b1 : (a0 != 2) = false := bne_eq_false_iff_eq.mpr c3; clear c3; obtain rfl := Option.some.inj H; go_enter Try.func88, Try.ntmps88
   go_wp2
   go_ret
   exact ⟨sx_, by repeat (first | exact Drawn0.refl _ | apply Drawn0.step)⟩
  ·rw [if_neg c3] at H; have c3b0 : (a0 == 2) = false := beq_eq_false_iff_ne.mpr c3; have c3b1 : (a0 != 2) = true := bne_iff_ne.mpr c3; by_cases c4 : a0 = 3
   ·rw [if_pos c4] at H; have c4b0 : (a0 == 3) = true := beq_iff_eq.mpr c4; have c4b1 : (a0 != 3) = false := bne_eq_false_iff_eq.mpr c4; clear c4; obtain rfl := Option.some.inj H; go_enter Try.func88, Try.ntmps88
    go_wp2
    go_ret
    exact ⟨sx_, by repeat (first | exact Drawn0.refl _ | apply Drawn0.step)⟩
   ·rw [if_neg c4] at H; have c4b0 : (a0 == 3) = false := beq_eq_false_iff_ne.mpr c4; have c4b1 : (a0 != 3) = true := bne_iff_ne.mpr c4; by_cases c5 : a0 = 4
    ·rw [if_pos c5] at H; have c5b0 : (a0 == 4) = true := beq_iff_eq.mpr c5; have c5b1 : (a0 != 4) = false := bne_eq_false_iff_eq.mpr c5; clear c5; obtain rfl := Option.some.inj H; go_enter Try.func88, Try.ntmps88
     go_wp2
     go_ret
     exact ⟨sx_, by repeat (first | exact Drawn0.refl _ | apply Drawn0.step)⟩
    ·rw [if_neg c5] at H; have c5b0 : (a0 == 4) = false := beq_eq_false_iff_ne.mpr c5; have c5b1 : (a0 != 4) = true := bne_iff_ne.mpr c5; obtain rfl := Option.some.inj H; go_enter Try.func88, Try.ntmps88
     go_wp2
     go_ret
     exact ⟨sx_, by repeat (first | exact Drawn0.refl _ | apply Drawn0.step)⟩
def period_length.f (a0 : Int) : Option (Int) := if a0 = 1 then (some 7) else (if a0 = 2 then (some 14) else (if a0 = 3 then (some 28) else (some 0)))
set_option maxHeartbeats 8000000 in
set_option maxRecDepth 100000 in
theorem period_length.calls (a0 : Int) (r : Int) (w : World) (h : period_length.f a0 = some r) :
  Calls Try.prog 133 #[.int .i64 a0] w fun e w' => e = .returned (.int .i64 r) ∧ Drawn0 w w' := by
 unfold period_length.f at h; have H := h; clear h; by_cases c2 : a0 = 1
 ·rw [if_pos c2] at H; have c2b0 : (a0 == 1) = true := beq_iff_eq.mpr c2; have c2b1 : (a0 != 1) = false := bne_eq_false_iff_eq.mpr c2; clear c2; obtain rfl := Option.some.inj H; go_enter Try.func133, Try.ntmps133
  go_wp2
  go_ret
  exact ⟨sx_, by repeat (first | exact Drawn0.refl _ | apply Drawn0.step)⟩
 ·rw [if_neg c2] at H; have c2b0 : (a0 == 1) = false := beq_eq_false_iff_ne.mpr c2; have c2b1 : (a0 != 1) = true := bne_iff_ne.mpr c2; by_cases c3 : a0 = 2
  ·rw [if_pos c3] at H; have c3b0 : (a0 == 2) = true := beq_iff_eq.mpr c3; have c3b1 : (a0 != 2) = false := bne_eq_false_iff_eq.mpr c3; clear c3; obtain rfl := Option.some.inj H; go_enter Try.func133, Try.ntmps133
   go_wp2
   go_ret
   exact ⟨sx_, by repeat (first | exact Drawn0.refl _ | apply Drawn0.step)⟩
  ·rw [if_neg c3] at H; have c3b0 : (a0 == 2) = false := beq_eq_false_iff_ne.mpr c3; have c3b1 : (a0 != 2) = true := bne_iff_ne.mpr c3; by_cases c4 : a0 = 3
   ·rw [if_pos c4] at H; have c4b0 : (a0 == 3) = true := beq_iff_eq.mpr c4; have c4b1 : (a0 != 3) = false := bne_eq_false_iff_eq.mpr c4; clear c4; obtain rfl := Option.some.inj H; go_enter Try.func133, Try.ntmps133
    go_wp2
    go_ret
    exact ⟨sx_, by repeat (first | exact Drawn0.refl _ | apply Drawn0.step)⟩
   ·rw [if_neg c4] at H; have c4b0 : (a0 == 3) = false := beq_eq_false_iff_ne.mpr c4; have c4b1 : (a0 != 3) = true := bne_iff_ne.mpr c4; obtain rfl := Option.some.inj H; go_enter Try.func133, Try.ntmps133
    go_wp2
    go_ret
    exact ⟨sx_, by repeat (first | exact Drawn0.refl _ | apply Drawn0.step)⟩
def period_Year_Count.f (s0_0 : Int) (s0_1 : Int) (s0_2 : Int) (s0_3 : Int) (s0_4 : Int) (s0_5 : Int) (s0_6 : Int) (s0_7 : Int) (s0_8 : Int) : Option (Int × Int × Int × Int × Int × Int × Int × Int × Int × Int) := (period_length.f s0_0).bind fun t449 => (if t449 = 0 then ((period_Nominal.f s0_0).bind fun t450 => (some (t450, s0_0, s0_1, s0_2, s0_3, s0_4, s0_5, s0_6, s0_7, s0_8))) else (some (wrap64 (Int.tdiv (wrap64 ((wrap64 (s0_8 + t449)) - 1)) t449), s0_0, s0_1, s0_2, s0_3, s0_4, s0_5, s0_6, s0_7, s0_8)))
set_option maxHeartbeats 8000000 in
set_option maxRecDepth 100000 in
theorem period_Year_Count.calls (g : Nat) (s0_0 : Int) (s0_1 : Int) (s0_2 : Int) (s0_3 : Int) (s0_4 : Int) (s0_5 : Int) (s0_6 : Int) (s0_7 : Int) (s0_8 : Int) (r1 : Int) (r2 : Int) (r3 : Int) (r4 : Int) (r5 : Int) (r6 : Int) (r7 : Int) (r8 : Int) (r9 : Int) (r10 : Int) (w0 w : World) (hI : IsS180 w0 w g s0_0 s0_1 s0_2 s0_3 s0_4 s0_5 s0_6 s0_7 s0_8) (hB : Below w0.heap.size w0 w) (h : period_Year_Count.f s0_0 s0_1 s0_2 s0_3 s0_4 s0_5 s0_6 s0_7 s0_8 = some (r1, r2, r3, r4, r5, r6, r7, r8, r9, r10)) :
  Calls Try.prog 86 #[.pointer (some ⟨g, 0, none⟩)] w fun e w' => e = .returned (.int .i64 r1) ∧ IsS180 w0 w' g r2 r3 r4 r5 r6 r7 r8 r9 r10 ∧ Below w0.heap.size w0 w' ∧ KeepBut w w' g none := by
 have HI0 := A_ hI; have HK := A_ (KeepBut.refl w g none); have HL := A_ hB.size; clear hI; have HW0 := A_ hB.size; have HB := A_ hB; clear hB; unfold period_Year_Count.f at h; have H := h; clear h; replace H := Option.bind_eq_some_iff.mp H; obtain ⟨t449, A20, H⟩ := H; (try dsimp only at H); have A2 := A_ A20; clear A20; by_cases c3 : t449 = 0
 ·rw [if_pos c3] at H; have c3b0 : (t449 == 0) = true := beq_iff_eq.mpr c3; have c3b1 : (t449 != 0) = false := bne_eq_false_iff_eq.mpr c3; clear c3; replace H := Option.bind_eq_some_iff.mp H; obtain ⟨t450, A40, H⟩ := H; (try dsimp only at H); have A4 := A_ A40; clear A40; simp only [Option.some.injEq, Prod.mk.injEq] at H; obtain ⟨rfl, rfl, rfl, rfl, rfl, rfl, rfl, rfl, rfl, rfl⟩ := H; obtain ⟨HGz5, hgz5⟩ := HI0.out; have hcz5_0 := cellS180_0 HGz5; have hcz5_1 := cellS180_1 HGz5; have hcz5_2 := cellS180_2 HGz5; have hcz5_3 := cellS180_3 HGz5; have hcz5_4 := cellS180_4 HGz5; have hcz5_5 := cellS180_5 HGz5; have hcz5_6 := cellS180_6 HGz5; have hcz5_7 := cellS180_7 HGz5; have hcz5_8 := cellS180_8 HGz5; have hfz5_0 := blk_frozen HGz5 0; have hfz5_1 := blk_frozen HGz5 1; have hfz5_2 := blk_frozen HGz5 2; have hfz5_3 := blk_frozen HGz5 3; have hfz5_4 := blk_frozen HGz5 4; have hfz5_5 := blk_frozen HGz5 5; have hfz5_6 := blk_frozen HGz5 6; have hfz5_7 := blk_frozen HGz5 7; have hfz5_8 := blk_frozen HGz5 8; clear HGz5 hgz5; go_enter Try.func86, Try.ntmps86
  go_wp2_with (first | ((with_reducible refine gate_callee (f := 133) rfl ?_); refine gm_ (some 8) Try.func133 #[.int .i64 s0_0] ?_; (with_reducible refine (period_length.calls s0_0 t449 _ A2.out).mono ?_); rintro e w' ⟨rfl, ⟨nd, rfl⟩⟩; refine ⟨_, rfl, ?_⟩) | ((with_reducible refine gate_callee (f := 88) rfl ?_); refine gm_ (some 15) Try.func88 #[.int .i64 s0_0] ?_; (with_reducible refine (period_Nominal.calls s0_0 t450 _ A4.out).mono ?_); rintro e w' ⟨rfl, ⟨nd, rfl⟩⟩; refine ⟨_, rfl, ?_⟩))
  go_ret
  exact ⟨er_, is_ HI0, bl1_ HB (IsS180.ge HI0.out), by repeat (first | (with_reducible first | exact HK.out | apply KeepBut.set_ | apply keep_drewN | apply keep_drew | apply keep_alloc) | exact HK.out)⟩
 ·rw [if_neg c3] at H; have c3b0 : (t449 == 0) = false := beq_eq_false_iff_ne.mpr c3; have c3b1 : (t449 != 0) = true := bne_iff_ne.mpr c3; simp only [Option.some.injEq, Prod.mk.injEq] at H; obtain ⟨rfl, rfl, rfl, rfl, rfl, rfl, rfl, rfl, rfl, rfl⟩ := H; obtain ⟨HGz6, hgz6⟩ := HI0.out; have hcz6_0 := cellS180_0 HGz6; have hcz6_1 := cellS180_1 HGz6; have hcz6_2 := cellS180_2 HGz6; have hcz6_3 := cellS180_3 HGz6; have hcz6_4 := cellS180_4 HGz6; have hcz6_5 := cellS180_5 HGz6; have hcz6_6 := cellS180_6 HGz6; have hcz6_7 := cellS180_7 HGz6; have hcz6_8 := cellS180_8 HGz6; have hfz6_0 := blk_frozen HGz6 0; have hfz6_1 := blk_frozen HGz6 1; have hfz6_2 := blk_frozen HGz6 2; have hfz6_3 := blk_frozen HGz6 3; have hfz6_4 := blk_frozen HGz6 4; have hfz6_5 := blk_frozen HGz6 5; have hfz6_6 := blk_frozen HGz6 6; have hfz6_7 := blk_frozen HGz6 7; have hfz6_8 := blk_frozen HGz6 8; clear HGz6 hgz6; go_enter Try.func86, Try.ntmps86
  go_wp2_with (first | ((with_reducible refine gate_callee (f := 133) rfl ?_); refine gm_ (some 8) Try.func133 #[.int .i64 s0_0] ?_; (with_reducible refine (period_length.calls s0_0 t449 _ A2.out).mono ?_); rintro e w' ⟨rfl, ⟨nd, rfl⟩⟩; refine ⟨_, rfl, ?_⟩))
  go_ret
  exact ⟨er_, is_ HI0, bl1_ HB (IsS180.ge HI0.out), by repeat (first | (with_reducible first | exact HK.out | apply KeepBut.set_ | apply keep_drewN | apply keep_drew | apply keep_alloc) | exact HK.out)⟩
def period_Year_Part.j0 : Nat → Int → Bool → Int → Int → Int → Int → Int → Int → Int → Int → Int → Option (Int × Int × Int × Int × Int × Int × Int × Int × Int × Int × Int × Int)
 | 0, _, _, _, _, _, _, _, _, _, _, _ => none
 | k + 1, x1, x14, x1000, x1001, x1002, x1003, x1004, x1005, x1006, x1007, x1008 => if x14 = true then (some (0, 0, 1, x1000, x1001, x1002, x1003, x1004, x1005, x1006, x1007, x1008)) else ((period_Nominal.f x1000).bind fun t502 => ((period_Nominal.f x1000).bind fun t503 => (some (mn x1 t502, t503, 0, x1000, x1001, x1002, x1003, x1004, x1005, x1006, x1007, x1008))))
def period_Year_Part.f (k : Nat) (s0_0 : Int) (s0_1 : Int) (s0_2 : Int) (s0_3 : Int) (s0_4 : Int) (s0_5 : Int) (s0_6 : Int) (s0_7 : Int) (s0_8 : Int) (a1 : Int) : Option (Int × Int × Int × Int × Int × Int × Int × Int × Int × Int × Int × Int) := if a1 < 1 then (period_Year_Part.j0 k a1 true s0_0 s0_1 s0_2 s0_3 s0_4 s0_5 s0_6 s0_7 s0_8) else ((period_Year_Count.f s0_0 s0_1 s0_2 s0_3 s0_4 s0_5 s0_6 s0_7 s0_8).bind fun bt492 => (period_Year_Part.j0 k a1 (decide (a1 > bt492.1)) bt492.2.1 bt492.2.2.1 bt492.2.2.2.1 bt492.2.2.2.2.1 bt492.2.2.2.2.2.1 bt492.2.2.2.2.2.2.1 bt492.2.2.2.2.2.2.2.1 bt492.2.2.2.2.2.2.2.2.1 bt492.2.2.2.2.2.2.2.2.2))
set_option maxHeartbeats 8000000 in
set_option maxRecDepth 100000 in
theorem period_Year_Part.calls (k : Nat) (g : Nat) (s0_0 : Int) (s0_1 : Int) (s0_2 : Int) (s0_3 : Int) (s0_4 : Int) (s0_5 : Int) (s0_6 : Int) (s0_7 : Int) (s0_8 : Int) (a1 : Int) (r1 : Int) (r2 : Int) (r3 : Int) (r4 : Int) (r5 : Int) (r6 : Int) (r7 : Int) (r8 : Int) (r9 : Int) (r10 : Int) (r11 : Int) (r12 : Int) (w0 w : World) (hI : IsS180 w0 w g s0_0 s0_1 s0_2 s0_3 s0_4 s0_5 s0_6 s0_7 s0_8) (hB : Below w0.heap.size w0 w) (h : period_Year_Part.f k s0_0 s0_1 s0_2 s0_3 s0_4 s0_5 s0_6 s0_7 s0_8 a1 = some (r1, r2, r3, r4, r5, r6, r7, r8, r9, r10, r11, r12)) :
  Calls Try.prog 135 #[.pointer (some ⟨g, 0, none⟩), .int .i64 a1] w fun e w' => e = .returned (.tuple #[.int .i64 r1, .int .i64 r2, .int .i64 r3]) ∧ IsS180 w0 w' g r4 r5 r6 r7 r8 r9 r10 r11 r12 ∧ Below w0.heap.size w0 w' ∧ KeepBut w w' g none := by
 have HI0 := A_ hI; have HK := A_ (KeepBut.refl w g none); have HL := A_ hB.size; clear hI; have HW0 := A_ hB.size; have HB := A_ hB; clear hB; unfold period_Year_Part.f at h; have H := h; clear h; have HC3 := A_ H; clear H; go_enter Try.func135, Try.ntmps135
 go_upto_region 1 with (fail)
 repeat (go_quiet (fail); go_upto_region 1 with (fail))
 go_cut [14] (fun v14 wc => ∃ (kq : Nat) (x14_2 : Bool) (x1000_2 : Int) (x1001_2 : Int) (x1002_2 : Int) (x1003_2 : Int) (x1004_2 : Int) (x1005_2 : Int) (x1006_2 : Int) (x1007_2 : Int) (x1008_2 : Int), v14 = .bool x14_2 ∧ Aside0 (period_Year_Part.j0 kq a1 x14_2 x1000_2 x1001_2 x1002_2 x1003_2 x1004_2 x1005_2 x1006_2 x1007_2 x1008_2 = some (r1, r2, r3, r4, r5, r6, r7, r8, r9, r10, r11, r12)) ∧ Aside0 (kq ≤ k) ∧ Aside0 (IsS180 w0 wc g x1000_2 x1001_2 x1002_2 x1003_2 x1004_2 x1005_2 x1006_2 x1007_2 x1008_2) ∧ Aside0 (KeepBut w wc g none) ∧ Aside0 (Below w0.heap.size w0 wc))
 case first =>
  have H := HC3.out; clear HC3; by_cases c4 : a1 < 1
  ·rw [if_pos c4] at H; have c4b0 := decide_eq_true c4; clear c4
   (first | rw [c4b0] | (simp only [i64_w, i32_w]; rw [c4b0]) | skip)
   have H' := A_ H; clear H
   go_wp2
   repeat (go_quiet (fail); try go_wp2)
   go_meet
   case rel => exact ⟨_, (true), (s0_0), (s0_1), (s0_2), (s0_3), (s0_4), (s0_5), (s0_6), (s0_7), (s0_8), (sx_), H', ⟨by first | omega | exact Nat.le_refl _⟩, ⟨is_ HI0⟩, ⟨by repeat (first | (with_reducible first | exact HK.out | apply KeepBut.set_ | apply keep_drewN | apply keep_drew | apply keep_alloc) | exact HK.out)⟩, ⟨bl1_ HB (IsS180.ge HI0.out)⟩⟩
  ·rw [if_neg c4] at H; have c4b0 := decide_eq_false c4; clear c4
   (first | rw [c4b0] | (simp only [i64_w, i32_w]; rw [c4b0]) | skip)
   replace H := Option.bind_eq_some_iff.mp H; obtain ⟨⟨t492, t493, t494, t495, t496, t497, t498, t499, t500, t501⟩, A50, H⟩ := H; (try dsimp only at H); have A5 := A_ A50; clear A50; have H' := A_ H; clear H; go_wp2_with (first | (go_at_call 86; (with_reducible refine (period_Year_Count.calls g s0_0 s0_1 s0_2 s0_3 s0_4 s0_5 s0_6 s0_7 s0_8 t492 t493 t494 t495 t496 t497 t498 t499 t500 t501 w0 _ ?side1 ?side2 A5.out).mono ?_); (case side1 => repeat (first | (with_reducible first | exact HI0.out | apply IsS180.alloc | apply IsS180.drewN | apply IsS180.drew | apply IsS180.set_0 | apply IsS180.set_1 | apply IsS180.set_2 | apply IsS180.set_3 | apply IsS180.set_4 | apply IsS180.set_5 | apply IsS180.set_6 | apply IsS180.set_7 | apply IsS180.set_8) | exact HI0.out)); (case side2 => repeat (first | (with_reducible first | exact HB.out | apply below_alloc | apply pw_below_drewN | apply below_drew1 | refine below_set ?_ (IsS180.ge HI0.out)) | exact HB.out)); rintro e w6 ⟨rfl, hi, hb, hk⟩; replace HK := A_ (KeepBut.trans (by repeat (first | (with_reducible first | exact HK.out | apply KeepBut.set_ | apply keep_drewN | apply keep_drew | apply keep_alloc) | exact HK.out)) hk (.inl rfl)); replace HB := A_ (hb); replace HI0 := A_ (hi); (try clear hb); (try clear hb2); (try clear hk); (try clear hi)))
   repeat (go_quiet (first | (go_at_call 86; (with_reducible refine (period_Year_Count.calls g s0_0 s0_1 s0_2 s0_3 s0_4 s0_5 s0_6 s0_7 s0_8 t492 t493 t494 t495 t496 t497 t498 t499 t500 t501 w0 _ ?side1 ?side2 A5.out).mono ?_); (case side1 => repeat (first | (with_reducible first | exact HI0.out | apply IsS180.alloc | apply IsS180.drewN | apply IsS180.drew | apply IsS180.set_0 | apply IsS180.set_1 | apply IsS180.set_2 | apply IsS180.set_3 | apply IsS180.set_4 | apply IsS180.set_5 | apply IsS180.set_6 | apply IsS180.set_7 | apply IsS180.set_8) | exact HI0.out)); (case side2 => repeat (first | (with_reducible first | exact HB.out | apply below_alloc | apply pw_below_drewN | apply below_drew1 | refine below_set ?_ (IsS180.ge HI0.out)) | exact HB.out)); rintro e w6 ⟨rfl, hi, hb, hk⟩; replace HK := A_ (KeepBut.trans (by repeat (first | (with_reducible first | exact HK.out | apply KeepBut.set_ | apply keep_drewN | apply keep_drew | apply keep_alloc) | exact HK.out)) hk (.inl rfl)); replace HB := A_ (hb); replace HI0 := A_ (hi); (try clear hb); (try clear hb2); (try clear hk); (try clear hi))); try go_wp2_with (first | (go_at_call 86; (with_reducible refine (period_Year_Count.calls g s0_0 s0_1 s0_2 s0_3 s0_4 s0_5 s0_6 s0_7 s0_8 t492 t493 t494 t495 t496 t497 t498 t499 t500 t501 w0 _ ?side1 ?side2 A5.out).mono ?_); (case side1 => repeat (first | (with_reducible first | exact HI0.out | apply IsS180.alloc | apply IsS180.drewN | apply IsS180.drew | apply IsS180.set_0 | apply IsS180.set_1 | apply IsS180.set_2 | apply IsS180.set_3 | apply IsS180.set_4 | apply IsS180.set_5 | apply IsS180.set_6 | apply IsS180.set_7 | apply IsS180.set_8) | exact HI0.out)); (case side2 => repeat (first | (with_reducible first | exact HB.out | apply below_alloc | apply pw_below_drewN | apply below_drew1 | refine below_set ?_ (IsS180.ge HI0.out)) | exact HB.out)); rintro e w6 ⟨rfl, hi, hb, hk⟩; replace HK := A_ (KeepBut.trans (by repeat (first | (with_reducible first | exact HK.out | apply KeepBut.set_ | apply keep_drewN | apply keep_drew | apply keep_alloc) | exact HK.out)) hk (.inl rfl)); replace HB := A_ (hb); replace HI0 := A_ (hi); (try clear hb); (try clear hb2); (try clear hk); (try clear hi))))
   go_meet
   case rel => exact ⟨_, (decide (a1 > t492)), (t493), (t494), (t495), (t496), (t497), (t498), (t499), (t500), (t501), (sx_), H', ⟨by first | omega | exact Nat.le_refl _⟩, ⟨is_ HI0⟩, ⟨by repeat (first | (with_reducible first | exact HK.out | apply KeepBut.set_ | apply keep_drewN | apply keep_drew | apply keep_alloc) | exact HK.out)⟩, ⟨bl1_ HB (IsS180.ge HI0.out)⟩⟩
 case rest =>
  clear HC3; try clear c1
  try clear p2
  try clear c4
  try clear c4b0
  obtain ⟨kq, x14_2, x1000_2, x1001_2, x1002_2, x1003_2, x1004_2, x1005_2, x1006_2, x1007_2, x1008_2, rfl, HA, HJ2, HI0, HK, HB⟩ := hcut
  cases kq with
  | zero => exact absurd HA.out (by simp [period_Year_Part.j0])
  | succ kj2 =>
   have H := HA.out; clear HA; simp only [period_Year_Part.j0] at H; by_cases c7 : x14_2 = true
   ·subst c7; rw [if_pos rfl] at H; simp only [Option.some.injEq, Prod.mk.injEq] at H; obtain ⟨rfl, rfl, rfl, rfl, rfl, rfl, rfl, rfl, rfl, rfl, rfl, rfl⟩ := H
    go_wp2
    repeat (go_quiet (fail); try go_wp2)
    go_ret3
    exact ⟨er_, is_ HI0, bl1_ HB (IsS180.ge HI0.out), by repeat (first | (with_reducible first | exact HK.out | apply KeepBut.set_ | apply keep_drewN | apply keep_drew | apply keep_alloc) | exact HK.out)⟩
   ·replace c7 := Bool.eq_false_iff.mpr c7; subst c7; rw [if_neg (show ¬ (false = true) by decide)] at H; replace H := Option.bind_eq_some_iff.mp H; obtain ⟨t502, A80, H⟩ := H; (try dsimp only at H); have A8 := A_ A80; clear A80; obtain ⟨ji9, hji9⟩ : ∃ j_ : Int, (mn a1 t502) = j_ := ⟨_, rfl⟩; replace H : ((period_Nominal.f x1000_2).bind fun t503 => (some (ji9, t503, 0, x1000_2, x1001_2, x1002_2, x1003_2, x1004_2, x1005_2, x1006_2, x1007_2, x1008_2))) = some (r1, r2, r3, r4, r5, r6, r7, r8, r9, r10, r11, r12) := by first | (rw [hji9] at H; exact H) | (simp only [hji9] at H ⊢; exact H)
    (try rw [hji9] at A8)
    have hji9_ : (if t502 < a1 then t502 else a1) = ji9 := hji9; replace H := Option.bind_eq_some_iff.mp H; obtain ⟨t503, A100, H⟩ := H; (try dsimp only at H); have A10 := A_ A100; clear A100; obtain rfl := Option.some.inj (A8.out.symm.trans A10.out); simp only [Option.some.injEq, Prod.mk.injEq] at H; obtain ⟨rfl, rfl, rfl, rfl, rfl, rfl, rfl, rfl, rfl, rfl, rfl, rfl⟩ := H; obtain ⟨HGz11, hgz11⟩ := HI0.out; have hcz11_0 := cellS180_0 HGz11; have hcz11_1 := cellS180_1 HGz11; have hcz11_2 := cellS180_2 HGz11; have hcz11_3 := cellS180_3 HGz11; have hcz11_4 := cellS180_4 HGz11; have hcz11_5 := cellS180_5 HGz11; have hcz11_6 := cellS180_6 HGz11; have hcz11_7 := cellS180_7 HGz11; have hcz11_8 := cellS180_8 HGz11; have hfz11_0 := blk_frozen HGz11 0; have hfz11_1 := blk_frozen HGz11 1; have hfz11_2 := blk_frozen HGz11 2; have hfz11_3 := blk_frozen HGz11 3; have hfz11_4 := blk_frozen HGz11 4; have hfz11_5 := blk_frozen HGz11 5; have hfz11_6 := blk_frozen HGz11 6; have hfz11_7 := blk_frozen HGz11 7; have hfz11_8 := blk_frozen HGz11 8; clear HGz11 hgz11; go_wp2_with (first | (go_at_call 88; (with_reducible refine (period_Nominal.calls x1000_2 t502 _ A8.out).mono ?_); rintro e w' ⟨rfl, ⟨nd, rfl⟩⟩; (try first | exact ⟨rfl, _, World.drewN_drewN _ _ _⟩ | exact ⟨rfl, _, Eq.trans (World.drewN_drewN _ _ _) (congrArg (World.drewN _) (Nat.add_assoc _ _ _))⟩)) | (go_at_call 88; (with_reducible refine (period_Nominal.calls x1000_2 t503 _ A10.out).mono ?_); rintro e w' ⟨rfl, ⟨nd, rfl⟩⟩; (try first | exact ⟨rfl, _, World.drewN_drewN _ _ _⟩ | exact ⟨rfl, _, Eq.trans (World.drewN_drewN _ _ _) (congrArg (World.drewN _) (Nat.add_assoc _ _ _))⟩)))
    repeat (go_quiet (first | (go_at_call 88; (with_reducible refine (period_Nominal.calls x1000_2 t502 _ A8.out).mono ?_); rintro e w' ⟨rfl, ⟨nd, rfl⟩⟩; (try first | exact ⟨rfl, _, World.drewN_drewN _ _ _⟩ | exact ⟨rfl, _, Eq.trans (World.drewN_drewN _ _ _) (congrArg (World.drewN _) (Nat.add_assoc _ _ _))⟩)) | (go_at_call 88; (with_reducible refine (period_Nominal.calls x1000_2 t503 _ A10.out).mono ?_); rintro e w' ⟨rfl, ⟨nd, rfl⟩⟩; (try first | exact ⟨rfl, _, World.drewN_drewN _ _ _⟩ | exact ⟨rfl, _, Eq.trans (World.drewN_drewN _ _ _) (congrArg (World.drewN _) (Nat.add_assoc _ _ _))⟩))); try go_wp2_with (first | (go_at_call 88; (with_reducible refine (period_Nominal.calls x1000_2 t502 _ A8.out).mono ?_); rintro e w' ⟨rfl, ⟨nd, rfl⟩⟩; (try first | exact ⟨rfl, _, World.drewN_drewN _ _ _⟩ | exact ⟨rfl, _, Eq.trans (World.drewN_drewN _ _ _) (congrArg (World.drewN _) (Nat.add_assoc _ _ _))⟩)) | (go_at_call 88; (with_reducible refine (period_Nominal.calls x1000_2 t503 _ A10.out).mono ?_); rintro e w' ⟨rfl, ⟨nd, rfl⟩⟩; (try first | exact ⟨rfl, _, World.drewN_drewN _ _ _⟩ | exact ⟨rfl, _, Eq.trans (World.drewN_drewN _ _ _) (congrArg (World.drewN _) (Nat.add_assoc _ _ _))⟩))))
    go_ret3
    exact ⟨by first | rfl | (simp [errW_none, errW_some] <;> rfl) | (simp only [← hji9]; first | rfl | (simp [errW_none, errW_some] <;> rfl)) | (simp [*, errW_none, errW_some] <;> rfl), is_ HI0, bl1_ HB (IsS180.ge HI0.out), by repeat (first | (with_reducible first | exact HK.out | apply KeepBut.set_ | apply keep_drewN | apply keep_drew | apply keep_alloc) | exact HK.out)⟩
end Go.Proofs.Ytcapgmoipacioaa.P
