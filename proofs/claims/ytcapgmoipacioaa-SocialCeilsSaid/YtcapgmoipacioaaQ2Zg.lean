import Derived.Test.YtcapgmoipacioaaHexactZg
import Derived.Test.YtcapgmoipacioaaQ1Zg
import Derived.Test.YtcapgmoipacioaaU3Zg
import Derived.Laws.ComplexArith
namespace Go.Proofs.Ytcapgmoipacioaa.P
open Go.RowKit Go.Proofs.YtcapgmoipacioaaW.PrintWords Go.Proofs.YtcapgmoipacioaaW.PrintLast Go.Proofs.YtcapgmoipacioaaW.PrintMore
open Go.Proofs.YtcapgmoipacioaaW.FlW
set_option linter.unusedVariables false
set_option linter.unusedSimpArgs false
theorem pair_rates.walk (a b c : Int) (w : World) : Calls Try.prog 120 #[.agg #[.int .i64 a, .int .i64 b, .int .i64 c]] w fun e w' => e = .returned (.complex .f64 (floatOfInt .f64 b) (floatOfInt .f64 c)) ∧ Below w.heap.size w w' := by
  have hu106 := Try.underlying106; go_enter Try.func120, Try.ntmps120
  go_wp2
  repeat (go_quiet (fail); try go_wp2)
  go_ret
  exact ⟨rfl, by repeat (first | exact Below.refl _ _ | apply below_alloc | apply pw_below_drewN | apply below_drew1)⟩
theorem prod_is {wd a b : Int} (hw : wd.natAbs ≤ 2 ^ 53) (ha : a.natAbs ≤ 2 ^ 53) (hb : b.natAbs ≤ 2 ^ 53) (ha2 : (wd * a).natAbs ≤ 2 ^ 53) (hb2 : (wd * b).natAbs ≤ 2 ^ 53) :
    ∃ p q, (∀ w_ : World, (binOp .mul 23 (.complex .f64 (floatOfInt .f64 wd) 0) (.complex .f64 (floatOfInt .f64 a) (floatOfInt .f64 b))).run Try.prog w_ = .ok (.complex .f64 p q) w_) ∧ Fl p (wd * a) ∧ Fl q (wd * b) := by
  have z : (0 : Int).natAbs ≤ 2 ^ 53 := by decide
  obtain ⟨r1, e1, f1⟩ := fl_mul (fl_of_int wd hw) (fl_of_int a ha) hw ha ha2; obtain ⟨r2, e2, f2⟩ := fl_mul fl_zero (fl_of_int b hb) z hb (by rw [Int.zero_mul]; exact z); obtain ⟨r3, e3, f3⟩ := fl_mul (fl_of_int wd hw) (fl_of_int b hb) hw hb hb2; obtain ⟨r4, e4, f4⟩ := fl_mul fl_zero (fl_of_int a ha) z ha (by rw [Int.zero_mul]; exact z); rw [Int.zero_mul] at f2 f4; obtain ⟨p, e5, f5⟩ := fl_sub f1 f2 ha2 z (by rw [Int.sub_zero]; exact ha2); obtain ⟨q, e6, f6⟩ := fl_add f3 f4 hb2 z (by rw [Int.add_zero]; exact hb2); rw [Int.sub_zero] at f5; rw [Int.add_zero] at f6; exact ⟨p, q, fun w_ => run_complex_mul w_ 23 _ _ _ _ p q (by unfold cMulBits; rw [e1, Option.bind_some, e2, Option.bind_some, e5, Option.bind_some, e3, Option.bind_some, e4, Option.bind_some, e6, Option.bind_some]), f5, f6⟩
theorem both_add {s t p q : Nat} {a b c d : Int} (hs : Fl s a) (ht : Fl t b) (hp : Fl p c) (hq : Fl q d) (ha : a.natAbs ≤ 2 ^ 53) (hb : b.natAbs ≤ 2 ^ 53) (hc : c.natAbs ≤ 2 ^ 53) (hd : d.natAbs ≤ 2 ^ 53) (h1 : (a + c).natAbs ≤ 2 ^ 53) (h2 : (b + d).natAbs ≤ 2 ^ 53) :
    ∃ s' t', (∀ w_ : World, (binOp .add 23 (.complex .f64 s t) (.complex .f64 p q)).run Try.prog w_ = .ok (.complex .f64 s' t') w_) ∧ Fl s' (a + c) ∧ Fl t' (b + d) := by
  obtain ⟨r1, e1, f1⟩ := fl_add hs hp ha hc h1; obtain ⟨r2, e2, f2⟩ := fl_add ht hq hb hd h2; exact ⟨r1, r2, fun w_ => run_complex_sum w_ .add (.inl rfl) 23 .f64 _ _ _ _ r1 r2 (by unfold cSumBits; rw [e1, Option.bind_some, e2, Option.bind_some]), f1, f2⟩
theorem band_prod {l : List S106} (hg : Good l) {x i : Int} (hx : rightB x = true) (h0 : 0 ≤ i) (h1 : i < l.length) : (0 ≤ wdt x l i ∧ wdt x l i ≤ 100000000000) ∧ (0 ≤ wdt x l i * (rd_T106 l i).f1 ∧ wdt x l i * (rd_T106 l i).f1 ≤ 1000000000000000) ∧ (0 ≤ wdt x l i * (rd_T106 l i).f2 ∧ wdt x l i * (rd_T106 l i).f2 ≤ 1000000000000000) := by
  have a := wdt_bd hg h0 h1 hx; have b := hg.bd h0 h1; have m : ∀ r : Int, 0 ≤ r → r ≤ 10000 → 0 ≤ wdt x l i * r ∧ wdt x l i * r ≤ 1000000000000000 := fun r r0 r1 => ⟨Int.mul_nonneg a.1 r0, (mul_bound (A := 100000000000) (B := 10000) ⟨by omega, a.2⟩ ⟨r0, r1⟩).2⟩
  exact ⟨a, m _ b.2.2.2.2.1.1 b.2.2.2.2.1.2, m _ b.2.2.2.2.2.1 b.2.2.2.2.2.2⟩
theorem wdt_next {x : Int} {l : List S106} {i j : Int} (hj : i + 1 = j) (hc : j < (l.length : Int)) (hx : ¬ x ≤ (rd_T106 l i).f0) (hg : Good l) (h0 : 0 ≤ i) : mn x (rd_T106 l j).f0 - (rd_T106 l i).f0 = wdt x l i := by
  subst hj; have := (hg.bd (i := i + 1) (by omega) hc).2.2.2.1 (by omega); rw [show i + 1 - 1 = i by omega] at this; unfold wdt; rw [if_pos hc]; unfold mx mn; repeat' split
  all_goals omega
theorem wdt_last {x : Int} {l : List S106} {i j : Int} (hj : i + 1 = j) (hc : ¬ j < (l.length : Int)) (hx : ¬ x ≤ (rd_T106 l i).f0) : x - (rd_T106 l i).f0 = wdt x l i := by
  subst hj; unfold wdt; rw [if_neg hc]; unfold mx; split <;> omega
def bdJ (x : Int) (ad : Option Addr) (c0 : Nat) (l0 : List S106) (w : World) (R1 R2 : Int) (n : Nat) (a' : Act) (w' : World) : Prop :=
  ∃ (i acc1 acc2 : Int) (s t : Nat) (u9 u10 u11 u12 u13 u14 u15 u16 u17 u18 u19 u20 u21 u22 u23 u24 u25 u26 u27 u28 u29 u30 u31 u32 u33 u34 u35 u36 u37 u38 u39 u40 u41 u42 u43 u44 u45 u46 u47 u48 u49 u50 u51 u52 u53 u54 u55 u56 u57 u58 u59 u60 u61 u62 u63 u64 u65 : Value), a' = { tmps := #[.int .i64 x, .slice ad l0.length c0, undef, undef, .complex .f64 0 0, .int .i64 0, .int .i64 0, .complex .f64 s t, .int .i64 i, u9, u10, u11, u12, u13, u14, u15, u16, u17, u18, u19, u20, u21, u22, u23, u24, u25, u26, u27, u28, u29, u30, u31, u32, u33, u34, u35, u36, u37, u38, u39, u40, u41, u42, u43, u44, u45, u46, u47, u48, u49, u50, u51, u52, u53, u54, u55, u56, u57, u58, u59, u60, u61, u62, u63, u64, u65], defers := [] } ∧ 0 ≤ i ∧ i ≤ l0.length ∧ (l0.length : Int) - i = n ∧ 0 ≤ acc1 ∧ acc1 ≤ 1000000000000000 * i ∧ 0 ≤ acc2 ∧ acc2 ≤ 1000000000000000 * i ∧ Fl s acc1 ∧ Fl t acc2 ∧ exFrom S106.f1 x l0 n i acc1 = R1 ∧ exFrom S106.f2 x l0 n i acc2 = R2 ∧ Below w.heap.size w w'
set_option maxHeartbeats 4000000 in
set_option maxRecDepth 100000 in
theorem pair_Banded.good (x : Int) (A0 : Option Addr) (c0 : Nat) (l0 : List (S106)) (w : World) (hr0 : Kd.C k106 w A0 l0.length l0) (hc0 : l0.length ≤ c0) (hg : Good l0) (hx : rightB x = true) :
    Calls Try.prog 65 #[.int .i64 x, .slice A0 l0.length c0] w fun e w' => (∃ s t, e = .returned (.tuple #[.complex .f64 s t, .int .i64 0]) ∧ Fl s (exFrom S106.f1 x l0 l0.length 0 0) ∧ Fl t (exFrom S106.f2 x l0 l0.length 0 0)) ∧ Below w.heap.size w w' := by
  have hu106 := Try.underlying106; have HR0 := Aside0.mk hr0; have HC0 := Aside0.mk hc0; have HG := Aside0.mk hg; have HX := Aside0.mk hx; have hl8 := hg.len; clear hr0 hc0 hg hx; obtain ⟨R1, hR1⟩ : ∃ R, R = exFrom S106.f1 x l0 l0.length 0 0 := ⟨_, rfl⟩; obtain ⟨R2, hR2⟩ : ∃ R, R = exFrom S106.f2 x l0 l0.length 0 0 := ⟨_, rfl⟩; rw [← hR1, ← hR2]; have HRR := Aside0.mk (And.intro hR1 hR2); clear hR1 hR2; go_enter Try.func65, Try.ntmps65
  go_wp2
  refine wp_scope_pass 0 (bdJ x A0 c0 l0 w R1 R2) rfl ?_ ?_
  · clear HRR; rintro n a' wr hJ; obtain ⟨i, acc1, acc2, s, t, u9, u10, u11, u12, u13, u14, u15, u16, u17, u18, u19, u20, u21, u22, u23, u24, u25, u26, u27, u28, u29, u30, u31, u32, u33, u34, u35, u36, u37, u38, u39, u40, u41, u42, u43, u44, u45, u46, u47, u48, u49, u50, u51, u52, u53, u54, u55, u56, u57, u58, u59, u60, u61, u62, u63, u64, u65, rfl, hi0, hi1, hn, ha0, ha1, hb0, hb1, hs, ht, hF1, hF2, hB⟩ := hJ; have HB := Aside0.mk hB; have HF := Aside0.mk (And.intro hF1 hF2); have HS := Aside0.mk (And.intro hs ht); have HA := Aside0.mk (And.intro (And.intro ha0 ha1) (And.intro hb0 hb1)); have HN := Aside0.mk hn; have I0 := Aside0.mk hi0; clear hB hF1 hF2 hs ht ha0 ha1 hb0 hb1 hn; by_cases ci : i = (l0.length : Int)
    · have t1 : (i == (l0.length : Int)) = true := beq_iff_eq.2 ci; have HE : Aside0 (acc1 = R1 ∧ acc2 = R2) := ⟨ex_end HF.out.1 (by have := HN.out; omega), ex_end HF.out.2 (by have := HN.out; omega)⟩; clear ci hi0 hi1
      go_wp2
      simp only [Exit.jump]; go_ret2
      exact ⟨⟨s, t, rfl, by rw [← HE.out.1]; exact HS.out.1, by rw [← HE.out.2]; exact HS.out.2⟩, by repeat (first | (with_reducible first | exact HB.out | apply below_alloc | apply pw_below_drewN | apply below_drew1) | exact HB.out)⟩
    · have t1 : (i == (l0.length : Int)) = false := beq_eq_false_iff_ne.2 ci; obtain ⟨m, rfl⟩ : ∃ m, n = m + 1 := ⟨n - 1, by have := HN.out; omega⟩; have hi2 : i < (l0.length : Int) := by omega
      have I1 := Aside0.mk hi2; obtain ⟨ad, e, hx0, hx1, hx2⟩ := at_T106 HR0.out i hi0 hi2; cases e; have HX0 := Aside0.mk hx0; have HX1 := Aside0.mk hx1; have HX2 := Aside0.mk hx2; replace hx0 := (HB.out.cell (World.block_lt_of_cell? w _ hx0)).trans hx0; replace hx1 := (HB.out.cell (World.block_lt_of_cell? w _ hx1)).trans hx1; replace hx2 := (HB.out.cell (World.block_lt_of_cell? w _ hx2)).trans hx2; have p0 := eq_true hi0; have p1 := eq_true hi2; clear hi0 hi1 hi2 ci; by_cases cx : x ≤ (rd_T106 l0 i).f0
      · have t2 : decide (x ≤ (rd_T106 l0 i).f0) = true := decide_eq_true cx; have HE : Aside0 (acc1 = R1 ∧ acc2 = R2) := ⟨ex_stop HF.out.1 cx, ex_stop HF.out.2 cx⟩; clear cx
        go_wp2
        simp only [Exit.jump]; go_ret2
        exact ⟨⟨s, t, rfl, by rw [← HE.out.1]; exact HS.out.1, by rw [← HE.out.2]; exact HS.out.2⟩, by repeat (first | (with_reducible first | exact HB.out | apply below_alloc | apply pw_below_drewN | apply below_drew1) | exact HB.out)⟩
      · have t2 : decide (x ≤ (rd_T106 l0 i).f0) = false := decide_eq_false cx; have HGo := Aside0.mk (And.intro (ex_go HF.out.1 cx) (ex_go HF.out.2 cx)); have CX := Aside0.mk cx; clear cx; have HRb := Aside0.mk (HG.out.bd I0.out I1.out); have HPb := Aside0.mk (band_prod HG.out HX.out I0.out I1.out); have hpw : (2 : Nat) ^ 53 = 9007199254740992 := by decide
        have HPW := Aside0.mk hpw; clear hpw; obtain ⟨j, hj⟩ : ∃ j, i + 1 = j := ⟨_, rfl⟩; have HJ := Aside0.mk hj; have hinc : IntKind.i64.wrap (i + 1) = j := by rw [← HJ.out]; exact IntWalk.i64_in _ (by have := I0.out; have := I1.out; omega)
        clear hj; have hm := prod_is (wd := wdt x l0 i) (a := (rd_T106 l0 i).f1) (b := (rd_T106 l0 i).f2) (by have := HPb.out; have := HPW.out; omega) (by have := HRb.out; have := HPW.out; omega) (by have := HRb.out; have := HPW.out; omega) (by have := HPb.out; have := HPW.out; omega) (by have := HPb.out; have := HPW.out; omega); obtain ⟨p, q, hmul, hp, hq⟩ := hm; have hm2 := both_add HS.out.1 HS.out.2 hp hq (by have := HA.out; have := I1.out; have := HPW.out; omega) (by have := HA.out; have := I1.out; have := HPW.out; omega) (by have := HPb.out; have := HPW.out; omega) (by have := HPb.out; have := HPW.out; omega) (by have := HA.out; have := HPb.out; have := I1.out; have := HPW.out; omega) (by have := HA.out; have := HPb.out; have := I1.out; have := HPW.out; omega); obtain ⟨s', t', hadd, hs', ht'⟩ := hm2; have HS' := Aside0.mk (And.intro hs' ht'); clear hp hq hs' ht'; obtain ⟨wd, hwd⟩ : ∃ wd, wdt x l0 i = wd := ⟨_, rfl⟩; have HWD := Aside0.mk hwd; rw [hwd] at hmul HPb HGo HS'; clear hwd; by_cases cn : j < (l0.length : Int)
        · have t3 : decide (j < (l0.length : Int)) = true := decide_eq_true cn; have hj0 : 0 ≤ j := by have := HJ.out; have := I0.out; omega
          obtain ⟨ad2, e2, hy0, hy1, hy2⟩ := at_T106 HR0.out j hj0 cn; cases e2; have HY0 := Aside0.mk hy0; replace hy0 := (HB.out.cell (World.block_lt_of_cell? w _ hy0)).trans hy0; clear hy1 hy2; have p2 := eq_true hj0; have p3 := eq_true cn; have hnx := wdt_next HJ.out cn CX.out HG.out I0.out; clear cn hj0; by_cases cm : (rd_T106 l0 j).f0 < x
          · have p4 := eq_true cm
            have hsub : IntKind.i64.wrap ((rd_T106 l0 j).f0 - (rd_T106 l0 i).f0) = wd := by
              rw [show (rd_T106 l0 j).f0 = mn x (rd_T106 l0 j).f0 by unfold mn; split <;> omega, hnx, HWD.out]; exact IntWalk.i64_in _ (by have := HPb.out; omega)
            clear hnx cm; go_wp2_with fail
            go_region_with (go_at_call 120; refine (pair_rates.walk _ _ _ _).mono ?_; rintro e w1 ⟨rfl, hb⟩; have HB1 := Aside0.mk (below_step (by repeat (first | (with_reducible first | exact HB.out | apply below_alloc | apply pw_below_drewN | apply below_drew1) | exact HB.out)) hb); clear HB hb hx0 hx1 hx2 hy0; have HB := HB1; clear HB1; have hx0 := (HB.out.cell (World.block_lt_of_cell? w _ HX0.out)).trans HX0.out; have hx1 := (HB.out.cell (World.block_lt_of_cell? w _ HX1.out)).trans HX1.out; have hy0 := (HB.out.cell (World.block_lt_of_cell? w _ HY0.out)).trans HY0.out; have hx2 := (HB.out.cell (World.block_lt_of_cell? w _ HX2.out)).trans HX2.out)
            all_goals
              go_wp2
              go_step3
              exact ⟨rfl, m, Nat.lt_succ_self m, j, acc1 + wd * (rd_T106 l0 i).f1, acc2 + wd * (rd_T106 l0 i).f2, s', t', _, _, _, _, _, _, _, _, _, _, _, _, _, _, _, _, _, _, _, _, _, _, _, _, _, _, _, _, _, _, _, _, _, _, _, _, _, _, _, _, _, _, _, _, _, _, _, _, _, _, _, _, _, _, _, _, _, by first | rfl | (simp; done) | (simp [*]; done), by have := HJ.out; have := I0.out; omega, by have := HJ.out; have := I1.out; omega, by have := HJ.out; have := HN.out; omega, by have := HA.out; have := HPb.out; omega, by have := HJ.out; have := HA.out; have := HPb.out; omega, by have := HA.out; have := HPb.out; omega, by have := HJ.out; have := HA.out; have := HPb.out; omega, HS'.out.1, HS'.out.2, by rw [← HJ.out]; exact HGo.out.1, by rw [← HJ.out]; exact HGo.out.2, (by repeat (first | (with_reducible first | exact HB.out | apply below_alloc | apply pw_below_drewN | apply below_drew1) | exact HB.out))⟩
          · have p4 := eq_false cm
            have hsub : IntKind.i64.wrap (x - (rd_T106 l0 i).f0) = wd := by
              rw [show x - (rd_T106 l0 i).f0 = mn x (rd_T106 l0 j).f0 - (rd_T106 l0 i).f0 by unfold mn; split <;> omega, hnx, HWD.out]; exact IntWalk.i64_in _ (by have := HPb.out; omega)
            clear hnx cm; go_wp2_with fail
            go_region_with (go_at_call 120; refine (pair_rates.walk _ _ _ _).mono ?_; rintro e w1 ⟨rfl, hb⟩; have HB1 := Aside0.mk (below_step (by repeat (first | (with_reducible first | exact HB.out | apply below_alloc | apply pw_below_drewN | apply below_drew1) | exact HB.out)) hb); clear HB hb hx0 hx1 hx2 hy0; have HB := HB1; clear HB1; have hx0 := (HB.out.cell (World.block_lt_of_cell? w _ HX0.out)).trans HX0.out; have hx1 := (HB.out.cell (World.block_lt_of_cell? w _ HX1.out)).trans HX1.out; have hy0 := (HB.out.cell (World.block_lt_of_cell? w _ HY0.out)).trans HY0.out; have hx2 := (HB.out.cell (World.block_lt_of_cell? w _ HX2.out)).trans HX2.out)
            all_goals
              go_wp2
              go_step3
              exact ⟨rfl, m, Nat.lt_succ_self m, j, acc1 + wd * (rd_T106 l0 i).f1, acc2 + wd * (rd_T106 l0 i).f2, s', t', _, _, _, _, _, _, _, _, _, _, _, _, _, _, _, _, _, _, _, _, _, _, _, _, _, _, _, _, _, _, _, _, _, _, _, _, _, _, _, _, _, _, _, _, _, _, _, _, _, _, _, _, _, _, _, _, _, by first | rfl | (simp; done) | (simp [*]; done), by have := HJ.out; have := I0.out; omega, by have := HJ.out; have := I1.out; omega, by have := HJ.out; have := HN.out; omega, by have := HA.out; have := HPb.out; omega, by have := HJ.out; have := HA.out; have := HPb.out; omega, by have := HA.out; have := HPb.out; omega, by have := HJ.out; have := HA.out; have := HPb.out; omega, HS'.out.1, HS'.out.2, by rw [← HJ.out]; exact HGo.out.1, by rw [← HJ.out]; exact HGo.out.2, (by repeat (first | (with_reducible first | exact HB.out | apply below_alloc | apply pw_below_drewN | apply below_drew1) | exact HB.out))⟩
        · have t3 : decide (j < (l0.length : Int)) = false := decide_eq_false cn
          have hsub : IntKind.i64.wrap (x - (rd_T106 l0 i).f0) = wd := by
            rw [wdt_last HJ.out cn CX.out, HWD.out]; exact IntWalk.i64_in _ (by have := HPb.out; omega)
          clear cn; go_wp2_with fail
          go_region_with (go_at_call 120; refine (pair_rates.walk _ _ _ _).mono ?_; rintro e w1 ⟨rfl, hb⟩; have HB1 := Aside0.mk (below_step (by repeat (first | (with_reducible first | exact HB.out | apply below_alloc | apply pw_below_drewN | apply below_drew1) | exact HB.out)) hb); clear HB hb hx0 hx1 hx2; have HB := HB1; clear HB1; have hx0 := (HB.out.cell (World.block_lt_of_cell? w _ HX0.out)).trans HX0.out; have hx1 := (HB.out.cell (World.block_lt_of_cell? w _ HX1.out)).trans HX1.out; have hx2 := (HB.out.cell (World.block_lt_of_cell? w _ HX2.out)).trans HX2.out)
          all_goals
            go_wp2
            go_step3
            exact ⟨rfl, m, Nat.lt_succ_self m, j, acc1 + wd * (rd_T106 l0 i).f1, acc2 + wd * (rd_T106 l0 i).f2, s', t', _, _, _, _, _, _, _, _, _, _, _, _, _, _, _, _, _, _, _, _, _, _, _, _, _, _, _, _, _, _, _, _, _, _, _, _, _, _, _, _, _, _, _, _, _, _, _, _, _, _, _, _, _, _, _, _, _, by first | rfl | (simp; done) | (simp [*]; done), by have := HJ.out; have := I0.out; omega, by have := HJ.out; have := I1.out; omega, by have := HJ.out; have := HN.out; omega, by have := HA.out; have := HPb.out; omega, by have := HJ.out; have := HA.out; have := HPb.out; omega, by have := HA.out; have := HPb.out; omega, by have := HJ.out; have := HA.out; have := HPb.out; omega, HS'.out.1, HS'.out.2, by rw [← HJ.out]; exact HGo.out.1, by rw [← HJ.out]; exact HGo.out.2, (by repeat (first | (with_reducible first | exact HB.out | apply below_alloc | apply pw_below_drewN | apply below_drew1) | exact HB.out))⟩
  · intro weak; have hck : band_Check.f l0 = some 0 := by rw [band_Check_is, good_iff.2 HG.out]
    have HCK := Aside0.mk hck; clear hck; have hxx : rightB x = true := HX.out; have HB := Aside0.mk (Below.refl w.heap.size w)
    go_wp2_with (first
      | (go_at_call 36; refine (band_Check.calls A0 c0 l0 0 _ HR0.out HC0.out HCK.out).mono ?_; rintro e w1 ⟨rfl, hb⟩; have HB1 := Aside0.mk (below_step (by repeat (first | (with_reducible first | exact HB.out | apply below_alloc | apply pw_below_drewN | apply below_drew1) | exact HB.out)) hb); clear HB hb; have HB := HB1; clear HB1)
      | (go_at_call 118; refine (right_one x _ 1 (by omega) _ (by simp)).mono ?_; rintro e w2 ⟨rfl, ⟨nd, rfl⟩⟩))
    go_step3
    refine (by assumption : ∀ a w, _ → _) _ _ (weak l0.length _ _ ⟨0, 0, 0, 0, 0, _, _, _, _, _, _, _, _, _, _, _, _, _, _, _, _, _, _, _, _, _, _, _, _, _, _, _, _, _, _, _, _, _, _, _, _, _, _, _, _, _, _, _, _, _, _, _, _, _, _, _, _, _, _, _, _, _, rfl, by omega, by omega, by omega, by omega, by omega, by omega, by omega, fl_zero, fl_zero, HRR.out.1.symm, HRR.out.2.symm, (by repeat (first | (with_reducible first | exact HB.out | apply below_alloc | apply pw_below_drewN | apply below_drew1) | exact HB.out))⟩)
end Go.Proofs.Ytcapgmoipacioaa.P
