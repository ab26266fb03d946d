import Derived.Test.YtcapgmoipacioaaPtZg
import Derived.Test.YtcapgmoipacioaaPpfracZg
namespace Go
theorem wp_scope_pass {P : Program} {a : Act} {w : World} {Q : Exit → Act → World → Prop} {c rest : Code} (l : Nat) (J : Nat → Act → World → Prop) (hf : findLabel c l = some (Code.skip.seq rest))
    (pass : ∀ n a w, J n a w → rest.wp P (Exit.jump l (fun a' w' => ∃ n', n' < n ∧ J n' a' w') Q) a w)
    (first : (∀ n a w, J n a w → rest.wp P (Exit.jump l (fun a' w' => ∃ n, J n a' w') Q) a w) → c.wp P (Exit.jump l (fun a' w' => ∃ n, J n a' w') Q) a w) : (Code.scope c).wp P Q a w := by
  have weak : ∀ n a w, J n a w → rest.wp P (Exit.jump l (fun a' w' => ∃ n, J n a' w') Q) a w := fun n a w h =>
    wp_mono (pass n a w h) (fun e a' w' q => by
      cases e with
      | goto l' => exact ⟨q.1, q.2.choose, q.2.choose_spec.2⟩
      | normal => exact q
      | exit id => exact q
      | ret => exact q
      | panic ch => exact q
      | outgrown => exact q)
  refine wp_scope_jumps l (fun a w => ∃ n, J n a w) (fun a w => leastOf (fun n => J n a w)) hf (first weak) ?_
  intro a w hJ; have hl := leastOf_spec hJ; refine wp_seq (wp_skip ?_)
  show rest.wp P _ a w
  refine wp_mono (pass _ a w hl.1) ?_
  intro e a' w' q
  cases e with
  | goto l' =>
    obtain ⟨q1, n', hlt, hJ'⟩ := q; exact ⟨q1, ⟨n', hJ'⟩, Nat.lt_of_le_of_lt ((leastOf_spec (p := fun n => J n a' w') ⟨n', hJ'⟩).2 n' hJ') hlt⟩
  | normal => exact q
  | exit id => exact q
  | ret => exact q
  | panic ch => exact q
  | outgrown => exact q
end Go
namespace Go.Proofs.Ytcapgmoipacioaa.P
open Go.RowKit Go.Proofs.YtcapgmoipacioaaW.PrintWords Go.Proofs.YtcapgmoipacioaaW.PrintLast Go.Proofs.YtcapgmoipacioaaW.PrintMore
set_option linter.unusedVariables false
set_option linter.unusedSimpArgs false
def rateOk (x : Int) : Bool := decide (0 ≤ x ∧ x ≤ 10000)
def bcAt (l : List S106) (i : Int) : Int :=
  if (rd_T106 l i).f0 < 0 then 1 else if 100000000000 < (rd_T106 l i).f0 then 1 else if i = 0 ∧ (rd_T106 l i).f0 ≠ 0 then 1
  else if 0 < i ∧ (rd_T106 l i).f0 ≤ (rd_T106 l (i - 1)).f0 then 6
  else if rateOk (rd_T106 l i).f1 = false then 50 else if rateOk (rd_T106 l i).f2 = false then 50 else 0
def bcFrom (l : List S106) : Nat → Int → Int
  | 0, _ => 0
  | n + 1, i => if bcAt l i = 0 then bcFrom l n (i + 1) else bcAt l i
theorem bc_err {l : List S106} {m : Nat} {i R c : Int} (h : bcFrom l (m + 1) i = R) (hz : bcAt l i = c) (hc : c ≠ 0) : c = R := by
  rw [bcFrom, hz, if_neg hc] at h; exact h
theorem bc_ok {l : List S106} {m : Nat} {i R : Int} (h : bcFrom l (m + 1) i = R) (hz : bcAt l i = 0) : bcFrom l m (i + 1) = R := by
  rw [bcFrom, if_pos hz] at h; exact h
theorem bc_end {l : List S106} {m : Nat} {i R : Int} (h : bcFrom l m i = R) (hm : m = 0) : 0 = R := by subst hm; exact h
def band_Check.f (l0 : List (S106)) : Option (Int) := some (if l0.length = 0 ∨ 8 < l0.length then 2 else bcFrom l0 l0.length 0)
theorem rate_is (x : Int) : frac_Rate.f x = some (rateOk x) := by
  unfold frac_Rate.f rateOk; by_cases h : x ≥ 0
  · rw [if_pos h]; simp only [Option.some.injEq]; exact decide_eq_decide.2 ⟨fun q => ⟨h, q⟩, fun q => q.2⟩
  · rw [if_neg h]; simp only [Option.some.injEq]; exact (decide_eq_false (fun q => h q.1)).symm
def bcJ (ad : Option Addr) (c0 : Nat) (l0 : List S106) (w : World) (R : Int) (n : Nat) (a' : Act) (w' : World) : Prop :=
  ∃ (i : Int) (u4 u5 u6 u7 u8 u9 u10 u11 u12 u13 u14 u15 u16 u17 u18 u19 u20 u21 u22 u23 u24 u25 u26 u27 u28 u29 u30 u31 u32 u33 u34 u35 u36 u37 u38 u39 u40 u41 u42 u43 u44 u45 u46 u47 u48 u49 u50 u51 u52 u53 u54 u55 u56 u57 u58 u59 u60 u61 u62 u63 u64 u65 : Value), a' = { tmps := #[.slice ad l0.length c0, undef, .int .i64 0, .int .i64 i, u4, u5, u6, u7, u8, u9, u10, u11, u12, u13, u14, u15, u16, u17, u18, u19, u20, u21, u22, u23, u24, u25, u26, u27, u28, u29, u30, u31, u32, u33, u34, u35, u36, u37, u38, u39, u40, u41, u42, u43, u44, u45, u46, u47, u48, u49, u50, u51, u52, u53, u54, u55, u56, u57, u58, u59, u60, u61, u62, u63, u64, u65], defers := [] } ∧ 0 ≤ i ∧ i < l0.length ∧ (l0.length : Int) - i = n ∧ bcFrom l0 n i = R ∧ Below w.heap.size w w'
set_option maxHeartbeats 4000000 in
set_option maxRecDepth 100000 in
theorem band_Check.loop (A0 : Option Addr) (c0 : Nat) (l0 : List (S106)) (w : World) (hr0 : Kd.C k106 w A0 l0.length l0) (h1 : ¬ l0.length = 0) (h2 : l0.length ≤ 8):
    Calls Try.prog 36 #[.slice A0 l0.length c0] w fun e w' => e = .returned (.int .i64 (bcFrom l0 l0.length 0)) ∧ Below w.heap.size w w' := by
  have hu106 := Try.underlying106; have HR0 := Aside0.mk hr0; clear hr0; have g1 : ((l0.length : Int) == 0) = false := by simpa using h1
  have g2 : decide (8 < l0.length) = false := decide_eq_false (by omega); obtain ⟨R, hR⟩ : ∃ R, R = bcFrom l0 l0.length 0 := ⟨_, rfl⟩; rw [← hR]; have HRR := Aside0.mk hR; clear hR; go_enter Try.func36, Try.ntmps36
  go_wp2
  refine wp_scope_pass 0 (bcJ A0 c0 l0 w R) rfl ?_ ?_
  · clear g1 g2 HRR; rintro n a' wr hJ; obtain ⟨i, u4, u5, u6, u7, u8, u9, u10, u11, u12, u13, u14, u15, u16, u17, u18, u19, u20, u21, u22, u23, u24, u25, u26, u27, u28, u29, u30, u31, u32, u33, u34, u35, u36, u37, u38, u39, u40, u41, u42, u43, u44, u45, u46, u47, u48, u49, u50, u51, u52, u53, u54, u55, u56, u57, u58, u59, u60, u61, u62, u63, u64, u65, rfl, hi0, hi1, hn, hF, hB⟩ := hJ; have HB := Aside0.mk hB; clear hB; obtain ⟨m, rfl⟩ : ∃ m, n = m + 1 := ⟨n - 1, by omega⟩; have HN : Aside0 ((l0.length : Int) - i = (m : Int) + 1) := ⟨by omega⟩; have HF := Aside0.mk hF; clear hn hF; obtain ⟨ad, e, hx0, hx1, hx2⟩ := at_T106 HR0.out i hi0 hi1; cases e; replace hx0 := (HB.out.cell (World.block_lt_of_cell? w _ hx0)).trans hx0; replace hx1 := (HB.out.cell (World.block_lt_of_cell? w _ hx1)).trans hx1; replace hx2 := (HB.out.cell (World.block_lt_of_cell? w _ hx2)).trans hx2; have I0 := Aside0.mk hi0; have I1 := Aside0.mk hi1; have p0 := eq_true hi0; have p1 := eq_true hi1; clear hi0 hi1; by_cases a1 : (rd_T106 l0 i).f0 < 0
    · have t1 : decide ((rd_T106 l0 i).f0 < 0) = true := decide_eq_true a1; have HE : Aside0 (1 = R) := ⟨bc_err HF.out (by unfold bcAt; rw [if_pos a1]) (by decide)⟩; clear a1
      go_wp2
      simp only [Exit.jump]; go_ret
      exact ⟨by rw [← HE.out]; rfl, by repeat (first | exact HB.out | apply below_alloc | apply pw_below_drewN | apply below_drew1)⟩
    have t1 : decide ((rd_T106 l0 i).f0 < 0) = false := decide_eq_false a1; by_cases a2 : 100000000000 < (rd_T106 l0 i).f0
    · have t2 : decide (100000000000 < (rd_T106 l0 i).f0) = true := decide_eq_true a2; have HE : Aside0 (1 = R) := ⟨bc_err HF.out (by unfold bcAt; rw [if_neg a1, if_pos a2]) (by decide)⟩; clear a1 a2
      go_wp2
      simp only [Exit.jump]; go_ret
      exact ⟨by rw [← HE.out]; rfl, by repeat (first | exact HB.out | apply below_alloc | apply pw_below_drewN | apply below_drew1)⟩
    have t2 : decide (100000000000 < (rd_T106 l0 i).f0) = false := decide_eq_false a2; have A12 : Aside0 (¬ (rd_T106 l0 i).f0 < 0 ∧ ¬ 100000000000 < (rd_T106 l0 i).f0) := ⟨a1, a2⟩; clear a1 a2; by_cases a3 : i = 0
    · by_cases a4 : (rd_T106 l0 i).f0 = 0
      · have A3 : Aside0 (¬ (i = 0 ∧ (rd_T106 l0 i).f0 ≠ 0)) := ⟨fun h => h.2 a4⟩; have A4 : Aside0 (¬ (0 < i ∧ (rd_T106 l0 i).f0 ≤ (rd_T106 l0 (i - 1)).f0)) := ⟨fun h => by omega⟩; have t3 : (i == 0) = true := beq_iff_eq.2 a3; have t3b : decide (0 < i) = false := decide_eq_false (by omega); have t4 : ((rd_T106 l0 i).f0 != 0) = false := bne_eq_false_iff_eq.2 a4; clear a3 a4
        cases r1 : rateOk (rd_T106 l0 i).f1 with
        | false =>
          have HE : Aside0 (50 = R) := ⟨bc_err HF.out (by unfold bcAt; rw [if_neg A12.out.1, if_neg A12.out.2, if_neg A3.out, if_neg A4.out, if_pos r1]) (by decide)⟩
          go_wp2
          go_quiet (fail)
          go_wp2_with (go_at_call 102; refine (frac_Rate.calls _ _ _ (rate_is _)).mono ?_; rintro e w' ⟨rfl, ⟨nd, rfl⟩⟩)
          simp only [Exit.jump]; go_ret
          exact ⟨by rw [← HE.out]; rfl, by repeat (first | exact HB.out | apply below_alloc | apply pw_below_drewN | apply below_drew1)⟩
        | true =>
          cases r2 : rateOk (rd_T106 l0 i).f2 with
          | false =>
            have HE : Aside0 (50 = R) := ⟨bc_err HF.out (by unfold bcAt; rw [if_neg A12.out.1, if_neg A12.out.2, if_neg A3.out, if_neg A4.out, if_neg (by rw [r1]; simp), if_pos r2]) (by decide)⟩
            go_wp2
            go_quiet (fail)
            go_wp2_with (go_at_call 102; refine (frac_Rate.calls _ _ _ (rate_is _)).mono ?_; rintro e w' ⟨rfl, ⟨nd, rfl⟩⟩)
            simp only [Exit.jump]; go_ret
            exact ⟨by rw [← HE.out]; rfl, by repeat (first | exact HB.out | apply below_alloc | apply pw_below_drewN | apply below_drew1)⟩
          | true =>
            have HZ : Aside0 (bcFrom l0 m (i + 1) = R) := ⟨bc_ok HF.out (by unfold bcAt; rw [if_neg A12.out.1, if_neg A12.out.2, if_neg A3.out, if_neg A4.out, if_neg (by rw [r1]; simp), if_neg (by rw [r2]; simp)])⟩; have hwr : IntKind.i64.wrap (i + 1) = i + 1 := IntWalk.i64_in _ (by have := I0.out; have := I1.out; omega); by_cases a5 : i + 1 < (l0.length : Int)
            · have t5 : decide (i + 1 < (l0.length : Int)) = true := decide_eq_true a5; have HA5 := Aside0.mk a5; clear a5
              go_wp2
              go_quiet (fail)
              go_wp2_with (go_at_call 102; refine (frac_Rate.calls _ _ _ (rate_is _)).mono ?_; rintro e w' ⟨rfl, ⟨nd, rfl⟩⟩)
              go_step3
              exact ⟨rfl, m, Nat.lt_succ_self m, i + 1, _, _, _, _, _, _, _, _, _, _, _, _, _, _, _, _, _, _, _, _, _, _, _, _, _, _, _, _, _, _, _, _, _, _, _, _, _, _, _, _, _, _, _, _, _, _, _, _, _, _, _, _, _, _, _, _, _, _, _, _, _, _, by first | rfl | (simp; done) | (simp [*]; done), by have := I0.out; omega, HA5.out, by have := HN.out; omega, HZ.out, by repeat (first | exact HB.out | apply below_alloc | apply pw_below_drewN | apply below_drew1)⟩
            · have t5 : decide (i + 1 < (l0.length : Int)) = false := decide_eq_false a5; have HE : Aside0 (0 = R) := ⟨bc_end HZ.out (by have := HN.out; omega)⟩; clear a5
              go_wp2
              go_quiet (fail)
              go_wp2_with (go_at_call 102; refine (frac_Rate.calls _ _ _ (rate_is _)).mono ?_; rintro e w' ⟨rfl, ⟨nd, rfl⟩⟩)
              simp only [Exit.jump]; go_ret
              exact ⟨by rw [← HE.out]; rfl, by repeat (first | exact HB.out | apply below_alloc | apply pw_below_drewN | apply below_drew1)⟩
      · have t3 : (i == 0) = true := beq_iff_eq.2 a3; have t4 : ((rd_T106 l0 i).f0 != 0) = true := bne_iff_ne.2 a4; have HE : Aside0 (1 = R) := ⟨bc_err HF.out (by unfold bcAt; rw [if_neg A12.out.1, if_neg A12.out.2, if_pos ⟨a3, a4⟩]) (by decide)⟩; clear a3 a4
        go_wp2
        simp only [Exit.jump]; go_ret
        exact ⟨by rw [← HE.out]; rfl, by repeat (first | exact HB.out | apply below_alloc | apply pw_below_drewN | apply below_drew1)⟩
    · have hip : 0 < i := by have := I0.out; omega
      have A3 : Aside0 (¬ (i = 0 ∧ (rd_T106 l0 i).f0 ≠ 0)) := ⟨fun h => a3 h.1⟩; have t3 : (i == 0) = false := beq_eq_false_iff_ne.2 a3; have t3b : decide (0 < i) = true := decide_eq_true hip; obtain ⟨j, hj⟩ : ∃ j, j = i - 1 := ⟨_, rfl⟩; have hwm : IntKind.i64.wrap (i - 1) = j := (IntWalk.i64_in _ (by have := I1.out; omega)).trans hj.symm; have q0 : 0 ≤ j := by omega
      have q1 : j < (l0.length : Int) := by have := I1.out; omega
      obtain ⟨ad2, e, hy0, hy1, hy2⟩ := at_T106 HR0.out j q0 q1; obtain rfl : ad = ad2 := by injection e
      clear e hy1 hy2; replace hy0 := (HB.out.cell (World.block_lt_of_cell? w _ hy0)).trans hy0; have hy0a : ∀ (o : Obj), (wr.alloc o).cell? (ad.add (j.toNat * 3)) = some (.int .i64 (rd_T106 l0 j).f0) := fun o => pw_cell_below (below_alloc (Below.refl _ _) o) hy0
      clear hy0; have HJ := Aside0.mk hj; clear hj; replace q0 := eq_true q0; replace q1 := eq_true q1; by_cases a4 : (rd_T106 l0 i).f0 ≤ (rd_T106 l0 j).f0
      · have t4 : decide ((rd_T106 l0 i).f0 ≤ (rd_T106 l0 j).f0) = true := decide_eq_true a4; have HE : Aside0 (6 = R) := ⟨bc_err HF.out (by unfold bcAt; rw [if_neg A12.out.1, if_neg A12.out.2, if_neg A3.out, if_pos ⟨hip, by rw [← HJ.out]; exact a4⟩]) (by decide)⟩; clear a3 a4 hip
        go_wp2
        go_quiet (fail)
        go_wp2
        simp only [Exit.jump]; go_ret
        exact ⟨by rw [← HE.out]; rfl, by repeat (first | exact HB.out | apply below_alloc | apply pw_below_drewN | apply below_drew1)⟩
      · have t4 : decide ((rd_T106 l0 i).f0 ≤ (rd_T106 l0 j).f0) = false := decide_eq_false a4; have A4 : Aside0 (¬ (0 < i ∧ (rd_T106 l0 i).f0 ≤ (rd_T106 l0 (i - 1)).f0)) := ⟨fun h => a4 (by rw [HJ.out]; exact h.2)⟩; clear a3 a4 hip
        cases r1 : rateOk (rd_T106 l0 i).f1 with
        | false =>
          have HE : Aside0 (50 = R) := ⟨bc_err HF.out (by unfold bcAt; rw [if_neg A12.out.1, if_neg A12.out.2, if_neg A3.out, if_neg A4.out, if_pos r1]) (by decide)⟩
          go_wp2
          go_quiet (fail)
          go_wp2_with (go_at_call 102; refine (frac_Rate.calls _ _ _ (rate_is _)).mono ?_; rintro e w' ⟨rfl, ⟨nd, rfl⟩⟩)
          simp only [Exit.jump]; go_ret
          exact ⟨by rw [← HE.out]; rfl, by repeat (first | exact HB.out | apply below_alloc | apply pw_below_drewN | apply below_drew1)⟩
        | true =>
          cases r2 : rateOk (rd_T106 l0 i).f2 with
          | false =>
            have HE : Aside0 (50 = R) := ⟨bc_err HF.out (by unfold bcAt; rw [if_neg A12.out.1, if_neg A12.out.2, if_neg A3.out, if_neg A4.out, if_neg (by rw [r1]; simp), if_pos r2]) (by decide)⟩
            go_wp2
            go_quiet (fail)
            go_wp2_with (go_at_call 102; refine (frac_Rate.calls _ _ _ (rate_is _)).mono ?_; rintro e w' ⟨rfl, ⟨nd, rfl⟩⟩)
            simp only [Exit.jump]; go_ret
            exact ⟨by rw [← HE.out]; rfl, by repeat (first | exact HB.out | apply below_alloc | apply pw_below_drewN | apply below_drew1)⟩
          | true =>
            have HZ : Aside0 (bcFrom l0 m (i + 1) = R) := ⟨bc_ok HF.out (by unfold bcAt; rw [if_neg A12.out.1, if_neg A12.out.2, if_neg A3.out, if_neg A4.out, if_neg (by rw [r1]; simp), if_neg (by rw [r2]; simp)])⟩; have hwr : IntKind.i64.wrap (i + 1) = i + 1 := IntWalk.i64_in _ (by have := I0.out; have := I1.out; omega); by_cases a5 : i + 1 < (l0.length : Int)
            · have t5 : decide (i + 1 < (l0.length : Int)) = true := decide_eq_true a5; have HA5 := Aside0.mk a5; clear a5
              go_wp2
              go_quiet (fail)
              go_wp2_with (go_at_call 102; refine (frac_Rate.calls _ _ _ (rate_is _)).mono ?_; rintro e w' ⟨rfl, ⟨nd, rfl⟩⟩)
              go_step3
              exact ⟨rfl, m, Nat.lt_succ_self m, i + 1, _, _, _, _, _, _, _, _, _, _, _, _, _, _, _, _, _, _, _, _, _, _, _, _, _, _, _, _, _, _, _, _, _, _, _, _, _, _, _, _, _, _, _, _, _, _, _, _, _, _, _, _, _, _, _, _, _, _, _, _, _, _, by first | rfl | (simp; done) | (simp [*]; done), by have := I0.out; omega, HA5.out, by have := HN.out; omega, HZ.out, by repeat (first | exact HB.out | apply below_alloc | apply pw_below_drewN | apply below_drew1)⟩
            · have t5 : decide (i + 1 < (l0.length : Int)) = false := decide_eq_false a5; have HE : Aside0 (0 = R) := ⟨bc_end HZ.out (by have := HN.out; omega)⟩; clear a5
              go_wp2
              go_quiet (fail)
              go_wp2_with (go_at_call 102; refine (frac_Rate.calls _ _ _ (rate_is _)).mono ?_; rintro e w' ⟨rfl, ⟨nd, rfl⟩⟩)
              simp only [Exit.jump]; go_ret
              exact ⟨by rw [← HE.out]; rfl, by repeat (first | exact HB.out | apply below_alloc | apply pw_below_drewN | apply below_drew1)⟩
  · intro weak
    go_wp2
    go_step3
    refine (by assumption : ∀ a w, _ → _) _ _ (weak l0.length _ _ ⟨0, _, _, _, _, _, _, _, _, _, _, _, _, _, _, _, _, _, _, _, _, _, _, _, _, _, _, _, _, _, _, _, _, _, _, _, _, _, _, _, _, _, _, _, _, _, _, _, _, _, _, _, _, _, _, _, _, _, _, _, _, _, _, rfl, by omega, by omega, by omega, HRR.out.symm, Below.refl _ _⟩)
set_option maxHeartbeats 2000000 in
set_option maxRecDepth 100000 in
theorem band_Check.long (A0 : Option Addr) (c0 : Nat) (n : Nat) (w : World) (h : n = 0 ∨ 8 < n) :
    Calls Try.prog 36 #[.slice A0 n c0] w fun e w' => e = .returned (.int .i64 2) ∧ Below w.heap.size w w' := by
  by_cases h0 : n = 0
  · subst h0; go_enter Try.func36, Try.ntmps36
    go_wp2
    go_step3
    go_wp2
    rw [Exit.noGoto_ret]; go_ret
    exact ⟨rfl, Below.refl _ _⟩
  · have g1 : ((n : Int) == 0) = false := by simpa using h0
    have g2 : decide (8 < n) = true := decide_eq_true (by omega); have g3 : decide ((8 : Int) < n) = true := decide_eq_true (by omega); clear h h0; go_enter Try.func36, Try.ntmps36
    go_wp2
    go_step3
    go_wp2
    rw [Exit.noGoto_ret]; go_ret
    exact ⟨rfl, Below.refl _ _⟩
theorem band_Check.calls (A0 : Option Addr) (c0 : Nat) (l0 : List (S106)) (r : Int) (w : World) (hr0 : Kd.C k106 w A0 l0.length l0) (hc0 : l0.length ≤ c0) (h : band_Check.f l0 = some r) :
    Calls Try.prog 36 #[.slice A0 l0.length c0] w fun e w' => e = .returned (.int .i64 r) ∧ Below w.heap.size w w' := by
  have H := Option.some.inj h; by_cases hl : l0.length = 0 ∨ 8 < l0.length
  · rw [if_pos hl] at H; subst H; exact band_Check.long A0 c0 l0.length w hl
  · rw [if_neg hl] at H; subst H; exact band_Check.loop A0 c0 l0 w hr0 (by omega) (by omega)
end Go.Proofs.Ytcapgmoipacioaa.P
