import Derived.Test.YtcapgmoipacioaaHcheckZe
import Derived.Test.YtcapgmoipacioaaPpmoneyZe
import Derived.Test.YtcapgmoipacioaaPpfracZe
import Derived.Test.YtcapgmoipacioaaPpbandwidthZe
import Derived.Test.YtcapgmoipacioaaU1Ze
import Derived.Deep.RegionWith
namespace Go.Proofs.Ytcapgmoipacioaa.P
open Go.RowKit Go.Proofs.YtcapgmoipacioaaW.PrintWords Go.Proofs.YtcapgmoipacioaaW.PrintLast Go.Proofs.YtcapgmoipacioaaW.PrintMore
set_option linter.unusedVariables false
set_option linter.unusedSimpArgs false
structure Good (l : List S106) : Prop where
  pos : 0 < l.length
  len : l.length ≤ 8
  at_ : ∀ i : Int, 0 ≤ i → i < l.length → bcAt l i = 0
theorem bcAt_zero {l : List S106} {i : Int} (h : bcAt l i = 0) :
    0 ≤ (rd_T106 l i).f0 ∧ (rd_T106 l i).f0 ≤ 100000000000 ∧ (i = 0 → (rd_T106 l i).f0 = 0) ∧ (0 < i → (rd_T106 l (i - 1)).f0 < (rd_T106 l i).f0) ∧ (0 ≤ (rd_T106 l i).f1 ∧ (rd_T106 l i).f1 ≤ 10000) ∧ 0 ≤ (rd_T106 l i).f2 ∧ (rd_T106 l i).f2 ≤ 10000 := by
  unfold bcAt at h; by_cases a : (rd_T106 l i).f0 < 0
  · rw [if_pos a] at h; cases h
  rw [if_neg a] at h; by_cases b : 100000000000 < (rd_T106 l i).f0
  · rw [if_pos b] at h; cases h
  rw [if_neg b] at h; by_cases c : i = 0 ∧ (rd_T106 l i).f0 ≠ 0
  · rw [if_pos c] at h; cases h
  rw [if_neg c] at h; by_cases d : 0 < i ∧ (rd_T106 l i).f0 ≤ (rd_T106 l (i - 1)).f0
  · rw [if_pos d] at h; cases h
  rw [if_neg d] at h; by_cases e : rateOk (rd_T106 l i).f1 = false
  · rw [if_pos e] at h; cases h
  rw [if_neg e] at h; by_cases f : rateOk (rd_T106 l i).f2 = false
  · rw [if_pos f] at h; cases h
  have e' : 0 ≤ (rd_T106 l i).f1 ∧ (rd_T106 l i).f1 ≤ 10000 := by
    have : rateOk (rd_T106 l i).f1 = true := by simpa using e
    exact of_decide_eq_true this
  have f' : 0 ≤ (rd_T106 l i).f2 ∧ (rd_T106 l i).f2 ≤ 10000 := by
    have : rateOk (rd_T106 l i).f2 = true := by simpa using f
    exact of_decide_eq_true this
  refine ⟨by omega, by omega, fun h0 => ?_, fun hi => ?_, e', f'⟩
  · exact Decidable.byContradiction fun hn => c ⟨h0, hn⟩
  · exact Int.not_le.1 fun hn => d ⟨hi, hn⟩
theorem bc_all {l : List S106} : ∀ (n : Nat) (i : Int), bcFrom l n i = 0 → ∀ j, i ≤ j → j < i + n → bcAt l j = 0
  | 0, i, _, j, h1, h2 => by omega
  | n + 1, i, h, j, h1, h2 => by
    rw [bcFrom] at h
    by_cases a : bcAt l i = 0
    · rw [if_pos a] at h
      by_cases e : j = i
      · subst e; exact a
      · exact bc_all n (i + 1) h j (by omega) (by omega)
    · rw [if_neg a] at h; exact absurd h a
theorem bc_none {l : List S106} : ∀ (n : Nat) (i : Int), (∀ j, i ≤ j → j < i + n → bcAt l j = 0) → bcFrom l n i = 0
  | 0, i, _ => rfl
  | n + 1, i, h => by
    rw [bcFrom, if_pos (h i (by omega) (by omega))]
    exact bc_none n (i + 1) fun j h1 h2 => h j (by omega) (by omega)
def bandCheck (l : List S106) : Int := if l.length = 0 ∨ 8 < l.length then 2 else bcFrom l l.length 0
theorem band_Check_is (l : List S106) : band_Check.f l = some (bandCheck l) := rfl
theorem good_iff {l : List S106} : bandCheck l = 0 ↔ Good l := by
  unfold bandCheck
  constructor
  · intro h; by_cases a : l.length = 0 ∨ 8 < l.length
    · rw [if_pos a] at h; cases h
    · rw [if_neg a] at h; exact ⟨by omega, by omega, fun i h0 h1 => bc_all _ _ h i h0 (by omega)⟩
  · intro h; have := h.pos; have := h.len; rw [if_neg (by omega)]; exact bc_none _ _ fun j h1 h2 => h.at_ j h1 (by omega)
theorem Good.bd {l : List S106} (h : Good l) {i : Int} (h0 : 0 ≤ i) (h1 : i < l.length) :
    0 ≤ (rd_T106 l i).f0 ∧ (rd_T106 l i).f0 ≤ 100000000000 ∧ (i = 0 → (rd_T106 l i).f0 = 0) ∧ (0 < i → (rd_T106 l (i - 1)).f0 < (rd_T106 l i).f0) ∧ (0 ≤ (rd_T106 l i).f1 ∧ (rd_T106 l i).f1 ≤ 10000) ∧ 0 ≤ (rd_T106 l i).f2 ∧ (rd_T106 l i).f2 ≤ 10000 := bcAt_zero (h.at_ i h0 h1)
def wdt (x : Int) (l : List S106) (i : Int) : Int := mx 0 ((if i + 1 < (l.length : Int) then mn x (rd_T106 l (i + 1)).f0 else x) - (rd_T106 l i).f0)
def exFrom (g : S106 → Int) (x : Int) (l : List S106) : Nat → Int → Int → Int
  | 0, _, acc => acc
  | n + 1, i, acc => if x ≤ (rd_T106 l i).f0 then acc else exFrom g x l n (i + 1) (acc + wdt x l i * g (rd_T106 l i))
def eachM (g : S106 → Int) (x : Int) (l : List S106) : Int × Int :=
  if bandCheck l = 0 then (if rightB x then (exFrom g x l l.length 0 0, 0) else (0, 10)) else (0, bandCheck l)
theorem ex_end {g : S106 → Int} {x : Int} {l : List S106} {n : Nat} {i acc R : Int} (h : exFrom g x l n i acc = R) (hn : n = 0) : acc = R := by subst hn; exact h
theorem ex_stop {g : S106 → Int} {x : Int} {l : List S106} {n : Nat} {i acc R : Int} (h : exFrom g x l (n + 1) i acc = R) (c : x ≤ (rd_T106 l i).f0) : acc = R := by rw [exFrom, if_pos c] at h; exact h
theorem ex_go {g : S106 → Int} {x : Int} {l : List S106} {n : Nat} {i acc R : Int} (h : exFrom g x l (n + 1) i acc = R) (c : ¬ x ≤ (rd_T106 l i).f0) : exFrom g x l n (i + 1) (acc + wdt x l i * g (rd_T106 l i)) = R := by rw [exFrom, if_neg c] at h; exact h
def band_Exact.f (a0 : Int) (l1 : List (S106)) : Option (Int × Int) := some (eachM S106.f1 a0 l1)
theorem wdt_bd {x : Int} {l : List S106} (h : Good l) {i : Int} (h0 : 0 ≤ i) (h1 : i < l.length) (hx : rightB x = true) : 0 ≤ wdt x l i ∧ wdt x l i ≤ 100000000000 := by
  have b := h.bd h0 h1; have hx := rightB_iff.1 hx; unfold wdt mx mn
  repeat' split
  all_goals omega
theorem width_is {x : Int} {l : List S106} (h : Good l) {i : Int} (h0 : 0 ≤ i) (h1 : i < l.length) (hx : rightB x = true) : band_width.f x i l = some (wdt x l i) := by
  have b := h.bd h0 h1; have hx := rightB_iff.1 hx; have hl := h.len; unfold band_width.f wdt; rw [wrap_id (x := i + 1) (by omega) (by omega)]; by_cases c : i + 1 < (l.length : Int)
  · have b2 := h.bd (i := i + 1) (by omega) c; rw [if_pos c, if_pos (by omega), if_pos h0, if_pos h1, if_pos c, wrap_id]
    · unfold mn; split <;> omega
    · unfold mn; split <;> omega
  · rw [if_neg c, if_pos h0, if_pos h1, if_neg c, wrap_id (by omega) (by omega)]
theorem exact1 (a b c : Int) (w : World) : Calls Try.prog 100 #[.agg #[.int .i64 a, .int .i64 b, .int .i64 c]] w fun e w' => e = .returned (.int .i64 b) ∧ Below w.heap.size w w' := by
  have hu106 := Try.underlying106; go_enter Try.func100, Try.ntmps100
  go_wp2
  go_ret
  exact ⟨rfl, by repeat (first | exact Below.refl _ _ | apply below_alloc)⟩
theorem reads_one {w : World} {g : Nat} {x : Int} (h : w.cell? ⟨g, 0, none⟩ = some (.int .i64 x)) : ReadsInt w .i64 (some ⟨g, 0, none⟩) 1 [x] :=
  ⟨rfl, by omega, fun _ => ⟨_, rfl, fun j hj => by
    obtain rfl : j = 0 := by omega
    rw [add_plain]; exact h⟩⟩
theorem right_one (x : Int) (g : Nat) (c : Nat) (hc : 1 ≤ c) (w : World) (h : w.cell? ⟨g, 0, none⟩ = some (.int .i64 x)) : Calls Try.prog 118 #[.slice (some ⟨g, 0, none⟩) 1 c] w fun e w' => e = .returned (.bool (rightB x)) ∧ Drawn0 w w' :=
  money_Right.calls 3 (some ⟨g, 0, none⟩) c [x] (rightB x) w (Kd.C_of_reads (d := (0 : Int)) (h1 := fun _ => rfl) (reads_one h)) hc (money_Right_one x 3 (by omega))
def eaJ100 (x : Int) (ad : Option Addr) (c0 : Nat) (l0 : List S106) (w : World) (R : Int) (n : Nat) (a' : Act) (w' : World) : Prop :=
  ∃ (i acc : Int) (u11 u12 u13 u14 u15 u16 u17 u18 u19 u20 u21 u22 u23 u24 u25 u26 u27 u28 u29 u30 u31 u32 u33 u34 u35 u36 u37 u38 u39 u40 u41 u42 u43 u44 u45 u46 u47 u48 u49 u50 u51 u52 u53 u54 u55 u56 u57 : Value), a' = { tmps := #[.int .i64 x, .slice ad l0.length c0, .func (.func 100) #[] #[], undef, undef, undef, .int .i64 0, .int .i64 0, .int .i64 0, .int .i64 acc, .int .i64 i, u11, u12, u13, u14, u15, u16, u17, u18, u19, u20, u21, u22, u23, u24, u25, u26, u27, u28, u29, u30, u31, u32, u33, u34, u35, u36, u37, u38, u39, u40, u41, u42, u43, u44, u45, u46, u47, u48, u49, u50, u51, u52, u53, u54, u55, u56, u57], defers := [] } ∧ 0 ≤ i ∧ i ≤ l0.length ∧ (l0.length : Int) - i = n ∧ 0 ≤ acc ∧ acc ≤ 1000000000000000 * i ∧ exFrom S106.f1 x l0 n i acc = R ∧ Below w.heap.size w w'
set_option maxHeartbeats 4000000 in
set_option maxRecDepth 100000 in
theorem each100 (x : Int) (A0 : Option Addr) (c0 : Nat) (l0 : List (S106)) (w : World) (hr0 : Kd.C k106 w A0 l0.length l0) (hc0 : l0.length ≤ c0) (hg : Good l0) (hx : rightB x = true) :
    Calls Try.prog 99 #[.int .i64 x, .slice A0 l0.length c0, .func (.func 100) #[] #[]] w fun e w' => e = .returned (.tuple #[.int .i64 (exFrom S106.f1 x l0 l0.length 0 0), .int .i64 0]) ∧ Below w.heap.size w w' := by
  have hu106 := Try.underlying106; have HR0 := Aside0.mk hr0; have HC0 := Aside0.mk hc0; have HG := Aside0.mk hg; have HX := Aside0.mk hx; have hl8 := hg.len; clear hr0 hc0 hg hx; obtain ⟨R, hR⟩ : ∃ R, R = exFrom S106.f1 x l0 l0.length 0 0 := ⟨_, rfl⟩; rw [← hR]; have HRR := Aside0.mk hR; clear hR; go_enter Try.func99, Try.ntmps99
  go_wp2
  refine wp_scope_pass 0 (eaJ100 x A0 c0 l0 w R) rfl ?_ ?_
  · clear HRR; rintro n a' wr hJ; obtain ⟨i, acc, u11, u12, u13, u14, u15, u16, u17, u18, u19, u20, u21, u22, u23, u24, u25, u26, u27, u28, u29, u30, u31, u32, u33, u34, u35, u36, u37, u38, u39, u40, u41, u42, u43, u44, u45, u46, u47, u48, u49, u50, u51, u52, u53, u54, u55, u56, u57, rfl, hi0, hi1, hn, ha0, ha1, hF, hB⟩ := hJ; have HB := Aside0.mk hB; have HF := Aside0.mk hF; have HA := Aside0.mk (And.intro ha0 ha1); have HN := Aside0.mk hn; have I0 := Aside0.mk hi0; clear hB hF ha0 ha1 hn; by_cases ci : i = (l0.length : Int)
    · have t1 : (i == (l0.length : Int)) = true := beq_iff_eq.2 ci; have HE : Aside0 (acc = R) := ⟨ex_end HF.out (by have := HN.out; omega)⟩; clear ci hi0 hi1
      go_wp2
      simp only [Exit.jump]; go_ret2
      exact ⟨by rw [← HE.out]; rfl, by repeat (first | (with_reducible first | exact HB.out | apply below_alloc | apply pw_below_drewN | apply below_drew1) | exact HB.out)⟩
    · have t1 : (i == (l0.length : Int)) = false := beq_eq_false_iff_ne.2 ci; obtain ⟨m, rfl⟩ : ∃ m, n = m + 1 := ⟨n - 1, by have := HN.out; omega⟩; have hi2 : i < (l0.length : Int) := by omega
      have I1 := Aside0.mk hi2; obtain ⟨ad, e, hx0, hx1, hx2⟩ := at_T106 HR0.out i hi0 hi2; cases e; have HX0 := Aside0.mk hx0; have HX1 := Aside0.mk hx1; have HX2 := Aside0.mk hx2; replace hx0 := (HB.out.cell (World.block_lt_of_cell? w _ hx0)).trans hx0; replace hx1 := (HB.out.cell (World.block_lt_of_cell? w _ hx1)).trans hx1; replace hx2 := (HB.out.cell (World.block_lt_of_cell? w _ hx2)).trans hx2; have p0 := eq_true hi0; have p1 := eq_true hi2; clear hi0 hi1 hi2 ci; by_cases cx : x ≤ (rd_T106 l0 i).f0
      · have t2 : decide (x ≤ (rd_T106 l0 i).f0) = true := decide_eq_true cx; have HE : Aside0 (acc = R) := ⟨ex_stop HF.out cx⟩; clear cx
        go_wp2
        simp only [Exit.jump]; go_ret2
        exact ⟨by rw [← HE.out]; rfl, by repeat (first | (with_reducible first | exact HB.out | apply below_alloc | apply pw_below_drewN | apply below_drew1) | exact HB.out)⟩
      · have t2 : decide (x ≤ (rd_T106 l0 i).f0) = false := decide_eq_false cx; have HGo := Aside0.mk (ex_go HF.out cx); clear cx; have HW := Aside0.mk (width_is HG.out I0.out I1.out HX.out); have HWb := Aside0.mk (wdt_bd HG.out I0.out I1.out HX.out); have HRb := Aside0.mk (HG.out.bd I0.out I1.out); obtain ⟨wd, hwd⟩ : ∃ wd, wdt x l0 i = wd := ⟨_, rfl⟩; rw [hwd] at HW HWb HGo; clear hwd
        have HP : Aside0 (frac_Part.f 3 wd (rd_T106 l0 i).f1 = some (wd * (rd_T106 l0 i).f1, 0)) := ⟨by
          rw [frac_Part_is _ _ 3 (by omega)]; unfold partM; rw [if_pos (rightB_iff.2 ⟨by have := HWb.out; omega, HWb.out.2⟩), if_pos (rateB_iff.2 ⟨by have := HRb.out; omega, by have := HRb.out; omega⟩)]⟩
        have HPb : Aside0 (0 ≤ wd * (rd_T106 l0 i).f1 ∧ wd * (rd_T106 l0 i).f1 ≤ 1000000000000000) := ⟨by
          have a := HWb.out; have b := HRb.out; have c1 : 0 ≤ (rd_T106 l0 i).f1 := by omega
          have c2 : (rd_T106 l0 i).f1 ≤ 10000 := by omega
          exact ⟨Int.mul_nonneg a.1 c1, (mul_bound (A := 100000000000) (B := 10000) ⟨by omega, a.2⟩ ⟨c1, c2⟩).2⟩⟩
        obtain ⟨p, hp⟩ : ∃ p, wd * (rd_T106 l0 i).f1 = p := ⟨_, rfl⟩; rw [hp] at HP HPb HGo; clear hp; have hacc : IntKind.i64.wrap (acc + p) = acc + p := IntWalk.i64_in _ (by have := HA.out; have := HPb.out; have := I1.out; omega); have hinc : IntKind.i64.wrap (i + 1) = i + 1 := IntWalk.i64_in _ (by have := I0.out; have := I1.out; omega); go_wp2_with fail
        go_region_with (first
          | (go_at_call 138; refine (band_width.calls x i (some ad) c0 l0 wd _ (Kd.C_below HR0.out (by repeat (first | (with_reducible first | exact HB.out | apply below_alloc | apply pw_below_drewN | apply below_drew1) | exact HB.out))) HC0.out HW.out).mono ?_; rintro e w1 ⟨rfl, hb⟩; have HB1 := Aside0.mk (below_step (by repeat (first | (with_reducible first | exact HB.out | apply below_alloc | apply pw_below_drewN | apply below_drew1) | exact HB.out)) hb); clear HB hb hx0 hx1 hx2; have HB := HB1; clear HB1; have hx0 := (HB.out.cell (World.block_lt_of_cell? w _ HX0.out)).trans HX0.out; have hx1 := (HB.out.cell (World.block_lt_of_cell? w _ HX1.out)).trans HX1.out; have hx2 := (HB.out.cell (World.block_lt_of_cell? w _ HX2.out)).trans HX2.out)
          | (go_at_call 100; refine (exact1 _ _ _ _).mono ?_; rintro e w1 ⟨rfl, hb⟩; have HB1 := Aside0.mk (below_step (by repeat (first | (with_reducible first | exact HB.out | apply below_alloc | apply pw_below_drewN | apply below_drew1) | exact HB.out)) hb); clear HB hb hx0 hx1 hx2; have HB := HB1; clear HB1; have hx0 := (HB.out.cell (World.block_lt_of_cell? w _ HX0.out)).trans HX0.out; have hx1 := (HB.out.cell (World.block_lt_of_cell? w _ HX1.out)).trans HX1.out; have hx2 := (HB.out.cell (World.block_lt_of_cell? w _ HX2.out)).trans HX2.out)
          | (go_at_call 59; refine (frac_Part.calls 3 wd _ p 0 _ HP.out).mono ?_; rintro e w1 ⟨rfl, hb⟩; have HB1 := Aside0.mk (below_step (by repeat (first | (with_reducible first | exact HB.out | apply below_alloc | apply pw_below_drewN | apply below_drew1) | exact HB.out)) hb); clear HB hb hx0 hx1 hx2; have HB := HB1; clear HB1; have hx0 := (HB.out.cell (World.block_lt_of_cell? w _ HX0.out)).trans HX0.out; have hx1 := (HB.out.cell (World.block_lt_of_cell? w _ HX1.out)).trans HX1.out; have hx2 := (HB.out.cell (World.block_lt_of_cell? w _ HX2.out)).trans HX2.out))
        all_goals
          go_wp2
          go_step3
          exact ⟨rfl, m, Nat.lt_succ_self m, i + 1, acc + p, _, _, _, _, _, _, _, _, _, _, _, _, _, _, _, _, _, _, _, _, _, _, _, _, _, _, _, _, _, _, _, _, _, _, _, _, _, _, _, _, _, _, _, _, _, _, _, by first | rfl | (simp; done) | (simp [*]; done), by have := I0.out; omega, by have := I1.out; omega, by have := HN.out; omega, by have := HA.out; have := HPb.out; omega, by have := HA.out; have := HPb.out; omega, HGo.out, by repeat (first | (with_reducible first | exact HB.out | apply below_alloc | apply pw_below_drewN | apply below_drew1) | exact HB.out)⟩
  · intro weak; have hck : band_Check.f l0 = some 0 := by rw [band_Check_is, good_iff.2 HG.out]
    have HCK := Aside0.mk hck; clear hck; have hxx : rightB x = true := HX.out; have HB := Aside0.mk (Below.refl w.heap.size w)
    go_wp2_with (first
      | (go_at_call 36; refine (band_Check.calls A0 c0 l0 0 _ HR0.out HC0.out HCK.out).mono ?_; rintro e w1 ⟨rfl, hb⟩; have HB1 := Aside0.mk (below_step (by repeat (first | (with_reducible first | exact HB.out | apply below_alloc | apply pw_below_drewN | apply below_drew1) | exact HB.out)) hb); clear HB hb; have HB := HB1; clear HB1)
      | (go_at_call 118; refine (right_one x _ 1 (by omega) _ (by simp)).mono ?_; rintro e w2 ⟨rfl, ⟨nd, rfl⟩⟩))
    go_step3
    refine (by assumption : ∀ a w, _ → _) _ _ (weak l0.length _ _ ⟨0, 0, _, _, _, _, _, _, _, _, _, _, _, _, _, _, _, _, _, _, _, _, _, _, _, _, _, _, _, _, _, _, _, _, _, _, _, _, _, _, _, _, _, _, _, _, _, _, _, rfl, by omega, by omega, by omega, by omega, by omega, HRR.out.symm, by repeat (first | (with_reducible first | exact HB.out | apply below_alloc | apply pw_below_drewN | apply below_drew1) | exact HB.out)⟩)
set_option maxHeartbeats 4000000 in
set_option maxRecDepth 100000 in
theorem band_Exact.each (x : Int) (A0 : Option Addr) (c0 : Nat) (l0 : List (S106)) (w : World) (hr0 : Kd.C k106 w A0 l0.length l0) (hc0 : l0.length ≤ c0) :
    Calls Try.prog 99 #[.int .i64 x, .slice A0 l0.length c0, .func (.func 100) #[] #[]] w fun e w' => e = .returned (.tuple #[.int .i64 (eachM S106.f1 x l0).1, .int .i64 (eachM S106.f1 x l0).2]) ∧ Below w.heap.size w w' := by
  unfold eachM; by_cases hc : bandCheck l0 = 0
  · rw [if_pos hc]; by_cases hx : rightB x = true
    · rw [if_pos hx]; exact each100 x A0 c0 l0 w hr0 hc0 (good_iff.1 hc) hx
    · rw [if_neg hx]; have hx : rightB x = false := by simpa using hx
      have HCK := Aside0.mk (show band_Check.f l0 = some 0 by rw [band_Check_is, hc]); have HR0 := Aside0.mk hr0; have HC0 := Aside0.mk hc0; clear hr0 hc0 hc; have HB := Aside0.mk (Below.refl w.heap.size w); go_enter Try.func99, Try.ntmps99
      go_wp2
      go_step3
      go_wp2_with (first
        | (go_at_call 36; refine (band_Check.calls A0 c0 l0 0 _ HR0.out HC0.out HCK.out).mono ?_; rintro e w1 ⟨rfl, hb⟩; have HB1 := Aside0.mk (below_step (by repeat (first | (with_reducible first | exact HB.out | apply below_alloc | apply pw_below_drewN | apply below_drew1) | exact HB.out)) hb); clear HB hb; have HB := HB1; clear HB1)
        | (go_at_call 118; refine (right_one x _ 1 (by omega) _ (by simp)).mono ?_; rintro e w2 ⟨rfl, ⟨nd, rfl⟩⟩))
      rw [Exit.noGoto_ret]; go_ret2
      exact ⟨rfl, by repeat (first | (with_reducible first | exact HB.out | apply below_alloc | apply pw_below_drewN | apply below_drew1) | exact HB.out)⟩
  · rw [if_neg hc]; have HCK := Aside0.mk (band_Check_is l0); have HR0 := Aside0.mk hr0; have HC0 := Aside0.mk hc0; clear hr0 hc0; have hne : (bandCheck l0 != 0) = true := bne_iff_ne.2 hc; obtain ⟨cc, hcc⟩ : ∃ cc, bandCheck l0 = cc := ⟨_, rfl⟩; rw [hcc] at HCK hne ⊢; clear hcc hc; have HB := Aside0.mk (Below.refl w.heap.size w); go_enter Try.func99, Try.ntmps99
    go_wp2
    go_step3
    go_wp2_with (first
      | (go_at_call 36; refine (band_Check.calls A0 c0 l0 cc _ HR0.out HC0.out HCK.out).mono ?_; rintro e w1 ⟨rfl, hb⟩; have HB1 := Aside0.mk (below_step (by repeat (first | (with_reducible first | exact HB.out | apply below_alloc | apply pw_below_drewN | apply below_drew1) | exact HB.out)) hb); clear HB hb; have HB := HB1; clear HB1))
    rw [Exit.noGoto_ret]; go_ret2
    exact ⟨rfl, by repeat (first | (with_reducible first | exact HB.out | apply below_alloc | apply pw_below_drewN | apply below_drew1) | exact HB.out)⟩
set_option maxHeartbeats 4000000 in
set_option maxRecDepth 100000 in
theorem band_Exact.calls (a0 : Int) (A1 : Option Addr) (c1 : Nat) (l1 : List (S106)) (r1 : Int) (r2 : Int) (w : World) (hr1 : Kd.C k106 w A1 l1.length l1) (hc1 : l1.length ≤ c1) (h : band_Exact.f a0 l1 = some (r1, r2)) :
    Calls Try.prog 34 #[.int .i64 a0, .slice A1 l1.length c1] w fun e w' => e = .returned (.tuple #[.int .i64 r1, .int .i64 r2]) ∧ Below w.heap.size w w' := by
  have H := Aside0.mk (Option.some.inj h); clear h; have HR1 := Aside0.mk hr1; have HC1 := Aside0.mk hc1; clear hr1 hc1; go_enter Try.func34, Try.ntmps34
  go_wp2_with (first
    | (go_at_call 99; refine (band_Exact.each a0 A1 c1 l1 _ HR1.out HC1.out).mono ?_; rintro e w1 ⟨rfl, hb⟩; have HB := Aside0.mk hb; clear hb))
  go_ret2
  exact ⟨by rw [show eachM S106.f1 a0 l1 = (r1, r2) from H.out]; rfl, HB.out⟩
end Go.Proofs.Ytcapgmoipacioaa.P
