import Derived.Test.YtcapgmoipacioaaPtZg
import Derived.Test.YtcapgmoipacioaaPppairZg
import Derived.Test.YtcapgmoipacioaaY1Zg
namespace Go.Proofs.Ytcapgmoipacioaa.P
open Go.RowKit Go.Proofs.YtcapgmoipacioaaW.PrintWords Go.Proofs.YtcapgmoipacioaaW.PrintLast Go.Proofs.YtcapgmoipacioaaW.PrintMore
set_option linter.unusedVariables false
set_option linter.unusedSimpArgs false
mutual
def social_Sum.j0 : Nat → Int → List (List (S36)) → Bool → Option ((List (S36)) × Int)
 | 0, _, _, _ => none
 | k + 1, x0, x1, x17 => if x17 = true then (some (([] : List (S36)), 1)) else (if 0 ≤ x0 then (if (x0 : Int).toNat ≤ 17592186044416 then (social_Sum.l0 k x0 (List.replicate (x0 : Int).toNat z36) x1 (x1.length : Int) 0) else (none)) else (none))
def social_Sum.l0 : Nat → Int → List (S36) → List (List (S36)) → Int → Int → Option ((List (S36)) × Int)
 | 0, _, _, _, _, _ => none
 | k + 1, x0, x6, x20, x21, x22 => if x22 < x21 then (if 0 ≤ x22 then (if x22 < (x20.length : Int) then (if ((rd_L12 x20 x22).length : Int) = x0 then (social_Sum.l1 k x0 x6 (rd_L12 x20 x22) x20 x21 x22 ((rd_L12 x20 x22).length : Int) 0) else (some (([] : List (S36)), 3))) else (none)) else (none)) else (some (x6, 0))
def social_Sum.l1 : Nat → Int → List (S36) → List (S36) → List (List (S36)) → Int → Int → Int → Int → Option ((List (S36)) × Int)
 | 0, _, _, _, _, _, _, _, _ => none
 | k + 1, x0, x6, x8, x20, x21, x22, x31, x32 => if x32 < x31 then (if 0 ≤ x32 then (if x32 < (x6.length : Int) then (if x32 < (x8.length : Int) then ((pair_Total.f k (([(⟨(rd_T36 x6 x32).f0, (rd_T36 x6 x32).f1⟩ : S36), (⟨(rd_T36 x8 x32).f0, (rd_T36 x8 x32).f1⟩ : S36)] : List (S36)))).bind fun bt251 => (if bt251.2.2 = 0 then (social_Sum.l1 k x0 (x6.set (x32 : Int).toNat (⟨bt251.1, bt251.2.1⟩ : S36)) x8 x20 x21 x22 x31 (wrap64 (x32 + 1))) else (some (([] : List (S36)), bt251.2.2)))) else (none)) else (none)) else (none)) else (social_Sum.l0 k x0 x6 x20 x21 (wrap64 (x22 + 1)))
end
def social_Sum.f (k : Nat) (a0 : Int) (l1 : List (List (S36))) : Option ((List (S36)) × Int) := if a0 < 0 then (social_Sum.j0 k a0 l1 true) else (social_Sum.j0 k a0 l1 (decide (a0 > 64)))
def social_Sum.T12 : Bool × List (List Nat × List Nat) := (true, [([], []), ([], []), ([0, 1], [0, 1]), ([2], [2]), ([], []), ([], []), ([4, 5], [4, 5]), ([6], [6]), ([3, 7], [3, 7]), ([8], [8]), ([9], [9]), ([10], [10]), ([10], [10]), ([], []), ([13, 11, 9, 0, 1, 2, 3, 4, 5, 6, 7, 8, 9, 10, 11, 13], [11, 13]), ([12, 14, 0, 1, 2, 3, 4, 5, 6, 7, 8, 9, 10, 11, 12, 13, 14], [12])])
def social_Sum.B12 : List Nat := [0, 0, 3, 7, 0, 0, 48, 112, 255, 511, 1023, 2047, 2047, 0, 12287, 32767]
theorem social_Sum.tab12 : rtab .any (opsOf Try.f74 12) = social_Sum.T12 := by kernel_rfl
theorem social_Sum.bits12 : waitsOk social_Sum.T12.2 social_Sum.B12 = true := by kernel_rfl
set_option maxHeartbeats 8000000 in
set_option maxRecDepth 100000 in
theorem social_Sum.calls (k : Nat) (a0 : Int) (A1 : Option Addr) (c1 : Nat) (l1 : List (List (S36))) (r1 : List (S36)) (r2 : Int) (w : World) (hr1 : Kd.C (Kd.slice 36 k36) w A1 l1.length l1) (hc1 : l1.length ≤ c1) (h : social_Sum.f k a0 l1 = some (r1, r2)) :
  Calls Try.prog 74 #[.int .i64 a0, .slice A1 l1.length c1] w fun e w' => ∃ v0_ : Value, e = .returned (.tuple #[v0_, .int .i64 r2]) ∧ Kd.R k36 36 w' w.heap.size (fun _ => True) v0_ r1 ∧ Below w.heap.size w w' := by
 have hu36 := Try.underlying36; have HR1 := A_ hr1; have HC1 := A_ hc1; clear hr1 hc1; have HB := A_ (Below.refl w.heap.size w); unfold social_Sum.f at h; have H := h; clear h; have HC3 := A_ H; clear H; go_enter Try.func74, Try.ntmps74
 go_upto_region 1 with (fail)
 go_cut [17] (fun v17 wc => ∃ (kq : Nat) (x17_2 : Bool), v17 = .bool x17_2 ∧ Aside0 (social_Sum.j0 kq a0 l1 x17_2 = some (r1, r2)) ∧ Aside0 (kq ≤ k) ∧ Aside0 (Below w.heap.size w wc))
 case first =>
  have H := HC3.out; clear HC3; by_cases c4 : a0 < 0
  ·rw [if_pos c4] at H; have c4b0 := decide_eq_true c4; clear c4
   (first | rw [c4b0] | (simp only [i64_w, i32_w]; rw [c4b0]) | skip)
   have H' := A_ H; clear H
   go_wp2
   go_meet
   case rel => exact ⟨_, (true), (sx_), H', ⟨by first | omega | exact Nat.le_refl _⟩, ⟨bl_ HB⟩⟩
  ·rw [if_neg c4] at H; have c4b0 := decide_eq_false c4; clear c4
   (first | rw [c4b0] | (simp only [i64_w, i32_w]; rw [c4b0]) | skip)
   have H' := A_ H; clear H
   go_wp2
   go_meet
   case rel => exact ⟨_, (decide (a0 > 64)), (sx_), H', ⟨by first | omega | exact Nat.le_refl _⟩, ⟨bl_ HB⟩⟩
 case rest =>
  clear HC3; try clear c1
  try clear p2
  try clear c4
  try clear c4b0
  obtain ⟨kq, x17_2, rfl, HA, HJ2, HB⟩ := hcut
  cases kq with
  | zero => exact absurd HA.out (by simp [social_Sum.j0])
  | succ kj2 =>
   have H := HA.out; clear HA; simp only [social_Sum.j0] at H; by_cases c5 : x17_2 = true
   ·subst c5; rw [if_pos rfl] at H; simp only [Option.some.injEq, Prod.mk.injEq] at H; obtain ⟨rfl, rfl⟩ := H
    go_wp2
    go_ret2
    exact ⟨_, er_, by first | exact Kd.R_nil _ _ _ _ _ | exact Kd.N_nil _ _ _ _ _ | exact Kd.V_nil _ _ _ _ _ | exact Kd.Q_nil _ _ _ _ _ | exact Kd.S_nil _ _ _ _ _, bl_ HB⟩
   ·replace c5 := Bool.eq_false_iff.mpr c5; subst c5; rw [if_neg (show ¬ (false = true) by decide)] at H; by_cases c6 : 0 ≤ a0
    ·rw [if_pos c6] at H; have c6b0 := eq_true c6; have c6b1 := decide_eq_true c6; clear c6; by_cases c7 : (a0 : Int).toNat ≤ 17592186044416
     ·rw [if_pos c7] at H; have c7b0 := eq_true c7; have c7b1 := decide_eq_true c7; clear c7; obtain ⟨y242, hy242⟩ : ∃ y_ : List (S36), y_ = (List.replicate (a0 : Int).toNat z36) := ⟨_, rfl⟩; replace H : (social_Sum.l0 kj2 a0 y242 l1 (l1.length : Int) 0) = some (r1, r2) := by first | (rw [hy242]; with_reducible exact H) | (have H2_ := (Option.bind_some _ _).symm.trans H; rw [hy242]; with_reducible exact H2_) | (have H2_ := (Option.bind_some _ _).symm.trans H; with_reducible exact H2_) | with_reducible exact H | (rw [hy242]; exact H) | exact H
      have Ny242 := A_ hy242; clear hy242; have H' := A_ H; clear H; go_wp2_with (first | ((with_reducible refine gate_dst (N := 19) rfl ?_); refine Kd.R_make k36 _ 36 rfl (N := 19) rfl 61 _ _ rfl a0 rfl rfl Try.underlying61 (.agg #[(.int .i64 0), (.int .i64 0)]) 16 info36 rfl (by decide) (by omega) z36 (ok := fun _ => True) (okp := fun _ => True) (k36_mkM _ _ _ z36 ) (fun _ hk => hk) trivial (od_) (Nat.le_trans (Nat.mul_le_mul_right _ (od_ : a0.toNat ≤ 17592186044416)) (by omega)) (Below.refl _ _) (Nat.le_refl _) ?_; intro v243 w8 ho9 hb hg_ hnew_; clear hg_ hnew_; (first | rw [← Ny242.out] at ho9 | (simp only [Int.reduceToNat] at ho9; rw [← Ny242.out] at ho9)); have HO244 := A_ (Kd.R_lower ho9 (below_size (bl_ HB))); replace HB := A_ (below_step (bl_ HB) hb); clear hb ho9))
      go_loopg [22] kj2 (fun kq v22 w' => ∃ (x6_2 : List (S36)) (x22_2 : Int), v22 = .int .i64 x22_2 ∧ Aside0 (social_Sum.l0 kq a0 x6_2 l1 (l1.length : Int) x22_2 = some (r1, r2)) ∧ Aside0 (kq ≤ kj2) ∧ Aside0 (Kd.R k36 36 w' w.heap.size (fun _ => True) v243 x6_2) ∧ Aside0 (Below w.heap.size w w'))
      case atStart => exact ⟨(y242), (0), (sx_), H', ⟨Nat.le_refl _⟩, ⟨ro_ HO244⟩, ⟨bl_ HB⟩⟩
      case round =>
       clear H'; try clear c1
       try clear p2
       try clear c4
       try clear c4b0
       try clear c5
       try clear c6
       try clear c6b0
       try clear c6b1
       try clear c7
       try clear c7b0
       try clear c7b1
       try clear p2
       obtain ⟨x6_2, x22_2, rfl, HA, HK2, HO_6, HB⟩ := hrel
       cases gk with
       | zero => exact absurd HA.out (by simp [social_Sum.l0])
       | succ k2 =>
        have H := HA.out; clear HA; simp only [social_Sum.l0] at H; by_cases c10 : x22_2 < (l1.length : Int)
        ·rw [if_pos c10] at H; have c10b0 := decide_eq_true c10; clear c10; by_cases c11 : 0 ≤ x22_2
         ·rw [if_pos c11] at H; have c11b0 := decide_eq_true c11; clear c11; by_cases c12 : x22_2 < (l1.length : Int)
          ·rw [if_pos c12] at H; have c12b0 := decide_eq_true c12; clear c12; by_cases c13 : ((rd_L12 l1 x22_2).length : Int) = a0
           ·rw [if_pos c13] at H; have c13b0 : (((rd_L12 l1 x22_2).length : Int) == a0) = true := beq_iff_eq.mpr c13; have c13b1 : (((rd_L12 l1 x22_2).length : Int) != a0) = false := bne_eq_false_iff_eq.mpr c13; clear c13; have H' := A_ H; clear H; have p245 : 0 ≤ (x22_2 : Int) := od_; have q245 : x22_2 < (l1.length : Int) := od_; obtain ⟨ad245, A245_0, c245_0, e245, hx245_0, hl245_0, hi245_0⟩ := at_L12 HR1.out x22_2 p245 q245; cases e245; replace hx245_0 := (HB.out.cell (World.block_lt_of_cell? w _ hx245_0)).trans hx245_0; have HR245_0 := A_ hi245_0; have HC245_0 := A_ hl245_0; clear hi245_0 hl245_0; replace p245 := eq_true p245; replace q245 := eq_true q245
            go_wp2
            go_loopg [32] k2 (fun kq v32 w' => ∃ (x6_3 : List (S36)) (x32_3 : Int), v32 = .int .i64 x32_3 ∧ Aside0 (social_Sum.l1 kq a0 x6_3 (rd_L12 l1 x22_2) l1 (l1.length : Int) x22_2 ((rd_L12 l1 x22_2).length : Int) x32_3 = some (r1, r2)) ∧ Aside0 (kq ≤ k2) ∧ Aside0 (Kd.R k36 36 w' w.heap.size (fun _ => True) v243 x6_3) ∧ Aside0 (Below w.heap.size w w'))
            case atStart => exact ⟨(x6_2), (0), (sx_), H', ⟨Nat.le_refl _⟩, ⟨ro_ HO_6⟩, ⟨bl_ HB⟩⟩
            case round =>
             clear H'; try clear c1
             try clear c2
             try clear p2
             try clear q2
             try clear hx2
             try clear c4
             try clear c4b0
             try clear c5
             try clear c6
             try clear c6b0
             try clear c6b1
             try clear c7
             try clear c7b0
             try clear c7b1
             try clear c10
             try clear c10b0
             try clear c11
             try clear c11b0
             try clear c12
             try clear c12b0
             try clear c13
             try clear c13b0
             try clear c13b1
             try clear hx245_0
             try clear p2
             try clear p245
             try clear q245
             obtain ⟨x6_3, x32_3, rfl, HA, HK3, HO_6, HB⟩ := hrel
             cases gk with
             | zero => exact absurd HA.out (by simp [social_Sum.l1])
             | succ k3 =>
              have H := HA.out; clear HA; simp only [social_Sum.l1] at H; by_cases c14 : x32_3 < ((rd_L12 l1 x22_2).length : Int)
              ·rw [if_pos c14] at H; have c14b0 := decide_eq_true c14; clear c14; by_cases c15 : 0 ≤ x32_3
               ·rw [if_pos c15] at H; have c15b0 := decide_eq_true c15; clear c15; by_cases c16 : x32_3 < (x6_3.length : Int)
                ·rw [if_pos c16] at H; have c16b0 := decide_eq_true c16; clear c16; by_cases c17 : x32_3 < ((rd_L12 l1 x22_2).length : Int)
                 ·rw [if_pos c17] at H; have c17b0 := decide_eq_true c17; clear c17; obtain ⟨y248, hy248⟩ : ∃ y_ : List (S36), y_ = (([(⟨(rd_T36 x6_3 x32_3).f0, (rd_T36 x6_3 x32_3).f1⟩ : S36), (⟨(rd_T36 (rd_L12 l1 x22_2) x32_3).f0, (rd_T36 (rd_L12 l1 x22_2) x32_3).f1⟩ : S36)] : List (S36))) := ⟨_, rfl⟩; replace H : ((pair_Total.f k3 y248).bind fun bt251 => (if bt251.2.2 = 0 then (social_Sum.l1 k3 a0 (x6_3.set (x32_3 : Int).toNat (⟨bt251.1, bt251.2.1⟩ : S36)) (rd_L12 l1 x22_2) l1 (l1.length : Int) x22_2 ((rd_L12 l1 x22_2).length : Int) (wrap64 (x32_3 + 1))) else (some (([] : List (S36)), bt251.2.2)))) = some (r1, r2) := by first | (rw [hy248]; with_reducible exact H) | (have H2_ := (Option.bind_some _ _).symm.trans H; rw [hy248]; with_reducible exact H2_) | (have H2_ := (Option.bind_some _ _).symm.trans H; with_reducible exact H2_) | with_reducible exact H | (rw [hy248]; exact H) | exact H
                  have Ny248 := A_ hy248; clear hy248; replace H := Option.bind_eq_some_iff.mp H; obtain ⟨⟨t251, t252, t253⟩, A180, H⟩ := H; (try dsimp only at H); have A18 := A_ A180; clear A180; by_cases c19 : t253 = 0
                  ·rw [if_pos c19] at H; have c19b0 : (t253 == 0) = true := beq_iff_eq.mpr c19; have c19b1 : (t253 != 0) = false := bne_eq_false_iff_eq.mpr c19; clear c19; obtain ⟨y255, hy255⟩ : ∃ y_ : List (S36), y_ = (x6_3.set (x32_3 : Int).toNat (⟨t251, t252⟩ : S36)) := ⟨_, rfl⟩; replace H : (social_Sum.l1 k3 a0 y255 (rd_L12 l1 x22_2) l1 (l1.length : Int) x22_2 ((rd_L12 l1 x22_2).length : Int) (wrap64 (x32_3 + 1))) = some (r1, r2) := by first | (rw [hy255]; with_reducible exact H) | (have H2_ := (Option.bind_some _ _).symm.trans H; rw [hy255]; with_reducible exact H2_) | (have H2_ := (Option.bind_some _ _).symm.trans H; with_reducible exact H2_) | with_reducible exact H | (rw [hy255]; exact H) | exact H
                   have Ny255 := A_ hy255; clear hy255; have H' := A_ H; clear H
                   try go_wp2
                   replace HO_6 := A_ (Kd.R_drew HO_6.out); replace HB := A_ (below_drew1 HB.out); obtain ⟨Ao22, co22, eo22⟩ := Kd.R_slice HO_6.out
                   (first | subst eo22 | (injection eo22 with f1_ f2_ f3_; have f4_ := f1_.symm; have f5_ := f3_.symm; clear f1_ f2_ f3_; subst f4_; subst f5_))
                   have p246 : 0 ≤ (x32_3 : Int) := od_; have q246 : x32_3 < (x6_3.length : Int) := od_; obtain ⟨ad246, e246, hx246_0, hx246_1⟩ := at_T36 (Kd.R_reads' HO_6.out).2.2 x32_3 p246 q246; cases e246; replace p246 := eq_true p246; replace q246 := eq_true q246; have p247 : 0 ≤ (x32_3 : Int) := od_; have q247 : x32_3 < ((rd_L12 l1 x22_2).length : Int) := od_; obtain ⟨ad247, e247, hx247_0, hx247_1⟩ := at_T36 HR245_0.out x32_3 p247 q247; have hw247_1 := hx247_1; have hw247_0 := hx247_0; cases e247; replace hx247_0 := (HB.out.cell (World.block_lt_of_cell? w _ hx247_0)).trans hx247_0; replace hx247_1 := (HB.out.cell (World.block_lt_of_cell? w _ hx247_1)).trans hx247_1; replace p247 := eq_true p247; replace q247 := eq_true q247; refine start_ (n := 16) (S := fun w' => w'.cell? (ad246.add ((x32_3).toNat * 2)) = some (.int .i64 ((rd_T36 x6_3 x32_3).f0)) ∧ w'.cell? ⟨(ad246.add ((x32_3).toNat * 2)).block, (ad246.add ((x32_3).toNat * 2)).off + 1, none⟩ = some (.int .i64 ((rd_T36 x6_3 x32_3).f1)) ∧ w'.cell? (ad247.add ((x32_3).toNat * 2)) = some (.int .i64 ((rd_T36 (rd_L12 l1 x22_2) x32_3).f0)) ∧ w'.cell? ⟨(ad247.add ((x32_3).toNat * 2)).block, (ad247.add ((x32_3).toNat * 2)).off + 1, none⟩ = some (.int .i64 ((rd_T36 (rd_L12 l1 x22_2) x32_3).f1))) (ds := []) #[false, false, false, false, false, false, false, false, false, false, false, false, false, false, false, false] (by kernel_rfl) rfl rfl ⟨hx246_0, hx246_1, ((HB.out.cell (World.block_lt_of_cell? w _ hw247_0)).trans hw247_0), ((HB.out.cell (World.block_lt_of_cell? w _ hw247_1)).trans hw247_1)⟩ (fun hHeld => ?_); refine with_tabW social_Sum.tab12 social_Sum.bits12 (fun HT_ HW_ => ?_)
                   generalize wr.drew = w21 at HO_6 HB hx246_0 hx246_1 hx247_0 hx247_1 hHeld ⊢; refine pure_ (i := 0) (N := some 36) (v := ?_) (a' := ?_) #[true, false, false, false, false, false, false, false, false, false, false, false, false, false, false, false] rfl rfl (any_of HT_.out (by kernel_rfl)) (fun _ _ _ h => h) (Or.inl ⟨by rfl, ?_⟩) ?_ ?_
                   rotate_left
                   ·intro w'
                    go_simp
                    with_reducible rfl
                   rotate_left
                   ·simp only [Act.put, List.setIfInBounds_toArray, List.set_cons_zero, List.set_cons_succ, i64_w, i32_w]
                    rfl
                   refine pure_ (i := 1) (N := some 37) (v := ?_) (a' := ?_) #[true, true, false, false, false, false, false, false, false, false, false, false, false, false, false, false] rfl rfl (any_of HT_.out (by kernel_rfl)) (fun _ _ _ h => h) (Or.inl ⟨by rfl, ?_⟩) ?_ ?_
                   rotate_left
                   ·intro w'
                    go_simp
                    with_reducible rfl
                   rotate_left
                   ·simp only [Act.put, List.setIfInBounds_toArray, List.set_cons_zero, List.set_cons_succ, i64_w, i32_w]
                    rfl
                   refine pure_ (i := 2) (N := some 38) (v := ?_) (a' := ?_) #[true, true, true, false, false, false, false, false, false, false, false, false, false, false, false, false] rfl rfl (any_of HT_.out (by kernel_rfl)) (fun _ _ _ h => h) (Or.inl ⟨by rfl, ?_⟩) ?_ ?_
                   rotate_left
                   ·intro w'
                    go_simp
                    with_reducible rfl
                   rotate_left
                   ·simp only [Act.put, List.setIfInBounds_toArray, List.set_cons_zero, List.set_cons_succ, i64_w, i32_w]
                    rfl
                   refine pure_ (i := 4) (N := some 40) (v := ?_) (a' := ?_) #[true, true, true, false, true, false, false, false, false, false, false, false, false, false, false, false] rfl rfl (any_of HT_.out (by kernel_rfl)) (fun _ _ _ h => h) (Or.inl ⟨by rfl, ?_⟩) ?_ ?_
                   rotate_left
                   ·intro w'
                    go_simp
                    with_reducible rfl
                   rotate_left
                   ·simp only [Act.put, List.setIfInBounds_toArray, List.set_cons_zero, List.set_cons_succ, i64_w, i32_w]
                    rfl
                   refine pure_ (i := 5) (N := some 41) (v := ?_) (a' := ?_) #[true, true, true, false, true, true, false, false, false, false, false, false, false, false, false, false] rfl rfl (any_of HT_.out (by kernel_rfl)) (fun _ _ _ h => h) (Or.inl ⟨by rfl, ?_⟩) ?_ ?_
                   rotate_left
                   ·intro w'
                    go_simp
                    with_reducible rfl
                   rotate_left
                   ·simp only [Act.put, List.setIfInBounds_toArray, List.set_cons_zero, List.set_cons_succ, i64_w, i32_w]
                    rfl
                   refine pure_ (i := 6) (N := some 42) (v := ?_) (a' := ?_) #[true, true, true, false, true, true, true, false, false, false, false, false, false, false, false, false] rfl rfl (any_of HT_.out (by kernel_rfl)) (fun _ _ _ h => h) (Or.inl ⟨by rfl, ?_⟩) ?_ ?_
                   rotate_left
                   ·intro w'
                    go_simp
                    with_reducible rfl
                   rotate_left
                   ·simp only [Act.put, List.setIfInBounds_toArray, List.set_cons_zero, List.set_cons_succ, i64_w, i32_w]
                    rfl
                   refine take_ (i := 3) (N := some 39) (v := ?_) (a' := ?_) #[true, true, true, true, true, true, true, false, false, false, false, false, false, false, false, false] rfl rfl (take_ofW HT_.out HW_.out (by kernel_rfl)) (fun _ _ _ h => h) (Or.inl ⟨by rfl, ?_⟩) hHeld ?_ ?_
                   rotate_left
                   ·rintro w' ⟨s0, s1, s2, s3⟩
                    go_simp
                    with_reducible rfl
                   rotate_left
                   ·simp only [Act.put, List.setIfInBounds_toArray, List.set_cons_zero, List.set_cons_succ, i64_w, i32_w]
                    rfl
                   refine take_ (i := 7) (N := some 43) (v := ?_) (a' := ?_) #[true, true, true, true, true, true, true, true, false, false, false, false, false, false, false, false] rfl rfl (take_ofW HT_.out HW_.out (by kernel_rfl)) (fun _ _ _ h => h) (Or.inl ⟨by rfl, ?_⟩) hHeld ?_ ?_
                   rotate_left
                   ·rintro w' ⟨s0, s1, s2, s3⟩
                    go_simp
                    with_reducible rfl
                   rotate_left
                   ·simp only [Act.put, List.setIfInBounds_toArray, List.set_cons_zero, List.set_cons_succ, i64_w, i32_w]
                    rfl
                   refine join_ (σ := Value × Nat) 2 #[true, true, true, true, true, true, true, true, true, true, true, true, true, true, false, false] (fun s_ => [(44, s_.1), (45, .tuple #[.agg #[.int .i64 t251, .int .i64 t252], .int .i64 t253]), (10, .pointer (some ⟨s_.2, 0, none⟩)), (35, .tuple #[.agg #[.int .i64 t251, .int .i64 t252], .int .i64 t253]), (46, .agg #[.int .i64 t251, .int .i64 t252]), (47, .int .i64 t253)]) (fun s_ w' => (w'.cell? (ad246.add ((x32_3).toNat * 2)) = some (.int .i64 ((rd_T36 x6_3 x32_3).f0)) ∧ w'.cell? ⟨(ad246.add ((x32_3).toNat * 2)).block, (ad246.add ((x32_3).toNat * 2)).off + 1, none⟩ = some (.int .i64 ((rd_T36 x6_3 x32_3).f1)) ∧ w'.cell? (ad247.add ((x32_3).toNat * 2)) = some (.int .i64 ((rd_T36 (rd_L12 l1 x22_2) x32_3).f0)) ∧ w'.cell? ⟨(ad247.add ((x32_3).toNat * 2)).block, (ad247.add ((x32_3).toNat * 2)).off + 1, none⟩ = some (.int .i64 ((rd_T36 (rd_L12 l1 x22_2) x32_3).f1))) ∧ (Kd.R k36 36 w' w.heap.size (fun k_ => some k_ ≠ (.slice (some ad246) x6_3.length co22 : Value).ownBlock ∧ k_ ≠ s_.2) s_.1 y248) ∧ (Kd.R k36 36 w' w.heap.size (fun k_ => some k_ ≠ (s_.1 : Value).ownBlock ∧ k_ ≠ s_.2) (.slice (some ad246) x6_3.length co22) x6_3) ∧ (w'.heap[s_.2]? = some (.cells #[.int .i64 0, .int .i64 0] 36 (0, 0))) ∧ (w.heap.size ≤ s_.2) ∧ (w.heap.size ≤ s_.2) ∧ (Below w.heap.size w w')) ?_ ?_
                   rotate_left
                   ·intro hCont; refine two_ (i := 8) (j := 13) (Ni := some 44) (Nj := some 10) #[true, true, true, true, true, true, true, true, true, false, false, false, false, false, false, false] #[true, true, true, true, true, true, true, true, false, false, false, false, false, true, false, false] rfl rfl rfl rfl (two_of HT_.out (by kernel_rfl)) (by decide) (by decide) (fun K hK => ?_) (fun K hK => ?_)
                    ·skip
                     refine Kd.R_lit_step k36 _ 36 ?hg (N := 44) ?hd (xs := ([(⟨(rd_T36 x6_3 x32_3).f0, (rd_T36 x6_3 x32_3).f1⟩ : S36), (⟨(rd_T36 (rd_L12 l1 x22_2) x32_3).f0, (rd_T36 (rd_L12 l1 x22_2) x32_3).f1⟩ : S36)] : List (S36))) (inner := [.int .i64 ((rd_T36 x6_3 x32_3).f0), .int .i64 ((rd_T36 x6_3 x32_3).f1), .int .i64 ((rd_T36 (rd_L12 l1 x22_2) x32_3).f0), .int .i64 ((rd_T36 (rd_L12 l1 x22_2) x32_3).f1)]) (ok := fun _ => True) (okp := fun _ => True) ?hr ?hp (fun _ hk => hk) trivial (Below.refl _ _) (Nat.le_refl _) (by simp) ?_; (case hd => rfl); (case hg => rfl); (case hr => first | (go_simp; done) | (go_simp; rfl)); (case hp => exact (Reps.c2 (show Kd.M k36 _ _ _ (⟨(rd_T36 x6_3 x32_3).f0, (rd_T36 x6_3 x32_3).f1⟩ : S36) [.int .i64 ((rd_T36 x6_3 x32_3).f0), .int .i64 ((rd_T36 x6_3 x32_3).f1)] from (k36_mkM _ _ _ (⟨(rd_T36 x6_3 x32_3).f0, (rd_T36 x6_3 x32_3).f1⟩ : S36) )) (Reps.c2 (show Kd.M k36 _ _ _ (⟨(rd_T36 (rd_L12 l1 x22_2) x32_3).f0, (rd_T36 (rd_L12 l1 x22_2) x32_3).f1⟩ : S36) [.int .i64 ((rd_T36 (rd_L12 l1 x22_2) x32_3).f0), .int .i64 ((rd_T36 (rd_L12 l1 x22_2) x32_3).f1)] from (k36_mkM _ _ _ (⟨(rd_T36 (rd_L12 l1 x22_2) x32_3).f0, (rd_T36 (rd_L12 l1 x22_2) x32_3).f1⟩ : S36) )) (Reps.none _ _))))
                     intro v249 w23 ho24 hb hg_ hnew_; have HS0_ := (hb.cell (World.block_lt_of_cell? _ _ (hHeld.1))).trans (hHeld.1); have HS1_ := (hb.cell (World.block_lt_of_cell? _ _ (hHeld.2.1))).trans (hHeld.2.1); clear hg_ hnew_
                     (first | rw [← Ny248.out] at ho24 | (simp only [Int.reduceToNat] at ho24; rw [← Ny248.out] at ho24))
                     have HO250 := A_ (Kd.R_lower (Kd.R_new' ho24 (Kd.R_lt (ro_ HO_6))) (below_size (bl_ HB))); replace HO_6 := A_ (Kd.R_elder' (ro_ HO_6) (Kd.R_base ho24) hb); replace HB := A_ (below_step (bl_ HB) hb); clear hb ho24; obtain ⟨Ao25, co25, eo25⟩ := Kd.R_slice HO250.out
                     (first | subst eo25 | (injection eo25 with f1_ f2_ f3_; have f4_ := f1_.symm; have f5_ := f3_.symm; clear f1_ f2_ f3_; subst f4_; subst f5_))
                     refine hK.out _ _ ⟨HS0_, HS1_, ((HB.out.cell (World.block_lt_of_cell? w _ hw247_0)).trans hw247_0), ((HB.out.cell (World.block_lt_of_cell? w _ hw247_1)).trans hw247_1)⟩ (fun hHeld => ?_)
                     clear hK K; refine norm_ (a' := ?_) ?_ ?_
                     rotate_left
                     ·show Act.put _ (some 44) _ = _
                      simp only [Act.put, List.setIfInBounds_toArray, List.set_cons_zero, List.set_cons_succ, i64_w, i32_w]
                      rfl
                     refine two_ (i := 9) (j := 13) (Ni := some 45) (Nj := some 10) #[true, true, true, true, true, true, true, true, true, true, false, false, false, false, false, false] #[true, true, true, true, true, true, true, true, true, false, false, false, false, true, false, false] rfl rfl rfl rfl (two_of HT_.out (by kernel_rfl)) (by decide) (by decide) (fun K hK => ?_) (fun K hK => ?_)
                     ·skip
                      refine goes_ Try.func30 (by kernel_rfl) rfl #[.slice Ao25 y248.length co25] (by rfl) rfl rfl (by (try simp only [List.map_toArray, List.map_cons, List.map_nil]); first | done | rfl | (simp only [List.length_drop, List.length_take]; rfl)) ?_
                      with_reducible refine (pair_Total.calls k3 _ _ y248 t251 t252 t253 _ ?side1 ?side2 A18.out).mono ?_
                      (case side1 => repeat (first | exact (Kd.R_reads' HO250.out).2.2 | (with_reducible refine Kd.C_alloc ?_ _) | (with_reducible refine Kd.C_drewN ?_ _) | (with_reducible refine Kd.C_drew ?_)))
                      (case side2 => exact (Kd.R_reads' HO250.out).2.1)
                      rintro e w26 ⟨rfl, hb⟩; have HS0_ := (hb.cell (World.block_lt_of_cell? _ _ (hHeld.1))).trans (hHeld.1); have HS1_ := (hb.cell (World.block_lt_of_cell? _ _ (hHeld.2.1))).trans (hHeld.2.1); refine ⟨_, rfl, ?_⟩
                      replace HO_6 := A_ (Kd.R_below (ro_ HO_6) hb); replace HO250 := A_ (Kd.R_below (ro_ HO250) hb); replace HB := A_ (below_step (bl_ HB) hb)
                      (try clear hb)
                      (try clear hb2)
                      (try clear hk)
                      (try clear hi)
                      refine hK.out _ _ ⟨HS0_, HS1_, ((HB.out.cell (World.block_lt_of_cell? w _ hw247_0)).trans hw247_0), ((HB.out.cell (World.block_lt_of_cell? w _ hw247_1)).trans hw247_1)⟩ (fun hHeld => ?_)
                      clear hK K; refine norm_ (a' := ?_) ?_ ?_
                      rotate_left
                      ·show Act.put _ (some 45) _ = _
                       simp only [Act.put, List.setIfInBounds_toArray, List.set_cons_zero, List.set_cons_succ, i64_w, i32_w]
                       rfl
                      refine pure_ (i := 10) (N := some 35) (v := ?_) (a' := ?_) #[true, true, true, true, true, true, true, true, true, true, true, false, false, false, false, false] rfl rfl (any_of HT_.out (by kernel_rfl)) (fun _ _ _ h => h) (Or.inl ⟨by rfl, ?_⟩) ?_ ?_
                      rotate_left
                      ·intro w'
                       go_simp
                       with_reducible rfl
                      rotate_left
                      ·simp only [Act.put, List.setIfInBounds_toArray, List.set_cons_zero, List.set_cons_succ, i64_w, i32_w]
                       rfl
                      refine pure_ (i := 11) (N := some 46) (v := ?_) (a' := ?_) #[true, true, true, true, true, true, true, true, true, true, true, true, false, false, false, false] rfl rfl (any_of HT_.out (by kernel_rfl)) (fun _ _ _ h => h) (Or.inl ⟨by rfl, ?_⟩) ?_ ?_
                      rotate_left
                      ·intro w'
                       go_simp
                       with_reducible rfl
                      rotate_left
                      ·simp only [Act.put, List.setIfInBounds_toArray, List.set_cons_zero, List.set_cons_succ, i64_w, i32_w]
                       rfl
                      refine pure_ (i := 12) (N := some 47) (v := ?_) (a' := ?_) #[true, true, true, true, true, true, true, true, true, true, true, true, true, false, false, false] rfl rfl (any_of HT_.out (by kernel_rfl)) (fun _ _ _ h => h) (Or.inl ⟨by rfl, ?_⟩) ?_ ?_
                      rotate_left
                      ·intro w'
                       go_simp
                       with_reducible rfl
                      rotate_left
                      ·simp only [Act.put, List.setIfInBounds_toArray, List.set_cons_zero, List.set_cons_succ, i64_w, i32_w]
                       rfl
                      refine one_ (i := 13) (N := some 10) #[true, true, true, true, true, true, true, true, true, true, true, true, true, true, false, false] rfl rfl (one_of HT_.out (by kernel_rfl)) (by decide) (fun K hK => ?_)
                      refine box_step ?hg (N := 10) ?hd (cs := #[.int .i64 0, .int .i64 0]) (t := 36) ?hr ?_; (case hd => rfl); (case hg => rfl); (case hr => first | (go_simp; done) | (go_simp; rfl))
                      intro gb254 hg w27 hbox hb; have HS0_ := (hb.cell (World.block_lt_of_cell? _ _ (hHeld.1))).trans (hHeld.1); have HS1_ := (hb.cell (World.block_lt_of_cell? _ _ (hHeld.2.1))).trans (hHeld.2.1); have BK254 := A_ (hbox); have GW254 := A_ ((by rw [hg]; exact (below_size (bl_ HB)) : w.heap.size ≤ gb254)); have GE254 := A_ ((by rw [hg]; exact (below_size (bl_ HB)) : w.heap.size ≤ gb254)); replace HO_6 := A_ (Kd.R_below (Kd.R_elderB (ro_ HO_6) gb254 (Nat.le_of_eq hg.symm)) hb); replace HO250 := A_ (Kd.R_below (Kd.R_elderB (ro_ HO250) gb254 (Nat.le_of_eq hg.symm)) hb); replace HB := A_ (below_step (bl_ HB) hb); clear hb hbox hg; refine hK.out _ _ ⟨HS0_, HS1_, ((HB.out.cell (World.block_lt_of_cell? w _ hw247_0)).trans hw247_0), ((HB.out.cell (World.block_lt_of_cell? w _ hw247_1)).trans hw247_1)⟩ (fun hHeld => ?_)
                      clear hK K; refine norm_ (a' := ?_) ?_ ?_
                      rotate_left
                      ·show Act.put _ (some 10) _ = _
                       simp only [Act.put, List.setIfInBounds_toArray, List.set_cons_zero, List.set_cons_succ, i64_w, i32_w]
                       rfl
                      exact norm_ (by simp only [putAll, Act.put, List.setIfInBounds_toArray, List.set_cons_zero, List.set_cons_succ]) (hCont (.slice Ao25 y248.length co25, gb254) _ ⟨hHeld, (by (with_reducible repeat (first | apply Kd.R_alloc | apply Kd.R_drewN | apply Kd.R_drew)); exact Kd.R_mono HO250.out (fun _ hk => ⟨hk.1.2, hk.2⟩)), (by (with_reducible repeat (first | apply Kd.R_alloc | apply Kd.R_drewN | apply Kd.R_drew)); exact Kd.R_mono HO_6.out (fun _ hk => ⟨hk.1.2, hk.2⟩)), (bx_ BK254), GW254.out, GE254.out, (bl1_ HB GE254.out)⟩)
                     ·skip
                      refine box_step ?hg (N := 10) ?hd (cs := #[.int .i64 0, .int .i64 0]) (t := 36) ?hr ?_; (case hd => rfl); (case hg => rfl); (case hr => first | (go_simp; done) | (go_simp; rfl))
                      intro gb254 hg w25 hbox hb; have HS0_ := (hb.cell (World.block_lt_of_cell? _ _ (hHeld.1))).trans (hHeld.1); have HS1_ := (hb.cell (World.block_lt_of_cell? _ _ (hHeld.2.1))).trans (hHeld.2.1); have BK254 := A_ (hbox); have GW254 := A_ ((by rw [hg]; exact (below_size (bl_ HB)) : w.heap.size ≤ gb254)); have GE254 := A_ ((by rw [hg]; exact (below_size (bl_ HB)) : w.heap.size ≤ gb254)); replace HO_6 := A_ (Kd.R_below (Kd.R_elderB (ro_ HO_6) gb254 (Nat.le_of_eq hg.symm)) hb); replace HO250 := A_ (Kd.R_below (Kd.R_elderB (ro_ HO250) gb254 (Nat.le_of_eq hg.symm)) hb); replace HB := A_ (below_step (bl_ HB) hb); clear hb hbox hg; obtain ⟨Ao26, co26, eo26⟩ := Kd.R_slice HO250.out
                      (first | subst eo26 | (injection eo26 with f1_ f2_ f3_; have f4_ := f1_.symm; have f5_ := f3_.symm; clear f1_ f2_ f3_; subst f4_; subst f5_))
                      refine hK.out _ _ ⟨HS0_, HS1_, ((HB.out.cell (World.block_lt_of_cell? w _ hw247_0)).trans hw247_0), ((HB.out.cell (World.block_lt_of_cell? w _ hw247_1)).trans hw247_1)⟩ (fun hHeld => ?_)
                      clear hK K; refine norm_ (a' := ?_) ?_ ?_
                      rotate_left
                      ·show Act.put _ (some 10) _ = _
                       simp only [Act.put, List.setIfInBounds_toArray, List.set_cons_zero, List.set_cons_succ, i64_w, i32_w]
                       rfl
                      refine one_ (i := 9) (N := some 45) #[true, true, true, true, true, true, true, true, true, true, false, false, false, true, false, false] rfl rfl (one_of HT_.out (by kernel_rfl)) (by decide) (fun K hK => ?_)
                      refine goes_ Try.func30 (by kernel_rfl) rfl #[.slice Ao26 y248.length co26] (by rfl) rfl rfl (by (try simp only [List.map_toArray, List.map_cons, List.map_nil]); first | done | rfl | (simp only [List.length_drop, List.length_take]; rfl)) ?_
                      with_reducible refine (pair_Total.calls k3 _ _ y248 t251 t252 t253 _ ?side1 ?side2 A18.out).mono ?_
                      (case side1 => repeat (first | exact (Kd.R_reads' HO250.out).2.2 | (with_reducible refine Kd.C_alloc ?_ _) | (with_reducible refine Kd.C_drewN ?_ _) | (with_reducible refine Kd.C_drew ?_)))
                      (case side2 => exact (Kd.R_reads' HO250.out).2.1)
                      rintro e w27 ⟨rfl, hb⟩; have HS0_ := (hb.cell (World.block_lt_of_cell? _ _ (hHeld.1))).trans (hHeld.1); have HS1_ := (hb.cell (World.block_lt_of_cell? _ _ (hHeld.2.1))).trans (hHeld.2.1); refine ⟨_, rfl, ?_⟩
                      replace HO_6 := A_ (Kd.R_below (ro_ HO_6) hb); replace HO250 := A_ (Kd.R_below (ro_ HO250) hb); replace BK254 := A_ (blk_below (bx_ BK254) hb); replace HB := A_ (below_step (bl1_ HB GE254.out) hb)
                      (try clear hb)
                      (try clear hb2)
                      (try clear hk)
                      (try clear hi)
                      refine hK.out _ _ ⟨HS0_, HS1_, ((HB.out.cell (World.block_lt_of_cell? w _ hw247_0)).trans hw247_0), ((HB.out.cell (World.block_lt_of_cell? w _ hw247_1)).trans hw247_1)⟩ (fun hHeld => ?_)
                      clear hK K; refine norm_ (a' := ?_) ?_ ?_
                      rotate_left
                      ·show Act.put _ (some 45) _ = _
                       simp only [Act.put, List.setIfInBounds_toArray, List.set_cons_zero, List.set_cons_succ, i64_w, i32_w]
                       rfl
                      refine pure_ (i := 10) (N := some 35) (v := ?_) (a' := ?_) #[true, true, true, true, true, true, true, true, true, true, true, false, false, true, false, false] rfl rfl (any_of HT_.out (by kernel_rfl)) (fun _ _ _ h => h) (Or.inl ⟨by rfl, ?_⟩) ?_ ?_
                      rotate_left
                      ·intro w'
                       go_simp
                       with_reducible rfl
                      rotate_left
                      ·simp only [Act.put, List.setIfInBounds_toArray, List.set_cons_zero, List.set_cons_succ, i64_w, i32_w]
                       rfl
                      refine pure_ (i := 11) (N := some 46) (v := ?_) (a' := ?_) #[true, true, true, true, true, true, true, true, true, true, true, true, false, true, false, false] rfl rfl (any_of HT_.out (by kernel_rfl)) (fun _ _ _ h => h) (Or.inl ⟨by rfl, ?_⟩) ?_ ?_
                      rotate_left
                      ·intro w'
                       go_simp
                       with_reducible rfl
                      rotate_left
                      ·simp only [Act.put, List.setIfInBounds_toArray, List.set_cons_zero, List.set_cons_succ, i64_w, i32_w]
                       rfl
                      refine pure_ (i := 12) (N := some 47) (v := ?_) (a' := ?_) #[true, true, true, true, true, true, true, true, true, true, true, true, true, true, false, false] rfl rfl (any_of HT_.out (by kernel_rfl)) (fun _ _ _ h => h) (Or.inl ⟨by rfl, ?_⟩) ?_ ?_
                      rotate_left
                      ·intro w'
                       go_simp
                       with_reducible rfl
                      rotate_left
                      ·simp only [Act.put, List.setIfInBounds_toArray, List.set_cons_zero, List.set_cons_succ, i64_w, i32_w]
                       rfl
                      exact norm_ (by simp only [putAll, Act.put, List.setIfInBounds_toArray, List.set_cons_zero, List.set_cons_succ]) (hCont (.slice Ao26 y248.length co26, gb254) _ ⟨hHeld, (by (with_reducible repeat (first | apply Kd.R_alloc | apply Kd.R_drewN | apply Kd.R_drew)); exact Kd.R_mono HO250.out (fun _ hk => ⟨hk.1.2, hk.2⟩)), (by (with_reducible repeat (first | apply Kd.R_alloc | apply Kd.R_drewN | apply Kd.R_drew)); exact Kd.R_mono HO_6.out (fun _ hk => ⟨hk.1.2, hk.2⟩)), (bx_ BK254), GW254.out, GE254.out, (bl1_ HB GE254.out)⟩)
                    ·skip
                     refine box_step ?hg (N := 10) ?hd (cs := #[.int .i64 0, .int .i64 0]) (t := 36) ?hr ?_; (case hd => rfl); (case hg => rfl); (case hr => first | (go_simp; done) | (go_simp; rfl))
                     intro gb254 hg w23 hbox hb; have HS0_ := (hb.cell (World.block_lt_of_cell? _ _ (hHeld.1))).trans (hHeld.1); have HS1_ := (hb.cell (World.block_lt_of_cell? _ _ (hHeld.2.1))).trans (hHeld.2.1); have BK254 := A_ (hbox); have GW254 := A_ ((by rw [hg]; exact (below_size (bl_ HB)) : w.heap.size ≤ gb254)); have GE254 := A_ ((by rw [hg]; exact (below_size (bl_ HB)) : w.heap.size ≤ gb254)); replace HO_6 := A_ (Kd.R_below (Kd.R_elderB (ro_ HO_6) gb254 (Nat.le_of_eq hg.symm)) hb); replace HB := A_ (below_step (bl_ HB) hb); clear hb hbox hg; refine hK.out _ _ ⟨HS0_, HS1_, ((HB.out.cell (World.block_lt_of_cell? w _ hw247_0)).trans hw247_0), ((HB.out.cell (World.block_lt_of_cell? w _ hw247_1)).trans hw247_1)⟩ (fun hHeld => ?_)
                     clear hK K; refine norm_ (a' := ?_) ?_ ?_
                     rotate_left
                     ·show Act.put _ (some 10) _ = _
                      simp only [Act.put, List.setIfInBounds_toArray, List.set_cons_zero, List.set_cons_succ, i64_w, i32_w]
                      rfl
                     refine one_ (i := 8) (N := some 44) #[true, true, true, true, true, true, true, true, true, false, false, false, false, true, false, false] rfl rfl (one_of HT_.out (by kernel_rfl)) (by decide) (fun K hK => ?_)
                     refine Kd.R_lit_step k36 _ 36 ?hg (N := 44) ?hd (xs := ([(⟨(rd_T36 x6_3 x32_3).f0, (rd_T36 x6_3 x32_3).f1⟩ : S36), (⟨(rd_T36 (rd_L12 l1 x22_2) x32_3).f0, (rd_T36 (rd_L12 l1 x22_2) x32_3).f1⟩ : S36)] : List (S36))) (inner := [.int .i64 ((rd_T36 x6_3 x32_3).f0), .int .i64 ((rd_T36 x6_3 x32_3).f1), .int .i64 ((rd_T36 (rd_L12 l1 x22_2) x32_3).f0), .int .i64 ((rd_T36 (rd_L12 l1 x22_2) x32_3).f1)]) (ok := fun _ => True) (okp := fun _ => True) ?hr ?hp (fun _ hk => hk) trivial (Below.refl _ _) (Nat.le_refl _) (by simp) ?_; (case hd => rfl); (case hg => rfl); (case hr => first | (go_simp; done) | (go_simp; rfl)); (case hp => exact (Reps.c2 (show Kd.M k36 _ _ _ (⟨(rd_T36 x6_3 x32_3).f0, (rd_T36 x6_3 x32_3).f1⟩ : S36) [.int .i64 ((rd_T36 x6_3 x32_3).f0), .int .i64 ((rd_T36 x6_3 x32_3).f1)] from (k36_mkM _ _ _ (⟨(rd_T36 x6_3 x32_3).f0, (rd_T36 x6_3 x32_3).f1⟩ : S36) )) (Reps.c2 (show Kd.M k36 _ _ _ (⟨(rd_T36 (rd_L12 l1 x22_2) x32_3).f0, (rd_T36 (rd_L12 l1 x22_2) x32_3).f1⟩ : S36) [.int .i64 ((rd_T36 (rd_L12 l1 x22_2) x32_3).f0), .int .i64 ((rd_T36 (rd_L12 l1 x22_2) x32_3).f1)] from (k36_mkM _ _ _ (⟨(rd_T36 (rd_L12 l1 x22_2) x32_3).f0, (rd_T36 (rd_L12 l1 x22_2) x32_3).f1⟩ : S36) )) (Reps.none _ _))))
                     intro v249 w24 ho25 hb hg_ hnew_; have HS0_ := (hb.cell (World.block_lt_of_cell? _ _ (hHeld.1))).trans (hHeld.1); have HS1_ := (hb.cell (World.block_lt_of_cell? _ _ (hHeld.2.1))).trans (hHeld.2.1); clear hg_ hnew_
                     (first | rw [← Ny248.out] at ho25 | (simp only [Int.reduceToNat] at ho25; rw [← Ny248.out] at ho25))
                     have HO250 := A_ (Kd.R_lower (Kd.R_newB (Kd.R_new' ho25 (Kd.R_lt (ro_ HO_6))) (g := gb254) (o := .cells #[.int .i64 0, .int .i64 0] 36 (0, 0)) (bx_ BK254)) (below_size (bl1_ HB GE254.out))); replace HO_6 := A_ (Kd.R_elder' (ro_ HO_6) (Kd.R_base ho25) hb); replace BK254 := A_ (blk_below (bx_ BK254) hb); replace HB := A_ (below_step (bl1_ HB GE254.out) hb); clear hb ho25; obtain ⟨Ao26, co26, eo26⟩ := Kd.R_slice HO250.out
                     (first | subst eo26 | (injection eo26 with f1_ f2_ f3_; have f4_ := f1_.symm; have f5_ := f3_.symm; clear f1_ f2_ f3_; subst f4_; subst f5_))
                     refine hK.out _ _ ⟨HS0_, HS1_, ((HB.out.cell (World.block_lt_of_cell? w _ hw247_0)).trans hw247_0), ((HB.out.cell (World.block_lt_of_cell? w _ hw247_1)).trans hw247_1)⟩ (fun hHeld => ?_)
                     clear hK K; refine norm_ (a' := ?_) ?_ ?_
                     rotate_left
                     ·show Act.put _ (some 44) _ = _
                      simp only [Act.put, List.setIfInBounds_toArray, List.set_cons_zero, List.set_cons_succ, i64_w, i32_w]
                      rfl
                     refine one_ (i := 9) (N := some 45) #[true, true, true, true, true, true, true, true, true, true, false, false, false, true, false, false] rfl rfl (one_of HT_.out (by kernel_rfl)) (by decide) (fun K hK => ?_)
                     refine goes_ Try.func30 (by kernel_rfl) rfl #[.slice Ao26 y248.length co26] (by rfl) rfl rfl (by (try simp only [List.map_toArray, List.map_cons, List.map_nil]); first | done | rfl | (simp only [List.length_drop, List.length_take]; rfl)) ?_
                     with_reducible refine (pair_Total.calls k3 _ _ y248 t251 t252 t253 _ ?side1 ?side2 A18.out).mono ?_
                     (case side1 => repeat (first | exact (Kd.R_reads' HO250.out).2.2 | (with_reducible refine Kd.C_alloc ?_ _) | (with_reducible refine Kd.C_drewN ?_ _) | (with_reducible refine Kd.C_drew ?_)))
                     (case side2 => exact (Kd.R_reads' HO250.out).2.1)
                     rintro e w27 ⟨rfl, hb⟩; have HS0_ := (hb.cell (World.block_lt_of_cell? _ _ (hHeld.1))).trans (hHeld.1); have HS1_ := (hb.cell (World.block_lt_of_cell? _ _ (hHeld.2.1))).trans (hHeld.2.1); refine ⟨_, rfl, ?_⟩
                     replace HO_6 := A_ (Kd.R_below (ro_ HO_6) hb); replace HO250 := A_ (Kd.R_below (ro_ HO250) hb); replace BK254 := A_ (blk_below (bx_ BK254) hb); replace HB := A_ (below_step (bl1_ HB GE254.out) hb)
                     (try clear hb)
                     (try clear hb2)
                     (try clear hk)
                     (try clear hi)
                     refine hK.out _ _ ⟨HS0_, HS1_, ((HB.out.cell (World.block_lt_of_cell? w _ hw247_0)).trans hw247_0), ((HB.out.cell (World.block_lt_of_cell? w _ hw247_1)).trans hw247_1)⟩ (fun hHeld => ?_)
                     clear hK K; refine norm_ (a' := ?_) ?_ ?_
                     rotate_left
                     ·show Act.put _ (some 45) _ = _
                      simp only [Act.put, List.setIfInBounds_toArray, List.set_cons_zero, List.set_cons_succ, i64_w, i32_w]
                      rfl
                     refine pure_ (i := 10) (N := some 35) (v := ?_) (a' := ?_) #[true, true, true, true, true, true, true, true, true, true, true, false, false, true, false, false] rfl rfl (any_of HT_.out (by kernel_rfl)) (fun _ _ _ h => h) (Or.inl ⟨by rfl, ?_⟩) ?_ ?_
                     rotate_left
                     ·intro w'
                      go_simp
                      with_reducible rfl
                     rotate_left
                     ·simp only [Act.put, List.setIfInBounds_toArray, List.set_cons_zero, List.set_cons_succ, i64_w, i32_w]
                      rfl
                     refine pure_ (i := 11) (N := some 46) (v := ?_) (a' := ?_) #[true, true, true, true, true, true, true, true, true, true, true, true, false, true, false, false] rfl rfl (any_of HT_.out (by kernel_rfl)) (fun _ _ _ h => h) (Or.inl ⟨by rfl, ?_⟩) ?_ ?_
                     rotate_left
                     ·intro w'
                      go_simp
                      with_reducible rfl
                     rotate_left
                     ·simp only [Act.put, List.setIfInBounds_toArray, List.set_cons_zero, List.set_cons_succ, i64_w, i32_w]
                      rfl
                     refine pure_ (i := 12) (N := some 47) (v := ?_) (a' := ?_) #[true, true, true, true, true, true, true, true, true, true, true, true, true, true, false, false] rfl rfl (any_of HT_.out (by kernel_rfl)) (fun _ _ _ h => h) (Or.inl ⟨by rfl, ?_⟩) ?_ ?_
                     rotate_left
                     ·intro w'
                      go_simp
                      with_reducible rfl
                     rotate_left
                     ·simp only [Act.put, List.setIfInBounds_toArray, List.set_cons_zero, List.set_cons_succ, i64_w, i32_w]
                      rfl
                     exact norm_ (by simp only [putAll, Act.put, List.setIfInBounds_toArray, List.set_cons_zero, List.set_cons_succ]) (hCont (.slice Ao26 y248.length co26, gb254) _ ⟨hHeld, (by (with_reducible repeat (first | apply Kd.R_alloc | apply Kd.R_drewN | apply Kd.R_drew)); exact Kd.R_mono HO250.out (fun _ hk => ⟨hk.1.2, hk.2⟩)), (by (with_reducible repeat (first | apply Kd.R_alloc | apply Kd.R_drewN | apply Kd.R_drew)); exact Kd.R_mono HO_6.out (fun _ hk => ⟨hk.2, hk.1.2⟩)), (bx_ BK254), GW254.out, GE254.out, (bl1_ HB GE254.out)⟩)
                   rintro ⟨v249, gb254⟩ w28 ⟨hS_, h0_, h1_, h2_, h3_, h4_, h5_⟩; have n0_ : Aside0 (Kd.R k36 36 w28 w.heap.size (fun k_ => some k_ ≠ (.slice (some ad246) x6_3.length co22 : Value).ownBlock ∧ k_ ≠ gb254) v249 y248) := ⟨h0_⟩; have n1_ : Aside0 (Kd.R k36 36 w28 w.heap.size (fun k_ => some k_ ≠ (v249 : Value).ownBlock ∧ k_ ≠ gb254) (.slice (some ad246) x6_3.length co22) x6_3) := ⟨h1_⟩; have n2_ : Aside0 (w28.heap[gb254]? = some (.cells #[.int .i64 0, .int .i64 0] 36 (0, 0))) := ⟨h2_⟩; have n3_ : Aside0 (w.heap.size ≤ gb254) := ⟨h3_⟩; have n4_ : Aside0 (w.heap.size ≤ gb254) := ⟨h4_⟩; have n5_ : Aside0 (Below w.heap.size w w28) := ⟨h5_⟩; clear HO_6; clear HB; clear h0_ h1_ h2_ h3_ h4_ h5_; have HO250 := n0_; have HO_6 := n1_; have BK254 := n2_; have GW254 := n3_; have GE254 := n4_; have HB := n5_; clear n0_ n1_ n2_ n3_ n4_ n5_; have hHeld : w28.cell? (ad246.add ((x32_3).toNat * 2)) = some (.int .i64 ((rd_T36 x6_3 x32_3).f0)) ∧ w28.cell? ⟨(ad246.add ((x32_3).toNat * 2)).block, (ad246.add ((x32_3).toNat * 2)).off + 1, none⟩ = some (.int .i64 ((rd_T36 x6_3 x32_3).f1)) ∧ w28.cell? (ad247.add ((x32_3).toNat * 2)) = some (.int .i64 ((rd_T36 (rd_L12 l1 x22_2) x32_3).f0)) ∧ w28.cell? ⟨(ad247.add ((x32_3).toNat * 2)).block, (ad247.add ((x32_3).toNat * 2)).off + 1, none⟩ = some (.int .i64 ((rd_T36 (rd_L12 l1 x22_2) x32_3).f1)) := hS_; refine norm_ (a' := ?_) ?_ ?_
                   rotate_left
                   ·simp only [putAll, Act.put, List.setIfInBounds_toArray, List.set_cons_zero, List.set_cons_succ]
                    rfl
                   refine one_ (i := 14) (N := none) #[true, true, true, true, true, true, true, true, true, true, true, true, true, true, true, false] rfl rfl (one_of HT_.out (by kernel_rfl)) (by decide) (fun K hK => ?_)
                   have hs29 : w28.cell? ⟨gb254, 0, none⟩ = some (.int .i64 0) := (blk_cell BK254.out 0).trans rfl; have hfs29 := fz_ BK254 0; have hs30 : w28.cell? ⟨gb254, 1, none⟩ = some (.int .i64 0) := (blk_cell BK254.out 1).trans rfl; have hfs30 := fz_ BK254 1; refine skip_ (w1 := ?_) (by rfl) rfl ?_ ?_
                   rotate_left
                   ·go_simp
                    rfl
                   refine hK.out _ _ ⟨((cell_far (p := ⟨gb254, _, none⟩) (by first | exact Kd.own_blk (Kd.R_away HO_6.out (fun _ hk => hk.2)) | (rw [add_block]; exact Kd.own_blk (Kd.R_away HO_6.out (fun _ hk => hk.2))) | (show (Addr.add _ _).block ≠ _; rw [add_block]; exact Kd.own_blk (Kd.R_away HO_6.out (fun _ hk => hk.2))) | (dsimp only; exact Kd.own_blk (Kd.R_away HO_6.out (fun _ hk => hk.2)))) _).trans (((cell_far (p := ⟨gb254, _, none⟩) (by first | exact Kd.own_blk (Kd.R_away HO_6.out (fun _ hk => hk.2)) | (rw [add_block]; exact Kd.own_blk (Kd.R_away HO_6.out (fun _ hk => hk.2))) | (show (Addr.add _ _).block ≠ _; rw [add_block]; exact Kd.own_blk (Kd.R_away HO_6.out (fun _ hk => hk.2))) | (dsimp only; exact Kd.own_blk (Kd.R_away HO_6.out (fun _ hk => hk.2)))) _).trans (hHeld.1)))), ((cell_far (p := ⟨gb254, _, none⟩) (by first | exact Kd.own_blk (Kd.R_away HO_6.out (fun _ hk => hk.2)) | (rw [add_block]; exact Kd.own_blk (Kd.R_away HO_6.out (fun _ hk => hk.2))) | (show (Addr.add _ _).block ≠ _; rw [add_block]; exact Kd.own_blk (Kd.R_away HO_6.out (fun _ hk => hk.2))) | (dsimp only; exact Kd.own_blk (Kd.R_away HO_6.out (fun _ hk => hk.2)))) _).trans (((cell_far (p := ⟨gb254, _, none⟩) (by first | exact Kd.own_blk (Kd.R_away HO_6.out (fun _ hk => hk.2)) | (rw [add_block]; exact Kd.own_blk (Kd.R_away HO_6.out (fun _ hk => hk.2))) | (show (Addr.add _ _).block ≠ _; rw [add_block]; exact Kd.own_blk (Kd.R_away HO_6.out (fun _ hk => hk.2))) | (dsimp only; exact Kd.own_blk (Kd.R_away HO_6.out (fun _ hk => hk.2)))) _).trans (hHeld.2.1)))), ((cell_far (p := ⟨gb254, _, none⟩) (by first | exact Nat.ne_of_lt (Nat.lt_of_lt_of_le (by have := World.block_lt_of_cell? _ _ hw247_0; first | rwa [add_block] at this | exact this) GW254.out) | (rw [add_block]; exact Nat.ne_of_lt (Nat.lt_of_lt_of_le (by have := World.block_lt_of_cell? _ _ hw247_0; first | rwa [add_block] at this | exact this) GW254.out)) | (show (Addr.add _ _).block ≠ _; rw [add_block]; exact Nat.ne_of_lt (Nat.lt_of_lt_of_le (by have := World.block_lt_of_cell? _ _ hw247_0; first | rwa [add_block] at this | exact this) GW254.out)) | (dsimp only; exact Nat.ne_of_lt (Nat.lt_of_lt_of_le (by have := World.block_lt_of_cell? _ _ hw247_0; first | rwa [add_block] at this | exact this) GW254.out))) _).trans (((cell_far (p := ⟨gb254, _, none⟩) (by first | exact Nat.ne_of_lt (Nat.lt_of_lt_of_le (by have := World.block_lt_of_cell? _ _ hw247_0; first | rwa [add_block] at this | exact this) GW254.out) | (rw [add_block]; exact Nat.ne_of_lt (Nat.lt_of_lt_of_le (by have := World.block_lt_of_cell? _ _ hw247_0; first | rwa [add_block] at this | exact this) GW254.out)) | (show (Addr.add _ _).block ≠ _; rw [add_block]; exact Nat.ne_of_lt (Nat.lt_of_lt_of_le (by have := World.block_lt_of_cell? _ _ hw247_0; first | rwa [add_block] at this | exact this) GW254.out)) | (dsimp only; exact Nat.ne_of_lt (Nat.lt_of_lt_of_le (by have := World.block_lt_of_cell? _ _ hw247_0; first | rwa [add_block] at this | exact this) GW254.out))) _).trans (hHeld.2.2.1)))), ((cell_far (p := ⟨gb254, _, none⟩) (by first | exact Nat.ne_of_lt (Nat.lt_of_lt_of_le (by have := World.block_lt_of_cell? _ _ hw247_1; first | rwa [add_block] at this | exact this) GW254.out) | (rw [add_block]; exact Nat.ne_of_lt (Nat.lt_of_lt_of_le (by have := World.block_lt_of_cell? _ _ hw247_1; first | rwa [add_block] at this | exact this) GW254.out)) | (show (Addr.add _ _).block ≠ _; rw [add_block]; exact Nat.ne_of_lt (Nat.lt_of_lt_of_le (by have := World.block_lt_of_cell? _ _ hw247_1; first | rwa [add_block] at this | exact this) GW254.out)) | (dsimp only; exact Nat.ne_of_lt (Nat.lt_of_lt_of_le (by have := World.block_lt_of_cell? _ _ hw247_1; first | rwa [add_block] at this | exact this) GW254.out))) _).trans (((cell_far (p := ⟨gb254, _, none⟩) (by first | exact Nat.ne_of_lt (Nat.lt_of_lt_of_le (by have := World.block_lt_of_cell? _ _ hw247_1; first | rwa [add_block] at this | exact this) GW254.out) | (rw [add_block]; exact Nat.ne_of_lt (Nat.lt_of_lt_of_le (by have := World.block_lt_of_cell? _ _ hw247_1; first | rwa [add_block] at this | exact this) GW254.out)) | (show (Addr.add _ _).block ≠ _; rw [add_block]; exact Nat.ne_of_lt (Nat.lt_of_lt_of_le (by have := World.block_lt_of_cell? _ _ hw247_1; first | rwa [add_block] at this | exact this) GW254.out)) | (dsimp only; exact Nat.ne_of_lt (Nat.lt_of_lt_of_le (by have := World.block_lt_of_cell? _ _ hw247_1; first | rwa [add_block] at this | exact this) GW254.out))) _).trans (hHeld.2.2.2))))⟩ (fun hHeld => ?_)
                   clear hK K; refine pure_ (i := 15) (N := some 11) (v := ?_) (a' := ?_) #[true, true, true, true, true, true, true, true, true, true, true, true, true, true, true, true] rfl rfl (any_of HT_.out (by kernel_rfl)) (fun _ _ _ h => h) (Or.inl ⟨by rfl, ?_⟩) ?_ ?_
                   rotate_left
                   ·intro w'
                    go_simp
                    with_reducible rfl
                   rotate_left
                   ·simp only [Act.put, List.setIfInBounds_toArray, List.set_cons_zero, List.set_cons_succ, i64_w, i32_w]
                    rfl
                   refine done_ (done_of HT_.out (by kernel_rfl)) ?_
                   have n0_ : Aside0 (Kd.R k36 36 ((w28.setCell ⟨gb254, 0, none⟩ (.int .i64 t251)).setCell ⟨gb254, 1, none⟩ (.int .i64 t252)) w.heap.size (fun k_ => some k_ ≠ (v249 : Value).ownBlock ∧ k_ ≠ gb254) (.slice (some ad246) x6_3.length co22) x6_3) := ⟨by (with_reducible repeat (first | apply Kd.R_alloc | apply Kd.R_drewN | apply Kd.R_drew)); exact Kd.R_mono (Kd.R_far (p := ⟨gb254, 1, none⟩) (Kd.R_far (p := ⟨gb254, 0, none⟩) (Kd.R_mono HO_6.out (fun k_ hk => (⟨hk, hk.2⟩ : _ ∧ k_ ≠ gb254))) (fun _ hk => hk.2) (.int .i64 t251)) (fun _ hk => hk.2) (.int .i64 t252)) (fun _ hk => ⟨hk.1.1, hk.1.2⟩)⟩; have n1_ : Aside0 (Kd.R k36 36 ((w28.setCell ⟨gb254, 0, none⟩ (.int .i64 t251)).setCell ⟨gb254, 1, none⟩ (.int .i64 t252)) w.heap.size (fun k_ => some k_ ≠ (.slice (some ad246) x6_3.length co22 : Value).ownBlock ∧ k_ ≠ gb254) v249 y248) := ⟨by (with_reducible repeat (first | apply Kd.R_alloc | apply Kd.R_drewN | apply Kd.R_drew)); exact Kd.R_mono (Kd.R_far (p := ⟨gb254, 1, none⟩) (Kd.R_far (p := ⟨gb254, 0, none⟩) (Kd.R_mono HO250.out (fun k_ hk => (⟨hk, hk.2⟩ : _ ∧ k_ ≠ gb254))) (fun _ hk => hk.2) (.int .i64 t251)) (fun _ hk => hk.2) (.int .i64 t252)) (fun _ hk => ⟨hk.1.1, hk.1.2⟩)⟩; have n2_ : Aside0 (((w28.setCell ⟨gb254, 0, none⟩ (.int .i64 t251)).setCell ⟨gb254, 1, none⟩ (.int .i64 t252)).heap[gb254]? = some (.cells #[.int .i64 t251, .int .i64 t252] 36 (0, 0))) := ⟨by refine bw_ ?_; refine blk_put (cs := #[.int .i64 t251, .int .i64 0]) ?_ 1 _ rfl; refine bw_ ?_; refine blk_put (cs := #[.int .i64 0, .int .i64 0]) ?_ 0 _ rfl; refine bw_ ?_; exact BK254.out⟩; have n3_ : Aside0 (Below w.heap.size w ((w28.setCell ⟨gb254, 0, none⟩ (.int .i64 t251)).setCell ⟨gb254, 1, none⟩ (.int .i64 t252))) := ⟨bl1_ HB GE254.out⟩
                   (try clear HO_6)
                   (try clear HO250)
                   (try clear BK254)
                   (try clear HB)
                   generalize ((w28.setCell ⟨gb254, 0, none⟩ (.int .i64 t251)).setCell ⟨gb254, 1, none⟩ (.int .i64 t252)) = w31 at n0_ n1_ n2_ n3_ ⊢; have HO_6 := n0_; have HO250 := n1_; have BK254 := n2_; have HB := n3_; clear n0_ n1_ n2_ n3_; have hcz32_0 := cz_ BK254 0; have hcz32_1 := cz_ BK254 1; have hfz32_0 := fz_ BK254 0; have hfz32_1 := fz_ BK254 1; have p20 : 0 ≤ (x32_3 : Int) := od_; have q20 : (x32_3 : Int) < ((x6_3.length : Int) : Int) := od_; obtain ⟨go20, co20, eo20, gb20, gl20, cl20, HG20⟩ := Kd.R_form HO_6.out (by omega)
                   (first | cases eo20 | (injection eo20 with ea_ en_ ec_; (first | subst ea_ | (injection ea_ with ea_; subst ea_)); subst ec_; clear en_))
                   have GB20 := A_ gb20; have GG20 := A_ HG20; clear gb20 gl20 HG20
                   (first | simp only [add_plain] at hx246_0 | skip)
                   (first | simp only [add_plain] at hx246_1 | skip)
                   obtain ⟨ce20, hcl20, hM20, hcc20, hfr20⟩ := Kd.R_elem HO_6.out z36 (x32_3 : Int) p20 q20; obtain rfl := k36_openM hM20; have hx20_0 : w31.cell? ⟨go20, (x32_3 : Int).toNat * 2, none⟩ = some (.int .i64 ((rd_T36 x6_3 x32_3).f0)) := hcc20 0 _ rfl; have hx20_1 : w31.cell? ⟨go20, (x32_3 : Int).toNat * 2 + 1, none⟩ = some (.int .i64 ((rd_T36 x6_3 x32_3).f1)) := hcc20 1 _ rfl; have hf20_0 : w31.frozen? ⟨go20, (x32_3 : Int).toNat * 2, none⟩ = false := hfr20 0; have hf20_1 : w31.frozen? ⟨go20, (x32_3 : Int).toNat * 2 + 1, none⟩ = false := hfr20 1; clear hcl20 hcc20 hfr20 hM20; replace p20 := eq_true p20; replace q20 := eq_true q20; have HX33 := A_ (show Kd.R k36 36 w31 w.heap.size (fun k_ => some k_ ≠ (v249 : Value).ownBlock ∧ k_ ≠ gb254) (.slice (some ⟨go20, 0, none⟩) x6_3.length co22) x6_3 from (ro_ HO_6)); obtain ⟨ce33, hcl33, hM33, hcc33, hfr33⟩ := Kd.R_elem HX33.out z36 (x32_3 : Int) (od_) (by have h_ : (x32_3 : Int) < ((x6_3.length : Int) : Int) := od_; first | exact h_ | (have e_ := (Kd.R_reads' HO_6.out).1; omega) | simpa using h_); obtain rfl := k36_openM hM33; have HP33 := Kd.R_seg HX33.out (x32_3 : Int) (od_) (by have h_ : (x32_3 : Int) < ((x6_3.length : Int) : Int) := od_; first | exact h_ | (have e_ := (Kd.R_reads' HO_6.out).1; omega) | simpa using h_) (seg := [.int .i64 t251, .int .i64 t252]) (j := 0) hcl33 hcc33 (show 2 ≤ 2 from by decide) (x' := (⟨t251, t252⟩ : S36)) (k36_mkM _ _ _ (⟨t251, t252⟩ : S36) ) (fun _ hk => hk); have hx33_0 := hcc33 0 _ rfl
                   (try simp only [show (k36).sz = 2 from rfl, Nat.mul_one, Nat.add_zero] at hx33_0)
                   have hf33_0 := hfr33 0
                   (try simp only [show (k36).sz = 2 from rfl, Nat.mul_one, Nat.add_zero] at hf33_0)
                   have hx33_1 := hcc33 1 _ rfl
                   (try simp only [show (k36).sz = 2 from rfl, Nat.mul_one, Nat.add_zero] at hx33_1)
                   have hf33_1 := hfr33 1
                   (try simp only [show (k36).sz = 2 from rfl, Nat.mul_one, Nat.add_zero] at hf33_1)
                   clear hcl33 hcc33 hfr33 hM33
                   try go_wp2_with (first | ((with_reducible refine gate_store (t := 36) (p := 54) rfl ?_); refine se_ (t := 36) (p := 54) (w1 := ((w31.setCell ⟨go20, (x32_3 : Int).toNat * 2, none⟩ (.int .i64 t251)).setCell ⟨go20, (x32_3 : Int).toNat * 2 + 1, none⟩ (.int .i64 t252))) ?_; intro w34 hw; have hg : w31.grownBy w34 (some go20) := (by rw [hw]; exact HP33.2); have hp_ : Kd.R k36 36 w34 w.heap.size (fun k_ => some k_ ≠ (v249 : Value).ownBlock ∧ k_ ≠ gb254) (.slice (some ⟨go20, 0, none⟩) x6_3.length co22) y255 := (by rw [hw, Ny255.out]; exact HP33.1); clear HP33; replace HO250 := A_ (Kd.R_after (v := (.slice (some ⟨go20, 0, none⟩) x6_3.length co22)) (v1 := (.slice (some ⟨go20, 0, none⟩) x6_3.length co22)) (ok := (fun k_ => k_ ≠ gb254)) (by (with_reducible repeat (first | apply Kd.R_alloc | apply Kd.R_drewN | apply Kd.R_drew)); exact Kd.R_mono HO250.out (fun _ hk => ⟨hk.2, hk.1⟩)) hg (.inl rfl)); replace BK254 := A_ (blk_grown (g := gb254) (o := .cells #[.int .i64 t251, .int .i64 t252] 36 (0, 0)) (bx_ BK254) hg (Kd.R_away HO_6.out (fun _ hk => hk.2))); replace HO_6 := A_ (hp_); replace HB := A_ ((by rw [hw]; exact below_set (below_set (HB.out) GB20.out) GB20.out : Below w.heap.size w w34)); clear hg hw hp_))
                   go_roundg k3
                   case measure => have := HJ2.out; have := HK2.out; have := HK3.out; omega
                   case rel => exact ⟨(y255), (wrap64 (x32_3 + 1)), (sx_), H', ⟨by have := HJ2.out; have := HK2.out; have := HK3.out; omega⟩, ⟨by (with_reducible repeat (first | apply Kd.R_alloc | apply Kd.R_drewN | apply Kd.R_drew)); exact Kd.R_mono HO_6.out (fun _ hk => trivial)⟩, ⟨bl1_ HB GE254.out⟩⟩
                  ·rw [if_neg c19] at H; have c19b0 : (t253 == 0) = false := beq_eq_false_iff_ne.mpr c19; have c19b1 : (t253 != 0) = true := bne_iff_ne.mpr c19; simp only [Option.some.injEq, Prod.mk.injEq] at H; obtain ⟨rfl, rfl⟩ := H
                   try go_wp2
                   replace HO_6 := A_ (Kd.R_drew HO_6.out); replace HB := A_ (below_drew1 HB.out); obtain ⟨Ao36, co36, eo36⟩ := Kd.R_slice HO_6.out
                   (first | subst eo36 | (injection eo36 with f1_ f2_ f3_; have f4_ := f1_.symm; have f5_ := f3_.symm; clear f1_ f2_ f3_; subst f4_; subst f5_))
                   have p246 : 0 ≤ (x32_3 : Int) := od_; have q246 : x32_3 < (x6_3.length : Int) := od_; obtain ⟨ad246, e246, hx246_0, hx246_1⟩ := at_T36 (Kd.R_reads' HO_6.out).2.2 x32_3 p246 q246; cases e246; replace p246 := eq_true p246; replace q246 := eq_true q246; have p247 : 0 ≤ (x32_3 : Int) := od_; have q247 : x32_3 < ((rd_L12 l1 x22_2).length : Int) := od_; obtain ⟨ad247, e247, hx247_0, hx247_1⟩ := at_T36 HR245_0.out x32_3 p247 q247; have hw247_1 := hx247_1; have hw247_0 := hx247_0; cases e247; replace hx247_0 := (HB.out.cell (World.block_lt_of_cell? w _ hx247_0)).trans hx247_0; replace hx247_1 := (HB.out.cell (World.block_lt_of_cell? w _ hx247_1)).trans hx247_1; replace p247 := eq_true p247; replace q247 := eq_true q247; refine start_ (n := 16) (S := fun w' => w'.cell? (ad246.add ((x32_3).toNat * 2)) = some (.int .i64 ((rd_T36 x6_3 x32_3).f0)) ∧ w'.cell? ⟨(ad246.add ((x32_3).toNat * 2)).block, (ad246.add ((x32_3).toNat * 2)).off + 1, none⟩ = some (.int .i64 ((rd_T36 x6_3 x32_3).f1)) ∧ w'.cell? (ad247.add ((x32_3).toNat * 2)) = some (.int .i64 ((rd_T36 (rd_L12 l1 x22_2) x32_3).f0)) ∧ w'.cell? ⟨(ad247.add ((x32_3).toNat * 2)).block, (ad247.add ((x32_3).toNat * 2)).off + 1, none⟩ = some (.int .i64 ((rd_T36 (rd_L12 l1 x22_2) x32_3).f1))) (ds := []) #[false, false, false, false, false, false, false, false, false, false, false, false, false, false, false, false] (by kernel_rfl) rfl rfl ⟨hx246_0, hx246_1, ((HB.out.cell (World.block_lt_of_cell? w _ hw247_0)).trans hw247_0), ((HB.out.cell (World.block_lt_of_cell? w _ hw247_1)).trans hw247_1)⟩ (fun hHeld => ?_); refine with_tabW social_Sum.tab12 social_Sum.bits12 (fun HT_ HW_ => ?_)
                   generalize wr.drew = w35 at HO_6 HB hx246_0 hx246_1 hx247_0 hx247_1 hHeld ⊢; refine pure_ (i := 0) (N := some 36) (v := ?_) (a' := ?_) #[true, false, false, false, false, false, false, false, false, false, false, false, false, false, false, false] rfl rfl (any_of HT_.out (by kernel_rfl)) (fun _ _ _ h => h) (Or.inl ⟨by rfl, ?_⟩) ?_ ?_
                   rotate_left
                   ·intro w'
                    go_simp
                    with_reducible rfl
                   rotate_left
                   ·simp only [Act.put, List.setIfInBounds_toArray, List.set_cons_zero, List.set_cons_succ, i64_w, i32_w]
                    rfl
                   refine pure_ (i := 1) (N := some 37) (v := ?_) (a' := ?_) #[true, true, false, false, false, false, false, false, false, false, false, false, false, false, false, false] rfl rfl (any_of HT_.out (by kernel_rfl)) (fun _ _ _ h => h) (Or.inl ⟨by rfl, ?_⟩) ?_ ?_
                   rotate_left
                   ·intro w'
                    go_simp
                    with_reducible rfl
                   rotate_left
                   ·simp only [Act.put, List.setIfInBounds_toArray, List.set_cons_zero, List.set_cons_succ, i64_w, i32_w]
                    rfl
                   refine pure_ (i := 2) (N := some 38) (v := ?_) (a' := ?_) #[true, true, true, false, false, false, false, false, false, false, false, false, false, false, false, false] rfl rfl (any_of HT_.out (by kernel_rfl)) (fun _ _ _ h => h) (Or.inl ⟨by rfl, ?_⟩) ?_ ?_
                   rotate_left
                   ·intro w'
                    go_simp
                    with_reducible rfl
                   rotate_left
                   ·simp only [Act.put, List.setIfInBounds_toArray, List.set_cons_zero, List.set_cons_succ, i64_w, i32_w]
                    rfl
                   refine pure_ (i := 4) (N := some 40) (v := ?_) (a' := ?_) #[true, true, true, false, true, false, false, false, false, false, false, false, false, false, false, false] rfl rfl (any_of HT_.out (by kernel_rfl)) (fun _ _ _ h => h) (Or.inl ⟨by rfl, ?_⟩) ?_ ?_
                   rotate_left
                   ·intro w'
                    go_simp
                    with_reducible rfl
                   rotate_left
                   ·simp only [Act.put, List.setIfInBounds_toArray, List.set_cons_zero, List.set_cons_succ, i64_w, i32_w]
                    rfl
                   refine pure_ (i := 5) (N := some 41) (v := ?_) (a' := ?_) #[true, true, true, false, true, true, false, false, false, false, false, false, false, false, false, false] rfl rfl (any_of HT_.out (by kernel_rfl)) (fun _ _ _ h => h) (Or.inl ⟨by rfl, ?_⟩) ?_ ?_
                   rotate_left
                   ·intro w'
                    go_simp
                    with_reducible rfl
                   rotate_left
                   ·simp only [Act.put, List.setIfInBounds_toArray, List.set_cons_zero, List.set_cons_succ, i64_w, i32_w]
                    rfl
                   refine pure_ (i := 6) (N := some 42) (v := ?_) (a' := ?_) #[true, true, true, false, true, true, true, false, false, false, false, false, false, false, false, false] rfl rfl (any_of HT_.out (by kernel_rfl)) (fun _ _ _ h => h) (Or.inl ⟨by rfl, ?_⟩) ?_ ?_
                   rotate_left
                   ·intro w'
                    go_simp
                    with_reducible rfl
                   rotate_left
                   ·simp only [Act.put, List.setIfInBounds_toArray, List.set_cons_zero, List.set_cons_succ, i64_w, i32_w]
                    rfl
                   refine take_ (i := 3) (N := some 39) (v := ?_) (a' := ?_) #[true, true, true, true, true, true, true, false, false, false, false, false, false, false, false, false] rfl rfl (take_ofW HT_.out HW_.out (by kernel_rfl)) (fun _ _ _ h => h) (Or.inl ⟨by rfl, ?_⟩) hHeld ?_ ?_
                   rotate_left
                   ·rintro w' ⟨s0, s1, s2, s3⟩
                    go_simp
                    with_reducible rfl
                   rotate_left
                   ·simp only [Act.put, List.setIfInBounds_toArray, List.set_cons_zero, List.set_cons_succ, i64_w, i32_w]
                    rfl
                   refine take_ (i := 7) (N := some 43) (v := ?_) (a' := ?_) #[true, true, true, true, true, true, true, true, false, false, false, false, false, false, false, false] rfl rfl (take_ofW HT_.out HW_.out (by kernel_rfl)) (fun _ _ _ h => h) (Or.inl ⟨by rfl, ?_⟩) hHeld ?_ ?_
                   rotate_left
                   ·rintro w' ⟨s0, s1, s2, s3⟩
                    go_simp
                    with_reducible rfl
                   rotate_left
                   ·simp only [Act.put, List.setIfInBounds_toArray, List.set_cons_zero, List.set_cons_succ, i64_w, i32_w]
                    rfl
                   refine join_ (σ := Value × Nat) 2 #[true, true, true, true, true, true, true, true, true, true, true, true, true, true, false, false] (fun s_ => [(44, s_.1), (45, .tuple #[.agg #[.int .i64 t251, .int .i64 t252], .int .i64 t253]), (10, .pointer (some ⟨s_.2, 0, none⟩)), (35, .tuple #[.agg #[.int .i64 t251, .int .i64 t252], .int .i64 t253]), (46, .agg #[.int .i64 t251, .int .i64 t252]), (47, .int .i64 t253)]) (fun s_ w' => (w'.cell? (ad246.add ((x32_3).toNat * 2)) = some (.int .i64 ((rd_T36 x6_3 x32_3).f0)) ∧ w'.cell? ⟨(ad246.add ((x32_3).toNat * 2)).block, (ad246.add ((x32_3).toNat * 2)).off + 1, none⟩ = some (.int .i64 ((rd_T36 x6_3 x32_3).f1)) ∧ w'.cell? (ad247.add ((x32_3).toNat * 2)) = some (.int .i64 ((rd_T36 (rd_L12 l1 x22_2) x32_3).f0)) ∧ w'.cell? ⟨(ad247.add ((x32_3).toNat * 2)).block, (ad247.add ((x32_3).toNat * 2)).off + 1, none⟩ = some (.int .i64 ((rd_T36 (rd_L12 l1 x22_2) x32_3).f1))) ∧ (Kd.R k36 36 w' w.heap.size (fun k_ => some k_ ≠ (.slice (some ad246) x6_3.length co36 : Value).ownBlock ∧ k_ ≠ s_.2) s_.1 y248) ∧ (Kd.R k36 36 w' w.heap.size (fun k_ => some k_ ≠ (s_.1 : Value).ownBlock ∧ k_ ≠ s_.2) (.slice (some ad246) x6_3.length co36) x6_3) ∧ (w'.heap[s_.2]? = some (.cells #[.int .i64 0, .int .i64 0] 36 (0, 0))) ∧ (w.heap.size ≤ s_.2) ∧ (w.heap.size ≤ s_.2) ∧ (Below w.heap.size w w')) ?_ ?_
                   rotate_left
                   ·intro hCont; refine two_ (i := 8) (j := 13) (Ni := some 44) (Nj := some 10) #[true, true, true, true, true, true, true, true, true, false, false, false, false, false, false, false] #[true, true, true, true, true, true, true, true, false, false, false, false, false, true, false, false] rfl rfl rfl rfl (two_of HT_.out (by kernel_rfl)) (by decide) (by decide) (fun K hK => ?_) (fun K hK => ?_)
                    ·skip
                     refine Kd.R_lit_step k36 _ 36 ?hg (N := 44) ?hd (xs := ([(⟨(rd_T36 x6_3 x32_3).f0, (rd_T36 x6_3 x32_3).f1⟩ : S36), (⟨(rd_T36 (rd_L12 l1 x22_2) x32_3).f0, (rd_T36 (rd_L12 l1 x22_2) x32_3).f1⟩ : S36)] : List (S36))) (inner := [.int .i64 ((rd_T36 x6_3 x32_3).f0), .int .i64 ((rd_T36 x6_3 x32_3).f1), .int .i64 ((rd_T36 (rd_L12 l1 x22_2) x32_3).f0), .int .i64 ((rd_T36 (rd_L12 l1 x22_2) x32_3).f1)]) (ok := fun _ => True) (okp := fun _ => True) ?hr ?hp (fun _ hk => hk) trivial (Below.refl _ _) (Nat.le_refl _) (by simp) ?_; (case hd => rfl); (case hg => rfl); (case hr => first | (go_simp; done) | (go_simp; rfl)); (case hp => exact (Reps.c2 (show Kd.M k36 _ _ _ (⟨(rd_T36 x6_3 x32_3).f0, (rd_T36 x6_3 x32_3).f1⟩ : S36) [.int .i64 ((rd_T36 x6_3 x32_3).f0), .int .i64 ((rd_T36 x6_3 x32_3).f1)] from (k36_mkM _ _ _ (⟨(rd_T36 x6_3 x32_3).f0, (rd_T36 x6_3 x32_3).f1⟩ : S36) )) (Reps.c2 (show Kd.M k36 _ _ _ (⟨(rd_T36 (rd_L12 l1 x22_2) x32_3).f0, (rd_T36 (rd_L12 l1 x22_2) x32_3).f1⟩ : S36) [.int .i64 ((rd_T36 (rd_L12 l1 x22_2) x32_3).f0), .int .i64 ((rd_T36 (rd_L12 l1 x22_2) x32_3).f1)] from (k36_mkM _ _ _ (⟨(rd_T36 (rd_L12 l1 x22_2) x32_3).f0, (rd_T36 (rd_L12 l1 x22_2) x32_3).f1⟩ : S36) )) (Reps.none _ _))))
                     intro v249 w37 ho38 hb hg_ hnew_; have HS0_ := (hb.cell (World.block_lt_of_cell? _ _ (hHeld.1))).trans (hHeld.1); have HS1_ := (hb.cell (World.block_lt_of_cell? _ _ (hHeld.2.1))).trans (hHeld.2.1); clear hg_ hnew_
                     (first | rw [← Ny248.out] at ho38 | (simp only [Int.reduceToNat] at ho38; rw [← Ny248.out] at ho38))
                     have HO250 := A_ (Kd.R_lower (Kd.R_new' ho38 (Kd.R_lt (ro_ HO_6))) (below_size (bl_ HB))); replace HO_6 := A_ (Kd.R_elder' (ro_ HO_6) (Kd.R_base ho38) hb); replace HB := A_ (below_step (bl_ HB) hb); clear hb ho38; obtain ⟨Ao39, co39, eo39⟩ := Kd.R_slice HO250.out
                     (first | subst eo39 | (injection eo39 with f1_ f2_ f3_; have f4_ := f1_.symm; have f5_ := f3_.symm; clear f1_ f2_ f3_; subst f4_; subst f5_))
                     refine hK.out _ _ ⟨HS0_, HS1_, ((HB.out.cell (World.block_lt_of_cell? w _ hw247_0)).trans hw247_0), ((HB.out.cell (World.block_lt_of_cell? w _ hw247_1)).trans hw247_1)⟩ (fun hHeld => ?_)
                     clear hK K; refine norm_ (a' := ?_) ?_ ?_
                     rotate_left
                     ·show Act.put _ (some 44) _ = _
                      simp only [Act.put, List.setIfInBounds_toArray, List.set_cons_zero, List.set_cons_succ, i64_w, i32_w]
                      rfl
                     refine two_ (i := 9) (j := 13) (Ni := some 45) (Nj := some 10) #[true, true, true, true, true, true, true, true, true, true, false, false, false, false, false, false] #[true, true, true, true, true, true, true, true, true, false, false, false, false, true, false, false] rfl rfl rfl rfl (two_of HT_.out (by kernel_rfl)) (by decide) (by decide) (fun K hK => ?_) (fun K hK => ?_)
                     ·skip
                      refine goes_ Try.func30 (by kernel_rfl) rfl #[.slice Ao39 y248.length co39] (by rfl) rfl rfl (by (try simp only [List.map_toArray, List.map_cons, List.map_nil]); first | done | rfl | (simp only [List.length_drop, List.length_take]; rfl)) ?_
                      with_reducible refine (pair_Total.calls k3 _ _ y248 t251 t252 t253 _ ?side1 ?side2 A18.out).mono ?_
                      (case side1 => repeat (first | exact (Kd.R_reads' HO250.out).2.2 | (with_reducible refine Kd.C_alloc ?_ _) | (with_reducible refine Kd.C_drewN ?_ _) | (with_reducible refine Kd.C_drew ?_)))
                      (case side2 => exact (Kd.R_reads' HO250.out).2.1)
                      rintro e w40 ⟨rfl, hb⟩; have HS0_ := (hb.cell (World.block_lt_of_cell? _ _ (hHeld.1))).trans (hHeld.1); have HS1_ := (hb.cell (World.block_lt_of_cell? _ _ (hHeld.2.1))).trans (hHeld.2.1); refine ⟨_, rfl, ?_⟩
                      replace HO_6 := A_ (Kd.R_below (ro_ HO_6) hb); replace HO250 := A_ (Kd.R_below (ro_ HO250) hb); replace HB := A_ (below_step (bl_ HB) hb)
                      (try clear hb)
                      (try clear hb2)
                      (try clear hk)
                      (try clear hi)
                      refine hK.out _ _ ⟨HS0_, HS1_, ((HB.out.cell (World.block_lt_of_cell? w _ hw247_0)).trans hw247_0), ((HB.out.cell (World.block_lt_of_cell? w _ hw247_1)).trans hw247_1)⟩ (fun hHeld => ?_)
                      clear hK K; refine norm_ (a' := ?_) ?_ ?_
                      rotate_left
                      ·show Act.put _ (some 45) _ = _
                       simp only [Act.put, List.setIfInBounds_toArray, List.set_cons_zero, List.set_cons_succ, i64_w, i32_w]
                       rfl
                      refine pure_ (i := 10) (N := some 35) (v := ?_) (a' := ?_) #[true, true, true, true, true, true, true, true, true, true, true, false, false, false, false, false] rfl rfl (any_of HT_.out (by kernel_rfl)) (fun _ _ _ h => h) (Or.inl ⟨by rfl, ?_⟩) ?_ ?_
                      rotate_left
                      ·intro w'
                       go_simp
                       with_reducible rfl
                      rotate_left
                      ·simp only [Act.put, List.setIfInBounds_toArray, List.set_cons_zero, List.set_cons_succ, i64_w, i32_w]
                       rfl
                      refine pure_ (i := 11) (N := some 46) (v := ?_) (a' := ?_) #[true, true, true, true, true, true, true, true, true, true, true, true, false, false, false, false] rfl rfl (any_of HT_.out (by kernel_rfl)) (fun _ _ _ h => h) (Or.inl ⟨by rfl, ?_⟩) ?_ ?_
                      rotate_left
                      ·intro w'
                       go_simp
                       with_reducible rfl
                      rotate_left
                      ·simp only [Act.put, List.setIfInBounds_toArray, List.set_cons_zero, List.set_cons_succ, i64_w, i32_w]
                       rfl
                      refine pure_ (i := 12) (N := some 47) (v := ?_) (a' := ?_) #[true, true, true, true, true, true, true, true, true, true, true, true, true, false, false, false] rfl rfl (any_of HT_.out (by kernel_rfl)) (fun _ _ _ h => h) (Or.inl ⟨by rfl, ?_⟩) ?_ ?_
                      rotate_left
                      ·intro w'
                       go_simp
                       with_reducible rfl
                      rotate_left
                      ·simp only [Act.put, List.setIfInBounds_toArray, List.set_cons_zero, List.set_cons_succ, i64_w, i32_w]
                       rfl
                      refine one_ (i := 13) (N := some 10) #[true, true, true, true, true, true, true, true, true, true, true, true, true, true, false, false] rfl rfl (one_of HT_.out (by kernel_rfl)) (by decide) (fun K hK => ?_)
                      refine box_step ?hg (N := 10) ?hd (cs := #[.int .i64 0, .int .i64 0]) (t := 36) ?hr ?_; (case hd => rfl); (case hg => rfl); (case hr => first | (go_simp; done) | (go_simp; rfl))
                      intro gb254 hg w41 hbox hb; have HS0_ := (hb.cell (World.block_lt_of_cell? _ _ (hHeld.1))).trans (hHeld.1); have HS1_ := (hb.cell (World.block_lt_of_cell? _ _ (hHeld.2.1))).trans (hHeld.2.1); have BK254 := A_ (hbox); have GW254 := A_ ((by rw [hg]; exact (below_size (bl_ HB)) : w.heap.size ≤ gb254)); have GE254 := A_ ((by rw [hg]; exact (below_size (bl_ HB)) : w.heap.size ≤ gb254)); replace HO_6 := A_ (Kd.R_below (Kd.R_elderB (ro_ HO_6) gb254 (Nat.le_of_eq hg.symm)) hb); replace HO250 := A_ (Kd.R_below (Kd.R_elderB (ro_ HO250) gb254 (Nat.le_of_eq hg.symm)) hb); replace HB := A_ (below_step (bl_ HB) hb); clear hb hbox hg; refine hK.out _ _ ⟨HS0_, HS1_, ((HB.out.cell (World.block_lt_of_cell? w _ hw247_0)).trans hw247_0), ((HB.out.cell (World.block_lt_of_cell? w _ hw247_1)).trans hw247_1)⟩ (fun hHeld => ?_)
                      clear hK K; refine norm_ (a' := ?_) ?_ ?_
                      rotate_left
                      ·show Act.put _ (some 10) _ = _
                       simp only [Act.put, List.setIfInBounds_toArray, List.set_cons_zero, List.set_cons_succ, i64_w, i32_w]
                       rfl
                      exact norm_ (by simp only [putAll, Act.put, List.setIfInBounds_toArray, List.set_cons_zero, List.set_cons_succ]) (hCont (.slice Ao39 y248.length co39, gb254) _ ⟨hHeld, (by (with_reducible repeat (first | apply Kd.R_alloc | apply Kd.R_drewN | apply Kd.R_drew)); exact Kd.R_mono HO250.out (fun _ hk => ⟨hk.1.2, hk.2⟩)), (by (with_reducible repeat (first | apply Kd.R_alloc | apply Kd.R_drewN | apply Kd.R_drew)); exact Kd.R_mono HO_6.out (fun _ hk => ⟨hk.1.2, hk.2⟩)), (bx_ BK254), GW254.out, GE254.out, (bl1_ HB GE254.out)⟩)
                     ·skip
                      refine box_step ?hg (N := 10) ?hd (cs := #[.int .i64 0, .int .i64 0]) (t := 36) ?hr ?_; (case hd => rfl); (case hg => rfl); (case hr => first | (go_simp; done) | (go_simp; rfl))
                      intro gb254 hg w39 hbox hb; have HS0_ := (hb.cell (World.block_lt_of_cell? _ _ (hHeld.1))).trans (hHeld.1); have HS1_ := (hb.cell (World.block_lt_of_cell? _ _ (hHeld.2.1))).trans (hHeld.2.1); have BK254 := A_ (hbox); have GW254 := A_ ((by rw [hg]; exact (below_size (bl_ HB)) : w.heap.size ≤ gb254)); have GE254 := A_ ((by rw [hg]; exact (below_size (bl_ HB)) : w.heap.size ≤ gb254)); replace HO_6 := A_ (Kd.R_below (Kd.R_elderB (ro_ HO_6) gb254 (Nat.le_of_eq hg.symm)) hb); replace HO250 := A_ (Kd.R_below (Kd.R_elderB (ro_ HO250) gb254 (Nat.le_of_eq hg.symm)) hb); replace HB := A_ (below_step (bl_ HB) hb); clear hb hbox hg; obtain ⟨Ao40, co40, eo40⟩ := Kd.R_slice HO250.out
                      (first | subst eo40 | (injection eo40 with f1_ f2_ f3_; have f4_ := f1_.symm; have f5_ := f3_.symm; clear f1_ f2_ f3_; subst f4_; subst f5_))
                      refine hK.out _ _ ⟨HS0_, HS1_, ((HB.out.cell (World.block_lt_of_cell? w _ hw247_0)).trans hw247_0), ((HB.out.cell (World.block_lt_of_cell? w _ hw247_1)).trans hw247_1)⟩ (fun hHeld => ?_)
                      clear hK K; refine norm_ (a' := ?_) ?_ ?_
                      rotate_left
                      ·show Act.put _ (some 10) _ = _
                       simp only [Act.put, List.setIfInBounds_toArray, List.set_cons_zero, List.set_cons_succ, i64_w, i32_w]
                       rfl
                      refine one_ (i := 9) (N := some 45) #[true, true, true, true, true, true, true, true, true, true, false, false, false, true, false, false] rfl rfl (one_of HT_.out (by kernel_rfl)) (by decide) (fun K hK => ?_)
                      refine goes_ Try.func30 (by kernel_rfl) rfl #[.slice Ao40 y248.length co40] (by rfl) rfl rfl (by (try simp only [List.map_toArray, List.map_cons, List.map_nil]); first | done | rfl | (simp only [List.length_drop, List.length_take]; rfl)) ?_
                      with_reducible refine (pair_Total.calls k3 _ _ y248 t251 t252 t253 _ ?side1 ?side2 A18.out).mono ?_
                      (case side1 => repeat (first | exact (Kd.R_reads' HO250.out).2.2 | (with_reducible refine Kd.C_alloc ?_ _) | (with_reducible refine Kd.C_drewN ?_ _) | (with_reducible refine Kd.C_drew ?_)))
                      (case side2 => exact (Kd.R_reads' HO250.out).2.1)
                      rintro e w41 ⟨rfl, hb⟩; have HS0_ := (hb.cell (World.block_lt_of_cell? _ _ (hHeld.1))).trans (hHeld.1); have HS1_ := (hb.cell (World.block_lt_of_cell? _ _ (hHeld.2.1))).trans (hHeld.2.1); refine ⟨_, rfl, ?_⟩
                      replace HO_6 := A_ (Kd.R_below (ro_ HO_6) hb); replace HO250 := A_ (Kd.R_below (ro_ HO250) hb); replace BK254 := A_ (blk_below (bx_ BK254) hb); replace HB := A_ (below_step (bl1_ HB GE254.out) hb)
                      (try clear hb)
                      (try clear hb2)
                      (try clear hk)
                      (try clear hi)
                      refine hK.out _ _ ⟨HS0_, HS1_, ((HB.out.cell (World.block_lt_of_cell? w _ hw247_0)).trans hw247_0), ((HB.out.cell (World.block_lt_of_cell? w _ hw247_1)).trans hw247_1)⟩ (fun hHeld => ?_)
                      clear hK K; refine norm_ (a' := ?_) ?_ ?_
                      rotate_left
                      ·show Act.put _ (some 45) _ = _
                       simp only [Act.put, List.setIfInBounds_toArray, List.set_cons_zero, List.set_cons_succ, i64_w, i32_w]
                       rfl
                      refine pure_ (i := 10) (N := some 35) (v := ?_) (a' := ?_) #[true, true, true, true, true, true, true, true, true, true, true, false, false, true, false, false] rfl rfl (any_of HT_.out (by kernel_rfl)) (fun _ _ _ h => h) (Or.inl ⟨by rfl, ?_⟩) ?_ ?_
                      rotate_left
                      ·intro w'
                       go_simp
                       with_reducible rfl
                      rotate_left
                      ·simp only [Act.put, List.setIfInBounds_toArray, List.set_cons_zero, List.set_cons_succ, i64_w, i32_w]
                       rfl
                      refine pure_ (i := 11) (N := some 46) (v := ?_) (a' := ?_) #[true, true, true, true, true, true, true, true, true, true, true, true, false, true, false, false] rfl rfl (any_of HT_.out (by kernel_rfl)) (fun _ _ _ h => h) (Or.inl ⟨by rfl, ?_⟩) ?_ ?_
                      rotate_left
                      ·intro w'
                       go_simp
                       with_reducible rfl
                      rotate_left
                      ·simp only [Act.put, List.setIfInBounds_toArray, List.set_cons_zero, List.set_cons_succ, i64_w, i32_w]
                       rfl
                      refine pure_ (i := 12) (N := some 47) (v := ?_) (a' := ?_) #[true, true, true, true, true, true, true, true, true, true, true, true, true, true, false, false] rfl rfl (any_of HT_.out (by kernel_rfl)) (fun _ _ _ h => h) (Or.inl ⟨by rfl, ?_⟩) ?_ ?_
                      rotate_left
                      ·intro w'
                       go_simp
                       with_reducible rfl
                      rotate_left
                      ·simp only [Act.put, List.setIfInBounds_toArray, List.set_cons_zero, List.set_cons_succ, i64_w, i32_w]
                       rfl
                      exact norm_ (by simp only [putAll, Act.put, List.setIfInBounds_toArray, List.set_cons_zero, List.set_cons_succ]) (hCont (.slice Ao40 y248.length co40, gb254) _ ⟨hHeld, (by (with_reducible repeat (first | apply Kd.R_alloc | apply Kd.R_drewN | apply Kd.R_drew)); exact Kd.R_mono HO250.out (fun _ hk => ⟨hk.1.2, hk.2⟩)), (by (with_reducible repeat (first | apply Kd.R_alloc | apply Kd.R_drewN | apply Kd.R_drew)); exact Kd.R_mono HO_6.out (fun _ hk => ⟨hk.1.2, hk.2⟩)), (bx_ BK254), GW254.out, GE254.out, (bl1_ HB GE254.out)⟩)
                    ·skip
                     refine box_step ?hg (N := 10) ?hd (cs := #[.int .i64 0, .int .i64 0]) (t := 36) ?hr ?_; (case hd => rfl); (case hg => rfl); (case hr => first | (go_simp; done) | (go_simp; rfl))
                     intro gb254 hg w37 hbox hb; have HS0_ := (hb.cell (World.block_lt_of_cell? _ _ (hHeld.1))).trans (hHeld.1); have HS1_ := (hb.cell (World.block_lt_of_cell? _ _ (hHeld.2.1))).trans (hHeld.2.1); have BK254 := A_ (hbox); have GW254 := A_ ((by rw [hg]; exact (below_size (bl_ HB)) : w.heap.size ≤ gb254)); have GE254 := A_ ((by rw [hg]; exact (below_size (bl_ HB)) : w.heap.size ≤ gb254)); replace HO_6 := A_ (Kd.R_below (Kd.R_elderB (ro_ HO_6) gb254 (Nat.le_of_eq hg.symm)) hb); replace HB := A_ (below_step (bl_ HB) hb); clear hb hbox hg; refine hK.out _ _ ⟨HS0_, HS1_, ((HB.out.cell (World.block_lt_of_cell? w _ hw247_0)).trans hw247_0), ((HB.out.cell (World.block_lt_of_cell? w _ hw247_1)).trans hw247_1)⟩ (fun hHeld => ?_)
                     clear hK K; refine norm_ (a' := ?_) ?_ ?_
                     rotate_left
                     ·show Act.put _ (some 10) _ = _
                      simp only [Act.put, List.setIfInBounds_toArray, List.set_cons_zero, List.set_cons_succ, i64_w, i32_w]
                      rfl
                     refine one_ (i := 8) (N := some 44) #[true, true, true, true, true, true, true, true, true, false, false, false, false, true, false, false] rfl rfl (one_of HT_.out (by kernel_rfl)) (by decide) (fun K hK => ?_)
                     refine Kd.R_lit_step k36 _ 36 ?hg (N := 44) ?hd (xs := ([(⟨(rd_T36 x6_3 x32_3).f0, (rd_T36 x6_3 x32_3).f1⟩ : S36), (⟨(rd_T36 (rd_L12 l1 x22_2) x32_3).f0, (rd_T36 (rd_L12 l1 x22_2) x32_3).f1⟩ : S36)] : List (S36))) (inner := [.int .i64 ((rd_T36 x6_3 x32_3).f0), .int .i64 ((rd_T36 x6_3 x32_3).f1), .int .i64 ((rd_T36 (rd_L12 l1 x22_2) x32_3).f0), .int .i64 ((rd_T36 (rd_L12 l1 x22_2) x32_3).f1)]) (ok := fun _ => True) (okp := fun _ => True) ?hr ?hp (fun _ hk => hk) trivial (Below.refl _ _) (Nat.le_refl _) (by simp) ?_; (case hd => rfl); (case hg => rfl); (case hr => first | (go_simp; done) | (go_simp; rfl)); (case hp => exact (Reps.c2 (show Kd.M k36 _ _ _ (⟨(rd_T36 x6_3 x32_3).f0, (rd_T36 x6_3 x32_3).f1⟩ : S36) [.int .i64 ((rd_T36 x6_3 x32_3).f0), .int .i64 ((rd_T36 x6_3 x32_3).f1)] from (k36_mkM _ _ _ (⟨(rd_T36 x6_3 x32_3).f0, (rd_T36 x6_3 x32_3).f1⟩ : S36) )) (Reps.c2 (show Kd.M k36 _ _ _ (⟨(rd_T36 (rd_L12 l1 x22_2) x32_3).f0, (rd_T36 (rd_L12 l1 x22_2) x32_3).f1⟩ : S36) [.int .i64 ((rd_T36 (rd_L12 l1 x22_2) x32_3).f0), .int .i64 ((rd_T36 (rd_L12 l1 x22_2) x32_3).f1)] from (k36_mkM _ _ _ (⟨(rd_T36 (rd_L12 l1 x22_2) x32_3).f0, (rd_T36 (rd_L12 l1 x22_2) x32_3).f1⟩ : S36) )) (Reps.none _ _))))
                     intro v249 w38 ho39 hb hg_ hnew_; have HS0_ := (hb.cell (World.block_lt_of_cell? _ _ (hHeld.1))).trans (hHeld.1); have HS1_ := (hb.cell (World.block_lt_of_cell? _ _ (hHeld.2.1))).trans (hHeld.2.1); clear hg_ hnew_
                     (first | rw [← Ny248.out] at ho39 | (simp only [Int.reduceToNat] at ho39; rw [← Ny248.out] at ho39))
                     have HO250 := A_ (Kd.R_lower (Kd.R_newB (Kd.R_new' ho39 (Kd.R_lt (ro_ HO_6))) (g := gb254) (o := .cells #[.int .i64 0, .int .i64 0] 36 (0, 0)) (bx_ BK254)) (below_size (bl1_ HB GE254.out))); replace HO_6 := A_ (Kd.R_elder' (ro_ HO_6) (Kd.R_base ho39) hb); replace BK254 := A_ (blk_below (bx_ BK254) hb); replace HB := A_ (below_step (bl1_ HB GE254.out) hb); clear hb ho39; obtain ⟨Ao40, co40, eo40⟩ := Kd.R_slice HO250.out
                     (first | subst eo40 | (injection eo40 with f1_ f2_ f3_; have f4_ := f1_.symm; have f5_ := f3_.symm; clear f1_ f2_ f3_; subst f4_; subst f5_))
                     refine hK.out _ _ ⟨HS0_, HS1_, ((HB.out.cell (World.block_lt_of_cell? w _ hw247_0)).trans hw247_0), ((HB.out.cell (World.block_lt_of_cell? w _ hw247_1)).trans hw247_1)⟩ (fun hHeld => ?_)
                     clear hK K; refine norm_ (a' := ?_) ?_ ?_
                     rotate_left
                     ·show Act.put _ (some 44) _ = _
                      simp only [Act.put, List.setIfInBounds_toArray, List.set_cons_zero, List.set_cons_succ, i64_w, i32_w]
                      rfl
                     refine one_ (i := 9) (N := some 45) #[true, true, true, true, true, true, true, true, true, true, false, false, false, true, false, false] rfl rfl (one_of HT_.out (by kernel_rfl)) (by decide) (fun K hK => ?_)
                     refine goes_ Try.func30 (by kernel_rfl) rfl #[.slice Ao40 y248.length co40] (by rfl) rfl rfl (by (try simp only [List.map_toArray, List.map_cons, List.map_nil]); first | done | rfl | (simp only [List.length_drop, List.length_take]; rfl)) ?_
                     with_reducible refine (pair_Total.calls k3 _ _ y248 t251 t252 t253 _ ?side1 ?side2 A18.out).mono ?_
                     (case side1 => repeat (first | exact (Kd.R_reads' HO250.out).2.2 | (with_reducible refine Kd.C_alloc ?_ _) | (with_reducible refine Kd.C_drewN ?_ _) | (with_reducible refine Kd.C_drew ?_)))
                     (case side2 => exact (Kd.R_reads' HO250.out).2.1)
                     rintro e w41 ⟨rfl, hb⟩; have HS0_ := (hb.cell (World.block_lt_of_cell? _ _ (hHeld.1))).trans (hHeld.1); have HS1_ := (hb.cell (World.block_lt_of_cell? _ _ (hHeld.2.1))).trans (hHeld.2.1); refine ⟨_, rfl, ?_⟩
                     replace HO_6 := A_ (Kd.R_below (ro_ HO_6) hb); replace HO250 := A_ (Kd.R_below (ro_ HO250) hb); replace BK254 := A_ (blk_below (bx_ BK254) hb); replace HB := A_ (below_step (bl1_ HB GE254.out) hb)
                     (try clear hb)
                     (try clear hb2)
                     (try clear hk)
                     (try clear hi)
                     refine hK.out _ _ ⟨HS0_, HS1_, ((HB.out.cell (World.block_lt_of_cell? w _ hw247_0)).trans hw247_0), ((HB.out.cell (World.block_lt_of_cell? w _ hw247_1)).trans hw247_1)⟩ (fun hHeld => ?_)
                     clear hK K; refine norm_ (a' := ?_) ?_ ?_
                     rotate_left
                     ·show Act.put _ (some 45) _ = _
                      simp only [Act.put, List.setIfInBounds_toArray, List.set_cons_zero, List.set_cons_succ, i64_w, i32_w]
                      rfl
                     refine pure_ (i := 10) (N := some 35) (v := ?_) (a' := ?_) #[true, true, true, true, true, true, true, true, true, true, true, false, false, true, false, false] rfl rfl (any_of HT_.out (by kernel_rfl)) (fun _ _ _ h => h) (Or.inl ⟨by rfl, ?_⟩) ?_ ?_
                     rotate_left
                     ·intro w'
                      go_simp
                      with_reducible rfl
                     rotate_left
                     ·simp only [Act.put, List.setIfInBounds_toArray, List.set_cons_zero, List.set_cons_succ, i64_w, i32_w]
                      rfl
                     refine pure_ (i := 11) (N := some 46) (v := ?_) (a' := ?_) #[true, true, true, true, true, true, true, true, true, true, true, true, false, true, false, false] rfl rfl (any_of HT_.out (by kernel_rfl)) (fun _ _ _ h => h) (Or.inl ⟨by rfl, ?_⟩) ?_ ?_
                     rotate_left
                     ·intro w'
                      go_simp
                      with_reducible rfl
                     rotate_left
                     ·simp only [Act.put, List.setIfInBounds_toArray, List.set_cons_zero, List.set_cons_succ, i64_w, i32_w]
                      rfl
                     refine pure_ (i := 12) (N := some 47) (v := ?_) (a' := ?_) #[true, true, true, true, true, true, true, true, true, true, true, true, true, true, false, false] rfl rfl (any_of HT_.out (by kernel_rfl)) (fun _ _ _ h => h) (Or.inl ⟨by rfl, ?_⟩) ?_ ?_
                     rotate_left
                     ·intro w'
                      go_simp
                      with_reducible rfl
                     rotate_left
                     ·simp only [Act.put, List.setIfInBounds_toArray, List.set_cons_zero, List.set_cons_succ, i64_w, i32_w]
                      rfl
                     exact norm_ (by simp only [putAll, Act.put, List.setIfInBounds_toArray, List.set_cons_zero, List.set_cons_succ]) (hCont (.slice Ao40 y248.length co40, gb254) _ ⟨hHeld, (by (with_reducible repeat (first | apply Kd.R_alloc | apply Kd.R_drewN | apply Kd.R_drew)); exact Kd.R_mono HO250.out (fun _ hk => ⟨hk.1.2, hk.2⟩)), (by (with_reducible repeat (first | apply Kd.R_alloc | apply Kd.R_drewN | apply Kd.R_drew)); exact Kd.R_mono HO_6.out (fun _ hk => ⟨hk.2, hk.1.2⟩)), (bx_ BK254), GW254.out, GE254.out, (bl1_ HB GE254.out)⟩)
                   rintro ⟨v249, gb254⟩ w42 ⟨hS_, h0_, h1_, h2_, h3_, h4_, h5_⟩; have n0_ : Aside0 (Kd.R k36 36 w42 w.heap.size (fun k_ => some k_ ≠ (.slice (some ad246) x6_3.length co36 : Value).ownBlock ∧ k_ ≠ gb254) v249 y248) := ⟨h0_⟩; have n1_ : Aside0 (Kd.R k36 36 w42 w.heap.size (fun k_ => some k_ ≠ (v249 : Value).ownBlock ∧ k_ ≠ gb254) (.slice (some ad246) x6_3.length co36) x6_3) := ⟨h1_⟩; have n2_ : Aside0 (w42.heap[gb254]? = some (.cells #[.int .i64 0, .int .i64 0] 36 (0, 0))) := ⟨h2_⟩; have n3_ : Aside0 (w.heap.size ≤ gb254) := ⟨h3_⟩; have n4_ : Aside0 (w.heap.size ≤ gb254) := ⟨h4_⟩; have n5_ : Aside0 (Below w.heap.size w w42) := ⟨h5_⟩; clear HO_6; clear HB; clear h0_ h1_ h2_ h3_ h4_ h5_; have HO250 := n0_; have HO_6 := n1_; have BK254 := n2_; have GW254 := n3_; have GE254 := n4_; have HB := n5_; clear n0_ n1_ n2_ n3_ n4_ n5_; have hHeld : w42.cell? (ad246.add ((x32_3).toNat * 2)) = some (.int .i64 ((rd_T36 x6_3 x32_3).f0)) ∧ w42.cell? ⟨(ad246.add ((x32_3).toNat * 2)).block, (ad246.add ((x32_3).toNat * 2)).off + 1, none⟩ = some (.int .i64 ((rd_T36 x6_3 x32_3).f1)) ∧ w42.cell? (ad247.add ((x32_3).toNat * 2)) = some (.int .i64 ((rd_T36 (rd_L12 l1 x22_2) x32_3).f0)) ∧ w42.cell? ⟨(ad247.add ((x32_3).toNat * 2)).block, (ad247.add ((x32_3).toNat * 2)).off + 1, none⟩ = some (.int .i64 ((rd_T36 (rd_L12 l1 x22_2) x32_3).f1)) := hS_; refine norm_ (a' := ?_) ?_ ?_
                   rotate_left
                   ·simp only [putAll, Act.put, List.setIfInBounds_toArray, List.set_cons_zero, List.set_cons_succ]
                    rfl
                   refine one_ (i := 14) (N := none) #[true, true, true, true, true, true, true, true, true, true, true, true, true, true, true, false] rfl rfl (one_of HT_.out (by kernel_rfl)) (by decide) (fun K hK => ?_)
                   have hs43 : w42.cell? ⟨gb254, 0, none⟩ = some (.int .i64 0) := (blk_cell BK254.out 0).trans rfl; have hfs43 := fz_ BK254 0; have hs44 : w42.cell? ⟨gb254, 1, none⟩ = some (.int .i64 0) := (blk_cell BK254.out 1).trans rfl; have hfs44 := fz_ BK254 1; refine skip_ (w1 := ?_) (by rfl) rfl ?_ ?_
                   rotate_left
                   ·go_simp
                    rfl
                   refine hK.out _ _ ⟨((cell_far (p := ⟨gb254, _, none⟩) (by first | exact Kd.own_blk (Kd.R_away HO_6.out (fun _ hk => hk.2)) | (rw [add_block]; exact Kd.own_blk (Kd.R_away HO_6.out (fun _ hk => hk.2))) | (show (Addr.add _ _).block ≠ _; rw [add_block]; exact Kd.own_blk (Kd.R_away HO_6.out (fun _ hk => hk.2))) | (dsimp only; exact Kd.own_blk (Kd.R_away HO_6.out (fun _ hk => hk.2)))) _).trans (((cell_far (p := ⟨gb254, _, none⟩) (by first | exact Kd.own_blk (Kd.R_away HO_6.out (fun _ hk => hk.2)) | (rw [add_block]; exact Kd.own_blk (Kd.R_away HO_6.out (fun _ hk => hk.2))) | (show (Addr.add _ _).block ≠ _; rw [add_block]; exact Kd.own_blk (Kd.R_away HO_6.out (fun _ hk => hk.2))) | (dsimp only; exact Kd.own_blk (Kd.R_away HO_6.out (fun _ hk => hk.2)))) _).trans (hHeld.1)))), ((cell_far (p := ⟨gb254, _, none⟩) (by first | exact Kd.own_blk (Kd.R_away HO_6.out (fun _ hk => hk.2)) | (rw [add_block]; exact Kd.own_blk (Kd.R_away HO_6.out (fun _ hk => hk.2))) | (show (Addr.add _ _).block ≠ _; rw [add_block]; exact Kd.own_blk (Kd.R_away HO_6.out (fun _ hk => hk.2))) | (dsimp only; exact Kd.own_blk (Kd.R_away HO_6.out (fun _ hk => hk.2)))) _).trans (((cell_far (p := ⟨gb254, _, none⟩) (by first | exact Kd.own_blk (Kd.R_away HO_6.out (fun _ hk => hk.2)) | (rw [add_block]; exact Kd.own_blk (Kd.R_away HO_6.out (fun _ hk => hk.2))) | (show (Addr.add _ _).block ≠ _; rw [add_block]; exact Kd.own_blk (Kd.R_away HO_6.out (fun _ hk => hk.2))) | (dsimp only; exact Kd.own_blk (Kd.R_away HO_6.out (fun _ hk => hk.2)))) _).trans (hHeld.2.1)))), ((cell_far (p := ⟨gb254, _, none⟩) (by first | exact Nat.ne_of_lt (Nat.lt_of_lt_of_le (by have := World.block_lt_of_cell? _ _ hw247_0; first | rwa [add_block] at this | exact this) GW254.out) | (rw [add_block]; exact Nat.ne_of_lt (Nat.lt_of_lt_of_le (by have := World.block_lt_of_cell? _ _ hw247_0; first | rwa [add_block] at this | exact this) GW254.out)) | (show (Addr.add _ _).block ≠ _; rw [add_block]; exact Nat.ne_of_lt (Nat.lt_of_lt_of_le (by have := World.block_lt_of_cell? _ _ hw247_0; first | rwa [add_block] at this | exact this) GW254.out)) | (dsimp only; exact Nat.ne_of_lt (Nat.lt_of_lt_of_le (by have := World.block_lt_of_cell? _ _ hw247_0; first | rwa [add_block] at this | exact this) GW254.out))) _).trans (((cell_far (p := ⟨gb254, _, none⟩) (by first | exact Nat.ne_of_lt (Nat.lt_of_lt_of_le (by have := World.block_lt_of_cell? _ _ hw247_0; first | rwa [add_block] at this | exact this) GW254.out) | (rw [add_block]; exact Nat.ne_of_lt (Nat.lt_of_lt_of_le (by have := World.block_lt_of_cell? _ _ hw247_0; first | rwa [add_block] at this | exact this) GW254.out)) | (show (Addr.add _ _).block ≠ _; rw [add_block]; exact Nat.ne_of_lt (Nat.lt_of_lt_of_le (by have := World.block_lt_of_cell? _ _ hw247_0; first | rwa [add_block] at this | exact this) GW254.out)) | (dsimp only; exact Nat.ne_of_lt (Nat.lt_of_lt_of_le (by have := World.block_lt_of_cell? _ _ hw247_0; first | rwa [add_block] at this | exact this) GW254.out))) _).trans (hHeld.2.2.1)))), ((cell_far (p := ⟨gb254, _, none⟩) (by first | exact Nat.ne_of_lt (Nat.lt_of_lt_of_le (by have := World.block_lt_of_cell? _ _ hw247_1; first | rwa [add_block] at this | exact this) GW254.out) | (rw [add_block]; exact Nat.ne_of_lt (Nat.lt_of_lt_of_le (by have := World.block_lt_of_cell? _ _ hw247_1; first | rwa [add_block] at this | exact this) GW254.out)) | (show (Addr.add _ _).block ≠ _; rw [add_block]; exact Nat.ne_of_lt (Nat.lt_of_lt_of_le (by have := World.block_lt_of_cell? _ _ hw247_1; first | rwa [add_block] at this | exact this) GW254.out)) | (dsimp only; exact Nat.ne_of_lt (Nat.lt_of_lt_of_le (by have := World.block_lt_of_cell? _ _ hw247_1; first | rwa [add_block] at this | exact this) GW254.out))) _).trans (((cell_far (p := ⟨gb254, _, none⟩) (by first | exact Nat.ne_of_lt (Nat.lt_of_lt_of_le (by have := World.block_lt_of_cell? _ _ hw247_1; first | rwa [add_block] at this | exact this) GW254.out) | (rw [add_block]; exact Nat.ne_of_lt (Nat.lt_of_lt_of_le (by have := World.block_lt_of_cell? _ _ hw247_1; first | rwa [add_block] at this | exact this) GW254.out)) | (show (Addr.add _ _).block ≠ _; rw [add_block]; exact Nat.ne_of_lt (Nat.lt_of_lt_of_le (by have := World.block_lt_of_cell? _ _ hw247_1; first | rwa [add_block] at this | exact this) GW254.out)) | (dsimp only; exact Nat.ne_of_lt (Nat.lt_of_lt_of_le (by have := World.block_lt_of_cell? _ _ hw247_1; first | rwa [add_block] at this | exact this) GW254.out))) _).trans (hHeld.2.2.2))))⟩ (fun hHeld => ?_)
                   clear hK K; refine pure_ (i := 15) (N := some 11) (v := ?_) (a' := ?_) #[true, true, true, true, true, true, true, true, true, true, true, true, true, true, true, true] rfl rfl (any_of HT_.out (by kernel_rfl)) (fun _ _ _ h => h) (Or.inl ⟨by rfl, ?_⟩) ?_ ?_
                   rotate_left
                   ·intro w'
                    go_simp
                    with_reducible rfl
                   rotate_left
                   ·simp only [Act.put, List.setIfInBounds_toArray, List.set_cons_zero, List.set_cons_succ, i64_w, i32_w]
                    rfl
                   refine done_ (done_of HT_.out (by kernel_rfl)) ?_
                   try go_wp2
                   go_ret2
                   exact ⟨_, er_, by first | exact Kd.R_nil _ _ _ _ _ | exact Kd.N_nil _ _ _ _ _ | exact Kd.V_nil _ _ _ _ _ | exact Kd.Q_nil _ _ _ _ _ | exact Kd.S_nil _ _ _ _ _, bl1_ HB GE254.out⟩
                 ·rw [if_neg c17] at H; exact absurd H (by simp)
                ·rw [if_neg c16] at H; exact absurd H (by simp)
               ·rw [if_neg c15] at H; exact absurd H (by simp)
              ·rw [if_neg c14] at H; have c14b0 := decide_eq_false c14; clear c14; have H' := A_ H; clear H
               go_wp2
               go_roundg k3
               case measure => have := HJ2.out; have := HK2.out; have := HK3.out; omega
               case rel => exact ⟨(x6_3), (wrap64 (x22_2 + 1)), (sx_), H', ⟨by have := HJ2.out; have := HK2.out; have := HK3.out; omega⟩, ⟨ro_ HO_6⟩, ⟨bl_ HB⟩⟩
           ·rw [if_neg c13] at H; have c13b0 : (((rd_L12 l1 x22_2).length : Int) == a0) = false := beq_eq_false_iff_ne.mpr c13; have c13b1 : (((rd_L12 l1 x22_2).length : Int) != a0) = true := bne_iff_ne.mpr c13; simp only [Option.some.injEq, Prod.mk.injEq] at H; obtain ⟨rfl, rfl⟩ := H; have p245 : 0 ≤ (x22_2 : Int) := od_; have q245 : x22_2 < (l1.length : Int) := od_; obtain ⟨ad245, A245_0, c245_0, e245, hx245_0, hl245_0, hi245_0⟩ := at_L12 HR1.out x22_2 p245 q245; cases e245; replace hx245_0 := (HB.out.cell (World.block_lt_of_cell? w _ hx245_0)).trans hx245_0; have HR245_0 := A_ hi245_0; have HC245_0 := A_ hl245_0; clear hi245_0 hl245_0; replace p245 := eq_true p245; replace q245 := eq_true q245
            go_wp2
            go_ret2
            exact ⟨_, er_, by first | exact Kd.R_nil _ _ _ _ _ | exact Kd.N_nil _ _ _ _ _ | exact Kd.V_nil _ _ _ _ _ | exact Kd.Q_nil _ _ _ _ _ | exact Kd.S_nil _ _ _ _ _, bl_ HB⟩
          ·rw [if_neg c12] at H; exact absurd H (by simp)
         ·rw [if_neg c11] at H; exact absurd H (by simp)
        ·rw [if_neg c10] at H; have c10b0 := decide_eq_false c10; clear c10; simp only [Option.some.injEq, Prod.mk.injEq] at H; obtain ⟨rfl, rfl⟩ := H
         go_wp2
         go_ret2
         exact ⟨_, er_, ro_ HO_6, bl_ HB⟩
     ·rw [if_neg c7] at H; exact absurd H (by simp)
    ·rw [if_neg c6] at H; exact absurd H (by simp)
end Go.Proofs.Ytcapgmoipacioaa.P
