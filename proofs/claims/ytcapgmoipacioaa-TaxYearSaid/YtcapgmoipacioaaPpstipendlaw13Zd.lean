import Derived.Test.YtcapgmoipacioaaPtZd
import Derived.Test.YtcapgmoipacioaaHperiodZd
import Derived.Test.YtcapgmoipacioaaPptableZd
import Derived.Test.YtcapgmoipacioaaPptaxCornersZd
import Derived.Test.YtcapgmoipacioaaPptaxRateZd
import Derived.Test.YtcapgmoipacioaaPptaxYearZd
import Derived.Test.YtcapgmoipacioaaY1Zd
namespace Go.Proofs.Ytcapgmoipacioaa.P
open Go.RowKit Go.Proofs.YtcapgmoipacioaaW.PrintWords Go.Proofs.YtcapgmoipacioaaW.PrintLast Go.Proofs.YtcapgmoipacioaaW.PrintMore
set_option linter.unusedVariables false
set_option linter.unusedSimpArgs false
def stipendlaw13_simple.f  : Option ((List (List (S106))) × (List (S120)) × (List (S209)) × Int × Int) := some ((([(([(⟨0, 2000, 0⟩ : S106), (⟨120000, 4000, 0⟩ : S106)] : List (S106)))] : List (List (S106)))), ([] : List (S120)), (([(⟨(⟨#[107]⟩ : ByteArray), 0, 0, 0⟩ : S209)] : List (S209))), 5000, 1)
set_option maxHeartbeats 8000000 in
set_option maxRecDepth 100000 in
theorem stipendlaw13_simple.calls  (r1 : List (List (S106))) (r2 : List (S120)) (r3 : List (S209)) (r4 : Int) (r5 : Int) (w : World) (h : stipendlaw13_simple.f  = some (r1, r2, r3, r4, r5)) :
  Calls Try.prog 129 #[] w fun e w' => ∃ v0_ v1_ v2_ : Value, e = .returned (.agg #[v0_, v1_, v2_, .int .i64 r4, .int .i64 r5]) ∧ Kd.N (Kd.slice 106 k106) 43 w' w.heap.size (fun k_ => (w.heap.size ≤ k_) ∧ some k_ ≠ (v1_ : Value).ownBlock ∧ some k_ ≠ (v2_ : Value).ownBlock) v0_ r1 ∧ Kd.N k120 120 w' w.heap.size (fun k_ => (w.heap.size ≤ k_) ∧ some k_ ≠ (v0_ : Value).ownBlock ∧ some k_ ≠ (v2_ : Value).ownBlock) v1_ r2 ∧ Kd.R k209 209 w' w.heap.size (fun k_ => (w.heap.size ≤ k_)) v2_ r3 ∧ Below w.heap.size w w' := by
 have hu56 := Try.underlying56; have hu106 := Try.underlying106; have hu209 := Try.underlying209; have HB := A_ (Below.refl w.heap.size w); unfold stipendlaw13_simple.f at h; have H := h; clear h; obtain ⟨y973, hy973⟩ : ∃ y_ : List (S106), y_ = (([(⟨0, 2000, 0⟩ : S106), (⟨120000, 4000, 0⟩ : S106)] : List (S106))) := ⟨_, rfl⟩; replace H : (some ((([y973] : List (List (S106)))), ([] : List (S120)), (([(⟨(⟨#[107]⟩ : ByteArray), 0, 0, 0⟩ : S209)] : List (S209))), 5000, 1)) = some (r1, r2, r3, r4, r5) := by first | (rw [hy973]; with_reducible exact H) | (have H2_ := (Option.bind_some _ _).symm.trans H; rw [hy973]; with_reducible exact H2_) | (have H2_ := (Option.bind_some _ _).symm.trans H; with_reducible exact H2_) | with_reducible exact H | (rw [hy973]; exact H) | exact H
 have Ny973 := A_ hy973; clear hy973; obtain ⟨y976, hy976⟩ : ∃ y_ : List (List (S106)), y_ = (([y973] : List (List (S106)))) := ⟨_, rfl⟩; replace H : (some (y976, ([] : List (S120)), (([(⟨(⟨#[107]⟩ : ByteArray), 0, 0, 0⟩ : S209)] : List (S209))), 5000, 1)) = some (r1, r2, r3, r4, r5) := by first | (rw [hy976]; with_reducible exact H) | (have H2_ := (Option.bind_some _ _).symm.trans H; rw [hy976]; with_reducible exact H2_) | (have H2_ := (Option.bind_some _ _).symm.trans H; with_reducible exact H2_) | with_reducible exact H | (rw [hy976]; exact H) | exact H
 have Ny976 := A_ hy976; clear hy976; obtain ⟨y979, hy979⟩ : ∃ y_ : List (S209), y_ = (([(⟨(⟨#[107]⟩ : ByteArray), 0, 0, 0⟩ : S209)] : List (S209))) := ⟨_, rfl⟩; replace H : (some (y976, ([] : List (S120)), y979, 5000, 1)) = some (r1, r2, r3, r4, r5) := by first | (rw [hy979]; with_reducible exact H) | (have H2_ := (Option.bind_some _ _).symm.trans H; rw [hy979]; with_reducible exact H2_) | (have H2_ := (Option.bind_some _ _).symm.trans H; with_reducible exact H2_) | with_reducible exact H | (rw [hy979]; exact H) | exact H
 have Ny979 := A_ hy979; clear hy979; simp only [Option.some.injEq, Prod.mk.injEq] at H; obtain ⟨rfl, rfl, rfl, rfl, rfl⟩ := H; go_enter Try.func129, Try.ntmps129
 go_wp2_with (first | ((with_reducible refine gate_dst (N := 0) rfl ?_); refine be_ (N := 0) (cs := #[.slice none 0 0, .slice none 0 0, .slice none 0 0, .int .i64 0, .int .i64 0]) (t := 56) ?_; intro gb972 hg w1 hbox hb; have BK972 := A_ (hbox); have GW972 := A_ ((by rw [hg]; exact (below_size (bl_ HB)) : w.heap.size ≤ gb972)); have GE972 := A_ ((by rw [hg]; exact (below_size (bl_ HB)) : w.heap.size ≤ gb972)); replace HB := A_ (below_step (bl_ HB) hb); clear hb hbox hg) | ((with_reducible refine gate_dst (N := 3) rfl ?_); refine Kd.R_lit k106 _ 106 ?hg (N := 3) ?hd (xs := ([(⟨0, 2000, 0⟩ : S106), (⟨120000, 4000, 0⟩ : S106)] : List (S106))) (inner := [.int .i64 0, .int .i64 2000, .int .i64 0, .int .i64 120000, .int .i64 4000, .int .i64 0]) (ok := fun _ => True) (okp := fun _ => True) ?hr ?hp (fun _ hk => hk) trivial (Below.refl _ _) (Nat.le_refl _) (by simp) ?_; (case hd => rfl); (case hg => rfl); (case hr => first | (go_simp; done) | (go_simp; rfl)); (case hp => exact (Reps.c3 (show Kd.M k106 _ _ _ (⟨0, 2000, 0⟩ : S106) [.int .i64 0, .int .i64 2000, .int .i64 0] from (k106_mkM _ _ _ (⟨0, 2000, 0⟩ : S106) )) (Reps.c3 (show Kd.M k106 _ _ _ (⟨120000, 4000, 0⟩ : S106) [.int .i64 120000, .int .i64 4000, .int .i64 0] from (k106_mkM _ _ _ (⟨120000, 4000, 0⟩ : S106) )) (Reps.none _ _)))); intro v974 w2 ho3 hb hg_ hnew_; clear hg_ hnew_; (first | rw [← Ny973.out] at ho3 | (simp only [Int.reduceToNat] at ho3; rw [← Ny973.out] at ho3)); have HO975 := A_ (Kd.R_lower (Kd.R_newM (M := fun k_ => (w.heap.size ≤ k_)) ho3 (below_size (bl1_ HB GE972.out)) (fun k_ h_ => h_)) (below_size (bl1_ HB GE972.out))); replace BK972 := A_ (blk_below (bx_ BK972) hb); replace HB := A_ (below_step (bl1_ HB GE972.out) hb); clear hb ho3; obtain ⟨Ao4, co4, eo4⟩ := Kd.R_slice HO975.out; subst eo4) | ((with_reducible refine gate_dst (N := 4) rfl ?_); refine Kd.N_lit (Kd.slice 106 k106) _ 43 ?hg (N' := 4) ?hd (xs := ([y973] : List (List (S106)))) (inner := [.slice Ao4 y973.length co4]) (ok := (fun k_ => (w.heap.size ≤ k_) ∧ k_ ≠ gb972)) (okp := (fun k_ => (w.heap.size ≤ k_) ∧ k_ ≠ gb972)) ?hr ?hp (fun _ hk => hk) ((show ∀ k_, w2.heap.size ≤ k_ → (fun k_ => (w.heap.size ≤ k_) ∧ k_ ≠ gb972) k_ from fun k_ hk => ⟨(Nat.le_trans (below_size (bl1_ HB GE972.out)) hk), Kd.freshB (g := gb972) (o := .cells #[.slice none 0 0, .slice none 0 0, .slice none 0 0, .int .i64 0, .int .i64 0] 56 (0, 0)) (bx_ BK972) k_ hk⟩) _ (Nat.le_refl _)) (Below.refl _ _) (Nat.le_refl _) (by simp) ?_; (case hd => rfl); (case hg => rfl); (case hr => first | (go_simp; done) | (go_simp; rfl)); (case hp => exact (Reps.one (show Kd.FK (Kd.slice 106 k106) _ _ y973 [.slice Ao4 y973.length co4] from (Kd.FK_slice_mk (Kd.R_reads' (Kd.R_mono (ok' := (fun k_ => (w.heap.size ≤ k_) ∧ k_ ≠ gb972)) (Kd.R_types (HO975.out) BK972.out (by decide)) (fun k_ hk => ⟨hk.1.1, hk.2⟩))).2.1 (Kd.R_F (Kd.R_mono (ok' := (fun k_ => (w.heap.size ≤ k_) ∧ k_ ≠ gb972)) (Kd.R_types (HO975.out) BK972.out (by decide)) (fun k_ hk => ⟨hk.1.1, hk.2⟩))))) (Reps.none _ _))); intro v977 w5 ho6 hb hg_ hnew_; clear hg_ hnew_; (first | rw [← Ny976.out] at ho6 | (simp only [Int.reduceToNat] at ho6; rw [← Ny976.out] at ho6)); have HO978 := A_ (Kd.N_lower ho6 (below_size (bl1_ HB GE972.out))); replace BK972 := A_ (blk_below (bx_ BK972) hb); replace HB := A_ (below_step (bl1_ HB GE972.out) hb); clear HO975; clear hb ho6) | ((with_reducible refine gate_dst (N := 6) rfl ?_); refine Kd.R_lit k209 _ 209 ?hg (N := 6) ?hd (xs := ([(⟨(⟨#[107]⟩ : ByteArray), 0, 0, 0⟩ : S209)] : List (S209))) (inner := [.string (⟨#[107]⟩ : ByteArray), .int .i64 0, .int .i64 0, .int .i64 0]) (ok := fun _ => True) (okp := fun _ => True) ?hr ?hp (fun _ hk => hk) trivial (Below.refl _ _) (Nat.le_refl _) (by simp) ?_; (case hd => rfl); (case hg => rfl); (case hr => first | (go_simp; done) | (go_simp; rfl)); (case hp => exact (Reps.c4 (show Kd.M k209 _ _ _ (⟨(⟨#[107]⟩ : ByteArray), 0, 0, 0⟩ : S209) [.string (⟨#[107]⟩ : ByteArray), .int .i64 0, .int .i64 0, .int .i64 0] from (k209_mkM _ _ _ (⟨(⟨#[107]⟩ : ByteArray), 0, 0, 0⟩ : S209) )) (Reps.none _ _))); intro v980 w7 ho8 hb hg_ hnew_; clear hg_ hnew_; (first | rw [← Ny979.out] at ho8 | (simp only [Int.reduceToNat] at ho8; rw [← Ny979.out] at ho8)); have HO981 := A_ (Kd.R_lower (Kd.R_newM (M := fun k_ => (w.heap.size ≤ k_)) ho8 (below_size (bl1_ HB GE972.out)) (fun k_ h_ => h_)) (below_size (bl1_ HB GE972.out))); replace HO978 := A_ (Kd.N_elder' (by (with_reducible repeat (first | apply Kd.N_alloc | apply Kd.N_drewN | apply Kd.N_drew)); exact HO978.out) (Kd.R_base ho8) hb); replace BK972 := A_ (blk_below (bx_ BK972) hb); replace HB := A_ (below_step (bl1_ HB GE972.out) hb); clear hb ho8; obtain ⟨Ao9, co9, eo9⟩ := Kd.R_slice HO981.out; subst eo9; obtain ⟨Ao10, co10, eo10⟩ := Kd.N_slice HO978.out; subst eo10; have hcz11_0 := cz_ BK972 0; have hcz11_1 := cz_ BK972 1; have hcz11_2 := cz_ BK972 2; have hcz11_3 := cz_ BK972 3; have hcz11_4 := cz_ BK972 4; have hfz11_0 := fz_ BK972 0; have hfz11_1 := fz_ BK972 1; have hfz11_2 := fz_ BK972 2; have hfz11_3 := fz_ BK972 3; have hfz11_4 := fz_ BK972 4))
 refine bodyPost_ret (results_cell_row rfl _ _ gb972 56 #[.slice Ao10 y976.length co10, .slice none 0 0, .slice Ao9 y979.length co9, .int .i64 5000, .int .i64 1] (0, 0) _ rfl (by refine bw_ ?_; refine blk_put (cs := #[.slice Ao10 y976.length co10, .slice none 0 0, .slice Ao9 y979.length co9, .int .i64 5000, .int .i64 0]) ?_ 4 _ rfl; refine bw_ ?_; refine blk_put (cs := #[.slice Ao10 y976.length co10, .slice none 0 0, .slice Ao9 y979.length co9, .int .i64 0, .int .i64 0]) ?_ 3 _ rfl; refine bw_ ?_; refine blk_put (cs := #[.slice Ao10 y976.length co10, .slice none 0 0, .slice none 0 0, .int .i64 0, .int .i64 0]) ?_ 2 _ rfl; refine bw_ ?_; refine blk_put (cs := #[.slice Ao10 y976.length co10, .slice none 0 0, .slice none 0 0, .int .i64 0, .int .i64 0]) ?_ 1 _ rfl; refine bw_ ?_; refine blk_put (cs := #[.slice none 0 0, .slice none 0 0, .slice none 0 0, .int .i64 0, .int .i64 0]) ?_ 0 _ rfl; refine bw_ ?_; exact BK972.out) Try.underlying56 rfl (by kernel_rfl)) rfl ?_
 exact ⟨_, _, _, er_, by (with_reducible repeat (first | apply Kd.N_alloc | apply Kd.N_drewN | apply Kd.N_drew)); exact Kd.N_mono (Kd.N_far (p := ⟨gb972, 4, none⟩) (Kd.N_far (p := ⟨gb972, 3, none⟩) (Kd.N_far (p := ⟨gb972, 2, none⟩) (Kd.N_far (p := ⟨gb972, 1, none⟩) (Kd.N_far (p := ⟨gb972, 0, none⟩) (Kd.N_mono HO978.out (fun k_ hk => (⟨hk, hk.1.2⟩ : _ ∧ k_ ≠ gb972))) (fun _ hk => hk.2) (.slice Ao10 y976.length co10)) (fun _ hk => hk.2) (.slice none 0 0)) (fun _ hk => hk.2) (.slice Ao9 y979.length co9)) (fun _ hk => hk.2) (.int .i64 5000)) (fun _ hk => hk.2) (.int .i64 1)) (fun _ hk => ⟨hk.1.1.1, ⟨(by simp [Value.ownBlock]), hk.1.2⟩⟩), by first | exact Kd.S_nil _ _ _ _ _ | exact Kd.N_nil _ _ _ _ _ | exact Kd.V_nil _ _ _ _ _ | exact Kd.Q_nil _ _ _ _ _ | exact Kd.R_nil _ _ _ _ _, by (with_reducible repeat (first | apply Kd.R_alloc | apply Kd.R_drewN | apply Kd.R_drew)); exact Kd.R_mono (Kd.R_far (p := ⟨gb972, 4, none⟩) (Kd.R_far (p := ⟨gb972, 3, none⟩) (Kd.R_far (p := ⟨gb972, 2, none⟩) (Kd.R_far (p := ⟨gb972, 1, none⟩) (Kd.R_far (p := ⟨gb972, 0, none⟩) (Kd.R_types HO981.out BK972.out (by decide)) (fun _ hk => hk.2) (.slice Ao10 y976.length co10)) (fun _ hk => hk.2) (.slice none 0 0)) (fun _ hk => hk.2) (.slice Ao9 y979.length co9)) (fun _ hk => hk.2) (.int .i64 5000)) (fun _ hk => hk.2) (.int .i64 1)) (fun _ hk => hk.1.1), bl1_ HB GE972.out⟩
def stipendlaw13_dues.f (k : Nat)  : Option (Bool) := (period_New.f 4 2024 4 6).bind fun bt982 => ((stipendlaw13_simple.f).bind fun bt995 => ((tax_Year.f k bt995.1 bt995.2.1 bt995.2.2.1 bt995.2.2.2.1 bt995.2.2.2.2 bt982.1 bt982.2.1 bt982.2.2.1 bt982.2.2.2.1 bt982.2.2.2.2.1 bt982.2.2.2.2.2.1 bt982.2.2.2.2.2.2.1 bt982.2.2.2.2.2.2.2.1 bt982.2.2.2.2.2.2.2.2.1 (([(⟨(⟨0, 1, 12000, 0, false⟩ : S88), 5000⟩ : S90), (⟨(⟨0, 1, 12000, 0, false⟩ : S88), 5000⟩ : S90), (⟨(⟨0, 1, 12000, 0, true⟩ : S88), 11001⟩ : S90)] : List (S90)))).bind fun bt1009 => ((stipendlaw13_simple.f).bind fun bt1022 => ((tax_Rate.f k bt1022.1 bt1022.2.1 bt1022.2.2.1 bt1022.2.2.2.1 bt1022.2.2.2.2 0 1 12000 0 false 11000 1 12).bind fun bt1033 => ((stipendlaw13_simple.f).bind fun bt1035 => ((tax_Corners.f k bt1035.1 bt1035.2.1 bt1035.2.2.1 bt1035.2.2.2.1 bt1035.2.2.2.2 0 1 12000 0 false 1 12).bind fun bt1046 => (if bt1009.2.1 = 0 then (if bt1033.2 = 0 then (if bt1046.2 = 0 then (if (bt1009.1.length : Int) = 3 then (if 0 < (bt1009.1.length : Int) then (if (rd bt1009.1 0) = 800 then (if 1 < (bt1009.1.length : Int) then (if (rd bt1009.1 1) = 1600 then (if 2 < (bt1009.1.length : Int) then (if (rd bt1009.1 2) = 3600 then (if bt1033.1 = 4000 then (if (bt1046.1.length : Int) = 2 then (if 0 < (bt1046.1.length : Int) then (if (rd bt1046.1 0) = 1000 then (if 1 < (bt1046.1.length : Int) then (some ((rd bt1046.1 1) == 11000)) else (none)) else (none)) else (none)) else (none)) else (none)) else (none)) else (none)) else (none)) else (none)) else (none)) else (none)) else (none)) else (none)) else (none)) else (none))))))))
def stipendlaw13_dues.T7 : Bool × List (List Nat × List Nat) := (true, [([], []), ([], []), ([], []), ([2], [2]), ([], []), ([4], [4]), ([], []), ([6], [6]), ([3, 5, 7], [3, 5, 7]), ([0, 1, 8, 0], [0, 1, 8]), ([9], [9]), ([10], [10]), ([10], [10]), ([11, 9, 0, 1, 2, 3, 4, 5, 6, 7, 8, 9, 10, 11], [11]), ([12, 13, 0, 1, 2, 3, 4, 5, 6, 7, 8, 9, 10, 11, 12, 13], [12])])
def stipendlaw13_dues.B7 : List Nat := [0, 0, 0, 4, 0, 16, 0, 64, 252, 511, 1023, 2047, 2047, 4095, 16383]
theorem stipendlaw13_dues.tab7 : rtab .any (opsOf Try.f77 7) = stipendlaw13_dues.T7 := by kernel_rfl
theorem stipendlaw13_dues.bits7 : waitsOk stipendlaw13_dues.T7.2 stipendlaw13_dues.B7 = true := by kernel_rfl
def stipendlaw13_dues.T8 : Bool × List (List Nat × List Nat) := (true, [([], []), ([], []), ([0, 1, 0], [0, 1]), ([2], [2]), ([3], [3]), ([3], [3]), ([4, 2, 0, 1, 2, 3, 4], [4]), ([5, 6, 0, 1, 2, 3, 4, 5, 6], [5])])
def stipendlaw13_dues.B8 : List Nat := [0, 0, 3, 7, 15, 15, 31, 127]
theorem stipendlaw13_dues.tab8 : rtab .any (opsOf Try.f77 8) = stipendlaw13_dues.T8 := by kernel_rfl
theorem stipendlaw13_dues.bits8 : waitsOk stipendlaw13_dues.T8.2 stipendlaw13_dues.B8 = true := by kernel_rfl
def stipendlaw13_dues.T9 : Bool × List (List Nat × List Nat) := (true, [([], []), ([], []), ([0, 1, 0], [0, 1]), ([2], [2]), ([3], [3]), ([3], [3]), ([4, 2, 0, 1, 2, 3, 4], [4]), ([5, 6, 0, 1, 2, 3, 4, 5, 6], [5])])
def stipendlaw13_dues.B9 : List Nat := [0, 0, 3, 7, 15, 15, 31, 127]
theorem stipendlaw13_dues.tab9 : rtab .any (opsOf Try.f77 9) = stipendlaw13_dues.T9 := by kernel_rfl
theorem stipendlaw13_dues.bits9 : waitsOk stipendlaw13_dues.T9.2 stipendlaw13_dues.B9 = true := by kernel_rfl
set_option maxHeartbeats 8000000 in
set_option maxRecDepth 100000 in
theorem stipendlaw13_dues.calls (k : Nat)  (r : Bool) (w : World) (h : stipendlaw13_dues.f k  = some r) :
  Calls Try.prog 77 #[] w fun e w' => e = .returned (.bool r) ∧ Below w.heap.size w w' := by
 have hu86 := Try.underlying86; have hu88 := Try.underlying88; have hu90 := Try.underlying90; have HB := A_ (Below.refl w.heap.size w); unfold stipendlaw13_dues.f at h; have H := h; clear h; replace H := Option.bind_eq_some_iff.mp H; obtain ⟨⟨t982, t983, t984, t985, t986, t987, t988, t989, t990, t992⟩, A10, H⟩ := H; (try dsimp only at H); have A1 := A_ A10; clear A10; replace H := Option.bind_eq_some_iff.mp H; obtain ⟨⟨t995, t998, t1001, t1004, t1005⟩, A20, H⟩ := H; (try dsimp only at H); have A2 := A_ A20; clear A20; obtain ⟨y1006, hy1006⟩ : ∃ y_ : List (S90), y_ = (([(⟨(⟨0, 1, 12000, 0, false⟩ : S88), 5000⟩ : S90), (⟨(⟨0, 1, 12000, 0, false⟩ : S88), 5000⟩ : S90), (⟨(⟨0, 1, 12000, 0, true⟩ : S88), 11001⟩ : S90)] : List (S90))) := ⟨_, rfl⟩; replace H : ((tax_Year.f k t995 t998 t1001 t1004 t1005 t982 t983 t984 t985 t986 t987 t988 t989 t990 y1006).bind fun bt1009 => ((stipendlaw13_simple.f).bind fun bt1022 => ((tax_Rate.f k bt1022.1 bt1022.2.1 bt1022.2.2.1 bt1022.2.2.2.1 bt1022.2.2.2.2 0 1 12000 0 false 11000 1 12).bind fun bt1033 => ((stipendlaw13_simple.f).bind fun bt1035 => ((tax_Corners.f k bt1035.1 bt1035.2.1 bt1035.2.2.1 bt1035.2.2.2.1 bt1035.2.2.2.2 0 1 12000 0 false 1 12).bind fun bt1046 => (if bt1009.2.1 = 0 then (if bt1033.2 = 0 then (if bt1046.2 = 0 then (if (bt1009.1.length : Int) = 3 then (if 0 < (bt1009.1.length : Int) then (if (rd bt1009.1 0) = 800 then (if 1 < (bt1009.1.length : Int) then (if (rd bt1009.1 1) = 1600 then (if 2 < (bt1009.1.length : Int) then (if (rd bt1009.1 2) = 3600 then (if bt1033.1 = 4000 then (if (bt1046.1.length : Int) = 2 then (if 0 < (bt1046.1.length : Int) then (if (rd bt1046.1 0) = 1000 then (if 1 < (bt1046.1.length : Int) then (some ((rd bt1046.1 1) == 11000)) else (none)) else (none)) else (none)) else (none)) else (none)) else (none)) else (none)) else (none)) else (none)) else (none)) else (none)) else (none)) else (none)) else (none)) else (none))))))) = some r := by first | (rw [hy1006]; with_reducible exact H) | (have H2_ := (Option.bind_some _ _).symm.trans H; rw [hy1006]; with_reducible exact H2_) | (have H2_ := (Option.bind_some _ _).symm.trans H; with_reducible exact H2_) | with_reducible exact H | (rw [hy1006]; exact H) | exact H
 have Ny1006 := A_ hy1006; clear hy1006; replace H := Option.bind_eq_some_iff.mp H; obtain ⟨⟨t1009, t1012, t1013, t1014, t1015, t1016, t1017, t1018, t1019, t1020, t1021⟩, A30, H⟩ := H; (try dsimp only at H); have A3 := A_ A30; clear A30; replace H := Option.bind_eq_some_iff.mp H; obtain ⟨⟨t1022, t1025, t1028, t1031, t1032⟩, A40, H⟩ := H; (try dsimp only at H); have A4 := A_ A40; clear A40; replace H := Option.bind_eq_some_iff.mp H; obtain ⟨⟨t1033, t1034⟩, A50, H⟩ := H; (try dsimp only at H); have A5 := A_ A50; clear A50; replace H := Option.bind_eq_some_iff.mp H; obtain ⟨⟨t1035, t1038, t1041, t1044, t1045⟩, A60, H⟩ := H; (try dsimp only at H); have A6 := A_ A60; clear A60; replace H := Option.bind_eq_some_iff.mp H; obtain ⟨⟨t1046, t1049⟩, A70, H⟩ := H; (try dsimp only at H); have A7 := A_ A70; clear A70; by_cases c8 : t1012 = 0
 ·rw [if_pos c8] at H; have c8b0 : (t1012 == 0) = true := beq_iff_eq.mpr c8; have c8b1 : (t1012 != 0) = false := bne_eq_false_iff_eq.mpr c8; clear c8; by_cases c9 : t1034 = 0
  ·rw [if_pos c9] at H; have c9b0 : (t1034 == 0) = true := beq_iff_eq.mpr c9; have c9b1 : (t1034 != 0) = false := bne_eq_false_iff_eq.mpr c9; clear c9; by_cases c10 : t1049 = 0
   ·rw [if_pos c10] at H; have c10b0 : (t1049 == 0) = true := beq_iff_eq.mpr c10; have c10b1 : (t1049 != 0) = false := bne_eq_false_iff_eq.mpr c10; clear c10; by_cases c11 : (t1009.length : Int) = 3
    ·rw [if_pos c11] at H; have c11b0 : ((t1009.length : Int) == 3) = true := beq_iff_eq.mpr c11; have c11b1 : ((t1009.length : Int) != 3) = false := bne_eq_false_iff_eq.mpr c11; clear c11; by_cases c12 : 0 < (t1009.length : Int)
     ·rw [if_pos c12] at H; have c12b0 := decide_eq_true c12; have c12b1 : decide (0 < t1009.length) = true := decide_eq_true (by omega); clear c12; by_cases c13 : (rd t1009 0) = 800
      ·rw [if_pos c13] at H; have c13b0 : ((rd t1009 0) == 800) = true := beq_iff_eq.mpr c13; have c13b1 : ((rd t1009 0) != 800) = false := bne_eq_false_iff_eq.mpr c13; clear c13; by_cases c14 : 1 < (t1009.length : Int)
       ·rw [if_pos c14] at H; have c14b0 := decide_eq_true c14; have c14b1 : decide (1 < t1009.length) = true := decide_eq_true (by omega); clear c14; by_cases c15 : (rd t1009 1) = 1600
        ·rw [if_pos c15] at H; have c15b0 : ((rd t1009 1) == 1600) = true := beq_iff_eq.mpr c15; have c15b1 : ((rd t1009 1) != 1600) = false := bne_eq_false_iff_eq.mpr c15; clear c15; by_cases c16 : 2 < (t1009.length : Int)
         ·rw [if_pos c16] at H; have c16b0 := decide_eq_true c16; have c16b1 : decide (2 < t1009.length) = true := decide_eq_true (by omega); clear c16; by_cases c17 : (rd t1009 2) = 3600
          ·rw [if_pos c17] at H; have c17b0 : ((rd t1009 2) == 3600) = true := beq_iff_eq.mpr c17; have c17b1 : ((rd t1009 2) != 3600) = false := bne_eq_false_iff_eq.mpr c17; clear c17; by_cases c18 : t1033 = 4000
           ·rw [if_pos c18] at H; have c18b0 : (t1033 == 4000) = true := beq_iff_eq.mpr c18; have c18b1 : (t1033 != 4000) = false := bne_eq_false_iff_eq.mpr c18; clear c18; by_cases c19 : (t1046.length : Int) = 2
            ·rw [if_pos c19] at H; have c19b0 : ((t1046.length : Int) == 2) = true := beq_iff_eq.mpr c19; have c19b1 : ((t1046.length : Int) != 2) = false := bne_eq_false_iff_eq.mpr c19; clear c19; by_cases c20 : 0 < (t1046.length : Int)
             ·rw [if_pos c20] at H; have c20b0 := decide_eq_true c20; have c20b1 : decide (0 < t1046.length) = true := decide_eq_true (by omega); clear c20; by_cases c21 : (rd t1046 0) = 1000
              ·rw [if_pos c21] at H; have c21b0 : ((rd t1046 0) == 1000) = true := beq_iff_eq.mpr c21; have c21b1 : ((rd t1046 0) != 1000) = false := bne_eq_false_iff_eq.mpr c21; clear c21; by_cases c22 : 1 < (t1046.length : Int)
               ·rw [if_pos c22] at H; have c22b0 := decide_eq_true c22; have c22b1 : decide (1 < t1046.length) = true := decide_eq_true (by omega); clear c22; obtain rfl := Option.some.inj H; go_enter Try.func77, Try.ntmps77
                try go_wp2_with (first | ((with_reducible refine gate_callee (f := 52) rfl ?_); refine gm_ (some 13) Try.func52 #[.int .i64 4, .agg #[.int .i64 2024, .int .i64 4, .int .i64 6]] ?_; (with_reducible refine (period_New.calls 4 2024 4 6 t982 t983 t984 t985 t986 t987 t988 t989 t990 t992 w _ ?side1 A1.out).mono ?_); (case side1 => repeat (first | (with_reducible first | exact HB.out | apply below_alloc | apply pw_below_drewN | apply below_drew1) | exact HB.out)); rintro e w23 ⟨g991, rfl, hi, hb, hb2⟩; refine ⟨_, rfl, ?_⟩; have HI991 := A_ (hi); replace HB := A_ (hb); (try clear hb); (try clear hb2); (try clear hk); (try clear hi)) | ((with_reducible refine gate_dst (N := 3) rfl ?_); refine be_ (N := 3) (cs := #[.int .i64 0, .int .i64 0, .int .i64 0, .int .i64 0, .bool false]) (t := 88) ?_; intro gb993 hg w24 hbox hb; have BK993 := A_ (hbox); have GW993 := A_ ((by rw [hg]; exact (below_size (bl1_ HB (IsS180.ge HI991.out))) : w.heap.size ≤ gb993)); have GE993 := A_ ((by rw [hg]; exact (below_size (bl1_ HB (IsS180.ge HI991.out))) : w.heap.size ≤ gb993)); have NB991_993 := A_ ((by rw [hg]; exact Nat.ne_of_lt (IsS180.lt (show IsS180 w _ g991 t982 t983 t984 t985 t986 t987 t988 t989 t990 from is_ HI991)) : g991 ≠ gb993)); have NB993_991 := A_ ((by rw [hg]; exact Nat.ne_of_gt (IsS180.lt (show IsS180 w _ g991 t982 t983 t984 t985 t986 t987 t988 t989 t990 from is_ HI991)) : gb993 ≠ g991)); replace HB := A_ (below_step (bl1_ HB (IsS180.ge HI991.out)) hb); replace HI991 := A_ (IsS180.below (is_ HI991) hb); clear hb hbox hg; have hnb25 := NB993_991.out; have hnc25 := NB991_993.out; have hcz26_0 := cz_ BK993 0; have hcz26_1 := cz_ BK993 1; have hcz26_2 := cz_ BK993 2; have hcz26_3 := cz_ BK993 3; have hcz26_4 := cz_ BK993 4; have hfz26_0 := fz_ BK993 0; have hfz26_1 := fz_ BK993 1; have hfz26_2 := fz_ BK993 2; have hfz26_3 := fz_ BK993 3; have hfz26_4 := fz_ BK993 4) | ((with_reducible refine gate_dst (N := 4) rfl ?_); refine be_ (N := 4) (cs := #[.int .i64 0, .int .i64 0, .int .i64 0, .int .i64 0, .bool false]) (t := 88) ?_; intro gb994 hg w27 hbox hb; have BK994 := A_ (hbox); have GW994 := A_ ((by rw [hg]; exact (below_size (bl2_ HB (IsS180.ge HI991.out) GE993.out)) : w.heap.size ≤ gb994)); have GE994 := A_ ((by rw [hg]; exact (below_size (bl2_ HB (IsS180.ge HI991.out) GE993.out)) : w.heap.size ≤ gb994)); have NB993_994 := A_ ((by rw [hg]; exact Nat.ne_of_lt (blk_lt (g := gb993) (o := .cells #[.int .i64 0, .int .i64 1, .int .i64 12000, .int .i64 0, .bool false] 88 (0, 0)) (by refine bw_ ?_; refine blk_put (cs := #[.int .i64 0, .int .i64 1, .int .i64 12000, .int .i64 0, .bool false]) ?_ 4 _ rfl; refine bw_ ?_; refine blk_put (cs := #[.int .i64 0, .int .i64 1, .int .i64 12000, .int .i64 0, .bool false]) ?_ 3 _ rfl; refine bw_ ?_; refine blk_put (cs := #[.int .i64 0, .int .i64 1, .int .i64 0, .int .i64 0, .bool false]) ?_ 2 _ rfl; refine bw_ ?_; refine blk_put (cs := #[.int .i64 0, .int .i64 0, .int .i64 0, .int .i64 0, .bool false]) ?_ 1 _ rfl; refine bw_ ?_; refine blk_put (cs := #[.int .i64 0, .int .i64 0, .int .i64 0, .int .i64 0, .bool false]) ?_ 0 _ rfl; refine bw_ ?_; exact BK993.out)) : gb993 ≠ gb994)); have NB994_993 := A_ ((by rw [hg]; exact Nat.ne_of_gt (blk_lt (g := gb993) (o := .cells #[.int .i64 0, .int .i64 1, .int .i64 12000, .int .i64 0, .bool false] 88 (0, 0)) (by refine bw_ ?_; refine blk_put (cs := #[.int .i64 0, .int .i64 1, .int .i64 12000, .int .i64 0, .bool false]) ?_ 4 _ rfl; refine bw_ ?_; refine blk_put (cs := #[.int .i64 0, .int .i64 1, .int .i64 12000, .int .i64 0, .bool false]) ?_ 3 _ rfl; refine bw_ ?_; refine blk_put (cs := #[.int .i64 0, .int .i64 1, .int .i64 0, .int .i64 0, .bool false]) ?_ 2 _ rfl; refine bw_ ?_; refine blk_put (cs := #[.int .i64 0, .int .i64 0, .int .i64 0, .int .i64 0, .bool false]) ?_ 1 _ rfl; refine bw_ ?_; refine blk_put (cs := #[.int .i64 0, .int .i64 0, .int .i64 0, .int .i64 0, .bool false]) ?_ 0 _ rfl; refine bw_ ?_; exact BK993.out)) : gb994 ≠ gb993)); have NB991_994 := A_ ((by rw [hg]; exact Nat.ne_of_lt (IsS180.lt (show IsS180 w _ g991 t982 t983 t984 t985 t986 t987 t988 t989 t990 from is1_ HI991 NB991_993.out)) : g991 ≠ gb994)); have NB994_991 := A_ ((by rw [hg]; exact Nat.ne_of_gt (IsS180.lt (show IsS180 w _ g991 t982 t983 t984 t985 t986 t987 t988 t989 t990 from is1_ HI991 NB991_993.out)) : gb994 ≠ g991)); replace BK993 := A_ (blk_below (g := gb993) (o := .cells #[.int .i64 0, .int .i64 1, .int .i64 12000, .int .i64 0, .bool false] 88 (0, 0)) (by refine bw_ ?_; refine blk_put (cs := #[.int .i64 0, .int .i64 1, .int .i64 12000, .int .i64 0, .bool false]) ?_ 4 _ rfl; refine bw_ ?_; refine blk_put (cs := #[.int .i64 0, .int .i64 1, .int .i64 12000, .int .i64 0, .bool false]) ?_ 3 _ rfl; refine bw_ ?_; refine blk_put (cs := #[.int .i64 0, .int .i64 1, .int .i64 0, .int .i64 0, .bool false]) ?_ 2 _ rfl; refine bw_ ?_; refine blk_put (cs := #[.int .i64 0, .int .i64 0, .int .i64 0, .int .i64 0, .bool false]) ?_ 1 _ rfl; refine bw_ ?_; refine blk_put (cs := #[.int .i64 0, .int .i64 0, .int .i64 0, .int .i64 0, .bool false]) ?_ 0 _ rfl; refine bw_ ?_; exact BK993.out) hb); replace HB := A_ (below_step (bl2_ HB (IsS180.ge HI991.out) GE993.out) hb); replace HI991 := A_ (IsS180.below (show IsS180 w (((((w24.setCell ⟨gb993, 0, none⟩ (.int .i64 0)).setCell ⟨gb993, 1, none⟩ (.int .i64 1)).setCell ⟨gb993, 2, none⟩ (.int .i64 12000)).setCell ⟨gb993, 3, none⟩ (.int .i64 0)).setCell ⟨gb993, 4, none⟩ (.bool false)) g991 t982 t983 t984 t985 t986 t987 t988 t989 t990 from is1_ HI991 NB991_993.out) hb); clear hb hbox hg; have hnb28 := NB994_993.out; have hnc28 := NB993_994.out; have hnb29 := NB994_991.out; have hnc29 := NB991_994.out; have hcz30_0 := cz_ BK994 0; have hcz30_1 := cz_ BK994 1; have hcz30_2 := cz_ BK994 2; have hcz30_3 := cz_ BK994 3; have hcz30_4 := cz_ BK994 4; have hfz30_0 := fz_ BK994 0; have hfz30_1 := fz_ BK994 1; have hfz30_2 := fz_ BK994 2; have hfz30_3 := fz_ BK994 3; have hfz30_4 := fz_ BK994 4))
                have n0_ : Aside0 (((((((w27.setCell ⟨gb994, 0, none⟩ (.int .i64 0)).setCell ⟨gb994, 1, none⟩ (.int .i64 1)).setCell ⟨gb994, 2, none⟩ (.int .i64 12000)).setCell ⟨gb994, 3, none⟩ (.int .i64 0)).setCell ⟨gb994, 4, none⟩ (.bool false)).setCell ⟨gb994, 4, none⟩ (.bool true)).heap[gb993]? = some (.cells #[.int .i64 0, .int .i64 1, .int .i64 12000, .int .i64 0, .bool false] 88 (0, 0))) := ⟨by refine bw_ ?_; refine blk_far ?_ NB993_994.out _; refine bw_ ?_; refine blk_far ?_ NB993_994.out _; refine bw_ ?_; refine blk_far ?_ NB993_994.out _; refine bw_ ?_; refine blk_far ?_ NB993_994.out _; refine bw_ ?_; refine blk_far ?_ NB993_994.out _; refine bw_ ?_; refine blk_far ?_ NB993_994.out _; refine bw_ ?_; exact BK993.out⟩; have n1_ : Aside0 (((((((w27.setCell ⟨gb994, 0, none⟩ (.int .i64 0)).setCell ⟨gb994, 1, none⟩ (.int .i64 1)).setCell ⟨gb994, 2, none⟩ (.int .i64 12000)).setCell ⟨gb994, 3, none⟩ (.int .i64 0)).setCell ⟨gb994, 4, none⟩ (.bool false)).setCell ⟨gb994, 4, none⟩ (.bool true)).heap[gb994]? = some (.cells #[.int .i64 0, .int .i64 1, .int .i64 12000, .int .i64 0, .bool true] 88 (0, 0))) := ⟨by refine bw_ ?_; refine blk_put (cs := #[.int .i64 0, .int .i64 1, .int .i64 12000, .int .i64 0, .bool false]) ?_ 4 _ rfl; refine bw_ ?_; refine blk_put (cs := #[.int .i64 0, .int .i64 1, .int .i64 12000, .int .i64 0, .bool false]) ?_ 4 _ rfl; refine bw_ ?_; refine blk_put (cs := #[.int .i64 0, .int .i64 1, .int .i64 12000, .int .i64 0, .bool false]) ?_ 3 _ rfl; refine bw_ ?_; refine blk_put (cs := #[.int .i64 0, .int .i64 1, .int .i64 0, .int .i64 0, .bool false]) ?_ 2 _ rfl; refine bw_ ?_; refine blk_put (cs := #[.int .i64 0, .int .i64 0, .int .i64 0, .int .i64 0, .bool false]) ?_ 1 _ rfl; refine bw_ ?_; refine blk_put (cs := #[.int .i64 0, .int .i64 0, .int .i64 0, .int .i64 0, .bool false]) ?_ 0 _ rfl; refine bw_ ?_; exact BK994.out⟩; have n2_ : Aside0 (IsS180 w ((((((w27.setCell ⟨gb994, 0, none⟩ (.int .i64 0)).setCell ⟨gb994, 1, none⟩ (.int .i64 1)).setCell ⟨gb994, 2, none⟩ (.int .i64 12000)).setCell ⟨gb994, 3, none⟩ (.int .i64 0)).setCell ⟨gb994, 4, none⟩ (.bool false)).setCell ⟨gb994, 4, none⟩ (.bool true)) g991 t982 t983 t984 t985 t986 t987 t988 t989 t990) := ⟨is2_ HI991 NB991_993.out NB991_994.out⟩; have n3_ : Aside0 (Below w.heap.size w ((((((w27.setCell ⟨gb994, 0, none⟩ (.int .i64 0)).setCell ⟨gb994, 1, none⟩ (.int .i64 1)).setCell ⟨gb994, 2, none⟩ (.int .i64 12000)).setCell ⟨gb994, 3, none⟩ (.int .i64 0)).setCell ⟨gb994, 4, none⟩ (.bool false)).setCell ⟨gb994, 4, none⟩ (.bool true))) := ⟨bl3_ HB (IsS180.ge HI991.out) GE993.out GE994.out⟩
                (try clear BK993)
                (try clear BK994)
                (try clear HI991)
                (try clear HB)
                generalize ((((((w27.setCell ⟨gb994, 0, none⟩ (.int .i64 0)).setCell ⟨gb994, 1, none⟩ (.int .i64 1)).setCell ⟨gb994, 2, none⟩ (.int .i64 12000)).setCell ⟨gb994, 3, none⟩ (.int .i64 0)).setCell ⟨gb994, 4, none⟩ (.bool false)).setCell ⟨gb994, 4, none⟩ (.bool true)) = w31 at n0_ n1_ n2_ n3_ ⊢; have BK993 := n0_; have BK994 := n1_; have HI991 := n2_; have HB := n3_; clear n0_ n1_ n2_ n3_; replace BK993 := A_ (blk_drew BK993.out); replace BK994 := A_ (blk_drew BK994.out); replace HI991 := A_ (IsS180.drew HI991.out); replace HB := A_ (below_drew1 HB.out); refine start_ (n := 15) (S := fun w' => w'.cell? ⟨gb993, 0, none⟩ = some (.int .i64 0) ∧ w'.cell? ⟨gb993, 1, none⟩ = some (.int .i64 1) ∧ w'.cell? ⟨gb993, 2, none⟩ = some (.int .i64 12000) ∧ w'.cell? ⟨gb993, 3, none⟩ = some (.int .i64 0) ∧ w'.cell? ⟨gb993, 4, none⟩ = some (.bool false) ∧ w'.cell? ⟨gb994, 0, none⟩ = some (.int .i64 0) ∧ w'.cell? ⟨gb994, 1, none⟩ = some (.int .i64 1) ∧ w'.cell? ⟨gb994, 2, none⟩ = some (.int .i64 12000) ∧ w'.cell? ⟨gb994, 3, none⟩ = some (.int .i64 0) ∧ w'.cell? ⟨gb994, 4, none⟩ = some (.bool true)) (ds := []) #[false, false, false, false, false, false, false, false, false, false, false, false, false, false, false] (by kernel_rfl) rfl rfl ⟨(blk_cell BK993.out 0).trans rfl, (blk_cell BK993.out 1).trans rfl, (blk_cell BK993.out 2).trans rfl, (blk_cell BK993.out 3).trans rfl, (blk_cell BK993.out 4).trans rfl, (blk_cell BK994.out 0).trans rfl, (blk_cell BK994.out 1).trans rfl, (blk_cell BK994.out 2).trans rfl, (blk_cell BK994.out 3).trans rfl, (blk_cell BK994.out 4).trans rfl⟩ (fun hHeld => ?_); refine with_tabW stipendlaw13_dues.tab7 stipendlaw13_dues.bits7 (fun HT_ HW_ => ?_)
                generalize w31.drew = w32 at BK993 BK994 HI991 HB hHeld ⊢; refine pure_ (i := 1) (N := some 23) (v := ?_) (a' := ?_) #[false, true, false, false, false, false, false, false, false, false, false, false, false, false, false] rfl rfl (any_of HT_.out (by kernel_rfl)) (fun _ _ _ h => h) (Or.inl ⟨by rfl, ?_⟩) ?_ ?_
                rotate_left
                ·intro w'
                 go_simp
                 with_reducible rfl
                rotate_left
                ·simp only [Act.put, List.setIfInBounds_toArray, List.set_cons_zero, List.set_cons_succ, i64_w, i32_w]
                 rfl
                refine take_ (i := 2) (N := some 24) (v := ?_) (a' := ?_) #[false, true, true, false, false, false, false, false, false, false, false, false, false, false, false] rfl rfl (take_ofW HT_.out HW_.out (by kernel_rfl)) (fun _ _ _ h => h) (Or.inl ⟨by rfl, ?_⟩) hHeld ?_ ?_
                rotate_left
                ·rintro w' ⟨s0, s1, s2, s3, s4, s5, s6, s7, s8, s9⟩
                 go_simp
                 with_reducible rfl
                rotate_left
                ·simp only [Act.put, List.setIfInBounds_toArray, List.set_cons_zero, List.set_cons_succ, i64_w, i32_w]
                 rfl
                refine pure_ (i := 3) (N := some 25) (v := ?_) (a' := ?_) #[false, true, true, true, false, false, false, false, false, false, false, false, false, false, false] rfl rfl (any_of HT_.out (by kernel_rfl)) (fun _ _ _ h => h) (Or.inl ⟨by rfl, ?_⟩) ?_ ?_
                rotate_left
                ·intro w'
                 go_simp
                 with_reducible rfl
                rotate_left
                ·simp only [Act.put, List.setIfInBounds_toArray, List.set_cons_zero, List.set_cons_succ, i64_w, i32_w]
                 rfl
                refine take_ (i := 4) (N := some 26) (v := ?_) (a' := ?_) #[false, true, true, true, true, false, false, false, false, false, false, false, false, false, false] rfl rfl (take_ofW HT_.out HW_.out (by kernel_rfl)) (fun _ _ _ h => h) (Or.inl ⟨by rfl, ?_⟩) hHeld ?_ ?_
                rotate_left
                ·rintro w' ⟨s0, s1, s2, s3, s4, s5, s6, s7, s8, s9⟩
                 go_simp
                 with_reducible rfl
                rotate_left
                ·simp only [Act.put, List.setIfInBounds_toArray, List.set_cons_zero, List.set_cons_succ, i64_w, i32_w]
                 rfl
                refine pure_ (i := 5) (N := some 27) (v := ?_) (a' := ?_) #[false, true, true, true, true, true, false, false, false, false, false, false, false, false, false] rfl rfl (any_of HT_.out (by kernel_rfl)) (fun _ _ _ h => h) (Or.inl ⟨by rfl, ?_⟩) ?_ ?_
                rotate_left
                ·intro w'
                 go_simp
                 with_reducible rfl
                rotate_left
                ·simp only [Act.put, List.setIfInBounds_toArray, List.set_cons_zero, List.set_cons_succ, i64_w, i32_w]
                 rfl
                refine take_ (i := 6) (N := some 28) (v := ?_) (a' := ?_) #[false, true, true, true, true, true, true, false, false, false, false, false, false, false, false] rfl rfl (take_ofW HT_.out HW_.out (by kernel_rfl)) (fun _ _ _ h => h) (Or.inl ⟨by rfl, ?_⟩) hHeld ?_ ?_
                rotate_left
                ·rintro w' ⟨s0, s1, s2, s3, s4, s5, s6, s7, s8, s9⟩
                 go_simp
                 with_reducible rfl
                rotate_left
                ·simp only [Act.put, List.setIfInBounds_toArray, List.set_cons_zero, List.set_cons_succ, i64_w, i32_w]
                 rfl
                refine pure_ (i := 7) (N := some 29) (v := ?_) (a' := ?_) #[false, true, true, true, true, true, true, true, false, false, false, false, false, false, false] rfl rfl (any_of HT_.out (by kernel_rfl)) (fun _ _ _ h => h) (Or.inl ⟨by rfl, ?_⟩) ?_ ?_
                rotate_left
                ·intro w'
                 go_simp
                 with_reducible rfl
                rotate_left
                ·simp only [Act.put, List.setIfInBounds_toArray, List.set_cons_zero, List.set_cons_succ, i64_w, i32_w]
                 rfl
                refine join_ (σ := Value × Value × Value × Value) 6 #[true, true, true, true, true, true, true, true, true, false, false, false, false, false, false] (fun s_ => [(22, .agg #[s_.1, s_.2.1, s_.2.2.1, .int .i64 t1004, .int .i64 t1005]), (30, s_.2.2.2)]) (fun s_ w' => (w'.cell? ⟨gb993, 0, none⟩ = some (.int .i64 0) ∧ w'.cell? ⟨gb993, 1, none⟩ = some (.int .i64 1) ∧ w'.cell? ⟨gb993, 2, none⟩ = some (.int .i64 12000) ∧ w'.cell? ⟨gb993, 3, none⟩ = some (.int .i64 0) ∧ w'.cell? ⟨gb993, 4, none⟩ = some (.bool false) ∧ w'.cell? ⟨gb994, 0, none⟩ = some (.int .i64 0) ∧ w'.cell? ⟨gb994, 1, none⟩ = some (.int .i64 1) ∧ w'.cell? ⟨gb994, 2, none⟩ = some (.int .i64 12000) ∧ w'.cell? ⟨gb994, 3, none⟩ = some (.int .i64 0) ∧ w'.cell? ⟨gb994, 4, none⟩ = some (.bool true)) ∧ (Kd.N k120 120 w' w.heap.size (fun k_ => some k_ ≠ (s_.2.2.1 : Value).ownBlock ∧ some k_ ≠ (s_.2.2.2 : Value).ownBlock ∧ some k_ ≠ (s_.1 : Value).ownBlock ∧ k_ ≠ g991 ∧ k_ ≠ gb993 ∧ k_ ≠ gb994) s_.2.1 t998) ∧ (Kd.R k209 209 w' w.heap.size (fun _ => True) s_.2.2.1 t1001) ∧ (Kd.R k90 90 w' w.heap.size (fun _ => True) s_.2.2.2 y1006) ∧ (Kd.N (Kd.slice 106 k106) 43 w' w.heap.size (fun k_ => some k_ ≠ (s_.2.1 : Value).ownBlock ∧ some k_ ≠ (s_.2.2.1 : Value).ownBlock ∧ some k_ ≠ (s_.2.2.2 : Value).ownBlock ∧ k_ ≠ g991 ∧ k_ ≠ gb993 ∧ k_ ≠ gb994) s_.1 t995) ∧ (w'.heap[gb993]? = some (.cells #[.int .i64 0, .int .i64 1, .int .i64 12000, .int .i64 0, .bool false] 88 (0, 0))) ∧ (w'.heap[gb994]? = some (.cells #[.int .i64 0, .int .i64 1, .int .i64 12000, .int .i64 0, .bool true] 88 (0, 0))) ∧ (IsS180 w w' g991 t982 t983 t984 t985 t986 t987 t988 t989 t990) ∧ (Below w.heap.size w w')) ?_ ?_
                rotate_left
                ·intro hCont; refine two_ (i := 0) (j := 8) (Ni := some 22) (Nj := some 30) #[true, true, true, true, true, true, true, true, false, false, false, false, false, false, false] #[false, true, true, true, true, true, true, true, true, false, false, false, false, false, false] rfl rfl rfl rfl (two_of HT_.out (by kernel_rfl)) (by decide) (by decide) (fun K hK => ?_) (fun K hK => ?_)
                 ·skip
                  refine goes_ Try.func129 (by kernel_rfl) rfl #[] (by rfl) rfl rfl (by (try simp only [List.map_toArray, List.map_cons, List.map_nil]); first | done | rfl | (simp only [List.length_drop, List.length_take]; rfl)) ?_
                  with_reducible refine (stipendlaw13_simple.calls  t995 t998 t1001 t1004 t1005 _ A2.out).mono ?_
                  rintro e w33 ⟨v996, v999, v1002, rfl, ho0, ho1, ho2, hb⟩; refine ⟨_, rfl, ?_⟩
                  have HO997 := A_ (Kd.N_lower (Kd.N_mono (ok' := fun k_ => some k_ ≠ (v999 : Value).ownBlock ∧ some k_ ≠ (v1002 : Value).ownBlock ∧ k_ ≠ gb993 ∧ k_ ≠ gb994 ∧ k_ ≠ g991) ho0 (fun k_ hk_ => ⟨hk_.2.1, hk_.2.2, (Kd.freshB (g := gb993) (o := .cells #[.int .i64 0, .int .i64 1, .int .i64 12000, .int .i64 0, .bool false] 88 (0, 0)) (bx_ BK993) k_ hk_.1), (Kd.freshB (g := gb994) (o := .cells #[.int .i64 0, .int .i64 1, .int .i64 12000, .int .i64 0, .bool true] 88 (0, 0)) (bx_ BK994) k_ hk_.1), (IsS180.fresh (is2_ HI991 NB991_993.out NB991_994.out) k_ hk_.1)⟩)) (below_size (bl3_ HB (IsS180.ge HI991.out) GE993.out GE994.out))); have HO1000 := A_ (Kd.N_lower (Kd.N_mono (ok' := fun k_ => some k_ ≠ (v996 : Value).ownBlock ∧ some k_ ≠ (v1002 : Value).ownBlock ∧ k_ ≠ gb993 ∧ k_ ≠ gb994 ∧ k_ ≠ g991) ho1 (fun k_ hk_ => ⟨hk_.2.1, hk_.2.2, (Kd.freshB (g := gb993) (o := .cells #[.int .i64 0, .int .i64 1, .int .i64 12000, .int .i64 0, .bool false] 88 (0, 0)) (bx_ BK993) k_ hk_.1), (Kd.freshB (g := gb994) (o := .cells #[.int .i64 0, .int .i64 1, .int .i64 12000, .int .i64 0, .bool true] 88 (0, 0)) (bx_ BK994) k_ hk_.1), (IsS180.fresh (is2_ HI991 NB991_993.out NB991_994.out) k_ hk_.1)⟩)) (below_size (bl3_ HB (IsS180.ge HI991.out) GE993.out GE994.out))); have HO1003 := A_ (Kd.R_lower (Kd.R_mono (ok' := fun k_ => True) ho2 (fun _ hk_ => trivial)) (below_size (bl3_ HB (IsS180.ge HI991.out) GE993.out GE994.out))); replace BK993 := A_ (blk_below (bx_ BK993) hb); replace BK994 := A_ (blk_below (bx_ BK994) hb); replace HB := A_ (below_step (bl3_ HB (IsS180.ge HI991.out) GE993.out GE994.out) hb); replace HI991 := A_ (IsS180.below (is2_ HI991 NB991_993.out NB991_994.out) hb)
                  (try clear hb)
                  (try clear hb2)
                  (try clear hk)
                  (try clear hi)
                  (try clear ho0)
                  (try clear ho1)
                  (try clear ho2)
                  refine hK.out _ _ ⟨(blk_cell BK993.out 0).trans rfl, (blk_cell BK993.out 1).trans rfl, (blk_cell BK993.out 2).trans rfl, (blk_cell BK993.out 3).trans rfl, (blk_cell BK993.out 4).trans rfl, (blk_cell BK994.out 0).trans rfl, (blk_cell BK994.out 1).trans rfl, (blk_cell BK994.out 2).trans rfl, (blk_cell BK994.out 3).trans rfl, (blk_cell BK994.out 4).trans rfl⟩ (fun hHeld => ?_)
                  clear hK K; refine norm_ (a' := ?_) ?_ ?_
                  rotate_left
                  ·show Act.put _ (some 22) _ = _
                   simp only [Act.put, List.setIfInBounds_toArray, List.set_cons_zero, List.set_cons_succ, i64_w, i32_w]
                   rfl
                  refine one_ (i := 8) (N := some 30) #[true, true, true, true, true, true, true, true, true, false, false, false, false, false, false] rfl rfl (one_of HT_.out (by kernel_rfl)) (by decide) (fun K hK => ?_)
                  refine Kd.R_lit_step k90 _ 90 ?hg (N := 30) ?hd (xs := ([(⟨(⟨0, 1, 12000, 0, false⟩ : S88), 5000⟩ : S90), (⟨(⟨0, 1, 12000, 0, false⟩ : S88), 5000⟩ : S90), (⟨(⟨0, 1, 12000, 0, true⟩ : S88), 11001⟩ : S90)] : List (S90))) (inner := [.int .i64 0, .int .i64 1, .int .i64 12000, .int .i64 0, .bool false, .int .i64 5000, .int .i64 0, .int .i64 1, .int .i64 12000, .int .i64 0, .bool false, .int .i64 5000, .int .i64 0, .int .i64 1, .int .i64 12000, .int .i64 0, .bool true, .int .i64 11001]) (ok := fun _ => True) (okp := fun _ => True) ?hr ?hp (fun _ hk => hk) trivial (Below.refl _ _) (Nat.le_refl _) (by simp) ?_; (case hd => rfl); (case hg => rfl); (case hr => first | (go_simp; done) | (go_simp; rfl)); (case hp => exact (Reps.c6 (show Kd.M k90 _ _ _ (⟨(⟨0, 1, 12000, 0, false⟩ : S88), 5000⟩ : S90) [.int .i64 0, .int .i64 1, .int .i64 12000, .int .i64 0, .bool false, .int .i64 5000] from (k90_mkM _ _ _ (⟨(⟨0, 1, 12000, 0, false⟩ : S88), 5000⟩ : S90) )) (Reps.c6 (show Kd.M k90 _ _ _ (⟨(⟨0, 1, 12000, 0, false⟩ : S88), 5000⟩ : S90) [.int .i64 0, .int .i64 1, .int .i64 12000, .int .i64 0, .bool false, .int .i64 5000] from (k90_mkM _ _ _ (⟨(⟨0, 1, 12000, 0, false⟩ : S88), 5000⟩ : S90) )) (Reps.c6 (show Kd.M k90 _ _ _ (⟨(⟨0, 1, 12000, 0, true⟩ : S88), 11001⟩ : S90) [.int .i64 0, .int .i64 1, .int .i64 12000, .int .i64 0, .bool true, .int .i64 11001] from (k90_mkM _ _ _ (⟨(⟨0, 1, 12000, 0, true⟩ : S88), 11001⟩ : S90) )) (Reps.none _ _)))))
                  intro v1007 w34 ho35 hb hg_ hnew_; clear hg_ hnew_
                  (first | rw [← Ny1006.out] at ho35 | (simp only [Int.reduceToNat] at ho35; rw [← Ny1006.out] at ho35))
                  have HO1008 := A_ (Kd.R_lower ho35 (below_size (bl3_ HB (IsS180.ge HI991.out) GE993.out GE994.out))); replace HO997 := A_ (Kd.N_elder' (by (with_reducible repeat (first | apply Kd.N_alloc | apply Kd.N_drewN | apply Kd.N_drew)); exact HO997.out) (Kd.R_base ho35) hb); replace HO1000 := A_ (Kd.N_elder' (by (with_reducible repeat (first | apply Kd.N_alloc | apply Kd.N_drewN | apply Kd.N_drew)); exact HO1000.out) (Kd.R_base ho35) hb); replace HO1003 := A_ (Kd.R_below (ro_ HO1003) hb); replace BK993 := A_ (blk_below (bx_ BK993) hb); replace BK994 := A_ (blk_below (bx_ BK994) hb); replace HB := A_ (below_step (bl3_ HB (IsS180.ge HI991.out) GE993.out GE994.out) hb); replace HI991 := A_ (IsS180.below (is2_ HI991 NB991_993.out NB991_994.out) hb); clear hb ho35; refine hK.out _ _ ⟨(blk_cell BK993.out 0).trans rfl, (blk_cell BK993.out 1).trans rfl, (blk_cell BK993.out 2).trans rfl, (blk_cell BK993.out 3).trans rfl, (blk_cell BK993.out 4).trans rfl, (blk_cell BK994.out 0).trans rfl, (blk_cell BK994.out 1).trans rfl, (blk_cell BK994.out 2).trans rfl, (blk_cell BK994.out 3).trans rfl, (blk_cell BK994.out 4).trans rfl⟩ (fun hHeld => ?_)
                  clear hK K; refine norm_ (a' := ?_) ?_ ?_
                  rotate_left
                  ·show Act.put _ (some 30) _ = _
                   simp only [Act.put, List.setIfInBounds_toArray, List.set_cons_zero, List.set_cons_succ, i64_w, i32_w]
                   rfl
                  exact norm_ (by simp only [putAll, Act.put, List.setIfInBounds_toArray, List.set_cons_zero, List.set_cons_succ]) (hCont (v996, v999, v1002, v1007) _ ⟨hHeld, (by (with_reducible repeat (first | apply Kd.N_alloc | apply Kd.N_drewN | apply Kd.N_drew)); exact Kd.N_mono HO1000.out (fun _ hk => ⟨hk.1.2.1, ⟨hk.2, ⟨hk.1.1, ⟨hk.1.2.2.2.2, ⟨hk.1.2.2.1, hk.1.2.2.2.1⟩⟩⟩⟩⟩)), (ro_ HO1003), (ro_ HO1008), (by (with_reducible repeat (first | apply Kd.N_alloc | apply Kd.N_drewN | apply Kd.N_drew)); exact Kd.N_mono HO997.out (fun _ hk => ⟨hk.1.1, ⟨hk.1.2.1, ⟨hk.2, ⟨hk.1.2.2.2.2, ⟨hk.1.2.2.1, hk.1.2.2.2.1⟩⟩⟩⟩⟩)), (bx_ BK993), (bx_ BK994), (is2_ HI991 NB991_993.out NB991_994.out), (bl3_ HB (IsS180.ge HI991.out) GE993.out GE994.out)⟩)
                 ·skip
                  refine Kd.R_lit_step k90 _ 90 ?hg (N := 30) ?hd (xs := ([(⟨(⟨0, 1, 12000, 0, false⟩ : S88), 5000⟩ : S90), (⟨(⟨0, 1, 12000, 0, false⟩ : S88), 5000⟩ : S90), (⟨(⟨0, 1, 12000, 0, true⟩ : S88), 11001⟩ : S90)] : List (S90))) (inner := [.int .i64 0, .int .i64 1, .int .i64 12000, .int .i64 0, .bool false, .int .i64 5000, .int .i64 0, .int .i64 1, .int .i64 12000, .int .i64 0, .bool false, .int .i64 5000, .int .i64 0, .int .i64 1, .int .i64 12000, .int .i64 0, .bool true, .int .i64 11001]) (ok := fun _ => True) (okp := fun _ => True) ?hr ?hp (fun _ hk => hk) trivial (Below.refl _ _) (Nat.le_refl _) (by simp) ?_; (case hd => rfl); (case hg => rfl); (case hr => first | (go_simp; done) | (go_simp; rfl)); (case hp => exact (Reps.c6 (show Kd.M k90 _ _ _ (⟨(⟨0, 1, 12000, 0, false⟩ : S88), 5000⟩ : S90) [.int .i64 0, .int .i64 1, .int .i64 12000, .int .i64 0, .bool false, .int .i64 5000] from (k90_mkM _ _ _ (⟨(⟨0, 1, 12000, 0, false⟩ : S88), 5000⟩ : S90) )) (Reps.c6 (show Kd.M k90 _ _ _ (⟨(⟨0, 1, 12000, 0, false⟩ : S88), 5000⟩ : S90) [.int .i64 0, .int .i64 1, .int .i64 12000, .int .i64 0, .bool false, .int .i64 5000] from (k90_mkM _ _ _ (⟨(⟨0, 1, 12000, 0, false⟩ : S88), 5000⟩ : S90) )) (Reps.c6 (show Kd.M k90 _ _ _ (⟨(⟨0, 1, 12000, 0, true⟩ : S88), 11001⟩ : S90) [.int .i64 0, .int .i64 1, .int .i64 12000, .int .i64 0, .bool true, .int .i64 11001] from (k90_mkM _ _ _ (⟨(⟨0, 1, 12000, 0, true⟩ : S88), 11001⟩ : S90) )) (Reps.none _ _)))))
                  intro v1007 w33 ho34 hb hg_ hnew_; clear hg_ hnew_
                  (first | rw [← Ny1006.out] at ho34 | (simp only [Int.reduceToNat] at ho34; rw [← Ny1006.out] at ho34))
                  have HO1008 := A_ (Kd.R_lower ho34 (below_size (bl3_ HB (IsS180.ge HI991.out) GE993.out GE994.out))); replace BK993 := A_ (blk_below (bx_ BK993) hb); replace BK994 := A_ (blk_below (bx_ BK994) hb); replace HB := A_ (below_step (bl3_ HB (IsS180.ge HI991.out) GE993.out GE994.out) hb); replace HI991 := A_ (IsS180.below (is2_ HI991 NB991_993.out NB991_994.out) hb); clear hb ho34; refine hK.out _ _ ⟨(blk_cell BK993.out 0).trans rfl, (blk_cell BK993.out 1).trans rfl, (blk_cell BK993.out 2).trans rfl, (blk_cell BK993.out 3).trans rfl, (blk_cell BK993.out 4).trans rfl, (blk_cell BK994.out 0).trans rfl, (blk_cell BK994.out 1).trans rfl, (blk_cell BK994.out 2).trans rfl, (blk_cell BK994.out 3).trans rfl, (blk_cell BK994.out 4).trans rfl⟩ (fun hHeld => ?_)
                  clear hK K; refine norm_ (a' := ?_) ?_ ?_
                  rotate_left
                  ·show Act.put _ (some 30) _ = _
                   simp only [Act.put, List.setIfInBounds_toArray, List.set_cons_zero, List.set_cons_succ, i64_w, i32_w]
                   rfl
                  refine one_ (i := 0) (N := some 22) #[true, true, true, true, true, true, true, true, true, false, false, false, false, false, false] rfl rfl (one_of HT_.out (by kernel_rfl)) (by decide) (fun K hK => ?_)
                  refine goes_ Try.func129 (by kernel_rfl) rfl #[] (by rfl) rfl rfl (by (try simp only [List.map_toArray, List.map_cons, List.map_nil]); first | done | rfl | (simp only [List.length_drop, List.length_take]; rfl)) ?_
                  with_reducible refine (stipendlaw13_simple.calls  t995 t998 t1001 t1004 t1005 _ A2.out).mono ?_
                  rintro e w35 ⟨v996, v999, v1002, rfl, ho0, ho1, ho2, hb⟩; refine ⟨_, rfl, ?_⟩
                  have HO997 := A_ (Kd.N_lower (Kd.N_mono (ok' := fun k_ => some k_ ≠ (v999 : Value).ownBlock ∧ some k_ ≠ (v1002 : Value).ownBlock ∧ some k_ ≠ (v1007 : Value).ownBlock ∧ k_ ≠ gb993 ∧ k_ ≠ gb994 ∧ k_ ≠ g991) ho0 (fun k_ hk_ => ⟨hk_.2.1, hk_.2.2, (Kd.fresh' (Kd.R_lt (ro_ HO1008)) k_ hk_.1), (Kd.freshB (g := gb993) (o := .cells #[.int .i64 0, .int .i64 1, .int .i64 12000, .int .i64 0, .bool false] 88 (0, 0)) (bx_ BK993) k_ hk_.1), (Kd.freshB (g := gb994) (o := .cells #[.int .i64 0, .int .i64 1, .int .i64 12000, .int .i64 0, .bool true] 88 (0, 0)) (bx_ BK994) k_ hk_.1), (IsS180.fresh (is2_ HI991 NB991_993.out NB991_994.out) k_ hk_.1)⟩)) (below_size (bl3_ HB (IsS180.ge HI991.out) GE993.out GE994.out))); have HO1000 := A_ (Kd.N_lower (Kd.N_mono (ok' := fun k_ => some k_ ≠ (v996 : Value).ownBlock ∧ some k_ ≠ (v1002 : Value).ownBlock ∧ some k_ ≠ (v1007 : Value).ownBlock ∧ k_ ≠ gb993 ∧ k_ ≠ gb994 ∧ k_ ≠ g991) ho1 (fun k_ hk_ => ⟨hk_.2.1, hk_.2.2, (Kd.fresh' (Kd.R_lt (ro_ HO1008)) k_ hk_.1), (Kd.freshB (g := gb993) (o := .cells #[.int .i64 0, .int .i64 1, .int .i64 12000, .int .i64 0, .bool false] 88 (0, 0)) (bx_ BK993) k_ hk_.1), (Kd.freshB (g := gb994) (o := .cells #[.int .i64 0, .int .i64 1, .int .i64 12000, .int .i64 0, .bool true] 88 (0, 0)) (bx_ BK994) k_ hk_.1), (IsS180.fresh (is2_ HI991 NB991_993.out NB991_994.out) k_ hk_.1)⟩)) (below_size (bl3_ HB (IsS180.ge HI991.out) GE993.out GE994.out))); have HO1003 := A_ (Kd.R_lower (Kd.R_mono (ok' := fun k_ => True) ho2 (fun _ hk_ => trivial)) (below_size (bl3_ HB (IsS180.ge HI991.out) GE993.out GE994.out))); replace HO1008 := A_ (Kd.R_below (ro_ HO1008) hb); replace BK993 := A_ (blk_below (bx_ BK993) hb); replace BK994 := A_ (blk_below (bx_ BK994) hb); replace HB := A_ (below_step (bl3_ HB (IsS180.ge HI991.out) GE993.out GE994.out) hb); replace HI991 := A_ (IsS180.below (is2_ HI991 NB991_993.out NB991_994.out) hb)
                  (try clear hb)
                  (try clear hb2)
                  (try clear hk)
                  (try clear hi)
                  (try clear ho0)
                  (try clear ho1)
                  (try clear ho2)
                  refine hK.out _ _ ⟨(blk_cell BK993.out 0).trans rfl, (blk_cell BK993.out 1).trans rfl, (blk_cell BK993.out 2).trans rfl, (blk_cell BK993.out 3).trans rfl, (blk_cell BK993.out 4).trans rfl, (blk_cell BK994.out 0).trans rfl, (blk_cell BK994.out 1).trans rfl, (blk_cell BK994.out 2).trans rfl, (blk_cell BK994.out 3).trans rfl, (blk_cell BK994.out 4).trans rfl⟩ (fun hHeld => ?_)
                  clear hK K; refine norm_ (a' := ?_) ?_ ?_
                  rotate_left
                  ·show Act.put _ (some 22) _ = _
                   simp only [Act.put, List.setIfInBounds_toArray, List.set_cons_zero, List.set_cons_succ, i64_w, i32_w]
                   rfl
                  exact norm_ (by simp only [putAll, Act.put, List.setIfInBounds_toArray, List.set_cons_zero, List.set_cons_succ]) (hCont (v996, v999, v1002, v1007) _ ⟨hHeld, (by (with_reducible repeat (first | apply Kd.N_alloc | apply Kd.N_drewN | apply Kd.N_drew)); exact Kd.N_mono HO1000.out (fun _ hk => ⟨hk.2.1, ⟨hk.2.2.1, ⟨hk.1, ⟨hk.2.2.2.2.2, ⟨hk.2.2.2.1, hk.2.2.2.2.1⟩⟩⟩⟩⟩)), (ro_ HO1003), (ro_ HO1008), (by (with_reducible repeat (first | apply Kd.N_alloc | apply Kd.N_drewN | apply Kd.N_drew)); exact Kd.N_mono HO997.out (fun _ hk => ⟨hk.1, ⟨hk.2.1, ⟨hk.2.2.1, ⟨hk.2.2.2.2.2, ⟨hk.2.2.2.1, hk.2.2.2.2.1⟩⟩⟩⟩⟩)), (bx_ BK993), (bx_ BK994), (is2_ HI991 NB991_993.out NB991_994.out), (bl3_ HB (IsS180.ge HI991.out) GE993.out GE994.out)⟩)
                rintro ⟨v996, v999, v1002, v1007⟩ w36 ⟨hS_, h0_, h1_, h2_, h3_, h4_, h5_, h6_, h7_⟩; have n0_ : Aside0 (Kd.N k120 120 w36 w.heap.size (fun k_ => some k_ ≠ (v1002 : Value).ownBlock ∧ some k_ ≠ (v1007 : Value).ownBlock ∧ some k_ ≠ (v996 : Value).ownBlock ∧ k_ ≠ g991 ∧ k_ ≠ gb993 ∧ k_ ≠ gb994) v999 t998) := ⟨h0_⟩; have n1_ : Aside0 (Kd.R k209 209 w36 w.heap.size (fun _ => True) v1002 t1001) := ⟨h1_⟩; have n2_ : Aside0 (Kd.R k90 90 w36 w.heap.size (fun _ => True) v1007 y1006) := ⟨h2_⟩; have n3_ : Aside0 (Kd.N (Kd.slice 106 k106) 43 w36 w.heap.size (fun k_ => some k_ ≠ (v999 : Value).ownBlock ∧ some k_ ≠ (v1002 : Value).ownBlock ∧ some k_ ≠ (v1007 : Value).ownBlock ∧ k_ ≠ g991 ∧ k_ ≠ gb993 ∧ k_ ≠ gb994) v996 t995) := ⟨h3_⟩; have n4_ : Aside0 (w36.heap[gb993]? = some (.cells #[.int .i64 0, .int .i64 1, .int .i64 12000, .int .i64 0, .bool false] 88 (0, 0))) := ⟨h4_⟩; have n5_ : Aside0 (w36.heap[gb994]? = some (.cells #[.int .i64 0, .int .i64 1, .int .i64 12000, .int .i64 0, .bool true] 88 (0, 0))) := ⟨h5_⟩; have n6_ : Aside0 (IsS180 w w36 g991 t982 t983 t984 t985 t986 t987 t988 t989 t990) := ⟨h6_⟩; have n7_ : Aside0 (Below w.heap.size w w36) := ⟨h7_⟩; clear BK993; clear BK994; clear HI991; clear HB; clear h0_ h1_ h2_ h3_ h4_ h5_ h6_ h7_; have HO1000 := n0_; have HO1003 := n1_; have HO1008 := n2_; have HO997 := n3_; have BK993 := n4_; have BK994 := n5_; have HI991 := n6_; have HB := n7_; clear n0_ n1_ n2_ n3_ n4_ n5_ n6_ n7_; have hHeld : w36.cell? ⟨gb993, 0, none⟩ = some (.int .i64 0) ∧ w36.cell? ⟨gb993, 1, none⟩ = some (.int .i64 1) ∧ w36.cell? ⟨gb993, 2, none⟩ = some (.int .i64 12000) ∧ w36.cell? ⟨gb993, 3, none⟩ = some (.int .i64 0) ∧ w36.cell? ⟨gb993, 4, none⟩ = some (.bool false) ∧ w36.cell? ⟨gb994, 0, none⟩ = some (.int .i64 0) ∧ w36.cell? ⟨gb994, 1, none⟩ = some (.int .i64 1) ∧ w36.cell? ⟨gb994, 2, none⟩ = some (.int .i64 12000) ∧ w36.cell? ⟨gb994, 3, none⟩ = some (.int .i64 0) ∧ w36.cell? ⟨gb994, 4, none⟩ = some (.bool true) := hS_; obtain ⟨Ao37, co37, eo37⟩ := Kd.N_slice HO997.out
                (first | subst eo37 | (injection eo37 with f1_ f2_ f3_; have f4_ := f1_.symm; have f5_ := f3_.symm; clear f1_ f2_ f3_; subst f4_; subst f5_))
                obtain ⟨Ao38, co38, eo38⟩ := Kd.N_slice HO1000.out
                (first | subst eo38 | (injection eo38 with f1_ f2_ f3_; have f4_ := f1_.symm; have f5_ := f3_.symm; clear f1_ f2_ f3_; subst f4_; subst f5_))
                obtain ⟨Ao39, co39, eo39⟩ := Kd.R_slice HO1003.out
                (first | subst eo39 | (injection eo39 with f1_ f2_ f3_; have f4_ := f1_.symm; have f5_ := f3_.symm; clear f1_ f2_ f3_; subst f4_; subst f5_))
                obtain ⟨Ao40, co40, eo40⟩ := Kd.R_slice HO1008.out
                (first | subst eo40 | (injection eo40 with f1_ f2_ f3_; have f4_ := f1_.symm; have f5_ := f3_.symm; clear f1_ f2_ f3_; subst f4_; subst f5_))
                refine norm_ (a' := ?_) ?_ ?_
                rotate_left
                ·simp only [putAll, Act.put, List.setIfInBounds_toArray, List.set_cons_zero, List.set_cons_succ]
                 rfl
                refine one_ (i := 9) (N := some 31) #[true, true, true, true, true, true, true, true, true, true, false, false, false, false, false] rfl rfl (one_of HT_.out (by kernel_rfl)) (by decide) (fun K hK => ?_)
                refine goes_ Try.func54 (by kernel_rfl) rfl #[.agg #[.slice Ao37 t995.length co37, .slice Ao38 t998.length co38, .slice Ao39 t1001.length co39, .int .i64 t1004, .int .i64 t1005], .pointer (some ⟨g991, 0, none⟩), .slice Ao40 y1006.length co40] (by rfl) rfl rfl (by (try simp only [List.map_toArray, List.map_cons, List.map_nil]); first | done | rfl | (simp only [List.length_drop, List.length_take]; rfl)) ?_
                with_reducible refine (tax_Year.calls k _ _ t995 _ _ t998 _ _ t1001 t1004 t1005 g991 t982 t983 t984 t985 t986 t987 t988 t989 t990 _ _ y1006 t1009 t1012 t1013 t1014 t1015 t1016 t1017 t1018 t1019 t1020 t1021 w _ ?side1 ?side2 ?side3 ?side4 ?side5 ?side6 ?side7 ?side8 ?side9 ?side10 A3.out).mono ?_
                (case side1 => repeat (first | (with_reducible first | exact HI991.out | apply IsS180.alloc | apply IsS180.drewN | apply IsS180.drew | apply IsS180.set_0 | apply IsS180.set_1 | apply IsS180.set_2 | apply IsS180.set_3 | apply IsS180.set_4 | apply IsS180.set_5 | apply IsS180.set_6 | apply IsS180.set_7 | apply IsS180.set_8 | refine IsS180.far ?_ NB991_993.out _ | refine IsS180.far ?_ NB991_994.out _) | exact HI991.out))
                (case side2 => repeat (first | (with_reducible first | exact HB.out | apply below_alloc | apply pw_below_drewN | apply below_drew1 | refine below_set ?_ (IsS180.ge HI991.out) | refine below_set ?_ GE993.out | refine below_set ?_ GE994.out) | exact HB.out))
                (case side3 => exact Kd.C_foot_ownV (base := 0) (Kd.N_V (Kd.N_mono (ok := fun k_ => (some k_ ≠ (.slice Ao38 t998.length co38 : Value).ownBlock ∧ (some k_ ≠ (.slice Ao39 t1001.length co39 : Value).ownBlock ∧ (some k_ ≠ (.slice Ao40 y1006.length co40 : Value).ownBlock ∧ (k_ ≠ g991 ∧ (k_ ≠ gb993 ∧ k_ ≠ gb994)))))) (by (with_reducible repeat (first | apply Kd.N_alloc | apply Kd.N_drewN | apply Kd.N_drew)); exact HO997.out) (fun k_ hk_ => (⟨hk_, hk_.2.2.2.1⟩ : _ ∧ k_ ≠ g991)))) (fun _ h_ => h_.2))
                (case side4 => exact (Kd.N_reads' HO997.out).2.1)
                (case side5 => exact Kd.C_foot_ownV (base := 0) (Kd.N_V (Kd.N_mono (ok := fun k_ => (some k_ ≠ (.slice Ao39 t1001.length co39 : Value).ownBlock ∧ (some k_ ≠ (.slice Ao40 y1006.length co40 : Value).ownBlock ∧ (some k_ ≠ (.slice Ao37 t995.length co37 : Value).ownBlock ∧ (k_ ≠ g991 ∧ (k_ ≠ gb993 ∧ k_ ≠ gb994)))))) (by (with_reducible repeat (first | apply Kd.N_alloc | apply Kd.N_drewN | apply Kd.N_drew)); exact HO1000.out) (fun k_ hk_ => (⟨hk_, hk_.2.2.2.1⟩ : _ ∧ k_ ≠ g991)))) (fun _ h_ => h_.2))
                (case side6 => exact (Kd.N_reads' HO1000.out).2.1)
                (case side7 => exact Kd.C_foot_own (IsS180.apart (show IsS180 w _ g991 t982 t983 t984 t985 t986 t987 t988 t989 t990 from is2_ HI991 NB991_993.out NB991_994.out) (ro_ HO1003) (by decide)) (fun _ h_ => h_.2))
                (case side8 => exact (Kd.R_reads' HO1003.out).2.1)
                (case side9 => exact Kd.C_foot_own (IsS180.apart (show IsS180 w _ g991 t982 t983 t984 t985 t986 t987 t988 t989 t990 from is2_ HI991 NB991_993.out NB991_994.out) (ro_ HO1008) (by decide)) (fun _ h_ => h_.2))
                (case side10 => exact (Kd.R_reads' HO1008.out).2.1)
                rintro e w41 ⟨v1010, rfl, ho0, hi, hb, hk⟩; refine ⟨_, rfl, ?_⟩
                have HO1011 := A_ (Kd.R_lower ho0 (below_size (bl3_ HB (IsS180.ge HI991.out) GE993.out GE994.out))); replace BK993 := A_ (KeepBut.blk hk (g' := gb993) (o := .cells #[.int .i64 0, .int .i64 1, .int .i64 12000, .int .i64 0, .bool false] 88 (0, 0)) (bx_ BK993) NB993_991.out (by simp)); replace BK994 := A_ (KeepBut.blk hk (g' := gb994) (o := .cells #[.int .i64 0, .int .i64 1, .int .i64 12000, .int .i64 0, .bool true] 88 (0, 0)) (bx_ BK994) NB994_991.out (by simp)); replace HO997 := A_ (Kd.N_mono (Kd.N_told (Kd.N_oldK (Kd.N_mono (ok := fun k_ => (some k_ ≠ (.slice Ao38 t998.length co38 : Value).ownBlock ∧ (some k_ ≠ (.slice Ao39 t1001.length co39 : Value).ownBlock ∧ (some k_ ≠ (.slice Ao40 y1006.length co40 : Value).ownBlock ∧ (k_ ≠ g991 ∧ (k_ ≠ gb993 ∧ k_ ≠ gb994)))))) (by (with_reducible repeat (first | apply Kd.N_alloc | apply Kd.N_drewN | apply Kd.N_drew)); exact HO997.out) (fun k_ hk_ => (⟨hk_, hk_.2.2.2.1⟩ : _ ∧ k_ ≠ g991))) hk) (Kd.R_base ho0)) (fun _ h_ => h_.1)); replace HO1000 := A_ (Kd.N_mono (Kd.N_told (Kd.N_oldK (Kd.N_mono (ok := fun k_ => (some k_ ≠ (.slice Ao39 t1001.length co39 : Value).ownBlock ∧ (some k_ ≠ (.slice Ao40 y1006.length co40 : Value).ownBlock ∧ (some k_ ≠ (.slice Ao37 t995.length co37 : Value).ownBlock ∧ (k_ ≠ g991 ∧ (k_ ≠ gb993 ∧ k_ ≠ gb994)))))) (by (with_reducible repeat (first | apply Kd.N_alloc | apply Kd.N_drewN | apply Kd.N_drew)); exact HO1000.out) (fun k_ hk_ => (⟨hk_, hk_.2.2.2.1⟩ : _ ∧ k_ ≠ g991))) hk) (Kd.R_base ho0)) (fun _ h_ => h_.1)); replace HO1003 := A_ (Kd.R_mono (Kd.R_keep (IsS180.apart (show IsS180 w _ g991 t982 t983 t984 t985 t986 t987 t988 t989 t990 from is2_ HI991 NB991_993.out NB991_994.out) (ro_ HO1003) (by decide)) hk (fun _ h => h.2)) (fun _ h => h.1)); replace HO1008 := A_ (Kd.R_mono (Kd.R_keep (IsS180.apart (show IsS180 w _ g991 t982 t983 t984 t985 t986 t987 t988 t989 t990 from is2_ HI991 NB991_993.out NB991_994.out) (ro_ HO1008) (by decide)) hk (fun _ h => h.2)) (fun _ h => h.1)); replace HB := A_ (hb); replace HI991 := A_ (hi)
                (try clear hb)
                (try clear hb2)
                (try clear hk)
                (try clear hi)
                (try clear ho0)
                refine hK.out _ _ ⟨(blk_cell BK993.out 0).trans rfl, (blk_cell BK993.out 1).trans rfl, (blk_cell BK993.out 2).trans rfl, (blk_cell BK993.out 3).trans rfl, (blk_cell BK993.out 4).trans rfl, (blk_cell BK994.out 0).trans rfl, (blk_cell BK994.out 1).trans rfl, (blk_cell BK994.out 2).trans rfl, (blk_cell BK994.out 3).trans rfl, (blk_cell BK994.out 4).trans rfl⟩ (fun hHeld => ?_)
                clear hK K; refine norm_ (a' := ?_) ?_ ?_
                rotate_left
                ·show Act.put _ (some 31) _ = _
                 simp only [Act.put, List.setIfInBounds_toArray, List.set_cons_zero, List.set_cons_succ, i64_w, i32_w]
                 rfl
                refine pure_ (i := 10) (N := some 21) (v := ?_) (a' := ?_) #[true, true, true, true, true, true, true, true, true, true, true, false, false, false, false] rfl rfl (any_of HT_.out (by kernel_rfl)) (fun _ _ _ h => h) (Or.inl ⟨by rfl, ?_⟩) ?_ ?_
                rotate_left
                ·intro w'
                 go_simp
                 with_reducible rfl
                rotate_left
                ·simp only [Act.put, List.setIfInBounds_toArray, List.set_cons_zero, List.set_cons_succ, i64_w, i32_w]
                 rfl
                refine pure_ (i := 11) (N := some 32) (v := ?_) (a' := ?_) #[true, true, true, true, true, true, true, true, true, true, true, true, false, false, false] rfl rfl (any_of HT_.out (by kernel_rfl)) (fun _ _ _ h => h) (Or.inl ⟨by rfl, ?_⟩) ?_ ?_
                rotate_left
                ·intro w'
                 go_simp
                 with_reducible rfl
                rotate_left
                ·simp only [Act.put, List.setIfInBounds_toArray, List.set_cons_zero, List.set_cons_succ, i64_w, i32_w]
                 rfl
                refine pure_ (i := 12) (N := some 33) (v := ?_) (a' := ?_) #[true, true, true, true, true, true, true, true, true, true, true, true, true, false, false] rfl rfl (any_of HT_.out (by kernel_rfl)) (fun _ _ _ h => h) (Or.inl ⟨by rfl, ?_⟩) ?_ ?_
                rotate_left
                ·intro w'
                 go_simp
                 with_reducible rfl
                rotate_left
                ·simp only [Act.put, List.setIfInBounds_toArray, List.set_cons_zero, List.set_cons_succ, i64_w, i32_w]
                 rfl
                refine pure_ (i := 13) (N := some 5) (v := ?_) (a' := ?_) #[true, true, true, true, true, true, true, true, true, true, true, true, true, true, false] rfl rfl (any_of HT_.out (by kernel_rfl)) (fun _ _ _ h => h) (Or.inl ⟨by rfl, ?_⟩) ?_ ?_
                rotate_left
                ·intro w'
                 go_simp
                 with_reducible rfl
                rotate_left
                ·simp only [Act.put, List.setIfInBounds_toArray, List.set_cons_zero, List.set_cons_succ, i64_w, i32_w]
                 rfl
                refine pure_ (i := 14) (N := some 6) (v := ?_) (a' := ?_) #[true, true, true, true, true, true, true, true, true, true, true, true, true, true, true] rfl rfl (any_of HT_.out (by kernel_rfl)) (fun _ _ _ h => h) (Or.inl ⟨by rfl, ?_⟩) ?_ ?_
                rotate_left
                ·intro w'
                 go_simp
                 with_reducible rfl
                rotate_left
                ·simp only [Act.put, List.setIfInBounds_toArray, List.set_cons_zero, List.set_cons_succ, i64_w, i32_w]
                 rfl
                refine done_ (done_of HT_.out (by kernel_rfl)) ?_
                try go_wp2
                replace HO997 := A_ (Kd.N_drew HO997.out); replace HO1000 := A_ (Kd.N_drew HO1000.out); replace HO1003 := A_ (Kd.R_drew HO1003.out); replace HO1008 := A_ (Kd.R_drew HO1008.out); replace HO1011 := A_ (Kd.R_drew HO1011.out); replace BK993 := A_ (blk_drew BK993.out); replace BK994 := A_ (blk_drew BK994.out); replace HI991 := A_ (IsS180.drew HI991.out); replace HB := A_ (below_drew1 HB.out); refine start_ (n := 8) (S := fun w' => w'.cell? ⟨gb993, 0, none⟩ = some (.int .i64 0) ∧ w'.cell? ⟨gb993, 1, none⟩ = some (.int .i64 1) ∧ w'.cell? ⟨gb993, 2, none⟩ = some (.int .i64 12000) ∧ w'.cell? ⟨gb993, 3, none⟩ = some (.int .i64 0) ∧ w'.cell? ⟨gb993, 4, none⟩ = some (.bool false)) (ds := []) #[false, false, false, false, false, false, false, false] (by kernel_rfl) rfl rfl ⟨(blk_cell BK993.out 0).trans rfl, (blk_cell BK993.out 1).trans rfl, (blk_cell BK993.out 2).trans rfl, (blk_cell BK993.out 3).trans rfl, (blk_cell BK993.out 4).trans rfl⟩ (fun hHeld => ?_); refine with_tabW stipendlaw13_dues.tab8 stipendlaw13_dues.bits8 (fun HT_ HW_ => ?_)
                generalize w41.drew = w42 at HO997 HO1000 HO1003 HO1008 HO1011 BK993 BK994 HI991 HB hHeld ⊢; refine take_ (i := 1) (N := some 36) (v := ?_) (a' := ?_) #[false, true, false, false, false, false, false, false] rfl rfl (take_ofW HT_.out HW_.out (by kernel_rfl)) (fun _ _ _ h => h) (Or.inl ⟨by rfl, ?_⟩) hHeld ?_ ?_
                rotate_left
                ·rintro w' ⟨s0, s1, s2, s3, s4⟩
                 go_simp
                 with_reducible rfl
                rotate_left
                ·simp only [Act.put, List.setIfInBounds_toArray, List.set_cons_zero, List.set_cons_succ, i64_w, i32_w]
                 rfl
                refine one_ (i := 0) (N := some 35) #[true, true, false, false, false, false, false, false] rfl rfl (one_of HT_.out (by kernel_rfl)) (by decide) (fun K hK => ?_)
                refine goes_ Try.func129 (by kernel_rfl) rfl #[] (by rfl) rfl rfl (by (try simp only [List.map_toArray, List.map_cons, List.map_nil]); first | done | rfl | (simp only [List.length_drop, List.length_take]; rfl)) ?_
                with_reducible refine (stipendlaw13_simple.calls  t1022 t1025 t1028 t1031 t1032 _ A4.out).mono ?_
                rintro e w43 ⟨v1023, v1026, v1029, rfl, ho0, ho1, ho2, hb⟩; refine ⟨_, rfl, ?_⟩
                have HO1024 := A_ (Kd.N_lower (Kd.N_mono (ok' := fun k_ => some k_ ≠ (v1026 : Value).ownBlock ∧ some k_ ≠ (v1029 : Value).ownBlock ∧ some k_ ≠ (.slice Ao37 t995.length co37 : Value).ownBlock ∧ some k_ ≠ (.slice Ao38 t998.length co38 : Value).ownBlock ∧ some k_ ≠ (.slice Ao39 t1001.length co39 : Value).ownBlock ∧ some k_ ≠ (.slice Ao40 y1006.length co40 : Value).ownBlock ∧ some k_ ≠ (v1010 : Value).ownBlock ∧ k_ ≠ gb993 ∧ k_ ≠ gb994 ∧ k_ ≠ g991) ho0 (fun k_ hk_ => ⟨hk_.2.1, hk_.2.2, (Kd.fresh' (Kd.N_lt (by (with_reducible repeat (first | apply Kd.N_alloc | apply Kd.N_drewN | apply Kd.N_drew)); exact HO997.out)) k_ hk_.1), (Kd.fresh' (Kd.N_lt (by (with_reducible repeat (first | apply Kd.N_alloc | apply Kd.N_drewN | apply Kd.N_drew)); exact HO1000.out)) k_ hk_.1), (Kd.fresh' (Kd.R_lt (ro_ HO1003)) k_ hk_.1), (Kd.fresh' (Kd.R_lt (ro_ HO1008)) k_ hk_.1), (Kd.fresh' (Kd.R_lt (ro_ HO1011)) k_ hk_.1), (Kd.freshB (g := gb993) (o := .cells #[.int .i64 0, .int .i64 1, .int .i64 12000, .int .i64 0, .bool false] 88 (0, 0)) (bx_ BK993) k_ hk_.1), (Kd.freshB (g := gb994) (o := .cells #[.int .i64 0, .int .i64 1, .int .i64 12000, .int .i64 0, .bool true] 88 (0, 0)) (bx_ BK994) k_ hk_.1), (IsS180.fresh (is2_ HI991 NB991_993.out NB991_994.out) k_ hk_.1)⟩)) (below_size (bl3_ HB (IsS180.ge HI991.out) GE993.out GE994.out))); have HO1027 := A_ (Kd.N_lower (Kd.N_mono (ok' := fun k_ => some k_ ≠ (v1023 : Value).ownBlock ∧ some k_ ≠ (v1029 : Value).ownBlock ∧ some k_ ≠ (.slice Ao37 t995.length co37 : Value).ownBlock ∧ some k_ ≠ (.slice Ao38 t998.length co38 : Value).ownBlock ∧ some k_ ≠ (.slice Ao39 t1001.length co39 : Value).ownBlock ∧ some k_ ≠ (.slice Ao40 y1006.length co40 : Value).ownBlock ∧ some k_ ≠ (v1010 : Value).ownBlock ∧ k_ ≠ gb993 ∧ k_ ≠ gb994 ∧ k_ ≠ g991) ho1 (fun k_ hk_ => ⟨hk_.2.1, hk_.2.2, (Kd.fresh' (Kd.N_lt (by (with_reducible repeat (first | apply Kd.N_alloc | apply Kd.N_drewN | apply Kd.N_drew)); exact HO997.out)) k_ hk_.1), (Kd.fresh' (Kd.N_lt (by (with_reducible repeat (first | apply Kd.N_alloc | apply Kd.N_drewN | apply Kd.N_drew)); exact HO1000.out)) k_ hk_.1), (Kd.fresh' (Kd.R_lt (ro_ HO1003)) k_ hk_.1), (Kd.fresh' (Kd.R_lt (ro_ HO1008)) k_ hk_.1), (Kd.fresh' (Kd.R_lt (ro_ HO1011)) k_ hk_.1), (Kd.freshB (g := gb993) (o := .cells #[.int .i64 0, .int .i64 1, .int .i64 12000, .int .i64 0, .bool false] 88 (0, 0)) (bx_ BK993) k_ hk_.1), (Kd.freshB (g := gb994) (o := .cells #[.int .i64 0, .int .i64 1, .int .i64 12000, .int .i64 0, .bool true] 88 (0, 0)) (bx_ BK994) k_ hk_.1), (IsS180.fresh (is2_ HI991 NB991_993.out NB991_994.out) k_ hk_.1)⟩)) (below_size (bl3_ HB (IsS180.ge HI991.out) GE993.out GE994.out))); have HO1030 := A_ (Kd.R_lower (Kd.R_new' (Kd.R_mono (ok' := fun k_ => True) ho2 (fun _ hk_ => trivial)) (Kd.R_lt (ro_ HO1003))) (below_size (bl3_ HB (IsS180.ge HI991.out) GE993.out GE994.out))); replace HO997 := A_ (Kd.N_mono (Kd.N_told (Kd.N_told (Kd.N_told (Kd.N_old (by (with_reducible repeat (first | apply Kd.N_alloc | apply Kd.N_drewN | apply Kd.N_drew)); exact HO997.out) hb) (Kd.N_base ho0)) (Kd.N_base ho1)) (Kd.R_base ho2)) (fun _ h_ => h_.1)); replace HO1000 := A_ (Kd.N_mono (Kd.N_told (Kd.N_told (Kd.N_told (Kd.N_old (by (with_reducible repeat (first | apply Kd.N_alloc | apply Kd.N_drewN | apply Kd.N_drew)); exact HO1000.out) hb) (Kd.N_base ho0)) (Kd.N_base ho1)) (Kd.R_base ho2)) (fun _ h_ => h_.1)); replace HO1003 := A_ (Kd.R_elder' (ro_ HO1003) (Kd.R_base ho2) hb); replace HO1008 := A_ (Kd.R_below (ro_ HO1008) hb); replace HO1011 := A_ (Kd.R_below (ro_ HO1011) hb); replace BK993 := A_ (blk_below (bx_ BK993) hb); replace BK994 := A_ (blk_below (bx_ BK994) hb); replace HB := A_ (below_step (bl3_ HB (IsS180.ge HI991.out) GE993.out GE994.out) hb); replace HI991 := A_ (IsS180.below (is2_ HI991 NB991_993.out NB991_994.out) hb)
                (try clear hb)
                (try clear hb2)
                (try clear hk)
                (try clear hi)
                (try clear ho0)
                (try clear ho1)
                (try clear ho2)
                obtain ⟨Ao44, co44, eo44⟩ := Kd.N_slice HO1024.out
                (first | subst eo44 | (injection eo44 with f1_ f2_ f3_; have f4_ := f1_.symm; have f5_ := f3_.symm; clear f1_ f2_ f3_; subst f4_; subst f5_))
                obtain ⟨Ao45, co45, eo45⟩ := Kd.N_slice HO1027.out
                (first | subst eo45 | (injection eo45 with f1_ f2_ f3_; have f4_ := f1_.symm; have f5_ := f3_.symm; clear f1_ f2_ f3_; subst f4_; subst f5_))
                obtain ⟨Ao46, co46, eo46⟩ := Kd.R_slice HO1030.out
                (first | subst eo46 | (injection eo46 with f1_ f2_ f3_; have f4_ := f1_.symm; have f5_ := f3_.symm; clear f1_ f2_ f3_; subst f4_; subst f5_))
                refine hK.out _ _ ⟨(blk_cell BK993.out 0).trans rfl, (blk_cell BK993.out 1).trans rfl, (blk_cell BK993.out 2).trans rfl, (blk_cell BK993.out 3).trans rfl, (blk_cell BK993.out 4).trans rfl⟩ (fun hHeld => ?_)
                clear hK K; refine norm_ (a' := ?_) ?_ ?_
                rotate_left
                ·show Act.put _ (some 35) _ = _
                 simp only [Act.put, List.setIfInBounds_toArray, List.set_cons_zero, List.set_cons_succ, i64_w, i32_w]
                 rfl
                refine one_ (i := 2) (N := some 37) #[true, true, true, false, false, false, false, false] rfl rfl (one_of HT_.out (by kernel_rfl)) (by decide) (fun K hK => ?_)
                refine goes_ Try.func85 (by kernel_rfl) rfl #[.agg #[.slice Ao44 t1022.length co44, .slice Ao45 t1025.length co45, .slice Ao46 t1028.length co46, .int .i64 t1031, .int .i64 t1032], .agg #[.int .i64 0, .int .i64 1, .int .i64 12000, .int .i64 0, .bool false], .int .i64 11000, .int .i64 1, .int .i64 12] (by rfl) rfl rfl (by (try simp only [List.map_toArray, List.map_cons, List.map_nil]); first | done | rfl | (simp only [List.length_drop, List.length_take]; rfl)) ?_
                with_reducible refine (tax_Rate.calls k _ _ t1022 _ _ t1025 _ _ t1028 t1031 t1032 0 1 12000 0 false 11000 1 12 t1033 t1034 _ ?side1 ?side2 ?side3 ?side4 ?side5 ?side6 A5.out).mono ?_
                (case side1 => repeat (first | exact (Kd.N_reads' HO1024.out).2.2 | (with_reducible refine Kd.C_alloc ?_ _) | (with_reducible refine Kd.C_drewN ?_ _) | (with_reducible refine Kd.C_drew ?_)))
                (case side2 => exact (Kd.N_reads' HO1024.out).2.1)
                (case side3 => repeat (first | exact (Kd.N_reads' HO1027.out).2.2 | (with_reducible refine Kd.C_alloc ?_ _) | (with_reducible refine Kd.C_drewN ?_ _) | (with_reducible refine Kd.C_drew ?_)))
                (case side4 => exact (Kd.N_reads' HO1027.out).2.1)
                (case side5 => repeat (first | exact (Kd.R_reads' HO1030.out).2.2 | (with_reducible refine Kd.C_alloc ?_ _) | (with_reducible refine Kd.C_drewN ?_ _) | (with_reducible refine Kd.C_drew ?_)))
                (case side6 => exact (Kd.R_reads' HO1030.out).2.1)
                rintro e w47 ⟨rfl, hb⟩; refine ⟨_, rfl, ?_⟩
                replace HO997 := A_ (Kd.N_below (by (with_reducible repeat (first | apply Kd.N_alloc | apply Kd.N_drewN | apply Kd.N_drew)); exact HO997.out) hb); replace HO1000 := A_ (Kd.N_below (by (with_reducible repeat (first | apply Kd.N_alloc | apply Kd.N_drewN | apply Kd.N_drew)); exact HO1000.out) hb); replace HO1003 := A_ (Kd.R_below (ro_ HO1003) hb); replace HO1008 := A_ (Kd.R_below (ro_ HO1008) hb); replace HO1011 := A_ (Kd.R_below (ro_ HO1011) hb); replace HO1024 := A_ (Kd.N_below (by (with_reducible repeat (first | apply Kd.N_alloc | apply Kd.N_drewN | apply Kd.N_drew)); exact HO1024.out) hb); replace HO1027 := A_ (Kd.N_below (by (with_reducible repeat (first | apply Kd.N_alloc | apply Kd.N_drewN | apply Kd.N_drew)); exact HO1027.out) hb); replace HO1030 := A_ (Kd.R_below (ro_ HO1030) hb); replace BK993 := A_ (blk_below (bx_ BK993) hb); replace BK994 := A_ (blk_below (bx_ BK994) hb); replace HB := A_ (below_step (bl3_ HB (IsS180.ge HI991.out) GE993.out GE994.out) hb); replace HI991 := A_ (IsS180.below (is2_ HI991 NB991_993.out NB991_994.out) hb)
                (try clear hb)
                (try clear hb2)
                (try clear hk)
                (try clear hi)
                refine hK.out _ _ ⟨(blk_cell BK993.out 0).trans rfl, (blk_cell BK993.out 1).trans rfl, (blk_cell BK993.out 2).trans rfl, (blk_cell BK993.out 3).trans rfl, (blk_cell BK993.out 4).trans rfl⟩ (fun hHeld => ?_)
                clear hK K; refine norm_ (a' := ?_) ?_ ?_
                rotate_left
                ·show Act.put _ (some 37) _ = _
                 simp only [Act.put, List.setIfInBounds_toArray, List.set_cons_zero, List.set_cons_succ, i64_w, i32_w]
                 rfl
                refine pure_ (i := 3) (N := some 34) (v := ?_) (a' := ?_) #[true, true, true, true, false, false, false, false] rfl rfl (any_of HT_.out (by kernel_rfl)) (fun _ _ _ h => h) (Or.inl ⟨by rfl, ?_⟩) ?_ ?_
                rotate_left
                ·intro w'
                 go_simp
                 with_reducible rfl
                rotate_left
                ·simp only [Act.put, List.setIfInBounds_toArray, List.set_cons_zero, List.set_cons_succ, i64_w, i32_w]
                 rfl
                refine pure_ (i := 4) (N := some 38) (v := ?_) (a' := ?_) #[true, true, true, true, true, false, false, false] rfl rfl (any_of HT_.out (by kernel_rfl)) (fun _ _ _ h => h) (Or.inl ⟨by rfl, ?_⟩) ?_ ?_
                rotate_left
                ·intro w'
                 go_simp
                 with_reducible rfl
                rotate_left
                ·simp only [Act.put, List.setIfInBounds_toArray, List.set_cons_zero, List.set_cons_succ, i64_w, i32_w]
                 rfl
                refine pure_ (i := 5) (N := some 39) (v := ?_) (a' := ?_) #[true, true, true, true, true, true, false, false] rfl rfl (any_of HT_.out (by kernel_rfl)) (fun _ _ _ h => h) (Or.inl ⟨by rfl, ?_⟩) ?_ ?_
                rotate_left
                ·intro w'
                 go_simp
                 with_reducible rfl
                rotate_left
                ·simp only [Act.put, List.setIfInBounds_toArray, List.set_cons_zero, List.set_cons_succ, i64_w, i32_w]
                 rfl
                refine pure_ (i := 6) (N := some 7) (v := ?_) (a' := ?_) #[true, true, true, true, true, true, true, false] rfl rfl (any_of HT_.out (by kernel_rfl)) (fun _ _ _ h => h) (Or.inl ⟨by rfl, ?_⟩) ?_ ?_
                rotate_left
                ·intro w'
                 go_simp
                 with_reducible rfl
                rotate_left
                ·simp only [Act.put, List.setIfInBounds_toArray, List.set_cons_zero, List.set_cons_succ, i64_w, i32_w]
                 rfl
                refine pure_ (i := 7) (N := some 8) (v := ?_) (a' := ?_) #[true, true, true, true, true, true, true, true] rfl rfl (any_of HT_.out (by kernel_rfl)) (fun _ _ _ h => h) (Or.inl ⟨by rfl, ?_⟩) ?_ ?_
                rotate_left
                ·intro w'
                 go_simp
                 with_reducible rfl
                rotate_left
                ·simp only [Act.put, List.setIfInBounds_toArray, List.set_cons_zero, List.set_cons_succ, i64_w, i32_w]
                 rfl
                refine done_ (done_of HT_.out (by kernel_rfl)) ?_
                try go_wp2
                replace HO997 := A_ (Kd.N_drew HO997.out); replace HO1000 := A_ (Kd.N_drew HO1000.out); replace HO1003 := A_ (Kd.R_drew HO1003.out); replace HO1008 := A_ (Kd.R_drew HO1008.out); replace HO1011 := A_ (Kd.R_drew HO1011.out); replace HO1024 := A_ (Kd.N_drew HO1024.out); replace HO1027 := A_ (Kd.N_drew HO1027.out); replace HO1030 := A_ (Kd.R_drew HO1030.out); replace BK993 := A_ (blk_drew BK993.out); replace BK994 := A_ (blk_drew BK994.out); replace HI991 := A_ (IsS180.drew HI991.out); replace HB := A_ (below_drew1 HB.out); refine start_ (n := 8) (S := fun w' => w'.cell? ⟨gb993, 0, none⟩ = some (.int .i64 0) ∧ w'.cell? ⟨gb993, 1, none⟩ = some (.int .i64 1) ∧ w'.cell? ⟨gb993, 2, none⟩ = some (.int .i64 12000) ∧ w'.cell? ⟨gb993, 3, none⟩ = some (.int .i64 0) ∧ w'.cell? ⟨gb993, 4, none⟩ = some (.bool false)) (ds := []) #[false, false, false, false, false, false, false, false] (by kernel_rfl) rfl rfl ⟨(blk_cell BK993.out 0).trans rfl, (blk_cell BK993.out 1).trans rfl, (blk_cell BK993.out 2).trans rfl, (blk_cell BK993.out 3).trans rfl, (blk_cell BK993.out 4).trans rfl⟩ (fun hHeld => ?_); refine with_tabW stipendlaw13_dues.tab9 stipendlaw13_dues.bits9 (fun HT_ HW_ => ?_)
                generalize w47.drew = w48 at HO997 HO1000 HO1003 HO1008 HO1011 HO1024 HO1027 HO1030 BK993 BK994 HI991 HB hHeld ⊢; refine take_ (i := 1) (N := some 42) (v := ?_) (a' := ?_) #[false, true, false, false, false, false, false, false] rfl rfl (take_ofW HT_.out HW_.out (by kernel_rfl)) (fun _ _ _ h => h) (Or.inl ⟨by rfl, ?_⟩) hHeld ?_ ?_
                rotate_left
                ·rintro w' ⟨s0, s1, s2, s3, s4⟩
                 go_simp
                 with_reducible rfl
                rotate_left
                ·simp only [Act.put, List.setIfInBounds_toArray, List.set_cons_zero, List.set_cons_succ, i64_w, i32_w]
                 rfl
                refine one_ (i := 0) (N := some 41) #[true, true, false, false, false, false, false, false] rfl rfl (one_of HT_.out (by kernel_rfl)) (by decide) (fun K hK => ?_)
                refine goes_ Try.func129 (by kernel_rfl) rfl #[] (by rfl) rfl rfl (by (try simp only [List.map_toArray, List.map_cons, List.map_nil]); first | done | rfl | (simp only [List.length_drop, List.length_take]; rfl)) ?_
                with_reducible refine (stipendlaw13_simple.calls  t1035 t1038 t1041 t1044 t1045 _ A6.out).mono ?_
                rintro e w49 ⟨v1036, v1039, v1042, rfl, ho0, ho1, ho2, hb⟩; refine ⟨_, rfl, ?_⟩
                have HO1037 := A_ (Kd.N_lower (Kd.N_mono (ok' := fun k_ => some k_ ≠ (v1039 : Value).ownBlock ∧ some k_ ≠ (v1042 : Value).ownBlock ∧ some k_ ≠ (.slice Ao37 t995.length co37 : Value).ownBlock ∧ some k_ ≠ (.slice Ao38 t998.length co38 : Value).ownBlock ∧ some k_ ≠ (.slice Ao39 t1001.length co39 : Value).ownBlock ∧ some k_ ≠ (.slice Ao40 y1006.length co40 : Value).ownBlock ∧ some k_ ≠ (v1010 : Value).ownBlock ∧ some k_ ≠ (.slice Ao44 t1022.length co44 : Value).ownBlock ∧ some k_ ≠ (.slice Ao45 t1025.length co45 : Value).ownBlock ∧ some k_ ≠ (.slice Ao46 t1028.length co46 : Value).ownBlock ∧ k_ ≠ gb993 ∧ k_ ≠ gb994 ∧ k_ ≠ g991) ho0 (fun k_ hk_ => ⟨hk_.2.1, hk_.2.2, (Kd.fresh' (Kd.N_lt (by (with_reducible repeat (first | apply Kd.N_alloc | apply Kd.N_drewN | apply Kd.N_drew)); exact HO997.out)) k_ hk_.1), (Kd.fresh' (Kd.N_lt (by (with_reducible repeat (first | apply Kd.N_alloc | apply Kd.N_drewN | apply Kd.N_drew)); exact HO1000.out)) k_ hk_.1), (Kd.fresh' (Kd.R_lt (ro_ HO1003)) k_ hk_.1), (Kd.fresh' (Kd.R_lt (ro_ HO1008)) k_ hk_.1), (Kd.fresh' (Kd.R_lt (ro_ HO1011)) k_ hk_.1), (Kd.fresh' (Kd.N_lt (by (with_reducible repeat (first | apply Kd.N_alloc | apply Kd.N_drewN | apply Kd.N_drew)); exact HO1024.out)) k_ hk_.1), (Kd.fresh' (Kd.N_lt (by (with_reducible repeat (first | apply Kd.N_alloc | apply Kd.N_drewN | apply Kd.N_drew)); exact HO1027.out)) k_ hk_.1), (Kd.fresh' (Kd.R_lt (ro_ HO1030)) k_ hk_.1), (Kd.freshB (g := gb993) (o := .cells #[.int .i64 0, .int .i64 1, .int .i64 12000, .int .i64 0, .bool false] 88 (0, 0)) (bx_ BK993) k_ hk_.1), (Kd.freshB (g := gb994) (o := .cells #[.int .i64 0, .int .i64 1, .int .i64 12000, .int .i64 0, .bool true] 88 (0, 0)) (bx_ BK994) k_ hk_.1), (IsS180.fresh (is2_ HI991 NB991_993.out NB991_994.out) k_ hk_.1)⟩)) (below_size (bl3_ HB (IsS180.ge HI991.out) GE993.out GE994.out))); have HO1040 := A_ (Kd.N_lower (Kd.N_mono (ok' := fun k_ => some k_ ≠ (v1036 : Value).ownBlock ∧ some k_ ≠ (v1042 : Value).ownBlock ∧ some k_ ≠ (.slice Ao37 t995.length co37 : Value).ownBlock ∧ some k_ ≠ (.slice Ao38 t998.length co38 : Value).ownBlock ∧ some k_ ≠ (.slice Ao39 t1001.length co39 : Value).ownBlock ∧ some k_ ≠ (.slice Ao40 y1006.length co40 : Value).ownBlock ∧ some k_ ≠ (v1010 : Value).ownBlock ∧ some k_ ≠ (.slice Ao44 t1022.length co44 : Value).ownBlock ∧ some k_ ≠ (.slice Ao45 t1025.length co45 : Value).ownBlock ∧ some k_ ≠ (.slice Ao46 t1028.length co46 : Value).ownBlock ∧ k_ ≠ gb993 ∧ k_ ≠ gb994 ∧ k_ ≠ g991) ho1 (fun k_ hk_ => ⟨hk_.2.1, hk_.2.2, (Kd.fresh' (Kd.N_lt (by (with_reducible repeat (first | apply Kd.N_alloc | apply Kd.N_drewN | apply Kd.N_drew)); exact HO997.out)) k_ hk_.1), (Kd.fresh' (Kd.N_lt (by (with_reducible repeat (first | apply Kd.N_alloc | apply Kd.N_drewN | apply Kd.N_drew)); exact HO1000.out)) k_ hk_.1), (Kd.fresh' (Kd.R_lt (ro_ HO1003)) k_ hk_.1), (Kd.fresh' (Kd.R_lt (ro_ HO1008)) k_ hk_.1), (Kd.fresh' (Kd.R_lt (ro_ HO1011)) k_ hk_.1), (Kd.fresh' (Kd.N_lt (by (with_reducible repeat (first | apply Kd.N_alloc | apply Kd.N_drewN | apply Kd.N_drew)); exact HO1024.out)) k_ hk_.1), (Kd.fresh' (Kd.N_lt (by (with_reducible repeat (first | apply Kd.N_alloc | apply Kd.N_drewN | apply Kd.N_drew)); exact HO1027.out)) k_ hk_.1), (Kd.fresh' (Kd.R_lt (ro_ HO1030)) k_ hk_.1), (Kd.freshB (g := gb993) (o := .cells #[.int .i64 0, .int .i64 1, .int .i64 12000, .int .i64 0, .bool false] 88 (0, 0)) (bx_ BK993) k_ hk_.1), (Kd.freshB (g := gb994) (o := .cells #[.int .i64 0, .int .i64 1, .int .i64 12000, .int .i64 0, .bool true] 88 (0, 0)) (bx_ BK994) k_ hk_.1), (IsS180.fresh (is2_ HI991 NB991_993.out NB991_994.out) k_ hk_.1)⟩)) (below_size (bl3_ HB (IsS180.ge HI991.out) GE993.out GE994.out))); have HO1043 := A_ (Kd.R_lower (Kd.R_new' (Kd.R_new' (Kd.R_mono (ok' := fun k_ => True) ho2 (fun _ hk_ => trivial)) (Kd.R_lt (ro_ HO1003))) (Kd.R_lt (ro_ HO1030))) (below_size (bl3_ HB (IsS180.ge HI991.out) GE993.out GE994.out))); replace HO997 := A_ (Kd.N_mono (Kd.N_told (Kd.N_told (Kd.N_told (Kd.N_old (by (with_reducible repeat (first | apply Kd.N_alloc | apply Kd.N_drewN | apply Kd.N_drew)); exact HO997.out) hb) (Kd.N_base ho0)) (Kd.N_base ho1)) (Kd.R_base ho2)) (fun _ h_ => h_.1))
                replace HO1000 := A_ (Kd.N_mono (Kd.N_told (Kd.N_told (Kd.N_told (Kd.N_old (by (with_reducible repeat (first | apply Kd.N_alloc | apply Kd.N_drewN | apply Kd.N_drew)); exact HO1000.out) hb) (Kd.N_base ho0)) (Kd.N_base ho1)) (Kd.R_base ho2)) (fun _ h_ => h_.1)); replace HO1003 := A_ (Kd.R_elder' (ro_ HO1003) (Kd.R_base ho2) hb); replace HO1008 := A_ (Kd.R_below (ro_ HO1008) hb); replace HO1011 := A_ (Kd.R_below (ro_ HO1011) hb); replace HO1024 := A_ (Kd.N_mono (Kd.N_told (Kd.N_told (Kd.N_told (Kd.N_old (by (with_reducible repeat (first | apply Kd.N_alloc | apply Kd.N_drewN | apply Kd.N_drew)); exact HO1024.out) hb) (Kd.N_base ho0)) (Kd.N_base ho1)) (Kd.R_base ho2)) (fun _ h_ => h_.1)); replace HO1027 := A_ (Kd.N_mono (Kd.N_told (Kd.N_told (Kd.N_told (Kd.N_old (by (with_reducible repeat (first | apply Kd.N_alloc | apply Kd.N_drewN | apply Kd.N_drew)); exact HO1027.out) hb) (Kd.N_base ho0)) (Kd.N_base ho1)) (Kd.R_base ho2)) (fun _ h_ => h_.1)); replace HO1030 := A_ (Kd.R_elder' (ro_ HO1030) (Kd.R_base ho2) hb); replace BK993 := A_ (blk_below (bx_ BK993) hb); replace BK994 := A_ (blk_below (bx_ BK994) hb); replace HB := A_ (below_step (bl3_ HB (IsS180.ge HI991.out) GE993.out GE994.out) hb); replace HI991 := A_ (IsS180.below (is2_ HI991 NB991_993.out NB991_994.out) hb)
                (try clear hb)
                (try clear hb2)
                (try clear hk)
                (try clear hi)
                (try clear ho0)
                (try clear ho1)
                (try clear ho2)
                obtain ⟨Ao50, co50, eo50⟩ := Kd.N_slice HO1037.out
                (first | subst eo50 | (injection eo50 with f1_ f2_ f3_; have f4_ := f1_.symm; have f5_ := f3_.symm; clear f1_ f2_ f3_; subst f4_; subst f5_))
                obtain ⟨Ao51, co51, eo51⟩ := Kd.N_slice HO1040.out
                (first | subst eo51 | (injection eo51 with f1_ f2_ f3_; have f4_ := f1_.symm; have f5_ := f3_.symm; clear f1_ f2_ f3_; subst f4_; subst f5_))
                obtain ⟨Ao52, co52, eo52⟩ := Kd.R_slice HO1043.out
                (first | subst eo52 | (injection eo52 with f1_ f2_ f3_; have f4_ := f1_.symm; have f5_ := f3_.symm; clear f1_ f2_ f3_; subst f4_; subst f5_))
                refine hK.out _ _ ⟨(blk_cell BK993.out 0).trans rfl, (blk_cell BK993.out 1).trans rfl, (blk_cell BK993.out 2).trans rfl, (blk_cell BK993.out 3).trans rfl, (blk_cell BK993.out 4).trans rfl⟩ (fun hHeld => ?_)
                clear hK K; refine norm_ (a' := ?_) ?_ ?_
                rotate_left
                ·show Act.put _ (some 41) _ = _
                 simp only [Act.put, List.setIfInBounds_toArray, List.set_cons_zero, List.set_cons_succ, i64_w, i32_w]
                 rfl
                refine one_ (i := 2) (N := some 43) #[true, true, true, false, false, false, false, false] rfl rfl (one_of HT_.out (by kernel_rfl)) (by decide) (fun K hK => ?_)
                refine goes_ Try.func84 (by kernel_rfl) rfl #[.agg #[.slice Ao50 t1035.length co50, .slice Ao51 t1038.length co51, .slice Ao52 t1041.length co52, .int .i64 t1044, .int .i64 t1045], .agg #[.int .i64 0, .int .i64 1, .int .i64 12000, .int .i64 0, .bool false], .int .i64 1, .int .i64 12] (by rfl) rfl rfl (by (try simp only [List.map_toArray, List.map_cons, List.map_nil]); first | done | rfl | (simp only [List.length_drop, List.length_take]; rfl)) ?_
                with_reducible refine (tax_Corners.calls k _ _ t1035 _ _ t1038 _ _ t1041 t1044 t1045 0 1 12000 0 false 1 12 t1046 t1049 _ ?side1 ?side2 ?side3 ?side4 ?side5 ?side6 A7.out).mono ?_
                (case side1 => repeat (first | exact (Kd.N_reads' HO1037.out).2.2 | (with_reducible refine Kd.C_alloc ?_ _) | (with_reducible refine Kd.C_drewN ?_ _) | (with_reducible refine Kd.C_drew ?_)))
                (case side2 => exact (Kd.N_reads' HO1037.out).2.1)
                (case side3 => repeat (first | exact (Kd.N_reads' HO1040.out).2.2 | (with_reducible refine Kd.C_alloc ?_ _) | (with_reducible refine Kd.C_drewN ?_ _) | (with_reducible refine Kd.C_drew ?_)))
                (case side4 => exact (Kd.N_reads' HO1040.out).2.1)
                (case side5 => repeat (first | exact (Kd.R_reads' HO1043.out).2.2 | (with_reducible refine Kd.C_alloc ?_ _) | (with_reducible refine Kd.C_drewN ?_ _) | (with_reducible refine Kd.C_drew ?_)))
                (case side6 => exact (Kd.R_reads' HO1043.out).2.1)
                rintro e w53 ⟨v1047, rfl, ho0, hb⟩; refine ⟨_, rfl, ?_⟩
                have HO1048 := A_ (Kd.R_lower (Kd.R_new' ho0 (Kd.R_lt (ro_ HO1011))) (below_size (bl3_ HB (IsS180.ge HI991.out) GE993.out GE994.out))); replace HO997 := A_ (Kd.N_elder' (by (with_reducible repeat (first | apply Kd.N_alloc | apply Kd.N_drewN | apply Kd.N_drew)); exact HO997.out) (Kd.R_base ho0) hb); replace HO1000 := A_ (Kd.N_elder' (by (with_reducible repeat (first | apply Kd.N_alloc | apply Kd.N_drewN | apply Kd.N_drew)); exact HO1000.out) (Kd.R_base ho0) hb); replace HO1003 := A_ (Kd.R_below (ro_ HO1003) hb); replace HO1008 := A_ (Kd.R_below (ro_ HO1008) hb); replace HO1011 := A_ (Kd.R_elder' (ro_ HO1011) (Kd.R_base ho0) hb); replace HO1024 := A_ (Kd.N_elder' (by (with_reducible repeat (first | apply Kd.N_alloc | apply Kd.N_drewN | apply Kd.N_drew)); exact HO1024.out) (Kd.R_base ho0) hb); replace HO1027 := A_ (Kd.N_elder' (by (with_reducible repeat (first | apply Kd.N_alloc | apply Kd.N_drewN | apply Kd.N_drew)); exact HO1027.out) (Kd.R_base ho0) hb); replace HO1030 := A_ (Kd.R_below (ro_ HO1030) hb); replace HO1037 := A_ (Kd.N_elder' (by (with_reducible repeat (first | apply Kd.N_alloc | apply Kd.N_drewN | apply Kd.N_drew)); exact HO1037.out) (Kd.R_base ho0) hb); replace HO1040 := A_ (Kd.N_elder' (by (with_reducible repeat (first | apply Kd.N_alloc | apply Kd.N_drewN | apply Kd.N_drew)); exact HO1040.out) (Kd.R_base ho0) hb); replace HO1043 := A_ (Kd.R_below (ro_ HO1043) hb); replace BK993 := A_ (blk_below (bx_ BK993) hb); replace BK994 := A_ (blk_below (bx_ BK994) hb); replace HB := A_ (below_step (bl3_ HB (IsS180.ge HI991.out) GE993.out GE994.out) hb); replace HI991 := A_ (IsS180.below (is2_ HI991 NB991_993.out NB991_994.out) hb)
                (try clear hb)
                (try clear hb2)
                (try clear hk)
                (try clear hi)
                (try clear ho0)
                refine hK.out _ _ ⟨(blk_cell BK993.out 0).trans rfl, (blk_cell BK993.out 1).trans rfl, (blk_cell BK993.out 2).trans rfl, (blk_cell BK993.out 3).trans rfl, (blk_cell BK993.out 4).trans rfl⟩ (fun hHeld => ?_)
                clear hK K; refine norm_ (a' := ?_) ?_ ?_
                rotate_left
                ·show Act.put _ (some 43) _ = _
                 simp only [Act.put, List.setIfInBounds_toArray, List.set_cons_zero, List.set_cons_succ, i64_w, i32_w]
                 rfl
                refine pure_ (i := 3) (N := some 40) (v := ?_) (a' := ?_) #[true, true, true, true, false, false, false, false] rfl rfl (any_of HT_.out (by kernel_rfl)) (fun _ _ _ h => h) (Or.inl ⟨by rfl, ?_⟩) ?_ ?_
                rotate_left
                ·intro w'
                 go_simp
                 with_reducible rfl
                rotate_left
                ·simp only [Act.put, List.setIfInBounds_toArray, List.set_cons_zero, List.set_cons_succ, i64_w, i32_w]
                 rfl
                refine pure_ (i := 4) (N := some 44) (v := ?_) (a' := ?_) #[true, true, true, true, true, false, false, false] rfl rfl (any_of HT_.out (by kernel_rfl)) (fun _ _ _ h => h) (Or.inl ⟨by rfl, ?_⟩) ?_ ?_
                rotate_left
                ·intro w'
                 go_simp
                 with_reducible rfl
                rotate_left
                ·simp only [Act.put, List.setIfInBounds_toArray, List.set_cons_zero, List.set_cons_succ, i64_w, i32_w]
                 rfl
                refine pure_ (i := 5) (N := some 45) (v := ?_) (a' := ?_) #[true, true, true, true, true, true, false, false] rfl rfl (any_of HT_.out (by kernel_rfl)) (fun _ _ _ h => h) (Or.inl ⟨by rfl, ?_⟩) ?_ ?_
                rotate_left
                ·intro w'
                 go_simp
                 with_reducible rfl
                rotate_left
                ·simp only [Act.put, List.setIfInBounds_toArray, List.set_cons_zero, List.set_cons_succ, i64_w, i32_w]
                 rfl
                refine pure_ (i := 6) (N := some 9) (v := ?_) (a' := ?_) #[true, true, true, true, true, true, true, false] rfl rfl (any_of HT_.out (by kernel_rfl)) (fun _ _ _ h => h) (Or.inl ⟨by rfl, ?_⟩) ?_ ?_
                rotate_left
                ·intro w'
                 go_simp
                 with_reducible rfl
                rotate_left
                ·simp only [Act.put, List.setIfInBounds_toArray, List.set_cons_zero, List.set_cons_succ, i64_w, i32_w]
                 rfl
                refine pure_ (i := 7) (N := some 10) (v := ?_) (a' := ?_) #[true, true, true, true, true, true, true, true] rfl rfl (any_of HT_.out (by kernel_rfl)) (fun _ _ _ h => h) (Or.inl ⟨by rfl, ?_⟩) ?_ ?_
                rotate_left
                ·intro w'
                 go_simp
                 with_reducible rfl
                rotate_left
                ·simp only [Act.put, List.setIfInBounds_toArray, List.set_cons_zero, List.set_cons_succ, i64_w, i32_w]
                 rfl
                refine done_ (done_of HT_.out (by kernel_rfl)) ?_
                obtain ⟨Ao54, co54, eo54⟩ := Kd.R_slice HO1011.out; subst eo54; have p1050 : 0 ≤ (0 : Int) := (by omega); have q1050 : 0 < (t1009.length : Int) := od_; obtain ⟨ad1050, e1050, hx1050_0⟩ := Kd.at_int (Kd.R_reads' HO1011.out).2.2 0 p1050 q1050; cases e1050; have qi1050 : (0 < t1009.length) = True := eq_true (by omega)
                (try rw [show ((0 : Int)).toNat = 0 from rfl] at hx1050_0)
                (try rw [Addr.add_zero'] at hx1050_0)
                replace p1050 := eq_true p1050; replace q1050 := eq_true q1050; have p1051 : 0 ≤ (1 : Int) := (by omega); have q1051 : 1 < (t1009.length : Int) := od_; obtain ⟨ad1051, e1051, hx1051_0⟩ := Kd.at_int (Kd.R_reads' HO1011.out).2.2 1 p1051 q1051; obtain rfl : ad1050 = ad1051 := (by injection e1051)
                (try simp only [show (1 : Int).toNat = 1 from rfl, Nat.reduceMul, Nat.reduceEqDiff, Go.Addr.add, ↓reduceIte] at hx1051_0)
                have qi1051 : (1 < t1009.length) = True := eq_true (by omega)
                (try rw [show ((1 : Int)).toNat = 1 from rfl] at hx1051_0)
                replace p1051 := eq_true p1051; replace q1051 := eq_true q1051; have p1052 : 0 ≤ (2 : Int) := (by omega); have q1052 : 2 < (t1009.length : Int) := od_; obtain ⟨ad1052, e1052, hx1052_0⟩ := Kd.at_int (Kd.R_reads' HO1011.out).2.2 2 p1052 q1052; obtain rfl : ad1050 = ad1052 := (by injection e1052)
                (try simp only [show (2 : Int).toNat = 2 from rfl, Nat.reduceMul, Nat.reduceEqDiff, Go.Addr.add, ↓reduceIte] at hx1052_0)
                have qi1052 : (2 < t1009.length) = True := eq_true (by omega)
                (try rw [show ((2 : Int)).toNat = 2 from rfl] at hx1052_0)
                replace p1052 := eq_true p1052; replace q1052 := eq_true q1052; obtain ⟨Ao55, co55, eo55⟩ := Kd.R_slice HO1048.out; subst eo55; have p1053 : 0 ≤ (0 : Int) := (by omega); have q1053 : 0 < (t1046.length : Int) := od_; obtain ⟨ad1053, e1053, hx1053_0⟩ := Kd.at_int (Kd.R_reads' HO1048.out).2.2 0 p1053 q1053; cases e1053; have qi1053 : (0 < t1046.length) = True := eq_true (by omega)
                (try rw [show ((0 : Int)).toNat = 0 from rfl] at hx1053_0)
                (try rw [Addr.add_zero'] at hx1053_0)
                replace p1053 := eq_true p1053; replace q1053 := eq_true q1053; have p1054 : 0 ≤ (1 : Int) := (by omega); have q1054 : 1 < (t1046.length : Int) := od_; obtain ⟨ad1054, e1054, hx1054_0⟩ := Kd.at_int (Kd.R_reads' HO1048.out).2.2 1 p1054 q1054; obtain rfl : ad1053 = ad1054 := (by injection e1054)
                (try simp only [show (1 : Int).toNat = 1 from rfl, Nat.reduceMul, Nat.reduceEqDiff, Go.Addr.add, ↓reduceIte] at hx1054_0)
                have qi1054 : (1 < t1046.length) = True := eq_true (by omega)
                (try rw [show ((1 : Int)).toNat = 1 from rfl] at hx1054_0)
                replace p1054 := eq_true p1054; replace q1054 := eq_true q1054
                try go_wp2
                go_ret
                exact ⟨er_, bl3_ HB (IsS180.ge HI991.out) GE993.out GE994.out⟩
               ·rw [if_neg c22] at H; exact absurd H (by simp)
              ·rw [if_neg c21] at H; exact absurd H (by simp)
             ·rw [if_neg c20] at H; exact absurd H (by simp)
            ·rw [if_neg c19] at H; exact absurd H (by simp)
           ·rw [if_neg c18] at H; exact absurd H (by simp)
          ·rw [if_neg c17] at H; exact absurd H (by simp)
         ·rw [if_neg c16] at H; exact absurd H (by simp)
        ·rw [if_neg c15] at H; exact absurd H (by simp)
       ·rw [if_neg c14] at H; exact absurd H (by simp)
      ·rw [if_neg c13] at H; exact absurd H (by simp)
     ·rw [if_neg c12] at H; exact absurd H (by simp)
    ·rw [if_neg c11] at H; exact absurd H (by simp)
   ·rw [if_neg c10] at H; exact absurd H (by simp)
  ·rw [if_neg c9] at H; exact absurd H (by simp)
 ·rw [if_neg c8] at H; exact absurd H (by simp)
end Go.Proofs.Ytcapgmoipacioaa.P
