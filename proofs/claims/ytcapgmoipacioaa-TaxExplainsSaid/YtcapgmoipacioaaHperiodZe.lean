import Derived.Test.YtcapgmoipacioaaPpdateZe
import Derived.Test.YtcapgmoipacioaaPpperiodZe
namespace Go.Proofs.Ytcapgmoipacioaa.P
open Go.RowKit Go.Proofs.YtcapgmoipacioaaW.PrintWords Go.Proofs.YtcapgmoipacioaaW.PrintLast Go.Proofs.YtcapgmoipacioaaW.PrintMore
set_option linter.unusedVariables false
set_option linter.unusedSimpArgs false
set_option maxHeartbeats 8000000 in
set_option maxRecDepth 100000 in
theorem period_New.walk (k : Nat) (fr no y m d ny nm nd ey em ed fi da : Int) (w0 w : World) (hB : Below w0.heap.size w0 w)
    (h1 : period_Nominal.f fr = some no) (t1 : (no == 0) = false) (h2 : date_Months.f k y m d 12 = some (ny, nm, nd, 0)) (t2 : (m == 2) = false) (h3 : date_Add.f k ny nm nd (-1) = some (ey, em, ed, 0)) (h4 : date_Number.f k y m d = some (fi, 0)) (h5 : date_Between.f k y m d ny nm nd = some (da, 0)) :
    Calls Try.prog 52 #[.int .i64 fr, .agg #[.int .i64 y, .int .i64 m, .int .i64 d]] w fun e w' => ∃ g_ : Nat, e = .returned (.tuple #[.pointer (some ⟨g_, 0, none⟩), .int .i64 0]) ∧ IsS180 w0 w' g_ fr y m d ey em ed fi da ∧ Below w0.heap.size w0 w' ∧ Below w.heap.size w w' := by
  have hu86 := Try.underlying86; have hu180 := Try.underlying180; have HB0 := Aside0.mk hB; have H := Aside0.mk (And.intro h1 (And.intro h2 (And.intro h3 (And.intro h4 h5)))); clear hB h1 h2 h3 h4 h5; go_enter Try.func52, Try.ntmps52
  go_wp2_with fail
  (with_reducible refine (period_Nominal.calls fr no _ H.out.1).mono ?_)
  rintro e w1 ⟨rfl, ⟨n1, rfl⟩⟩; go_wp2_with fail
  (with_reducible refine (date_Months.calls k y m d 12 ny nm nd 0 _ H.out.2.1).mono ?_)
  rintro e w2 ⟨rfl, hb⟩; have BS2 : w2.heap[w.heap.size]? = some (.cells #[.int .i64 y, .int .i64 m, .int .i64 d] 86 (0, 0)) := blk_below (blk_drewN (blk_new w _) _) hb; have s0 : ∀ o : Obj, (w2.alloc o).cell? ⟨w.heap.size, 0, none⟩ = some (.int .i64 y) := fun o => (blk_cell (blk_alloc BS2 o) 0).trans rfl
  have s1 : ∀ o : Obj, (w2.alloc o).cell? ⟨w.heap.size, 1, none⟩ = some (.int .i64 m) := fun o => (blk_cell (blk_alloc BS2 o) 1).trans rfl
  have s2 : ∀ o : Obj, (w2.alloc o).cell? ⟨w.heap.size, 2, none⟩ = some (.int .i64 d) := fun o => (blk_cell (blk_alloc BS2 o) 2).trans rfl
  have B2 := Aside0.mk BS2; have HB := Aside0.mk (below_step (w := w) (by repeat (first | exact Below.refl _ _ | apply below_alloc | apply pw_below_drewN)) hb); clear hb BS2; go_wp2_with fail
  (with_reducible refine (date_Add.calls k ny nm nd (-1) ey em ed 0 _ H.out.2.2.1).mono ?_)
  rintro e w3 ⟨rfl, hb⟩; clear s0 s1 s2; have BS3 := blk_below (blk_alloc B2.out _) hb; have BN3 := blk_below (blk_new w2 _) hb; have HB1 := Aside0.mk (below_step (below_alloc HB.out _) hb); clear hb HB B2; have HB := HB1; clear HB1; have s0 : ∀ o : Obj, (w3.alloc o).cell? ⟨w.heap.size, 0, none⟩ = some (.int .i64 y) := fun o => (blk_cell (blk_alloc BS3 o) 0).trans rfl
  have s1 : ∀ o : Obj, (w3.alloc o).cell? ⟨w.heap.size, 1, none⟩ = some (.int .i64 m) := fun o => (blk_cell (blk_alloc BS3 o) 1).trans rfl
  have s2 : ∀ o : Obj, (w3.alloc o).cell? ⟨w.heap.size, 2, none⟩ = some (.int .i64 d) := fun o => (blk_cell (blk_alloc BS3 o) 2).trans rfl
  have q0 : ∀ o o2 : Obj, ((w3.alloc o).alloc o2).cell? ⟨w.heap.size, 0, none⟩ = some (.int .i64 y) := fun o o2 => (blk_cell (blk_alloc (blk_alloc BS3 o) o2) 0).trans rfl
  have q1 : ∀ o o2 : Obj, ((w3.alloc o).alloc o2).cell? ⟨w.heap.size, 1, none⟩ = some (.int .i64 m) := fun o o2 => (blk_cell (blk_alloc (blk_alloc BS3 o) o2) 1).trans rfl
  have q2 : ∀ o o2 : Obj, ((w3.alloc o).alloc o2).cell? ⟨w.heap.size, 2, none⟩ = some (.int .i64 d) := fun o o2 => (blk_cell (blk_alloc (blk_alloc BS3 o) o2) 2).trans rfl
  have B3 := Aside0.mk (And.intro BS3 BN3); clear BS3 BN3; go_wp2_with fail
  (with_reducible refine (date_Number.calls k y m d fi 0 _ H.out.2.2.2.1).mono ?_)
  rintro e w4 ⟨rfl, hb⟩; clear s0 s1 s2 q0 q1 q2; have BS4 := blk_below (blk_alloc (blk_alloc B3.out.1 _) _) hb; have BN4 := blk_below (blk_alloc (blk_alloc B3.out.2 _) _) hb; have BY0 := blk_new (w3.alloc (.cells #[.int .i64 ey, .int .i64 em, .int .i64 ed] 86)) (.cells #[.int .i64 fr, .int .i64 y, .int .i64 m, .int .i64 d, .int .i64 ey, .int .i64 em, .int .i64 ed, .int .i64 0, .int .i64 0] 180); rw [show (w3.alloc (.cells #[.int .i64 ey, .int .i64 em, .int .i64 ed] 86)).heap.size = w3.heap.size + 1 by simp] at BY0; have BY4 := blk_below BY0 hb; clear BY0; have L1 := blk_lt B3.out.1; have L2 := blk_lt B3.out.2; have hz7 := blk_frozen BY4 7; have hc7 : w4.cell? ⟨w3.heap.size + 1, 7, none⟩ = some (.int .i64 0) := (blk_cell BY4 7).trans rfl; have s0 : ∀ v : Value, (w4.setCell ⟨w3.heap.size + 1, 7, none⟩ v).cell? ⟨w.heap.size, 0, none⟩ = some (.int .i64 y) := fun v => (blk_cell (blk_far BS4 (p := ⟨w3.heap.size + 1, 7, none⟩) (by show _ ≠ w3.heap.size + 1; omega) v) 0).trans rfl
  have s1 : ∀ v : Value, (w4.setCell ⟨w3.heap.size + 1, 7, none⟩ v).cell? ⟨w.heap.size, 1, none⟩ = some (.int .i64 m) := fun v => (blk_cell (blk_far BS4 (p := ⟨w3.heap.size + 1, 7, none⟩) (by show _ ≠ w3.heap.size + 1; omega) v) 1).trans rfl
  have s2 : ∀ v : Value, (w4.setCell ⟨w3.heap.size + 1, 7, none⟩ v).cell? ⟨w.heap.size, 2, none⟩ = some (.int .i64 d) := fun v => (blk_cell (blk_far BS4 (p := ⟨w3.heap.size + 1, 7, none⟩) (by show _ ≠ w3.heap.size + 1; omega) v) 2).trans rfl
  have q0 : ∀ v : Value, (w4.setCell ⟨w3.heap.size + 1, 7, none⟩ v).cell? ⟨w2.heap.size, 0, none⟩ = some (.int .i64 ny) := fun v => (blk_cell (blk_far BN4 (p := ⟨w3.heap.size + 1, 7, none⟩) (by show _ ≠ w3.heap.size + 1; omega) v) 0).trans rfl
  have q1 : ∀ v : Value, (w4.setCell ⟨w3.heap.size + 1, 7, none⟩ v).cell? ⟨w2.heap.size, 1, none⟩ = some (.int .i64 nm) := fun v => (blk_cell (blk_far BN4 (p := ⟨w3.heap.size + 1, 7, none⟩) (by show _ ≠ w3.heap.size + 1; omega) v) 1).trans rfl
  have q2 : ∀ v : Value, (w4.setCell ⟨w3.heap.size + 1, 7, none⟩ v).cell? ⟨w2.heap.size, 2, none⟩ = some (.int .i64 nd) := fun v => (blk_cell (blk_far BN4 (p := ⟨w3.heap.size + 1, 7, none⟩) (by show _ ≠ w3.heap.size + 1; omega) v) 2).trans rfl
  have LY : Aside0 (w.heap.size ≤ w3.heap.size + 1 ∧ w0.heap.size ≤ w3.heap.size + 1) := ⟨by have := HB.out.size; omega, by have := HB.out.size; have := HB0.out.size; omega⟩; have HB1 := Aside0.mk (below_step (below_alloc (below_alloc HB.out _) _) hb); have B4 := Aside0.mk BY4; clear hb HB B3 BS4 BN4 BY4 L1 L2; have HB := HB1; clear HB1; go_wp2_with fail
  (with_reducible refine (date_Between.calls k y m d ny nm nd da 0 _ H.out.2.2.2.2).mono ?_)
  rintro e w5 ⟨rfl, hb⟩; clear s0 s1 s2 q0 q1 q2 hz7 hc7; have BY5 := blk_below (blk_put B4.out 7 _ rfl) hb; have hz8 := blk_frozen BY5 8; have hc8 : w5.cell? ⟨w3.heap.size + 1, 8, none⟩ = some (.int .i64 0) := (blk_cell BY5 8).trans rfl; have B5 := Aside0.mk BY5; have HB1 := Aside0.mk (below_step (below_set HB.out LY.out.1) hb); clear hb HB B4 BY5; have HB := HB1; clear HB1
  go_wp2
  go_ret2
  exact ⟨_, rfl, ⟨blk_put B5.out 8 _ rfl, LY.out.2⟩, below_weaken HB0.out HB0.out.size (below_set HB.out LY.out.1), below_set HB.out LY.out.1⟩
def period_New.f (a0 : Int) (a1_0 : Int) (a1_1 : Int) (a1_2 : Int) : Option (Int × Int × Int × Int × Int × Int × Int × Int × Int × Int) :=
  if 1 ≤ a0 ∧ a0 ≤ 4 ∧ a1_1 = 4 ∧ a1_2 = 6 then (if a1_0 = 2024 then some (a0, 2024, 4, 6, 2025, 4, 5, 45386, 365, 0) else if a1_0 = 2023 then some (a0, 2023, 4, 6, 2024, 4, 5, 45020, 366, 0) else none) else none
theorem nominal_ne {a : Int} (h0 : 1 ≤ a) (h1 : a ≤ 4) : ∃ n, period_Nominal.f a = some n ∧ (n == 0) = false := by
  rcases (show a = 1 ∨ a = 2 ∨ a = 3 ∨ a = 4 by omega) with rfl | rfl | rfl | rfl
  · exact ⟨52, by decide +kernel, by decide⟩
  · exact ⟨26, by decide +kernel, by decide⟩
  · exact ⟨13, by decide +kernel, by decide⟩
  · exact ⟨12, by decide +kernel, by decide⟩
theorem d24_1 : date_Months.f 60 2024 4 6 12 = some (2025, 4, 6, 0) := by decide +kernel
theorem d24_2 : date_Add.f 60 2025 4 6 (-1) = some (2025, 4, 5, 0) := by decide +kernel
theorem d24_3 : date_Number.f 60 2024 4 6 = some (45386, 0) := by decide +kernel
theorem d24_4 : date_Between.f 60 2024 4 6 2025 4 6 = some (365, 0) := by decide +kernel
theorem d23_1 : date_Months.f 60 2023 4 6 12 = some (2024, 4, 6, 0) := by decide +kernel
theorem d23_2 : date_Add.f 60 2024 4 6 (-1) = some (2024, 4, 5, 0) := by decide +kernel
theorem d23_3 : date_Number.f 60 2023 4 6 = some (45020, 0) := by decide +kernel
theorem d23_4 : date_Between.f 60 2023 4 6 2024 4 6 = some (366, 0) := by decide +kernel
theorem period_New.calls (a0 : Int) (a1_0 : Int) (a1_1 : Int) (a1_2 : Int) (r1 : Int) (r2 : Int) (r3 : Int) (r4 : Int) (r5 : Int) (r6 : Int) (r7 : Int) (r8 : Int) (r9 : Int) (r10 : Int) w0 (w : World) (hB : Below w0.heap.size w0 w) (h : period_New.f a0 a1_0 a1_1 a1_2 = some (r1, r2, r3, r4, r5, r6, r7, r8, r9, r10)) :
    Calls Try.prog 52 #[.int .i64 a0, .agg #[.int .i64 a1_0, .int .i64 a1_1, .int .i64 a1_2]] w fun e w' => ∃ g_ : Nat, e = .returned (.tuple #[.pointer (some ⟨g_, 0, none⟩), .int .i64 r10]) ∧ IsS180 w0 w' g_ r1 r2 r3 r4 r5 r6 r7 r8 r9 ∧ Below w0.heap.size w0 w' ∧ Below w.heap.size w w' := by
  unfold period_New.f at h; by_cases c : 1 ≤ a0 ∧ a0 ≤ 4 ∧ a1_1 = 4 ∧ a1_2 = 6
  · rw [if_pos c] at h; obtain ⟨c0, c1, rfl, rfl⟩ := c; obtain ⟨n, hn, hz⟩ := nominal_ne c0 c1; by_cases e4 : a1_0 = 2024
    · rw [if_pos e4] at h; subst e4; simp only [Option.some.injEq, Prod.mk.injEq] at h; obtain ⟨rfl, rfl, rfl, rfl, rfl, rfl, rfl, rfl, rfl, rfl⟩ := h; exact period_New.walk 60 a0 n 2024 4 6 2025 4 6 2025 4 5 45386 365 w0 w hB hn hz d24_1 (by decide) d24_2 d24_3 d24_4
    · rw [if_neg e4] at h; by_cases e3 : a1_0 = 2023
      · rw [if_pos e3] at h; subst e3; simp only [Option.some.injEq, Prod.mk.injEq] at h; obtain ⟨rfl, rfl, rfl, rfl, rfl, rfl, rfl, rfl, rfl, rfl⟩ := h; exact period_New.walk 60 a0 n 2023 4 6 2024 4 6 2024 4 5 45020 366 w0 w hB hn hz d23_1 (by decide) d23_2 d23_3 d23_4
      · rw [if_neg e3] at h; cases h
  · rw [if_neg c] at h; cases h
end Go.Proofs.Ytcapgmoipacioaa.P
