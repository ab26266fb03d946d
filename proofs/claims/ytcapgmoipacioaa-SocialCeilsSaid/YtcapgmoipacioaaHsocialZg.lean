import Derived.Test.YtcapgmoipacioaaQ2Zg
import Derived.Test.YtcapgmoipacioaaQ3Zg
import Derived.Test.YtcapgmoipacioaaU7Zg
import Derived.Test.YtcapgmoipacioaaU3Zg
import Derived.Test.YtcapgmoipacioaaPppairZg
namespace Go.Proofs.Ytcapgmoipacioaa.P
open Go.RowKit Go.Proofs.YtcapgmoipacioaaW.PrintWords Go.Proofs.YtcapgmoipacioaaW.PrintLast Go.Proofs.YtcapgmoipacioaaW.PrintMore
open Go.Proofs.YtcapgmoipacioaaW.FlW
set_option linter.unusedVariables false
set_option linter.unusedSimpArgs false
set_option maxHeartbeats 8000000 in
set_option maxRecDepth 100000 in
theorem social_Exact.good (a0 : ByteArray) (a1 : Int) (A2 : Option Addr) (c2 : Nat) (l2 : List (S106)) (a3 a4 a5 x : Int) (w : World) (hr : Kd.C k106 w A2 l2.length l2) (hc : l2.length ≤ c2) (hg : Good l2) (hx : rightB x = true) :
    Calls Try.prog 71 #[.agg #[.string a0, .int .i64 a1, .slice A2 l2.length c2, .int .i64 a3, .int .i64 a4, .int .i64 a5], .int .i64 x] w fun e w' => (∃ s t, e = .returned (.tuple #[.complex .f64 s t, .int .i64 0]) ∧ Fl s (exFrom S106.f1 x l2 l2.length 0 0) ∧ Fl t (exFrom S106.f2 x l2 l2.length 0 0)) ∧ Below w.heap.size w w' := by
  have hu120 := Try.underlying120; have HR := Aside0.mk hr; have HC := Aside0.mk (And.intro hc (And.intro hg hx)); clear hr hc hg hx; obtain ⟨R1, hR1⟩ : ∃ R, R = exFrom S106.f1 x l2 l2.length 0 0 := ⟨_, rfl⟩; obtain ⟨R2, hR2⟩ : ∃ R, R = exFrom S106.f2 x l2 l2.length 0 0 := ⟨_, rfl⟩; rw [← hR1, ← hR2]; have HRR := Aside0.mk (And.intro hR1 hR2); clear hR1 hR2; have HB := Aside0.mk (Below.refl w.heap.size w); go_enter Try.func71, Try.ntmps71
  go_wp2_with ((with_reducible refine gate_dst (N := 2) rfl ?_); refine box_event ?hg (N := 2) ?hd (cs := #[.string a0, .int .i64 a1, .slice A2 l2.length c2, .int .i64 a3, .int .i64 a4, .int .i64 a5]) (t := 120) ?hr ?_; (case hd => rfl); (case hg => rfl); (case hr => first | (go_simp; done) | (go_simp; rfl)); intro gb hg w6 hbox hb; have HB1 := Aside0.mk (below_step (by repeat (first | exact HB.out | apply below_alloc | apply pw_below_drewN | apply below_drew1)) hb); have BK := Aside0.mk hbox; clear HB; have HB := HB1; clear HB1 hb hbox hg; have hcz2 : w6.cell? ⟨gb, 2, none⟩ = some (.slice A2 l2.length c2) := (blk_cell BK.out 2).trans rfl; have hfz2 := blk_frozen BK.out 2)
  (with_reducible refine (pair_Banded.good x _ _ l2 _ ?side1 ?side2 HC.out.2.1 HC.out.2.2).mono ?_)
  case side1 => exact Kd.C_below HR.out (by repeat (first | exact HB.out | apply below_alloc | apply pw_below_drewN | apply below_drew1))
  case side2 => exact HC.out.1
  rw [← HRR.out.1, ← HRR.out.2]; rintro e w2 ⟨⟨s, u, rfl, hs, hu⟩, hb⟩; have HB1 := Aside0.mk (below_step (by repeat (first | exact HB.out | apply below_alloc | apply pw_below_drewN | apply below_drew1)) hb); have HF := Aside0.mk (And.intro hs hu); clear HB hb hs hu
  go_wp2
  go_ret2
  exact ⟨⟨s, u, rfl, HF.out.1, HF.out.2⟩, by repeat (first | exact HB1.out | apply below_alloc | apply pw_below_drewN | apply below_drew1)⟩
def social_Due.f (a0_0 : ByteArray) (a0_1 : Int) (l0_2 : List (S106)) (a0_3 : Int) (a0_4 : Int) (a0_5 : Int) (a1 : Int) : Option (Int × Int × Int) :=
  if bandCheck l0_2 = 0 ∧ rightB a1 = true ∧ modeB a0_5 = true then some (rndM (exFrom S106.f1 a1 l0_2 l0_2.length 0 0) a0_5, rndM (exFrom S106.f2 a1 l0_2 l0_2.length 0 0) a0_5, 0) else none
set_option maxHeartbeats 8000000 in
set_option maxRecDepth 100000 in
theorem social_Due.walk (a0 : ByteArray) (a1 : Int) (A2 : Option Addr) (c2 : Nat) (l2 : List (S106)) (a3 a4 a5 x : Int) (w : World) (hr : Kd.C k106 w A2 l2.length l2) (hc : l2.length ≤ c2) (hg : Good l2) (hx : rightB x = true) (r1 r2 : Int)
    (h1 : frac_Round.f 9 (exFrom S106.f1 x l2 l2.length 0 0) 10000 a5 = some (r1, 0)) (h2 : frac_Round.f 9 (exFrom S106.f2 x l2 l2.length 0 0) 10000 a5 = some (r2, 0)) (n1 : (exFrom S106.f1 x l2 l2.length 0 0).natAbs ≤ 2 ^ 53) (n2 : (exFrom S106.f2 x l2 l2.length 0 0).natAbs ≤ 2 ^ 53) :
    Calls Try.prog 70 #[.agg #[.string a0, .int .i64 a1, .slice A2 l2.length c2, .int .i64 a3, .int .i64 a4, .int .i64 a5], .int .i64 x] w fun e w' => e = .returned (.tuple #[.agg #[.int .i64 r1, .int .i64 r2], .int .i64 0]) ∧ Below w.heap.size w w' := by
  have hu120 := Try.underlying120; have hu36 := Try.underlying36; have HR := Aside0.mk hr; have HC := Aside0.mk (And.intro hc (And.intro hg hx)); clear hr hc hg hx; obtain ⟨R1, hR1⟩ : ∃ R, R = exFrom S106.f1 x l2 l2.length 0 0 := ⟨_, rfl⟩; obtain ⟨R2, hR2⟩ : ∃ R, R = exFrom S106.f2 x l2 l2.length 0 0 := ⟨_, rfl⟩; rw [← hR1] at h1 n1; rw [← hR2] at h2 n2; have HRR := Aside0.mk (And.intro hR1 hR2); have HX := Aside0.mk (And.intro h1 (And.intro h2 (And.intro n1 n2))); clear hR1 hR2 h1 h2 n1 n2; have HB := Aside0.mk (Below.refl w.heap.size w); go_enter Try.func70, Try.ntmps70
  go_wp2_with ((with_reducible refine gate_dst (N := 2) rfl ?_); refine box_event ?hg (N := 2) ?hd (cs := #[.string a0, .int .i64 a1, .slice A2 l2.length c2, .int .i64 a3, .int .i64 a4, .int .i64 a5]) (t := 120) ?hr ?_; (case hd => rfl); (case hg => rfl); (case hr => first | (go_simp; done) | (go_simp; rfl)); intro gb hg w6 hbox hb; have GE := Aside0.mk (show w.heap.size ≤ gb by rw [hg]; exact below_size (by repeat (first | exact HB.out | apply below_alloc | apply pw_below_drewN | apply below_drew1))); have HB1 := Aside0.mk (below_step (by repeat (first | exact HB.out | apply below_alloc | apply pw_below_drewN | apply below_drew1)) hb); have BK := Aside0.mk hbox; clear HB; have HB := HB1; clear HB1 hb hbox hg; have hcz : ∀ o : Obj, (w6.alloc o).cell? ⟨gb, 0, none⟩ = some (.string a0) ∧ (w6.alloc o).cell? ⟨gb, 1, none⟩ = some (.int .i64 a1) ∧ (w6.alloc o).cell? ⟨gb, 2, none⟩ = some (.slice A2 l2.length c2) ∧ (w6.alloc o).cell? ⟨gb, 3, none⟩ = some (.int .i64 a3) ∧ (w6.alloc o).cell? ⟨gb, 4, none⟩ = some (.int .i64 a4) ∧ (w6.alloc o).cell? ⟨gb, 5, none⟩ = some (.int .i64 a5) := fun o => ⟨(blk_cell (blk_alloc BK.out o) 0).trans rfl, (blk_cell (blk_alloc BK.out o) 1).trans rfl, (blk_cell (blk_alloc BK.out o) 2).trans rfl, (blk_cell (blk_alloc BK.out o) 3).trans rfl, (blk_cell (blk_alloc BK.out o) 4).trans rfl, (blk_cell (blk_alloc BK.out o) 5).trans rfl⟩; have z0 := fun o => (hcz o).1; have z1 := fun o => (hcz o).2.1; have z2 := fun o => (hcz o).2.2.1; have z3 := fun o => (hcz o).2.2.2.1; have z4 := fun o => (hcz o).2.2.2.2.1; have z5 := fun o => (hcz o).2.2.2.2.2; clear hcz)
  (with_reducible refine (social_Exact.good a0 a1 A2 c2 l2 a3 a4 a5 x _ ?side1 ?side2 HC.out.2.1 HC.out.2.2).mono ?_)
  case side1 => exact Kd.C_below HR.out (by repeat (first | exact HB.out | apply below_alloc | apply pw_below_drewN | apply below_drew1))
  case side2 => exact HC.out.1
  rw [← HRR.out.1, ← HRR.out.2]; rintro e w2 ⟨⟨s, u, rfl, hs, hu⟩, hb⟩; clear z0 z1 z2 z3 z4 z5; have LY := Aside0.mk (show w.heap.size ≤ w6.heap.size from HB.out.size); have B4 := Aside0.mk (blk_below (blk_new w6 (.cells #[.int .i64 0, .int .i64 0] 36)) hb); have BG := Aside0.mk (blk_below (blk_alloc BK.out (.cells #[.int .i64 0, .int .i64 0] 36)) hb); have HB1 := Aside0.mk (below_step (by repeat (first | exact HB.out | apply below_alloc | apply pw_below_drewN | apply below_drew1)) hb); have HF := Aside0.mk (And.intro hs hu); clear HB hb hs hu BK; have HB := HB1; clear HB1; have z5 : w2.cell? ⟨gb, 5, none⟩ = some (.int .i64 a5) := (blk_cell BG.out 5).trans rfl; go_wp2_with fail
  (with_reducible refine (pair_Coins.ok 9 s u R1 R2 a5 r1 r2 HF.out.1 HF.out.2 HX.out.2.2.1 HX.out.2.2.2 HX.out.1 HX.out.2.1 _).mono ?_)
  rintro e w3 ⟨rfl, hb⟩; clear z5; have B5 := Aside0.mk (blk_below B4.out hb); have HB1 := Aside0.mk (below_step (by repeat (first | exact HB.out | apply below_alloc | apply pw_below_drewN | apply below_drew1)) hb); clear HB hb B4; have HB := HB1; clear HB1; have f0 := blk_frozen B5.out 0; have f1 := blk_frozen B5.out 1; have q0 : w3.cell? ⟨w6.heap.size, 0, none⟩ = some (.int .i64 0) := (blk_cell B5.out 0).trans rfl; have q1 : w3.cell? ⟨w6.heap.size, 1, none⟩ = some (.int .i64 0) := (blk_cell B5.out 1).trans rfl
  go_wp2
  have P := blk_put (blk_put B5.out 0 (.int .i64 r1) rfl) 1 (.int .i64 r2) rfl; have e0 : ((w3.setCell ⟨w6.heap.size, 0, none⟩ (.int .i64 r1)).setCell ⟨w6.heap.size, 1, none⟩ (.int .i64 r2)).cell? ⟨w6.heap.size, 0, none⟩ = some (.int .i64 r1) := (blk_cell P 0).trans rfl; have e1 : ((w3.setCell ⟨w6.heap.size, 0, none⟩ (.int .i64 r1)).setCell ⟨w6.heap.size, 1, none⟩ (.int .i64 r2)).cell? ⟨w6.heap.size, 1, none⟩ = some (.int .i64 r2) := (blk_cell P 1).trans rfl; exact bodyPost_ret (v := .tuple #[.agg #[.int .i64 r1, .int .i64 r2], .int .i64 0]) (by simp [results, Try.results70, go_sem, hu36, e0, e1]) rfl ⟨rfl, below_set (below_set HB.out LY.out) LY.out⟩
theorem ex_both {l : List S106} (h : Good l) {x : Int} (hx : rightB x = true) : (0 ≤ exFrom S106.f1 x l l.length 0 0 ∧ exFrom S106.f1 x l l.length 0 0 ≤ 1000000000000000) ∧ (0 ≤ exFrom S106.f2 x l l.length 0 0 ∧ exFrom S106.f2 x l l.length 0 0 ≤ 1000000000000000) :=
  ⟨ex_bound h (fun i h0 h1 => (h.bd h0 h1).2.2.2.2.1) hx, ex_bound h (fun i h0 h1 => (h.bd h0 h1).2.2.2.2.2) hx⟩
theorem social_Due.calls (a0_0 : ByteArray) (a0_1 : Int) (A0_2 : Option Addr) (c0_2 : Nat) (l0_2 : List (S106)) (a0_3 : Int) (a0_4 : Int) (a0_5 : Int) (a1 : Int) (r1 : Int) (r2 : Int) (r3 : Int) (w : World) (hr0_2 : Kd.C k106 w A0_2 l0_2.length l0_2) (hc0_2 : l0_2.length ≤ c0_2) (h : social_Due.f a0_0 a0_1 l0_2 a0_3 a0_4 a0_5 a1 = some (r1, r2, r3)) :
    Calls Try.prog 70 #[.agg #[.string a0_0, .int .i64 a0_1, .slice A0_2 l0_2.length c0_2, .int .i64 a0_3, .int .i64 a0_4, .int .i64 a0_5], .int .i64 a1] w fun e w' => e = .returned (.tuple #[.agg #[.int .i64 r1, .int .i64 r2], .int .i64 r3]) ∧ Below w.heap.size w w' := by
  unfold social_Due.f at h; by_cases c : bandCheck l0_2 = 0 ∧ rightB a1 = true ∧ modeB a0_5 = true
  · rw [if_pos c] at h; simp only [Option.some.injEq, Prod.mk.injEq] at h; obtain ⟨rfl, rfl, rfl⟩ := h; have hg := good_iff.1 c.1; have b := ex_both hg c.2.1; refine social_Due.walk a0_0 a0_1 A0_2 c0_2 l0_2 a0_3 a0_4 a0_5 a1 w hr0_2 hc0_2 hg c.2.1 _ _ ?_ ?_ ?_ ?_
    · rw [frac_Round_is b.1.1 (by omega) 9 (by omega), if_pos c.2.2]
    · rw [frac_Round_is b.2.1 (by omega) 9 (by omega), if_pos c.2.2]
    · generalize exFrom S106.f1 a1 l0_2 l0_2.length 0 0 = q at b; omega
    · generalize exFrom S106.f2 a1 l0_2 l0_2.length 0 0 = q at b; omega
  · rw [if_neg c] at h; cases h
end Go.Proofs.Ytcapgmoipacioaa.P
