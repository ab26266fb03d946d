import Derived.Test.YtcapgmoipacioaaU3
import Derived.Test.YtcapgmoipacioaaR1
import Derived.Test.YtcapgmoipacioaaPlBandRises
namespace Go.Proofs.Ytcapgmoipacioaa.P
open Go.RowKit Go.Proofs.YtcapgmoipacioaaW.PrintWords Go.Proofs.YtcapgmoipacioaaW.PrintLast Go.Proofs.YtcapgmoipacioaaW.PrintMore
set_option linter.unusedVariables false
set_option linter.unusedSimpArgs false
theorem BandRises_j0 (k : Nat) (l : List S106) (x y : Int) : stipendlaw05_BandRises.j0 (k + 1) l x y true = some true := rfl
theorem BandRises_j2 {l : List S106} (h : Good l) {x y c : Int} (hx : rightB x = true) (hy : rightB y = true) (hxy : x ≤ y) (hc : c ≤ (mx 0 y - mx 0 x) * topM l) : stipendlaw05_BandRises.j2 58 l x y c false = some true := by
  have hx := rightB_iff.1 hx
  have hy := rightB_iff.1 hy
  have hl := h.len
  obtain ⟨t0, t1, _⟩ := topM_bd h
  have e : 0 ≤ mx 0 y - mx 0 x ∧ mx 0 y - mx 0 x ≤ 100000000000 := by unfold mx; split <;> split <;> omega
  simp only [stipendlaw05_BandRises.j2, Bool.false_eq_true, if_false]
  rw [band_Top_is l (by omega) 57 (by omega)]
  simp only [Option.bind_some]
  rw [wrap_id (by omega) (by omega), frac_Part_is _ _ 57 (by omega)]
  simp only [Option.bind_some, partM]
  rw [if_pos (rightB_iff.2 (by omega)), if_pos (rateB_iff.2 ⟨t0, t1⟩), decide_eq_true hc]
theorem BandRises_j1 {l : List S106} (h : Good l) {x y c : Int} (hx : rightB x = true) (hy : rightB y = true) (hxy : x ≤ y) (hc : c ≤ (mx 0 y - mx 0 x) * topM l) : stipendlaw05_BandRises.j1 59 l x y c false = some true := by
  have hl := h.len
  obtain ⟨i, ei, i0, i1, i2, i3⟩ := band_Find_is (x := x) h 58 (by omega)
  obtain ⟨j, ej, j0, j1, j2, j3⟩ := band_Find_is (x := y) h 58 (by omega)
  simp only [stipendlaw05_BandRises.j1, Bool.false_eq_true, if_false]
  rw [ei, ej]
  simp only [Option.bind_some]
  have hij : ¬ i > j := by
    intro hgt
    have a := i2 (by omega)
    have b := j3 (by omega)
    have r := h.rise (i - (j + 1)).toNat (j + 1) (by omega) (by omega)
    rw [show j + 1 + ((i - (j + 1)).toNat : Int) = i by omega] at r
    omega
  rw [if_neg hij, if_neg (by omega), if_neg (by omega), if_pos j0, if_pos j1, wrap_id (x := j + 1) (by omega) (by omega)]
  have hend : (if j + 1 < (l.length : Int) then if 0 ≤ j + 1 then stipendlaw05_BandRises.j2 58 l x y c (decide ((rd_T106 l (j + 1)).f0 < y)) else none else stipendlaw05_BandRises.j2 58 l x y c false) = some true := by
    by_cases c1 : j + 1 < (l.length : Int)
    · have b := j3 c1
      rw [if_pos c1, if_pos (by omega), decide_eq_false (by omega)]
      exact BandRises_j2 h hx hy hxy hc
    · rw [if_neg c1]
      exact BandRises_j2 h hx hy hxy hc
  by_cases c2 : (rd_T106 l j).f0 ≥ y
  · have : ¬ j > 0 := fun hj => by have := j2 hj; omega
    rw [if_pos c2, if_neg this]; exact hend
  · rw [if_neg c2]; exact hend
theorem BandRises_pure (l : List S106) (x y : Int) (_ : ∀ a ∈ l, W106 a) (_ : (Lit.int .i64 x).wf = true) (_ : (Lit.int .i64 y).wf = true) : ∃ k, stipendlaw05_BandRises.f k l x y = some true := by
  refine ⟨60, ?_⟩
  unfold stipendlaw05_BandRises.f
  rw [sums_is]
  simp only [Option.bind_some, if_true]
  rw [ref_Check_is l 60 (by omega)]
  simp only [Option.bind_some]
  by_cases hc : bandCheck l = 0
  · have hg := good_iff.1 hc
    rw [if_pos hc]
    by_cases h1 : x > 100000000000
    · rw [if_pos h1]; rfl
    rw [if_neg h1]
    by_cases h2 : y < -100000000000
    · rw [if_pos h2]; rfl
    rw [if_neg h2]
    by_cases h3 : x < -100000000000
    · rw [if_pos h3]; rfl
    rw [if_neg h3]
    by_cases h4 : y > 100000000000
    · rw [if_pos h4]; rfl
    rw [if_neg h4]
    by_cases h5 : x > y
    · rw [decide_eq_true h5]; rfl
    rw [decide_eq_false h5]
    have hx : rightB x = true := rightB_iff.2 ⟨by omega, by omega⟩
    have hy : rightB y = true := rightB_iff.2 ⟨by omega, by omega⟩
    have hb : ∀ i : Int, 0 ≤ i → i < l.length → 0 ≤ S106.f1 (rd_T106 l i) ∧ S106.f1 (rd_T106 l i) ≤ 10000 := fun i h0 h1 => (hg.bd h0 h1).2.2.2.2.1
    obtain ⟨t0, t1, t2⟩ := topM_bd hg
    have b1 := ex_bound (g := S106.f1) hg hb hx
    have b2 := ex_bound (g := S106.f1) hg hb hy
    have b3 := ex_rise (g := S106.f1) (T := topM l) hg (show x ≤ y by omega) t2
    simp only [stipendlaw05_BandRises.j0, Bool.false_eq_true, if_false, band_Exact.f, band_Between.f, Option.bind_some, eachM_good hg hx, eachM_good hg hy, if_true]
    generalize exFrom S106.f1 x l l.length 0 0 = u at *
    generalize exFrom S106.f1 y l l.length 0 0 = v at *
    rw [wrap_id (x := v - u) (by omega) (by omega), if_neg (by omega), decide_eq_false (by omega)]
    exact BandRises_j1 hg hx hy (by omega) b3.2
  · rw [if_neg hc]; rfl
end Go.Proofs.Ytcapgmoipacioaa.P
