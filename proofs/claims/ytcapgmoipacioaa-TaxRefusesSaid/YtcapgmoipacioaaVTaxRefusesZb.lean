import Derived.Test.YtcapgmoipacioaaU11Zb
import Derived.Test.YtcapgmoipacioaaR1Zb
import Derived.Test.YtcapgmoipacioaaPlTaxRefusesZb
namespace Go.Proofs.Ytcapgmoipacioaa.P
open Go.RowKit Go.Proofs.YtcapgmoipacioaaW.PrintWords Go.Proofs.YtcapgmoipacioaaW.PrintLast Go.Proofs.YtcapgmoipacioaaW.PrintMore
set_option linter.unusedVariables false
set_option linter.unusedSimpArgs false
theorem TaxRefuses_all (L : List (List S106)) (l1 : List S120) (l2 : List S209) (a3 a4 s kd am fl x n d : Int) (al : Bool) (k : Nat) (hk : 200 ≤ k) (hd : stipendlaw13_dues.f k = some true) : stipendlaw13_TaxRefuses.f k L l1 l2 a3 a4 s kd am fl al x n d = some true := by
  obtain ⟨m, hm⟩ : ∃ m, k = m + 1 := ⟨k - 1, by omega⟩
  unfold stipendlaw13_TaxRefuses.f
  rw [hd]
  simp only [Option.bind_some, if_true]
  have yes : stipendlaw13_TaxRefuses.j0 k true L l1 l2 a3 a4 s kd am fl al x n d = some true := by rw [hm, stipendlaw13_TaxRefuses.j0]; rfl
  by_cases h20 : (L.length : Int) > 20
  · rw [if_pos h20]; exact yes
  · rw [if_neg h20]
    obtain ⟨r, hr, hr0⟩ := table_Check_is L l1 l2 a3 a4
    rw [hr k (by omega)]
    simp only [Option.bind_some]
    by_cases hz : r = 0
    · have ht := hr0 hz
      rw [show (r != 0) = false from bne_eq_false_iff_eq.2 hz, hm, stipendlaw13_TaxRefuses.j0, if_neg (by decide), tax_Exact_is ht m (by omega)]
      simp only [Option.bind_some]
      rw [tax_Corners_is ht m (by omega)]
      simp only [Option.bind_some]
      rw [table_Fits_is m (by omega)]
      simp only [Option.bind_some]
      obtain ⟨q, hq⟩ : ∃ q, m = q + 1 := ⟨m - 1, by omega⟩
      by_cases hf : fitsM L s kd am fl = 0
      · rw [if_pos hf]
        obtain ⟨f1, f2, f3⟩ := fitsM_zero hf
        have j1t : partOk n d = false → stipendlaw13_TaxRefuses.j1 m (taxM L s kd am fl x n d).1 (taxM L s kd am fl x n d).2 (cornersM L s kd am fl n d).1 (cornersM L s kd am fl n d).2 true = some true := by
          intro hp
          have c1 : cornersM L s kd am fl n d = ([], 1) := by unfold cornersM; rw [if_pos hf, if_neg (by rw [hp]; decide)]
          have c2 : taxM L s kd am fl x n d = (0, 1) := by
            have cm : chargeM s kd am fl x n d = (0, 1) := by
              have fm : freeM s kd am fl n d = (0, 1) := by unfold freeM; rw [if_pos f1, hp]; rfl
              unfold chargeM
              rw [fm]
              rfl
            unfold taxM
            rw [if_pos hf, cm]
            rfl
          rw [c1, c2, hq, stipendlaw13_TaxRefuses.j1]
          rfl
        by_cases n0 : n < 0
        · rw [if_pos n0]; exact j1t (partOk_not.2 (.inl n0))
        rw [if_neg n0]
        by_cases d1 : d < 1
        · rw [if_pos d1]; exact j1t (partOk_not.2 (.inr (.inl d1)))
        rw [if_neg d1]
        by_cases nd : n > d
        · rw [if_pos nd]; exact j1t (partOk_not.2 (.inr (.inr (.inl nd))))
        rw [if_neg nd]
        by_cases d2 : d > 1048576
        · rw [decide_eq_true d2]; exact j1t (partOk_not.2 (.inr (.inr (.inr d2))))
        · rw [decide_eq_false d2, hq, stipendlaw13_TaxRefuses.j1, if_neg (by decide)]
          have hp : partOk n d = true := partOk_iff.2 ⟨by omega, by omega, by omega, by omega⟩
          have c1 : (cornersM L s kd am fl n d).2 = 0 := by
            unfold cornersM
            rw [if_pos hf, if_pos hp]
            split
            · rfl
            · split <;> rfl
          rw [c1]
          rfl
      · have c1 : cornersM L s kd am fl n d = ([], fitsM L s kd am fl) := by unfold cornersM; rw [if_neg hf]
        have c2 : taxM L s kd am fl x n d = (0, fitsM L s kd am fl) := by unfold taxM; rw [if_neg hf]
        rw [if_neg hf, c1, c2]
        simp
    · rw [show (r != 0) = true from bne_iff_ne.2 hz]; exact yes
theorem TaxRefuses_pure (t : S56) (c : S88) (p : S135) (_ : W56 t) (_ : W88 c) (_ : W135 p) : ∃ k, stipendlaw13_TaxRefuses.f k t.f0 t.f1 t.f2 t.f3 t.f4 c.f0 c.f1 c.f2 c.f3 c.f4 p.f0 p.f1 p.f2 = some true := ⟨200, TaxRefuses_all _ _ _ _ _ _ _ _ _ _ _ _ _ 200 (Nat.le_refl _) dues_200⟩
end Go.Proofs.Ytcapgmoipacioaa.P
