import Derived.Test.YtcapgmoipacioaaU10Za
import Derived.Test.YtcapgmoipacioaaR1Za
import Derived.Test.YtcapgmoipacioaaPlTaxDueZa
namespace Go.Proofs.Ytcapgmoipacioaa.P
open Go.RowKit Go.Proofs.YtcapgmoipacioaaW.PrintWords Go.Proofs.YtcapgmoipacioaaW.PrintLast Go.Proofs.YtcapgmoipacioaaW.PrintMore
set_option linter.unusedVariables false
set_option linter.unusedSimpArgs false
theorem TaxDue_all (L : List (List S106)) (l1 : List S120) (l2 : List S209) (a3 a4 s kd am fl x n d : Int) (al : Bool) (k : Nat) (hk : 200 ≤ k) (hd : stipendlaw13_dues.f k = some true) : stipendlaw13_TaxDue.f k L l1 l2 a3 a4 s kd am fl al x n d = some true := by
  unfold stipendlaw13_TaxDue.f
  rw [hd]
  simp only [Option.bind_some, if_true]
  obtain ⟨b, hb, hb1⟩ := fits_is L l1 l2 a3 a4 s kd am fl n d al
  rw [hb k (by omega)]
  simp only [Option.bind_some]
  cases b with
  | false => rw [if_neg (by decide)]
  | true =>
    obtain ⟨ht, hf, hp⟩ := hb1 rfl
    rw [if_pos rfl, tax_Exact_is ht k (by omega)]
    simp only [Option.bind_some]
    rw [tax_Due_is ht k (by omega)]
    simp only [Option.bind_some]
    rw [code_Charge_is k (by omega)]
    simp only [Option.bind_some]
    have bd := taxM_bd ht s kd am fl x n d
    unfold dueM
    by_cases hc : (chargeM s kd am fl x n d).2 = 0
    · have h0 := taxM_ok (x := x) (n := n) (d := d) hf hc
      rw [if_pos hc, ref_Exact13_is ht k (by omega) s kd am fl x n d al hf hc]
      simp only [Option.bind_some, if_pos h0, if_true]
      rw [ref_Round_is bd.1 (by omega) k (by omega)]
      simp
    · have e2 : (taxM L s kd am fl x n d) = (0, (chargeM s kd am fl x n d).2) := by
        unfold taxM
        rw [if_pos hf, if_neg hc]
      rw [if_neg hc, e2]
      simp only [if_neg hc, if_true]
      rfl
theorem TaxDue_pure (t : S56) (c : S88) (p : S135) (_ : W56 t) (_ : W88 c) (_ : W135 p) : ∃ k, stipendlaw13_TaxDue.f k t.f0 t.f1 t.f2 t.f3 t.f4 c.f0 c.f1 c.f2 c.f3 c.f4 p.f0 p.f1 p.f2 = some true := ⟨200, TaxDue_all _ _ _ _ _ _ _ _ _ _ _ _ _ 200 (Nat.le_refl _) dues_200⟩
end Go.Proofs.Ytcapgmoipacioaa.P
