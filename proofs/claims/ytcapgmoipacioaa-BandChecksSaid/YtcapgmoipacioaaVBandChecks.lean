import Derived.Test.YtcapgmoipacioaaU3
import Derived.Test.YtcapgmoipacioaaR1
import Derived.Test.YtcapgmoipacioaaPlBandChecks
namespace Go.Proofs.Ytcapgmoipacioaa.P
open Go.RowKit Go.Proofs.YtcapgmoipacioaaW.PrintWords Go.Proofs.YtcapgmoipacioaaW.PrintLast Go.Proofs.YtcapgmoipacioaaW.PrintMore
set_option linter.unusedVariables false
set_option linter.unusedSimpArgs false
theorem BandChecks_pure (l : List S106) (x : Int) (_ : ∀ a ∈ l, W106 a) (_ : (Lit.int .i64 x).wf = true) : ∃ k, stipendlaw05_BandChecks.f k l x = some true := by
  refine ⟨60, ?_⟩
  unfold stipendlaw05_BandChecks.f
  rw [sums_is]
  simp only [Option.bind_some, if_true]
  by_cases h40 : (l.length : Int) > 40
  · rw [if_pos h40]
  rw [if_neg h40, ref_Check_is l 60 (by omega), band_Check_is]
  simp only [Option.bind_some, band_Exact.f, band_Employer.f, if_true]
  by_cases hc : bandCheck l = 0
  · have hg := good_iff.1 hc
    simp only [hc, if_true]
    by_cases h1 : x > 100000000000
    · have hx : rightB x = false := rightB_not.2 (by omega)
      rw [if_pos h1, eachM_big hg hx, eachM_big hg hx]; rfl
    · rw [if_neg h1]
      by_cases h2 : x < -100000000000
      · have hx : rightB x = false := rightB_not.2 (by omega)
        rw [decide_eq_true h2, eachM_big hg hx, eachM_big hg hx]; rfl
      · have hx : rightB x = true := rightB_iff.2 ⟨by omega, by omega⟩
        rw [decide_eq_false h2, eachM_good hg hx, eachM_good hg hx]; rfl
  · rw [if_neg hc, band_Scale_bad hc, eachM_bad hc, eachM_bad hc]
    simp
end Go.Proofs.Ytcapgmoipacioaa.P
