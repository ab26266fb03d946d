import Derived.Test.YtcapgmoipacioaaU2
import Derived.Test.YtcapgmoipacioaaR1
import Derived.Test.YtcapgmoipacioaaPlBandExact
namespace Go.Proofs.Ytcapgmoipacioaa.P
open Go.RowKit Go.Proofs.YtcapgmoipacioaaW.PrintWords Go.Proofs.YtcapgmoipacioaaW.PrintLast Go.Proofs.YtcapgmoipacioaaW.PrintMore
set_option linter.unusedVariables false
set_option linter.unusedSimpArgs false
theorem sums_is : stipendlaw05_sums.f 60 = some true := by decide +kernel
theorem eachM_good {g : S106 → Int} {x : Int} {l : List S106} (h : Good l) (hx : rightB x = true) : eachM g x l = (exFrom g x l l.length 0 0, 0) := by
  unfold eachM; rw [if_pos (good_iff.2 h), if_pos hx]
theorem BandExact_j0 (k : Nat) (l : List S106) (x : Int) : stipendlaw05_BandExact.j0 (k + 1) l x true = some true := rfl
theorem BandExact_pure (l : List S106) (x : Int) (_ : ∀ a ∈ l, W106 a) (_ : (Lit.int .i64 x).wf = true) : ∃ k, stipendlaw05_BandExact.f k l x = some true := by
  refine ⟨60, ?_⟩
  unfold stipendlaw05_BandExact.f
  rw [sums_is]
  simp only [Option.bind_some, if_true]
  rw [ref_Check_is l 60 (by omega)]
  simp only [Option.bind_some]
  by_cases hc : bandCheck l = 0
  · have hg := good_iff.1 hc
    rw [if_pos hc]
    by_cases h1 : x > 100000000000
    · rw [if_pos h1]; rfl
    · rw [if_neg h1]
      by_cases h2 : x < -100000000000
      · rw [decide_eq_true h2]; rfl
      · rw [decide_eq_false h2]
        have hx : rightB x = true := rightB_iff.2 ⟨by omega, by omega⟩
        simp only [stipendlaw05_BandExact.j0, Bool.false_eq_true, if_false, band_Exact.f, band_Employer.f, Option.bind_some, eachM_good hg hx, if_true, ref_Exact_is hg hx false 59 (by omega), ref_Exact_is hg hx true 59 (by omega), pickG]
        simp
  · rw [if_neg hc]; rfl
end Go.Proofs.Ytcapgmoipacioaa.P
