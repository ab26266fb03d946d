import Derived.Test.YtcapgmoipacioaaU1Ze
import Derived.Test.YtcapgmoipacioaaPpstipendref13Ze
namespace Go.Proofs.Ytcapgmoipacioaa.P
open Go.RowKit Go.Proofs.YtcapgmoipacioaaW.PrintWords Go.Proofs.YtcapgmoipacioaaW.PrintLast Go.Proofs.YtcapgmoipacioaaW.PrintMore
set_option linter.unusedVariables false
set_option linter.unusedSimpArgs false
def modeB (m : Int) : Bool := decide (1 ≤ m ∧ m ≤ 6)
theorem frac_Mode_is (x : Int) : frac_Mode.f x = some (modeB x) := by
  unfold frac_Mode.f modeB; by_cases h : x ≥ 1
  · rw [if_pos h]; simp only [Option.some.injEq]; exact decide_eq_decide.2 ⟨fun q => ⟨h, q⟩, fun q => q.2⟩
  · rw [if_neg h]; simp only [Option.some.injEq]; exact (decide_eq_false (fun q => h q.1)).symm
end Go.Proofs.Ytcapgmoipacioaa.P
