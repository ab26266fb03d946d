import Derived.Test.YtcapgmoipacioaaU1Zg
import Derived.Test.YtcapgmoipacioaaPtZg
namespace Go.Proofs.Ytcapgmoipacioaa.P
open Go.RowKit Go.Proofs.YtcapgmoipacioaaW.PrintWords Go.Proofs.YtcapgmoipacioaaW.PrintLast Go.Proofs.YtcapgmoipacioaaW.PrintMore
set_option linter.unusedVariables false
set_option linter.unusedSimpArgs false
def modeB (m : Int) : Bool := decide (1 ≤ m ∧ m ≤ 6)
theorem modeB_iff {m : Int} : modeB m = true ↔ 1 ≤ m ∧ m ≤ 6 := by unfold modeB; exact decide_eq_true_iff
theorem frac_Mode_is (x : Int) : frac_Mode.f x = some (modeB x) := by
  unfold frac_Mode.f modeB; by_cases h : x ≥ 1
  · rw [if_pos h]; simp only [Option.some.injEq]; exact decide_eq_decide.2 ⟨fun q => ⟨h, q⟩, fun q => q.2⟩
  · rw [if_neg h]; simp only [Option.some.injEq]; exact (decide_eq_false (fun q => h q.1)).symm
def upB (q r m : Int) : Bool :=
  if m = 2 then decide (0 < r) else if m = 4 then decide (5000 ≤ r) else if m = 5 then decide (5000 < r) || (r == 5000 && Int.tmod q 2 != 0) else if m = 6 then decide (5000 < r) else false
def rndM (x m : Int) : Int := Int.tdiv x 10000 + if upB (Int.tdiv x 10000) (Int.tmod x 10000) m = true then 1 else 0
theorem div_parts {x : Int} (h0 : 0 ≤ x) : 0 ≤ Int.tdiv x 10000 ∧ 0 ≤ Int.tmod x 10000 ∧ Int.tmod x 10000 < 10000 ∧ x = 10000 * Int.tdiv x 10000 + Int.tmod x 10000 := by
  rw [Int.tdiv_eq_ediv_of_nonneg h0, Int.tmod_eq_emod_of_nonneg h0]
  omega
theorem near_is {q r m : Int} (hq : 0 ≤ q) (hr : 0 < r) (hr2 : r < 10000) (hm : 1 ≤ m ∧ m ≤ 6) : frac_nearer.f q r 10000 m = some (upB q r m) := by
  unfold frac_nearer.f upB; by_cases h2 : m = 2
  · rw [if_pos h2, if_pos h2]
  rw [if_neg h2, if_neg h2]; by_cases h3 : m = 3
  · rw [if_pos h3, if_pos hr, decide_eq_false (by omega), if_neg (by omega), if_neg (by omega), if_neg (by omega)]
  rw [if_neg h3]; by_cases h1 : m = 1
  · rw [if_pos h1, if_neg (by omega), if_neg (by omega), if_neg (by omega)]
  rw [if_neg h1, wrap_id (x := 10000 - r) (by omega) (by omega)]; by_cases he : r = 10000 - r
  · rw [if_pos he]; by_cases h4 : m = 4
    · rw [if_pos h4, if_pos h4, decide_eq_true (p := q ≥ 0) (by omega), decide_eq_true (p := 5000 ≤ r) (by omega)]
    rw [if_neg h4, if_neg h4]; by_cases h6 : m = 6
    · rw [if_pos h6, if_neg (by omega), if_pos h6, decide_eq_false (p := q < 0) (by omega), decide_eq_false (p := 5000 < r) (by omega)]
    · rw [if_neg h6, if_pos (by omega), decide_eq_false (p := 5000 < r) (by omega), show (r == 5000) = true from beq_iff_eq.2 (by omega)]
      rfl
  · rw [if_neg he]; have e1 : decide (r > 10000 - r) = decide (5000 < r) := decide_eq_decide.2 ⟨fun h => by omega, fun h => by omega⟩; rw [e1]; by_cases h4 : m = 4
    · rw [if_pos h4]; exact congrArg some (decide_eq_decide.2 ⟨fun h => by omega, fun h => by omega⟩)
    rw [if_neg h4]; by_cases h5 : m = 5
    · rw [if_pos h5, show (r == 5000) = false from beq_eq_false_iff_ne.2 (by omega), Bool.false_and, Bool.or_false]
    · rw [if_neg h5, if_pos (by omega)]
theorem frac_Round_is {x m : Int} (h0 : 0 ≤ x) (h1 : x ≤ 9000000000000000) (k : Nat) (hk : 3 ≤ k) : frac_Round.f k x 10000 m = some (if modeB m = true then (rndM x m, 0) else (0, 1)) := by
  obtain ⟨k, rfl⟩ : ∃ j, k = j + 2 := ⟨k - 2, by omega⟩; unfold frac_Round.f; rw [if_neg (by omega), frac_Mode_is]; simp only [Option.bind_some]; rw [frac_Round.j0]
  cases hm : modeB m with
  | false => rw [if_pos (by decide)]; rfl
  | true =>
    obtain ⟨d1, d2, d3, d4⟩ := div_parts h0; have hm := modeB_iff.1 hm; rw [if_neg (by decide), if_pos rfl]; unfold frac_floor.f rndM; rw [if_neg (by omega), if_neg (by omega), wrap_id (x := Int.tdiv x 10000) (by omega) (by omega)]; simp only [Option.bind_some]; generalize Int.tdiv x 10000 = q at *; generalize Int.tmod x 10000 = r at *; by_cases hr : r > 0
    · rw [if_pos hr, near_is d1 hr d3 hm]; simp only [Option.bind_some]; rw [frac_Round.j1]
      cases upB q r m with
      | true => rw [if_pos rfl, if_pos rfl, wrap_id (by omega) (by omega)]
      | false => rw [if_neg (by decide), if_neg (by decide), Int.add_zero]
    · rw [if_neg hr, frac_Round.j1, if_neg (by decide)]
      have : upB q r m = false := by
        unfold upB; rw [decide_eq_false (p := 0 < r) (by omega), decide_eq_false (p := 5000 ≤ r) (by omega), decide_eq_false (p := 5000 < r) (by omega), show (r == 5000) = false from beq_eq_false_iff_ne.2 (by omega)]
        repeat' split
        all_goals rfl
      rw [this, if_neg (by decide), Int.add_zero]
theorem rndM_bd {x m : Int} (h0 : 0 ≤ x) : 0 ≤ rndM x m ∧ 10000 * rndM x m ≤ x + 10000 ∧ (x = 0 → rndM x m = 0) := by
  obtain ⟨d1, d2, d3, d4⟩ := div_parts h0
  have hu : Int.tmod x 10000 = 0 → upB (Int.tdiv x 10000) (Int.tmod x 10000) m = false := by
    intro hz; rw [hz]; unfold upB
    repeat' split
    all_goals rfl
  unfold rndM; refine ⟨by split <;> omega, by split <;> omega, fun hx => ?_⟩
  subst hx; rw [hu (by decide)]
  decide
end Go.Proofs.Ytcapgmoipacioaa.P
