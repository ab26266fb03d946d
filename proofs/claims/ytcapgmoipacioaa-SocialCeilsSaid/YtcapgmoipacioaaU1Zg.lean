import Derived.Test.YtcapgmoipacioaaPtZg
import Derived.Test.YtcapgmoipacioaaPpmoneyZg
import Derived.Test.YtcapgmoipacioaaPpfracZg
namespace Go.Proofs.Ytcapgmoipacioaa.P
open Go.RowKit Go.Proofs.YtcapgmoipacioaaW.PrintWords Go.Proofs.YtcapgmoipacioaaW.PrintLast Go.Proofs.YtcapgmoipacioaaW.PrintMore
set_option linter.unusedVariables false
set_option linter.unusedSimpArgs false
theorem wrap_id {x : Int} (h1 : -9223372036854775808 ≤ x) (h2 : x ≤ 9223372036854775807) : wrap64 x = x := by unfold wrap64; omega
theorem rd_mid (pre suf : List Int) (x : Int) : rd (pre ++ x :: suf) (pre.length : Int) = x := by
  unfold rd
  simp [List.getD_eq_getElem?_getD]
def rightB (x : Int) : Bool := decide (-100000000000 ≤ x ∧ x ≤ 100000000000)
theorem rightB_iff {x : Int} : rightB x = true ↔ -100000000000 ≤ x ∧ x ≤ 100000000000 := by unfold rightB; exact decide_eq_true_iff
theorem rightB_not {x : Int} : rightB x = false ↔ x < -100000000000 ∨ 100000000000 < x := by
  unfold rightB; rw [decide_eq_false_iff_not]; omega
theorem money_Right_l0 : ∀ (suf pre : List Int) (k : Nat), 2 * suf.length < k → (pre ++ suf).length ≤ 4611686018427387904 →
    money_Right.l0 k (pre ++ suf) ((pre ++ suf).length : Int) (pre.length : Int) = some (suf.all rightB)
  | [], pre, k, hk, hl => by
    obtain ⟨k, rfl⟩ : ∃ m, k = m + 1 := ⟨k - 1, by omega⟩
    simp only [money_Right.l0, List.append_nil, Int.lt_irrefl, if_false, List.all_nil]
  | x :: suf, pre, k, hk, hl => by
    simp only [List.length_cons] at hk
    obtain ⟨k, rfl⟩ : ∃ m, k = m + 2 := ⟨k - 2, by omega⟩
    have hlen : (pre ++ x :: suf).length = pre.length + suf.length + 1 := by simp; omega
    have hlt : (pre.length : Int) < ((pre ++ x :: suf).length : Int) := by omega
    have ih := money_Right_l0 suf (pre ++ [x]) k (by omega) (by simp at hl ⊢; omega)
    have e1 : pre ++ [x] ++ suf = pre ++ x :: suf := by simp
    have e2 : ((pre ++ [x]).length : Int) = (pre.length : Int) + 1 := by simp
    rw [e1, e2] at ih
    have hw : wrap64 ((pre.length : Int) + 1) = (pre.length : Int) + 1 := wrap_id (by omega) (by omega)
    simp only [money_Right.l0]
    rw [if_pos hlt, if_pos (by omega), if_pos hlt, rd_mid]
    simp only [money_Right.j1, List.all_cons]
    by_cases h1 : x > 100000000000
    · rw [if_pos h1, rightB_not.2 (.inr h1)]
      simp
    · rw [if_neg h1]
      by_cases h2 : x < -100000000000
      · rw [rightB_not.2 (.inl h2)]
        simp [h2]
      · rw [rightB_iff.2 ⟨by omega, by omega⟩]
        simp only [Bool.true_and]
        rw [if_neg (by simpa using h2), hw]
        exact ih
theorem money_Right_is (l : List Int) (k : Nat) (hk : 2 * l.length < k) (hl : l.length ≤ 4611686018427387904) : money_Right.f k l = some (l.all rightB) := by
  have := money_Right_l0 l [] k hk (by simpa using hl)
  simpa [money_Right.f] using this
theorem money_Right_one (a : Int) (k : Nat) (hk : 2 < k) : money_Right.f k [a] = some (rightB a) := by
  rw [money_Right_is [a] k (by simpa using hk) (by simp)]; simp
theorem money_Right_two (a b : Int) (k : Nat) (hk : 4 < k) : money_Right.f k [a, b] = some (rightB a && rightB b) := by
  rw [money_Right_is [a, b] k (by simpa using hk) (by simp)]; simp
theorem money_Right_three (a b c : Int) (k : Nat) (hk : 6 < k) : money_Right.f k [a, b, c] = some (rightB a && (rightB b && rightB c)) := by
  rw [money_Right_is [a, b, c] k (by simpa using hk) (by simp)]; simp
def checkM (x : Int) : Int × Int := if rightB x then (x, 0) else (0, 10)
theorem money_check_is (a : Int) (k : Nat) (hk : 2 < k) : money_check.f k a = some (checkM a) := by
  unfold money_check.f checkM; rw [money_Right_one a k hk]; simp only [Option.bind_some]; cases rightB a <;> simp
def addM (a b : Int) : Int × Int := if rightB a && rightB b then checkM (a + b) else (0, 10)
theorem money_Add_is (a b : Int) (k : Nat) (hk : 4 < k) : money_Add.f k a b = some (addM a b) := by
  unfold money_Add.f addM; rw [money_Right_two a b k hk]; simp only [Option.bind_some]; cases h : rightB a && rightB b
  · simp
  · simp only [Bool.and_eq_true, rightB_iff] at h; rw [wrap_id (by omega) (by omega), money_check_is _ k (by omega)]
    simp
def rateB (x : Int) : Bool := decide (0 ≤ x ∧ x ≤ 10000)
theorem rateB_iff {x : Int} : rateB x = true ↔ 0 ≤ x ∧ x ≤ 10000 := by unfold rateB; exact decide_eq_true_iff
theorem frac_Rate_is (x : Int) : frac_Rate.f x = some (rateB x) := by
  unfold frac_Rate.f rateB; by_cases h : x ≥ 0
  · rw [if_pos h]; simp only [Option.some.injEq]; exact decide_eq_decide.2 ⟨fun q => ⟨h, q⟩, fun q => q.2⟩
  · rw [if_neg h]; simp only [Option.some.injEq]; exact (decide_eq_false (fun q => h q.1)).symm
theorem mul_bound {a b A B : Int} (ha : -A ≤ a ∧ a ≤ A) (hb : 0 ≤ b ∧ b ≤ B) : -(A * B) ≤ a * b ∧ a * b ≤ A * B := by
  have hA : 0 ≤ A := by omega
  constructor
  · have h1 : -A * b ≤ a * b := Int.mul_le_mul_of_nonneg_right ha.1 hb.1; have h2 : A * b ≤ A * B := Int.mul_le_mul_of_nonneg_left hb.2 hA; rw [Int.neg_mul] at h1; omega
  · have h1 : a * b ≤ A * b := Int.mul_le_mul_of_nonneg_right ha.2 hb.1; have h2 : A * b ≤ A * B := Int.mul_le_mul_of_nonneg_left hb.2 hA
    omega
end Go.Proofs.Ytcapgmoipacioaa.P
