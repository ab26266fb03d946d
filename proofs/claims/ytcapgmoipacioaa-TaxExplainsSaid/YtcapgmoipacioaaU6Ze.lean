import Derived.Test.YtcapgmoipacioaaU4Ze
import Derived.Test.YtcapgmoipacioaaPpcodeZe
import Derived.Test.YtcapgmoipacioaaPptableZe
namespace Go.Proofs.Ytcapgmoipacioaa.P
open Go.RowKit Go.Proofs.YtcapgmoipacioaaW.PrintWords Go.Proofs.YtcapgmoipacioaaW.PrintLast Go.Proofs.YtcapgmoipacioaaW.PrintMore
set_option linter.unusedVariables false
set_option linter.unusedSimpArgs false
theorem cc7 (k : Nat) (b : Bool) : code_Check.j7 (k + 1) b = some (if b = true then 80 else 0) := by rw [code_Check.j7]; split <;> rfl
def c6 (fl : Int) (b : Bool) : Bool := b || decide (fl < 0) || decide (7 < fl)
theorem cc6 (k : Nat) (b al : Bool) (s kd am fl : Int) : code_Check.j6 (k + 2) b s kd am fl al = some (if c6 fl b = true then 80 else 0) := by
  rw [code_Check.j6]; unfold c6
  cases b with
  | true => rw [if_pos rfl, cc7]; rfl
  | false =>
    rw [if_neg (by decide)]; by_cases h : fl < 0
    · rw [if_pos h, cc7, decide_eq_true h]; rfl
    · rw [if_neg h, cc7, decide_eq_false h]; rfl
def c5 (kd fl : Int) (b : Bool) : Bool := b || c6 fl (if kd = 3 then false else fl != 0)
theorem cc5 (k : Nat) (b al : Bool) (s kd am fl : Int) : code_Check.j5 (k + 3) b s kd am fl al = some (if c5 kd fl b = true then 80 else 0) := by
  rw [code_Check.j5]; unfold c5
  cases b with
  | true => rw [if_pos rfl]; rfl
  | false =>
    rw [if_neg (by decide), Bool.false_or]; by_cases h : kd = 3
    · rw [if_pos h, cc6, if_pos h]
    · rw [if_neg h, cc6, if_neg h]
def c4 (kd am fl : Int) (b : Bool) : Bool := b || c5 kd fl (if kd = 2 then am == 0 else false)
theorem cc4 (k : Nat) (b al : Bool) (s kd am fl : Int) : code_Check.j4 (k + 4) b s kd am fl al = some (if c4 kd am fl b = true then 80 else 0) := by
  rw [code_Check.j4]; unfold c4
  cases b with
  | true => rw [if_pos rfl]; rfl
  | false =>
    rw [if_neg (by decide), Bool.false_or]; by_cases h : kd = 2
    · rw [if_pos h, cc5, if_pos h]
    · rw [if_neg h, cc5, if_neg h]
def c3 (am : Int) (b : Bool) : Bool := b || decide (am < 0) || decide (999999000 < am) || (Int.tmod am 1000 != 0)
theorem cc3 (k : Nat) (b al : Bool) (s kd am fl : Int) : code_Check.j3 (k + 5) b s kd am fl al = some (if c4 kd am fl (c3 am b) = true then 80 else 0) := by
  rw [code_Check.j3]; unfold c3
  cases b with
  | true => rw [if_pos rfl, cc4]; rfl
  | false =>
    rw [if_neg (by decide), Bool.false_or]; by_cases h : am < 0
    · rw [if_pos h, cc4, decide_eq_true h]; rfl
    · rw [if_neg h, decide_eq_false h, Bool.false_or]; by_cases h2 : am > 999999000
      · rw [if_pos h2, cc4, decide_eq_true h2, Bool.true_or]
      · rw [if_neg h2, cc4, decide_eq_false h2, Bool.false_or]
def c2 (kd am fl : Int) (x : Bool) (b : Bool) : Bool := b || c4 kd am fl (c3 am (if x = true then false else am != 0))
theorem cc2 (k : Nat) (x b al : Bool) (s kd am fl : Int) : code_Check.j2 (k + 6) x b s kd am fl al = some (if c2 kd am fl x b = true then 80 else 0) := by
  rw [code_Check.j2]; unfold c2
  cases b with
  | true => rw [if_pos rfl]; rfl
  | false =>
    rw [if_neg (by decide), Bool.false_or]
    cases x with
    | true => rw [if_pos rfl, cc3]; rfl
    | false => rw [if_neg (by decide), cc3]; rfl
def codeM (s kd am fl : Int) : Int :=
  if s < 0 ∨ 7 < s then 81 else if c2 kd am fl (if kd = 1 then true else kd == 2) (decide (kd < 1) || decide (4 < kd)) = true then 80 else 0
theorem code_Check_is (k : Nat) (hk : 8 ≤ k) (s kd am fl : Int) (al : Bool) : code_Check.f k s kd am fl al = some (codeM s kd am fl) := by
  obtain ⟨k, rfl⟩ : ∃ m, k = m + 8 := ⟨k - 8, by omega⟩
  have h1 : ∀ x : Bool, code_Check.j1 (k + 7) x s kd am fl al = some (if c2 kd am fl x (decide (kd < 1) || decide (4 < kd)) = true then 80 else 0) := by
    intro x; rw [code_Check.j1]; by_cases h : kd < 1
    · rw [if_pos h, cc2, decide_eq_true h]; rfl
    · rw [if_neg h, cc2, decide_eq_false h, Bool.false_or]
  have h0 : ∀ b : Bool, code_Check.j0 (k + 8) b s kd am fl al = some (if b = true then 81 else if c2 kd am fl (if kd = 1 then true else kd == 2) (decide (kd < 1) || decide (4 < kd)) = true then 80 else 0) := by
    intro b; rw [code_Check.j0]
    cases b with
    | true => rw [if_pos rfl]; rfl
    | false =>
      simp only [Bool.false_eq_true, if_false]; by_cases h : kd = 1
      · simp only [if_pos h, h1]
      · simp only [if_neg h, h1]
  unfold code_Check.f codeM; by_cases h : s < 0
  · have q : s < 0 ∨ 7 < s := .inl h; simp only [if_pos h, h0, if_pos q, if_true]
  · rw [if_neg h, h0]; by_cases h2 : s > 7
    · have q : s < 0 ∨ 7 < s := .inr h2; simp only [decide_eq_true h2, if_pos q, if_true]
    · have q : ¬ (s < 0 ∨ 7 < s) := by omega
      simp only [decide_eq_false h2, if_neg q, Bool.false_eq_true, if_false]
theorem codeM_zero {s kd am fl : Int} (h : codeM s kd am fl = 0) : (0 ≤ s ∧ s ≤ 7) ∧ (1 ≤ kd ∧ kd ≤ 4) ∧ (0 ≤ am ∧ am ≤ 999999000) ∧ (0 ≤ fl ∧ fl ≤ 7) ∧ (kd ≠ 1 → kd ≠ 2 → am = 0) ∧ (kd ≠ 3 → fl = 0) ∧ (kd = 2 → am ≠ 0) := by
  unfold codeM at h; by_cases a : s < 0 ∨ 7 < s
  · rw [if_pos a] at h; cases h
  rw [if_neg a] at h
  cases b : c2 kd am fl (if kd = 1 then true else kd == 2) (decide (kd < 1) || decide (4 < kd)) with
  | true => rw [b, if_pos rfl] at h; cases h
  | false =>
    unfold c2 c3 c4 c5 c6 at b; simp only [Bool.or_eq_false_iff, decide_eq_false_iff_not, bne_eq_false_iff_eq] at b; obtain ⟨⟨k1, k2⟩, ⟨⟨⟨b1, b2⟩, b3⟩, b4⟩, b5, ⟨b6, b7⟩, b8⟩ := b; refine ⟨by omega, by omega, by omega, by omega, fun q1 q2 => ?_, fun q3 => ?_, fun q2 hz => ?_⟩
    · rw [if_neg q1, if_neg (by simpa using q2)] at b1
      simpa using b1
    · rw [if_neg q3] at b6
      simpa using b6
    · rw [if_pos q2] at b5; subst hz
      simp at b5
def partOk (n d : Int) : Bool := decide (0 ≤ n ∧ 1 ≤ d ∧ n ≤ d ∧ d ≤ 1048576)
theorem partOk_iff {n d : Int} : partOk n d = true ↔ 0 ≤ n ∧ 1 ≤ d ∧ n ≤ d ∧ d ≤ 1048576 := by unfold partOk; exact decide_eq_true_iff
theorem partOk_not {n d : Int} : partOk n d = false ↔ n < 0 ∨ d < 1 ∨ d < n ∨ 1048576 < d := by unfold partOk; rw [decide_eq_false_iff_not]; omega
def freeX (kd am n d : Int) : Int := if kd = 2 then -(Int.tdiv (am * n) d) else Int.tdiv (am * n) d
def freeM (s kd am fl n d : Int) : Int × Int := if codeM s kd am fl = 0 then (if partOk n d = true then (freeX kd am n d, 0) else (0, 1)) else (0, codeM s kd am fl)
theorem free_bd {kd am n d : Int} (h0 : 0 ≤ am) (h1 : am ≤ 999999000) (hp : partOk n d = true) : -999999000 ≤ freeX kd am n d ∧ freeX kd am n d ≤ 999999000 := by
  obtain ⟨a, b, c, e⟩ := partOk_iff.1 hp; have := sc_bd (x := am) (n := n) (d := d) h0 (by omega) a b c; unfold freeX
  split <;> omega
theorem code_Free_is (k : Nat) (hk : 9 ≤ k) (s kd am fl n d : Int) (al : Bool) : code_Free.f k s kd am fl al n d = some (freeM s kd am fl n d) := by
  obtain ⟨k, rfl⟩ : ∃ m, k = m + 1 := ⟨k - 1, by omega⟩; unfold code_Free.f freeM; rw [code_Check_is _ (by omega)]; simp only [Option.bind_some]; by_cases hc : codeM s kd am fl = 0
  · rw [if_pos hc, if_pos hc]; have hb := codeM_zero hc; have bad : code_Free.j0 (k + 1) n d true s kd am fl al = some (0, 1) := by rw [code_Free.j0]; rfl
    by_cases h0 : n < 0
    · rw [if_pos h0, bad, if_neg (by rw [partOk_not.2 (.inl h0)]; decide)]
    rw [if_neg h0]; by_cases h1 : d < 1
    · rw [if_pos h1, bad, if_neg (by rw [partOk_not.2 (.inr (.inl h1))]; decide)]
    rw [if_neg h1]; by_cases h2 : n > d
    · rw [if_pos h2, bad, if_neg (by rw [partOk_not.2 (.inr (.inr (.inl h2)))]; decide)]
    rw [if_neg h2]; by_cases h3 : d > 1048576
    · rw [decide_eq_true h3, bad, if_neg (by rw [partOk_not.2 (.inr (.inr (.inr h3)))]; decide)]
    have hp : partOk n d = true := partOk_iff.2 ⟨by omega, by omega, by omega, by omega⟩; rw [decide_eq_false h3, if_pos hp, code_Free.j0, if_neg (by decide), frac_Scale_is (by omega) (by omega) (by omega) (by omega) (by omega) (by omega) k (by omega)]; simp only [Option.bind_some]; have hs := sc_bd (x := am) (n := n) (d := d) (by omega) (by omega) (by omega) (by omega) (by omega); unfold freeX; by_cases h4 : kd = 2
    · rw [if_pos h4, if_pos h4, wrap_id (by omega) (by omega)]
    · rw [if_neg h4, if_neg h4]
  · rw [if_neg hc, if_neg hc]
def chargeM (s kd am fl x n d : Int) : Int × Int :=
  if (freeM s kd am fl n d).2 = 0 then (if kd = 4 then (if rightB x = true then (0, 0) else (0, 10)) else (mx 0 (subM x (freeM s kd am fl n d).1).1, (subM x (freeM s kd am fl n d).1).2)) else (0, (freeM s kd am fl n d).2)
theorem code_Charge_is (k : Nat) (hk : 9 ≤ k) (s kd am fl x n d : Int) (al : Bool) : code_Charge.f k s kd am fl al x n d = some (chargeM s kd am fl x n d) := by
  unfold code_Charge.f chargeM; rw [code_Free_is k hk]; simp only [Option.bind_some]; by_cases h : (freeM s kd am fl n d).2 = 0
  · rw [if_pos h, if_pos h]; by_cases h4 : kd = 4
    · rw [if_pos h4, if_pos h4, money_Right_one x k (by omega)]; simp only [Option.bind_some]
      split <;> rfl
    · rw [if_neg h4, if_neg h4, money_Sub_is _ _ k (by omega)]
      rfl
  · rw [if_neg h, if_neg h]
def fitsM (l : List (List S106)) (s kd am fl : Int) : Int :=
  if codeM s kd am fl = 0 then (if s ≥ (l.length : Int) then 81 else if kd = 3 ∧ fl ≥ ((rd_L3 l s).length : Int) then 80 else 0) else codeM s kd am fl
theorem table_Fits_is (k : Nat) (hk : 9 ≤ k) (l : List (List S106)) (l1 : List S120) (l2 : List S209) (x3 x4 s kd am fl : Int) (al : Bool) : table_Fits.f k l l1 l2 x3 x4 s kd am fl al = some (fitsM l s kd am fl) := by
  obtain ⟨k, rfl⟩ : ∃ m, k = m + 1 := ⟨k - 1, by omega⟩; unfold table_Fits.f fitsM; rw [code_Check_is _ (by omega)]; simp only [Option.bind_some]; by_cases hc : codeM s kd am fl = 0
  · rw [if_pos hc, if_pos hc]; have hb := codeM_zero hc; by_cases h1 : s ≥ (l.length : Int)
    · rw [if_pos h1, if_pos h1]
    rw [if_neg h1, if_neg h1]; by_cases h3 : kd = 3
    · rw [if_pos h3, if_pos (by omega), if_pos (by omega), table_Fits.j0]; by_cases h4 : fl ≥ ((rd_L3 l s).length : Int)
      · rw [decide_eq_true h4, if_pos rfl, if_pos ⟨h3, h4⟩]
      · rw [decide_eq_false h4, if_neg (by decide), if_neg (fun q => h4 q.2)]
    · rw [if_neg h3, table_Fits.j0, if_neg (by decide), if_neg (fun q => h3 q.1)]
  · rw [if_neg hc, if_neg hc]
theorem fitsM_zero {l : List (List S106)} {s kd am fl : Int} (h : fitsM l s kd am fl = 0) : codeM s kd am fl = 0 ∧ s < (l.length : Int) ∧ (kd = 3 → fl < ((rd_L3 l s).length : Int)) := by
  unfold fitsM at h; by_cases hc : codeM s kd am fl = 0
  · rw [if_pos hc] at h; by_cases h1 : s ≥ (l.length : Int)
    · rw [if_pos h1] at h; cases h
    rw [if_neg h1] at h; by_cases h3 : kd = 3 ∧ fl ≥ ((rd_L3 l s).length : Int)
    · rw [if_pos h3] at h; cases h
    exact ⟨hc, by omega, fun q => by have : ¬ fl ≥ ((rd_L3 l s).length : Int) := fun z => h3 ⟨q, z⟩; omega⟩
  · rw [if_neg hc] at h; exact absurd h hc
end Go.Proofs.Ytcapgmoipacioaa.P
