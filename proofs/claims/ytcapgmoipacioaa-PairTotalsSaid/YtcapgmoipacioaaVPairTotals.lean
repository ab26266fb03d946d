import Derived.Test.YtcapgmoipacioaaU5
import Derived.Test.YtcapgmoipacioaaR1
import Derived.Test.YtcapgmoipacioaaPlPairTotals
namespace Go.Proofs.Ytcapgmoipacioaa.P
open Go.RowKit Go.Proofs.YtcapgmoipacioaaW.PrintWords Go.Proofs.YtcapgmoipacioaaW.PrintLast Go.Proofs.YtcapgmoipacioaaW.PrintMore
set_option linter.unusedVariables false
set_option linter.unusedSimpArgs false
theorem PairTotals_l0 : ∀ (suf pre : List S36) (a b r0 r1 c : Int) (k : Nat), rightB a = true → rightB b = true → totS a b suf = (r0, r1, c) → 4 * suf.length + 1 ≤ k → (pre ++ suf).length < 4611686018427387904 →
    stipendlaw06_PairTotals.l0 k c a b (pre ++ suf) ((pre ++ suf).length : Int) (pre.length : Int) r0 r1 = some true
  | [], pre, a, b, r0, r1, c, k, ha, hb, ht, hk, hl => by
    obtain ⟨k, rfl⟩ : ∃ m, k = m + 1 := ⟨k - 1, by omega⟩
    simp only [totS, Prod.mk.injEq] at ht
    obtain ⟨rfl, rfl, rfl⟩ := ht
    simp only [stipendlaw06_PairTotals.l0, List.append_nil, Int.lt_irrefl, if_false]
    simp
  | x :: suf, pre, a, b, r0, r1, c, k, ha, hb, ht, hk, hl => by
    simp only [List.length_cons] at hk
    obtain ⟨k, rfl⟩ : ∃ m, k = m + 4 := ⟨k - 4, by omega⟩
    have hlen : (pre ++ x :: suf).length = pre.length + suf.length + 1 := by simp; omega
    have hlt : (pre.length : Int) < ((pre ++ x :: suf).length : Int) := by omega
    have e1 : pre ++ [x] ++ suf = pre ++ x :: suf := by simp
    have e2 : ((pre ++ [x]).length : Int) = (pre.length : Int) + 1 := by simp
    have hw : wrap64 ((pre.length : Int) + 1) = (pre.length : Int) + 1 := wrap_id (by omega) (by omega)
    simp only [stipendlaw06_PairTotals.l0]
    rw [if_pos hlt, if_pos (by omega), if_pos hlt, rd36_mid]
    have key : okS a b x = false → c = 10 ∧ r0 = 0 ∧ r1 = 0 := by
      intro hf
      rw [totS, hf, if_neg (by decide)] at ht
      simp only [Prod.mk.injEq] at ht
      exact ⟨ht.2.2.symm, ht.1.symm, ht.2.1.symm⟩
    have bad : ∀ (p : Prop) [Decidable p], okS a b x = false → (if c = 10 then (some (r0 == 0 && (r1 == 0))) else none) = some true := by
      intro p _ hf
      obtain ⟨rfl, rfl, rfl⟩ := key hf
      rfl
    have w1 : wrap64 (0 + 1) = 1 := wrap_id (by omega) (by omega)
    have w2 : wrap64 (1 + 1) = 2 := wrap_id (by omega) (by omega)
    have s0 : sel2 0 x.f0 x.f1 = x.f0 := rfl
    have s1 : sel2 1 x.f0 x.f1 = x.f1 := rfl
    by_cases h0 : x.f0 > 100000000000
    · have hf : okS a b x = false := by unfold okS; rw [rightB_not.2 (.inr h0)]; rfl
      obtain ⟨rfl, rfl, rfl⟩ := key hf
      rw [stipendlaw06_PairTotals.l1, if_pos (by omega), if_pos (by omega), s0, if_pos h0]; rfl
    by_cases h1 : x.f0 < -100000000000
    · have hf : okS a b x = false := by unfold okS; rw [rightB_not.2 (.inl h1)]; rfl
      obtain ⟨rfl, rfl, rfl⟩ := key hf
      rw [stipendlaw06_PairTotals.l1, if_pos (by omega), if_pos (by omega), s0, if_neg h0, if_pos h1]; rfl
    rw [stipendlaw06_PairTotals.l1, if_pos (by omega), if_pos (by omega), s0, if_neg h0, if_neg h1, w1]
    rw [stipendlaw06_PairTotals.l1, if_pos (by omega), if_pos (by omega), s1]
    by_cases h2 : x.f1 > 100000000000
    · have hf : okS a b x = false := by unfold okS; rw [rightB_not.2 (.inr h2)]; simp
      obtain ⟨rfl, rfl, rfl⟩ := key hf
      rw [if_pos h2]; rfl
    rw [if_neg h2]
    by_cases h3 : x.f1 < -100000000000
    · have hf : okS a b x = false := by unfold okS; rw [rightB_not.2 (.inl h3)]; simp
      obtain ⟨rfl, rfl, rfl⟩ := key hf
      rw [if_pos h3]; rfl
    rw [if_neg h3, w2]
    have ba := rightB_iff.1 ha
    have bb := rightB_iff.1 hb
    have wa : wrap64 (a + x.f0) = a + x.f0 := wrap_id (by omega) (by omega)
    have wb : wrap64 (b + x.f1) = b + x.f1 := wrap_id (by omega) (by omega)
    rw [stipendlaw06_PairTotals.l1, if_neg (by omega), wa, wb]
    by_cases h4 : a + x.f0 > 100000000000
    · have hf : okS a b x = false := by unfold okS; rw [rightB_not.2 (.inr h4)]; simp
      obtain ⟨rfl, rfl, rfl⟩ := key hf
      rw [if_pos h4]; rfl
    rw [if_neg h4]
    by_cases h5 : a + x.f0 < -100000000000
    · have hf : okS a b x = false := by unfold okS; rw [rightB_not.2 (.inl h5)]; simp
      obtain ⟨rfl, rfl, rfl⟩ := key hf
      rw [if_pos h5]; rfl
    rw [if_neg h5]
    by_cases h6 : b + x.f1 > 100000000000
    · have hf : okS a b x = false := by unfold okS; rw [rightB_not.2 (.inr h6)]; simp
      obtain ⟨rfl, rfl, rfl⟩ := key hf
      rw [if_pos h6]; rfl
    rw [if_neg h6]
    by_cases h7 : b + x.f1 < -100000000000
    · have hf : okS a b x = false := by unfold okS; rw [rightB_not.2 (.inl h7)]; simp
      obtain ⟨rfl, rfl, rfl⟩ := key hf
      rw [if_pos h7]; rfl
    rw [if_neg h7, hw]
    have r4 : rightB (a + x.f0) = true := rightB_iff.2 ⟨by omega, by omega⟩
    have r6 : rightB (b + x.f1) = true := rightB_iff.2 ⟨by omega, by omega⟩
    have hok : okS a b x = true := by unfold okS; rw [r4, r6, rightB_iff.2 ⟨by omega, by omega⟩, rightB_iff.2 ⟨by omega, by omega⟩]; rfl
    rw [totS, if_pos hok] at ht
    have ih := PairTotals_l0 suf (pre ++ [x]) (a + x.f0) (b + x.f1) r0 r1 c k r4 r6 ht (by omega) (by rw [e1]; exact hl)
    rw [e1, e2] at ih
    exact ih
theorem PairTotals_all (l : List S36) (k : Nat) (hk : 300 ≤ k) : stipendlaw06_PairTotals.f k l = some true := by
  unfold stipendlaw06_PairTotals.f
  simp only [stipendlaw06_both.f, Option.bind_some, if_true]
  by_cases h : (l.length : Int) > 50
  · rw [if_pos h]
  · rw [if_neg h, pair_Total_is l k (by omega) (by omega)]
    simp only [Option.bind_some]
    have := PairTotals_l0 l [] 0 0 _ _ _ k (by decide) (by decide) rfl (by omega) (by simp; omega)
    rw [List.nil_append] at this
    exact this
theorem PairTotals_pure (l : List S36) (_ : ∀ a ∈ l, W36 a) : ∃ k, stipendlaw06_PairTotals.f k l = some true := ⟨300, PairTotals_all l 300 (Nat.le_refl _)⟩
end Go.Proofs.Ytcapgmoipacioaa.P
