/- pair.Total over lists of shares: both sums, or the error. -/
import Derived.Test.YtcapgmoipacioaaU1
import Derived.Test.YtcapgmoipacioaaPppair
namespace Go.Proofs.Ytcapgmoipacioaa.P
open Go.RowKit Go.Proofs.YtcapgmoipacioaaW.PrintWords Go.Proofs.YtcapgmoipacioaaW.PrintLast Go.Proofs.YtcapgmoipacioaaW.PrintMore
set_option linter.unusedVariables false
set_option linter.unusedSimpArgs false
theorem rd36_mid (pre suf : List S36) (x : S36) : rd_T36 (pre ++ x :: suf) (pre.length : Int) = x := by
  unfold rd_T36
  simp [List.getD_eq_getElem?_getD]
def okS (a b : Int) (s : S36) : Bool := rightB s.f0 && rightB (a + s.f0) && (rightB s.f1 && rightB (b + s.f1))
def totS (a b : Int) : List S36 → Int × Int × Int
  | [] => (a, b, 0)
  | s :: t => if okS a b s = true then totS (a + s.f0) (b + s.f1) t else (0, 0, 10)
theorem addM_in {a b : Int} (h : rightB a = true) : addM a b = if (rightB b && rightB (a + b)) = true then (a + b, 0) else (0, 10) := by
  unfold addM checkM
  rw [h]
  cases rightB b <;> cases rightB (a + b) <;> simp
theorem pair_Total_l0 : ∀ (suf pre : List S36) (a b : Int) (k : Nat), rightB a = true → rightB b = true → suf.length + 6 ≤ k → (pre ++ suf).length < 4611686018427387904 →
    pair_Total.l0 k (pre ++ suf) ((pre ++ suf).length : Int) (pre.length : Int) a b = some (totS a b suf)
  | [], pre, a, b, k, ha, hb, hk, hl => by
    obtain ⟨k, rfl⟩ : ∃ m, k = m + 1 := ⟨k - 1, by simp at hk; omega⟩
    simp only [pair_Total.l0, List.append_nil, Int.lt_irrefl, if_false, totS]
  | x :: suf, pre, a, b, k, ha, hb, hk, hl => by
    simp only [List.length_cons] at hk
    obtain ⟨k, rfl⟩ : ∃ m, k = m + 1 := ⟨k - 1, by omega⟩
    have hlen : (pre ++ x :: suf).length = pre.length + suf.length + 1 := by simp; omega
    have hlt : (pre.length : Int) < ((pre ++ x :: suf).length : Int) := by omega
    have e1 : pre ++ [x] ++ suf = pre ++ x :: suf := by simp
    have e2 : ((pre ++ [x]).length : Int) = (pre.length : Int) + 1 := by simp
    have hw : wrap64 ((pre.length : Int) + 1) = (pre.length : Int) + 1 := wrap_id (by omega) (by omega)
    simp only [pair_Total.l0]
    rw [if_pos hlt, if_pos (by omega), if_pos hlt, rd36_mid, money_Add_is _ _ k (by omega), addM_in ha]
    simp only [Option.bind_some]
    unfold totS okS
    cases h1 : rightB x.f0 && rightB (a + x.f0) with
    | false => simp
    | true =>
      simp only [if_true]
      rw [money_Add_is _ _ k (by omega), addM_in hb]
      simp only [Option.bind_some]
      cases h2 : rightB x.f1 && rightB (b + x.f1) with
      | false => simp
      | true =>
        simp only [Bool.and_eq_true] at h1 h2
        have ih := pair_Total_l0 suf (pre ++ [x]) (a + x.f0) (b + x.f1) k h1.2 h2.2 (by omega) (by rw [e1]; exact hl)
        rw [e1, e2] at ih
        simp only [if_true, Bool.and_self, hw]
        exact ih
theorem pair_Total_is (l : List S36) (k : Nat) (hk : l.length + 6 ≤ k) (hl : l.length < 4611686018427387904) : pair_Total.f k l = some (totS 0 0 l) :=
  pair_Total_l0 l [] 0 0 k (by decide) (by decide) hk (by simpa using hl)
end Go.Proofs.Ytcapgmoipacioaa.P
