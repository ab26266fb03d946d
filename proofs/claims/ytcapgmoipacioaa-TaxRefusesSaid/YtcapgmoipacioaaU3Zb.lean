import Derived.Test.YtcapgmoipacioaaHexactZb
import Derived.Test.YtcapgmoipacioaaPtZb
import Derived.Test.YtcapgmoipacioaaPpbandZb
namespace Go.Proofs.Ytcapgmoipacioaa.P
open Go.RowKit Go.Proofs.YtcapgmoipacioaaW.PrintWords Go.Proofs.YtcapgmoipacioaaW.PrintLast Go.Proofs.YtcapgmoipacioaaW.PrintMore
set_option linter.unusedVariables false
set_option linter.unusedSimpArgs false
theorem eachM_good {g : S106 → Int} {x : Int} {l : List S106} (h : Good l) (hx : rightB x = true) : eachM g x l = (exFrom g x l l.length 0 0, 0) := by
  unfold eachM; rw [if_pos (good_iff.2 h), if_pos hx]
theorem rd106_mid (pre suf : List S106) (x : S106) : rd_T106 (pre ++ x :: suf) (pre.length : Int) = x := by
  unfold rd_T106
  simp [List.getD_eq_getElem?_getD]
def wsum (g : S106 → Int) (x : Int) (l : List S106) : Nat → Int → Int
  | 0, _ => 0
  | n + 1, i => wdt x l i * g (rd_T106 l i) + wsum g x l n (i + 1)
theorem wdt_zero {x : Int} {l : List S106} {i : Int} (h : x ≤ (rd_T106 l i).f0) : wdt x l i = 0 := by
  unfold wdt mx mn
  repeat' split
  all_goals omega
theorem wsum_zero {g : S106 → Int} {x : Int} {l : List S106} (h : Good l) : ∀ (n : Nat) (i : Int), 0 ≤ i → i + n = (l.length : Int) → (0 < n → x ≤ (rd_T106 l i).f0) → wsum g x l n i = 0
  | 0, _, _, _, _ => rfl
  | n + 1, i, h0, hn, hx => by
    have hx := hx (by omega)
    have ih := wsum_zero (g := g) h n (i + 1) (by omega) (by omega) (fun hn0 => by
      have := (h.bd (i := i + 1) (by omega) (by omega)).2.2.2.1 (by omega)
      rw [show i + 1 - 1 = i from by omega] at this
      exact Int.le_trans hx (Int.le_of_lt this))
    rw [wsum, wdt_zero hx, ih]; simp
theorem exFrom_wsum {g : S106 → Int} {x : Int} {l : List S106} (h : Good l) : ∀ (n : Nat) (i acc : Int), 0 ≤ i → i + n = (l.length : Int) → exFrom g x l n i acc = acc + wsum g x l n i
  | 0, _, acc, _, _ => by simp [exFrom, wsum]
  | n + 1, i, acc, h0, hn => by
    by_cases c : x ≤ (rd_T106 l i).f0
    · rw [exFrom, if_pos c, wsum_zero h (n + 1) i h0 hn (fun _ => c)]; omega
    · rw [exFrom, if_neg c, exFrom_wsum h n (i + 1) _ (by omega) (by omega), wsum]; omega
def over (x : Int) (l : List S106) (i : Int) : Int := if i < (l.length : Int) then mx 0 (x - (rd_T106 l i).f0) else 0
end Go.Proofs.Ytcapgmoipacioaa.P
