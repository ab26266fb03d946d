import Derived.Test.YtcapgmoipacioaaHexactZg
import Derived.Test.YtcapgmoipacioaaPtZg
import Derived.Test.YtcapgmoipacioaaPpbandZg
namespace Go.Proofs.Ytcapgmoipacioaa.P
open Go.RowKit Go.Proofs.YtcapgmoipacioaaW.PrintWords Go.Proofs.YtcapgmoipacioaaW.PrintLast Go.Proofs.YtcapgmoipacioaaW.PrintMore
set_option linter.unusedVariables false
set_option linter.unusedSimpArgs false
def wsum (g : S106 → Int) (x : Int) (l : List S106) : Nat → Int → Int
  | 0, _ => 0
  | n + 1, i => wdt x l i * g (rd_T106 l i) + wsum g x l n (i + 1)
theorem wdt_zero {x : Int} {l : List S106} {i : Int} (h : x ≤ (rd_T106 l i).f0) : wdt x l i = 0 := by
  unfold wdt mx mn
  repeat' split
  all_goals omega
theorem wsum_zero {g : S106 → Int} {x : Int} {l : List S106} (h : Good l) : ∀ (n : Nat) (i : Int), 0 ≤ i → i + n = (l.length : Int) → (0 < n → x ≤ (rd_T106 l i).f0) → wsum g x l n i = 0
  | 0, _, _, _, _ => rfl
  | n + 1, i, h0, hn, hx => by
    have hx := hx (by omega)
    have ih := wsum_zero (g := g) h n (i + 1) (by omega) (by omega) (fun hn0 => by
      have := (h.bd (i := i + 1) (by omega) (by omega)).2.2.2.1 (by omega)
      rw [show i + 1 - 1 = i from by omega] at this
      exact Int.le_trans hx (Int.le_of_lt this))
    rw [wsum, wdt_zero hx, ih]; simp
theorem exFrom_wsum {g : S106 → Int} {x : Int} {l : List S106} (h : Good l) : ∀ (n : Nat) (i acc : Int), 0 ≤ i → i + n = (l.length : Int) → exFrom g x l n i acc = acc + wsum g x l n i
  | 0, _, acc, _, _ => by simp [exFrom, wsum]
  | n + 1, i, acc, h0, hn => by
    by_cases c : x ≤ (rd_T106 l i).f0
    · rw [exFrom, if_pos c, wsum_zero h (n + 1) i h0 hn (fun _ => c)]; omega
    · rw [exFrom, if_neg c, exFrom_wsum h n (i + 1) _ (by omega) (by omega), wsum]; omega
def over (x : Int) (l : List S106) (i : Int) : Int := if i < (l.length : Int) then mx 0 (x - (rd_T106 l i).f0) else 0
theorem wdt_over {x : Int} {l : List S106} (h : Good l) {i : Int} (h0 : 0 ≤ i) (h1 : i < (l.length : Int)) : wdt x l i = over x l i - over x l (i + 1) := by
  unfold over wdt; rw [if_pos h1]; by_cases c : i + 1 < (l.length : Int)
  · have hup := (h.bd (i := i + 1) (by omega) c).2.2.2.1 (by omega); rw [show i + 1 - 1 = i by omega] at hup; rw [if_pos c, if_pos c]; unfold mx mn
    repeat' split
    all_goals omega
  · rw [if_neg c, if_neg c]; omega
theorem wdt_mono {x y : Int} {l : List S106} (hxy : x ≤ y) (i : Int) : wdt x l i ≤ wdt y l i := by
  unfold wdt mx mn
  repeat' split
  all_goals omega
theorem wsum_rise {g : S106 → Int} {x y T : Int} {l : List S106} (h : Good l) (hxy : x ≤ y) (hT : ∀ i : Int, 0 ≤ i → i < l.length → 0 ≤ g (rd_T106 l i) ∧ g (rd_T106 l i) ≤ T) :
    ∀ (n : Nat) (i : Int), 0 ≤ i → i + n = (l.length : Int) → wsum g x l n i ≤ wsum g y l n i ∧ wsum g y l n i - wsum g x l n i ≤ (over y l i - over x l i) * T
  | 0, i, h0, hn => by
    unfold over wsum
    rw [if_neg (by omega), if_neg (by omega)]; simp
  | n + 1, i, h0, hn => by
    have hi : i < (l.length : Int) := by omega
    obtain ⟨a, b⟩ := wsum_rise h hxy hT n (i + 1) (by omega) (by omega)
    have ⟨g0, gT⟩ := hT i h0 hi
    have wm := wdt_mono (l := l) hxy i
    have e1 := wdt_over (x := x) h h0 hi
    have e2 := wdt_over (x := y) h h0 hi
    simp only [wsum]
    generalize g (rd_T106 l i) = r at *
    generalize wdt x l i = u at *
    generalize wdt y l i = v at *
    have m1 : u * r ≤ v * r := Int.mul_le_mul_of_nonneg_right wm g0
    have m2 : (v - u) * r ≤ (v - u) * T := Int.mul_le_mul_of_nonneg_left gT (by omega)
    have e3 : (over y l i - over x l i) = (v - u) + (over y l (i + 1) - over x l (i + 1)) := by omega
    rw [e3, Int.add_mul]
    have e4 : (v - u) * r = v * r - u * r := Int.sub_mul _ _ _
    omega
theorem over_zero {x : Int} {l : List S106} (h : Good l) : over x l 0 = mx 0 x := by
  unfold over; have hp := h.pos; rw [if_pos (by omega), (h.bd (i := 0) (by omega) (by omega)).2.2.1 rfl]
  simp
theorem ex_rise {g : S106 → Int} {x y T : Int} {l : List S106} (h : Good l) (hxy : x ≤ y) (hT : ∀ i : Int, 0 ≤ i → i < l.length → 0 ≤ g (rd_T106 l i) ∧ g (rd_T106 l i) ≤ T) :
    exFrom g x l l.length 0 0 ≤ exFrom g y l l.length 0 0 ∧ exFrom g y l l.length 0 0 - exFrom g x l l.length 0 0 ≤ (mx 0 y - mx 0 x) * T := by
  rw [exFrom_wsum h _ 0 0 (by omega) (by omega), exFrom_wsum h _ 0 0 (by omega) (by omega), ← over_zero h, ← over_zero h]; have := wsum_rise h hxy hT l.length 0 (by omega) (by omega)
  omega
theorem ex_none {g : S106 → Int} {x : Int} {l : List S106} (h : Good l) (hx : x ≤ 0) : exFrom g x l l.length 0 0 = 0 := by
  rw [exFrom_wsum h _ 0 0 (by omega) (by omega), wsum_zero h _ 0 (by omega) (by omega) (fun _ => by have := h.pos; rw [(h.bd (i := 0) (by omega) (by omega)).2.2.1 rfl]; exact hx)]
  rfl
theorem ex_bound {g : S106 → Int} {x : Int} {l : List S106} (h : Good l) (hg : ∀ i : Int, 0 ≤ i → i < l.length → 0 ≤ g (rd_T106 l i) ∧ g (rd_T106 l i) ≤ 10000) (hx : rightB x = true) : 0 ≤ exFrom g x l l.length 0 0 ∧ exFrom g x l l.length 0 0 ≤ 1000000000000000 := by
  have hx := rightB_iff.1 hx; by_cases c : x ≤ 0
  · rw [ex_none h c]; omega
  · have := ex_rise (T := 10000) h (show (0 : Int) ≤ x by omega) hg; rw [ex_none h (Int.le_refl 0)] at this; have e : (mx 0 x - mx 0 0) = x := by unfold mx; split <;> split <;> omega
    rw [e] at this
    omega
end Go.Proofs.Ytcapgmoipacioaa.P
