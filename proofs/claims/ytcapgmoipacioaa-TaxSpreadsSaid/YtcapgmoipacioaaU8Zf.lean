import Derived.Test.YtcapgmoipacioaaU6Zf
import Derived.Test.YtcapgmoipacioaaU7Zf
namespace Go.Proofs.Ytcapgmoipacioaa.P
open Go.RowKit Go.Proofs.YtcapgmoipacioaaW.PrintWords Go.Proofs.YtcapgmoipacioaaW.PrintLast Go.Proofs.YtcapgmoipacioaaW.PrintMore
set_option linter.unusedVariables false
set_option linter.unusedSimpArgs false
def wL (x : Int) : List S106 → Int
  | [] => 0
  | [b] => mx 0 (x - b.f0) * b.f1
  | b :: c :: t => mx 0 (mn x c.f0 - b.f0) * b.f1 + wL x (c :: t)
def scF (n d : Int) (b : S106) : Int := Int.tdiv (b.f0 * n) d
def refT (x n d : Int) : List S106 → Int
  | [] => 0
  | [b] => mx 0 (x - scF n d b) * b.f1
  | b :: c :: t => mx 0 (mn x (scF n d c) - scF n d b) * b.f1 + refT x n d (c :: t)
theorem wL_keep (x n d : Int) : ∀ l : List S106, wL x (keepS n d l) = refT x n d l
  | [] => rfl
  | [b] => rfl
  | b :: c :: t => by
    have ih := wL_keep x n d (c :: t)
    rw [keepS, refT]
    by_cases h : Int.tdiv (c.f0 * n) d = Int.tdiv (b.f0 * n) d
    · rw [if_pos h, ih]
      have : mx 0 (mn x (scF n d c) - scF n d b) = 0 := by unfold scF; rw [h]; unfold mx mn; repeat' split; all_goals omega
      rw [this, Int.zero_mul, Int.zero_add]
    · rw [if_neg h]
      obtain ⟨e, r, h1, h2⟩ := keepS_head n d t c
      rw [h1] at ih ⊢
      rw [wL, ih, h2]
      rfl
theorem wsum_L (x : Int) (suf : List S106) : ∀ (pre l : List S106), l = pre ++ suf → wsum S106.f1 x l suf.length (pre.length : Int) = wL x suf := by
  induction suf with
  | nil => intro pre l hl; rfl
  | cons b t ih =>
    intro pre l hl
    subst hl
    have e1 : pre ++ [b] ++ t = pre ++ b :: t := by simp
    have e2 : ((pre ++ [b]).length : Int) = (pre.length : Int) + 1 := by simp
    have h1 := ih (pre ++ [b]) (pre ++ b :: t) e1.symm
    rw [e2] at h1
    rw [List.length_cons, wsum, h1, rd106_mid]
    cases t with
    | nil =>
      rw [wL, wL, Int.add_zero]
      unfold wdt
      rw [if_neg (by simp), rd106_mid]
    | cons c t =>
      rw [wL]
      unfold wdt
      rw [if_pos (by simp; omega), rd106_mid, rd106_next]
theorem ex_L {x : Int} {l : List S106} (h : Good l) : exFrom S106.f1 x l l.length 0 0 = wL x l := by
  rw [exFrom_wsum h _ 0 0 (by omega) (by simp), Int.zero_add]
  exact wsum_L x l [] l rfl
theorem ex_keep {x n d : Int} {l : List S106} (h : Good l) (hn : 0 ≤ n) (hd : 1 ≤ d) (hnd : n ≤ d) : exFrom S106.f1 x (keepS n d l) (keepS n d l).length 0 0 = refT x n d l := by
  rw [ex_L (keepS_good h hn hd hnd), wL_keep]
end Go.Proofs.Ytcapgmoipacioaa.P
