import Derived.Test.YtcapgmoipacioaaU4Zc
import Derived.Test.YtcapgmoipacioaaR1Zc
import Derived.Test.YtcapgmoipacioaaPtZc
import Derived.Test.YtcapgmoipacioaaPpbandZc
import Derived.Test.YtcapgmoipacioaaHexactZc
namespace Go.Proofs.Ytcapgmoipacioaa.P
open Go.RowKit Go.Proofs.YtcapgmoipacioaaW.PrintWords Go.Proofs.YtcapgmoipacioaaW.PrintLast Go.Proofs.YtcapgmoipacioaaW.PrintMore
set_option linter.unusedVariables false
set_option linter.unusedSimpArgs false
theorem corners_l0 (suf : List S106) : ∀ (pre l : List S106) (ys : List Int) (k : Nat), l = pre ++ suf → l.length ≤ 8 → 0 < pre.length → ys.length ≤ 8 - suf.length → suf.length + 1 ≤ k →
    band_Corners.l0 k ys l (l.length : Int) (pre.length : Int) = some (ys ++ suf.map S106.f0) := by
  induction suf with
  | nil =>
    intro pre l ys k el hl hp hy hk
    obtain ⟨k, rfl⟩ : ∃ m, k = m + 1 := ⟨k - 1, by omega⟩
    subst el
    rw [band_Corners.l0, if_neg (by simp)]
    simp
  | cons c t IH =>
    intro pre l ys k el hl hp hy hk
    simp only [List.length_cons] at hk hy
    obtain ⟨k, rfl⟩ : ∃ m, k = m + 1 := ⟨k - 1, by omega⟩
    have hle : l.length = pre.length + t.length + 1 := by rw [el]; simp; omega
    have hat : rd_T106 l (pre.length : Int) = c := by rw [el]; exact rd106_mid pre _ c
    have hw : wrap64 ((pre.length : Int) + 1) = (pre.length : Int) + 1 := wrap_id (by omega) (by omega)
    have := IH (pre ++ [c]) l (ys ++ [c.f0]) k (by rw [el]; simp) hl (by simp) (by simp; omega) (by omega)
    rw [show (((pre ++ [c]).length : Nat) : Int) = (pre.length : Int) + 1 by simp] at this
    rw [band_Corners.l0, hat, if_pos (by omega), if_pos (by omega), if_pos (by omega), if_pos (by omega), if_pos (by omega), hw, this]
    simp
theorem corners_is {b : S106} {t : List S106} (hl : (b :: t).length ≤ 8) (k : Nat) (hk : 10 ≤ k) : band_Corners.f k (b :: t) = some (t.map S106.f0) := by
  obtain ⟨k, rfl⟩ : ∃ m, k = m + 1 := ⟨k - 1, by omega⟩
  have := corners_l0 t [b] (b :: t) [] k rfl hl (by simp) (by simp) (by simp at hl; omega)
  have hw : wrap64 (0 + 1) = 1 := wrap_id (by omega) (by omega)
  unfold band_Corners.f
  rw [band_Corners.l0, if_pos (by simp), if_pos (by omega), if_pos (by simp), if_neg (by omega), hw]
  exact this
end Go.Proofs.Ytcapgmoipacioaa.P
