import Derived.Test.YtcapgmoipacioaaU10Zc
import Derived.Test.YtcapgmoipacioaaVBandJoinsZc
import Derived.Test.YtcapgmoipacioaaPptaxCornersZc
import Derived.Test.YtcapgmoipacioaaPptaxRateZc
namespace Go.Proofs.Ytcapgmoipacioaa.P
open Go.RowKit Go.Proofs.YtcapgmoipacioaaW.PrintWords Go.Proofs.YtcapgmoipacioaaW.PrintLast Go.Proofs.YtcapgmoipacioaaW.PrintMore
set_option linter.unusedVariables false
set_option linter.unusedSimpArgs false
def cornersM (L : List (List S106)) (s kd am fl n d : Int) : List Int × Int :=
  if fitsM L s kd am fl = 0 then
    (if partOk n d = true then (if kd = 4 then ([], 0) else if kd = 3 then ([0], 0) else (freeX kd am n d :: ((keepS n d (rd_L3 L s)).tail.map fun b => b.f0 + freeX kd am n d), 0)) else ([], 1))
  else ([], fitsM L s kd am fl)
theorem tcor_l0 (f : Int) (hf : -999999000 ≤ f ∧ f ≤ 999999000) (suf : List Int) : ∀ (pre l acc : List Int) (k : Nat), l = pre ++ suf → l.length ≤ 8 → (∀ x ∈ l, 0 ≤ x ∧ x ≤ 100000000000) → acc.length ≤ pre.length + 1 → suf.length + 1 ≤ k →
    tax_Corners.l0 k f acc l (l.length : Int) (pre.length : Int) = some (acc ++ suf.map (fun x => x + f), 0) := by
  induction suf with
  | nil =>
    intro pre l acc k hl h8 hb ha hk
    obtain ⟨k, rfl⟩ : ∃ m, k = m + 1 := ⟨k - 1, by omega⟩
    rw [tax_Corners.l0, if_neg (by rw [hl]; simp)]
    simp
  | cons x t ih =>
    intro pre l acc k hl h8 hb ha hk
    simp only [List.length_cons] at hk
    obtain ⟨k, rfl⟩ : ∃ m, k = m + 1 := ⟨k - 1, by omega⟩
    have hlen : l.length = pre.length + (t.length + 1) := by rw [hl]; simp
    have e1 : l = pre ++ [x] ++ t := by rw [hl]; simp
    have e2 : ((pre ++ [x]).length : Int) = (pre.length : Int) + 1 := by simp
    have hr : rd l (pre.length : Int) = x := by rw [hl]; exact rd_mid pre t x
    have hx := hb x (by rw [hl]; simp)
    rw [tax_Corners.l0, if_pos (by omega), if_pos (by omega), if_pos (by omega), if_pos (by omega), hr, wrap_id (x := x + f) (by omega) (by omega), wrap_id (x := (pre.length : Int) + 1) (by omega) (by omega)]
    have := ih (pre ++ [x]) l (acc ++ [x + f]) k e1 h8 hb (by simp; omega) (by omega)
    rw [e2] at this
    rw [this]
    simp
theorem tax_Corners_is {L : List (List S106)} {l1 : List S120} {l2 : List S209} {a3 a4 : Int} (ht : TblOk L l1 a3 a4) (k : Nat) (hk : 30 ≤ k) (s kd am fl n d : Int) (al : Bool) :
    tax_Corners.f k L l1 l2 a3 a4 s kd am fl al n d = some (cornersM L s kd am fl n d) := by
  obtain ⟨k, rfl⟩ : ∃ m, k = m + 1 := ⟨k - 1, by omega⟩
  unfold tax_Corners.f cornersM
  rw [table_Fits_is _ (by omega)]
  simp only [Option.bind_some]
  by_cases hf : fitsM L s kd am fl = 0
  · rw [if_pos hf, if_pos hf, code_Free_is _ (by omega)]
    simp only [Option.bind_some]
    obtain ⟨f1, f2, f3⟩ := fitsM_zero hf
    have hb := codeM_zero f1
    have hfm : freeM s kd am fl n d = if partOk n d = true then (freeX kd am n d, 0) else (0, 1) := by unfold freeM; rw [if_pos f1]
    rw [hfm]
    by_cases hp : partOk n d = true
    · simp only [if_pos hp, if_true]
      obtain ⟨p1, p2, p3, p4⟩ := partOk_iff.1 hp
      have fb := free_bd (kd := kd) hb.2.2.1.1 hb.2.2.1.2 hp
      rw [tax_Corners.j0]
      by_cases h4 : kd = 4
      · rw [if_pos h4, show (kd == 4) = true from beq_iff_eq.2 h4, if_pos rfl]
      · rw [if_neg h4, show (kd == 4) = false from beq_eq_false_iff_ne.2 h4, if_neg (by decide)]
        by_cases h3 : kd = 3
        · rw [if_pos h3, if_pos h3]
        · have hg := ht.good s hb.1.1 f2
          have hkg := keepS_good hg p1 p2 p3
          have hk8 := hkg.len
          have hall := hkg.all
          rw [if_neg h3, if_neg h3, if_pos hb.1.1, if_pos f2, band_Scale_is hg p1 p2 p3 p4 k (by omega)]
          simp only [Option.bind_some, if_true]
          obtain ⟨b, t, hbt, hb0⟩ := good_cons hkg
          rw [hbt] at hk8 hall ⊢
          rw [corners_is hk8 k (by omega)]
          simp only [Option.bind_some, List.tail_cons]
          simp only [List.length_cons] at hk8
          have := tcor_l0 (freeX kd am n d) fb (t.map S106.f0) [] (t.map S106.f0) [freeX kd am n d] k rfl (by rw [List.length_map]; omega) (fun x hx => by
            obtain ⟨c, hc, rfl⟩ := List.mem_map.1 hx
            have B := hall c (List.mem_cons_of_mem _ hc)
            exact ⟨B.1, B.2.1⟩) (by simp) (by rw [List.length_map]; omega)
          simp only [List.length_nil] at this
          rw [show ((0 : Nat) : Int) = 0 from rfl] at this
          rw [this, List.map_map]
          rfl
    · simp only [if_neg hp, if_neg (show ¬ (1 : Int) = 0 by decide)]
      rw [tax_Corners.j0]
      rfl
  · rw [if_neg hf, if_neg hf]
end Go.Proofs.Ytcapgmoipacioaa.P
