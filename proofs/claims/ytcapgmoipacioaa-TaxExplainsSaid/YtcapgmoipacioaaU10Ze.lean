import Derived.Test.YtcapgmoipacioaaU8Ze
import Derived.Test.YtcapgmoipacioaaU9Ze
import Derived.Test.YtcapgmoipacioaaHperiodZe
import Derived.Test.YtcapgmoipacioaaPptaxDueZe
import Derived.Test.YtcapgmoipacioaaPpstipendlaw13Ze
namespace Go.Proofs.Ytcapgmoipacioaa.P
open Go.RowKit Go.Proofs.YtcapgmoipacioaaW.PrintWords Go.Proofs.YtcapgmoipacioaaW.PrintLast Go.Proofs.YtcapgmoipacioaaW.PrintMore
set_option linter.unusedVariables false
set_option linter.unusedSimpArgs false
theorem dues_200 : stipendlaw13_dues.f 200 = some true := by decide +kernel
theorem charge_ok {s kd am fl x n d : Int} (h : (chargeM s kd am fl x n d).2 = 0) : codeM s kd am fl = 0 ∧ partOk n d = true ∧ (0 ≤ (chargeM s kd am fl x n d).1 ∧ (chargeM s kd am fl x n d).1 ≤ 100000000000) ∧ rightB x = true ∧
    (kd ≠ 4 → (chargeM s kd am fl x n d).1 = mx 0 (x - freeX kd am n d) ∧ rightB (x - freeX kd am n d) = true) := by
  unfold chargeM at h ⊢; unfold freeM at h ⊢; by_cases hc : codeM s kd am fl = 0
  · by_cases hp : partOk n d = true
    · simp only [if_pos hc, if_pos hp, if_true] at h ⊢; have hb := codeM_zero hc; have fb := free_bd (kd := kd) hb.2.2.1.1 hb.2.2.1.2 hp; by_cases h4 : kd = 4
      · simp only [if_pos h4] at h ⊢; by_cases hx : rightB x = true
        · simp only [if_pos hx] at h ⊢; exact ⟨hc, hp, by decide, hx, fun q => absurd h4 q⟩
        · simp only [if_neg hx] at h; cases h
      · simp only [if_neg h4] at h ⊢; have hf : rightB (freeX kd am n d) = true := rightB_iff.2 ⟨by omega, by omega⟩; unfold subM checkM at h ⊢
        cases hx : rightB x with
        | false => rw [hx] at h; simp at h
        | true =>
          rw [hx, hf] at h; simp only [Bool.and_self, if_true] at h
          cases hy : rightB (x - freeX kd am n d) with
          | false => rw [hy] at h; simp at h
          | true =>
            simp only [hf, Bool.and_self, if_true]; have hy2 := rightB_iff.1 hy; exact ⟨hc, hp, by unfold mx; split <;> omega, trivial, fun _ => ⟨trivial, trivial⟩⟩
    · simp only [if_pos hc, if_neg hp] at h; cases h
  · simp only [if_neg hc, if_neg hc] at h; exact absurd h hc
def taxM (L : List (List S106)) (s kd am fl x n d : Int) : Int × Int :=
  if fitsM L s kd am fl = 0 then
    (if (chargeM s kd am fl x n d).2 = 0 then
      (if kd = 4 then (0, 0) else if kd = 3 then ((chargeM s kd am fl x n d).1 * (rd_T106 (rd_L3 L s) fl).f1, 0) else (refT (chargeM s kd am fl x n d).1 n d (rd_L3 L s), 0))
    else (0, (chargeM s kd am fl x n d).2))
  else (0, fitsM L s kd am fl)
theorem tax_Exact_is {L : List (List S106)} {l1 : List S120} {l2 : List S209} {a3 a4 : Int} (ht : TblOk L l1 a3 a4) (k : Nat) (hk : 30 ≤ k) (s kd am fl x n d : Int) (al : Bool) :
    tax_Exact.f k L l1 l2 a3 a4 s kd am fl al x n d = some (taxM L s kd am fl x n d) := by
  unfold tax_Exact.f taxM; rw [table_Fits_is k (by omega)]; simp only [Option.bind_some]; by_cases hf : fitsM L s kd am fl = 0
  · rw [if_pos hf, if_pos hf, code_Charge_is k (by omega)]; simp only [Option.bind_some]; obtain ⟨f1, f2, f3⟩ := fitsM_zero hf; have hb := codeM_zero f1; by_cases hc : (chargeM s kd am fl x n d).2 = 0
    · rw [if_pos hc, if_pos hc]; obtain ⟨c1, c2, c3, c4, c5⟩ := charge_ok hc; have hg := ht.good s hb.1.1 f2; obtain ⟨p1, p2, p3, p4⟩ := partOk_iff.1 c2; have hr : rightB (chargeM s kd am fl x n d).1 = true := rightB_iff.2 ⟨by omega, c3.2⟩; by_cases h4 : kd = 4
      · rw [if_pos h4, if_pos h4]
      rw [if_neg h4, if_neg h4]; by_cases h3 : kd = 3
      · have hfl := f3 h3; have B := hg.bd (i := fl) hb.2.2.2.1.1 hfl; rw [if_pos h3, if_pos h3, if_pos hb.1.1, if_pos f2, if_pos hb.2.2.2.1.1, if_pos hfl, frac_Part_is _ _ k (by omega)]; simp only [Option.bind_some]; unfold partM; rw [if_pos hr, if_pos (rateB_iff.2 B.2.2.2.2.1)]
      · rw [if_neg h3, if_neg h3, if_pos hb.1.1, if_pos f2, band_Scale_is hg p1 p2 p3 p4 k (by omega)]; simp only [Option.bind_some, if_true]; have hk' := keepS_good hg p1 p2 p3; unfold band_Exact.f; simp only [Option.bind_some]; rw [eachM_good hk' hr, ex_keep hg p1 p2 p3]
    · rw [if_neg hc, if_neg hc]
  · rw [if_neg hf, if_neg hf]
theorem flat_bd {c r : Int} (hc : 0 ≤ c ∧ c ≤ 100000000000) (hr : 0 ≤ r ∧ r ≤ 10000) : 0 ≤ c * r ∧ c * r ≤ 1000000000000000 :=
  ⟨Int.mul_nonneg hc.1 hr.1, (mul_bound (A := 100000000000) (B := 10000) ⟨by omega, hc.2⟩ hr).2⟩
theorem refT_all {x n d : Int} {l : List S106} (hg : Good l) (hx : 0 ≤ x ∧ x ≤ 100000000000) (hn : 0 ≤ n) (hd : 1 ≤ d) (hnd : n ≤ d) : 0 ≤ refT x n d l ∧ refT x n d l ≤ 1000000000000000 := by
  rw [← ex_keep hg hn hd hnd]; exact ex_bound (keepS_good hg hn hd hnd) (fun i h0 h1 => ((keepS_good hg hn hd hnd).bd h0 h1).2.2.2.2.1) (rightB_iff.2 ⟨by omega, hx.2⟩)
theorem taxM_bd {L : List (List S106)} {l1 : List S120} {a3 a4 : Int} (ht : TblOk L l1 a3 a4) (s kd am fl x n d : Int) : 0 ≤ (taxM L s kd am fl x n d).1 ∧ (taxM L s kd am fl x n d).1 ≤ 1000000000000000 := by
  unfold taxM; by_cases hf : fitsM L s kd am fl = 0
  · simp only [if_pos hf]; obtain ⟨f1, f2, f3⟩ := fitsM_zero hf; have hb := codeM_zero f1; by_cases hc : (chargeM s kd am fl x n d).2 = 0
    · simp only [if_pos hc]; obtain ⟨c1, c2, c3, c4, c5⟩ := charge_ok hc; have hg := ht.good s hb.1.1 f2; obtain ⟨p1, p2, p3, p4⟩ := partOk_iff.1 c2; by_cases h4 : kd = 4
      · simp only [if_pos h4]; decide
      simp only [if_neg h4]; by_cases h3 : kd = 3
      · simp only [if_pos h3]; exact flat_bd c3 (hg.bd (i := fl) hb.2.2.2.1.1 (f3 h3)).2.2.2.2.1
      · simp only [if_neg h3]; exact refT_all hg c3 p1 p2 p3
    · simp only [if_neg hc]; decide
  · simp only [if_neg hf]; decide
theorem ref_Exact13_is {L : List (List S106)} {l1 : List S120} {l2 : List S209} {a3 a4 : Int} (ht : TblOk L l1 a3 a4) (k : Nat) (hk : 30 ≤ k) (s kd am fl x n d : Int) (al : Bool) (hf : fitsM L s kd am fl = 0) (hc : (chargeM s kd am fl x n d).2 = 0) :
    stipendref13_Exact.f k L l1 l2 a3 a4 s kd am fl al x n d = some (taxM L s kd am fl x n d).1 := by
  obtain ⟨k, rfl⟩ : ∃ m, k = m + 1 := ⟨k - 1, by omega⟩; unfold stipendref13_Exact.f taxM; obtain ⟨f1, f2, f3⟩ := fitsM_zero hf; have hb := codeM_zero f1; obtain ⟨c1, c2, c3, c4, c5⟩ := charge_ok hc; have hg := ht.good s hb.1.1 f2; obtain ⟨p1, p2, p3, p4⟩ := partOk_iff.1 c2; rw [if_pos hf, if_pos hc]; by_cases h4 : kd = 4
  · rw [if_pos h4, if_pos h4]
  rw [if_neg h4, if_neg h4]; obtain ⟨e1, e2⟩ := c5 h4; have sb := sc_bd (x := am) hb.2.2.1.1 (by omega) p1 p2 p3; have sm := sc_small (x := am) hb.2.2.1.1 (by omega) p1 p3 p4
  have fr : stipendref13_Free.f s kd am fl al n d = some (freeX kd am n d) := by
    unfold stipendref13_Free.f freeX; rw [if_neg (by omega), wrap_id (x := am * n) (by omega) (by omega), wrap_id (x := Int.tdiv (am * n) d) (by omega) (by omega)]; by_cases h2 : kd = 2
    · rw [if_pos h2, if_pos h2, wrap_id (by omega) (by omega)]
    · rw [if_neg h2, if_neg h2]
  have fb := free_bd (kd := kd) hb.2.2.1.1 hb.2.2.1.2 c2; have xr := rightB_iff.1 c4
  have core : ∀ y : Int, y = (chargeM s kd am fl x n d).1 → stipendref13_Exact.j0 (k + 1) n d (rd_L3 L s) y s kd am fl al = some (if kd = 3 then (y * (rd_T106 (rd_L3 L s) fl).f1, (0 : Int)) else (refT y n d (rd_L3 L s), 0)).1 := by
    intro y hy; rw [← hy] at c3; rw [stipendref13_Exact.j0]; by_cases h3 : kd = 3
    · have hfl := f3 h3; have B := hg.bd (i := fl) hb.2.2.2.1.1 hfl; have fbd := flat_bd c3 B.2.2.2.2.1; rw [if_pos h3, if_pos h3, if_pos hb.2.2.2.1.1, if_pos hfl, wrap_id (by omega) (by omega)]
    · rw [if_neg h3, if_neg h3]; have h8 := hg.len; have := rx_l0 p1 p2 p3 p4 c3 (rd_L3 L s) [] (rd_L3 L s) 0 k rfl hg.len hg.all (by omega) (by simp) (by omega); rw [Int.zero_add] at this; exact this
  rw [if_pos hb.1.1, if_pos f2, fr]; simp only [Option.bind_some]; rw [wrap_id (x := x - freeX kd am n d) (by omega) (by omega)]; by_cases hz : x - freeX kd am n d < 0
  · rw [if_pos hz, core 0 (by rw [e1]; unfold mx; split <;> omega)]; rw [show (chargeM s kd am fl x n d).1 = 0 from by rw [e1]; unfold mx; split <;> omega]
  · rw [if_neg hz, core _ (by rw [e1]; unfold mx; split <;> omega)]; rw [show (chargeM s kd am fl x n d).1 = x - freeX kd am n d from by rw [e1]; unfold mx; split <;> omega]
theorem taxM_ok {L : List (List S106)} {s kd am fl x n d : Int} (hf : fitsM L s kd am fl = 0) (hc : (chargeM s kd am fl x n d).2 = 0) : (taxM L s kd am fl x n d).2 = 0 := by
  unfold taxM; rw [if_pos hf, if_pos hc]
  split
  · rfl
  · split <;> rfl
theorem fits_is (L : List (List S106)) (l1 : List S120) (l2 : List S209) (a3 a4 s kd am fl n d : Int) (al : Bool) :
    ∃ b : Bool, (∀ k, 110 ≤ k → stipendlaw13_fits.f k L l1 l2 a3 a4 s kd am fl al n d = some b) ∧ (b = true → TblOk L l1 a3 a4 ∧ fitsM L s kd am fl = 0 ∧ partOk n d = true) := by
  have no : ∀ (P : Nat → Prop), (∀ k, 110 ≤ k → P k) → ∀ k, 110 ≤ k → P k := fun _ h => h
  by_cases h1 : (L.length : Int) ≤ 20
  · by_cases h2 : (l2.length : Int) ≤ 30
    · by_cases h3 : (l1.length : Int) ≤ 20
      · obtain ⟨r, hr, hr0⟩ := table_Check_is L l1 l2 a3 a4; by_cases hz : r = 0
        · by_cases hf : fitsM L s kd am fl = 0
          · refine ⟨partOk n d, fun k hk => ?_, fun q => ⟨hr0 hz, hf, q⟩⟩
            unfold stipendlaw13_fits.f; rw [if_pos h1, if_pos h2, if_pos h3, hr k hk]; simp only [Option.bind_some]; rw [if_pos hz, table_Fits_is k (by omega)]; simp only [Option.bind_some]; rw [if_pos hf]; by_cases n0 : n ≥ 0
            · by_cases d1 : d ≥ 1
              · by_cases nd : n ≤ d
                · rw [if_pos n0, if_pos d1, if_pos nd]; unfold partOk; exact congrArg some (decide_eq_decide.2 ⟨fun q => ⟨n0, d1, nd, q⟩, fun q => q.2.2.2⟩)
                · rw [if_pos n0, if_pos d1, if_neg nd, partOk_not.2 (.inr (.inr (.inl (by omega))))]
              · rw [if_pos n0, if_neg d1, partOk_not.2 (.inr (.inl (by omega)))]
            · rw [if_neg n0, partOk_not.2 (.inl (by omega))]
          · refine ⟨false, fun k hk => ?_, fun q => absurd q (by decide)⟩
            unfold stipendlaw13_fits.f; rw [if_pos h1, if_pos h2, if_pos h3, hr k hk]; simp only [Option.bind_some]; rw [if_pos hz, table_Fits_is k (by omega)]; simp only [Option.bind_some]; rw [if_neg hf]
        · refine ⟨false, fun k hk => ?_, fun q => absurd q (by decide)⟩
          unfold stipendlaw13_fits.f; rw [if_pos h1, if_pos h2, if_pos h3, hr k hk]; simp only [Option.bind_some]; rw [if_neg hz]
      · exact ⟨false, fun k hk => by unfold stipendlaw13_fits.f; rw [if_pos h1, if_pos h2, if_neg h3], fun q => absurd q (by decide)⟩
    · exact ⟨false, fun k hk => by unfold stipendlaw13_fits.f; rw [if_pos h1, if_neg h2], fun q => absurd q (by decide)⟩
  · exact ⟨false, fun k hk => by unfold stipendlaw13_fits.f; rw [if_neg h1], fun q => absurd q (by decide)⟩
end Go.Proofs.Ytcapgmoipacioaa.P
