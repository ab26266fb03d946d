import Derived.Test.YtcapgmoipacioaaU12Zf
import Derived.Test.YtcapgmoipacioaaR1Zf
import Derived.Test.YtcapgmoipacioaaPlTaxSpreadsZf
namespace Go.Proofs.Ytcapgmoipacioaa.P
open Go.RowKit Go.Proofs.YtcapgmoipacioaaW.PrintWords Go.Proofs.YtcapgmoipacioaaW.PrintLast Go.Proofs.YtcapgmoipacioaaW.PrintMore
set_option linter.unusedVariables false
set_option linter.unusedSimpArgs false
def sumS : List S90 → Int
  | [] => 0
  | x :: t => x.f1 + sumS t
theorem dues_last (L : List (List S106)) (a4 nom : Int) (cd : S88) (hal : cd.f4 = false) : ∀ (l : List S90) (i sum due : Int), (∀ x ∈ l, x.f0 = cd) → 0 < l.length →
    rd (duesL L a4 nom i sum due l) ((l.length : Int) - 1) = (dueM L a4 cd.f0 cd.f1 cd.f2 cd.f3 (sum + sumS l) (mn (i + l.length) nom) nom).1
  | [], _, _, _, _, h => by simp at h
  | [x], i, sum, due, hx, _ => by
    have e := hx x List.mem_cons_self
    have st : (stepM L a4 nom (i + 1) x.f0.f0 x.f0.f1 x.f0.f2 x.f0.f3 x.f0.f4 x.f1 (sum + x.f1) due) = dueM L a4 cd.f0 cd.f1 cd.f2 cd.f3 (sum + x.f1) (mn (i + 1) nom) nom := by
      unfold stepM
      rw [e, hal, if_neg (by decide)]
    rw [duesL, st, duesL, sumS, sumS, Int.add_zero]
    rfl
  | x :: y :: t, i, sum, due, hx, _ => by
    rw [duesL]
    have ih := dues_last L a4 nom cd hal (y :: t) (i + 1) (sum + x.f1) (stepM L a4 nom (i + 1) x.f0.f0 x.f0.f1 x.f0.f2 x.f0.f3 x.f0.f4 x.f1 (sum + x.f1) due).1 (fun z hz => hx z (List.mem_cons_of_mem _ hz)) (by simp)
    have e1 : ∀ (q : Int) (R : List Int), rd (q :: R) (((x :: y :: t).length : Int) - 1) = rd R (((y :: t).length : Int) - 1) := by
      intro q R
      unfold rd
      have n1 : (((x :: y :: t).length : Int) - 1).toNat = (((y :: t).length : Int) - 1).toNat + 1 := by simp only [List.length_cons]; omega
      rw [n1]
      rfl
    rw [e1, ih, show sumS (x :: y :: t) = x.f1 + sumS (y :: t) from rfl, Int.add_assoc]
    have e2 : i + 1 + ((y :: t).length : Int) = i + ((x :: y :: t).length : Int) := by simp only [List.length_cons]; omega
    rw [e2]
def mkS (cd : S88) (x : Int) : S90 := ⟨cd, x⟩
def sumI : List Int → Int
  | [] => 0
  | x :: t => x + sumI t
def absI : List Int → Int
  | [] => 0
  | x :: t => (x.natAbs : Int) + absI t
theorem sumI_abs : ∀ l : List Int, -(absI l) ≤ sumI l ∧ sumI l ≤ absI l
  | [] => by rw [absI, sumI]; omega
  | x :: t => by have := sumI_abs t; rw [absI, sumI]; omega
theorem sumS_map (cd : S88) : ∀ l : List Int, sumS (l.map (mkS cd)) = sumI l
  | [] => rfl
  | x :: t => by rw [List.map_cons, sumS, sumS_map cd t, sumI]; rfl
theorem absS_map (cd : S88) : ∀ l : List Int, absS (l.map (mkS cd)) = absI l
  | [] => rfl
  | x :: t => by rw [List.map_cons, absS, absS_map cd t, absI]; rfl
theorem sumI_zeros : ∀ n : Nat, sumI (List.replicate n 0) = 0 ∧ absI (List.replicate n 0) = 0
  | 0 => ⟨rfl, rfl⟩
  | n + 1 => by have := sumI_zeros n; rw [List.replicate_succ, sumI, absI]; omega
theorem sumI_snoc (x : Int) : ∀ l : List Int, sumI (l ++ [x]) = sumI l + x
  | [] => by rw [List.nil_append, sumI, sumI, sumI]; omega
  | y :: t => by rw [List.cons_append, sumI, sumI_snoc x t, sumI]; omega
theorem absI_le {B : Int} : ∀ l : List Int, (∀ x ∈ l, -B ≤ x ∧ x ≤ B) → 0 ≤ B → absI l ≤ B * l.length
  | [], _, hB => by simp [absI]
  | x :: t, h, hB => by
    have ih := absI_le t (fun y hy => h y (List.mem_cons_of_mem _ hy)) hB
    have hx := h x List.mem_cons_self
    have e : B * ((x :: t).length : Int) = B * (t.length : Int) + B := by rw [List.length_cons, Int.natCast_succ, Int.mul_add, Int.mul_one]
    rw [absI, e]
    omega
theorem all_mk {L : List (List S106)} {cd : S88} (hf : fitsM L cd.f0 cd.f1 cd.f2 cd.f3 = 0) (l : List Int) : (∀ x ∈ l.map (mkS cd), StepOk L x) ∧ ∀ x ∈ l.map (mkS cd), x.f0 = cd := by
  refine ⟨fun x hx => ?_, fun x hx => ?_⟩
  · obtain ⟨y, _, rfl⟩ := List.mem_map.1 hx; exact hf
  · obtain ⟨y, _, rfl⟩ := List.mem_map.1 hx; rfl
theorem TS_end {L : List (List S106)} {l1 : List S120} {l2 : List S209} {a3 a4 : Int} (ht : TblOk L l1 a3 a4) {s kd am fl : Int} (hf : fitsM L s kd am fl = 0) (l : List Int) (hl : l ≠ []) (h12 : l.length ≤ 12) (hA : absI l ≤ 12000000000) (k : Nat) (hk : 110 ≤ k) :
    ((tax_Year.f k L l1 l2 a3 a4 4 2024 4 6 2025 4 5 45386 365 (l.map (mkS ⟨s, kd, am, fl, false⟩))).bind fun bt1235 => ((tax_Year.f k L l1 l2 a3 a4 bt1235.2.2.1 bt1235.2.2.2.1 bt1235.2.2.2.2.1 bt1235.2.2.2.2.2.1 bt1235.2.2.2.2.2.2.1 bt1235.2.2.2.2.2.2.2.1 bt1235.2.2.2.2.2.2.2.2.1 bt1235.2.2.2.2.2.2.2.2.2.1 bt1235.2.2.2.2.2.2.2.2.2.2 ((sumI l :: List.replicate (l.length - 1) 0).map (mkS ⟨s, kd, am, fl, false⟩))).bind fun bt1248 => (if bt1235.2.1 = 0 then (stipendlaw13_TaxSpreads.j3 k l (sumI l) bt1235.1 bt1248.1 (bt1248.2.1 != 0) L l1 l2 a3 a4 s kd am fl false) else (stipendlaw13_TaxSpreads.j3 k l (sumI l) bt1235.1 bt1248.1 true L l1 l2 a3 a4 s kd am fl false)))) = some true := by
  obtain ⟨k, rfl⟩ : ∃ m, k = m + 1 := ⟨k - 1, by omega⟩
  obtain ⟨cd, hcd⟩ : ∃ cd : S88, (⟨s, kd, am, fl, false⟩ : S88) = cd := ⟨_, rfl⟩
  have q0 : s = cd.f0 := by rw [← hcd]
  have q1 : kd = cd.f1 := by rw [← hcd]
  have q2 : am = cd.f2 := by rw [← hcd]
  have q3 : fl = cd.f3 := by rw [← hcd]
  have q4 : cd.f4 = false := by rw [← hcd]
  rw [hcd]
  have hf2 : fitsM L cd.f0 cd.f1 cd.f2 cd.f3 = 0 := by rw [← q0, ← q1, ← q2, ← q3]; exact hf
  have hpos : 0 < l.length := List.length_pos_iff.2 hl
  have sa := sumI_abs l
  have z := sumI_zeros (l.length - 1)
  have lb : (sumI l :: List.replicate (l.length - 1) 0).length = l.length := by simp; omega
  obtain ⟨A, hA1⟩ : ∃ A, l.map (mkS cd) = A := ⟨_, rfl⟩
  obtain ⟨B, hB1⟩ : ∃ B, (sumI l :: List.replicate (l.length - 1) 0).map (mkS cd) = B := ⟨_, rfl⟩
  have Al : A.length = l.length := by rw [← hA1, List.length_map]
  have Bl : B.length = l.length := by rw [← hB1, List.length_map, lb]
  have Aa : absS A ≤ 53000000000 := by rw [← hA1, absS_map]; omega
  have Ba : absS B ≤ 53000000000 := by rw [← hB1, absS_map, absI]; omega
  have As : sumS A = sumI l := by rw [← hA1, sumS_map]
  have Bs : sumS B = sumI l := by rw [← hB1, sumS_map, sumI, z.1, Int.add_zero]
  have Ao := all_mk hf2 l
  have Bo := all_mk hf2 (sumI l :: List.replicate (l.length - 1) 0)
  rw [hA1] at Ao ⊢
  rw [hB1] at Bo ⊢
  have dA := dues_last L a4 12 cd q4 A 0 0 0 Ao.2 (by omega)
  have dB := dues_last L a4 12 cd q4 B 0 0 0 Bo.2 (by omega)
  have lA := duesL_len L a4 12 A 0 0 0
  have lB := duesL_len L a4 12 B 0 0 0
  rw [Al, As, Int.zero_add, Int.zero_add] at dA
  rw [Bl, Bs, Int.zero_add, Int.zero_add] at dB
  rw [Al] at lA
  rw [Bl] at lB
  have mn12 : mn (l.length : Int) 12 = (l.length : Int) := by unfold mn; split <;> omega
  rw [mn12] at dA dB
  have hp : partOk (l.length : Int) 12 = true := partOk_iff.2 ⟨by omega, by omega, by omega, by omega⟩
  have yA := year_is (l2 := l2) ht year_24 2024 4 6 2025 4 5 45386 A (by omega) Ao.1 Aa (k + 1) (by omega)
  have yB := year_is (l2 := l2) ht year_24 2024 4 6 2025 4 5 45386 B (by omega) Bo.1 Ba (k + 1) (by omega)
  rw [yA, Option.bind_some]
  rw [yB, Option.bind_some, if_pos (show (0 : Int) = 0 from rfl)]
  obtain ⟨d1, d2, d3⟩ := due_ok (x := sumI l) ht hf2 hp (by omega)
  have fb := free_bd (kd := cd.f1) (am := cd.f2) (n := (l.length : Int)) (d := 12) (codeM_zero (fitsM_zero hf2).1).2.2.1.1 (codeM_zero (fitsM_zero hf2).1).2.2.1.2 hp
  have tD := tax_Due_is (l2 := l2) ht k (by omega) cd.f0 cd.f1 cd.f2 cd.f3 (sumI l) (l.length : Int) 12 false
  rw [← q0, ← q1, ← q2, ← q3] at tD dA dB d1 d2 d3
  obtain ⟨D, hD⟩ : ∃ D, dueM L a4 s kd am fl (sumI l) (l.length : Int) 12 = D := ⟨_, rfl⟩
  rw [hD] at tD dA dB d1 d2 d3
  have m : mx 0 (sumI l - freeX cd.f1 cd.f2 (l.length : Int) 12) ≤ 13000000000 := by unfold mx; split <;> omega
  rw [← q1, ← q2] at m
  have Dr : rightB D.1 = true := rightB_iff.2 ⟨by omega, by omega⟩
  have w0 : wrap64 ((l.length : Int) - 1) = (l.length : Int) - 1 := wrap_id (by omega) (by omega)
  have hOf : frac_Of.f k D.1 = some (D.1 * 10000, 0) := by
    unfold frac_Of.f
    rw [money_Right_one _ k (by omega), Option.bind_some, if_pos Dr, wrap_id (by omega) (by omega)]
  have hR : frac_Right.f (D.1 * 10000) = some true := by
    unfold frac_Right.f
    rw [if_pos (by omega), decide_eq_true (by omega)]
  clear w0
  rw [stipendlaw13_TaxSpreads.j3, if_neg (by simp), tD, Option.bind_some, hOf, Option.bind_some, wrap_id (x := (l.length : Int) - 1) (by omega) (by omega), if_pos (by omega), if_pos (by rw [lA]; omega), if_pos (by rw [lB]; omega), if_pos (by rw [dA, dB]), if_pos d1, if_pos dA, if_pos (show (0 : Int) = 0 from rfl), hR, Option.bind_some]
theorem rep_snoc (n : Nat) : List.replicate n (0 : Int) ++ [0] = List.replicate (n + 1) 0 := by
  rw [List.replicate_succ']
theorem TS_l0 {L : List (List S106)} {l1 : List S120} {l2 : List S209} {a3 a4 : Int} (ht : TblOk L l1 a3 a4) {s kd am fl : Int} (hf : fitsM L s kd am fl = 0) (l : List Int) (h12 : l.length ≤ 12) (suf : List Int) :
    ∀ (pre : List Int) (k : Nat), l = pre ++ suf → suf ≠ [] → (∀ x ∈ pre, -1000000000 ≤ x ∧ x ≤ 1000000000) → 2 * suf.length + 120 ≤ k →
    stipendlaw13_TaxSpreads.l0 k l (pre.map (mkS ⟨s, kd, am, fl, false⟩)) ((List.replicate pre.length 0).map (mkS ⟨s, kd, am, fl, false⟩)) (sumI pre) l (l.length : Int) (pre.length : Int) L l1 l2 a3 a4 s kd am fl false 4 2024 4 6 2025 4 5 45386 365 = some true := by
  induction suf with
  | nil => intro pre k hl hn; exact absurd rfl hn
  | cons x t ih =>
    intro pre k hl hn hb hk
    simp only [List.length_cons] at hk
    obtain ⟨k, rfl⟩ : ∃ m, k = m + 2 := ⟨k - 2, by omega⟩
    have hlen : l.length = pre.length + (t.length + 1) := by rw [hl]; simp
    have e1 : l = pre ++ [x] ++ t := by rw [hl]; simp
    have hr : rd l (pre.length : Int) = x := by rw [hl]; exact rd_mid pre t x
    have sp := sumI_abs pre
    have ap := absI_le pre hb (by omega)
    have j2t : stipendlaw13_TaxSpreads.j2 (k + 1) l (pre.map (mkS ⟨s, kd, am, fl, false⟩)) ((List.replicate pre.length 0).map (mkS ⟨s, kd, am, fl, false⟩)) (sumI pre) (pre.length : Int) x l (l.length : Int) (pre.length : Int) true L l1 l2 a3 a4 s kd am fl false 4 2024 4 6 2025 4 5 45386 365 = some true := by
      rw [stipendlaw13_TaxSpreads.j2, if_pos rfl]
    rw [stipendlaw13_TaxSpreads.l0, if_pos (by omega), if_pos (by omega), if_pos (by omega), hr]
    by_cases x1 : x > 1000000000
    · rw [if_pos x1]; exact j2t
    rw [if_neg x1]
    by_cases x2 : x < -1000000000
    · rw [decide_eq_true x2]; exact j2t
    rw [decide_eq_false x2]
    clear j2t
    have n1 : (pre.map (mkS ⟨s, kd, am, fl, false⟩)).length < 2932031007402 := by rw [List.length_map]; omega
    have n2 : ((List.replicate pre.length 0).map (mkS ⟨s, kd, am, fl, false⟩)).length < 2932031007402 := by rw [List.length_map, List.length_replicate]; omega
    have m1 : pre.map (mkS ⟨s, kd, am, fl, false⟩) ++ [(⟨(⟨s, kd, am, fl, false⟩ : S88), x⟩ : S90)] = (pre ++ [x]).map (mkS ⟨s, kd, am, fl, false⟩) := by rw [List.map_append]; rfl
    have m2 : (List.replicate pre.length 0).map (mkS ⟨s, kd, am, fl, false⟩) ++ [(⟨(⟨s, kd, am, fl, false⟩ : S88), 0⟩ : S90)] = (List.replicate (pre.length + 1) 0).map (mkS ⟨s, kd, am, fl, false⟩) := by rw [← rep_snoc, List.map_append]; rfl
    have wl : wrap64 ((l.length : Int) - 1) = (l.length : Int) - 1 := wrap_id (by omega) (by omega)
    have ws : wrap64 (sumI pre + x) = sumI (pre ++ [x]) := by rw [sumI_snoc]; exact wrap_id (by omega) (by omega)
    have wi : wrap64 ((pre.length : Int) + 1) = ((pre ++ [x]).length : Int) := by rw [List.length_append]; exact wrap_id (by omega) (by omega)
    rw [stipendlaw13_TaxSpreads.j2, if_neg (by decide), if_pos n1, m1, Option.bind_some, if_pos n2, m2, Option.bind_some, wl, ws, wi]
    have hb2 : ∀ y ∈ pre ++ [x], -1000000000 ≤ y ∧ y ≤ 1000000000 := by
      clear wl ws wi
      intro y hy
      rcases List.mem_append.1 hy with h | h
      · exact hb y h
      · rw [List.mem_singleton.1 h]; omega
    clear wl ws wi
    cases t with
    | nil =>
      obtain ⟨k, rfl⟩ : ∃ q, k = q + 1 := ⟨k - 1, by omega⟩
      have hi : (pre.length : Int) = (l.length : Int) - 1 := by simp at hlen; omega
      have hl2 : l = pre ++ [x] := hl
      have hA : absI l ≤ 12000000000 := by
        have := absI_le l (by rw [hl2]; exact hb2) (by omega)
        omega
      have r0 : rd_T90 ((List.replicate (pre.length + 1) 0).map (mkS ⟨s, kd, am, fl, false⟩)) 0 = mkS ⟨s, kd, am, fl, false⟩ 0 := by rw [List.replicate_succ]; rfl
      have nz : (0 : Int) < (((List.replicate (pre.length + 1) 0).map (mkS ⟨s, kd, am, fl, false⟩)).length : Int) := by rw [List.length_map, List.length_replicate]; omega
      have hne : l ≠ [] := by rw [hl2]; simp
      have fin := TS_end (l2 := l2) ht hf l hne h12 hA k (by omega)
      have hp1 : pre.length = l.length - 1 := by omega
      have set_ : ((List.replicate (pre.length + 1) 0).map (mkS ⟨s, kd, am, fl, false⟩)).set (0 : Int).toNat (⟨(⟨(mkS ⟨s, kd, am, fl, false⟩ 0).f0.f0, (mkS ⟨s, kd, am, fl, false⟩ 0).f0.f1, (mkS ⟨s, kd, am, fl, false⟩ 0).f0.f2, (mkS ⟨s, kd, am, fl, false⟩ 0).f0.f3, (mkS ⟨s, kd, am, fl, false⟩ 0).f0.f4⟩ : S88), sumI (pre ++ [x])⟩ : S90) = (sumI l :: List.replicate (l.length - 1) 0).map (mkS ⟨s, kd, am, fl, false⟩) := by
        rw [List.replicate_succ, ← hp1, hl2]
        rfl
      rw [if_pos hi, if_pos nz, r0, set_, ← hl2, stipendlaw13_TaxSpreads.l0, if_neg (by omega)]
      exact fin
    | cons y t =>
      have hi : ¬ (pre.length : Int) = (l.length : Int) - 1 := by simp only [List.length_cons] at hlen; omega
      rw [if_neg hi]
      have := ih (pre ++ [x]) k e1 (by simp) hb2 (by omega)
      rw [show (pre ++ [x]).length = pre.length + 1 by simp] at this ⊢
      exact this
theorem TaxSpreads_all (L : List (List S106)) (l1 : List S120) (l2 : List S209) (a3 a4 s kd am fl : Int) (al : Bool) (l : List Int) (k : Nat) (hk : 200 ≤ k) (hd : stipendlaw13_dues.f k = some true) : stipendlaw13_TaxSpreads.f k L l1 l2 a3 a4 s kd am fl al l = some true := by
  obtain ⟨m, hm⟩ : ∃ m, k = m + 1 := ⟨k - 1, by omega⟩
  have yes : stipendlaw13_TaxSpreads.j0 k l true L l1 l2 a3 a4 s kd am fl al 4 2024 4 6 2025 4 5 45386 365 = some true := by rw [hm, stipendlaw13_TaxSpreads.j0, if_pos rfl]
  obtain ⟨b, hb, hb1⟩ := fits_is L l1 l2 a3 a4 s kd am fl 1 1 al
  have hnew : period_New.f 4 2024 4 6 = some (4, 2024, 4, 6, 2025, 4, 5, 45386, 365, 0) := by unfold period_New.f; rw [if_pos (by decide), if_pos rfl]
  unfold stipendlaw13_TaxSpreads.f
  rw [hd, Option.bind_some, if_pos rfl, hnew, Option.bind_some, hb k (by omega), Option.bind_some]
  cases b with
  | false => rw [if_neg (by decide)]; exact yes
  | true =>
    rw [if_pos rfl]
    obtain ⟨ht, hf, hp⟩ := hb1 rfl
    cases al with
    | true => rw [if_pos rfl]; exact yes
    | false =>
      rw [if_neg (by decide)]
      by_cases h0 : (l.length : Int) = 0
      · rw [if_pos h0]; exact yes
      rw [if_neg h0]
      by_cases h1 : (l.length : Int) > 12
      · rw [decide_eq_true h1]; exact yes
      rw [decide_eq_false h1, hm, stipendlaw13_TaxSpreads.j0, if_neg (by decide)]
      exact TS_l0 ht hf l (by omega) l [] m rfl (by intro h; rw [h] at h0; exact h0 rfl) (fun x hx => by simp at hx) (by omega)
theorem TaxSpreads_pure (t : S56) (c : S88) (l : List Int) (_ : W56 t) (_ : W88 c) (_ : ∀ a ∈ l, (Lit.int .i64 a).wf = true) : ∃ k, stipendlaw13_TaxSpreads.f k t.f0 t.f1 t.f2 t.f3 t.f4 c.f0 c.f1 c.f2 c.f3 c.f4 l = some true := ⟨200, TaxSpreads_all _ _ _ _ _ _ _ _ _ _ _ 200 (Nat.le_refl _) dues_200⟩
end Go.Proofs.Ytcapgmoipacioaa.P
