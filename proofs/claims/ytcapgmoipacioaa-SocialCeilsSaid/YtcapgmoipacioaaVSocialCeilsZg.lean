import Derived.Test.YtcapgmoipacioaaU14Zg
import Derived.Test.YtcapgmoipacioaaR1Zg
import Derived.Test.YtcapgmoipacioaaPlSocialCeilsZg
namespace Go.Proofs.Ytcapgmoipacioaa.P
open Go.RowKit Go.Proofs.YtcapgmoipacioaaW.PrintWords Go.Proofs.YtcapgmoipacioaaW.PrintLast Go.Proofs.YtcapgmoipacioaaW.PrintMore
set_option linter.unusedVariables false
set_option linter.unusedSimpArgs false
theorem spays_1000 : stipendlaw15_pays.f 1000 = some true := by decide +kernel
theorem upB_pos {q r m : Int} (h : upB q r m = true) : 0 < r := by
  unfold upB at h; by_cases h2 : m = 2
  · rw [if_pos h2] at h; exact of_decide_eq_true h
  rw [if_neg h2] at h; by_cases h4 : m = 4
  · rw [if_pos h4] at h; have := of_decide_eq_true h; omega
  rw [if_neg h4] at h; by_cases h5 : m = 5
  · rw [if_pos h5] at h
    rcases Bool.or_eq_true_iff.1 h with h | h
    · have := of_decide_eq_true h; omega
    · have := eq_of_beq (Bool.and_eq_true_iff.1 h).1; omega
  rw [if_neg h5] at h; by_cases h6 : m = 6
  · rw [if_pos h6] at h; have := of_decide_eq_true h; omega
  · rw [if_neg h6] at h; cases h
theorem rndM_lt {x m : Int} (h0 : 0 ≤ x) : 10000 * (rndM x m - 1) < x ∨ x = 0 ∧ rndM x m = 0 := by
  obtain ⟨q0, r0, r1, e⟩ := div_parts h0; have z := (rndM_bd (x := x) (m := m) h0).2.2; by_cases hx : x = 0
  · exact .inr ⟨hx, z hx⟩
  · left
    unfold rndM; generalize Int.tdiv x 10000 = q at *; generalize Int.tmod x 10000 = r at *; by_cases u : upB q r m = true
    · rw [if_pos u]; have := upB_pos u; omega
    · rw [if_neg u]; omega
theorem perRow_at : ∀ (C : List S120) (b : S67) (A : List Int) (j : Nat), j < C.length → A.length = C.length → rd_T36 (perRow C b A) (j : Int) = shM (rd_T120 C (j : Int)) (xM (rd_T120 C (j : Int)) b (rd A (j : Int)))
  | [], _, _, _, h, _ => by simp at h
  | c :: C, b, [], _, _, h => by simp at h
  | c :: C, b, a :: A, 0, _, _ => rfl
  | c :: C, b, a :: A, j + 1, h, hl => by
    have ih := perRow_at C b A j (by simpa using h) (by simpa using hl)
    have e1 : rd_T120 (c :: C) ((j + 1 : Nat) : Int) = rd_T120 C (j : Int) := by unfold rd_T120; rw [Int.toNat_natCast, Int.toNat_natCast]; rfl
    have e2 : rd (a :: A) ((j + 1 : Nat) : Int) = rd A (j : Int) := by unfold rd; rw [Int.toNat_natCast, Int.toNat_natCast]; rfl
    have e3 : rd_T36 (perRow (c :: C) b (a :: A)) ((j + 1 : Nat) : Int) = rd_T36 (perRow C b A) (j : Int) := by unfold rd_T36; rw [Int.toNat_natCast, Int.toNat_natCast, perRow]; rfl
    rw [e1, e2, e3, ih]
theorem perNext_at : ∀ (C : List S120) (b : S67) (A : List Int) (j : Nat), j < C.length → A.length = C.length → rd (perNext C b A) (j : Int) = rd A (j : Int) + xM (rd_T120 C (j : Int)) b (rd A (j : Int))
  | [], _, _, _, h, _ => by simp at h
  | c :: C, b, [], _, _, h => by simp at h
  | c :: C, b, a :: A, 0, _, _ => rfl
  | c :: C, b, a :: A, j + 1, h, hl => by
    have ih := perNext_at C b A j (by simpa using h) (by simpa using hl)
    have e1 : rd_T120 (c :: C) ((j + 1 : Nat) : Int) = rd_T120 C (j : Int) := by unfold rd_T120; rw [Int.toNat_natCast, Int.toNat_natCast]; rfl
    have e2 : rd (a :: A) ((j + 1 : Nat) : Int) = rd A (j : Int) := by unfold rd; rw [Int.toNat_natCast, Int.toNat_natCast]; rfl
    have e3 : rd (perNext (c :: C) b (a :: A)) ((j + 1 : Nat) : Int) = rd (perNext C b A) (j : Int) := by unfold rd; rw [Int.toNat_natCast, Int.toNat_natCast, perNext]; rfl
    rw [e1, e2, e3, ih]
theorem rd_mem {A : List Int} {j : Nat} (h : j < A.length) : rd A (j : Int) ∈ A := by
  unfold rd; rw [Int.toNat_natCast, List.getD_eq_getElem?_getD, List.getElem?_eq_getElem h]; exact List.getElem_mem h
theorem rd120_mem {A : List S120} {j : Nat} (h : j < A.length) : rd_T120 A (j : Int) ∈ A := by
  unfold rd_T120; rw [Int.toNat_natCast, List.getD_eq_getElem?_getD, List.getElem?_eq_getElem h]; exact List.getElem_mem h
theorem rdL12_mid (pre suf : List (List S36)) (x : List S36) : rd_L12 (pre ++ x :: suf) (pre.length : Int) = x := by
  unfold rd_L12
  simp [List.getD_eq_getElem?_getD]
theorem side_bd {c : S120} (hc : ConOk c) {x T : Int} (h0 : 0 ≤ x) (h1 : x ≤ 100000000000) (T0 : 0 ≤ T) (hT : ∀ i : Int, 0 ≤ i → i < (c.f2.length : Int) → (rd_T106 c.f2 i).f1 ≤ T) :
    0 ≤ (shM c x).f0 ∧ (shM c x).f0 ≤ 100000000001 ∧ 0 ≤ (shM c x).f1 ∧ 10000 * ((shM c x).f0 - 1) < x * T := by
  have z0 := Int.mul_nonneg h0 T0; have b := ex_both hc.bands (x := x) (rightB_iff.2 ⟨by omega, h1⟩); have r := ex_rise (g := S106.f1) (x := 0) (y := x) (T := T) hc.bands h0 (fun i i0 i1 => ⟨(hc.bands.bd i0 i1).2.2.2.2.1.1, hT i i0 i1⟩); rw [ex_none hc.bands (Int.le_refl 0), show mx 0 x - mx 0 0 = x by unfold mx; repeat' split <;> omega] at r; have n1 := rndM_bd (x := exFrom S106.f1 x c.f2 c.f2.length 0 0) (m := c.f5) b.1.1; have n2 := rndM_bd (x := exFrom S106.f2 x c.f2 c.f2.length 0 0) (m := c.f5) b.2.1; have n3 := rndM_lt (x := exFrom S106.f1 x c.f2 c.f2.length 0 0) (m := c.f5) b.1.1
  show 0 ≤ rndM (exFrom S106.f1 x c.f2 c.f2.length 0 0) c.f5 ∧ rndM (exFrom S106.f1 x c.f2 c.f2.length 0 0) c.f5 ≤ 100000000001 ∧ 0 ≤ rndM (exFrom S106.f2 x c.f2 c.f2.length 0 0) c.f5 ∧ 10000 * (rndM (exFrom S106.f1 x c.f2 c.f2.length 0 0) c.f5 - 1) < x * T
  generalize rndM (exFrom S106.f1 x c.f2 c.f2.length 0 0) c.f5 = u at *; generalize rndM (exFrom S106.f2 x c.f2 c.f2.length 0 0) c.f5 = v at *; generalize exFrom S106.f1 x c.f2 c.f2.length 0 0 = p at *; generalize exFrom S106.f2 x c.f2 c.f2.length 0 0 = q at *; generalize x * T = z at *
  omega
theorem mul_bd {a T M : Int} (a0 : 0 ≤ a) (h : a ≤ M) (T0 : 0 ≤ T) (T1 : T ≤ 10000) (M0 : 0 ≤ M) : 0 ≤ a * T ∧ a * T ≤ M * T ∧ M * T ≤ M * 10000 :=
  ⟨Int.mul_nonneg a0 T0, Int.mul_le_mul_of_nonneg_right h T0, Int.mul_le_mul_of_nonneg_left T1 M0⟩
theorem SC_l2 (C : List S120) (hC : ∀ c ∈ C, ConOk c) (h6 : C.length ≤ 6) (j : Nat) (hj : j < C.length) (c : S120) (hcj : rd_T120 C (j : Int) = c) (T : Int) (T0 : 0 ≤ T) (T1 : T ≤ 10000) (hT : ∀ i : Int, 0 ≤ i → i < (c.f2.length : Int) → (rd_T106 c.f2 i).f1 ≤ T)
    (X : List (List S36)) (h60 : X.length ≤ 60) (hX : 0 < X.length) (F : Nat) (hN : ∀ k, F ≤ k → stipendlaw15_SocialCeils.l0 k X C (C.length : Int) ((j : Int) + 1) = some true) (suf : List S67) :
    ∀ (A : List Int) (preR sufR : List (List S36)) (s : Int) (k : Nat), (∀ b ∈ suf, True) → AOk C A → yearS C A suf = some sufR → X = preR ++ sufR → (0 < c.f4 → rd A (j : Int) ≤ c.f4) → 0 ≤ s → s ≤ 100000000001 * (preR.length : Int) → 10000 * (s - preR.length) ≤ rd A (j : Int) * T → (0 < preR.length → 10000 * (s - preR.length) < rd A (j : Int) * T) → F + suf.length + 1 ≤ k →
    stipendlaw15_SocialCeils.l2 k X (j : Int) T s C (C.length : Int) (j : Int) X (X.length : Int) (preR.length : Int) c.f0 c.f1 c.f2 c.f3 c.f4 c.f5 = some true := by
  have oc : ConOk c := hcj ▸ hC _ (rd120_mem hj); have wj : wrap64 ((j : Int) + 1) = (j : Int) + 1 := wrap_id (by omega) (by omega)
  induction suf with
  | nil =>
    intro A preR sufR s k _ hA hy hXe ha s0 s1 i1 i2 hk; obtain ⟨k, rfl⟩ : ∃ m, k = m + 1 := ⟨k - 1, by clear wj; omega⟩; rw [yearS] at hy; obtain rfl := Option.some.inj hy; rw [List.append_nil] at hXe; subst hXe; have nx := hN k (by clear wj; simp at hk; omega); have hn : ¬ (X.length : Int) < (X.length : Int) := Int.lt_irrefl _; rw [stipendlaw15_SocialCeils.l2, if_neg hn, wj]; by_cases h4 : c.f4 > 0
    · have a1 := ha h4; have am := hA.2 _ (rd_mem (A := A) (j := j) (by rw [hA.1]; exact hj)); have y := oc.year; have i2' := i2 hX; generalize rd A (j : Int) = a at *; have mb := mul_bd am.1 a1 T0 T1 y.1; generalize a * T = p at *; generalize c.f4 * T = q at *; have w1 : wrap64 (s - (X.length : Int)) = s - (X.length : Int) := wrap_id (by clear wj; omega) (by clear wj; omega); have w2 : wrap64 ((s - (X.length : Int)) * 10000) = (s - (X.length : Int)) * 10000 := wrap_id (by clear wj w1; omega) (by clear wj w1; omega); have w3 : wrap64 q = q := wrap_id (by clear wj w1 w2; omega) (by clear wj w1 w2; omega); rw [if_pos h4, w1, w2, w3, if_neg (by clear wj w1 w2 w3; omega)]; exact nx
    · rw [if_neg h4]; exact nx
  | cons b t ih =>
    intro A preR sufR s k hh hA hy hXe ha s0 s1 i1 i2 hk; simp only [List.length_cons] at hk; obtain ⟨k, rfl⟩ : ∃ m, k = m + 1 := ⟨k - 1, by clear wj; omega⟩; rw [yearS] at hy
    cases hbo : (rb b && perOk C b A) with
    | false => rw [hbo, if_neg (by decide)] at hy; cases hy
    | true =>
    rw [hbo, if_pos rfl] at hy; obtain ⟨R', hR', rfl⟩ := Option.map_eq_some_iff.1 hy; have hbo := Bool.and_eq_true_iff.1 hbo; have hA' := perNext_ok C b A hC hbo.1 hA hbo.2; have am := hA.2 _ (rd_mem (A := A) (j := j) (by rw [hA.1]; exact hj)); have xb := xM_bd oc hbo.1 am.1; have sd := side_bd oc xb.1 xb.2.1 T0 hT; have pr := perRow_at C b A j hj hA.1; have pn := perNext_at C b A j hj hA.1; rw [hcj] at pr pn; have rl := perRow_len C b A hA.1; have r0 : rd_L12 X (preR.length : Int) = perRow C b A := by rw [hXe]; exact rdL12_mid preR R' _
    have hlen : X.length = preR.length + (R'.length + 1) := by rw [hXe]; simp
    have nx := ih (perNext C b A) (preR ++ [perRow C b A]) R' (s + (shM c (xM c b (rd A (j : Int)))).f0) k (fun _ _ => trivial) hA' hR' (by rw [hXe]; simp) (by rw [pn]; intro h; exact xb.2.2.2 h (ha h)); rw [pn] at nx; rw [show ((preR ++ [perRow C b A]).length : Nat) = preR.length + 1 by simp, Int.natCast_succ, Int.add_mul] at nx; have p0 := oc.per; have mp := mul_bd xb.1 xb.2.1 T0 T1 (by decide); have mq := fun h => mul_bd xb.1 (xb.2.2.1 h) T0 T1 p0.1
    rw [stipendlaw15_SocialCeils.l2, if_pos (by clear wj; omega), if_pos (by clear wj; omega), if_pos (by clear wj; omega), r0, if_pos (by clear wj; omega), if_pos (by clear wj; omega), pr]; generalize rd A (j : Int) = a at *; obtain ⟨x, hx⟩ : ∃ x, xM c b a = x := ⟨_, rfl⟩; rw [hx] at nx sd mp mq xb ⊢; obtain ⟨u, hu⟩ : ∃ u, shM c x = u := ⟨_, rfl⟩; rw [hu] at nx sd ⊢; have wi : wrap64 ((preR.length : Int) + 1) = (preR.length : Int) + 1 := wrap_id (by clear wj; omega) (by clear wj; omega); have ws : wrap64 (s + u.f0) = s + u.f0 := wrap_id (by clear wj wi; omega) (by clear wj wi; omega)
    have nx' : stipendlaw15_SocialCeils.l2 k X (j : Int) T (s + u.f0) C (C.length : Int) (j : Int) X (X.length : Int) ((preR.length : Int) + 1) c.f0 c.f1 c.f2 c.f3 c.f4 c.f5 = some true := by
      clear wj wi ws; generalize a * T = p at *; generalize x * T = q at *; exact nx (by omega) (by omega) (by omega) (fun _ => by omega) (by omega)
    rw [if_neg (by clear wj wi ws; omega), if_neg (by clear wj wi ws; omega), wi, ws]; by_cases h3 : c.f3 > 0
    · have mq' := mq h3; clear mq; have q1 : 10000 * (u.f0 - 1) < c.f3 * T := Int.lt_of_lt_of_le sd.2.2.2 mq'.2.1; have w1 : wrap64 (u.f0 - 1) = u.f0 - 1 := wrap_id (by clear wj wi ws; omega) (by clear wj wi ws; omega); have w2 : wrap64 ((u.f0 - 1) * 10000) = (u.f0 - 1) * 10000 := wrap_id (by clear wj wi ws w1; omega) (by clear wj wi ws w1; omega); have w3 : wrap64 (c.f3 * T) = c.f3 * T := wrap_id (by clear wj wi ws w1 w2; omega) (by clear wj wi ws w1 w2; omega); rw [if_pos h3, w1, w2, w3, if_neg (by clear wj wi ws w1 w2 w3; omega)]; exact nx'
    · rw [if_neg h3]; exact nx'
theorem SC_l1 (C : List S120) (j : Nat) (c : S120) (oc : ConOk c) (X : List (List S36)) (F : Nat)
    (hN : ∀ T : Int, 0 ≤ T → T ≤ 10000 → (∀ i : Int, 0 ≤ i → i < (c.f2.length : Int) → (rd_T106 c.f2 i).f1 ≤ T) → ∀ k, F ≤ k → stipendlaw15_SocialCeils.l2 k X (j : Int) T 0 C (C.length : Int) (j : Int) X (X.length : Int) 0 c.f0 c.f1 c.f2 c.f3 c.f4 c.f5 = some true) :
    ∀ (n : Nat) (i T : Int) (k : Nat), 0 ≤ i → i + n = (c.f2.length : Int) → 0 ≤ T → T ≤ 10000 → (∀ i' : Int, 0 ≤ i' → i' < i → (rd_T106 c.f2 i').f1 ≤ T) → F + n + 1 ≤ k →
    stipendlaw15_SocialCeils.l1 k X (j : Int) T C (C.length : Int) (j : Int) c.f2 (c.f2.length : Int) i c.f0 c.f1 c.f2 c.f3 c.f4 c.f5 = some true
  | 0, i, T, k, h0, hi, T0, T1, hT, hk => by
    obtain ⟨k, rfl⟩ : ∃ m, k = m + 1 := ⟨k - 1, by omega⟩
    rw [stipendlaw15_SocialCeils.l1, if_neg (by omega)]
    exact hN T T0 T1 (fun i' p0 p1 => hT i' p0 (by omega)) k (by omega)
  | n + 1, i, T, k, h0, hi, T0, T1, hT, hk => by
    obtain ⟨k, rfl⟩ : ∃ m, k = m + 1 := ⟨k - 1, by omega⟩
    have l8 := oc.bands.len
    have bd := (oc.bands.bd h0 (show i < (c.f2.length : Int) by omega)).2.2.2.2.1
    have e : wrap64 (i + 1) = i + 1 := wrap_id (by omega) (by omega)
    rw [stipendlaw15_SocialCeils.l1, if_pos (by clear e; omega), if_pos h0, if_pos (by clear e; omega), e]
    clear e
    have m1 : T ≤ mx T (rd_T106 c.f2 i).f1 ∧ (rd_T106 c.f2 i).f1 ≤ mx T (rd_T106 c.f2 i).f1 ∧ mx T (rd_T106 c.f2 i).f1 ≤ 10000 := by unfold mx; split <;> omega
    refine SC_l1 C j c oc X F hN n (i + 1) _ k (by omega) (by omega) (by omega) m1.2.2 (fun i' p0 p1 => ?_) (by omega)
    by_cases h : i' = i
    · subst h; exact m1.2.1
    · exact Int.le_trans (hT i' p0 (by omega)) m1.1
theorem SC_l0 (C : List S120) (hC : ∀ c ∈ C, ConOk c) (h6 : C.length ≤ 6) (l : List S67) (h60 : l.length ≤ 60) (X : List (List S36)) (hy : yearS C (List.replicate C.length 0) l = some X) (hX : 0 < X.length) (hX6 : X.length ≤ 60) :
    ∀ (m j k : Nat), j + m = C.length → 100 * m + 10 ≤ k → stipendlaw15_SocialCeils.l0 k X C (C.length : Int) (j : Int) = some true
  | 0, j, k, hj, hk => by
    obtain ⟨k, rfl⟩ : ∃ m, k = m + 1 := ⟨k - 1, by omega⟩
    rw [stipendlaw15_SocialCeils.l0, if_neg (by omega)]
  | m + 1, j, k, hj, hk => by
    obtain ⟨k, rfl⟩ : ∃ m, k = m + 1 := ⟨k - 1, by omega⟩
    have nx : ∀ k, 100 * m + 10 ≤ k → stipendlaw15_SocialCeils.l0 k X C (C.length : Int) ((j : Int) + 1) = some true := fun k hk => by
      have := SC_l0 C hC h6 l h60 X hy hX hX6 m (j + 1) k (by omega) hk
      rw [Int.natCast_succ] at this
      exact this
    obtain ⟨c, hc⟩ : ∃ c, rd_T120 C (j : Int) = c := ⟨_, rfl⟩
    have oc : ConOk c := hc ▸ hC _ (rd120_mem (by omega))
    have z : rd (List.replicate C.length (0 : Int)) (j : Int) = 0 := by
      have := rd_mem (A := List.replicate C.length (0 : Int)) (j := j) (by simp; omega); exact (List.mem_replicate.1 this).2
    rw [stipendlaw15_SocialCeils.l0, if_pos (by omega), if_pos (by omega), if_pos (by omega), hc]; refine SC_l1 C j c oc X (100 * m + 75) (fun T T0 T1 hT k hk => ?_) c.f2.length 0 0 k (by omega) (by omega) (by omega) (by omega) (fun i' p0 p1 => by omega) (by have := oc.bands.len; omega)
    have := SC_l2 C hC h6 j (by omega) c hc T T0 T1 hT X hX6 hX (100 * m + 10) nx l (List.replicate C.length 0) [] X 0 k (fun _ _ => trivial) ⟨by simp, fun a ha => by rw [(List.mem_replicate.1 ha).2]; decide⟩ hy rfl (fun _ => by rw [z]; exact oc.year.1) (by omega) (by simp) (by rw [z]; simp) (fun h => by simp at h) (by omega); exact this
theorem yearS_len (C : List S120) : ∀ (A : List Int) (l : List S67) (X : List (List S36)), yearS C A l = some X → X.length = l.length
  | _, [], X, h => by rw [yearS] at h; obtain rfl := Option.some.inj h; rfl
  | A, b :: t, X, h => by
    rw [yearS] at h
    cases hbo : (rb b && perOk C b A) with
    | false => rw [hbo, if_neg (by decide)] at h; cases h
    | true =>
      rw [hbo, if_pos rfl] at h
      obtain ⟨R, hR, rfl⟩ := Option.map_eq_some_iff.1 h
      rw [List.length_cons, List.length_cons, yearS_len C _ t R hR]
theorem sfits_is (L : List (List S106)) (C : List S120) (l2 : List S209) (a3 a4 : Int) : ∃ b, (∀ k, 1000 ≤ k → stipendlaw15_fits.f k L C l2 a3 a4 = some b) ∧ (b = true → TblOk L C a3 a4) := by
  obtain ⟨r, hr, hr0⟩ := table_Check_is L C l2 a3 a4; have no : ∀ P : Prop, (false = true → P) := fun P h => by cases h
  by_cases h1 : (L.length : Int) ≤ 20
  · by_cases h2 : (C.length : Int) ≤ 20
    · by_cases h3 : (l2.length : Int) ≤ 30
      · refine ⟨r == 0, fun k hk => ?_, fun h => hr0 (eq_of_beq h)⟩
        unfold stipendlaw15_fits.f; rw [if_pos h1, if_pos h2, if_pos h3, hr k (by omega)]
        rfl
      · exact ⟨false, fun k hk => by unfold stipendlaw15_fits.f; rw [if_pos h1, if_pos h2, if_neg h3], no _⟩
    · exact ⟨false, fun k hk => by unfold stipendlaw15_fits.f; rw [if_pos h1, if_neg h2], no _⟩
  · exact ⟨false, fun k hk => by unfold stipendlaw15_fits.f; rw [if_neg h1], no _⟩
theorem con_mem {L : List (List S106)} {C : List S120} {a3 a4 : Int} (h : TblOk L C a3 a4) : ∀ c ∈ C, ConOk c := by
  intro c hc; obtain ⟨j, hj, e⟩ := List.mem_iff_getElem.1 hc; have := h.con (j : Int) (Int.natCast_nonneg _) (by omega); unfold rd_T120 at this; rw [Int.toNat_natCast, List.getD_eq_getElem?_getD, List.getElem?_eq_getElem hj] at this; exact e ▸ this
theorem SocialCeils_all (L : List (List S106)) (C : List S120) (l2 : List S209) (a3 a4 : Int) (l : List S67) (k : Nat) (hk : 1000 ≤ k) (hp : stipendlaw15_pays.f k = some true) : stipendlaw15_SocialCeils.f k L C l2 a3 a4 l = some true := by
  obtain ⟨b, hb, hb0⟩ := sfits_is L C l2 a3 a4; unfold stipendlaw15_SocialCeils.f; rw [hp, Option.bind_some, if_pos rfl, hb k hk, Option.bind_some]
  cases b with
  | false => rw [if_neg (by decide)]
  | true =>
    have ht := hb0 rfl; rw [if_pos rfl]; by_cases h60 : (l.length : Int) > 60
    · rw [if_pos h60]
    rw [if_neg h60]; by_cases hz : (l.length : Int) = 0
    · rw [if_pos hz]
    have hC := con_mem ht; rw [if_neg hz, syear_is C hC ht.few L l2 a3 a4 l (by omega) k (by omega), Option.bind_some]
    cases hy : yearS C (List.replicate C.length 0) l with
    | none =>
      show (if (10 : Int) = 0 then stipendlaw15_SocialCeils.l0 k [] C (C.length : Int) 0 else some true) = some true
      rw [if_neg (by decide)]
    | some X =>
      have hl := yearS_len C _ l X hy; have := SC_l0 C hC ht.few l (by omega) X hy (by omega) (by omega) C.length 0 k (by omega) (by have := ht.few; omega)
      show (if (0 : Int) = 0 then stipendlaw15_SocialCeils.l0 k X C (C.length : Int) 0 else some true) = some true
      rw [if_pos rfl]; exact this
theorem SocialCeils_pure (t : S56) (l : List S67) (_ : W56 t) (_ : ∀ a ∈ l, W67 a) : ∃ k, stipendlaw15_SocialCeils.f k t.f0 t.f1 t.f2 t.f3 t.f4 l = some true := ⟨1000, SocialCeils_all _ _ _ _ _ _ 1000 (Nat.le_refl _) spays_1000⟩
end Go.Proofs.Ytcapgmoipacioaa.P
