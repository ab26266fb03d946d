import Derived.Test.YtcapgmoipacioaaU10Ze
import Derived.Test.YtcapgmoipacioaaR1Ze
import Derived.Test.YtcapgmoipacioaaPptaxExplainZe
import Derived.Test.YtcapgmoipacioaaPptaxAverageZe
import Derived.Test.YtcapgmoipacioaaPlTaxExplainsZe
namespace Go.Proofs.Ytcapgmoipacioaa.P
open Go.RowKit Go.Proofs.YtcapgmoipacioaaW.PrintWords Go.Proofs.YtcapgmoipacioaaW.PrintLast Go.Proofs.YtcapgmoipacioaaW.PrintMore
set_option linter.unusedVariables false
set_option linter.unusedSimpArgs false
theorem round_down {n d : Int} (h0 : 0 ≤ n) (h1 : n ≤ 1000000000000000) (hd : 0 < d) (k : Nat) (hk : 3 ≤ k) : frac_Round.f k n d 1 = some (Int.tdiv n d, 0) := by
  obtain ⟨k, rfl⟩ : ∃ j, k = j + 2 := ⟨k - 2, by omega⟩; have q0 : 0 ≤ Int.tdiv n d := by rw [Int.tdiv_eq_ediv_of_nonneg h0]; exact Int.ediv_nonneg h0 (by omega)
  have q1 : Int.tdiv n d ≤ n := by rw [Int.tdiv_eq_ediv_of_nonneg h0]; exact Int.ediv_le_self _ h0
  have r0 : 0 ≤ Int.tmod n d := Int.tmod_nonneg _ h0
  have fl : frac_floor.f n d = some (Int.tdiv n d, Int.tmod n d) := by
    unfold frac_floor.f; rw [if_neg (by omega), if_neg (by omega), wrap_id (by omega) (by omega)]
  have nr : frac_nearer.f (Int.tdiv n d) (Int.tmod n d) d 1 = some false := by
    unfold frac_nearer.f; rw [if_neg (by decide), if_neg (by decide), if_pos rfl]
  unfold frac_Round.f; rw [if_neg (by omega), frac_Mode_is, Option.bind_some, show modeB 1 = true from by decide, frac_Round.j0, if_neg (by decide), fl, Option.bind_some]; by_cases h : (Int.tdiv n d, Int.tmod n d).2 > 0
  · rw [if_pos h, nr, Option.bind_some, frac_Round.j1, if_neg (by decide)]
  · rw [if_neg h, frac_Round.j1, if_neg (by decide)]
def exT (x : Int) : List S106 → List S159
  | [] => []
  | [b] => if x ≤ b.f0 then [] else [⟨b.f1, x - b.f0, (x - b.f0) * b.f1⟩]
  | b :: c :: t => if mn x c.f0 ≤ b.f0 then [] else ⟨b.f1, mn x c.f0 - b.f0, (mn x c.f0 - b.f0) * b.f1⟩ :: exT x (c :: t)
theorem tex_j2 {x i : Int} {K : List S106} {acc : List S159} {b : S106} {tz : Int} (k : Nat) (hk : 3 ≤ k) (hB : BdB b) (ht : -100000000000 ≤ tz ∧ tz ≤ 100000000000) (ha : acc.length ≤ 8) (hi : 0 ≤ i) (hi8 : i ≤ 8) :
    tax_Explain.j2 (k + 1) x K acc tz K (K.length : Int) i b.f0 b.f1 b.f2 = if tz ≤ b.f0 then some (acc, 0) else tax_Explain.l0 k x K (acc ++ [⟨b.f1, tz - b.f0, (tz - b.f0) * b.f1⟩]) K (K.length : Int) (i + 1) := by
  rw [tax_Explain.j2]; by_cases h : tz ≤ b.f0
  · rw [if_pos h, if_pos h]
  · have B0 := hB.1; rw [if_neg h, if_neg h, wrap_id (x := tz - b.f0) (by omega) (by omega), frac_Part_is _ _ k (by omega), wrap_id (x := i + 1) (by omega) (by omega)]
    have p : partM (tz - b.f0) b.f1 = ((tz - b.f0) * b.f1, 0) := by
      unfold partM; rw [if_pos (rightB_iff.2 ⟨by omega, by omega⟩), if_pos (rateB_iff.2 hB.2.2.1)]
    rw [p, Option.bind_some, if_pos (show (((tz - b.f0) * b.f1, (0 : Int)) : Int × Int).2 = 0 from rfl), if_pos (by omega)]
theorem tex_l0 {x : Int} (hx : 0 ≤ x ∧ x ≤ 100000000000) (K : List S106) (h8 : K.length ≤ 8) (hb : ∀ b ∈ K, BdB b) (suf : List S106) : ∀ (pre : List S106) (acc : List S159) (k : Nat), K = pre ++ suf → acc.length ≤ pre.length → 2 * suf.length + 6 ≤ k →
    tax_Explain.l0 k x K acc K (K.length : Int) (pre.length : Int) = some (acc ++ exT x suf, 0) := by
  induction suf with
  | nil =>
    intro pre acc k hl ha hk; obtain ⟨k, rfl⟩ : ∃ m, k = m + 1 := ⟨k - 1, by omega⟩; rw [tax_Explain.l0, if_neg (by rw [hl]; simp), exT, List.append_nil]
  | cons b t ih =>
    intro pre acc k hl ha hk; simp only [List.length_cons] at hk; obtain ⟨k, rfl⟩ : ∃ m, k = m + 2 := ⟨k - 2, by omega⟩; have hlen : K.length = pre.length + (t.length + 1) := by rw [hl]; simp
    have e1 : K = pre ++ [b] ++ t := by rw [hl]; simp
    have e2 : ((pre ++ [b]).length : Int) = (pre.length : Int) + 1 := by simp
    have hr : rd_T106 K (pre.length : Int) = b := by rw [hl]; exact rd106_mid pre t b
    have B := hb b (by rw [hl]; simp); have next := fun acc' (h : acc'.length ≤ pre.length + 1) => ih (pre ++ [b]) acc' k e1 (by simp; omega) (by omega)
    rw [e2] at next
    cases t with
    | nil =>
      have hn : ¬ (pre.length : Int) + 1 < (K.length : Int) := by simp at hlen; omega
      rw [tax_Explain.l0, if_pos (by omega), if_pos (by omega), if_pos (by omega), wrap_id (x := (pre.length : Int) + 1) (by omega) (by omega), if_neg hn, hr, tex_j2 k (by omega) B (by omega) (by omega) (by omega) (by omega), exT]; by_cases h : x ≤ b.f0
      · rw [if_pos h, if_pos h, List.append_nil]
      · rw [if_neg h, if_neg h, next _ (by simp; omega), exT, List.append_nil]
    | cons c t =>
      have hr2 : rd_T106 K ((pre.length : Int) + 1) = c := by rw [hl]; exact rd106_next pre b c t
      have C := hb c (by rw [hl]; simp); have C0 := C.1; have hp : (pre.length : Int) + 1 < (K.length : Int) := by simp only [List.length_cons] at hlen; omega
      have hm : -100000000000 ≤ mn x c.f0 ∧ mn x c.f0 ≤ 100000000000 := by unfold mn; split <;> omega
      rw [tax_Explain.l0, if_pos (by omega), if_pos (by omega), if_pos (by omega), wrap_id (x := (pre.length : Int) + 1) (by omega) (by omega), if_pos hp, if_pos (by omega), hr2, hr, tex_j2 k (by omega) B hm (by omega) (by omega) (by omega), exT]; by_cases h : mn x c.f0 ≤ b.f0
      · rw [if_pos h, if_pos h, List.append_nil]
      · rw [if_neg h, if_neg h, next _ (by simp; omega), List.append_assoc, List.cons_append, List.nil_append]
def sumA : List S159 → Int
  | [] => 0
  | x :: t => x.f1 + sumA t
def sumT : List S159 → Int
  | [] => 0
  | x :: t => x.f2 + sumT t
def topE : Int → List S159 → Int
  | m, [] => m
  | m, x :: t => topE (mx m x.f0) t
def ShOk (x : S159) : Prop := 0 < x.f1 ∧ x.f1 ≤ 100000000000 ∧ (0 ≤ x.f0 ∧ x.f0 ≤ 10000) ∧ x.f2 = x.f1 * x.f0
theorem exT_low {x : Int} : ∀ (l : List S106), Ris l → (∀ b, l.head? = some b → x ≤ b.f0) → exT x l = []
  | [], _, _ => rfl
  | [b], _, h => by rw [exT, if_pos (h b rfl)]
  | b :: c :: t, hr, h => by rw [exT, if_pos (by have := h b rfl; unfold mn; split <;> omega)]
theorem wL_low {x : Int} : ∀ (l : List S106), Ris l → (∀ b, l.head? = some b → x ≤ b.f0) → wL x l = 0
  | [], _, _ => rfl
  | [b], _, h => by rw [wL, show mx 0 (x - b.f0) = 0 by have := h b rfl; unfold mx; split <;> omega, Int.zero_mul]
  | b :: c :: t, hr, h => by
    have h1 := h b rfl
    have h2 := hr.1
    rw [wL, show mx 0 (mn x c.f0 - b.f0) = 0 by unfold mx mn; repeat' split; all_goals omega, Int.zero_mul, Int.zero_add]
    exact wL_low (c :: t) hr.2 (fun z hz => by simp at hz; subst hz; omega)
theorem exT_sum {x : Int} (hx : x ≤ 100000000000) : ∀ (l : List S106), Ris l → (∀ b ∈ l, BdB b) → sumT (exT x l) = wL x l ∧ (∀ b t, l = b :: t → b.f0 < x → sumA (exT x l) = x - b.f0) ∧ (∀ y ∈ exT x l, ShOk y) ∧ (exT x l).length ≤ l.length
  | [], _, _ => ⟨rfl, (fun b t h => by cases h), (fun y hy => by simp [exT] at hy), Nat.le_refl _⟩
  | [b], _, hb => by
    have B := hb b List.mem_cons_self
    have B0 := B.1
    rw [exT, wL]
    by_cases h : x ≤ b.f0
    · rw [if_pos h, show mx 0 (x - b.f0) = 0 by unfold mx; split <;> omega, Int.zero_mul]
      exact ⟨rfl, fun b' t h1 h2 => by cases h1; omega, fun y hy => by simp at hy, by simp⟩
    · rw [if_neg h, show mx 0 (x - b.f0) = x - b.f0 by unfold mx; split <;> omega]
      refine ⟨by rw [sumT, sumT, Int.add_zero], fun b' t h1 h2 => by cases h1; rw [sumA, sumA, Int.add_zero], fun y hy => ?_, by simp⟩
      rw [List.mem_singleton.1 hy]
      exact ⟨by show 0 < x - b.f0; omega, by show x - b.f0 ≤ _; omega, B.2.2.1, rfl⟩
  | b :: c :: t, hr, hb => by
    have B := hb b List.mem_cons_self
    have B0 := B.1
    have C := hb c (List.mem_cons_of_mem _ List.mem_cons_self)
    have C1 := C.2.1
    have h2 := hr.1
    obtain ⟨i1, i2, i3, i4⟩ := exT_sum hx (c :: t) hr.2 (fun y hy => hb y (List.mem_cons_of_mem _ hy))
    by_cases h : mn x c.f0 ≤ b.f0
    · have hxb : x ≤ b.f0 := by unfold mn at h; split at h <;> omega
      have e1 := exT_low (x := x) (b :: c :: t) hr (fun z hz => by simp at hz; subst hz; exact hxb)
      have e2 := wL_low (x := x) (b :: c :: t) hr (fun z hz => by simp at hz; subst hz; exact hxb)
      rw [e1, e2]
      exact ⟨rfl, fun b' t h1 h2 => by cases h1; omega, fun y hy => by simp at hy, by simp⟩
    · rw [exT, wL, if_neg h, show mx 0 (mn x c.f0 - b.f0) = mn x c.f0 - b.f0 by unfold mx; split <;> omega]
      refine ⟨by rw [sumT, i1], fun b' t' h1 h3 => ?_, fun y hy => ?_, by simp only [List.length_cons] at i4 ⊢; omega⟩
      · cases h1
        rw [sumA]
        by_cases hc : c.f0 < x
        · rw [i2 c t rfl hc, show mn x c.f0 = c.f0 by unfold mn; split <;> omega]
          show c.f0 - b.f0 + (x - c.f0) = x - b.f0
          omega
        · rw [exT_low (c :: t) hr.2 (fun z hz => by simp at hz; subst hz; omega), sumA, show mn x c.f0 = x by unfold mn; split <;> omega, Int.add_zero]
      · rcases List.mem_cons.1 hy with rfl | hy
        · exact ⟨by show 0 < mn x c.f0 - b.f0; omega, by show mn x c.f0 - b.f0 ≤ _; unfold mn; split <;> omega, B.2.2.1, rfl⟩
        · exact i3 y hy
theorem topE_le : ∀ (l : List S159) (m : Int), m ≤ topE m l
  | [], m => Int.le_refl _
  | x :: t, m => Int.le_trans (show m ≤ mx m x.f0 by unfold mx; split <;> omega) (topE_le t _)
theorem sumT_top : ∀ (l : List S159) (m : Int), 0 ≤ m → (∀ y ∈ l, ShOk y) → sumT l ≤ sumA l * topE m l
  | [], m, hm, _ => by simp [sumT, sumA]
  | x :: t, m, hm, h => by
    have hx := h x List.mem_cons_self
    have ih := sumT_top t (mx m x.f0) (by unfold mx; split <;> omega) (fun y hy => h y (List.mem_cons_of_mem _ hy))
    have h1 : x.f0 ≤ topE (mx m x.f0) t := Int.le_trans (show x.f0 ≤ mx m x.f0 by unfold mx; split <;> omega) (topE_le t _)
    have h2 := Int.mul_le_mul_of_nonneg_left h1 (Int.le_of_lt hx.1)
    rw [sumT, sumA, topE, Int.add_mul, hx.2.2.2]
    omega
theorem sumA_nonneg : ∀ (l : List S159), (∀ y ∈ l, ShOk y) → 0 ≤ sumA l ∧ 0 ≤ sumT l
  | [], _ => ⟨Int.le_refl _, Int.le_refl _⟩
  | x :: t, h => by
    have hx := h x List.mem_cons_self
    have ih := sumA_nonneg t (fun y hy => h y (List.mem_cons_of_mem _ hy))
    have := Int.mul_nonneg (Int.le_of_lt hx.1) hx.2.2.1.1
    rw [sumA, sumT, hx.2.2.2]
    have := hx.1
    omega
theorem rd159_mid (pre suf : List S159) (x : S159) : rd_T159 (pre ++ x :: suf) (pre.length : Int) = x := by
  unfold rd_T159
  simp [List.getD_eq_getElem?_getD]
def explM (L : List (List S106)) (s kd am fl x n d : Int) : List S159 :=
  if (chargeM s kd am fl x n d).1 = 0 then [] else if kd = 4 then [] else if kd = 3 then [⟨(rd_T106 (rd_L3 L s) fl).f1, (chargeM s kd am fl x n d).1, (taxM L s kd am fl x n d).1⟩] else exT (chargeM s kd am fl x n d).1 (keepS n d (rd_L3 L s))
theorem tax_Explain_is {L : List (List S106)} {l1 : List S120} {l2 : List S209} {a3 a4 : Int} (ht : TblOk L l1 a3 a4) (k : Nat) (hk : 40 ≤ k) (s kd am fl x n d : Int) (al : Bool) (hf : fitsM L s kd am fl = 0) (hp : partOk n d = true) :
    tax_Explain.f k L l1 l2 a3 a4 s kd am fl al x n d = some (if (chargeM s kd am fl x n d).2 = 0 then (explM L s kd am fl x n d, 0) else ([], (chargeM s kd am fl x n d).2)) := by
  obtain ⟨k, rfl⟩ : ∃ m, k = m + 1 := ⟨k - 1, by omega⟩; have hE := tax_Exact_is (l2 := l2) ht (k + 1) (by omega) s kd am fl x n d al; have hC := code_Charge_is (k + 1) (by omega) s kd am fl x n d al; obtain ⟨f1, f2, f3⟩ := fitsM_zero hf; have hb := codeM_zero f1; by_cases hc : (chargeM s kd am fl x n d).2 = 0
  · have h0 := taxM_ok (L := L) (x := x) (n := n) (d := d) hf hc; obtain ⟨c1, c2, c3, c4, c5⟩ := charge_ok hc; have hg := ht.good s hb.1.1 f2; obtain ⟨p1, p2, p3, p4⟩ := partOk_iff.1 hp; unfold tax_Explain.f explM; rw [hE, Option.bind_some, if_pos h0, hC, Option.bind_some, if_pos hc, if_pos hc]; by_cases hz : (chargeM s kd am fl x n d).1 = 0
    · rw [if_pos hz, if_pos hz, tax_Explain.j0, if_pos rfl, hc]
    rw [if_neg hz, if_neg hz]; by_cases h4 : kd = 4
    · rw [if_pos h4, beq_iff_eq.2 h4, tax_Explain.j0, if_pos rfl, hc]
    rw [if_neg h4, beq_eq_false_iff_ne.2 h4, tax_Explain.j0, if_neg (by decide)]; by_cases h3 : kd = 3
    · rw [if_pos h3, if_pos h3, if_pos hb.1.1, if_pos f2, if_pos hb.2.2.2.1.1, if_pos (f3 h3)]
    · have hk' := keepS_good hg p1 p2 p3; have k8 := hk'.len; rw [if_neg h3, if_neg h3, if_pos hb.1.1, if_pos f2, band_Scale_is hg p1 p2 p3 p4 k (by omega), Option.bind_some, if_pos (show ((keepS n d (rd_L3 L s), (0 : Int)) : List S106 × Int).2 = 0 from rfl)]; have := tex_l0 c3 (keepS n d (rd_L3 L s)) k8 hk'.all (keepS n d (rd_L3 L s)) [] [] k rfl (Nat.le_refl _) (by omega); rw [List.nil_append, show ((([] : List S106).length : Nat) : Int) = 0 from rfl] at this; exact this
  · have e2 : taxM L s kd am fl x n d = (0, (chargeM s kd am fl x n d).2) := by unfold taxM; rw [if_pos hf, if_neg hc]
    unfold tax_Explain.f; rw [hE, Option.bind_some, e2, if_neg (show ¬ (((0 : Int), (chargeM s kd am fl x n d).2) : Int × Int).2 = 0 from hc), if_neg hc]
theorem explM_ok {L : List (List S106)} {l1 : List S120} {a3 a4 : Int} (ht : TblOk L l1 a3 a4) {s kd am fl x n d : Int} (hf : fitsM L s kd am fl = 0) (hp : partOk n d = true) (hc : (chargeM s kd am fl x n d).2 = 0) :
    sumA (explM L s kd am fl x n d) = (chargeM s kd am fl x n d).1 ∧ sumT (explM L s kd am fl x n d) = (taxM L s kd am fl x n d).1 ∧ (∀ y ∈ explM L s kd am fl x n d, ShOk y) ∧ (explM L s kd am fl x n d).length ≤ (rd_L3 L s).length := by
  obtain ⟨f1, f2, f3⟩ := fitsM_zero hf; have hb := codeM_zero f1; obtain ⟨c1, c2, c3, c4, c5⟩ := charge_ok hc; have hg := ht.good s hb.1.1 f2; have hgp := hg.pos; obtain ⟨p1, p2, p3, p4⟩ := partOk_iff.1 hp; unfold explM taxM; rw [if_pos hf, if_pos hc]; by_cases hz : (chargeM s kd am fl x n d).1 = 0
  · rw [if_pos hz, hz]; refine ⟨rfl, ?_, fun y hy => by simp at hy, by simp⟩
    by_cases h4 : kd = 4
    · rw [if_pos h4]; rfl
    rw [if_neg h4]; by_cases h3 : kd = 3
    · rw [if_pos h3]; show (0 : Int) = 0 * _; rw [Int.zero_mul]
    · rw [if_neg h3]
      show (0 : Int) = refT 0 n d _
      rw [← ex_keep hg p1 p2 p3, ex_none (keepS_good hg p1 p2 p3) (Int.le_refl 0)]
  rw [if_neg hz]
  have h4 : ¬ kd = 4 := by
    intro h4
    apply hz
    unfold chargeM at hc ⊢; by_cases q : (freeM s kd am fl n d).2 = 0
    · rw [if_pos q, if_pos h4] at hc ⊢
      split <;> rfl
    · rw [if_neg q]
  rw [if_neg h4, if_neg h4]; by_cases h3 : kd = 3
  · have B := (hg.bd (i := fl) hb.2.2.2.1.1 (f3 h3)).2.2.2.2.1; rw [if_pos h3, if_pos h3]; refine ⟨by rw [sumA, sumA, Int.add_zero], by rw [sumT, sumT, Int.add_zero], fun y hy => ?_, by simp; omega⟩
    rw [List.mem_singleton.1 hy]; exact ⟨by show 0 < (chargeM s kd am fl x n d).1; omega, c3.2, B, rfl⟩
  · rw [if_neg h3, if_neg h3]; have hk := keepS_good hg p1 p2 p3; obtain ⟨e1, e2, e3, e4⟩ := exT_sum c3.2 (keepS n d (rd_L3 L s)) hk.ris hk.all; obtain ⟨b, t, hbt, hb0⟩ := good_cons hk; refine ⟨?_, by rw [e1, wL_keep], e3, Nat.le_trans e4 (keepS_len n d _)⟩
    rw [e2 b t hbt (by omega), hb0, Int.sub_zero]
theorem tax_Average_is {L : List (List S106)} {l1 : List S120} {l2 : List S209} {a3 a4 : Int} (ht : TblOk L l1 a3 a4) (k : Nat) (hk : 40 ≤ k) (s kd am fl x n d : Int) (al : Bool) :
    tax_Average.f k L l1 l2 a3 a4 s kd am fl al x n d = some (if (taxM L s kd am fl x n d).2 = 0 then (if x ≤ 0 then 0 else Int.tdiv (taxM L s kd am fl x n d).1 x, 0) else (0, (taxM L s kd am fl x n d).2)) := by
  obtain ⟨k, rfl⟩ : ∃ m, k = m + 1 := ⟨k - 1, by omega⟩; have hE := tax_Exact_is (l2 := l2) ht (k + 1) (by omega) s kd am fl x n d al; have bd := taxM_bd ht s kd am fl x n d; unfold tax_Average.f; rw [hE, Option.bind_some]; by_cases h : (taxM L s kd am fl x n d).2 = 0
  · rw [if_pos h, if_pos h, tax_Average.j0]; by_cases hx : x ≤ 0
    · rw [decide_eq_true hx, if_pos rfl, if_pos hx, h]
    · rw [decide_eq_false hx, if_neg (by decide), if_neg hx, round_down bd.1 bd.2 (by omega) k (by omega), Option.bind_some]
  · rw [if_neg h, if_neg h, tax_Average.j0, if_pos rfl]
theorem TE_l0 {L : List (List S106)} {l1 : List S120} {l2 : List S209} {a3 a4 : Int} (ht : TblOk L l1 a3 a4) {s kd am fl x n d : Int} {al : Bool} (hf : fitsM L s kd am fl = 0) (hp : partOk n d = true) (hc : (chargeM s kd am fl x n d).2 = 0) (l : List S159) (a : Int)
    (hl : l.length ≤ (rd_L3 L s).length) (hav : a = if x ≤ 0 then 0 else Int.tdiv (taxM L s kd am fl x n d).1 x) (T : Int) (htop : kd = 2 ∨ a ≤ T) (suf : List S159) :
    ∀ (pre : List S159) (am0 all0 top : Int) (k : Nat), l = pre ++ suf → (∀ y ∈ suf, ShOk y) → 0 ≤ am0 → 0 ≤ all0 → am0 + sumA suf = (chargeM s kd am fl x n d).1 → all0 + sumT suf = (taxM L s kd am fl x n d).1 → topE top suf = T → 2 * suf.length + 50 ≤ k →
    stipendlaw13_TaxExplains.l0 k l 0 a 0 (chargeM s kd am fl x n d).1 am0 all0 top l (l.length : Int) (pre.length : Int) L l1 l2 a3 a4 s kd am fl al x n d = some true := by
  obtain ⟨f1, f2, f3⟩ := fitsM_zero hf; have hb := codeM_zero f1; obtain ⟨c1, c2, c3, c4, c5⟩ := charge_ok hc; have bd := taxM_bd ht s kd am fl x n d; have h8 := (ht.good s hb.1.1 f2).len
  induction suf with
  | nil =>
    intro pre am0 all0 top k hl0 hs h0 h1 hA hT htp hk; obtain ⟨k, rfl⟩ : ∃ m, k = m + 2 := ⟨k - 2, by omega⟩; have hR := ref_Exact13_is (l2 := l2) ht (k + 1) (by omega) s kd am fl x n d al hf hc; rw [sumA, Int.add_zero] at hA; rw [sumT, Int.add_zero] at hT; have hlen : ¬ (l.length : Int) > ((rd_L3 L s).length : Int) := by omega
    rw [stipendlaw13_TaxExplains.l0, if_neg (by rw [hl0]; simp), hR, Option.bind_some, if_pos rfl, if_pos rfl, if_pos hA, if_pos hT, if_pos hb.1.1, if_pos f2, decide_eq_false hlen, stipendlaw13_TaxExplains.j2, if_neg (by decide)]; rw [topE] at htp; by_cases hx : x ≤ 0
    · rw [if_pos hx, hav, if_pos hx]; rfl
    · have q0 : 0 ≤ Int.tdiv (taxM L s kd am fl x n d).1 x := by rw [Int.tdiv_eq_ediv_of_nonneg bd.1]; exact Int.ediv_nonneg bd.1 (by omega)
      have q1 : Int.tdiv (taxM L s kd am fl x n d).1 x ≤ (taxM L s kd am fl x n d).1 := by rw [Int.tdiv_eq_ediv_of_nonneg bd.1]; exact Int.ediv_le_self _ bd.1
      have ha : a = Int.tdiv (taxM L s kd am fl x n d).1 x := by rw [hav, if_neg hx]
      rw [if_neg hx, if_neg (by omega), wrap_id (x := Int.tdiv (taxM L s kd am fl x n d).1 x) (by omega) (by omega), if_pos ha]
      rcases htop with h2 | h2
      · rw [if_pos h2]
      · split
        · rfl
        · rw [htp, decide_eq_true h2]
  | cons y t ih =>
    intro pre am0 all0 top k hl0 hs h0 h1 hA hT htp hk; simp only [List.length_cons] at hk; obtain ⟨k, rfl⟩ : ∃ m, k = m + 2 := ⟨k - 2, by omega⟩; have hlen : l.length = pre.length + (t.length + 1) := by rw [hl0]; simp
    have e1 : l = pre ++ [y] ++ t := by rw [hl0]; simp
    have e2 : ((pre ++ [y]).length : Int) = (pre.length : Int) + 1 := by simp
    have hr : rd_T159 l (pre.length : Int) = y := by rw [hl0]; exact rd159_mid pre t y
    obtain ⟨y1, y2, y3, y4⟩ := hs y List.mem_cons_self; have sn := sumA_nonneg t (fun z hz => hs z (List.mem_cons_of_mem _ hz)); have yb := flat_bd (c := y.f1) (r := y.f0) ⟨by omega, y2⟩ y3; rw [sumA] at hA; rw [sumT] at hT; rw [topE] at htp; have next := ih (pre ++ [y]) (am0 + y.f1) (all0 + y.f2) (mx top y.f0) k e1 (fun z hz => hs z (List.mem_cons_of_mem _ hz)) (by omega) (by omega) (by omega) (by omega) htp (by omega); rw [e2] at next; have w1 : wrap64 (y.f1 * y.f0) = y.f1 * y.f0 := wrap_id (by omega) (by omega); rw [stipendlaw13_TaxExplains.l0, if_pos (by omega), if_pos (by omega), if_pos (by omega), hr, if_neg (by omega), w1, y4, show (y.f1 * y.f0 != y.f1 * y.f0) = false by simp, stipendlaw13_TaxExplains.j1, if_neg (by decide)]; rw [y4] at next hT; clear w1; rw [wrap_id (x := am0 + y.f1) (by omega) (by omega), wrap_id (x := all0 + y.f1 * y.f0) (by omega) (by omega), wrap_id (x := (pre.length : Int) + 1) (by omega) (by omega)]; exact next
theorem TaxExplains_all (L : List (List S106)) (l1 : List S120) (l2 : List S209) (a3 a4 s kd am fl x n d : Int) (al : Bool) (k : Nat) (hk : 200 ≤ k) (hd : stipendlaw13_dues.f k = some true) : stipendlaw13_TaxExplains.f k L l1 l2 a3 a4 s kd am fl al x n d = some true := by
  obtain ⟨b, hb, hb1⟩ := fits_is L l1 l2 a3 a4 s kd am fl n d al; unfold stipendlaw13_TaxExplains.f; rw [hd, Option.bind_some, if_pos rfl, hb k (by omega), Option.bind_some]
  cases b with
  | false => rw [if_neg (by decide)]
  | true =>
    rw [if_pos rfl]; obtain ⟨ht, hf, hp⟩ := hb1 rfl; obtain ⟨f1, f2, f3⟩ := fitsM_zero hf; have hcd := codeM_zero f1; have hC := code_Charge_is k (by omega) s kd am fl x n d al; have hX := tax_Explain_is (l2 := l2) ht k (by omega) s kd am fl x n d al hf hp; have hA := tax_Average_is (l2 := l2) ht k (by omega) s kd am fl x n d al; have bd := taxM_bd ht s kd am fl x n d; rw [hX, Option.bind_some, hA, Option.bind_some, hC, Option.bind_some]; by_cases hc : (chargeM s kd am fl x n d).2 = 0
    · have h0 := taxM_ok (L := L) (x := x) (n := n) (d := d) hf hc; obtain ⟨e1, e2, e3, e4⟩ := explM_ok ht hf hp hc; obtain ⟨c1, c2, c3, c4, c5⟩ := charge_ok hc; have h8 := (ht.good s hcd.1.1 f2).len; rw [if_pos hc, if_pos hc, if_pos h0]; refine TE_l0 ht hf hp hc (explM L s kd am fl x n d) _ e4 rfl (topE 0 (explM L s kd am fl x n d)) ?_ (explM L s kd am fl x n d) [] 0 0 0 k rfl e3 (Int.le_refl _) (Int.le_refl _) (by omega) (by omega) rfl (by omega)
      by_cases h2 : kd = 2
      · exact .inl h2
      · right
        have st := sumT_top (explM L s kd am fl x n d) 0 (Int.le_refl _) e3; have t0 := topE_le (explM L s kd am fl x n d) 0; rw [e1, e2] at st; by_cases hx : x ≤ 0
        · rw [if_pos hx]; exact t0
        · rw [if_neg hx, Int.tdiv_eq_ediv_of_nonneg bd.1]; refine Int.ediv_le_of_le_mul (by omega) ?_
          refine Int.le_trans st ?_
          rw [Int.mul_comm]; refine Int.mul_le_mul_of_nonneg_left ?_ t0
          by_cases h4 : kd = 4
          · have : (chargeM s kd am fl x n d).1 = 0 := by
              unfold chargeM; by_cases q : (freeM s kd am fl n d).2 = 0
              · rw [if_pos q, if_pos h4]; split <;> rfl
              · rw [if_neg q]
            omega
          · have fx : 0 ≤ freeX kd am n d := by
              obtain ⟨p1, p2, p3, p4⟩ := partOk_iff.1 hp; unfold freeX; rw [if_neg h2]; exact (sc_bd hcd.2.2.1.1 (by omega) p1 p2 p3).1
            rw [(c5 h4).1]; unfold mx
            split <;> omega
    · have e2 : taxM L s kd am fl x n d = (0, (chargeM s kd am fl x n d).2) := by unfold taxM; rw [if_pos hf, if_neg hc]
      rw [if_neg hc, if_neg hc, e2, if_neg (show ¬ (((0 : Int), (chargeM s kd am fl x n d).2) : Int × Int).2 = 0 from hc), if_pos rfl, if_pos rfl]
      simp
theorem TaxExplains_pure (t : S56) (c : S88) (p : S135) (_ : W56 t) (_ : W88 c) (_ : W135 p) : ∃ k, stipendlaw13_TaxExplains.f k t.f0 t.f1 t.f2 t.f3 t.f4 c.f0 c.f1 c.f2 c.f3 c.f4 p.f0 p.f1 p.f2 = some true := ⟨200, TaxExplains_all _ _ _ _ _ _ _ _ _ _ _ _ _ 200 (Nat.le_refl _) dues_200⟩
end Go.Proofs.Ytcapgmoipacioaa.P
