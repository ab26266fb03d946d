import Derived.Test.YtcapgmoipacioaaU12Zd
import Derived.Test.YtcapgmoipacioaaPprefyearZd
namespace Go.Proofs.Ytcapgmoipacioaa.P
open Go.RowKit Go.Proofs.YtcapgmoipacioaaW.PrintWords Go.Proofs.YtcapgmoipacioaaW.PrintLast Go.Proofs.YtcapgmoipacioaaW.PrintMore
set_option linter.unusedVariables false
set_option linter.unusedSimpArgs false
def stepX (L : List (List S106)) (a4 nom i : Int) (x : S90) (sum due : Int) : Int × Int := stepM L a4 nom i x.f0.f0 x.f0.f1 x.f0.f2 x.f0.f3 x.f0.f4 x.f1 sum due
def yearG (L : List (List S106)) (a4 nom : Int) : Int → Int → Int → List Int → List S90 → List Int × Int
  | _, _, _, acc, [] => (acc, 0)
  | i, sum, due, acc, x :: t =>
    if (addM sum x.f1).2 = 0 then
      (if (stepX L a4 nom (i + 1) x (addM sum x.f1).1 due).2 = 0 then yearG L a4 nom (i + 1) (addM sum x.f1).1 (stepX L a4 nom (i + 1) x (addM sum x.f1).1 due).1 (acc ++ [(stepX L a4 nom (i + 1) x (addM sum x.f1).1 due).1]) t
        else ([], (stepX L a4 nom (i + 1) x (addM sum x.f1).1 due).2))
    else ([], (addM sum x.f1).2)
theorem year_l0G {L : List (List S106)} {l1 : List S120} {l2 : List S209} {a3 a4 : Int} (ht : TblOk L l1 a3 a4) {fr days c nom : Int} (hy : YOk fr days c nom) (b1 b2 b3 b4 b5 b6 b7 : Int) (l : List S90) (hc : (l.length : Int) ≤ c) (suf : List S90) :
    ∀ (pre : List S90) (acc : List Int) (sum due : Int) (k : Nat), l = pre ++ suf → acc.length = pre.length → suf.length + 40 ≤ k →
    tax_Year.l0 k acc sum due l (l.length : Int) (pre.length : Int) fr b1 b2 b3 b4 b5 b6 b7 days L l1 l2 a3 a4 = some ((yearG L a4 nom (pre.length : Int) sum due acc suf).1, (yearG L a4 nom (pre.length : Int) sum due acc suf).2, fr, b1, b2, b3, b4, b5, b6, b7, days) := by
  have c1 := hy.c1
  induction suf with
  | nil =>
    intro pre acc sum due k hl ha hk; obtain ⟨k, rfl⟩ : ∃ m, k = m + 1 := ⟨k - 1, by omega⟩; rw [tax_Year.l0, if_neg (by rw [hl]; simp), yearG]
  | cons x t ih =>
    intro pre acc sum due k hl ha hk; simp only [List.length_cons] at hk; obtain ⟨k, rfl⟩ : ∃ m, k = m + 1 := ⟨k - 1, by omega⟩; have hlen : l.length = pre.length + (t.length + 1) := by rw [hl]; simp
    have e1 : l = pre ++ [x] ++ t := by rw [hl]; simp
    have e2 : ((pre ++ [x]).length : Int) = (pre.length : Int) + 1 := by simp
    have hr : rd_T90 l (pre.length : Int) = x := by rw [hl]; exact rd90_mid pre t x
    have hadd : money_Add.f k sum x.f1 = some (addM sum x.f1) := money_Add_is _ _ k (by omega); have hnx : ∀ z, tax_Next.f k L l1 l2 a3 a4 fr b1 b2 b3 b4 b5 b6 b7 days ((pre.length : Int) + 1) x.f0.f0 x.f0.f1 x.f0.f2 x.f0.f3 x.f0.f4 x.f1 z due = some ((stepX L a4 nom ((pre.length : Int) + 1) x z due).1, (stepX L a4 nom ((pre.length : Int) + 1) x z due).2, fr, b1, b2, b3, b4, b5, b6, b7, days) := fun z => next_is ht hy k (by omega) b1 b2 b3 b4 b5 b6 b7 _ _ _ _ _ _ _ _ _ (by omega) (by omega)
    have g0 : 0 ≤ (pre.length : Int) := Int.natCast_nonneg _; have hlt : (pre.length : Int) < (l.length : Int) := by omega
    have hl1 : acc.length < 17592186044416 := by omega
    have w1 : -9223372036854775808 ≤ (pre.length : Int) + 1 := by omega
    have w2 : (pre.length : Int) + 1 ≤ 9223372036854775807 := by omega
    have next := fun z q => ih (pre ++ [x]) (acc ++ [q]) z q k e1 (by simp; omega) (by omega)
    rw [e2] at next; rw [yearG]; obtain ⟨a, ha2⟩ : ∃ a, addM sum x.f1 = a := ⟨_, rfl⟩; rw [ha2] at hadd ⊢; clear ha2; rw [tax_Year.l0, if_pos hlt, if_pos g0, if_pos hlt, hr, hadd, Option.bind_some]; by_cases h1 : a.2 = 0
    · rw [if_pos h1, if_pos h1, wrap_id w1 w2, hnx, Option.bind_some]; obtain ⟨q, hq⟩ : ∃ q, stepX L a4 nom ((pre.length : Int) + 1) x a.1 due = q := ⟨_, rfl⟩; rw [hq]; by_cases h2 : q.2 = 0
      · rw [if_pos h2, if_pos h2, if_pos hl1]; exact next a.1 q.1
      · rw [if_neg h2, if_neg h2]
    · rw [if_neg h1, if_neg h1]
theorem year_any {L : List (List S106)} {l1 : List S120} {l2 : List S209} {a3 a4 : Int} (ht : TblOk L l1 a3 a4) {fr days c nom : Int} (hy : YOk fr days c nom) (b1 b2 b3 b4 b5 b6 b7 : Int) (l : List S90) (hc : (l.length : Int) ≤ c) (k : Nat) (hk : 100 ≤ k) :
    tax_Year.f k L l1 l2 a3 a4 fr b1 b2 b3 b4 b5 b6 b7 days l = some ((yearG L a4 nom 0 0 0 [] l).1, (yearG L a4 nom 0 0 0 [] l).2, fr, b1, b2, b3, b4, b5, b6, b7, days) := by
  have c1 := hy.c1; have h := year_l0G (l2 := l2) ht hy b1 b2 b3 b4 b5 b6 b7 l hc l [] [] 0 0 k rfl rfl (by omega); rw [show ((([] : List S90).length : Nat) : Int) = 0 from rfl] at h; have hn : ¬ (l.length : Int) > c := by omega
  unfold tax_Year.f; rw [hy.cnt, Option.bind_some, if_neg hn, h]
theorem year_over {L : List (List S106)} {l1 : List S120} {l2 : List S209} {a3 a4 : Int} {fr days c nom : Int} (hy : YOk fr days c nom) (b1 b2 b3 b4 b5 b6 b7 : Int) (l : List S90) (hc : (l.length : Int) > c) (k : Nat) :
    tax_Year.f k L l1 l2 a3 a4 fr b1 b2 b3 b4 b5 b6 b7 days l = some ([], 1, fr, b1, b2, b3, b4, b5, b6, b7, days) := by
  unfold tax_Year.f; rw [hy.cnt, Option.bind_some, if_pos hc]
theorem addM_ok {A a b : Int} (h0 : 0 ≤ A) (hA : A + (b.natAbs : Int) ≤ 53000000000) (ha : -A ≤ a ∧ a ≤ A) : addM a b = (a + b, 0) := by
  unfold addM checkM; rw [rightB_iff.2 (show -100000000000 ≤ a ∧ a ≤ 100000000000 by omega), rightB_iff.2 (show -100000000000 ≤ b ∧ b ≤ 100000000000 by omega), rightB_iff.2 (show -100000000000 ≤ a + b ∧ a + b ≤ 100000000000 by omega)]
  rfl
theorem due_bad {L : List (List S106)} {a4 s kd am fl x n d : Int} (h : ¬ fitsM L s kd am fl = 0) : dueM L a4 s kd am fl x n d = (0, fitsM L s kd am fl) := by
  have e : taxM L s kd am fl x n d = (0, fitsM L s kd am fl) := by unfold taxM; rw [if_neg h]
  unfold dueM; rw [e, if_neg h]
theorem step_bad {L : List (List S106)} {a4 nom i sum due : Int} {x : S90} (h : ¬ StepOk L x) : stepX L a4 nom i x sum due = (0, fitsM L x.f0.f0 x.f0.f1 x.f0.f2 x.f0.f3) := by
  have h' : ¬ fitsM L x.f0.f0 x.f0.f1 x.f0.f2 x.f0.f3 = 0 := h; unfold stepX stepM; rw [due_bad h', due_bad h']
  cases x.f0.f4 with
  | true => rw [if_pos rfl, if_neg (show ¬ (((0 : Int), fitsM L x.f0.f0 x.f0.f1 x.f0.f2 x.f0.f3) : Int × Int).2 = 0 from h')]
  | false => rw [if_neg (by decide)]
def firstA : List S90 → Int
  | [] => 0
  | x :: _ => (x.f1.natAbs : Int)
theorem firstA_nonneg : ∀ l : List S90, 0 ≤ firstA l
  | [] => Int.le_refl _
  | x :: _ => by rw [firstA]; omega
theorem yearG_run {L : List (List S106)} {l1 : List S120} {a3 a4 : Int} (ht : TblOk L l1 a3 a4) {fr days c nom : Int} (hy : YOk fr days c nom) (rest : List S90) (hr : ∀ x t, rest = x :: t → ¬ StepOk L x) : ∀ (p : List S90) (i sum due A : Int) (acc : List Int), 0 ≤ i → i + p.length ≤ c → (∀ x ∈ p, StepOk L x) → 0 ≤ A → A + absS p + firstA rest ≤ 53000000000 → (-A ≤ sum ∧ sum ≤ A) → (0 ≤ due ∧ due ≤ A + 1000000002 + 83500000 * i) →
    yearG L a4 nom i sum due acc (p ++ rest) = (match rest with | [] => (acc ++ duesL L a4 nom i sum due p, 0) | x :: _ => ([], fitsM L x.f0.f0 x.f0.f1 x.f0.f2 x.f0.f3))
  | [], i, sum, due, A, acc, h0, h1, hs, hA, hA2, h2, h3 => by
    rw [List.nil_append]
    cases rest with
    | nil => rw [yearG, duesL, List.append_nil]
    | cons x t =>
      have hx := hr x t rfl
      have hx' : ¬ fitsM L x.f0.f0 x.f0.f1 x.f0.f2 x.f0.f3 = 0 := hx
      have ad := addM_ok (A := A) (a := sum) (b := x.f1) hA (by rw [absS, firstA] at hA2; omega) h2
      rw [yearG, ad, if_pos rfl, step_bad hx, if_neg hx']
  | x :: p, i, sum, due, A, acc, h0, h1, hs, hA, hA2, h2, h3 => by
    have hx := hs x List.mem_cons_self
    have n0 := absS_nonneg p
    have r0 := firstA_nonneg rest
    rw [absS] at hA2
    simp only [List.length_cons] at h1
    have ad := addM_ok (A := A) (a := sum) (b := x.f1) hA (by omega) h2
    obtain ⟨st1, st2, st3, _⟩ := step_ok (i := i) (sum := sum + x.f1) ht hy hx h0 (by omega) hA (by omega) (by omega) h3
    have ih := fun q (q1 : 0 ≤ q ∧ q ≤ A + (x.f1.natAbs : Int) + 1000000002 + 83500000 * (i + 1)) => yearG_run ht hy rest hr p (i + 1) (sum + x.f1) q (A + (x.f1.natAbs : Int)) (acc ++ [q]) (by omega) (by omega) (fun y hy => hs y (List.mem_cons_of_mem _ hy)) (by omega) (by omega) (by omega) q1
    have hd : duesL L a4 nom i sum due (x :: p) = (stepX L a4 nom (i + 1) x (sum + x.f1) due).1 :: duesL L a4 nom (i + 1) (sum + x.f1) (stepX L a4 nom (i + 1) x (sum + x.f1) due).1 p := by rw [duesL]; rfl
    rw [List.cons_append, yearG, ad, if_pos rfl, hd]
    have st1' : (stepX L a4 nom (i + 1) x (sum + x.f1) due).2 = 0 := st1
    have st2' : 0 ≤ (stepX L a4 nom (i + 1) x (sum + x.f1) due).1 := st2
    have st3' : (stepX L a4 nom (i + 1) x (sum + x.f1) due).1 ≤ A + (x.f1.natAbs : Int) + 1000000002 + 83500000 * (i + 1) := st3
    clear st1 st2 st3 hd
    show (if (stepX L a4 nom (i + 1) x (sum + x.f1) due).2 = 0 then _ else _) = _
    obtain ⟨q, hq⟩ : ∃ q, stepX L a4 nom (i + 1) x (sum + x.f1) due = q := ⟨_, rfl⟩
    rw [hq] at st1' st2' st3' ⊢
    rw [if_pos st1', ih q.1 ⟨st2', st3'⟩]
    cases rest with
    | nil => simp only [List.append_assoc, List.cons_append, List.nil_append]
    | cons y t => rfl
end Go.Proofs.Ytcapgmoipacioaa.P
