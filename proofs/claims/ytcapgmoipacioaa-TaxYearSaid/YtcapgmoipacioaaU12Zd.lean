import Derived.Test.YtcapgmoipacioaaU10Zd
import Derived.Test.YtcapgmoipacioaaPptaxYearZd
namespace Go.Proofs.Ytcapgmoipacioaa.P
open Go.RowKit Go.Proofs.YtcapgmoipacioaaW.PrintWords Go.Proofs.YtcapgmoipacioaaW.PrintLast Go.Proofs.YtcapgmoipacioaaW.PrintMore
set_option linter.unusedVariables false
set_option linter.unusedSimpArgs false
structure YOk (fr days c nom : Int) : Prop where
  cnt : ∀ a1 a2 a3 a4 a5 a6 a7, period_Year_Count.f fr a1 a2 a3 a4 a5 a6 a7 days = some (c, fr, a1, a2, a3, a4, a5, a6, a7, days)
  nom_ : period_Nominal.f fr = some nom
  n1 : 12 ≤ nom
  n2 : nom ≤ 52
  n3 : nom ≤ c
  c1 : c ≤ 53
theorem part_is {fr days c nom : Int} (hy : YOk fr days c nom) (k : Nat) (hk : 1 ≤ k) (a1 a2 a3 a4 a5 a6 a7 i : Int) (h0 : 1 ≤ i) (h1 : i ≤ c) :
    period_Year_Part.f k fr a1 a2 a3 a4 a5 a6 a7 days i = some (mn i nom, nom, 0, fr, a1, a2, a3, a4, a5, a6, a7, days) := by
  obtain ⟨k, rfl⟩ : ∃ m, k = m + 1 := ⟨k - 1, by omega⟩; unfold period_Year_Part.f; rw [if_neg (by omega), hy.cnt]; simp only [Option.bind_some]; rw [decide_eq_false (by omega), period_Year_Part.j0, if_neg (by decide), hy.nom_]
  rfl
theorem part_no {fr days c nom : Int} (hy : YOk fr days c nom) (k : Nat) (hk : 1 ≤ k) (a1 a2 a3 a4 a5 a6 a7 i : Int) (h0 : i < 1 ∨ c < i) :
    period_Year_Part.f k fr a1 a2 a3 a4 a5 a6 a7 days i = some (0, 0, 1, fr, a1, a2, a3, a4, a5, a6, a7, days) := by
  obtain ⟨k, rfl⟩ : ∃ m, k = m + 1 := ⟨k - 1, by omega⟩; unfold period_Year_Part.f; by_cases h : i < 1
  · rw [if_pos h, period_Year_Part.j0, if_pos rfl]
  · rw [if_neg h, hy.cnt]; simp only [Option.bind_some]; rw [decide_eq_true (by omega), period_Year_Part.j0, if_pos rfl]
def stepM (L : List (List S106)) (a4 nom i s kd am fl : Int) (al : Bool) (x sum ahead : Int) : Int × Int :=
  if al = true then (if (dueM L a4 s kd am fl x 1 nom).2 = 0 then addM ahead (dueM L a4 s kd am fl x 1 nom).1 else (0, (dueM L a4 s kd am fl x 1 nom).2)) else dueM L a4 s kd am fl sum (mn i nom) nom
theorem next_is {L : List (List S106)} {l1 : List S120} {l2 : List S209} {a3 a4 : Int} (ht : TblOk L l1 a3 a4) {fr days c nom : Int} (hy : YOk fr days c nom) (k : Nat) (hk : 30 ≤ k) (b1 b2 b3 b4 b5 b6 b7 i s kd am fl x sum ahead : Int) (al : Bool) (h0 : 1 ≤ i) (h1 : i ≤ c) :
    tax_Next.f k L l1 l2 a3 a4 fr b1 b2 b3 b4 b5 b6 b7 days i s kd am fl al x sum ahead = some ((stepM L a4 nom i s kd am fl al x sum ahead).1, (stepM L a4 nom i s kd am fl al x sum ahead).2, fr, b1, b2, b3, b4, b5, b6, b7, days) := by
  unfold tax_Next.f stepM; rw [part_is hy k (by omega) _ _ _ _ _ _ _ _ h0 h1]; simp only [Option.bind_some, if_true]
  cases al with
  | true =>
    rw [if_pos rfl, if_pos rfl, tax_Due_is ht k hk]; simp only [Option.bind_some]; by_cases h : (dueM L a4 s kd am fl x 1 nom).2 = 0
    · rw [if_pos h, if_pos h, money_Add_is _ _ k (by omega)]
      rfl
    · rw [if_neg h, if_neg h]
  | false =>
    rw [if_neg (by decide), if_neg (by decide), tax_Due_is ht k hk]
    rfl
theorem next_no {L : List (List S106)} {l1 : List S120} {l2 : List S209} {a3 a4 : Int} {fr days c nom : Int} (hy : YOk fr days c nom) (k : Nat) (hk : 30 ≤ k) (b1 b2 b3 b4 b5 b6 b7 i s kd am fl x sum ahead : Int) (al : Bool) (h0 : i < 1 ∨ c < i) :
    tax_Next.f k L l1 l2 a3 a4 fr b1 b2 b3 b4 b5 b6 b7 days i s kd am fl al x sum ahead = some (0, 1, fr, b1, b2, b3, b4, b5, b6, b7, days) := by
  unfold tax_Next.f; rw [part_no hy k (by omega) _ _ _ _ _ _ _ _ h0]; simp only [Option.bind_some]; rw [if_neg (by decide)]
theorem rndM_le {x m c : Int} (h0 : 0 ≤ x) (h : x ≤ 10000 * c) : rndM x m ≤ c + 1 := by
  have := (rndM_bd (m := m) h0).2.1
  omega
theorem tax_le {L : List (List S106)} {l1 : List S120} {a3 a4 : Int} (ht : TblOk L l1 a3 a4) {s kd am fl x n d : Int} (hf : fitsM L s kd am fl = 0) (hc : (chargeM s kd am fl x n d).2 = 0) : (taxM L s kd am fl x n d).1 ≤ 10000 * (chargeM s kd am fl x n d).1 := by
  unfold taxM; rw [if_pos hf, if_pos hc]; obtain ⟨f1, f2, f3⟩ := fitsM_zero hf; have hb := codeM_zero f1; obtain ⟨c1, c2, c3, c4, c5⟩ := charge_ok hc; have hg := ht.good s hb.1.1 f2; obtain ⟨p1, p2, p3, p4⟩ := partOk_iff.1 c2; generalize (chargeM s kd am fl x n d).1 = c at c3; by_cases h4 : kd = 4
  · rw [if_pos h4]; show (0 : Int) ≤ _; omega
  rw [if_neg h4]; by_cases h3 : kd = 3
  · have B := (hg.bd (i := fl) hb.2.2.2.1.1 (f3 h3)).2.2.2.2.1; rw [if_pos h3]
    show c * _ ≤ _
    have := Int.mul_le_mul_of_nonneg_left B.2 c3.1
    omega
  · rw [if_neg h3]
    show refT c n d _ ≤ _
    have hk := keepS_good hg p1 p2 p3; rw [← ex_keep hg p1 p2 p3]; have := (ex_rise (T := 10000) hk c3.1 (fun i h0 h1 => (hk.bd h0 h1).2.2.2.2.1)).2; rw [ex_none hk (Int.le_refl 0)] at this; have e : mx 0 c - mx 0 0 = c := by unfold mx; split <;> split <;> omega
    rw [e] at this
    omega
theorem charge_small {s kd am fl x n d : Int} (hc : codeM s kd am fl = 0) (hp : partOk n d = true) (hx : -60000000000 ≤ x ∧ x ≤ 60000000000) : (chargeM s kd am fl x n d).2 = 0 ∧ (chargeM s kd am fl x n d).1 ≤ mx 0 (x - freeX kd am n d) := by
  have hb := codeM_zero hc; have fb := free_bd (kd := kd) hb.2.2.1.1 hb.2.2.1.2 hp; have fm : freeM s kd am fl n d = (freeX kd am n d, 0) := by unfold freeM; rw [if_pos hc, if_pos hp]
  unfold chargeM subM checkM; rw [fm]; have r1 : rightB x = true := rightB_iff.2 ⟨by omega, by omega⟩; have r2 : rightB (freeX kd am n d) = true := rightB_iff.2 ⟨by omega, by omega⟩; have r3 : rightB (x - freeX kd am n d) = true := rightB_iff.2 ⟨by omega, by omega⟩; rw [r1, r2, r3]; by_cases h4 : kd = 4
  · simp only [if_pos h4, if_true]; exact ⟨trivial, by unfold mx; split <;> omega⟩
  · simp only [if_neg h4, if_true, Bool.and_self]; exact ⟨trivial, Int.le_refl _⟩
theorem due_ok {L : List (List S106)} {l1 : List S120} {a3 a4 : Int} (ht : TblOk L l1 a3 a4) {s kd am fl x n d : Int} (hf : fitsM L s kd am fl = 0) (hp : partOk n d = true) (hx : -60000000000 ≤ x ∧ x ≤ 60000000000) :
    (dueM L a4 s kd am fl x n d).2 = 0 ∧ 0 ≤ (dueM L a4 s kd am fl x n d).1 ∧ (dueM L a4 s kd am fl x n d).1 ≤ mx 0 (x - freeX kd am n d) + 1 := by
  obtain ⟨f1, f2, f3⟩ := fitsM_zero hf; obtain ⟨c1, c2⟩ := charge_small (fl := fl) (s := s) f1 hp hx; have h0 := taxM_ok (L := L) (x := x) (n := n) (d := d) hf c1; have b := taxM_bd ht s kd am fl x n d; have t := tax_le (x := x) (n := n) (d := d) ht hf c1; unfold dueM; rw [if_pos h0]; exact ⟨rfl, (rndM_bd b.1).1, rndM_le b.1 (by omega)⟩
def StepOk (L : List (List S106)) (x : S90) : Prop := fitsM L x.f0.f0 x.f0.f1 x.f0.f2 x.f0.f3 = 0
def absS : List S90 → Int
  | [] => 0
  | x :: t => (x.f1.natAbs : Int) + absS t
theorem absS_nonneg : ∀ l : List S90, 0 ≤ absS l
  | [] => Int.le_refl _
  | x :: t => by have := absS_nonneg t; rw [absS]; omega
theorem part_one {nom : Int} (h : 12 ≤ nom) (h2 : nom ≤ 52) : partOk 1 nom = true := partOk_iff.2 ⟨by omega, by omega, by omega, by omega⟩
theorem part_min {nom i : Int} (h : 12 ≤ nom) (h2 : nom ≤ 52) (h0 : 1 ≤ i) : partOk (mn i nom) nom = true := partOk_iff.2 (by unfold mn; split <;> omega)
theorem step_ok {L : List (List S106)} {l1 : List S120} {a3 a4 : Int} (ht : TblOk L l1 a3 a4) {fr days c nom : Int} (hy : YOk fr days c nom) {i sum ahead A : Int} {x : S90} (hx : StepOk L x) (h0 : 0 ≤ i) (h1 : i < c) (hA : 0 ≤ A) (hA2 : A + (x.f1.natAbs : Int) ≤ 53000000000) (hs : -(A + (x.f1.natAbs : Int)) ≤ sum ∧ sum ≤ A + (x.f1.natAbs : Int)) (ha : 0 ≤ ahead ∧ ahead ≤ A + 1000000002 + 83500000 * i) :
    (stepM L a4 nom (i + 1) x.f0.f0 x.f0.f1 x.f0.f2 x.f0.f3 x.f0.f4 x.f1 sum ahead).2 = 0 ∧ 0 ≤ (stepM L a4 nom (i + 1) x.f0.f0 x.f0.f1 x.f0.f2 x.f0.f3 x.f0.f4 x.f1 sum ahead).1 ∧ (stepM L a4 nom (i + 1) x.f0.f0 x.f0.f1 x.f0.f2 x.f0.f3 x.f0.f4 x.f1 sum ahead).1 ≤ A + (x.f1.natAbs : Int) + 1000000002 + 83500000 * (i + 1) ∧
    (x.f0.f4 = true → (stepM L a4 nom (i + 1) x.f0.f0 x.f0.f1 x.f0.f2 x.f0.f3 x.f0.f4 x.f1 sum ahead).1 = ahead + (dueM L a4 x.f0.f0 x.f0.f1 x.f0.f2 x.f0.f3 x.f1 1 nom).1) := by
  have n1 := hy.n1; have n2 := hy.n2; have c1 := hy.c1; obtain ⟨f1, f2, f3⟩ := fitsM_zero hx; have hb := codeM_zero f1; unfold stepM
  cases hal : x.f0.f4 with
  | true =>
    obtain ⟨d1, d2, d3⟩ := due_ok (x := x.f1) ht hx (part_one n1 n2) (by omega)
    have fx : -83400000 ≤ freeX x.f0.f1 x.f0.f2 1 nom := by
      unfold freeX; rw [Int.mul_one, Int.tdiv_eq_ediv_of_nonneg hb.2.2.1.1]
      have : x.f0.f2 / nom ≤ 83400000 := by
        refine Int.ediv_le_of_le_mul (by omega) ?_
        have := Int.mul_le_mul_of_nonneg_left n1 (show (0 : Int) ≤ 83400000 by omega)
        omega
      have q0 := Int.ediv_nonneg hb.2.2.1.1 (show 0 ≤ nom by omega)
      split <;> omega
    have m : mx 0 (x.f1 - freeX x.f0.f1 x.f0.f2 1 nom) ≤ (x.f1.natAbs : Int) + 83400000 := by unfold mx; split <;> omega
    generalize dueM L a4 x.f0.f0 x.f0.f1 x.f0.f2 x.f0.f3 x.f1 1 nom = D at d1 d2 d3 ⊢; have r1 : rightB ahead = true := rightB_iff.2 ⟨by omega, by omega⟩; have r2 : rightB D.1 = true := rightB_iff.2 ⟨by omega, by omega⟩; have r3 : rightB (ahead + D.1) = true := rightB_iff.2 ⟨by omega, by omega⟩; rw [if_pos rfl, if_pos d1]; unfold addM checkM; rw [r1, r2, Bool.and_self, if_pos rfl, r3, if_pos rfl]; exact ⟨rfl, by show 0 ≤ ahead + _; omega, by show ahead + _ ≤ _; omega, fun _ => rfl⟩
  | false =>
    have hp := part_min (i := i + 1) n1 n2 (by omega); obtain ⟨d1, d2, d3⟩ := due_ok (x := sum) ht hx hp (by omega); have fb := free_bd (kd := x.f0.f1) hb.2.2.1.1 hb.2.2.1.2 hp; have m : mx 0 (sum - freeX x.f0.f1 x.f0.f2 (mn (i + 1) nom) nom) ≤ A + (x.f1.natAbs : Int) + 1000000000 := by unfold mx; split <;> omega
    rw [if_neg (by decide)]; generalize dueM L a4 x.f0.f0 x.f0.f1 x.f0.f2 x.f0.f3 sum (mn (i + 1) nom) nom = D at d1 d2 d3 ⊢; exact ⟨d1, d2, by omega, fun q => by cases q⟩
def duesL (L : List (List S106)) (a4 nom : Int) : Int → Int → Int → List S90 → List Int
  | _, _, _, [] => []
  | i, sum, due, x :: t => (stepM L a4 nom (i + 1) x.f0.f0 x.f0.f1 x.f0.f2 x.f0.f3 x.f0.f4 x.f1 (sum + x.f1) due).1 :: duesL L a4 nom (i + 1) (sum + x.f1) (stepM L a4 nom (i + 1) x.f0.f0 x.f0.f1 x.f0.f2 x.f0.f3 x.f0.f4 x.f1 (sum + x.f1) due).1 t
theorem rd90_mid (pre suf : List S90) (x : S90) : rd_T90 (pre ++ x :: suf) (pre.length : Int) = x := by
  unfold rd_T90
  simp [List.getD_eq_getElem?_getD]
theorem duesL_len (L : List (List S106)) (a4 nom : Int) : ∀ (l : List S90) (i sum due : Int), (duesL L a4 nom i sum due l).length = l.length
  | [], _, _, _ => rfl
  | x :: t, i, sum, due => by rw [duesL, List.length_cons, duesL_len L a4 nom t, List.length_cons]
end Go.Proofs.Ytcapgmoipacioaa.P
