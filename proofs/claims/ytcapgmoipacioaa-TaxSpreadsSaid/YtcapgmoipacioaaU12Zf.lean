import Derived.Test.YtcapgmoipacioaaU10Zf
import Derived.Test.YtcapgmoipacioaaPptaxYearZf
namespace Go.Proofs.Ytcapgmoipacioaa.P
open Go.RowKit Go.Proofs.YtcapgmoipacioaaW.PrintWords Go.Proofs.YtcapgmoipacioaaW.PrintLast Go.Proofs.YtcapgmoipacioaaW.PrintMore
set_option linter.unusedVariables false
set_option linter.unusedSimpArgs false
structure YOk (fr days c nom : Int) : Prop where
  cnt : ∀ a1 a2 a3 a4 a5 a6 a7, period_Year_Count.f fr a1 a2 a3 a4 a5 a6 a7 days = some (c, fr, a1, a2, a3, a4, a5, a6, a7, days)
  nom_ : period_Nominal.f fr = some nom
  n1 : 12 ≤ nom
  n2 : nom ≤ 52
  n3 : nom ≤ c
  c1 : c ≤ 53
theorem part_is {fr days c nom : Int} (hy : YOk fr days c nom) (k : Nat) (hk : 1 ≤ k) (a1 a2 a3 a4 a5 a6 a7 i : Int) (h0 : 1 ≤ i) (h1 : i ≤ c) :
    period_Year_Part.f k fr a1 a2 a3 a4 a5 a6 a7 days i = some (mn i nom, nom, 0, fr, a1, a2, a3, a4, a5, a6, a7, days) := by
  obtain ⟨k, rfl⟩ : ∃ m, k = m + 1 := ⟨k - 1, by omega⟩
  unfold period_Year_Part.f
  rw [if_neg (by omega), hy.cnt]
  simp only [Option.bind_some]
  rw [decide_eq_false (by omega), period_Year_Part.j0, if_neg (by decide), hy.nom_]
  rfl
def stepM (L : List (List S106)) (a4 nom i s kd am fl : Int) (al : Bool) (x sum ahead : Int) : Int × Int :=
  if al = true then (if (dueM L a4 s kd am fl x 1 nom).2 = 0 then addM ahead (dueM L a4 s kd am fl x 1 nom).1 else (0, (dueM L a4 s kd am fl x 1 nom).2)) else dueM L a4 s kd am fl sum (mn i nom) nom
theorem next_is {L : List (List S106)} {l1 : List S120} {l2 : List S209} {a3 a4 : Int} (ht : TblOk L l1 a3 a4) {fr days c nom : Int} (hy : YOk fr days c nom) (k : Nat) (hk : 30 ≤ k) (b1 b2 b3 b4 b5 b6 b7 i s kd am fl x sum ahead : Int) (al : Bool) (h0 : 1 ≤ i) (h1 : i ≤ c) :
    tax_Next.f k L l1 l2 a3 a4 fr b1 b2 b3 b4 b5 b6 b7 days i s kd am fl al x sum ahead = some ((stepM L a4 nom i s kd am fl al x sum ahead).1, (stepM L a4 nom i s kd am fl al x sum ahead).2, fr, b1, b2, b3, b4, b5, b6, b7, days) := by
  unfold tax_Next.f stepM
  rw [part_is hy k (by omega) _ _ _ _ _ _ _ _ h0 h1]
  simp only [Option.bind_some, if_true]
  cases al with
  | true =>
    rw [if_pos rfl, if_pos rfl, tax_Due_is ht k hk]
    simp only [Option.bind_some]
    by_cases h : (dueM L a4 s kd am fl x 1 nom).2 = 0
    · rw [if_pos h, if_pos h, money_Add_is _ _ k (by omega)]
      rfl
    · rw [if_neg h, if_neg h]
  | false =>
    rw [if_neg (by decide), if_neg (by decide), tax_Due_is ht k hk]
    rfl
theorem rndM_le {x m c : Int} (h0 : 0 ≤ x) (h : x ≤ 10000 * c) : rndM x m ≤ c + 1 := by
  have := (rndM_bd (m := m) h0).2.1
  omega
theorem tax_le {L : List (List S106)} {l1 : List S120} {a3 a4 : Int} (ht : TblOk L l1 a3 a4) {s kd am fl x n d : Int} (hf : fitsM L s kd am fl = 0) (hc : (chargeM s kd am fl x n d).2 = 0) : (taxM L s kd am fl x n d).1 ≤ 10000 * (chargeM s kd am fl x n d).1 := by
  unfold taxM
  rw [if_pos hf, if_pos hc]
  obtain ⟨f1, f2, f3⟩ := fitsM_zero hf
  have hb := codeM_zero f1
  obtain ⟨c1, c2, c3, c4, c5⟩ := charge_ok hc
  have hg := ht.good s hb.1.1 f2
  obtain ⟨p1, p2, p3, p4⟩ := partOk_iff.1 c2
  generalize (chargeM s kd am fl x n d).1 = c at c3
  by_cases h4 : kd = 4
  · rw [if_pos h4]; show (0 : Int) ≤ _; omega
  rw [if_neg h4]
  by_cases h3 : kd = 3
  · have B := (hg.bd (i := fl) hb.2.2.2.1.1 (f3 h3)).2.2.2.2.1
    rw [if_pos h3]
    show c * _ ≤ _
    have := Int.mul_le_mul_of_nonneg_left B.2 c3.1
    omega
  · rw [if_neg h3]
    show refT c n d _ ≤ _
    have hk := keepS_good hg p1 p2 p3
    rw [← ex_keep hg p1 p2 p3]
    have := (ex_rise (T := 10000) hk c3.1 (fun i h0 h1 => (hk.bd h0 h1).2.2.2.2.1)).2
    rw [ex_none hk (Int.le_refl 0)] at this
    have e : mx 0 c - mx 0 0 = c := by unfold mx; split <;> split <;> omega
    rw [e] at this
    omega
theorem charge_small {s kd am fl x n d : Int} (hc : codeM s kd am fl = 0) (hp : partOk n d = true) (hx : -60000000000 ≤ x ∧ x ≤ 60000000000) : (chargeM s kd am fl x n d).2 = 0 ∧ (chargeM s kd am fl x n d).1 ≤ mx 0 (x - freeX kd am n d) := by
  have hb := codeM_zero hc
  have fb := free_bd (kd := kd) hb.2.2.1.1 hb.2.2.1.2 hp
  have fm : freeM s kd am fl n d = (freeX kd am n d, 0) := by unfold freeM; rw [if_pos hc, if_pos hp]
  unfold chargeM subM checkM
  rw [fm]
  have r1 : rightB x = true := rightB_iff.2 ⟨by omega, by omega⟩
  have r2 : rightB (freeX kd am n d) = true := rightB_iff.2 ⟨by omega, by omega⟩
  have r3 : rightB (x - freeX kd am n d) = true := rightB_iff.2 ⟨by omega, by omega⟩
  rw [r1, r2, r3]
  by_cases h4 : kd = 4
  · simp only [if_pos h4, if_true]
    exact ⟨trivial, by unfold mx; split <;> omega⟩
  · simp only [if_neg h4, if_true, Bool.and_self]
    exact ⟨trivial, Int.le_refl _⟩
theorem due_ok {L : List (List S106)} {l1 : List S120} {a3 a4 : Int} (ht : TblOk L l1 a3 a4) {s kd am fl x n d : Int} (hf : fitsM L s kd am fl = 0) (hp : partOk n d = true) (hx : -60000000000 ≤ x ∧ x ≤ 60000000000) :
    (dueM L a4 s kd am fl x n d).2 = 0 ∧ 0 ≤ (dueM L a4 s kd am fl x n d).1 ∧ (dueM L a4 s kd am fl x n d).1 ≤ mx 0 (x - freeX kd am n d) + 1 := by
  obtain ⟨f1, f2, f3⟩ := fitsM_zero hf
  obtain ⟨c1, c2⟩ := charge_small (fl := fl) (s := s) f1 hp hx
  have h0 := taxM_ok (L := L) (x := x) (n := n) (d := d) hf c1
  have b := taxM_bd ht s kd am fl x n d
  have t := tax_le (x := x) (n := n) (d := d) ht hf c1
  unfold dueM
  rw [if_pos h0]
  exact ⟨rfl, (rndM_bd b.1).1, rndM_le b.1 (by omega)⟩
def StepOk (L : List (List S106)) (x : S90) : Prop := fitsM L x.f0.f0 x.f0.f1 x.f0.f2 x.f0.f3 = 0
def absS : List S90 → Int
  | [] => 0
  | x :: t => (x.f1.natAbs : Int) + absS t
theorem absS_nonneg : ∀ l : List S90, 0 ≤ absS l
  | [] => Int.le_refl _
  | x :: t => by have := absS_nonneg t; rw [absS]; omega
theorem part_one {nom : Int} (h : 12 ≤ nom) (h2 : nom ≤ 52) : partOk 1 nom = true := partOk_iff.2 ⟨by omega, by omega, by omega, by omega⟩
theorem part_min {nom i : Int} (h : 12 ≤ nom) (h2 : nom ≤ 52) (h0 : 1 ≤ i) : partOk (mn i nom) nom = true := partOk_iff.2 (by unfold mn; split <;> omega)
theorem step_ok {L : List (List S106)} {l1 : List S120} {a3 a4 : Int} (ht : TblOk L l1 a3 a4) {fr days c nom : Int} (hy : YOk fr days c nom) {i sum ahead A : Int} {x : S90} (hx : StepOk L x) (h0 : 0 ≤ i) (h1 : i < c) (hA : 0 ≤ A) (hA2 : A + (x.f1.natAbs : Int) ≤ 53000000000) (hs : -(A + (x.f1.natAbs : Int)) ≤ sum ∧ sum ≤ A + (x.f1.natAbs : Int)) (ha : 0 ≤ ahead ∧ ahead ≤ A + 1000000002 + 83500000 * i) :
    (stepM L a4 nom (i + 1) x.f0.f0 x.f0.f1 x.f0.f2 x.f0.f3 x.f0.f4 x.f1 sum ahead).2 = 0 ∧ 0 ≤ (stepM L a4 nom (i + 1) x.f0.f0 x.f0.f1 x.f0.f2 x.f0.f3 x.f0.f4 x.f1 sum ahead).1 ∧ (stepM L a4 nom (i + 1) x.f0.f0 x.f0.f1 x.f0.f2 x.f0.f3 x.f0.f4 x.f1 sum ahead).1 ≤ A + (x.f1.natAbs : Int) + 1000000002 + 83500000 * (i + 1) ∧
    (x.f0.f4 = true → (stepM L a4 nom (i + 1) x.f0.f0 x.f0.f1 x.f0.f2 x.f0.f3 x.f0.f4 x.f1 sum ahead).1 = ahead + (dueM L a4 x.f0.f0 x.f0.f1 x.f0.f2 x.f0.f3 x.f1 1 nom).1) := by
  have n1 := hy.n1
  have n2 := hy.n2
  have c1 := hy.c1
  obtain ⟨f1, f2, f3⟩ := fitsM_zero hx
  have hb := codeM_zero f1
  unfold stepM
  cases hal : x.f0.f4 with
  | true =>
    obtain ⟨d1, d2, d3⟩ := due_ok (x := x.f1) ht hx (part_one n1 n2) (by omega)
    have fx : -83400000 ≤ freeX x.f0.f1 x.f0.f2 1 nom := by
      unfold freeX
      rw [Int.mul_one, Int.tdiv_eq_ediv_of_nonneg hb.2.2.1.1]
      have : x.f0.f2 / nom ≤ 83400000 := by
        refine Int.ediv_le_of_le_mul (by omega) ?_
        have := Int.mul_le_mul_of_nonneg_left n1 (show (0 : Int) ≤ 83400000 by omega)
        omega
      have q0 := Int.ediv_nonneg hb.2.2.1.1 (show 0 ≤ nom by omega)
      split <;> omega
    have m : mx 0 (x.f1 - freeX x.f0.f1 x.f0.f2 1 nom) ≤ (x.f1.natAbs : Int) + 83400000 := by unfold mx; split <;> omega
    generalize dueM L a4 x.f0.f0 x.f0.f1 x.f0.f2 x.f0.f3 x.f1 1 nom = D at d1 d2 d3 ⊢
    have r1 : rightB ahead = true := rightB_iff.2 ⟨by omega, by omega⟩
    have r2 : rightB D.1 = true := rightB_iff.2 ⟨by omega, by omega⟩
    have r3 : rightB (ahead + D.1) = true := rightB_iff.2 ⟨by omega, by omega⟩
    rw [if_pos rfl, if_pos d1]
    unfold addM checkM
    rw [r1, r2, Bool.and_self, if_pos rfl, r3, if_pos rfl]
    exact ⟨rfl, by show 0 ≤ ahead + _; omega, by show ahead + _ ≤ _; omega, fun _ => rfl⟩
  | false =>
    have hp := part_min (i := i + 1) n1 n2 (by omega)
    obtain ⟨d1, d2, d3⟩ := due_ok (x := sum) ht hx hp (by omega)
    have fb := free_bd (kd := x.f0.f1) hb.2.2.1.1 hb.2.2.1.2 hp
    have m : mx 0 (sum - freeX x.f0.f1 x.f0.f2 (mn (i + 1) nom) nom) ≤ A + (x.f1.natAbs : Int) + 1000000000 := by unfold mx; split <;> omega
    rw [if_neg (by decide)]
    generalize dueM L a4 x.f0.f0 x.f0.f1 x.f0.f2 x.f0.f3 sum (mn (i + 1) nom) nom = D at d1 d2 d3 ⊢
    exact ⟨d1, d2, by omega, fun q => by cases q⟩
def duesL (L : List (List S106)) (a4 nom : Int) : Int → Int → Int → List S90 → List Int
  | _, _, _, [] => []
  | i, sum, due, x :: t => (stepM L a4 nom (i + 1) x.f0.f0 x.f0.f1 x.f0.f2 x.f0.f3 x.f0.f4 x.f1 (sum + x.f1) due).1 :: duesL L a4 nom (i + 1) (sum + x.f1) (stepM L a4 nom (i + 1) x.f0.f0 x.f0.f1 x.f0.f2 x.f0.f3 x.f0.f4 x.f1 (sum + x.f1) due).1 t
theorem rd90_mid (pre suf : List S90) (x : S90) : rd_T90 (pre ++ x :: suf) (pre.length : Int) = x := by
  unfold rd_T90
  simp [List.getD_eq_getElem?_getD]
theorem year_l0 {L : List (List S106)} {l1 : List S120} {l2 : List S209} {a3 a4 : Int} (ht : TblOk L l1 a3 a4) {fr days c nom : Int} (hy : YOk fr days c nom) (b1 b2 b3 b4 b5 b6 b7 : Int) (l : List S90) (hc : (l.length : Int) ≤ c) (suf : List S90) :
    ∀ (pre : List S90) (acc : List Int) (sum due A : Int) (k : Nat), l = pre ++ suf → (∀ x ∈ suf, StepOk L x) → acc.length = pre.length → 0 ≤ A → A + absS suf ≤ 53000000000 → (-A ≤ sum ∧ sum ≤ A) → (0 ≤ due ∧ due ≤ A + 1000000002 + 83500000 * pre.length) → suf.length + 40 ≤ k →
    tax_Year.l0 k acc sum due l (l.length : Int) (pre.length : Int) fr b1 b2 b3 b4 b5 b6 b7 days L l1 l2 a3 a4 = some (acc ++ duesL L a4 nom (pre.length : Int) sum due suf, 0, fr, b1, b2, b3, b4, b5, b6, b7, days) := by
  have c1 := hy.c1
  induction suf with
  | nil =>
    intro pre acc sum due A k hl hs ha hA hA2 h1 h2 hk
    obtain ⟨k, rfl⟩ : ∃ m, k = m + 1 := ⟨k - 1, by omega⟩
    rw [tax_Year.l0, if_neg (by rw [hl]; simp), duesL, List.append_nil]
  | cons x t ih =>
    intro pre acc sum due A k hl hs ha hA hA2 h1 h2 hk
    simp only [List.length_cons] at hk
    obtain ⟨k, rfl⟩ : ∃ m, k = m + 1 := ⟨k - 1, by omega⟩
    have hlen : l.length = pre.length + (t.length + 1) := by rw [hl]; simp
    have e1 : l = pre ++ [x] ++ t := by rw [hl]; simp
    have e2 : ((pre ++ [x]).length : Int) = (pre.length : Int) + 1 := by simp
    have hr : rd_T90 l (pre.length : Int) = x := by rw [hl]; exact rd90_mid pre t x
    have hx := hs x List.mem_cons_self
    have ht0 := absS_nonneg t
    rw [absS] at hA2
    obtain ⟨st1, st2, st3, _⟩ := step_ok (i := (pre.length : Int)) (sum := sum + x.f1) ht hy hx (by omega) (by omega) hA (by omega) (by omega) h2
    have hd : duesL L a4 nom (pre.length : Int) sum due (x :: t) = (stepM L a4 nom ((pre.length : Int) + 1) x.f0.f0 x.f0.f1 x.f0.f2 x.f0.f3 x.f0.f4 x.f1 (sum + x.f1) due).1 :: duesL L a4 nom ((pre.length : Int) + 1) (sum + x.f1) (stepM L a4 nom ((pre.length : Int) + 1) x.f0.f0 x.f0.f1 x.f0.f2 x.f0.f3 x.f0.f4 x.f1 (sum + x.f1) due).1 t := by rw [duesL]
    rw [hd]
    clear hd
    have hnx : ∀ k, 30 ≤ k → ((pre.length : Int) + 1 ≤ c) → tax_Next.f k L l1 l2 a3 a4 fr b1 b2 b3 b4 b5 b6 b7 days ((pre.length : Int) + 1) x.f0.f0 x.f0.f1 x.f0.f2 x.f0.f3 x.f0.f4 x.f1 (sum + x.f1) due = some ((stepM L a4 nom ((pre.length : Int) + 1) x.f0.f0 x.f0.f1 x.f0.f2 x.f0.f3 x.f0.f4 x.f1 (sum + x.f1) due).1, (stepM L a4 nom ((pre.length : Int) + 1) x.f0.f0 x.f0.f1 x.f0.f2 x.f0.f3 x.f0.f4 x.f1 (sum + x.f1) due).2, fr, b1, b2, b3, b4, b5, b6, b7, days) := fun k hk h1 => next_is ht hy k hk b1 b2 b3 b4 b5 b6 b7 _ _ _ _ _ _ _ _ _ (by omega) h1
    obtain ⟨q, hq⟩ : ∃ q, stepM L a4 nom ((pre.length : Int) + 1) x.f0.f0 x.f0.f1 x.f0.f2 x.f0.f3 x.f0.f4 x.f1 (sum + x.f1) due = q := ⟨_, rfl⟩
    rw [hq] at st1 st2 st3 hnx ⊢
    clear hq
    have ad : addM sum x.f1 = (sum + x.f1, 0) := by
      unfold addM checkM
      rw [rightB_iff.2 (show -100000000000 ≤ sum ∧ sum ≤ 100000000000 by omega), rightB_iff.2 (show -100000000000 ≤ x.f1 ∧ x.f1 ≤ 100000000000 by omega), rightB_iff.2 (show -100000000000 ≤ sum + x.f1 ∧ sum + x.f1 ≤ 100000000000 by omega)]
      rfl
    have hadd : money_Add.f k sum x.f1 = some (sum + x.f1, 0) := by rw [money_Add_is _ _ k (by omega), ad]
    have g0 : 0 ≤ (pre.length : Int) := Int.natCast_nonneg _
    have hlt : (pre.length : Int) < (l.length : Int) := by omega
    have hc1 : (pre.length : Int) + 1 ≤ c := by omega
    have hk30 : 30 ≤ k := by omega
    have hl1 : acc.length < 17592186044416 := by omega
    have w1 : -9223372036854775808 ≤ (pre.length : Int) + 1 := by omega
    have w2 : (pre.length : Int) + 1 ≤ 9223372036854775807 := by omega
    rw [tax_Year.l0, if_pos hlt, if_pos g0, if_pos hlt, hr, hadd, Option.bind_some, if_pos (show ((sum + x.f1, (0 : Int)) : Int × Int).2 = 0 from rfl), wrap_id w1 w2, hnx k hk30 hc1, Option.bind_some, if_pos st1, if_pos hl1]
    have := ih (pre ++ [x]) (acc ++ [q.1]) (sum + x.f1) q.1 (A + (x.f1.natAbs : Int)) k e1 (fun y hy => hs y (List.mem_cons_of_mem _ hy)) (by simp; omega) (by omega) (by omega) (by omega) (by rw [e2]; omega) (by omega)
    rw [e2] at this
    rw [this, List.append_assoc, List.cons_append, List.nil_append]
theorem year_is {L : List (List S106)} {l1 : List S120} {l2 : List S209} {a3 a4 : Int} (ht : TblOk L l1 a3 a4) {fr days c nom : Int} (hy : YOk fr days c nom) (b1 b2 b3 b4 b5 b6 b7 : Int) (l : List S90) (hc : (l.length : Int) ≤ c) (hs : ∀ x ∈ l, StepOk L x) (hA : absS l ≤ 53000000000) (k : Nat) (hk : 100 ≤ k) :
    tax_Year.f k L l1 l2 a3 a4 fr b1 b2 b3 b4 b5 b6 b7 days l = some (duesL L a4 nom 0 0 0 l, 0, fr, b1, b2, b3, b4, b5, b6, b7, days) := by
  have c1 := hy.c1
  have h := year_l0 (l2 := l2) ht hy b1 b2 b3 b4 b5 b6 b7 l hc l [] [] 0 0 0 k rfl hs rfl (by omega) (by omega) (by omega) (by simp) (by omega)
  rw [List.nil_append, show ((([] : List S90).length : Nat) : Int) = 0 from rfl] at h
  have hn : ¬ (l.length : Int) > c := by omega
  unfold tax_Year.f
  rw [hy.cnt, Option.bind_some, if_neg hn, h]
theorem duesL_len (L : List (List S106)) (a4 nom : Int) : ∀ (l : List S90) (i sum due : Int), (duesL L a4 nom i sum due l).length = l.length
  | [], _, _, _ => rfl
  | x :: t, i, sum, due => by rw [duesL, List.length_cons, duesL_len L a4 nom t, List.length_cons]
theorem year_24 : YOk 4 365 12 12 := ⟨fun a1 a2 a3 a4 a5 a6 a7 => rfl, rfl, by decide, by decide, by decide, by decide⟩
end Go.Proofs.Ytcapgmoipacioaa.P
