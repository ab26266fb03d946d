import Derived.Test.YtcapgmoipacioaaU13Zd
import Derived.Test.YtcapgmoipacioaaR1Zd
import Derived.Test.YtcapgmoipacioaaPlTaxYearZd
namespace Go.Proofs.Ytcapgmoipacioaa.P
open Go.RowKit Go.Proofs.YtcapgmoipacioaaW.PrintWords Go.Proofs.YtcapgmoipacioaaW.PrintLast Go.Proofs.YtcapgmoipacioaaW.PrintMore
set_option linter.unusedVariables false
set_option linter.unusedSimpArgs false
def psum : List Int → Nat → Int
  | _, 0 => 0
  | [], _ + 1 => 0
  | x :: t, n + 1 => x + psum t n
theorem psum_next : ∀ (l : List Int) (n : Nat), n < l.length → psum l (n + 1) = psum l n + rd l (n : Int)
  | [], n, h => by simp at h
  | x :: t, 0, _ => by
    show x + psum t 0 = 0 + rd (x :: t) 0
    rw [psum, Int.add_zero, Int.zero_add]
    rfl
  | x :: t, n + 1, h => by
    have ih := psum_next t n (by simpa using h)
    have e : rd (x :: t) ((n + 1 : Nat) : Int) = rd t (n : Int) := by unfold rd; rw [Int.toNat_natCast, Int.toNat_natCast]; rfl
    rw [show psum (x :: t) (n + 1 + 1) = x + psum t (n + 1) from rfl, ih, e, show psum (x :: t) (n + 1) = x + psum t n from rfl]
    omega
theorem psum_bd {B : Int} (hB : 0 ≤ B) : ∀ (l : List Int) (n : Nat), (∀ x ∈ l, -B ≤ x ∧ x ≤ B) → n ≤ l.length → -(B * n) ≤ psum l n ∧ psum l n ≤ B * n
  | l, 0, _, _ => by cases l <;> simp [psum]
  | [], n + 1, _, h => by simp at h
  | x :: t, n + 1, hx, h => by
    have ih := psum_bd hB t n (fun y hy => hx y (List.mem_cons_of_mem _ hy)) (by simpa using h)
    have h1 := hx x List.mem_cons_self
    have e : B * ((n + 1 : Nat) : Int) = B * (n : Int) + B := by rw [Int.natCast_succ, Int.mul_add, Int.mul_one]
    rw [show psum (x :: t) (n + 1) = x + psum t n from rfl, e]
    omega
theorem refDue_is {L : List (List S106)} {l1 : List S120} {l2 : List S209} {a3 a4 : Int} (ht : TblOk L l1 a3 a4) (k : Nat) (hk : 40 ≤ k) {s kd am fl x n d : Int} (al : Bool) (hf : fitsM L s kd am fl = 0) (hp : partOk n d = true) (hx : -60000000000 ≤ x ∧ x ≤ 60000000000) :
    stipendref13_Due.f k L l1 l2 a3 a4 s kd am fl al x n d = some (dueM L a4 s kd am fl x n d).1 := by
  obtain ⟨f1, f2, f3⟩ := fitsM_zero hf; obtain ⟨c1, c2⟩ := charge_small (fl := fl) (s := s) f1 hp hx; have h0 := taxM_ok (L := L) (x := x) (n := n) (d := d) hf c1; have b := taxM_bd ht s kd am fl x n d; unfold stipendref13_Due.f dueM; rw [ref_Exact13_is ht k (by omega) s kd am fl x n d al hf c1, Option.bind_some, ref_Round_is b.1 (by omega) k (by omega), Option.bind_some, if_pos h0]
theorem rd88_mid (pre suf : List S88) (x : S88) : rd_T88 (pre ++ x :: suf) (pre.length : Int) = x := by
  unfold rd_T88
  simp [List.getD_eq_getElem?_getD]
theorem ryr_l1 {L : List (List S106)} {l1 : List S120} {l2 : List S209} {a3 a4 nom : Int} (cs : List S88) (T acc : List Int) (i : Nat) (hi : i < T.length) (hT : ∀ x ∈ T, -1000000000 ≤ x ∧ x ≤ 1000000000) (h60 : T.length ≤ 60) (F : Nat) (R : Option (List Int)) (hR : ∀ k, F ≤ k → stipendref13_Year.j3 k nom cs T acc (i : Int) (psum T (i + 1)) (mn ((i : Int) + 1) nom) L l1 l2 a3 a4 = R) :
    ∀ (m j k : Nat), j + m = i + 1 → F + m + 1 ≤ k → stipendref13_Year.l1 k nom cs T acc (i : Int) (psum T j) (j : Int) L l1 l2 a3 a4 = R
  | 0, j, k, hj, hk => by
    obtain ⟨k, rfl⟩ : ∃ m, k = m + 1 := ⟨k - 1, by omega⟩
    obtain rfl : j = i + 1 := by omega
    have w : wrap64 ((i : Int) + 1) = (i : Int) + 1 := wrap_id (by omega) (by omega)
    have hn : ¬ ((i + 1 : Nat) : Int) ≤ (i : Int) := by omega
    have hR' := hR k (by omega)
    rw [stipendref13_Year.l1, if_neg hn, w]
    by_cases h : (i : Int) + 1 > nom
    · rw [if_pos h]
      rw [show mn ((i : Int) + 1) nom = nom by clear w; unfold mn; split <;> omega] at hR'
      exact hR'
    · rw [if_neg h]
      rw [show mn ((i : Int) + 1) nom = (i : Int) + 1 by clear w; unfold mn; split <;> omega] at hR'
      exact hR'
  | m + 1, j, k, hj, hk => by
    obtain ⟨k, rfl⟩ : ∃ m, k = m + 1 := ⟨k - 1, by omega⟩
    have b1 := psum_bd (B := 1000000000) (by omega) T (j + 1) hT (by omega)
    have nx := psum_next T j (by omega)
    rw [nx] at b1
    have w1 : wrap64 (psum T j + rd T (j : Int)) = psum T (j + 1) := by rw [nx]; exact wrap_id (by omega) (by omega)
    have w2 : wrap64 ((j : Int) + 1) = ((j + 1 : Nat) : Int) := by rw [Int.natCast_succ]; exact wrap_id (by omega) (by omega)
    have h1 : (j : Int) ≤ (i : Int) := by clear w1 w2; omega
    have h2 : (j : Int) < (T.length : Int) := by clear w1 w2; omega
    have h3 : 0 ≤ (j : Int) := by clear w1 w2; omega
    rw [stipendref13_Year.l1, if_pos h1, if_pos h3, if_pos h2, w1, w2]
    exact ryr_l1 cs T acc i hi hT h60 F R hR m (j + 1) k (by clear w1 w2; omega) (by clear w1 w2; omega)
def Last (acc : List Int) (n : Nat) (due : Int) : Prop := (n = 0 → due = 0) ∧ (0 < n → rd acc ((n : Int) - 1) = due)
theorem last_snoc (acc : List Int) (n : Nat) (q : Int) (h : acc.length = n) : Last (acc ++ [q]) (n + 1) q := by
  refine ⟨fun h => by omega, fun _ => ?_⟩
  rw [show ((n + 1 : Nat) : Int) - 1 = (acc.length : Int) by omega]; exact rd_mid acc [] q
theorem ryr_l0 {L : List (List S106)} {l1 : List S120} {l2 : List S209} {a3 a4 : Int} (ht : TblOk L l1 a3 a4) {fr days c nom : Int} (hy : YOk fr days c nom) (l : List S90) (hc : (l.length : Int) ≤ c) (hT : ∀ x ∈ l.map S90.f1, -1000000000 ≤ x ∧ x ≤ 1000000000) (suf : List S90) :
    ∀ (pre : List S90) (acc : List Int) (due A : Int) (k : Nat), l = pre ++ suf → (∀ x ∈ suf, StepOk L x) → acc.length = pre.length → Last acc pre.length due → 0 ≤ A → A + absS suf ≤ 53000000000 → (-A ≤ psum (l.map S90.f1) pre.length ∧ psum (l.map S90.f1) pre.length ≤ A) → (0 ≤ due ∧ due ≤ A + 1000000002 + 83500000 * pre.length) → 70 * suf.length + 100 ≤ k →
    stipendref13_Year.l0 k nom (l.map S90.f0) (l.map S90.f1) acc (pre.length : Int) L l1 l2 a3 a4 = some (acc ++ duesL L a4 nom (pre.length : Int) (psum (l.map S90.f1) pre.length) due suf) := by
  have c1 := hy.c1; have n1 := hy.n1; have n2 := hy.n2
  induction suf with
  | nil =>
    intro pre acc due A k hl hs ha hla hA hA2 h1 h2 hk; obtain ⟨k, rfl⟩ : ∃ m, k = m + 1 := ⟨k - 1, by omega⟩; rw [stipendref13_Year.l0, if_neg (by rw [hl]; simp), duesL, List.append_nil]
  | cons x t ih =>
    intro pre acc due A k hl hs ha hla hA hA2 h1 h2 hk; simp only [List.length_cons] at hk; obtain ⟨k, rfl⟩ : ∃ m, k = m + 1 := ⟨k - 1, by omega⟩; have hlen : l.length = pre.length + (t.length + 1) := by rw [hl]; simp
    have e1 : l = pre ++ [x] ++ t := by rw [hl]; simp
    have e2 : (pre ++ [x]).length = pre.length + 1 := by simp
    have hc0 : (l.map S90.f0).length = l.length := List.length_map ..; have hc1 : (l.map S90.f1).length = l.length := List.length_map ..
    have hr0 : rd_T88 (l.map S90.f0) (pre.length : Int) = x.f0 := by
      rw [hl, List.map_append, List.map_cons]; have := rd88_mid (pre.map S90.f0) (t.map S90.f0) x.f0; rw [List.length_map] at this; exact this
    have hr1 : rd (l.map S90.f1) (pre.length : Int) = x.f1 := by
      rw [hl, List.map_append, List.map_cons]; have := rd_mid (pre.map S90.f1) (t.map S90.f1) x.f1; rw [List.length_map] at this; exact this
    have hx := hs x List.mem_cons_self; have hxb := hT x.f1 (by rw [hl]; simp); have n0 := absS_nonneg t; rw [absS] at hA2; have pn := psum_next (l.map S90.f1) pre.length (by rw [hc1]; omega); rw [hr1] at pn; obtain ⟨P, hP⟩ : ∃ P, psum (l.map S90.f1) pre.length = P := ⟨_, rfl⟩; rw [hP] at h1 pn; obtain ⟨st1, st2, st3, st4⟩ := step_ok (i := (pre.length : Int)) (sum := P + x.f1) (ahead := due) ht hy hx (by omega) (by omega) hA (by omega) (by omega) h2; have hd : duesL L a4 nom (pre.length : Int) P due (x :: t) = (stepX L a4 nom ((pre.length : Int) + 1) x (P + x.f1) due).1 :: duesL L a4 nom ((pre.length : Int) + 1) (P + x.f1) (stepX L a4 nom ((pre.length : Int) + 1) x (P + x.f1) due).1 t := by rw [duesL]; rfl
    have g0 : 0 ≤ (pre.length : Int) := Int.natCast_nonneg _; have hlt0 : (pre.length : Int) < ((l.map S90.f0).length : Int) := by rw [hc0]; omega
    have hlt1 : (pre.length : Int) < ((l.map S90.f1).length : Int) := by rw [hc1]; omega
    have hacc : acc.length < 17592186044416 := by omega
    have wi : wrap64 ((pre.length : Int) + 1) = (pre.length : Int) + 1 := wrap_id (by omega) (by omega)
    
    have next : ∀ q, q = (stepX L a4 nom ((pre.length : Int) + 1) x (P + x.f1) due).1 → ∀ k, 70 * t.length + 100 ≤ k → stipendref13_Year.l0 k nom (l.map S90.f0) (l.map S90.f1) (acc ++ [q]) ((pre.length : Int) + 1) L l1 l2 a3 a4 = some (acc ++ duesL L a4 nom (pre.length : Int) P due (x :: t)) := by
      clear wi; intro q hq k hk; have st2' : 0 ≤ (stepX L a4 nom ((pre.length : Int) + 1) x (P + x.f1) due).1 := st2; have st3' : (stepX L a4 nom ((pre.length : Int) + 1) x (P + x.f1) due).1 ≤ A + (x.f1.natAbs : Int) + 1000000002 + 83500000 * ((pre.length : Int) + 1) := st3; rw [hd, ← hq]; rw [← hq] at st2' st3'; clear st1 st2 st3 st4 hd; have := ih (pre ++ [x]) (acc ++ [q]) q (A + (x.f1.natAbs : Int)) k e1 (fun y hy => hs y (List.mem_cons_of_mem _ hy)) (by rw [e2]; simp; omega) (by rw [e2]; exact last_snoc acc _ q ha) (by omega) (by omega) (by rw [e2, pn]; omega) (by rw [e2, Int.natCast_succ]; omega) hk; rw [e2, pn, Int.natCast_succ] at this; rw [this, List.append_assoc, List.cons_append, List.nil_append]
    rw [hP]
    cases hal : x.f0.f4 with
    | true =>
      have s4 := st4 hal; have hq : due + (dueM L a4 x.f0.f0 x.f0.f1 x.f0.f2 x.f0.f3 x.f1 1 nom).1 = (stepX L a4 nom ((pre.length : Int) + 1) x (P + x.f1) due).1 := s4.symm; have hdd := fun k (hk : 40 ≤ k) => refDue_is (l2 := l2) (x := x.f1) ht k hk x.f0.f4 hx (part_one n1 n2) (by clear wi; omega)
      have hwr : wrap64 (due + (dueM L a4 x.f0.f0 x.f0.f1 x.f0.f2 x.f0.f3 x.f1 1 nom).1) = due + (dueM L a4 x.f0.f0 x.f0.f1 x.f0.f2 x.f0.f3 x.f1 1 nom).1 := by
        have d := due_ok (x := x.f1) ht hx (part_one n1 n2) (by clear wi; omega); have fb := free_bd (kd := x.f0.f1) (codeM_zero (fitsM_zero hx).1).2.2.1.1 (codeM_zero (fitsM_zero hx).1).2.2.1.2 (part_one n1 n2); clear st1 st2 st3 st4 s4 hq hdd next wi hd; obtain ⟨D, hD⟩ : ∃ D, dueM L a4 x.f0.f0 x.f0.f1 x.f0.f2 x.f0.f3 x.f1 1 nom = D := ⟨_, rfl⟩; rw [hD] at d ⊢; have m : mx 0 (x.f1 - freeX x.f0.f1 x.f0.f2 1 nom) ≤ 3000000000 := by unfold mx; split <;> omega
        exact wrap_id (by omega) (by omega)
      have j1 : ∀ k, 70 * t.length + 101 ≤ k → stipendref13_Year.j1 k nom (l.map S90.f0) (l.map S90.f1) acc (pre.length : Int) due L l1 l2 a3 a4 = some (acc ++ duesL L a4 nom (pre.length : Int) P due (x :: t)) := by
        intro k hk; obtain ⟨k, rfl⟩ : ∃ m, k = m + 1 := ⟨k - 1, by clear wi hwr; omega⟩; have nx := next _ hq k (by clear wi hwr; omega); rw [stipendref13_Year.j1, if_pos g0, if_pos hlt0, if_pos hlt1, hr0, hr1, hdd k (by clear wi hwr; omega), Option.bind_some, if_pos hacc, hwr, wi]; exact nx
      by_cases hz : (pre.length : Int) > 0
      · have hl1 : 0 ≤ (pre.length : Int) - 1 := by clear wi hwr; omega
        have hl2 : (pre.length : Int) - 1 < (acc.length : Int) := by clear wi hwr; omega
        have wm : wrap64 ((pre.length : Int) - 1) = (pre.length : Int) - 1 := wrap_id (by clear wi hwr; omega) (by clear wi hwr; omega); rw [stipendref13_Year.l0, if_pos hlt0, if_pos g0, hr0, if_pos hal, if_pos hz, wm, if_pos hl1, if_pos hl2, hla.2 (by clear wi hwr wm; omega)]; exact j1 k (by clear wi hwr wm; omega)
      · have : due = 0 := hla.1 (by clear wi hwr; omega); rw [stipendref13_Year.l0, if_pos hlt0, if_pos g0, hr0, if_pos hal, if_neg hz]; rw [this] at j1 ⊢; exact j1 k (by clear wi hwr; omega)
    | false =>
      have hq : (dueM L a4 x.f0.f0 x.f0.f1 x.f0.f2 x.f0.f3 (P + x.f1) (mn ((pre.length : Int) + 1) nom) nom).1 = (stepX L a4 nom ((pre.length : Int) + 1) x (P + x.f1) due).1 := by
        unfold stepX stepM; rw [hal, if_neg (by decide)]
      have hp := part_min (i := (pre.length : Int) + 1) n1 n2 (by clear wi; omega); have hdd := fun k (hk : 40 ≤ k) => refDue_is (l2 := l2) (x := P + x.f1) ht k hk x.f0.f4 hx hp (by clear wi; omega)
      have j3 : ∀ k, 70 * t.length + 101 ≤ k → stipendref13_Year.j3 k nom (l.map S90.f0) (l.map S90.f1) acc (pre.length : Int) (psum (l.map S90.f1) (pre.length + 1)) (mn ((pre.length : Int) + 1) nom) L l1 l2 a3 a4 = some (acc ++ duesL L a4 nom (pre.length : Int) P due (x :: t)) := by
        intro k hk; obtain ⟨k, rfl⟩ : ∃ m, k = m + 1 := ⟨k - 1, by clear wi; omega⟩; have nx := next _ hq k (by clear wi; omega); rw [pn, stipendref13_Year.j3, if_pos g0, if_pos hlt0, hr0, hdd k (by clear wi; omega), Option.bind_some, if_pos hacc, wi]; exact nx
      have hng : ¬ x.f0.f4 = true := by rw [hal]; decide
      rw [stipendref13_Year.l0, if_pos hlt0, if_pos g0, hr0, if_neg hng]; have := ryr_l1 (l.map S90.f0) (l.map S90.f1) acc pre.length (by clear wi; rw [hc1]; omega) hT (by clear wi; rw [hc1]; omega) (70 * t.length + 101) _ j3 (pre.length + 1) 0 k (by clear wi; omega) (by clear wi; omega); rw [show psum (l.map S90.f1) 0 = 0 by cases l.map S90.f1 <;> rfl, show ((0 : Nat) : Int) = 0 from rfl] at this; exact this
theorem dues_6000 : stipendlaw13_dues.f 6000 = some true := by decide +kernel
theorem absS_le {B : Int} (hB : 0 ≤ B) : ∀ l : List S90, (∀ x ∈ l, -B ≤ x.f1 ∧ x.f1 ≤ B) → absS l ≤ B * l.length
  | [], _ => by simp [absS]
  | x :: t, h => by
    have ih := absS_le hB t (fun y hy => h y (List.mem_cons_of_mem _ hy))
    have hx := h x List.mem_cons_self
    have e : B * ((x :: t).length : Int) = B * (t.length : Int) + B := by rw [List.length_cons, Int.natCast_succ, Int.mul_add, Int.mul_one]
    rw [absS, e]
    omega
theorem TY_l1 {L : List (List S106)} {l1 : List S120} {l2 : List S209} {a3 a4 : Int} (ht : TblOk L l1 a3 a4) {fr c nom : Int} (hy : YOk fr 366 c nom) (l : List S90) (hc : (l.length : Int) ≤ c) (D : List Int) (hD : D.length = l.length) (sum0 : Int) (suf : List S90) :
    ∀ (pre : List S90) (P : List Int) (sum due A : Int) (k : Nat), l = pre ++ suf → (∀ x ∈ suf, StepOk L x) → P.length = pre.length → D = P ++ duesL L a4 nom (pre.length : Int) sum due suf → 0 ≤ A → A + absS suf ≤ 53000000000 → (-A ≤ sum ∧ sum ≤ A) → (0 ≤ due ∧ due ≤ A + 1000000002 + 83500000 * pre.length) → 2 * suf.length + 50 ≤ k →
    stipendlaw13_TaxYear.l1 k l D (l.map S90.f1) sum0 D sum due (D.length : Int) (pre.length : Int) L l1 l2 a3 a4 fr 2023 4 6 2024 4 5 45020 366 = some true := by
  have c1 := hy.c1
  induction suf with
  | nil =>
    intro pre P sum due A k hl hs hP hDD hA hA2 h1 h2 hk; obtain ⟨k, rfl⟩ : ∃ m, k = m + 1 := ⟨k - 1, by omega⟩; have hn : ¬ (pre.length : Int) < (D.length : Int) := by rw [hD, hl]; simp
    have nx := next_no (L := L) (l1 := l1) (l2 := l2) (a3 := a3) (a4 := a4) hy k (by omega) 2023 4 6 2024 4 5 45020 0 0 0 0 0 0 0 0 false (.inl (by omega)); rw [stipendlaw13_TaxYear.l1, if_neg hn, nx, Option.bind_some]
    rfl
  | cons x t ih =>
    intro pre P sum due A k hl hs hP hDD hA hA2 h1 h2 hk; simp only [List.length_cons] at hk; obtain ⟨k, rfl⟩ : ∃ m, k = m + 2 := ⟨k - 2, by omega⟩; have hlen : l.length = pre.length + (t.length + 1) := by rw [hl]; simp
    have e1 : l = pre ++ [x] ++ t := by rw [hl]; simp
    have e2 : (pre ++ [x]).length = pre.length + 1 := by simp
    have hr : rd_T90 l (pre.length : Int) = x := by rw [hl]; exact rd90_mid pre t x
    have hc1 : (l.map S90.f1).length = l.length := List.length_map ..
    have hr1 : rd (l.map S90.f1) (pre.length : Int) = x.f1 := by
      rw [hl, List.map_append, List.map_cons]; have := rd_mid (pre.map S90.f1) (t.map S90.f1) x.f1; rw [List.length_map] at this; exact this
    have hx := hs x List.mem_cons_self; have n0 := absS_nonneg t; rw [absS] at hA2; obtain ⟨st1, st2, st3, _⟩ := step_ok (i := (pre.length : Int)) (sum := sum + x.f1) ht hy hx (by omega) (by omega) hA (by omega) (by omega) h2; have hd : duesL L a4 nom (pre.length : Int) sum due (x :: t) = (stepX L a4 nom ((pre.length : Int) + 1) x (sum + x.f1) due).1 :: duesL L a4 nom ((pre.length : Int) + 1) (sum + x.f1) (stepX L a4 nom ((pre.length : Int) + 1) x (sum + x.f1) due).1 t := by rw [duesL]; rfl
    have hnx : tax_Next.f (k + 1) L l1 l2 a3 a4 fr 2023 4 6 2024 4 5 45020 366 ((pre.length : Int) + 1) x.f0.f0 x.f0.f1 x.f0.f2 x.f0.f3 x.f0.f4 x.f1 (sum + x.f1) due = some ((stepX L a4 nom ((pre.length : Int) + 1) x (sum + x.f1) due).1, (stepX L a4 nom ((pre.length : Int) + 1) x (sum + x.f1) due).2, fr, 2023, 4, 6, 2024, 4, 5, 45020, 366) := by
      clear st1 st2 st3 hd; exact next_is ht hy (k + 1) (by omega) 2023 4 6 2024 4 5 45020 _ _ _ _ _ _ _ _ _ (by omega) (by omega)
    have st1' : (stepX L a4 nom ((pre.length : Int) + 1) x (sum + x.f1) due).2 = 0 := st1; have st2' : 0 ≤ (stepX L a4 nom ((pre.length : Int) + 1) x (sum + x.f1) due).1 := st2; have st3' : (stepX L a4 nom ((pre.length : Int) + 1) x (sum + x.f1) due).1 ≤ A + (x.f1.natAbs : Int) + 1000000002 + 83500000 * ((pre.length : Int) + 1) := st3; clear st1 st2 st3; obtain ⟨q, hq⟩ : ∃ q, stepX L a4 nom ((pre.length : Int) + 1) x (sum + x.f1) due = q := ⟨_, rfl⟩; rw [hq] at st1' st2' st3' hnx hd; clear hq; have hrD : rd D (pre.length : Int) = q.1 := by rw [hDD, hd, ← hP]; exact rd_mid _ _ _
    have hD2 : D = (P ++ [q.1]) ++ duesL L a4 nom ((pre.length : Int) + 1) (sum + x.f1) q.1 t := by rw [hDD, hd]; simp
    have g0 : 0 ≤ (pre.length : Int) := Int.natCast_nonneg _; have g1 : (pre.length : Int) < (D.length : Int) := by rw [hD]; omega
    have g2 : (pre.length : Int) < ((l.map S90.f1).length : Int) := by rw [hc1]; omega
    have g3 : (pre.length : Int) < (l.length : Int) := by omega
    have next := ih (pre ++ [x]) (P ++ [q.1]) (sum + x.f1) q.1 (A + (x.f1.natAbs : Int)) k e1 (fun y hy => hs y (List.mem_cons_of_mem _ hy)) (by rw [e2]; simp; omega) (by rw [e2, Int.natCast_succ]; exact hD2) (by omega) (by omega) (by omega) (by rw [e2, Int.natCast_succ]; omega) (by omega); rw [e2, Int.natCast_succ] at next; have wi : wrap64 ((pre.length : Int) + 1) = (pre.length : Int) + 1 := wrap_id (by omega) (by omega); have ws : wrap64 (sum + x.f1) = sum + x.f1 := wrap_id (by clear wi; omega) (by clear wi; omega); rw [stipendlaw13_TaxYear.l1, if_pos g1, if_pos g0, if_pos g2, if_pos g3, hr, hr1, wi, ws, hnx, Option.bind_some, if_pos g1, if_pos g1, if_pos rfl, if_pos st1', hrD, show (q.1 != q.1) = false by simp, stipendlaw13_TaxYear.j5, if_neg (by decide), wi]; exact next
theorem TY_l0 {L : List (List S106)} {l1 : List S120} {l2 : List S209} {a3 a4 : Int} (ht : TblOk L l1 a3 a4) {fr c nom : Int} (hy : YOk fr 366 c nom) (l : List S90) (hc : (l.length : Int) ≤ c) (suf : List S90) :
    ∀ (pre : List S90) (sum : Int) (k : Nat), l = pre ++ suf → (∀ x ∈ pre, StepOk L x ∧ -1000000000 ≤ x.f1 ∧ x.f1 ≤ 1000000000) → 2 * suf.length + 5000 ≤ k →
    stipendlaw13_TaxYear.l0 k fr l (yearG L a4 nom 0 0 0 [] l).1 (yearG L a4 nom 0 0 0 [] l).2 (pre.map S90.f0) (pre.map S90.f1) sum l (l.length : Int) (pre.length : Int) L l1 l2 a3 a4 fr 2023 4 6 2024 4 5 45020 366 = some true := by
  have c1 := hy.c1
  induction suf with
  | nil =>
    intro pre sum k hl hp hk; obtain ⟨k, rfl⟩ : ∃ m, k = m + 2 := ⟨k - 2, by omega⟩; rw [List.append_nil] at hl; subst hl; have hn : ¬ (l.length : Int) < (l.length : Int) := by omega
    have ab := absS_le (B := 1000000000) (by omega) l (fun x hx => (hp x hx).2); have G := yearG_run ht hy [] (fun x t h => by cases h) l 0 0 0 0 [] (by omega) (by omega) (fun x hx => (hp x hx).1) (by omega) (by rw [firstA]; omega) (by omega) (by omega); rw [List.append_nil] at G; simp only [List.nil_append] at G; rw [G]; have W := ryr_l0 (l2 := l2) ht hy l hc (fun z hz => by obtain ⟨y, hy2, rfl⟩ := List.mem_map.1 hz; exact (hp y hy2).2) l [] [] 0 0 (k + 1) rfl (fun x hx => (hp x hx).1) rfl ⟨fun _ => rfl, fun h => by simp at h⟩ (by omega) (by omega) (by cases l <;> simp [psum]) (by simp) (by omega); rw [show ((([] : List S90).length : Nat) : Int) = 0 from rfl, List.nil_append, show psum (l.map S90.f1) ([] : List S90).length = 0 by cases l.map S90.f1 <;> rfl] at W; have W' : stipendref13_Year.f (k + 1) L l1 l2 a3 a4 nom (l.map S90.f0) (l.map S90.f1) = some (duesL L a4 nom 0 0 0 l) := W; have dl := duesL_len L a4 nom l 0 0 0; have fin := TY_l1 (l2 := l2) ht hy l hc (duesL L a4 nom 0 0 0 l) dl sum l [] [] 0 0 0 k rfl (fun x hx => (hp x hx).1) rfl rfl (by omega) (by omega) (by omega) (by simp) (by omega); rw [show ((([] : List S90).length : Nat) : Int) = 0 from rfl] at fin; rw [stipendlaw13_TaxYear.l0, if_neg hn, hy.nom_, Option.bind_some, W', Option.bind_some, if_pos rfl, show (((duesL L a4 nom 0 0 0 l).length : Int) != ((duesL L a4 nom 0 0 0 l).length : Int)) = false by simp, stipendlaw13_TaxYear.j3, if_neg (by decide)]; exact fin
  | cons x t ih =>
    intro pre sum k hl hp hk; simp only [List.length_cons] at hk; obtain ⟨k, rfl⟩ : ∃ m, k = m + 2 := ⟨k - 2, by omega⟩; have hlen : l.length = pre.length + (t.length + 1) := by rw [hl]; simp
    have e1 : l = pre ++ [x] ++ t := by rw [hl]; simp
    have e2 : (pre ++ [x]).length = pre.length + 1 := by simp
    have hr : rd_T90 l (pre.length : Int) = x := by rw [hl]; exact rd90_mid pre t x
    have g0 : 0 ≤ (pre.length : Int) := Int.natCast_nonneg _; have g1 : (pre.length : Int) < (l.length : Int) := by omega
    rw [stipendlaw13_TaxYear.l0, if_pos g1, if_pos g0, if_pos g1, hr]; have j2t : stipendlaw13_TaxYear.j2 (k + 1) fr l (yearG L a4 nom 0 0 0 [] l).1 (yearG L a4 nom 0 0 0 [] l).2 (pre.map S90.f0) (pre.map S90.f1) sum l (l.length : Int) (pre.length : Int) true L l1 l2 a3 a4 fr 2023 4 6 2024 4 5 45020 366 x.f0.f0 x.f0.f1 x.f0.f2 x.f0.f3 x.f0.f4 x.f1 = some true := by rw [stipendlaw13_TaxYear.j2, if_pos rfl]
    by_cases x1 : x.f1 > 1000000000
    · rw [if_pos x1]; exact j2t
    rw [if_neg x1]; by_cases x2 : x.f1 < -1000000000
    · rw [decide_eq_true x2]; exact j2t
    rw [decide_eq_false x2]; clear j2t; have hF := table_Fits_is k (by omega) L l1 l2 a3 a4 x.f0.f0 x.f0.f1 x.f0.f2 x.f0.f3 x.f0.f4; by_cases hx : StepOk L x
    · have hx' : fitsM L x.f0.f0 x.f0.f1 x.f0.f2 x.f0.f3 = 0 := hx; have m1 : (pre.map S90.f0).length < 3518437208883 := by rw [List.length_map]; omega
      have m2 : (pre.map S90.f1).length < 17592186044416 := by rw [List.length_map]; omega
      have a1 : pre.map S90.f0 ++ [(⟨x.f0.f0, x.f0.f1, x.f0.f2, x.f0.f3, x.f0.f4⟩ : S88)] = (pre ++ [x]).map S90.f0 := by rw [List.map_append]; rfl
      have a2 : pre.map S90.f1 ++ [x.f1] = (pre ++ [x]).map S90.f1 := by rw [List.map_append]; rfl
      have wi : wrap64 ((pre.length : Int) + 1) = ((pre ++ [x]).length : Int) := by rw [e2, Int.natCast_succ]; exact wrap_id (by omega) (by omega)
      rw [stipendlaw13_TaxYear.j2, if_neg (by decide), hF, Option.bind_some, if_pos hx', if_pos m1, if_pos m2, a1, a2, wi]; clear wi; refine ih (pre ++ [x]) _ k e1 (fun y hy => ?_) (by omega)
      rcases List.mem_append.1 hy with h | h
      · exact hp y h
      · rw [List.mem_singleton.1 h]; exact ⟨hx, by omega, by omega⟩
    · have hx' : ¬ fitsM L x.f0.f0 x.f0.f1 x.f0.f2 x.f0.f3 = 0 := hx; have ab := absS_le (B := 1000000000) (by omega) pre (fun x hx => (hp x hx).2); have G := yearG_run ht hy (x :: t) (fun y t' h => by cases h; exact hx) pre 0 0 0 0 [] (by omega) (by omega) (fun x hx => (hp x hx).1) (by omega) (by rw [firstA]; omega) (by omega) (by omega); rw [← hl] at G; simp only at G; rw [G, stipendlaw13_TaxYear.j2, if_neg (by decide), hF, Option.bind_some, if_neg hx', if_pos rfl]
      rfl
theorem year_23 {fr : Int} (h0 : 1 ≤ fr) (h1 : fr ≤ 4) : ∃ c nom, YOk fr 366 c nom := by
  rcases (show fr = 1 ∨ fr = 2 ∨ fr = 3 ∨ fr = 4 by omega) with rfl | rfl | rfl | rfl
  · have e : wrap64 (Int.tdiv (wrap64 ((wrap64 (366 + 7)) - 1)) 7) = 53 := by decide +kernel
    refine ⟨53, 52, fun a1 a2 a3 a4 a5 a6 a7 => ?_, rfl, by decide, by decide, by decide, by decide⟩
    unfold period_Year_Count.f; rw [show period_length.f 1 = some 7 from rfl, Option.bind_some, if_neg (by decide), e]
  · have e : wrap64 (Int.tdiv (wrap64 ((wrap64 (366 + 14)) - 1)) 14) = 27 := by decide +kernel
    refine ⟨27, 26, fun a1 a2 a3 a4 a5 a6 a7 => ?_, rfl, by decide, by decide, by decide, by decide⟩
    unfold period_Year_Count.f; rw [show period_length.f 2 = some 14 from rfl, Option.bind_some, if_neg (by decide), e]
  · have e : wrap64 (Int.tdiv (wrap64 ((wrap64 (366 + 28)) - 1)) 28) = 14 := by decide +kernel
    refine ⟨14, 13, fun a1 a2 a3 a4 a5 a6 a7 => ?_, rfl, by decide, by decide, by decide, by decide⟩
    unfold period_Year_Count.f; rw [show period_length.f 3 = some 28 from rfl, Option.bind_some, if_neg (by decide), e]
  · exact ⟨12, 12, fun a1 a2 a3 a4 a5 a6 a7 => rfl, rfl, by decide, by decide, by decide, by decide⟩
theorem TaxYear_all (L : List (List S106)) (l1 : List S120) (l2 : List S209) (a3 a4 fr : Int) (h0 : 1 ≤ fr) (h1 : fr ≤ 4) (l : List S90) (k : Nat) (hk : 6000 ≤ k) (hd : stipendlaw13_dues.f k = some true) : stipendlaw13_TaxYear.f k L l1 l2 a3 a4 fr l = some true := by
  obtain ⟨c, nom, hy⟩ := year_23 h0 h1; have c1 := hy.c1; obtain ⟨m, hm⟩ : ∃ m, k = m + 1 := ⟨k - 1, by omega⟩; have yes : stipendlaw13_TaxYear.j0 k fr l true L l1 l2 a3 a4 fr 2023 4 6 2024 4 5 45020 366 = some true := by rw [hm, stipendlaw13_TaxYear.j0, if_pos rfl]
  have hnew : period_New.f fr 2023 4 6 = some (fr, 2023, 4, 6, 2024, 4, 5, 45020, 366, 0) := by
    unfold period_New.f; rw [if_pos ⟨h0, h1, rfl, rfl⟩, if_neg (by decide), if_pos rfl]
  obtain ⟨r, hr, hr0⟩ := table_Check_is L l1 l2 a3 a4; unfold stipendlaw13_TaxYear.f; rw [hd, Option.bind_some, if_pos rfl, hnew, Option.bind_some]; by_cases h20 : (L.length : Int) > 20
  · rw [if_pos h20]; exact yes
  rw [if_neg h20, hr k (by omega), Option.bind_some]; by_cases hz : r = 0
  · have ht := hr0 hz; rw [if_pos hz]; by_cases h60 : (l.length : Int) > 60
    · rw [decide_eq_true h60]; exact yes
    rw [decide_eq_false h60, hm, stipendlaw13_TaxYear.j0, if_neg (by decide)]; by_cases hc : (l.length : Int) > c
    · rw [year_over (L := L) (l1 := l1) (l2 := l2) (a3 := a3) (a4 := a4) hy 2023 4 6 2024 4 5 45020 l hc m, Option.bind_some, hy.cnt, Option.bind_some, if_pos hc, if_pos rfl]
      rfl
    · have ya := year_any (l2 := l2) ht hy 2023 4 6 2024 4 5 45020 l (by omega) m (by omega); rw [ya, Option.bind_some, hy.cnt, Option.bind_some, if_neg hc]; exact TY_l0 ht hy l (by omega) l [] 0 m rfl (fun x hx => by simp at hx) (by omega)
  · rw [if_neg hz]; exact yes
theorem TaxYear_pure (t : S56) (fr : Int) (l : List S90) (_ : W56 t) (_ : (Lit.int .i64 fr).wf = true) (_ : ∀ a ∈ l, W90 a) (h0 : 1 ≤ fr) (h1 : fr ≤ 4) : ∃ k, stipendlaw13_TaxYear.f k t.f0 t.f1 t.f2 t.f3 t.f4 fr l = some true := ⟨6000, TaxYear_all _ _ _ _ _ _ h0 h1 _ 6000 (Nat.le_refl _) dues_6000⟩
end Go.Proofs.Ytcapgmoipacioaa.P
