import Derived.Test.YtcapgmoipacioaaHexact
import Derived.Test.YtcapgmoipacioaaPpstipendref05
namespace Go.Proofs.Ytcapgmoipacioaa.P
open Go.RowKit Go.Proofs.YtcapgmoipacioaaW.PrintWords Go.Proofs.YtcapgmoipacioaaW.PrintLast Go.Proofs.YtcapgmoipacioaaW.PrintMore
set_option linter.unusedVariables false
set_option linter.unusedSimpArgs false

theorem rateOk_no {x : Int} : rateOk x = false ↔ x < 0 ∨ 10000 < x := by unfold rateOk; rw [decide_eq_false_iff_not]; omega

/-! what the document's Check tells is what the program's tells -/
theorem ref_j4 (l : List S106) (i : Int) (k : Nat) (b : Bool) : stipendref05_Check.j4 (k + 1) l i b = if b = true then some 50 else stipendref05_Check.l0 k l (wrap64 (i + 1)) := rfl
theorem ref_j3 (l : List S106) (i : Int) (k : Nat) (b : Bool) (h0 : 0 ≤ i) (h1 : i < (l.length : Int)) :
    stipendref05_Check.j3 (k + 2) l i b = if b = true then some 6 else if rateOk (rd_T106 l i).f1 = false then some 50 else if rateOk (rd_T106 l i).f2 = false then some 50 else stipendref05_Check.l0 k l (wrap64 (i + 1)) := by
  simp only [stipendref05_Check.j3, ref_j4, rateOk_no, decide_eq_true_eq]
  rw [if_pos h0, if_pos h1]
  cases b
  · by_cases a1 : (rd_T106 l i).f1 < 0
    · simp [a1]
    by_cases a2 : (rd_T106 l i).f1 > 10000
    · simp [a1, a2]
    have e1 : ¬ ((rd_T106 l i).f1 < 0 ∨ 10000 < (rd_T106 l i).f1) := by omega
    by_cases a3 : (rd_T106 l i).f2 < 0
    · simp only [Bool.false_eq_true, if_false, if_true, if_neg a1, if_neg a2, if_neg e1, if_pos a3, if_pos (Or.inl a3 : (rd_T106 l i).f2 < 0 ∨ 10000 < (rd_T106 l i).f2)]
    by_cases a4 : (rd_T106 l i).f2 > 10000
    · simp only [Bool.false_eq_true, if_false, if_true, if_neg a1, if_neg a2, if_neg e1, if_neg a3, if_pos a4, if_pos (Or.inr a4 : (rd_T106 l i).f2 < 0 ∨ 10000 < (rd_T106 l i).f2)]
    · have e2 : ¬ ((rd_T106 l i).f2 < 0 ∨ 10000 < (rd_T106 l i).f2) := by omega
      simp only [Bool.false_eq_true, if_false, if_true, if_neg a1, if_neg a2, if_neg e1, if_neg a3, if_neg a4, if_neg e2]
  · simp
theorem ref_l0 (l : List S106) (hl : l.length ≤ 8) : ∀ (n : Nat) (i : Int) (k : Nat), 0 ≤ i → i + n = (l.length : Int) → 4 * n + 1 ≤ k → stipendref05_Check.l0 k l i = some (bcFrom l n i)
  | 0, i, k, h0, hn, hk => by
    obtain ⟨k, rfl⟩ : ∃ m, k = m + 1 := ⟨k - 1, by omega⟩
    simp only [stipendref05_Check.l0, bcFrom]
    rw [if_neg (by omega)]
  | n + 1, i, k, h0, hn, hk => by
    obtain ⟨k, rfl⟩ : ∃ m, k = m + 4 := ⟨k - 4, by omega⟩
    have hi : i < (l.length : Int) := by omega
    have ih := ref_l0 l hl n (i + 1) k (by omega) (by omega) (by omega)
    have hw : wrap64 (i + 1) = i + 1 := wrap_id (by omega) (by omega)
    have hj2 : ∀ b : Bool, stipendref05_Check.j2 (k + 3) l i b = if b = true then some 1 else if 0 < i ∧ (rd_T106 l i).f0 ≤ (rd_T106 l (i - 1)).f0 then some 6 else if rateOk (rd_T106 l i).f1 = false then some 50 else if rateOk (rd_T106 l i).f2 = false then some 50 else some (bcFrom l n (i + 1)) := by
      intro b
      simp only [stipendref05_Check.j2]
      cases b
      · simp only [Bool.false_eq_true, if_false]
        by_cases hp : i > 0
        · have hw2 : wrap64 (i - 1) = i - 1 := wrap_id (by omega) (by omega)
          rw [if_pos hp, if_pos h0, if_pos hi, hw2, if_pos (by omega), if_pos (by omega), ref_j3 l i k _ h0 hi, hw, ih]
          by_cases c : (rd_T106 l i).f0 ≤ (rd_T106 l (i - 1)).f0
          · have c1 : 0 < i ∧ (rd_T106 l i).f0 ≤ (rd_T106 l (i - 1)).f0 := ⟨hp, c⟩
            simp only [decide_eq_true_eq, if_pos c, if_pos c1]
          · have c1 : ¬ (0 < i ∧ (rd_T106 l i).f0 ≤ (rd_T106 l (i - 1)).f0) := fun h => c h.2
            simp only [decide_eq_true_eq, if_neg c, if_neg c1]
        · have c1 : ¬ (0 < i ∧ (rd_T106 l i).f0 ≤ (rd_T106 l (i - 1)).f0) := fun h => hp h.1
          rw [if_neg hp, ref_j3 l i k _ h0 hi, hw, ih]
          simp only [Bool.false_eq_true, if_false, if_neg c1]
      · simp
    have hb : bcFrom l (n + 1) i = if bcAt l i = 0 then bcFrom l n (i + 1) else bcAt l i := rfl
    simp only [stipendref05_Check.l0, hb, hj2, decide_eq_true_eq]
    rw [if_pos hi, if_pos h0]
    generalize bcFrom l n (i + 1) = R
    have fin : ¬ (rd_T106 l i).f0 < 0 → ¬ 100000000000 < (rd_T106 l i).f0 → ¬ (i = 0 ∧ (rd_T106 l i).f0 ≠ 0) →
        (if 0 < i ∧ (rd_T106 l i).f0 ≤ (rd_T106 l (i - 1)).f0 then some 6 else if rateOk (rd_T106 l i).f1 = false then some 50 else if rateOk (rd_T106 l i).f2 = false then some 50 else some R) = some (if bcAt l i = 0 then R else bcAt l i) := by
      intro a1 a2 a3
      have hz : bcAt l i = if 0 < i ∧ (rd_T106 l i).f0 ≤ (rd_T106 l (i - 1)).f0 then 6 else if rateOk (rd_T106 l i).f1 = false then 50 else if rateOk (rd_T106 l i).f2 = false then 50 else 0 := by
        unfold bcAt; rw [if_neg a1, if_neg a2, if_neg a3]
      rw [hz]
      split
      · simp
      · split
        · simp
        · split <;> simp
    by_cases a1 : (rd_T106 l i).f0 < 0
    · have hz : bcAt l i = 1 := by unfold bcAt; rw [if_pos a1]
      simp only [if_pos a1, hz, if_true]; simp
    by_cases a2 : (rd_T106 l i).f0 > 100000000000
    · have hz : bcAt l i = 1 := by unfold bcAt; rw [if_neg a1, if_pos a2]
      simp only [if_neg a1, if_pos a2, hz, if_true]; simp
    by_cases a3 : i = 0
    · by_cases a4 : (rd_T106 l i).f0 > 0
      · have hz : bcAt l i = 1 := by unfold bcAt; rw [if_neg a1, if_neg a2, if_pos ⟨a3, by omega⟩]
        simp only [if_neg a1, if_neg a2, if_pos a3, if_pos a4, hz]; simp
      · simp only [if_neg a1, if_neg a2, if_pos a3, if_neg a4]
        exact fin a1 a2 (fun h => h.2 (by omega))
    · simp only [if_neg a1, if_neg a2, if_neg a3, Bool.false_eq_true, if_false]
      exact fin a1 a2 (fun h => a3 h.1)
theorem ref_Check_is (l : List S106) (k : Nat) (hk : 34 ≤ k) : stipendref05_Check.f k l = some (bandCheck l) := by
  obtain ⟨k, rfl⟩ : ∃ m, k = m + 1 := ⟨k - 1, by omega⟩
  unfold stipendref05_Check.f bandCheck
  simp only [stipendref05_Check.j0, decide_eq_true_eq]
  by_cases h1 : l.length = 0
  · have e1 : (l.length : Int) < 1 := by omega
    have e2 : l.length = 0 ∨ 8 < l.length := .inl h1
    simp only [if_pos e1, if_pos e2, if_true]
  · have e1 : ¬ (l.length : Int) < 1 := by omega
    by_cases h2 : 8 < l.length
    · have e2 : l.length = 0 ∨ 8 < l.length := .inr h2
      have e3 : (l.length : Int) > 8 := by omega
      simp only [if_neg e1, if_pos e2, if_pos e3]
    · have e2 : ¬ (l.length = 0 ∨ 8 < l.length) := by omega
      have e3 : ¬ (l.length : Int) > 8 := by omega
      simp only [if_neg e1, if_neg e2, if_neg e3]
      exact ref_l0 l (by omega) l.length 0 k (by omega) (by omega) (by omega)

/-! the document's Exact: each rate of all above, less the one ahead -/
def rfT (g : S106 → Int) (x : Int) (l : List S106) : Nat → Int → Int → Int
  | 0, _, _ => 0
  | n + 1, i, last => (if x > (rd_T106 l i).f0 then (x - (rd_T106 l i).f0) * (g (rd_T106 l i) - last) else 0) + rfT g x l n (i + 1) (g (rd_T106 l i))
theorem exFrom_acc (g : S106 → Int) (x : Int) (l : List S106) : ∀ (n : Nat) (i acc : Int), exFrom g x l n i acc = acc + exFrom g x l n i 0
  | 0, _, acc => by simp [exFrom]
  | n + 1, i, acc => by
    simp only [exFrom]
    by_cases c : x ≤ (rd_T106 l i).f0
    · simp [c]
    · rw [if_neg c, if_neg c, exFrom_acc g x l n (i + 1) (acc + _), exFrom_acc g x l n (i + 1) (0 + _)]
      omega
theorem Good.rise {l : List S106} (h : Good l) : ∀ (d : Nat) (i : Int), 0 ≤ i → i + d < l.length → (rd_T106 l i).f0 ≤ (rd_T106 l (i + d)).f0
  | 0, i, _, _ => by simp
  | d + 1, i, h0, h1 => by
    have a := h.rise d i h0 (by omega)
    have b := (h.bd (i := i + (d : Int) + 1) (by omega) (by omega)).2.2.2.1 (by omega)
    rw [show i + (d : Int) + 1 - 1 = i + (d : Int) by omega] at b
    rw [show i + ((d + 1 : Nat) : Int) = i + (d : Int) + 1 by omega]
    omega
theorem rfT_none {g : S106 → Int} {x : Int} {l : List S106} (h : Good l) : ∀ (n : Nat) (i last : Int), 0 ≤ i → i + n = (l.length : Int) → (0 < n → x ≤ (rd_T106 l i).f0) → rfT g x l n i last = 0
  | 0, _, _, _, _, _ => rfl
  | n + 1, i, last, h0, hn, hx => by
    have hx := hx (by omega)
    have ih := rfT_none (g := g) h n (i + 1) (g (rd_T106 l i)) (by omega) (by omega) (fun hn0 => by
      have := (h.bd (i := i + 1) (by omega) (by omega)).2.2.2.1 (by omega)
      rw [show i + 1 - 1 = i from by omega] at this
      exact Int.le_trans hx (Int.le_of_lt this))
    rw [rfT, if_neg (by omega), ih]; rfl
theorem exFrom_none {g : S106 → Int} {x : Int} {l : List S106} (n : Nat) (i acc : Int) (hx : 0 < n → x ≤ (rd_T106 l i).f0) : exFrom g x l n i acc = acc := by
  cases n with
  | zero => rfl
  | succ n => rw [exFrom, if_pos (hx (by omega))]
theorem rfT_is {g : S106 → Int} {x : Int} {l : List S106} (h : Good l) : ∀ (n : Nat) (i last : Int), 0 ≤ i → i + (n + 1 : Nat) = (l.length : Int) → (rd_T106 l i).f0 < x →
    rfT g x l (n + 1) i last = exFrom g x l (n + 1) i 0 - last * (x - (rd_T106 l i).f0)
  | n, i, last, h0, hn, hx => by
    rw [rfT, if_pos hx, exFrom, if_neg (by omega), exFrom_acc]
    have hF : 0 ≤ (rd_T106 l i).f0 := (h.bd h0 (by omega)).1
    by_cases c : i + 1 < (l.length : Int)
    · obtain ⟨m, rfl⟩ : ∃ m, n = m + 1 := ⟨n - 1, by omega⟩
      have hup := (h.bd (i := i + 1) (by omega) c).2.2.2.1 (by omega)
      rw [show i + 1 - 1 = i by omega] at hup
      by_cases d : x ≤ (rd_T106 l (i + 1)).f0
      · rw [rfT_none h (m + 1) (i + 1) _ (by omega) (by omega) (fun _ => d), exFrom_none (m + 1) (i + 1) 0 (fun _ => d)]
        have hw : wdt x l i = x - (rd_T106 l i).f0 := by
          unfold wdt; rw [if_pos c]; unfold mn mx; split <;> split <;> omega
        rw [hw, Int.mul_sub, Int.mul_comm last]
        omega
      · rw [rfT_is h m (i + 1) _ (by omega) (by omega) (by omega)]
        have hw : wdt x l i = (rd_T106 l (i + 1)).f0 - (rd_T106 l i).f0 := by
          unfold wdt; rw [if_pos c]; unfold mn mx; split <;> split <;> omega
        rw [hw]
        generalize (rd_T106 l i).f0 = a, (rd_T106 l (i + 1)).f0 = b, g (rd_T106 l i) = r
        simp only [Int.mul_sub, Int.sub_mul, Int.mul_comm last, Int.mul_comm r]
        omega
    · obtain rfl : n = 0 := by omega
      simp only [rfT, exFrom]
      have hw : wdt x l i = x - (rd_T106 l i).f0 := by
        unfold wdt; rw [if_neg c]; unfold mx; split <;> omega
      rw [hw, Int.mul_sub, Int.mul_comm last]
      omega
theorem rfT_all {g : S106 → Int} {x : Int} {l : List S106} (h : Good l) : rfT g x l l.length 0 0 = exFrom g x l l.length 0 0 := by
  obtain ⟨n, hn⟩ : ∃ n, l.length = n + 1 := ⟨l.length - 1, by have := h.pos; omega⟩
  rw [hn]
  by_cases c : (rd_T106 l 0).f0 < x
  · rw [rfT_is h n 0 0 (by omega) (by omega) c]; omega
  · rw [rfT_none h (n + 1) 0 0 (by omega) (by omega) (fun _ => by omega), exFrom_none (n + 1) 0 0 (fun _ => by omega)]

def pickG (b : Bool) : S106 → Int := if b = true then S106.f2 else S106.f1
theorem pickG_bd {l : List S106} (h : Good l) (b : Bool) {i : Int} (h0 : 0 ≤ i) (h1 : i < l.length) : 0 ≤ pickG b (rd_T106 l i) ∧ pickG b (rd_T106 l i) ≤ 10000 := by
  have := h.bd h0 h1
  unfold pickG
  cases b <;> simp <;> omega
theorem ref_Exact_l0 {x : Int} {l : List S106} (h : Good l) (hx : rightB x = true) (b : Bool) : ∀ (n : Nat) (i : Int) (k : Nat) (out last : Int), 0 ≤ i → i + n = (l.length : Int) → 2 * n + 1 ≤ k →
    -(1000000000000000 * i) ≤ out → out ≤ 1000000000000000 * i → 0 ≤ last → last ≤ 10000 → stipendref05_Exact.l0 k x l b out last i = some (out + rfT (pickG b) x l n i last)
  | 0, i, k, out, last, h0, hn, hk, _, _, _, _ => by
    obtain ⟨k, rfl⟩ : ∃ m, k = m + 1 := ⟨k - 1, by omega⟩
    simp only [stipendref05_Exact.l0, rfT]
    rw [if_neg (by omega)]; simp
  | n + 1, i, k, out, last, h0, hn, hk, ho1, ho2, hl1, hl2 => by
    obtain ⟨k, rfl⟩ : ∃ m, k = m + 2 := ⟨k - 2, by omega⟩
    have hi : i < (l.length : Int) := by omega
    have hl := h.len
    have hF := h.bd h0 hi
    have hxx := rightB_iff.1 hx
    have hg := pickG_bd h b h0 hi
    have hw : wrap64 (i + 1) = i + 1 := wrap_id (by omega) (by omega)
    have hj : ∀ r, r = pickG b (rd_T106 l i) → stipendref05_Exact.j1 (k + 1) x l b out last i r = some (out + rfT (pickG b) x l (n + 1) i last) := by
      intro r hr
      simp only [stipendref05_Exact.j1]
      rw [if_pos h0, if_pos hi, rfT, ← hr]
      rw [← hr] at hg
      by_cases c : x > (rd_T106 l i).f0
      · rw [if_pos c, if_pos c, hw, wrap_id (x := x - _) (by omega) (by omega), wrap_id (x := r - last) (by omega) (by omega)]
        have hm : -1000000000000000 ≤ (x - (rd_T106 l i).f0) * (r - last) ∧ (x - (rd_T106 l i).f0) * (r - last) ≤ 1000000000000000 := by
          have := mul_bound (a := r - last) (b := x - (rd_T106 l i).f0) (A := 10000) (B := 100000000000) ⟨by omega, by omega⟩ ⟨by omega, by omega⟩
          rw [Int.mul_comm (r - last)] at this
          omega
        generalize (x - (rd_T106 l i).f0) * (r - last) = p at hm ⊢
        rw [wrap_id (x := p) (by omega) (by omega), wrap_id (x := out + p) (by omega) (by omega), ref_Exact_l0 h hx b n (i + 1) k (out + p) r (by omega) (by omega) (by omega) (by omega) (by omega) hg.1 hg.2]
        congr 1
        omega
      · rw [if_neg c, if_neg c, hw, ref_Exact_l0 h hx b n (i + 1) k out r (by omega) (by omega) (by omega) (by omega) (by omega) hg.1 hg.2]
        congr 1
        omega
    simp only [stipendref05_Exact.l0]
    rw [if_pos hi, if_pos h0]
    cases b
    · rw [if_neg (by simp)]; exact hj _ rfl
    · rw [if_pos rfl]; exact hj _ rfl
theorem ref_Exact_is {x : Int} {l : List S106} (h : Good l) (hx : rightB x = true) (b : Bool) (k : Nat) (hk : 17 ≤ k) : stipendref05_Exact.f k x l b = some (exFrom (pickG b) x l l.length 0 0) := by
  have hl := h.len
  unfold stipendref05_Exact.f
  rw [ref_Exact_l0 h hx b l.length 0 k 0 0 (by omega) (by omega) (by omega) (by omega) (by omega) (by omega) (by omega), rfT_all h]
  simp
end Go.Proofs.Ytcapgmoipacioaa.P
