import Derived.Test.YtcapgmoipacioaaU6Ze
import Derived.Test.YtcapgmoipacioaaU7Ze
namespace Go.Proofs.Ytcapgmoipacioaa.P
open Go.RowKit Go.Proofs.YtcapgmoipacioaaW.PrintWords Go.Proofs.YtcapgmoipacioaaW.PrintLast Go.Proofs.YtcapgmoipacioaaW.PrintMore
set_option linter.unusedVariables false
set_option linter.unusedSimpArgs false
def wL (x : Int) : List S106 → Int
  | [] => 0
  | [b] => mx 0 (x - b.f0) * b.f1
  | b :: c :: t => mx 0 (mn x c.f0 - b.f0) * b.f1 + wL x (c :: t)
def scF (n d : Int) (b : S106) : Int := Int.tdiv (b.f0 * n) d
def refT (x n d : Int) : List S106 → Int
  | [] => 0
  | [b] => mx 0 (x - scF n d b) * b.f1
  | b :: c :: t => mx 0 (mn x (scF n d c) - scF n d b) * b.f1 + refT x n d (c :: t)
theorem wL_keep (x n d : Int) : ∀ l : List S106, wL x (keepS n d l) = refT x n d l
  | [] => rfl
  | [b] => rfl
  | b :: c :: t => by
    have ih := wL_keep x n d (c :: t)
    rw [keepS, refT]
    by_cases h : Int.tdiv (c.f0 * n) d = Int.tdiv (b.f0 * n) d
    · rw [if_pos h, ih]
      have : mx 0 (mn x (scF n d c) - scF n d b) = 0 := by unfold scF; rw [h]; unfold mx mn; repeat' split; all_goals omega
      rw [this, Int.zero_mul, Int.zero_add]
    · rw [if_neg h]
      obtain ⟨e, r, h1, h2⟩ := keepS_head n d t c
      rw [h1] at ih ⊢
      rw [wL, ih, h2]
      rfl
theorem wsum_L (x : Int) (suf : List S106) : ∀ (pre l : List S106), l = pre ++ suf → wsum S106.f1 x l suf.length (pre.length : Int) = wL x suf := by
  induction suf with
  | nil => intro pre l hl; rfl
  | cons b t ih =>
    intro pre l hl; subst hl; have e1 : pre ++ [b] ++ t = pre ++ b :: t := by simp
    have e2 : ((pre ++ [b]).length : Int) = (pre.length : Int) + 1 := by simp
    have h1 := ih (pre ++ [b]) (pre ++ b :: t) e1.symm; rw [e2] at h1; rw [List.length_cons, wsum, h1, rd106_mid]
    cases t with
    | nil =>
      rw [wL, wL, Int.add_zero]; unfold wdt; rw [if_neg (by simp), rd106_mid]
    | cons c t =>
      rw [wL]; unfold wdt; rw [if_pos (by simp; omega), rd106_mid, rd106_next]
theorem ex_L {x : Int} {l : List S106} (h : Good l) : exFrom S106.f1 x l l.length 0 0 = wL x l := by
  rw [exFrom_wsum h _ 0 0 (by omega) (by simp), Int.zero_add]; exact wsum_L x l [] l rfl
theorem ex_keep {x n d : Int} {l : List S106} (h : Good l) (hn : 0 ≤ n) (hd : 1 ≤ d) (hnd : n ≤ d) : exFrom S106.f1 x (keepS n d l) (keepS n d l).length 0 0 = refT x n d l := by
  rw [ex_L (keepS_good h hn hd hnd), wL_keep]
theorem rx_j2 {n d x out i fr tz : Int} {l : List S106} {b : S106} {k : Nat} (h0 : 0 ≤ i) (h1 : i < (l.length : Int)) (h8 : l.length ≤ 8) (hb : rd_T106 l i = b) (hB : BdB b) (hf : 0 ≤ fr ∧ fr ≤ 100000000000) (ht : -100000000000 ≤ tz ∧ tz ≤ 100000000000) (ho : 0 ≤ out ∧ out ≤ 8000000000000000) :
    stipendref13_Exact.j2 (k + 1) n d l x out i fr tz = stipendref13_Exact.l0 k n d l x (out + mx 0 (tz - fr) * b.f1) (i + 1) := by
  rw [stipendref13_Exact.j2, wrap_id (x := i + 1) (by omega) (by omega)]; by_cases h : tz > fr
  · have m := mul_bound (A := 100000000000) (B := 10000) (a := tz - fr) (b := b.f1) ⟨by omega, by omega⟩ hB.2.2.1; rw [if_pos h, if_pos h0, if_pos h1, hb, wrap_id (x := tz - fr) (by omega) (by omega), wrap_id (x := (tz - fr) * b.f1) (by omega) (by omega), wrap_id (by omega) (by omega)]; have : mx 0 (tz - fr) = tz - fr := by unfold mx; rw [if_pos (by omega)]
    rw [this]
  · have : mx 0 (tz - fr) = 0 := by unfold mx; rw [if_neg (by omega)]
    rw [if_neg h, this, Int.zero_mul, Int.add_zero]
theorem rx_l0 {n d x : Int} (hn : 0 ≤ n) (hd : 1 ≤ d) (hnd : n ≤ d) (hd2 : d ≤ 1048576) (hx : 0 ≤ x ∧ x ≤ 100000000000) (suf : List S106) : ∀ (pre l : List S106) (out : Int) (k : Nat), l = pre ++ suf → l.length ≤ 8 → (∀ b ∈ l, BdB b) → 0 ≤ out → out ≤ 1000000000000000 * pre.length → 2 * suf.length + 1 ≤ k →
    stipendref13_Exact.l0 k n d l x out (pre.length : Int) = some (out + refT x n d suf) := by
  induction suf with
  | nil =>
    intro pre l out k hl h8 hb ho ho2 hk; obtain ⟨k, rfl⟩ : ∃ m, k = m + 1 := ⟨k - 1, by omega⟩; rw [stipendref13_Exact.l0, if_neg (by rw [hl]; simp), refT, Int.add_zero]
  | cons b t ih =>
    intro pre l out k hl h8 hb ho ho2 hk; simp only [List.length_cons] at hk; obtain ⟨k, rfl⟩ : ∃ m, k = m + 2 := ⟨k - 2, by omega⟩; have hlen : l.length = pre.length + (t.length + 1) := by rw [hl]; simp
    have e1 : l = pre ++ [b] ++ t := by rw [hl]; simp
    have e2 : ((pre ++ [b]).length : Int) = (pre.length : Int) + 1 := by simp
    have hr : rd_T106 l (pre.length : Int) = b := by rw [hl]; exact rd106_mid pre t b
    have B := hb b (by rw [hl]; simp); have S := sc_bd (x := b.f0) B.1 B.2.1 hn hd hnd; have M := sc_small (x := b.f0) B.1 B.2.1 hn hnd hd2; have pl : (pre.length : Int) ≤ 7 := by omega
    have B1 := B.2.1
    have go : ∀ tz : Int, -100000000000 ≤ tz → tz ≤ 100000000000 → stipendref13_Exact.j2 (k + 1) n d l x out (pre.length : Int) (scF n d b) tz = some (out + mx 0 (tz - scF n d b) * b.f1 + refT x n d t) := by
      intro tz t1 t2; have m0 : 0 ≤ mx 0 (tz - scF n d b) ∧ mx 0 (tz - scF n d b) ≤ 100000000000 := by unfold scF mx; split <;> omega
      have m1 := Int.mul_nonneg m0.1 B.2.2.1.1; have m2 := (mul_bound (A := 100000000000) (B := 10000) ⟨by omega, m0.2⟩ B.2.2.1).2; rw [rx_j2 (by omega) (by omega) h8 hr B (show 0 ≤ scF n d b ∧ scF n d b ≤ 100000000000 from ⟨S.1, Int.le_trans S.2 B.2.1⟩) ⟨t1, t2⟩ ⟨ho, by omega⟩]; have := ih (pre ++ [b]) l (out + mx 0 (tz - scF n d b) * b.f1) k e1 h8 hb (by omega) (by simp; omega) (by omega); rw [e2] at this; exact this
    rw [stipendref13_Exact.l0, if_pos (by omega), if_pos (by omega), if_neg (by omega), hr, wrap_id (x := (pre.length : Int) + 1) (by omega) (by omega), wrap_id (x := b.f0 * n) (by omega) (by omega), wrap_id (x := Int.tdiv (b.f0 * n) d) (by omega) (by omega)]
    cases t with
    | nil =>
      rw [if_neg (by simp at hlen; omega)]; have := go x (by omega) hx.2; rw [refT] at this; rw [refT]; rw [show Int.tdiv (b.f0 * n) d = scF n d b from rfl, this, Int.add_zero]
    | cons c t =>
      have hr2 : rd_T106 l ((pre.length : Int) + 1) = c := by rw [hl]; exact rd106_next pre b c t
      have C := hb c (by rw [hl]; simp); have SC := sc_bd (x := c.f0) C.1 C.2.1 hn hd hnd; have MC := sc_small (x := c.f0) C.1 C.2.1 hn hnd hd2; have C1 := C.2.1; simp only [List.length_cons] at hlen; rw [if_pos (by omega), if_pos (by omega), hr2, wrap_id (x := c.f0 * n) (by omega) (by omega), wrap_id (x := Int.tdiv (c.f0 * n) d) (by omega) (by omega), show Int.tdiv (b.f0 * n) d = scF n d b from rfl, show Int.tdiv (c.f0 * n) d = scF n d c from rfl, refT]; have q1 : scF n d c = Int.tdiv (c.f0 * n) d := rfl; by_cases h : scF n d c < x
      · rw [if_pos h, go _ (by omega) (by omega)]; have : mn x (scF n d c) = scF n d c := by unfold mn; split <;> omega
        rw [this, Int.add_assoc]
      · rw [if_neg h, go _ (by omega) hx.2]; have : mn x (scF n d c) = x := by unfold mn; split <;> omega
        rw [this, Int.add_assoc]
end Go.Proofs.Ytcapgmoipacioaa.P
