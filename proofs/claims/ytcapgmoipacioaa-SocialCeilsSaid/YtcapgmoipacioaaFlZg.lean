import Derived.Laws.ComplexArith
namespace Go.Proofs.YtcapgmoipacioaaW.FlW
open Ieee
theorem pow2_pos (k : Nat) : 0 < 2 ^ k := Nat.two_pow_pos k
theorem log2_eq {n k : Nat} (h1 : 2 ^ k ≤ n) (h2 : n < 2 ^ (k + 1)) : n.log2 = k := by
  have hn : n ≠ 0 := by have := pow2_pos k; omega
  have a : n.log2 < k + 1 := (Nat.log2_lt hn).2 h2; have b : ¬ n.log2 < k := fun h => by have := (Nat.log2_lt hn).1 h; omega
  omega
theorem log2_spec {n : Nat} (hn : n ≠ 0) : 2 ^ n.log2 ≤ n ∧ n < 2 ^ (n.log2 + 1) := by
  refine ⟨Nat.log2_self_le hn, (Nat.log2_lt hn).1 (by omega)⟩
theorem log2_mul_pow (n k : Nat) (hn : n ≠ 0) : (n * 2 ^ k).log2 = n.log2 + k := by
  obtain ⟨a, b⟩ := log2_spec hn; refine log2_eq ?_ ?_
  · rw [Nat.pow_add]; exact Nat.mul_le_mul_right _ a
  · rw [show n.log2 + k + 1 = (n.log2 + 1) + k by omega, Nat.pow_add]; exact Nat.mul_lt_mul_of_pos_right b (pow2_pos k)
def rungOf (N : Nat) : Nat := (N.log2 + 1022) * 2 ^ 52 + (if N.log2 ≤ 52 then N * 2 ^ (52 - N.log2) else N / 2 ^ (N.log2 - 52))
theorem cut_exact (way : Toward) (s : Bool) (k d : Nat) (hk : k ≠ 0) : way.cut s (k * 2 ^ d) d = k := by
  have hl : d ≤ (k * 2 ^ d).log2 := by rw [log2_mul_pow _ _ hk]; omega
  have hmin : min d ((k * 2 ^ d).log2 + 2) = d := by omega
  unfold Toward.cut; simp only [hmin, Nat.one_shiftLeft]; have h1 : k * 2 ^ d / 2 ^ d = k := Nat.mul_div_cancel _ (pow2_pos d); have h2 : k * 2 ^ d % 2 ^ d = 0 := Nat.mul_mod_left _ _; have hp := pow2_pos d; rw [h1, h2]; cases way <;> simp
theorem cut_zero (way : Toward) (s : Bool) (d : Nat) : way.cut s 0 d = 0 := by
  unfold Toward.cut; have h : 0 < 1 <<< min d (Nat.log2 0 + 2) := by rw [Nat.one_shiftLeft]; exact pow2_pos _
  simp only [Nat.zero_div, Nat.zero_mod]; generalize 1 <<< min d (Nat.log2 0 + 2) = g at h; cases way <;> simp
theorem pow_split (a b : Nat) (h : a ≤ b) : 2 ^ b = 2 ^ a * 2 ^ (b - a) := by rw [← Nat.pow_add]; congr 1; omega
theorem eq_of_scaled {X m N e : Nat} (h : m * 2 ^ e = N * 2 ^ X) :
    (e ≤ X → m = N * 2 ^ (X - e)) ∧ (X ≤ e → m * 2 ^ (e - X) = N) := by
  constructor
  · intro h1; rw [pow_split e X h1, ← Nat.mul_assoc, Nat.mul_right_comm] at h; exact Nat.eq_of_mul_eq_mul_right (pow2_pos e) h
  · intro h1; rw [pow_split X e h1, ← Nat.mul_assoc, Nat.mul_right_comm] at h; exact Nat.eq_of_mul_eq_mul_right (pow2_pos X) h
theorem nearest_whole (X : Nat) (s : Bool) (m N : Nat) (e : Int) (hN : N ≠ 0) (hb : N ≤ 2 ^ 53) (h1 : -(X : Int) ≤ e) (hm : m ≠ 0) (h : m * 2 ^ (e + X).toNat = N * 2 ^ X) :
    double.nearest s m e = double.word s (rungOf N) := by
  obtain ⟨E, hE⟩ : ∃ E : Nat, e + X = E := ⟨(e + X).toNat, by omega⟩; have hE' : (e + X).toNat = E := by omega
  rw [hE'] at h; obtain ⟨hle, hge⟩ := eq_of_scaled h
  have hl : N.log2 ≤ 53 := by
    have : N.log2 < 54 := (Nat.log2_lt hN).2 (by omega)
    omega
  have hlog : e + m.log2 = N.log2 := by
    rcases Nat.le_total E X with c | c
    · have := hle c; have hl2 : m.log2 = N.log2 + (X - E) := by rw [this, log2_mul_pow _ _ hN]
      omega
    · have := hge c; have hl2 : N.log2 = m.log2 + (E - X) := by rw [← this, log2_mul_pow _ _ hm]
      omega
  unfold Format.nearest; rw [if_neg hm]; have e1 : (double.fractionBits : Int) = 52 := rfl; have e2 : double.leastPlace = -1074 := by decide
  have e3 : double.binade = 2 ^ 52 := rfl; have e4 : double.infRung = 2047 * 2 ^ 52 := by decide
  simp only [e1, e2, e3, e4]; have hlast : max (e + (m.log2 : Int) - 52) (-1074) = (N.log2 : Int) - 52 := by omega
  rw [hlast]; obtain ⟨L, hL⟩ : ∃ L, N.log2 = L := ⟨_, rfl⟩; rw [hL] at hl hlog; obtain ⟨sp1, sp2⟩ := log2_spec hN; rw [hL] at sp1 sp2
  
  have hkept : Toward.even.cut s (m <<< (e - ((N.log2 : Int) - 52)).toNat) (((N.log2 : Int) - 52) - e).toNat = (if N.log2 ≤ 52 then N * 2 ^ (52 - N.log2) else N / 2 ^ (N.log2 - 52)) := by
    rw [hL]; by_cases c52 : L ≤ 52
    · rw [if_pos c52]; have hk0 : N * 2 ^ (52 - L) ≠ 0 := Nat.mul_ne_zero hN (by have := pow2_pos (52 - L); omega)
      rcases Nat.le_total E X with c | c
      · have hm2 := hle c; by_cases cc : X - E ≤ 52 - L
        · have a1 : (e - ((L : Int) - 52)).toNat = (52 - L) - (X - E) := by omega
          have a2 : (((L : Int) - 52) - e).toNat = 0 := by omega
          rw [a1, a2, Nat.shiftLeft_eq, hm2, Nat.mul_assoc, ← Nat.pow_add]; have : X - E + (52 - L - (X - E)) = 52 - L := by omega
          rw [this]; have := cut_exact .even s (N * 2 ^ (52 - L)) 0 hk0
          simpa using this
        · have a1 : (e - ((L : Int) - 52)).toNat = 0 := by omega
          have a2 : (((L : Int) - 52) - e).toNat = (X - E) - (52 - L) := by omega
          rw [a1, a2, Nat.shiftLeft_zero, hm2]
          have : N * 2 ^ (X - E) = N * 2 ^ (52 - L) * 2 ^ (X - E - (52 - L)) := by
            rw [Nat.mul_assoc, ← Nat.pow_add]; congr 2; omega
          rw [this]; exact cut_exact .even s _ _ hk0
      · have hm2 := hge c; have a1 : (e - ((L : Int) - 52)).toNat = (52 - L) + (E - X) := by omega
        have a2 : (((L : Int) - 52) - e).toNat = 0 := by omega
        rw [a1, a2, Nat.shiftLeft_eq, Nat.add_comm, Nat.pow_add, ← Nat.mul_assoc, hm2]; have := cut_exact .even s (N * 2 ^ (52 - L)) 0 hk0
        simpa using this
    · rw [if_neg c52]; obtain rfl : L = 53 := by omega
      have hN53 : N = 2 ^ 53 := by omega
      have hd : N / 2 ^ (53 - 52) = 2 ^ 52 := by rw [hN53]
      rw [hd]
      rcases Nat.lt_or_ge E (X + 1) with c | c
      · have hm2 := hle (by omega); have a1 : (e - ((53 : Int) - 52)).toNat = 0 := by omega
        have a2 : (((53 : Int) - 52) - e).toNat = (X + 1) - E := by omega
        have : m = 2 ^ 52 * 2 ^ ((X + 1) - E) := by
          rw [hm2, hN53, ← Nat.pow_add, ← Nat.pow_add]; congr 1; omega
        show Toward.even.cut s (m <<< (e - ((53 : Int) - 52)).toNat) (((53 : Int) - 52) - e).toNat = 2 ^ 52
        rw [a1, a2, Nat.shiftLeft_zero, this]; exact cut_exact .even s _ _ (by decide)
      · have hm2 := hge (by omega); have a1 : (e - ((53 : Int) - 52)).toNat = E - (X + 1) := by omega
        have a2 : (((53 : Int) - 52) - e).toNat = 0 := by omega
        show Toward.even.cut s (m <<< (e - ((53 : Int) - 52)).toNat) (((53 : Int) - 52) - e).toNat = 2 ^ 52
        rw [a1, a2, Nat.shiftLeft_eq]
        have : m * 2 ^ (E - (X + 1)) = 2 ^ 52 := by
          have h3 : m * 2 ^ (E - (X + 1)) * 2 = 2 ^ 52 * 2 := by
            rw [Nat.mul_assoc, ← Nat.pow_succ, show (E - (X + 1)).succ = E - X by omega, hm2, hN53]
          omega
        rw [this]; have := cut_exact .even s (2 ^ 52) 0 (by decide)
        simpa using this
  rw [hkept]; have hplace : ((N.log2 : Int) - 52 - -1074).toNat = N.log2 + 1022 := by omega
  rw [hplace]
  have hlt : rungOf N ≤ 2047 * 2 ^ 52 := by
    unfold rungOf; rw [hL]
    split
    · have : N * 2 ^ (52 - L) < 2 ^ 53 := by
        calc N * 2 ^ (52 - L) < 2 ^ (L + 1) * 2 ^ (52 - L) := Nat.mul_lt_mul_of_pos_right sp2 (pow2_pos _)
          _ = 2 ^ 53 := by rw [← Nat.pow_add]; congr 1; omega
      omega
    · obtain rfl : L = 53 := by omega
      have hN53 : N = 2 ^ 53 := by omega
      rw [hN53]; decide
  show double.word s (min (rungOf N) (2047 * 2 ^ 52)) = double.word s (rungOf N)
  rw [Nat.min_eq_left hlt]
theorem kept_bounds (X : Nat) (hX : 60 ≤ X) {N : Nat} (hN : N ≠ 0) (hb : N ≤ 2 ^ 53) :
    ∃ K, rungOf N = (N.log2 + 1022) * 2 ^ 52 + K ∧ 2 ^ 52 ≤ K ∧ K < 2 ^ 53 ∧ K * 2 ^ ((N.log2 : Int) - 52 + X).toNat = N * 2 ^ X ∧ N.log2 ≤ 53 := by
  have hl : N.log2 ≤ 53 := by
    have : N.log2 < 54 := (Nat.log2_lt hN).2 (by omega)
    omega
  obtain ⟨sp1, sp2⟩ := log2_spec hN; unfold rungOf; obtain ⟨L, hL⟩ : ∃ L, N.log2 = L := ⟨_, rfl⟩; rw [hL] at hl sp1 sp2 ⊢; by_cases c : L ≤ 52
  · rw [if_pos c]; refine ⟨_, rfl, ?_, ?_, ?_, hl⟩
    · calc 2 ^ 52 = 2 ^ L * 2 ^ (52 - L) := by rw [← Nat.pow_add]; congr 1; omega
        _ ≤ N * 2 ^ (52 - L) := Nat.mul_le_mul_right _ sp1
    · calc N * 2 ^ (52 - L) < 2 ^ (L + 1) * 2 ^ (52 - L) := Nat.mul_lt_mul_of_pos_right sp2 (pow2_pos _)
        _ = 2 ^ 53 := by rw [← Nat.pow_add]; congr 1; omega
    · rw [Nat.mul_assoc, ← Nat.pow_add]; congr 2; omega
  · rw [if_neg c]; obtain rfl : L = 53 := by omega
    have hN53 : N = 2 ^ 53 := by omega
    refine ⟨_, rfl, ?_, ?_, ?_, hl⟩
    · rw [hN53]; decide
    · rw [hN53]; decide
    · rw [hN53]; have e1 : (((53 : Nat) : Int) - 52 + X).toNat = X + 1 := by omega
      rw [e1, Nat.pow_succ]; omega
theorem word_read (s : Bool) (r : Nat) (hr : r < 2 ^ 63) : double.word s r / double.signWeight % 2 = s.toNat ∧ double.word s r % double.signWeight = r := by
  have e : double.signWeight = 2 ^ 63 := rfl; unfold Format.word; rw [e]; cases s <;> simp <;> omega
def Fl (b : Nat) (n : Int) : Prop := (n ≠ 0 ∧ b = double.word (decide (n < 0)) (rungOf n.natAbs)) ∨ (n = 0 ∧ ∃ s, b = double.word s 0)
theorem fl_read (X : Nat) (hX : 60 ≤ X) {b : Nat} {n : Int} (h : Fl b n) (hb : n.natAbs ≤ 2 ^ 53) :
    ∃ s m e, double.read b = .number s m e ∧ -1074 ≤ e ∧ (m = 0 ↔ n = 0) ∧ (n ≠ 0 → -52 ≤ e ∧ m * 2 ^ (e + X).toNat = n.natAbs * 2 ^ X ∧ s = decide (n < 0)) := by
  rcases h with ⟨hn, rfl⟩ | ⟨rfl, s, rfl⟩
  · have hN : n.natAbs ≠ 0 := by omega
    obtain ⟨K, hr, k1, k2, k3, hl⟩ := kept_bounds X hX hN hb; have hr63 : rungOf n.natAbs < 2 ^ 63 := by rw [hr]; omega
    obtain ⟨w1, w2⟩ := word_read (decide (n < 0)) (rungOf n.natAbs) hr63; unfold Format.read; simp only [w1, w2]; have e3 : double.binade = 2 ^ 52 := rfl; have e4 : double.infRung = 2047 * 2 ^ 52 := by decide
    have e2 : double.leastPlace = -1074 := by decide
    rw [e3, e4, e2, if_neg (by rw [hr]; omega), if_pos (by rw [hr]; omega)]; have d1 : rungOf n.natAbs / 2 ^ 52 = n.natAbs.log2 + 1023 := by rw [hr]; omega
    have d2 : 2 ^ 52 + rungOf n.natAbs % 2 ^ 52 = K := by rw [hr]; omega
    rw [d1, d2]; refine ⟨_, _, _, rfl, by omega, ⟨fun h => by omega, fun h => absurd h hn⟩, fun _ => ⟨?_, ?_, ?_⟩⟩
    · omega
    · rw [show ((-1074 : Int) + ((n.natAbs.log2 + 1023 - 1 : Nat) : Int) + X).toNat = ((n.natAbs.log2 : Int) - 52 + X).toNat by omega]; exact k3
    · cases decide (n < 0) <;> rfl
  · obtain ⟨w1, w2⟩ := word_read s 0 (by decide); unfold Format.read; simp only [w1, w2]; have e3 : double.binade = 2 ^ 52 := rfl; rw [e3, if_pos (pow2_pos 52)]; exact ⟨_, _, _, rfl, by decide, by simp, fun h => absurd rfl h⟩
theorem fl_write (X : Nat) {s : Bool} {m : Nat} {e : Int} {n : Int} (hb : n.natAbs ≤ 2 ^ 53) (h0 : m = 0 ↔ n = 0) (h : n ≠ 0 → -(X : Int) ≤ e ∧ m * 2 ^ (e + X).toNat = n.natAbs * 2 ^ X ∧ s = decide (n < 0)) :
    Fl (double.write (.number s m e)) n := by
  by_cases hn : n = 0
  · right
    refine ⟨hn, s, ?_⟩
    show double.nearest s m e = _
    unfold Format.nearest; rw [if_pos (h0.2 hn)]
  · left
    obtain ⟨h1, h2, rfl⟩ := h hn; exact ⟨hn, nearest_whole X _ m n.natAbs e (by omega) hb h1 (fun h => hn (h0.1 h)) h2⟩
theorem fl_of_int (n : Int) (hb : n.natAbs ≤ 2 ^ 53) : Fl (floatOfInt .f64 n) n := by
  refine fl_write 0 (s := decide (n < 0)) (m := n.natAbs) (e := 0) hb (by omega) fun _ => ⟨by decide, ?_, rfl⟩
  rfl
theorem fl_zero : Fl 0 0 := .inr ⟨rfl, false, rfl⟩
theorem on_scale {X : Nat} {s : Bool} {m : Nat} {e B : Int} {n : Int} (h0 : m = 0 ↔ n = 0) (h : n ≠ 0 → -(X : Int) ≤ e ∧ m * 2 ^ (e + X).toNat = n.natAbs * 2 ^ X ∧ s = decide (n < 0)) (hB : B ≤ e) (hB2 : -(X : Int) ≤ B) :
    signed s m (e - B).toNat * (2 ^ (B + X).toNat : Nat) = n * (2 ^ X : Nat) := by
  by_cases hn : n = 0
  · have hm := h0.2 hn; subst hm hn; cases s <;> simp [signed]
  · obtain ⟨h1, h2, h3⟩ := h hn; have e1 : (e + X).toNat = (e - B).toNat + (B + X).toNat := by omega
    rw [e1, Nat.pow_add, ← Nat.mul_assoc] at h2; unfold signed; rw [Nat.shiftLeft_eq]; by_cases hs : n < 0
    · rw [h3, if_pos (by simpa using hs), Int.neg_mul, ← Int.natCast_mul, h2, Int.natCast_mul]; have : ((n.natAbs : Nat) : Int) = -n := by omega
      rw [this, Int.neg_mul, Int.neg_neg]
    · rw [h3, if_neg (by simpa using hs), ← Int.natCast_mul, h2, Int.natCast_mul]; have : ((n.natAbs : Nat) : Int) = n := by omega
      rw [this]
theorem pow_pos_int (k : Nat) : (0 : Int) < ((2 ^ k : Nat) : Int) := by exact_mod_cast pow2_pos k
theorem cmp_scale {a b n k : Int} {C S : Int} (hC : 0 < C) (hS : 0 < S) (h1 : a * C = n * S) (h2 : b * C = k * S) : compare a b = compare n k := by
  have key : ∀ {a b n k : Int}, a * C = n * S → b * C = k * S → a < b → n < k := by
    intro a b n k h1 h2 h; have h3 : a * C < b * C := Int.mul_lt_mul_of_pos_right h hC; rw [h1, h2] at h3; exact Int.lt_of_mul_lt_mul_right h3 (Int.le_of_lt hS)
  rcases Int.lt_trichotomy a b with h | h | h
  · have := key h1 h2 h; rw [Int.compare_eq_lt.2 h, Int.compare_eq_lt.2 this]
  · subst h; have : n = k := Int.eq_of_mul_eq_mul_right (by omega) (h1.symm.trans h2); subst this; rw [Int.compare_eq_eq.2 rfl, Int.compare_eq_eq.2 rfl]
  · have := key h2 h1 h; rw [Int.compare_eq_gt.2 h, Int.compare_eq_gt.2 this]
theorem weak {X : Nat} (hX : X = 1100) {s : Bool} {m : Nat} {e : Int} {n : Int} (h : n ≠ 0 → -52 ≤ e ∧ m * 2 ^ (e + X).toNat = n.natAbs * 2 ^ X ∧ s = decide (n < 0)) :
    n ≠ 0 → -(X : Int) ≤ e ∧ m * 2 ^ (e + X).toNat = n.natAbs * 2 ^ X ∧ s = decide (n < 0) := fun hn => ⟨by have := (h hn).1; omega, (h hn).2⟩
theorem fl_order {x y : Nat} {n k : Int} (hx : Fl x n) (hy : Fl y k) (hn : n.natAbs ≤ 2 ^ 53) (hk : k.natAbs ≤ 2 ^ 53) : double.order x y = some (compare n k) := by
  obtain ⟨X, hX⟩ : ∃ X : Nat, X = 1100 := ⟨_, rfl⟩; obtain ⟨s, m, e, hr, hl, h0, h1⟩ := fl_read X (by omega) hx hn; obtain ⟨t, l, f, hr', hl', h0', h1'⟩ := fl_read X (by omega) hy hk; unfold Format.order; rw [hr, hr']
  show some (compare (signed s m (e - min e f).toNat) (signed t l (f - min e f).toNat)) = _
  have a1 := on_scale (B := min e f) h0 (weak hX h1) (by omega) (by omega); have a2 := on_scale (B := min e f) h0' (weak hX h1') (by omega) (by omega); rw [cmp_scale (pow_pos_int _) (pow_pos_int _) a1 a2]
theorem abs_scale {t n C S : Int} (hC : 0 < C) (hS : 0 < S) (h : t * C = n * S) : (t = 0 ↔ n = 0) ∧ (t < 0 ↔ n < 0) := by
  constructor
  · constructor
    · rintro rfl; rw [Int.zero_mul] at h; exact (Int.mul_eq_zero.1 h.symm).resolve_right (by omega)
    · rintro rfl; rw [Int.zero_mul] at h; exact (Int.mul_eq_zero.1 h).resolve_right (by omega)
  · constructor
    · intro h1; have := Int.mul_neg_of_neg_of_pos h1 hC; rw [h] at this; by_cases c : n < 0
      · exact c
      · have := Int.mul_nonneg (show 0 ≤ n by omega) (Int.le_of_lt hS); omega
    · intro h1; have := Int.mul_neg_of_neg_of_pos h1 hS; rw [← h] at this; by_cases c : t < 0
      · exact c
      · have := Int.mul_nonneg (show 0 ≤ t by omega) (Int.le_of_lt hC); omega
theorem sum_is {X : Nat} (hX : X = 1100) {s t : Bool} {m l : Nat} {e f : Int} {n k : Int} (hb : (n + k).natAbs ≤ 2 ^ 53) (hl : -1074 ≤ e) (hl' : -1074 ≤ f)
    (h0 : m = 0 ↔ n = 0) (h1 : n ≠ 0 → -(X : Int) ≤ e ∧ m * 2 ^ (e + X).toNat = n.natAbs * 2 ^ X ∧ s = decide (n < 0))
    (h0' : l = 0 ↔ k = 0) (h1' : k ≠ 0 → -(X : Int) ≤ f ∧ l * 2 ^ (f + X).toNat = k.natAbs * 2 ^ X ∧ t = decide (k < 0)) :
    ∃ r, (Datum.number s m e).sum (.number t l f) = some r ∧ Fl (double.write r) (n + k) := by
  have a1 := on_scale (B := min e f) h0 h1 (by omega) (by omega); have a2 := on_scale (B := min e f) h0' h1' (by omega) (by omega); refine ⟨_, rfl, ?_⟩
  generalize hT : signed s m (e - min e f).toNat + signed t l (f - min e f).toNat = T; have a3 : T * (2 ^ (min e f + X).toNat : Nat) = (n + k) * (2 ^ X : Nat) := by rw [← hT, Int.add_mul, Int.add_mul, a1, a2]
  obtain ⟨b1, b2⟩ := abs_scale (pow_pos_int _) (pow_pos_int _) a3; refine fl_write X hb (by omega) fun hn => ⟨by omega, ?_, ?_⟩
  · have := congrArg Int.natAbs a3; rw [Int.natAbs_mul, Int.natAbs_mul, Int.natAbs_natCast, Int.natAbs_natCast] at this; exact this
  · rw [if_neg (fun h => hn (b1.1 h))]; exact decide_eq_decide.2 b2
theorem fl_add {x y : Nat} {n k : Int} (hx : Fl x n) (hy : Fl y k) (hn : n.natAbs ≤ 2 ^ 53) (hk : k.natAbs ≤ 2 ^ 53) (hb : (n + k).natAbs ≤ 2 ^ 53) : ∃ r, floatBits .add .f64 x y = some r ∧ Fl r (n + k) := by
  obtain ⟨X, hX⟩ : ∃ X : Nat, X = 1100 := ⟨_, rfl⟩; obtain ⟨s, m, e, hr, hl, h0, h1⟩ := fl_read X (by omega) hx hn; obtain ⟨t, l, f, hr', hl', h0', h1'⟩ := fl_read X (by omega) hy hk; obtain ⟨r, h2, h3⟩ := sum_is hX hb hl hl' h0 (weak hX h1) h0' (weak hX h1'); refine ⟨double.write r, ?_, h3⟩
  show ((double.read x).sum (double.read y)).map double.write = _
  rw [hr, hr', h2]
  rfl
theorem fl_sub {x y : Nat} {n k : Int} (hx : Fl x n) (hy : Fl y k) (hn : n.natAbs ≤ 2 ^ 53) (hk : k.natAbs ≤ 2 ^ 53) (hb : (n - k).natAbs ≤ 2 ^ 53) : ∃ r, floatBits .sub .f64 x y = some r ∧ Fl r (n - k) := by
  obtain ⟨X, hX⟩ : ∃ X : Nat, X = 1100 := ⟨_, rfl⟩; obtain ⟨s, m, e, hr, hl, h0, h1⟩ := fl_read X (by omega) hx hn; obtain ⟨t, l, f, hr', hl', h0', h1'⟩ := fl_read X (by omega) hy hk; have h1n := weak hX h1'
  obtain ⟨r, h2, h3⟩ := sum_is (t := !t) (k := -k) hX (by rw [← Int.sub_eq_add_neg]; exact hb) hl hl' h0 (weak hX h1) ⟨fun h => by have := h0'.1 h; omega, fun h => h0'.2 (by omega)⟩ (fun hk0 => by
    obtain ⟨q1, q2, q3⟩ := h1n (by omega); refine ⟨q1, by rw [Int.natAbs_neg]; exact q2, ?_⟩
    rw [q3]; by_cases c : k < 0
    · simp [c]; omega
    · simp [c]; omega)
  rw [← Int.sub_eq_add_neg] at h3; refine ⟨double.write r, ?_, h3⟩
  show ((double.read x).sum (double.read y).opposite).map double.write = _
  rw [hr, hr']
  show ((Datum.number s m e).sum (Datum.number (!t) l f)).map double.write = _
  rw [h2]
  rfl
theorem fl_mul {x y : Nat} {n k : Int} (hx : Fl x n) (hy : Fl y k) (hn : n.natAbs ≤ 2 ^ 53) (hk : k.natAbs ≤ 2 ^ 53) (hb : (n * k).natAbs ≤ 2 ^ 53) : ∃ r, floatBits .mul .f64 x y = some r ∧ Fl r (n * k) := by
  obtain ⟨X, hX⟩ : ∃ X : Nat, X = 1100 := ⟨_, rfl⟩; obtain ⟨s, m, e, hr, hl, h0, h1⟩ := fl_read X (by omega) hx hn; obtain ⟨t, l, f, hr', hl', h0', h1'⟩ := fl_read X (by omega) hy hk; refine ⟨double.write (.number (s ^^ t) (m * l) (e + f)), ?_, ?_⟩
  · show ((double.read x).product (double.read y)).map double.write = _
    rw [hr, hr']
    rfl
  · refine fl_write (2 * X) hb ?_ fun hnk => ?_
    · rw [Nat.mul_eq_zero, Int.mul_eq_zero, h0, h0']
    · have hn0 : n ≠ 0 := fun h => hnk (by rw [h, Int.zero_mul])
      have hk0 : k ≠ 0 := fun h => hnk (by rw [h, Int.mul_zero])
      obtain ⟨p1, p2, p3⟩ := h1 hn0; obtain ⟨q1, q2, q3⟩ := h1' hk0; refine ⟨by omega, ?_, ?_⟩
      · have e1 : (e + f + ((2 * X : Nat) : Int)).toNat = (e + X).toNat + (f + X).toNat := by omega
        have e2 : 2 ^ (2 * X) = 2 ^ X * 2 ^ X := by rw [← Nat.pow_add]; congr 1; omega
        rw [e1, Nat.pow_add, Int.natAbs_mul, e2]
        calc m * l * (2 ^ (e + X).toNat * 2 ^ (f + X).toNat) = m * 2 ^ (e + X).toNat * (l * 2 ^ (f + X).toNat) := by simp only [Nat.mul_assoc, Nat.mul_left_comm]
          _ = n.natAbs * 2 ^ X * (k.natAbs * 2 ^ X) := by rw [p2, q2]
          _ = _ := by simp only [Nat.mul_assoc, Nat.mul_left_comm]
      · rw [p3, q3]; by_cases c : n < 0
        · by_cases d : k < 0
          · have : 0 < n * k := Int.mul_pos_of_neg_of_neg c d
            simp [c, d]; omega
          · have : n * k < 0 := Int.mul_neg_of_neg_of_pos c (by omega)
            simp [c, d, this]
        · by_cases d : k < 0
          · have : n * k < 0 := Int.mul_neg_of_pos_of_neg (by omega) d
            simp [c, d, this]
          · have : 0 < n * k := Int.mul_pos (by omega) (by omega)
            simp [c, d]; omega
theorem fl_int {x : Nat} {n : Int} (hx : Fl x n) (hn : n.natAbs ≤ 2 ^ 53) : floatToIntVal .f64 x .i64 = some n := by
  obtain ⟨X, hX⟩ : ∃ X : Nat, X = 1100 := ⟨_, rfl⟩; obtain ⟨s, m, e, hr, hl, h0, h1⟩ := fl_read X (by omega) hx hn
  have key : (FloatKind.f64.decode x).toInt .zero = some n := by
    show (double.read x).toInt .zero = some n
    rw [hr]
    show some (signed s (Toward.zero.cut s (m <<< e.toNat) (-e).toNat) 0) = some n
    congr 1
    by_cases hn0 : n = 0
    · have hm := h0.2 hn0; subst hm hn0; rw [Nat.zero_shiftLeft, cut_zero]; cases s <;> rfl
    · obtain ⟨p1, p2, p3⟩ := h1 hn0; have hN : n.natAbs ≠ 0 := by omega
      have hc : Toward.zero.cut s (m <<< e.toNat) (-e).toNat = n.natAbs := by
        obtain ⟨hle, hge⟩ := eq_of_scaled p2; by_cases c : e < 0
        · have := hle (by omega); have a1 : e.toNat = 0 := by omega
          have a2 : X - (e + X).toNat = (-e).toNat := by omega
          rw [a1, Nat.shiftLeft_zero, this, a2]; exact cut_exact _ _ _ _ hN
        · have := hge (by omega); have a1 : (e + X).toNat - X = e.toNat := by omega
          have a2 : (-e).toNat = 0 := by omega
          rw [a1] at this; rw [a2, Nat.shiftLeft_eq, this]; have := cut_exact .zero s n.natAbs 0 hN
          simpa using this
      rw [hc, p3]; unfold signed; rw [Nat.shiftLeft_zero]; by_cases c : n < 0
      · rw [if_pos (by simpa using c)]; omega
      · rw [if_neg (by simpa using c)]; omega
  unfold floatToIntVal; rw [key]; have b1 : IntKind.i64.min = -9223372036854775808 := by decide
  have b2 : IntKind.i64.max = 9223372036854775807 := by decide
  rw [b1, b2]; exact if_pos (by omega)
end Go.Proofs.YtcapgmoipacioaaW.FlW
