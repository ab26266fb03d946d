import Derived.Test.YtcapgmoipacioaaU3Ze
namespace Go.Proofs.Ytcapgmoipacioaa.P
open Go.RowKit Go.Proofs.YtcapgmoipacioaaW.PrintWords Go.Proofs.YtcapgmoipacioaaW.PrintLast Go.Proofs.YtcapgmoipacioaaW.PrintMore
set_option linter.unusedVariables false
set_option linter.unusedSimpArgs false
def Ris : List S106 → Prop
  | [] => True
  | [_] => True
  | b :: c :: t => b.f0 < c.f0 ∧ Ris (c :: t)
def BdB (b : S106) : Prop := 0 ≤ b.f0 ∧ b.f0 ≤ 100000000000 ∧ (0 ≤ b.f1 ∧ b.f1 ≤ 10000) ∧ 0 ≤ b.f2 ∧ b.f2 ≤ 10000
theorem ris_get : ∀ (l : List S106), Ris l → ∀ i : Nat, i + 1 < l.length → (l.getD i z106).f0 < (l.getD (i + 1) z106).f0
  | [], _, i, h => by simp at h
  | [_], _, i, h => by simp at h
  | b :: c :: t, hr, 0, h => hr.1
  | b :: c :: t, hr, i + 1, h => by
    have := ris_get (c :: t) hr.2 i (by simpa using h)
    simpa using this
theorem ris_of : ∀ (l : List S106), (∀ i : Nat, i + 1 < l.length → (l.getD i z106).f0 < (l.getD (i + 1) z106).f0) → Ris l
  | [], _ => trivial
  | [_], _ => trivial
  | b :: c :: t, h => ⟨h 0 (by simp), ris_of (c :: t) fun i hi => by
    have := h (i + 1) (by simpa using hi)
    simpa using this⟩
theorem Good.ris {l : List S106} (h : Good l) : Ris l := ris_of l fun i hi => by
  have := (h.bd (i := (i : Int) + 1) (by omega) (by omega)).2.2.2.1 (by omega)
  unfold rd_T106 at this
  rw [show ((i : Int) + 1 - 1).toNat = i by omega, show ((i : Int) + 1).toNat = i + 1 by omega] at this
  exact this
theorem Good.all {l : List S106} (h : Good l) : ∀ b ∈ l, BdB b := by
  intro b hb; obtain ⟨i, hi, rfl⟩ := List.getElem_of_mem hb; have := h.bd (i := (i : Int)) (by omega) (by omega); have e : rd_T106 l (i : Int) = l[i] := by unfold rd_T106; simp [List.getD_eq_getElem?_getD, hi]
  rw [e] at this; exact ⟨this.1, this.2.1, this.2.2.2.2.1, this.2.2.2.2.2⟩
theorem good_of {b : S106} {t : List S106} (hl : (b :: t).length ≤ 8) (h0 : b.f0 = 0) (hr : Ris (b :: t)) (ha : ∀ x ∈ b :: t, BdB x) : Good (b :: t) := by
  refine ⟨by simp, hl, fun i h1 h2 => ?_⟩
  have hi : i.toNat < (b :: t).length := by omega
  have e : rd_T106 (b :: t) i = (b :: t)[i.toNat] := by unfold rd_T106; rw [List.getD_eq_getElem?_getD, List.getElem?_eq_getElem hi]; rfl
  have B := ha _ (List.getElem_mem hi); rw [← e] at B; have r1 : rateOk (rd_T106 (b :: t) i).f1 = true := by unfold rateOk; exact decide_eq_true B.2.2.1
  have r2 : rateOk (rd_T106 (b :: t) i).f2 = true := by unfold rateOk; exact decide_eq_true B.2.2.2
  have hz : ¬ (i = 0 ∧ (rd_T106 (b :: t) i).f0 ≠ 0) := by
    rintro ⟨rfl, hn⟩; exact hn h0
  have hup : ¬ (0 < i ∧ (rd_T106 (b :: t) i).f0 ≤ (rd_T106 (b :: t) (i - 1)).f0) := by
    rintro ⟨hp, hle⟩; have := ris_get _ hr (i - 1).toNat (by omega); unfold rd_T106 at hle; rw [show i.toNat = (i - 1).toNat + 1 by omega] at hle
    omega
  unfold bcAt; rw [if_neg (by have := B.1; omega), if_neg (by have := B.2.1; omega), if_neg hz, if_neg hup, r1, r2]
  rfl
theorem good_cons {l : List S106} (h : Good l) : ∃ b t, l = b :: t ∧ b.f0 = 0 := by
  cases l with
  | nil => exact absurd h.pos (by simp)
  | cons b t => exact ⟨b, t, rfl, (h.bd (i := 0) (by omega) (by simp)).2.2.1 rfl⟩
theorem rd106_next (pre : List S106) (b c : S106) (t : List S106) : rd_T106 (pre ++ b :: c :: t) ((pre.length : Int) + 1) = c := by
  have := rd106_mid (pre ++ [b]) t c
  simpa using this
def scB (n d : Int) (b : S106) : S106 := ⟨Int.tdiv (b.f0 * n) d, b.f1, b.f2⟩
def keepS (n d : Int) : List S106 → List S106
  | [] => []
  | [b] => [scB n d b]
  | b :: c :: t => if Int.tdiv (c.f0 * n) d = Int.tdiv (b.f0 * n) d then keepS n d (c :: t) else scB n d b :: keepS n d (c :: t)
theorem sc_bd {n d x : Int} (h0 : 0 ≤ x) (h1 : x ≤ 100000000000) (hn : 0 ≤ n) (hd : 1 ≤ d) (hnd : n ≤ d) : 0 ≤ Int.tdiv (x * n) d ∧ Int.tdiv (x * n) d ≤ x := by
  have hm : 0 ≤ x * n := Int.mul_nonneg h0 hn; rw [Int.tdiv_eq_ediv_of_nonneg hm]; refine ⟨Int.ediv_nonneg hm (by omega), ?_⟩
  have : x * n ≤ x * d := Int.mul_le_mul_of_nonneg_left hnd h0
  calc x * n / d ≤ x * d / d := Int.ediv_le_ediv (by omega) this
    _ = x := Int.mul_ediv_cancel _ (by omega)
theorem sc_mono {n d x y : Int} (h0 : 0 ≤ x) (hxy : x ≤ y) (hn : 0 ≤ n) (hd : 1 ≤ d) : Int.tdiv (x * n) d ≤ Int.tdiv (y * n) d := by
  have hm : 0 ≤ x * n := Int.mul_nonneg h0 hn; have hy : 0 ≤ y * n := Int.mul_nonneg (by omega) hn; rw [Int.tdiv_eq_ediv_of_nonneg hm, Int.tdiv_eq_ediv_of_nonneg hy]; exact Int.ediv_le_ediv (by omega) (Int.mul_le_mul_of_nonneg_right hxy hn)
theorem sc_small {n d x : Int} (h0 : 0 ≤ x) (h1 : x ≤ 100000000000) (hn : 0 ≤ n) (hnd : n ≤ d) (hd2 : d ≤ 1048576) : 0 ≤ x * n ∧ x * n ≤ 104857600000000000 := by
  refine ⟨Int.mul_nonneg h0 hn, ?_⟩
  have a : x * n ≤ x * 1048576 := Int.mul_le_mul_of_nonneg_left (by omega) h0
  omega
theorem frac_Scale_is {n d x : Int} (h0 : 0 ≤ x) (h1 : x ≤ 100000000000) (hn : 0 ≤ n) (hd : 1 ≤ d) (hnd : n ≤ d) (hd2 : d ≤ 1048576) (k : Nat) (hk : 4 ≤ k) : frac_Scale.f k x n d = some (Int.tdiv (x * n) d, 0) := by
  obtain ⟨k, rfl⟩ : ∃ m, k = m + 1 := ⟨k - 1, by omega⟩; obtain ⟨a, b⟩ := sc_small h0 h1 hn hnd hd2; obtain ⟨p, q⟩ := sc_bd h0 h1 hn hd hnd; have hr : rightB x = true := rightB_iff.2 ⟨by omega, h1⟩; have hr2 : rightB (Int.tdiv (x * n) d) = true := rightB_iff.2 ⟨by omega, by omega⟩
  have hmod : ¬ Int.tmod (x * n) d < 0 := by
    have := Int.tmod_nonneg d a
    omega
  unfold frac_Scale.f; rw [money_Right_one x (k + 1) (by omega)]; simp only [Option.bind_some, hr, if_true, frac_Scale.j0]; rw [if_neg (by omega), if_neg (by omega), if_neg (by omega), decide_eq_false (by omega)]; simp only [Bool.false_eq_true, if_false, frac_floor.f]; rw [wrap_id (x := x * n) (by omega) (by omega), if_neg (by omega), if_neg hmod]; simp only [Option.bind_some]; rw [wrap_id (by omega) (by omega), money_Right_one _ k (by omega)]; simp only [Option.bind_some, hr2, if_true]
theorem scale_l0 {n d : Int} (hn : 0 ≤ n) (hd : 1 ≤ d) (hnd : n ≤ d) (hd2 : d ≤ 1048576) : ∀ (suf pre : List S106) (b : S106) (ys : List S106) (k : Nat), (∀ x ∈ suf, BdB x) → (pre ++ b :: suf).length ≤ 8 → ys.length ≤ pre.length → 2 * suf.length + 6 ≤ k →
    band_Scale.l0 k n d (ys ++ [scB n d b]) (pre ++ b :: suf) ((pre ++ b :: suf).length : Int) ((pre.length : Int) + 1) = some (ys ++ keepS n d (b :: suf), 0)
  | [], pre, b, ys, k, ha, hl, hy, hk => by
    obtain ⟨k, rfl⟩ : ∃ m, k = m + 1 := ⟨k - 1, by omega⟩
    simp only [band_Scale.l0, keepS]
    rw [if_neg (by simp)]
  | c :: t, pre, b, ys, k, ha, hl, hy, hk => by
    obtain ⟨k, rfl⟩ : ∃ m, k = m + 2 := ⟨k - 2, by omega⟩
    have hc := ha c List.mem_cons_self
    simp only [List.length_append, List.length_cons] at hl hk
    have ih1 := fun ys' (h : ys'.length ≤ pre.length + 1) => scale_l0 hn hd hnd hd2 t (pre ++ [b]) c ys' k (fun x hx => ha x (List.mem_cons_of_mem _ hx)) (by simp; omega) (by simpa using h) (by omega)
    have e1 : (pre ++ [b]) ++ c :: t = pre ++ b :: c :: t := by simp
    have e2 : (((pre ++ [b]).length : Nat) : Int) + 1 = (pre.length : Int) + 1 + 1 := by simp
    rw [e1, e2] at ih1
    have hlen : ((pre ++ b :: c :: t).length : Int) = (pre.length : Int) + t.length + 2 := by simp; omega
    have hal : ((ys ++ [scB n d b]).length : Int) = (ys.length : Int) + 1 := by simp
    have hat : rd_T106 (ys ++ [scB n d b]) (ys.length : Int) = scB n d b := rd106_mid ys [] (scB n d b)
    simp only [band_Scale.l0, band_Scale.j2]
    rw [rd106_next, frac_Scale_is hc.1 hc.2.1 hn hd hnd hd2 (k + 1) (by omega)]
    simp only [Option.bind_some, if_true]
    rw [if_pos (by omega), if_pos (by omega), if_pos (by omega), hal, if_pos (by omega), wrap_id (x := (ys.length : Int) + 1 - 1) (by omega) (by omega), show (ys.length : Int) + 1 - 1 = ys.length by omega, hat, if_pos (by omega), if_pos (by omega)]
    rw [wrap_id (x := (pre.length : Int) + 1 + 1) (by omega) (by omega)]
    by_cases c1 : Int.tdiv (c.f0 * n) d = Int.tdiv (b.f0 * n) d
    · have c2 : ((scB n d b).f0 == Int.tdiv (c.f0 * n) d) = true := beq_iff_eq.2 c1.symm
      rw [c2, if_pos rfl, if_pos (by omega), if_pos (by omega)]
      have ht : (ys ++ [scB n d b]).take ((ys.length : Int)).toNat = ys := by simp
      simp only [ht]
      rw [if_pos (by omega)]
      have := ih1 ys (by omega)
      rw [keepS, if_pos c1]
      exact this
    · have c2 : ((scB n d b).f0 == Int.tdiv (c.f0 * n) d) = false := beq_eq_false_iff_ne.2 fun h => c1 h.symm
      rw [c2, if_neg (by simp), if_pos (by simp; omega)]
      have := ih1 (ys ++ [scB n d b]) (by simp; omega)
      rw [keepS, if_neg c1]
      simpa [scB] using this
theorem band_Scale_is {n d : Int} {l : List S106} (h : Good l) (hn : 0 ≤ n) (hd : 1 ≤ d) (hnd : n ≤ d) (hd2 : d ≤ 1048576) (k : Nat) (hk : 26 ≤ k) : band_Scale.f k n d l = some (keepS n d l, 0) := by
  obtain ⟨k, rfl⟩ : ∃ m, k = m + 3 := ⟨k - 3, by omega⟩; have hl := h.len; have ha := h.all; obtain ⟨b, t, rfl, hb⟩ := good_cons h; have hB := ha b List.mem_cons_self; simp only [List.length_cons] at hl; unfold band_Scale.f; rw [band_Check_is, good_iff.2 h]; simp only [Option.bind_some, if_true]; rw [if_neg (by omega), if_neg (by omega), if_neg (by omega), decide_eq_false (by omega)]; have e0 : rd_T106 (b :: t) 0 = b := rfl; simp only [band_Scale.j0, Bool.false_eq_true, if_false, band_Scale.l0, band_Scale.j2]; rw [e0, frac_Scale_is hB.1 hB.2.1 hn hd hnd hd2 (k + 1) (by omega)]; simp only [Option.bind_some, if_true]; rw [if_pos (by simp), if_pos (by omega), if_pos (by simp), if_neg (by simp), if_pos (by simp)]; have hw1 : wrap64 1 = 1 := wrap_id (by omega) (by omega); have := scale_l0 hn hd hnd hd2 t [] b [] k (fun x hx => ha x (List.mem_cons_of_mem _ hx)) (by simpa using hl) (by simp) (by omega)
  simpa [scB, hw1] using this
theorem keepS_head (n d : Int) : ∀ (t : List S106) (b : S106), ∃ e r, keepS n d (b :: t) = e :: r ∧ e.f0 = Int.tdiv (b.f0 * n) d
  | [], b => ⟨_, _, rfl, rfl⟩
  | c :: t, b => by
    rw [keepS]
    by_cases h : Int.tdiv (c.f0 * n) d = Int.tdiv (b.f0 * n) d
    · rw [if_pos h]
      obtain ⟨e, r, h1, h2⟩ := keepS_head n d t c
      exact ⟨e, r, h1, by rw [h2, h]⟩
    · rw [if_neg h]
      exact ⟨_, _, rfl, rfl⟩
theorem keepS_mem (n d : Int) : ∀ (l : List S106), ∀ e ∈ keepS n d l, ∃ b ∈ l, e = scB n d b
  | [], e, h => by simp [keepS] at h
  | [b], e, h => ⟨b, List.mem_cons_self, by simpa [keepS] using h⟩
  | b :: c :: t, e, h => by
    rw [keepS] at h
    have ih := keepS_mem n d (c :: t)
    split at h
    · obtain ⟨x, hx, rfl⟩ := ih e h
      exact ⟨x, List.mem_cons_of_mem _ hx, rfl⟩
    · rcases List.mem_cons.1 h with rfl | h
      · exact ⟨b, List.mem_cons_self, rfl⟩
      · obtain ⟨x, hx, rfl⟩ := ih e h
        exact ⟨x, List.mem_cons_of_mem _ hx, rfl⟩
theorem keepS_len (n d : Int) : ∀ (l : List S106), (keepS n d l).length ≤ l.length
  | [] => by simp [keepS]
  | [b] => by simp [keepS]
  | b :: c :: t => by
    have ih := keepS_len n d (c :: t)
    rw [keepS]
    split
    · simp at *; omega
    · simp at *; omega
theorem keepS_ris {n d : Int} (hn : 0 ≤ n) (hd : 1 ≤ d) : ∀ (l : List S106), Ris l → (∀ b ∈ l, BdB b) → Ris (keepS n d l)
  | [], _, _ => trivial
  | [b], _, _ => trivial
  | b :: c :: t, hr, ha => by
    have ih := keepS_ris hn hd (c :: t) hr.2 (fun x hx => ha x (List.mem_cons_of_mem _ hx))
    rw [keepS]
    split
    · exact ih
    · rename_i hne
      obtain ⟨e, r, h1, h2⟩ := keepS_head n d t c
      rw [h1] at ih ⊢
      refine ⟨?_, ih⟩
      rw [h2]
      have := sc_mono (x := b.f0) (y := c.f0) (ha b List.mem_cons_self).1 (by have := hr.1; omega) hn hd
      show Int.tdiv (b.f0 * n) d < _
      omega
theorem keepS_good {n d : Int} {l : List S106} (h : Good l) (hn : 0 ≤ n) (hd : 1 ≤ d) (hnd : n ≤ d) : Good (keepS n d l) := by
  have hl := h.len; have ha := h.all; have hr := h.ris; obtain ⟨b, t, rfl, hb⟩ := good_cons h; have h1 := keepS_len n d (b :: t); have h2 := keepS_ris hn hd _ hr ha; have h3 := keepS_mem n d (b :: t); obtain ⟨e, r, he, hz⟩ := keepS_head n d t b; rw [he] at h1 h2 h3 ⊢; refine good_of (by omega) (by rw [hz, hb]; simp) h2 fun x hx => ?_
  obtain ⟨y, hy, rfl⟩ := h3 x hx; have B := ha y hy; obtain ⟨p, q⟩ := sc_bd B.1 B.2.1 hn hd hnd; exact ⟨p, by show Int.tdiv _ _ ≤ _; have := B.2.1; omega, B.2.2⟩
end Go.Proofs.Ytcapgmoipacioaa.P
