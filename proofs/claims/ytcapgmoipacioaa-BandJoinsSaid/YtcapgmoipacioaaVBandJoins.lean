/- BandJoins, the plain law: whatever bands and whatever amount, what the program's function computes is 'true'. Conditions: none. -/
import Derived.Test.YtcapgmoipacioaaU4
import Derived.Test.YtcapgmoipacioaaR1
import Derived.Test.YtcapgmoipacioaaPlBandJoins
namespace Go.Proofs.Ytcapgmoipacioaa.P
open Go.RowKit Go.Proofs.YtcapgmoipacioaaW.PrintWords Go.Proofs.YtcapgmoipacioaaW.PrintLast Go.Proofs.YtcapgmoipacioaaW.PrintMore
set_option linter.unusedVariables false
set_option linter.unusedSimpArgs false
theorem leo_up {α : Type} {f : Nat → Option α} (h : ∀ k, LeO (f k) (f (k + 1))) {a : Nat} {r : α} (ha : f a = some r) : ∀ n, f (a + n) = some r
  | 0 => ha
  | n + 1 => h (a + n) r (leo_up h ha n)
/-- Those that have the rates of the one ahead left out. -/
def joinT (a : S106) : List S106 → List S106
  | [] => []
  | c :: t => if a.f1 = c.f1 ∧ a.f2 = c.f2 then joinT a t else c :: joinT c t
def joinM : List S106 → List S106
  | [] => []
  | b :: t => b :: joinT b t
theorem joinT_len : ∀ (t : List S106) (a : S106), (joinT a t).length ≤ t.length
  | [], _ => Nat.le_refl _
  | c :: t, a => by
    rw [joinT]; split
    · exact Nat.le_succ_of_le (joinT_len t a)
    · exact Nat.succ_le_succ (joinT_len t c)
theorem joinT_mem : ∀ (t : List S106) (a : S106), ∀ x ∈ joinT a t, x ∈ t
  | [], _, _, h => by simp [joinT] at h
  | c :: t, a, x, h => by
    rw [joinT] at h; split at h
    · exact List.mem_cons_of_mem _ (joinT_mem t a x h)
    · rcases List.mem_cons.1 h with rfl | h
      · exact List.mem_cons_self
      · exact List.mem_cons_of_mem _ (joinT_mem t c x h)
theorem joinT_ris : ∀ (t : List S106) (a : S106), Ris (a :: t) → Ris (a :: joinT a t)
  | [], _, _ => trivial
  | c :: t, a, h => by
    have hc : Ris (c :: t) := h.2
    rw [joinT]; split
    · refine joinT_ris t a ?_
      cases t with
      | nil => trivial
      | cons d t => exact ⟨Int.lt_trans h.1 hc.1, hc.2⟩
    · exact ⟨h.1, joinT_ris t c hc⟩
theorem joinT_idem : ∀ (t : List S106) (a : S106), joinT a (joinT a t) = joinT a t
  | [], _ => rfl
  | c :: t, a => by
    rw [joinT]
    by_cases h : a.f1 = c.f1 ∧ a.f2 = c.f2
    · rw [if_pos h]; exact joinT_idem t a
    · rw [if_neg h, joinT, if_neg h, joinT_idem t c]
theorem join_good {l : List S106} (h : Good l) : Good (joinM l) := by
  have hl := h.len
  have ha := h.all
  have hr := h.ris
  obtain ⟨b, t, rfl, hb⟩ := good_cons h
  have h1 := joinT_len t b
  refine good_of (by simp at hl ⊢; omega) hb (joinT_ris t b hr) fun x hx => ?_
  rcases List.mem_cons.1 hx with rfl | hx
  · exact ha _ List.mem_cons_self
  · exact ha _ (List.mem_cons_of_mem _ (joinT_mem t b x hx))

/-! the program's Join -/
theorem join_l0 (suf : List S106) : ∀ (pre ys : List S106) (a : S106) (l : List S106) (k : Nat), l = pre ++ suf → l.length ≤ 8 → ys.length < pre.length → 2 * suf.length + 1 ≤ k →
    band_Join.l0 k (ys ++ [a]) l (l.length : Int) (pre.length : Int) = some (ys ++ a :: joinT a suf) := by
  induction suf with
  | nil =>
    intro pre ys a l k el hl hy hk
    obtain ⟨k, rfl⟩ : ∃ m, k = m + 1 := ⟨k - 1, by omega⟩
    subst el
    rw [band_Join.l0, if_neg (by simp)]
    rfl
  | cons c t IH =>
    intro pre ys a l k el hl hy hk
    simp only [List.length_cons] at hk
    obtain ⟨k, rfl⟩ : ∃ m, k = m + 2 := ⟨k - 2, by omega⟩
    have hle : l.length = pre.length + t.length + 1 := by rw [el]; simp; omega
    have hat : rd_T106 l (pre.length : Int) = c := by rw [el]; exact rd106_mid pre _ c
    have hw : wrap64 ((pre.length : Int) + 1) = (pre.length : Int) + 1 := wrap_id (by omega) (by omega)
    have e1 : l = (pre ++ [c]) ++ t := by rw [el]; simp
    have e2 : (((pre ++ [c]).length : Nat) : Int) = (pre.length : Int) + 1 := by simp
    have hal : ((ys ++ [a]).length : Int) = (ys.length : Int) + 1 := by simp
    have hla : rd_T106 (ys ++ [a]) (ys.length : Int) = a := rd106_mid ys [] a
    have hw2 : wrap64 ((ys.length : Int) + 1 - 1) = (ys.length : Int) := by rw [wrap_id (by omega) (by omega)]; omega
    have skip : joinT a (c :: t) = joinT a t → band_Join.j1 (k + 1) (ys ++ [a]) l (l.length : Int) (pre.length : Int) true c.f0 c.f1 c.f2 = some (ys ++ a :: joinT a (c :: t)) := by
      intro e
      rw [band_Join.j1, if_pos rfl, hw, ← e2, e]
      exact IH (pre ++ [c]) ys a l k e1 hl (by simp; omega) (by omega)
    have keep : joinT a (c :: t) = c :: joinT c t → band_Join.j1 (k + 1) (ys ++ [a]) l (l.length : Int) (pre.length : Int) false c.f0 c.f1 c.f2 = some (ys ++ a :: joinT a (c :: t)) := by
      intro e
      rw [band_Join.j1, if_neg (by simp), if_pos (by simp; omega), hw, ← e2, e]
      have := IH (pre ++ [c]) (ys ++ [a]) c l k e1 hl (by simp; omega) (by omega)
      rw [show ys ++ a :: c :: joinT c t = (ys ++ [a]) ++ c :: joinT c t by simp]
      exact this
    rw [band_Join.l0, hat, hal, hw2, hla, if_pos (by omega), if_pos (by omega), if_pos (by omega), if_pos (by omega), if_pos (by omega), if_pos (by omega)]
    by_cases c1 : a.f1 = c.f1
    · rw [if_pos c1]
      by_cases c2 : a.f2 = c.f2
      · rw [beq_iff_eq.2 c2]; exact skip (by rw [joinT, if_pos ⟨c1, c2⟩])
      · rw [beq_eq_false_iff_ne.2 c2]; exact keep (by rw [joinT, if_neg (fun h => c2 h.2)])
    · rw [if_neg c1]; exact keep (by rw [joinT, if_neg (fun h => c1 h.1)])
theorem band_Join_is {l : List S106} (h : Good l) (k : Nat) (hk : 20 ≤ k) : band_Join.f k l = some (joinM l) := by
  obtain ⟨k, rfl⟩ : ∃ m, k = m + 2 := ⟨k - 2, by omega⟩
  have hl := h.len
  obtain ⟨b, t, rfl, hb⟩ := good_cons h
  have := join_l0 t [b] [] b (b :: t) k rfl hl (by simp) (by simp at hl; omega)
  have e0 : rd_T106 (b :: t) 0 = b := rfl
  have hw : wrap64 (0 + 1) = 1 := wrap_id (by omega) (by omega)
  unfold band_Join.f
  rw [band_Join.l0, e0, if_pos (by simp), if_pos (by omega), if_pos (by simp), if_neg (by simp), band_Join.j1, if_neg (by simp), if_pos (by simp), hw]
  exact this

/-! two lists are one -/
theorem equal_l0 (l : List S106) (hl : l.length ≤ 8) : ∀ (n : Nat) (i : Int) (k : Nat), 0 ≤ i → i + n = (l.length : Int) → n + 1 ≤ k → api_Band.l0 k l l (l.length : Int) i = some true
  | 0, i, k, h0, hn, hk => by
    obtain ⟨k, rfl⟩ : ∃ m, k = m + 1 := ⟨k - 1, by omega⟩
    rw [api_Band.l0, if_neg (by omega)]
  | n + 1, i, k, h0, hn, hk => by
    obtain ⟨k, rfl⟩ : ∃ m, k = m + 1 := ⟨k - 1, by omega⟩
    rw [api_Band.l0, if_pos (by omega), if_pos (by omega), if_pos (by omega), if_pos (by omega), if_neg (by simp), wrap_id (by omega) (by omega)]
    exact equal_l0 l hl n (i + 1) k (by omega) (by omega) (by omega)
theorem same_is {l : List S106} (h : Good l) (k : Nat) (hk : 20 ≤ k) : band_Same.f k l (joinM l) = some true := by
  have hj := join_good h
  have hl := hj.len
  have e : joinM (joinM l) = joinM l := by
    cases l with
    | nil => rfl
    | cons b t => show b :: joinT b (joinT b t) = _; rw [joinT_idem]; rfl
  unfold band_Same.f
  rw [band_Join_is h k hk, Option.bind_some, band_Join_is hj k hk, e, Option.bind_some, api_Band.f, if_pos rfl, equal_l0 _ hl (joinM l).length 0 k (by omega) (by omega) (by omega), Option.bind_some]

/-! the greatest rate -/
def topL : Int → List S106 → Int
  | acc, [] => acc
  | acc, c :: t => topL (mx acc c.f1) t
theorem topFrom_L (suf : List S106) : ∀ (pre l : List S106) (acc : Int), l = pre ++ suf → topFrom l suf.length (pre.length : Int) acc = topL acc suf := by
  induction suf with
  | nil => intro pre l acc el; rfl
  | cons c t IH =>
    intro pre l acc el
    have hat : rd_T106 l (pre.length : Int) = c := by rw [el]; exact rd106_mid pre _ c
    have := IH (pre ++ [c]) l (mx acc c.f1) (by rw [el]; simp)
    rw [show (((pre ++ [c]).length : Nat) : Int) = (pre.length : Int) + 1 by simp] at this
    rw [List.length_cons, topFrom, hat, this]
    rfl
theorem top_join : ∀ (t : List S106) (a : S106) (acc : Int), a.f1 ≤ acc → topL acc (joinT a t) = topL acc t
  | [], _, _, _ => rfl
  | c :: t, a, acc, h => by
    rw [joinT]
    by_cases e : a.f1 = c.f1 ∧ a.f2 = c.f2
    · rw [if_pos e, top_join t a acc h]
      have : mx acc c.f1 = acc := by unfold mx; split <;> omega
      rw [topL, this]
    · rw [if_neg e, topL, topL]
      exact top_join t c _ (by unfold mx; split <;> omega)
theorem topM_join {l : List S106} : topM (joinM l) = topM l := by
  unfold topM
  have a := topFrom_L (joinM l) [] (joinM l) 0 rfl
  have b := topFrom_L l [] l 0 rfl
  simp only [List.length_nil, Int.natCast_zero] at a b
  rw [a, b]
  cases l with
  | nil => rfl
  | cons c t =>
    show topL (mx 0 c.f1) (joinT c t) = topL (mx 0 c.f1) t
    exact top_join t c _ (by unfold mx; split <;> omega)

/-! what an amount comes to -/
def rfL (g : S106 → Int) (x : Int) : Int → List S106 → Int
  | _, [] => 0
  | last, c :: t => (if x > c.f0 then (x - c.f0) * (g c - last) else 0) + rfL g x (g c) t
theorem rfT_L (g : S106 → Int) (x : Int) (suf : List S106) : ∀ (pre l : List S106) (last : Int), l = pre ++ suf → rfT g x l suf.length (pre.length : Int) last = rfL g x last suf := by
  induction suf with
  | nil => intro pre l last el; rfl
  | cons c t IH =>
    intro pre l last el
    have hat : rd_T106 l (pre.length : Int) = c := by rw [el]; exact rd106_mid pre _ c
    have := IH (pre ++ [c]) l (g c) (by rw [el]; simp)
    rw [show (((pre ++ [c]).length : Nat) : Int) = (pre.length : Int) + 1 by simp] at this
    rw [List.length_cons, rfT, hat, this]
    rfl
theorem rf_join {g : S106 → Int} {x : Int} (hg : ∀ a c : S106, a.f1 = c.f1 ∧ a.f2 = c.f2 → g a = g c) : ∀ (t : List S106) (a : S106), rfL g x (g a) (joinT a t) = rfL g x (g a) t
  | [], _ => rfl
  | c :: t, a => by
    rw [joinT]
    by_cases e : a.f1 = c.f1 ∧ a.f2 = c.f2
    · have eg := hg a c e
      rw [if_pos e, rf_join hg t a, rfL, eg]
      simp
    · rw [if_neg e, rfL, rfL, rf_join hg t c]
theorem ex_join {g : S106 → Int} {x : Int} (hg : ∀ a c : S106, a.f1 = c.f1 ∧ a.f2 = c.f2 → g a = g c) {l : List S106} (h : Good l) : exFrom g x (joinM l) (joinM l).length 0 0 = exFrom g x l l.length 0 0 := by
  rw [← rfT_all h, ← rfT_all (join_good h)]
  have a := rfT_L g x (joinM l) [] (joinM l) 0 rfl
  have b := rfT_L g x l [] l 0 rfl
  simp only [List.length_nil, Int.natCast_zero] at a b
  rw [a, b]
  cases l with
  | nil => rfl
  | cons c t =>
    show _ + rfL g x (g c) (joinT c t) = _ + rfL g x (g c) t
    rw [rf_join hg]

/-! the beginnings -/
theorem corners_l0 (suf : List S106) : ∀ (pre l : List S106) (ys : List Int) (k : Nat), l = pre ++ suf → l.length ≤ 8 → 0 < pre.length → ys.length ≤ 8 - suf.length → suf.length + 1 ≤ k →
    band_Corners.l0 k ys l (l.length : Int) (pre.length : Int) = some (ys ++ suf.map S106.f0) := by
  induction suf with
  | nil =>
    intro pre l ys k el hl hp hy hk
    obtain ⟨k, rfl⟩ : ∃ m, k = m + 1 := ⟨k - 1, by omega⟩
    subst el
    rw [band_Corners.l0, if_neg (by simp)]
    simp
  | cons c t IH =>
    intro pre l ys k el hl hp hy hk
    simp only [List.length_cons] at hk hy
    obtain ⟨k, rfl⟩ : ∃ m, k = m + 1 := ⟨k - 1, by omega⟩
    have hle : l.length = pre.length + t.length + 1 := by rw [el]; simp; omega
    have hat : rd_T106 l (pre.length : Int) = c := by rw [el]; exact rd106_mid pre _ c
    have hw : wrap64 ((pre.length : Int) + 1) = (pre.length : Int) + 1 := wrap_id (by omega) (by omega)
    have := IH (pre ++ [c]) l (ys ++ [c.f0]) k (by rw [el]; simp) hl (by simp) (by simp; omega) (by omega)
    rw [show (((pre ++ [c]).length : Nat) : Int) = (pre.length : Int) + 1 by simp] at this
    rw [band_Corners.l0, hat, if_pos (by omega), if_pos (by omega), if_pos (by omega), if_pos (by omega), if_pos (by omega), hw, this]
    simp
theorem corners_is {b : S106} {t : List S106} (hl : (b :: t).length ≤ 8) (k : Nat) (hk : 10 ≤ k) : band_Corners.f k (b :: t) = some (t.map S106.f0) := by
  obtain ⟨k, rfl⟩ : ∃ m, k = m + 1 := ⟨k - 1, by omega⟩
  have := corners_l0 t [b] (b :: t) [] k rfl hl (by simp) (by simp) (by simp at hl; omega)
  have hw : wrap64 (0 + 1) = 1 := wrap_id (by omega) (by omega)
  unfold band_Corners.f
  rw [band_Corners.l0, if_pos (by simp), if_pos (by omega), if_pos (by simp), if_neg (by omega), hw]
  exact this

/-! none is like the one ahead -/
def NoTwin : List S106 → Prop
  | [] => True
  | [_] => True
  | b :: c :: t => ¬ (b.f1 = c.f1 ∧ b.f2 = c.f2) ∧ NoTwin (c :: t)
theorem join_notwin : ∀ (t : List S106) (a : S106), NoTwin (a :: joinT a t)
  | [], _ => trivial
  | c :: t, a => by
    rw [joinT]
    by_cases e : a.f1 = c.f1 ∧ a.f2 = c.f2
    · rw [if_pos e]; exact join_notwin t a
    · rw [if_neg e]; exact ⟨e, join_notwin t c⟩
theorem BandJoins_l0 (l : List S106) (x : Int) (j : List S106) (hj : j.length ≤ 8) (F : Nat) (hend : ∀ i : Int, ¬ i < (j.length : Int) → ∀ k, F ≤ k → stipendlaw05_BandJoins.l0 k l x j i = some true) (suf : List S106) :
    ∀ (pre : List S106) (p : S106) (k : Nat), j = pre ++ p :: suf → NoTwin (p :: suf) → F + 2 * suf.length ≤ k → stipendlaw05_BandJoins.l0 k l x j ((pre.length : Int) + 1) = some true := by
  induction suf with
  | nil =>
    intro pre p k ej hn hk
    exact hend _ (by rw [ej]; simp) k (by simpa using hk)
  | cons c t IH =>
    intro pre p k ej hn hk
    simp only [List.length_cons] at hk
    obtain ⟨k, rfl⟩ : ∃ m, k = m + 2 := ⟨k - 2, by omega⟩
    have hle : j.length = pre.length + t.length + 2 := by rw [ej]; simp; omega
    have h1 : rd_T106 j ((pre.length : Int) + 1) = c := by rw [ej]; exact rd106_next pre p c t
    have h2 : rd_T106 j (pre.length : Int) = p := by rw [ej]; exact rd106_mid pre _ p
    have hw : wrap64 ((pre.length : Int) + 1 - 1) = (pre.length : Int) := by rw [wrap_id (by omega) (by omega)]; omega
    have hw2 : wrap64 ((pre.length : Int) + 1 + 1) = (pre.length : Int) + 1 + 1 := wrap_id (by omega) (by omega)
    have ih := IH (pre ++ [p]) c k (by rw [ej]; simp) hn.2 (by omega)
    rw [show (((pre ++ [p]).length : Nat) : Int) = (pre.length : Int) + 1 by simp] at ih
    have hj3 : stipendlaw05_BandJoins.j3 (k + 1) l x j ((pre.length : Int) + 1) false = some true := by
      rw [stipendlaw05_BandJoins.j3, if_neg (by simp), hw2]; exact ih
    rw [stipendlaw05_BandJoins.l0, if_pos (by omega), if_pos (by omega), hw, if_pos (by omega), if_pos (by omega), h1, h2]
    by_cases c1 : c.f1 = p.f1
    · have c2 : ¬ c.f2 = p.f2 := fun h => hn.1 ⟨c1.symm, h.symm⟩
      rw [if_pos c1, beq_eq_false_iff_ne.2 c2]; exact hj3
    · rw [if_neg c1]; exact hj3
theorem BandJoins_l1 (l : List S106) (x : Int) (j : List S106) (b : S106) (t : List S106) (el : l = b :: t) (hl : l.length ≤ 8) (F : Nat) (suf : List S106)
    (hend : ∀ k, F ≤ k → stipendlaw05_BandJoins.l1 k l x j (t.map S106.f0) t (t.length : Int) (t.length : Int) = some true) :
    ∀ (pre : List S106) (k : Nat), t = pre ++ suf → F + 2 * suf.length ≤ k → stipendlaw05_BandJoins.l1 k l x j (t.map S106.f0) t (t.length : Int) (pre.length : Int) = some true := by
  induction suf with
  | nil =>
    intro pre k et hk
    have : (pre.length : Int) = (t.length : Int) := by rw [et]; simp
    rw [this]
    exact hend k (by simpa using hk)
  | cons c u IH =>
    intro pre k et hk
    simp only [List.length_cons] at hk
    obtain ⟨k, rfl⟩ : ∃ m, k = m + 2 := ⟨k - 2, by omega⟩
    have hle : t.length = pre.length + u.length + 1 := by rw [et]; simp; omega
    have hll : l.length = t.length + 1 := by rw [el]; simp
    have h1 : rd_T106 t (pre.length : Int) = c := by rw [et]; exact rd106_mid pre _ c
    have h2 : rd (t.map S106.f0) (pre.length : Int) = c.f0 := by
      rw [et, List.map_append, List.map_cons, show (pre.length : Int) = ((pre.map S106.f0).length : Int) by simp]
      exact rd_mid _ _ _
    have hw : wrap64 ((l.length : Int) - 1) = (t.length : Int) := by rw [wrap_id (by omega) (by omega)]; omega
    have hw2 : wrap64 ((pre.length : Int) + 1) = (pre.length : Int) + 1 := wrap_id (by omega) (by omega)
    have ih := IH (pre ++ [c]) k (by rw [et]; simp) (by omega)
    rw [show (((pre ++ [c]).length : Nat) : Int) = (pre.length : Int) + 1 by simp] at ih
    rw [stipendlaw05_BandJoins.l1, if_pos (by omega), if_pos (by omega), if_pos (by omega), hw, if_pos (by simp), if_pos (by simp; omega), h1, h2, bne_self_eq_false, stipendlaw05_BandJoins.j5, if_neg (by simp), hw2]
    exact ih
theorem BandJoins_pure (l : List S106) (x : Int) (_ : ∀ a ∈ l, W106 a) (_ : (Lit.int .i64 x).wf = true) : ∃ k, stipendlaw05_BandJoins.f k l x = some true := by
  refine ⟨120, ?_⟩
  have hsum : stipendlaw05_sums.f 120 = some true := leo_up (f := stipendlaw05_sums.f) (fun k => stipendlaw05_sums.mono k) sums_is 60
  unfold stipendlaw05_BandJoins.f
  rw [hsum, Option.bind_some, if_pos rfl, ref_Check_is l 120 (by omega), Option.bind_some]
  by_cases hc : bandCheck l = 0
  · have hg := good_iff.1 hc
    rw [if_pos hc]
    by_cases h1 : x > 100000000000
    · rw [if_pos h1]; rfl
    rw [if_neg h1]
    by_cases h2 : x < -100000000000
    · rw [decide_eq_true h2]; rfl
    rw [decide_eq_false h2]
    have hx : rightB x = true := rightB_iff.2 ⟨by omega, by omega⟩
    have hj := join_good hg
    have hl := hg.len
    have hjl := hj.len
    have hjp := hj.pos
    have hle : (joinM l).length ≤ l.length := by
      cases l with
      | nil => simp [joinM]
      | cons b t => have := joinT_len t b; show (joinT b t).length + 1 ≤ t.length + 1; omega
    rw [stipendlaw05_BandJoins.j0, if_neg (by simp), band_Join_is hg _ (by omega), Option.bind_some, same_is hg _ (by omega), Option.bind_some, if_pos rfl, if_neg (by omega), if_neg (by omega), band_Top_is _ (by omega) _ (by omega), Option.bind_some, band_Top_is _ (by omega) _ (by omega), Option.bind_some, topM_join, bne_self_eq_false, stipendlaw05_BandJoins.j1, if_neg (by simp)]
    have e1 := ex_join (g := S106.f1) (x := x) (fun a c h => h.1) hg
    have e2 := ex_join (g := S106.f2) (x := x) (fun a c h => h.2) hg
    have hp1 : pickG false = S106.f1 := rfl
    have hp2 : pickG true = S106.f2 := rfl
    obtain ⟨b, t, rfl, hb⟩ := good_cons hg
    have hend1 : ∀ k, 40 ≤ k → stipendlaw05_BandJoins.l1 k (b :: t) x (joinM (b :: t)) (t.map S106.f0) t (t.length : Int) (t.length : Int) = some true := by
      intro k hk
      obtain ⟨k, rfl⟩ : ∃ m, k = m + 1 := ⟨k - 1, by omega⟩
      rw [stipendlaw05_BandJoins.l1, if_neg (by omega), ref_Exact_is hj hx false k (by omega), Option.bind_some, ref_Exact_is hg hx false k (by omega), Option.bind_some, hp1, if_pos e1, ref_Exact_is hj hx true k (by omega), Option.bind_some, ref_Exact_is hg hx true k (by omega), Option.bind_some, hp2, e2]
      simp
    have hend0 : ∀ i : Int, ¬ i < ((joinM (b :: t)).length : Int) → ∀ k, 80 ≤ k → stipendlaw05_BandJoins.l0 k (b :: t) x (joinM (b :: t)) i = some true := by
      intro i hi k hk
      obtain ⟨k, rfl⟩ : ∃ m, k = m + 1 := ⟨k - 1, by omega⟩
      rw [stipendlaw05_BandJoins.l0, if_neg hi, corners_is hl k (by omega), Option.bind_some, if_pos (by simp; omega), Option.bind_some]
      exact BandJoins_l1 (b :: t) x _ b t rfl hl 40 t hend1 [] k rfl (by simp at hl; omega)
    have hlt := joinT_len t b
    exact BandJoins_l0 (b :: t) x (joinM (b :: t)) hjl 80 hend0 (joinT b t) [] b 118 rfl (join_notwin t b) (by simp at hl; omega)
  · rw [if_neg hc]; rfl
end Go.Proofs.Ytcapgmoipacioaa.P
