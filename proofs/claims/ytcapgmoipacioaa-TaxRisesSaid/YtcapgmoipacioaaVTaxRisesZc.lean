import Derived.Test.YtcapgmoipacioaaU11Zc
import Derived.Test.YtcapgmoipacioaaR1Zc
import Derived.Test.YtcapgmoipacioaaPlTaxRisesZc
namespace Go.Proofs.Ytcapgmoipacioaa.P
open Go.RowKit Go.Proofs.YtcapgmoipacioaaW.PrintWords Go.Proofs.YtcapgmoipacioaaW.PrintLast Go.Proofs.YtcapgmoipacioaaW.PrintMore
set_option linter.unusedVariables false
set_option linter.unusedSimpArgs false
def rtL (y : Int) : List S106 → Int
  | [] => 0
  | [b] => if b.f0 ≤ y then b.f1 else 0
  | b :: c :: t => if c.f0 ≤ y then rtL y (c :: t) else if b.f0 ≤ y then b.f1 else 0
theorem rtL_low {y : Int} : ∀ (l : List S106), Ris l → (∀ b, l.head? = some b → y < b.f0) → rtL y l = 0
  | [], _, _ => rfl
  | [b], _, h => by rw [rtL, if_neg (by have := h b rfl; omega)]
  | b :: c :: t, hr, h => by
    have h1 := h b rfl
    have h2 := hr.1
    rw [rtL, if_neg (by omega), if_neg (by omega)]
theorem mx_step {a r : Int} : mx 0 (a + 1) * r = mx 0 a * r + (if 0 ≤ a then r else 0) := by
  by_cases h : 0 ≤ a
  · have e1 : mx 0 (a + 1) = mx 0 a + 1 := by unfold mx; repeat' split; all_goals omega
    rw [if_pos h, e1, Int.add_mul, Int.one_mul]
  · have e1 : mx 0 (a + 1) = mx 0 a := by unfold mx; repeat' split; all_goals omega
    rw [if_neg h, e1, Int.add_zero]
theorem wL_step {y : Int} : ∀ (l : List S106), Ris l → wL (y + 1) l = wL y l + rtL y l
  | [], _ => rfl
  | [b], _ => by
    rw [wL, wL, rtL, show y + 1 - b.f0 = (y - b.f0) + 1 by omega, mx_step]
    by_cases h : b.f0 ≤ y
    · rw [if_pos h, if_pos (by omega)]
    · rw [if_neg h, if_neg (by omega)]
  | b :: c :: t, hr => by
    have ih := wL_step (y := y) (c :: t) hr.2
    rw [wL, wL, ih, rtL]
    by_cases h : c.f0 ≤ y
    · rw [if_pos h, show mn (y + 1) c.f0 = mn y c.f0 by unfold mn; repeat' split; all_goals omega]
      omega
    · have e1 : mn (y + 1) c.f0 = y + 1 := by unfold mn; split <;> omega
      have e2 : mn y c.f0 = y := by unfold mn; split <;> omega
      have e3 := rtL_low (y := y) (c :: t) hr.2 (fun x hx => by simp at hx; subst hx; omega)
      rw [if_neg h, e1, e2, e3, show y + 1 - b.f0 = (y - b.f0) + 1 by omega, mx_step]
      by_cases h2 : b.f0 ≤ y
      · rw [if_pos h2, if_pos (by omega)]; omega
      · rw [if_neg h2, if_neg (by omega)]; omega
theorem rtL_bd {y B : Int} (hB : 0 ≤ B) : ∀ (l : List S106), (∀ b ∈ l, 0 ≤ b.f1 ∧ b.f1 ≤ B) → 0 ≤ rtL y l ∧ rtL y l ≤ B
  | [], _ => by rw [rtL]; omega
  | [b], h => by have := h b List.mem_cons_self; rw [rtL]; split <;> omega
  | b :: c :: t, h => by
    have := h b List.mem_cons_self
    have ih := rtL_bd (y := y) hB (c :: t) fun x hx => h x (List.mem_cons_of_mem _ hx)
    rw [rtL]
    repeat' split
    all_goals omega
theorem rtL_same {y : Int} : ∀ (l : List S106), rtL y l = rtL (y - 1) l ∨ ∃ b ∈ l, b.f0 = y
  | [] => .inl rfl
  | [b] => by
    by_cases h : b.f0 = y
    · exact .inr ⟨b, List.mem_cons_self, h⟩
    · left
      rw [rtL, rtL]
      by_cases h2 : b.f0 ≤ y
      · rw [if_pos h2, if_pos (by omega)]
      · rw [if_neg h2, if_neg (by omega)]
  | b :: c :: t => by
    by_cases hb : b.f0 = y
    · exact .inr ⟨b, List.mem_cons_self, hb⟩
    by_cases hc : c.f0 = y
    · exact .inr ⟨c, List.mem_cons_of_mem _ List.mem_cons_self, hc⟩
    rcases rtL_same (y := y) (c :: t) with ih | ⟨x, hx, he⟩
    · left
      have q1 : ∀ z : Int, rtL z (b :: c :: t) = if c.f0 ≤ z then rtL z (c :: t) else if b.f0 ≤ z then b.f1 else 0 := fun z => by rw [rtL]
      rw [q1, q1, ih]
      by_cases h1 : c.f0 ≤ y
      · rw [if_pos h1, if_pos (show c.f0 ≤ y - 1 by omega)]
      · rw [if_neg h1, if_neg (show ¬ c.f0 ≤ y - 1 by omega)]
        by_cases h2 : b.f0 ≤ y
        · rw [if_pos h2, if_pos (show b.f0 ≤ y - 1 by omega)]
        · rw [if_neg h2, if_neg (show ¬ b.f0 ≤ y - 1 by omega)]
    · exact .inr ⟨x, List.mem_cons_of_mem _ hx, he⟩
def rateM (L : List (List S106)) (s kd am fl x n d : Int) : Int :=
  if kd = 4 then 0 else if x < freeX kd am n d then 0 else if kd = 3 then (rd_T106 (rd_L3 L s) fl).f1 else rtL (x - freeX kd am n d) (keepS n d (rd_L3 L s))
theorem charge_is {s kd am fl x n d : Int} (hc : codeM s kd am fl = 0) (hp : partOk n d = true) (hx : -60000000000 ≤ x ∧ x ≤ 60000000000) : chargeM s kd am fl x n d = (if kd = 4 then 0 else mx 0 (x - freeX kd am n d), 0) := by
  have hb := codeM_zero hc
  have fb := free_bd (kd := kd) hb.2.2.1.1 hb.2.2.1.2 hp
  have fm : freeM s kd am fl n d = (freeX kd am n d, 0) := by unfold freeM; rw [if_pos hc, if_pos hp]
  unfold chargeM subM checkM
  rw [fm]
  have r1 : rightB x = true := rightB_iff.2 ⟨by omega, by omega⟩
  have r2 : rightB (freeX kd am n d) = true := rightB_iff.2 ⟨by omega, by omega⟩
  have r3 : rightB (x - freeX kd am n d) = true := rightB_iff.2 ⟨by omega, by omega⟩
  rw [r1, r2, r3]
  by_cases h4 : kd = 4
  · simp only [if_pos h4, if_true]
  · simp only [if_neg h4, if_true, Bool.and_self]
theorem tax_step {L : List (List S106)} {l1 : List S120} {a3 a4 : Int} (ht : TblOk L l1 a3 a4) {s kd am fl x n d : Int} (hf : fitsM L s kd am fl = 0) (hp : partOk n d = true) (hx : -50000000001 ≤ x ∧ x ≤ 50000000001) :
    (taxM L s kd am fl x n d).2 = 0 ∧ (taxM L s kd am fl (x + 1) n d).2 = 0 ∧ (taxM L s kd am fl (x + 1) n d).1 - (taxM L s kd am fl x n d).1 = rateM L s kd am fl x n d := by
  obtain ⟨f1, f2, f3⟩ := fitsM_zero hf
  have hb := codeM_zero f1
  have c1 := charge_is (s := s) (kd := kd) (am := am) (fl := fl) (x := x) (n := n) (d := d) f1 hp (by omega)
  have c2 := charge_is (s := s) (kd := kd) (am := am) (fl := fl) (x := x + 1) (n := n) (d := d) f1 hp (by omega)
  have z1 : (chargeM s kd am fl x n d).2 = 0 := by rw [c1]
  have z2 : (chargeM s kd am fl (x + 1) n d).2 = 0 := by rw [c2]
  refine ⟨taxM_ok hf z1, taxM_ok hf z2, ?_⟩
  have hg := ht.good s hb.1.1 f2
  obtain ⟨p1, p2, p3, p4⟩ := partOk_iff.1 hp
  unfold taxM rateM
  rw [if_pos hf, if_pos hf, if_pos z1, if_pos z2, c1, c2]
  by_cases h4 : kd = 4
  · simp only [if_pos h4]; rfl
  simp only [if_neg h4]
  by_cases h3 : kd = 3
  · simp only [if_pos h3]
    have := mx_step (a := x - freeX kd am n d) (r := (rd_T106 (rd_L3 L s) fl).f1)
    rw [show x + 1 - freeX kd am n d = (x - freeX kd am n d) + 1 by omega, this]
    by_cases hl : x < freeX kd am n d
    · rw [if_neg (by omega), if_pos hl]; omega
    · rw [if_pos (by omega), if_neg hl]; omega
  · simp only [if_neg h3]
    rw [← wL_keep, ← wL_keep]
    by_cases hl : x < freeX kd am n d
    · rw [if_pos hl, show mx 0 (x + 1 - freeX kd am n d) = 0 by unfold mx; split <;> omega, show mx 0 (x - freeX kd am n d) = 0 by unfold mx; split <;> omega]
      omega
    · rw [if_neg hl, show mx 0 (x + 1 - freeX kd am n d) = (x - freeX kd am n d) + 1 by unfold mx; split <;> omega, show mx 0 (x - freeX kd am n d) = x - freeX kd am n d by unfold mx; split <;> omega]
      rw [wL_step _ (keepS_good hg p1 p2 p3).ris]
      omega
theorem tax_Rate_is {L : List (List S106)} {l1 : List S120} {l2 : List S209} {a3 a4 : Int} (ht : TblOk L l1 a3 a4) (k : Nat) (hk : 30 ≤ k) {s kd am fl x n d : Int} (al : Bool) (hf : fitsM L s kd am fl = 0) (hp : partOk n d = true) (hx : -50000000001 ≤ x ∧ x ≤ 50000000001) :
    tax_Rate.f k L l1 l2 a3 a4 s kd am fl al x n d = some (rateM L s kd am fl x n d, 0) := by
  obtain ⟨s1, s2, s3⟩ := tax_step ht hf hp hx
  have b1 := taxM_bd ht s kd am fl x n d
  have b2 := taxM_bd ht s kd am fl (x + 1) n d
  unfold tax_Rate.f
  rw [tax_Exact_is ht k hk, wrap_id (x := x + 1) (by omega) (by omega)]
  simp only [Option.bind_some, if_pos s1]
  rw [tax_Exact_is ht k hk]
  simp only [Option.bind_some, if_pos s2]
  rw [wrap_id (by omega) (by omega), s3]
theorem keepS_rate {n d B : Int} {l : List S106} (h : ∀ b ∈ l, 0 ≤ b.f1 ∧ b.f1 ≤ B) : ∀ e ∈ keepS n d l, 0 ≤ e.f1 ∧ e.f1 ≤ B := fun e he => by
  obtain ⟨b, hb, rfl⟩ := keepS_mem n d l e he
  exact h b hb
theorem rd106_mem {l : List S106} {b : S106} (h : b ∈ l) : ∃ i : Int, 0 ≤ i ∧ i < (l.length : Int) ∧ rd_T106 l i = b := by
  obtain ⟨i, hi, rfl⟩ := List.getElem_of_mem h
  refine ⟨(i : Int), by omega, by omega, ?_⟩
  unfold rd_T106
  rw [Int.toNat_natCast]
  simp [List.getD_eq_getElem?_getD, hi]
theorem rate_bd {L : List (List S106)} {l1 : List S120} {a3 a4 : Int} (ht : TblOk L l1 a3 a4) {s kd am fl x n d : Int} (hf : fitsM L s kd am fl = 0) (hp : partOk n d = true) : 0 ≤ rateM L s kd am fl x n d ∧ rateM L s kd am fl x n d ≤ topM (rd_L3 L s) := by
  obtain ⟨f1, f2, f3⟩ := fitsM_zero hf
  have hb := codeM_zero f1
  have hg := ht.good s hb.1.1 f2
  obtain ⟨t1, t2, t3⟩ := topM_bd hg
  have hall : ∀ b ∈ rd_L3 L s, 0 ≤ b.f1 ∧ b.f1 ≤ topM (rd_L3 L s) := fun b hm => by
    obtain ⟨i, i0, i1, rfl⟩ := rd106_mem hm
    exact t3 i i0 i1
  unfold rateM
  by_cases h4 : kd = 4
  · rw [if_pos h4]; omega
  rw [if_neg h4]
  by_cases hl : x < freeX kd am n d
  · rw [if_pos hl]; omega
  rw [if_neg hl]
  by_cases h3 : kd = 3
  · rw [if_pos h3]; exact t3 fl hb.2.2.2.1.1 (f3 h3)
  · rw [if_neg h3]; exact rtL_bd t1 _ (keepS_rate hall)
theorem rate_same {L : List (List S106)} {l1 : List S120} {a3 a4 : Int} (ht : TblOk L l1 a3 a4) {s kd am fl x n d : Int} (hf : fitsM L s kd am fl = 0) (hp : partOk n d = true) : rateM L s kd am fl x n d = rateM L s kd am fl (x - 1) n d ∨ x ∈ (cornersM L s kd am fl n d).1 := by
  obtain ⟨f1, f2, f3⟩ := fitsM_zero hf
  have hb := codeM_zero f1
  have hg := ht.good s hb.1.1 f2
  obtain ⟨p1, p2, p3, p4⟩ := partOk_iff.1 hp
  unfold rateM cornersM
  rw [if_pos hf, if_pos hp]
  by_cases h4 : kd = 4
  · left; rw [if_pos h4, if_pos h4]
  rw [if_neg h4, if_neg h4, if_neg h4]
  by_cases h3 : kd = 3
  · have ha := hb.2.2.2.2.1 (by omega) (by omega)
    have hz : freeX kd am n d = 0 := by unfold freeX; rw [if_neg (by omega), ha, Int.zero_mul]; simp
    rw [hz, if_pos h3, if_pos h3, if_pos h3]
    by_cases hx : x = 0
    · right; rw [hx]; simp
    · left
      by_cases hl : x < 0
      · rw [if_pos hl, if_pos (by omega)]
      · rw [if_neg hl, if_neg (by omega)]
  · rw [if_neg h3, if_neg h3, if_neg h3]
    by_cases hx : x = freeX kd am n d
    · right; rw [hx]; exact List.mem_cons_self
    · by_cases hl : x < freeX kd am n d
      · left; rw [if_pos hl, if_pos (by omega)]
      · rw [if_neg hl, if_neg (by omega)]
        rcases rtL_same (y := x - freeX kd am n d) (keepS n d (rd_L3 L s)) with h | ⟨b, hbm, he⟩
        · left; rw [h, show x - freeX kd am n d - 1 = x - 1 - freeX kd am n d by omega]
        · right
          obtain ⟨b0, t, hbt, hz⟩ := good_cons (keepS_good hg p1 p2 p3)
          rw [hbt] at hbm ⊢
          rcases List.mem_cons.1 hbm with rfl | hm
          · omega
          · refine List.mem_cons_of_mem _ (List.mem_map.2 ⟨b, hm, by omega⟩)
def RisI : List Int → Prop
  | [] => True
  | [_] => True
  | a :: b :: t => a < b ∧ RisI (b :: t)
theorem risI_map (f : Int) : ∀ l : List S106, Ris l → RisI (l.map fun b => b.f0 + f)
  | [], _ => trivial
  | [_], _ => trivial
  | b :: c :: t, h => ⟨Int.add_lt_add_right h.1 f, risI_map f (c :: t) h.2⟩
theorem corners_ris {L : List (List S106)} {l1 : List S120} {a3 a4 : Int} (ht : TblOk L l1 a3 a4) {s kd am fl n d : Int} (hf : fitsM L s kd am fl = 0) (hp : partOk n d = true) : RisI (cornersM L s kd am fl n d).1 ∧ (cornersM L s kd am fl n d).1.length ≤ 8 := by
  obtain ⟨f1, f2, f3⟩ := fitsM_zero hf
  have hb := codeM_zero f1
  have hg := ht.good s hb.1.1 f2
  obtain ⟨p1, p2, p3, p4⟩ := partOk_iff.1 hp
  unfold cornersM
  rw [if_pos hf, if_pos hp]
  by_cases h4 : kd = 4
  · rw [if_pos h4]; exact ⟨trivial, by simp⟩
  rw [if_neg h4]
  by_cases h3 : kd = 3
  · rw [if_pos h3]; exact ⟨trivial, by simp⟩
  · rw [if_neg h3]
    have hk := keepS_good hg p1 p2 p3
    have h8 := hk.len
    have hr := hk.ris
    obtain ⟨b0, t, hbt, hz⟩ := good_cons hk
    rw [hbt] at h8 hr ⊢
    have := risI_map (freeX kd am n d) _ hr
    rw [List.map_cons, hz, Int.zero_add] at this
    exact ⟨this, by simp only [List.tail_cons, List.length_cons, List.length_map] at h8 ⊢; exact h8⟩
theorem TR_l1 (r s x n d : Int) (l : List Int) (hl : l.length ≤ 8) (suf : List Int) : ∀ (pre : List Int) (c : Bool) (k : Nat), l = pre ++ suf → RisI l → (r = s ∨ c = true ∨ x ∈ suf) → 3 * suf.length + 1 ≤ k →
    stipendlaw13_TaxRises.l1 k r s l c l (l.length : Int) (pre.length : Int) x n d = some true := by
  induction suf with
  | nil =>
    intro pre c k hp hr hc hk
    obtain ⟨k, rfl⟩ : ∃ m, k = m + 1 := ⟨k - 1, by omega⟩
    rw [stipendlaw13_TaxRises.l1, if_neg (by rw [hp]; simp)]
    rcases hc with h | h | h
    · rw [if_pos h]
    · split
      · rfl
      · rw [h]
    · simp at h
  | cons a t ih =>
    intro pre c k hp hr hc hk
    simp only [List.length_cons] at hk
    obtain ⟨k, rfl⟩ : ∃ m, k = m + 3 := ⟨k - 3, by omega⟩
    have hlen : l.length = pre.length + (t.length + 1) := by rw [hp]; simp
    have e1 : l = pre ++ [a] ++ t := by rw [hp]; simp
    have e2 : ((pre ++ [a]).length : Int) = (pre.length : Int) + 1 := by simp
    have ha : rd l (pre.length : Int) = a := by rw [hp]; exact rd_mid pre t a
    have go : ∀ b : Bool, (r = s ∨ b = true ∨ x ∈ t) → stipendlaw13_TaxRises.j4 (k + 2) r s l b (pre.length : Int) a l (l.length : Int) (pre.length : Int) x n d = some true := by
      intro b hb
      have next := ih (pre ++ [a]) b k e1 hr hb (by omega)
      rw [e2] at next
      have w : wrap64 ((pre.length : Int) + 1) = (pre.length : Int) + 1 := wrap_id (by omega) (by omega)
      rw [stipendlaw13_TaxRises.j4]
      by_cases h0 : (pre.length : Int) > 0
      · rw [if_pos h0, wrap_id (x := (pre.length : Int) - 1) (by omega) (by omega), if_pos (by omega), if_pos (by omega), stipendlaw13_TaxRises.j5]
        have hlt : rd l ((pre.length : Int) - 1) < a := by
          obtain ⟨p, q, hpq⟩ : ∃ p q, pre = p ++ [q] := ⟨pre.dropLast, pre.getLast (by intro h; rw [h] at h0; simp at h0), (List.dropLast_concat_getLast (by intro h; rw [h] at h0; simp at h0)).symm⟩
          have e3 : l = p ++ q :: a :: t := by rw [hp, hpq]; simp
          have e4 : ((pre.length : Nat) : Int) - 1 = (p.length : Int) := by rw [hpq]; simp
          rw [e4, e3, rd_mid]
          rw [e3] at hr
          clear ih next e1 e3 e4 hc hb ha hlen hl hp hpq
          induction p with
          | nil => exact hr.1
          | cons z p ihp =>
            cases p with
            | nil => exact hr.2.1
            | cons z2 p2 => exact ihp hr.2
        rw [decide_eq_false (by omega), if_neg (by decide), w]
        exact next
      · rw [if_neg h0, stipendlaw13_TaxRises.j5, if_neg (by decide), w]
        exact next
    rw [stipendlaw13_TaxRises.l1, if_pos (by omega), if_pos (by omega), if_pos (by omega), ha]
    cases c with
    | true => rw [if_pos rfl]; exact go true (.inr (.inl rfl))
    | false =>
      rw [if_neg (by decide)]
      refine go _ ?_
      rcases hc with h | h | h
      · exact .inl h
      · cases h
      · rcases List.mem_cons.1 h with rfl | h
        · exact .inr (.inl (by simp))
        · exact .inr (.inr h)
theorem TaxRises_all (L : List (List S106)) (l1 : List S120) (l2 : List S209) (a3 a4 s kd am fl x n d : Int) (al : Bool) (k : Nat) (hk : 200 ≤ k) (hd : stipendlaw13_dues.f k = some true) : stipendlaw13_TaxRises.f k L l1 l2 a3 a4 s kd am fl al x n d = some true := by
  obtain ⟨m, hm⟩ : ∃ m, k = m + 1 := ⟨k - 1, by omega⟩
  have yes : stipendlaw13_TaxRises.j0 k true L l1 l2 a3 a4 s kd am fl al x n d = some true := by rw [hm, stipendlaw13_TaxRises.j0]; rfl
  unfold stipendlaw13_TaxRises.f
  rw [hd]
  simp only [Option.bind_some, if_true]
  obtain ⟨b, hb, hb1⟩ := fits_is L l1 l2 a3 a4 s kd am fl n d al
  rw [hb k (by omega)]
  simp only [Option.bind_some]
  cases b with
  | false => rw [if_neg (by decide)]; exact yes
  | true =>
    rw [if_pos rfl]
    obtain ⟨ht, hf, hp⟩ := hb1 rfl
    by_cases x1 : x > 50000000000
    · rw [if_pos x1]; exact yes
    rw [if_neg x1]
    by_cases x2 : x < -50000000000
    · rw [decide_eq_true x2]; exact yes
    obtain ⟨f1, f2, f3⟩ := fitsM_zero hf
    have hc := codeM_zero f1
    have hg := ht.good s hc.1.1 f2
    have g8 := hg.len
    have rb := rate_bd (x := x) ht hf hp
    obtain ⟨q, rfl⟩ : ∃ q, m = q + 1 := ⟨m - 1, by omega⟩
    rw [decide_eq_false x2, hm, stipendlaw13_TaxRises.j0, if_neg (by decide), tax_Rate_is ht _ (by omega) al hf hp (by omega)]
    simp only [Option.bind_some, if_true]
    rw [stipendlaw13_TaxRises.j1, decide_eq_false (by omega), if_neg (by decide), if_pos hc.1.1, if_pos f2]
    have endd : ∀ k, 100 ≤ k → ∀ top : Int, rateM L s kd am fl x n d ≤ top → (if rateM L s kd am fl x n d > top then none else ((tax_Rate.f k L l1 l2 a3 a4 s kd am fl al (wrap64 (x - 1)) n d).bind fun bt1104 => ((tax_Corners.f k L l1 l2 a3 a4 s kd am fl al n d).bind fun bt1106 => (stipendlaw13_TaxRises.l1 k (rateM L s kd am fl x n d) bt1104.1 bt1106.1 false bt1106.1 (bt1106.1.length : Int) 0 x n d)))) = some true := by
      intro k hk top htop
      rw [if_neg (by omega), wrap_id (x := x - 1) (by omega) (by omega), tax_Rate_is ht k (by omega) al hf hp (by omega)]
      simp only [Option.bind_some]
      rw [tax_Corners_is ht k (by omega)]
      simp only [Option.bind_some]
      obtain ⟨cr, c8⟩ := corners_ris ht (s := s) (kd := kd) (am := am) (fl := fl) (n := n) (d := d) hf hp
      refine TR_l1 _ _ x n d _ c8 (cornersM L s kd am fl n d).1 [] false k rfl cr ?_ (by omega)
      rcases rate_same (x := x) ht hf hp with h | h
      · exact .inl h
      · exact .inr (.inr h)
    have lo : ∀ (m : Nat) (i acc : Int) (k : Nat), 0 ≤ i → i + m = ((rd_L3 L s).length : Int) → 100 + m + 1 ≤ k → rateM L s kd am fl x n d ≤ topFrom (rd_L3 L s) m i acc →
        stipendlaw13_TaxRises.l0 k (rateM L s kd am fl x n d) acc (rd_L3 L s) ((rd_L3 L s).length : Int) i L l1 l2 a3 a4 s kd am fl al x n d = some true := by
      intro m
      induction m with
      | zero =>
        intro i acc k h0 hi hk hle
        obtain ⟨k, rfl⟩ : ∃ j, k = j + 1 := ⟨k - 1, by omega⟩
        rw [stipendlaw13_TaxRises.l0, if_neg (by omega)]
        exact endd k (by omega) acc hle
      | succ m ih =>
        intro i acc k h0 hi hk hle
        obtain ⟨k, rfl⟩ : ∃ j, k = j + 1 := ⟨k - 1, by omega⟩
        rw [stipendlaw13_TaxRises.l0, if_pos (by omega), if_pos h0, if_pos (by omega), wrap_id (by omega) (by omega)]
        exact ih (i + 1) _ k (by omega) (by omega) (by omega) hle
    exact lo (rd_L3 L s).length 0 0 q (by omega) (by omega) (by omega) rb.2
theorem TaxRises_pure (t : S56) (c : S88) (p : S135) (_ : W56 t) (_ : W88 c) (_ : W135 p) : ∃ k, stipendlaw13_TaxRises.f k t.f0 t.f1 t.f2 t.f3 t.f4 c.f0 c.f1 c.f2 c.f3 c.f4 p.f0 p.f1 p.f2 = some true := ⟨200, TaxRises_all _ _ _ _ _ _ _ _ _ _ _ _ _ 200 (Nat.le_refl _) dues_200⟩
end Go.Proofs.Ytcapgmoipacioaa.P
