import Derived.Test.YtcapgmoipacioaaU7Zg
import Derived.Test.YtcapgmoipacioaaHexactZg
import Derived.Test.YtcapgmoipacioaaHhasZg
import Derived.Test.YtcapgmoipacioaaPptableZg
namespace Go.Proofs.Ytcapgmoipacioaa.P
open Go.RowKit Go.Proofs.YtcapgmoipacioaaW.PrintWords Go.Proofs.YtcapgmoipacioaaW.PrintLast Go.Proofs.YtcapgmoipacioaaW.PrintMore
set_option linter.unusedVariables false
set_option linter.unusedSimpArgs false
theorem pred_of {k n : Nat} (h : n + 1 ≤ k) : ∃ m, k = m + 1 ∧ n ≤ m := ⟨k - 1, by omega, by omega⟩
theorem name_l0 (x : ByteArray) (hs : x.size ≤ 16) : ∀ (m : Nat) (i : Int), 0 ≤ i → i + m = (x.size : Int) → ∃ b, ∀ k, 3 * m + 1 ≤ k → word_Name.l0 k x (x.size : Int) i = some b
  | 0, i, h0, hm => ⟨true, fun k hk => by
    obtain ⟨k, rfl, hk⟩ := pred_of hk
    rw [word_Name.l0, if_neg (by omega)]⟩
  | m + 1, i, h0, hm => by
    obtain ⟨b, hb⟩ := name_l0 x hs m (i + 1) (by omega) (by omega)
    have j3 : ∀ bb : Bool, ∃ b, ∀ k, 3 * m + 2 ≤ k → word_Name.j3 k x (x.size : Int) i bb = some b := by
      intro bb
      cases bb with
      | true => exact ⟨false, fun k hk => by obtain ⟨k, rfl, hk⟩ := pred_of (k := k) (n := 3 * m + 1) (by omega); rw [word_Name.j3]; rfl⟩
      | false => exact ⟨b, fun k hk => by
          obtain ⟨k, rfl, hk⟩ := pred_of (k := k) (n := 3 * m + 1) (by omega); rw [word_Name.j3, if_neg (by decide), wrap_id (by omega) (by omega)]; exact hb k (by omega)⟩
    have j2 : ∀ (c : Int) (bb : Bool), ∃ b, ∀ k, 3 * m + 3 ≤ k → word_Name.j2 k x i c bb (x.size : Int) i = some b := by
      intro c bb; obtain ⟨b1, h1⟩ := j3 false; obtain ⟨b2, h2⟩ := j3 true; obtain ⟨b3, h3⟩ := j3 (c != 45); have go : ∀ (P : Nat → Prop), (∀ k, 3 * m + 2 ≤ k → P (k + 1)) → ∀ k, 3 * m + 3 ≤ k → P k := fun P hP k hk => by obtain ⟨k, rfl, hk⟩ := pred_of (k := k) (n := 3 * m + 2) (by omega); exact hP k (by omega)
      cases bb with
      | true => exact ⟨b1, go _ fun k hk => by rw [word_Name.j2]; exact h1 k (by omega)⟩
      | false =>
        by_cases hi : i = 0
        · exact ⟨b2, go _ fun k hk => by rw [word_Name.j2, if_neg (by decide), if_pos hi]; exact h2 k (by omega)⟩
        · by_cases c1 : c < 48
          · exact ⟨b3, go _ fun k hk => by rw [word_Name.j2, if_neg (by decide), if_neg hi, if_pos c1]; exact h3 k (by omega)⟩
          · by_cases c2 : c > 57
            · exact ⟨b3, go _ fun k hk => by rw [word_Name.j2, if_neg (by decide), if_neg hi, if_neg c1, if_pos c2]; exact h3 k (by omega)⟩
            · exact ⟨b1, go _ fun k hk => by rw [word_Name.j2, if_neg (by decide), if_neg hi, if_neg c1, if_neg c2]; exact h1 k (by omega)⟩
    by_cases c : bt x i ≥ 97
    · obtain ⟨r, hr⟩ := j2 (bt x i) (decide (bt x i ≤ 122)); refine ⟨r, fun k hk => ?_⟩
      obtain ⟨k, rfl, hk⟩ := pred_of (k := k) (n := 3 * m + 3) (by omega); rw [word_Name.l0, if_pos (by omega), if_pos h0, if_pos (by omega), if_pos c]; exact hr k (by omega)
    · obtain ⟨r, hr⟩ := j2 (bt x i) false; refine ⟨r, fun k hk => ?_⟩
      obtain ⟨k, rfl, hk⟩ := pred_of (k := k) (n := 3 * m + 3) (by omega); rw [word_Name.l0, if_pos (by omega), if_pos h0, if_pos (by omega), if_neg c]; exact hr k (by omega)
theorem name_some (x : ByteArray) : ∃ b, ∀ k, 60 ≤ k → word_Name.f k x = some b := by
  have no : ∀ k, 60 ≤ k → word_Name.j0 k x true = some false := fun k hk => by obtain ⟨k, rfl, hk⟩ := pred_of (k := k) (n := 59) (by omega); rw [word_Name.j0]; rfl
  by_cases h : x.toList = ([] : List UInt8)
  · exact ⟨false, fun k hk => by unfold word_Name.f; rw [if_pos h]; exact no k (by omega)⟩
  · by_cases hs : (x.size : Int) > 16
    · exact ⟨false, fun k hk => by unfold word_Name.f; rw [if_neg h, decide_eq_true hs]; exact no k (by omega)⟩
    · obtain ⟨b, hb⟩ := name_l0 x (by omega) x.size 0 (by omega) (by omega); refine ⟨b, fun k hk => ?_⟩
      obtain ⟨k, rfl, hk⟩ := pred_of (k := k) (n := 59) (by omega); unfold word_Name.f; rw [if_neg h, decide_eq_false hs, word_Name.j0, if_neg (by decide)]; exact hb k (by omega)
structure ConOk (c : S120) : Prop where
  bands : Good c.f2
  mode : modeB c.f5 = true
  base : c.f1 = 1 ∨ c.f1 = 2
  per : 0 ≤ c.f3 ∧ c.f3 ≤ 100000000000
  year : 0 ≤ c.f4 ∧ c.f4 ≤ 100000000000
theorem con_l0 (l : List S120) (hl : l.length ≤ 6) (L0 : List (List S106)) (L2 : List S209) (a3 a4 : Int) : ∀ (n : Nat) (i : Int), 0 ≤ i → i + n = (l.length : Int) →
    ∃ r, (∀ k, 4 * n + 70 ≤ k → table_contribs.l0 k l (l.length : Int) i L0 l L2 a3 a4 = some r) ∧ (r = 0 → ∀ j, i ≤ j → j < (l.length : Int) → ConOk (rd_T120 l j))
  | 0, i, h0, hm => ⟨0, fun k hk => by
      obtain ⟨k, rfl, hk⟩ := pred_of (k := k) (n := 69) (by omega)
      rw [table_contribs.l0, if_neg (by omega)], fun _ j h1 h2 => by omega⟩
  | n + 1, i, h0, hm => by
    obtain ⟨r, hr, hr0⟩ := con_l0 l hl L0 L2 a3 a4 n (i + 1) (by omega) (by omega)
    obtain ⟨c, hc⟩ : ∃ c, rd_T120 l i = c := ⟨_, rfl⟩
    have nz : ∀ e : Int, e ≠ 0 → (e = 0 → ∀ j, i ≤ j → j < (l.length : Int) → ConOk (rd_T120 l j)) := fun e he h => absurd h he
    have j3 : ∃ e, (∀ k, 4 * n + 71 ≤ k → table_contribs.j3 k l (l.length : Int) i false L0 l L2 a3 a4 c.f0 c.f1 c.f2 c.f3 c.f4 c.f5 = some e) ∧ (e = 0 → Good c.f2 ∧ r = 0) := by
      by_cases hb : bandCheck c.f2 = 0
      · refine ⟨r, fun k hk => ?_, fun h => ⟨good_iff.1 hb, h⟩⟩
        obtain ⟨k, rfl, hk⟩ := pred_of (k := k) (n := 4 * n + 70) (by omega); rw [table_contribs.j3, if_neg (by decide), band_Check_is]; simp only [Option.bind_some]; rw [if_pos hb, wrap_id (by omega) (by omega)]; exact hr k (by omega)
      · refine ⟨bandCheck c.f2, fun k hk => ?_, fun h => absurd h hb⟩
        obtain ⟨k, rfl, hk⟩ := pred_of (k := k) (n := 4 * n + 70) (by omega); rw [table_contribs.j3, if_neg (by decide), band_Check_is]; simp only [Option.bind_some]; rw [if_neg hb]
    have j3t : ∀ k, 4 * n + 71 ≤ k → table_contribs.j3 k l (l.length : Int) i true L0 l L2 a3 a4 c.f0 c.f1 c.f2 c.f3 c.f4 c.f5 = some 1 := fun k hk => by
      obtain ⟨k, rfl, hk⟩ := pred_of (k := k) (n := 4 * n + 70) (by omega); rw [table_contribs.j3]; rfl
    have j2t : ∀ k, 4 * n + 72 ≤ k → table_contribs.j2 k l (l.length : Int) i true L0 l L2 a3 a4 c.f0 c.f1 c.f2 c.f3 c.f4 c.f5 = some 1 := fun k hk => by
      obtain ⟨k, rfl, hk⟩ := pred_of (k := k) (n := 4 * n + 71) (by omega); rw [table_contribs.j2]; rfl
    have j2 : ∃ e, (∀ k, 4 * n + 72 ≤ k → table_contribs.j2 k l (l.length : Int) i false L0 l L2 a3 a4 c.f0 c.f1 c.f2 c.f3 c.f4 c.f5 = some e) ∧ (e = 0 → (Good c.f2 ∧ r = 0) ∧ (0 ≤ c.f3 ∧ c.f3 ≤ 100000000000) ∧ (0 ≤ c.f4 ∧ c.f4 ≤ 100000000000)) := by
      have go : ∀ (P : Nat → Prop), (∀ k, 4 * n + 71 ≤ k → P (k + 1)) → ∀ k, 4 * n + 72 ≤ k → P k := fun P hP k hk => by obtain ⟨k, rfl, hk⟩ := pred_of (k := k) (n := 4 * n + 71) (by omega); exact hP k (by omega)
      by_cases q1 : c.f3 < 0
      · exact ⟨1, go _ fun k hk => by rw [table_contribs.j2, if_neg (by decide), if_pos q1]; exact j3t k (by omega), fun h => absurd h (by decide)⟩
      by_cases q2 : c.f3 > 100000000000
      · exact ⟨1, go _ fun k hk => by rw [table_contribs.j2, if_neg (by decide), if_neg q1, if_pos q2]; exact j3t k (by omega), fun h => absurd h (by decide)⟩
      by_cases q3 : c.f4 < 0
      · exact ⟨1, go _ fun k hk => by rw [table_contribs.j2, if_neg (by decide), if_neg q1, if_neg q2, if_pos q3]; exact j3t k (by omega), fun h => absurd h (by decide)⟩
      by_cases q4 : c.f4 > 100000000000
      · exact ⟨1, go _ fun k hk => by rw [table_contribs.j2, if_neg (by decide), if_neg q1, if_neg q2, if_neg q3, decide_eq_true q4]; exact j3t k (by omega), fun h => absurd h (by decide)⟩
      obtain ⟨e, he, he0⟩ := j3; exact ⟨e, go _ fun k hk => by rw [table_contribs.j2, if_neg (by decide), if_neg q1, if_neg q2, if_neg q3, decide_eq_false q4]; exact he k (by omega), fun h => ⟨he0 h, by omega, by omega⟩⟩
    have j1 : ∀ bb : Bool, ∃ e, (∀ k, 4 * n + 73 ≤ k → table_contribs.j1 k l (l.length : Int) i bb L0 l L2 a3 a4 c.f0 c.f1 c.f2 c.f3 c.f4 c.f5 = some e) ∧ (e = 0 → bb = false ∧ modeB c.f5 = true ∧ (Good c.f2 ∧ r = 0) ∧ (0 ≤ c.f3 ∧ c.f3 ≤ 100000000000) ∧ (0 ≤ c.f4 ∧ c.f4 ≤ 100000000000)) := by
      intro bb; have go : ∀ (P : Nat → Prop), (∀ k, 4 * n + 72 ≤ k → P (k + 1)) → ∀ k, 4 * n + 73 ≤ k → P k := fun P hP k hk => by obtain ⟨k, rfl, hk⟩ := pred_of (k := k) (n := 4 * n + 72) (by omega); exact hP k (by omega)
      cases bb with
      | true => exact ⟨1, go _ fun k hk => by rw [table_contribs.j1, if_pos rfl]; exact j2t k (by omega), fun h => absurd h (by decide)⟩
      | false =>
        cases hm : modeB c.f5 with
        | false => exact ⟨1, go _ fun k hk => by rw [table_contribs.j1, if_neg (by decide), frac_Mode_is, hm]; exact j2t k (by omega), fun h => absurd h (by decide)⟩
        | true =>
          obtain ⟨e, he, he0⟩ := j2; exact ⟨e, go _ fun k hk => by rw [table_contribs.j1, if_neg (by decide), frac_Mode_is, hm]; exact he k (by omega), fun h => ⟨rfl, rfl, he0 h⟩⟩
    have last : ∀ bb : Bool, (bb = false → c.f1 = 1 ∨ c.f1 = 2) → ∃ e, (∀ k, 4 * n + 73 ≤ k → table_contribs.j1 k l (l.length : Int) i bb L0 l L2 a3 a4 c.f0 c.f1 c.f2 c.f3 c.f4 c.f5 = some e) ∧ (e = 0 → ∀ j, i ≤ j → j < (l.length : Int) → ConOk (rd_T120 l j)) := by
      intro bb hbb; obtain ⟨e, he, he0⟩ := j1 bb; refine ⟨e, he, fun h j q1 q2 => ?_⟩
      obtain ⟨p1, p2, p3, p4, p5⟩ := he0 h; by_cases hj : j = i
      · subst hj; rw [hc]; exact ⟨p3.1, p2, hbb p1, p4, p5⟩
      · exact hr0 p3.2 j (by omega) q2
    have start : ∀ (P : Nat → Prop), (∀ k, 4 * n + 73 ≤ k → P (k + 1)) → ∀ k, 4 * (n + 1) + 70 ≤ k → P k := fun P hP k hk => by obtain ⟨k, rfl, hk⟩ := pred_of (k := k) (n := 4 * n + 73) (by omega); exact hP k (by omega)
    obtain ⟨b, hb⟩ := name_some c.f0
    cases b with
    | false => exact ⟨5, start _ fun k hk => by rw [table_contribs.l0, if_pos (by omega), if_pos h0, if_pos (by omega), hc, hb k (by omega)]; rfl, nz 5 (by decide)⟩
    | true =>
      have ht : (l.take i.toNat).length ≤ 64 := by rw [List.length_take]; omega
      cases hany : ((l.take i.toNat).any fun x => x.f0.toList == c.f0.toList) with
      | true => exact ⟨4, start _ fun k hk => by
          rw [table_contribs.l0, if_pos (by omega), if_pos h0, if_pos (by omega), hc, hb k (by omega)]; simp only [Option.bind_some, if_true]; rw [if_pos (by omega), api_Contrib_141.f, if_pos ht, hany]
          rfl, nz 4 (by decide)⟩
      | false =>
        by_cases hbase : c.f1 = 1
        · obtain ⟨e, he, he0⟩ := last false (fun _ => .inl hbase)
          exact ⟨e, start _ fun k hk => by
            rw [table_contribs.l0, if_pos (by omega), if_pos h0, if_pos (by omega), hc, hb k (by omega)]; simp only [Option.bind_some, if_true]; rw [if_pos (by omega), api_Contrib_141.f, if_pos ht, hany]; simp only [Option.bind_some, Bool.false_eq_true, if_false]; rw [if_pos hbase]; exact he k (by omega), he0⟩
        · obtain ⟨e, he, he0⟩ := last (c.f1 != 2) (fun q => .inr (by simpa using q))
          exact ⟨e, start _ fun k hk => by
            rw [table_contribs.l0, if_pos (by omega), if_pos h0, if_pos (by omega), hc, hb k (by omega)]; simp only [Option.bind_some, if_true]; rw [if_pos (by omega), api_Contrib_141.f, if_pos ht, hany]; simp only [Option.bind_some, Bool.false_eq_true, if_false]; rw [if_neg hbase]; exact he k (by omega), he0⟩
theorem contribs_is (L0 : List (List S106)) (l : List S120) (L2 : List S209) (a3 a4 : Int) : ∃ r, (∀ k, 100 ≤ k → table_contribs.f k L0 l L2 a3 a4 = some r) ∧ (r = 0 → l.length ≤ 6 ∧ ∀ j : Int, 0 ≤ j → j < (l.length : Int) → ConOk (rd_T120 l j)) := by
  by_cases h : (l.length : Int) > 6
  · exact ⟨2, fun k _ => by unfold table_contribs.f; rw [if_pos h], fun q => absurd q (by decide)⟩
  · obtain ⟨r, hr, hr0⟩ := con_l0 l (by omega) L0 L2 a3 a4 l.length 0 (by omega) (by omega); exact ⟨r, fun k hk => by unfold table_contribs.f; rw [if_neg h]; exact hr k (by omega), fun q => ⟨by omega, hr0 q⟩⟩
theorem sign_is (x : Int) : ∃ b, table_sign.f x = some b := by unfold table_sign.f; split <;> exact ⟨_, rfl⟩
theorem kind_l0 (L0 : List (List S106)) (L1 : List S120) (l : List S209) (hl : l.length ≤ 12) (a3 a4 : Int) : ∀ (n : Nat) (i : Int), 0 ≤ i → i + n = (l.length : Int) →
    ∃ r, ∀ k, 2 * n + 70 ≤ k → table_kinds.l0 k l (l.length : Int) i L0 L1 l a3 a4 = some r
  | 0, i, h0, hm => ⟨0, fun k hk => by
      obtain ⟨k, rfl, hk⟩ := pred_of (k := k) (n := 69) (by omega)
      rw [table_kinds.l0, if_neg (by omega)]⟩
  | n + 1, i, h0, hm => by
    obtain ⟨r, hr⟩ := kind_l0 L0 L1 l hl a3 a4 n (i + 1) (by omega) (by omega)
    obtain ⟨c, hc⟩ : ∃ c, rd_T209 l i = c := ⟨_, rfl⟩
    have j2 : ∀ bb : Bool, ∃ e, ∀ k, 2 * n + 71 ≤ k → table_kinds.j2 k l (l.length : Int) i bb L0 L1 l a3 a4 = some e := by
      intro bb
      cases bb with
      | true => exact ⟨1, fun k hk => by obtain ⟨k, rfl, hk⟩ := pred_of (k := k) (n := 2 * n + 70) (by omega); rw [table_kinds.j2]; rfl⟩
      | false => exact ⟨r, fun k hk => by
          obtain ⟨k, rfl, hk⟩ := pred_of (k := k) (n := 2 * n + 70) (by omega); rw [table_kinds.j2, if_neg (by decide), wrap_id (by omega) (by omega)]; exact hr k (by omega)⟩
    have start : ∀ (P : Nat → Prop), (∀ k, 2 * n + 71 ≤ k → P (k + 1)) → ∀ k, 2 * (n + 1) + 70 ≤ k → P k := fun P hP k hk => by obtain ⟨k, rfl, hk⟩ := pred_of (k := k) (n := 2 * n + 71) (by omega); exact hP k (by omega)
    obtain ⟨b, hb⟩ := name_some c.f0
    cases b with
    | false => exact ⟨5, start _ fun k hk => by rw [table_kinds.l0, if_pos (by omega), if_pos h0, if_pos (by omega), hc, hb k (by omega)]; rfl⟩
    | true =>
      have ht : (l.take i.toNat).length ≤ 64 := by rw [List.length_take]; omega
      cases hany : ((l.take i.toNat).any fun x => x.f0.toList == c.f0.toList) with
      | true => exact ⟨4, start _ fun k hk => by
          rw [table_kinds.l0, if_pos (by omega), if_pos h0, if_pos (by omega), hc, hb k (by omega)]; simp only [Option.bind_some, if_true]; rw [if_pos (by omega), api_Kind_143.f, if_pos ht, hany]
          rfl⟩
      | false =>
        obtain ⟨b1, s1⟩ := sign_is c.f1; obtain ⟨b2, s2⟩ := sign_is c.f2; obtain ⟨b3, s3⟩ := sign_is c.f3
        have pre : ∀ k, 2 * n + 71 ≤ k → table_kinds.l0 (k + 1) l (l.length : Int) i L0 L1 l a3 a4 = (if b1 = true then (if b2 = true then table_kinds.j2 k l (l.length : Int) i (!b3) L0 L1 l a3 a4 else table_kinds.j2 k l (l.length : Int) i true L0 L1 l a3 a4) else table_kinds.j2 k l (l.length : Int) i true L0 L1 l a3 a4) := by
          intro k hk; rw [table_kinds.l0, if_pos (by omega), if_pos h0, if_pos (by omega), hc, hb k (by omega)]; simp only [Option.bind_some, if_true]; rw [if_pos (by omega), api_Kind_143.f, if_pos ht, hany]; simp only [Option.bind_some, Bool.false_eq_true, if_false, s1, s2, s3]
        cases b1 with
        | false =>
          obtain ⟨e, he⟩ := j2 true; exact ⟨e, start _ fun k hk => by rw [pre k (by omega)]; exact he k (by omega)⟩
        | true =>
          cases b2 with
          | false =>
            obtain ⟨e, he⟩ := j2 true; exact ⟨e, start _ fun k hk => by rw [pre k (by omega)]; exact he k (by omega)⟩
          | true =>
            obtain ⟨e, he⟩ := j2 (!b3); exact ⟨e, start _ fun k hk => by rw [pre k (by omega)]; exact he k (by omega)⟩
theorem kinds_is (L0 : List (List S106)) (L1 : List S120) (l : List S209) (a3 a4 : Int) : ∃ r, ∀ k, 110 ≤ k → table_kinds.f k L0 L1 l a3 a4 = some r := by
  have no : ∀ k, 110 ≤ k → table_kinds.j0 k true L0 L1 l a3 a4 = some 2 := fun k hk => by obtain ⟨k, rfl, hk⟩ := pred_of (k := k) (n := 109) (by omega); rw [table_kinds.j0]; rfl
  by_cases h : (l.length : Int) = 0
  · exact ⟨2, fun k hk => by unfold table_kinds.f; rw [if_pos h]; exact no k (by omega)⟩
  · by_cases h2 : (l.length : Int) > 12
    · exact ⟨2, fun k hk => by unfold table_kinds.f; rw [if_neg h, decide_eq_true h2]; exact no k (by omega)⟩
    · obtain ⟨r, hr⟩ := kind_l0 L0 L1 l (by omega) a3 a4 l.length 0 (by omega) (by omega); refine ⟨r, fun k hk => ?_⟩
      obtain ⟨k, rfl, hk⟩ := pred_of (k := k) (n := 109) (by omega); unfold table_kinds.f; rw [if_neg h, decide_eq_false h2, table_kinds.j0, if_neg (by decide)]; exact hr k (by omega)
theorem sch_l1 (L : List (List S106)) (i : Int) (l : List S106) (hl : l.length ≤ 8) (N : Nat) (r : Int) (hi : i < 1000000 ∧ 0 ≤ i) (hr : ∀ k, N ≤ k → table_schemes.l0 k L (L.length : Int) (i + 1) = some r) : ∀ (n : Nat) (j : Int), 0 ≤ j → j + n = (l.length : Int) →
    ∃ e, (∀ k, n + N + 1 ≤ k → table_schemes.l1 k L (L.length : Int) i l (l.length : Int) j = some e) ∧ (e = 0 → r = 0)
  | 0, j, h0, hm => ⟨r, fun k hk => by
      obtain ⟨k, rfl, hk⟩ := pred_of (k := k) (n := N) (by omega)
      rw [table_schemes.l1, if_neg (by omega), wrap_id (by omega) (by omega)]
      exact hr k (by omega), id⟩
  | n + 1, j, h0, hm => by
    obtain ⟨e, he, he0⟩ := sch_l1 L i l hl N r hi hr n (j + 1) (by omega) (by omega)
    by_cases z : (rd_T106 l j).f2 = 0
    · refine ⟨e, fun k hk => ?_, he0⟩
      obtain ⟨k, rfl, hk⟩ := pred_of (k := k) (n := n + N + 1) (by omega)
      rw [table_schemes.l1, if_pos (by omega), if_pos h0, if_pos (by omega), if_pos z, wrap_id (by omega) (by omega)]
      exact he k (by omega)
    · refine ⟨50, fun k hk => ?_, fun q => absurd q (by decide)⟩
      obtain ⟨k, rfl, hk⟩ := pred_of (k := k) (n := n + N + 1) (by omega)
      rw [table_schemes.l1, if_pos (by omega), if_pos h0, if_pos (by omega), if_neg z]
theorem sch_l0 (L : List (List S106)) (hL : L.length ≤ 8) : ∀ (n : Nat) (i : Int), 0 ≤ i → i + n = (L.length : Int) →
    ∃ e, (∀ k, 10 * n + 1 ≤ k → table_schemes.l0 k L (L.length : Int) i = some e) ∧ (e = 0 → ∀ j, i ≤ j → j < (L.length : Int) → Good (rd_L3 L j))
  | 0, i, h0, hm => ⟨0, fun k hk => by
      obtain ⟨k, rfl, hk⟩ := pred_of (k := k) (n := 0) (by omega)
      rw [table_schemes.l0, if_neg (by omega)], fun _ j h1 h2 => by omega⟩
  | n + 1, i, h0, hm => by
    obtain ⟨r, hr, hr0⟩ := sch_l0 L hL n (i + 1) (by omega) (by omega)
    by_cases hb : bandCheck (rd_L3 L i) = 0
    · have hg := good_iff.1 hb
      have h8 := hg.len
      obtain ⟨e, he, he0⟩ := sch_l1 L i (rd_L3 L i) h8 (10 * n + 1) r ⟨by omega, h0⟩ hr (rd_L3 L i).length 0 (by omega) (by omega)
      refine ⟨e, fun k hk => ?_, fun q j q1 q2 => ?_⟩
      · obtain ⟨k, rfl, hk⟩ := pred_of (k := k) (n := 10 * n + 10) (by omega)
        rw [table_schemes.l0, if_pos (by omega), if_pos h0, if_pos (by omega), band_Check_is]
        simp only [Option.bind_some]
        rw [if_pos hb]
        exact he k (by omega)
      · by_cases hj : j = i
        · subst hj; exact hg
        · exact hr0 (he0 q) j (by omega) q2
    · refine ⟨bandCheck (rd_L3 L i), fun k hk => ?_, fun q => absurd q hb⟩
      obtain ⟨k, rfl, hk⟩ := pred_of (k := k) (n := 10 * n + 10) (by omega)
      rw [table_schemes.l0, if_pos (by omega), if_pos h0, if_pos (by omega), band_Check_is]
      simp only [Option.bind_some]
      rw [if_neg hb]
theorem schemes_is (L : List (List S106)) (l1 : List S120) (l2 : List S209) (a3 a4 : Int) : ∃ e, (∀ k, 90 ≤ k → table_schemes.f k L l1 l2 a3 a4 = some e) ∧ (e = 0 → (0 < L.length ∧ L.length ≤ 8) ∧ ∀ j : Int, 0 ≤ j → j < (L.length : Int) → Good (rd_L3 L j)) := by
  have no : ∀ k, 90 ≤ k → table_schemes.j0 k true L l1 l2 a3 a4 = some 2 := fun k hk => by obtain ⟨k, rfl, hk⟩ := pred_of (k := k) (n := 89) (by omega); rw [table_schemes.j0]; rfl
  by_cases h : (L.length : Int) = 0
  · exact ⟨2, fun k hk => by unfold table_schemes.f; rw [if_pos h]; exact no k (by omega), fun q => absurd q (by decide)⟩
  · by_cases h2 : (L.length : Int) > 8
    · exact ⟨2, fun k hk => by unfold table_schemes.f; rw [if_neg h, decide_eq_true h2]; exact no k (by omega), fun q => absurd q (by decide)⟩
    · obtain ⟨r, hr, hr0⟩ := sch_l0 L (by omega) L.length 0 (by omega) (by omega); refine ⟨r, fun k hk => ?_, fun q => ⟨by omega, hr0 q⟩⟩
      obtain ⟨k, rfl, hk⟩ := pred_of (k := k) (n := 89) (by omega); unfold table_schemes.f; rw [if_neg h, decide_eq_false h2, table_schemes.j0, if_neg (by decide)]; exact hr k (by omega)
structure TblOk (L : List (List S106)) (l1 : List S120) (a3 a4 : Int) : Prop where
  lim : 0 ≤ a3 ∧ a3 ≤ 10000
  rnd : modeB a4 = true
  pos : 0 < L.length
  len : L.length ≤ 8
  good : ∀ j : Int, 0 ≤ j → j < (L.length : Int) → Good (rd_L3 L j)
  few : l1.length ≤ 6
  con : ∀ j : Int, 0 ≤ j → j < (l1.length : Int) → ConOk (rd_T120 l1 j)
theorem chk_l0 (a b c : Int) : ∃ r, (∀ k, 4 ≤ k → table_Check.l0 k 0 a b c = some r) ∧ (r = 0 → a = 0 ∧ b = 0) := by
  have w1 : wrap64 (0 + 1) = 1 := wrap_id (by omega) (by omega); have w2 : wrap64 (1 + 1) = 2 := wrap_id (by omega) (by omega); have w3 : wrap64 (2 + 1) = 3 := wrap_id (by omega) (by omega); have s0 : sel3 0 a b c = a := rfl; have s1 : sel3 1 a b c = b := rfl; have s2 : sel3 2 a b c = c := rfl; have go : ∀ (P : Nat → Prop), (∀ k, P (k + 4)) → ∀ k, 4 ≤ k → P k := fun P hP k hk => by obtain ⟨m, rfl⟩ : ∃ m, k = m + 4 := ⟨k - 4, by omega⟩; exact hP m
  by_cases ha : a = 0
  · by_cases hb : b = 0
    · by_cases hc : c = 0
      · refine ⟨0, go _ fun k => ?_, fun _ => ⟨ha, hb⟩⟩
        rw [table_Check.l0, if_pos (by omega), if_pos (by omega), s0, if_pos ha, w1, table_Check.l0, if_pos (by omega), if_pos (by omega), s1, if_pos hb, w2, table_Check.l0, if_pos (by omega), if_pos (by omega), s2, if_pos hc, w3, table_Check.l0, if_neg (by omega)]
      · refine ⟨c, go _ fun k => ?_, fun q => absurd q hc⟩
        rw [table_Check.l0, if_pos (by omega), if_pos (by omega), s0, if_pos ha, w1, table_Check.l0, if_pos (by omega), if_pos (by omega), s1, if_pos hb, w2, table_Check.l0, if_pos (by omega), if_pos (by omega), s2, if_neg hc]
    · refine ⟨b, go _ fun k => ?_, fun q => absurd q hb⟩
      rw [table_Check.l0, if_pos (by omega), if_pos (by omega), s0, if_pos ha, w1, table_Check.l0, if_pos (by omega), if_pos (by omega), s1, if_neg hb]
  · refine ⟨a, go _ fun k => ?_, fun q => absurd q ha⟩
    rw [table_Check.l0, if_pos (by omega), if_pos (by omega), s0, if_neg ha]
theorem table_Check_is (L : List (List S106)) (l1 : List S120) (l2 : List S209) (a3 a4 : Int) : ∃ r, (∀ k, 110 ≤ k → table_Check.f k L l1 l2 a3 a4 = some r) ∧ (r = 0 → TblOk L l1 a3 a4) := by
  cases h1 : rateB a3 with
  | false => exact ⟨50, fun k _ => by unfold table_Check.f; rw [frac_Rate_is, h1]; rfl, fun q => absurd q (by decide)⟩
  | true =>
    cases h2 : modeB a4 with
    | false => exact ⟨1, fun k _ => by unfold table_Check.f; rw [frac_Rate_is, h1, frac_Mode_is, h2]; rfl, fun q => absurd q (by decide)⟩
    | true =>
      obtain ⟨a, ha, ha0⟩ := schemes_is L l1 l2 a3 a4; obtain ⟨b, hb, hb0⟩ := contribs_is L l1 l2 a3 a4; obtain ⟨c, hc⟩ := kinds_is L l1 l2 a3 a4; obtain ⟨r, hr, hr0⟩ := chk_l0 a b c; refine ⟨r, fun k hk => ?_, fun q => ?_⟩
      · unfold table_Check.f; rw [frac_Rate_is, h1, frac_Mode_is, h2]; simp only [Option.bind_some, if_true]; rw [ha k (by omega), hb k (by omega), hc k (by omega)]; exact hr k (by omega)
      · obtain ⟨qa, qb⟩ := hr0 q; obtain ⟨⟨z1, z2⟩, z3⟩ := ha0 qa; obtain ⟨y1, y2⟩ := hb0 qb; exact ⟨rateB_iff.1 h1, h2, z1, z2, z3, y1, y2⟩
end Go.Proofs.Ytcapgmoipacioaa.P
