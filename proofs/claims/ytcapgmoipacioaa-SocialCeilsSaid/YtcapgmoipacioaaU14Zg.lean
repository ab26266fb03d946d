import Derived.Test.YtcapgmoipacioaaU9Zg
import Derived.Test.YtcapgmoipacioaaU7Zg
import Derived.Test.YtcapgmoipacioaaU3Zg
import Derived.Test.YtcapgmoipacioaaPpsocialYearZg
namespace Go.Proofs.Ytcapgmoipacioaa.P
open Go.RowKit Go.Proofs.YtcapgmoipacioaaW.PrintWords Go.Proofs.YtcapgmoipacioaaW.PrintLast Go.Proofs.YtcapgmoipacioaaW.PrintMore
set_option linter.unusedVariables false
set_option linter.unusedSimpArgs false
def capM (p y : Int) : Int := if p > 0 then mn (mx 0 y) p else mx 0 y
def underM (p q x a : Int) : Int := if q > 0 then mn (capM p x) (mx 0 (q - mx 0 a)) else capM p x
def onM (c : S120) (b : S67) : Int := if c.f1 = 1 then mx 0 b.f1 else mx 0 b.f2
def xM (c : S120) (b : S67) (a : Int) : Int := underM c.f3 c.f4 (onM c b) a
def rb (b : S67) : Bool := rightB b.f0 && (rightB b.f1 && rightB b.f2)
def shM (c : S120) (x : Int) : S36 := ⟨rndM (exFrom S106.f1 x c.f2 c.f2.length 0 0) c.f5, rndM (exFrom S106.f2 x c.f2 c.f2.length 0 0) c.f5⟩
theorem capM_bd {p y : Int} (hp : 0 ≤ p) : 0 ≤ capM p y ∧ capM p y ≤ mx 0 y ∧ (0 < p → capM p y ≤ p) := by
  unfold capM mn mx
  repeat' split
  all_goals omega
theorem underM_bd {p q x a : Int} (hp : 0 ≤ p) (hq : 0 ≤ q) (ha : 0 ≤ a) : 0 ≤ underM p q x a ∧ underM p q x a ≤ mx 0 x ∧ (0 < p → underM p q x a ≤ p) ∧ (0 < q → a ≤ q → a + underM p q x a ≤ q) := by
  have b := capM_bd (y := x) hp; unfold underM mn; generalize capM p x = z at b; unfold mx at *
  repeat' split
  all_goals omega
theorem onM_bd {c : S120} {b : S67} (h : rb b = true) : 0 ≤ onM c b ∧ onM c b ≤ 100000000000 := by
  unfold rb at h; simp only [Bool.and_eq_true] at h; have h1 := rightB_iff.1 h.2.1; have h2 := rightB_iff.1 h.2.2; unfold onM mx
  repeat' split
  all_goals omega
theorem xM_bd {c : S120} (hc : ConOk c) {b : S67} (h : rb b = true) {a : Int} (ha : 0 ≤ a) : 0 ≤ xM c b a ∧ xM c b a ≤ 100000000000 ∧ (0 < c.f3 → xM c b a ≤ c.f3) ∧ (0 < c.f4 → a ≤ c.f4 → a + xM c b a ≤ c.f4) := by
  have o := onM_bd (c := c) h; obtain ⟨u1, u2, u3, u4⟩ := underM_bd (x := onM c b) hc.per.1 hc.year.1 ha; refine ⟨u1, ?_, u3, u4⟩
  have : mx 0 (onM c b) ≤ 100000000000 := by unfold mx; split <;> omega
  exact Int.le_trans u2 this
theorem On_is (c : S120) (b : S67) : base_On.f c.f0 c.f1 c.f2 c.f3 c.f4 c.f5 b.f0 b.f1 b.f2 = some (onM c b) := by
  unfold base_On.f onM
  split <;> rfl
theorem Under_is {c : S120} (hc : ConOk c) (x a : Int) (ha : 0 ≤ a ∧ a ≤ 100000000000) (k : Nat) (hk : 1 ≤ k) : base_Under.f k c.f0 c.f1 c.f2 c.f3 c.f4 c.f5 x a = some (underM c.f3 c.f4 x a) := by
  obtain ⟨k, rfl⟩ : ∃ j, k = j + 1 := ⟨k - 1, by omega⟩; have y := hc.year; have w : wrap64 (c.f4 - mx 0 a) = c.f4 - mx 0 a := wrap_id (by unfold mx; split <;> omega) (by unfold mx; split <;> omega)
  have j : ∀ z, base_Under.j0 (k + 1) z a c.f0 c.f1 c.f2 c.f3 c.f4 c.f5 = some (if c.f4 > 0 then mn z (mx 0 (c.f4 - mx 0 a)) else z) := by
    intro z; rw [base_Under.j0, w]
    split <;> rfl
  unfold base_Under.f underM capM; by_cases h : c.f3 > 0
  · rw [if_pos h, if_pos h, j]
  · rw [if_neg h, if_neg h, j]
theorem Due_is {c : S120} (hc : ConOk c) {x : Int} (h0 : 0 ≤ x) (h1 : x ≤ 100000000000) : social_Due.f c.f0 c.f1 c.f2 c.f3 c.f4 c.f5 x = some ((shM c x).f0, (shM c x).f1, 0) := by
  unfold social_Due.f; rw [if_pos ⟨good_iff.2 hc.bands, rightB_iff.2 ⟨by omega, h1⟩, hc.mode⟩]
  rfl
def perOk : List S120 → S67 → List Int → Bool
  | c :: cs, b, a :: A => decide (a + xM c b a ≤ 100000000000) && perOk cs b A
  | _, _, _ => true
def perRow : List S120 → S67 → List Int → List S36
  | c :: cs, b, a :: A => shM c (xM c b a) :: perRow cs b A
  | _, _, _ => []
def perNext : List S120 → S67 → List Int → List Int
  | c :: cs, b, a :: A => (a + xM c b a) :: perNext cs b A
  | _, _, _ => []
theorem rd120_mid (pre suf : List S120) (x : S120) : rd_T120 (pre ++ x :: suf) (pre.length : Int) = x := by
  unfold rd_T120
  simp [List.getD_eq_getElem?_getD]
theorem set_mid (pre suf : List Int) (x y : Int) : (pre ++ x :: suf).set pre.length y = (pre ++ [y]) ++ suf := by simp
theorem addM_in {a x : Int} (a0 : 0 ≤ a) (a1 : a ≤ 100000000000) (x0 : 0 ≤ x) (x1 : x ≤ 100000000000) (h : a + x ≤ 100000000000) : addM a x = (a + x, 0) := by
  unfold addM checkM; rw [rightB_iff.2 ⟨by omega, a1⟩, rightB_iff.2 ⟨by omega, x1⟩, rightB_iff.2 ⟨by omega, h⟩]
  rfl
theorem addM_out {a x : Int} (a0 : 0 ≤ a) (a1 : a ≤ 100000000000) (x0 : 0 ≤ x) (x1 : x ≤ 100000000000) (h : 100000000000 < a + x) : addM a x = (0, 10) := by
  unfold addM checkM; rw [rightB_iff.2 ⟨by omega, a1⟩, rightB_iff.2 ⟨by omega, x1⟩, show rightB (a + x) = false from Bool.eq_false_iff.2 (fun q => by have := rightB_iff.1 q; omega)]
  rfl
theorem per_l0 (C : List S120) (A : List Int) (b : S67) (hb : rb b = true) (h6 : C.length ≤ 6) (suf : List S120) :
    ∀ (sa : List Int) (pre : List S120) (pa : List Int) (acc : List S36) (nx : List Int) (k : Nat), C = pre ++ suf → A = pa ++ sa → pa.length = pre.length → sa.length = suf.length → acc.length = pre.length → nx.length = pre.length → (∀ c ∈ suf, ConOk c) → (∀ a ∈ sa, 0 ≤ a ∧ a ≤ 100000000000) → suf.length + 20 ≤ k →
    social_Period.l0 k A acc (nx ++ sa) C (C.length : Int) (pre.length : Int) b.f0 b.f1 b.f2 = some (if perOk suf b sa = true then (acc ++ perRow suf b sa, nx ++ perNext suf b sa, 0) else ([], [], 10)) := by
  induction suf with
  | nil =>
    intro sa pre pa acc nx k hC hA hpa hsa hacc hnx hc ha hk; obtain ⟨k, rfl⟩ : ∃ m, k = m + 1 := ⟨k - 1, by omega⟩; obtain rfl : sa = [] := List.eq_nil_of_length_eq_zero hsa; rw [social_Period.l0, if_neg (by rw [hC]; simp)]
    simp [perOk, perRow, perNext]
  | cons c t ih =>
    intro sa pre pa acc nx k hC hA hpa hsa hacc hnx hc ha hk; simp only [List.length_cons] at hk hsa; obtain ⟨k, rfl⟩ : ∃ m, k = m + 1 := ⟨k - 1, by omega⟩
    cases sa with
    | nil => simp at hsa
    | cons a sa =>
    simp only [List.length_cons] at hsa; have hlen : C.length = pre.length + (t.length + 1) := by rw [hC]; simp
    have hlA : A.length = pre.length + (t.length + 1) := by rw [hA]; simp; omega
    have r0 : rd_T120 C (pre.length : Int) = c := by rw [hC]; exact rd120_mid pre t c
    have r1 : rd A (pre.length : Int) = a := by rw [hA, ← hpa]; exact rd_mid pa sa a
    have oc := hc c List.mem_cons_self; have oa := ha a List.mem_cons_self; have xb := xM_bd oc hb oa.1; have U := Under_is oc (onM c b) a oa k (by omega); have D := Due_is oc xb.1 xb.2.1; have M := money_Add_is a (xM c b a) k (by omega); have g0 : 0 ≤ (pre.length : Int) := Int.natCast_nonneg _; have g1 : (pre.length : Int) < (C.length : Int) := by omega
    have g2 : (pre.length : Int) < (A.length : Int) := by omega
    have g3 : (pre.length : Int) < ((nx ++ a :: sa).length : Int) := by rw [List.length_append, List.length_cons]; omega
    have g4 : acc.length < 8796093022208 := by omega
    have xe : underM c.f3 c.f4 (onM c b) a = xM c b a := rfl; have ss : (nx ++ a :: sa).set ((pre.length : Int)).toNat (a + xM c b a) = (nx ++ [a + xM c b a]) ++ sa := by rw [Int.toNat_natCast, ← hnx]; exact set_mid nx sa a _
    have next := ih sa (pre ++ [c]) (pa ++ [a]) (acc ++ [shM c (xM c b a)]) (nx ++ [a + xM c b a]) k (by rw [hC]; simp) (by rw [hA]; simp) (by simp; omega) (by omega) (by simp; omega) (by simp; omega) (fun z hz => hc z (List.mem_cons_of_mem _ hz)) (fun z hz => ha z (List.mem_cons_of_mem _ hz)) (by omega); rw [show ((pre ++ [c]).length : Int) = (pre.length : Int) + 1 by simp] at next; rw [social_Period.l0, if_pos g1, if_pos g0, if_pos g1, r0, On_is, Option.bind_some, if_pos g2, r1, U, Option.bind_some, xe, D, Option.bind_some, if_pos rfl, M, Option.bind_some, if_pos g3, show wrap64 ((pre.length : Int) + 1) = (pre.length : Int) + 1 from wrap_id (by omega) (by omega)]; by_cases h : a + xM c b a ≤ 100000000000
    · have am : addM a (xM c b a) = (a + xM c b a, 0) := addM_in (by omega) (by omega) (by omega) (by omega) h; rw [am, if_pos rfl, if_pos g4, ss]; have e : (⟨(shM c (xM c b a)).f0, (shM c (xM c b a)).f1⟩ : S36) = shM c (xM c b a) := rfl; rw [e, next]; simp only [perOk, perRow, perNext, decide_eq_true h, Bool.true_and, List.append_assoc, List.cons_append, List.nil_append]
    · have am : addM a (xM c b a) = (0, 10) := addM_out (by omega) (by omega) (by omega) (by omega) (by omega); rw [am, if_neg (by decide)]; simp only [perOk, decide_eq_false h, Bool.false_and]
      rfl
def AOk (C : List S120) (A : List Int) : Prop := A.length = C.length ∧ ∀ a ∈ A, 0 ≤ a ∧ a ≤ 100000000000
theorem period_is (C : List S120) (hC : ∀ c ∈ C, ConOk c) (h6 : C.length ≤ 6) (A : List Int) (hA : AOk C A) (b : S67) (L : List (List S106)) (l2 : List S209) (a3 a4 : Int) (k : Nat) (hk : 40 ≤ k) :
    social_Period.f k L C l2 a3 a4 b.f0 b.f1 b.f2 A = some (if rb b && perOk C b A then (perRow C b A, perNext C b A, 0) else ([], [], 10)) := by
  obtain ⟨k, rfl⟩ : ∃ m, k = m + 1 := ⟨k - 1, by omega⟩; have hl := hA.1; have R : base_Right.f (k + 1) b.f0 b.f1 b.f2 = some (rb b) := by unfold base_Right.f; rw [money_Right_three _ _ _ _ (by omega)]; rfl
  have M : money_Right.f (k + 1) A = some true := by
    rw [money_Right_is A (k + 1) (by omega) (by omega)]
    congr 1
    rw [List.all_eq_true]; intro a ha; have := hA.2 a ha; exact rightB_iff.2 ⟨by omega, by omega⟩
  unfold social_Period.f; rw [if_pos (by omega), R, Option.bind_some]
  cases h : rb b with
  | false => rw [if_neg (by decide), social_Period.j0, if_pos rfl]; rfl
  | true =>
    have cl : slices_Clone_int64_int64.f A = some A := by unfold slices_Clone_int64_int64.f; rw [if_pos (by omega)]
    have P := per_l0 C A b h h6 C A [] [] [] [] k rfl rfl rfl hl rfl rfl hC hA.2 (by omega); simp only [List.nil_append] at P; rw [if_pos rfl, M, Option.bind_some, social_Period.j0, if_neg (by decide), cl, Option.bind_some]; rw [Bool.true_and]; exact P
theorem perRow_len : ∀ (C : List S120) (b : S67) (A : List Int), A.length = C.length → (perRow C b A).length = C.length
  | [], _, _, _ => by simp [perRow]
  | c :: C, b, [], h => by simp at h
  | c :: C, b, a :: A, h => by
    rw [perRow, List.length_cons, List.length_cons, perRow_len C b A (by simpa using h)]
theorem perNext_ok : ∀ (C : List S120) (b : S67) (A : List Int), (∀ c ∈ C, ConOk c) → rb b = true → AOk C A → perOk C b A = true → AOk C (perNext C b A)
  | [], _, _, _, _, _, _ => ⟨by simp [perNext], by simp [perNext]⟩
  | c :: C, b, [], _, _, h, _ => by simp [AOk] at h
  | c :: C, b, a :: A, hC, hb, h, ho => by
    rw [perOk, Bool.and_eq_true] at ho
    have ih := perNext_ok C b A (fun z hz => hC z (List.mem_cons_of_mem _ hz)) hb ⟨by simpa using h.1, fun z hz => h.2 z (List.mem_cons_of_mem _ hz)⟩ ho.2
    have oa := h.2 a List.mem_cons_self
    have xb := xM_bd (hC c List.mem_cons_self) hb oa.1
    have h1 := of_decide_eq_true ho.1
    refine ⟨by rw [perNext, List.length_cons, List.length_cons, ih.1], fun z hz => ?_⟩
    rw [perNext] at hz
    rcases List.mem_cons.1 hz with rfl | hz
    · omega
    · exact ih.2 z hz
def yearS (C : List S120) : List Int → List S67 → Option (List (List S36))
  | _, [] => some []
  | A, b :: t => if rb b && perOk C b A then (yearS C (perNext C b A) t).map (perRow C b A :: ·) else none
theorem rd67_mid (pre suf : List S67) (x : S67) : rd_T67 (pre ++ x :: suf) (pre.length : Int) = x := by
  unfold rd_T67
  simp [List.getD_eq_getElem?_getD]
theorem syear_l0 (C : List S120) (hC : ∀ c ∈ C, ConOk c) (h6 : C.length ≤ 6) (L : List (List S106)) (l2 : List S209) (a3 a4 : Int) (l : List S67) (h60 : l.length ≤ 60) (suf : List S67) :
    ∀ (pre : List S67) (A : List Int) (acc : List (List S36)) (k : Nat), l = pre ++ suf → AOk C A → acc.length = pre.length → suf.length + 60 ≤ k →
    social_Year.l0 k A acc l (l.length : Int) (pre.length : Int) L C l2 a3 a4 = some (match yearS C A suf with | some R => (acc ++ R, 0) | none => ([], 10)) := by
  induction suf with
  | nil =>
    intro pre A acc k hl hA ha hk; obtain ⟨k, rfl⟩ : ∃ m, k = m + 1 := ⟨k - 1, by omega⟩; rw [social_Year.l0, if_neg (by rw [hl]; simp)]
    simp [yearS]
  | cons b t ih =>
    intro pre A acc k hl hA ha hk; simp only [List.length_cons] at hk; obtain ⟨k, rfl⟩ : ∃ m, k = m + 1 := ⟨k - 1, by omega⟩; have hlen : l.length = pre.length + (t.length + 1) := by rw [hl]; simp
    have r0 : rd_T67 l (pre.length : Int) = b := by rw [hl]; exact rd67_mid pre t b
    have g0 : 0 ≤ (pre.length : Int) := Int.natCast_nonneg _; have g1 : (pre.length : Int) < (l.length : Int) := by omega
    have g4 : acc.length < 5864062014805 := by omega
    have P := period_is C hC h6 A hA b L l2 a3 a4 k (by omega); rw [social_Year.l0, if_pos g1, if_pos g0, if_pos g1, r0, P, Option.bind_some, show wrap64 ((pre.length : Int) + 1) = (pre.length : Int) + 1 from wrap_id (by omega) (by omega)]
    cases h : (rb b && perOk C b A) with
    | false =>
      rw [if_neg (show ¬ (false = true) by decide), if_neg (show ¬ ((10 : Int) = 0) by decide), yearS, h, if_neg (show ¬ (false = true) by decide)]
    | true =>
      rw [if_pos rfl, if_pos rfl, if_pos g4]; have h' := Bool.and_eq_true_iff.1 h; have next := ih (pre ++ [b]) (perNext C b A) (acc ++ [perRow C b A]) k (by rw [hl]; simp) (perNext_ok C b A hC h'.1 hA h'.2) (by simp; omega) (by omega); rw [show ((pre ++ [b]).length : Int) = (pre.length : Int) + 1 by simp] at next; rw [next, yearS, h, if_pos rfl]
      cases yearS C (perNext C b A) t with
      | none => rfl
      | some R => simp
theorem syear_is (C : List S120) (hC : ∀ c ∈ C, ConOk c) (h6 : C.length ≤ 6) (L : List (List S106)) (l2 : List S209) (a3 a4 : Int) (l : List S67) (h60 : l.length ≤ 60) (k : Nat) (hk : 200 ≤ k) :
    social_Year.f k L C l2 a3 a4 l = some (match yearS C (List.replicate C.length 0) l with | some R => (R, 0) | none => ([], 10)) := by
  have g := syear_l0 C hC h6 L l2 a3 a4 l h60 l [] (List.replicate C.length 0) [] k rfl ⟨by simp, fun a ha => by rw [(List.mem_replicate.1 ha).2]; decide⟩ rfl (by omega); unfold social_Year.f; rw [if_pos (Int.natCast_nonneg _), if_pos (by rw [Int.toNat_natCast]; omega), Int.toNat_natCast]; rw [show ((([] : List S67).length : Nat) : Int) = 0 from rfl] at g; rw [g]; cases yearS C (List.replicate C.length 0) l <;> rfl
end Go.Proofs.Ytcapgmoipacioaa.P
