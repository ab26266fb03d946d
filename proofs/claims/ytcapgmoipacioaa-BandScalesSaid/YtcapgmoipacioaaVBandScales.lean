/- BandScales, the plain law: whatever bands and whatever part, what the program's function computes is 'true'. Conditions: none. -/
import Derived.Test.YtcapgmoipacioaaU4
import Derived.Test.YtcapgmoipacioaaR1
import Derived.Test.YtcapgmoipacioaaPlBandScales
namespace Go.Proofs.Ytcapgmoipacioaa.P
open Go.RowKit Go.Proofs.YtcapgmoipacioaaW.PrintWords Go.Proofs.YtcapgmoipacioaaW.PrintLast Go.Proofs.YtcapgmoipacioaaW.PrintMore
set_option linter.unusedVariables false
set_option linter.unusedSimpArgs false
theorem ref_Part_is {n d x : Int} (h0 : 0 ≤ x) (h1 : x ≤ 100000000000) (hn : 0 ≤ n) (hd : 1 ≤ d) (hnd : n ≤ d) (hd2 : d ≤ 1048576) : stipendref05_Part.f x n d = some (Int.tdiv (x * n) d) := by
  obtain ⟨a, b⟩ := sc_small h0 h1 hn hnd hd2
  obtain ⟨p, q⟩ := sc_bd h0 h1 hn hd hnd
  unfold stipendref05_Part.f
  rw [if_neg (by omega), wrap_id (x := x * n) (by omega) (by omega), wrap_id (by omega) (by omega)]
theorem BandScales_j3 {n d : Int} {l : List S106} {done rest : List S106} {b : S106} {i : Int} {k : Nat} (hi : wrap64 (i + 1) = i + 1) (hd8 : done.length ≤ 8)
    (ih : stipendlaw05_BandScales.l0 k l n d (done ++ scB n d b :: rest) ((done.length : Int) + 1) l (l.length : Int) (i + 1) = some true) :
    stipendlaw05_BandScales.j3 (k + 2) l n d (done ++ scB n d b :: rest) (done.length : Int) (Int.tdiv (b.f0 * n) d) l (l.length : Int) i false b.f0 b.f1 b.f2 = some true := by
  have hat : rd_T106 (done ++ scB n d b :: rest) (done.length : Int) = scB n d b := rd106_mid done rest _
  simp only [stipendlaw05_BandScales.j3, stipendlaw05_BandScales.j4, Bool.false_eq_true, if_false]
  rw [hat, if_neg (by simp; omega), if_pos (by omega), if_pos (by simp; omega), wrap_id (x := (done.length : Int) + 1) (by omega) (by omega), hi, ih]
  simp [scB]
theorem BandScales_l0 {n d : Int} (hn : 0 ≤ n) (hd : 1 ≤ d) (hnd : n ≤ d) (hd2 : d ≤ 1048576) (l s : List S106) (hl : l.length ≤ 8) (suf : List S106) : ∀ (pre done : List S106) (k : Nat), l = pre ++ suf → s = done ++ keepS n d suf → (∀ x ∈ suf, BdB x) → done.length ≤ pre.length → 3 * suf.length + 1 ≤ k →
    stipendlaw05_BandScales.l0 k l n d s (done.length : Int) l (l.length : Int) (pre.length : Int) = some true := by
  induction suf with
  | nil =>
    intro pre done k el es ha hdn hk
    obtain ⟨k, rfl⟩ : ∃ m, k = m + 1 := ⟨k - 1, by omega⟩
    subst el
    simp only [keepS, List.append_nil] at es ⊢
    subst es
    simp only [stipendlaw05_BandScales.l0]
    rw [if_neg (by omega)]
    simp
  | cons b suf IH =>
    intro pre done k el es ha hdn hk
    simp only [List.length_cons] at hk
    obtain ⟨k, rfl⟩ : ∃ m, k = m + 3 := ⟨k - 3, by omega⟩
    have hB := ha b List.mem_cons_self
    have hle : l.length = pre.length + suf.length + 1 := by rw [el]; simp; omega
    have hat : rd_T106 l (pre.length : Int) = b := by rw [el]; exact rd106_mid pre _ b
    have hw : wrap64 ((pre.length : Int) + 1) = (pre.length : Int) + 1 := wrap_id (by omega) (by omega)
    have hm : ∀ x ∈ suf, BdB x := fun x hx => ha x (List.mem_cons_of_mem _ hx)
    have e1 : l = (pre ++ [b]) ++ suf := by rw [el]; simp
    have e2 : (((pre ++ [b]).length : Nat) : Int) = (pre.length : Int) + 1 := by simp
    have e3 : (((done ++ [scB n d b]).length : Nat) : Int) = (done.length : Int) + 1 := by simp
    have go2 : s = (done ++ [scB n d b]) ++ keepS n d suf → stipendlaw05_BandScales.j3 (k + 2) l n d s (done.length : Int) (Int.tdiv (b.f0 * n) d) l (l.length : Int) (pre.length : Int) false b.f0 b.f1 b.f2 = some true := by
      intro es2
      have ih := IH (pre ++ [b]) (done ++ [scB n d b]) k e1 es2 hm (by simp; omega) (by omega)
      rw [e2, e3] at ih
      rw [es2, List.append_assoc, List.singleton_append] at ih ⊢
      exact BandScales_j3 hw (by omega) ih
    simp only [stipendlaw05_BandScales.l0]
    rw [hat, if_pos (by omega), if_pos (by omega), if_pos (by omega), ref_Part_is hB.1 hB.2.1 hn hd hnd hd2, Option.bind_some, hw]
    cases suf with
    | nil =>
      simp only [List.length_nil] at hle
      rw [if_neg (by omega)]
      exact go2 (by simpa [keepS] using es)
    | cons c t =>
      have hC := hm c List.mem_cons_self
      simp only [List.length_cons] at hle hk
      have hat2 : rd_T106 l ((pre.length : Int) + 1) = c := by rw [el]; exact rd106_next pre b c t
      rw [hat2, if_pos (by omega), if_pos (by omega), ref_Part_is hC.1 hC.2.1 hn hd hnd hd2, Option.bind_some]
      rw [keepS] at es
      by_cases c1 : Int.tdiv (c.f0 * n) d = Int.tdiv (b.f0 * n) d
      · rw [if_pos c1] at es
        rw [beq_iff_eq.2 c1]
        have ih := IH (pre ++ [b]) done (k + 1) e1 es hm (by simp; omega) (by simp; omega)
        rw [e2] at ih
        simp only [stipendlaw05_BandScales.j3, if_true]
        rw [hw]
        exact ih
      · rw [if_neg c1] at es
        rw [beq_eq_false_iff_ne.2 c1]
        exact go2 (by rw [es]; simp)
theorem BandScales_pure (l : List S106) (n d : Int) (_ : ∀ a ∈ l, W106 a) (_ : (Lit.int .i64 n).wf = true) (_ : (Lit.int .i64 d).wf = true) : ∃ k, stipendlaw05_BandScales.f k l n d = some true := by
  refine ⟨60, ?_⟩
  unfold stipendlaw05_BandScales.f
  rw [sums_is]
  simp only [Option.bind_some, if_true]
  rw [ref_Check_is l 60 (by omega)]
  simp only [Option.bind_some]
  by_cases hc : bandCheck l = 0
  · have hg := good_iff.1 hc
    rw [if_pos hc]
    have hbad : (n < 0 ∨ d < 1 ∨ n > d ∨ d > 1048576) → band_Scale.f 60 n d l = some ([], 1) := by
      intro h
      unfold band_Scale.f
      rw [band_Check_is, hc]
      simp only [Option.bind_some, if_true]
      by_cases a1 : n < 0
      · rw [if_pos a1]; rfl
      rw [if_neg a1]
      by_cases a2 : d < 1
      · rw [if_pos a2]; rfl
      rw [if_neg a2]
      by_cases a3 : n > d
      · rw [if_pos a3]; rfl
      rw [if_neg a3]
      have a4 : d > 1048576 := by omega
      rw [decide_eq_true a4]; rfl
    by_cases a1 : n < 0
    · rw [hbad (.inl a1)]; simp only [Option.bind_some]; rw [if_pos a1]; rfl
    by_cases a2 : d < 1
    · rw [hbad (.inr (.inl a2))]; simp only [Option.bind_some]; rw [if_neg a1, if_pos a2]; rfl
    by_cases a3 : n > d
    · rw [hbad (.inr (.inr (.inl a3)))]; simp only [Option.bind_some]; rw [if_neg a1, if_neg a2, if_pos a3]; rfl
    by_cases a4 : d > 1048576
    · rw [hbad (.inr (.inr (.inr a4)))]; simp only [Option.bind_some]; rw [if_neg a1, if_neg a2, if_neg a3, decide_eq_true a4]; rfl
    rw [band_Scale_is hg (by omega) (by omega) (by omega) (by omega) 60 (by omega)]
    simp only [Option.bind_some]
    have hl := hg.len
    have hk := keepS_len n d l
    rw [if_neg a1, if_neg a2, if_neg a3, decide_eq_false a4]
    simp only [stipendlaw05_BandScales.j0, stipendlaw05_BandScales.j1, Bool.false_eq_true, if_false, if_true]
    rw [band_Check_is, good_iff.2 (keepS_good hg (by omega) (by omega) (by omega))]
    simp only [Option.bind_some, if_true]
    rw [decide_eq_false (by omega)]
    simp only [Bool.false_eq_true, if_false]
    exact BandScales_l0 (by omega) (by omega) (by omega) (by omega) l _ hl l [] [] 58 (by simp) (by simp) hg.all (by simp) (by omega)
  · rw [if_neg hc]
end Go.Proofs.Ytcapgmoipacioaa.P
