import Derived.Test.YtcapgmoipacioaaHcheckZg
import Derived.Test.YtcapgmoipacioaaPpmoneyZg
import Derived.Test.YtcapgmoipacioaaPpfracZg
import Derived.Test.YtcapgmoipacioaaPtZg
import Derived.Test.YtcapgmoipacioaaU1Zg
import Derived.Deep.RegionWith
namespace Go.Proofs.Ytcapgmoipacioaa.P
open Go.RowKit Go.Proofs.YtcapgmoipacioaaW.PrintWords Go.Proofs.YtcapgmoipacioaaW.PrintLast Go.Proofs.YtcapgmoipacioaaW.PrintMore
set_option linter.unusedVariables false
set_option linter.unusedSimpArgs false
structure Good (l : List S106) : Prop where
  pos : 0 < l.length
  len : l.length ≤ 8
  at_ : ∀ i : Int, 0 ≤ i → i < l.length → bcAt l i = 0
theorem bcAt_zero {l : List S106} {i : Int} (h : bcAt l i = 0) :
    0 ≤ (rd_T106 l i).f0 ∧ (rd_T106 l i).f0 ≤ 100000000000 ∧ (i = 0 → (rd_T106 l i).f0 = 0) ∧ (0 < i → (rd_T106 l (i - 1)).f0 < (rd_T106 l i).f0) ∧ (0 ≤ (rd_T106 l i).f1 ∧ (rd_T106 l i).f1 ≤ 10000) ∧ 0 ≤ (rd_T106 l i).f2 ∧ (rd_T106 l i).f2 ≤ 10000 := by
  unfold bcAt at h; by_cases a : (rd_T106 l i).f0 < 0
  · rw [if_pos a] at h; cases h
  rw [if_neg a] at h; by_cases b : 100000000000 < (rd_T106 l i).f0
  · rw [if_pos b] at h; cases h
  rw [if_neg b] at h; by_cases c : i = 0 ∧ (rd_T106 l i).f0 ≠ 0
  · rw [if_pos c] at h; cases h
  rw [if_neg c] at h; by_cases d : 0 < i ∧ (rd_T106 l i).f0 ≤ (rd_T106 l (i - 1)).f0
  · rw [if_pos d] at h; cases h
  rw [if_neg d] at h; by_cases e : rateOk (rd_T106 l i).f1 = false
  · rw [if_pos e] at h; cases h
  rw [if_neg e] at h; by_cases f : rateOk (rd_T106 l i).f2 = false
  · rw [if_pos f] at h; cases h
  have e' : 0 ≤ (rd_T106 l i).f1 ∧ (rd_T106 l i).f1 ≤ 10000 := by
    have : rateOk (rd_T106 l i).f1 = true := by simpa using e
    exact of_decide_eq_true this
  have f' : 0 ≤ (rd_T106 l i).f2 ∧ (rd_T106 l i).f2 ≤ 10000 := by
    have : rateOk (rd_T106 l i).f2 = true := by simpa using f
    exact of_decide_eq_true this
  refine ⟨by omega, by omega, fun h0 => ?_, fun hi => ?_, e', f'⟩
  · exact Decidable.byContradiction fun hn => c ⟨h0, hn⟩
  · exact Int.not_le.1 fun hn => d ⟨hi, hn⟩
theorem bc_all {l : List S106} : ∀ (n : Nat) (i : Int), bcFrom l n i = 0 → ∀ j, i ≤ j → j < i + n → bcAt l j = 0
  | 0, i, _, j, h1, h2 => by omega
  | n + 1, i, h, j, h1, h2 => by
    rw [bcFrom] at h
    by_cases a : bcAt l i = 0
    · rw [if_pos a] at h
      by_cases e : j = i
      · subst e; exact a
      · exact bc_all n (i + 1) h j (by omega) (by omega)
    · rw [if_neg a] at h; exact absurd h a
theorem bc_none {l : List S106} : ∀ (n : Nat) (i : Int), (∀ j, i ≤ j → j < i + n → bcAt l j = 0) → bcFrom l n i = 0
  | 0, i, _ => rfl
  | n + 1, i, h => by
    rw [bcFrom, if_pos (h i (by omega) (by omega))]
    exact bc_none n (i + 1) fun j h1 h2 => h j (by omega) (by omega)
def bandCheck (l : List S106) : Int := if l.length = 0 ∨ 8 < l.length then 2 else bcFrom l l.length 0
theorem band_Check_is (l : List S106) : band_Check.f l = some (bandCheck l) := rfl
theorem good_iff {l : List S106} : bandCheck l = 0 ↔ Good l := by
  unfold bandCheck
  constructor
  · intro h; by_cases a : l.length = 0 ∨ 8 < l.length
    · rw [if_pos a] at h; cases h
    · rw [if_neg a] at h; exact ⟨by omega, by omega, fun i h0 h1 => bc_all _ _ h i h0 (by omega)⟩
  · intro h; have := h.pos; have := h.len; rw [if_neg (by omega)]; exact bc_none _ _ fun j h1 h2 => h.at_ j h1 (by omega)
theorem Good.bd {l : List S106} (h : Good l) {i : Int} (h0 : 0 ≤ i) (h1 : i < l.length) :
    0 ≤ (rd_T106 l i).f0 ∧ (rd_T106 l i).f0 ≤ 100000000000 ∧ (i = 0 → (rd_T106 l i).f0 = 0) ∧ (0 < i → (rd_T106 l (i - 1)).f0 < (rd_T106 l i).f0) ∧ (0 ≤ (rd_T106 l i).f1 ∧ (rd_T106 l i).f1 ≤ 10000) ∧ 0 ≤ (rd_T106 l i).f2 ∧ (rd_T106 l i).f2 ≤ 10000 := bcAt_zero (h.at_ i h0 h1)
def wdt (x : Int) (l : List S106) (i : Int) : Int := mx 0 ((if i + 1 < (l.length : Int) then mn x (rd_T106 l (i + 1)).f0 else x) - (rd_T106 l i).f0)
def exFrom (g : S106 → Int) (x : Int) (l : List S106) : Nat → Int → Int → Int
  | 0, _, acc => acc
  | n + 1, i, acc => if x ≤ (rd_T106 l i).f0 then acc else exFrom g x l n (i + 1) (acc + wdt x l i * g (rd_T106 l i))
theorem ex_end {g : S106 → Int} {x : Int} {l : List S106} {n : Nat} {i acc R : Int} (h : exFrom g x l n i acc = R) (hn : n = 0) : acc = R := by subst hn; exact h
theorem ex_stop {g : S106 → Int} {x : Int} {l : List S106} {n : Nat} {i acc R : Int} (h : exFrom g x l (n + 1) i acc = R) (c : x ≤ (rd_T106 l i).f0) : acc = R := by rw [exFrom, if_pos c] at h; exact h
theorem ex_go {g : S106 → Int} {x : Int} {l : List S106} {n : Nat} {i acc R : Int} (h : exFrom g x l (n + 1) i acc = R) (c : ¬ x ≤ (rd_T106 l i).f0) : exFrom g x l n (i + 1) (acc + wdt x l i * g (rd_T106 l i)) = R := by rw [exFrom, if_neg c] at h; exact h
theorem wdt_bd {x : Int} {l : List S106} (h : Good l) {i : Int} (h0 : 0 ≤ i) (h1 : i < l.length) (hx : rightB x = true) : 0 ≤ wdt x l i ∧ wdt x l i ≤ 100000000000 := by
  have b := h.bd h0 h1; have hx := rightB_iff.1 hx; unfold wdt mx mn
  repeat' split
  all_goals omega
theorem reads_one {w : World} {g : Nat} {x : Int} (h : w.cell? ⟨g, 0, none⟩ = some (.int .i64 x)) : ReadsInt w .i64 (some ⟨g, 0, none⟩) 1 [x] :=
  ⟨rfl, by omega, fun _ => ⟨_, rfl, fun j hj => by
    obtain rfl : j = 0 := by omega
    rw [add_plain]; exact h⟩⟩
theorem right_one (x : Int) (g : Nat) (c : Nat) (hc : 1 ≤ c) (w : World) (h : w.cell? ⟨g, 0, none⟩ = some (.int .i64 x)) : Calls Try.prog 118 #[.slice (some ⟨g, 0, none⟩) 1 c] w fun e w' => e = .returned (.bool (rightB x)) ∧ Drawn0 w w' :=
  money_Right.calls 3 (some ⟨g, 0, none⟩) c [x] (rightB x) w (Kd.C_of_reads (d := (0 : Int)) (h1 := fun _ => rfl) (reads_one h)) hc (money_Right_one x 3 (by omega))
end Go.Proofs.Ytcapgmoipacioaa.P
