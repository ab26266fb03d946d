import Derived.Test.YtcapgmoipacioaaPtZg
import Derived.ProofKit
import Derived.OpenShut
import Derived.ChangeArms
import Derived.ChangeOld
import Derived.Deep.Slices
namespace Go.Proofs.Ytcapgmoipacioaa.P
open Go.RowKit Go.Proofs.YtcapgmoipacioaaW.PrintWords Go.Proofs.YtcapgmoipacioaaW.PrintLast Go.Proofs.YtcapgmoipacioaaW.PrintMore
open Go.ChangeShapes Go.WideShapes
set_option linter.unusedVariables false
set_option linter.unusedSimpArgs false
def Opens (P : Program) {α : Type} (d : Kd α) (t : TypeId) (W : α → Prop) : Prop :=
  ∀ (H : Type) (enc : TypeId × Value → H) (w : World) (base : Nat) (spare : Nat → Bool) (held : Bool) (fuel : Nat) (cs : List Value) (x : DataW H × List MemPlace),
    DataW.trod enc P w base spare held fuel t cs = some x → ∃ a, d.K w a cs ∧ W a
theorem opens_int {P : Program} {t : TypeId} {k : IntKind} (ht : P.underlying t = some (.int k)) : Opens P (Kd.int k) t (fun n => (Lit.int k n).wf = true) := by
  intro H enc w base spare held fuel cs x h; obtain ⟨n, rfl, _, hw⟩ := DataW.trod_int ht h; exact ⟨n, rfl, hw⟩
theorem opens_string {P : Program} {t : TypeId} (ht : P.underlying t = some .string) : Opens P Kd.string t (fun s => s.size ≤ maxLen) := by
  intro H enc w base spare held fuel cs x h; obtain ⟨n, rfl, _, hw⟩ := DataW.trod_string ht h; exact ⟨n, rfl, hw⟩
def OpensF (P : Program) {α : Type} (d : Kd α) (fs : List Field) (o : Nat) (W : α → Prop) : Prop :=
  ∀ (H : Type) (enc : TypeId × Value → H) (w : World) (base : Nat) (spare : Nat → Bool) (held : Bool) (fuel : Nat) (cs : List Value),
    cs.length = o + d.sz → (∀ f ∈ fs, ∃ x, DataW.trod enc P w base spare held fuel f.type ((cs.drop f.offset).take (P.cellsOf f.type)) = some x) → ∃ a, d.K w a (cs.drop o) ∧ W a
theorem opensF_last {P : Program} {α : Type} {d : Kd α} {f : Field} {o : Nat} {W : α → Prop} (h : Opens P d f.type W) (ho : f.offset = o) (hs : P.cellsOf f.type = d.sz) : OpensF P d [f] o W := by
  intro H enc w base spare held fuel cs hl hf; obtain ⟨x, hx⟩ := hf f (List.mem_singleton.2 rfl); rw [ho, hs, List.take_of_length_le (by rw [List.length_drop]; omega)] at hx; exact h H enc w base spare held fuel _ x hx
theorem opensF_cons {P : Program} {α β : Type} {d : Kd α} {d' : Kd β} {f : Field} {fs : List Field} {o o' : Nat} {W : α → Prop} {W' : β → Prop} (h : Opens P d f.type W) (ho : f.offset = o) (hs : P.cellsOf f.type = d.sz)
    (ho' : o' = o + d.sz) (h' : OpensF P d' fs o' W') : OpensF P (Kd.pair d d') (f :: fs) o (fun x => W x.1 ∧ W' x.2) := by
  intro H enc w base spare held fuel cs hl hf; obtain ⟨x, hx⟩ := hf f List.mem_cons_self; rw [ho, hs] at hx; obtain ⟨a, ka, wa⟩ := h H enc w base spare held fuel _ x hx
  have hl' : cs.length = o' + d'.sz := by
    have : (Kd.pair d d').sz = d.sz + d'.sz := rfl; rw [this] at hl; omega
  obtain ⟨b, kb, wb⟩ := h' H enc w base spare held fuel cs hl' (fun g hg => hf g (List.mem_cons_of_mem _ hg)); refine ⟨(a, b), ⟨(cs.drop o).take d.sz, cs.drop o', ?_, ka, kb⟩, wa, wb⟩
  rw [ho', ← List.drop_drop, List.take_append_drop]
theorem opens_struct {P : Program} {α β : Type} {d : Kd α} {fs : List Field} {t : TypeId} {W : α → Prop} {f : β → α} {g : α → β} (ht : P.underlying t = some (.struct fs.toArray)) (hs : P.cellsOf t = d.sz) (h : OpensF P d fs 0 W) (hg : ∀ a, f (g a) = a) :
    Opens P (Kd.iso d f) t (fun b => W (f b)) := by
  intro H enc w base spare held fuel cs x hx; obtain ⟨xs, n, rfl, _, hl, hsz, hf⟩ := DataW.trod_struct ht hx
  obtain ⟨a, ka, wa⟩ := h H enc w base spare held n cs (by rw [hl, hs]; omega) (fun f hm => by
    obtain ⟨i, hi, rfl⟩ := List.getElem_of_mem hm; have := hf i fs[i] (by simp [hi]); refine ⟨xs[i]'(by rw [hsz]; simpa using hi), ?_⟩
    rw [this, List.getElem?_eq_getElem])
  exact ⟨g a, by show d.K w (f (g a)) cs; rw [hg]; simpa using ka, by show W (f (g a)); rw [hg]; exact wa⟩
theorem pick_list {α : Type} {Q : Nat → α → Prop} : ∀ n : Nat, (∀ i, i < n → ∃ a, Q i a) → ∃ xs : List α, xs.length = n ∧ ∀ i (hi : i < xs.length), Q i xs[i] := by
  intro n
  induction n with
  | zero => exact fun _ => ⟨[], rfl, fun i hi => absurd hi (by simp)⟩
  | succ k ih =>
    intro h; obtain ⟨xs, hl, hxs⟩ := ih (fun i hi => h i (by omega)); obtain ⟨a, ha⟩ := h k (by omega); refine ⟨xs ++ [a], by simp [hl], fun i hi => ?_⟩
    by_cases e1 : i < xs.length
    · rw [List.getElem_append_left e1]; exact hxs i e1
    · have : i = xs.length := by simp at hi; omega
      subst this; rw [List.getElem_append_right (Nat.le_refl _)]; simp only [Nat.sub_self, List.getElem_singleton]; rw [hl]; exact ha
theorem opens_slice {P : Program} {α : Type} {d : Kd α} {t e : TypeId} {W : α → Prop} (ht : P.underlying t = some (.slice e)) (hs : P.cellsOf e = d.sz) (h : Opens P d e W) : Opens P (Kd.slice e d) t (fun l => ∀ a ∈ l, W a) := by
  intro H enc w base spare held fuel cs x hx
  rcases Go.Deep.open_slice ht hx with ⟨rfl, _⟩ | ⟨ad, len, cap, m, n, D, Pl, rfl, _, hlc, hcm, hm, _, hel⟩
  · refine ⟨[], ⟨none, 0, rfl, Nat.le_refl _, rfl, by simp, fun hp => absurd hp (by simp)⟩, by simp⟩
  · have hlm : len ≤ m := by rw [hm]; split <;> omega
    have hex : ∀ i, i < len → ∃ a c, d.K w a c ∧ W a ∧ w.cells? base (ad.add (i * P.cellsOf e)) (P.cellsOf e) = some c := by
      intro i hi; obtain ⟨c, h1, h2⟩ := hel i (by omega); obtain ⟨a, ka, wa⟩ := h H enc w base spare held n c _ h2; exact ⟨a, c, ka, wa, h1⟩
    have hpick := pick_list (Q := fun i a => ∃ c, d.K w a c ∧ W a ∧ w.cells? base (ad.add (i * P.cellsOf e)) (P.cellsOf e) = some c) len hex; obtain ⟨xs, hl, hxs⟩ := hpick; subst hl; refine ⟨xs, ⟨some ad, cap, rfl, hlc, rfl, ?_, fun hp => ⟨ad, rfl, fun j p hj => ?_⟩⟩, fun a ha => ?_⟩
    · have : maxLen = 9223372036854775807 := rfl
      omega
    · obtain ⟨hj1, rfl⟩ := List.getElem?_eq_some_iff.1 hj; obtain ⟨c, kc, _, hc⟩ := hxs j hj1; obtain ⟨_, hcl, hcell⟩ := World.cells?_some hc; refine ⟨c, by rw [hcl, hs], kc, fun i u hu => ?_⟩
      have hi : i < P.cellsOf e := by rw [← hcl]; exact (List.getElem?_eq_some_iff.1 hu).1
      have := hcell i hi; rw [Go.Deep.add_add, hs, hu] at this; exact this
    · obtain ⟨j, hj, rfl⟩ := List.getElem_of_mem ha; exact (hxs j hj).choose_spec.2.1
theorem open_arg_slice {P : Program} {α : Type} {d : Kd α} {t e : TypeId} {W : List α → Prop} {H : Type} {enc : TypeId × Value → H} {w : World} {base : Nat} {spare : Nat → Bool} {held : Bool} {r : Reach} {b0 : Nat} {v : Value} {dd : DataW H} {p : List MemPlace}
    (ht : P.underlying t = some (.slice e)) (ho : Opens P (Kd.slice e d) t W) (hv : Value.okWide P w r b0 t v) (h : DataW.Trod enc P w base spare held t v dd p) :
    ∃ (A : Option Addr) (c : Nat) (l : List α), v = .slice A l.length c ∧ Kd.C d w A l.length l ∧ l.length ≤ c ∧ W l := by
  obtain ⟨a0, len, cap, rfl⟩ := okWide_slice ht hv; obtain ⟨fuel, hf⟩ := h; obtain ⟨l, ⟨A, c, hcs, hlc, hC⟩, hW⟩ := ho H enc w base spare held fuel _ _ hf; simp only [Value.cells, List.cons.injEq, and_true] at hcs; exact ⟨A, c, l, hcs, hC, hlc, hW⟩
theorem open_arg_struct {P : Program} {α : Type} {d : Kd α} {t : TypeId} {fs : Array Field} {W : α → Prop} {H : Type} {enc : TypeId × Value → H} {w : World} {base : Nat} {spare : Nat → Bool} {held : Bool} {r : Reach} {b0 : Nat} {v : Value} {dd : DataW H} {p : List MemPlace}
    (ht : P.underlying t = some (.struct fs)) (ho : Opens P d t W) (hv : Value.okWide P w r b0 t v) (h : DataW.Trod enc P w base spare held t v dd p) :
    ∃ (a : α) (cs : List Value), v = .agg cs.toArray ∧ d.K w a cs ∧ W a := by
  obtain ⟨cs, rfl, hsz⟩ := okWide_struct ht hv; obtain ⟨fuel, hf⟩ := h; obtain ⟨a, ka, wa⟩ := ho H enc w base spare held fuel _ _ hf; exact ⟨a, cs.toList, by simp, by simpa [Value.cells] using ka, wa⟩
end Go.Proofs.Ytcapgmoipacioaa.P
