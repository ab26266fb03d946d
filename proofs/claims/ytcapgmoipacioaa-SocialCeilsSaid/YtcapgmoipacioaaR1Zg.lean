import Derived.Test.YtcapgmoipacioaaR0Zg
namespace Go.Proofs.Ytcapgmoipacioaa.P
open Go.RowKit Go.Proofs.YtcapgmoipacioaaW.PrintWords Go.Proofs.YtcapgmoipacioaaW.PrintLast Go.Proofs.YtcapgmoipacioaaW.PrintMore
open Go.ChangeShapes Go.WideShapes
set_option linter.unusedVariables false
def W106 (x : S106) : Prop := (Lit.int .i64 x.f0).wf = true ∧ (Lit.int .i64 x.f1).wf = true ∧ (Lit.int .i64 x.f2).wf = true
theorem opens106 : Opens Try.prog k106 106 W106 :=
  opens_struct (d := _) (f := fun x : S106 => (x.f0, x.f1, x.f2)) (g := fun p => ⟨p.1, p.2.1, p.2.2⟩) Try.underlying106 (by kernel_rfl) (opensF_cons (opens_int Try.underlying2) rfl (by kernel_rfl) rfl (opensF_cons (opens_int Try.underlying3) rfl (by kernel_rfl) rfl (opensF_last (opens_int Try.underlying3) rfl (by kernel_rfl)))) (fun _ => rfl)
def W67 (x : S67) : Prop := (Lit.int .i64 x.f0).wf = true ∧ (Lit.int .i64 x.f1).wf = true ∧ (Lit.int .i64 x.f2).wf = true
theorem opens67 : Opens Try.prog k67 67 W67 :=
  opens_struct (d := _) (f := fun x : S67 => (x.f0, x.f1, x.f2)) (g := fun p => ⟨p.1, p.2.1, p.2.2⟩) Try.underlying67 (by kernel_rfl) (opensF_cons (opens_int Try.underlying2) rfl (by kernel_rfl) rfl (opensF_cons (opens_int Try.underlying2) rfl (by kernel_rfl) rfl (opensF_last (opens_int Try.underlying2) rfl (by kernel_rfl)))) (fun _ => rfl)
def W120 (x : S120) : Prop := x.f0.size ≤ maxLen ∧ (Lit.int .i64 x.f1).wf = true ∧ (∀ a43 ∈ x.f2, W106 a43) ∧ (Lit.int .i64 x.f3).wf = true ∧ (Lit.int .i64 x.f4).wf = true ∧ (Lit.int .i64 x.f5).wf = true
theorem opens120 : Opens Try.prog k120 120 W120 :=
  opens_struct (d := _) (f := fun x : S120 => (x.f0, x.f1, x.f2, x.f3, x.f4, x.f5)) (g := fun p => ⟨p.1, p.2.1, p.2.2.1, p.2.2.2.1, p.2.2.2.2.1, p.2.2.2.2.2⟩) Try.underlying120 (by kernel_rfl) (opensF_cons (opens_string Try.underlying9) rfl (by kernel_rfl) rfl (opensF_cons (opens_int Try.underlying3) rfl (by kernel_rfl) rfl (opensF_cons (opens_slice Try.underlying43 (by kernel_rfl) opens106) rfl (by kernel_rfl) rfl (opensF_cons (opens_int Try.underlying2) rfl (by kernel_rfl) rfl (opensF_cons (opens_int Try.underlying2) rfl (by kernel_rfl) rfl (opensF_last (opens_int Try.underlying3) rfl (by kernel_rfl))))))) (fun _ => rfl)
def W209 (x : S209) : Prop := x.f0.size ≤ maxLen ∧ (Lit.int .i64 x.f1).wf = true ∧ (Lit.int .i64 x.f2).wf = true ∧ (Lit.int .i64 x.f3).wf = true
theorem opens209 : Opens Try.prog k209 209 W209 :=
  opens_struct (d := _) (f := fun x : S209 => (x.f0, x.f1, x.f2, x.f3)) (g := fun p => ⟨p.1, p.2.1, p.2.2.1, p.2.2.2⟩) Try.underlying209 (by kernel_rfl) (opensF_cons (opens_string Try.underlying9) rfl (by kernel_rfl) rfl (opensF_cons (opens_int Try.underlying3) rfl (by kernel_rfl) rfl (opensF_cons (opens_int Try.underlying3) rfl (by kernel_rfl) rfl (opensF_last (opens_int Try.underlying3) rfl (by kernel_rfl))))) (fun _ => rfl)
def W56 (x : S56) : Prop := (∀ a52 ∈ x.f0, (∀ a43 ∈ a52, W106 a43)) ∧ (∀ a53 ∈ x.f1, W120 a53) ∧ (∀ a54 ∈ x.f2, W209 a54) ∧ (Lit.int .i64 x.f3).wf = true ∧ (Lit.int .i64 x.f4).wf = true
theorem opens56 : Opens Try.prog k56 56 W56 :=
  opens_struct (d := _) (f := fun x : S56 => (x.f0, x.f1, x.f2, x.f3, x.f4)) (g := fun p => ⟨p.1, p.2.1, p.2.2.1, p.2.2.2.1, p.2.2.2.2⟩) Try.underlying56 (by kernel_rfl) (opensF_cons (opens_slice Try.underlying52 (by kernel_rfl) (opens_slice Try.underlying43 (by kernel_rfl) opens106)) rfl (by kernel_rfl) rfl (opensF_cons (opens_slice Try.underlying53 (by kernel_rfl) opens120) rfl (by kernel_rfl) rfl (opensF_cons (opens_slice Try.underlying54 (by kernel_rfl) opens209) rfl (by kernel_rfl) rfl (opensF_cons (opens_int Try.underlying3) rfl (by kernel_rfl) rfl (opensF_last (opens_int Try.underlying3) rfl (by kernel_rfl)))))) (fun _ => rfl)
end Go.Proofs.Ytcapgmoipacioaa.P
