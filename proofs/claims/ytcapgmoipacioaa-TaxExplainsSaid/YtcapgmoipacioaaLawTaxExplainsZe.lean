/- The given statement 'Rows.TaxExplainsSaid': for every input the law TaxExplains returns true, and each argument reads behind the call as it read before. Conditions: none beyond the row's own cells. -/
import Derived.Test.YtcapgmoipacioaaRows
import Derived.Test.YtcapgmoipacioaaR1Ze
import Derived.Test.YtcapgmoipacioaaF0Ze
import Derived.Test.YtcapgmoipacioaaVTaxExplainsZe
import Derived.WalkKit
import Derived.ProofKit
import Derived.OpenShut
import Derived.ShutString
import Derived.ChangeOld
import Derived.Below
import Derived.SizedLaws
namespace Go.Proofs.Ytcapgmoipacioaa.taxExplains
open Go.ChangeShapes Go.WideShapes Go.ChangeAt Go.RowKit Go.Proofs.Ytcapgmoipacioaa.P
open Go.ChangeMaps (open_string shut_string)
set_option linter.unusedVariables false
theorem own : ownKnob Try.prog.godebug = none := by kernel_rfl
theorem laidOut : laidOutB Try.prog = true := by kernel_rfl
set_option maxRecDepth 100000 in
theorem lifted (os : Os) (started : os.Started) (H : Type) (enc : TypeId × Value → H) :
    ReturnsInHanded {} Try.checked os 23 .any (Rows.taxExplainsSpec.pre6 enc Try.prog Try.f23 Rows.taxExplainsRow.domain false) (Rows.taxExplainsSpec.post enc Try.prog Try.f23 false true false false) := by
  refine returnsInHanded_of_change_sized (C := Try.checked) own started (by kernel_rfl) Try.func23
    (ChangeSpec.witness6 (enc := enc) (C := Try.checked) false ⟨#[], #[.agg #[.slice none 0 0, .slice none 0 0, .slice none 0 0, .int .i64 0, .int .i64 0], .agg #[.int .i64 0, .int .i64 0, .int .i64 0, .int .i64 0, .bool false], .agg #[.int .i64 0, .int .i64 0, .int .i64 0]], []⟩ 8 (by kernel_rfl) (by kernel_rfl) (by kernel_rfl) (by kernel_rfl)) ?_
  intro W base args ds gs before hval0 hW hcnd hsz0 _; have hval : ∀ (j : Nat) t v, Try.f23.params[j]? = some t → args[j]? = some v → Value.okWide Try.prog W .any base t v := hval0; have hW' := hW; obtain ⟨p, q, hA0, hV, rfl, hfz, hnd⟩ := hW; have hA : DataW.TrodAll enc Try.prog W 0 (fun _ => true) true Try.f23.params.toList args.toList ds p := hA0; rw [Try.params23] at hA hval; obtain ⟨v0, vs0, d0, ds0, p0, q0, hargs, rfl, rfl, h0, r0⟩ := trodAll_cons hA; obtain ⟨v1, vs1, d1, ds1, p1, q1, rfl, rfl, rfl, h1, r1⟩ := trodAll_cons r0; obtain ⟨v2, vs2, d2, ds2, p2, q2, rfl, rfl, rfl, h2, r2⟩ := trodAll_cons r1; obtain ⟨rfl, rfl, rfl⟩ := trodAll_nil r2; obtain rfl : args = #[v0, v1, v2] := by cases args; simp_all
  obtain ⟨rfl, rfl⟩ := trodVars_none hV; have k0 := h0; have lt0 : ∀ x ∈ p0, x.block < W.heap.size := by obtain ⟨m, hm⟩ := k0; exact DataW.trod_lt m _ _ _ hm
  obtain ⟨x0, cs0, rfl, hk0, w0⟩ := open_arg_struct Try.underlying56 opens56 (hval 0 56 v0 rfl rfl) h0; obtain ⟨A0_0, c0_0, A0_1, c0_1, A0_2, c0_2, rfl, hc0_0, hr0_0, hc0_1, hr0_1, hc0_2, hr0_2⟩ := k56_open hk0; have k1 := h1; have lt1 : ∀ x ∈ p1, x.block < W.heap.size := by obtain ⟨m, hm⟩ := k1; exact DataW.trod_lt m _ _ _ hm
  obtain ⟨x1, cs1, rfl, hk1, w1⟩ := open_arg_struct Try.underlying88 opens88 (hval 1 88 v1 rfl rfl) h1; obtain rfl := k88_open hk1; have k2 := h2; have lt2 : ∀ x ∈ p2, x.block < W.heap.size := by obtain ⟨m, hm⟩ := k2; exact DataW.trod_lt m _ _ _ hm
  obtain ⟨x2, cs2, rfl, hk2, w2⟩ := open_arg_struct Try.underlying135 opens135 (hval 2 135 v2 rfl rfl) h2; obtain rfl := k135_open hk2; clear hA0 hval0 hsz0; obtain ⟨k, hp⟩ := TaxExplains_pure x0 x1 x2 w0 w1 w2; refine (stipendlaw13_TaxExplains.calls k A0_0 c0_0 x0.f0 A0_1 c0_1 x0.f1 A0_2 c0_2 x0.f2 x0.f3 x0.f4 x1.f0 x1.f1 x1.f2 x1.f3 x1.f4 x2.f0 x2.f1 x2.f2 true W hr0_0 hc0_0 hr0_1 hc0_1 hr0_2 hc0_2 hp).mono fun e W' ⟨he, bel⟩ => ?_
  subst he; exact ⟨_, rfl, _, _, _, [], _, [], hW', trodAll_mk1 (shut_bool Try.underlying4 _), (trodAll_cons_mk (Below.trod laidOut (by kernel_rfl) (of_decide_eq_true (by kernel_rfl)) k0 bel lt0) (trodAll_cons_mk (Below.trod laidOut (by kernel_rfl) (of_decide_eq_true (by kernel_rfl)) k1 bel lt1) (trodAll_cons_mk (Below.trod laidOut (by kernel_rfl) (of_decide_eq_true (by kernel_rfl)) k2 bel lt2) trodAll_mk0))), rfl, bel.frame _, fun h => by cases h⟩
theorem closed : joinedFacts Try.prog 23 Try.f23 Rows.taxExplainsSpec Rows.taxExplainsRow = true := by unfold joinedFacts; rw [may_enter, lifts_final, make_is]; kernel_rfl
theorem over : Rows.taxExplainsRow.holds Try.pinned (OpenSpec.ofChange Rows.taxExplainsSpec) :=
  OpenClaim.holds_of_wide 23 Try.f23 rfl rfl rfl rfl rfl rfl rfl ⟨rfl, rfl, rfl, rfl, rfl⟩ rfl rfl rfl rfl rfl (by kernel_rfl) Try.func23 closed
    (of_decide_eq_true (by kernel_rfl)) (by unfold Func.isWrapper; first | (rw [if_pos (by decide +kernel)]; kernel_rfl) | (rw [if_neg (by decide +kernel)]; exact ⟨rfl, rfl⟩))
    (fun os started H enc _ => lifted os started H enc)
theorem proved : Rows.TaxExplainsSaid := over
end Go.Proofs.Ytcapgmoipacioaa.taxExplains
namespace Go.Proofs.Ytcapgmoipacioaa
theorem taxExplains_holds : Rows.TaxExplainsSaid := taxExplains.proved
end Go.Proofs.Ytcapgmoipacioaa
