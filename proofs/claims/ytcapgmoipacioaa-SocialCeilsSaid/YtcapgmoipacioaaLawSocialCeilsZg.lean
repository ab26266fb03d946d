/- The given statement 'Rows.SocialCeilsSaid': for every input the law SocialCeils returns true, and each argument reads behind the call as it read before. Conditions: none beyond the row's own cells. -/
import Derived.Test.YtcapgmoipacioaaRows
import Derived.Test.YtcapgmoipacioaaR1Zg
import Derived.Test.YtcapgmoipacioaaF0Zg
import Derived.Test.YtcapgmoipacioaaVSocialCeilsZg
import Derived.WalkKit
import Derived.ProofKit
import Derived.OpenShut
import Derived.ShutString
import Derived.ChangeOld
import Derived.Below
import Derived.SizedLaws
namespace Go.Proofs.Ytcapgmoipacioaa.socialCeils
open Go.ChangeShapes Go.WideShapes Go.ChangeAt Go.RowKit Go.Proofs.Ytcapgmoipacioaa.P
open Go.ChangeMaps (open_string shut_string)
set_option linter.unusedVariables false
theorem own : ownKnob Try.prog.godebug = none := by kernel_rfl
theorem laidOut : laidOutB Try.prog = true := by kernel_rfl
set_option maxRecDepth 100000 in
theorem lifted (os : Os) (started : os.Started) (H : Type) (enc : TypeId × Value → H) :
    ReturnsInHanded {} Try.checked os 16 .any (Rows.socialCeilsSpec.pre6 enc Try.prog Try.f16 Rows.socialCeilsRow.domain false) (Rows.socialCeilsSpec.post enc Try.prog Try.f16 false true false false) := by
  refine returnsInHanded_of_change_sized (C := Try.checked) own started (by kernel_rfl) Try.func16
    (ChangeSpec.witness6 (enc := enc) (C := Try.checked) false ⟨#[], #[.agg #[.slice none 0 0, .slice none 0 0, .slice none 0 0, .int .i64 0, .int .i64 0], .slice none 0 0], []⟩ 8 (by kernel_rfl) (by kernel_rfl) (by kernel_rfl) (by kernel_rfl)) ?_
  intro W base args ds gs before hval0 hW hcnd hsz0 _; have hval : ∀ (j : Nat) t v, Try.f16.params[j]? = some t → args[j]? = some v → Value.okWide Try.prog W .any base t v := hval0; have hW' := hW; obtain ⟨p, q, hA0, hV, rfl, hfz, hnd⟩ := hW; have hA : DataW.TrodAll enc Try.prog W 0 (fun _ => true) true Try.f16.params.toList args.toList ds p := hA0; rw [Try.params16] at hA hval; obtain ⟨v0, vs0, d0, ds0, p0, q0, hargs, rfl, rfl, h0, r0⟩ := trodAll_cons hA; obtain ⟨v1, vs1, d1, ds1, p1, q1, rfl, rfl, rfl, h1, r1⟩ := trodAll_cons r0; obtain ⟨rfl, rfl, rfl⟩ := trodAll_nil r1; obtain rfl : args = #[v0, v1] := by cases args; simp_all
  obtain ⟨rfl, rfl⟩ := trodVars_none hV; have k0 := h0; have lt0 : ∀ x ∈ p0, x.block < W.heap.size := by obtain ⟨m, hm⟩ := k0; exact DataW.trod_lt m _ _ _ hm
  obtain ⟨x0, cs0, rfl, hk0, w0⟩ := open_arg_struct Try.underlying56 opens56 (hval 0 56 v0 rfl rfl) h0; obtain ⟨A0_0, c0_0, A0_1, c0_1, A0_2, c0_2, rfl, hc0_0, hr0_0, hc0_1, hr0_1, hc0_2, hr0_2⟩ := k56_open hk0; have k1 := h1; have lt1 : ∀ x ∈ p1, x.block < W.heap.size := by obtain ⟨m, hm⟩ := k1; exact DataW.trod_lt m _ _ _ hm
  obtain ⟨A1, c1, l1, rfl, hr1, hc1, w1⟩ := open_arg_slice Try.underlying57 (opens_slice Try.underlying57 (by kernel_rfl) opens67) (hval 1 57 v1 rfl rfl) h1; clear hA0 hval0 hsz0; obtain ⟨k, hp⟩ := SocialCeils_pure x0 l1 w0 w1; refine (stipendlaw15_SocialCeils.calls k A0_0 c0_0 x0.f0 A0_1 c0_1 x0.f1 A0_2 c0_2 x0.f2 x0.f3 x0.f4 A1 c1 l1 true W hr0_0 hc0_0 hr0_1 hc0_1 hr0_2 hc0_2 hr1 hc1 hp).mono fun e W' ⟨he, bel⟩ => ?_
  subst he; exact ⟨_, rfl, _, _, _, [], _, [], hW', trodAll_mk1 (shut_bool Try.underlying4 _), (trodAll_cons_mk (Below.trod laidOut (by kernel_rfl) (of_decide_eq_true (by kernel_rfl)) k0 bel lt0) (trodAll_cons_mk (Below.trod laidOut (by kernel_rfl) (of_decide_eq_true (by kernel_rfl)) k1 bel lt1) trodAll_mk0)), rfl, bel.frame _, fun h => by cases h⟩
theorem closed : joinedFacts Try.prog 16 Try.f16 Rows.socialCeilsSpec Rows.socialCeilsRow = true := by unfold joinedFacts; rw [may_enter, lifts_final, make_is]; kernel_rfl
theorem over : Rows.socialCeilsRow.holds Try.pinned (OpenSpec.ofChange Rows.socialCeilsSpec) :=
  OpenClaim.holds_of_wide 16 Try.f16 rfl rfl rfl rfl rfl rfl rfl ⟨rfl, rfl, rfl, rfl, rfl⟩ rfl rfl rfl rfl rfl (by kernel_rfl) Try.func16 closed
    (of_decide_eq_true (by kernel_rfl)) (by unfold Func.isWrapper; first | (rw [if_pos (by decide +kernel)]; kernel_rfl) | (rw [if_neg (by decide +kernel)]; exact ⟨rfl, rfl⟩))
    (fun os started H enc _ => lifted os started H enc)
theorem proved : Rows.SocialCeilsSaid := over
end Go.Proofs.Ytcapgmoipacioaa.socialCeils
namespace Go.Proofs.Ytcapgmoipacioaa
theorem socialCeils_holds : Rows.SocialCeilsSaid := socialCeils.proved
end Go.Proofs.Ytcapgmoipacioaa
