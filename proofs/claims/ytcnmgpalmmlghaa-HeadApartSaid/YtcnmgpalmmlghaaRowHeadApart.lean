/- For every two heads that may be: they have one word only if they are the same, and 0 just where the head is not used. No condition. -/
import Derived.Test.YtcnmgpalmmlghaaRows
import Derived.Test.YtcnmgpalmmlghaaSureHeadApart
import Derived.Test.YtcnmgpalmmlghaaOpen
import Derived.WalkKit
import Derived.ProofKit
import Derived.OpenShut
import Derived.ShutString
import Derived.ChangeOld
import Derived.Below
import Derived.SizedLaws
namespace Go.Proofs.Ytcnmgpalmmlghaa.headApart
open Go.ChangeShapes Go.WideShapes Go.ChangeAt Go.RowKit
set_option linter.unusedVariables false
theorem own : ownKnob Try.prog.godebug = none := by kernel_rfl
set_option maxRecDepth 100000 in
theorem lifted (os : Os) (started : os.Started) (H : Type) (enc : TypeId × Value → H) :
    ReturnsInHanded {} Try.checked os 5 .any (Rows.headApartSpec.pre6 enc Try.prog Try.f5 Rows.headApartRow.domain false) (Rows.headApartSpec.post enc Try.prog Try.f5 false true false false) := by
  refine returnsInHanded_of_change_sized (C := Try.checked) own started (by kernel_rfl) Try.func5
    (ChangeSpec.witness6 (enc := enc) (C := Try.checked) false ⟨#[], #[.agg #[.bool false, .bool false, .bool false, .int .i64 0, .int .i64 0, .int .i64 0], .agg #[.bool false, .bool false, .bool false, .int .i64 0, .int .i64 0, .int .i64 0]], []⟩ 8 (by kernel_rfl) (by kernel_rfl) (by kernel_rfl) (by kernel_rfl)) ?_
  intro W base args ds gs before hval0 hW hcnd hsz0 _
  have hval : ∀ (j : Nat) t v, Try.f5.params[j]? = some t → args[j]? = some v → Value.okWide Try.prog W .any base t v := hval0
  have hW' := hW
  obtain ⟨p, q, hA0, hV, rfl, hfz, hnd⟩ := hW
  have hA : DataW.TrodAll enc Try.prog W 0 (fun _ => true) true Try.f5.params.toList args.toList ds p := hA0
  rw [Try.params5] at hA hval
  obtain ⟨v0, vs0, d0, ds0, p0, q0, hargs, rfl, rfl, h0, r0⟩ := trodAll_cons hA
  obtain ⟨v1, vs1, d1, ds1, p1, q1, rfl, rfl, rfl, h1, r1⟩ := trodAll_cons r0
  obtain ⟨rfl, rfl, rfl⟩ := trodAll_nil r1
  obtain rfl : args = #[v0, v1] := by cases args; simp_all
  obtain ⟨rfl, rfl⟩ := trodVars_none hV
  obtain ⟨u0, o0, e0, n0, b0, m0, rfl, rfl, rfl, wn0, wb0, wm0⟩ := open_head (hval 0 23 v0 rfl rfl) h0
  obtain ⟨u1, o1, e1, n1, b1, m1, rfl, rfl, rfl, wn1, wb1, wm1⟩ := open_head (hval 1 23 v1 rfl rfl) h1
  clear hA0 hval0 hsz0
  refine (Heads.ragpickerlaw01_HeadApart.calls  u0 o0 e0 n0 b0 m0 u1 o1 e1 n1 b1 m1 true W (Heads.sureHeadApart u0 o0 e0 n0 b0 m0 u1 o1 e1 n1 b1 m1 )).mono fun e W' ⟨he, bel⟩ => ?_
  subst he
  exact ⟨_, rfl, _, _, _, [], _, [], hW', trodAll_mk1 (shut_bool Try.underlying4 _), (trodAll_cons_mk (shut_head u0 o0 e0 wn0 wb0 wm0) (trodAll_cons_mk (shut_head u1 o1 e1 wn1 wb1 wm1) trodAll_mk0)), rfl, bel.frame _, fun h => by cases h⟩
theorem over : Rows.headApartRow.holds Try.pinned (OpenSpec.ofChange Rows.headApartSpec) :=
  OpenClaim.holds_of_wide 5 Try.f5 rfl rfl rfl rfl rfl rfl rfl ⟨rfl, rfl, rfl, rfl, rfl⟩ rfl rfl rfl rfl rfl (by kernel_rfl) Try.func5 (by kernel_rfl)
    (of_decide_eq_true (by kernel_rfl)) (by unfold Func.isWrapper; first | (rw [if_pos (by decide +kernel)]; kernel_rfl) | (rw [if_neg (by decide +kernel)]; exact ⟨rfl, rfl⟩))
    (fun os started H enc _ => lifted os started H enc)
end Go.Proofs.Ytcnmgpalmmlghaa.headApart
namespace Go.Proofs.Ytcnmgpalmmlghaa
theorem headApart_holds : Rows.HeadApartSaid := headApart.over
#print axioms headApart_holds
end Go.Proofs.Ytcnmgpalmmlghaa
