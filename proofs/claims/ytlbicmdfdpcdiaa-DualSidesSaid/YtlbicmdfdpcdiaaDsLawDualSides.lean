/- DualSides: both parts of what is taken apart hold Low cues alone, and together they are the document's cues in their order; no conditions. -/
import Derived.Test.YtlbicmdfdpcdiaaRows
import Derived.Test.YtlbicmdfdpcdiaaDsKAP1
import Derived.Test.YtlbicmdfdpcdiaaDsY
import Derived.WalkKit
import Derived.ProofKit
import Derived.OpenShut
import Derived.ShutString
import Derived.ChangeOld
import Derived.Below
import Derived.SizedLaws
import Derived.Carry
import Derived.JoinedCond
namespace Go.Proofs.Ytlbicmdfdpcdiaa.dualSides
open Go.ChangeShapes Go.WideShapes Go.ChangeAt Go.RowKit Go.Proofs.Ytlbicmdfdpcdiaa.Vm Go.Proofs.Ytlbicmdfdpcdiaa.F
set_option linter.unusedVariables false
theorem own : ownKnob Try.prog.godebug = none := by kernel_rfl
theorem laidOut : laidOutB Try.prog = true := by kernel_rfl
set_option maxRecDepth 100000 in
theorem lifted (os : Os) (started : os.Started) (H : Type) (enc : TypeId × Value → H) :
    ReturnsInHanded {} Try.checked os 7 .any (Rows.dualSidesSpec.pre6 enc Try.prog Try.f7 Rows.dualSidesRow.domain false) (Rows.dualSidesSpec.post enc Try.prog Try.f7 false true false false) := by
  refine returnsInHanded_of_change_sized (C := Try.checked) own started (by kernel_rfl) Try.func7
    (ChangeSpec.witness6 (enc := enc) (C := Try.checked) false ⟨#[], #[.agg #[.slice none 0 0]], []⟩ 8 (by kernel_rfl) (by kernel_rfl) (by kernel_rfl) (by kernel_rfl)) ?_
  intro W base args ds gs before hval0 hW hcnd hsz0 _
  have hval : ∀ (j : Nat) t v, Try.f7.params[j]? = some t → args[j]? = some v → Value.okWide Try.prog W .any base t v := hval0
  have hW' := hW
  obtain ⟨p, q, hA0, hV, rfl, hfz, hnd⟩ := hW
  have hA : DataW.TrodAll enc Try.prog W 0 (fun _ => true) true Try.f7.params.toList args.toList ds p := hA0
  rw [Try.params7] at hA hval
  have hA1 := hA
  obtain ⟨v0, vs0, d0, ds0, p0, q0, hargs0, rfl, rfl, h0, r0⟩ := trodAll_cons hA
  obtain ⟨e_, rfl, rfl⟩ := trodAll_nil r0
  obtain ⟨rfl, rfl⟩ := trodVars_none hV
  cases args with
  | mk l =>
  refine (law_calls (C := surtitlelaw19_DualSides.C) (fun k => (C_cons (dual_Apart.ok k) (C_cons (cue_CheckDoc.ok k) (C_cons (surtitlelaw19_head.ok k) (C_cons (surtitlelaw13_SameCue.ok k) C_nil))))) Try.func7 (by kernel_rfl) surtitlelaw19_DualSides.run_eq sides_good (d := 20) (by kernel_rfl) (by kernel_rfl) hA1 (fun j t v h1 h2 => hval j t v (by simpa using h1) (by simpa using h2))).mono fun e W' ⟨he, bel⟩ => ?_
  subst he
  exact ⟨_, rfl, _, _, _, [], _, [], hW', trodAll_mk1 (shut_bool Try.underlying4 _), trodAll_back laidOut (by kernel_rfl) hA1 bel, rfl, bel.frame _, fun h => by cases h⟩
theorem over : Rows.dualSidesRow.holds Try.pinned (OpenSpec.ofChange Rows.dualSidesSpec) :=
  OpenClaim.holds_of_wide 7 Try.f7 rfl rfl rfl rfl rfl rfl rfl ⟨rfl, rfl, rfl, rfl, rfl⟩ rfl rfl rfl rfl rfl (by kernel_rfl) Try.func7 (by kernel_rfl)
    (of_decide_eq_true (by kernel_rfl)) (by unfold Func.isWrapper; first | (rw [if_pos (by decide +kernel)]; kernel_rfl) | (rw [if_neg (by decide +kernel)]; exact ⟨rfl, rfl⟩))
    (fun os started H enc _ => lifted os started H enc)
theorem proved : Rows.DualSidesSaid := over
#print axioms proved
end Go.Proofs.Ytlbicmdfdpcdiaa.dualSides
namespace Go.Proofs.Ytlbicmdfdpcdiaa
/-- The row, under a short name, for the claim. -/
theorem dualSides_holds : Rows.DualSidesSaid := dualSides.proved
end Go.Proofs.Ytlbicmdfdpcdiaa
