/- DualTurned, for documents of a small size (Upto): pairs of b and a share as much as those of a and b, and are as many. -/
import Derived.Test.YtlbicmdfdpcdiaaRows
import Derived.Test.YtlbicmdfdpcdiaaDtKD1
import Derived.Test.YtlbicmdfdpcdiaaDtY
import Derived.WalkKit
import Derived.ProofKit
import Derived.OpenShut
import Derived.ShutString
import Derived.ChangeOld
import Derived.Below
import Derived.SizedLaws
import Derived.Carry
import Derived.JoinedCond
namespace Go.Proofs.Ytlbicmdfdpcdiaa.dualTurned
open Go.ChangeShapes Go.WideShapes Go.ChangeAt Go.RowKit Go.Proofs.Ytlbicmdfdpcdiaa.Vm Go.Proofs.Ytlbicmdfdpcdiaa.F
set_option linter.unusedVariables false
theorem own : ownKnob Try.prog.godebug = none := by kernel_rfl
theorem laidOut : laidOutB Try.prog = true := by kernel_rfl
set_option maxRecDepth 100000 in
theorem lifted (os : Os) (started : os.Started) (H : Type) (enc : TypeId × Value → H) (F0 : Stop.Interp) :
    ReturnsInHanded {} Try.checked os 11 .any ((Rows.OpenSpec.upto Rows.dualTurnedSpec).pre6 enc Try.prog Try.f11 Rows.dualTurnedUptoRow.domain false) (((Rows.OpenSpec.upto Rows.dualTurnedSpec).at F0).post enc Try.prog Try.f11 false true false false) := by
  refine returnsInHanded_of_cond (C := Try.checked) (s := (Rows.OpenSpec.upto Rows.dualTurnedSpec)) (k := Rows.uptoSmall) rfl own started (by kernel_rfl) Try.func11
    (OpenSpec.witness (enc := enc) (C := Try.checked) (s := (Rows.OpenSpec.upto Rows.dualTurnedSpec)) (k := Rows.uptoSmall) rfl false ⟨#[], #[.agg #[.slice none 0 0], .agg #[.slice none 0 0]], []⟩ 8 (by kernel_rfl) (by kernel_rfl) (by kernel_rfl) (x := ([.agg [.nil], .agg [.nil]], [], [])) (by kernel_rfl) (by kernel_rfl) (by kernel_rfl)) ?_
  intro W base args ds gs before hval0 hW hcnd hkk _
  have hval : ∀ (j : Nat) t v, Try.f11.params[j]? = some t → args[j]? = some v → Value.okWide Try.prog W .any base t v := hval0
  have hW' := hW
  obtain ⟨p, q, hA0, hV, rfl, hfz, hnd⟩ := hW
  have hA : DataW.TrodAll enc Try.prog W 0 (fun _ => true) true Try.f11.params.toList args.toList ds p := hA0
  rw [Try.params11] at hA hval
  have hA1 := hA
  obtain ⟨v0, vs0, d0, ds0, p0, q0, hargs0, rfl, rfl, h0, r0⟩ := trodAll_cons hA
  obtain ⟨v1, vs1, d1, ds1, p1, q1, hargs1, rfl, rfl, h1, r1⟩ := trodAll_cons r0
  obtain ⟨e_, rfl, rfl⟩ := trodAll_nil r1
  obtain ⟨rfl, rfl⟩ := trodVars_none hV
  cases args with
  | mk l =>
  refine (law_calls (C := surtitlelaw19_DualTurned.C) (fun k => (C_cons (dual_Pairs.ok k) (C_cons (surtitlelaw19_head.ok k) (C_cons (surtitlelaw19_within.ok k) (C_cons (surtitlelaw19_share.ok k) C_nil))))) Try.func11 (by kernel_rfl) surtitlelaw19_DualTurned.run_eq turned_good (d := 20) (by kernel_rfl) (by kernel_rfl) hA1 (fun j t v h1 h2 => hval j t v (by simpa using h1) (by simpa using h2))).mono fun e W' ⟨he, bel⟩ => ?_
  subst he
  exact ⟨_, rfl, _, _, _, [], _, [], hW', trodAll_mk1 (shut_bool Try.underlying4 _), trodAll_back laidOut (by kernel_rfl) hA1 bel, rfl, bel.frame _, fun h => by cases h⟩
theorem over : Rows.dualTurnedUptoRow.holds Try.pinned (Rows.OpenSpec.upto Rows.dualTurnedSpec) :=
  OpenClaim.holds_of_cond 11 Try.f11 rfl rfl rfl rfl rfl rfl rfl ⟨rfl, rfl, rfl, rfl, rfl⟩ rfl rfl rfl rfl rfl (by kernel_rfl) Try.func11 (by kernel_rfl)
    (of_decide_eq_true (by kernel_rfl)) (by unfold Func.isWrapper; first | (rw [if_pos (by decide +kernel)]; kernel_rfl) | (rw [if_neg (by decide +kernel)]; exact ⟨rfl, rfl⟩))
    (fun os started H enc _ F0 => lifted os started H enc F0)
theorem proved : Rows.DualTurnedUptoSaid := over
#print axioms proved
end Go.Proofs.Ytlbicmdfdpcdiaa.dualTurned
namespace Go.Proofs.Ytlbicmdfdpcdiaa
/-- The row, under a short name, for the claim. -/
theorem dualTurned_holds : Rows.DualTurnedUptoSaid := dualTurned.proved
end Go.Proofs.Ytlbicmdfdpcdiaa
