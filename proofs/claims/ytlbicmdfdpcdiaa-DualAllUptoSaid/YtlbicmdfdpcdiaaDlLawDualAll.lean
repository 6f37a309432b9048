/- DualAll, for documents of a small size (Upto): of two short documents every row of pairs is tried; what Pairs tells is the best one, the first of these. -/
import Derived.Test.YtlbicmdfdpcdiaaRows
import Derived.Test.YtlbicmdfdpcdiaaDlKAL1
import Derived.Test.YtlbicmdfdpcdiaaDlY
import Derived.WalkKit
import Derived.ProofKit
import Derived.OpenShut
import Derived.ShutString
import Derived.ChangeOld
import Derived.Below
import Derived.SizedLaws
import Derived.Carry
import Derived.JoinedCond
namespace Go.Proofs.Ytlbicmdfdpcdiaa.dualAll
open Go.ChangeShapes Go.WideShapes Go.ChangeAt Go.RowKit Go.Proofs.Ytlbicmdfdpcdiaa.Vm Go.Proofs.Ytlbicmdfdpcdiaa.F
set_option linter.unusedVariables false
theorem own : ownKnob Try.prog.godebug = none := by kernel_rfl
theorem laidOut : laidOutB Try.prog = true := by kernel_rfl
set_option maxRecDepth 100000 in
theorem lifted (os : Os) (started : os.Started) (H : Type) (enc : TypeId × Value → H) (F0 : Stop.Interp) :
    ReturnsInHanded {} Try.checked os 10 .any ((Rows.OpenSpec.upto Rows.dualAllSpec).pre6 enc Try.prog Try.f10 Rows.dualAllUptoRow.domain false) (((Rows.OpenSpec.upto Rows.dualAllSpec).at F0).post enc Try.prog Try.f10 false true false false) := by
  refine returnsInHanded_of_cond (C := Try.checked) (s := (Rows.OpenSpec.upto Rows.dualAllSpec)) (k := Rows.uptoSmall) rfl own started (by kernel_rfl) Try.func10
    (OpenSpec.witness (enc := enc) (C := Try.checked) (s := (Rows.OpenSpec.upto Rows.dualAllSpec)) (k := Rows.uptoSmall) rfl false ⟨#[], #[.agg #[.slice none 0 0], .agg #[.slice none 0 0]], []⟩ 8 (by kernel_rfl) (by kernel_rfl) (by kernel_rfl) (x := ([.agg [.nil], .agg [.nil]], [], [])) (by kernel_rfl) (by kernel_rfl) (by kernel_rfl)) ?_
  intro W base args ds gs before hval0 hW hcnd hkk _
  have hval : ∀ (j : Nat) t v, Try.f10.params[j]? = some t → args[j]? = some v → Value.okWide Try.prog W .any base t v := hval0
  have hW' := hW
  obtain ⟨p, q, hA0, hV, rfl, hfz, hnd⟩ := hW
  have hA : DataW.TrodAll enc Try.prog W 0 (fun _ => true) true Try.f10.params.toList args.toList ds p := hA0
  rw [Try.params10] at hA hval
  have hA1 := hA
  obtain ⟨v0, vs0, d0, ds0, p0, q0, hargs0, rfl, rfl, h0, r0⟩ := trodAll_cons hA
  obtain ⟨v1, vs1, d1, ds1, p1, q1, hargs1, rfl, rfl, h1, r1⟩ := trodAll_cons r0
  obtain ⟨e_, rfl, rfl⟩ := trodAll_nil r1
  obtain ⟨rfl, rfl⟩ := trodVars_none hV
  cases args with
  | mk l =>
  refine (law_calls (C := surtitlelaw19_DualAll.C) (fun k => (C_cons (dual_Pairs.ok k) (C_cons (surtitlelaw19_head.ok k) (C_cons (surtitlelaw19_best.ok k) (C_cons (surtitlelaw19_within.ok k) (C_cons (surtitlelaw19_share.ok k) (C_cons (surtitlelaw19_SamePairs.ok k) C_nil))))))) Try.func10 (by kernel_rfl) surtitlelaw19_DualAll.run_eq all_good (d := 20) (by kernel_rfl) (by kernel_rfl) hA1 (fun j t v h1 h2 => hval j t v (by simpa using h1) (by simpa using h2))).mono fun e W' ⟨he, bel⟩ => ?_
  subst he
  exact ⟨_, rfl, _, _, _, [], _, [], hW', trodAll_mk1 (shut_bool Try.underlying4 _), trodAll_back laidOut (by kernel_rfl) hA1 bel, rfl, bel.frame _, fun h => by cases h⟩
theorem over : Rows.dualAllUptoRow.holds Try.pinned (Rows.OpenSpec.upto Rows.dualAllSpec) :=
  OpenClaim.holds_of_cond 10 Try.f10 rfl rfl rfl rfl rfl rfl rfl ⟨rfl, rfl, rfl, rfl, rfl⟩ rfl rfl rfl rfl rfl (by kernel_rfl) Try.func10 (by kernel_rfl)
    (of_decide_eq_true (by kernel_rfl)) (by unfold Func.isWrapper; first | (rw [if_pos (by decide +kernel)]; kernel_rfl) | (rw [if_neg (by decide +kernel)]; exact ⟨rfl, rfl⟩))
    (fun os started H enc _ F0 => lifted os started H enc F0)
theorem proved : Rows.DualAllUptoSaid := over
#print axioms proved
end Go.Proofs.Ytlbicmdfdpcdiaa.dualAll
namespace Go.Proofs.Ytlbicmdfdpcdiaa
/-- The row, under a short name, for the claim. -/
theorem dualAll_holds : Rows.DualAllUptoSaid := dualAll.proved
end Go.Proofs.Ytlbicmdfdpcdiaa
