/- DualSet: pair by pair, b's cue has its pair's times in what is merged just where it is in order then; no conditions. -/
import Derived.Test.YtlbicmdfdpcdiaaRows
import Derived.Test.YtlbicmdfdpcdiaaDeKST1
import Derived.Test.YtlbicmdfdpcdiaaDeY
import Derived.Test.YtlbicmdfdpcdiaaDeC
import Derived.WalkKit
import Derived.ProofKit
import Derived.OpenShut
import Derived.ShutString
import Derived.ChangeOld
import Derived.Below
import Derived.SizedLaws
import Derived.Carry
import Derived.JoinedCond
namespace Go.Proofs.Ytlbicmdfdpcdiaa.dualSet
open Go.ChangeShapes Go.WideShapes Go.ChangeAt Go.RowKit Go.Proofs.Ytlbicmdfdpcdiaa.Vm Go.Proofs.Ytlbicmdfdpcdiaa.F
set_option linter.unusedVariables false
theorem own : ownKnob Try.prog.godebug = none := by kernel_rfl
theorem laidOut : laidOutB Try.prog = true := by kernel_rfl
set_option maxRecDepth 100000 in
theorem lifted (os : Os) (started : os.Started) (H : Type) (enc : TypeId × Value → H) :
    ReturnsInHanded {} Try.checked os 6 .any (Rows.dualSetSpec.pre6 enc Try.prog Try.f6 Rows.dualSetRow.domain false) (Rows.dualSetSpec.post enc Try.prog Try.f6 false true false false) := by
  refine returnsInHanded_of_change_sized (C := Try.checked) own started (by kernel_rfl) Try.func6
    (ChangeSpec.witness6 (enc := enc) (C := Try.checked) false ⟨#[], #[.agg #[.slice none 0 0], .agg #[.slice none 0 0]], []⟩ 8 (by kernel_rfl) (by kernel_rfl) (by kernel_rfl) (by kernel_rfl)) ?_
  intro W base args ds gs before hval0 hW hcnd hsz0 _
  have hval : ∀ (j : Nat) t v, Try.f6.params[j]? = some t → args[j]? = some v → Value.okWide Try.prog W .any base t v := hval0
  have hW' := hW
  obtain ⟨p, q, hA0, hV, rfl, hfz, hnd⟩ := hW
  have hA : DataW.TrodAll enc Try.prog W 0 (fun _ => true) true Try.f6.params.toList args.toList ds p := hA0
  rw [Try.params6] at hA hval
  have hA1 := hA
  obtain ⟨v0, vs0, d0, ds0, p0, q0, hargs0, rfl, rfl, h0, r0⟩ := trodAll_cons hA
  obtain ⟨v1, vs1, d1, ds1, p1, q1, hargs1, rfl, rfl, h1, r1⟩ := trodAll_cons r0
  obtain ⟨e_, rfl, rfl⟩ := trodAll_nil r1
  obtain ⟨rfl, rfl⟩ := trodVars_none hV
  have hszw : ∀ n ∈ DataW.weightsEach Try.prog [25, 25] [d0, d1], n ≤ reachBytes := by
    have hs : (DataW.weightsEach Try.prog (Try.f6.params.toList ++ []) ([d0, d1] ++ [])).all (· ≤ reachBytes) = true := hsz0
    rw [Try.params6, List.append_nil, List.append_nil] at hs
    intro n hn
    simpa using List.all_eq_true.1 hs n hn
  cases args with
  | mk l =>
  refine (law_callsS (C := surtitlelaw19_DualSet.C) (fun k => (C_cons (surtitlelaw19_low.ok k) (C_cons (dual_Pairs_i.ok k) (C_cons (dual_Merge.ok k) (C_cons (surtitlelaw19_head.ok k) (C_cons (dual_Apart_i.ok k) (C_cons (cue_Compare.ok k) (C_cons (surtitlelaw13_SameCue.ok k) C_nil)))))))) Try.func6 (by kernel_rfl) surtitlelaw19_DualSet.run_eq (set_good Try.prog (by kernel_rfl) (by kernel_rfl)) (d := 20) (by kernel_rfl) (by kernel_rfl) hA1 hszw (fun j t v h1 h2 => hval j t v (by simpa using h1) (by simpa using h2))).mono fun e W' ⟨he, bel⟩ => ?_
  subst he
  exact ⟨_, rfl, _, _, _, [], _, [], hW', trodAll_mk1 (shut_bool Try.underlying4 _), trodAll_back laidOut (by kernel_rfl) hA1 bel, rfl, bel.frame _, fun h => by cases h⟩
theorem over : Rows.dualSetRow.holds Try.pinned (OpenSpec.ofChange Rows.dualSetSpec) :=
  OpenClaim.holds_of_wide 6 Try.f6 rfl rfl rfl rfl rfl rfl rfl ⟨rfl, rfl, rfl, rfl, rfl⟩ rfl rfl rfl rfl rfl (by kernel_rfl) Try.func6 (by kernel_rfl)
    (of_decide_eq_true (by kernel_rfl)) (by unfold Func.isWrapper; first | (rw [if_pos (by decide +kernel)]; kernel_rfl) | (rw [if_neg (by decide +kernel)]; exact ⟨rfl, rfl⟩))
    (fun os started H enc _ => lifted os started H enc)
theorem proved : Rows.DualSetSaid := over
#print axioms proved
end Go.Proofs.Ytlbicmdfdpcdiaa.dualSet
namespace Go.Proofs.Ytlbicmdfdpcdiaa
/-- The row, under a short name, for the claim. -/
theorem dualSet_holds : Rows.DualSetSaid := dualSet.proved
end Go.Proofs.Ytlbicmdfdpcdiaa
