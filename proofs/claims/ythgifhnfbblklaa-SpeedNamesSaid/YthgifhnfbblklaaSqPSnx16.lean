-- Written by programs of this session's (wip/printer) out of the translation and of the print's words; Lean checks it.
import Derived.Test.YthgifhnfbblklaaSqPSnx0
import Derived.Test.YthgifhnfbblklaaSqPSnx15
namespace Go.Proofs.Ythgifhnfbblklaa.PSn
open Go.RowKit Go.Proofs.YthgifhnfbblklaaW.PrintWords Go.Proofs.YthgifhnfbblklaaW.PrintLast Go.Proofs.YthgifhnfbblklaaW.PrintMore
attribute [local go_sem] max2_int min2_int max_two min_two max_three min_three max_four min_four   -- for this text's walks alone
set_option linter.unusedVariables false
set_option linter.unusedSimpArgs false
def surtitlelaw11_SpeedNames.f (k : Nat)  : Option (Bool) := (surtitlelaw11_known.f k).bind fun t285 => (some t285)
set_option maxHeartbeats 8000000 in
set_option maxRecDepth 100000 in
theorem surtitlelaw11_SpeedNames.calls (k : Nat)  (r : Bool) (w : World) (h : surtitlelaw11_SpeedNames.f k  = some r) :
  Calls Try.prog 3 #[] w fun e w' => e = .returned (.bool r) ∧ Below w.heap.size w w' := by
 have HB := Aside0.mk (Below.refl w.heap.size w)
 have H : ((surtitlelaw11_known.f k).bind fun t285 => (some t285)) = some r := h
 clear h
 replace H := Option.bind_eq_some_iff.mp H
 obtain ⟨t285, A10, H⟩ := H
 (try dsimp only at H)
 have A1 := Aside0.mk A10
 clear A10
 obtain rfl := Option.some.inj H
 go_enter Try.func3, Try.ntmps3
 go_wp2_with (first | (go_at_call 8; (with_reducible refine (surtitlelaw11_known.calls k  t285 _ A1.out).mono ?_); rintro e w2 ⟨rfl, hb⟩; have n0_ := Aside0.mk (below_step (by repeat (first | (with_reducible first | exact HB.out | apply l1 | apply l2 | apply l3) | exact HB.out)) hb); clear HB; have HB := n0_; clear n0_; (try clear hb); (try clear hb2); (try clear hk); (try clear hi)))
 go_ret
 exact ⟨by first | rfl | (simp [errW_none, errW_some] <;> rfl) | (simp [*, errW_none, errW_some] <;> rfl), by repeat (first | (with_reducible first | exact HB.out | apply l1 | apply l2 | apply l3) | exact HB.out)⟩
def surtitlelaw11_SpeedNames.Pure : Prop := ∃ k, surtitlelaw11_SpeedNames.f k  = some true
theorem surtitlelaw11_SpeedNames.walk (P : surtitlelaw11_SpeedNames.Pure)  (w : World)  :
  Calls Try.prog 3 #[] w fun e w' => e = .returned (.bool true) ∧ Below w.heap.size w w' := by
 obtain ⟨k, h⟩ := P  
 refine (surtitlelaw11_SpeedNames.calls k  true w h).mono ?_
 rintro e w' ⟨rfl, hd⟩
 exact ⟨rfl, hd⟩
end Go.Proofs.Ythgifhnfbblklaa.PSn
