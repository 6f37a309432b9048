import Derived.Test.YtlbicmdfdpcdiaaDeFNM1
-- Printed by a program of this session's; Lean checks it.
set_option linter.unusedVariables false
set_option maxRecDepth 100000
set_option maxHeartbeats 0
namespace Go.Proofs.Ytlbicmdfdpcdiaa.F
open Go.Proofs.Ytlbicmdfdpcdiaa.Vm Go.RowKit
noncomputable def c_surtitlelaw7_SameSpans (k : Nat) : Ctr := ctrT 49 ((.pr ((.sl 79 ((.pr (.int .i64) ((.pr (.int .i64) ((.pr (.int .i64) (.int .i64))))))))) ((.sl 79 ((.pr (.int .i64) ((.pr (.int .i64) ((.pr (.int .i64) (.int .i64))))))))))) (.bool) [(false, 1), (false, 1)] [(false, 1)] (surtitlelaw7_SameSpans k)
noncomputable def surtitlelaw7_SameSpans.C (k : Nat) : List Ctr := []
def surtitlelaw7_SameSpans.Ls : List LN := [⟨[4], [0, 1, 5], 2, [], [], []⟩]
noncomputable def surtitlelaw7_SameSpans.S9 (p : (List (Int × (Int × (Int × Int))) × List (Int × (Int × (Int × Int))))) (v9 : Int) : St := mkSt 26 [(0, .sl 0 0 none), (1, .sl 1 0 none), (5, .v (.int .i64 v9))] [] [.row none (.pr (.int .i64) (.pr (.int .i64) (.pr (.int .i64) (.int .i64)))) 0 (p.1 : List (Int × (Int × (Int × Int)))), .row none (.pr (.int .i64) (.pr (.int .i64) (.pr (.int .i64) (.int .i64)))) 0 (p.2 : List (Int × (Int × (Int × Int))))]
noncomputable def surtitlelaw7_SameSpans.P9 (k : Nat) : Pl (Ty.D (.bool)) := (Pl.go Try.prog (surtitlelaw7_SameSpans.C k) surtitlelaw7_SameSpans.Ls k (Pl.top Try.prog Try.f49 (decT [(false, 1)] (.bool) some)) (.lo 4))
theorem surtitlelaw7_SameSpans.r9 (k : Nat) (p : (List (Int × (Int × (Int × Int))) × List (Int × (Int × (Int × Int))))) (m : Nat) (v9 : Int) : (surtitlelaw7_SameSpans.P9 k).rounds Try.prog (surtitlelaw7_SameSpans.C k) surtitlelaw7_SameSpans.Ls k m (surtitlelaw7_SameSpans.S9 p v9) = itn (surtitlelaw7_SameSpans.B9 k p) m v9 := by
  refine loop_eq (st := fun v => surtitlelaw7_SameSpans.S9 p v) (T := surtitlelaw7_SameSpans.B9 k p) (fun G9 v9 => ?_) m v9
  kernel_rfl
theorem surtitlelaw7_SameSpans.run_eq (k : Nat) (p : (Ty.D ((.pr ((.sl 79 ((.pr (.int .i64) ((.pr (.int .i64) ((.pr (.int .i64) (.int .i64))))))))) ((.sl 79 ((.pr (.int .i64) ((.pr (.int .i64) ((.pr (.int .i64) (.int .i64))))))))))))) : runF Try.prog (surtitlelaw7_SameSpans.C k) surtitlelaw7_SameSpans.Ls k Try.f49 (decT [(false, 1)] (.bool) some) (argsT [(false, 1), (false, 1)] ((.pr ((.sl 79 ((.pr (.int .i64) ((.pr (.int .i64) ((.pr (.int .i64) (.int .i64))))))))) ((.sl 79 ((.pr (.int .i64) ((.pr (.int .i64) ((.pr (.int .i64) (.int .i64))))))))))) p) (heapT ((.pr ((.sl 79 ((.pr (.int .i64) ((.pr (.int .i64) ((.pr (.int .i64) (.int .i64))))))))) ((.sl 79 ((.pr (.int .i64) ((.pr (.int .i64) ((.pr (.int .i64) (.int .i64))))))))))) p) = surtitlelaw7_SameSpans k p := by
  have h9 : (fun (p : (List (Int × (Int × (Int × Int))) × List (Int × (Int × (Int × Int))))) (v9 : Int) => (surtitlelaw7_SameSpans.P9 k).rounds Try.prog (surtitlelaw7_SameSpans.C k) surtitlelaw7_SameSpans.Ls k k (surtitlelaw7_SameSpans.S9 p v9)) = (fun (p : (List (Int × (Int × (Int × Int))) × List (Int × (Int × (Int × Int))))) (v9 : Int) => surtitlelaw7_SameSpans.L9 k p v9) := by funext p v9; exact surtitlelaw7_SameSpans.r9 k p k v9
  refine Eq.trans (b := surtitlelaw7_SameSpans.M k (fun (p : (List (Int × (Int × (Int × Int))) × List (Int × (Int × (Int × Int))))) (v9 : Int) => (surtitlelaw7_SameSpans.P9 k).rounds Try.prog (surtitlelaw7_SameSpans.C k) surtitlelaw7_SameSpans.Ls k k (surtitlelaw7_SameSpans.S9 p v9)) p) (by kernel_rfl) ?_
  rw [h9]
  rfl
theorem surtitlelaw7_SameSpans.ok (k : Nat) : CtrOk Try.prog (c_surtitlelaw7_SameSpans k) := ctr_ok (C := surtitlelaw7_SameSpans.C k) (Ls := surtitlelaw7_SameSpans.Ls) (k := k) C_nil (fn := Try.f49) (by kernel_rfl) (by kernel_rfl) (by kernel_rfl) (by kernel_rfl) (by kernel_rfl) (by kernel_rfl) (fun p q h => (surtitlelaw7_SameSpans.run_eq k p).trans h)
noncomputable def c_surtitlelaw7_SameText (k : Nat) : Ctr := ctrT 37 ((.pr ((.pr (.str) ((.sl 79 ((.pr (.int .i64) ((.pr (.int .i64) ((.pr (.int .i64) (.int .i64))))))))))) ((.pr (.str) ((.sl 79 ((.pr (.int .i64) ((.pr (.int .i64) ((.pr (.int .i64) (.int .i64))))))))))))) (.bool) [(true, 2), (true, 2)] [(false, 1)] (surtitlelaw7_SameText k)
noncomputable def surtitlelaw7_SameText.C (k : Nat) : List Ctr := [c_surtitlelaw7_SameSpans k]
def surtitlelaw7_SameText.Ls : List LN := []
theorem surtitlelaw7_SameText.run_eq (k : Nat) (p : (Ty.D ((.pr ((.pr (.str) ((.sl 79 ((.pr (.int .i64) ((.pr (.int .i64) ((.pr (.int .i64) (.int .i64))))))))))) ((.pr (.str) ((.sl 79 ((.pr (.int .i64) ((.pr (.int .i64) ((.pr (.int .i64) (.int .i64))))))))))))))) : runF Try.prog (surtitlelaw7_SameText.C k) surtitlelaw7_SameText.Ls k Try.f37 (decT [(false, 1)] (.bool) some) (argsT [(true, 2), (true, 2)] ((.pr ((.pr (.str) ((.sl 79 ((.pr (.int .i64) ((.pr (.int .i64) ((.pr (.int .i64) (.int .i64))))))))))) ((.pr (.str) ((.sl 79 ((.pr (.int .i64) ((.pr (.int .i64) ((.pr (.int .i64) (.int .i64))))))))))))) p) (heapT ((.pr ((.pr (.str) ((.sl 79 ((.pr (.int .i64) ((.pr (.int .i64) ((.pr (.int .i64) (.int .i64))))))))))) ((.pr (.str) ((.sl 79 ((.pr (.int .i64) ((.pr (.int .i64) ((.pr (.int .i64) (.int .i64))))))))))))) p) = surtitlelaw7_SameText k p := by
  kernel_rfl
theorem surtitlelaw7_SameText.ok (k : Nat) : CtrOk Try.prog (c_surtitlelaw7_SameText k) := ctr_ok (C := surtitlelaw7_SameText.C k) (Ls := surtitlelaw7_SameText.Ls) (k := k) (C_cons (surtitlelaw7_SameSpans.ok k) C_nil) (fn := Try.f37) (by kernel_rfl) (by kernel_rfl) (by kernel_rfl) (by kernel_rfl) (by kernel_rfl) (by kernel_rfl) (fun p q h => (surtitlelaw7_SameText.run_eq k p).trans h)
end Go.Proofs.Ytlbicmdfdpcdiaa.F
