import Derived.Test.YtlbicmdfdpcdiaaDeC
import Derived.Test.YtlbicmdfdpcdiaaDeKD1
-- Printed by a program of this session's; Lean checks it.
set_option linter.unusedVariables false
set_option maxRecDepth 100000
set_option maxHeartbeats 0
namespace Go.Proofs.Ytlbicmdfdpcdiaa.F
open Go.Proofs.Ytlbicmdfdpcdiaa.Vm Go.RowKit
noncomputable section
def surtitlelaw7_SameSpans.J12 (k : Nat) (g9 : Int → Option (Bool)) (v9 : Int) (j12 : Bool) : Option (Bool) := sel (j12 = true) (some false) (g9 (wrap64 (v9 + 1)))
def surtitlelaw7_SameSpans.T9 (k : Nat) (p : (List (Int × (Int × (Int × Int))) × List (Int × (Int × (Int × Int))))) (g9 : Int → Option (Bool)) (v9 : Int) : Option (Bool) := sel (v9 < (lenI p.1)) (sel (0 ≤ v9) (sel (v9 < (lenI p.1)) (sel (0 ≤ v9) (sel (v9 < (lenI p.2)) (surtitlelaw7_SameSpans.J12 k g9 v9 (!(((lget p.1 v9 default).1 == (lget p.2 v9 default).1) && ((((lget p.1 v9 default).2).1 == ((lget p.2 v9 default).2).1) && (((((lget p.1 v9 default).2).2).1 == (((lget p.2 v9 default).2).2).1) && ((((lget p.1 v9 default).2).2).2 == (((lget p.2 v9 default).2).2).2)))))) (none)) (none)) (none)) (none)) (some true)
def surtitlelaw7_SameSpans.B9 (k : Nat) (p : (List (Int × (Int × (Int × Int))) × List (Int × (Int × (Int × Int))))) (g9 : Int → Option (Bool)) (v9 : Int) : Option (Bool) := surtitlelaw7_SameSpans.T9 k p g9 v9
def surtitlelaw7_SameSpans.L9 (k : Nat) (p : (List (Int × (Int × (Int × Int))) × List (Int × (Int × (Int × Int))))) (v9 : Int) : Option (Bool) := itn (surtitlelaw7_SameSpans.B9 k p) k v9
def surtitlelaw7_SameSpans.M (k : Nat) (l9 : ((List (Int × (Int × (Int × Int))) × List (Int × (Int × (Int × Int))))) → (Int) → Option (Bool)) (p : (List (Int × (Int × (Int × Int))) × List (Int × (Int × (Int × Int))))) : Option (Bool) := sel ((lenI p.1) = (lenI p.2)) (l9 p 0) (some false)
def surtitlelaw7_SameSpans (k : Nat) (p : (List (Int × (Int × (Int × Int))) × List (Int × (Int × (Int × Int))))) : Option (Bool) := surtitlelaw7_SameSpans.M k (fun (p : (List (Int × (Int × (Int × Int))) × List (Int × (Int × (Int × Int))))) v9 => surtitlelaw7_SameSpans.L9 k p v9) p
def surtitlelaw7_SameText.J1 (k : Nat) (j1 : Bool) : Option (Bool) := some j1
def surtitlelaw7_SameText (k : Nat) (p : ((ByteArray × List (Int × (Int × (Int × Int)))) × (ByteArray × List (Int × (Int × (Int × Int)))))) : Option (Bool) := sel ((ByteArray.toList p.1.1) = (ByteArray.toList p.2.1)) ((surtitlelaw7_SameSpans k (p.1.2, p.2.2)).bind fun t0 => surtitlelaw7_SameText.J1 k t0) (surtitlelaw7_SameText.J1 k false)
end
end Go.Proofs.Ytlbicmdfdpcdiaa.F
