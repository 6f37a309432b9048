-- printed
import Derived.Test.YtlbicmdfdpcdiaaDnWInv
import Derived.Test.YtlbicmdfdpcdiaaDnWFootNe
namespace Go.Proofs.YtlbicmdfdpcdiaaW.PrintWords
open Go.RowKit
end Go.Proofs.YtlbicmdfdpcdiaaW.PrintWords
namespace Go.Proofs.YtlbicmdfdpcdiaaW.PrintLast
section
variable {ops : Array Oper} {a : Act} {o og : Oper} {g : Nat} {t : Tmp} {u : Bool}
end
end Go.Proofs.YtlbicmdfdpcdiaaW.PrintLast
