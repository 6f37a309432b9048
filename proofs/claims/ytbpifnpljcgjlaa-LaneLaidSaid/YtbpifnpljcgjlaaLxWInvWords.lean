-- Written by programs of this session's (wip/printer) out of the translation and of the print's words; Lean checks it.
import Derived.Test.YtbpifnpljcgjlaaLxWInv
import Derived.Test.YtbpifnpljcgjlaaLxWFootNe
namespace Go.Proofs.YtbpifnpljcgjlaaW.PrintWords
open Go.RowKit
end Go.Proofs.YtbpifnpljcgjlaaW.PrintWords
namespace Go.Proofs.YtbpifnpljcgjlaaW.PrintLast
section
variable {ops : Array Oper} {a : Act} {o og : Oper} {g : Nat} {t : Tmp} {u : Bool}
end
end Go.Proofs.YtbpifnpljcgjlaaW.PrintLast
