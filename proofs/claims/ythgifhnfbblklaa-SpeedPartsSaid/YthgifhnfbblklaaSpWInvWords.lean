-- Written by programs of this session's (wip/printer) out of the translation and of the print's words; Lean checks it.
import Derived.Test.YthgifhnfbblklaaSpWInv
import Derived.Test.YthgifhnfbblklaaSpWFootNe
namespace Go.Proofs.YthgifhnfbblklaaW.PrintWords
open Go.RowKit
end Go.Proofs.YthgifhnfbblklaaW.PrintWords
namespace Go.Proofs.YthgifhnfbblklaaW.PrintLast
section
variable {ops : Array Oper} {a : Act} {o og : Oper} {g : Nat} {t : Tmp} {u : Bool}
end
end Go.Proofs.YthgifhnfbblklaaW.PrintLast
