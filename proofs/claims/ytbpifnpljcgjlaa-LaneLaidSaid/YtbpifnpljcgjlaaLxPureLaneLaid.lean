-- Written by programs of this session's (wip/printer) out of the translation and of the print's words; Lean checks it.
import Derived.Test.YtbpifnpljcgjlaaLxPLxxy3
import Derived.Test.YtbpifnpljcgjlaaLxPLxx15
namespace Go.Proofs.Ytbpifnpljcgjlaa.Pure
open Go.RowKit Go.Proofs.Ytbpifnpljcgjlaa.PLx
theorem LaneLaid : surtitlelaw13_LaneLaid.Pure := fun l h => (laneLaid_tells l h.1).get
end Go.Proofs.Ytbpifnpljcgjlaa.Pure
