-- Written by programs of this session's (wip/printer) out of the translation and of the print's words; Lean checks it.
import Derived.Test.YtbpifnpljcgjlaaNaPNax12
namespace Go.Proofs.Ytbpifnpljcgjlaa.Pure
open Go.RowKit Go.Proofs.Ytbpifnpljcgjlaa.PNa Go.Proofs.YtbpifnpljcgjlaaW.PrintWords Go.Proofs.YtbpifnpljcgjlaaW.PrintLast
theorem LaneNames : surtitlelaw13_LaneNames.Pure := by
  exact ⟨70, by kernel_rfl⟩
end Go.Proofs.Ytbpifnpljcgjlaa.Pure
