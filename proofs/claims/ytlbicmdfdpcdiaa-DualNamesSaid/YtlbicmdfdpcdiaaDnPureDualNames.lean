-- printed
import Derived.Test.YtlbicmdfdpcdiaaDnPDax26
namespace Go.Proofs.Ytlbicmdfdpcdiaa.Pure
open Go.RowKit Go.Proofs.Ytlbicmdfdpcdiaa.PDa Go.Proofs.YtlbicmdfdpcdiaaW.PrintWords Go.Proofs.YtlbicmdfdpcdiaaW.PrintLast
theorem DualNames : surtitlelaw19_DualNames.Pure := by
 exact ⟨70, by kernel_rfl⟩
end Go.Proofs.Ytlbicmdfdpcdiaa.Pure
