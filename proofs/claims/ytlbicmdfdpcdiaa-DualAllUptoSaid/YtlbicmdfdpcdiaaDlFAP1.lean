import Derived.Test.YtlbicmdfdpcdiaaDlC
import Derived.Test.YtlbicmdfdpcdiaaDlKNM1
-- Printed by a program of this session's; Lean checks it.
set_option linter.unusedVariables false
set_option maxRecDepth 100000
set_option maxHeartbeats 0
namespace Go.Proofs.Ytlbicmdfdpcdiaa.F
open Go.Proofs.Ytlbicmdfdpcdiaa.Vm Go.RowKit
noncomputable section
end
end Go.Proofs.Ytlbicmdfdpcdiaa.F
