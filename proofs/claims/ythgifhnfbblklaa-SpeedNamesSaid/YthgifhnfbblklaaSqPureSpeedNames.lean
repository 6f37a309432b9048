-- Written by programs of this session's (wip/printer) out of the translation and of the print's words; Lean checks it.
import Derived.Test.YthgifhnfbblklaaSqPSnx16
namespace Go.Proofs.Ythgifhnfbblklaa.Pure
open Go.RowKit Go.Proofs.Ythgifhnfbblklaa.PSn Go.Proofs.YthgifhnfbblklaaW.PrintWords Go.Proofs.YthgifhnfbblklaaW.PrintLast
theorem SpeedNames : surtitlelaw11_SpeedNames.Pure := by
 exact ⟨70, by kernel_rfl⟩
end Go.Proofs.Ythgifhnfbblklaa.Pure
