/-
  No cell of these rows narrows 'for every input' (looked for: loops, veiled, ifaces, maps, wideKeys, modest, calm, conditions, laid).
  DERIVED. THE GIVEN ROWS OF THIS SEAT. 6 by the template 'for every input the law returns true; each argument reads behind the call as it read before'; 0 by the template 'total and deterministic' (their statements: YtbpifnpljcgjlaaTotals.lean).
  GIVEN WITH THE SEED: the statements are not yours to turn. If you find one false, say at which input.
  Laid BY PROGRAM, IN A SANDBOX (cutbox-rows.mjs): the forced cells as the released guide's own fill.sh prints them over the translation 7ab4bd4a957e7bff… (all of the seat's roots in one cut). By AI agents, Wed Nov 11 2026. No macro, syntax, notation, axiom, sorry.
-/
import Derived.Test.YtbpifnpljcgjlaaChecked
import GoSem.Claim
import GoSem.ClaimJoined
import GoSem.ClaimMapViews
import Derived.JoinedTies
import Derived.KernelRfl
namespace Go.Proofs.Ytbpifnpljcgjlaa
/- THE CELL 'sum', in the pinned program and in every row, IS THE sha256 OF THE DUMP (.gsa) THAT YtbpifnpljcgjlaaProg.lean LOADS. Nothing in Lean hashes anything: it is a label: what it is worth is what the hold of that sum in a sandbox is worth. -/
noncomputable def Try.pinned : Pinned := { name := "ytbpifnpljcgjlaa", sum := "7ab4bd4a957e7bff774a24ba9cdd7ebcc8391eb5b853478da3819d124002f204", checked := Try.checked }
namespace Rows
def none {H : Type} : Left H := { results := [], args := [] }

/-- 'surtitlelaw13.LaneLaid': WHATEVER THE INPUT: true; the input reads as it did. -/
def laneLaidSpec : ChangeSpec := { name := "laneLaid", fn := fun _ => fun
  | [d] => { results := [.lit (.bool true)], args := [d] }
  | _ => none }
def laneLaidRow : OpenClaim := { program := "ytbpifnpljcgjlaa", sum := "7ab4bd4a957e7bff774a24ba9cdd7ebcc8391eb5b853478da3819d124002f204", func := "surtitle/surtitlelaw13.LaneLaid", spec := "laneLaid", inPlace := ["math/bits.Sub64"], unfollowed := true, recurses := true, named := ["math/bits.divideError", "math/bits.overflowError"], apart := false }
def LaneLaidSaid : Prop := laneLaidRow.holds Try.pinned (OpenSpec.ofChange laneLaidSpec)

/-- ITS FALSE NEIGHBOUR: 'it returns false'. Refute it at one input. -/
def laneLaidWrong : ChangeSpec := { name := "laneLaid", fn := fun _ => fun
  | [d] => { results := [.lit (.bool false)], args := [d] }
  | _ => none }
def LaneLaidWrongFalsely : Prop := laneLaidRow.holds Try.pinned (OpenSpec.ofChange laneLaidWrong)

/-- 'surtitlelaw13.LaneNames': WHATEVER THE INPUT: true; the input reads as it did. -/
def laneNamesSpec : ChangeSpec := { name := "laneNames", fn := fun _ => fun
  | [] => { results := [.lit (.bool true)], args := [] }
  | _ => none }
def laneNamesRow : OpenClaim := { program := "ytbpifnpljcgjlaa", sum := "7ab4bd4a957e7bff774a24ba9cdd7ebcc8391eb5b853478da3819d124002f204", func := "surtitle/surtitlelaw13.LaneNames", spec := "laneNames", inPlace := ["math/bits.Sub64"], unfollowed := true, recurses := true, named := ["math/bits.divideError", "math/bits.overflowError"], apart := false }
def LaneNamesSaid : Prop := laneNamesRow.holds Try.pinned (OpenSpec.ofChange laneNamesSpec)

/-- ITS FALSE NEIGHBOUR: 'it returns false'. Refute it at one input. -/
def laneNamesWrong : ChangeSpec := { name := "laneNames", fn := fun _ => fun
  | [] => { results := [.lit (.bool false)], args := [] }
  | _ => none }
def LaneNamesWrongFalsely : Prop := laneNamesRow.holds Try.pinned (OpenSpec.ofChange laneNamesWrong)

/-- 'surtitlelaw13.LaneLeast': WHATEVER THE INPUT: true; the input reads as it did. -/
def laneLeastSpec : ChangeSpec := { name := "laneLeast", fn := fun _ => fun
  | [d] => { results := [.lit (.bool true)], args := [d] }
  | _ => none }
def laneLeastRow : OpenClaim := { program := "ytbpifnpljcgjlaa", sum := "7ab4bd4a957e7bff774a24ba9cdd7ebcc8391eb5b853478da3819d124002f204", func := "surtitle/surtitlelaw13.LaneLeast", spec := "laneLeast", inPlace := ["math/bits.Sub64"], unfollowed := true, recurses := true, named := ["math/bits.divideError", "math/bits.overflowError"], apart := false }
def LaneLeastSaid : Prop := laneLeastRow.holds Try.pinned (OpenSpec.ofChange laneLeastSpec)

/-- ITS FALSE NEIGHBOUR: 'it returns false'. Refute it at one input. -/
def laneLeastWrong : ChangeSpec := { name := "laneLeast", fn := fun _ => fun
  | [d] => { results := [.lit (.bool false)], args := [d] }
  | _ => none }
def LaneLeastWrongFalsely : Prop := laneLeastRow.holds Try.pinned (OpenSpec.ofChange laneLeastWrong)

/-- 'surtitlelaw13.LaneScreen': WHATEVER THE INPUT: true; the input reads as it did. -/
def laneScreenSpec : ChangeSpec := { name := "laneScreen", fn := fun _ => fun
  | [d1, d2, d3] => { results := [.lit (.bool true)], args := [d1, d2, d3] }
  | _ => none }
def laneScreenRow : OpenClaim := { program := "ytbpifnpljcgjlaa", sum := "7ab4bd4a957e7bff774a24ba9cdd7ebcc8391eb5b853478da3819d124002f204", func := "surtitle/surtitlelaw13.LaneScreen", spec := "laneScreen", inPlace := ["math/bits.Sub64"], unfollowed := true, recurses := true, named := ["math/bits.divideError", "math/bits.overflowError"], apart := false }
def LaneScreenSaid : Prop := laneScreenRow.holds Try.pinned (OpenSpec.ofChange laneScreenSpec)

/-- ITS FALSE NEIGHBOUR: 'it returns false'. Refute it at one input. -/
def laneScreenWrong : ChangeSpec := { name := "laneScreen", fn := fun _ => fun
  | [d1, d2, d3] => { results := [.lit (.bool false)], args := [d1, d2, d3] }
  | _ => none }
def LaneScreenWrongFalsely : Prop := laneScreenRow.holds Try.pinned (OpenSpec.ofChange laneScreenWrong)

/-- 'surtitlelaw13.LaneRoom': WHATEVER THE INPUT: true; the input reads as it did. -/
def laneRoomSpec : ChangeSpec := { name := "laneRoom", fn := fun _ => fun
  | [d1, d2, d3, d4] => { results := [.lit (.bool true)], args := [d1, d2, d3, d4] }
  | _ => none }
def laneRoomRow : OpenClaim := { program := "ytbpifnpljcgjlaa", sum := "7ab4bd4a957e7bff774a24ba9cdd7ebcc8391eb5b853478da3819d124002f204", func := "surtitle/surtitlelaw13.LaneRoom", spec := "laneRoom", inPlace := ["math/bits.Sub64"], unfollowed := true, recurses := true, named := ["math/bits.divideError", "math/bits.overflowError"], apart := false }
def LaneRoomSaid : Prop := laneRoomRow.holds Try.pinned (OpenSpec.ofChange laneRoomSpec)

/-- ITS FALSE NEIGHBOUR: 'it returns false'. Refute it at one input. -/
def laneRoomWrong : ChangeSpec := { name := "laneRoom", fn := fun _ => fun
  | [d1, d2, d3, d4] => { results := [.lit (.bool false)], args := [d1, d2, d3, d4] }
  | _ => none }
def LaneRoomWrongFalsely : Prop := laneRoomRow.holds Try.pinned (OpenSpec.ofChange laneRoomWrong)

/-- 'surtitlelaw13.LaneOwn': WHATEVER THE INPUT: true; the input reads as it did. -/
def laneOwnSpec : ChangeSpec := { name := "laneOwn", fn := fun _ => fun
  | [d1, d2, d3] => { results := [.lit (.bool true)], args := [d1, d2, d3] }
  | _ => none }
def laneOwnRow : OpenClaim := { program := "ytbpifnpljcgjlaa", sum := "7ab4bd4a957e7bff774a24ba9cdd7ebcc8391eb5b853478da3819d124002f204", func := "surtitle/surtitlelaw13.LaneOwn", spec := "laneOwn", inPlace := ["math/bits.Sub64"], unfollowed := true, recurses := true, named := ["math/bits.divideError", "math/bits.overflowError"], apart := false }
def LaneOwnSaid : Prop := laneOwnRow.holds Try.pinned (OpenSpec.ofChange laneOwnSpec)

/-- ITS FALSE NEIGHBOUR: 'it returns false'. Refute it at one input. -/
def laneOwnWrong : ChangeSpec := { name := "laneOwn", fn := fun _ => fun
  | [d1, d2, d3] => { results := [.lit (.bool false)], args := [d1, d2, d3] }
  | _ => none }
def LaneOwnWrongFalsely : Prop := laneOwnRow.holds Try.pinned (OpenSpec.ofChange laneOwnWrong)

/- THE SECOND FORM. 'bulk': how many values and letters a reading holds, each counted each time it is reached (what is shared counts as often as it is met; a slice's spare places count too). A statement '..UptoSaid' is the law's where the arguments, and the package variables that the reading takes, are together of bulk at most 1048576: NARROWER than '..Said'. Prove '..Said' where nothing that the law and all that it calls make is longer than what came in: it says more and counts as full. Else prove '..UptoSaid'. A law counts once. -/
mutual
def uptoBulk {H : Type} : DataW H → Nat
  | .lit (.string bytes) => bytes.length + 1
  | .lit _ => 1
  | .nil => 1
  | .ptr d => uptoBulk d + 1
  | .slice elems spare => uptoBulkAll elems + uptoBulkAll spare + 1
  | .agg parts => uptoBulkAll parts + 1
  | .iface _ d => uptoBulk d + 1
  | .map entries => uptoBulkEntries entries + 1
  | .held _ => 1
def uptoBulkAll {H : Type} : List (DataW H) → Nat
  | [] => 0
  | d :: r => uptoBulk d + uptoBulkAll r
def uptoBulkEntries {H : Type} : List (Lit × DataW H) → Nat
  | [] => 0
  | x :: r => uptoBulkEntry x + uptoBulkEntries r
def uptoBulkEntry {H : Type} : Lit × DataW H → Nat
  | (.string bytes, d) => bytes.length + uptoBulk d + 1
  | (_, d) => uptoBulk d + 1
 end
def uptoSmall : (H : Type) → List (DataW H) → Bool := fun _ ds => decide (uptoBulkAll ds ≤ 1048576)
def OpenSpec.upto (s : _root_.Go.ChangeSpec) : _root_.Go.OpenSpec := { _root_.Go.OpenSpec.ofChange s with cond := some uptoSmall }

/-- 'surtitlelaw13.LaneLaid', WHERE WHAT IT READS IS OF BULK AT MOST 1048576: true; the input reads as it did. -/
def laneLaidUptoRow : OpenClaim := { program := "ytbpifnpljcgjlaa", sum := "7ab4bd4a957e7bff774a24ba9cdd7ebcc8391eb5b853478da3819d124002f204", func := "surtitle/surtitlelaw13.LaneLaid", spec := "laneLaid", inPlace := ["math/bits.Sub64"], unfollowed := true, recurses := true, named := ["math/bits.divideError", "math/bits.overflowError"], apart := false, narrowed := true }
def LaneLaidUptoSaid : Prop := laneLaidUptoRow.holds Try.pinned (OpenSpec.upto laneLaidSpec)

/-- 'surtitlelaw13.LaneNames', WHERE WHAT IT READS IS OF BULK AT MOST 1048576: true; the input reads as it did. -/
def laneNamesUptoRow : OpenClaim := { program := "ytbpifnpljcgjlaa", sum := "7ab4bd4a957e7bff774a24ba9cdd7ebcc8391eb5b853478da3819d124002f204", func := "surtitle/surtitlelaw13.LaneNames", spec := "laneNames", inPlace := ["math/bits.Sub64"], unfollowed := true, recurses := true, named := ["math/bits.divideError", "math/bits.overflowError"], apart := false, narrowed := true }
def LaneNamesUptoSaid : Prop := laneNamesUptoRow.holds Try.pinned (OpenSpec.upto laneNamesSpec)

/-- 'surtitlelaw13.LaneLeast', WHERE WHAT IT READS IS OF BULK AT MOST 1048576: true; the input reads as it did. -/
def laneLeastUptoRow : OpenClaim := { program := "ytbpifnpljcgjlaa", sum := "7ab4bd4a957e7bff774a24ba9cdd7ebcc8391eb5b853478da3819d124002f204", func := "surtitle/surtitlelaw13.LaneLeast", spec := "laneLeast", inPlace := ["math/bits.Sub64"], unfollowed := true, recurses := true, named := ["math/bits.divideError", "math/bits.overflowError"], apart := false, narrowed := true }
def LaneLeastUptoSaid : Prop := laneLeastUptoRow.holds Try.pinned (OpenSpec.upto laneLeastSpec)

/-- 'surtitlelaw13.LaneScreen', WHERE WHAT IT READS IS OF BULK AT MOST 1048576: true; the input reads as it did. -/
def laneScreenUptoRow : OpenClaim := { program := "ytbpifnpljcgjlaa", sum := "7ab4bd4a957e7bff774a24ba9cdd7ebcc8391eb5b853478da3819d124002f204", func := "surtitle/surtitlelaw13.LaneScreen", spec := "laneScreen", inPlace := ["math/bits.Sub64"], unfollowed := true, recurses := true, named := ["math/bits.divideError", "math/bits.overflowError"], apart := false, narrowed := true }
def LaneScreenUptoSaid : Prop := laneScreenUptoRow.holds Try.pinned (OpenSpec.upto laneScreenSpec)

/-- 'surtitlelaw13.LaneRoom', WHERE WHAT IT READS IS OF BULK AT MOST 1048576: true; the input reads as it did. -/
def laneRoomUptoRow : OpenClaim := { program := "ytbpifnpljcgjlaa", sum := "7ab4bd4a957e7bff774a24ba9cdd7ebcc8391eb5b853478da3819d124002f204", func := "surtitle/surtitlelaw13.LaneRoom", spec := "laneRoom", inPlace := ["math/bits.Sub64"], unfollowed := true, recurses := true, named := ["math/bits.divideError", "math/bits.overflowError"], apart := false, narrowed := true }
def LaneRoomUptoSaid : Prop := laneRoomUptoRow.holds Try.pinned (OpenSpec.upto laneRoomSpec)

/-- 'surtitlelaw13.LaneOwn', WHERE WHAT IT READS IS OF BULK AT MOST 1048576: true; the input reads as it did. -/
def laneOwnUptoRow : OpenClaim := { program := "ytbpifnpljcgjlaa", sum := "7ab4bd4a957e7bff774a24ba9cdd7ebcc8391eb5b853478da3819d124002f204", func := "surtitle/surtitlelaw13.LaneOwn", spec := "laneOwn", inPlace := ["math/bits.Sub64"], unfollowed := true, recurses := true, named := ["math/bits.divideError", "math/bits.overflowError"], apart := false, narrowed := true }
def LaneOwnUptoSaid : Prop := laneOwnUptoRow.holds Try.pinned (OpenSpec.upto laneOwnSpec)

end Rows
end Go.Proofs.Ytbpifnpljcgjlaa
