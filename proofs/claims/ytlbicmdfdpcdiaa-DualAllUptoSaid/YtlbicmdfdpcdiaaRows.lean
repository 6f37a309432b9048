/-
  No cell of these rows narrows 'for every input' (looked for: loops, veiled, ifaces, maps, wideKeys, modest, calm, conditions, laid).
  DERIVED. THE GIVEN ROWS OF THIS SEAT. 9 by the template 'for every input the law returns true; each argument reads behind the call as it read before'; 0 by the template 'total and deterministic' (their statements: YtlbicmdfdpcdiaaTotals.lean).
  GIVEN WITH THE SEED: the statements are not yours to turn. If you find one false, say at which input.
  Laid BY PROGRAM, IN A SANDBOX (cutbox-rows.mjs): the forced cells as the released guide's own fill.sh prints them over the translation f1f79bad1ced6924… (all of the seat's roots in one cut). By AI agents, Wed Nov 11 2026. No macro, syntax, notation, axiom, sorry.
-/
import Derived.Test.YtlbicmdfdpcdiaaChecked
import GoSem.Claim
import GoSem.ClaimJoined
import GoSem.ClaimMapViews
import Derived.JoinedTies
import Derived.KernelRfl
namespace Go.Proofs.Ytlbicmdfdpcdiaa
/- THE CELL 'sum', in the pinned program and in every row, IS THE sha256 OF THE DUMP (.gsa) THAT YtlbicmdfdpcdiaaProg.lean LOADS. Nothing in Lean hashes anything: it is a label: what it is worth is what the hold of that sum in a sandbox is worth. -/
noncomputable def Try.pinned : Pinned := { name := "ytlbicmdfdpcdiaa", sum := "f1f79bad1ced6924868abc09e18dbc29a49442a078124403844871043ad73d75", checked := Try.checked }
namespace Rows
def none {H : Type} : Left H := { results := [], args := [] }

/-- 'surtitlelaw19.DualNames': WHATEVER THE INPUT: true; the input reads as it did. -/
def dualNamesSpec : ChangeSpec := { name := "dualNames", fn := fun _ => fun
  | [] => { results := [.lit (.bool true)], args := [] }
  | _ => none }
def dualNamesRow : OpenClaim := { program := "ytlbicmdfdpcdiaa", sum := "f1f79bad1ced6924868abc09e18dbc29a49442a078124403844871043ad73d75", func := "surtitle/surtitlelaw19.DualNames", spec := "dualNames", inPlace := ["math/bits.Sub64", "math/bits.Add64"], unfollowed := true, recurses := true, named := ["math/bits.divideError", "math/bits.overflowError"], apart := false }
def DualNamesSaid : Prop := dualNamesRow.holds Try.pinned (OpenSpec.ofChange dualNamesSpec)

/-- ITS FALSE NEIGHBOUR: 'it returns false'. Refute it at one input. -/
def dualNamesWrong : ChangeSpec := { name := "dualNames", fn := fun _ => fun
  | [] => { results := [.lit (.bool false)], args := [] }
  | _ => none }
def DualNamesWrongFalsely : Prop := dualNamesRow.holds Try.pinned (OpenSpec.ofChange dualNamesWrong)

/-- 'surtitlelaw19.DualOrder': WHATEVER THE INPUT: true; the input reads as it did. -/
def dualOrderSpec : ChangeSpec := { name := "dualOrder", fn := fun _ => fun
  | [d1, d2] => { results := [.lit (.bool true)], args := [d1, d2] }
  | _ => none }
def dualOrderRow : OpenClaim := { program := "ytlbicmdfdpcdiaa", sum := "f1f79bad1ced6924868abc09e18dbc29a49442a078124403844871043ad73d75", func := "surtitle/surtitlelaw19.DualOrder", spec := "dualOrder", inPlace := ["math/bits.Sub64", "math/bits.Add64"], unfollowed := true, recurses := true, named := ["math/bits.divideError", "math/bits.overflowError"], apart := false }
def DualOrderSaid : Prop := dualOrderRow.holds Try.pinned (OpenSpec.ofChange dualOrderSpec)

/-- ITS FALSE NEIGHBOUR: 'it returns false'. Refute it at one input. -/
def dualOrderWrong : ChangeSpec := { name := "dualOrder", fn := fun _ => fun
  | [d1, d2] => { results := [.lit (.bool false)], args := [d1, d2] }
  | _ => none }
def DualOrderWrongFalsely : Prop := dualOrderRow.holds Try.pinned (OpenSpec.ofChange dualOrderWrong)

/-- 'surtitlelaw19.DualBack': WHATEVER THE INPUT: true; the input reads as it did. -/
def dualBackSpec : ChangeSpec := { name := "dualBack", fn := fun _ => fun
  | [d1, d2] => { results := [.lit (.bool true)], args := [d1, d2] }
  | _ => none }
def dualBackRow : OpenClaim := { program := "ytlbicmdfdpcdiaa", sum := "f1f79bad1ced6924868abc09e18dbc29a49442a078124403844871043ad73d75", func := "surtitle/surtitlelaw19.DualBack", spec := "dualBack", inPlace := ["math/bits.Sub64", "math/bits.Add64"], unfollowed := true, recurses := true, named := ["math/bits.divideError", "math/bits.overflowError"], apart := false }
def DualBackSaid : Prop := dualBackRow.holds Try.pinned (OpenSpec.ofChange dualBackSpec)

/-- ITS FALSE NEIGHBOUR: 'it returns false'. Refute it at one input. -/
def dualBackWrong : ChangeSpec := { name := "dualBack", fn := fun _ => fun
  | [d1, d2] => { results := [.lit (.bool false)], args := [d1, d2] }
  | _ => none }
def DualBackWrongFalsely : Prop := dualBackRow.holds Try.pinned (OpenSpec.ofChange dualBackWrong)

/-- 'surtitlelaw19.DualSet': WHATEVER THE INPUT: true; the input reads as it did. -/
def dualSetSpec : ChangeSpec := { name := "dualSet", fn := fun _ => fun
  | [d1, d2] => { results := [.lit (.bool true)], args := [d1, d2] }
  | _ => none }
def dualSetRow : OpenClaim := { program := "ytlbicmdfdpcdiaa", sum := "f1f79bad1ced6924868abc09e18dbc29a49442a078124403844871043ad73d75", func := "surtitle/surtitlelaw19.DualSet", spec := "dualSet", inPlace := ["math/bits.Sub64", "math/bits.Add64"], unfollowed := true, recurses := true, named := ["math/bits.divideError", "math/bits.overflowError"], apart := false }
def DualSetSaid : Prop := dualSetRow.holds Try.pinned (OpenSpec.ofChange dualSetSpec)

/-- ITS FALSE NEIGHBOUR: 'it returns false'. Refute it at one input. -/
def dualSetWrong : ChangeSpec := { name := "dualSet", fn := fun _ => fun
  | [d1, d2] => { results := [.lit (.bool false)], args := [d1, d2] }
  | _ => none }
def DualSetWrongFalsely : Prop := dualSetRow.holds Try.pinned (OpenSpec.ofChange dualSetWrong)

/-- 'surtitlelaw19.DualSides': WHATEVER THE INPUT: true; the input reads as it did. -/
def dualSidesSpec : ChangeSpec := { name := "dualSides", fn := fun _ => fun
  | [d] => { results := [.lit (.bool true)], args := [d] }
  | _ => none }
def dualSidesRow : OpenClaim := { program := "ytlbicmdfdpcdiaa", sum := "f1f79bad1ced6924868abc09e18dbc29a49442a078124403844871043ad73d75", func := "surtitle/surtitlelaw19.DualSides", spec := "dualSides", inPlace := ["math/bits.Sub64", "math/bits.Add64"], unfollowed := true, recurses := true, named := ["math/bits.divideError", "math/bits.overflowError"], apart := false }
def DualSidesSaid : Prop := dualSidesRow.holds Try.pinned (OpenSpec.ofChange dualSidesSpec)

/-- ITS FALSE NEIGHBOUR: 'it returns false'. Refute it at one input. -/
def dualSidesWrong : ChangeSpec := { name := "dualSides", fn := fun _ => fun
  | [d] => { results := [.lit (.bool false)], args := [d] }
  | _ => none }
def DualSidesWrongFalsely : Prop := dualSidesRow.holds Try.pinned (OpenSpec.ofChange dualSidesWrong)

/-- 'surtitlelaw19.DualOwn': WHATEVER THE INPUT: true; the input reads as it did. -/
def dualOwnSpec : ChangeSpec := { name := "dualOwn", fn := fun _ => fun
  | [d1, d2] => { results := [.lit (.bool true)], args := [d1, d2] }
  | _ => none }
def dualOwnRow : OpenClaim := { program := "ytlbicmdfdpcdiaa", sum := "f1f79bad1ced6924868abc09e18dbc29a49442a078124403844871043ad73d75", func := "surtitle/surtitlelaw19.DualOwn", spec := "dualOwn", inPlace := ["math/bits.Sub64", "math/bits.Add64"], unfollowed := true, recurses := true, named := ["math/bits.divideError", "math/bits.overflowError"], apart := false }
def DualOwnSaid : Prop := dualOwnRow.holds Try.pinned (OpenSpec.ofChange dualOwnSpec)

/-- ITS FALSE NEIGHBOUR: 'it returns false'. Refute it at one input. -/
def dualOwnWrong : ChangeSpec := { name := "dualOwn", fn := fun _ => fun
  | [d1, d2] => { results := [.lit (.bool false)], args := [d1, d2] }
  | _ => none }
def DualOwnWrongFalsely : Prop := dualOwnRow.holds Try.pinned (OpenSpec.ofChange dualOwnWrong)

/-- 'surtitlelaw19.DualNoMore': WHATEVER THE INPUT: true; the input reads as it did. -/
def dualNoMoreSpec : ChangeSpec := { name := "dualNoMore", fn := fun _ => fun
  | [d1, d2, d3] => { results := [.lit (.bool true)], args := [d1, d2, d3] }
  | _ => none }
def dualNoMoreRow : OpenClaim := { program := "ytlbicmdfdpcdiaa", sum := "f1f79bad1ced6924868abc09e18dbc29a49442a078124403844871043ad73d75", func := "surtitle/surtitlelaw19.DualNoMore", spec := "dualNoMore", inPlace := ["math/bits.Sub64", "math/bits.Add64"], unfollowed := true, recurses := true, named := ["math/bits.divideError", "math/bits.overflowError"], apart := false }
def DualNoMoreSaid : Prop := dualNoMoreRow.holds Try.pinned (OpenSpec.ofChange dualNoMoreSpec)

/-- ITS FALSE NEIGHBOUR: 'it returns false'. Refute it at one input. -/
def dualNoMoreWrong : ChangeSpec := { name := "dualNoMore", fn := fun _ => fun
  | [d1, d2, d3] => { results := [.lit (.bool false)], args := [d1, d2, d3] }
  | _ => none }
def DualNoMoreWrongFalsely : Prop := dualNoMoreRow.holds Try.pinned (OpenSpec.ofChange dualNoMoreWrong)

/-- 'surtitlelaw19.DualAll': WHATEVER THE INPUT: true; the input reads as it did. -/
def dualAllSpec : ChangeSpec := { name := "dualAll", fn := fun _ => fun
  | [d1, d2] => { results := [.lit (.bool true)], args := [d1, d2] }
  | _ => none }
def dualAllRow : OpenClaim := { program := "ytlbicmdfdpcdiaa", sum := "f1f79bad1ced6924868abc09e18dbc29a49442a078124403844871043ad73d75", func := "surtitle/surtitlelaw19.DualAll", spec := "dualAll", inPlace := ["math/bits.Sub64", "math/bits.Add64"], unfollowed := true, recurses := true, named := ["math/bits.divideError", "math/bits.overflowError"], apart := false }
def DualAllSaid : Prop := dualAllRow.holds Try.pinned (OpenSpec.ofChange dualAllSpec)

/-- ITS FALSE NEIGHBOUR: 'it returns false'. Refute it at one input. -/
def dualAllWrong : ChangeSpec := { name := "dualAll", fn := fun _ => fun
  | [d1, d2] => { results := [.lit (.bool false)], args := [d1, d2] }
  | _ => none }
def DualAllWrongFalsely : Prop := dualAllRow.holds Try.pinned (OpenSpec.ofChange dualAllWrong)

/-- 'surtitlelaw19.DualTurned': WHATEVER THE INPUT: true; the input reads as it did. -/
def dualTurnedSpec : ChangeSpec := { name := "dualTurned", fn := fun _ => fun
  | [d1, d2] => { results := [.lit (.bool true)], args := [d1, d2] }
  | _ => none }
def dualTurnedRow : OpenClaim := { program := "ytlbicmdfdpcdiaa", sum := "f1f79bad1ced6924868abc09e18dbc29a49442a078124403844871043ad73d75", func := "surtitle/surtitlelaw19.DualTurned", spec := "dualTurned", inPlace := ["math/bits.Sub64", "math/bits.Add64"], unfollowed := true, recurses := true, named := ["math/bits.divideError", "math/bits.overflowError"], apart := false }
def DualTurnedSaid : Prop := dualTurnedRow.holds Try.pinned (OpenSpec.ofChange dualTurnedSpec)

/-- ITS FALSE NEIGHBOUR: 'it returns false'. Refute it at one input. -/
def dualTurnedWrong : ChangeSpec := { name := "dualTurned", fn := fun _ => fun
  | [d1, d2] => { results := [.lit (.bool false)], args := [d1, d2] }
  | _ => none }
def DualTurnedWrongFalsely : Prop := dualTurnedRow.holds Try.pinned (OpenSpec.ofChange dualTurnedWrong)

/- THE SECOND FORM. 'bulk': how many values and letters a reading holds, each counted each time it is reached (what is shared counts as often as it is met; a slice's spare places count too). A statement '..UptoSaid' is the law's where the arguments, and the package variables that the reading takes, are together of bulk at most 1048576: NARROWER than '..Said'. Prove '..Said' where nothing that the law and all that it calls make is longer than what came in: it says more and counts as full. Else prove '..UptoSaid'. A law counts once. -/
mutual
def uptoBulk {H : Type} : DataW H → Nat
  | .lit (.string bytes) => bytes.length + 1
  | .lit _ => 1
  | .nil => 1
  | .ptr d => uptoBulk d + 1
  | .slice elems spare => uptoBulkAll elems + uptoBulkAll spare + 1
  | .agg parts => uptoBulkAll parts + 1
  | .iface _ d => uptoBulk d + 1
  | .map entries => uptoBulkEntries entries + 1
  | .held _ => 1
def uptoBulkAll {H : Type} : List (DataW H) → Nat
  | [] => 0
  | d :: r => uptoBulk d + uptoBulkAll r
def uptoBulkEntries {H : Type} : List (Lit × DataW H) → Nat
  | [] => 0
  | x :: r => uptoBulkEntry x + uptoBulkEntries r
def uptoBulkEntry {H : Type} : Lit × DataW H → Nat
  | (.string bytes, d) => bytes.length + uptoBulk d + 1
  | (_, d) => uptoBulk d + 1
 end
def uptoSmall : (H : Type) → List (DataW H) → Bool := fun _ ds => decide (uptoBulkAll ds ≤ 1048576)
def OpenSpec.upto (s : _root_.Go.ChangeSpec) : _root_.Go.OpenSpec := { _root_.Go.OpenSpec.ofChange s with cond := some uptoSmall }

/-- 'surtitlelaw19.DualNames', WHERE WHAT IT READS IS OF BULK AT MOST 1048576: true; the input reads as it did. -/
def dualNamesUptoRow : OpenClaim := { program := "ytlbicmdfdpcdiaa", sum := "f1f79bad1ced6924868abc09e18dbc29a49442a078124403844871043ad73d75", func := "surtitle/surtitlelaw19.DualNames", spec := "dualNames", inPlace := ["math/bits.Sub64", "math/bits.Add64"], unfollowed := true, recurses := true, named := ["math/bits.divideError", "math/bits.overflowError"], apart := false, narrowed := true }
def DualNamesUptoSaid : Prop := dualNamesUptoRow.holds Try.pinned (OpenSpec.upto dualNamesSpec)

/-- 'surtitlelaw19.DualOrder', WHERE WHAT IT READS IS OF BULK AT MOST 1048576: true; the input reads as it did. -/
def dualOrderUptoRow : OpenClaim := { program := "ytlbicmdfdpcdiaa", sum := "f1f79bad1ced6924868abc09e18dbc29a49442a078124403844871043ad73d75", func := "surtitle/surtitlelaw19.DualOrder", spec := "dualOrder", inPlace := ["math/bits.Sub64", "math/bits.Add64"], unfollowed := true, recurses := true, named := ["math/bits.divideError", "math/bits.overflowError"], apart := false, narrowed := true }
def DualOrderUptoSaid : Prop := dualOrderUptoRow.holds Try.pinned (OpenSpec.upto dualOrderSpec)

/-- 'surtitlelaw19.DualBack', WHERE WHAT IT READS IS OF BULK AT MOST 1048576: true; the input reads as it did. -/
def dualBackUptoRow : OpenClaim := { program := "ytlbicmdfdpcdiaa", sum := "f1f79bad1ced6924868abc09e18dbc29a49442a078124403844871043ad73d75", func := "surtitle/surtitlelaw19.DualBack", spec := "dualBack", inPlace := ["math/bits.Sub64", "math/bits.Add64"], unfollowed := true, recurses := true, named := ["math/bits.divideError", "math/bits.overflowError"], apart := false, narrowed := true }
def DualBackUptoSaid : Prop := dualBackUptoRow.holds Try.pinned (OpenSpec.upto dualBackSpec)

/-- 'surtitlelaw19.DualSet', WHERE WHAT IT READS IS OF BULK AT MOST 1048576: true; the input reads as it did. -/
def dualSetUptoRow : OpenClaim := { program := "ytlbicmdfdpcdiaa", sum := "f1f79bad1ced6924868abc09e18dbc29a49442a078124403844871043ad73d75", func := "surtitle/surtitlelaw19.DualSet", spec := "dualSet", inPlace := ["math/bits.Sub64", "math/bits.Add64"], unfollowed := true, recurses := true, named := ["math/bits.divideError", "math/bits.overflowError"], apart := false, narrowed := true }
def DualSetUptoSaid : Prop := dualSetUptoRow.holds Try.pinned (OpenSpec.upto dualSetSpec)

/-- 'surtitlelaw19.DualSides', WHERE WHAT IT READS IS OF BULK AT MOST 1048576: true; the input reads as it did. -/
def dualSidesUptoRow : OpenClaim := { program := "ytlbicmdfdpcdiaa", sum := "f1f79bad1ced6924868abc09e18dbc29a49442a078124403844871043ad73d75", func := "surtitle/surtitlelaw19.DualSides", spec := "dualSides", inPlace := ["math/bits.Sub64", "math/bits.Add64"], unfollowed := true, recurses := true, named := ["math/bits.divideError", "math/bits.overflowError"], apart := false, narrowed := true }
def DualSidesUptoSaid : Prop := dualSidesUptoRow.holds Try.pinned (OpenSpec.upto dualSidesSpec)

/-- 'surtitlelaw19.DualOwn', WHERE WHAT IT READS IS OF BULK AT MOST 1048576: true; the input reads as it did. -/
def dualOwnUptoRow : OpenClaim := { program := "ytlbicmdfdpcdiaa", sum := "f1f79bad1ced6924868abc09e18dbc29a49442a078124403844871043ad73d75", func := "surtitle/surtitlelaw19.DualOwn", spec := "dualOwn", inPlace := ["math/bits.Sub64", "math/bits.Add64"], unfollowed := true, recurses := true, named := ["math/bits.divideError", "math/bits.overflowError"], apart := false, narrowed := true }
def DualOwnUptoSaid : Prop := dualOwnUptoRow.holds Try.pinned (OpenSpec.upto dualOwnSpec)

/-- 'surtitlelaw19.DualNoMore', WHERE WHAT IT READS IS OF BULK AT MOST 1048576: true; the input reads as it did. -/
def dualNoMoreUptoRow : OpenClaim := { program := "ytlbicmdfdpcdiaa", sum := "f1f79bad1ced6924868abc09e18dbc29a49442a078124403844871043ad73d75", func := "surtitle/surtitlelaw19.DualNoMore", spec := "dualNoMore", inPlace := ["math/bits.Sub64", "math/bits.Add64"], unfollowed := true, recurses := true, named := ["math/bits.divideError", "math/bits.overflowError"], apart := false, narrowed := true }
def DualNoMoreUptoSaid : Prop := dualNoMoreUptoRow.holds Try.pinned (OpenSpec.upto dualNoMoreSpec)

/-- 'surtitlelaw19.DualAll', WHERE WHAT IT READS IS OF BULK AT MOST 1048576: true; the input reads as it did. -/
def dualAllUptoRow : OpenClaim := { program := "ytlbicmdfdpcdiaa", sum := "f1f79bad1ced6924868abc09e18dbc29a49442a078124403844871043ad73d75", func := "surtitle/surtitlelaw19.DualAll", spec := "dualAll", inPlace := ["math/bits.Sub64", "math/bits.Add64"], unfollowed := true, recurses := true, named := ["math/bits.divideError", "math/bits.overflowError"], apart := false, narrowed := true }
def DualAllUptoSaid : Prop := dualAllUptoRow.holds Try.pinned (OpenSpec.upto dualAllSpec)

/-- 'surtitlelaw19.DualTurned', WHERE WHAT IT READS IS OF BULK AT MOST 1048576: true; the input reads as it did. -/
def dualTurnedUptoRow : OpenClaim := { program := "ytlbicmdfdpcdiaa", sum := "f1f79bad1ced6924868abc09e18dbc29a49442a078124403844871043ad73d75", func := "surtitle/surtitlelaw19.DualTurned", spec := "dualTurned", inPlace := ["math/bits.Sub64", "math/bits.Add64"], unfollowed := true, recurses := true, named := ["math/bits.divideError", "math/bits.overflowError"], apart := false, narrowed := true }
def DualTurnedUptoSaid : Prop := dualTurnedUptoRow.holds Try.pinned (OpenSpec.upto dualTurnedSpec)

end Rows
end Go.Proofs.Ytlbicmdfdpcdiaa
