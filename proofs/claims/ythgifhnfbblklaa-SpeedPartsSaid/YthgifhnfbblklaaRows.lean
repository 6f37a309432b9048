/-
  No cell of these rows narrows 'for every input' (looked for: loops, veiled, ifaces, maps, wideKeys, modest, calm, conditions, laid).
  DERIVED. THE GIVEN ROWS OF THIS SEAT. 5 by the template 'for every input the law returns true; each argument reads behind the call as it read before'; 0 by the template 'total and deterministic' (their statements: YthgifhnfbblklaaTotals.lean).
  GIVEN WITH THE SEED: the statements are not yours to turn. If you find one false, say at which input.
  Laid BY PROGRAM, IN A SANDBOX (cutbox-rows.mjs): the forced cells as the released guide's own fill.sh prints them over the translation 3a13bcc88761923c… (all of the seat's roots in one cut). By AI agents, Wed Nov 11 2026. No macro, syntax, notation, axiom, sorry.
-/
import Derived.Test.YthgifhnfbblklaaChecked
import GoSem.Claim
import GoSem.ClaimJoined
import GoSem.ClaimMapViews
import Derived.JoinedTies
import Derived.KernelRfl
namespace Go.Proofs.Ythgifhnfbblklaa
/- THE CELL 'sum', in the pinned program and in every row, IS THE sha256 OF THE DUMP (.gsa) THAT YthgifhnfbblklaaProg.lean LOADS. Nothing in Lean hashes anything: it is a label: what it is worth is what the hold of that sum in a sandbox is worth. -/
noncomputable def Try.pinned : Pinned := { name := "ythgifhnfbblklaa", sum := "3a13bcc88761923ce5f834f7f59a9ec9934bd78f9f4e5d6eb4538815fb92c3f1", checked := Try.checked }
namespace Rows
def none {H : Type} : Left H := { results := [], args := [] }

/-- 'surtitlelaw11.SpeedNames': WHATEVER THE INPUT: true; the input reads as it did. -/
def speedNamesSpec : ChangeSpec := { name := "speedNames", fn := fun _ => fun
  | [] => { results := [.lit (.bool true)], args := [] }
  | _ => none }
def speedNamesRow : OpenClaim := { program := "ythgifhnfbblklaa", sum := "3a13bcc88761923ce5f834f7f59a9ec9934bd78f9f4e5d6eb4538815fb92c3f1", func := "surtitle/surtitlelaw11.SpeedNames", spec := "speedNames", inPlace := ["math/bits.Sub64"], unfollowed := true, recurses := true, named := ["math/bits.divideError", "math/bits.overflowError"], apart := false }
def SpeedNamesSaid : Prop := speedNamesRow.holds Try.pinned (OpenSpec.ofChange speedNamesSpec)

/-- ITS FALSE NEIGHBOUR: 'it returns false'. Refute it at one input. -/
def speedNamesWrong : ChangeSpec := { name := "speedNames", fn := fun _ => fun
  | [] => { results := [.lit (.bool false)], args := [] }
  | _ => none }
def SpeedNamesWrongFalsely : Prop := speedNamesRow.holds Try.pinned (OpenSpec.ofChange speedNamesWrong)

/-- 'surtitlelaw11.SpeedParts': WHATEVER THE INPUT: true; the input reads as it did. -/
def speedPartsSpec : ChangeSpec := { name := "speedParts", fn := fun _ => fun
  | [d1, d2] => { results := [.lit (.bool true)], args := [d1, d2] }
  | _ => none }
def speedPartsRow : OpenClaim := { program := "ythgifhnfbblklaa", sum := "3a13bcc88761923ce5f834f7f59a9ec9934bd78f9f4e5d6eb4538815fb92c3f1", func := "surtitle/surtitlelaw11.SpeedParts", spec := "speedParts", inPlace := ["math/bits.Sub64"], unfollowed := true, recurses := true, named := ["math/bits.divideError", "math/bits.overflowError"], apart := false }
def SpeedPartsSaid : Prop := speedPartsRow.holds Try.pinned (OpenSpec.ofChange speedPartsSpec)

/-- ITS FALSE NEIGHBOUR: 'it returns false'. Refute it at one input. -/
def speedPartsWrong : ChangeSpec := { name := "speedParts", fn := fun _ => fun
  | [d1, d2] => { results := [.lit (.bool false)], args := [d1, d2] }
  | _ => none }
def SpeedPartsWrongFalsely : Prop := speedPartsRow.holds Try.pinned (OpenSpec.ofChange speedPartsWrong)

/-- 'surtitlelaw11.SpeedMore': WHATEVER THE INPUT: true; the input reads as it did. -/
def speedMoreSpec : ChangeSpec := { name := "speedMore", fn := fun _ => fun
  | [d1, d2, d3, d4] => { results := [.lit (.bool true)], args := [d1, d2, d3, d4] }
  | _ => none }
def speedMoreRow : OpenClaim := { program := "ythgifhnfbblklaa", sum := "3a13bcc88761923ce5f834f7f59a9ec9934bd78f9f4e5d6eb4538815fb92c3f1", func := "surtitle/surtitlelaw11.SpeedMore", spec := "speedMore", inPlace := ["math/bits.Sub64", "math/bits.Add64"], unfollowed := true, recurses := true, named := ["math/bits.divideError", "math/bits.overflowError"], apart := false }
def SpeedMoreSaid : Prop := speedMoreRow.holds Try.pinned (OpenSpec.ofChange speedMoreSpec)

/-- ITS FALSE NEIGHBOUR: 'it returns false'. Refute it at one input. -/
def speedMoreWrong : ChangeSpec := { name := "speedMore", fn := fun _ => fun
  | [d1, d2, d3, d4] => { results := [.lit (.bool false)], args := [d1, d2, d3, d4] }
  | _ => none }
def SpeedMoreWrongFalsely : Prop := speedMoreRow.holds Try.pinned (OpenSpec.ofChange speedMoreWrong)

/-- 'surtitlelaw11.SpeedNamed': WHATEVER THE INPUT: true; the input reads as it did. -/
def speedNamedSpec : ChangeSpec := { name := "speedNamed", fn := fun _ => fun
  | [d1, d2] => { results := [.lit (.bool true)], args := [d1, d2] }
  | _ => none }
def speedNamedRow : OpenClaim := { program := "ythgifhnfbblklaa", sum := "3a13bcc88761923ce5f834f7f59a9ec9934bd78f9f4e5d6eb4538815fb92c3f1", func := "surtitle/surtitlelaw11.SpeedNamed", spec := "speedNamed", inPlace := ["math/bits.Sub64", "math/bits.Add64"], unfollowed := true, recurses := true, named := ["math/bits.divideError", "math/bits.overflowError"], apart := false }
def SpeedNamedSaid : Prop := speedNamedRow.holds Try.pinned (OpenSpec.ofChange speedNamedSpec)

/-- ITS FALSE NEIGHBOUR: 'it returns false'. Refute it at one input. -/
def speedNamedWrong : ChangeSpec := { name := "speedNamed", fn := fun _ => fun
  | [d1, d2] => { results := [.lit (.bool false)], args := [d1, d2] }
  | _ => none }
def SpeedNamedWrongFalsely : Prop := speedNamedRow.holds Try.pinned (OpenSpec.ofChange speedNamedWrong)

/-- 'surtitlelaw11.SpeedOwn': WHATEVER THE INPUT: true; the input reads as it did. -/
def speedOwnSpec : ChangeSpec := { name := "speedOwn", fn := fun _ => fun
  | [d1, d2] => { results := [.lit (.bool true)], args := [d1, d2] }
  | _ => none }
def speedOwnRow : OpenClaim := { program := "ythgifhnfbblklaa", sum := "3a13bcc88761923ce5f834f7f59a9ec9934bd78f9f4e5d6eb4538815fb92c3f1", func := "surtitle/surtitlelaw11.SpeedOwn", spec := "speedOwn", inPlace := ["math/bits.Sub64", "math/bits.Add64"], unfollowed := true, recurses := true, named := ["math/bits.divideError", "math/bits.overflowError"], apart := false }
def SpeedOwnSaid : Prop := speedOwnRow.holds Try.pinned (OpenSpec.ofChange speedOwnSpec)

/-- ITS FALSE NEIGHBOUR: 'it returns false'. Refute it at one input. -/
def speedOwnWrong : ChangeSpec := { name := "speedOwn", fn := fun _ => fun
  | [d1, d2] => { results := [.lit (.bool false)], args := [d1, d2] }
  | _ => none }
def SpeedOwnWrongFalsely : Prop := speedOwnRow.holds Try.pinned (OpenSpec.ofChange speedOwnWrong)

/- THE SECOND FORM. 'bulk': how many values and letters a reading holds, each counted each time it is reached (what is shared counts as often as it is met; a slice's spare places count too). A statement '..UptoSaid' is the law's where the arguments, and the package variables that the reading takes, are together of bulk at most 1048576: NARROWER than '..Said'. Prove '..Said' where nothing that the law and all that it calls make is longer than what came in: it says more and counts as full. Else prove '..UptoSaid'. A law counts once. -/
mutual
def uptoBulk {H : Type} : DataW H → Nat
  | .lit (.string bytes) => bytes.length + 1
  | .lit _ => 1
  | .nil => 1
  | .ptr d => uptoBulk d + 1
  | .slice elems spare => uptoBulkAll elems + uptoBulkAll spare + 1
  | .agg parts => uptoBulkAll parts + 1
  | .iface _ d => uptoBulk d + 1
  | .map entries => uptoBulkEntries entries + 1
  | .held _ => 1
def uptoBulkAll {H : Type} : List (DataW H) → Nat
  | [] => 0
  | d :: r => uptoBulk d + uptoBulkAll r
def uptoBulkEntries {H : Type} : List (Lit × DataW H) → Nat
  | [] => 0
  | x :: r => uptoBulkEntry x + uptoBulkEntries r
def uptoBulkEntry {H : Type} : Lit × DataW H → Nat
  | (.string bytes, d) => bytes.length + uptoBulk d + 1
  | (_, d) => uptoBulk d + 1
 end
def uptoSmall : (H : Type) → List (DataW H) → Bool := fun _ ds => decide (uptoBulkAll ds ≤ 1048576)
def OpenSpec.upto (s : _root_.Go.ChangeSpec) : _root_.Go.OpenSpec := { _root_.Go.OpenSpec.ofChange s with cond := some uptoSmall }

/-- 'surtitlelaw11.SpeedNames', WHERE WHAT IT READS IS OF BULK AT MOST 1048576: true; the input reads as it did. -/
def speedNamesUptoRow : OpenClaim := { program := "ythgifhnfbblklaa", sum := "3a13bcc88761923ce5f834f7f59a9ec9934bd78f9f4e5d6eb4538815fb92c3f1", func := "surtitle/surtitlelaw11.SpeedNames", spec := "speedNames", inPlace := ["math/bits.Sub64"], unfollowed := true, recurses := true, named := ["math/bits.divideError", "math/bits.overflowError"], apart := false, narrowed := true }
def SpeedNamesUptoSaid : Prop := speedNamesUptoRow.holds Try.pinned (OpenSpec.upto speedNamesSpec)

/-- 'surtitlelaw11.SpeedParts', WHERE WHAT IT READS IS OF BULK AT MOST 1048576: true; the input reads as it did. -/
def speedPartsUptoRow : OpenClaim := { program := "ythgifhnfbblklaa", sum := "3a13bcc88761923ce5f834f7f59a9ec9934bd78f9f4e5d6eb4538815fb92c3f1", func := "surtitle/surtitlelaw11.SpeedParts", spec := "speedParts", inPlace := ["math/bits.Sub64"], unfollowed := true, recurses := true, named := ["math/bits.divideError", "math/bits.overflowError"], apart := false, narrowed := true }
def SpeedPartsUptoSaid : Prop := speedPartsUptoRow.holds Try.pinned (OpenSpec.upto speedPartsSpec)

/-- 'surtitlelaw11.SpeedMore', WHERE WHAT IT READS IS OF BULK AT MOST 1048576: true; the input reads as it did. -/
def speedMoreUptoRow : OpenClaim := { program := "ythgifhnfbblklaa", sum := "3a13bcc88761923ce5f834f7f59a9ec9934bd78f9f4e5d6eb4538815fb92c3f1", func := "surtitle/surtitlelaw11.SpeedMore", spec := "speedMore", inPlace := ["math/bits.Sub64", "math/bits.Add64"], unfollowed := true, recurses := true, named := ["math/bits.divideError", "math/bits.overflowError"], apart := false, narrowed := true }
def SpeedMoreUptoSaid : Prop := speedMoreUptoRow.holds Try.pinned (OpenSpec.upto speedMoreSpec)

/-- 'surtitlelaw11.SpeedNamed', WHERE WHAT IT READS IS OF BULK AT MOST 1048576: true; the input reads as it did. -/
def speedNamedUptoRow : OpenClaim := { program := "ythgifhnfbblklaa", sum := "3a13bcc88761923ce5f834f7f59a9ec9934bd78f9f4e5d6eb4538815fb92c3f1", func := "surtitle/surtitlelaw11.SpeedNamed", spec := "speedNamed", inPlace := ["math/bits.Sub64", "math/bits.Add64"], unfollowed := true, recurses := true, named := ["math/bits.divideError", "math/bits.overflowError"], apart := false, narrowed := true }
def SpeedNamedUptoSaid : Prop := speedNamedUptoRow.holds Try.pinned (OpenSpec.upto speedNamedSpec)

/-- 'surtitlelaw11.SpeedOwn', WHERE WHAT IT READS IS OF BULK AT MOST 1048576: true; the input reads as it did. -/
def speedOwnUptoRow : OpenClaim := { program := "ythgifhnfbblklaa", sum := "3a13bcc88761923ce5f834f7f59a9ec9934bd78f9f4e5d6eb4538815fb92c3f1", func := "surtitle/surtitlelaw11.SpeedOwn", spec := "speedOwn", inPlace := ["math/bits.Sub64", "math/bits.Add64"], unfollowed := true, recurses := true, named := ["math/bits.divideError", "math/bits.overflowError"], apart := false, narrowed := true }
def SpeedOwnUptoSaid : Prop := speedOwnUptoRow.holds Try.pinned (OpenSpec.upto speedOwnSpec)

end Rows
end Go.Proofs.Ythgifhnfbblklaa
