-- Written by programs of this session's (wip/printer) out of the translation and of the print's words; Lean checks it.
import Derived.Test.YtbpifnpljcgjlaaProg
import Derived.Below
import Derived.Deep.Draws
import Derived.Deep.AppendLies
import Derived.Maps.AppendAt
import Derived.OwnWalk
import Derived.Laws.BytesArg
import Derived.Laws.MakeOwn
import Derived.Laws.OwnMore
import Derived.Deep.OwnRows
import Derived.Tactics
import Derived.Lib.ConvBytes
import Derived.Laws.Slices
import Derived.WalkKit
import Derived.KernelRfl
import Derived.RowKit3
import Derived.Deep.LoopGhost
import Derived.Deep.QuietTactic
import Derived.BigQuiet
import Derived.WideLaws
import Derived.Deep.DeepCutAuto
import Derived.Deep.CutBlock
import Derived.Deep.RegionHeld3
import Derived.Laws.Rows
import Derived.Lib.AppendStr
import Derived.ArgAppend
import Derived.Laws.IdiomCopy
import Derived.OrdersHeld
import Derived.Laws.BitsLemmas
import Derived.RowKit
import Derived.Shelf.Spec.BitsCarry
import Derived.RegionTactic
import Derived.ChangeAlike
import Derived.Lib.RuneCount
import Derived.Laws.RangeString
import Derived.Laws.RangeAny
import Derived.LoopTactic
import Derived.RangeFuncNested
import Derived.RangeFuncBound
import Derived.RangeFuncCalls
import Derived.RangeFuncLeaves
import Derived.Shelf.Abstract
import Derived.Shelf.RegionOpen
import Derived.OwnWalkIn
import Derived.TacticsInMore
import Derived.LoopNIn
import Derived.LoopIn
import Derived.RangeFuncFrom
import Derived.Lib.OthersKept
import Derived.WalkSmall
import Derived.Outline
import Derived.Lib.Hide
import Derived.ChangeArms
import Derived.Deep.Slices
import Derived.Test.YtbpifnpljcgjlaaLxWWords
import Derived.Test.YtbpifnpljcgjlaaLxWLast
import Derived.Test.YtbpifnpljcgjlaaLxWTab
import Derived.Test.YtbpifnpljcgjlaaLxWFour
import Derived.Test.YtbpifnpljcgjlaaLxWQPut
import Derived.Test.YtbpifnpljcgjlaaLxWApart
import Derived.Test.YtbpifnpljcgjlaaLxWArr
import Derived.Test.YtbpifnpljcgjlaaLxWZeros
import Derived.Test.YtbpifnpljcgjlaaLxWFoot
import Derived.Test.YtbpifnpljcgjlaaLxWKept
import Derived.Test.YtbpifnpljcgjlaaLxWShare
import Derived.Test.YtbpifnpljcgjlaaLxWN
import Derived.Test.YtbpifnpljcgjlaaLxWFootNe
import Derived.Test.YtbpifnpljcgjlaaLxWAt
import Derived.Test.YtbpifnpljcgjlaaLxWEqStruct
import Derived.Test.YtbpifnpljcgjlaaLxWRepsOne
import Derived.Test.YtbpifnpljcgjlaaLxWInv
import Derived.Test.YtbpifnpljcgjlaaLxWInvWords
import Derived.Test.YtbpifnpljcgjlaaLxWGuard
import Derived.Test.YtbpifnpljcgjlaaLxWNEv
import Derived.Test.YtbpifnpljcgjlaaLxWMore
namespace Go.Proofs.Ytbpifnpljcgjlaa.PLx
open Go.RowKit Go.Proofs.YtbpifnpljcgjlaaW.PrintWords Go.Proofs.YtbpifnpljcgjlaaW.PrintLast Go.Proofs.YtbpifnpljcgjlaaW.PrintMore
attribute [local go_sem] max2_int min2_int max_two min_two max_three min_three max_four min_four   -- for this text's walks alone
set_option linter.unusedVariables false
set_option linter.unusedSimpArgs false
def errW : Option Int → Value
 | none => .nilIface
 | some c => .iface 69 (.int .i64 c)
theorem errW_none : errW none = .nilIface := rfl
theorem errW_some (c : Int) : errW (some c) = .iface 69 (.int .i64 c) := rfl
def EV (v : Value) (r : Option (Int × Int)) : Prop := match r with
 | none => v = .nilIface
 | some _ => ∃ b : Nat, v = .iface 69 (.pointer (some ⟨b, 0, none⟩))
theorem EV_nil : EV .nilIface none := rfl
theorem EV_mk (b : Nat) (c : Int × Int) : EV (.iface 69 (.pointer (some ⟨b, 0, none⟩))) (some c) := ⟨b, rfl⟩
theorem EV_none {v : Value} (h : EV v none) : v = .nilIface := h
theorem EV_some {v : Value} {c : Int × Int} (h : EV v (some c)) : ∃ b : Nat, v = .iface 69 (.pointer (some ⟨b, 0, none⟩)) := h
theorem blk_cells1 {W : World} {g t : Nat} {v0 : Value} (h : W.heap[g]? = some (.cells #[v0] t (0, 0))) : W.cell? ⟨g, 0, none⟩ = some v0 ∧ W.frozen? ⟨g, 0, none⟩ = false := ⟨(blk_cell h 0).trans rfl, blk_frozen h 0⟩
theorem blk_cells2 {W : World} {g t : Nat} {v0 v1 : Value} (h : W.heap[g]? = some (.cells #[v0, v1] t (0, 0))) : W.cell? ⟨g, 0, none⟩ = some v0 ∧ W.cell? ⟨g, 1, none⟩ = some v1 ∧ W.frozen? ⟨g, 0, none⟩ = false ∧ W.frozen? ⟨g, 1, none⟩ = false := ⟨(blk_cell h 0).trans rfl, (blk_cell h 1).trans rfl, blk_frozen h 0, blk_frozen h 1⟩
theorem blk_cells4 {W : World} {g t : Nat} {v0 v1 v2 v3 : Value} (h : W.heap[g]? = some (.cells #[v0, v1, v2, v3] t (0, 0))) : W.cell? ⟨g, 0, none⟩ = some v0 ∧ W.cell? ⟨g, 1, none⟩ = some v1 ∧ W.cell? ⟨g, 2, none⟩ = some v2 ∧ W.cell? ⟨g, 3, none⟩ = some v3 ∧ W.frozen? ⟨g, 0, none⟩ = false ∧ W.frozen? ⟨g, 1, none⟩ = false ∧ W.frozen? ⟨g, 2, none⟩ = false ∧ W.frozen? ⟨g, 3, none⟩ = false := ⟨(blk_cell h 0).trans rfl, (blk_cell h 1).trans rfl, (blk_cell h 2).trans rfl, (blk_cell h 3).trans rfl, blk_frozen h 0, blk_frozen h 1, blk_frozen h 2, blk_frozen h 3⟩
theorem blk_cells5 {W : World} {g t : Nat} {v0 v1 v2 v3 v4 : Value} (h : W.heap[g]? = some (.cells #[v0, v1, v2, v3, v4] t (0, 0))) : W.cell? ⟨g, 0, none⟩ = some v0 ∧ W.cell? ⟨g, 1, none⟩ = some v1 ∧ W.cell? ⟨g, 2, none⟩ = some v2 ∧ W.cell? ⟨g, 3, none⟩ = some v3 ∧ W.cell? ⟨g, 4, none⟩ = some v4 ∧ W.frozen? ⟨g, 0, none⟩ = false ∧ W.frozen? ⟨g, 1, none⟩ = false ∧ W.frozen? ⟨g, 2, none⟩ = false ∧ W.frozen? ⟨g, 3, none⟩ = false ∧ W.frozen? ⟨g, 4, none⟩ = false := ⟨(blk_cell h 0).trans rfl, (blk_cell h 1).trans rfl, (blk_cell h 2).trans rfl, (blk_cell h 3).trans rfl, (blk_cell h 4).trans rfl, blk_frozen h 0, blk_frozen h 1, blk_frozen h 2, blk_frozen h 3, blk_frozen h 4⟩
theorem blk_cells9 {W : World} {g t : Nat} {v0 v1 v2 v3 v4 v5 v6 v7 v8 : Value} (h : W.heap[g]? = some (.cells #[v0, v1, v2, v3, v4, v5, v6, v7, v8] t (0, 0))) : W.cell? ⟨g, 0, none⟩ = some v0 ∧ W.cell? ⟨g, 1, none⟩ = some v1 ∧ W.cell? ⟨g, 2, none⟩ = some v2 ∧ W.cell? ⟨g, 3, none⟩ = some v3 ∧ W.cell? ⟨g, 4, none⟩ = some v4 ∧ W.cell? ⟨g, 5, none⟩ = some v5 ∧ W.cell? ⟨g, 6, none⟩ = some v6 ∧ W.cell? ⟨g, 7, none⟩ = some v7 ∧ W.cell? ⟨g, 8, none⟩ = some v8 ∧ W.frozen? ⟨g, 0, none⟩ = false ∧ W.frozen? ⟨g, 1, none⟩ = false ∧ W.frozen? ⟨g, 2, none⟩ = false ∧ W.frozen? ⟨g, 3, none⟩ = false ∧ W.frozen? ⟨g, 4, none⟩ = false ∧ W.frozen? ⟨g, 5, none⟩ = false ∧ W.frozen? ⟨g, 6, none⟩ = false ∧ W.frozen? ⟨g, 7, none⟩ = false ∧ W.frozen? ⟨g, 8, none⟩ = false := ⟨(blk_cell h 0).trans rfl, (blk_cell h 1).trans rfl, (blk_cell h 2).trans rfl, (blk_cell h 3).trans rfl, (blk_cell h 4).trans rfl, (blk_cell h 5).trans rfl, (blk_cell h 6).trans rfl, (blk_cell h 7).trans rfl, (blk_cell h 8).trans rfl, blk_frozen h 0, blk_frozen h 1, blk_frozen h 2, blk_frozen h 3, blk_frozen h 4, blk_frozen h 5, blk_frozen h 6, blk_frozen h 7, blk_frozen h 8⟩
theorem box_facts {w W W1 : World} {g : Nat} (hB : Below w.heap.size w W) (hg : g = W.heap.size) (hb : Below W.heap.size W W1) : Below w.heap.size w W1 ∧ w.heap.size ≤ g := ⟨below_step hB hb, by rw [hg]; exact below_size hB⟩
theorem info3 : (Try.prog.info? 3).map (fun i => (i.zero, i.size, i.bytes)) = some (some (.int .i64 0), 1, 8) := by kernel_rfl
theorem info41 : (Try.prog.info? 41).map (fun i => (i.zero, i.size, i.bytes)) = some (some (.agg #[(.int .i64 0), (.int .i64 0), (.int .i64 0), (.int .i64 0), (.int .i64 0), (.int .i64 0), (.string ⟨#[]⟩), (.string ⟨#[]⟩), (.slice none 0 0)]), 9, 104) := by kernel_rfl
theorem info62 : (Try.prog.info? 62).map (fun i => (i.zero, i.size, i.bytes)) = some (some (.agg #[(.int .i64 0), (.int .i64 0), (.int .i64 0), (.int .i64 0)]), 4, 32) := by kernel_rfl
structure S62 where
 f0 : Int
 f1 : Int
 f2 : Int
 f3 : Int
def z62 : S62 := ⟨(0 : Int), (0 : Int), (0 : Int), (0 : Int)⟩
def k62 : Kd S62 := Kd.iso (Kd.pair (Kd.int .i64) (Kd.pair (Kd.int .i64) (Kd.pair (Kd.int .i64) (Kd.int .i64)))) (fun x : S62 => (x.f0, x.f1, x.f2, x.f3))
theorem k62_open {w : World} {x : S62} {cs : List Value} (h : k62.K w x cs) : cs = [.int .i64 x.f0, .int .i64 x.f1, .int .i64 x.f2, .int .i64 x.f3] := by
 obtain ⟨_, _, rfl, rfl, ⟨_, _, rfl, rfl, ⟨_, _, rfl, rfl, rfl⟩⟩⟩ := h
 exact rfl
def rd_T62 (xs : List S62) (i : Int) : S62 := xs.getD i.toNat z62
theorem at_T62 {w : World} {A : Option Addr} {n : Nat} {xs : List S62} (h : Kd.C k62 w A n xs) (i : Int) (h0 : 0 ≤ i) (h1 : i < n) : ∃ ad , A = some ad ∧ w.cell? (ad.add (i.toNat * 4)) = some (.int .i64 (rd_T62 xs i).f0) ∧ w.cell? ⟨(ad.add (i.toNat * 4)).block, (ad.add (i.toNat * 4)).off + 1, none⟩ = some (.int .i64 (rd_T62 xs i).f1) ∧ w.cell? ⟨(ad.add (i.toNat * 4)).block, (ad.add (i.toNat * 4)).off + 2, none⟩ = some (.int .i64 (rd_T62 xs i).f2) ∧ w.cell? ⟨(ad.add (i.toNat * 4)).block, (ad.add (i.toNat * 4)).off + 3, none⟩ = some (.int .i64 (rd_T62 xs i).f3) := by
 obtain ⟨ad, c, e, _, hK, hc0⟩ := Kd.C_get h z62 i h0 h1
 have hc : ∀ j u, c[j]? = some u → w.cell? (ad.add (i.toNat * 4 + j)) = some u := hc0
 obtain rfl := k62_open hK
 exact ⟨ad, e, hc 0 _ rfl, by rw [← add_field _ _ 1 (by omega)]; exact hc 1 _ rfl, by rw [← add_field _ _ 2 (by omega)]; exact hc 2 _ rfl, by rw [← add_field _ _ 3 (by omega)]; exact hc 3 _ rfl⟩
structure S36 where
 f0 : Int
 f1 : Int
def z36 : S36 := ⟨(0 : Int), (0 : Int)⟩
def k36 : Kd S36 := Kd.iso (Kd.pair (Kd.int .i64) (Kd.int .i64)) (fun x : S36 => (x.f0, x.f1))
theorem k36_open {w : World} {x : S36} {cs : List Value} (h : k36.K w x cs) : cs = [.int .i64 x.f0, .int .i64 x.f1] := by
 obtain ⟨_, _, rfl, rfl, rfl⟩ := h
 exact rfl
theorem k36_openM {w : World} {base : Nat} {ok : Nat → Prop} {x : S36} {cs : List Value} (h : k36.M w base ok x cs) : cs = [.int .i64 x.f0, .int .i64 x.f1] := by
 obtain ⟨_, _, rfl, rfl, rfl⟩ := h
 exact rfl
theorem k36_mkM (w : World) (base : Nat) (ok : Nat → Prop) (x : S36)  : k36.M w base ok x [.int .i64 x.f0, .int .i64 x.f1] := ⟨[.int .i64 x.f0], [.int .i64 x.f1], rfl, rfl, rfl⟩
def rd_T36 (xs : List S36) (i : Int) : S36 := xs.getD i.toNat z36
theorem at_T36 {w : World} {A : Option Addr} {n : Nat} {xs : List S36} (h : Kd.C k36 w A n xs) (i : Int) (h0 : 0 ≤ i) (h1 : i < n) : ∃ ad , A = some ad ∧ w.cell? (ad.add (i.toNat * 2)) = some (.int .i64 (rd_T36 xs i).f0) ∧ w.cell? ⟨(ad.add (i.toNat * 2)).block, (ad.add (i.toNat * 2)).off + 1, none⟩ = some (.int .i64 (rd_T36 xs i).f1) := by
 obtain ⟨ad, c, e, _, hK, hc0⟩ := Kd.C_get h z36 i h0 h1
 have hc : ∀ j u, c[j]? = some u → w.cell? (ad.add (i.toNat * 2 + j)) = some u := hc0
 obtain rfl := k36_open hK
 exact ⟨ad, e, hc 0 _ rfl, by rw [← add_field _ _ 1 (by omega)]; exact hc 1 _ rfl⟩
structure S39 where
 f0 : ByteArray
 f1 : (List S62)
def z39 : S39 := ⟨(⟨#[]⟩ : ByteArray), ([] : List S62)⟩
def k39 : Kd S39 := Kd.iso (Kd.pair Kd.string (Kd.slice 62 k62)) (fun x : S39 => (x.f0, x.f1))
theorem k39_open {w : World} {x : S39} {cs : List Value} (h : k39.K w x cs) : ∃ A1 c1, cs = [.string x.f0, .slice A1 x.f1.length c1] ∧ x.f1.length ≤ c1 ∧ k62.C w A1 x.f1.length x.f1 := by
 obtain ⟨_, _, rfl, rfl, ⟨A1, c1, rfl, l1, g1⟩⟩ := h
 exact ⟨A1, c1, rfl, l1, g1⟩
theorem k39_openM {w : World} {base : Nat} {ok : Nat → Prop} {x : S39} {cs : List Value} (h : k39.M w base ok x cs) : ∃ v1, cs = [.string x.f0, v1] ∧ k62.R 62 w base ok v1 x.f1 := by
 obtain ⟨_, _, rfl, rfl, ⟨v1, rfl, g1⟩⟩ := h
 exact ⟨v1, rfl, g1⟩
theorem k39_mkM (w : World) (base : Nat) (ok : Nat → Prop) (x : S39) {v1 : Value} (g1 : k62.R 62 w base ok v1 x.f1) : k39.M w base ok x [.string x.f0, v1] := ⟨[.string x.f0], [v1], rfl, rfl, ⟨v1, rfl, g1⟩⟩
structure S41 where
 f0 : S36
 f1 : S36
 f2 : Int
 f3 : Int
 f4 : ByteArray
 f5 : S39
def z41 : S41 := ⟨z36, z36, (0 : Int), (0 : Int), (⟨#[]⟩ : ByteArray), z39⟩
def k41 : Kd S41 := Kd.iso (Kd.pair k36 (Kd.pair k36 (Kd.pair (Kd.int .i64) (Kd.pair (Kd.int .i64) (Kd.pair Kd.string k39))))) (fun x : S41 => (x.f0, x.f1, x.f2, x.f3, x.f4, x.f5))
theorem k41_open {w : World} {x : S41} {cs : List Value} (h : k41.K w x cs) : ∃ A8 c8, cs = [.int .i64 x.f0.f0, .int .i64 x.f0.f1, .int .i64 x.f1.f0, .int .i64 x.f1.f1, .int .i64 x.f2, .int .i64 x.f3, .string x.f4, .string x.f5.f0, .slice A8 x.f5.f1.length c8] ∧ x.f5.f1.length ≤ c8 ∧ k62.C w A8 x.f5.f1.length x.f5.f1 := by
 obtain ⟨_, _, rfl, s0, ⟨_, _, rfl, s2, ⟨_, _, rfl, rfl, ⟨_, _, rfl, rfl, ⟨_, _, rfl, rfl, s7⟩⟩⟩⟩⟩ := h
 obtain rfl := k36_open s0
 obtain rfl := k36_open s2
 obtain ⟨A8, c8, rfl, l8, g8⟩ := k39_open s7
 exact ⟨A8, c8, rfl, l8, g8⟩
theorem k41_openM {w : World} {base : Nat} {ok : Nat → Prop} {x : S41} {cs : List Value} (h : k41.M w base ok x cs) : ∃ v8, cs = [.int .i64 x.f0.f0, .int .i64 x.f0.f1, .int .i64 x.f1.f0, .int .i64 x.f1.f1, .int .i64 x.f2, .int .i64 x.f3, .string x.f4, .string x.f5.f0, v8] ∧ k62.R 62 w base ok v8 x.f5.f1 := by
 obtain ⟨_, _, rfl, s0, ⟨_, _, rfl, s2, ⟨_, _, rfl, rfl, ⟨_, _, rfl, rfl, ⟨_, _, rfl, rfl, s7⟩⟩⟩⟩⟩ := h
 obtain rfl := k36_openM s0
 obtain rfl := k36_openM s2
 obtain ⟨v8, rfl, g8⟩ := k39_openM s7
 exact ⟨v8, rfl, g8⟩
theorem k41_mkM (w : World) (base : Nat) (ok : Nat → Prop) (x : S41) {v8 : Value} (g8 : k62.R 62 w base ok v8 x.f5.f1) : k41.M w base ok x [.int .i64 x.f0.f0, .int .i64 x.f0.f1, .int .i64 x.f1.f0, .int .i64 x.f1.f1, .int .i64 x.f2, .int .i64 x.f3, .string x.f4, .string x.f5.f0, v8] := ⟨[.int .i64 x.f0.f0, .int .i64 x.f0.f1], [.int .i64 x.f1.f0, .int .i64 x.f1.f1, .int .i64 x.f2, .int .i64 x.f3, .string x.f4, .string x.f5.f0, v8], rfl, (k36_mkM w base ok x.f0 ), ⟨[.int .i64 x.f1.f0, .int .i64 x.f1.f1], [.int .i64 x.f2, .int .i64 x.f3, .string x.f4, .string x.f5.f0, v8], rfl, (k36_mkM w base ok x.f1 ), ⟨[.int .i64 x.f2], [.int .i64 x.f3, .string x.f4, .string x.f5.f0, v8], rfl, rfl, ⟨[.int .i64 x.f3], [.string x.f4, .string x.f5.f0, v8], rfl, rfl, ⟨[.string x.f4], [.string x.f5.f0, v8], rfl, rfl, (k39_mkM w base ok x.f5 g8)⟩⟩⟩⟩⟩
def rd_T41 (xs : List S41) (i : Int) : S41 := xs.getD i.toNat z41
theorem at_T41 {w : World} {A : Option Addr} {n : Nat} {xs : List S41} (h : Kd.C k41 w A n xs) (i : Int) (h0 : 0 ≤ i) (h1 : i < n) : ∃ ad A8 c8, A = some ad ∧ w.cell? (ad.add (i.toNat * 9)) = some (.int .i64 (rd_T41 xs i).f0.f0) ∧ w.cell? ⟨(ad.add (i.toNat * 9)).block, (ad.add (i.toNat * 9)).off + 1, none⟩ = some (.int .i64 (rd_T41 xs i).f0.f1) ∧ w.cell? ⟨(ad.add (i.toNat * 9)).block, (ad.add (i.toNat * 9)).off + 2, none⟩ = some (.int .i64 (rd_T41 xs i).f1.f0) ∧ w.cell? ⟨(ad.add (i.toNat * 9)).block, (ad.add (i.toNat * 9)).off + 3, none⟩ = some (.int .i64 (rd_T41 xs i).f1.f1) ∧ w.cell? ⟨(ad.add (i.toNat * 9)).block, (ad.add (i.toNat * 9)).off + 4, none⟩ = some (.int .i64 (rd_T41 xs i).f2) ∧ w.cell? ⟨(ad.add (i.toNat * 9)).block, (ad.add (i.toNat * 9)).off + 5, none⟩ = some (.int .i64 (rd_T41 xs i).f3) ∧ w.cell? ⟨(ad.add (i.toNat * 9)).block, (ad.add (i.toNat * 9)).off + 6, none⟩ = some (.string (rd_T41 xs i).f4) ∧ w.cell? ⟨(ad.add (i.toNat * 9)).block, (ad.add (i.toNat * 9)).off + 7, none⟩ = some (.string (rd_T41 xs i).f5.f0) ∧ w.cell? ⟨(ad.add (i.toNat * 9)).block, (ad.add (i.toNat * 9)).off + 8, none⟩ = some (.slice A8 (rd_T41 xs i).f5.f1.length c8) ∧ (rd_T41 xs i).f5.f1.length ≤ c8 ∧ k62.C w A8 (rd_T41 xs i).f5.f1.length (rd_T41 xs i).f5.f1 := by
 obtain ⟨ad, c, e, _, hK, hc0⟩ := Kd.C_get h z41 i h0 h1
 have hc : ∀ j u, c[j]? = some u → w.cell? (ad.add (i.toNat * 9 + j)) = some u := hc0
 obtain ⟨A8, c8, rfl, l8, g8⟩ := k41_open hK
 exact ⟨ad, A8, c8, e, hc 0 _ rfl, by rw [← add_field _ _ 1 (by omega)]; exact hc 1 _ rfl, by rw [← add_field _ _ 2 (by omega)]; exact hc 2 _ rfl, by rw [← add_field _ _ 3 (by omega)]; exact hc 3 _ rfl, by rw [← add_field _ _ 4 (by omega)]; exact hc 4 _ rfl, by rw [← add_field _ _ 5 (by omega)]; exact hc 5 _ rfl, by rw [← add_field _ _ 6 (by omega)]; exact hc 6 _ rfl, by rw [← add_field _ _ 7 (by omega)]; exact hc 7 _ rfl, by rw [← add_field _ _ 8 (by omega)]; exact hc 8 _ rfl, l8, g8⟩
structure S24 where
 f0 : (List S41)
def k24 : Kd S24 := Kd.iso (Kd.slice 41 k41) (fun x : S24 => x.f0)
theorem k24_open {w : World} {x : S24} {cs : List Value} (h : k24.K w x cs) : ∃ A0 c0, cs = [.slice A0 x.f0.length c0] ∧ x.f0.length ≤ c0 ∧ k41.C w A0 x.f0.length x.f0 := by
 obtain ⟨A0, c0, rfl, l0, g0⟩ := h
 exact ⟨A0, c0, rfl, l0, g0⟩
structure Opens {α : Type} (P : Program) (d : Kd α) (t : TypeId) (G : α → Prop) : Prop where
 go : ∀ {H : Type} {enc : TypeId × Value → H} {w : World} {base : Nat} {spare : Nat → Bool} {held : Bool} {fuel : Nat} {cs : List Value} {x : DataW H × List MemPlace},
  DataW.trod enc P w base spare held fuel t cs = some x → ∃ a, d.K w a cs ∧ G a
theorem opens_int {P : Program} {t : TypeId} {k : IntKind} (ht : P.underlying t = some (.int k)) : Opens P (Kd.int k) t (fun n => (Lit.int k n).wf = true) := ⟨fun h => by
 obtain ⟨n, rfl, _, hw⟩ := DataW.trod_int ht h
 exact ⟨n, rfl, hw⟩⟩
theorem opens_string {P : Program} {t : TypeId} (ht : P.underlying t = some .string) : Opens P Kd.string t (fun s => s.size ≤ maxLen) := ⟨fun h => by
 obtain ⟨s, rfl, _, hs⟩ := DataW.trod_string ht h
 exact ⟨s, rfl, hs⟩⟩
theorem cells?_at {w : World} {base : Nat} {a : Addr} {n : Nat} {cs : List Value} (h : w.cells? base a n = some cs) : cs.length = n ∧ ∀ (i : Nat) (u : Value), cs[i]? = some u → w.cell? (a.add i) = some u := by
 obtain ⟨_, hl, hi⟩ := World.cells?_some h
 refine ⟨hl, fun i u hu => ?_⟩
 rw [hi i (by rw [← hl]; exact (List.getElem?_eq_some_iff.1 hu).1)]
 exact hu
theorem opens_slice {α : Type} (z0 : α) {P : Program} {t e : TypeId} {d : Kd α} {G : α → Prop} (ht : P.underlying t = some (.slice e)) (hs : P.cellsOf e = d.sz) (hd : Opens P d e G) :
  Opens P (Kd.slice e d) t (fun l => (∀ a ∈ l, G a) ∧ l.length ≤ maxLen) := ⟨fun {H enc w base spare held fuel cs x} h => by
 haveI : Inhabited α := ⟨z0⟩
 rcases Go.Deep.open_slice ht h with ⟨rfl, _⟩ | ⟨a, len, cap, m, n, D, Pl, rfl, _, hl, hm, hmm, _, hx⟩
 ·exact ⟨[], ⟨none, 0, rfl, Nat.le_refl _, rfl, by simp, fun h => absurd h (by simp)⟩, by simp, by simp⟩
 ·have hlm : len ≤ m := by rw [hmm]; split <;> omega
  have hall : ∀ i, i < len → ∃ z : α, ∃ cs', w.cells? base (a.add (i * P.cellsOf e)) (P.cellsOf e) = some cs' ∧ d.K w z cs' ∧ G z := fun i hi => by
   obtain ⟨cs', h1, h2⟩ := hx i (by omega)
   obtain ⟨z, hz, hg⟩ := hd.go h2
   exact ⟨z, cs', h1, hz, hg⟩
  obtain ⟨f, hf⟩ := Go.Deep.choose_lt hall
  have hlen : ((List.range len).map f).length = len := by simp
  refine ⟨(List.range len).map f, ⟨some a, cap, by rw [hlen], by rw [hlen]; exact hl, hlen.trans hlen.symm, by rw [hlen]; exact Nat.le_trans hl (Nat.le_trans hm (by decide)), fun _ => ⟨a, rfl, fun j p hj => ?_⟩⟩, ?_, by rw [hlen]; exact Nat.le_trans hl hm⟩
  ·simp only [List.getElem?_map, Option.map_eq_some_iff, List.getElem?_eq_some_iff, List.length_range, List.getElem_range] at hj
   obtain ⟨i, ⟨hi, rfl⟩, rfl⟩ := hj
   obtain ⟨cs', h1, h2, _⟩ := hf j hi
   obtain ⟨q1, q2⟩ := cells?_at h1
   refine ⟨cs', by rw [q1, hs], h2, fun i u hu => ?_⟩
   have := q2 i u hu
   rwa [Go.Deep.add_add, hs] at this
  ·intro z hz
   simp only [List.mem_map, List.mem_range] at hz
   obtain ⟨i, hi, rfl⟩ := hz
   exact (hf i hi).choose_spec.2.2⟩
structure OpensF {α : Type} (P : Program) (d : Kd α) (fs : List Field) (off : Nat) (G : α → Prop) : Prop where
 go : ∀ {H : Type} {enc : TypeId × Value → H} {w : World} {base : Nat} {spare : Nat → Bool} {held : Bool} {fuel : Nat} {cs : List Value},
  cs.length = off + d.sz → (∀ f ∈ fs, ∃ x, DataW.trod enc P w base spare held fuel f.type ((cs.drop f.offset).take (P.cellsOf f.type)) = some x) → ∃ a, d.K w a (cs.drop off) ∧ G a
theorem opensF_one {α : Type} {P : Program} {d : Kd α} {f : Field} {off : Nat} {G : α → Prop} (ho : f.offset = off) (hs : P.cellsOf f.type = d.sz) (hd : Opens P d f.type G) : OpensF P d [f] off G := ⟨fun {H enc w base spare held fuel cs} hl hf => by
 obtain ⟨x, hx⟩ := hf f (by simp)
 rw [ho, List.take_of_length_le (by rw [List.length_drop, hl, hs]; omega)] at hx
 exact hd.go hx⟩
theorem opensF_cons {α β : Type} {P : Program} {d : Kd α} {d' : Kd β} {f : Field} {fs : List Field} {off : Nat} {G : α → Prop} {G' : β → Prop} (ho : f.offset = off) (hs : P.cellsOf f.type = d.sz) (hd : Opens P d f.type G)
  (hr : OpensF P d' fs (off + d.sz) G') : OpensF P (Kd.pair d d') (f :: fs) off (fun x => G x.1 ∧ G' x.2) := ⟨fun {H enc w base spare held fuel cs} hl hf => by
 obtain ⟨x, hx⟩ := hf f (by simp)
 obtain ⟨a, ha, hg⟩ := hd.go hx
 obtain ⟨b, hb, hg'⟩ := hr.go (by rw [hl]; show _ = off + d.sz + d'.sz; rw [Nat.add_assoc]; rfl) (fun f' hf' => hf f' (by simp [hf']))
 refine ⟨(a, b), ⟨_, _, ?_, ha, hb⟩, hg, hg'⟩
 rw [ho, hs, ← List.drop_drop, List.take_append_drop]⟩
theorem opens_struct {α : Type} {P : Program} {d : Kd α} {t : TypeId} {fs : Array Field} {G : α → Prop} (ht : P.underlying t = some (.struct fs)) (hs : P.cellsOf t = d.sz) (hr : OpensF P d fs.toList 0 G) : Opens P d t G := ⟨fun {H enc w base spare held fuel cs x} h => by
 obtain ⟨xs, n, _, _, hl, hlen, hf⟩ := DataW.trod_struct ht h
 obtain ⟨a, ha, hg⟩ := hr.go (by rw [hl, hs, Nat.zero_add]) (fun f hfm => by
  obtain ⟨i, hi, rfl⟩ := List.getElem_of_mem hfm
  have hi' : i < fs.size := by simpa using hi
  have := hf i fs[i] (by simp [hi'])
  rw [List.getElem?_eq_getElem (by omega)] at this
  exact ⟨_, by simpa using this⟩)
 rw [List.drop_zero] at ha
 exact ⟨a, ha, hg⟩⟩
theorem opens_iso {α β : Type} {P : Program} {d : Kd α} {t : TypeId} {G : α → Prop} (f : β → α) (g : α → β) (hfg : ∀ a, f (g a) = a) (hd : Opens P d t G) : Opens P (Kd.iso d f) t (fun b => G (f b)) := ⟨fun h => by
 obtain ⟨a, ha, hg⟩ := hd.go h
 exact ⟨g a, show d.K _ (f (g a)) _ by rw [hfg]; exact ha, show G (f (g a)) by rw [hfg]; exact hg⟩⟩
def G36 (x : S36) : Prop := ((Lit.int .i64 x.f0).wf = true) ∧ ((Lit.int .i64 x.f1).wf = true)
theorem opens_T36 : Opens Try.prog k36 36 G36 := by
 have h := opens_iso (fun x : S36 => (x.f0, x.f1)) (fun p => ⟨p.1, p.2⟩) (fun _ => rfl) (opens_struct Try.underlying36 (by kernel_rfl) (opensF_cons rfl (by kernel_rfl) (opens_int Try.underlying2) (opensF_one rfl (by kernel_rfl) (opens_int Try.underlying2))))
 exact ⟨h.go⟩
def G62 (x : S62) : Prop := ((Lit.int .i64 x.f0).wf = true) ∧ ((Lit.int .i64 x.f1).wf = true) ∧ ((Lit.int .i64 x.f2).wf = true) ∧ ((Lit.int .i64 x.f3).wf = true)
theorem opens_T62 : Opens Try.prog k62 62 G62 := by
 have h := opens_iso (fun x : S62 => (x.f0, x.f1, x.f2, x.f3)) (fun p => ⟨p.1, p.2.1, p.2.2.1, p.2.2.2⟩) (fun _ => rfl) (opens_struct Try.underlying62 (by kernel_rfl) (opensF_cons rfl (by kernel_rfl) (opens_int Try.underlying3) (opensF_cons rfl (by kernel_rfl) (opens_int Try.underlying3) (opensF_cons rfl (by kernel_rfl) (opens_int Try.underlying3) (opensF_one rfl (by kernel_rfl) (opens_int Try.underlying3))))))
 exact ⟨h.go⟩
def G39 (x : S39) : Prop := (x.f0.size ≤ maxLen) ∧ ((∀ a_ ∈ x.f1, G62 a_) ∧ x.f1.length ≤ maxLen)
theorem opens_T39 : Opens Try.prog k39 39 G39 := by
 have h := opens_iso (fun x : S39 => (x.f0, x.f1)) (fun p => ⟨p.1, p.2⟩) (fun _ => rfl) (opens_struct Try.underlying39 (by kernel_rfl) (opensF_cons rfl (by kernel_rfl) (opens_string Try.underlying9) (opensF_one rfl (by kernel_rfl) (opens_slice z62 Try.underlying37 (by kernel_rfl) opens_T62))))
 exact ⟨h.go⟩
def G41 (x : S41) : Prop := (G36 x.f0) ∧ (G36 x.f1) ∧ ((Lit.int .i64 x.f2).wf = true) ∧ ((Lit.int .i64 x.f3).wf = true) ∧ (x.f4.size ≤ maxLen) ∧ (G39 x.f5)
theorem opens_T41 : Opens Try.prog k41 41 G41 := by
 have h := opens_iso (fun x : S41 => (x.f0, x.f1, x.f2, x.f3, x.f4, x.f5)) (fun p => ⟨p.1, p.2.1, p.2.2.1, p.2.2.2.1, p.2.2.2.2.1, p.2.2.2.2.2⟩) (fun _ => rfl) (opens_struct Try.underlying41 (by kernel_rfl) (opensF_cons rfl (by kernel_rfl) opens_T36 (opensF_cons rfl (by kernel_rfl) opens_T36 (opensF_cons rfl (by kernel_rfl) (opens_int Try.underlying3) (opensF_cons rfl (by kernel_rfl) (opens_int Try.underlying3) (opensF_cons rfl (by kernel_rfl) (opens_string Try.underlying9) (opensF_one rfl (by kernel_rfl) opens_T39)))))))
 exact ⟨h.go⟩
def G24 (x : S24) : Prop := ((∀ a_ ∈ x.f0, G41 a_) ∧ x.f0.length ≤ maxLen)
theorem opens_T24 : Opens Try.prog k24 24 G24 := by
 have h := opens_iso (fun x : S24 => x.f0) (fun p => ⟨p⟩) (fun _ => rfl) (opens_struct Try.underlying24 (by kernel_rfl) (opensF_one rfl (by kernel_rfl) (opens_slice z41 Try.underlying22 (by kernel_rfl) opens_T41)))
 exact ⟨h.go⟩
theorem b1 {w : World} {g : Nat} {o : Obj} (h : w.heap[g]? = some o) (n : Nat) : (w.drewN n).heap[g]? = some o := h
theorem b2 {w : World} {g : Nat} {o : Obj} (h : w.heap[g]? = some o) : w.drew.heap[g]? = some o := h
theorem b3 {w : World} {g : Nat} {o : Obj} (h : w.heap[g]? = some o) (o' : Obj) : (w.alloc o').heap[g]? = some o := blk_alloc h o'
theorem l1 {w W : World} (h : Below w.heap.size w W) (o : Obj) : Below w.heap.size w (W.alloc o) := below_alloc h o
theorem l2 {B : Nat} {w W : World} (h : Below B w W) (n : Nat) : Below B w (W.drewN n) := pw_below_drewN h n
theorem l3 {base : Nat} {w W : World} (h : Below base w W) : Below base w W.drew := below_drew1 h
end Go.Proofs.Ytbpifnpljcgjlaa.PLx
