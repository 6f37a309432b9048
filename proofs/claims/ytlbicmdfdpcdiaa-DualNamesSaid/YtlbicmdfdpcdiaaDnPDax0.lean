-- printed
import Derived.Test.YtlbicmdfdpcdiaaProg
import Derived.Below
import Derived.Deep.Draws
import Derived.Deep.AppendLies
import Derived.Maps.AppendAt
import Derived.OwnWalk
import Derived.Laws.BytesArg
import Derived.Laws.MakeOwn
import Derived.Laws.OwnMore
import Derived.Deep.OwnRows
import Derived.Tactics
import Derived.Lib.ConvBytes
import Derived.Laws.Slices
import Derived.WalkKit
import Derived.KernelRfl
import Derived.RowKit3
import Derived.Deep.LoopGhost
import Derived.Deep.QuietTactic
import Derived.BigQuiet
import Derived.WideLaws
import Derived.Deep.DeepCutAuto
import Derived.Deep.CutBlock
import Derived.Deep.RegionHeld3
import Derived.Laws.Rows
import Derived.Lib.AppendStr
import Derived.ArgAppend
import Derived.Laws.IdiomCopy
import Derived.OrdersHeld
import Derived.Laws.BitsLemmas
import Derived.RowKit
import Derived.Shelf.Spec.BitsCarry
import Derived.RegionTactic
import Derived.ChangeAlike
import Derived.Lib.RuneCount
import Derived.Laws.RangeString
import Derived.Laws.RangeAny
import Derived.LoopTactic
import Derived.RangeFuncNested
import Derived.RangeFuncBound
import Derived.RangeFuncCalls
import Derived.RangeFuncLeaves
import Derived.Shelf.Abstract
import Derived.Shelf.RegionOpen
import Derived.Shelf.RegionOpenPlain
import Derived.OwnWalkIn
import Derived.TacticsInMore
import Derived.LoopNIn
import Derived.LoopIn
import Derived.RangeFuncFrom
import Derived.Lib.OthersKept
import Derived.WalkSmall
import Derived.Outline
import Derived.Lib.Hide
import Derived.ChangeArms
import Derived.Deep.Slices
import Derived.Test.YtlbicmdfdpcdiaaDnWWords
import Derived.Test.YtlbicmdfdpcdiaaDnWLast
import Derived.Test.YtlbicmdfdpcdiaaDnWTab
import Derived.Test.YtlbicmdfdpcdiaaDnWFour
import Derived.Test.YtlbicmdfdpcdiaaDnWQPut
import Derived.Test.YtlbicmdfdpcdiaaDnWApart
import Derived.Test.YtlbicmdfdpcdiaaDnWArr
import Derived.Test.YtlbicmdfdpcdiaaDnWZeros
import Derived.Test.YtlbicmdfdpcdiaaDnWFoot
import Derived.Test.YtlbicmdfdpcdiaaDnWKept
import Derived.Test.YtlbicmdfdpcdiaaDnWShare
import Derived.Test.YtlbicmdfdpcdiaaDnWN
import Derived.Test.YtlbicmdfdpcdiaaDnWFootNe
import Derived.Test.YtlbicmdfdpcdiaaDnWAt
import Derived.Test.YtlbicmdfdpcdiaaDnWEqStruct
import Derived.Test.YtlbicmdfdpcdiaaDnWRepsOne
import Derived.Test.YtlbicmdfdpcdiaaDnWInv
import Derived.Test.YtlbicmdfdpcdiaaDnWInvWords
import Derived.Test.YtlbicmdfdpcdiaaDnWGuard
import Derived.Test.YtlbicmdfdpcdiaaDnWNEv
import Derived.Test.YtlbicmdfdpcdiaaDnWMore
namespace Go.Proofs.Ytlbicmdfdpcdiaa.PDa
open Go.RowKit Go.Proofs.YtlbicmdfdpcdiaaW.PrintWords Go.Proofs.YtlbicmdfdpcdiaaW.PrintLast Go.Proofs.YtlbicmdfdpcdiaaW.PrintMore
attribute [local go_sem] max2_int min2_int max_two min_two max_three min_three max_four min_four
set_option linter.unusedVariables false
set_option linter.unusedSimpArgs false
def errW : Option Int → Value
 | none => .nilIface
 | some c => .iface 58 (.int .i64 c)
theorem errW_none : errW none = .nilIface := rfl
theorem errW_some (c : Int) : errW (some c) = .iface 58 (.int .i64 c) := rfl
def EV (v : Value) (r : Option (Int × Int)) : Prop := match r with
 | none => v = .nilIface
 | some _ => ∃ b : Nat, v = .iface 58 (.pointer (some ⟨b, 0, none⟩))
theorem EV_nil : EV .nilIface none := rfl
theorem EV_mk (b : Nat) (c : Int × Int) : EV (.iface 58 (.pointer (some ⟨b, 0, none⟩))) (some c) := ⟨b, rfl⟩
theorem EV_none {v : Value} (h : EV v none) : v = .nilIface := h
theorem EV_some {v : Value} {c : Int × Int} (h : EV v (some c)) : ∃ b : Nat, v = .iface 58 (.pointer (some ⟨b, 0, none⟩)) := h
theorem goesD_ {P : Program} {ops : Array Oper} {Q : Exit → Act → World → Prop} {oi : Oper} {N : Option Tmp} {a : Act} {w : World} {K : Act → World → Prop} {f : FuncId} {fn : Func} {as_ : Array Operand} {ts : Array TypeId} {c : Operand} {cap : Array Value} (hf : P.funcs[f]? = some fn) (hname : (fn.name == "runtime.NumGoroutine") = false) (hb : fn.body.isSome = true) (args all : Array Value)
  (hw : Region.wanted oi (yielded ops a.tmps) = true) (hN : oi.dst = N) (hop : oi.op = .call { callee := .value c, args := as_, argTypes := ts }) (hc : a.eval c = .func (.func f) #[] cap) (hargs : as_.map a.eval = args) (hall : args ++ cap = all)
  (h : Calls P f all w fun e w' => ∃ v, e = .returned v ∧ K (a.put N v) w') : if Region.wanted oi (yielded ops a.tmps) = true then Oper.wp P oi a w K Q else K (a.put N undef) w := by
 refine call_ f all hw hN ?_ h
 have he := enters_ hf hname hb all w
 unfold execOp
 simp [hop, resolve, Deferred.ofValue, invoke, hc, hargs, hall, he]
structure SV where
 A : Option Addr
 n : Nat
 c : Nat
theorem eqA_arr2 {P : Program} {d : Nat} {t e : TypeId} {x0 x1 y0 y1 : Value} {a b : Bool} {w : World} (hu : P.underlying t = some (.array 2 e)) (hs : (Go.sizeOf e).run P w = .ok 1 w)
  (p0 : (part e #[x0, x1] 0).run P w = .ok x0 w) (p1 : (part e #[x0, x1] 1).run P w = .ok x1 w) (q0 : (part e #[y0, y1] 0).run P w = .ok y0 w) (q1 : (part e #[y0, y1] 1).run P w = .ok y1 w)
  (h0 : (Op.equalIn d e x0 y0).run P w = .ok a w) (h1 : (Op.equalIn d e x1 y1).run P w = .ok b w) : (Op.equalIn (d + 1) t (.agg #[x0, x1]) (.agg #[y0, y1])).run P w = .ok (a && b) w := by
 simp only [Op.equalIn, Sem.run_bind, run_underlying hu, Result.andThen_ok, hs, Std.Legacy.Range.forIn_eq_forIn_range', Std.Legacy.Range.size, Nat.sub_zero, Nat.add_sub_cancel, Nat.div_one, List.range', List.forIn_cons, List.forIn_nil, Nat.mul_one, Nat.zero_mul, Nat.zero_add, p0, q0, h0]
 cases a <;> cases b <;> simp [h1, Sem.run_bind, p1, q1]
theorem blk_cells1 {W : World} {g t : Nat} {v0 : Value} (h : W.heap[g]? = some (.cells #[v0] t (0, 0))) : W.cell? ⟨g, 0, none⟩ = some v0 ∧ W.frozen? ⟨g, 0, none⟩ = false := ⟨(blk_cell h 0).trans rfl, blk_frozen h 0⟩
theorem blk_cells2 {W : World} {g t : Nat} {v0 v1 : Value} (h : W.heap[g]? = some (.cells #[v0, v1] t (0, 0))) : W.cell? ⟨g, 0, none⟩ = some v0 ∧ W.cell? ⟨g, 1, none⟩ = some v1 ∧ W.frozen? ⟨g, 0, none⟩ = false ∧ W.frozen? ⟨g, 1, none⟩ = false := ⟨(blk_cell h 0).trans rfl, (blk_cell h 1).trans rfl, blk_frozen h 0, blk_frozen h 1⟩
theorem blk_cells4 {W : World} {g t : Nat} {v0 v1 v2 v3 : Value} (h : W.heap[g]? = some (.cells #[v0, v1, v2, v3] t (0, 0))) : W.cell? ⟨g, 0, none⟩ = some v0 ∧ W.cell? ⟨g, 1, none⟩ = some v1 ∧ W.cell? ⟨g, 2, none⟩ = some v2 ∧ W.cell? ⟨g, 3, none⟩ = some v3 ∧ W.frozen? ⟨g, 0, none⟩ = false ∧ W.frozen? ⟨g, 1, none⟩ = false ∧ W.frozen? ⟨g, 2, none⟩ = false ∧ W.frozen? ⟨g, 3, none⟩ = false := ⟨(blk_cell h 0).trans rfl, (blk_cell h 1).trans rfl, (blk_cell h 2).trans rfl, (blk_cell h 3).trans rfl, blk_frozen h 0, blk_frozen h 1, blk_frozen h 2, blk_frozen h 3⟩
theorem blk_cells5 {W : World} {g t : Nat} {v0 v1 v2 v3 v4 : Value} (h : W.heap[g]? = some (.cells #[v0, v1, v2, v3, v4] t (0, 0))) : W.cell? ⟨g, 0, none⟩ = some v0 ∧ W.cell? ⟨g, 1, none⟩ = some v1 ∧ W.cell? ⟨g, 2, none⟩ = some v2 ∧ W.cell? ⟨g, 3, none⟩ = some v3 ∧ W.cell? ⟨g, 4, none⟩ = some v4 ∧ W.frozen? ⟨g, 0, none⟩ = false ∧ W.frozen? ⟨g, 1, none⟩ = false ∧ W.frozen? ⟨g, 2, none⟩ = false ∧ W.frozen? ⟨g, 3, none⟩ = false ∧ W.frozen? ⟨g, 4, none⟩ = false := ⟨(blk_cell h 0).trans rfl, (blk_cell h 1).trans rfl, (blk_cell h 2).trans rfl, (blk_cell h 3).trans rfl, (blk_cell h 4).trans rfl, blk_frozen h 0, blk_frozen h 1, blk_frozen h 2, blk_frozen h 3, blk_frozen h 4⟩
theorem blk_cells9 {W : World} {g t : Nat} {v0 v1 v2 v3 v4 v5 v6 v7 v8 : Value} (h : W.heap[g]? = some (.cells #[v0, v1, v2, v3, v4, v5, v6, v7, v8] t (0, 0))) : W.cell? ⟨g, 0, none⟩ = some v0 ∧ W.cell? ⟨g, 1, none⟩ = some v1 ∧ W.cell? ⟨g, 2, none⟩ = some v2 ∧ W.cell? ⟨g, 3, none⟩ = some v3 ∧ W.cell? ⟨g, 4, none⟩ = some v4 ∧ W.cell? ⟨g, 5, none⟩ = some v5 ∧ W.cell? ⟨g, 6, none⟩ = some v6 ∧ W.cell? ⟨g, 7, none⟩ = some v7 ∧ W.cell? ⟨g, 8, none⟩ = some v8 ∧ W.frozen? ⟨g, 0, none⟩ = false ∧ W.frozen? ⟨g, 1, none⟩ = false ∧ W.frozen? ⟨g, 2, none⟩ = false ∧ W.frozen? ⟨g, 3, none⟩ = false ∧ W.frozen? ⟨g, 4, none⟩ = false ∧ W.frozen? ⟨g, 5, none⟩ = false ∧ W.frozen? ⟨g, 6, none⟩ = false ∧ W.frozen? ⟨g, 7, none⟩ = false ∧ W.frozen? ⟨g, 8, none⟩ = false := ⟨(blk_cell h 0).trans rfl, (blk_cell h 1).trans rfl, (blk_cell h 2).trans rfl, (blk_cell h 3).trans rfl, (blk_cell h 4).trans rfl, (blk_cell h 5).trans rfl, (blk_cell h 6).trans rfl, (blk_cell h 7).trans rfl, (blk_cell h 8).trans rfl, blk_frozen h 0, blk_frozen h 1, blk_frozen h 2, blk_frozen h 3, blk_frozen h 4, blk_frozen h 5, blk_frozen h 6, blk_frozen h 7, blk_frozen h 8⟩
theorem box_facts {w W W1 : World} {g : Nat} (hB : Below w.heap.size w W) (hg : g = W.heap.size) (hb : Below W.heap.size W W1) : Below w.heap.size w W1 ∧ w.heap.size ≤ g := ⟨below_step hB hb, by rw [hg]; exact below_size hB⟩
theorem info38 : (Try.prog.info? 38).map (fun i => (i.zero, i.size, i.bytes)) = some (some (.agg #[(.int .i64 0), (.int .i64 0), (.int .i64 0), (.int .i64 0), (.int .i64 0), (.int .i64 0), (.string ⟨#[]⟩), (.string ⟨#[]⟩), (.slice none 0 0)]), 9, 104) := by kernel_rfl
theorem info47 : (Try.prog.info? 47).map (fun i => (i.zero, i.size, i.bytes)) = some (some (.agg #[(.int .i64 0), (.int .i64 0)]), 2, 16) := by kernel_rfl
theorem info66 : (Try.prog.info? 66).map (fun i => (i.zero, i.size, i.bytes)) = some (some (.agg #[(.int .i64 0), (.int .i64 0)]), 2, 16) := by kernel_rfl
theorem info79 : (Try.prog.info? 79).map (fun i => (i.zero, i.size, i.bytes)) = some (some (.agg #[(.int .i64 0), (.int .i64 0), (.int .i64 0), (.int .i64 0)]), 4, 32) := by kernel_rfl
structure S79 where
 f0 : Int
 f1 : Int
 f2 : Int
 f3 : Int
def z79 : S79 := ⟨(0 : Int), (0 : Int), (0 : Int), (0 : Int)⟩
def k79 : Kd S79 := Kd.iso (Kd.pair (Kd.int .i64) (Kd.pair (Kd.int .i64) (Kd.pair (Kd.int .i64) (Kd.int .i64)))) (fun x : S79 => (x.f0, x.f1, x.f2, x.f3))
theorem k79_open {w : World} {x : S79} {cs : List Value} (h : k79.K w x cs) : cs = [.int .i64 x.f0, .int .i64 x.f1, .int .i64 x.f2, .int .i64 x.f3] := by
 obtain ⟨_, _, rfl, rfl, ⟨_, _, rfl, rfl, ⟨_, _, rfl, rfl, rfl⟩⟩⟩ := h
 exact rfl
def rd_T79 (xs : List S79) (i : Int) : S79 := xs.getD i.toNat z79
theorem at_T79 {w : World} {A : Option Addr} {n : Nat} {xs : List S79} (h : Kd.C k79 w A n xs) (i : Int) (h0 : 0 ≤ i) (h1 : i < n) : ∃ ad , A = some ad ∧ w.cell? (ad.add (i.toNat * 4)) = some (.int .i64 (rd_T79 xs i).f0) ∧ w.cell? ⟨(ad.add (i.toNat * 4)).block, (ad.add (i.toNat * 4)).off + 1, none⟩ = some (.int .i64 (rd_T79 xs i).f1) ∧ w.cell? ⟨(ad.add (i.toNat * 4)).block, (ad.add (i.toNat * 4)).off + 2, none⟩ = some (.int .i64 (rd_T79 xs i).f2) ∧ w.cell? ⟨(ad.add (i.toNat * 4)).block, (ad.add (i.toNat * 4)).off + 3, none⟩ = some (.int .i64 (rd_T79 xs i).f3) := by
 obtain ⟨ad, c, e, _, hK, hc0⟩ := Kd.C_get h z79 i h0 h1
 have hc : ∀ j u, c[j]? = some u → w.cell? (ad.add (i.toNat * 4 + j)) = some u := hc0
 obtain rfl := k79_open hK
 exact ⟨ad, e, hc 0 _ rfl, by rw [← add_field _ _ 1 (by omega)]; exact hc 1 _ rfl, by rw [← add_field _ _ 2 (by omega)]; exact hc 2 _ rfl, by rw [← add_field _ _ 3 (by omega)]; exact hc 3 _ rfl⟩
structure S88 where
 f0 : Int
 f1 : Int
def z88 : S88 := ⟨(0 : Int), (0 : Int)⟩
structure S33 where
 f0 : Int
 f1 : Int
def z33 : S33 := ⟨(0 : Int), (0 : Int)⟩
def k33 : Kd S33 := Kd.iso (Kd.pair (Kd.int .i64) (Kd.int .i64)) (fun x : S33 => (x.f0, x.f1))
theorem k33_open {w : World} {x : S33} {cs : List Value} (h : k33.K w x cs) : cs = [.int .i64 x.f0, .int .i64 x.f1] := by
 obtain ⟨_, _, rfl, rfl, rfl⟩ := h
 exact rfl
theorem k33_openM {w : World} {base : Nat} {ok : Nat → Prop} {x : S33} {cs : List Value} (h : k33.M w base ok x cs) : cs = [.int .i64 x.f0, .int .i64 x.f1] := by
 obtain ⟨_, _, rfl, rfl, rfl⟩ := h
 exact rfl
theorem k33_mk (w : World) (x : S33)  : k33.K w x [.int .i64 x.f0, .int .i64 x.f1] := ⟨[.int .i64 x.f0], [.int .i64 x.f1], rfl, rfl, rfl⟩
theorem k33_mkM (w : World) (base : Nat) (ok : Nat → Prop) (x : S33)  : k33.M w base ok x [.int .i64 x.f0, .int .i64 x.f1] := ⟨[.int .i64 x.f0], [.int .i64 x.f1], rfl, rfl, rfl⟩
def rd_T33 (xs : List S33) (i : Int) : S33 := xs.getD i.toNat z33
theorem at_T33 {w : World} {A : Option Addr} {n : Nat} {xs : List S33} (h : Kd.C k33 w A n xs) (i : Int) (h0 : 0 ≤ i) (h1 : i < n) : ∃ ad , A = some ad ∧ w.cell? (ad.add (i.toNat * 2)) = some (.int .i64 (rd_T33 xs i).f0) ∧ w.cell? ⟨(ad.add (i.toNat * 2)).block, (ad.add (i.toNat * 2)).off + 1, none⟩ = some (.int .i64 (rd_T33 xs i).f1) := by
 obtain ⟨ad, c, e, _, hK, hc0⟩ := Kd.C_get h z33 i h0 h1
 have hc : ∀ j u, c[j]? = some u → w.cell? (ad.add (i.toNat * 2 + j)) = some u := hc0
 obtain rfl := k33_open hK
 exact ⟨ad, e, hc 0 _ rfl, by rw [← add_field _ _ 1 (by omega)]; exact hc 1 _ rfl⟩
structure S36 where
 f0 : ByteArray
 f1 : (List S79)
def z36 : S36 := ⟨(⟨#[]⟩ : ByteArray), ([] : List S79)⟩
def k36 : Kd S36 := Kd.iso (Kd.pair Kd.string (Kd.slice 79 k79)) (fun x : S36 => (x.f0, x.f1))
theorem k36_open {w : World} {x : S36} {cs : List Value} (h : k36.K w x cs) : ∃ A1 c1, cs = [.string x.f0, .slice A1 x.f1.length c1] ∧ x.f1.length ≤ c1 ∧ k79.C w A1 x.f1.length x.f1 := by
 obtain ⟨_, _, rfl, rfl, ⟨A1, c1, rfl, l1, g1⟩⟩ := h
 exact ⟨A1, c1, rfl, l1, g1⟩
theorem k36_openM {w : World} {base : Nat} {ok : Nat → Prop} {x : S36} {cs : List Value} (h : k36.M w base ok x cs) : ∃ v1, cs = [.string x.f0, v1] ∧ k79.R 79 w base ok v1 x.f1 := by
 obtain ⟨_, _, rfl, rfl, ⟨v1, rfl, g1⟩⟩ := h
 exact ⟨v1, rfl, g1⟩
theorem k36_mk (w : World) (x : S36) {A1 : Option Addr} {c1 : Nat} (l1 : x.f1.length ≤ c1) (g1 : k79.C w A1 x.f1.length x.f1) : k36.K w x [.string x.f0, .slice A1 x.f1.length c1] := ⟨[.string x.f0], [.slice A1 x.f1.length c1], rfl, rfl, ⟨A1, c1, rfl, l1, g1⟩⟩
theorem k36_mkM (w : World) (base : Nat) (ok : Nat → Prop) (x : S36) {v1 : Value} (g1 : k79.R 79 w base ok v1 x.f1) : k36.M w base ok x [.string x.f0, v1] := ⟨[.string x.f0], [v1], rfl, rfl, ⟨v1, rfl, g1⟩⟩
structure S38 where
 f0 : S33
 f1 : S33
 f2 : Int
 f3 : Int
 f4 : ByteArray
 f5 : S36
def z38 : S38 := ⟨z33, z33, (0 : Int), (0 : Int), (⟨#[]⟩ : ByteArray), z36⟩
def k38 : Kd S38 := Kd.iso (Kd.pair k33 (Kd.pair k33 (Kd.pair (Kd.int .i64) (Kd.pair (Kd.int .i64) (Kd.pair Kd.string k36))))) (fun x : S38 => (x.f0, x.f1, x.f2, x.f3, x.f4, x.f5))
theorem k38_open {w : World} {x : S38} {cs : List Value} (h : k38.K w x cs) : ∃ A8 c8, cs = [.int .i64 x.f0.f0, .int .i64 x.f0.f1, .int .i64 x.f1.f0, .int .i64 x.f1.f1, .int .i64 x.f2, .int .i64 x.f3, .string x.f4, .string x.f5.f0, .slice A8 x.f5.f1.length c8] ∧ x.f5.f1.length ≤ c8 ∧ k79.C w A8 x.f5.f1.length x.f5.f1 := by
 obtain ⟨_, _, rfl, s0, ⟨_, _, rfl, s2, ⟨_, _, rfl, rfl, ⟨_, _, rfl, rfl, ⟨_, _, rfl, rfl, s7⟩⟩⟩⟩⟩ := h
 obtain rfl := k33_open s0
 obtain rfl := k33_open s2
 obtain ⟨A8, c8, rfl, l8, g8⟩ := k36_open s7
 exact ⟨A8, c8, rfl, l8, g8⟩
theorem k38_openM {w : World} {base : Nat} {ok : Nat → Prop} {x : S38} {cs : List Value} (h : k38.M w base ok x cs) : ∃ v8, cs = [.int .i64 x.f0.f0, .int .i64 x.f0.f1, .int .i64 x.f1.f0, .int .i64 x.f1.f1, .int .i64 x.f2, .int .i64 x.f3, .string x.f4, .string x.f5.f0, v8] ∧ k79.R 79 w base ok v8 x.f5.f1 := by
 obtain ⟨_, _, rfl, s0, ⟨_, _, rfl, s2, ⟨_, _, rfl, rfl, ⟨_, _, rfl, rfl, ⟨_, _, rfl, rfl, s7⟩⟩⟩⟩⟩ := h
 obtain rfl := k33_openM s0
 obtain rfl := k33_openM s2
 obtain ⟨v8, rfl, g8⟩ := k36_openM s7
 exact ⟨v8, rfl, g8⟩
theorem k38_mk (w : World) (x : S38) {A8 : Option Addr} {c8 : Nat} (l8 : x.f5.f1.length ≤ c8) (g8 : k79.C w A8 x.f5.f1.length x.f5.f1) : k38.K w x [.int .i64 x.f0.f0, .int .i64 x.f0.f1, .int .i64 x.f1.f0, .int .i64 x.f1.f1, .int .i64 x.f2, .int .i64 x.f3, .string x.f4, .string x.f5.f0, .slice A8 x.f5.f1.length c8] := ⟨[.int .i64 x.f0.f0, .int .i64 x.f0.f1], [.int .i64 x.f1.f0, .int .i64 x.f1.f1, .int .i64 x.f2, .int .i64 x.f3, .string x.f4, .string x.f5.f0, .slice A8 x.f5.f1.length c8], rfl, (k33_mk w x.f0 ), ⟨[.int .i64 x.f1.f0, .int .i64 x.f1.f1], [.int .i64 x.f2, .int .i64 x.f3, .string x.f4, .string x.f5.f0, .slice A8 x.f5.f1.length c8], rfl, (k33_mk w x.f1 ), ⟨[.int .i64 x.f2], [.int .i64 x.f3, .string x.f4, .string x.f5.f0, .slice A8 x.f5.f1.length c8], rfl, rfl, ⟨[.int .i64 x.f3], [.string x.f4, .string x.f5.f0, .slice A8 x.f5.f1.length c8], rfl, rfl, ⟨[.string x.f4], [.string x.f5.f0, .slice A8 x.f5.f1.length c8], rfl, rfl, (k36_mk w x.f5 l8 g8)⟩⟩⟩⟩⟩
theorem k38_mkM (w : World) (base : Nat) (ok : Nat → Prop) (x : S38) {v8 : Value} (g8 : k79.R 79 w base ok v8 x.f5.f1) : k38.M w base ok x [.int .i64 x.f0.f0, .int .i64 x.f0.f1, .int .i64 x.f1.f0, .int .i64 x.f1.f1, .int .i64 x.f2, .int .i64 x.f3, .string x.f4, .string x.f5.f0, v8] := ⟨[.int .i64 x.f0.f0, .int .i64 x.f0.f1], [.int .i64 x.f1.f0, .int .i64 x.f1.f1, .int .i64 x.f2, .int .i64 x.f3, .string x.f4, .string x.f5.f0, v8], rfl, (k33_mkM w base ok x.f0 ), ⟨[.int .i64 x.f1.f0, .int .i64 x.f1.f1], [.int .i64 x.f2, .int .i64 x.f3, .string x.f4, .string x.f5.f0, v8], rfl, (k33_mkM w base ok x.f1 ), ⟨[.int .i64 x.f2], [.int .i64 x.f3, .string x.f4, .string x.f5.f0, v8], rfl, rfl, ⟨[.int .i64 x.f3], [.string x.f4, .string x.f5.f0, v8], rfl, rfl, ⟨[.string x.f4], [.string x.f5.f0, v8], rfl, rfl, (k36_mkM w base ok x.f5 g8)⟩⟩⟩⟩⟩
def rd_T38 (xs : List S38) (i : Int) : S38 := xs.getD i.toNat z38
theorem at_T38 {w : World} {A : Option Addr} {n : Nat} {xs : List S38} (h : Kd.C k38 w A n xs) (i : Int) (h0 : 0 ≤ i) (h1 : i < n) : ∃ ad A8 c8, A = some ad ∧ w.cell? (ad.add (i.toNat * 9)) = some (.int .i64 (rd_T38 xs i).f0.f0) ∧ w.cell? ⟨(ad.add (i.toNat * 9)).block, (ad.add (i.toNat * 9)).off + 1, none⟩ = some (.int .i64 (rd_T38 xs i).f0.f1) ∧ w.cell? ⟨(ad.add (i.toNat * 9)).block, (ad.add (i.toNat * 9)).off + 2, none⟩ = some (.int .i64 (rd_T38 xs i).f1.f0) ∧ w.cell? ⟨(ad.add (i.toNat * 9)).block, (ad.add (i.toNat * 9)).off + 3, none⟩ = some (.int .i64 (rd_T38 xs i).f1.f1) ∧ w.cell? ⟨(ad.add (i.toNat * 9)).block, (ad.add (i.toNat * 9)).off + 4, none⟩ = some (.int .i64 (rd_T38 xs i).f2) ∧ w.cell? ⟨(ad.add (i.toNat * 9)).block, (ad.add (i.toNat * 9)).off + 5, none⟩ = some (.int .i64 (rd_T38 xs i).f3) ∧ w.cell? ⟨(ad.add (i.toNat * 9)).block, (ad.add (i.toNat * 9)).off + 6, none⟩ = some (.string (rd_T38 xs i).f4) ∧ w.cell? ⟨(ad.add (i.toNat * 9)).block, (ad.add (i.toNat * 9)).off + 7, none⟩ = some (.string (rd_T38 xs i).f5.f0) ∧ w.cell? ⟨(ad.add (i.toNat * 9)).block, (ad.add (i.toNat * 9)).off + 8, none⟩ = some (.slice A8 (rd_T38 xs i).f5.f1.length c8) ∧ (rd_T38 xs i).f5.f1.length ≤ c8 ∧ k79.C w A8 (rd_T38 xs i).f5.f1.length (rd_T38 xs i).f5.f1 := by
 obtain ⟨ad, c, e, _, hK, hc0⟩ := Kd.C_get h z38 i h0 h1
 have hc : ∀ j u, c[j]? = some u → w.cell? (ad.add (i.toNat * 9 + j)) = some u := hc0
 obtain ⟨A8, c8, rfl, l8, g8⟩ := k38_open hK
 exact ⟨ad, A8, c8, e, hc 0 _ rfl, by rw [← add_field _ _ 1 (by omega)]; exact hc 1 _ rfl, by rw [← add_field _ _ 2 (by omega)]; exact hc 2 _ rfl, by rw [← add_field _ _ 3 (by omega)]; exact hc 3 _ rfl, by rw [← add_field _ _ 4 (by omega)]; exact hc 4 _ rfl, by rw [← add_field _ _ 5 (by omega)]; exact hc 5 _ rfl, by rw [← add_field _ _ 6 (by omega)]; exact hc 6 _ rfl, by rw [← add_field _ _ 7 (by omega)]; exact hc 7 _ rfl, by rw [← add_field _ _ 8 (by omega)]; exact hc 8 _ rfl, l8, g8⟩
structure S66 where
 f0 : Int
 f1 : Int
def z66 : S66 := ⟨(0 : Int), (0 : Int)⟩
def k66 : Kd S66 := Kd.iso (Kd.pair (Kd.int .i64) (Kd.int .i64)) (fun x : S66 => (x.f0, x.f1))
theorem k66_open {w : World} {x : S66} {cs : List Value} (h : k66.K w x cs) : cs = [.int .i64 x.f0, .int .i64 x.f1] := by
 obtain ⟨_, _, rfl, rfl, rfl⟩ := h
 exact rfl
theorem k66_mkM (w : World) (base : Nat) (ok : Nat → Prop) (x : S66)  : k66.M w base ok x [.int .i64 x.f0, .int .i64 x.f1] := ⟨[.int .i64 x.f0], [.int .i64 x.f1], rfl, rfl, rfl⟩
def rd_T66 (xs : List S66) (i : Int) : S66 := xs.getD i.toNat z66
theorem at_T66 {w : World} {A : Option Addr} {n : Nat} {xs : List S66} (h : Kd.C k66 w A n xs) (i : Int) (h0 : 0 ≤ i) (h1 : i < n) : ∃ ad , A = some ad ∧ w.cell? (ad.add (i.toNat * 2)) = some (.int .i64 (rd_T66 xs i).f0) ∧ w.cell? ⟨(ad.add (i.toNat * 2)).block, (ad.add (i.toNat * 2)).off + 1, none⟩ = some (.int .i64 (rd_T66 xs i).f1) := by
 obtain ⟨ad, c, e, _, hK, hc0⟩ := Kd.C_get h z66 i h0 h1
 have hc : ∀ j u, c[j]? = some u → w.cell? (ad.add (i.toNat * 2 + j)) = some u := hc0
 obtain rfl := k66_open hK
 exact ⟨ad, e, hc 0 _ rfl, by rw [← add_field _ _ 1 (by omega)]; exact hc 1 _ rfl⟩
structure S25 where
 f0 : (List S38)
def z25 : S25 := ⟨([] : List S38)⟩
structure S47 where
 f0 : Int
 f1 : Int
def z47 : S47 := ⟨(0 : Int), (0 : Int)⟩
def k47 : Kd S47 := Kd.iso (Kd.pair (Kd.int .i64) (Kd.int .i64)) (fun x : S47 => (x.f0, x.f1))
theorem k47_open {w : World} {x : S47} {cs : List Value} (h : k47.K w x cs) : cs = [.int .i64 x.f0, .int .i64 x.f1] := by
 obtain ⟨_, _, rfl, rfl, rfl⟩ := h
 exact rfl
theorem k47_mkM (w : World) (base : Nat) (ok : Nat → Prop) (x : S47)  : k47.M w base ok x [.int .i64 x.f0, .int .i64 x.f1] := ⟨[.int .i64 x.f0], [.int .i64 x.f1], rfl, rfl, rfl⟩
def rd_T47 (xs : List S47) (i : Int) : S47 := xs.getD i.toNat z47
theorem at_T47 {w : World} {A : Option Addr} {n : Nat} {xs : List S47} (h : Kd.C k47 w A n xs) (i : Int) (h0 : 0 ≤ i) (h1 : i < n) : ∃ ad , A = some ad ∧ w.cell? (ad.add (i.toNat * 2)) = some (.int .i64 (rd_T47 xs i).f0) ∧ w.cell? ⟨(ad.add (i.toNat * 2)).block, (ad.add (i.toNat * 2)).off + 1, none⟩ = some (.int .i64 (rd_T47 xs i).f1) := by
 obtain ⟨ad, c, e, _, hK, hc0⟩ := Kd.C_get h z47 i h0 h1
 have hc : ∀ j u, c[j]? = some u → w.cell? (ad.add (i.toNat * 2 + j)) = some u := hc0
 obtain rfl := k47_open hK
 exact ⟨ad, e, hc 0 _ rfl, by rw [← add_field _ _ 1 (by omega)]; exact hc 1 _ rfl⟩
theorem b1 {w : World} {g : Nat} {o : Obj} (h : w.heap[g]? = some o) (n : Nat) : (w.drewN n).heap[g]? = some o := h
theorem b2 {w : World} {g : Nat} {o : Obj} (h : w.heap[g]? = some o) : w.drew.heap[g]? = some o := h
theorem b3 {w : World} {g : Nat} {o : Obj} (h : w.heap[g]? = some o) (o' : Obj) : (w.alloc o').heap[g]? = some o := blk_alloc h o'
theorem l1 {w W : World} (h : Below w.heap.size w W) (o : Obj) : Below w.heap.size w (W.alloc o) := below_alloc h o
theorem l2 {B : Nat} {w W : World} (h : Below B w W) (n : Nat) : Below B w (W.drewN n) := pw_below_drewN h n
theorem l3 {base : Nat} {w W : World} (h : Below base w W) : Below base w W.drew := below_drew1 h
section
variable {P : Program} {ops : Array Oper} {Q : Exit → Act → World → Prop} {md : Region.Mode} {S : World → Prop} {ds : List Nat}
/-- what 'wpAnyLast' says, with the operations that come up next -/
structure WpS (is : List (Nat × Option Tmp)) (P : Program) (md : Region.Mode) (ops : Array Oper) (Q : Exit → Act → World → Prop) (S : World → Prop) (ds : List Nat) (fuel : Nat) (l : Array Bool) (a : Act) (w : World) : Prop where
  out : wpAnyLast P md ops Q S ds fuel l a w
theorem sched (is : List (Nat × Option Tmp)) {fuel : Nat} {l : Array Bool} {a : Act} {w : World} (h : WpS is P md ops Q S ds fuel l a w) : wpAnyLast P md ops Q S ds fuel l a w := h.out
theorem unsched {fuel : Nat} {l : Array Bool} {a : Act} {w : World} (h : wpAnyLast P md ops Q S ds fuel l a w) : WpS [] P md ops Q S ds fuel l a w := ⟨h⟩
theorem pureS {is : List (Nat × Option Tmp)} {i : Nat} {N : Option Tmp} {oi : Oper} {v : Value} {fuel : Nat} {l : Array Bool} {a : Act} {w : World} (hi : ops[i]? = some oi) (hN : oi.dst = N) (hc : anyB md ops l (l.setIfInBounds i true) i = true)
    (hQ : ∀ c a w, Q (.panic c) (a.put oi.dst v) w → Q (.panic c) a w) (hy : Yields P ops oi v a) {a' : Act} (ha : a.put N v = a')
    (h : WpS is P md ops Q S ds fuel (l.setIfInBounds i true) a' w) : WpS ((i, N) :: is) P md ops Q S ds (fuel + 1) l a w := ⟨pure_ _ hi hN hc hQ hy ha h.out⟩
theorem takeS {is : List (Nat × Option Tmp)} {i : Nat} {N : Option Tmp} {oi : Oper} {v : Value} {fuel : Nat} {l : Array Bool} {a : Act} {w : World} (hi : ops[i]? = some oi) (hN : oi.dst = N) (hc : takeB md ops ds l (l.setIfInBounds i true) i = true)
    (hQ : ∀ c a w, Q (.panic c) (a.put oi.dst v) w → Q (.panic c) a w) (hy : YieldsIf P ops S oi v a) (hS : S w) {a' : Act} (ha : a.put N v = a')
    (h : WpS is P md ops Q S ds fuel (l.setIfInBounds i true) a' w) : WpS ((i, N) :: is) P md ops Q S ds (fuel + 1) l a w := ⟨take_ _ hi hN hc hQ hy hS ha h.out⟩
end
/-- w1 is w with more in it (allocations, draws): what stands in w stands in w1 -/
class Ltr (w w1 : World) : Prop where
  out : Below w.heap.size w w1
instance ltr0 (w : World) : Ltr w w := ⟨Below.refl _ _⟩
instance ltr1 (w w1 : World) (o : Obj) [h : Ltr w w1] : Ltr w (w1.alloc o) := ⟨below_alloc h.out o⟩
instance ltr2 (w w1 : World) [h : Ltr w w1] : Ltr w w1.drew := ⟨below_drew1 h.out⟩
instance ltr3 (w w1 : World) (n : Nat) [h : Ltr w w1] : Ltr w (w1.drewN n) := ⟨pw_below_drewN h.out n⟩
theorem bA {w w1 : World} [i : Ltr w w1] {g : Nat} {o : Obj} (h : w.heap[g]? = some o) : w1.heap[g]? = some o := blk_below h i.out
theorem bB {w w1 w2 : World} [i : Ltr w w1] {g : Nat} {o : Obj} (h : w.heap[g]? = some o) (hb : Below w1.heap.size w1 w2) : w2.heap[g]? = some o := blk_below (bA h) hb
theorem nL {w w1 : World} [i : Ltr w w1] {g gb : Nat} {o : Obj} (hg : gb = w1.heap.size) (h : w.heap[g]? = some o) : g ≠ gb := by rw [hg]; exact Nat.ne_of_lt (blk_lt (bA (w1 := w1) h))
theorem nG {w w1 : World} [i : Ltr w w1] {g gb : Nat} {o : Obj} (hg : gb = w1.heap.size) (h : w.heap[g]? = some o) : gb ≠ g := (nL hg h).symm
theorem lA {w W W1 : World} [i : Ltr W W1] (h : Below w.heap.size w W) : Below w.heap.size w W1 := below_step h i.out
theorem rA {α : Type} {d : Kd α} {e : Nat} {w w1 : World} [i : Ltr w w1] {base : Nat} {ok : Nat → Prop} {v : Value} {xs : List α} (h : d.R e w base ok v xs) : d.R e w1 base ok v xs := Kd.R_below h i.out
theorem sA {α : Type} {d : Kd α} {e : Nat} {w w1 : World} [i : Ltr w w1] {base : Nat} {ok : Nat → Prop} {v : Value} {xs : List α} (h : Kd.S d e w base ok v xs) : Kd.S d e w1 base ok v xs := Kd.S_below h i.out
end Go.Proofs.Ytlbicmdfdpcdiaa.PDa
