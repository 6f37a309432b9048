import Derived.Test.YtlbicmdfdpcdiaaProg
import Derived.Below
import Derived.Deep.Draws
import Derived.Deep.AppendLies
import Derived.Maps.AppendAt
import Derived.OwnWalk
import Derived.Laws.BytesArg
import Derived.Laws.MakeOwn
import Derived.Laws.OwnMore
import Derived.Deep.OwnRows
import Derived.Tactics
import Derived.Lib.ConvBytes
import Derived.Laws.Slices
import Derived.WalkKit
import Derived.KernelRfl
import Derived.RowKit3
import Derived.Deep.LoopGhost
import Derived.Deep.QuietTactic
import Derived.BigQuiet
import Derived.WideLaws
import Derived.Deep.DeepCutAuto
import Derived.Deep.CutBlock
import Derived.Deep.RegionHeld3
import Derived.Laws.Rows
import Derived.Lib.AppendStr
import Derived.ArgAppend
import Derived.Laws.IdiomCopy
import Derived.OrdersHeld
import Derived.Laws.BitsLemmas
import Derived.RowKit
import Derived.Shelf.Spec.BitsCarry
import Derived.RegionTactic
import Derived.ChangeAlike
import Derived.Lib.RuneCount
import Derived.Laws.RangeString
import Derived.Laws.RangeAny
import Derived.LoopTactic
import Derived.RangeFuncNested
import Derived.RangeFuncBound
import Derived.RangeFuncCalls
import Derived.RangeFuncLeaves
import Derived.Shelf.Abstract
import Derived.Shelf.RegionOpen
import Derived.Shelf.RegionOpenPlain
import Derived.OwnWalkIn
import Derived.TacticsInMore
import Derived.LoopNIn
import Derived.LoopIn
import Derived.RangeFuncFrom
import Derived.Lib.OthersKept
import Derived.WalkSmall
import Derived.Outline
import Derived.Lib.Hide
import Derived.ChangeArms
import Derived.Deep.Slices
import Derived.Test.YtlbicmdfdpcdiaaDlA
set_option linter.unusedSectionVars false
-- Printed by a program of this session's; Lean checks it.
namespace Go.Proofs.Ytlbicmdfdpcdiaa.PDa
open Go.RowKit Go.Proofs.YtlbicmdfdpcdiaaW.PrintWords Go.Proofs.YtlbicmdfdpcdiaaW.PrintLast Go.Proofs.YtlbicmdfdpcdiaaW.PrintMore
attribute [local go_sem] max2_int min2_int max_two min_two max_three min_three max_four min_four
set_option linter.unusedVariables false
set_option linter.unusedSimpArgs false
def errW : Option Int → Value
 | none => .nilIface
 | some c => .iface 58 (.int .i64 c)
theorem errW_none : errW none = .nilIface := rfl
theorem errW_some (c : Int) : errW (some c) = .iface 58 (.int .i64 c) := rfl
structure SV where
 A : Option Addr
 n : Nat
 c : Nat
theorem eqA_arr2 {P : Program} {d : Nat} {t e : TypeId} {x0 x1 y0 y1 : Value} {a b : Bool} {w : World} (hu : P.underlying t = some (.array 2 e)) (hs : (Go.sizeOf e).run P w = .ok 1 w)
  (p0 : (part e #[x0, x1] 0).run P w = .ok x0 w) (p1 : (part e #[x0, x1] 1).run P w = .ok x1 w) (q0 : (part e #[y0, y1] 0).run P w = .ok y0 w) (q1 : (part e #[y0, y1] 1).run P w = .ok y1 w)
  (h0 : (Op.equalIn d e x0 y0).run P w = .ok a w) (h1 : (Op.equalIn d e x1 y1).run P w = .ok b w) : (Op.equalIn (d + 1) t (.agg #[x0, x1]) (.agg #[y0, y1])).run P w = .ok (a && b) w := by
 simp only [Op.equalIn, Sem.run_bind, run_underlying hu, Result.andThen_ok, hs, Std.Legacy.Range.forIn_eq_forIn_range', Std.Legacy.Range.size, Nat.sub_zero, Nat.add_sub_cancel, Nat.div_one, List.range', List.forIn_cons, List.forIn_nil, Nat.mul_one, Nat.zero_mul, Nat.zero_add, p0, q0, h0]
 cases a <;> cases b <;> simp [h1, Sem.run_bind, p1, q1]
theorem blk_cells2 {W : World} {g t : Nat} {v0 v1 : Value} (h : W.heap[g]? = some (.cells #[v0, v1] t (0, 0))) : W.cell? ⟨g, 0, none⟩ = some v0 ∧ W.cell? ⟨g, 1, none⟩ = some v1 ∧ W.frozen? ⟨g, 0, none⟩ = false ∧ W.frozen? ⟨g, 1, none⟩ = false := ⟨(blk_cell h 0).trans rfl, (blk_cell h 1).trans rfl, blk_frozen h 0, blk_frozen h 1⟩
theorem blk_cells9 {W : World} {g t : Nat} {v0 v1 v2 v3 v4 v5 v6 v7 v8 : Value} (h : W.heap[g]? = some (.cells #[v0, v1, v2, v3, v4, v5, v6, v7, v8] t (0, 0))) : W.cell? ⟨g, 0, none⟩ = some v0 ∧ W.cell? ⟨g, 1, none⟩ = some v1 ∧ W.cell? ⟨g, 2, none⟩ = some v2 ∧ W.cell? ⟨g, 3, none⟩ = some v3 ∧ W.cell? ⟨g, 4, none⟩ = some v4 ∧ W.cell? ⟨g, 5, none⟩ = some v5 ∧ W.cell? ⟨g, 6, none⟩ = some v6 ∧ W.cell? ⟨g, 7, none⟩ = some v7 ∧ W.cell? ⟨g, 8, none⟩ = some v8 ∧ W.frozen? ⟨g, 0, none⟩ = false ∧ W.frozen? ⟨g, 1, none⟩ = false ∧ W.frozen? ⟨g, 2, none⟩ = false ∧ W.frozen? ⟨g, 3, none⟩ = false ∧ W.frozen? ⟨g, 4, none⟩ = false ∧ W.frozen? ⟨g, 5, none⟩ = false ∧ W.frozen? ⟨g, 6, none⟩ = false ∧ W.frozen? ⟨g, 7, none⟩ = false ∧ W.frozen? ⟨g, 8, none⟩ = false := ⟨(blk_cell h 0).trans rfl, (blk_cell h 1).trans rfl, (blk_cell h 2).trans rfl, (blk_cell h 3).trans rfl, (blk_cell h 4).trans rfl, (blk_cell h 5).trans rfl, (blk_cell h 6).trans rfl, (blk_cell h 7).trans rfl, (blk_cell h 8).trans rfl, blk_frozen h 0, blk_frozen h 1, blk_frozen h 2, blk_frozen h 3, blk_frozen h 4, blk_frozen h 5, blk_frozen h 6, blk_frozen h 7, blk_frozen h 8⟩
theorem box_facts {w W W1 : World} {g : Nat} (hB : Below w.heap.size w W) (hg : g = W.heap.size) (hb : Below W.heap.size W W1) : Below w.heap.size w W1 ∧ w.heap.size ≤ g := ⟨below_step hB hb, by rw [hg]; exact below_size hB⟩
structure S79 where
 f0 : Int
 f1 : Int
 f2 : Int
 f3 : Int
def k79 : Kd S79 := Kd.iso (Kd.pair (Kd.int .i64) (Kd.pair (Kd.int .i64) (Kd.pair (Kd.int .i64) (Kd.int .i64)))) (fun x : S79 => (x.f0, x.f1, x.f2, x.f3))
structure S33 where
 f0 : Int
 f1 : Int
def k33 : Kd S33 := Kd.iso (Kd.pair (Kd.int .i64) (Kd.int .i64)) (fun x : S33 => (x.f0, x.f1))
theorem k33_openM {w : World} {base : Nat} {ok : Nat → Prop} {x : S33} {cs : List Value} (h : k33.M w base ok x cs) : cs = [.int .i64 x.f0, .int .i64 x.f1] := by
 obtain ⟨_, _, rfl, rfl, rfl⟩ := h
 exact rfl
structure S36 where
 f0 : ByteArray
 f1 : (List S79)
def k36 : Kd S36 := Kd.iso (Kd.pair Kd.string (Kd.slice 79 k79)) (fun x : S36 => (x.f0, x.f1))
theorem k36_openM {w : World} {base : Nat} {ok : Nat → Prop} {x : S36} {cs : List Value} (h : k36.M w base ok x cs) : ∃ v1, cs = [.string x.f0, v1] ∧ k79.R 79 w base ok v1 x.f1 := by
 obtain ⟨_, _, rfl, rfl, ⟨v1, rfl, g1⟩⟩ := h
 exact ⟨v1, rfl, g1⟩
structure S38 where
 f0 : S33
 f1 : S33
 f2 : Int
 f3 : Int
 f4 : ByteArray
 f5 : S36
def k38 : Kd S38 := Kd.iso (Kd.pair k33 (Kd.pair k33 (Kd.pair (Kd.int .i64) (Kd.pair (Kd.int .i64) (Kd.pair Kd.string k36))))) (fun x : S38 => (x.f0, x.f1, x.f2, x.f3, x.f4, x.f5))
theorem k38_openM {w : World} {base : Nat} {ok : Nat → Prop} {x : S38} {cs : List Value} (h : k38.M w base ok x cs) : ∃ v8, cs = [.int .i64 x.f0.f0, .int .i64 x.f0.f1, .int .i64 x.f1.f0, .int .i64 x.f1.f1, .int .i64 x.f2, .int .i64 x.f3, .string x.f4, .string x.f5.f0, v8] ∧ k79.R 79 w base ok v8 x.f5.f1 := by
 obtain ⟨_, _, rfl, s0, ⟨_, _, rfl, s2, ⟨_, _, rfl, rfl, ⟨_, _, rfl, rfl, ⟨_, _, rfl, rfl, s7⟩⟩⟩⟩⟩ := h
 obtain rfl := k33_openM s0
 obtain rfl := k33_openM s2
 obtain ⟨v8, rfl, g8⟩ := k36_openM s7
 exact ⟨v8, rfl, g8⟩
structure S66 where
 f0 : Int
 f1 : Int
structure S25 where
 f0 : (List S38)
theorem b1 {w : World} {g : Nat} {o : Obj} (h : w.heap[g]? = some o) (n : Nat) : (w.drewN n).heap[g]? = some o := h
theorem b2 {w : World} {g : Nat} {o : Obj} (h : w.heap[g]? = some o) : w.drew.heap[g]? = some o := h
theorem b3 {w : World} {g : Nat} {o : Obj} (h : w.heap[g]? = some o) (o' : Obj) : (w.alloc o').heap[g]? = some o := blk_alloc h o'
theorem l1 {w W : World} (h : Below w.heap.size w W) (o : Obj) : Below w.heap.size w (W.alloc o) := below_alloc h o
theorem l2 {B : Nat} {w W : World} (h : Below B w W) (n : Nat) : Below B w (W.drewN n) := pw_below_drewN h n
theorem l3 {base : Nat} {w W : World} (h : Below base w W) : Below base w W.drew := below_drew1 h
section
variable {P : Program} {ops : Array Oper} {Q : Exit → Act → World → Prop} {md : Region.Mode} {S : World → Prop} {ds : List Nat}
structure WpS (is : List (Nat × Option Tmp)) (P : Program) (md : Region.Mode) (ops : Array Oper) (Q : Exit → Act → World → Prop) (S : World → Prop) (ds : List Nat) (fuel : Nat) (l : Array Bool) (a : Act) (w : World) : Prop where
  out : wpAnyLast P md ops Q S ds fuel l a w
theorem sched (is : List (Nat × Option Tmp)) {fuel : Nat} {l : Array Bool} {a : Act} {w : World} (h : WpS is P md ops Q S ds fuel l a w) : wpAnyLast P md ops Q S ds fuel l a w := h.out
theorem unsched {fuel : Nat} {l : Array Bool} {a : Act} {w : World} (h : wpAnyLast P md ops Q S ds fuel l a w) : WpS [] P md ops Q S ds fuel l a w := ⟨h⟩
theorem pureS {is : List (Nat × Option Tmp)} {i : Nat} {N : Option Tmp} {oi : Oper} {v : Value} {fuel : Nat} {l : Array Bool} {a : Act} {w : World} (hi : ops[i]? = some oi) (hN : oi.dst = N) (hc : anyB md ops l (l.setIfInBounds i true) i = true)
    (hQ : ∀ c a w, Q (.panic c) (a.put oi.dst v) w → Q (.panic c) a w) (hy : Yields P ops oi v a) {a' : Act} (ha : a.put N v = a')
    (h : WpS is P md ops Q S ds fuel (l.setIfInBounds i true) a' w) : WpS ((i, N) :: is) P md ops Q S ds (fuel + 1) l a w := ⟨pure_ _ hi hN hc hQ hy ha h.out⟩
theorem takeS {is : List (Nat × Option Tmp)} {i : Nat} {N : Option Tmp} {oi : Oper} {v : Value} {fuel : Nat} {l : Array Bool} {a : Act} {w : World} (hi : ops[i]? = some oi) (hN : oi.dst = N) (hc : takeB md ops ds l (l.setIfInBounds i true) i = true)
    (hQ : ∀ c a w, Q (.panic c) (a.put oi.dst v) w → Q (.panic c) a w) (hy : YieldsIf P ops S oi v a) (hS : S w) {a' : Act} (ha : a.put N v = a')
    (h : WpS is P md ops Q S ds fuel (l.setIfInBounds i true) a' w) : WpS ((i, N) :: is) P md ops Q S ds (fuel + 1) l a w := ⟨take_ _ hi hN hc hQ hy hS ha h.out⟩
end
class Ltr (w w1 : World) : Prop where
  out : Below w.heap.size w w1
instance ltr0 (w : World) : Ltr w w := ⟨Below.refl _ _⟩
instance ltr1 (w w1 : World) (o : Obj) [h : Ltr w w1] : Ltr w (w1.alloc o) := ⟨below_alloc h.out o⟩
instance ltr2 (w w1 : World) [h : Ltr w w1] : Ltr w w1.drew := ⟨below_drew1 h.out⟩
instance ltr3 (w w1 : World) (n : Nat) [h : Ltr w w1] : Ltr w (w1.drewN n) := ⟨pw_below_drewN h.out n⟩
theorem bA {w w1 : World} [i : Ltr w w1] {g : Nat} {o : Obj} (h : w.heap[g]? = some o) : w1.heap[g]? = some o := blk_below h i.out
theorem bB {w w1 w2 : World} [i : Ltr w w1] {g : Nat} {o : Obj} (h : w.heap[g]? = some o) (hb : Below w1.heap.size w1 w2) : w2.heap[g]? = some o := blk_below (bA h) hb
theorem nL {w w1 : World} [i : Ltr w w1] {g gb : Nat} {o : Obj} (hg : gb = w1.heap.size) (h : w.heap[g]? = some o) : g ≠ gb := by rw [hg]; exact Nat.ne_of_lt (blk_lt (bA (w1 := w1) h))
theorem nG {w w1 : World} [i : Ltr w w1] {g gb : Nat} {o : Obj} (hg : gb = w1.heap.size) (h : w.heap[g]? = some o) : gb ≠ g := (nL hg h).symm
theorem lA {w W W1 : World} [i : Ltr W W1] (h : Below w.heap.size w W) : Below w.heap.size w W1 := below_step h i.out
theorem sA {α : Type} {d : Kd α} {e : Nat} {w w1 : World} [i : Ltr w w1] {base : Nat} {ok : Nat → Prop} {v : Value} {xs : List α} (h : Kd.S d e w base ok v xs) : Kd.S d e w1 base ok v xs := Kd.S_below h i.out
end Go.Proofs.Ytlbicmdfdpcdiaa.PDa
-- Printed by a program of this session's; Lean checks it.
namespace Go.Proofs.Ytlbicmdfdpcdiaa.PDa
open Go.RowKit Go.Proofs.YtlbicmdfdpcdiaaW.PrintWords Go.Proofs.YtlbicmdfdpcdiaaW.PrintLast Go.Proofs.YtlbicmdfdpcdiaaW.PrintMore
attribute [local go_sem] max2_int min2_int max_two min_two max_three min_three max_four min_four
set_option linter.unusedVariables false
set_option linter.unusedSimpArgs false
theorem eqA33 (d : Nat) (w : World) (x0 y0 : Int) (x1 y1 : Int) :
  (Op.equalIn (d + 2) 33 (.agg #[.int .i64 x0, .int .i64 x1]) (.agg #[.int .i64 y0, .int .i64 y1])).run Try.prog w = .ok (x0 == y0 && (x1 == y1)) w := by
 refine eqA_of Try.underlying33 (by kernel_rfl) ?_
 refine eqf_cons (by rfl) (by go_simp; rfl) (by go_simp; rfl) (by go_simp) ?_
 exact eqf_last (by rfl) (by go_simp; rfl) (by go_simp; rfl) (by go_simp)
end Go.Proofs.Ytlbicmdfdpcdiaa.PDa
-- Printed by a program of this session's; Lean checks it.
namespace Go.Proofs.Ytlbicmdfdpcdiaa.PDa
open Go.RowKit Go.Proofs.YtlbicmdfdpcdiaaW.PrintWords Go.Proofs.YtlbicmdfdpcdiaaW.PrintLast Go.Proofs.YtlbicmdfdpcdiaaW.PrintMore
attribute [local go_sem] max2_int min2_int max_two min_two max_three min_three max_four min_four
set_option linter.unusedVariables false
set_option linter.unusedSimpArgs false
theorem eqA88 (d : Nat) (w : World) (x0 y0 : Int) (x1 y1 : Int) :
  (Op.equalIn (d + 2) 88 (.agg #[.int .u64 x0, .int .u64 x1]) (.agg #[.int .u64 y0, .int .u64 y1])).run Try.prog w = .ok (x0 == y0 && (x1 == y1)) w := by
 refine eqA_of Try.underlying88 (by kernel_rfl) ?_
 refine eqf_cons (by rfl) (by go_simp; rfl) (by go_simp; rfl) (by go_simp) ?_
 exact eqf_last (by rfl) (by go_simp; rfl) (by go_simp; rfl) (by go_simp)
end Go.Proofs.Ytlbicmdfdpcdiaa.PDa
-- Printed by a program of this session's; Lean checks it.
namespace Go.Proofs.Ytlbicmdfdpcdiaa.PDa
open Go.RowKit Go.Proofs.YtlbicmdfdpcdiaaW.PrintWords Go.Proofs.YtlbicmdfdpcdiaaW.PrintLast Go.Proofs.YtlbicmdfdpcdiaaW.PrintMore
attribute [local go_sem] max2_int min2_int max_two min_two max_three min_three max_four min_four
set_option linter.unusedVariables false
set_option linter.unusedSimpArgs false
attribute [local go_sem high] eqA88
def bits_Mul64.f (a0 : Int) (a1 : Int) : Option (Int × Int) := some (IntKind.u64.wrap ((IntKind.u64.wrap ((IntKind.u64.wrap ((a0 / 4294967296) * (a1 / 4294967296))) + ((IntKind.u64.wrap ((IntKind.u64.wrap ((a0 / 4294967296) * (Go.bits .and .u64 a1 4294967295))) + ((IntKind.u64.wrap ((Go.bits .and .u64 a0 4294967295) * (Go.bits .and .u64 a1 4294967295))) / 4294967296))) / 4294967296))) + ((IntKind.u64.wrap ((Go.bits .and .u64 (IntKind.u64.wrap ((IntKind.u64.wrap ((a0 / 4294967296) * (Go.bits .and .u64 a1 4294967295))) + ((IntKind.u64.wrap ((Go.bits .and .u64 a0 4294967295) * (Go.bits .and .u64 a1 4294967295))) / 4294967296))) 4294967295) + (IntKind.u64.wrap ((Go.bits .and .u64 a0 4294967295) * (a1 / 4294967296))))) / 4294967296)), IntKind.u64.wrap (a0 * a1))
set_option maxHeartbeats 8000000 in
set_option maxRecDepth 100000 in
theorem bits_Mul64.calls (a0 : Int) (a1 : Int) (r1 : Int) (r2 : Int) (w : World) (h : bits_Mul64.f a0 a1 = some (r1, r2)) :
  Calls Try.prog 56 #[.int .u64 a0, .int .u64 a1] w fun e w' => e = .returned (.tuple #[.int .u64 r1, .int .u64 r2]) ∧ Drawn0 w w' := by
 have H : (some (IntKind.u64.wrap ((IntKind.u64.wrap ((IntKind.u64.wrap ((a0 / 4294967296) * (a1 / 4294967296))) + ((IntKind.u64.wrap ((IntKind.u64.wrap ((a0 / 4294967296) * (Go.bits .and .u64 a1 4294967295))) + ((IntKind.u64.wrap ((Go.bits .and .u64 a0 4294967295) * (Go.bits .and .u64 a1 4294967295))) / 4294967296))) / 4294967296))) + ((IntKind.u64.wrap ((Go.bits .and .u64 (IntKind.u64.wrap ((IntKind.u64.wrap ((a0 / 4294967296) * (Go.bits .and .u64 a1 4294967295))) + ((IntKind.u64.wrap ((Go.bits .and .u64 a0 4294967295) * (Go.bits .and .u64 a1 4294967295))) / 4294967296))) 4294967295) + (IntKind.u64.wrap ((Go.bits .and .u64 a0 4294967295) * (a1 / 4294967296))))) / 4294967296)), IntKind.u64.wrap (a0 * a1))) = some (r1, r2) := h
 clear h
 simp only [Option.some.injEq, Prod.mk.injEq] at H
 obtain ⟨rfl, rfl⟩ := H
 go_enter Try.func56, Try.ntmps56
 go_wp2
 go_ret2
 exact ⟨by first | rfl | (simp; done) | (simp [*]; done), by repeat (first | exact Drawn0.refl _ | apply Drawn0.step)⟩
def ratio_mul.f (a0 : Int) (a1 : Int) : Option (Int × Int) := (bits_Mul64.f a0 a1).bind fun bt102 => (some (bt102.1, bt102.2))
set_option maxHeartbeats 8000000 in
set_option maxRecDepth 100000 in
theorem ratio_mul.calls (a0 : Int) (a1 : Int) (r1 : Int) (r2 : Int) (w : World) (h : ratio_mul.f a0 a1 = some (r1, r2)) :
  Calls Try.prog 43 #[.int .u64 a0, .int .u64 a1] w fun e w' => e = .returned (.agg #[.int .u64 r1, .int .u64 r2]) ∧ Below w.heap.size w w' := by
 have hu88 := Try.underlying88
 have HB := Aside0.mk (Below.refl w.heap.size w)
 have H : ((bits_Mul64.f a0 a1).bind fun bt102 => (some (bt102.1, bt102.2))) = some (r1, r2) := h
 clear h
 replace H := Option.bind_eq_some_iff.mp H
 obtain ⟨⟨t102, t103⟩, A30, H⟩ := H
 (try dsimp only at H)
 have A3 := Aside0.mk A30
 clear A30
 simp only [Option.some.injEq, Prod.mk.injEq] at H
 obtain ⟨rfl, rfl⟩ := H
 go_enter Try.func43, Try.ntmps43
 go_wp2_with (first | ((with_reducible refine gate_dst (N := 4) rfl ?_); refine box_event (by rfl) (N := 4) (by rfl) (cs := #[.int .u64 0, .int .u64 0]) (t := 88) (by first | (go_simp; done) | (go_simp; rfl)) ?_; intro gb101 hg w4 hbox hb; obtain ⟨hb_, hw_⟩ := box_facts (lA HB.out) hg hb; replace HB := Aside0.mk (hb_); have BK101 := Aside0.mk (hbox); have GW101 := Aside0.mk (hw_); have GE101 := Aside0.mk (hw_); clear hb hbox hg hb_ hw_) | ((with_reducible refine gate_callee (f := 56) rfl ?_); refine goesL_ (some 10) rfl rfl Try.func56 (by kernel_rfl) rfl #[.int .u64 a0, .int .u64 a1] rfl (by (try simp only [List.map_toArray, List.map_cons, List.map_nil]); first | done | rfl | (simp only [List.length_drop, List.length_take]; rfl)) ?_; (with_reducible refine (bits_Mul64.calls a0 a1 t102 t103 _ A3.out).mono ?_); rintro e w' ⟨rfl, ⟨nd, rfl⟩⟩; refine ⟨_, rfl, ?_⟩; (try (rw [drewN_self w4]; generalize hq_ : World.drewN w4 _ = w4; have n0_ : Aside0 (w4.heap[gb101]? = some (.cells #[.int .u64 0, .int .u64 0] 88 (0, 0))) := ⟨by rw [← hq_]; exact (bA BK101.out)⟩; have n1_ : Aside0 (Below w.heap.size w w4) := ⟨by rw [← hq_]; exact (by repeat (first | (with_reducible first | exact HB.out | apply l1 | apply l2 | apply l3 | refine below_set ?_ GE101.out) | exact HB.out))⟩; clear BK101 HB hq_; have BK101 := n0_; have HB := n1_; clear n0_ n1_)); obtain ⟨hcz5_0, hcz5_1, hfz5_0, hfz5_1⟩ := blk_cells2 BK101.out))
 refine bodyPost_ret (results_cell_row rfl _ _ gb101 88 #[.int .u64 t102, .int .u64 t103] (0, 0) _ rfl (by (with_reducible repeat (first | apply b1 | apply b2 | apply b3)); refine blk_put (cs := #[.int .u64 t102, .int .u64 0]) ?_ 1 _ rfl; (with_reducible repeat (first | apply b1 | apply b2 | apply b3)); refine blk_put (cs := #[.int .u64 0, .int .u64 0]) ?_ 0 _ rfl; (with_reducible repeat (first | apply b1 | apply b2 | apply b3)); exact BK101.out) Try.underlying88 rfl (by kernel_rfl)) rfl ?_
 exact ⟨by first | rfl | (simp [errW_none, errW_some] <;> rfl) | (simp [*, errW_none, errW_some] <;> rfl), by repeat (first | (with_reducible first | exact HB.out | apply l1 | apply l2 | apply l3 | refine below_set ?_ GE101.out) | exact HB.out)⟩
def ratio_size.f (a0 : Int) : Option (Int) := if a0 < 0 then (some (IntKind.u64.wrap ((IntKind.u64.wrap (wrap64 (-(wrap64 (a0 + 1))))) + 1))) else (some (IntKind.u64.wrap (a0)))
set_option maxHeartbeats 8000000 in
set_option maxRecDepth 100000 in
theorem ratio_size.calls (a0 : Int) (r : Int) (w : World) (h : ratio_size.f a0 = some r) :
  Calls Try.prog 44 #[.int .i64 a0] w fun e w' => e = .returned (.int .u64 r) ∧ Drawn0 w w' := by
 have H : (if a0 < 0 then (some (IntKind.u64.wrap ((IntKind.u64.wrap (wrap64 (-(wrap64 (a0 + 1))))) + 1))) else (some (IntKind.u64.wrap (a0)))) = some r := h
 clear h
 by_cases c2 : a0 < 0
 ·rw [if_pos c2] at H
  have c2b0 : decide (a0 < 0) = true := decide_eq_true c2
  clear c2
  obtain rfl := Option.some.inj H
  go_enter Try.func44, Try.ntmps44
  go_wp2
  go_ret
  exact ⟨by first | rfl | (simp; done) | (simp [*]; done), by repeat (first | exact Drawn0.refl _ | apply Drawn0.step)⟩
 ·rw [if_neg c2] at H
  have c2b0 : decide (a0 < 0) = false := decide_eq_false c2
  clear c2
  obtain rfl := Option.some.inj H
  go_enter Try.func44, Try.ntmps44
  go_wp2
  go_ret
  exact ⟨by first | rfl | (simp; done) | (simp [*]; done), by repeat (first | exact Drawn0.refl _ | apply Drawn0.step)⟩
def ratio_wide_cmp.f (a0_0 : Int) (a0_1 : Int) (a1_0 : Int) (a1_1 : Int) : Option (Int) := if (a0_0 == a1_0 && (a0_1 == a1_1)) = true then (some 0) else (if a0_0 < a1_0 then (some (-1)) else (if a0_0 = a1_0 then (if a0_1 < a1_1 then (some (-1)) else (some 1)) else (some 1)))
set_option maxHeartbeats 8000000 in
set_option maxRecDepth 100000 in
theorem ratio_wide_cmp.calls (a0_0 : Int) (a0_1 : Int) (a1_0 : Int) (a1_1 : Int) (r : Int) (w : World) (h : ratio_wide_cmp.f a0_0 a0_1 a1_0 a1_1 = some r) :
  Calls Try.prog 45 #[.agg #[.int .u64 a0_0, .int .u64 a0_1], .agg #[.int .u64 a1_0, .int .u64 a1_1]] w fun e w' => e = .returned (.int .i64 r) ∧ Below w.heap.size w w' := by
 have hu88 := Try.underlying88
 have HB := Aside0.mk (Below.refl w.heap.size w)
 have H : (if (a0_0 == a1_0 && (a0_1 == a1_1)) = true then (some 0) else (if a0_0 < a1_0 then (some (-1)) else (if a0_0 = a1_0 then (if a0_1 < a1_1 then (some (-1)) else (some 1)) else (some 1)))) = some r := h
 clear h
 by_cases c3 : (a0_0 == a1_0 && (a0_1 == a1_1)) = true <;> first
 |(rw [if_pos c3] at H
   have c3b0 : (a0_0 == a1_0 && (a0_1 == a1_1)) = true := c3
   (try (have c3b1 : decide (a0_0 = a1_0 && (a0_1 == a1_1)) = true := by simpa using c3))
   (try (have c3b2 : (a0_0 == a1_0 && (a0_1 == a1_1)) = true := by simpa using c3))
   clear c3
   obtain rfl := Option.some.inj H)
 |(rw [if_neg c3] at H
   have c3b0 : (a0_0 == a1_0 && (a0_1 == a1_1)) = false := by simpa using c3
   (try (have c3b1 : decide (a0_0 = a1_0 && (a0_1 == a1_1)) = false := by simpa using c3))
   (try (have c3b2 : (a0_0 == a1_0 && (a0_1 == a1_1)) = false := by simpa using c3))
   (try (have c3b3 : ¬ (a0_0 = a1_0 && (a0_1 == a1_1)) := by simpa using c3))
   clear c3
   by_cases c9 : a0_0 < a1_0 <;> first
   |(rw [if_pos c9] at H
     have c9b0 : decide (a0_0 < a1_0) = true := decide_eq_true c9
     clear c9
     obtain rfl := Option.some.inj H)
   |(rw [if_neg c9] at H
     have c9b0 : decide (a0_0 < a1_0) = false := decide_eq_false c9
     clear c9
     by_cases c15 : a0_0 = a1_0 <;> first
     |(rw [if_pos c15] at H
       have c15k : (a0_1 == a1_1) = false := by simpa [c15] using c3b0
       have c15b0 : (a0_0 == a1_0) = true := beq_iff_eq.mpr c15
       have c15b1 : (a0_0 != a1_0) = false := bne_eq_false_iff_eq.mpr c15
       clear c15
       by_cases c16 : a0_1 < a1_1 <;> first
       |(rw [if_pos c16] at H
         have c16b0 : decide (a0_1 < a1_1) = true := decide_eq_true c16
         clear c16
         obtain rfl := Option.some.inj H)
       |(rw [if_neg c16] at H
         have c16b0 : decide (a0_1 < a1_1) = false := decide_eq_false c16
         clear c16
         obtain rfl := Option.some.inj H))
     |(rw [if_neg c15] at H
       have c15b0 : (a0_0 == a1_0) = false := beq_eq_false_iff_ne.mpr c15
       have c15b1 : (a0_0 != a1_0) = true := bne_iff_ne.mpr c15
       obtain rfl := Option.some.inj H)))
 all_goals
  go_enter Try.func45, Try.ntmps45
  go_wp2_with (first | ((with_reducible refine gate_dst (N := 2) rfl ?_); refine box_event (by rfl) (N := 2) (by rfl) (cs := #[.int .u64 a0_0, .int .u64 a0_1]) (t := 88) (by first | (go_simp; done) | (go_simp; rfl)) ?_; intro gb104 hg w10 hbox hb; obtain ⟨hb_, hw_⟩ := box_facts (lA HB.out) hg hb; replace HB := Aside0.mk (hb_); have BK104 := Aside0.mk (hbox); have GW104 := Aside0.mk (hw_); have GE104 := Aside0.mk (hw_); clear hb hbox hg hb_ hw_) | ((with_reducible refine gate_dst (N := 3) rfl ?_); refine box_event (by rfl) (N := 3) (by rfl) (cs := #[.int .u64 a1_0, .int .u64 a1_1]) (t := 88) (by first | (go_simp; done) | (go_simp; rfl)) ?_; intro gb105 hg w11 hbox hb; obtain ⟨hb_, hw_⟩ := box_facts (by repeat (first | (with_reducible first | exact HB.out | apply l1 | apply l2 | apply l3 | refine below_set ?_ GE104.out) | exact HB.out)) hg hb; replace HB := Aside0.mk (hb_); have BK105 := Aside0.mk (hbox); have GW105 := Aside0.mk (hw_); have GE105 := Aside0.mk (hw_); have NB104_105 := Aside0.mk ((nL hg BK104.out)); have NB105_104 := Aside0.mk ((nG hg BK104.out)); replace BK104 := Aside0.mk (bB BK104.out hb); clear hb hbox hg hb_ hw_; have hnb12 := NB104_105.out; have hnc12 := NB105_104.out; obtain ⟨hcz13_0, hcz13_1, hfz13_0, hfz13_1⟩ := blk_cells2 BK104.out; obtain ⟨hcz14_0, hcz14_1, hfz14_0, hfz14_1⟩ := blk_cells2 BK105.out))
  go_ret
  exact ⟨by first | rfl | (simp [errW_none, errW_some] <;> rfl) | (simp [*, errW_none, errW_some] <;> rfl), by repeat (first | (with_reducible first | exact HB.out | apply l1 | apply l2 | apply l3 | refine below_set ?_ GE104.out | refine below_set ?_ GE105.out) | exact HB.out)⟩
def ratio_Cmp.f (a0_0 : Int) (a0_1 : Int) (a1_0 : Int) (a1_1 : Int) : Option (Int) := if a0_0 < 0 then (if a1_0 < 0 then ((ratio_size.f a0_0).bind fun t108 => ((ratio_mul.f t108 (IntKind.u64.wrap (a1_1))).bind fun bt109 => ((ratio_size.f a1_0).bind fun t111 => ((ratio_mul.f t111 (IntKind.u64.wrap (a0_1))).bind fun bt112 => ((ratio_wide_cmp.f bt109.1 bt109.2 bt112.1 bt112.2).bind fun t114 => (some (wrap64 (-t114)))))))) else (some (-1))) else (if a1_0 < 0 then (some 1) else ((ratio_size.f a0_0).bind fun t115 => ((ratio_mul.f t115 (IntKind.u64.wrap (a1_1))).bind fun bt116 => ((ratio_size.f a1_0).bind fun t118 => ((ratio_mul.f t118 (IntKind.u64.wrap (a0_1))).bind fun bt119 => ((ratio_wide_cmp.f bt116.1 bt116.2 bt119.1 bt119.2).bind fun t121 => (some t121)))))))
def ratio_Cmp.T5 : Bool × List (List Nat × List Nat) := (true, [([], []), ([0], [0]), ([1], [1]), ([], []), ([3], [3]), ([4], [4]), ([2, 5, 2], [2, 5]), ([], []), ([7], [7]), ([8, 6], [8]), ([], []), ([10], [10]), ([11], [11]), ([9, 12, 9], [9, 12]), ([6, 13, 13], [6, 13]), ([14, 14, 0, 1, 2, 3, 4, 5, 6, 7, 8, 9, 10, 11, 12, 13, 14], [14])])
def ratio_Cmp.B5 : List Nat := [0, 1, 3, 0, 8, 24, 63, 0, 128, 511, 0, 1024, 3072, 8191, 16383, 32767]
theorem ratio_Cmp.tab5 : rtab .any (opsOf Try.f29 5) = ratio_Cmp.T5 := by kernel_rfl
theorem ratio_Cmp.bits5 : waitsOk ratio_Cmp.T5.2 ratio_Cmp.B5 = true := by kernel_rfl
set_option maxHeartbeats 8000000 in
set_option maxRecDepth 100000 in
theorem ratio_Cmp.calls (a0_0 : Int) (a0_1 : Int) (a1_0 : Int) (a1_1 : Int) (r : Int) (w : World) (h : ratio_Cmp.f a0_0 a0_1 a1_0 a1_1 = some r) :
  Calls Try.prog 29 #[.agg #[.int .i64 a0_0, .int .i64 a0_1], .agg #[.int .i64 a1_0, .int .i64 a1_1]] w fun e w' => e = .returned (.int .i64 r) ∧ Below w.heap.size w w' := by
 have hu33 := Try.underlying33
 have HB := Aside0.mk (Below.refl w.heap.size w)
 have H : (if a0_0 < 0 then (if a1_0 < 0 then ((ratio_size.f a0_0).bind fun t108 => ((ratio_mul.f t108 (IntKind.u64.wrap (a1_1))).bind fun bt109 => ((ratio_size.f a1_0).bind fun t111 => ((ratio_mul.f t111 (IntKind.u64.wrap (a0_1))).bind fun bt112 => ((ratio_wide_cmp.f bt109.1 bt109.2 bt112.1 bt112.2).bind fun t114 => (some (wrap64 (-t114)))))))) else (some (-1))) else (if a1_0 < 0 then (some 1) else ((ratio_size.f a0_0).bind fun t115 => ((ratio_mul.f t115 (IntKind.u64.wrap (a1_1))).bind fun bt116 => ((ratio_size.f a1_0).bind fun t118 => ((ratio_mul.f t118 (IntKind.u64.wrap (a0_1))).bind fun bt119 => ((ratio_wide_cmp.f bt116.1 bt116.2 bt119.1 bt119.2).bind fun t121 => (some t121)))))))) = some r := h
 clear h
 by_cases c3 : a0_0 < 0
 ·rw [if_pos c3] at H
  have c3b0 : decide (a0_0 < 0) = true := decide_eq_true c3
  clear c3
  by_cases c4 : a1_0 < 0
  ·rw [if_pos c4] at H
   have c4b0 : decide (a1_0 < 0) = true := decide_eq_true c4
   clear c4
   replace H := Option.bind_eq_some_iff.mp H
   obtain ⟨t108, A50, H⟩ := H
   (try dsimp only at H)
   have A5 := Aside0.mk A50
   clear A50
   replace H := Option.bind_eq_some_iff.mp H
   obtain ⟨⟨t109, t110⟩, A60, H⟩ := H
   (try dsimp only at H)
   have A6 := Aside0.mk A60
   clear A60
   replace H := Option.bind_eq_some_iff.mp H
   obtain ⟨t111, A70, H⟩ := H
   (try dsimp only at H)
   have A7 := Aside0.mk A70
   clear A70
   replace H := Option.bind_eq_some_iff.mp H
   obtain ⟨⟨t112, t113⟩, A80, H⟩ := H
   (try dsimp only at H)
   have A8 := Aside0.mk A80
   clear A80
   replace H := Option.bind_eq_some_iff.mp H
   obtain ⟨t114, A90, H⟩ := H
   (try dsimp only at H)
   have A9 := Aside0.mk A90
   clear A90
   obtain rfl := Option.some.inj H
   go_enter Try.func29, Try.ntmps29
   try go_wp2_with (first | ((with_reducible refine gate_dst (N := 2) rfl ?_); refine box_event (by rfl) (N := 2) (by rfl) (cs := #[.int .i64 a0_0, .int .i64 a0_1]) (t := 33) (by first | (go_simp; done) | (go_simp; rfl)) ?_; intro gb106 hg w10 hbox hb; obtain ⟨hb_, hw_⟩ := box_facts (lA HB.out) hg hb; replace HB := Aside0.mk (hb_); have BK106 := Aside0.mk (hbox); have GW106 := Aside0.mk (hw_); have GE106 := Aside0.mk (hw_); clear hb hbox hg hb_ hw_) | ((with_reducible refine gate_dst (N := 3) rfl ?_); refine box_event (by rfl) (N := 3) (by rfl) (cs := #[.int .i64 a1_0, .int .i64 a1_1]) (t := 33) (by first | (go_simp; done) | (go_simp; rfl)) ?_; intro gb107 hg w11 hbox hb; obtain ⟨hb_, hw_⟩ := box_facts (by repeat (first | (with_reducible first | exact HB.out | apply l1 | apply l2 | apply l3 | refine below_set ?_ GE106.out) | exact HB.out)) hg hb; replace HB := Aside0.mk (hb_); have BK107 := Aside0.mk (hbox); have GW107 := Aside0.mk (hw_); have GE107 := Aside0.mk (hw_); have NB106_107 := Aside0.mk ((nL hg BK106.out)); have NB107_106 := Aside0.mk ((nG hg BK106.out)); replace BK106 := Aside0.mk (bB BK106.out hb); clear hb hbox hg hb_ hw_; have hnb12 := NB106_107.out; have hnc12 := NB107_106.out; obtain ⟨hcz13_0, hcz13_1, hfz13_0, hfz13_1⟩ := blk_cells2 BK106.out; obtain ⟨hcz14_0, hcz14_1, hfz14_0, hfz14_1⟩ := blk_cells2 BK107.out))
   replace BK106 := Aside0.mk (blk_drew BK106.out)
   replace BK107 := Aside0.mk (blk_drew BK107.out)
   replace HB := Aside0.mk (below_drew1 HB.out)
   refine start_ (n := 16) (S := fun w' => w'.cell? ⟨gb106, 0, none⟩ = some (.int .i64 a0_0) ∧ w'.cell? ⟨gb106, 1, none⟩ = some (.int .i64 a0_1) ∧ w'.cell? ⟨gb107, 0, none⟩ = some (.int .i64 a1_0) ∧ w'.cell? ⟨gb107, 1, none⟩ = some (.int .i64 a1_1)) (ds := []) #[false, false, false, false, false, false, false, false, false, false, false, false, false, false, false, false] (by kernel_rfl) rfl rfl ⟨(blk_cell BK106.out 0).trans rfl, (blk_cell BK106.out 1).trans rfl, (blk_cell BK107.out 0).trans rfl, (blk_cell BK107.out 1).trans rfl⟩ (fun hHeld => ?_); refine with_tabW ratio_Cmp.tab5 ratio_Cmp.bits5 (fun HT_ HW_ => ?_)
   generalize w11.drew = w15 at BK106 BK107 HB hHeld ⊢
   refine sched [(0, some 16), (3, some 19), (7, some 23), (10, some 26), (1, some 17), (4, some 20), (5, some 21), (8, some 24), (11, some 27), (12, some 28)] ?_
   iterate 10 first
    |(refine pureS (v := ?_) (a' := ?_) rfl rfl (any_of HT_.out (by kernel_rfl)) (fun _ _ _ h => h) (Or.inl ⟨by rfl, ?_⟩) ?_ ?_
      rotate_left
      ·intro w'
       go_simp
       with_reducible rfl
      rotate_left
      ·simp only [Act.put, List.setIfInBounds_toArray, List.set_cons_zero, List.set_cons_succ, i64_w, i32_w]
       rfl)
    |(refine takeS (v := ?_) (a' := ?_) rfl rfl (take_ofW HT_.out HW_.out (by kernel_rfl)) (fun _ _ _ h => h) (Or.inl ⟨by rfl, ?_⟩) hHeld ?_ ?_
      rotate_left
      ·rintro w' ⟨s0, s1, s2, s3⟩
       go_simp
       with_reducible rfl
      rotate_left
      ·simp only [Act.put, List.setIfInBounds_toArray, List.set_cons_zero, List.set_cons_succ, i64_w, i32_w]
       rfl)
   refine unsched ?_
   refine one_ (i := 2) (N := some 18) #[true, true, true, true, true, true, false, true, true, false, true, true, true, false, false, false] rfl rfl (one_of HT_.out (by kernel_rfl)) (by decide) (fun K hK => ?_)
   refine goes_ Try.func44 (by kernel_rfl) rfl #[.int .i64 a0_0] (by rfl) rfl rfl (by (try simp only [List.map_toArray, List.map_cons, List.map_nil]); first | done | rfl | (simp only [List.length_drop, List.length_take]; rfl)) ?_
   with_reducible refine (ratio_size.calls a0_0 t108 _ A5.out).mono ?_
   rintro e w' ⟨rfl, ⟨nd, rfl⟩⟩
   refine ⟨_, rfl, ?_⟩
   refine hK.out _ _ ⟨(blk_cell BK106.out 0).trans rfl, (blk_cell BK106.out 1).trans rfl, (blk_cell BK107.out 0).trans rfl, (blk_cell BK107.out 1).trans rfl⟩ (fun hHeld => ?_)
   clear hK K
   refine norm_ (a' := ?_) ?_ ?_
   rotate_left
   ·show Act.put _ (some 18) _ = _
    simp only [Act.put, List.setIfInBounds_toArray, List.set_cons_zero, List.set_cons_succ, i64_w, i32_w]
    rfl
   refine one_ (i := 6) (N := some 22) #[true, true, true, true, true, true, true, true, true, false, true, true, true, false, false, false] rfl rfl (one_of HT_.out (by kernel_rfl)) (by decide) (fun K hK => ?_)
   refine goes_ Try.func43 (by kernel_rfl) rfl #[.int .u64 t108, .int .u64 (IntKind.u64.wrap (a1_1))] (by rfl) rfl rfl (by (try simp only [List.map_toArray, List.map_cons, List.map_nil]); first | done | rfl | (simp only [List.length_drop, List.length_take]; rfl)) ?_
   with_reducible refine (ratio_mul.calls t108 (IntKind.u64.wrap (a1_1)) t109 t110 _ A6.out).mono ?_
   rintro e w16 ⟨rfl, hb⟩
   refine ⟨_, rfl, ?_⟩
   replace BK106 := Aside0.mk (bB BK106.out hb)
   replace BK107 := Aside0.mk (bB BK107.out hb)
   replace HB := Aside0.mk (below_step (by repeat (first | (with_reducible first | exact HB.out | apply l1 | apply l2 | apply l3 | refine below_set ?_ GE106.out | refine below_set ?_ GE107.out) | exact HB.out)) hb)
   (try clear hb)
   (try clear hb2)
   (try clear hk)
   (try clear hi)
   refine hK.out _ _ ⟨(blk_cell BK106.out 0).trans rfl, (blk_cell BK106.out 1).trans rfl, (blk_cell BK107.out 0).trans rfl, (blk_cell BK107.out 1).trans rfl⟩ (fun hHeld => ?_)
   clear hK K
   refine norm_ (a' := ?_) ?_ ?_
   rotate_left
   ·show Act.put _ (some 22) _ = _
    simp only [Act.put, List.setIfInBounds_toArray, List.set_cons_zero, List.set_cons_succ, i64_w, i32_w]
    rfl
   refine one_ (i := 9) (N := some 25) #[true, true, true, true, true, true, true, true, true, true, true, true, true, false, false, false] rfl rfl (one_of HT_.out (by kernel_rfl)) (by decide) (fun K hK => ?_)
   refine goes_ Try.func44 (by kernel_rfl) rfl #[.int .i64 a1_0] (by rfl) rfl rfl (by (try simp only [List.map_toArray, List.map_cons, List.map_nil]); first | done | rfl | (simp only [List.length_drop, List.length_take]; rfl)) ?_
   with_reducible refine (ratio_size.calls a1_0 t111 _ A7.out).mono ?_
   rintro e w' ⟨rfl, ⟨nd, rfl⟩⟩
   refine ⟨_, rfl, ?_⟩
   refine hK.out _ _ ⟨(blk_cell BK106.out 0).trans rfl, (blk_cell BK106.out 1).trans rfl, (blk_cell BK107.out 0).trans rfl, (blk_cell BK107.out 1).trans rfl⟩ (fun hHeld => ?_)
   clear hK K
   refine norm_ (a' := ?_) ?_ ?_
   rotate_left
   ·show Act.put _ (some 25) _ = _
    simp only [Act.put, List.setIfInBounds_toArray, List.set_cons_zero, List.set_cons_succ, i64_w, i32_w]
    rfl
   refine one_ (i := 13) (N := some 29) #[true, true, true, true, true, true, true, true, true, true, true, true, true, true, false, false] rfl rfl (one_of HT_.out (by kernel_rfl)) (by decide) (fun K hK => ?_)
   refine goes_ Try.func43 (by kernel_rfl) rfl #[.int .u64 t111, .int .u64 (IntKind.u64.wrap (a0_1))] (by rfl) rfl rfl (by (try simp only [List.map_toArray, List.map_cons, List.map_nil]); first | done | rfl | (simp only [List.length_drop, List.length_take]; rfl)) ?_
   with_reducible refine (ratio_mul.calls t111 (IntKind.u64.wrap (a0_1)) t112 t113 _ A8.out).mono ?_
   rintro e w17 ⟨rfl, hb⟩
   refine ⟨_, rfl, ?_⟩
   replace BK106 := Aside0.mk (bB BK106.out hb)
   replace BK107 := Aside0.mk (bB BK107.out hb)
   replace HB := Aside0.mk (below_step (by repeat (first | (with_reducible first | exact HB.out | apply l1 | apply l2 | apply l3 | refine below_set ?_ GE106.out | refine below_set ?_ GE107.out) | exact HB.out)) hb)
   (try clear hb)
   (try clear hb2)
   (try clear hk)
   (try clear hi)
   refine hK.out _ _ ⟨(blk_cell BK106.out 0).trans rfl, (blk_cell BK106.out 1).trans rfl, (blk_cell BK107.out 0).trans rfl, (blk_cell BK107.out 1).trans rfl⟩ (fun hHeld => ?_)
   clear hK K
   refine norm_ (a' := ?_) ?_ ?_
   rotate_left
   ·show Act.put _ (some 29) _ = _
    simp only [Act.put, List.setIfInBounds_toArray, List.set_cons_zero, List.set_cons_succ, i64_w, i32_w]
    rfl
   refine one_ (i := 14) (N := some 30) #[true, true, true, true, true, true, true, true, true, true, true, true, true, true, true, false] rfl rfl (one_of HT_.out (by kernel_rfl)) (by decide) (fun K hK => ?_)
   refine goes_ Try.func45 (by kernel_rfl) rfl #[.agg #[.int .u64 t109, .int .u64 t110], .agg #[.int .u64 t112, .int .u64 t113]] (by rfl) rfl rfl (by (try simp only [List.map_toArray, List.map_cons, List.map_nil]); first | done | rfl | (simp only [List.length_drop, List.length_take]; rfl)) ?_
   with_reducible refine (ratio_wide_cmp.calls t109 t110 t112 t113 t114 _ A9.out).mono ?_
   rintro e w18 ⟨rfl, hb⟩
   refine ⟨_, rfl, ?_⟩
   replace BK106 := Aside0.mk (bB BK106.out hb)
   replace BK107 := Aside0.mk (bB BK107.out hb)
   replace HB := Aside0.mk (below_step (by repeat (first | (with_reducible first | exact HB.out | apply l1 | apply l2 | apply l3 | refine below_set ?_ GE106.out | refine below_set ?_ GE107.out) | exact HB.out)) hb)
   (try clear hb)
   (try clear hb2)
   (try clear hk)
   (try clear hi)
   refine hK.out _ _ ⟨(blk_cell BK106.out 0).trans rfl, (blk_cell BK106.out 1).trans rfl, (blk_cell BK107.out 0).trans rfl, (blk_cell BK107.out 1).trans rfl⟩ (fun hHeld => ?_)
   clear hK K
   refine norm_ (a' := ?_) ?_ ?_
   rotate_left
   ·show Act.put _ (some 30) _ = _
    simp only [Act.put, List.setIfInBounds_toArray, List.set_cons_zero, List.set_cons_succ, i64_w, i32_w]
    rfl
   refine pure_ (i := 15) (N := some 5) (v := ?_) (a' := ?_) #[true, true, true, true, true, true, true, true, true, true, true, true, true, true, true, true] rfl rfl (any_of HT_.out (by kernel_rfl)) (fun _ _ _ h => h) (Or.inl ⟨by rfl, ?_⟩) ?_ ?_
   rotate_left
   ·intro w'
    go_simp
    with_reducible rfl
   rotate_left
   ·simp only [Act.put, List.setIfInBounds_toArray, List.set_cons_zero, List.set_cons_succ, i64_w, i32_w]
    rfl
   refine done_ (done_of HT_.out (by kernel_rfl)) ?_
   obtain ⟨hcz19_0, hcz19_1, hfz19_0, hfz19_1⟩ := blk_cells2 BK106.out
   try go_wp2
   go_ret
   exact ⟨by first | rfl | (simp [errW_none, errW_some] <;> rfl) | (simp [*, errW_none, errW_some] <;> rfl), by repeat (first | (with_reducible first | exact HB.out | apply l1 | apply l2 | apply l3 | refine below_set ?_ GE106.out | refine below_set ?_ GE107.out) | exact HB.out)⟩
  ·rw [if_neg c4] at H
   have c4b0 : decide (a1_0 < 0) = false := decide_eq_false c4
   clear c4
   obtain rfl := Option.some.inj H
   go_enter Try.func29, Try.ntmps29
   go_wp2_with (first | ((with_reducible refine gate_dst (N := 2) rfl ?_); refine box_event (by rfl) (N := 2) (by rfl) (cs := #[.int .i64 a0_0, .int .i64 a0_1]) (t := 33) (by first | (go_simp; done) | (go_simp; rfl)) ?_; intro gb106 hg w20 hbox hb; obtain ⟨hb_, hw_⟩ := box_facts (lA HB.out) hg hb; replace HB := Aside0.mk (hb_); have BK106 := Aside0.mk (hbox); have GW106 := Aside0.mk (hw_); have GE106 := Aside0.mk (hw_); clear hb hbox hg hb_ hw_) | ((with_reducible refine gate_dst (N := 3) rfl ?_); refine box_event (by rfl) (N := 3) (by rfl) (cs := #[.int .i64 a1_0, .int .i64 a1_1]) (t := 33) (by first | (go_simp; done) | (go_simp; rfl)) ?_; intro gb107 hg w21 hbox hb; obtain ⟨hb_, hw_⟩ := box_facts (by repeat (first | (with_reducible first | exact HB.out | apply l1 | apply l2 | apply l3 | refine below_set ?_ GE106.out) | exact HB.out)) hg hb; replace HB := Aside0.mk (hb_); have BK107 := Aside0.mk (hbox); have GW107 := Aside0.mk (hw_); have GE107 := Aside0.mk (hw_); have NB106_107 := Aside0.mk ((nL hg BK106.out)); have NB107_106 := Aside0.mk ((nG hg BK106.out)); replace BK106 := Aside0.mk (bB BK106.out hb); clear hb hbox hg hb_ hw_; have hnb22 := NB106_107.out; have hnc22 := NB107_106.out; obtain ⟨hcz23_0, hcz23_1, hfz23_0, hfz23_1⟩ := blk_cells2 BK106.out; obtain ⟨hcz24_0, hcz24_1, hfz24_0, hfz24_1⟩ := blk_cells2 BK107.out))
   go_ret
   exact ⟨by first | rfl | (simp [errW_none, errW_some] <;> rfl) | (simp [*, errW_none, errW_some] <;> rfl), by repeat (first | (with_reducible first | exact HB.out | apply l1 | apply l2 | apply l3 | refine below_set ?_ GE106.out | refine below_set ?_ GE107.out) | exact HB.out)⟩
 ·rw [if_neg c3] at H
  have c3b0 : decide (a0_0 < 0) = false := decide_eq_false c3
  clear c3
  by_cases c25 : a1_0 < 0
  ·rw [if_pos c25] at H
   have c25b0 : decide (a1_0 < 0) = true := decide_eq_true c25
   clear c25
   obtain rfl := Option.some.inj H
   go_enter Try.func29, Try.ntmps29
   go_wp2_with (first | ((with_reducible refine gate_dst (N := 2) rfl ?_); refine box_event (by rfl) (N := 2) (by rfl) (cs := #[.int .i64 a0_0, .int .i64 a0_1]) (t := 33) (by first | (go_simp; done) | (go_simp; rfl)) ?_; intro gb106 hg w26 hbox hb; obtain ⟨hb_, hw_⟩ := box_facts (lA HB.out) hg hb; replace HB := Aside0.mk (hb_); have BK106 := Aside0.mk (hbox); have GW106 := Aside0.mk (hw_); have GE106 := Aside0.mk (hw_); clear hb hbox hg hb_ hw_) | ((with_reducible refine gate_dst (N := 3) rfl ?_); refine box_event (by rfl) (N := 3) (by rfl) (cs := #[.int .i64 a1_0, .int .i64 a1_1]) (t := 33) (by first | (go_simp; done) | (go_simp; rfl)) ?_; intro gb107 hg w27 hbox hb; obtain ⟨hb_, hw_⟩ := box_facts (by repeat (first | (with_reducible first | exact HB.out | apply l1 | apply l2 | apply l3 | refine below_set ?_ GE106.out) | exact HB.out)) hg hb; replace HB := Aside0.mk (hb_); have BK107 := Aside0.mk (hbox); have GW107 := Aside0.mk (hw_); have GE107 := Aside0.mk (hw_); have NB106_107 := Aside0.mk ((nL hg BK106.out)); have NB107_106 := Aside0.mk ((nG hg BK106.out)); replace BK106 := Aside0.mk (bB BK106.out hb); clear hb hbox hg hb_ hw_; have hnb28 := NB106_107.out; have hnc28 := NB107_106.out; obtain ⟨hcz29_0, hcz29_1, hfz29_0, hfz29_1⟩ := blk_cells2 BK106.out; obtain ⟨hcz30_0, hcz30_1, hfz30_0, hfz30_1⟩ := blk_cells2 BK107.out))
   go_ret
   exact ⟨by first | rfl | (simp [errW_none, errW_some] <;> rfl) | (simp [*, errW_none, errW_some] <;> rfl), by repeat (first | (with_reducible first | exact HB.out | apply l1 | apply l2 | apply l3 | refine below_set ?_ GE106.out | refine below_set ?_ GE107.out) | exact HB.out)⟩
  ·rw [if_neg c25] at H
   have c25b0 : decide (a1_0 < 0) = false := decide_eq_false c25
   clear c25
   replace H := Option.bind_eq_some_iff.mp H
   obtain ⟨t115, A310, H⟩ := H
   (try dsimp only at H)
   have A31 := Aside0.mk A310
   clear A310
   replace H := Option.bind_eq_some_iff.mp H
   obtain ⟨⟨t116, t117⟩, A320, H⟩ := H
   (try dsimp only at H)
   have A32 := Aside0.mk A320
   clear A320
   replace H := Option.bind_eq_some_iff.mp H
   obtain ⟨t118, A330, H⟩ := H
   (try dsimp only at H)
   have A33 := Aside0.mk A330
   clear A330
   replace H := Option.bind_eq_some_iff.mp H
   obtain ⟨⟨t119, t120⟩, A340, H⟩ := H
   (try dsimp only at H)
   have A34 := Aside0.mk A340
   clear A340
   replace H := Option.bind_eq_some_iff.mp H
   obtain ⟨t121, A350, H⟩ := H
   (try dsimp only at H)
   have A35 := Aside0.mk A350
   clear A350
   obtain rfl := Option.some.inj H
   go_enter Try.func29, Try.ntmps29
   try go_wp2_with (first | ((with_reducible refine gate_dst (N := 2) rfl ?_); refine box_event (by rfl) (N := 2) (by rfl) (cs := #[.int .i64 a0_0, .int .i64 a0_1]) (t := 33) (by first | (go_simp; done) | (go_simp; rfl)) ?_; intro gb106 hg w36 hbox hb; obtain ⟨hb_, hw_⟩ := box_facts (lA HB.out) hg hb; replace HB := Aside0.mk (hb_); have BK106 := Aside0.mk (hbox); have GW106 := Aside0.mk (hw_); have GE106 := Aside0.mk (hw_); clear hb hbox hg hb_ hw_) | ((with_reducible refine gate_dst (N := 3) rfl ?_); refine box_event (by rfl) (N := 3) (by rfl) (cs := #[.int .i64 a1_0, .int .i64 a1_1]) (t := 33) (by first | (go_simp; done) | (go_simp; rfl)) ?_; intro gb107 hg w37 hbox hb; obtain ⟨hb_, hw_⟩ := box_facts (by repeat (first | (with_reducible first | exact HB.out | apply l1 | apply l2 | apply l3 | refine below_set ?_ GE106.out) | exact HB.out)) hg hb; replace HB := Aside0.mk (hb_); have BK107 := Aside0.mk (hbox); have GW107 := Aside0.mk (hw_); have GE107 := Aside0.mk (hw_); have NB106_107 := Aside0.mk ((nL hg BK106.out)); have NB107_106 := Aside0.mk ((nG hg BK106.out)); replace BK106 := Aside0.mk (bB BK106.out hb); clear hb hbox hg hb_ hw_; have hnb38 := NB106_107.out; have hnc38 := NB107_106.out; obtain ⟨hcz39_0, hcz39_1, hfz39_0, hfz39_1⟩ := blk_cells2 BK106.out; obtain ⟨hcz40_0, hcz40_1, hfz40_0, hfz40_1⟩ := blk_cells2 BK107.out))
   replace BK106 := Aside0.mk (blk_drew BK106.out)
   replace BK107 := Aside0.mk (blk_drew BK107.out)
   replace HB := Aside0.mk (below_drew1 HB.out)
   refine start_ (n := 16) (S := fun w' => w'.cell? ⟨gb106, 0, none⟩ = some (.int .i64 a0_0) ∧ w'.cell? ⟨gb106, 1, none⟩ = some (.int .i64 a0_1) ∧ w'.cell? ⟨gb107, 0, none⟩ = some (.int .i64 a1_0) ∧ w'.cell? ⟨gb107, 1, none⟩ = some (.int .i64 a1_1)) (ds := []) #[false, false, false, false, false, false, false, false, false, false, false, false, false, false, false, false] (by kernel_rfl) rfl rfl ⟨(blk_cell BK106.out 0).trans rfl, (blk_cell BK106.out 1).trans rfl, (blk_cell BK107.out 0).trans rfl, (blk_cell BK107.out 1).trans rfl⟩ (fun hHeld => ?_); refine with_tabW ratio_Cmp.tab5 ratio_Cmp.bits5 (fun HT_ HW_ => ?_)
   generalize w37.drew = w41 at BK106 BK107 HB hHeld ⊢
   refine sched [(0, some 16), (3, some 19), (7, some 23), (10, some 26), (1, some 17), (4, some 20), (5, some 21), (8, some 24), (11, some 27), (12, some 28)] ?_
   iterate 10 first
    |(refine pureS (v := ?_) (a' := ?_) rfl rfl (any_of HT_.out (by kernel_rfl)) (fun _ _ _ h => h) (Or.inl ⟨by rfl, ?_⟩) ?_ ?_
      rotate_left
      ·intro w'
       go_simp
       with_reducible rfl
      rotate_left
      ·simp only [Act.put, List.setIfInBounds_toArray, List.set_cons_zero, List.set_cons_succ, i64_w, i32_w]
       rfl)
    |(refine takeS (v := ?_) (a' := ?_) rfl rfl (take_ofW HT_.out HW_.out (by kernel_rfl)) (fun _ _ _ h => h) (Or.inl ⟨by rfl, ?_⟩) hHeld ?_ ?_
      rotate_left
      ·rintro w' ⟨s0, s1, s2, s3⟩
       go_simp
       with_reducible rfl
      rotate_left
      ·simp only [Act.put, List.setIfInBounds_toArray, List.set_cons_zero, List.set_cons_succ, i64_w, i32_w]
       rfl)
   refine unsched ?_
   refine one_ (i := 2) (N := some 18) #[true, true, true, true, true, true, false, true, true, false, true, true, true, false, false, false] rfl rfl (one_of HT_.out (by kernel_rfl)) (by decide) (fun K hK => ?_)
   refine goes_ Try.func44 (by kernel_rfl) rfl #[.int .i64 a0_0] (by rfl) rfl rfl (by (try simp only [List.map_toArray, List.map_cons, List.map_nil]); first | done | rfl | (simp only [List.length_drop, List.length_take]; rfl)) ?_
   with_reducible refine (ratio_size.calls a0_0 t115 _ A31.out).mono ?_
   rintro e w' ⟨rfl, ⟨nd, rfl⟩⟩
   refine ⟨_, rfl, ?_⟩
   refine hK.out _ _ ⟨(blk_cell BK106.out 0).trans rfl, (blk_cell BK106.out 1).trans rfl, (blk_cell BK107.out 0).trans rfl, (blk_cell BK107.out 1).trans rfl⟩ (fun hHeld => ?_)
   clear hK K
   refine norm_ (a' := ?_) ?_ ?_
   rotate_left
   ·show Act.put _ (some 18) _ = _
    simp only [Act.put, List.setIfInBounds_toArray, List.set_cons_zero, List.set_cons_succ, i64_w, i32_w]
    rfl
   refine one_ (i := 6) (N := some 22) #[true, true, true, true, true, true, true, true, true, false, true, true, true, false, false, false] rfl rfl (one_of HT_.out (by kernel_rfl)) (by decide) (fun K hK => ?_)
   refine goes_ Try.func43 (by kernel_rfl) rfl #[.int .u64 t115, .int .u64 (IntKind.u64.wrap (a1_1))] (by rfl) rfl rfl (by (try simp only [List.map_toArray, List.map_cons, List.map_nil]); first | done | rfl | (simp only [List.length_drop, List.length_take]; rfl)) ?_
   with_reducible refine (ratio_mul.calls t115 (IntKind.u64.wrap (a1_1)) t116 t117 _ A32.out).mono ?_
   rintro e w42 ⟨rfl, hb⟩
   refine ⟨_, rfl, ?_⟩
   replace BK106 := Aside0.mk (bB BK106.out hb)
   replace BK107 := Aside0.mk (bB BK107.out hb)
   replace HB := Aside0.mk (below_step (by repeat (first | (with_reducible first | exact HB.out | apply l1 | apply l2 | apply l3 | refine below_set ?_ GE106.out | refine below_set ?_ GE107.out) | exact HB.out)) hb)
   (try clear hb)
   (try clear hb2)
   (try clear hk)
   (try clear hi)
   refine hK.out _ _ ⟨(blk_cell BK106.out 0).trans rfl, (blk_cell BK106.out 1).trans rfl, (blk_cell BK107.out 0).trans rfl, (blk_cell BK107.out 1).trans rfl⟩ (fun hHeld => ?_)
   clear hK K
   refine norm_ (a' := ?_) ?_ ?_
   rotate_left
   ·show Act.put _ (some 22) _ = _
    simp only [Act.put, List.setIfInBounds_toArray, List.set_cons_zero, List.set_cons_succ, i64_w, i32_w]
    rfl
   refine one_ (i := 9) (N := some 25) #[true, true, true, true, true, true, true, true, true, true, true, true, true, false, false, false] rfl rfl (one_of HT_.out (by kernel_rfl)) (by decide) (fun K hK => ?_)
   refine goes_ Try.func44 (by kernel_rfl) rfl #[.int .i64 a1_0] (by rfl) rfl rfl (by (try simp only [List.map_toArray, List.map_cons, List.map_nil]); first | done | rfl | (simp only [List.length_drop, List.length_take]; rfl)) ?_
   with_reducible refine (ratio_size.calls a1_0 t118 _ A33.out).mono ?_
   rintro e w' ⟨rfl, ⟨nd, rfl⟩⟩
   refine ⟨_, rfl, ?_⟩
   refine hK.out _ _ ⟨(blk_cell BK106.out 0).trans rfl, (blk_cell BK106.out 1).trans rfl, (blk_cell BK107.out 0).trans rfl, (blk_cell BK107.out 1).trans rfl⟩ (fun hHeld => ?_)
   clear hK K
   refine norm_ (a' := ?_) ?_ ?_
   rotate_left
   ·show Act.put _ (some 25) _ = _
    simp only [Act.put, List.setIfInBounds_toArray, List.set_cons_zero, List.set_cons_succ, i64_w, i32_w]
    rfl
   refine one_ (i := 13) (N := some 29) #[true, true, true, true, true, true, true, true, true, true, true, true, true, true, false, false] rfl rfl (one_of HT_.out (by kernel_rfl)) (by decide) (fun K hK => ?_)
   refine goes_ Try.func43 (by kernel_rfl) rfl #[.int .u64 t118, .int .u64 (IntKind.u64.wrap (a0_1))] (by rfl) rfl rfl (by (try simp only [List.map_toArray, List.map_cons, List.map_nil]); first | done | rfl | (simp only [List.length_drop, List.length_take]; rfl)) ?_
   with_reducible refine (ratio_mul.calls t118 (IntKind.u64.wrap (a0_1)) t119 t120 _ A34.out).mono ?_
   rintro e w43 ⟨rfl, hb⟩
   refine ⟨_, rfl, ?_⟩
   replace BK106 := Aside0.mk (bB BK106.out hb)
   replace BK107 := Aside0.mk (bB BK107.out hb)
   replace HB := Aside0.mk (below_step (by repeat (first | (with_reducible first | exact HB.out | apply l1 | apply l2 | apply l3 | refine below_set ?_ GE106.out | refine below_set ?_ GE107.out) | exact HB.out)) hb)
   (try clear hb)
   (try clear hb2)
   (try clear hk)
   (try clear hi)
   refine hK.out _ _ ⟨(blk_cell BK106.out 0).trans rfl, (blk_cell BK106.out 1).trans rfl, (blk_cell BK107.out 0).trans rfl, (blk_cell BK107.out 1).trans rfl⟩ (fun hHeld => ?_)
   clear hK K
   refine norm_ (a' := ?_) ?_ ?_
   rotate_left
   ·show Act.put _ (some 29) _ = _
    simp only [Act.put, List.setIfInBounds_toArray, List.set_cons_zero, List.set_cons_succ, i64_w, i32_w]
    rfl
   refine one_ (i := 14) (N := some 30) #[true, true, true, true, true, true, true, true, true, true, true, true, true, true, true, false] rfl rfl (one_of HT_.out (by kernel_rfl)) (by decide) (fun K hK => ?_)
   refine goes_ Try.func45 (by kernel_rfl) rfl #[.agg #[.int .u64 t116, .int .u64 t117], .agg #[.int .u64 t119, .int .u64 t120]] (by rfl) rfl rfl (by (try simp only [List.map_toArray, List.map_cons, List.map_nil]); first | done | rfl | (simp only [List.length_drop, List.length_take]; rfl)) ?_
   with_reducible refine (ratio_wide_cmp.calls t116 t117 t119 t120 t121 _ A35.out).mono ?_
   rintro e w44 ⟨rfl, hb⟩
   refine ⟨_, rfl, ?_⟩
   replace BK106 := Aside0.mk (bB BK106.out hb)
   replace BK107 := Aside0.mk (bB BK107.out hb)
   replace HB := Aside0.mk (below_step (by repeat (first | (with_reducible first | exact HB.out | apply l1 | apply l2 | apply l3 | refine below_set ?_ GE106.out | refine below_set ?_ GE107.out) | exact HB.out)) hb)
   (try clear hb)
   (try clear hb2)
   (try clear hk)
   (try clear hi)
   refine hK.out _ _ ⟨(blk_cell BK106.out 0).trans rfl, (blk_cell BK106.out 1).trans rfl, (blk_cell BK107.out 0).trans rfl, (blk_cell BK107.out 1).trans rfl⟩ (fun hHeld => ?_)
   clear hK K
   refine norm_ (a' := ?_) ?_ ?_
   rotate_left
   ·show Act.put _ (some 30) _ = _
    simp only [Act.put, List.setIfInBounds_toArray, List.set_cons_zero, List.set_cons_succ, i64_w, i32_w]
    rfl
   refine pure_ (i := 15) (N := some 5) (v := ?_) (a' := ?_) #[true, true, true, true, true, true, true, true, true, true, true, true, true, true, true, true] rfl rfl (any_of HT_.out (by kernel_rfl)) (fun _ _ _ h => h) (Or.inl ⟨by rfl, ?_⟩) ?_ ?_
   rotate_left
   ·intro w'
    go_simp
    with_reducible rfl
   rotate_left
   ·simp only [Act.put, List.setIfInBounds_toArray, List.set_cons_zero, List.set_cons_succ, i64_w, i32_w]
    rfl
   refine done_ (done_of HT_.out (by kernel_rfl)) ?_
   obtain ⟨hcz45_0, hcz45_1, hfz45_0, hfz45_1⟩ := blk_cells2 BK106.out
   try go_wp2
   go_ret
   exact ⟨by first | rfl | (simp [errW_none, errW_some] <;> rfl) | (simp [*, errW_none, errW_some] <;> rfl), by repeat (first | (with_reducible first | exact HB.out | apply l1 | apply l2 | apply l3 | refine below_set ?_ GE106.out | refine below_set ?_ GE107.out) | exact HB.out)⟩
def cue_Compare.f (a0_0 : Int) (a0_1 : Int) (a0_2 : Int) (a0_3 : Int) (a0_4 : Int) (a0_5 : Int) (a0_6 : ByteArray) (a0_7 : ByteArray) (l0_8 : List (S79)) (a1_0 : Int) (a1_1 : Int) (a1_2 : Int) (a1_3 : Int) (a1_4 : Int) (a1_5 : Int) (a1_6 : ByteArray) (a1_7 : ByteArray) (l1_8 : List (S79)) : Option (Int) := (ratio_Cmp.f a0_0 a0_1 a1_0 a1_1).bind fun t124 => (if t124 = 0 then ((ratio_Cmp.f a0_2 a0_3 a1_2 a1_3).bind fun t125 => (some t125)) else (some t124))
set_option maxHeartbeats 8000000 in
set_option maxRecDepth 100000 in
theorem cue_Compare.callsV (a0_0 : Int) (a0_1 : Int) (a0_2 : Int) (a0_3 : Int) (a0_4 : Int) (a0_5 : Int) (a0_6 : ByteArray) (a0_7 : ByteArray) (A0_8 : Option Addr) (c0_8 : Nat) (n0_8 : Nat) (a1_0 : Int) (a1_1 : Int) (a1_2 : Int) (a1_3 : Int) (a1_4 : Int) (a1_5 : Int) (a1_6 : ByteArray) (a1_7 : ByteArray) (A1_8 : Option Addr) (c1_8 : Nat) (n1_8 : Nat) (r : Int) (w : World) (h : cue_Compare.f a0_0 a0_1 a0_2 a0_3 a0_4 a0_5 a0_6 a0_7 [] a1_0 a1_1 a1_2 a1_3 a1_4 a1_5 a1_6 a1_7 [] = some r) :
  Calls Try.prog 15 #[.agg #[.int .i64 a0_0, .int .i64 a0_1, .int .i64 a0_2, .int .i64 a0_3, .int .i64 a0_4, .int .i64 a0_5, .string a0_6, .string a0_7, .slice A0_8 n0_8 c0_8], .agg #[.int .i64 a1_0, .int .i64 a1_1, .int .i64 a1_2, .int .i64 a1_3, .int .i64 a1_4, .int .i64 a1_5, .string a1_6, .string a1_7, .slice A1_8 n1_8 c1_8]] w fun e w' => e = .returned (.int .i64 r) ∧ Below w.heap.size w w' := by
 have hu38 := Try.underlying38
 have hu33 := Try.underlying33
 have HB := Aside0.mk (Below.refl w.heap.size w)
 have H : ((ratio_Cmp.f a0_0 a0_1 a1_0 a1_1).bind fun t124 => (if t124 = 0 then ((ratio_Cmp.f a0_2 a0_3 a1_2 a1_3).bind fun t125 => (some t125)) else (some t124))) = some r := h
 clear h
 replace H := Option.bind_eq_some_iff.mp H
 obtain ⟨t124, A30, H⟩ := H
 (try dsimp only at H)
 have A3 := Aside0.mk A30
 clear A30
 by_cases c4 : t124 = 0 <;> first
 |(rw [if_pos c4] at H
   have c4b0 : (t124 == 0) = true := beq_iff_eq.mpr c4
   have c4b1 : (t124 != 0) = false := bne_eq_false_iff_eq.mpr c4
   clear c4
   replace H := Option.bind_eq_some_iff.mp H
   obtain ⟨t125, A50, H⟩ := H
   (try dsimp only at H)
   have A5 := Aside0.mk A50
   clear A50
   obtain rfl := Option.some.inj H
   have z17 := trivial)
 |(rw [if_neg c4] at H
   have c4b0 : (t124 == 0) = false := beq_eq_false_iff_ne.mpr c4
   have c4b1 : (t124 != 0) = true := bne_iff_ne.mpr c4
   obtain rfl := Option.some.inj H
   have z18 := trivial)
 all_goals
  go_enter Try.func15, Try.ntmps15
  go_wp2_with (first | ((with_reducible refine gate_dst (N := 2) rfl ?_); refine box_event (by rfl) (N := 2) (by rfl) (cs := #[.int .i64 a0_0, .int .i64 a0_1, .int .i64 a0_2, .int .i64 a0_3, .int .i64 a0_4, .int .i64 a0_5, .string a0_6, .string a0_7, .slice A0_8 n0_8 c0_8]) (t := 38) (by first | (go_simp; done) | (go_simp; rfl)) ?_; intro gb122 hg w6 hbox hb; obtain ⟨hb_, hw_⟩ := box_facts (lA HB.out) hg hb; replace HB := Aside0.mk (hb_); have BK122 := Aside0.mk (hbox); have GW122 := Aside0.mk (hw_); have GE122 := Aside0.mk (hw_); clear hb hbox hg hb_ hw_) | ((with_reducible refine gate_dst (N := 3) rfl ?_); refine box_event (by rfl) (N := 3) (by rfl) (cs := #[.int .i64 a1_0, .int .i64 a1_1, .int .i64 a1_2, .int .i64 a1_3, .int .i64 a1_4, .int .i64 a1_5, .string a1_6, .string a1_7, .slice A1_8 n1_8 c1_8]) (t := 38) (by first | (go_simp; done) | (go_simp; rfl)) ?_; intro gb123 hg w7 hbox hb; obtain ⟨hb_, hw_⟩ := box_facts (by repeat (first | (with_reducible first | exact HB.out | apply l1 | apply l2 | apply l3 | refine below_set ?_ GE122.out) | exact HB.out)) hg hb; replace HB := Aside0.mk (hb_); have BK123 := Aside0.mk (hbox); have GW123 := Aside0.mk (hw_); have GE123 := Aside0.mk (hw_); have NB122_123 := Aside0.mk ((nL hg BK122.out)); have NB123_122 := Aside0.mk ((nG hg BK122.out)); replace BK122 := Aside0.mk (bB BK122.out hb); clear hb hbox hg hb_ hw_; have hnb8 := NB122_123.out; have hnc8 := NB123_122.out; obtain ⟨hcz9_0, hcz9_1, hcz9_2, hcz9_3, hcz9_4, hcz9_5, hcz9_6, hcz9_7, hcz9_8, hfz9_0, hfz9_1, hfz9_2, hfz9_3, hfz9_4, hfz9_5, hfz9_6, hfz9_7, hfz9_8⟩ := blk_cells9 BK122.out; obtain ⟨hcz10_0, hcz10_1, hcz10_2, hcz10_3, hcz10_4, hcz10_5, hcz10_6, hcz10_7, hcz10_8, hfz10_0, hfz10_1, hfz10_2, hfz10_3, hfz10_4, hfz10_5, hfz10_6, hfz10_7, hfz10_8⟩ := blk_cells9 BK123.out) | ((revert z18; intro z18); ((with_reducible refine gate_callee (f := 29) rfl ?_); refine goesL_ (some 10) rfl rfl Try.func29 (by kernel_rfl) rfl #[.agg #[.int .i64 a0_0, .int .i64 a0_1], .agg #[.int .i64 a1_0, .int .i64 a1_1]] rfl (by (try simp only [List.map_toArray, List.map_cons, List.map_nil]); first | done | rfl | (simp only [List.length_drop, List.length_take]; rfl)) ?_; (with_reducible refine (ratio_Cmp.calls a0_0 a0_1 a1_0 a1_1 t124 _ A3.out).mono ?_); rintro e w20 ⟨rfl, hb⟩; refine ⟨_, rfl, ?_⟩; replace BK122 := Aside0.mk (bB BK122.out hb); replace BK123 := Aside0.mk (bB BK123.out hb); replace HB := Aside0.mk (below_step (by repeat (first | (with_reducible first | exact HB.out | apply l1 | apply l2 | apply l3 | refine below_set ?_ GE122.out | refine below_set ?_ GE123.out) | exact HB.out)) hb); (try clear hb); (try clear hb2); (try clear hk); (try clear hi))) | ((revert z17; intro z17); ((with_reducible refine gate_callee (f := 29) rfl ?_); refine goesL_ (some 10) rfl rfl Try.func29 (by kernel_rfl) rfl #[.agg #[.int .i64 a0_0, .int .i64 a0_1], .agg #[.int .i64 a1_0, .int .i64 a1_1]] rfl (by (try simp only [List.map_toArray, List.map_cons, List.map_nil]); first | done | rfl | (simp only [List.length_drop, List.length_take]; rfl)) ?_; (with_reducible refine (ratio_Cmp.calls a0_0 a0_1 a1_0 a1_1 t124 _ A3.out).mono ?_); rintro e w11 ⟨rfl, hb⟩; refine ⟨_, rfl, ?_⟩; replace BK122 := Aside0.mk (bB BK122.out hb); replace BK123 := Aside0.mk (bB BK123.out hb); replace HB := Aside0.mk (below_step (by repeat (first | (with_reducible first | exact HB.out | apply l1 | apply l2 | apply l3 | refine below_set ?_ GE122.out | refine below_set ?_ GE123.out) | exact HB.out)) hb); (try clear hb); (try clear hb2); (try clear hk); (try clear hi); obtain ⟨hcz12_0, hcz12_1, hcz12_2, hcz12_3, hcz12_4, hcz12_5, hcz12_6, hcz12_7, hcz12_8, hfz12_0, hfz12_1, hfz12_2, hfz12_3, hfz12_4, hfz12_5, hfz12_6, hfz12_7, hfz12_8⟩ := blk_cells9 BK122.out; obtain ⟨hcz13_0, hcz13_1, hcz13_2, hcz13_3, hcz13_4, hcz13_5, hcz13_6, hcz13_7, hcz13_8, hfz13_0, hfz13_1, hfz13_2, hfz13_3, hfz13_4, hfz13_5, hfz13_6, hfz13_7, hfz13_8⟩ := blk_cells9 BK123.out)) | ((revert z17; intro z17); ((with_reducible refine gate_callee (f := 29) rfl ?_); refine goesL_ (some 18) rfl rfl Try.func29 (by kernel_rfl) rfl #[.agg #[.int .i64 a0_2, .int .i64 a0_3], .agg #[.int .i64 a1_2, .int .i64 a1_3]] rfl (by (try simp only [List.map_toArray, List.map_cons, List.map_nil]); first | done | rfl | (simp only [List.length_drop, List.length_take]; rfl)) ?_; (with_reducible refine (ratio_Cmp.calls a0_2 a0_3 a1_2 a1_3 t125 _ A5.out).mono ?_); rintro e w14 ⟨rfl, hb⟩; refine ⟨_, rfl, ?_⟩; replace BK122 := Aside0.mk (bB BK122.out hb); replace BK123 := Aside0.mk (bB BK123.out hb); replace HB := Aside0.mk (below_step (by repeat (first | (with_reducible first | exact HB.out | apply l1 | apply l2 | apply l3 | refine below_set ?_ GE122.out | refine below_set ?_ GE123.out) | exact HB.out)) hb); (try clear hb); (try clear hb2); (try clear hk); (try clear hi))))
  go_ret
  exact ⟨by first | rfl | (simp [errW_none, errW_some] <;> rfl) | (simp [*, errW_none, errW_some] <;> rfl), by repeat (first | (with_reducible first | exact HB.out | apply l1 | apply l2 | apply l3 | refine below_set ?_ GE122.out | refine below_set ?_ GE123.out) | exact HB.out)⟩
theorem sub64_run (x y b : Nat) (hb : b ≤ 1) (w : World) :
  (callFunc 82 #[.int .u64 x, .int .u64 y, .int .u64 b]).run Try.prog w =
   .ok (.value (.tuple #[.int .u64 (((x + 18446744073709551616 - y - b) % 18446744073709551616 : Nat) : Int), .int .u64 ((if x < y + b then 1 else 0 : Nat) : Int)])) w := by
 rw [run_callFunc_extern Try.func82 (by kernel_rfl) (by kernel_rfl) (by kernel_rfl) (e := sub64Entry) (by kernel_rfl), run_sub64 x y b hb]
 rfl
def M64 : Int := 18446744073709551616
end Go.Proofs.Ytlbicmdfdpcdiaa.PDa
-- Printed by a program of this session's; Lean checks it.
namespace Go.Proofs.Ytlbicmdfdpcdiaa.PDa
open Go.RowKit Go.Proofs.YtlbicmdfdpcdiaaW.PrintWords Go.Proofs.YtlbicmdfdpcdiaaW.PrintLast Go.Proofs.YtlbicmdfdpcdiaaW.PrintMore
attribute [local go_sem] max2_int min2_int max_two min_two max_three min_three max_four min_four
set_option linter.unusedVariables false
set_option linter.unusedSimpArgs false
end Go.Proofs.Ytlbicmdfdpcdiaa.PDa
-- Printed by a program of this session's; Lean checks it.
namespace Go.Proofs.Ytlbicmdfdpcdiaa.PDa
open Go.RowKit Go.Proofs.YtlbicmdfdpcdiaaW.PrintWords Go.Proofs.YtlbicmdfdpcdiaaW.PrintLast Go.Proofs.YtlbicmdfdpcdiaaW.PrintMore
attribute [local go_sem] max2_int min2_int max_two min_two max_three min_three max_four min_four
set_option linter.unusedVariables false
set_option linter.unusedSimpArgs false
attribute [local go_sem high] eqA88
end Go.Proofs.Ytlbicmdfdpcdiaa.PDa
-- Printed by a program of this session's; Lean checks it.
namespace Go.Proofs.Ytlbicmdfdpcdiaa.PDa
open Go.RowKit Go.Proofs.YtlbicmdfdpcdiaaW.PrintWords Go.Proofs.YtlbicmdfdpcdiaaW.PrintLast Go.Proofs.YtlbicmdfdpcdiaaW.PrintMore
attribute [local go_sem] max2_int min2_int max_two min_two max_three min_three max_four min_four
set_option linter.unusedVariables false
set_option linter.unusedSimpArgs false
end Go.Proofs.Ytlbicmdfdpcdiaa.PDa
-- Printed by a program of this session's; Lean checks it.
namespace Go.Proofs.Ytlbicmdfdpcdiaa.PDa
open Go.RowKit Go.Proofs.YtlbicmdfdpcdiaaW.PrintWords Go.Proofs.YtlbicmdfdpcdiaaW.PrintLast Go.Proofs.YtlbicmdfdpcdiaaW.PrintMore
attribute [local go_sem] max2_int min2_int max_two min_two max_three min_three max_four min_four
set_option linter.unusedVariables false
set_option linter.unusedSimpArgs false
attribute [local go_sem high] eqA33
def utf8_RuneLen.j0 : Nat → Int → Bool → Option (Int)
 | 0, _, _ => none
 | k + 1, x0, x12 => if x12 = true then (some (-1)) else (if x0 ≤ 65535 then (some 3) else (if x0 ≤ 1114111 then (some 4) else (some (-1))))
def utf8_RuneLen.f (k : Nat) (a0 : Int) : Option (Int) := if a0 < 0 then (some (-1)) else (if a0 ≤ 127 then (some 1) else (if a0 ≤ 2047 then (some 2) else (if 55296 ≤ a0 then (utf8_RuneLen.j0 k a0 (decide (a0 ≤ 57343))) else (utf8_RuneLen.j0 k a0 false))))
set_option maxHeartbeats 8000000 in
set_option maxRecDepth 100000 in
theorem utf8_RuneLen.calls (k : Nat) (a0 : Int) (r : Int) (w : World) (h : utf8_RuneLen.f k a0 = some r) :
  Calls Try.prog 69 #[.int .i32 a0] w fun e w' => e = .returned (.int .i64 r) ∧ Drawn0 w w' := by
 have H : (if a0 < 0 then (some (-1)) else (if a0 ≤ 127 then (some 1) else (if a0 ≤ 2047 then (some 2) else (if 55296 ≤ a0 then (utf8_RuneLen.j0 k a0 (decide (a0 ≤ 57343))) else (utf8_RuneLen.j0 k a0 false))))) = some r := h
 clear h
 by_cases c2 : a0 < 0
 ·rw [if_pos c2] at H
  have c2b0 : decide (a0 < 0) = true := decide_eq_true c2
  clear c2
  obtain rfl := Option.some.inj H
  go_enter Try.func69, Try.ntmps69
  go_wp2
  go_ret
  exact ⟨by first | rfl | (simp; done) | (simp [*]; done), by repeat (first | exact Drawn0.refl _ | apply Drawn0.step)⟩
 ·rw [if_neg c2] at H
  have c2b0 : decide (a0 < 0) = false := decide_eq_false c2
  clear c2
  by_cases c3 : a0 ≤ 127
  ·rw [if_pos c3] at H
   have c3b0 : decide (a0 ≤ 127) = true := decide_eq_true c3
   clear c3
   obtain rfl := Option.some.inj H
   go_enter Try.func69, Try.ntmps69
   go_wp2
   go_ret
   exact ⟨by first | rfl | (simp; done) | (simp [*]; done), by repeat (first | exact Drawn0.refl _ | apply Drawn0.step)⟩
  ·rw [if_neg c3] at H
   have c3b0 : decide (a0 ≤ 127) = false := decide_eq_false c3
   clear c3
   by_cases c4 : a0 ≤ 2047
   ·rw [if_pos c4] at H
    have c4b0 : decide (a0 ≤ 2047) = true := decide_eq_true c4
    clear c4
    obtain rfl := Option.some.inj H
    go_enter Try.func69, Try.ntmps69
    go_wp2
    go_ret
    exact ⟨by first | rfl | (simp; done) | (simp [*]; done), by repeat (first | exact Drawn0.refl _ | apply Drawn0.step)⟩
   ·rw [if_neg c4] at H
    have c4b0 : decide (a0 ≤ 2047) = false := decide_eq_false c4
    clear c4
    have HC5 := Aside0.mk H
    clear H
    go_enter Try.func69, Try.ntmps69
    go_upto_region 7 with (fail)
    go_cut [12] (fun v12 wc => ∃ (kq : Nat) (x12_4 : Bool), v12 = .bool x12_4 ∧ Aside0 (utf8_RuneLen.j0 kq a0 x12_4 = some r) ∧ Aside0 (kq ≤ k) ∧ Drawn0 w wc)
    case first =>
     have H := HC5.out
     clear HC5
     by_cases c6 : 55296 ≤ a0
     ·rw [if_pos c6] at H
      have c6b0 : decide (55296 ≤ a0) = true := decide_eq_true c6
      clear c6
      (first | rw [c6b0] | (simp only [i64_w, i32_w]; rw [c6b0]) | skip)
      have H' := Aside0.mk H
      clear H
      go_wp2
      go_meet
      case rel => exact ⟨_, (decide (a0 ≤ 57343)), (by first | rfl | (simp; done) | (simp [*]; done)), H', ⟨by first | omega | exact Nat.le_refl _⟩, by repeat (first | exact Drawn0.refl _ | apply Drawn0.step)⟩
     ·rw [if_neg c6] at H
      have c6b0 : decide (55296 ≤ a0) = false := decide_eq_false c6
      clear c6
      (first | rw [c6b0] | (simp only [i64_w, i32_w]; rw [c6b0]) | skip)
      have H' := Aside0.mk H
      clear H
      go_wp2
      go_meet
      case rel => exact ⟨_, (false), (by first | rfl | (simp; done) | (simp [*]; done)), H', ⟨by first | omega | exact Nat.le_refl _⟩, by repeat (first | exact Drawn0.refl _ | apply Drawn0.step)⟩
    case rest =>
     clear HC5
     try clear c2
     try clear c2b0
     try clear p2
     try clear c3
     try clear c3b0
     try clear c4
     try clear c4b0
     try clear c6
     try clear c6b0
     obtain ⟨kq, x12_4, rfl, HA, HJ4, ⟨mc4, rfl⟩⟩ := hcut
     cases kq with
     | zero => exact absurd HA.out (by simp [utf8_RuneLen.j0])
     | succ kj4 =>
      have H := HA.out
      clear HA
      simp only [utf8_RuneLen.j0] at H
      by_cases c7 : x12_4 = true
      ·subst c7
       have H1 : (some (-1)) = some r := by rw [if_pos rfl] at H; exact H
       clear H
       have H := H1
       clear H1
       obtain rfl := Option.some.inj H
       go_wp2
       go_ret
       exact ⟨by first | rfl | (simp; done) | (simp [*]; done), by repeat (first | exact Drawn0.refl _ | apply Drawn0.step)⟩
      ·replace c7 := Bool.eq_false_iff.mpr c7
       subst c7
       have H1 : (if a0 ≤ 65535 then (some 3) else (if a0 ≤ 1114111 then (some 4) else (some (-1)))) = some r := by rw [if_neg (show ¬ (false = true) by decide)] at H; exact H
       clear H
       have H := H1
       clear H1
       by_cases c8 : a0 ≤ 65535
       ·rw [if_pos c8] at H
        have c8b0 : decide (a0 ≤ 65535) = true := decide_eq_true c8
        clear c8
        obtain rfl := Option.some.inj H
        go_wp2
        go_ret
        exact ⟨by first | rfl | (simp; done) | (simp [*]; done), by repeat (first | exact Drawn0.refl _ | apply Drawn0.step)⟩
       ·rw [if_neg c8] at H
        have c8b0 : decide (a0 ≤ 65535) = false := decide_eq_false c8
        clear c8
        by_cases c9 : a0 ≤ 1114111
        ·rw [if_pos c9] at H
         have c9b0 : decide (a0 ≤ 1114111) = true := decide_eq_true c9
         clear c9
         obtain rfl := Option.some.inj H
         go_wp2
         go_ret
         exact ⟨by first | rfl | (simp; done) | (simp [*]; done), by repeat (first | exact Drawn0.refl _ | apply Drawn0.step)⟩
        ·rw [if_neg c9] at H
         have c9b0 : decide (a0 ≤ 1114111) = false := decide_eq_false c9
         clear c9
         obtain rfl := Option.some.inj H
         go_wp2
         go_ret
         exact ⟨by first | rfl | (simp; done) | (simp [*]; done), by repeat (first | exact Drawn0.refl _ | apply Drawn0.step)⟩
def stringslite_HasPrefix.f (a0 : ByteArray) (a1 : ByteArray) : Option (Bool) := if (a0.size : Int) ≥ (a1.size : Int) then (if 0 ≤ (a1.size : Int) then (if (a1.size : Int) ≤ (a0.size : Int) then (some ((a0.extract 0 ((a1.size : Int) : Int).toNat).toList == a1.toList)) else (none)) else (none)) else (some false)
set_option maxHeartbeats 8000000 in
set_option maxRecDepth 100000 in
theorem stringslite_HasPrefix.calls (a0 : ByteArray) (a1 : ByteArray) (r : Bool) (w : World) (h : stringslite_HasPrefix.f a0 a1 = some r) :
  Calls Try.prog 78 #[.string a0, .string a1] w fun e w' => e = .returned (.bool r) ∧ Drawn0 w w' := by
 have H : (if (a0.size : Int) ≥ (a1.size : Int) then (if 0 ≤ (a1.size : Int) then (if (a1.size : Int) ≤ (a0.size : Int) then (some ((a0.extract 0 ((a1.size : Int) : Int).toNat).toList == a1.toList)) else (none)) else (none)) else (some false)) = some r := h
 clear h
 by_cases c3 : (a0.size : Int) ≥ (a1.size : Int)
 ·rw [if_pos c3] at H
  have c3b0 : decide ((a1.size : Int) ≤ (a0.size : Int)) = true := decide_eq_true c3
  have c3b1 : decide (a1.size ≤ a0.size) = true := decide_eq_true (Int.ofNat_le.mp c3)
  clear c3
  by_cases c4 : 0 ≤ (a1.size : Int)
  ·rw [if_pos c4] at H
   have c4b0 := eq_true c4
   have c4b1 : decide (0 ≤ (a1.size : Int)) = true := decide_eq_true c4
   clear c4
   by_cases c5 : (a1.size : Int) ≤ (a0.size : Int)
   ·rw [if_pos c5] at H
    have c5b0 := eq_true c5
    have c5b1 : decide ((a1.size : Int) ≤ (a0.size : Int)) = true := decide_eq_true c5
    clear c5
    obtain rfl := Option.some.inj H
    go_enter Try.func78, Try.ntmps78
    go_wp2
    go_ret
    exact ⟨by first | rfl | (simp; done) | (simp [*]; done), by repeat (first | exact Drawn0.refl _ | apply Drawn0.step)⟩
   ·rw [if_neg c5] at H
    exact absurd H (by simp)
  ·rw [if_neg c4] at H
   exact absurd H (by simp)
 ·rw [if_neg c3] at H
  have c3b0 : decide ((a1.size : Int) ≤ (a0.size : Int)) = false := decide_eq_false c3
  have c3b1 : decide (a1.size ≤ a0.size) = false := decide_eq_false (fun h => c3 (Int.ofNat_le.mpr h))
  clear c3
  obtain rfl := Option.some.inj H
  go_enter Try.func78, Try.ntmps78
  go_wp2
  go_ret
  exact ⟨by first | rfl | (simp; done) | (simp [*]; done), by repeat (first | exact Drawn0.refl _ | apply Drawn0.step)⟩
def strings_HasPrefix.f (a0 : ByteArray) (a1 : ByteArray) : Option (Bool) := (stringslite_HasPrefix.f a0 a1).bind fun t199 => (some t199)
set_option maxHeartbeats 8000000 in
set_option maxRecDepth 100000 in
theorem strings_HasPrefix.calls (a0 : ByteArray) (a1 : ByteArray) (r : Bool) (w : World) (h : strings_HasPrefix.f a0 a1 = some r) :
  Calls Try.prog 70 #[.string a0, .string a1] w fun e w' => e = .returned (.bool r) ∧ Drawn0 w w' := by
 have H : ((stringslite_HasPrefix.f a0 a1).bind fun t199 => (some t199)) = some r := h
 clear h
 replace H := Option.bind_eq_some_iff.mp H
 obtain ⟨t199, A30, H⟩ := H
 (try dsimp only at H)
 have A3 := Aside0.mk A30
 clear A30
 obtain rfl := Option.some.inj H
 go_enter Try.func70, Try.ntmps70
 go_wp2_with (first | ((with_reducible refine gate_callee (f := 78) rfl ?_); refine goesL_ (some 7) rfl rfl Try.func78 (by kernel_rfl) rfl #[.string a0, .string a1] rfl (by (try simp only [List.map_toArray, List.map_cons, List.map_nil]); first | done | rfl | (simp only [List.length_drop, List.length_take]; rfl)) ?_; (with_reducible refine (stringslite_HasPrefix.calls a0 a1 t199 _ A3.out).mono ?_); rintro e w' ⟨rfl, ⟨nd, rfl⟩⟩; refine ⟨_, rfl, ?_⟩))
 go_ret
 exact ⟨by first | rfl | (simp; done) | (simp [*]; done), by repeat (first | exact Drawn0.refl _ | apply Drawn0.step)⟩
def rlen (r : Int) : Int := if r < 0 then -1 else if r ≤ 127 then 1 else if r ≤ 2047 then 2 else if 55296 ≤ r ∧ r ≤ 57343 then -1 else if r ≤ 65535 then 3 else if r ≤ 1114111 then 4 else -1
theorem rlen_tells (r : Int) : utf8_RuneLen.f 1 r = some (rlen r) := by
 unfold utf8_RuneLen.f rlen
 simp only [utf8_RuneLen.j0]
 by_cases h1 : r < 0
 ·rw [if_pos h1, if_pos h1]
 by_cases h2 : r ≤ 127
 ·rw [if_neg h1, if_neg h1, if_pos h2, if_pos h2]
 by_cases h3 : r ≤ 2047
 ·rw [if_neg h1, if_neg h1, if_neg h2, if_neg h2, if_pos h3, if_pos h3]
 rw [if_neg h1, if_neg h1, if_neg h2, if_neg h2, if_neg h3, if_neg h3]
 by_cases h4 : 55296 ≤ r
 ·by_cases h5 : r ≤ 57343
  ·simp [h4, h5]
  ·simp only [h4, h5, if_true, decide_false, and_false, if_false, Bool.false_eq_true]
   split
   ·rfl
   ·split <;> rfl
 ·simp only [h4, false_and, if_false, Bool.false_eq_true]
  split
  ·rfl
  ·split <;> rfl
def good3 (s : ByteArray) (p : Nat) : Bool := ((strings_HasPrefix.f (s.extract p s.size) ⟨#[239, 191, 189]⟩).getD false)
theorem good3_tells (s : ByteArray) (p : Nat) : strings_HasPrefix.f (s.extract p s.size) ⟨#[239, 191, 189]⟩ = some (good3 s p) := by
 unfold good3
 have : ∃ b, strings_HasPrefix.f (s.extract p s.size) ⟨#[239, 191, 189]⟩ = some b := by
  unfold strings_HasPrefix.f stringslite_HasPrefix.f
  split
  ·exact ⟨_, rfl⟩
  ·exact ⟨_, rfl⟩
 obtain ⟨b, h⟩ := this
 rw [h]; rfl
def sRune (s : ByteArray) (p : Nat) : Int := ((Utf8.decode s p).1 : Int)
def sLen (s : ByteArray) (p : Nat) : Int := if sRune s p = 65533 then (if good3 s p = true then 3 else 1) else rlen (sRune s p)
def sBad (s : ByteArray) (p : Nat) : Bool := decide (sRune s p = 65533) && !good3 s p
def sVal (s : ByteArray) (p : Nat) : Value := .agg #[.int .i64 (p : Int), .int .i64 (sLen s p), .int .i32 (sRune s p), .bool (sBad s p)]
def posns (s : ByteArray) : Nat → Nat → List Nat
 | 0, _ => []
 | f + 1, p => if p < s.size then p :: posns s f (p + (Utf8.decode s p).2) else []
def places (s : ByteArray) : List Nat := posns s s.size 0
theorem posns_end (s : ByteArray) (f p : Nat) (h : ¬ p < s.size) : posns s f p = [] := by cases f <;> simp [posns, h]
theorem grownBy_iterAt (W : World) (k : Nat) (s : ByteArray) (pos : Nat) : W.grownBy (W.iterAt k s pos) (some k) :=
 ⟨rfl, rfl, rfl, by rw [Lib.iterAt_size]; exact Nat.le_refl _, fun i _ hi => Lib.iterAt_other W k i s pos (fun e => hi (by rw [e]))⟩
def SKeeps (Bn : Nat) (W W' : World) : Prop := KeepsWalks W W' ∧ ∀ v, W.cell? ⟨Bn, 0, none⟩ = some v → W'.cell? ⟨Bn, 0, none⟩ = some v
theorem SKeeps.t {Bn : Nat} {A B C : World} (h : SKeeps Bn A B) (k : SKeeps Bn B C) : SKeeps Bn A C := ⟨h.1.trans k.1, fun v hv => k.2 v (h.2 v hv)⟩
theorem SKeeps.b {Bn : Nat} {w : World} (W : World) (l : Nat) (o o' : Obj) (hl : w.heap.size ≤ l) (h : W.heap[l]? = some o) (hc : o.isCells = false) (hw : o.isWalk = false) : SKeeps Bn W (W.putObj l o') :=
 ⟨KeepsWalks.putObj _ h hw, fun v hv => cell_kept hv (grownBy_putObj' W l o') (fun r e => by cases e; exact ⟨o, h, hc⟩)⟩
theorem cell_iterAt {W : World} {k b : Nat} {s : ByteArray} {pos : Nat} {v : Value} (hb : b ≠ k) (h : W.cell? ⟨b, 0, none⟩ = some v) : (W.iterAt k s pos).cell? ⟨b, 0, none⟩ = some v := by
 rw [← h]; simp only [World.cell?, Lib.iterAt_other W k b s pos hb]
set_option maxRecDepth 100000 in
set_option maxHeartbeats 4000000 in
theorem signs1_in (l Bn : Nat) (s : ByteArray) (J Jx : List Nat → World → Prop) (W : World) (hs : s.size < 9223372036854775807) (hBn : Bn < W.heap.size)
  (hJ : AbidesFrom W.heap.size J) (hJx : AbidesFrom W.heap.size Jx)
  (hY : ∀ pre x W1, J pre W1 → x ∈ places s → pre.length < s.size → YieldAt Fence.wide 5 Try.prog l #[sVal s x] W1 fun e W' =>
   (e = .returned (.bool true) ∧ J (pre ++ [x]) W' ∧ SKeeps Bn W1 W') ∨ (e = .returned (.bool false) ∧ Jx (pre ++ [x]) W'))
  (hc : W.cell? ⟨Bn, 0, none⟩ = some (.string s)) (h0 : J [] W) :
  CallsIn Fence.wide 6 Try.prog 68 #[.func (.yield l) #[] #[], .pointer (some ⟨Bn, 0, none⟩)] W fun e W' => (∃ v, e = .returned v) ∧
   ((∃ ys, ys = places s ∧ J ys W') ∨ (∃ pre, pre <+: places s ∧ Jx pre W')) := by
 have hu9 := Try.underlying9
 refine callsIn_of_wp Try.func68 rfl trivial ?_ rfl
 simp only [Try.ntmps68, List.size_toArray, List.length_cons, List.length_nil, Nat.reduceAdd, Nat.reduceSub, Array.replicate_succ, Array.replicate_zero, List.push_toArray, List.append_toArray, List.nil_append, List.cons_append]
 gi_wp2
 gi_loopw [] (fun wr => ∃ (pre : List Nat) (pos b : Nat), J pre wr ∧ Aside0 (wr.heap[W.heap.size]? = some (.stringIter s pos)) ∧ Aside0 (pre ++ posns s b pos = places s) ∧ s.size ≤ pos + b ∧ wr.cell? ⟨Bn, 0, none⟩ = some (.string s) ∧ pre.length ≤ pos) (fun wr => s.size - wr.iterPos W.heap.size)
 case atStart => exact ⟨[], 0, s.size, hJ _ _ _ none h0 (World.grownBy_alloc W _ none) (fun r e => by cases e), ⟨World.iter_heap W s 0⟩, ⟨rfl⟩, by omega, ((Below.refl _ W).alloc (Nat.le_refl _) _).cell (p := ⟨Bn, 0, none⟩) hBn |>.trans hc, Nat.le_refl _⟩
 case round =>
  obtain ⟨pre, pos, b, hJs, hit, hpre, hb, hbx, hpl⟩ := hrel
  by_cases hp : pos < s.size
  ·have hnx : ∀ ty, (Instr.next (.pointer (some ⟨W.heap.size, 0, none⟩)) true ty).run Try.prog wr = _ := fun ty => Lib.run_next_any_at wr W.heap.size s pos ty hit.out hp
   have hwd := Lib.decode_width_pos s pos hp
   have hJ2 : J pre (wr.iterAt W.heap.size s (pos + (Utf8.decode s pos).2)) := hJ _ _ _ (some W.heap.size) hJs (grownBy_iterAt wr W.heap.size s _) (fun r e => by cases e; exact ⟨Nat.le_refl _, _, hit.out, rfl⟩)
   have hbx2 : (wr.iterAt W.heap.size s (pos + (Utf8.decode s pos).2)).cell? ⟨Bn, 0, none⟩ = some (.string s) := cell_iterAt (by omega) hbx
   have hip := Aside0.mk (iterPos_of hit.out)
   have hit2 := Aside0.mk (Lib.iterAt_heap wr W.heap.size s pos (pos + (Utf8.decode s pos).2) hit.out)
   have hnext : Aside0 (∃ b', b = b' + 1 ∧ posns s b pos = pos :: posns s b' (pos + (Utf8.decode s pos).2)) := by
    cases b with
    | zero => omega
    | succ b' => exact ⟨b', rfl, by simp [posns, hp]⟩
   obtain ⟨X, hX⟩ : ∃ X, wr.iterAt W.heap.size s (pos + (Utf8.decode s pos).2) = X := ⟨_, rfl⟩
   rw [hX] at hJ2 hbx2 hit2
   simp only [hX] at hnx
   clear hJs hit hbx hX
   -- what follows a round
   have tail : ∀ W3, J (pre ++ [pos]) W3 → SKeeps Bn X W3 → ∃ pre' pos' b', J pre' W3 ∧ Aside0 (W3.heap[W.heap.size]? = some (.stringIter s pos')) ∧ Aside0 (pre' ++ posns s b' pos' = places s) ∧ s.size ≤ pos' + b' ∧ W3.cell? ⟨Bn, 0, none⟩ = some (.string s) ∧ pre'.length ≤ pos' ∧ s.size - W3.iterPos W.heap.size < s.size - pos := by
    intro W3 h1 h2
    obtain ⟨b', rfl, e⟩ := hnext.out
    have hi := h2.1.same _ _ hit2.out rfl
    refine ⟨pre ++ [pos], pos + (Utf8.decode s pos).2, b', h1, ⟨hi⟩, ⟨?_⟩, by omega, h2.2 _ hbx2, by simp; omega, ?_⟩
    ·rw [← hpre.out, e]; simp
    ·rw [iterPos_of hi]; omega
   have hend : ∀ W3, Jx (pre ++ [pos]) W3 → ∃ pre', pre' <+: places s ∧ Jx pre' W3 := by
    intro W3 h1
    obtain ⟨b', rfl, e⟩ := hnext.out
    exact ⟨pre ++ [pos], ⟨posns s b' (pos + (Utf8.decode s pos).2), by rw [← hpre.out, e]; simp⟩, h1⟩
   have hlen : pre.length < s.size := by omega
   have hmem : pos ∈ places s := by
    obtain ⟨b', rfl, e⟩ := hnext.out
    rw [← hpre.out, e]
    simp
   have hyield : ∀ m v, Aside0 (v = sVal s pos) → YieldAt Fence.wide 5 Try.prog l #[v] (X.drewN m) fun e W' =>
     (e = .returned (.bool true) ∧ J (pre ++ [pos]) W' ∧ SKeeps Bn (X.drewN m) W') ∨ (e = .returned (.bool false) ∧ Jx (pre ++ [pos]) W') := by
    rintro m v ⟨rfl⟩
    exact hY pre pos (X.drewN m) (hJ _ _ _ none hJ2 (grown_of_below (Drawn0.below ⟨⟨m, rfl⟩⟩) none) (fun r e => by cases e)) hmem hlen
   have hkd : ∀ m W3, SKeeps Bn (X.drewN m) W3 → SKeeps Bn X W3 := fun m W3 h => ⟨⟨h.1.size, fun k o hk ho => h.1.same k o hk ho⟩, fun v hv => h.2 v hv⟩
   have T := Aside0.mk tail
   have HE := Aside0.mk hend
   have HY := Aside0.mk hyield
   clear tail hend hyield hJ2 hY hnext hpre
   obtain ⟨r, er⟩ : ∃ r : Nat, (Utf8.decode s pos).1 = r := ⟨_, rfl⟩
   rw [er] at hnx
   have ER := Aside0.mk er
   clear er
   by_cases hr : (r : Int) = 65533
   ·obtain rfl : r = 65533 := by omega
    have hnx := fun ty => (hnx ty).trans (show _ = Result.ok (Value.tuple #[Value.bool true, Value.int IntKind.i64 (pos : Int), Value.int IntKind.i32 65533]) X from rfl)
    have h3 := good3_tells s pos
    cases hg : good3 s pos with
    | true =>
     rw [hg] at h3
     have H3 := Aside0.mk h3
     clear h3
     have hv : Aside0 (.agg #[.int .i64 (pos : Int), .int .i64 3, .int .i32 65533, .bool false] = sVal s pos) := ⟨by
      simp [sVal, sLen, sBad, sRune, ER.out, hg]⟩
     clear hg
     gi_wp2_with (refine ⟨trivial, ?_⟩; gi_at_call 70; refine (callsIn_wide.2 (strings_HasPrefix.calls _ _ _ _ H3.out)).mono ?_; rintro e w' ⟨rfl, ⟨m, rfl⟩⟩; obtain ⟨fn, tmps, assign, body, hy, hR⟩ := HY.out m _ hv)
     gi_wp2
     refine hR.mono ?_
     rintro e W3 (⟨rfl, hJ3, hk3⟩ | ⟨rfl, hJx3⟩)
     ·obtain ⟨pre', pos', b', q1, q2, q3, q4, q5, q6, q7⟩ := T.out W3 hJ3 (hkd _ _ hk3)
      gi_wp2
      go_roundw
      case rel => exact ⟨pre', pos', b', q1, q2, q3, q4, q5, q6⟩
      case measure => rw [hip.out]; exact q7
     ·obtain ⟨pre', q1, q2⟩ := HE.out W3 hJx3
      gi_wp2
      refine bodyPost_ret (results_none rfl _ _ _) rfl ?_
      exact ⟨⟨_, rfl⟩, .inr ⟨pre', q1, q2⟩⟩
    | false =>
     rw [hg] at h3
     have H3 := Aside0.mk h3
     clear h3
     have hv : Aside0 (.agg #[.int .i64 (pos : Int), .int .i64 1, .int .i32 65533, .bool true] = sVal s pos) := ⟨by
      simp [sVal, sLen, sBad, sRune, ER.out, hg]⟩
     clear hg
     gi_wp2_with (refine ⟨trivial, ?_⟩; gi_at_call 70; refine (callsIn_wide.2 (strings_HasPrefix.calls _ _ _ _ H3.out)).mono ?_; rintro e w' ⟨rfl, ⟨m, rfl⟩⟩; obtain ⟨fn, tmps, assign, body, hy, hR⟩ := HY.out m _ hv)
     gi_wp2
     refine hR.mono ?_
     rintro e W3 (⟨rfl, hJ3, hk3⟩ | ⟨rfl, hJx3⟩)
     ·obtain ⟨pre', pos', b', q1, q2, q3, q4, q5, q6, q7⟩ := T.out W3 hJ3 (hkd _ _ hk3)
      gi_wp2
      go_roundw
      case rel => exact ⟨pre', pos', b', q1, q2, q3, q4, q5, q6⟩
      case measure => rw [hip.out]; exact q7
     ·obtain ⟨pre', q1, q2⟩ := HE.out W3 hJx3
      gi_wp2
      refine bodyPost_ret (results_none rfl _ _ _) rfl ?_
      exact ⟨⟨_, rfl⟩, .inr ⟨pre', q1, q2⟩⟩
   ·have e1 : ((r : Int) != 65533) = true := bne_iff_ne.mpr hr
    have e2 : ((r : Int) == 65533) = false := beq_eq_false_iff_ne.mpr hr
    have hv : Aside0 (.agg #[.int .i64 (pos : Int), .int .i64 (rlen (r : Int)), .int .i32 (r : Int), .bool false] = sVal s pos) := ⟨by
     simp [sVal, sLen, sBad, sRune, ER.out, hr]⟩
    gi_wp2_with (refine ⟨trivial, ?_⟩; gi_at_call 69; refine (callsIn_wide.2 (utf8_RuneLen.calls 1 (r : Int) (rlen (r : Int)) _ (rlen_tells _))).mono ?_; rintro e w' ⟨rfl, ⟨m, rfl⟩⟩; obtain ⟨fn, tmps, assign, body, hy, hR⟩ := HY.out m _ hv)
    gi_wp2
    refine hR.mono ?_
    rintro e W3 (⟨rfl, hJ3, hk3⟩ | ⟨rfl, hJx3⟩)
    ·obtain ⟨pre', pos', b', q1, q2, q3, q4, q5, q6, q7⟩ := T.out W3 hJ3 (hkd _ _ hk3)
     gi_wp2
     go_roundw
     case rel => exact ⟨pre', pos', b', q1, q2, q3, q4, q5, q6⟩
     case measure => rw [hip.out]; exact q7
    ·obtain ⟨pre', q1, q2⟩ := HE.out W3 hJx3
     gi_wp2
     refine bodyPost_ret (results_none rfl _ _ _) rfl ?_
     exact ⟨⟨_, rfl⟩, .inr ⟨pre', q1, q2⟩⟩
  ·have hnx : ∀ ty, (Instr.next (.pointer (some ⟨W.heap.size, 0, none⟩)) true ty).run Try.prog wr = _ := fun ty => Lib.run_next_end_at wr W.heap.size s pos ty hit.out hp
   gi_wp2
   go_end0
   exact ⟨⟨_, rfl⟩, .inl ⟨pre, by rw [← hpre.out, posns_end s b pos hp, List.append_nil], hJs⟩⟩
theorem signs_calls (s : ByteArray) (w : World) : Calls Try.prog 57 #[.string s] w fun e w' => e = .returned (.func (.func 68) #[] #[.pointer (some ⟨w.heap.size, 0, none⟩)]) ∧ w' = w.alloc (.cells #[.string s] 9) := by
 have hmf : ∀ (fn : Fn) (first cap : Array Value) (w : World), (Instr.makeFunc fn first cap).run Try.prog w = .ok (.func fn first cap) w := fun _ _ _ _ => rfl
 go_enter Try.func57, Try.ntmps57
 go_wp2
 go_ret
 exact ⟨rfl, rfl⟩
theorem signs_stops (Bn : Nat) (s : ByteArray) (w : World) (hs : s.size < 9223372036854775807) (hBn : Bn < w.heap.size) (hc : w.cell? ⟨Bn, 0, none⟩ = some (.string s)) :
  SeqStopsK Fence.wide 6 Try.prog 68 #[.pointer (some ⟨Bn, 0, none⟩)] (fun p : Nat => #[sVal s p]) (SKeeps Bn) (fun ys => ys = places s) (fun pre => pre <+: places s) s.size w := fun l J Jx W hW hJ hJx hY h0 =>
 signs1_in l Bn s J Jx W hs (Nat.lt_of_lt_of_le hBn hW.size) hJ hJx (fun pre x W1 h _ => hY pre x W1 h) ((hW.cell (p := ⟨Bn, 0, none⟩) hBn).trans hc) h0
theorem blk_own {W W' : World} {row : Option Nat} {b : Nat} {cs : Array Value} {t : TypeId} {fr : Nat × Nat} (h : W.heap[b]? = some (.cells cs t fr)) (hg : W.grownBy W' row) (hr : ∀ r, row = some r → ∃ o : Obj, W.heap[r]? = some o ∧ o.isCells = false) : W'.heap[b]? = some (.cells cs t fr) :=
 (grownBy_keeps_cells hg hr h rfl).trans h
theorem cell_alloc_keeps {W : World} {o : Obj} {a : Addr} {v : Value} (h : W.cell? a = some v) : (W.alloc o).cell? a = some v := ((Below.refl _ W).alloc (Nat.le_refl _) o).cell (World.block_lt_of_cell? W a h) |>.trans h
def cue_named.f (a0 : ByteArray) : Option Int := some (if 64 < a0.size then 25 else if (places a0).any (fun p => decide (sRune a0 p < 32)) then 25 else 0)
attribute [local go_sem] Oper.semAt_some in
set_option maxRecDepth 100000 in
set_option maxHeartbeats 4000000 in
theorem cue_named.calls (a0 : ByteArray) (r : Int) (w : World) (h : cue_named.f a0 = some r) :
  Calls Try.prog 47 #[.string a0] w fun e w' => e = .returned (.int .i64 r) ∧ Below w.heap.size w w' := by
 have h := Option.some.inj h
 by_cases h64 : 64 < a0.size
 ·rw [if_pos h64] at h
  subst h
  have hd : decide ((a0.size : Int) > 64) = true := by simp; omega
  go_enter Try.func47, Try.ntmps47
  go_wp2
  refine bodyPost_ret (v := .int .i64 25) (by simp [results, Try.results47, go_sem]) rfl ⟨rfl, (Below.refl _ _).alloc (Nat.le_refl _) _⟩
 rw [if_neg h64] at h
 have H := Aside0.mk h
 clear h
 refine (callsIn_wide (n := 7)).1 ?_
 refine callsIn_of_wp_marks Try.func47 rfl trivial ?_ rfl
 simp only [Try.ntmps47, List.size_toArray, List.length_cons, List.length_nil, Nat.reduceAdd, Nat.reduceSub, Array.replicate_succ, Array.replicate_zero, List.push_toArray, List.append_toArray, List.nil_append, List.cons_append]
 have hd : ¬ ((a0.size : Int) > 64) := by omega
 gi_wp2_with (refine ⟨trivial, ?_⟩; gi_at_call 57; refine (callsIn_wide.2 (signs_calls _ _)).mono ?_; rintro e w' ⟨rfl, rfl⟩)
 have b0 : ((w.alloc (Obj.cells #[Value.int IntKind.i64 0] 59)).alloc (Obj.cells #[Value.string a0] 9)).heap[w.heap.size]? = some (.cells #[.int .i64 0] 59 (0, 0)) := blk_alloc (blk_new w _) _
 have b1 := blk_new (w.alloc (Obj.cells #[Value.int IntKind.i64 0] 59)) (Obj.cells #[Value.string a0] 9)
 have hB0 : Below w.heap.size w ((w.alloc (Obj.cells #[Value.int IntKind.i64 0] 59)).alloc (Obj.cells #[Value.string a0] 9)) := ((Below.refl _ w).alloc (Nat.le_refl _) _).alloc (by simp) _
 have hsz : ((w.alloc (Obj.cells #[Value.int IntKind.i64 0] 59)).alloc (Obj.cells #[Value.string a0] 9)).heap.size = w.heap.size + 2 := by simp
 rw [World.size_alloc] at b1
 obtain ⟨W0, hW0⟩ : ∃ W0, (w.alloc (Obj.cells #[Value.int IntKind.i64 0] 59)).alloc (Obj.cells #[Value.string a0] 9) = W0 := ⟨_, rfl⟩
 rw [hW0] at b0 b1 hB0 hsz ⊢
 clear hW0
 have HS := Aside0.mk hsz
 clear hsz
 refine wpIn_rangeFunc_ownH rfl (by omega) (gf := 68) (lb := #[.pointer (some ⟨w.heap.size + 1, 0, none⟩)]) rfl trivial (enters_of Try.func68 (by kernel_rfl) rfl)
  (signs_stops (w.heap.size + 1) a0 W0 (by omega) (by have := HS.out; omega) ((blk_cell b1 0).trans rfl)) (fun h k => SKeeps.t h k) (fun W l o o' hl h hc hw => SKeeps.b (w := W0) W l o o' hl h hc hw) (Below.refl _ _) (fun _ => rfl)
  (fun pre W => ((∀ y ∈ pre, ¬ sRune a0 y < 32) ∧ W.heap[w.heap.size]? = some (.cells #[.int .i64 0] 59 (0, 0)) ∧ W.heap[w.heap.size + 1]? = some (.cells #[.string a0] 9 (0, 0))) ∧ Below w.heap.size w W)
  (fun c pre W => (c = .ret ∧ (∃ y ∈ pre, sRune a0 y < 32) ∧ W.heap[w.heap.size]? = some (.cells #[.int .i64 25] 59 (0, 0))) ∧ Below w.heap.size w W)
  (OwnFrom.and (Own.from (fun s A B row hs hg hr => ⟨hs.1, blk_own hs.2.1 hg hr, blk_own hs.2.2 hg hr⟩) _) (ownFrom_below (Nat.le_refl _) (by have := HS.out; omega)))
  (fun c => OwnFrom.and (Own.from (fun s A B row hs hg hr => ⟨hs.1, hs.2.1, blk_own hs.2.2 hg hr⟩) _) (ownFrom_below (Nat.le_refl _) (by have := HS.out; omega)))
  ⟨⟨by simp, b0, b1⟩, hB0⟩
  (fun x a' W => ∃ Bx, w.heap.size + 1 < Bx ∧ W.heap[Bx]? = some (.cells #[.int .i64 (x : Int), .int .i64 (sLen a0 x), .int .i32 (sRune a0 x), .bool (sBad a0 x)] 111 (0, 0)) ∧ a' = { tmps := #[.string a0, undef, .pointer (some ⟨w.heap.size, 0, none⟩), .pointer (some ⟨Bx, 0, none⟩), .string a0, .int .i64 (a0.size : Int), .bool false, .string a0, .func (.func 68) #[] #[.pointer (some ⟨w.heap.size + 1, 0, none⟩)], .agg #[.int .i64 (x : Int), .int .i64 (sLen a0 x), .int .i32 (sRune a0 x), .bool (sBad a0 x)], undef, undef, undef], defers := [] })
  (fun x a' _ X Y row hs hg hr => by obtain ⟨Bx, h1, h2, h3⟩ := hs; exact ⟨Bx, h1, blk_own h2 hg (fun r e => (hr r e).2), h3⟩)
  ?assign ?body ?done ?stop
 case assign =>
  rintro l pre x W K ⟨⟨hp, hb, hb1⟩, hB⟩ hK
  simp only [sVal]
  have hs1 := blk_lt hb1
  have hBs := hB.size
  gi_wp2
  refine hK _ _ ((KeepsOthers.alloc _ _).from _) ⟨(KeepsOthers.alloc _ _).walks, fun v hv => cell_alloc_keeps hv⟩ ⟨⟨hp, blk_alloc hb _, blk_alloc hb1 _⟩, hB.alloc hBs _⟩ ⟨W.heap.size, hs1, blk_new W _, rfl⟩
 case body =>
  rintro l pre x a' W hl ⟨r, hr⟩ ⟨⟨hp, hb, hb1⟩, hB⟩ ⟨Bx, hBx, bX, rfl⟩ hlt
  have c2 : W.cell? ⟨Bx, 2, none⟩ = some (.int .i32 (sRune a0 x)) := (blk_cell bX 2).trans rfl
  by_cases hx : sRune a0 x < 32
  ·have hf := blk_frozen hb 0
   have hc : W.cell? ⟨w.heap.size, 0, none⟩ = some (.int .i64 0) := (blk_cell hb 0).trans rfl
   gi_wp2
   exact ⟨(KeepsOthers.setCell _ _ _).from _, ⟨rfl, ⟨x, List.mem_append.2 (.inr (by simp)), hx⟩, blk_put hb 0 _ rfl⟩, hB.setCell (p := ⟨w.heap.size, 0, none⟩) (Nat.le_refl _) _⟩
  ·gi_wp2
   exact ⟨KeepsFrom.refl _ _, ⟨KeepsWalks.refl _, fun v hv => hv⟩, ⟨fun y hy => (List.mem_append.1 hy).elim (hp y) (fun e => by simp at e; subst e; exact hx), hb, hb1⟩, hB⟩
 case done =>
  rintro D ys W hD rfl ⟨⟨hne, hb, hb1⟩, hB⟩ hK
  have hf := blk_frozen hb 0
  have hc : W.cell? ⟨w.heap.size, 0, none⟩ = some (.int .i64 0) := (blk_cell hb 0).trans rfl
  gi_wp2
  have hK' := (KeepsOthers.setCell W ⟨w.heap.size, 0, none⟩ (.int .i64 0)).same D _ hK rfl
  refine ⟨by simp, .inl ⟨_, _, rfl, run_takeDeferred hK', ?_⟩⟩
  have hb' := blk_own (blk_put hb 0 (.int .i64 0) rfl) (grownBy_putObj' _ D (.deferred none)) (fun r e => by cases e; exact ⟨_, hK', rfl⟩)
  have hc' := (blk_cell hb' 0).trans rfl
  refine ⟨.int .i64 0, by simp [results, Try.results47, go_sem, hc'], ?_, ?_⟩
  ·rw [← H.out, if_neg]
   simp only [List.any_eq_true, decide_eq_true_eq, not_exists, not_and]
   exact fun y hy => Int.not_lt.2 (hne y hy)
  ·exact (hB.setCell (p := ⟨w.heap.size, 0, none⟩) (Nat.le_refl _) _).trans (belowK_b (w := w) (Nat.le_refl _) _ D _ _ (by have := HS.out; omega) hK' rfl rfl)
 case stop =>
  rintro D c pre W hD hpre ⟨⟨rfl, ⟨y, hy, hlt⟩, hb⟩, hB⟩ hK
  gi_wp2
  refine ⟨by simp, .inl ⟨_, _, rfl, run_takeDeferred hK, ?_⟩⟩
  have hb' := blk_own hb (grownBy_putObj' _ D (.deferred none)) (fun r e => by cases e; exact ⟨_, hK, rfl⟩)
  have hc' := (blk_cell hb' 0).trans rfl
  refine ⟨.int .i64 25, by simp [results, Try.results47, go_sem, hc'], ?_, hB.trans (belowK_b (w := w) (Nat.le_refl _) W D _ _ (by have := HS.out; omega) hK rfl rfl)⟩
  rw [← H.out, if_pos]
  simp only [List.any_eq_true, decide_eq_true_eq]
  exact ⟨y, hpre.subset hy, hlt⟩
def utf_Count.f (a0 : ByteArray) : Option Int := if a0.size < 9223372036854775807 then some (Lib.runeCount a0 : Int) else none
set_option maxHeartbeats 4000000 in
set_option maxRecDepth 1000000 in
theorem utf_Count.calls (a0 : ByteArray) (r : Int) (w : World) (h : utf_Count.f a0 = some r) :
  Calls Try.prog 58 #[.string a0] w fun e w' => e = .returned (.int .i64 r) ∧ Below w.heap.size w w' := by
 unfold utf_Count.f at h
 split at h
 case isFalse => exact absurd h (by simp)
 case isTrue hs =>
 obtain rfl := Option.some.inj h
 clear h
 have hu9 := Try.underlying9
 refine Calls.mono (R := fun e w' => e = .returned (.int .i64 (Lib.runeCount a0)) ∧ ∃ pos, w' = w.iter a0 pos) ?_ (by rintro e w' ⟨rfl, pos, rfl⟩; exact ⟨rfl, (Below.refl _ _).alloc (Nat.le_refl _) _⟩)
 go_enter Try.func58, Try.ntmps58
 go_wp2
 go_loopw [3] (fun n w' => ∃ (pos b acc : Nat), w' = w.iter a0 pos ∧ n = .int .i64 acc ∧ acc + Lib.runeCountFrom a0 b pos = Lib.runeCount a0 ∧ a0.size ≤ pos + b ∧ acc ≤ pos) (fun _ w' => a0.size - w'.iterPos w.heap.size)
 case atStart => exact ⟨0, a0.size, 0, rfl, rfl, by simp [Lib.runeCount], by omega, Nat.le_refl _⟩
 case round =>
  obtain ⟨pos, b, acc, rfl, rfl, hc, hb, ha⟩ := hrel
  by_cases hp : pos < a0.size
  ·have hnx : ∀ ty, (Instr.next (.pointer (some ⟨w.heap.size, 0, none⟩)) true ty).run Try.prog (w.iter a0 pos) = _ := fun ty => run_next_any w a0 pos ty hp
   have hwd := Lib.decode_width_pos a0 pos hp
   go_wp2
   go_roundw
   case rel =>
    cases b with
    | zero => omega
    | succ b =>
     refine ⟨pos + (Utf8.decode a0 pos).2, b, acc + 1, rfl, by go_num, ?_, by omega, by omega⟩
     rw [← hc]
     simp [Lib.runeCountFrom, hp]
     omega
   case measure =>
    simp
    omega
  ·have hnx : ∀ ty, (Instr.next (.pointer (some ⟨w.heap.size, 0, none⟩)) true ty).run Try.prog (w.iter a0 pos) = _ := fun ty => run_next_end w a0 pos ty hp
   go_wp2
   go_ret
   rw [Lib.runeCountFrom_end a0 b pos hp, Nat.add_zero] at hc
   subst hc
   exact ⟨rfl, _, rfl⟩
end Go.Proofs.Ytlbicmdfdpcdiaa.PDa
