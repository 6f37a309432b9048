import Derived.Test.YtlbicmdfdpcdiaaProg
import Derived.KernelRfl
import Derived.Below
import Derived.Orders
import Derived.RowKit
import Derived.Deep.LoopGhost
import Derived.Laws.StructEq
import Derived.ChangeKeysEq
import Derived.Laws.OwnMore
import Derived.Maps.AppendAt
import Derived.Shelf.Abstract
set_option linter.unusedSectionVars false
-- Printed by a program of this session's; Lean checks it.
set_option linter.unusedVariables false
namespace Go.Proofs.Ytlbicmdfdpcdiaa.Vm
open Go.RowKit
inductive Ty : Type
  | int (k : IntKind) | bool | str | flt (k : FloatKind)
  | sl (t : TypeId) (e : Ty)
  | pr (a b : Ty) | un
  | er (pt st : TypeId) (s : Ty)
  deriving DecidableEq
abbrev Ty.D : Ty → Type
  | .int _ => Int
  | .bool => Bool
  | .str => ByteArray
  | .flt _ => Nat
  | .sl _ e => List e.D
  | .pr a b => a.D × b.D
  | .un => Unit
  | .er _ _ s => Option s.D
def Ty.w : Ty → Nat
  | .pr a b => a.w + b.w
  | .un => 0
  | _ => 1
def Ty.z : (t : Ty) → t.D
  | .int _ => (0 : Int)
  | .bool => false
  | .str => ByteArray.empty
  | .flt _ => (0 : Nat)
  | .sl _ _ => []
  | .pr a b => (a.z, b.z)
  | .un => ()
  | .er _ _ _ => none
def Ty.flat : Ty → Bool
  | .sl _ _ => false
  | .er _ _ _ => false
  | .pr a b => a.flat && b.flat
  | _ => true
def Ty.noer : Ty → Bool
  | .er _ _ _ => false
  | .pr a b => a.noer && b.noer
  | .sl _ e => e.noer
  | _ => true
inductive PC : Type
  | v (x : Value)
  | s (e : Ty) (l : List e.D)
def Ty.cs : (t : Ty) → t.D → List PC
  | .int k, n => [.v (.int k n)]
  | .bool, b => [.v (.bool b)]
  | .str, s => [.v (.string s)]
  | .flt k, n => [.v (.float k n)]
  | .sl _ e, l => [.s e l]
  | .pr a b, x => a.cs x.1 ++ b.cs x.2
  | .un, _ => []
  | .er _ _ _, _ => []
inductive SV : Type
  | any
  | v (x : Value)
  | tst (p : Prop) (d : Decidable p)
  | nt (p : Prop) (d : Decidable p)
  | ptr (k off : Nat)
  | sl (k ver : Nat) (r : Option (Nat × Nat))
  | el (k ver : Nat) (i : Int) (off : Nat)
  | agg (l : List SV)
  | tup (l : List SV)
  | fn (f : Fn) (first caps : List SV)
  | ifc (t : TypeId) (x : SV)
inductive SO : Type
  | dead
  | box (t : TypeId) (cs : List SV)
  | row (o : Option TypeId) (e : Ty) (ver : Nat) (l : List e.D)
structure St where
  t : List SV
  k : List SV
  h : List SO
structure De where
  val : SV
  ro : List Nat := []
  rw : List (Nat × SO) := []
  nw : List SO := []
  big : Option (St × Nat) := none
abbrev lget {α : Type} (l : List α) (i : Int) (z : α) : α := l.getD i.toNat z
abbrev lset {α : Type} (l : List α) (i : Int) (x : α) : List α := l.set i.toNat x
abbrev lapp {α : Type} (l m : List α) : List α := l ++ m
abbrev lsub {α : Type} (l : List α) (off n : Nat) : List α := (l.drop off).take n
abbrev lrep {α : Type} (n : Int) (x : α) : List α := List.replicate n.toNat x
abbrev llen {α : Type} (l : List α) : Nat := l.length
def lenI {α : Type} : List α → Int
  | [] => 0
  | _ :: l => lenI l + 1
def sizeI (s : ByteArray) : Int := lenI s.data.toList
def rlenI {α : Type} : Option (Nat × Nat) → List α → Int
  | none, l => lenI l
  | some (_, n), _ => (n : Int)
def rng {α : Type} : Option (Nat × Nat) → List α → List α
  | none, l => l
  | some (off, n), l => lsub l off n
def rlen {α : Type} : Option (Nat × Nat) → List α → Nat
  | none, l => llen l
  | some (_, n), _ => n
def roff : Option (Nat × Nat) → Nat
  | none => 0
  | some (off, _) => off
mutual
def SV.val? : SV → Option Value
  | .v x => some x
  | .tst p d => some (.bool (@decide p d))
  | .nt p d => some (.bool (!@decide p d))
  | .agg l => (SV.vals l).map fun us => .agg us.toArray
  | .tup l => (SV.vals l).map fun us => .tuple us.toArray
  | .ifc t x => x.val?.map fun u => .iface t u
  | _ => none
def SV.vals : List SV → Option (List Value)
  | [] => some []
  | x :: l => x.val?.bind fun u => (SV.vals l).map (u :: ·)
end
def SV.cells : SV → Option (List SV)
  | .any => none
  | .agg l => some l
  | .tup _ => none
  | .v x => some (x.cells.toList.map .v)
  | x => some [x]
def ocSV : SV → Bool
  | .v x => x.oneCell'
  | .agg _ | .tup _ | .any => false
  | _ => true
def St.op (S : St) : Operand → SV
  | .tmp t => S.t.getD t .any
  | .const x => .v x
  | .global g => .v (.pointer (some ⟨g, 0, none⟩))
  | .func f => .v (.func (.func f) #[] #[])
def pureOf (P : Program) {α : Type} : Sem α → Option α
  | .pure a => some a
  | .program k => pureOf P (k P)
  | .mark _ k => pureOf P k
  | _ => none
def setNew (h : List SO) (b : Nat) : List SO → List SO
  | [] => h
  | o :: r => setNew (h.set b o) (b + 1) r
def setObjs (h : List SO) : List (Nat × SO) → List SO
  | [] => h
  | (k, o) :: r => setObjs (h.set k o) r
def setT (t : List SV) (dst : Option Tmp) (x : SV) : List SV := match dst with | some d => t.set d x | none => t
def ap (dst : Option Tmp) (b : Nat) (δ : De) (S : St) : St :=
  match δ.big with
  | some (S', _) => { S' with t := setT S'.t dst δ.val }
  | none => { t := setT S.t dst δ.val, k := S.k, h := setNew (setObjs S.h δ.rw) b δ.nw }
def cellsAt (h : List SO) (k off n : Nat) : Option (List SV) :=
  match h[k]? with
  | some (.box _ cs) => if off + n ≤ cs.length then some ((cs.drop off).take n) else none
  | _ => none
def putAt (cs : List SV) (off : Nat) (xs : List SV) : List SV := cs.take off ++ (xs ++ cs.drop (off + xs.length))
def fromPC (b : Nat) : List PC → List SV × List SO
  | [] => ([], [])
  | .v x :: r => let q := fromPC b r; (.v x :: q.1, q.2)
  | .s e l :: r => let q := fromPC (b + 1) r; (.sl b 0 none :: q.1, .row none e 0 l :: q.2)
structure RowV where
  k : Nat
  ver : Nat
  o : Option TypeId
  e : Ty
  l : List e.D
  r : Option (Nat × Nat)
def rowOf (h : List SO) : SV → Option RowV
  | .sl k ver r => match h[k]? with
    | some (.row o e ver' l) => if ver = ver' then some ⟨k, ver, o, e, l, r⟩ else none
    | _ => none
  | _ => none
def Ty.unl : (t : Ty) → SV → List SO → Option t.D
  | .int k, .v (.int k' n), _ => if k' = k then some n else none
  | .bool, .v (.bool b), _ => some b
  | .bool, .tst p d, _ => some (@decide p d)
  | .bool, .nt p d, _ => some (!@decide p d)
  | .str, .v (.string s), _ => some s
  | .flt k, .v (.float k' n), _ => if k' = k then some n else none
  | .sl _ e, .v (.slice none 0 0), _ => some []
  | .sl _ e, x, h => match rowOf h x with
    | some R => if q : R.e = e then some (rng R.r (q ▸ R.l)) else none
    | none => none
  | _, _, _ => none
def Ty.un' : (t : Ty) → List SV → List SO → Option t.D
  | .pr a b, cs, h => (a.un' (cs.take a.w) h).bind fun x => (b.un' (cs.drop a.w) h).map fun y => (x, y)
  | .un, [], _ => some ()
  | .er _ _ _, [.v .nilIface], _ => some none
  | .er pt st s, [.ifc pt' (.ptr k 0)], h => match h[k]? with
    | some (.box st' cs) => if pt' = pt ∧ st' = st then (s.un' cs h).map some else none
    | _ => none
  | .int k, [x], h => (Ty.int k).unl x h
  | .bool, [x], h => Ty.bool.unl x h
  | .str, [x], h => Ty.str.unl x h
  | .flt k, [x], h => (Ty.flt k).unl x h
  | .sl t e, [x], h => (Ty.sl t e).unl x h
  | _, _, _ => none
def keysOf : List SV → List Nat
  | [] => []
  | .sl k _ _ :: r => k :: keysOf r
  | _ :: r => keysOf r
def frz (h : List SO) : List SV → List (Nat × SO)
  | [] => []
  | .sl k _ _ :: r => match h[k]? with
    | some (.row (some _) e ver l) => (k, .row none e ver l) :: frz h r
    | _ => frz h r
  | _ :: r => frz h r
def isRow (h : List SO) (k : Nat) : Bool := match h[k]? with | some (.row _ _ _ _) => true | _ => false
def Ty.upd : (t : Ty) → t.D → Nat → List SV → List SO → Option t.D
  | .pr a b, x, off, cs, h =>
    if off = 0 ∧ cs.length = a.w + b.w then (Ty.pr a b).un' cs h
    else if off + cs.length ≤ a.w then (a.upd x.1 off cs h).map fun y => (y, x.2)
    else if a.w ≤ off then (b.upd x.2 (off - a.w) cs h).map fun y => (x.1, y)
    else none
  | t, _, off, cs, h => if off = 0 then t.un' cs h else none
def isAggT (P : Program) (t : TypeId) : Option Bool :=
  match P.underlying t with
  | some (.struct _) | some (.array _ _) => some true
  | some _ => some false
  | none => none
def sizeT (P : Program) (t : TypeId) : Option Nat := (P.info? t).map (·.size)
def zeroT (P : Program) (t : TypeId) : Option Value := (P.info? t).bind (·.zero)
def bytesT (P : Program) (t : TypeId) : Option Nat := (P.info? t).map (·.bytes)
def loadT (P : Program) (t : TypeId) : Option (Bool × Nat) := (isAggT P t).bind fun g => if g then (sizeT P t).map (true, ·) else some (false, 1)
def packed (g : Bool) (l : List SV) : SV := if g then .agg l else match l with | x :: _ => x | [] => .any
def kindOf (P : Program) : Nat → TypeId → Option Ty
  | 0, _ => none
  | d + 1, t => match P.underlying t with
    | some (.int k) => some (.int k)
    | some .bool => some .bool
    | some .string => some .str
    | some (.float k) => some (.flt k)
    | some (.slice e) => (kindOf P d e).map (.sl e)
    | some (.struct fs) => prs ((fs.toList.map fun f => f.type).map (kindOf P d))
    | some (.array n e) => prs (List.replicate n (kindOf P d e))
    | _ => none
where
  prs : List (Option Ty) → Option Ty
    | [] => some .un
    | [x] => x
    | x :: r => x.bind fun a => (prs r).map (.pr a)
def elemT (P : Program) (t : TypeId) : Option (TypeId × Ty × Nat × Value) := match P.underlying t with
  | some (.slice e) => (kindOf P 20 e).bind fun k => (P.info? e).bind fun i => i.zero.bind fun z =>
    if i.size = k.w ∧ k.noer = true ∧ 0 < k.w ∧ 0 < i.bytes ∧ z.cells.size = k.w then some (e, k, i.bytes, z) else none
  | _ => none
def brc {R : Type} (p : Prop) (d : Decidable p) (x y : Option R) : Option R := @ite _ p d x y
def bnd {α R : Type} (x : Option α) (f : α → Option R) : Option R := x.bind f
def drw {R : Type} (c : Bool) (x : Option R) : Option R := match c with | true => x | false => none
def opt {α R : Type} (o : Option α) (x : Option R) (y : α → Option R) : Option R := match o with | none => x | some a => y a
structure Ctr where
  id : FuncId
  run : {R : Type} → List SV → List SO → Nat → (De → Option R) → Option R
def findC (f : FuncId) : List Ctr → Option Ctr
  | [] => none
  | c :: r => if c.id = f then some c else findC f r
section
variable (P : Program) (C : List Ctr) {R : Type}
def cmpSV : BinOp → Int → Int → Option SV
  | .eql, x, y => some (.tst (x = y) inferInstance)
  | .neq, x, y => some (.nt (x = y) inferInstance)
  | .lss, x, y => some (.tst (x < y) inferInstance)
  | .leq, x, y => some (.tst (x ≤ y) inferInstance)
  | .gtr, x, y => some (.tst (y < x) inferInstance)
  | .geq, x, y => some (.tst (y ≤ x) inferInstance)
  | _, _, _ => none
def cmpStr : BinOp → ByteArray → ByteArray → Option SV
  | .eql, x, y => some (.tst (x.toList = y.toList) inferInstance)
  | .neq, x, y => some (.nt (x.toList = y.toList) inferInstance)
  | _, _, _ => none
def pw : Nat → Int
  | 1 => 2
  | 2 => 4
  | 3 => 8
  | 4 => 16
  | 5 => 32
  | 6 => 64
  | 7 => 128
  | 8 => 256
  | 16 => 65536
  | 32 => 4294967296
  | n => ((2 ^ n : Nat) : Int)
def wrapK : IntKind → Int → Int
  | .i64, n => wrap64 n
  | .i32, n => wrap32 n
  | k, n => k.wrap n
def btN (s : ByteArray) (i : Nat) : Int := if h : i < s.size then ((s[i]'h).toNat : Int) else 0
def bt (s : ByteArray) : Int → Int
  | .ofNat n => btN s n
  | .negSucc _ => btN s 0
def eqV (P : Program) : Nat → TypeId → Value → Value → Option Bool
  | 0, _, _, _ => none
  | d + 1, t, x, y => match P.underlying t, x, y with
    | some .bool, .bool a, .bool b => some (a == b)
    | some (.int _), .int k a, .int k' b => if k = k' then some (a == b) else none
    | some .string, .string a, .string b => some (a.toList == b.toList)
    | some (.struct fs), .agg xs, .agg ys => eqFs (fun t x y => eqV P d t x y) xs ys fs.toList
    | _, _, _ => none
where
  partV (t : TypeId) (cs : Array Value) (off : Nat) : Option Value := (loadT P t).bind fun q => if q.1 then some (.agg (cs.extract off (off + q.2))) else cs[off]?
  eqFs (eq : TypeId → Value → Value → Option Bool) (xs ys : Array Value) : List Field → Option Bool
    | [] => some true
    | [f] => if f.name = "_" then none else (partV f.type xs f.offset).bind fun x => (partV f.type ys f.offset).bind fun y => eq f.type x y
    | f :: r => if f.name = "_" then none else (partV f.type xs f.offset).bind fun x => (partV f.type ys f.offset).bind fun y => (eq f.type x y).bind fun b => (eqFs eq xs ys r).map fun c => b && c
def eqOk (P : Program) : Nat → TypeId → Bool
  | 0, _ => false
  | d + 1, t => match P.underlying t with
    | some (.struct fs) => !P.stoodInHeld t && fs.toList.all fun f => eqOk P d f.type
    | _ => true
def eqArr (xs ys : Array Value) : List Nat → Option Bool
  | [] => some true
  | [i] => match xs[i]?, ys[i]? with
    | some (.int k a), some (.int k' b) => if k = k' then some (a == b) else none
    | _, _ => none
  | i :: is => match xs[i]?, ys[i]? with
    | some (.int k a), some (.int k' b) => if k = k' then (eqArr xs ys is).map fun c => (a == b) && c else none
    | _, _ => none
def fallback (o : Oper) (S : St) (κ : De → Option R) : Option R :=
  match o.op.operands.toList.all (fun x => (S.op x).val?.isSome) with
  | true => match pureOf P (execOp (fun x => ((S.op x).val?).getD undef) o) with
    | some (.value u) => κ { val := .v u }
    | _ => none
  | false => none
def notSelect (o : Oper) : Bool := match o.op with | .select .. => false | _ => true
def fillSV (place : Nat → Option (Nat × Nat)) (cells : List SV) : List (Nat × SV) → Option (List SV)
  | [] => some cells
  | (i, x) :: r => match place i, x.cells with
    | some (off, n), some cs => if cs.length = n ∧ off + n ≤ cells.length then fillSV place (putAt cells off cs) r else none
    | _, _ => none
def placesOf (P : Program) : List Field → List (Nat × Nat)
  | [] => []
  | f :: r => (f.offset, (sizeT P f.type).getD 0) :: placesOf P r
def subLo (S : St) (s : ByteArray) (lo : Option Operand) (h : Int) (κ : De → Option R) : Option R :=
  match lo with
  | none => κ { val := .v (.string (s.extract 0 h.toNat)) }
  | some q => match S.op q with
    | .v (.int _ l) => brc (0 ≤ l) inferInstance (brc (l ≤ h) inferInstance (κ { val := .v (.string (s.extract l.toNat h.toNat)) }) none) none
    | _ => none
def subRes (S : St) (x : SV) (lo hi : Option Operand) (κ : De → Option R) : Option R :=
  match x with
  | .v (.string s) => match hi with
    | none => subLo S s lo (sizeI s) κ
    | some q => match S.op q with
      | .v (.int _ h) => brc (0 ≤ h) inferInstance (brc (h ≤ sizeI s) inferInstance (subLo S s lo h κ) none) none
      | _ => none
  | _ => none
def cutLo (S : St) (V : RowV) (lo : Option Operand) (h : Int) (κ : De → Option R) : Option R :=
  match lo with
  | none => κ { val := .sl V.k V.ver (some (roff V.r, h.toNat)), ro := [V.k] }
  | some q => match S.op q with
    | .v (.int _ l) => brc (0 ≤ l) inferInstance (brc (l ≤ h) inferInstance (κ { val := .sl V.k V.ver (some (roff V.r + l.toNat, h.toNat - l.toNat)), ro := [V.k] }) none) none
    | _ => none
def cutRes (S : St) (V : RowV) (lo hi : Option Operand) (κ : De → Option R) : Option R :=
  match hi with
  | none => cutLo S V lo (rlenI V.r V.l) κ
  | some q => match S.op q with
    | .v (.int _ h) => brc (0 ≤ h) inferInstance (brc (((roff V.r : Nat) : Int) + h ≤ lenI V.l) inferInstance (cutLo S V lo h κ) none) none
    | _ => none
def listOf (e : Ty) (h : List SO) (x : SV) : Option (List e.D) := (Ty.sl 0 e).unl x h
def minG (k : IntKind) : Int → List Value → Option Value
  | a, [] => some (.int k a)
  | a, .int k' b :: r => if k = k' then minG k (if b < a then b else a) r else none
  | _, _ => none
def minOf : List Value → Option Value
  | .int k a :: r => minG k a r
  | _ => none
def maxG (k : IntKind) : Int → List Value → Option Value
  | a, [] => some (.int k a)
  | a, .int k' b :: r => if k = k' then maxG k (if a < b then b else a) r else none
  | _, _ => none
def maxOf : List Value → Option Value
  | .int k a :: r => maxG k a r
  | _ => none
def appRes (P : Program) (S : St) (t : TypeId) (s x : SV) (b : Nat) (κ : De → Option R) : Option R :=
  match elemT P t with
  | none => none
  | some (e, k, by_, _) => match listOf k S.h x with
      | none => none
      | some ys => match s with
        | .v (.slice none 0 0) => brc (llen ys * by_ ≤ 140737488355328) inferInstance (κ { val := .sl b 0 none, ro := keysOf [x], nw := [.row (some e) k 0 ys] }) none
        | .sl q ver none => match S.h[q]? with
          | some (.row (some e') k' ver' l) => if ver = ver' ∧ e' = e then (if h : k' = k then brc ((llen l + llen ys) * by_ ≤ 140737488355328) inferInstance (κ { val := .sl q (ver + 1) none, ro := q :: keysOf [x], rw := [(q, .row (some e) k (ver + 1) (lapp (h ▸ l) ys))] }) none else none) else none
          | _ => none
        | _ => none
def makeRes (P : Program) (t : TypeId) (l c : SV) (b : Nat) (κ : De → Option R) : Option R :=
  match elemT P t with
  | none => none
  | some (e, k, by_, z) => match k.un' (z.cells.toList.map .v) [] with
    | none => none
    | some z' => match l, c with
      | .v (.int _ n), .v (.int _ m) =>
        brc (0 ≤ m) inferInstance (brc (m * (by_ : Int) ≤ 140737488355328) inferInstance
          (brc (n = 0) inferInstance (κ { val := .sl b 0 none, nw := [.row (some e) k 0 []] })
            (brc (n = m) inferInstance (κ { val := .sl b 0 none, nw := [.row (some e) k 0 (lrep m z')] }) none)) none) none
      | _, _ => none
def unsL (k : Ty) (h : List SO) : Nat → List SV → Option (List k.D)
  | 0, _ => some []
  | n + 1, cs => (k.un' (cs.take k.w) h).bind fun x => (unsL k h n (cs.drop k.w)).map (x :: ·)
def litRes (P : Program) (t : TypeId) (n : Nat) (parts : List (Nat × SV)) (h : List SO) (b : Nat) (κ : De → Option R) : Option R :=
  match elemT P t with
  | none => none
  | some (e, k, by_, z) => if 0 < n ∧ n * k.w ≤ 16777216 then
      match fillSV (fun i => some (i * k.w, k.w)) ((List.replicate n z.cells.toList).flatten.map .v) parts with
      | none => none
      | some cs => match unsL k h n cs with
        | some l => if cs.all ocSV && (keysOf cs).all (isRow h) then κ { val := .sl b 0 none, ro := keysOf cs, rw := frz h cs, nw := [.row (some e) k 0 l] } else none
        | none => none
    else none
def addOff (x : SV) (n : Nat) : Option SV := match x with
  | .ptr k off => some (.ptr k (off + n))
  | .el k ver i off => some (.el k ver i (off + n))
  | _ => none
def buildRes (P : Program) (t : TypeId) (parts : List (Nat × SV)) (κ : De → Option R) : Option R :=
  match P.underlying t, zeroT P t with
    | some (.struct fs), some (.agg zs) => if fs.toList.all (fun f => (sizeT P f.type).isSome) = true then match fillSV (fun i => (placesOf P fs.toList)[i]?) (zs.toList.map .v) parts with
        | some cs => κ { val := .agg cs }
        | none => none
        else none
    | some (.array _ e), some (.agg zs) => match sizeT P e with
      | some n => match fillSV (fun i => some (i * n, n)) (zs.toList.map .v) parts with
        | some cs => κ { val := .agg cs }
        | none => none
      | none => none
    | _, _ => none
def loadRes (P : Program) (t : TypeId) (x : SV) (b : Nat) (S : St) (κ : De → Option R) : Option R :=
  match x, loadT P t with
    | .ptr k off, some (g, n) => match cellsAt S.h k off n with
      | some cs => κ { val := packed g cs, ro := [k] }
      | none => none
    | .el k ver i off, some (g, n) => match S.h[k]? with
      | some (.row _ e ver' l) => if ver = ver' then
          let q := fromPC b (((e.cs (lget l i e.z)).drop off).take n)
          if q.1.length = n then κ { val := packed g q.1, ro := [k], nw := q.2 } else none
        else none
      | _ => none
    | _, _ => none
def storeRes (P : Program) (t : TypeId) (x y : SV) (S : St) (κ : De → Option R) : Option R :=
  match y.cells, sizeT P t with
    | some cs, some n => if cs.length = n ∧ cs.all ocSV = true then match x with
        | .ptr k off => match S.h[k]? with
          | some (.box t' cs') => if off + n ≤ cs'.length then κ { val := .v undef, ro := [k], rw := [(k, .box t' (putAt cs' off cs))] } else none
          | _ => none
        | .el k ver i off => match S.h[k]? with
          | some (.row (some e') e ver' l) => if ver = ver' ∧ (keysOf cs).contains k = false ∧ (keysOf cs).all (isRow S.h) = true ∧ e.noer = true ∧ off + cs.length ≤ e.w then match e.upd (lget l i e.z) off cs S.h with
              | some y => κ { val := .v undef, ro := k :: keysOf cs, rw := frz S.h cs ++ [(k, .row (some e') e ver (lset l i y))] }
              | none => none
            else none
          | _ => none
        | _ => none
      else none
    | _, _ => none
def fieldRes (P : Program) (s : TypeId) (x : SV) (f : Nat) (κ : De → Option R) : Option R :=
  match P.underlying s with
    | some (.struct fs) => match fs[f]? with
      | some fl => match sizeT P fl.type, addOff x fl.offset with
        | some (_ + 1), some y => κ { val := y }
        | _, _ => none
      | none => none
    | _ => none
def ixAt (x : SV) (n : Nat) (κ : De → Option R) : Option R := match addOff x n with
  | some y => κ { val := y }
  | none => none
def pickIx (x : SV) (sz : Nat) (i : Int) (κ : De → Option R) : Nat → Option R
  | 2 => brc (i = 0) inferInstance (ixAt x 0 κ) (ixAt x sz κ)
  | 3 => brc (i = 0) inferInstance (ixAt x 0 κ) (brc (i = 1) inferInstance (ixAt x sz κ) (ixAt x (2 * sz) κ))
  | _ => ixAt x (i.toNat * sz) κ
def idxRes (P : Program) (t : TypeId) (x ix : SV) (S : St) (κ : De → Option R) : Option R :=
  match P.underlying t, ix with
    | some (.slice e), .v (.int _ i) => match sizeT P e, rowOf S.h x with
      | some sz, some V => if V.e.w = sz then brc (0 ≤ i) inferInstance (brc (i < rlenI V.r V.l) inferInstance (κ { val := .el V.k V.ver (match V.r with | none => i | some (off, _) => (off : Int) + i) 0, ro := [V.k] }) none) none else none
      | _, _ => none
    | some (.array n e), .v (.int _ i) => match sizeT P e, decide (2 ≤ n) with
      | some sz, true => brc (0 ≤ i) inferInstance (brc (i < (n : Int)) inferInstance (pickIx x sz i κ n) none) none
      | _, _ => none
    | _, _ => none
def pickRes (c x y : SV) (κ : De → Option R) : Option R :=
  match c with
    | .tst p d => brc p d (κ { val := x }) (κ { val := y })
    | .nt p d => brc p d (κ { val := y }) (κ { val := x })
    | .v (.bool g) => brc (g = true) inferInstance (κ { val := x }) (κ { val := y })
    | _ => none
def binRes (P : Program) (o : Oper) (S : St) (bo : BinOp) (t : TypeId) (x y : SV) (κ : De → Option R) : Option R :=
  match x, y with
    | .v (.int k a), .v (.int k' c) =>
      match bo with
      | .add => if k = k' then κ { val := .v (.int k (wrapK k (a + c))) } else none
      | .sub => if k = k' then κ { val := .v (.int k (wrapK k (a - c))) } else none
      | .mul => if k = k' then κ { val := .v (.int k (wrapK k (a * c))) } else none
      | .and => if k = k' then κ { val := .v (.int k (Go.bits .and k a c)) } else none
      | .or => if k = k' then κ { val := .v (.int k (Go.bits .or k a c)) } else none
      | .xor => if k = k' then κ { val := .v (.int k (Go.bits .xor k a c)) } else none
      | .quo => if k = k' then brc (c = 0) inferInstance none (κ { val := .v (.int k (wrapK k (a.tdiv c))) }) else none
      | .rem => if k = k' then brc (c = 0) inferInstance none (κ { val := .v (.int k (a.tmod c)) }) else none
      | .shl => brc (c < 0) inferInstance none (κ { val := .v (.int k (wrapK k (a * 2 ^ (min c.toNat k.bits)))) })
      | .shr => brc (c < 0) inferInstance none (κ { val := .v (.int k (a / pw (min c.toNat k.bits))) })
      | _ => if k = k' then match cmpSV bo a c with
        | some s => κ { val := s }
        | none => fallback P o S κ
        else none
    | .v (.string a), .v (.string c) => match cmpStr bo a c with
      | some s => κ { val := s }
      | none => match bo with
        | .add => brc (a.size + c.size ≤ 9223372036854775807) inferInstance (κ { val := .v (.string (a ++ c)) }) none
        | _ => fallback P o S κ
    | .ifc _ _, .v .nilIface => match P.underlying t, bo with
      | some (.interface _), .eql => κ { val := .v (.bool false) }
      | some (.interface _), .neq => κ { val := .v (.bool true) }
      | _, _ => none
    | .tst p d, sy => match P.underlying t with
      | some .bool => (match bo, sy with
      | .eql, .tst q e => brc p d (κ { val := .tst q e }) (κ { val := .nt q e })
      | .neq, .tst q e => brc p d (κ { val := .nt q e }) (κ { val := .tst q e })
      | .eql, .nt q e => brc p d (κ { val := .nt q e }) (κ { val := .tst q e })
      | .neq, .nt q e => brc p d (κ { val := .tst q e }) (κ { val := .nt q e })
      | _, _ => fallback P o S κ)
      | _ => none
    | sx, sy => match bo, sx.val?, sy.val? with
      | .eql, some (.agg xs), some (.agg ys) => match P.underlying t with
        | some (.array n e) => drw (!P.eqGuardType P.depth t && (match P.underlying e with | some (.int _) => true | _ => false) && decide (sizeT P e = some 1)) (match eqArr xs ys (List.range n) with | some g => κ { val := .v (.bool g) } | none => none)
        | _ => drw (!P.eqGuardType P.depth t && eqOk P 20 t) (match eqV P 20 t (.agg xs) (.agg ys) with | some g => κ { val := .v (.bool g) } | none => none)
      | .neq, some (.agg xs), some (.agg ys) => match P.underlying t with
        | some (.array n e) => drw (!P.eqGuardType P.depth t && (match P.underlying e with | some (.int _) => true | _ => false) && decide (sizeT P e = some 1)) (match eqArr xs ys (List.range n) with | some g => κ { val := .v (.bool (!g)) } | none => none)
        | _ => drw (!P.eqGuardType P.depth t && eqOk P 20 t) (match eqV P 20 t (.agg xs) (.agg ys) with | some g => κ { val := .v (.bool (!g)) } | none => none)
      | _, _, _ => fallback P o S κ
def lenRes (P : Program) (args : List Operand) (t : Option TypeId) (S : St) (κ : De → Option R) : Option R :=
  match args, t.bind P.underlying with
    | [x], some (.slice _) => match S.op x with
      | .v (.slice none 0 0) => κ { val := .v (.int .i64 0) }
      | _ => match rowOf S.h (S.op x) with
        | some V => κ { val := .v (.int .i64 (rlenI V.r V.l)), ro := [V.k] }
        | none => none
    | [x], some .string => match S.op x with
      | .v (.string s) => κ { val := .v (.int .i64 (sizeI s)) }
      | _ => none
    | [x], some (.array n _) => κ { val := .v (.int .i64 (n : Int)) }
    | _, _ => none
def opRes1 (CH : FuncId → List SV → Nat → St → (De → Option R) → Option R) (o : Oper) (b : Nat) (S : St) (κ : De → Option R) : Option R :=
  match o.op with
  | .move x | .assign x => κ { val := S.op x }
  | .alloc e => match zeroT P e with
    | some z => if z.cells.toList.all (·.oneCell') then κ { val := .ptr b 0, nw := [.box e (z.cells.toList.map .v)] } else none
    | none => none
  | .box e x => match (S.op x).cells with
    | some cs => if cs.all ocSV then κ { val := .ptr b 0, nw := [.box e cs] } else none
    | none => none
  | .build t parts => buildRes P t (parts.toList.map fun q => (q.1, S.op q.2)) κ
  | .buildSlice t n parts => litRes P t n (parts.toList.map fun q => (q.1, S.op q.2)) S.h b κ
  | .load t x => loadRes P t (S.op x) b S κ
  | .store t x y => storeRes P t (S.op x) (S.op y) S κ
  | .fieldAddr s x f => fieldRes P s (S.op x) f κ
  | .indexAddr t x ix => idxRes P t (S.op x) (S.op ix) S κ
  | .pick c x y => pickRes (S.op c) (S.op x) (S.op y) κ
  | .extract x i => match S.op x with
    | .tup l => match l[i]? with
      | some y => κ { val := y }
      | none => none
    | _ => fallback P o S κ
  | .field t x f => match S.op x with
    | .agg l => match P.underlying t with
      | some (.struct fs) => match fs[f]? with
        | some fl => match loadT P fl.type with
          | some (g, n) => if fl.offset + n ≤ l.length then κ { val := packed g ((l.drop fl.offset).take n) } else none
          | none => none
        | none => none
      | _ => none
    | _ => fallback P o S κ
  | .unOp .not t x => match S.op x with
    | .tst p d => κ { val := .nt p d }
    | .nt p d => κ { val := .tst p d }
    | _ => fallback P o S κ
  | .unOp .neg t x => match S.op x with
    | .v (.int k a) => κ { val := .v (.int k (wrapK k (-a))) }
    | _ => fallback P o S κ
  | .convert src dst x => match P.underlying src, P.underlying dst, S.op x with
    | some _, some (.int k), .v (.int _ a) => κ { val := .v (.int k (wrapK k a)) }
    | _, _, _ => fallback P o S κ
  | .makeInterface t x => match P.underlying t with
    | some (.interface _) => none
    | some _ => κ { val := .ifc t (S.op x) }
    | none => none
  | .makeFunc f first caps => κ { val := .fn f (first.toList.map S.op) (caps.toList.map S.op) }
  | .nilCheck x => match S.op x with
    | .ptr k off => κ { val := .ptr k off }
    | .el k ver i off => κ { val := .el k ver i off }
    | .fn (.func f) a c => κ { val := .fn (.func f) a c }
    | _ => none
  | .binOp bo t x y ty => binRes P o S bo t (S.op x) (S.op y) κ
  | .slice t x lo hi none => match P.underlying t with
    | some .string => subRes S (S.op x) lo hi κ
    | some (.slice e) => match rowOf S.h (S.op x) with
      | some V => if sizeT P e = some V.e.w then cutRes S V lo hi κ else none
      | none => none
    | _ => none
  | .index t x ix => match P.underlying t, S.op x, S.op ix with
    | some .string, .v (.string s), .v (.int _ i) => brc (0 ≤ i) inferInstance (brc (i < sizeI s) inferInstance (κ { val := .v (.int .u8 (bt s i)) }) none) none
    | _, _, _ => none
  | .makeSlice t l c => makeRes P t (S.op l) (S.op c) b κ
  | .call { callee := .value (.func f), args, .. } => match findC f C with
    | some c => c.run (args.toList.map S.op) S.h b κ
    | none => CH f (args.toList.map S.op) b S κ
  | .call { callee := .value f, args, .. } => match S.op f with
    | .fn (.func g) first caps => match findC g C with
      | some c => c.run (first ++ args.toList.map S.op ++ caps) S.h b κ
      | none => CH g (first ++ args.toList.map S.op ++ caps) b S κ
    | .v (.func (.func g) ⟨[]⟩ ⟨[]⟩) => match findC g C with
      | some c => c.run (args.toList.map S.op) S.h b κ
      | none => CH g (args.toList.map S.op) b S κ
    | _ => none
  | .call { callee := .builtin .len, args, argTypes } => lenRes P args.toList argTypes[0]? S κ
  | .call { callee := .builtin .append, args, argTypes } => match args.toList, argTypes.toList with
    | [s, x], [t, t'] => if t = t' then appRes P S t (S.op s) (S.op x) b κ else none
    | _, _ => none
  | .call { callee := .builtin .min, args, .. } => match (SV.vals (args.toList.map S.op)).bind minOf with
    | some u => κ { val := .v u }
    | none => none
  | .call { callee := .builtin .max, args, .. } => match (SV.vals (args.toList.map S.op)).bind maxOf with
    | some u => κ { val := .v u }
    | none => none
  | _ => if notSelect o then fallback P o S κ else none
def know (S : St) (t : Nat) (q : Prop) (d : Decidable q) : St := { S with t := S.t.set t (.tst q d) }
def knowN (S : St) (t : Nat) (q : Prop) (d : Decidable q) : St := { S with t := S.t.set t (.nt q d) }
def knowB (S : St) (t : Nat) (q : Bool) : St := { S with t := S.t.set t (.v (.bool q)) }
def ixSrc (ops : Array Oper) (o : Oper) : Option Nat := match o.op, o.dst with
  | .move (.tmp s), some d => if ops.toList.any (fun q => match q.op with
      | .indexAddr t _ (.tmp x) => x == d && (match P.underlying t with | some (.array n _) => n == 2 | _ => false)
      | _ => false) then some s else none
  | _, _ => none
def setInt (S : St) (s : Nat) (k : IntKind) (n : Int) : St := { S with t := S.t.set s (.v (.int k n)) }
def opRes (CH : FuncId → List SV → Nat → St → (De → Option R) → Option R) (ops : Array Oper) (o : Oper) (b : Nat) (S : St) (κ : St → De → Option R) : Option R :=
  match o.guard with
  | none => match ixSrc P ops o with
    | none => opRes1 P C CH o b S (κ S)
    | some s => match S.t[s]? with
      | some (.v (.int k i)) => brc (i = 0) inferInstance (opRes1 P C CH o b (setInt S s k 0) (κ (setInt S s k 0))) (brc (i = 1) inferInstance (opRes1 P C CH o b (setInt S s k 1) (κ (setInt S s k 1))) none)
      | _ => opRes1 P C CH o b S (κ S)
  | some (j, want) => match (ops[j]?).bind (·.dst) with
    | none => none
    | some t =>
      let yes (S : St) : Option R := match want with | true => opRes1 P C CH o b S (κ S) | false => κ S { val := .v undef }
      let no (S : St) : Option R := match want with | true => κ S { val := .v undef } | false => opRes1 P C CH o b S (κ S)
      match S.t[t]? with
      | some (.tst p d) => brc p d (yes (know S t True inferInstance)) (no (know S t False inferInstance))
      | some (.nt p d) => brc p d (no (knowN S t True inferInstance)) (yes (knowN S t False inferInstance))
      | some (.v (.bool g)) => brc (g = true) inferInstance (yes (knowB S t true)) (no (knowB S t false))
      | some (.v (.tuple _)) => κ S { val := .v undef }
      | _ => none
structure Dn where
  i : Nat
  o : Oper
  b : Nat
  δ : De
def alive (o : Option SO) : Bool := match o with | some .dead => false | some _ => true | none => false
def fits (S : St) (b : Nat) (δ : De) : Bool :=
  (List.range δ.nw.length).all (fun j => match S.h[b + j]? with | some .dead => true | _ => false) && δ.nw.all (fun o => alive (some o)) && δ.ro.all (fun k => alive S.h[k]?) && δ.rw.all (fun q => alive S.h[q.1]? && alive (some q.2))
def pad (n : Nat) (S : St) : St := { S with h := S.h ++ List.replicate n .dead }
def trim (b : Nat) (S : St) : St := if (S.h.drop b).all (fun o => match o with | .dead => true | _ => false) then { S with h := S.h.take b } else S
def bigB (δ : De) : Nat := match δ.big with | some q => q.2 | none => 0
def evOps (CH : Nat → FuncId → List SV → Nat → St → (De → Option R) → Option R) (ops : Array Oper) (draw : Bool) : List (Nat × Oper) → Nat → List Dn → St → (List Dn → Nat → St → Option R) → Option R
  | [], b, acc, S, κ => κ acc b S
  | (i, o) :: r, b, acc, S, κ => opRes P C (CH i) ops o b S fun S δ =>
    if δ.big.isSome = true then evOps CH ops draw r (bigB δ) [] (ap o.dst b δ S) κ
    else if fits S b δ = true then evOps CH ops draw r (b + δ.nw.length) (if draw then ⟨i, o, b, δ⟩ :: acc else []) (ap o.dst b δ S) κ
    else none
def newAt (x : Dn) (k : Nat) : Bool := x.b ≤ k && k < x.b + x.δ.nw.length
def mentions (x : Dn) : List Nat := x.δ.ro ++ x.δ.rw.map (·.1)
def conf (ops : Array Oper) (x y : Dn) : Bool :=
  !(x.o.apart ops y.o) || (x.δ.rw.any fun q => (mentions y).contains q.1) || (y.δ.rw.any fun q => (mentions x).contains q.1) ||
  (mentions y).any (newAt x) || (mentions x).any (newAt y) || (x.δ.nw.length != 0 && y.δ.nw.length != 0 && !(x.b + x.δ.nw.length ≤ y.b || y.b + y.δ.nw.length ≤ x.b))
def after (x y : Dn) : Bool := y.o.after.toList.any fun e => Region.binds .any e && e.on == x.i
def chk (ops : Array Oper) : List Dn → Bool
  | [] => true
  | y :: r => r.all (fun x => !conf ops x y || after x y) && y.o.after.toList.all (fun e => !Region.binds .any e || e.on < y.i) && chk ops r
inductive Ex
  | normal | exit (id : Nat) | ret
def numbered (ops : Array Oper) : List (Nat × Oper) := (List.range ops.size).filterMap fun i => (ops[i]?).map fun o => (i, o)
def evRegion (CH : Nat → FuncId → List SV → Nat → St → (De → Option R) → Option R) (ops : Array Oper) (draw : Bool) (S : St) (κ : Ex → St → Option R) : Option R :=
  evOps P C (if draw then fun _ _ _ _ _ _ => none else CH) ops draw (numbered ops) S.h.length [] (pad (2 * ops.size) S) fun acc b S' =>
    if draw then (drw (P.follows .mixedOrders && chk ops acc) (κ .normal (trim b S'))) else κ .normal (trim b S')
def knowO (S : St) (c : Operand) (q : Prop) (d : Decidable q) : St := match c with | .tmp t => know S t q d | _ => S
def knowNO (S : St) (c : Operand) (q : Prop) (d : Decidable q) : St := match c with | .tmp t => knowN S t q d | _ => S
def knowBO (S : St) (c : Operand) (q : Bool) : St := match c with | .tmp t => knowB S t q | _ => S
end
mutual
def SV.nm (h : List SO) (n : Nat) : SV → SV
  | .v x => .v x
  | .tst p d => .v (.bool (@decide p d))
  | .nt p d => .v (.bool (!@decide p d))
  | .ptr k off => if k < n then .ptr k off else .any
  | .sl k ver r => if k < n then (match h[k]? with | some (.row _ _ ver' _) => if ver = ver' then .sl k 0 r else .any | _ => .any) else .any
  | .el k ver i off => if k < n then (match h[k]? with | some (.row _ _ ver' _) => if ver = ver' then .el k 0 i off else .any | _ => .any) else .any
  | .agg l => .agg (SV.nms h n l)
  | .tup l => .tup (SV.nms h n l)
  | .fn f a c => .fn f (SV.nms h n a) (SV.nms h n c)
  | .ifc t x => .ifc t (SV.nm h n x)
  | .any => .any
def SV.nms (h : List SO) (n : Nat) : List SV → List SV
  | [] => []
  | x :: l => SV.nm h n x :: SV.nms h n l
end
structure LN where
  path : List Nat
  keep : List Nat
  hl : Nat
  ax : List (Nat × Nat)
  ad : List (Nat × Nat × TypeId × Ty)
  kk : List Nat
def normT (L : LN) (h : List SO) : Nat → List SV → List SV
  | _, [] => []
  | i, x :: l => (if L.keep.contains i then SV.nm h L.hl x else .any) :: normT L h (i + 1) l
def normK (L : LN) (h : List SO) : Nat → List SV → List SV
  | _, [] => []
  | i, x :: l => (if L.kk.contains i then SV.nm h L.hl x else .any) :: normK L h (i + 1) l
def normC (L : LN) (h : List SO) (k : Nat) : Nat → List SV → List SV
  | _, [] => []
  | i, x :: l => (if L.ax.contains (k, i) then .any else SV.nm h L.hl x) :: normC L h k (i + 1) l
def normH (L : LN) (h : List SO) : Nat → Nat → List SO → List SO
  | 0, _, _ => []
  | _, _, [] => []
  | n + 1, k, .box t cs :: l => .box t (normC L h k 0 cs) :: normH L h n (k + 1) l
  | n + 1, k, .row o e ver x :: l => .row o e 0 x :: normH L h n (k + 1) l
  | n + 1, k, .dead :: l => .dead :: normH L h n (k + 1) l
def norm (L : LN) (S : St) : St := ⟨normT L S.h 0 S.t, normK L S.h 0 S.k, normH L S.h L.hl 0 S.h⟩
def isNil : Option SV → Bool
  | some (.v (.slice none 0 0)) => true
  | _ => false
def isRn : Nat × Nat × TypeId × Ty → Bool
  | (_, _, _, .un) => true
  | _ => false
def adN : List (Nat × Nat × TypeId × Ty) → Nat
  | [] => 0
  | q :: r => match isRn q with | true => adN r | false => adN r + 1
def adopt1 (S : St) (q : Nat × Nat × TypeId × Ty) : St := match isRn q with
  | true => S
  | false => match q.1 with
  | 0 => if isNil S.t[q.2.1]? then { S with t := S.t.set q.2.1 (.sl S.h.length 0 none), h := S.h ++ [.row (some q.2.2.1) q.2.2.2 0 []] } else S
  | k + 1 => match S.h[k]? with
    | some (.box t cs) => if isNil cs[q.2.1]? then { S with h := S.h.set k (.box t (cs.set q.2.1 (.sl S.h.length 0 none))) ++ [.row (some q.2.2.1) q.2.2.2 0 []] } else S
    | _ => S
def adopt (S : St) : List (Nat × Nat × TypeId × Ty) → St
  | [] => S
  | q :: r => adopt (adopt1 S q) r
def rnmV (S : St) (K0 : Nat) (x : SV) : Option (St × Nat) :=
  match S.h[K0]? with
  | some (.row (some t0) e0 ver0 _) => match x with
    | .sl k ver none => if k = K0 then none else match S.h[k]? with
      | some (.row (some t) e ver' l) => if ver = ver' then some ({ S with h := (S.h.set k (.row none e (ver' + 1) [])).set K0 (.row (some t) e (ver0 + 1) l) }, ver0 + 1) else none
      | _ => none
    | .v (.slice none 0 0) => some ({ S with h := S.h.set K0 (.row (some t0) e0 (ver0 + 1) []) }, ver0 + 1)
    | _ => none
  | _ => none
def rnm1 (S : St) (q : Nat × Nat × TypeId × Ty) (K0 : Nat) : St :=
  match q.1 with
  | 0 => match S.t[q.2.1]? with
    | some x => match rnmV S K0 x with
      | some (S', v) => { S' with t := S'.t.set q.2.1 (.sl K0 v none) }
      | none => S
    | none => S
  | k + 1 => match S.h[k]? with
    | some (.box t cs) => match cs[q.2.1]? with
      | some x => match rnmV S K0 x with
        | some (S', v) => { S' with h := S'.h.set k (.box t (cs.set q.2.1 (.sl K0 v none))) }
        | none => S
      | none => S
    | _ => S
def rename (S : St) : List (Nat × Nat × TypeId × Ty) → Nat → St
  | [], _ => S
  | q :: r, K0 => match isRn q with | true => rename (rnm1 S q q.2.2.1) r K0 | false => rename (rnm1 S q K0) r (K0 + 1)
def firstId : Code → Nat
  | .region id _ _ => id
  | .seq a _ => firstId a
  | .block _ c => firstId c
  | .loop c => firstId c
  | .scope c => firstId c
  | _ => 0
def findL (i : List Nat) (n : Nat) : List LN → Option LN
  | [] => none
  | x :: l => if x.path = i ∧ x.hl = n then some x else findL i n l
def findE (i : List Nat) (m : Nat) : List LN → Option LN
  | [] => none
  | x :: l => if x.path = i ∧ x.hl = m + adN x.ad then some x else findE i m l
def findP (i : List Nat) : List LN → Option LN
  | [] => none
  | x :: l => if x.path = i then some x else findP i l
section
variable (P : Program) (C : List Ctr) {R : Type}
def nmOf (Ls : List LN) (n : Nat) (p : List Nat) (c : Code) (S : St) : St := match findL (firstId c :: p) n Ls with | some L => norm L (adopt S L.ad) | none => S
def nmR (Ls : List LN) (n : Nat) (p : List Nat) (c : Code) (S : St) : St := match findL (firstId c :: p) n Ls with | some L => norm L (rename S L.ad (n - adN L.ad)) | none => S
def hlE (Ls : List LN) (p : List Nat) (c : Code) (m : Nat) : Nat := match findE (firstId c :: p) m Ls with | some L => L.hl | none => 0
def hlP (Ls : List LN) (p : List Nat) (c : Code) : Nat := match findP (firstId c :: p) Ls with | some L => L.hl | none => 0
def resSV (S : St) : List ResultVar → Option (List SV)
  | [] => some []
  | .tmp t :: r => (S.t[t]?).bind fun x => (resSV S r).map (x :: ·)
  | .cell a t :: r => match S.t[a]?, loadT P t with
    | some (.ptr k off), some (g, n) => (cellsAt S.h k off n).bind fun cs => (resSV S r).map (packed g cs :: ·)
    | _, _ => none
def one : List SV → SV
  | [x] => x
  | l => .tup l
def enterS (fn : Func) (args : List SV) (b : Nat) (S : St) : St := let S1 := trim b S; ⟨args ++ List.replicate (fn.ntmps - args.length) .any, S1.t ++ S1.k, S1.h⟩
def leaveS (n pd : Nat) (x : SV) (S : St) : De := { val := x, big := some (⟨S.k.take n, S.k.drop n, S.h ++ List.replicate pd .dead⟩, S.h.length) }
def callRes (fn : Func) (n pd : Nat) (κ : De → Option R) : Ex → St → Option R
  | .exit _, _ => none
  | _, S => (resSV P S fn.results.toList).bind fun l => κ (leaveS n pd (one l) S)
def fev (LH : List Nat → Code → St → (Ex → St → Option R) → Option R) (CH : List Nat → FuncId → List SV → Nat → St → (De → Option R) → Option R) (p : List Nat) : Code → St → (Ex → St → Option R) → Option R
  | .skip, S, κ => κ .normal S
  | .region id ops draw, S, κ => evRegion P C (fun i => CH (i :: id :: p)) ops draw S κ
  | .seq a b, S, κ => fev LH CH p a S fun e S' => match e with | .normal => fev LH CH p b S' κ | .exit i => κ (.exit i) S' | .ret => κ .ret S'
  | .cond c x y, S, κ => match S.op c with
    | .tst q d => brc q d (fev LH CH p x (knowO S c True inferInstance) κ) (fev LH CH p y (knowO S c False inferInstance) κ)
    | .nt q d => brc q d (fev LH CH p y (knowNO S c True inferInstance) κ) (fev LH CH p x (knowNO S c False inferInstance) κ)
    | .v (.bool g) => brc (g = true) inferInstance (fev LH CH p x (knowBO S c true) κ) (fev LH CH p y (knowBO S c false) κ)
    | _ => none
  | .block id c, S, κ => fev LH CH p c S fun e S' => match e with | .normal => κ .normal S' | .exit i => if i = id then κ .normal S' else κ (.exit i) S' | .ret => κ .ret S'
  | .loop c, S, κ => LH p c S κ
  | .exit id, S, κ => κ (.exit id) S
  | .ret, S, κ => κ .ret S
  | .label _, S, κ => κ .normal S
  | .scope c, S, κ => fev LH CH p c S κ
  | _, _, _ => none
def loopRec (body : St → (Ex → St → Option R) → Option R) (nm : St → St) : Nat → St → (Ex → St → Option R) → Option R
  | 0, _, _ => none
  | n + 1, S, κ => body S fun e S' => match e with | .normal => loopRec body nm n (nm S') κ | .exit i => κ (.exit i) S' | .ret => κ .ret S'
def padOf : Nat := 40
def sem (Ls : List LN) (k : Nat) : Nat → (List Nat → Code → St → (Ex → St → Option R) → Option R) × (List Nat → FuncId → List SV → Nat → St → (De → Option R) → Option R)
  | 0 => (fun _ _ _ _ => none, fun _ _ _ _ _ _ => none)
  | d + 1 => (fun p c S κ => loopRec (fev P C (sem Ls k d).1 (sem Ls k d).2 p c) (nmR Ls (hlE Ls p c S.h.length) p c) k (nmOf Ls (hlE Ls p c S.h.length) p c S) κ,
      fun p f args b S κ => match P.funcs[f]? with
        | some fn => match fn.body, fn.name == "runtime.NumGoroutine", decide (args.length ≤ fn.ntmps) with
          | some c, false, true => fev P C (sem Ls k d).1 (sem Ls k d).2 (f :: p) c (enterS fn args b S) (callRes P fn S.t.length padOf κ)
          | _, _, _ => none
        | none => none)
def S0 (fn : Func) (args : List SV) (h : List SO) : St := ⟨args ++ List.replicate (fn.ntmps - args.length) .any, [], h⟩
def fin (fn : Func) (dec : List SV → List SO → Option R) : Ex → St → Option R
  | .exit _, _ => none
  | _, S => (resSV P S fn.results.toList).bind fun l => dec l S.h
def runF (Ls : List LN) (k : Nat) (fn : Func) (dec : List SV → List SO → Option R) (args : List SV) (h : List SO) : Option R :=
  match fn.body with
  | some c => fev P C (sem P C Ls k 12).1 (sem P C Ls k 12).2 [] c (S0 fn args h) (fin P fn dec)
  | none => none
end
def pcv : PC → SV
  | .v x => .v x
  | .s _ _ => .any
def Ty.norow : Ty → Bool
  | .sl _ _ => false
  | .er _ _ s => s.norow
  | .pr a b => a.norow && b.norow
  | _ => true
def cellsG (g : Bool) (n : Nat) (x : SV) : Option (List SV) :=
  match g, x with
  | true, .agg l => if l.length = n then some l else none
  | true, .v (.agg cs) => if cs.size = n then some (cs.toList.map .v) else none
  | true, _ => none
  | false, .any => none
  | false, .agg _ => none
  | false, .tup _ => none
  | false, .v (.agg _) => none
  | false, .v (.tuple _) => none
  | false, x => if n = 1 then some [x] else none
def argCells : List (Bool × Nat) → List SV → Option (List SV)
  | [], [] => some []
  | (g, n) :: r, x :: l => (cellsG g n x).bind fun c => (argCells r l).map (c ++ ·)
  | _, _ => none
def pack : List (Bool × Nat) → List SV → List SV
  | [], _ => []
  | (g, n) :: r, cs => packed g (cs.take n) :: pack r (cs.drop n)
def rkeys : List SV → List Nat
  | [] => []
  | .sl k _ _ :: r => k :: rkeys r
  | .ifc _ (.ptr k _) :: r => k :: rkeys r
  | _ :: r => rkeys r
def nodup : List Nat → Bool
  | [] => true
  | k :: r => !r.contains k && nodup r
def Ty.ur : (t : Ty) → List SV → List SO → Option t.D
  | .pr a b, cs, h => (a.ur (cs.take a.w) h).bind fun x => (b.ur (cs.drop a.w) h).map fun y => (x, y)
  | .un, [], _ => some ()
  | .er _ _ _, [.v .nilIface], _ => some none
  | .er pt st s, [.ifc pt' (.ptr k 0)], h => match h[k]? with
    | some (.box st' cs) => if pt' = pt ∧ st' = st ∧ s.flat = true then (s.un' cs h).map some else none
    | _ => none
  | .sl _ _, [.v (.slice none 0 0)], _ => some []
  | .sl t e, [.sl k ver none], h => match h[k]? with
    | some (.row (some t') e' ver' l) => if ver = ver' ∧ t' = t then (if q : e' = e then some (q ▸ l) else none) else none
    | _ => none
  | .int k, [x], h => (Ty.int k).unl x h
  | .bool, [x], h => Ty.bool.unl x h
  | .str, [x], h => Ty.str.unl x h
  | .flt k, [x], h => (Ty.flt k).unl x h
  | _, _, _ => none
def Ty.en {R : Type} : (t : Ty) → t.D → Nat → (List SV → List SO → Option R) → Option R
  | .int k, n, _, κ => κ [.v (.int k n)] []
  | .bool, x, _, κ => κ [.v (.bool x)] []
  | .str, x, _, κ => κ [.v (.string x)] []
  | .flt k, x, _, κ => κ [.v (.float k x)] []
  | .sl t e, l, b, κ => κ [.sl b 0 none] [.row (some t) e 0 l]
  | .pr a c, x, b, κ => a.en x.1 b fun cs os => c.en x.2 (b + os.length) fun cs' os' => κ (cs ++ cs') (os ++ os')
  | .un, _, _, κ => κ [] []
  | .er pt st s, o, b, κ => opt o (κ [.v .nilIface] []) fun x => κ [.ifc pt (.ptr b 0)] [.box st ((s.cs x).map pcv)]
def ctrT (f : FuncId) (a r : Ty) (ash rsh : List (Bool × Nat)) (g : a.D → Option r.D) : Ctr := ⟨f, fun args h b κ => match argCells ash args with
  | some cs => match a.un' cs h with
    | some p => bnd (g p) fun q => r.en q b fun vs os => κ { val := one (pack rsh vs), ro := keysOf cs, rw := if r.norow then [] else frz h cs, nw := os }
    | none => none
  | none => none⟩
def decT {R : Type} (rsh : List (Bool × Nat)) (r : Ty) (f : r.D → Option R) : List SV → List SO → Option R := fun l h => (argCells rsh l).bind fun cs => if nodup (rkeys cs) then (r.ur cs h).bind f else none
def argsT (ash : List (Bool × Nat)) (a : Ty) (p : a.D) : List SV := pack ash (fromPC 0 (a.cs p)).1
def heapT (a : Ty) (p : a.D) : List SO := (fromPC 0 (a.cs p)).2
end Go.Proofs.Ytlbicmdfdpcdiaa.Vm
-- Printed by a program of this session's; Lean checks it.
set_option linter.unusedVariables false
set_option linter.unusedSimpArgs false
namespace Go.Proofs.Ytlbicmdfdpcdiaa.Vm
open Go.RowKit
theorem lenI_eq {α : Type} : ∀ l : List α, lenI l = (l.length : Int)
  | [] => rfl
  | _ :: l => by rw [lenI, lenI_eq l, List.length_cons]; omega
theorem sizeI_eq (s : ByteArray) : sizeI s = (s.size : Int) := lenI_eq _
theorem rlenI_eq {α : Type} (r : Option (Nat × Nat)) (l : List α) : rlenI r l = (rlen r l : Int) := by
  cases r with
  | none => exact lenI_eq l
  | some q => rfl
abbrev Hp := Nat → Option Obj
def Hp.cell (H : Hp) (a : Addr) : Option Value := match H a.block with
  | some (.cells c _ _) => if a.spot.isSome then none else c[a.off]?
  | _ => none
def Hp.le (H H' : Hp) : Prop := ∀ b o, H b = some o → H' b = some o
theorem Hp.le.cell {H H' : Hp} (h : H.le H') {a : Addr} {v : Value} (hc : H.cell a = some v) : H'.cell a = some v := by
  unfold Hp.cell at hc ⊢
  cases e : H a.block with
  | none => rw [e] at hc; cases hc
  | some o => rw [h _ _ e]; rw [e] at hc; exact hc
def Rep (H : Hp) : (t : Ty) → t.D → List Value → Prop
  | .int k, n, cs => cs = [.int k n]
  | .bool, b, cs => cs = [.bool b]
  | .str, s, cs => cs = [.string s]
  | .flt k, n, cs => cs = [.float k n]
  | .sl _ e, l, cs => ∃ ad cp, cs = [.slice ad l.length cp] ∧ l.length ≤ cp ∧ (0 < l.length → ∃ a, ad = some a ∧ ∀ i x, l[i]? = some x → ∃ c, Rep H e x c ∧ ∀ j u, c[j]? = some u → H.cell (a.add (i * e.w + j)) = some u)
  | .pr a b, x, cs => ∃ c1 c2, cs = c1 ++ c2 ∧ Rep H a x.1 c1 ∧ Rep H b x.2 c2
  | .un, _, cs => cs = []
  | .er _ _ _, _, _ => False
def RowAt (H : Hp) (e : Ty) (ad : Option Addr) (l : List e.D) : Prop :=
  0 < l.length → ∃ a, ad = some a ∧ ∀ i x, l[i]? = some x → ∃ c, Rep H e x c ∧ ∀ j u, c[j]? = some u → H.cell (a.add (i * e.w + j)) = some u
theorem rep_sl {H : Hp} {t : TypeId} {e : Ty} {l : List e.D} {cs : List Value} : Rep H (.sl t e) l cs ↔ ∃ ad cp, cs = [.slice ad l.length cp] ∧ l.length ≤ cp ∧ RowAt H e ad l := Iff.rfl
theorem Rep.mono {H H' : Hp} (h : H.le H') : ∀ {t : Ty} {x : t.D} {cs : List Value}, Rep H t x cs → Rep H' t x cs
  | .int k, n, cs, hr => hr
  | .bool, b, cs, hr => hr
  | .str, s, cs, hr => hr
  | .flt k, n, cs, hr => hr
  | .sl t e, l, cs, ⟨ad, cp, h1, h2, h3⟩ => ⟨ad, cp, h1, h2, fun hp => by
      obtain ⟨a, ha, hx⟩ := h3 hp
      refine ⟨a, ha, fun i x hi => ?_⟩
      obtain ⟨c, hc, hu⟩ := hx i x hi
      exact ⟨c, Rep.mono h hc, fun j u hj => h.cell (hu j u hj)⟩⟩
  | .pr a b, x, cs, ⟨c1, c2, h1, h2, h3⟩ => ⟨c1, c2, h1, Rep.mono h h2, Rep.mono h h3⟩
  | .un, _, cs, hr => hr
  | .er _ _ _, _, _, hr => hr
theorem RowAt.mono {H H' : Hp} (h : H.le H') {e : Ty} {ad : Option Addr} {l : List e.D} (hr : RowAt H e ad l) : RowAt H' e ad l := fun hp => by
  obtain ⟨a, ha, hx⟩ := hr hp
  refine ⟨a, ha, fun i x hi => ?_⟩
  obtain ⟨c, hc, hu⟩ := hx i x hi
  exact ⟨c, hc.mono h, fun j u hj => h.cell (hu j u hj)⟩
theorem Rep.len {H : Hp} : ∀ {t : Ty} {x : t.D} {cs : List Value}, Rep H t x cs → cs.length = t.w
  | .int k, n, cs, hr => by rw [show cs = _ from hr]; rfl
  | .bool, b, cs, hr => by rw [show cs = _ from hr]; rfl
  | .str, s, cs, hr => by rw [show cs = _ from hr]; rfl
  | .flt k, n, cs, hr => by rw [show cs = _ from hr]; rfl
  | .sl t e, l, cs, ⟨ad, cp, h1, _⟩ => by rw [h1]; rfl
  | .pr a b, x, cs, ⟨c1, c2, h1, h2, h3⟩ => by rw [h1, List.length_append, h2.len, h3.len]; rfl
  | .un, _, cs, hr => by rw [show cs = _ from hr]; rfl
theorem Rep.one {H : Hp} : ∀ {t : Ty} {x : t.D} {cs : List Value}, Rep H t x cs → ∀ u ∈ cs, u.oneCell' = true
  | .int k, n, cs, hr => by rw [show cs = _ from hr]; intro u hu; rw [List.mem_singleton.1 hu]; rfl
  | .bool, b, cs, hr => by rw [show cs = _ from hr]; intro u hu; rw [List.mem_singleton.1 hu]; rfl
  | .str, s, cs, hr => by rw [show cs = _ from hr]; intro u hu; rw [List.mem_singleton.1 hu]; rfl
  | .flt k, n, cs, hr => by rw [show cs = _ from hr]; intro u hu; rw [List.mem_singleton.1 hu]; rfl
  | .sl t e, l, cs, ⟨ad, cp, h1, _⟩ => by rw [h1]; intro u hu; rw [List.mem_singleton.1 hu]; rfl
  | .pr a b, x, cs, ⟨c1, c2, h1, h2, h3⟩ => by
    rw [h1]; intro u hu
    rcases List.mem_append.1 hu with hu | hu
    · exact h2.one u hu
    · exact h3.one u hu
  | .un, _, cs, hr => by rw [show cs = _ from hr]; simp
inductive Gh
  | blk (b : Nat)
  | row (ver : Nat) (A : Option Addr) (c n w : Nat)
def Gh.le : Gh → Gh → Prop
  | .blk b, .blk b' => b = b'
  | .row v A c n w, .row v' A' c' n' w' => v < v' ∨ (v = v' ∧ A = A' ∧ c = c' ∧ n = n' ∧ w = w')
  | _, _ => False
theorem Gh.le_refl (g : Gh) : g.le g := by cases g <;> simp [Gh.le]
theorem Gh.le.trans {g g' g'' : Gh} (h : g.le g') (h' : g'.le g'') : g.le g'' := by
  cases g <;> cases g' <;> cases g'' <;> simp only [Gh.le] at h h' ⊢
  · rw [h, h']
  · rcases h with h | ⟨rfl, rfl, rfl, rfl, rfl⟩ <;> rcases h' with h' | ⟨rfl, rfl, rfl, rfl, rfl⟩
    · exact .inl (by omega)
    · exact .inl h
    · exact .inl h'
    · exact .inr ⟨rfl, rfl, rfl, rfl, rfl⟩
abbrev Env := Nat → Option Gh
def Env.le (E E' : Env) : Prop := ∀ k g, E k = some g → ∃ g', E' k = some g' ∧ g.le g'
theorem Env.le_refl (E : Env) : E.le E := fun k g h => ⟨g, h, g.le_refl⟩
theorem Env.le.trans {E E' E'' : Env} (h : E.le E') (h' : E'.le E'') : E.le E'' := fun k g hk => by
  obtain ⟨g', h1, h2⟩ := h k g hk
  obtain ⟨g'', h3, h4⟩ := h' k g' h1
  exact ⟨g'', h3, h2.trans h4⟩
def Hdr (A : Option Addr) (c n w : Nat) : Option (Nat × Nat) → Value → Prop
  | none, u => u = .slice A n c
  | some (off, m), u => off + m ≤ n ∧ ∃ ad, u = .slice ad m (c - off) ∧ (off < c → ad = A.map (·.add (off * w))) ∧ (off = 0 → ad = A)
mutual
def Is (E : Env) : SV → Value → Prop
  | .any, _ => True
  | .v x, u => u = x
  | .tst p d, u => u = .bool (@decide p d)
  | .nt p d, u => u = .bool (!@decide p d)
  | .ptr k off, u => ∃ b, E k = some (.blk b) ∧ u = .pointer (some ⟨b, off, none⟩)
  | .sl k ver r, u => ∃ v A c n w, E k = some (.row v A c n w) ∧ ver ≤ v ∧ (∃ ad m p, u = .slice ad m p) ∧ (ver = v → Hdr A c n w r u)
  | .el k ver i off, u => ∃ v A c n w, E k = some (.row v A c n w) ∧ ver ≤ v ∧ (∃ ad, u = .pointer (some ad)) ∧ (ver = v → ∃ ad, A = some ad ∧ 0 ≤ i ∧ i < (n : Int) ∧ u = .pointer (some ((ad.add (i.toNat * w)).add off)))
  | .agg l, u => ∃ us : List Value, u = .agg us.toArray ∧ IsL E l us
  | .tup l, u => ∃ us : List Value, u = .tuple us.toArray ∧ IsL E l us
  | .fn f a c, u => ∃ us vs : List Value, u = .func f us.toArray vs.toArray ∧ IsL E a us ∧ IsL E c vs
  | .ifc t x, u => ∃ y, u = .iface t y ∧ Is E x y
def IsL (E : Env) : List SV → List Value → Prop
  | [], [] => True
  | x :: l, u :: us => Is E x u ∧ IsL E l us
  | _, _ => False
end
mutual
theorem Is.mono {E E' : Env} (h : E.le E') : ∀ {x : SV} {u : Value}, Is E x u → Is E' x u
  | .any, _, _ => by simp [Is]
  | .v x, u, hu => by simpa [Is] using hu
  | .tst p d, u, hu => by simpa [Is] using hu
  | .nt p d, u, hu => by simpa [Is] using hu
  | .ptr k off, u, hu => by
    simp only [Is] at hu ⊢
    obtain ⟨b, hb, rfl⟩ := hu
    obtain ⟨g, hg, hl⟩ := h _ _ hb
    cases g with
    | blk b' => simp only [Gh.le] at hl; subst hl; exact ⟨b, hg, rfl⟩
    | row => simp [Gh.le] at hl
  | .sl k ver r, u, hu => by
    simp only [Is] at hu ⊢
    obtain ⟨v, A, c, n, w, hb, h1, h0, h2⟩ := hu
    obtain ⟨g, hg, hl⟩ := h _ _ hb
    cases g with
    | blk b' => simp [Gh.le] at hl
    | row v' A' c' n' w' =>
      simp only [Gh.le] at hl
      rcases hl with hl | ⟨rfl, rfl, rfl, rfl, rfl⟩
      · exact ⟨v', A', c', n', w', hg, by omega, h0, fun e => absurd e (by omega)⟩
      · exact ⟨_, _, _, _, _, hg, h1, h0, h2⟩
  | .el k ver i off, u, hu => by
    simp only [Is] at hu ⊢
    obtain ⟨v, A, c, n, w, hb, h1, h0, h2⟩ := hu
    obtain ⟨g, hg, hl⟩ := h _ _ hb
    cases g with
    | blk b' => simp [Gh.le] at hl
    | row v' A' c' n' w' =>
      simp only [Gh.le] at hl
      rcases hl with hl | ⟨rfl, rfl, rfl, rfl, rfl⟩
      · exact ⟨v', A', c', n', w', hg, by omega, h0, fun e => absurd e (by omega)⟩
      · exact ⟨_, _, _, _, _, hg, h1, h0, h2⟩
  | .agg l, u, hu => by
    simp only [Is] at hu ⊢
    obtain ⟨us, rfl, hl⟩ := hu
    exact ⟨us, rfl, IsL.mono h hl⟩
  | .tup l, u, hu => by
    simp only [Is] at hu ⊢
    obtain ⟨us, rfl, hl⟩ := hu
    exact ⟨us, rfl, IsL.mono h hl⟩
  | .fn f a c, u, hu => by
    simp only [Is] at hu ⊢
    obtain ⟨us, vs, rfl, h1, h2⟩ := hu
    exact ⟨us, vs, rfl, IsL.mono h h1, IsL.mono h h2⟩
  | .ifc t x, u, hu => by
    simp only [Is] at hu ⊢
    obtain ⟨y, rfl, h1⟩ := hu
    exact ⟨y, rfl, Is.mono h h1⟩
theorem IsL.mono {E E' : Env} (h : E.le E') : ∀ {l : List SV} {us : List Value}, IsL E l us → IsL E' l us
  | [], [], _ => by simp [IsL]
  | x :: l, u :: us, hu => by
    simp only [IsL] at hu ⊢
    exact ⟨Is.mono h hu.1, IsL.mono h hu.2⟩
  | [], _ :: _, hu => by simp [IsL] at hu
  | _ :: _, [], hu => by simp [IsL] at hu
end
theorem IsL.len {E : Env} : ∀ {l : List SV} {us : List Value}, IsL E l us → us.length = l.length
  | [], [], _ => rfl
  | x :: l, u :: us, h => by simp only [IsL] at h; simp [IsL.len h.2]
  | [], _ :: _, h => by simp [IsL] at h
  | _ :: _, [], h => by simp [IsL] at h
theorem IsL.get {E : Env} : ∀ {l : List SV} {us : List Value} (i : Nat) {x : SV}, IsL E l us → l[i]? = some x → ∃ u, us[i]? = some u ∧ Is E x u
  | [], [], i, x, _, hx => by simp at hx
  | y :: l, u :: us, 0, x, h, hx => by
    simp only [IsL] at h
    simp at hx
    subst hx
    exact ⟨u, rfl, h.1⟩
  | y :: l, u :: us, i + 1, x, h, hx => by
    simp only [IsL] at h
    simpa using IsL.get i h.2 (by simpa using hx)
  | [], _ :: _, _, _, h, _ => by simp [IsL] at h
  | _ :: _, [], _, _, h, _ => by simp [IsL] at h
theorem IsL.set {E : Env} {x : SV} {u : Value} (hx : Is E x u) : ∀ {l : List SV} {us : List Value} (i : Nat), IsL E l us → IsL E (l.set i x) (us.set i u)
  | [], [], i, _ => by simp [IsL]
  | y :: l, w :: us, 0, h => by simp only [IsL] at h; simp only [List.set_cons_zero, IsL]; exact ⟨hx, h.2⟩
  | y :: l, w :: us, i + 1, h => by simp only [IsL] at h; simp only [List.set_cons_succ, IsL]; exact ⟨h.1, IsL.set hx i h.2⟩
  | [], _ :: _, _, h => by simp [IsL] at h
  | _ :: _, [], _, h => by simp [IsL] at h
theorem IsL.vs {E : Env} : ∀ (us : List Value), IsL E (us.map .v) us
  | [] => by simp [IsL]
  | u :: us => by simp only [List.map_cons, IsL, Is]; exact ⟨trivial, IsL.vs us⟩
theorem IsL.append {E : Env} : ∀ {l l' : List SV} {us us' : List Value}, IsL E l us → IsL E l' us' → IsL E (l ++ l') (us ++ us')
  | [], _, [], _, _, h => by simpa using h
  | x :: l, _, u :: us, _, h, h' => by simp only [IsL] at h; simp only [List.cons_append, IsL]; exact ⟨h.1, IsL.append h.2 h'⟩
  | [], _, _ :: _, _, h, _ => by simp [IsL] at h
  | _ :: _, _, [], _, h, _ => by simp [IsL] at h
theorem IsL.cut {E : Env} : ∀ {l : List SV} {us : List Value} (m : Nat), IsL E l us → IsL E (l.take m) (us.take m) ∧ IsL E (l.drop m) (us.drop m)
  | l, us, 0, h => by simpa [IsL] using h
  | [], [], m + 1, h => by simp [IsL]
  | x :: c, u :: us, m + 1, h => by
    simp only [IsL] at h
    obtain ⟨h1, h2⟩ := IsL.cut m h.2
    simp only [List.take_succ_cons, List.drop_succ_cons, IsL]
    exact ⟨⟨h.1, h1⟩, h2⟩
  | [], _ :: _, _ + 1, h => by simp [IsL] at h
  | _ :: _, [], _ + 1, h => by simp [IsL] at h
theorem IsL.anys {E : Env} : ∀ (us : List Value), IsL E (List.replicate us.length .any) us
  | [] => by simp [IsL]
  | u :: us => by simp only [List.length_cons, List.replicate_succ, IsL, Is]; exact ⟨trivial, IsL.anys us⟩
theorem IsL.split {E : Env} : ∀ {l l' : List SV} {us : List Value}, IsL E (l ++ l') us → ∃ u1 u2, us = u1 ++ u2 ∧ IsL E l u1 ∧ IsL E l' u2
  | [], _, us, h => ⟨[], us, rfl, by simp [IsL], h⟩
  | x :: l, l', [], h => by simp [IsL] at h
  | x :: l, l', u :: us, h => by
    simp only [List.cons_append, IsL] at h
    obtain ⟨u1, u2, rfl, h1, h2⟩ := IsL.split h.2
    exact ⟨u :: u1, u2, rfl, by simp only [IsL]; exact ⟨h.1, h1⟩, h2⟩
mutual
theorem val_is {E : Env} : ∀ {x : SV} {y u : Value}, x.val? = some y → Is E x u → u = y
  | .any, y, u, h, _ => by simp [SV.val?] at h
  | .v x, y, u, h, hu => by simp [SV.val?] at h; simp [Is] at hu; rw [hu, h]
  | .tst p d, y, u, h, hu => by simp [SV.val?] at h; simp [Is] at hu; rw [hu, ← h]
  | .nt p d, y, u, h, hu => by simp [SV.val?] at h; simp [Is] at hu; rw [hu, ← h]
  | .ptr k off, y, u, h, _ => by simp [SV.val?] at h
  | .sl k n r, y, u, h, _ => by simp [SV.val?] at h
  | .el k i s o, y, u, h, _ => by simp [SV.val?] at h
  | .fn f a c, y, u, h, _ => by simp [SV.val?] at h
  | .ifc t x, y, u, h, hu => by
    simp only [SV.val?, Option.map_eq_some_iff] at h
    simp only [Is] at hu
    obtain ⟨z, hz, rfl⟩ := h
    obtain ⟨z', rfl, hl⟩ := hu
    rw [val_is hz hl]
  | .agg l, y, u, h, hu => by
    simp only [SV.val?, Option.map_eq_some_iff] at h
    simp only [Is] at hu
    obtain ⟨us, hus, rfl⟩ := h
    obtain ⟨us', rfl, hl⟩ := hu
    rw [vals_is hus hl]
  | .tup l, y, u, h, hu => by
    simp only [SV.val?, Option.map_eq_some_iff] at h
    simp only [Is] at hu
    obtain ⟨us, hus, rfl⟩ := h
    obtain ⟨us', rfl, hl⟩ := hu
    rw [vals_is hus hl]
theorem vals_is {E : Env} : ∀ {l : List SV} {ys us : List Value}, SV.vals l = some ys → IsL E l us → us = ys
  | [], ys, [], h, _ => by simp [SV.vals] at h; exact h.symm
  | x :: l, ys, u :: us, h, hu => by
    simp only [SV.vals, Option.bind_eq_some_iff, Option.map_eq_some_iff] at h
    simp only [IsL] at hu
    obtain ⟨y, hy, ys', hys, rfl⟩ := h
    rw [val_is hy hu.1, vals_is hys hu.2]
  | [], ys, _ :: _, _, hu => by simp [IsL] at hu
  | _ :: _, ys, [], _, hu => by simp [IsL] at hu
end
theorem cells_is {E : Env} {x : SV} {cs : List SV} {u : Value} (h : x.cells = some cs) (hu : Is E x u) : ∃ us : List Value, u.cells = us.toArray ∧ IsL E cs us := by
  cases x with
  | any => simp [SV.cells] at h
  | v x =>
    simp [SV.cells] at h
    simp [Is] at hu
    subst h hu
    exact ⟨u.cells.toList, by simp, IsL.vs _⟩
  | agg l =>
    simp [SV.cells] at h
    simp only [Is] at hu
    obtain ⟨us, rfl, hl⟩ := hu
    subst h
    exact ⟨us, rfl, hl⟩
  | tup l => simp [SV.cells] at h
  | _ =>
    simp [SV.cells] at h
    subst h
    refine ⟨[u], ?_, by simp only [IsL]; exact ⟨hu, trivial⟩⟩
    simp only [Is] at hu
    first
      | (subst hu; rfl)
      | (obtain ⟨_, _, rfl⟩ := hu; rfl)
      | (obtain ⟨_, rfl, _⟩ := hu; rfl)
      | (obtain ⟨_, _, rfl, _⟩ := hu; rfl)
      | (obtain ⟨_, _, _, _, _, _, _, ⟨_, _, _, rfl⟩, _⟩ := hu; rfl)
      | (obtain ⟨_, _, _, _, _, _, _, ⟨_, rfl⟩, _⟩ := hu; rfl)
theorem oc_one {E : Env} {x : SV} {u : Value} (h : Is E x u) (h1 : ocSV x = true) : u.oneCell' = true := by
  cases x <;> simp only [ocSV, reduceCtorEq, Bool.false_eq_true] at h1 <;> simp only [Is] at h
  · rw [h]; exact h1
  · rw [h]; rfl
  · rw [h]; rfl
  · obtain ⟨_, _, rfl⟩ := h; rfl
  · obtain ⟨_, _, _, _, _, _, _, ⟨_, _, _, rfl⟩, _⟩ := h; rfl
  · obtain ⟨_, _, _, _, _, _, _, ⟨_, rfl⟩, _⟩ := h; rfl
  · obtain ⟨_, _, rfl, _⟩ := h; rfl
  · obtain ⟨_, rfl, _⟩ := h; rfl
theorem oc_all {E : Env} : ∀ {l : List SV} {us : List Value}, IsL E l us → l.all ocSV = true → ∀ u ∈ us, u.oneCell' = true
  | [], [], _, _ => by simp
  | x :: l, u :: us, h, h1 => by
    simp only [IsL] at h
    simp only [List.all_cons, Bool.and_eq_true] at h1
    intro v hv
    rcases List.mem_cons.1 hv with rfl | hv
    · exact oc_one h.1 h1.1
    · exact oc_all h.2 h1.2 v hv
  | [], _ :: _, h, _ => by simp [IsL] at h
  | _ :: _, [], h, _ => by simp [IsL] at h
def RepL (H : Hp) (e : Ty) : List e.D → List Value → Prop
  | [], cs => cs = []
  | x :: l, cs => ∃ c r, cs = c ++ r ∧ Rep H e x c ∧ RepL H e l r
theorem RepL.mono {H H' : Hp} (h : H.le H') {e : Ty} : ∀ {l : List e.D} {cs : List Value}, RepL H e l cs → RepL H' e l cs
  | [], _, hr => hr
  | x :: l, cs, ⟨c, r, h1, h2, h3⟩ => ⟨c, r, h1, h2.mono h, RepL.mono h h3⟩
theorem RepL.len {H : Hp} {e : Ty} : ∀ {l : List e.D} {cs : List Value}, RepL H e l cs → cs.length = l.length * e.w
  | [], _, hr => by rw [show _ = _ from hr]; simp
  | x :: l, cs, ⟨c, r, h1, h2, h3⟩ => by rw [h1, List.length_append, h2.len, RepL.len h3, List.length_cons, Nat.add_mul, Nat.one_mul, Nat.add_comm]
theorem RepL.one {H : Hp} {e : Ty} : ∀ {l : List e.D} {cs : List Value}, RepL H e l cs → ∀ u ∈ cs, u.oneCell' = true
  | [], _, hr => by rw [show _ = _ from hr]; simp
  | x :: l, cs, ⟨c, r, h1, h2, h3⟩ => by
    rw [h1]; intro u hu
    rcases List.mem_append.1 hu with hu | hu
    · exact h2.one u hu
    · exact RepL.one h3 u hu
theorem RepL.append {H : Hp} {e : Ty} : ∀ {l l' : List e.D} {cs cs' : List Value}, RepL H e l cs → RepL H e l' cs' → RepL H e (l ++ l') (cs ++ cs')
  | [], _, _, _, hr, h' => by rw [show _ = _ from hr]; simpa using h'
  | x :: l, _, _, _, ⟨c, r, h1, h2, h3⟩, h' => ⟨c, r ++ _, by rw [h1, List.append_assoc], h2, RepL.append h3 h'⟩
theorem RepL.get {H : Hp} {e : Ty} : ∀ {l : List e.D} {cs : List Value}, RepL H e l cs → ∀ (i : Nat) (x : e.D), l[i]? = some x → ∃ c, Rep H e x c ∧ ∀ j u, c[j]? = some u → cs[i * e.w + j]? = some u
  | y :: l, cs, ⟨c, r, h1, h2, h3⟩, 0, x, hx => by
    simp at hx; subst hx
    refine ⟨c, h2, fun j u hj => ?_⟩
    rw [h1, Nat.zero_mul, Nat.zero_add, List.getElem?_append_left (List.getElem?_eq_some_iff.1 hj).1]
    exact hj
  | y :: l, cs, ⟨c, r, h1, h2, h3⟩, i + 1, x, hx => by
    obtain ⟨c', hc, hu⟩ := RepL.get h3 i x (by simpa using hx)
    refine ⟨c', hc, fun j u hj => ?_⟩
    have hl := h2.len
    rw [h1, List.getElem?_append_right (by rw [hl, Nat.add_mul]; omega), ← hu j u hj]
    congr 1
    rw [hl, Nat.add_mul]; omega
  | [], _, _, i, x, hx => by simp at hx
theorem RepL.set {H : Hp} {e : Ty} : ∀ {l : List e.D} {cs : List Value}, RepL H e l cs → ∀ (i : Nat) (x : e.D) (c : List Value), i < l.length → Rep H e x c → RepL H e (l.set i x) (cs.take (i * e.w) ++ (c ++ cs.drop (i * e.w + c.length)))
  | y :: l, cs, ⟨c0, r, h1, h2, h3⟩, 0, x, c, _, hc => by
    refine ⟨c, r, ?_, hc, h3⟩
    rw [Nat.zero_mul, List.take_zero, List.nil_append, Nat.zero_add, h1, hc.len, ← h2.len, List.drop_left]
  | y :: l, cs, ⟨c0, r, h1, h2, h3⟩, i + 1, x, c, hi, hc => by
    have hl := h2.len
    refine ⟨c0, _, ?_, h2, RepL.set h3 i x c (by simpa using hi) hc⟩
    have e1 : (i + 1) * e.w = c0.length + i * e.w := by rw [hl, Nat.add_mul]; omega
    rw [h1, e1, List.take_append, List.take_of_length_le (by omega), Nat.add_sub_cancel_left, List.append_assoc, Nat.add_assoc, List.drop_append, List.drop_of_length_le (by omega), List.nil_append, Nat.add_sub_cancel_left]
  | [], _, _, i, x, c, hi, _ => by simp at hi
theorem RepL.cut {H : Hp} {e : Ty} : ∀ {l : List e.D} {cs : List Value}, RepL H e l cs → ∀ (i : Nat), RepL H e (l.take i) (cs.take (i * e.w)) ∧ RepL H e (l.drop i) (cs.drop (i * e.w))
  | l, cs, h, 0 => by simpa [RepL] using h
  | [], cs, h, i + 1 => by rw [show cs = _ from h]; simp [RepL]
  | y :: l, cs, ⟨c0, r, h1, h2, h3⟩, i + 1 => by
    obtain ⟨q1, q2⟩ := RepL.cut h3 i
    have hl := h2.len
    have e1 : (i + 1) * e.w = c0.length + i * e.w := by rw [hl, Nat.add_mul]; omega
    have t1 : (c0 ++ r).take (c0.length + i * e.w) = c0 ++ r.take (i * e.w) := by rw [List.take_append, List.take_of_length_le (by omega), Nat.add_sub_cancel_left]
    have t2 : (c0 ++ r).drop (c0.length + i * e.w) = r.drop (i * e.w) := by rw [List.drop_append, List.drop_of_length_le (by omega), List.nil_append, Nat.add_sub_cancel_left]
    rw [h1, e1, t1, t2]
    exact ⟨⟨c0, _, rfl, h2, q1⟩, q2⟩
theorem RepL.rep {H : Hp} {e : Ty} {x : e.D} {c : List Value} (h : Rep H e x c) : ∀ n, RepL H e (List.replicate n x) (List.replicate n c).flatten
  | 0 => rfl
  | n + 1 => ⟨c, _, by simp [List.replicate_succ], h, RepL.rep h n⟩
end Go.Proofs.Ytlbicmdfdpcdiaa.Vm
-- Printed by a program of this session's; Lean checks it.
set_option linter.unusedVariables false
set_option linter.unusedSimpArgs false
namespace Go.Proofs.Ytlbicmdfdpcdiaa.Vm
open Go.RowKit
structure Gs where
  E : Env
  ow : Nat → Nat
open Classical in
noncomputable def hp (O : Nat → Prop) (G : Gs) (w : World) : Hp := fun b => if O b ∨ G.ow b = 1 then w.heap[b]? else none
theorem hp_cell {O : Nat → Prop} {G : Gs} {w : World} {a : Addr} {v : Value} (h : (hp O G w).cell a = some v) : w.cell? a = some v := by
  unfold Hp.cell hp at h
  unfold World.cell?
  split at h
  · rename_i c t f e
    split at e
    · rw [e]; exact h
    · cases e
  · cases h
theorem hp_of {O : Nat → Prop} {G : Gs} {w : World} {b : Nat} (h : O b ∨ G.ow b = 1) : hp O G w b = w.heap[b]? := by unfold hp; rw [if_pos h]
def Ho (O : Nat → Prop) (w0 : World) (G : Gs) (k : Nat) (w : World) : SO → Prop
  | .dead => G.E k = none
  | .box t cs => ∃ b us, G.E k = some (.blk b) ∧ G.ow b = k + 2 ∧ w.heap[b]? = some (.cells us.toArray t (0, 0)) ∧ IsL G.E cs us ∧ ∀ u ∈ us, u.oneCell' = true
  | .row none e ver l => ∃ ad cp, G.E k = some (.row ver ad cp l.length e.w) ∧ l.length ≤ cp ∧ RowAt (hp O G w) e ad l
  | .row (some t) e ver l => ∃ ad cp xs, G.E k = some (.row ver ad cp l.length e.w) ∧ w.ownsRow w0.heap.size t e.w (.slice ad l.length cp) l.length xs ∧ (∀ g, ad = some g → G.ow g.block = k + 2) ∧ RepL (hp O G w) e l xs
structure Sat (O : Nat → Prop) (w0 : World) (S : St) (G : Gs) (K : List Value) (a : Act) (w : World) : Prop where
  tm : IsL G.E S.t a.tmps.toList
  sk : IsL G.E S.k K
  df : a.defers = []
  bl : Below w0.heap.size w0 w
  ol : ∀ b, O b → b < w0.heap.size
  lt : ∀ b, G.ow b ≠ 0 → w0.heap.size ≤ b ∧ b < w.heap.size
  ob : ∀ k o, S.h[k]? = some o → Ho O w0 G k w o
  fr : ∀ k, S.h[k]? = none → G.E k = none
section
variable {O : Nat → Prop} {w0 : World} {S : St} {G : Gs} {K : List Value} {a : Act} {w : World}
theorem own_move {w w1 : World} {base : Nat} {e : TypeId} {size n m cp : Nat} {ad : Option Addr} {xs : List Value} (h : w.ownsRow base e size (.slice ad m cp) n xs) (hm : ∀ g, ad = some g → w1.heap[g.block]? = w.heap[g.block]?) : w1.ownsRow base e size (.slice ad m cp) n xs := by
  obtain ⟨h1, h2⟩ := h
  refine ⟨h1, ?_⟩
  rcases h2 with h2 | ⟨g, cap, cur, he, hg, hh, r⟩
  · exact .inl h2
  · simp only [Value.slice.injEq] at he
    obtain ⟨rfl, rfl, rfl⟩ := he
    exact .inr ⟨g, cp, cur, rfl, hg, (hm _ rfl).trans hh, r⟩
theorem Sat.upd (h : Sat O w0 S G K a w) {k : Nat} {o o' : SO} (hk : S.h[k]? = some o) {w' : World} {G' : Gs} (hb : Below w0.heap.size w0 w') (hs : w.heap.size ≤ w'.heap.size)
    (hE : ∀ j, j ≠ k → G'.E j = G.E j) (hle : ∀ g, G.E k = some g → ∃ g', G'.E k = some g' ∧ g.le g') (ho : ∀ b, G.ow b ≠ 0 → G.ow b ≠ k + 2 → G'.ow b = G.ow b)
    (hn : ∀ b, G'.ow b ≠ 0 → (G.ow b ≠ 0 ∨ (w0.heap.size ≤ b ∧ b < w'.heap.size))) (hw : ∀ b, G.ow b ≠ 0 → G.ow b ≠ k + 2 → w'.heap[b]? = w.heap[b]?)
    (hob : G.E.le G'.E → (hp O G w).le (hp O G' w') → Ho O w0 G' k w' o') : Sat O w0 { S with h := S.h.set k o' } G' K a w' ∧ G.E.le G'.E := by
  have hl : G.E.le G'.E := fun j g hj => by
    by_cases e : j = k
    · subst e; exact hle g hj
    · exact ⟨g, (hE j e).trans hj, g.le_refl⟩
  have hH : (hp O G w).le (hp O G' w') := fun b o hbo => by
    unfold hp at hbo
    split at hbo
    · rename_i hc
      rcases hc with hc | hc
      · rw [hp_of (.inl hc), hb.block b (h.ol b hc), ← h.bl.block b (h.ol b hc)]; exact hbo
      · rw [hp_of (.inr ((ho b (by omega) (by omega)).trans hc)), hw b (by omega) (by omega)]; exact hbo
    · cases hbo
  have hklt : k < S.h.length := (List.getElem?_eq_some_iff.1 hk).1
  refine ⟨{ tm := h.tm.mono hl, sk := h.sk.mono hl, df := h.df, bl := hb, ol := h.ol, lt := fun b hb' => ?_, ob := fun j p hj => ?_, fr := fun j hj => ?_ }, hl⟩
  · rcases hn b hb' with h1 | h1
    · have := h.lt b h1; exact ⟨this.1, by omega⟩
    · exact h1
  · by_cases e : j = k
    · subst e
      simp only [List.getElem?_set, hklt, if_true, Option.some.injEq] at hj
      subst hj
      exact hob hl hH
    · rw [List.getElem?_set, if_neg (Ne.symm e)] at hj
      have h1 := h.ob j p hj
      cases p with
      | dead => exact (hE j e).trans h1
      | box t cs =>
        obtain ⟨b, us, q1, q2, q3, q4, q5⟩ := h1
        exact ⟨b, us, (hE j e).trans q1, (ho b (by omega) (by omega)).trans q2, (hw b (by omega) (by omega)).trans q3, q4.mono hl, q5⟩
      | row ow e' ver l =>
        cases ow with
        | none =>
          obtain ⟨ad, cp, q1, q2, q3⟩ := h1
          exact ⟨ad, cp, (hE j e).trans q1, q2, q3.mono hH⟩
        | some t =>
          obtain ⟨ad, cp, xs, q1, q2, q3, q4⟩ := h1
          refine ⟨ad, cp, xs, (hE j e).trans q1, own_move q2 (fun g hg => ?_), fun g hg => ?_, q4.mono hH⟩
          · have := q3 g hg; exact hw g.block (by omega) (by omega)
          · have := q3 g hg; exact (ho g.block (by omega) (by omega)).trans this
  · have hjl : S.h.length ≤ j := by simpa using hj
    exact (hE j (by omega)).trans (h.fr j (List.getElem?_eq_none hjl))
theorem Sat.world (h : Sat O w0 S G K a w) {w1 : World} (hb : Below w.heap.size w w1) : Sat O w0 S G K a w1 := by
  have hw : ∀ b, G.ow b ≠ 0 → w1.heap[b]? = w.heap[b]? := fun b hb' => hb.block b (h.lt b hb').2
  have hH : (hp O G w).le (hp O G w1) := fun b o hbo => by
    unfold hp at hbo ⊢
    split at hbo
    · rename_i hc
      rw [if_pos hc]
      rcases hc with hc | hc
      · rw [hb.block b (Nat.lt_of_lt_of_le (h.ol b hc) h.bl.size)]; exact hbo
      · rw [hw b (by omega)]; exact hbo
    · cases hbo
  refine { tm := h.tm, sk := h.sk, df := h.df, bl := h.bl.trans (hb.mono h.bl.size), ol := h.ol, lt := fun b hb' => ⟨(h.lt b hb').1, Nat.lt_of_lt_of_le (h.lt b hb').2 hb.size⟩, ob := fun j p hj => ?_, fr := h.fr }
  have h1 := h.ob j p hj
  cases p with
  | dead => exact h1
  | box t cs =>
    obtain ⟨b, us, q1, q2, q3, q4, q5⟩ := h1
    exact ⟨b, us, q1, q2, (hw b (by omega)).trans q3, q4, q5⟩
  | row ow e' ver l =>
    cases ow with
    | none =>
      obtain ⟨ad, cp, q1, q2, q3⟩ := h1
      exact ⟨ad, cp, q1, q2, q3.mono hH⟩
    | some t =>
      obtain ⟨ad, cp, xs, q1, q2, q3, q4⟩ := h1
      exact ⟨ad, cp, xs, q1, own_move q2 (fun g hg => hw g.block (by have := q3 g hg; omega)), q3, q4.mono hH⟩
theorem Sat.put (h : Sat O w0 S G K a w) (dst : Option Tmp) {x : SV} {u : Value} (hx : Is G.E x u) : Sat O w0 { S with t := setT S.t dst x } G K (a.put dst u) w := by
  cases dst with
  | none => exact h
  | some d => exact { tm := by simpa [Act.put, setT] using IsL.set hx d h.tm, sk := h.sk, df := h.df, bl := h.bl, ol := h.ol, lt := h.lt, ob := h.ob, fr := h.fr }
theorem Sat.op (h : Sat O w0 S G K a w) (x : Operand) : Is G.E (S.op x) (a.eval x) := by
  cases x with
  | tmp t =>
    simp only [St.op, Act.eval]
    cases hx : S.t[t]? with
    | none => simp [List.getD_eq_getElem?_getD, hx, Is]
    | some x =>
      obtain ⟨u, hu, hi⟩ := IsL.get t h.tm hx
      rw [List.getD_eq_getElem?_getD, hx, Array.getD_eq_getD_getElem?]
      rw [Array.getElem?_toList] at hu
      rw [hu]
      exact hi
  | const v => simp [St.op, Act.eval, Is]
  | global g => simp [St.op, Act.eval, Is]
  | func f => simp [St.op, Act.eval, Is]
theorem Sat.free (h : Sat O w0 S G K a w) {k : Nat} (hk : S.h[k]? = some .dead) : G.E k = none := h.ob k _ hk
theorem Sat.box (h : Sat O w0 S G K a w) {k : Nat} (hk : S.h[k]? = some .dead) (t : TypeId) {cs : List SV} {us : List Value} (hu : IsL G.E cs us) (h1 : ∀ u ∈ us, u.oneCell' = true) :
    ∃ G', G.E.le G'.E ∧ G'.E k = some (.blk w.heap.size) ∧ Sat O w0 { S with h := S.h.set k (.box t cs) } G' K a (w.alloc (.cells us.toArray t)) := by
  have hE := h.free hk
  have hb : Below w.heap.size w (w.alloc (.cells us.toArray t)) := (Below.refl _ _).alloc (Nat.le_refl _) _
  have hsz : (w.alloc (.cells us.toArray t)).heap.size = w.heap.size + 1 := by simp
  have hwo : ∀ b, G.ow b ≠ 0 → b < w.heap.size := fun b hb => (h.lt b hb).2
  obtain ⟨h2, h3⟩ := h.upd hk (w' := w.alloc (.cells us.toArray t)) (o' := .box t cs) (G' := ⟨fun j => if j = k then some (.blk w.heap.size) else G.E j, fun b => if b = w.heap.size then k + 2 else G.ow b⟩)
    (h.bl.trans (hb.mono h.bl.size)) hb.size (fun j hj => by simp [hj]) (fun g hg => by rw [hE] at hg; cases hg)
    (fun b h1 _ => by have := hwo b h1; simp; omega) (fun b h1 => by
      by_cases e : b = w.heap.size
      · exact .inr ⟨by have := h.bl.size; omega, by omega⟩
      · simp [e] at h1; exact .inl h1)
    (fun b h1 _ => hb.block b (hwo b h1)) (fun hl _ => ⟨w.heap.size, us, by simp, by simp, heap_alloc_new w _, hu.mono hl, h1⟩)
  exact ⟨_, h3, by simp, h2⟩
theorem Sat.lend (h : Sat O w0 S G K a w) {k : Nat} (hk : S.h[k]? = some .dead) {e : Ty} {l : List e.D} {ad : Option Addr} {cp : Nat} (hl : l.length ≤ cp) (hC : RowAt (hp O G w) e ad l) :
    ∃ G', G.E.le G'.E ∧ G'.E k = some (.row 0 ad cp l.length e.w) ∧ G'.ow = G.ow ∧ Sat O w0 { S with h := S.h.set k (.row none e 0 l) } G' K a w := by
  have hE := h.free hk
  obtain ⟨h2, h3⟩ := h.upd hk (w' := w) (o' := .row none e 0 l) (G' := ⟨fun j => if j = k then some (.row 0 ad cp l.length e.w) else G.E j, G.ow⟩)
    h.bl (Nat.le_refl _) (fun j hj => by simp [hj]) (fun g hg => by rw [hE] at hg; cases hg) (fun b _ _ => rfl) (fun b h1 => .inl h1) (fun b _ _ => rfl)
    (fun _ hH => ⟨ad, cp, by simp, hl, hC.mono hH⟩)
  exact ⟨_, h3, by simp, rfl, h2⟩
theorem own_cp {w : World} {base t size n m cp : Nat} {ad : Option Addr} {xs : List Value} (h : w.ownsRow base t size (.slice ad m cp) n xs) : n ≤ cp ∧ m = n := by
  rcases h.2 with ⟨he, h0⟩ | ⟨g, cap, cur, he, _, _, hnc, _⟩
  · simp only [Value.slice.injEq] at he; omega
  · simp only [Value.slice.injEq] at he; omega
theorem Sat.own (h : Sat O w0 S G K a w) {k : Nat} (hk : S.h[k]? = some .dead) {t : TypeId} {e : Ty} {l : List e.D} {ad : Option Addr} {cp : Nat} {xs : List Value} {w' : World} (hg : w.grownBy w' none)
    (ho : w'.ownsRow w0.heap.size t e.w (.slice ad l.length cp) l.length xs) (hn : ad = none ∨ ∃ p, ad = some p ∧ p.block = w.heap.size) (hr : RepL (hp O G w) e l xs) :
    ∃ G', G.E.le G'.E ∧ G'.E k = some (.row 0 ad cp l.length e.w) ∧ Sat O w0 { S with h := S.h.set k (.row (some t) e 0 l) } G' K a w' := by
  have hE := h.free hk
  have hb : Below w0.heap.size w0 w' := h.bl.grown hg h.bl.size (fun k hk => by cases hk)
  have hwo : ∀ b, G.ow b ≠ 0 → b < w.heap.size := fun b hb => (h.lt b hb).2
  have how : ∀ g, ad = some g → (fun b => if b = w.heap.size ∧ b < w'.heap.size then k + 2 else G.ow b) g.block = k + 2 := fun g hg' => by
    rcases hn with hn | ⟨p, hp, hpb⟩
    · rw [hn] at hg'; cases hg'
    · rw [hp] at hg'; cases hg'
      have hlt : g.block < w'.heap.size := (World.ownsRow.lt ho g.block (by rw [hp]; rfl)).2
      simp [hpb]; omega
  obtain ⟨h2, h3⟩ := h.upd hk (w' := w') (o' := .row (some t) e 0 l) (G' := ⟨fun j => if j = k then some (.row 0 ad cp l.length e.w) else G.E j, fun b => if b = w.heap.size ∧ b < w'.heap.size then k + 2 else G.ow b⟩)
    hb hg.size (fun j hj => by simp [hj]) (fun g hg => by rw [hE] at hg; cases hg)
    (fun b h1 _ => by have := hwo b h1; simp; omega) (fun b h1 => by
      by_cases e : b = w.heap.size ∧ b < w'.heap.size
      · exact .inr ⟨by have := h.bl.size; omega, e.2⟩
      · simp [e] at h1; exact .inl h1)
    (fun b h1 _ => hg.block b (hwo b h1) (by simp)) (fun hl hH => ⟨ad, cp, xs, by simp, ho, how, hr.mono hH⟩)
  exact ⟨_, h3, by simp, h2⟩
theorem Sat.own_set (h : Sat O w0 S G K a w) {k : Nat} {t : TypeId} {e : Ty} {ver : Nat} {l l' : List e.D} (hk : S.h[k]? = some (.row (some t) e ver l)) (hl : l'.length = l.length) {ad : Option Addr} {cp : Nat} (hE : G.E k = some (.row ver ad cp l.length e.w)) {xs : List Value} {w' : World}
    (hg : w.grownBy w' (ad.map (·.block))) (how : ∀ g, ad = some g → G.ow g.block = k + 2) (ho : w'.ownsRow w0.heap.size t e.w (.slice ad l.length cp) l.length xs) (hr : RepL (hp O G w) e l' xs) : Sat O w0 { S with h := S.h.set k (.row (some t) e ver l') } G K a w' := by
  have hwo : ∀ b, G.ow b ≠ 0 → b < w.heap.size := fun b hb => (h.lt b hb).2
  have hb : Below w0.heap.size w0 w' := h.bl.grown hg h.bl.size (fun j hj => by
    obtain ⟨g, hg', rfl⟩ := Option.map_eq_some_iff.1 hj
    exact (h.lt g.block (by rw [how g hg']; omega)).1)
  refine (h.upd hk (w' := w') (o' := .row (some t) e ver l') (G' := G) hb hg.size (fun _ _ => rfl) (fun g hg => ⟨g, hg, g.le_refl⟩) (fun _ _ _ => rfl) (fun b h1 => .inl h1)
    (fun b h1 h2 => hg.block b (hwo b h1) (fun e => by
      obtain ⟨g, hg', e2⟩ := Option.map_eq_some_iff.1 e.symm
      subst e2
      exact h2 (how g hg'))) (fun _ hH => ⟨ad, cp, xs, by rw [hl]; exact hE, by rw [hl]; exact ho, how, hr.mono hH⟩)).1
theorem Sat.own_app (h : Sat O w0 S G K a w) {k : Nat} {t : TypeId} {e : Ty} {ver : Nat} {l l' : List e.D} (hk : S.h[k]? = some (.row (some t) e ver l)) {ad ad' : Option Addr} {cp cp' : Nat} (hE : G.E k = some (.row ver ad cp l.length e.w)) {xs : List Value} {w' : World}
    (hg : w.grownBy w' (ad.map (·.block))) (how : ∀ g, ad = some g → G.ow g.block = k + 2) (ho : w'.ownsRow w0.heap.size t e.w (.slice ad' l'.length cp') l'.length xs) (hn : (ad'.map (·.block) = ad.map (·.block)) ∨ ad'.map (·.block) = some w.heap.size) (hr : RepL (hp O G w) e l' xs) :
    ∃ G', G.E.le G'.E ∧ G'.E k = some (.row (ver + 1) ad' cp' l'.length e.w) ∧ Sat O w0 { S with h := S.h.set k (.row (some t) e (ver + 1) l') } G' K a w' := by
  have hwo : ∀ b, G.ow b ≠ 0 → b < w.heap.size := fun b hb => (h.lt b hb).2
  have hb : Below w0.heap.size w0 w' := h.bl.grown hg h.bl.size (fun j hj => by
    obtain ⟨g, hg', rfl⟩ := Option.map_eq_some_iff.1 hj
    exact (h.lt g.block (by rw [how g hg']; omega)).1)
  have how' : ∀ g, ad' = some g → (fun b => if b = w.heap.size ∧ b < w'.heap.size then k + 2 else G.ow b) g.block = k + 2 := fun g hg' => by
    have hlt : g.block < w'.heap.size := (World.ownsRow.lt ho g.block (by rw [hg']; rfl)).2
    subst hg'
    rcases hn with hn | hn
    · obtain ⟨p, hp, hpb⟩ := Option.map_eq_some_iff.1 hn.symm
      have h4 := how p hp
      have hpb' : p.block = g.block := hpb
      rw [hpb'] at h4
      have := hwo g.block (by omega)
      simp; omega
    · have hn' : g.block = w.heap.size := by simpa using hn
      simp [hn']; omega
  obtain ⟨h2, h3⟩ := h.upd hk (w' := w') (o' := .row (some t) e (ver + 1) l') (G' := ⟨fun j => if j = k then some (.row (ver + 1) ad' cp' l'.length e.w) else G.E j, fun b => if b = w.heap.size ∧ b < w'.heap.size then k + 2 else G.ow b⟩)
    hb hg.size (fun j hj => by simp [hj]) (fun g hg => by rw [hE] at hg; cases hg; exact ⟨.row (ver + 1) ad' cp' l'.length e.w, by simp, by simp [Gh.le]⟩)
    (fun b h1 _ => by have := hwo b h1; simp; omega) (fun b h1 => by
      by_cases e : b = w.heap.size ∧ b < w'.heap.size
      · exact .inr ⟨by have := h.bl.size; omega, e.2⟩
      · simp [e] at h1; exact .inl h1)
    (fun b h1 h2 => hg.block b (hwo b h1) (fun e => by
      obtain ⟨g, hg', e2⟩ := Option.map_eq_some_iff.1 e.symm
      subst e2
      exact h2 (how g hg'))) (fun hl hH => ⟨ad', cp', xs, by simp, ho, how', hr.mono hH⟩)
  exact ⟨_, h3, by simp, h2⟩
theorem own_rowAt {H : Hp} {w : World} {base t n cp : Nat} {e : Ty} {ad : Option Addr} {l : List e.D} {xs : List Value} (h : w.ownsRow base t e.w (.slice ad n cp) l.length xs) (hr : RepL H e l xs) (hH : ∀ g, ad = some g → H g.block = w.heap[g.block]?) : RowAt H e ad l := by
  intro hp
  rcases h.2 with ⟨_, h0⟩ | ⟨g, cap, cur, he, _, hh, _, _, _, htk⟩
  · omega
  · simp only [Value.slice.injEq] at he
    obtain ⟨rfl, _, _⟩ := he
    refine ⟨_, rfl, fun i x hi => ?_⟩
    obtain ⟨c, hc, hu⟩ := hr.get i x hi
    refine ⟨c, hc, fun j u hj => ?_⟩
    have h1 := hu j u hj
    rw [← htk, List.getElem?_take] at h1
    split at h1
    · have : (⟨g, 0, none⟩ : Addr).add (i * e.w + j) = ⟨g, i * e.w + j, none⟩ := by rw [Addr.add_lit, Nat.zero_add]
      rw [this]
      simp only [Hp.cell, hH _ rfl, hh]
      simpa using h1
    · cases h1
open Classical in
theorem Sat.frz1 (h : Sat O w0 S G K a w) {k : Nat} {t : TypeId} {e : Ty} {ver : Nat} {l : List e.D} (hk : S.h[k]? = some (.row (some t) e ver l)) :
    ∃ G' : Gs, G'.E = G.E ∧ (∀ b, G.ow b = 1 → G'.ow b = 1) ∧ Sat O w0 { S with h := S.h.set k (.row none e ver l) } G' K a w := by
  obtain ⟨ad, cp, xs, hE, ho, how, hr⟩ := h.ob k _ hk
  obtain ⟨h2, h3⟩ := h.upd hk (w' := w) (o' := .row none e ver l) (G' := ⟨G.E, fun b => if ∃ g, ad = some g ∧ g.block = b then 1 else G.ow b⟩)
    h.bl (Nat.le_refl _) (fun _ _ => rfl) (fun g hg => ⟨g, hg, g.le_refl⟩) (fun b h1 h2 => by
      dsimp only
      rw [if_neg]
      rintro ⟨g, hg, rfl⟩
      exact h2 (how g hg)) (fun b h1 => .inl (by
      intro e
      apply h1
      dsimp only
      split
      · rename_i hx; obtain ⟨g, hg, rfl⟩ := hx; have := how g hg; omega
      · exact e)) (fun _ _ _ => rfl) (fun _ hH => ⟨ad, cp, hE, (own_cp ho).1, own_rowAt ho (hr.mono hH) (fun g hg => hp_of (.inr (by dsimp only; rw [if_pos ⟨g, hg, rfl⟩])))⟩)
  refine ⟨⟨G.E, fun b => if ∃ g, ad = some g ∧ g.block = b then 1 else G.ow b⟩, rfl, ?_, h2⟩
  intro b hb
  dsimp only
  split
  · rfl
  · exact hb
end
end Go.Proofs.Ytlbicmdfdpcdiaa.Vm
-- Printed by a program of this session's; Lean checks it.
set_option linter.unusedVariables false
set_option linter.unusedSimpArgs false
namespace Go.Proofs.Ytlbicmdfdpcdiaa.Vm
open Go.RowKit
theorem add_add (ad : Addr) (m j : Nat) : (ad.add m).add j = ad.add (m + j) := by
  unfold Addr.add
  by_cases hm : m = 0 <;> by_cases hj : j = 0 <;> simp_all
  omega
def Rd (H : Hp) (E : Env) (h : List SO) (k : Nat) : Prop := ∀ o e ver l, h[k]? = some (.row o e ver l) → ∃ ad cp, E k = some (.row ver ad cp l.length e.w) ∧ l.length ≤ cp ∧ RowAt H e ad l
theorem rowAt_rng {H : Hp} {e : Ty} {ad : Option Addr} {cp : Nat} {l : List e.D} (hl : l.length ≤ cp) (h : RowAt H e ad l) {r : Option (Nat × Nat)} {u : Value} (hu : Hdr ad cp l.length e.w r u) : ∃ ad' cp', u = .slice ad' (rng r l).length cp' ∧ (rng r l).length ≤ cp' ∧ RowAt H e ad' (rng r l) := by
  cases r with
  | none => exact ⟨ad, cp, hu, hl, h⟩
  | some q =>
    obtain ⟨off, m⟩ := q
    obtain ⟨h1, ad', rfl, h2, _⟩ := hu
    have hlen : (rng (some (off, m)) l).length = m := by simp [rng]; omega
    refine ⟨ad', cp - off, by rw [hlen], by omega, fun hp => ?_⟩
    rw [hlen] at hp
    obtain ⟨a, ha, hx⟩ := h (by omega)
    subst ha
    refine ⟨a.add (off * e.w), by simpa using h2 (by omega), fun i x hi => ?_⟩
    have hi' : l[off + i]? = some x := by
      simp only [rng, List.getElem?_take, List.getElem?_drop] at hi
      split at hi
      · exact hi
      · cases hi
    obtain ⟨c, hc, hcell⟩ := hx (off + i) x hi'
    refine ⟨c, hc, fun j v hj => ?_⟩
    rw [add_add, ← Nat.add_assoc, ← Nat.add_mul]
    exact hcell j v hj
theorem rowOf_some {h : List SO} {x : SV} {R : RowV} (hx : rowOf h x = some R) : x = .sl R.k R.ver R.r ∧ h[R.k]? = some (.row R.o R.e R.ver R.l) := by
  unfold rowOf at hx
  split at hx
  · split at hx
    · rename_i e
      split at hx
      · rename_i hv
        cases hx
        exact ⟨rfl, by rw [e, hv]⟩
      · cases hx
    · cases hx
  · cases hx
theorem sl_hdr {H : Hp} {E : Env} {h : List SO} {x : SV} {R : RowV} (hx : rowOf h x = some R) (hR : Rd H E h R.k) {u : Value} (hu : Is E x u) : ∃ ad cp, E R.k = some (.row R.ver ad cp R.l.length R.e.w) ∧ R.l.length ≤ cp ∧ RowAt H R.e ad R.l ∧ Hdr ad cp R.l.length R.e.w R.r u := by
  obtain ⟨rfl, hk⟩ := rowOf_some hx
  obtain ⟨ad, cp, h1, h2, h3⟩ := hR _ _ _ _ hk
  simp only [Is] at hu
  obtain ⟨v, A, c, n, w, q1, q2, _, q3⟩ := hu
  rw [h1] at q1
  simp only [Option.some.injEq, Gh.row.injEq] at q1
  obtain ⟨rfl, rfl, rfl, rfl, rfl⟩ := q1
  exact ⟨ad, cp, h1, h2, h3, q3 rfl⟩
theorem unl_rep {H : Hp} {E : Env} {h : List SO} {t : Ty} {x : SV} {a : t.D} {u : Value} (hu : t.unl x h = some a) (hx : Is E x u) (hR : ∀ k ∈ keysOf [x], Rd H E h k) : Rep H t a [u] := by
  unfold Ty.unl at hu
  split at hu
  · split at hu
    · rename_i e; cases hu; subst e; simp only [Is] at hx; rw [hx]; rfl
    · cases hu
  · cases hu; simp only [Is] at hx; rw [hx]; rfl
  · cases hu; simp only [Is] at hx; rw [hx]; rfl
  · cases hu; simp only [Is] at hx; rw [hx]; rfl
  · cases hu; simp only [Is] at hx; rw [hx]; rfl
  · split at hu
    · rename_i e; cases hu; subst e; simp only [Is] at hx; rw [hx]; rfl
    · cases hu
  · cases hu; simp only [Is] at hx; rw [hx]; exact ⟨none, 0, rfl, Nat.le_refl _, fun h => absurd h (by simp)⟩
  · split at hu
    · rename_i R hr
      split at hu
      · rename_i q
        obtain ⟨rfl, hk⟩ := rowOf_some hr
        obtain ⟨ad, cp, h1, h2, h3, h4⟩ := sl_hdr hr (hR _ (by simp [keysOf])) hx
        obtain ⟨k, ver, o, e', l, r⟩ := R
        dsimp only at q
        subst q
        cases hu
        obtain ⟨ad', cp', q1, q2, q3⟩ := rowAt_rng h2 h3 h4
        exact ⟨ad', cp', by rw [q1], q2, q3⟩
      · cases hu
    · cases hu
  · cases hu
theorem keys_app : ∀ {cs cs' : List SV}, keysOf (cs ++ cs') = keysOf cs ++ keysOf cs'
  | [], _ => rfl
  | x :: cs, cs' => by
    cases x <;> simp only [List.cons_append, keysOf, keys_app]
theorem un_rep {H : Hp} {E : Env} {h : List SO} : ∀ {t : Ty} {cs : List SV} {x : t.D} {us : List Value}, t.noer = true → t.un' cs h = some x → IsL E cs us → (∀ k ∈ keysOf cs, Rd H E h k) → Rep H t x us
  | .pr a b, cs, x, us, hn, hu, hx, hR => by
    simp only [Ty.un', Option.bind_eq_some_iff, Option.map_eq_some_iff] at hu
    simp only [Ty.noer, Bool.and_eq_true] at hn
    obtain ⟨y, hy, z, hz, rfl⟩ := hu
    obtain ⟨h1, h2⟩ := hx.cut a.w
    have hk : keysOf cs = keysOf (cs.take a.w) ++ keysOf (cs.drop a.w) := by rw [← keys_app, List.take_append_drop]
    exact ⟨_, _, (List.take_append_drop a.w us).symm, un_rep hn.1 hy h1 (fun k hk' => hR k (by rw [hk]; exact List.mem_append_left _ hk')), un_rep hn.2 hz h2 (fun k hk' => hR k (by rw [hk]; exact List.mem_append_right _ hk'))⟩
  | .un, [], x, us, hn, hu, hx, hR => by cases us with
    | nil => rfl
    | cons _ _ => simp [IsL] at hx
  | .int k, [y], x, us, hn, hu, hx, hR => by
    match us, hx with
    | [u], hx => simp only [IsL] at hx; exact unl_rep hu hx.1 hR
    | [], hx => simp [IsL] at hx
    | _ :: _ :: _, hx => simp [IsL] at hx
  | .bool, [y], x, us, hn, hu, hx, hR => by
    match us, hx with
    | [u], hx => simp only [IsL] at hx; exact unl_rep hu hx.1 hR
    | [], hx => simp [IsL] at hx
    | _ :: _ :: _, hx => simp [IsL] at hx
  | .str, [y], x, us, hn, hu, hx, hR => by
    match us, hx with
    | [u], hx => simp only [IsL] at hx; exact unl_rep hu hx.1 hR
    | [], hx => simp [IsL] at hx
    | _ :: _ :: _, hx => simp [IsL] at hx
  | .flt k, [y], x, us, hn, hu, hx, hR => by
    match us, hx with
    | [u], hx => simp only [IsL] at hx; exact unl_rep hu hx.1 hR
    | [], hx => simp [IsL] at hx
    | _ :: _ :: _, hx => simp [IsL] at hx
  | .sl t e, [y], x, us, hn, hu, hx, hR => by
    match us, hx with
    | [u], hx => simp only [IsL] at hx; exact unl_rep (t := .sl t e) hu hx.1 hR
    | [], hx => simp [IsL] at hx
    | _ :: _ :: _, hx => simp [IsL] at hx
  | .er _ _ _, cs, x, us, hn, hu, hx, hR => by simp [Ty.noer] at hn
  | .un, _ :: _, x, us, hn, hu, hx, hR => by simp [Ty.un'] at hu
  | .int k, [], x, us, hn, hu, hx, hR => by simp [Ty.un'] at hu
  | .bool, [], x, us, hn, hu, hx, hR => by simp [Ty.un'] at hu
  | .str, [], x, us, hn, hu, hx, hR => by simp [Ty.un'] at hu
  | .flt k, [], x, us, hn, hu, hx, hR => by simp [Ty.un'] at hu
  | .sl t e, [], x, us, hn, hu, hx, hR => by simp [Ty.un'] at hu
  | .int k, _ :: _ :: _, x, us, hn, hu, hx, hR => by simp [Ty.un'] at hu
  | .bool, _ :: _ :: _, x, us, hn, hu, hx, hR => by simp [Ty.un'] at hu
  | .str, _ :: _ :: _, x, us, hn, hu, hx, hR => by simp [Ty.un'] at hu
  | .flt k, _ :: _ :: _, x, us, hn, hu, hx, hR => by simp [Ty.un'] at hu
  | .sl t e, _ :: _ :: _, x, us, hn, hu, hx, hR => by simp [Ty.un'] at hu
theorem putL (c us : List Value) : c.take 0 ++ (us ++ c.drop (0 + us.length)) = us ++ c.drop us.length := by simp
theorem upd_rep {H : Hp} {E : Env} {h : List SO} : ∀ {t : Ty} {x y : t.D} {off : Nat} {cs : List SV} {us c : List Value}, t.noer = true → t.upd x off cs h = some y → Rep H t x c → IsL E cs us → off + cs.length ≤ t.w → (∀ k ∈ keysOf cs, Rd H E h k) → Rep H t y (c.take off ++ (us ++ c.drop (off + us.length)))
  | .pr a b, x, y, off, cs, us, c, hn, hu, hc, hx, hw, hR => by
    simp only [Ty.upd] at hu
    have hn' := hn
    simp only [Ty.noer, Bool.and_eq_true] at hn'
    split at hu
    · rename_i hq
      have := un_rep hn hu hx hR
      have hl := hx.len
      have hcl := hc.len
      rw [hq.1, List.take_zero, List.nil_append, Nat.zero_add, List.drop_of_length_le (by rw [hl, hcl, hq.2]; exact Nat.le_refl _), List.append_nil]
      exact this
    · obtain ⟨c1, c2, rfl, r1, r2⟩ := hc
      have l1 := r1.len
      have hl := hx.len
      split at hu
      · rename_i hq
        obtain ⟨z, hz, rfl⟩ := Option.map_eq_some_iff.1 hu
        refine ⟨_, c2, ?_, upd_rep hn'.1 hz r1 hx hq hR, r2⟩
        rw [List.take_append_of_le_length (by omega), List.drop_append_of_le_length (by omega)]
        simp
      · split at hu
        · rename_i hq
          obtain ⟨z, hz, rfl⟩ := Option.map_eq_some_iff.1 hu
          refine ⟨c1, _, ?_, r1, upd_rep hn'.2 hz r2 hx (by simp only [Ty.w] at hw; omega) hR⟩
          rw [List.take_append, List.take_of_length_le (by omega), List.drop_append, List.drop_of_length_le (by omega), List.nil_append, List.append_assoc, l1]
          congr 4
          omega
        · cases hu
  | .un, x, y, off, cs, us, c, hn, hu, hc, hx, hw, hR => by
    simp only [Ty.upd] at hu
    split at hu
    · rename_i e; subst e
      have := un_rep hn hu hx hR
      have hl := this.len; have hcl := hc.len
      rw [putL, List.drop_of_length_le (by rw [hl, hcl]; exact Nat.le_refl _), List.append_nil]; exact this
    · cases hu
  | .int k, x, y, off, cs, us, c, hn, hu, hc, hx, hw, hR => by
    simp only [Ty.upd] at hu
    split at hu
    · rename_i e; subst e
      have := un_rep hn hu hx hR
      have hl := this.len; have hcl := hc.len
      rw [putL, List.drop_of_length_le (by rw [hl, hcl]; exact Nat.le_refl _), List.append_nil]; exact this
    · cases hu
  | .bool, x, y, off, cs, us, c, hn, hu, hc, hx, hw, hR => by
    simp only [Ty.upd] at hu
    split at hu
    · rename_i e; subst e
      have := un_rep hn hu hx hR
      have hl := this.len; have hcl := hc.len
      rw [putL, List.drop_of_length_le (by rw [hl, hcl]; exact Nat.le_refl _), List.append_nil]; exact this
    · cases hu
  | .str, x, y, off, cs, us, c, hn, hu, hc, hx, hw, hR => by
    simp only [Ty.upd] at hu
    split at hu
    · rename_i e; subst e
      have := un_rep hn hu hx hR
      have hl := this.len; have hcl := hc.len
      rw [putL, List.drop_of_length_le (by rw [hl, hcl]; exact Nat.le_refl _), List.append_nil]; exact this
    · cases hu
  | .flt k, x, y, off, cs, us, c, hn, hu, hc, hx, hw, hR => by
    simp only [Ty.upd] at hu
    split at hu
    · rename_i e; subst e
      have := un_rep hn hu hx hR
      have hl := this.len; have hcl := hc.len
      rw [putL, List.drop_of_length_le (by rw [hl, hcl]; exact Nat.le_refl _), List.append_nil]; exact this
    · cases hu
  | .sl t e, x, y, off, cs, us, c, hn, hu, hc, hx, hw, hR => by
    simp only [Ty.upd] at hu
    split at hu
    · rename_i e; subst e
      have := un_rep hn hu hx hR
      have hl := this.len; have hcl := hc.len
      rw [putL, List.drop_of_length_le (by rw [hl, hcl]; exact Nat.le_refl _), List.append_nil]; exact this
    · cases hu
  | .er _ _ _, x, y, off, cs, us, c, hn, hu, hc, hx, hw, hR => by simp [Ty.noer] at hn
def PCI (H : Hp) : PC → Value → Prop
  | .v x, u => u = x
  | .s e l, u => ∃ ad cp, u = .slice ad l.length cp ∧ l.length ≤ cp ∧ RowAt H e ad l
def PCL (H : Hp) : List PC → List Value → Prop
  | [], [] => True
  | x :: l, u :: us => PCI H x u ∧ PCL H l us
  | _, _ => False
theorem PCL.append {H : Hp} : ∀ {l l' : List PC} {us us' : List Value}, PCL H l us → PCL H l' us' → PCL H (l ++ l') (us ++ us')
  | [], _, [], _, _, h => by simpa using h
  | x :: l, _, u :: us, _, h, h' => ⟨h.1, PCL.append h.2 h'⟩
  | [], _, _ :: _, _, h, _ => by simp [PCL] at h
  | _ :: _, _, [], _, h, _ => by simp [PCL] at h
theorem PCL.cut {H : Hp} : ∀ {l : List PC} {us : List Value} (m : Nat), PCL H l us → PCL H (l.take m) (us.take m) ∧ PCL H (l.drop m) (us.drop m)
  | l, us, 0, h => by simpa [PCL] using h
  | [], [], m + 1, h => by simp [PCL]
  | x :: c, u :: us, m + 1, h => by
    obtain ⟨h1, h2⟩ := PCL.cut m h.2
    simp only [List.take_succ_cons, List.drop_succ_cons]
    exact ⟨⟨h.1, h1⟩, h2⟩
  | [], _ :: _, _ + 1, h => by simp [PCL] at h
  | _ :: _, [], _ + 1, h => by simp [PCL] at h
theorem rep_pcl {H : Hp} : ∀ {t : Ty} {x : t.D} {cs : List Value}, Rep H t x cs → PCL H (t.cs x) cs
  | .int k, n, cs, hr => by rw [show cs = _ from hr]; exact ⟨rfl, trivial⟩
  | .bool, b, cs, hr => by rw [show cs = _ from hr]; exact ⟨rfl, trivial⟩
  | .str, s, cs, hr => by rw [show cs = _ from hr]; exact ⟨rfl, trivial⟩
  | .flt k, n, cs, hr => by rw [show cs = _ from hr]; exact ⟨rfl, trivial⟩
  | .sl t e, l, cs, ⟨ad, cp, h1, h2, h3⟩ => by rw [h1]; exact ⟨⟨ad, cp, rfl, h2, h3⟩, trivial⟩
  | .pr a b, x, cs, ⟨c1, c2, h1, h2, h3⟩ => by rw [h1]; exact (rep_pcl h2).append (rep_pcl h3)
  | .un, _, cs, hr => by rw [show cs = _ from hr]; trivial
section
variable {O : Nat → Prop} {w0 : World} {S : St} {G : Gs} {K : List Value} {a : Act} {w : World}
theorem Sat.open_ {l : List PC} : ∀ {us : List Value} {S : St} {G : Gs} {b : Nat}, Sat O w0 S G K a w → PCL (hp O G w) l us → (∀ j, j < (fromPC b l).2.length → S.h[b + j]? = some .dead) → ∃ G', G.E.le G'.E ∧ IsL G'.E (fromPC b l).1 us ∧ Sat O w0 { S with h := setNew S.h b (fromPC b l).2 } G' K a w := by
  induction l with
  | nil => intro us S G b hs h _; cases us with
    | nil => exact ⟨G, Env.le_refl _, by simp [fromPC, IsL], hs⟩
    | cons _ _ => simp [PCL] at h
  | cons p l ih =>
    intro us S G b hs h hd
    cases us with
    | nil => simp [PCL] at h
    | cons u us =>
    cases p with
    | v x =>
      obtain ⟨G', h1, h2, h3⟩ := ih (b := b) hs h.2 hd
      exact ⟨G', h1, by simp only [fromPC, IsL, Is]; exact ⟨h.1, h2⟩, h3⟩
    | s e q =>
      obtain ⟨⟨ad, cp, rfl, hl, hC⟩, h2⟩ := h
      have hdb : S.h[b]? = some .dead := by simpa [fromPC] using hd 0 (by simp [fromPC])
      obtain ⟨G1, e1, k1, w1, s1⟩ := hs.lend hdb hl hC
      have hH : hp O G1 w = hp O G w := by unfold hp; rw [w1]
      obtain ⟨G2, e2, h3, s2⟩ := ih (b := b + 1) s1 (by rw [hH]; exact h2) (fun j hj => by
        have := hd (j + 1) (by simp [fromPC]; omega)
        show (S.h.set b _)[b + 1 + j]? = _
        rw [List.getElem?_set, if_neg (by omega), ← this]
        congr 1; omega)
      refine ⟨G2, e1.trans e2, ?_, s2⟩
      simp only [fromPC, IsL]
      refine ⟨Is.mono e2 ?_, h3⟩
      simp only [Is]
      exact ⟨0, ad, cp, _, _, k1, Nat.le_refl _, ⟨_, _, _, rfl⟩, fun _ => rfl⟩
theorem Sat.lentRd (h : Sat O w0 S G K a w) {k : Nat} (hk : ∀ t e ver l, S.h[k]? ≠ some (.row (some t) e ver l)) : Rd (hp O G w) G.E S.h k := fun o e ver l hr => by
  cases o with
  | some t => exact absurd hr (hk t e ver l)
  | none => obtain ⟨ad, cp, h1, h2, h3⟩ := h.ob k _ hr; exact ⟨ad, cp, h1, h2, h3⟩
theorem hpw {w : World} : (hp O G w).le (fun b => w.heap[b]?) := fun b o h => by
  unfold hp at h
  split at h
  · exact h
  · cases h
theorem Sat.allRd (h : Sat O w0 S G K a w) (k : Nat) : Rd (fun b => w.heap[b]?) G.E S.h k := fun o e ver l hr => by
  cases o with
  | some t =>
    obtain ⟨ad, cp, xs, h1, h2, h3, h4⟩ := h.ob k _ hr
    exact ⟨ad, cp, h1, (own_cp h2).1, own_rowAt h2 (h4.mono hpw) (fun _ _ => rfl)⟩
  | none => obtain ⟨ad, cp, h1, h2, h3⟩ := h.ob k _ hr; exact ⟨ad, cp, h1, h2, h3.mono hpw⟩
theorem whole_cell {w : World} {a : Addr} : Hp.cell (fun b => w.heap[b]?) a = w.cell? a := rfl
theorem Sat.elem (h : Sat O w0 S G K a w) {k : Nat} {o : Option TypeId} {e : Ty} {ver : Nat} {l : List e.D} (hk : S.h[k]? = some (.row o e ver l)) {i : Int} (h0 : 0 ≤ i) (h1 : i < (l.length : Int)) :
    ∃ ad cp c, G.E k = some (.row ver (some ad) cp l.length e.w) ∧ Rep (hp O G w) e (l.getD i.toNat e.z) c ∧ ∀ j u, c[j]? = some u → w.cell? (ad.add (i.toNat * e.w + j)) = some u := by
  have hi : i.toNat < l.length := by omega
  have hg : l[i.toNat]? = some (l.getD i.toNat e.z) := by simp [List.getD_eq_getElem?_getD, hi]
  cases o with
  | none =>
    obtain ⟨ad, cp, q1, q2, q3⟩ := h.ob k _ hk
    obtain ⟨p, rfl, hx⟩ := q3 (by omega)
    obtain ⟨c, hc, hu⟩ := hx _ _ hg
    exact ⟨p, cp, c, q1, hc, fun j u hj => hp_cell (hu j u hj)⟩
  | some t =>
    obtain ⟨ad, cp, xs, q1, q2, q3, q4⟩ := h.ob k _ hk
    obtain ⟨c, hc, hu⟩ := q4.get _ _ hg
    rcases q2.2 with ⟨_, h0'⟩ | ⟨g, cap, cur, he, _, hh, _⟩
    · omega
    · simp only [Value.slice.injEq] at he
      obtain ⟨rfl, _, _⟩ := he
      exact ⟨⟨g, 0, none⟩, cp, c, q1, hc, fun j u hj => q2.cells (g := g) rfl _ u (hu j u hj)⟩
theorem Sat.frz (h0 : List SO) : ∀ (cs : List SV) {S : St} {G : Gs}, Sat O w0 S G K a w → (∀ k ver r, SV.sl k ver r ∈ cs → ∃ o o' e ver l, S.h[k]? = some (.row o e ver l) ∧ h0[k]? = some (.row o' e ver l)) → ∃ G' : Gs, G'.E = G.E ∧ (∀ b, G.ow b = 1 → G'.ow b = 1) ∧ Sat O w0 { S with h := setObjs S.h (Vm.frz h0 cs) } G' K a w
  | [], S, G, hs, _ => ⟨G, rfl, fun _ h => h, hs⟩
  | x :: cs, S, G, hs, hk => by
    have hrest := fun k ver r (hm : SV.sl k ver r ∈ cs) => hk k ver r (List.mem_cons_of_mem _ hm)
    cases x with
    | sl k ver r =>
      obtain ⟨o, o', e, v, l, q1, q2⟩ := hk k ver r List.mem_cons_self
      cases o' with
      | none =>
        simp only [Vm.frz, q2]
        exact Sat.frz h0 cs hs hrest
      | some t' =>
        simp only [Vm.frz, q2, setObjs]
        cases o with
        | none =>
          have hset : S.h.set k (.row none e v l) = S.h := by
            obtain ⟨hlt, hx⟩ := List.getElem?_eq_some_iff.1 q1
            rw [← hx]; exact List.set_getElem_self hlt
          rw [hset]
          exact Sat.frz h0 cs hs hrest
        | some t =>
          obtain ⟨G1, e1, w1, s1⟩ := hs.frz1 q1
          obtain ⟨G2, e2, w2, s2⟩ := Sat.frz h0 cs s1 (fun k2 ver2 r2 hm => by
            obtain ⟨o3, o4, e3, v3, l3, p1, p2⟩ := hrest k2 ver2 r2 hm
            by_cases hkk : k2 = k
            · subst hkk
              have hlt := (List.getElem?_eq_some_iff.1 q1).1
              rw [q2] at p2
              cases p2
              exact ⟨none, _, e, v, l, by simp [hlt], q2⟩
            · exact ⟨o3, o4, e3, v3, l3, by
                show (S.h.set k _)[k2]? = _
                rw [List.getElem?_set, if_neg (Ne.symm hkk)]; exact p1, p2⟩)
          exact ⟨G2, e2.trans e1, fun b hb => w2 b (w1 b hb), s2⟩
    | _ => exact Sat.frz h0 cs hs hrest
theorem mem_keys {k : Nat} : ∀ {cs : List SV}, k ∈ keysOf cs ↔ ∃ ver r, SV.sl k ver r ∈ cs
  | [] => by simp [keysOf]
  | x :: cs => by
    have ih := mem_keys (k := k) (cs := cs)
    cases x <;> simp only [keysOf, List.mem_cons, reduceCtorEq, false_or, ih]
    rename_i k' v' r'
    constructor
    · rintro (rfl | ⟨v, r, h⟩)
      · exact ⟨v', r', .inl rfl⟩
      · exact ⟨v, r, .inr h⟩
    · rintro ⟨v, r, h | h⟩
      · cases h; exact .inl rfl
      · exact .inr ⟨v, r, h⟩
theorem objs_other {k : Nat} : ∀ {L : List (Nat × SO)} {h : List SO}, (∀ q ∈ L, q.1 ≠ k) → (setObjs h L)[k]? = h[k]?
  | [], _, _ => rfl
  | (j, o) :: L, h, hq => by
    rw [setObjs, objs_other (fun q hq' => hq q (List.mem_cons_of_mem _ hq')), List.getElem?_set, if_neg (hq _ List.mem_cons_self)]
theorem objs_app : ∀ {L L' : List (Nat × SO)} {h : List SO}, setObjs h (L ++ L') = setObjs (setObjs h L) L'
  | [], _, _ => rfl
  | (j, o) :: L, L', h => by simp only [List.cons_append, setObjs]; exact objs_app
theorem frz_keys {h0 : List SO} : ∀ {cs : List SV} {q : Nat × SO}, q ∈ Vm.frz h0 cs → q.1 ∈ keysOf cs ∧ ∃ t e ver l, h0[q.1]? = some (.row (some t) e ver l) ∧ q.2 = .row none e ver l
  | [], q, h => by simp [Vm.frz] at h
  | x :: cs, q, h => by
    cases x with
    | sl k ver r =>
      simp only [Vm.frz] at h
      split at h
      · rename_i t e v l hk
        rcases List.mem_cons.1 h with rfl | h
        · exact ⟨List.mem_cons_self, t, e, v, l, hk, rfl⟩
        · obtain ⟨h1, h2⟩ := frz_keys h; exact ⟨List.mem_cons_of_mem _ h1, h2⟩
      · obtain ⟨h1, h2⟩ := frz_keys h; exact ⟨List.mem_cons_of_mem _ h1, h2⟩
    | _ => exact frz_keys (cs := cs) h
theorem frz_none {h0 : List SO} {k : Nat} {o : Option TypeId} {e : Ty} {ver : Nat} {l : List e.D} (hk0 : h0[k]? = some (.row o e ver l)) {cs : List SV} : ∀ {h : List SO}, k < h.length → (k ∈ keysOf cs ∨ h[k]? = some (.row none e ver l)) → (o = none → h[k]? = some (.row none e ver l)) → (setObjs h (Vm.frz h0 cs))[k]? = some (.row none e ver l) := by
  induction cs with
  | nil =>
    intro h hl hk ho
    rcases hk with hk | hk
    · simp [keysOf] at hk
    · exact hk
  | cons x cs ih =>
    intro h hl hk ho
    cases x with
    | sl k' ver' r' =>
      by_cases e1 : k' = k
      · subst e1
        cases o with
        | some t =>
          simp only [Vm.frz, hk0, setObjs]
          exact ih (by simpa using hl) (.inr (by simp [hl])) (by simp)
        | none =>
          simp only [Vm.frz, hk0]
          exact ih hl (.inr (ho rfl)) ho
      · have hk' : k ∈ keysOf cs ∨ h[k]? = some (.row none e ver l) := by
          rcases hk with hk | hk
          · simp only [keysOf, List.mem_cons] at hk
            rcases hk with hk | hk
            · exact absurd hk.symm e1
            · exact .inl hk
          · exact .inr hk
        simp only [Vm.frz]
        split
        · rw [setObjs]
          refine ih (by simpa using hl) ?_ ?_
          · rcases hk' with hk' | hk'
            · exact .inl hk'
            · right; rw [List.getElem?_set, if_neg e1]; exact hk'
          · intro ho'; rw [List.getElem?_set, if_neg e1]; exact ho ho'
        · exact ih hl hk' ho
    | _ =>
      simp only [Vm.frz]
      exact ih hl (by simpa [keysOf] using hk) ho
theorem Sat.frzRd (hs : Sat O w0 S G K a w) {h0 : List SO} {cs : List SV} (hag : ∀ k ∈ keysOf cs, S.h[k]? = h0[k]?) (hrow : ∀ k ∈ keysOf cs, ∃ o e ver l, h0[k]? = some (.row o e ver l)) :
    ∃ G' : Gs, G'.E = G.E ∧ (hp O G w).le (hp O G' w) ∧ Sat O w0 { S with h := setObjs S.h (Vm.frz h0 cs) } G' K a w ∧ ∀ k ∈ keysOf cs, Rd (hp O G' w) G'.E h0 k := by
  obtain ⟨G', e1, w1, s1⟩ := hs.frz h0 cs (fun k ver r hm => by
    have hm' := mem_keys.2 ⟨ver, r, hm⟩
    obtain ⟨o, e, v, l, h1⟩ := hrow k hm'
    exact ⟨o, o, e, v, l, (hag k hm').trans h1, h1⟩)
  refine ⟨G', e1, fun b o hb => ?_, s1, fun k hk o e ver l h1 => ?_⟩
  · unfold hp at hb ⊢
    split at hb
    · rename_i hc
      rw [if_pos (hc.imp id (w1 b))]; exact hb
    · cases hb
  · have h2 := (hag k hk).trans h1
    have h3 := frz_none h1 (cs := cs) (h := S.h) (List.getElem?_eq_some_iff.1 h2).1 (.inl hk) (fun ho => by rw [h2, ho])
    obtain ⟨ad, cp, q1, q2, q3⟩ := s1.ob k _ h3
    exact ⟨ad, cp, q1, q2, q3⟩
end
end Go.Proofs.Ytlbicmdfdpcdiaa.Vm
-- Printed by a program of this session's; Lean checks it.
set_option linter.unusedVariables false
set_option linter.unusedSimpArgs false
namespace Go.Proofs.Ytlbicmdfdpcdiaa.Vm
open Go.RowKit
structure Agree (S T : St) (o : Oper) (b : Nat) (δ : De) : Prop where
  op : ∀ x ∈ o.op.operands, T.op x = S.op x
  ro : ∀ k ∈ δ.ro, T.h[k]? = S.h[k]?
  ft : δ.big = none → fits T b δ = true
  bg : δ.big ≠ none → T = S
def Step (P : Program) (o : Oper) (b : Nat) (δ : De) (S : St) : Prop :=
  ∀ T : St, Agree S T o b δ → ∀ O w0 G K a w, Sat O w0 T G K a w → ∀ (Kn : Act → World → Prop) (Q : Exit → Act → World → Prop), (∀ G' a' w', Sat O w0 (ap o.dst b δ T) G' K a' w' → Kn a' w') → o.wp P a w Kn Q
def Eff (P : Program) (f : FuncId) (vs : Array Value) (w : World) (Q : Ending → World → Prop) : Prop :=
  ((∃ fn, P.funcs[f]? = some fn ∧ (fn.name == "runtime.NumGoroutine") = false ∧ fn.body.isSome = true) ∧ Calls P f vs w Q) ∨
  ∃ v w', (callFunc f vs).run P w = .ok (.value v) w' ∧ Q (.returned v) w'
def CtrOk (P : Program) (c : Ctr) : Prop :=
  ∀ {R : Type} (args : List SV) (h : List SO) (b : Nat) (κ : De → Option R) (r : R), c.run args h b κ = some r → ∃ δ, κ δ = some r ∧ δ.big = none ∧
   ∀ T : St, (∀ k ∈ δ.ro, T.h[k]? = h[k]?) → fits T b δ = true →
   ∀ O w0 G K a w, Sat O w0 T G K a w → ∀ vs : List Value, IsL G.E args vs →
    Eff P c.id vs.toArray w fun e w' => ∃ v G', e = .returned v ∧ ∀ dst, Sat O w0 (ap dst b δ T) G' K (a.put dst v) w'
def Big (P : Program) {R : Type} (o : Oper) (b : Nat) (S : St) (κ : De → Option R) (r : R) : Prop :=
  ∀ O w0 G K a w, Sat O w0 S G K a w → ∀ (Kn : Act → World → Prop) (Q : Exit → Act → World → Prop), (∀ δ G' a' w', κ δ = some r → Sat O w0 (ap o.dst b δ S) G' K a' w' → Kn a' w') → o.wp P a w Kn Q
def CHok (P : Program) {R : Type} (CH : FuncId → List SV → Nat → St → (De → Option R) → Option R) : Prop :=
  ∀ f args b S κ r, CH f args b S κ = some r → (∃ fn, P.funcs[f]? = some fn ∧ (fn.name == "runtime.NumGoroutine") = false ∧ fn.body.isSome = true) ∧
   ∀ O w0 G K a w, Sat O w0 S G K a w → ∀ vs : List Value, IsL G.E args vs →
    Calls P f vs.toArray w fun e w' => ∃ v δ G', e = .returned v ∧ κ δ = some r ∧ ∀ dst, Sat O w0 (ap dst b δ S) G' K (a.put dst v) w'
def Told (P : Program) {R : Type} (CH : FuncId → List SV → Nat → St → (De → Option R) → Option R) (o : Oper) (b : Nat) (S : St) (κ : De → Option R) (r : R) : Prop :=
  (∃ δ, κ δ = some r ∧ δ.big = none ∧ Step P o b δ S) ∨ ((∃ f args, CH f args b S κ = some r) ∧ Big P o b S κ r)
section
variable {P : Program}
theorem findC_mem {f : FuncId} : ∀ {C : List Ctr} {c : Ctr}, findC f C = some c → c ∈ C ∧ c.id = f
  | [], c, h => by simp [findC] at h
  | d :: C, c, h => by
    simp only [findC] at h
    split at h
    · cases h; exact ⟨List.mem_cons_self, ‹_›⟩
    · have := findC_mem h; exact ⟨List.mem_cons_of_mem _ this.1, this.2⟩
theorem pureOf_run {α : Type} : ∀ {s : Sem α} {a : α}, pureOf P s = some a → ∀ w, s.run P w = .ok a w := by
  intro s
  induction s with
  | pure x => intro a h w; simp [pureOf] at h; rw [h]; rfl
  | program k ih => intro a h w; simp only [pureOf] at h; simpa [Sem.run] using ih P h w
  | mark m k ih => intro a h w; simp only [pureOf] at h; simpa [Sem.run] using ih h w
  | _ => intro a h; simp [pureOf] at h
theorem wp_val {o : Oper} {a : Act} {w w' : World} {v : Value} {K : Act → World → Prop} {Q : Exit → Act → World → Prop} (hr : (execOp a.eval o).run P w = .ok (.value v) w') (h : K (a.put o.dst v) w') : o.wp P a w K Q := by
  unfold Oper.wp
  rw [hr]
  exact h
theorem wp_skp {o : Oper} {a : Act} {w w' : World} {K : Act → World → Prop} {Q : Exit → Act → World → Prop} (hr : (execOp a.eval o).run P w = .ok .skip w') (h : K (a.put o.dst undef) w') : o.wp P a w K Q := by
  unfold Oper.wp
  rw [hr]
  exact h
theorem step_val {o : Oper} {b : Nat} {S : St} {x : SV} {ro : List Nat}
    (h : ∀ T : St, (∀ y ∈ o.op.operands, T.op y = S.op y) → (∀ k ∈ ro, T.h[k]? = S.h[k]?) → ∀ O w0 G K a w, Sat O w0 T G K a w → ∃ u, (execOp a.eval o).run P w = .ok (.value u) w ∧ Is G.E x u) :
    Step P o b { val := x, ro := ro } S := by
  intro T hT O w0 G K a w hs Kn Q hK
  obtain ⟨u, hr, hu⟩ := h T hT.op hT.ro O w0 G K a w hs
  exact wp_val hr (hK G _ _ (hs.put _ hu))
theorem step_fallback {R : Type} {o : Oper} {b : Nat} {S : St} {κ : De → Option R} {r : R} (hns : ∀ cs bl, o.op ≠ .select cs bl) (h : fallback P o S κ = some r) : ∃ δ, κ δ = some r ∧ δ.big = none ∧ Step P o b δ S := by
  unfold fallback at h
  split at h
  case h_2 => cases h
  case h_1 hall =>
  split at h
  case h_2 => cases h
  case h_1 u hu =>
  refine ⟨_, h, rfl, step_val fun T h1 _ O w0 G K a w hs => ⟨u, ?_, by simp [Is]⟩⟩
  rw [← pureOf_run hu w]
  congr 1
  refine execOp_congr o hns fun x hx => ?_
  have h2 := List.all_eq_true.1 hall x (Array.mem_toList_iff.2 hx)
  obtain ⟨y, hy⟩ := Option.isSome_iff_exists.1 h2
  have h3 := hs.op x
  rw [h1 x hx] at h3
  rw [hy]
  exact val_is hy h3
theorem isAgg_run {t : TypeId} {g : Bool} (h : isAggT P t = some g) (w : World) : (isAgg t).run P w = .ok g w := by
  unfold isAggT at h
  unfold isAgg
  rw [Sem.run_bind]
  split at h
  · rename_i hu; cases h; rw [run_underlying hu]; rfl
  · rename_i hu; cases h; rw [run_underlying hu]; rfl
  · rename_i d h1 h2 hu
    cases h
    rw [run_underlying hu]
    cases d <;> first | rfl | (exact absurd rfl (h1 _ )) | (exact absurd rfl (h2 _ _)) | (rename_i x; exact absurd hu (h1 x)) | (rename_i x y; exact absurd hu (h2 x y))
  · cases h
theorem size_run {t : TypeId} {n : Nat} (h : sizeT P t = some n) (w : World) : (sizeOf t).run P w = .ok n w := by
  unfold sizeT at h
  cases hi : P.info? t with
  | none => rw [hi] at h; cases h
  | some i =>
    rw [hi] at h
    simp at h
    simp [sizeOf, typeInfo, hi, h]
theorem zero_run {t : TypeId} {z : Value} (h : zeroT P t = some z) (w : World) : (zeroValue t).run P w = .ok z w := by
  unfold zeroT at h
  obtain ⟨i, hi, hz⟩ := Option.bind_eq_some_iff.1 h
  simp [zeroValue, typeInfo, hi, hz]
theorem load_run {t : TypeId} {g : Bool} {n : Nat} (hl : loadT P t = some (g, n)) (ad : Addr) (us : List Value) (hn : us.length = n) (w : World) (hc : ∀ j v, us[j]? = some v → w.cell? (ad.add j) = some v) :
    (loadVar t ad).run P w = .ok (if g then .agg us.toArray else us.getD 0 undef) w := by
  unfold loadT at hl
  obtain ⟨g', hg, hl⟩ := Option.bind_eq_some_iff.1 hl
  unfold loadVar
  rw [Sem.run_bind, isAgg_run hg]
  simp only [Result.andThen_ok]
  cases g' with
  | true =>
    simp only [if_true, Option.map_eq_some_iff] at hl
    obtain ⟨m, hm, he⟩ := hl
    cases he
    simp only [if_true, Sem.run_bind, size_run hm, Result.andThen_ok]
    rw [← hn, run_loadCells_list w ad us hc]
    rfl
  | false =>
    simp at hl
    obtain ⟨rfl, rfl⟩ := hl
    match us, hn with
    | [u], _ =>
      have := hc 0 u rfl
      have e : ad.add 0 = ad := by simp [Addr.add]
      rw [e] at this
      simp [this]
theorem packed_is {E : Env} {g : Bool} {n : Nat} {cs : List SV} {us : List Value} (hu : IsL E cs us) (hn : us.length = n) (hg : g = false → n = 1) : Is E (packed g cs) (if g then .agg us.toArray else us.getD 0 undef) := by
  cases g with
  | true => simp only [packed, if_true, Is]; exact ⟨us, rfl, hu⟩
  | false =>
    have := hg rfl
    subst this
    match cs, us, hu, hn with
    | [x], [u], hu, _ => simp only [IsL] at hu; simpa [packed] using hu.1
    | [], [_], hu, _ => simp [IsL] at hu
    | _ :: _ :: _, [_], hu, _ => simp [IsL] at hu
theorem loadT_one {t : TypeId} {g : Bool} {n : Nat} (h : loadT P t = some (g, n)) (hg : g = false) : n = 1 := by
  subst hg
  unfold loadT at h
  obtain ⟨g', _, h⟩ := Option.bind_eq_some_iff.1 h
  cases g' with
  | false => simp at h; exact h.symm
  | true => simp at h
theorem add_plain' {g o j : Nat} : (⟨g, o, none⟩ : Addr).add j = ⟨g, o + j, none⟩ := by unfold Addr.add; split <;> simp_all
theorem cellsAt_some {h : List SO} {k off n : Nat} {cs : List SV} (hc : cellsAt h k off n = some cs) : ∃ t cs', h[k]? = some (.box t cs') ∧ off + n ≤ cs'.length ∧ cs = (cs'.drop off).take n := by
  unfold cellsAt at hc
  split at hc
  · split at hc
    · cases hc; exact ⟨_, _, ‹_›, ‹_›, rfl⟩
    · cases hc
  · cases hc
section
variable {O : Nat → Prop} {w0 : World} {S : St} {G : Gs} {K : List Value} {a : Act} {w : World}
theorem Sat.reads (hs : Sat O w0 S G K a w) {k off n b : Nat} {cs : List SV} (hE : G.E k = some (.blk b)) (hc : cellsAt S.h k off n = some cs) :
    ∃ us : List Value, us.length = n ∧ IsL G.E cs us ∧ ∀ j v, us[j]? = some v → w.cell? ((⟨b, off, none⟩ : Addr).add j) = some v := by
  obtain ⟨t, cs', hk, hl, rfl⟩ := cellsAt_some hc
  obtain ⟨b', us, q1, q2, q3, q4, q5⟩ := hs.ob k _ hk
  rw [hE] at q1; cases q1
  have hlen := q4.len
  refine ⟨(us.drop off).take n, by simp; omega, ((q4.cut off).2.cut n).1, fun j v hj => ?_⟩
  rw [add_plain']
  have : us[off + j]? = some v := by
    rw [List.getElem?_take] at hj
    split at hj
    · rwa [List.getElem?_drop] at hj
    · cases hj
  simp only [World.cell?, q3]
  simpa using this
end
theorem step_load_ptr {o : Oper} {b : Nat} {S : St} {t : TypeId} {x : Operand} (ho : o.op = .load t x) {k off n : Nat} {g : Bool} {cs : List SV} (hx : S.op x = .ptr k off) (hl : loadT P t = some (g, n)) (hc : cellsAt S.h k off n = some cs) :
    Step P o b { val := packed g cs, ro := [k] } S := by
  refine step_val fun T h1 h2 O w0 G K a w hs => ?_
  have hx' := hs.op x
  rw [h1 x (by simp [ho, Op.operands]), hx] at hx'
  simp only [Is] at hx'
  obtain ⟨bk, hE, hv⟩ := hx'
  have hc' : cellsAt T.h k off n = some cs := by unfold cellsAt at hc ⊢; rw [h2 k (by simp)]; exact hc
  obtain ⟨us, hn, hus, hcell⟩ := hs.reads hE hc'
  refine ⟨_, ?_, packed_is hus hn (loadT_one hl)⟩
  have := load_run hl ⟨bk, off, none⟩ us hn w hcell
  simp [execOp, ho, Instr.loadAt, Instr.sureAddr, hv, this, Sem.run_bind]
theorem fits_dead {T : St} {b : Nat} {δ : De} (h : fits T b δ = true) : ∀ j, j < δ.nw.length → T.h[b + j]? = some .dead := by
  intro j hj
  simp only [fits, Bool.and_eq_true, List.all_eq_true] at h
  have := h.1.1.1 j (by simpa using hj)
  split at this
  · assumption
  · cases this
theorem el_is {E : Env} {k ver off : Nat} {i : Int} {u : Value} (hu : Is E (.el k ver i off) u) {A : Option Addr} {c n wd : Nat} (hE : E k = some (.row ver A c n wd)) : ∃ ad, A = some ad ∧ 0 ≤ i ∧ i < (n : Int) ∧ u = .pointer (some ((ad.add (i.toNat * wd)).add off)) := by
  simp only [Is] at hu
  obtain ⟨v, A', c', n', w', q1, _, _, q2⟩ := hu
  rw [hE] at q1
  simp only [Option.some.injEq, Gh.row.injEq] at q1
  obtain ⟨rfl, rfl, rfl, rfl, rfl⟩ := q1
  exact q2 rfl
theorem row_E {O : Nat → Prop} {w0 : World} {S : St} {G : Gs} {K : List Value} {a : Act} {w : World} (hs : Sat O w0 S G K a w) {k : Nat} {o : Option TypeId} {e : Ty} {ver : Nat} {l : List e.D} (hk : S.h[k]? = some (.row o e ver l)) : ∃ ad cp, G.E k = some (.row ver ad cp l.length e.w) ∧ l.length ≤ cp := by
  obtain ⟨ad, cp, h1, h2, _⟩ := hs.allRd k o e ver l hk
  exact ⟨ad, cp, h1, h2⟩
theorem step_load_el {o : Oper} {b : Nat} {S : St} {t : TypeId} {x : Operand} (ho : o.op = .load t x) {k ver off n : Nat} {i : Int} {g : Bool} {ow : Option TypeId} {e : Ty} {l : List e.D} (hx : S.op x = .el k ver i off) (hl : loadT P t = some (g, n)) (hk : S.h[k]? = some (.row ow e ver l))
    (hn : (fromPC b (((e.cs (l.getD i.toNat e.z)).drop off).take n)).1.length = n) :
    Step P o b { val := packed g (fromPC b (((e.cs (l.getD i.toNat e.z)).drop off).take n)).1, ro := [k], nw := (fromPC b (((e.cs (l.getD i.toNat e.z)).drop off).take n)).2 } S := by
  intro T hT O w0 G K a w hs Kn Q hK
  have hx' := hs.op x
  rw [hT.op x (by simp [ho, Op.operands]), hx] at hx'
  have hkT := (hT.ro k List.mem_cons_self).trans hk
  obtain ⟨ad', cp, hE, hcp⟩ := row_E hs hkT
  obtain ⟨ad, rfl, i0, i1, hv⟩ := el_is hx' hE
  obtain ⟨ad2, cp2, c, hE2, hc, hcell⟩ := hs.elem hkT i0 i1
  rw [hE] at hE2
  simp only [Option.some.injEq, Gh.row.injEq] at hE2
  obtain ⟨_, rfl, rfl, _, _⟩ := hE2
  have hL := ((rep_pcl hc).cut off).2.cut n |>.1
  obtain ⟨G', e2, hus, hs'⟩ := Sat.open_ (b := b) hs hL (fits_dead (hT.ft rfl))
  have hlen := hus.len
  rw [hn] at hlen
  have hrun := load_run hl ((ad.add (i.toNat * e.w)).add off) ((c.drop off).take n) hlen w (fun j v hj => by
    rw [add_add, add_add]
    rw [List.getElem?_take] at hj
    split at hj
    · rw [List.getElem?_drop] at hj
      exact hcell _ v hj
    · cases hj)
  refine wp_val (w' := w) (v := if g then .agg ((c.drop off).take n).toArray else ((c.drop off).take n).getD 0 undef) ?_ (hK G' _ _ ?_)
  · simp [execOp, ho, Instr.loadAt, Instr.sureAddr, hv, hrun, Sem.run_bind]
  · exact hs'.put o.dst (packed_is hus hlen (loadT_one hl))
theorem step_move {o : Oper} {b : Nat} {S : St} {x : Operand} (ho : o.op = .move x ∨ o.op = .assign x) : Step P o b { val := S.op x } S := by
  refine step_val fun T h1 _ O w0 G K a w hs => ⟨a.eval x, ?_, ?_⟩
  · rcases ho with ho | ho <;> simp [execOp, ho]
  · rw [← h1 x (by rcases ho with ho | ho <;> simp [ho, Op.operands])]
    exact hs.op x
theorem step_alloc {o : Oper} {b : Nat} {S : St} {e : TypeId} (ho : o.op = .alloc e) {z : Value} (hz : zeroT P e = some z) (h1 : z.cells.toList.all (·.oneCell') = true) : Step P o b { val := .ptr b 0, nw := [.box e (z.cells.toList.map .v)] } S := by
  intro T hT O w0 G K a w hs Kn Q hK
  obtain ⟨G', e1, e2, hs'⟩ := hs.box (by simpa using fits_dead (hT.ft rfl) 0 (by simp)) e (IsL.vs z.cells.toList) (fun u hu => List.all_eq_true.1 h1 u hu)
  refine wp_val (v := .pointer (some ⟨w.heap.size, 0, none⟩)) (w' := w.alloc (.cells z.cells e)) ?_ (hK G' _ _ ?_)
  · simp [execOp, ho, Instr.alloc, zero_run hz, newVar, newRow, Sem.run_bind]
  · exact hs'.put o.dst (by simp only [Is]; exact ⟨_, e2, rfl⟩)
theorem step_box {o : Oper} {b : Nat} {S : St} {e : TypeId} {x : Operand} (ho : o.op = .box e x) {cs : List SV} (hc : (S.op x).cells = some cs) (h1 : cs.all ocSV = true) : Step P o b { val := .ptr b 0, nw := [.box e cs] } S := by
  intro T hT O w0 G K a w hs Kn Q hK
  have hx := hs.op x
  rw [hT.op x (by simp [ho, Op.operands])] at hx
  obtain ⟨us, hus, hl⟩ := cells_is hc hx
  obtain ⟨G', e1, e2, hs'⟩ := hs.box (by simpa using fits_dead (hT.ft rfl) 0 (by simp)) e hl (oc_all hl h1)
  refine wp_val (v := .pointer (some ⟨w.heap.size, 0, none⟩)) (w' := w.alloc (.cells us.toArray e)) ?_ (hK G' _ _ ?_)
  · simp [execOp, ho, Instr.box, newVar, newRow, hus, Sem.run_bind]
  · exact hs'.put o.dst (by simp only [Is]; exact ⟨_, e2, rfl⟩)
theorem put1 (cs us : List Value) (u : Value) (i : Nat) (hi : i < cs.length) : (cs.set i u).take (i + 1) ++ (us ++ (cs.set i u).drop (i + 1 + us.length)) = cs.take i ++ (u :: us ++ cs.drop (i + (u :: us).length)) := by
  have h1 : (cs.set i u).take (i + 1) = cs.take i ++ [u] := by
    rw [List.take_succ_eq_append_getElem (by simpa using hi)]
    simp [List.take_set_of_le]
  have h2 : (cs.set i u).drop (i + 1 + us.length) = cs.drop (i + (us.length + 1)) := by
    rw [List.drop_set_of_lt (by omega)]
    congr 1; omega
  rw [h1, h2]
  simp
theorem stores_run {b : Nat} {t : TypeId} : ∀ (us : List Value) (off i : Nat) (w : World) (cs : List Value), w.heap[b]? = some (.cells cs.toArray t (0, 0)) → off + i + us.length ≤ cs.length → (∀ u ∈ us, u.oneCell' = true) →
    ∃ w', (storeCells ⟨b, off, none⟩ us i).run P w = .ok () w' ∧ w'.heap[b]? = some (.cells (cs.take (off + i) ++ (us ++ cs.drop (off + i + us.length))).toArray t (0, 0)) ∧ (∀ g, g ≠ b → w'.heap[g]? = w.heap[g]?) ∧ w'.heap.size = w.heap.size ∧ w'.os = w.os ∧ w'.tape = w.tape ∧ w'.output = w.output
  | [], off, i, w, cs, hb, hl, _ => ⟨w, rfl, by simpa using hb, fun _ _ => rfl, rfl, rfl, rfl, rfl⟩
  | u :: us, off, i, w, cs, hb, hl, h1 => by
    simp only [List.length_cons] at hl
    have hcell : w.cell? ⟨b, off + i, none⟩ = some (cs[off + i]'(by omega)) := by
      simp only [World.cell?, hb]
      simp
    have hfz : w.frozen? ⟨b, off + i, none⟩ = false := by simp [World.frozen?, hb]
    have hw1 : (w.setCell ⟨b, off + i, none⟩ u).heap[b]? = some (.cells (cs.set (off + i) u).toArray t (0, 0)) := by
      simp [World.setCell, Array.getElem?_modify, hb]
    obtain ⟨w', r1, r2, r3, r4, r5, r6, r7⟩ := stores_run us off (i + 1) (w.setCell ⟨b, off + i, none⟩ u) (cs.set (off + i) u) hw1 (by simp; omega) (fun v hv => h1 v (List.mem_cons_of_mem _ hv))
    refine ⟨w', ?_, ?_, fun g hg => (r3 g hg).trans (Below.heap_setCell w ⟨b, off + i, none⟩ u g hg), by rw [r4]; simp [World.setCell], r5, r6, r7⟩
    · simp only [storeCells, Sem.run_bind, add_plain', run_store P w _ u _ (h1 u (by simp)), hcell, hfz]
      simpa using r1
    · rw [r2]
      congr 3
      exact put1 cs us u (off + i) (by omega)
end
end Go.Proofs.Ytlbicmdfdpcdiaa.Vm
-- Printed by a program of this session's; Lean checks it.
set_option linter.unusedVariables false
set_option linter.unusedSimpArgs false
namespace Go.Proofs.Ytlbicmdfdpcdiaa.Vm
open Go.RowKit
section
variable {P : Program}
theorem step_store_ptr {o : Oper} {b : Nat} {S : St} {t : TypeId} {x y : Operand} (ho : o.op = .store t x y) {k off n : Nat} {cs cs' : List SV} {t' : TypeId} (hy : (S.op y).cells = some cs) (hn : sizeT P t = some n) (hl : cs.length = n) (h1 : cs.all ocSV = true) (hx : S.op x = .ptr k off) (hk : S.h[k]? = some (.box t' cs')) (hw : off + n ≤ cs'.length) :
    Step P o b { val := .v undef, ro := [k], rw := [(k, .box t' (putAt cs' off cs))] } S := by
  intro T hT O w0 G K a w hs Kn Q hK
  have hx' := hs.op x
  rw [hT.op x (by simp [ho, Op.operands]), hx] at hx'
  simp only [Is] at hx'
  obtain ⟨bk, hE, hv⟩ := hx'
  have hy' := hs.op y
  rw [hT.op y (by simp [ho, Op.operands])] at hy'
  obtain ⟨us, hus, hL⟩ := cells_is hy hy'
  have hkT := (hT.ro k (by simp)).trans hk
  obtain ⟨b', vs, q1, q2, q3, q4, q5⟩ := hs.ob k _ hkT
  rw [hE] at q1; cases q1
  have hlu := hL.len
  have hlv := q4.len
  have hone := oc_all hL h1
  obtain ⟨w', r1, r2, r3, r4, r5, r6, r7⟩ := stores_run (P := P) us off 0 w vs q3 (by omega) hone
  have hb0 := (hs.lt bk (by omega)).1
  obtain ⟨h2, h3⟩ := hs.upd hkT (w' := w') (o' := .box t' (putAt cs' off cs)) (G' := G) ⟨by rw [r5]; exact hs.bl.os, by rw [r6]; exact hs.bl.tape, by rw [r7]; exact hs.bl.output, by rw [r4]; exact hs.bl.size, fun g hg => by rw [r3 g (by omega)]; exact hs.bl.block g hg⟩ (by omega)
    (fun _ _ => rfl) (fun g hg => ⟨g, hg, g.le_refl⟩) (fun _ _ _ => rfl) (fun g hg => .inl hg) (fun g _ hg => r3 g (by rintro rfl; exact hg q2))
    (fun _ _ => ⟨bk, _, hE, q2, r2, by
      unfold putAt
      rw [Nat.add_zero, ← hlu]
      exact (q4.cut off).1.append (hL.append (q4.cut _).2), fun u hu => by
      rcases List.mem_append.1 hu with hu | hu
      · exact q5 u (List.mem_of_mem_take hu)
      · rcases List.mem_append.1 hu with hu | hu
        · exact hone u hu
        · exact q5 u (List.mem_of_mem_drop hu)⟩)
  refine wp_skp (w' := w') ?_ (hK G _ _ (h2.put o.dst (by simp [Is])))
  have hsz : us.length = n := hlu.trans hl
  simp [execOp, ho, Instr.storeAt, Instr.sureAddr, hv, storeVar, size_run hn, hus, hsz, Sem.run_bind, r1]
theorem RepL.part {H : Hp} {e : Ty} : ∀ {l : List e.D} {cs : List Value}, RepL H e l cs → ∀ (i : Nat) (x : e.D), l[i]? = some x → ∃ p c r, cs = p ++ (c ++ r) ∧ p.length = i * e.w ∧ Rep H e x c ∧ ∀ y c', Rep H e y c' → RepL H e (l.set i y) (p ++ (c' ++ r))
  | y :: l, cs, ⟨c, r, h1, h2, h3⟩, 0, x, hx => by
    simp at hx; subst hx
    exact ⟨[], c, r, h1, by simp, h2, fun z c' hz => ⟨c', r, rfl, hz, h3⟩⟩
  | y :: l, cs, ⟨c, r, h1, h2, h3⟩, i + 1, x, hx => by
    obtain ⟨p, c', r', q1, q2, q3, q4⟩ := RepL.part h3 i x (by simpa using hx)
    refine ⟨c ++ p, c', r', by rw [h1, q1, List.append_assoc], by rw [List.length_append, q2, h2.len, Nat.add_mul]; omega, q3, fun z cz hz => ⟨c, p ++ (cz ++ r'), by simp, h2, q4 z cz hz⟩⟩
  | [], _, _, i, x, hx => by simp at hx
theorem put_part (p c r us : List Value) (off : Nat) (h : off + us.length ≤ c.length) : (p ++ (c ++ r)).take (p.length + off) ++ (us ++ (p ++ (c ++ r)).drop (p.length + off + us.length)) = p ++ ((c.take off ++ (us ++ c.drop (off + us.length))) ++ r) := by
  rw [List.take_append, List.take_of_length_le (by omega), Nat.add_sub_cancel_left, List.take_append_of_le_length (by omega), Nat.add_assoc, List.drop_append, List.drop_of_length_le (by omega), List.nil_append, Nat.add_sub_cancel_left, List.drop_append_of_le_length (by omega)]
  simp
theorem put_take (cur us : List Value) (q M : Nat) (h : q + us.length ≤ M) (hM : M ≤ cur.length) : (cur.take q ++ (us ++ cur.drop (q + us.length))).take M = (cur.take M).take q ++ (us ++ (cur.take M).drop (q + us.length)) := by
  have a1 : (cur.take q).length = q := by simp; omega
  rw [List.take_append, List.take_of_length_le (by omega), a1, List.take_append, List.take_of_length_le (l := us) (by omega), List.drop_take, List.take_take, Nat.min_eq_left (by omega), Nat.sub_sub]
theorem step_store_el {o : Oper} {b : Nat} {S : St} {t : TypeId} {x y : Operand} (ho : o.op = .store t x y) {k ver off n : Nat} {i : Int} {cs : List SV} {tid : TypeId} {e : Ty} {l : List e.D} {z : e.D} (hy : (S.op y).cells = some cs) (hn : sizeT P t = some n) (hl : cs.length = n) (h1 : cs.all ocSV = true) (hx : S.op x = .el k ver i off) (hk : S.h[k]? = some (.row (some tid) e ver l)) (hkk : (keysOf cs).contains k = false)
    (hrow : ∀ k ∈ keysOf cs, ∃ o e ver l, S.h[k]? = some (.row o e ver l)) (hne : e.noer = true) (hwd : off + cs.length ≤ e.w) (hz : e.upd (l.getD i.toNat e.z) off cs S.h = some z) :
    Step P o b { val := .v undef, ro := k :: keysOf cs, rw := frz S.h cs ++ [(k, .row (some tid) e ver (l.set i.toNat z))] } S := by
  intro T hT O w0 G K a w hs Kn Q hK
  have hx' := hs.op x
  rw [hT.op x (by simp [ho, Op.operands]), hx] at hx'
  have hy' := hs.op y
  rw [hT.op y (by simp [ho, Op.operands])] at hy'
  obtain ⟨us, hus, hL⟩ := cells_is hy hy'
  have hone := oc_all hL h1
  have hlu := hL.len
  have hkT := (hT.ro k (by simp)).trans hk
  obtain ⟨ad', cp, hE, hcp⟩ := row_E hs hkT
  obtain ⟨ad, rfl, i0, i1, hv⟩ := el_is hx' hE
  obtain ⟨G1, e1, hH, s1, hRd⟩ := hs.frzRd (h0 := S.h) (cs := cs) (fun k' hk' => hT.ro k' (List.mem_cons_of_mem _ hk')) hrow
  have hk1 : (setObjs T.h (frz S.h cs))[k]? = some (.row (some tid) e ver l) := by
    rw [objs_other (fun q hq e => by
      have := (frz_keys hq).1
      rw [e] at this
      simp [this] at hkk)]
    exact hkT
  obtain ⟨ad2, cp2, xs, q1, q2, q3, q4⟩ := s1.ob k _ hk1
  rw [e1, hE] at q1
  simp only [Option.some.injEq, Gh.row.injEq] at q1
  obtain ⟨_, rfl, rfl, _, _⟩ := q1
  have hi : i.toNat < l.length := by omega
  have hg : l[i.toNat]? = some (l.getD i.toNat e.z) := by simp [List.getD_eq_getElem?_getD, hi]
  obtain ⟨p, c, r, p1, p2, p3, p4⟩ := q4.part _ _ hg
  have hc := p3.len
  have hrep := upd_rep hne hz p3 (by rw [e1]; exact hL) hwd hRd
  have hnew := p4 _ _ hrep
  rcases q2.2 with ⟨_, h0'⟩ | ⟨g, cap, cur, he, hbg, hh, hnc, hcm, hcs, htk⟩
  · omega
  simp only [Value.slice.injEq, Option.some.injEq] at he
  obtain ⟨rfl, _, rfl⟩ := he
  have hcl : cur.toList.length = cp * e.w := by simpa using hcs
  have hM : l.length * e.w ≤ cur.toList.length := by rw [hcl]; exact Nat.mul_le_mul_right _ hnc
  have hoff : i.toNat * e.w + e.w ≤ l.length * e.w := by rw [← Nat.succ_mul]; exact Nat.mul_le_mul_right _ hi
  have hh' : w.heap[g]? = some (.cells cur.toList.toArray tid (0, 0)) := by simpa using hh
  obtain ⟨w', r1, r2, r3, r4, r5, r6, r7⟩ := stores_run (P := P) us (i.toNat * e.w + off) 0 w cur.toList hh' (by omega) hone
  have how := q3 _ rfl
  dsimp only at how
  have hb0 : w0.heap.size ≤ g := hbg
  have hown : w'.ownsRow w0.heap.size tid e.w (.slice (some ⟨g, 0, none⟩) l.length cp) l.length (p ++ ((c.take off ++ (us ++ c.drop (off + us.length))) ++ r)) := by
    refine ⟨?_, .inr ⟨g, cp, _, rfl, hbg, r2, hnc, hcm, ?_, ?_⟩⟩
    · rw [hnew.len, List.length_set]
    · simp; rw [← hcs]; simp at hM; omega
    · rw [Nat.add_zero, List.toList_toArray, put_take _ _ _ _ (by omega) hM, htk, p1]
      have := put_part p c r us off (by omega)
      rw [p2] at this
      exact this
  have hgrow : w.grownBy w' (some g) := ⟨r5, r6, r7, by omega, fun j _ hj => r3 j (fun e => hj (by rw [e]))⟩
  have s2 := s1.own_set (k := k) hk1 (l' := l.set i.toNat z) (by simp) (by rw [e1]; exact hE) (w' := w') (ad := some ⟨g, 0, none⟩) hgrow (fun g' hg' => by cases hg'; exact how) hown hnew
  refine wp_skp (w' := w') ?_ (hK G1 _ _ ?_)
  · have hsz : us.length = n := hlu.trans hl
    have hadd : (((⟨g, 0, none⟩ : Addr).add (i.toNat * e.w)).add off) = ⟨g, i.toNat * e.w + off, none⟩ := by rw [add_add, add_plain', Nat.zero_add]
    simp [execOp, ho, Instr.storeAt, Instr.sureAddr, hv, storeVar, size_run hn, hus, hsz, Sem.run_bind, hadd, r1]
  · have := s2.put o.dst (x := .v undef) (u := undef) (by simp [Is])
    simpa [ap, objs_app, setObjs, setNew] using this
theorem addOff_is {E : Env} {x y : SV} {n : Nat} (h : addOff x n = some y) {u : Value} (hu : Is E x u) : ∃ ad, u = .pointer (some ad) ∧ Is E y (.pointer (some (ad.add n))) := by
  unfold addOff at h
  split at h
  · cases h
    simp only [Is] at hu ⊢
    obtain ⟨b, hE, rfl⟩ := hu
    exact ⟨_, rfl, b, hE, by rw [add_plain']⟩
  · cases h
    simp only [Is] at hu ⊢
    obtain ⟨v, A, c, m, wd, hE, h1, ⟨ad, rfl⟩, h2⟩ := hu
    refine ⟨ad, rfl, v, A, c, m, wd, hE, h1, ⟨_, rfl⟩, fun hv => ?_⟩
    obtain ⟨ad', rfl, i0, i1, h3⟩ := h2 hv
    cases h3
    exact ⟨ad', rfl, i0, i1, by rw [add_add]⟩
  · cases h
theorem step_field {o : Oper} {b : Nat} {S : St} {s : TypeId} {x : Operand} {f : Nat} (ho : o.op = .fieldAddr s x f) {fs : Array Field} {fl : Field} {m : Nat} (hu : P.underlying s = some (.struct fs)) (hf : fs[f]? = some fl) (hsz : sizeT P fl.type = some (m + 1)) {y : SV}
    (hy : addOff (S.op x) fl.offset = some y) : Step P o b { val := y } S := by
  refine step_val fun T h1 _ O w0 G K a w hs => ?_
  have hx' := hs.op x
  rw [h1 x (by simp [ho, Op.operands])] at hx'
  obtain ⟨ad, hv, hy'⟩ := addOff_is hy hx'
  exact ⟨_, by simp [execOp, ho, Instr.fieldAt, Instr.sureAddr, hv, Sem.run_bind, run_underlying hu, hf, fieldPlace, size_run hsz], hy'⟩
theorem step_index_arr {o : Oper} {b : Nat} {S : St} {t e : TypeId} {x ix : Operand} (ho : o.op = .indexAddr t x ix) {n sz : Nat} (hu : P.underlying t = some (.array n e)) (h2 : 2 ≤ n) {kk : IntKind} {i : Int} (hi : S.op ix = .v (.int kk i)) (hsz : sizeT P e = some sz) (h0 : 0 ≤ i) (h1 : i < (n : Int)) {y : SV} (hy : addOff (S.op x) (i.toNat * sz) = some y) :
    Step P o b { val := y } S := by
  refine step_val fun T hT _ O w0 G K a w hs => ?_
  have hx' := hs.op x
  rw [hT x (by simp [ho, Op.operands])] at hx'
  have hi' := hs.op ix
  rw [hT ix (by simp [ho, Op.operands]), hi] at hi'
  simp only [Is] at hi'
  obtain ⟨ad, hv, hy'⟩ := addOff_is hy hx'
  exact ⟨_, by simp [execOp, ho, Instr.indexAt, Instr.sureAddr, hv, hi', asIntOf, Sem.run_bind, run_underlying hu, h0, h1, size_run hsz], hy'⟩
theorem row_hdr {O : Nat → Prop} {w0 : World} {S T : St} {G : Gs} {K : List Value} {a : Act} {w : World} (hs : Sat O w0 T G K a w) {x : SV} {V : RowV} (hV : rowOf S.h x = some V) (hk : T.h[V.k]? = S.h[V.k]?) {u : Value} (hu : Is G.E x u) : x = .sl V.k V.ver V.r ∧ T.h[V.k]? = some (.row V.o V.e V.ver V.l) ∧ ∃ ad cp, G.E V.k = some (.row V.ver ad cp V.l.length V.e.w) ∧ V.l.length ≤ cp ∧ RowAt (fun b => w.heap[b]?) V.e ad V.l ∧ Hdr ad cp V.l.length V.e.w V.r u := by
  have h1 := rowOf_some hV
  have h2 : rowOf T.h x = some V := by
    rw [h1.1]
    simp [rowOf, hk.trans h1.2]
  exact ⟨h1.1, hk.trans h1.2, sl_hdr h2 (hs.allRd _) hu⟩
theorem step_index {o : Oper} {b : Nat} {S : St} {t e : TypeId} {x ix : Operand} (ho : o.op = .indexAddr t x ix) (hu : P.underlying t = some (.slice e)) {sz : Nat} {kk : IntKind} {i : Int} (hi : S.op ix = .v (.int kk i)) (hsz : sizeT P e = some sz) {V : RowV} (hV : rowOf S.h (S.op x) = some V) (hw : V.e.w = sz) (h0 : 0 ≤ i) (h1 : i < (rlen V.r V.l : Int)) :
    Step P o b { val := .el V.k V.ver (match V.r with | none => i | some (off, _) => (off : Int) + i) 0, ro := [V.k] } S := by
  subst hw
  refine step_val fun T hT h3 O w0 G K a w hs => ?_
  have hx' := hs.op x
  rw [hT x (by simp [ho, Op.operands])] at hx'
  have hi' := hs.op ix
  rw [hT ix (by simp [ho, Op.operands]), hi] at hi'
  simp only [Is] at hi'
  obtain ⟨_, _, ad, cp, hE, hl, hR, hh⟩ := row_hdr hs hV (h3 _ (by simp)) hx'
  obtain ⟨k, ver, ow, ek, l, r⟩ := V
  dsimp only at *
  cases r with
  | none =>
    simp only [rlen, llen] at h1
    obtain ⟨p, rfl, _⟩ := hR (by omega)
    have hh' : a.eval x = .slice (some p) l.length cp := hh
    refine ⟨.pointer (some (p.add (i.toNat * ek.w))), ?_, ?_⟩
    · simp [execOp, ho, Instr.indexAt, hh', hi', asIntOf, Sem.run_bind, run_underlying hu, h0, h1, size_run hsz]
    · simp only [Is]
      exact ⟨_, _, _, _, _, hE, Nat.le_refl _, ⟨_, rfl⟩, fun _ => ⟨p, rfl, h0, h1, by simp [Addr.add]⟩⟩
  | some q =>
    obtain ⟨off, m⟩ := q
    simp only [rlen, llen] at h1
    obtain ⟨g1, ad', hv, g2, _⟩ := hh
    obtain ⟨p, rfl, _⟩ := hR (by omega)
    rw [g2 (by omega)] at hv
    refine ⟨.pointer (some ((p.add (off * ek.w)).add (i.toNat * ek.w))), ?_, ?_⟩
    · simp [execOp, ho, Instr.indexAt, hv, hi', asIntOf, Sem.run_bind, run_underlying hu, h0, h1, size_run hsz]
    · simp only [Is]
      refine ⟨_, _, _, _, _, hE, Nat.le_refl _, ⟨_, rfl⟩, fun _ => ⟨p, rfl, by omega, by omega, ?_⟩⟩
      rw [add_add, ← Nat.add_mul, show ((off : Int) + i).toNat = off + i.toNat by omega]
      simp [Addr.add]
theorem step_extract {o : Oper} {b : Nat} {S : St} {x : Operand} {i : Nat} (ho : o.op = .extract x i) {l : List SV} {y : SV} (hx : S.op x = .tup l) (hy : l[i]? = some y) : Step P o b { val := y } S := by
  refine step_val fun T h1 _ O w0 G K a w hs => ?_
  have hx' := hs.op x
  rw [h1 x (by simp [ho, Op.operands]), hx] at hx'
  simp only [Is] at hx'
  obtain ⟨us, hv, hl⟩ := hx'
  obtain ⟨u, hu, hi⟩ := hl.get i hy
  exact ⟨u, by simp [execOp, ho, Instr.extract, hv, hu], hi⟩
theorem step_fieldv {o : Oper} {b : Nat} {S : St} {t : TypeId} {x : Operand} {f : Nat} (ho : o.op = .field t x f) {l : List SV} (hx : S.op x = .agg l) {fs : Array Field} {fl : Field} (hu : P.underlying t = some (.struct fs)) (hf : fs[f]? = some fl) {g : Bool} {n : Nat} (hl : loadT P fl.type = some (g, n)) (hle : fl.offset + n ≤ l.length) : Step P o b { val := packed g ((l.drop fl.offset).take n) } S := by
  refine step_val fun T h1 _ O w0 G K a w hs => ?_
  have hx' := hs.op x
  rw [h1 x (by simp [ho, Op.operands]), hx] at hx'
  simp only [Is] at hx'
  obtain ⟨us, hv, hL⟩ := hx'
  have hlen := hL.len
  have hL2 := ((hL.cut fl.offset).2.cut n).1
  have hn : ((us.drop fl.offset).take n).length = n := by simp; omega
  refine ⟨_, ?_, packed_is hL2 hn (loadT_one hl)⟩
  unfold loadT at hl
  obtain ⟨g', hg', hl⟩ := Option.bind_eq_some_iff.1 hl
  have hrun := isAgg_run hg' w
  cases g' with
  | true =>
    simp only [if_true, Option.map_eq_some_iff, Prod.mk.injEq] at hl
    obtain ⟨m, hm, rfl, rfl⟩ := hl
    simp [execOp, ho, Instr.field, hv, hf, part, asAgg, Sem.run_bind, run_underlying hu, hrun, size_run hm, List.extract_toArray, List.extract_eq_take_drop]
  | false =>
    simp at hl
    obtain ⟨rfl, rfl⟩ := hl
    have hlt : fl.offset < us.length := by omega
    simp [execOp, ho, Instr.field, hv, hf, part, asAgg, Sem.run_bind, run_underlying hu, hrun, List.getElem?_eq_getElem hlt]
theorem step_not {o : Oper} {b : Nat} {S : St} {t : TypeId} {x : Operand} (ho : o.op = .unOp .not t x) {y : SV} (hy : (∃ p d, S.op x = .tst p d ∧ y = .nt p d) ∨ (∃ p d, S.op x = .nt p d ∧ y = .tst p d)) : Step P o b { val := y } S := by
  refine step_val fun T h1 _ O w0 G K a w hs => ?_
  have hx' := hs.op x
  rw [h1 x (by simp [ho, Op.operands])] at hx'
  rcases hy with ⟨p, d, hS, rfl⟩ | ⟨p, d, hS, rfl⟩ <;> rw [hS] at hx' <;> simp only [Is] at hx' ⊢ <;> refine ⟨_, ?_, rfl⟩ <;> simp [execOp, ho, hx', Op.unary]
theorem step_iface {o : Oper} {b : Nat} {S : St} {t : TypeId} {x : Operand} (ho : o.op = .makeInterface t x) {d : TypeDesc} (hu : P.underlying t = some d) (hd : ∀ ms, d ≠ .interface ms) : Step P o b { val := .ifc t (S.op x) } S := by
  refine step_val fun T h1 _ O w0 G K a w hs => ?_
  have hx' := hs.op x
  rw [h1 x (by simp [ho, Op.operands])] at hx'
  refine ⟨.iface t (a.eval x), ?_, by simp only [Is]; exact ⟨_, rfl, hx'⟩⟩
  simp only [execOp, ho, Instr.makeInterface, Sem.run_bind, run_underlying hu, Result.andThen_ok]
  cases d <;> first | rfl | exact absurd rfl (hd _)
theorem isL_ops {O : Nat → Prop} {w0 : World} {S T : St} {G : Gs} {K : List Value} {a : Act} {w : World} (hs : Sat O w0 T G K a w) : ∀ l : List Operand, (∀ x ∈ l, T.op x = S.op x) → IsL G.E (l.map S.op) (l.map a.eval)
  | [], _ => by simp [IsL]
  | x :: l, h => by
    simp only [List.map_cons, IsL]
    exact ⟨by rw [← h x (by simp)]; exact hs.op x, isL_ops hs l (fun y hy => h y (List.mem_cons_of_mem _ hy))⟩
theorem step_func {o : Oper} {b : Nat} {S : St} {f : Fn} {first caps : Array Operand} (ho : o.op = .makeFunc f first caps) : Step P o b { val := .fn f (first.toList.map S.op) (caps.toList.map S.op) } S := by
  refine step_val fun T h1 _ O w0 G K a w hs => ?_
  refine ⟨.func f (first.map a.eval) (caps.map a.eval), by simp [execOp, ho, Instr.makeFunc], ?_⟩
  simp only [Is]
  refine ⟨first.toList.map a.eval, caps.toList.map a.eval, ?_, isL_ops hs _ (fun x hx => h1 x (by simp [ho, Op.operands, Array.mem_def.2 hx])), isL_ops hs _ (fun x hx => h1 x (by simp [ho, Op.operands, Array.mem_def.2 hx]))⟩
  congr 1 <;> (apply Array.ext'; simp)
theorem step_nilCheck {o : Oper} {b : Nat} {S : St} {x : Operand} (ho : o.op = .nilCheck x) (hx : (∃ k off, S.op x = .ptr k off) ∨ (∃ k ver i off, S.op x = .el k ver i off) ∨ (∃ f a c, S.op x = .fn (.func f) a c)) : Step P o b { val := S.op x } S := by
  refine step_val fun T h1 _ O w0 G K a w hs => ?_
  have hx' := hs.op x
  rw [h1 x (by simp [ho, Op.operands])] at hx'
  refine ⟨a.eval x, ?_, hx'⟩
  rcases hx with ⟨k, off, e⟩ | ⟨k, ver, i, off, e⟩ | ⟨f, fa, c, e⟩ <;> rw [e] at hx' <;> simp only [Is] at hx'
  · obtain ⟨_, _, hv⟩ := hx'; simp [execOp, ho, hv]
  · obtain ⟨_, _, _, _, _, _, _, ⟨_, hv⟩, _⟩ := hx'; simp [execOp, ho, hv]
  · obtain ⟨_, _, hv, _⟩ := hx'; simp [execOp, ho, hv]
theorem step_bin {o : Oper} {b : Nat} {S : St} {bo : BinOp} {t ty : TypeId} {x y : Operand} (ho : o.op = .binOp bo t x y ty) {vx vy : Value} (hx : S.op x = .v vx) (hy : S.op y = .v vy) {z : SV} {u : Value} (hz : ∀ E, Is E z u)
    (hr : ∀ w, (eqGuard bo t x y vx vy).run P w = .ok () w ∧ (binOp bo t vx vy).run P w = .ok u w) : Step P o b { val := z } S := by
  refine step_val fun T h1 _ O w0 G K a w hs => ?_
  have hx' := hs.op x
  rw [h1 x (by simp [ho, Op.operands]), hx] at hx'
  have hy' := hs.op y
  rw [h1 y (by simp [ho, Op.operands]), hy] at hy'
  simp only [Is] at hx' hy'
  exact ⟨u, by simp [execOp, ho, hx', hy', Sem.run_bind, (hr w).1, (hr w).2], hz _⟩
theorem guard_int (bo : BinOp) (t : TypeId) (x y : Operand) (k k' : IntKind) (i j : Int) (w : World) : (eqGuard bo t x y (.int k i) (.int k' j)).run P w = .ok () w := by
  unfold eqGuard; split <;> simp
theorem guard_str (bo : BinOp) (t : TypeId) (x y : Operand) (i j : ByteArray) (w : World) : (eqGuard bo t x y (.string i) (.string j)).run P w = .ok () w := by
  unfold eqGuard; split <;> simp
theorem cmp_sem {bo : BinOp} {i j : Int} {z : SV} (h : cmpSV bo i j = some z) : ∃ u, (∀ E, Is E z u) ∧ Op.intCmp bo i j = pure u ∧ (bo ≠ .add ∧ bo ≠ .sub ∧ bo ≠ .mul ∧ bo ≠ .quo ∧ bo ≠ .rem ∧ bo ≠ .and ∧ bo ≠ .or ∧ bo ≠ .xor ∧ bo ≠ .andNot ∧ bo ≠ .shl ∧ bo ≠ .shr) := by
  cases bo <;> simp only [cmpSV, Option.some.injEq, reduceCtorEq] at h <;> subst h
  · exact ⟨.bool (decide (i = j)), fun E => by simp only [Is], rfl, by simp⟩
  · exact ⟨.bool (!decide (i = j)), fun E => by simp only [Is], rfl, by simp⟩
  · exact ⟨.bool (decide (i < j)), fun E => by simp only [Is], rfl, by simp⟩
  · exact ⟨.bool (decide (i ≤ j)), fun E => by simp only [Is], rfl, by simp⟩
  · exact ⟨.bool (decide (j < i)), fun E => by simp only [Is], rfl, by simp⟩
  · exact ⟨.bool (decide (j ≤ i)), fun E => by simp only [Is], rfl, by simp⟩
theorem step_cmp {o : Oper} {b : Nat} {S : St} {bo : BinOp} {t ty : TypeId} {x y : Operand} (ho : o.op = .binOp bo t x y ty) {k : IntKind} {i j : Int} (hx : S.op x = .v (.int k i)) (hy : S.op y = .v (.int k j)) {z : SV} (hz : cmpSV bo i j = some z) : Step P o b { val := z } S := by
  obtain ⟨u, hu, hr, hne⟩ := cmp_sem hz
  refine step_bin ho hx hy hu (fun w => ⟨guard_int _ _ _ _ _ _ _ _ w, ?_⟩)
  have : binOp bo t (.int k i) (.int k j) = Op.intCmp bo i j := by
    cases bo <;> first | rfl | (simp at hne; done) | simp [binOp]
  rw [this, hr]
  rfl
theorem string_beq (x y : ByteArray) : (x.toList == y.toList) = decide (x.toList = y.toList) := by
  rw [Bool.eq_iff_iff]
  simp
theorem step_binv {o : Oper} {b : Nat} {S : St} {bo : BinOp} {t ty : TypeId} {x y : Operand} (ho : o.op = .binOp bo t x y ty) {vx vy : Value} (hx : S.op x = .v vx) (hy : S.op y = .v vy) {u : Value}
    (hr : ∀ w, (eqGuard bo t x y vx vy).run P w = .ok () w ∧ (binOp bo t vx vy).run P w = .ok u w) : Step P o b { val := .v u } S := step_bin (u := u) ho hx hy (fun E => by simp only [Is]) hr
theorem wrapK_eq (k : IntKind) (n : Int) : wrapK k n = k.wrap n := by
  cases k <;> first | rfl | (unfold wrapK RowKit.wrap64; exact (IntKind.wrap_i64 n).symm) | (unfold wrapK RowKit.wrap32; exact (IntKind.wrap_i32 n).symm)
theorem step_arith {o : Oper} {b : Nat} {S : St} {bo : BinOp} {t ty : TypeId} {x y : Operand} (ho : o.op = .binOp bo t x y ty) {k : IntKind} {i j : Int} (hx : S.op x = .v (.int k i)) (hy : S.op y = .v (.int k j)) {u : Int} (hu : (bo = .add ∧ u = i + j) ∨ (bo = .sub ∧ u = i - j) ∨ (bo = .mul ∧ u = i * j)) : Step P o b { val := .v (.int k (wrapK k u)) } S := by
  rw [wrapK_eq]
  rcases hu with ⟨rfl, rfl⟩ | ⟨rfl, rfl⟩ | ⟨rfl, rfl⟩ <;> exact step_binv ho hx hy (fun w => ⟨guard_int _ _ _ _ _ _ _ _ w, by simp [binOp, Op.intArith]⟩)
theorem step_bits {o : Oper} {b : Nat} {S : St} {bo : BinOp} {t ty : TypeId} {x y : Operand} (ho : o.op = .binOp bo t x y ty) {k : IntKind} {i j : Int} (hx : S.op x = .v (.int k i)) (hy : S.op y = .v (.int k j)) (hu : bo = .and ∨ bo = .or ∨ bo = .xor) : Step P o b { val := .v (.int k (Go.bits bo k i j)) } S := by
  rcases hu with rfl | rfl | rfl <;> exact step_binv ho hx hy (fun w => ⟨guard_int _ _ _ _ _ _ _ _ w, by simp [binOp, Op.intBits, Go.bits]⟩)
theorem step_neg {o : Oper} {b : Nat} {S : St} {t : TypeId} {x : Operand} (ho : o.op = .unOp .neg t x) {k : IntKind} {i : Int} (hx : S.op x = .v (.int k i)) : Step P o b { val := .v (.int k (wrapK k (-i))) } S := by
  refine step_val fun T h1 _ O w0 G K a w hs => ?_
  have hx' := hs.op x
  rw [h1 x (by simp [ho, Op.operands]), hx] at hx'
  simp only [Is] at hx'
  exact ⟨.int k (wrapK k (-i)), by simp [execOp, ho, hx', Op.unary, Op.intArith, wrapK_eq], by simp only [Is]⟩
theorem step_conv {o : Oper} {b : Nat} {S : St} {src dst : TypeId} {x : Operand} (ho : o.op = .convert src dst x) {k k' : IntKind} {i : Int} (hu : P.underlying dst = some (.int k)) (hx : S.op x = .v (.int k' i)) (hs : ∃ d, P.underlying src = some d) : Step P o b { val := .v (.int k (wrapK k i)) } S := by
  obtain ⟨d, hd⟩ := hs
  refine step_val fun T h1 _ O w0 G K a w hs => ?_
  have hx' := hs.op x
  rw [h1 x (by simp [ho, Op.operands]), hx] at hx'
  simp only [Is] at hx'
  refine ⟨.int k (wrapK k i), ?_, by simp only [Is]⟩
  simp only [execOp, ho, hx', convert, Sem.run_bind, run_underlying hu, run_underlying hd, Result.andThen_ok, Conv.intToInt, wrapK_eq, Sem.run_pure]
theorem step_div {o : Oper} {b : Nat} {S : St} {bo : BinOp} {t ty : TypeId} {x y : Operand} (ho : o.op = .binOp bo t x y ty) {k : IntKind} {i j : Int} (hx : S.op x = .v (.int k i)) (hy : S.op y = .v (.int k j)) (hj : ¬ j = 0) {u : Value} (hu : (bo = .quo ∧ u = .int k (wrapK k (i.tdiv j))) ∨ (bo = .rem ∧ u = .int k (i.tmod j))) : Step P o b { val := .v u } S := by
  rcases hu with ⟨rfl, rfl⟩ | ⟨rfl, rfl⟩ <;> exact step_binv ho hx hy (fun w => ⟨guard_int _ _ _ _ _ _ _ _ w, by simp [binOp, Op.intDiv, hj, wrapK_eq]⟩)
theorem pw_eq (n : Nat) : pw n = 2 ^ n := by
  unfold pw
  split <;> first | rfl | exact Int.natCast_pow ..
theorem fdiv_pow (i : Int) (n : Nat) : i.fdiv (2 ^ n) = i / pw n := by
  rw [pw_eq]; exact Int.fdiv_eq_ediv_of_nonneg _ (by have := Int.pow_pos (n := 2) (m := n) (by omega); omega)
theorem step_shift {o : Oper} {b : Nat} {S : St} {bo : BinOp} {t ty : TypeId} {x y : Operand} (ho : o.op = .binOp bo t x y ty) {k k' : IntKind} {i j : Int} (hx : S.op x = .v (.int k i)) (hy : S.op y = .v (.int k' j)) (hj : ¬ j < 0) {u : Value} (hu : (bo = .shl ∧ u = .int k (wrapK k (i * 2 ^ (min j.toNat k.bits)))) ∨ (bo = .shr ∧ u = .int k (i / pw (min j.toNat k.bits)))) : Step P o b { val := .v u } S := by
  rcases hu with ⟨rfl, rfl⟩ | ⟨rfl, rfl⟩ <;> exact step_binv ho hx hy (fun w => ⟨guard_int _ _ _ _ _ _ _ _ w, by simp [binOp, Op.shift, hj, wrapK_eq, fdiv_pow]⟩)
theorem step_str {o : Oper} {b : Nat} {S : St} {bo : BinOp} {t ty : TypeId} {x y : Operand} (ho : o.op = .binOp bo t x y ty) {i j : ByteArray} (hx : S.op x = .v (.string i)) (hy : S.op y = .v (.string j)) {z : SV} (hz : cmpStr bo i j = some z) : Step P o b { val := z } S := by
  cases bo <;> simp only [cmpStr, Option.some.injEq, reduceCtorEq] at hz <;> subst hz
  · exact step_bin (u := .bool (decide (i.toList = j.toList))) ho hx hy (fun E => by simp only [Is]) (fun w => ⟨guard_str _ _ _ _ _ _ w, by simp [binOp, Op.stringOp, ← string_beq]⟩)
  · exact step_bin (u := .bool (!decide (i.toList = j.toList))) ho hx hy (fun E => by simp only [Is]) (fun w => ⟨guard_str _ _ _ _ _ _ w, by simp [binOp, Op.stringOp, ← string_beq]⟩)
theorem step_cat {o : Oper} {b : Nat} {S : St} {t ty : TypeId} {x y : Operand} (ho : o.op = .binOp .add t x y ty) {i j : ByteArray} (hx : S.op x = .v (.string i)) (hy : S.op y = .v (.string j)) (hl : i.size + j.size ≤ 9223372036854775807) : Step P o b { val := .v (.string (i ++ j)) } S := by
  have hm : IntKind.i64.max = 9223372036854775807 := by decide
  exact step_binv ho hx hy (fun w => ⟨guard_str _ _ _ _ _ _ w, by simp only [binOp, Op.stringOp, hm]; rw [if_neg (by omega)]; rfl⟩)
theorem step_ifcnil {o : Oper} {b : Nat} {S : St} {bo : BinOp} {t ty ti : TypeId} {x y : Operand} (ho : o.op = .binOp bo t x y ty) {z : SV} (hx : S.op x = .ifc ti z) (hy : S.op y = .v .nilIface) {ms : Array (String × TypeId)} (hu : P.underlying t = some (.interface ms)) {g : Bool} (hg : (bo = .eql ∧ g = false) ∨ (bo = .neq ∧ g = true)) : Step P o b { val := .v (.bool g) } S := by
  refine step_val fun T h1 _ O w0 G K a w hs => ?_
  have hx' := hs.op x
  rw [h1 x (by simp [ho, Op.operands]), hx] at hx'
  have hy' := hs.op y
  rw [h1 y (by simp [ho, Op.operands]), hy] at hy'
  simp only [Is] at hx' hy'
  obtain ⟨v, hv, _⟩ := hx'
  have he : ∀ n, (Op.equalIn (n + 1) t (.iface ti v) .nilIface).run P w = .ok false w := fun n => by simp [Op.equalIn, Sem.run_bind, run_underlying hu]
  have he' : (Op.equal t (.iface ti v) .nilIface).run P w = .ok false w := he 9999
  have hgd : (eqGuard bo t x y (.iface ti v) .nilIface).run P w = .ok () w := by unfold eqGuard; split <;> simp
  refine ⟨.bool g, ?_, by simp only [Is]⟩
  rcases hg with ⟨rfl, rfl⟩ | ⟨rfl, rfl⟩ <;> simp [execOp, ho, hv, hy', Sem.run_bind, hgd, binOp, he']
end
end Go.Proofs.Ytlbicmdfdpcdiaa.Vm
-- Printed by a program of this session's; Lean checks it.
set_option linter.unusedVariables false
set_option linter.unusedSimpArgs false
namespace Go.Proofs.Ytlbicmdfdpcdiaa.Vm
open Go.RowKit
section
variable {P : Program}
section
variable {d : Nat} {xs ys : Array Value} {f : Field} {fs : List Field} {a b : Value} {r s : Bool} {w : World}
theorem eqf_nil : (Op.eqFields d xs ys []).run P w = .ok true w := rfl
theorem eqf_last (hn : (f.name == "_") = false) (ha : (part f.type xs f.offset).run P w = .ok a w) (hb : (part f.type ys f.offset).run P w = .ok b w) (he : (Op.equalIn d f.type a b).run P w = .ok r w) : (Op.eqFields d xs ys [f]).run P w = .ok r w := by
  have hn' : f.name ≠ "_" := by simpa using hn
  simp only [Op.eqFields, if_pos hn', Sem.run_bind, ha, hb, he, Result.andThen_ok]
  cases r <;> simp
theorem eqf_cons (hn : (f.name == "_") = false) (ha : (part f.type xs f.offset).run P w = .ok a w) (hb : (part f.type ys f.offset).run P w = .ok b w) (he : (Op.equalIn d f.type a b).run P w = .ok r w) (hr : (Op.eqFields d xs ys fs).run P w = .ok s w) : (Op.eqFields d xs ys (f :: fs)).run P w = .ok (r && s) w := by
  have hn' : f.name ≠ "_" := by simpa using hn
  rw [Op.eqFields]
  simp only [if_pos hn', Sem.run_bind, ha, hb, he, Result.andThen_ok]
  cases r
  · simp
  · simpa using hr
theorem eqA_of {t : TypeId} {fs : Array Field} (hu : P.underlying t = some (.struct fs)) (hp : P.stoodInHeld t = false) (h : (Op.eqFields d xs ys fs.toList).run P w = .ok r w) : (Op.equalIn (d + 1) t (.agg xs) (.agg ys)).run P w = .ok r w := by
  have hf : P.fieldsOf t = fs := by simp [Program.fieldsOf, hu]
  rw [run_equalIn_struct (P := P) w d t xs ys (by rw [hf]; exact hu) hp, hf]
  exact h
end
theorem part_run {t : TypeId} {cs : Array Value} {off : Nat} {v : Value} (h : eqV.partV P t cs off = some v) (w : World) : (part t cs off).run P w = .ok v w := by
  unfold eqV.partV at h
  obtain ⟨⟨g, n⟩, hl, h⟩ := Option.bind_eq_some_iff.1 h
  unfold loadT at hl
  obtain ⟨g', hg, hl⟩ := Option.bind_eq_some_iff.1 hl
  unfold part
  rw [Sem.run_bind, isAgg_run hg]
  cases g' with
  | true =>
    simp only [if_true, Option.map_eq_some_iff] at hl
    obtain ⟨m, hm, he⟩ := hl
    cases he
    simp only [if_true, Option.some.injEq] at h
    subst h
    simp [Sem.run_bind, size_run hm]
  | false =>
    simp at hl
    obtain ⟨rfl, rfl⟩ := hl
    simp at h
    simp [h]
theorem eqFs_run {d e : Nat} {eq : TypeId → Value → Value → Option Bool} (hq : ∀ t x y b, eqOk P e t = true → eq t x y = some b → ∀ w, (Op.equalIn d t x y).run P w = .ok b w) (xs ys : Array Value) (w : World) : ∀ {fs : List Field} {b : Bool}, fs.all (fun f => eqOk P e f.type) = true → eqV.eqFs P eq xs ys fs = some b → (Op.eqFields d xs ys fs).run P w = .ok b w
  | [], b, _, h => by simp only [eqV.eqFs, Option.some.injEq] at h; subst h; exact eqf_nil
  | [f], b, hk, h => by
    simp only [eqV.eqFs] at h
    split at h
    · cases h
    · rename_i hn
      obtain ⟨x, hx, h⟩ := Option.bind_eq_some_iff.1 h
      obtain ⟨y, hy, h⟩ := Option.bind_eq_some_iff.1 h
      exact eqf_last (by simpa using hn) (part_run hx w) (part_run hy w) (hq _ _ _ _ (by simpa using hk) h w)
  | f :: g :: r, b, hk, h => by
    rw [List.all_cons, Bool.and_eq_true] at hk
    simp only [eqV.eqFs] at h
    split at h
    · cases h
    · rename_i hn
      obtain ⟨x, hx, h⟩ := Option.bind_eq_some_iff.1 h
      obtain ⟨y, hy, h⟩ := Option.bind_eq_some_iff.1 h
      obtain ⟨b1, hb1, h⟩ := Option.bind_eq_some_iff.1 h
      obtain ⟨c, hc, rfl⟩ := Option.map_eq_some_iff.1 h
      exact eqf_cons (by simpa using hn) (part_run hx w) (part_run hy w) (hq _ _ _ _ hk.1 hb1 w) (eqFs_run hq xs ys w hk.2 hc)
theorem eqV_run : ∀ (d n : Nat) {t : TypeId} {x y : Value} {b : Bool}, eqOk P d t = true → eqV P d t x y = some b → ∀ w, (Op.equalIn (d + n) t x y).run P w = .ok b w
  | 0, n, t, x, y, b, _, h, w => by simp [eqV] at h
  | d + 1, n, t, x, y, b, hk, h, w => by
    rw [show d + 1 + n = (d + n) + 1 by omega]
    simp only [eqV] at h
    split at h
    · rename_i hu
      simp only [Option.some.injEq] at h
      subst h
      simp [Op.equalIn, Sem.run_bind, run_underlying hu]
    · rename_i hu
      split at h
      · rename_i e; subst e
        simp only [Option.some.injEq] at h
        subst h
        simp [Op.equalIn, Sem.run_bind, run_underlying hu]
      · cases h
    · rename_i hu
      simp only [Option.some.injEq] at h
      subst h
      exact run_equalIn_string w (d + n) t _ _ hu
    · rename_i fs xs ys hu
      simp only [eqOk, hu, Bool.and_eq_true, Bool.not_eq_true'] at hk
      exact eqA_of hu hk.1 (eqFs_run (fun t x y b hk hb w => eqV_run d n hk hb w) xs ys w hk.2 h)
    · cases h
theorem step_eq {o : Oper} {b : Nat} {S : St} {bo : BinOp} {t ty : TypeId} {x y : Operand} (ho : o.op = .binOp bo t x y ty) {xs ys : Array Value} (hx : (S.op x).val? = some (.agg xs)) (hy : (S.op y).val? = some (.agg ys)) (hgd : P.eqGuardType P.depth t = false) {g : Bool} (he : ∀ w, (Op.equal t (.agg xs) (.agg ys)).run P w = .ok g w) {u : Bool} (hu : (bo = .eql ∧ u = g) ∨ (bo = .neq ∧ u = !g)) : Step P o b { val := .v (.bool u) } S := by
  refine step_val fun T h1 _ O w0 G K a w hs => ?_
  have hx' := hs.op x
  rw [h1 x (by simp [ho, Op.operands])] at hx'
  have hy' := hs.op y
  rw [h1 y (by simp [ho, Op.operands])] at hy'
  have ex := val_is hx hx'
  have ey := val_is hy hy'
  have hgr1 : (eqGuard .eql t x y (.agg xs) (.agg ys)).run P w = .ok () w := by
    simp [eqGuard, program, Sem.run_bind, Sem.run, hgd]
  have hgr2 : (eqGuard .neq t x y (.agg xs) (.agg ys)).run P w = .ok () w := by
    simp [eqGuard, program, Sem.run_bind, Sem.run, hgd]
  refine ⟨.bool u, ?_, by simp only [Is]⟩
  rcases hu with ⟨rfl, rfl⟩ | ⟨rfl, rfl⟩ <;> simp [execOp, ho, ex, ey, Sem.run_bind, hgr1, hgr2, binOp, he]
theorem step_eqs {o : Oper} {b : Nat} {S : St} {bo : BinOp} {t ty : TypeId} {x y : Operand} (ho : o.op = .binOp bo t x y ty) {xs ys : Array Value} (hx : (S.op x).val? = some (.agg xs)) (hy : (S.op y).val? = some (.agg ys)) (hgd' : (!P.eqGuardType P.depth t && eqOk P 20 t) = true) {g : Bool} (hg : eqV P 20 t (.agg xs) (.agg ys) = some g) {u : Bool} (hu : (bo = .eql ∧ u = g) ∨ (bo = .neq ∧ u = !g)) : Step P o b { val := .v (.bool u) } S := by
  simp only [Bool.and_eq_true, Bool.not_eq_true'] at hgd'
  exact step_eq ho hx hy hgd'.1 (fun w => eqV_run 20 9980 hgd'.2 hg w) hu
theorem eqItems_run {d : Nat} {e : TypeId} {k0 : IntKind} (hu : P.underlying e = some (.int k0)) (hs : sizeT P e = some 1) {xs ys : Array Value} (w : World) : ∀ {is : List Nat} {g : Bool}, eqArr xs ys is = some g → (Op.eqItems (d + 1) e 1 xs ys is).run P w = .ok g w := by
  have hl : loadT P e = some (false, 1) := by simp [loadT, isAggT, hu]
  have hp : ∀ (cs : Array Value) i v, cs[i]? = some v → (part e cs (i * 1)).run P w = .ok v w := fun cs i v h => part_run (by simp [eqV.partV, hl, h]) w
  have he : ∀ k a b, (Op.equalIn (d + 1) e (.int k a) (.int k b)).run P w = .ok (a == b) w := fun k a b => by simp [Op.equalIn, Sem.run_bind, run_underlying hu]
  intro is
  induction is with
  | nil => intro g h; simp only [eqArr, Option.some.injEq] at h; subst h; rfl
  | cons i is ih =>
    intro g h
    have key : ∃ k a b, xs[i]? = some (.int k a) ∧ ys[i]? = some (.int k b) ∧ ((is = [] ∧ g = (a == b)) ∨ ∃ c, eqArr xs ys is = some c ∧ g = ((a == b) && c)) := by
      cases is with
      | nil =>
        simp only [eqArr] at h
        split at h
        · split at h
          · rename_i q1 q2 q3; subst q3; cases h; exact ⟨_, _, _, q1, q2, .inl ⟨rfl, rfl⟩⟩
          · cases h
        · cases h
      | cons j js =>
        simp only [eqArr] at h
        split at h
        · split at h
          · rename_i q1 q2 q3; subst q3
            obtain ⟨c, hc, rfl⟩ := Option.map_eq_some_iff.1 h
            exact ⟨_, _, _, q1, q2, .inr ⟨c, hc, rfl⟩⟩
          · cases h
        · cases h
    obtain ⟨k, a, b, q1, q2, q3⟩ := key
    simp only [Op.eqItems, Sem.run_bind, hp _ _ _ q1, hp _ _ _ q2, he, Result.andThen_ok]
    rcases q3 with ⟨rfl, rfl⟩ | ⟨c, hc, rfl⟩
    · cases a == b <;> simp [Op.eqItems]
    · cases a == b
      · simp
      · simpa using ih hc
theorem step_eqa {o : Oper} {b : Nat} {S : St} {bo : BinOp} {t ty e : TypeId} {n : Nat} {x y : Operand} (ho : o.op = .binOp bo t x y ty) {xs ys : Array Value} (hx : (S.op x).val? = some (.agg xs)) (hy : (S.op y).val? = some (.agg ys)) (hu : P.underlying t = some (.array n e)) (hgd : (!P.eqGuardType P.depth t && (match P.underlying e with | some (.int _) => true | _ => false) && decide (sizeT P e = some 1)) = true) {g : Bool} (hg : eqArr xs ys (List.range n) = some g) {u : Bool} (hq : (bo = .eql ∧ u = g) ∨ (bo = .neq ∧ u = !g)) : Step P o b { val := .v (.bool u) } S := by
  simp only [Bool.and_eq_true, Bool.not_eq_true', decide_eq_true_eq] at hgd
  obtain ⟨⟨h1, h2⟩, h3⟩ := hgd
  split at h2
  · rename_i k0 hk0
    refine step_eq ho hx hy h1 (fun w => ?_) hq
    have h4 := h3
    unfold sizeT at h4
    obtain ⟨i, hi, hi1⟩ := Option.map_eq_some_iff.1 h4
    have hc : P.cellsOf e = 1 := by unfold Program.cellsOf; rw [hi]; exact hi1
    have := run_equalIn_array (P := P) (w := w) 9999 xs ys hu hi
    unfold Op.equal Op.maxDepth
    rw [this, hc]
    exact eqItems_run (d := 9998) hk0 h3 w hg
  · cases h2
theorem step_sub {o : Oper} {b : Nat} {S : St} {t : TypeId} {x : Operand} {lo hi : Option Operand} (ho : o.op = .slice t x lo hi none) (hu : P.underlying t = some .string) {s : ByteArray} (hx : S.op x = .v (.string s)) {l h : Int} (hh : (hi = none ∧ h = (s.size : Int)) ∨ (∃ q k, hi = some q ∧ S.op q = .v (.int k h) ∧ 0 ≤ h ∧ h ≤ (s.size : Int))) (hl : (lo = none ∧ l = 0) ∨ (∃ q k, lo = some q ∧ S.op q = .v (.int k l) ∧ 0 ≤ l ∧ l ≤ h)) : Step P o b { val := .v (.string (s.extract l.toNat h.toNat)) } S := by
  refine step_val fun T hT _ O w0 G K a w hs => ?_
  have hx' := hs.op x
  rw [hT x (by simp [ho, Op.operands]), hx] at hx'
  simp only [Is] at hx'
  have h0 : 0 ≤ h := by rcases hh with ⟨_, rfl⟩ | ⟨_, _, _, _, h0, _⟩ <;> omega
  have hbd : ∀ (q : Operand) (k : IntKind) (i : Int) (y : Nat) (c : BoundsCode), q ∈ o.op.operands → S.op q = .v (.int k i) → 0 ≤ i → i ≤ (y : Int) → (Instr.sliceBound (a.eval q) y c).run P w = .ok i.toNat w := by
    intro q k i y c hq hS h1 h2
    have := hs.op q
    rw [hT q hq, hS] at this
    simp only [Is] at this
    simp [Instr.sliceBound, this, asIntOf, Sem.run_bind, h1, h2]
  refine ⟨.string (s.extract l.toNat h.toNat), ?_, by simp only [Is]⟩
  have hH : (match (hi.map a.eval : Option Value), (none : Option Value) with
      | some v, some _ => Instr.sliceBound v s.size .slice3B
      | some v, none => Instr.sliceBound v s.size .sliceAlen
      | none, none => (pure s.size : Sem Nat)
      | none, some _ => stuck "Slice: max without high").run P w = .ok h.toNat w := by
    rcases hh with ⟨rfl, rfl⟩ | ⟨q, k, rfl, hS, h1, h2⟩
    · simp
    · simpa using hbd q k h s.size _ (by simp [ho, Op.operands]) hS h1 h2
  have hLo : (match (lo.map a.eval : Option Value) with
      | some v => Instr.sliceBound v h.toNat .sliceB
      | none => (pure 0 : Sem Nat)).run P w = .ok l.toNat w := by
    rcases hl with ⟨rfl, rfl⟩ | ⟨q, k, rfl, hS, h1, h2⟩
    · simp
    · simpa using hbd q k l h.toNat _ (by simp [ho, Op.operands]) hS h1 (by omega)
  rcases hh with ⟨rfl, rfl⟩ | ⟨q, k, rfl, hS, h1, h2⟩ <;> rcases hl with ⟨rfl, rfl⟩ | ⟨q', k', rfl, hS', h1', h2'⟩ <;>
    simp [execOp, ho, Instr.sliceAt, Instr.slice, Instr.sliceBounds, Sem.run_bind, run_underlying hu, hx'] at hH hLo ⊢ <;> simp_all
theorem step_cut {o : Oper} {b : Nat} {S : St} {t e : TypeId} {x : Operand} {lo hi : Option Operand} (ho : o.op = .slice t x lo hi none) (hu : P.underlying t = some (.slice e)) {V : RowV} (hV : rowOf S.h (S.op x) = some V) (hsz : sizeT P e = some V.e.w) {l h : Int} (hh : (hi = none ∧ h = (rlen V.r V.l : Int)) ∨ (∃ q k, hi = some q ∧ S.op q = .v (.int k h) ∧ 0 ≤ h ∧ ((roff V.r : Nat) : Int) + h ≤ (V.l.length : Int))) (hl : (lo = none ∧ l = 0) ∨ (∃ q k, lo = some q ∧ S.op q = .v (.int k l) ∧ 0 ≤ l ∧ l ≤ h)) : Step P o b { val := .sl V.k V.ver (some (roff V.r + l.toNat, h.toNat - l.toNat)), ro := [V.k] } S := by
  refine step_val fun T hT h3 O w0 G K a w hs => ?_
  have hx' := hs.op x
  rw [hT x (by simp [ho, Op.operands])] at hx'
  obtain ⟨_, _, ad, cp, hE, hlc, hR, hd⟩ := row_hdr hs hV (h3 _ (by simp)) hx'
  have hbd : ∀ (q : Operand) (k : IntKind) (i : Int) (y : Nat) (c : BoundsCode), q ∈ o.op.operands → S.op q = .v (.int k i) → 0 ≤ i → i ≤ (y : Int) → (Instr.sliceBound (a.eval q) y c).run P w = .ok i.toNat w := by
    intro q k i y c hq hS h1 h2
    have := hs.op q
    rw [hT q hq, hS] at this
    simp only [Is] at this
    simp [Instr.sliceBound, this, asIntOf, Sem.run_bind, h1, h2]
  -- the slice as it stands: its place, its length, its room
  obtain ⟨ad', m, hv, hm, hoff, hal⟩ : ∃ ad' m, a.eval x = .slice ad' m (cp - roff V.r) ∧ m = rlen V.r V.l ∧ roff V.r + m ≤ V.l.length ∧ (roff V.r < cp → ad' = ad.map (·.add (roff V.r * V.e.w))) ∧ (roff V.r = 0 → ad' = ad) := by
    obtain ⟨k, ver, ow, ek, lv, r⟩ := V
    cases r with
    | none => exact ⟨ad, lv.length, hd, rfl, by simp [roff], fun _ => by cases ad <;> simp [roff, Addr.add], fun _ => rfl⟩
    | some q =>
      obtain ⟨off, m⟩ := q
      obtain ⟨g1, ad', g2, g3, g4⟩ := hd
      exact ⟨ad', m, g2, rfl, g1, g3, g4⟩
  have h0 : 0 ≤ h := by rcases hh with ⟨_, rfl⟩ | ⟨_, _, _, _, h0, _⟩ <;> omega
  have hhc : ((roff V.r : Nat) : Int) + h ≤ (V.l.length : Int) := by rcases hh with ⟨_, rfl⟩ | ⟨_, _, _, _, _, h1⟩ <;> omega
  have hl0 : 0 ≤ l ∧ l ≤ h := by rcases hl with ⟨_, rfl⟩ | ⟨_, _, _, _, h1, h2⟩ <;> omega
  refine ⟨.slice (if cp - roff V.r = l.toNat then ad' else ad'.map (·.add (l.toNat * V.e.w))) (h.toNat - l.toNat) (cp - roff V.r - l.toNat), ?_, ?_⟩
  · have hH : (match (hi.map a.eval : Option Value), (none : Option Value) with
        | some v, some _ => Instr.sliceBound v (cp - roff V.r) .slice3B
        | some v, none => Instr.sliceBound v (cp - roff V.r) .sliceAcap
        | none, none => (pure m : Sem Nat)
        | none, some _ => stuck "Slice: max without high").run P w = .ok h.toNat w := by
      rcases hh with ⟨rfl, rfl⟩ | ⟨q, k, rfl, hS, h1, h2⟩
      · simp [hm]
      · simpa using hbd q k h (cp - roff V.r) _ (by simp [ho, Op.operands]) hS h1 (by omega)
    have hLo : (match (lo.map a.eval : Option Value) with
        | some v => Instr.sliceBound v h.toNat .sliceB
        | none => (pure 0 : Sem Nat)).run P w = .ok l.toNat w := by
      rcases hl with ⟨rfl, rfl⟩ | ⟨q, k, rfl, hS, h1, h2⟩
      · simp
      · simpa using hbd q k l h.toNat _ (by simp [ho, Op.operands]) hS h1 (by omega)
    rcases hh with ⟨rfl, rfl⟩ | ⟨q, k, rfl, hS, h1, h2⟩ <;> rcases hl with ⟨rfl, rfl⟩ | ⟨q', k', rfl, hS', h1', h2'⟩ <;>
      simp [execOp, ho, Instr.sliceAt, Instr.slice, Instr.sliceBounds, Sem.run_bind, run_underlying hu, hv, size_run hsz] at hH hLo ⊢ <;> simp_all
  · simp only [Is]
    refine ⟨_, _, _, _, _, hE, Nat.le_refl _, ⟨_, _, _, rfl⟩, fun _ => ⟨by omega, _, by rw [Nat.sub_sub], fun hlt => ?_, fun hz => ?_⟩⟩
    · rw [if_neg (by omega), hal.1 (by omega)]
      cases ad with
      | none => rfl
      | some p => simp [add_add, Nat.add_mul]
    · have hz1 : roff V.r = 0 := by omega
      have hz2 : l.toNat = 0 := by omega
      rw [hal.2 hz1, hz2, hz1]
      cases ad with
      | none => simp
      | some p => simp [Addr.add]
end
end Go.Proofs.Ytlbicmdfdpcdiaa.Vm
-- Printed by a program of this session's; Lean checks it.
set_option linter.unusedVariables false
set_option linter.unusedSimpArgs false
namespace Go.Proofs.Ytlbicmdfdpcdiaa.Vm
open Go.RowKit
section
variable {P : Program}
theorem isRow_some {h : List SO} {k : Nat} (hr : isRow h k = true) : ∃ o e ver l, h[k]? = some (.row o e ver l) := by
  unfold isRow at hr
  split at hr
  · exact ⟨_, _, _, _, ‹_›⟩
  · cases hr
theorem eq_bools (t : TypeId) (a b : Bool) (w : World) (hu : P.underlying t = some .bool) : (Op.equal t (.bool a) (.bool b)).run P w = .ok (a == b) w := by
  have h : ∀ n, (Op.equalIn (n + 1) t (.bool a) (.bool b)).run P w = .ok (a == b) w := fun n => by simp [Op.equalIn, Sem.run_bind, run_underlying hu]
  exact h 9999
theorem step_beq {o : Oper} {b : Nat} {S : St} {t ty : TypeId} {x y : Operand} (ho : o.op = .binOp .eql t x y ty) {p : Prop} {d : Decidable p} (hx : S.op x = .tst p d) {sy : SV} (hy : S.op y = sy) {u : Bool} (hv : sy.val? = some (.bool u)) (hb : P.underlying t = some .bool) {z : SV} (hz : ∀ E, Is E z (.bool (@decide p d == u))) : Step P o b { val := z } S := by
  refine step_val fun T h1 _ O w0 G K a w hs => ?_
  have hx' := hs.op x
  rw [h1 x (by simp [ho, Op.operands]), hx] at hx'
  have hy' := hs.op y
  rw [h1 y (by simp [ho, Op.operands]), hy] at hy'
  simp only [Is] at hx'
  have e2 := val_is hv hy'
  have hg : (eqGuard .eql t x y (.bool (@decide p d)) (.bool u)).run P w = .ok () w := by simp [eqGuard]
  exact ⟨_, by simp [execOp, ho, hx', e2, Sem.run_bind, hg, binOp, eq_bools t _ _ w hb], hz _⟩
theorem step_bne {o : Oper} {b : Nat} {S : St} {t ty : TypeId} {x y : Operand} (ho : o.op = .binOp .neq t x y ty) {p : Prop} {d : Decidable p} (hx : S.op x = .tst p d) {sy : SV} (hy : S.op y = sy) {u : Bool} (hv : sy.val? = some (.bool u)) (hb : P.underlying t = some .bool) {z : SV} (hz : ∀ E, Is E z (.bool (!(@decide p d == u)))) : Step P o b { val := z } S := by
  refine step_val fun T h1 _ O w0 G K a w hs => ?_
  have hx' := hs.op x
  rw [h1 x (by simp [ho, Op.operands]), hx] at hx'
  have hy' := hs.op y
  rw [h1 y (by simp [ho, Op.operands]), hy] at hy'
  simp only [Is] at hx'
  have e2 := val_is hv hy'
  have hg : (eqGuard .neq t x y (.bool (@decide p d)) (.bool u)).run P w = .ok () w := by simp [eqGuard]
  exact ⟨_, by simp [execOp, ho, hx', e2, Sem.run_bind, hg, binOp, eq_bools t _ _ w hb], hz _⟩
theorem step_pick {o : Oper} {b : Nat} {S : St} {c x y : Operand} (ho : o.op = .pick c x y) {g : Bool} (hc : ∀ E u, Is E (S.op c) u → u = .bool g) : Step P o b { val := if g then S.op x else S.op y } S := by
  refine step_val fun T hT _ O w0 G K a w hs => ?_
  have h1 := hs.op c
  rw [hT c (by simp [ho, Op.operands])] at h1
  have h2 := hs.op x
  rw [hT x (by simp [ho, Op.operands])] at h2
  have h3 := hs.op y
  rw [hT y (by simp [ho, Op.operands])] at h3
  have hv := hc _ _ h1
  cases g with
  | true => exact ⟨a.eval x, by simp [execOp, ho, hv, asBool, Sem.run_bind], h2⟩
  | false => exact ⟨a.eval y, by simp [execOp, ho, hv, asBool, Sem.run_bind], h3⟩
theorem bt_at (s : ByteArray) (i : Int) : ∀ h : i.toNat < s.size, ((s[i.toNat]'h).toNat : Int) = bt s i := fun h => by
  cases i with
  | ofNat n => have h' : n < s.size := h; show ((s[n]'h').toNat : Int) = btN s n; simp [btN, h']
  | negSucc n => have h' : 0 < s.size := h; show ((s[0]'h').toNat : Int) = btN s 0; simp [btN, h']
theorem step_byte {o : Oper} {b : Nat} {S : St} {t : TypeId} {x ix : Operand} (ho : o.op = .index t x ix) (hu : P.underlying t = some .string) {s : ByteArray} {k : IntKind} {i : Int} (hx : S.op x = .v (.string s)) (hi : S.op ix = .v (.int k i)) (h0 : 0 ≤ i) (h1 : i < (s.size : Int)) : Step P o b { val := .v (.int .u8 (bt s i)) } S := by
  refine step_val fun T hT _ O w0 G K a w hs => ?_
  have hx' := hs.op x
  rw [hT x (by simp [ho, Op.operands]), hx] at hx'
  have hi' := hs.op ix
  rw [hT ix (by simp [ho, Op.operands]), hi] at hi'
  simp only [Is] at hx' hi'
  have hl : i.toNat < s.size := by omega
  refine ⟨.int .u8 (bt s i), ?_, by simp only [Is]⟩
  have hb : (if 0 ≤ i then s[i.toNat]? else none) = some (s[i.toNat]'hl) := by rw [if_pos h0]; exact getElem?_pos s i.toNat hl
  simp only [execOp, ho, Instr.index, hx', hi', asIntOf, Sem.run_bind, Sem.run_pure, Result.andThen_ok, run_underlying hu, hb]
  rw [bt_at s i hl]
theorem args_one {args : Array Operand} {x : Operand} (h : args.toList = [x]) : args = #[x] := by rw [← Array.toArray_toList (xs := args), h]
theorem args_two {args : Array Operand} {x y : Operand} (h : args.toList = [x, y]) : args = #[x, y] := by rw [← Array.toArray_toList (xs := args), h]
theorem step_len {o : Oper} {b : Nat} {S : St} {args : Array Operand} {ts : Array TypeId} (ho : o.op = .call { callee := .builtin .len, args := args, argTypes := ts }) {x : Operand} (ha : args.toList = [x]) {e : TypeId} {V : RowV} (hV : rowOf S.h (S.op x) = some V) (ht : (ts[0]?).bind P.underlying = some (.slice e)) : Step P o b { val := .v (.int .i64 (rlen V.r V.l : Int)), ro := [V.k] } S := by
  obtain rfl := args_one ha
  refine step_val fun T hT h3 O w0 G K a w hs => ?_
  obtain ⟨t0, ht0, hu⟩ := Option.bind_eq_some_iff.1 ht
  have hx' := hs.op x
  rw [hT x (by simp [ho, Op.operands, Call.operands])] at hx'
  obtain ⟨_, _, ad, cp, hE, hl, hR, hd⟩ := row_hdr hs hV (h3 _ (by simp)) hx'
  have hv : ∃ ad' c', a.eval x = .slice ad' (rlen V.r V.l) c' := by
    obtain ⟨k, ver, ow, ek, lv, r⟩ := V
    cases r with
    | none => exact ⟨_, _, hd⟩
    | some q => obtain ⟨off, m⟩ := q; obtain ⟨_, ad', g2, _⟩ := hd; exact ⟨_, _, g2⟩
  obtain ⟨ad', c', hv⟩ := hv
  exact ⟨.int .i64 (rlen V.r V.l), by simp [execOp, ho, resolve, invoke, builtin, Builtin.len_, ht0, hv, Sem.run_bind, run_underlying hu, goInt], by simp only [Is]⟩
theorem step_len0 {o : Oper} {b : Nat} {S : St} {args : Array Operand} {ts : Array TypeId} (ho : o.op = .call { callee := .builtin .len, args := args, argTypes := ts }) {x : Operand} (ha : args.toList = [x]) {e : TypeId} (hx : S.op x = .v (.slice none 0 0)) (ht : (ts[0]?).bind P.underlying = some (.slice e)) : Step P o b { val := .v (.int .i64 0) } S := by
  obtain rfl := args_one ha
  refine step_val fun T hT h3 O w0 G K a w hs => ?_
  obtain ⟨t0, ht0, hu⟩ := Option.bind_eq_some_iff.1 ht
  have hx' := hs.op x
  rw [hT x (by simp [ho, Op.operands, Call.operands]), hx] at hx'
  simp only [Is] at hx'
  exact ⟨.int .i64 0, by simp [execOp, ho, resolve, invoke, builtin, Builtin.len_, ht0, hx', Sem.run_bind, run_underlying hu, goInt], by simp only [Is]⟩
theorem step_lens {o : Oper} {b : Nat} {S : St} {args : Array Operand} {ts : Array TypeId} (ho : o.op = .call { callee := .builtin .len, args := args, argTypes := ts }) {x : Operand} {s : ByteArray} (ha : args.toList = [x]) (hx : S.op x = .v (.string s)) (ht : (ts[0]?).bind P.underlying = some .string) : Step P o b { val := .v (.int .i64 (s.size : Int)) } S := by
  obtain rfl := args_one ha
  refine step_val fun T hT _ O w0 G K a w hs => ?_
  obtain ⟨t0, ht0, hu⟩ := Option.bind_eq_some_iff.1 ht
  have hx' := hs.op x
  rw [hT x (by simp [ho, Op.operands, Call.operands]), hx] at hx'
  simp only [Is] at hx'
  exact ⟨.int .i64 s.size, by simp [execOp, ho, resolve, invoke, builtin, Builtin.len_, ht0, hx', Sem.run_bind, run_underlying hu, goInt], by simp only [Is]⟩
theorem step_lena {o : Oper} {b : Nat} {S : St} {args : Array Operand} {ts : Array TypeId} (ho : o.op = .call { callee := .builtin .len, args := args, argTypes := ts }) {x : Operand} {n : Nat} {e : TypeId} (ha : args.toList = [x]) (ht : (ts[0]?).bind P.underlying = some (.array n e)) : Step P o b { val := .v (.int .i64 (n : Int)) } S := by
  obtain rfl := args_one ha
  refine step_val fun T hT _ O w0 G K a w hs => ?_
  obtain ⟨t0, ht0, hu⟩ := Option.bind_eq_some_iff.1 ht
  exact ⟨.int .i64 n, by simp [execOp, ho, resolve, invoke, builtin, Builtin.len_, ht0, Sem.run_bind, run_underlying hu, goInt], by simp only [Is]⟩
theorem minG_run {k : IntKind} (w : World) : ∀ {l : List Value} {a : Int} {u : Value}, minG k a l = some u → (l.foldlM Builtin.min2 (.int k a)).run P w = .ok u w
  | [], a, u, h => by simp only [minG, Option.some.injEq] at h; subst h; simp
  | .int k' b :: r, a, u, h => by
    simp only [minG] at h
    split at h
    · rename_i e; subst e
      have := minG_run w h
      simp only [List.foldlM_cons, Builtin.min2, Sem.run_bind, Sem.run_pure, Result.andThen_ok]
      exact this
    · cases h
theorem maxG_run {k : IntKind} (w : World) : ∀ {l : List Value} {a : Int} {u : Value}, maxG k a l = some u → (l.foldlM Builtin.max2 (.int k a)).run P w = .ok u w
  | [], a, u, h => by simp only [maxG, Option.some.injEq] at h; subst h; simp
  | .int k' b :: r, a, u, h => by
    simp only [maxG] at h
    split at h
    · rename_i e; subst e
      have := maxG_run w h
      simp only [List.foldlM_cons, Builtin.max2, Sem.run_bind, Sem.run_pure, Result.andThen_ok]
      exact this
    · cases h
theorem step_min {o : Oper} {b : Nat} {S : St} {args : Array Operand} {ts : Array TypeId} {u : Value} (ho : o.op = .call { callee := .builtin .min, args := args, argTypes := ts }) (h : (SV.vals (args.toList.map S.op)).bind minOf = some u) : Step P o b { val := .v u } S := by
  refine step_val fun T hT _ O w0 G K a w hs => ?_
  obtain ⟨l, hl, hu⟩ := Option.bind_eq_some_iff.1 h
  have hL := vals_is hl (isL_ops hs args.toList (fun x hx => hT x (by simp [ho, Op.operands, Call.operands, Array.mem_def.2 hx])))
  have e2 : Array.map a.eval args = l.toArray := by apply Array.ext'; simpa using hL
  refine ⟨u, ?_, by simp only [Is]⟩
  have e3 : (Builtin.min_ ts o.type l.toArray).run P w = .ok u w := by
    unfold Builtin.min_
    match l, hu with
    | .int k x :: r, hu => simp only [minOf] at hu; simpa using minG_run w hu
  simp [execOp, ho, resolve, invoke, builtin, Sem.run_bind, e2, e3]
theorem step_max {o : Oper} {b : Nat} {S : St} {args : Array Operand} {ts : Array TypeId} {u : Value} (ho : o.op = .call { callee := .builtin .max, args := args, argTypes := ts }) (h : (SV.vals (args.toList.map S.op)).bind maxOf = some u) : Step P o b { val := .v u } S := by
  refine step_val fun T hT _ O w0 G K a w hs => ?_
  obtain ⟨l, hl, hu⟩ := Option.bind_eq_some_iff.1 h
  have hL := vals_is hl (isL_ops hs args.toList (fun x hx => hT x (by simp [ho, Op.operands, Call.operands, Array.mem_def.2 hx])))
  have e2 : Array.map a.eval args = l.toArray := by apply Array.ext'; simpa using hL
  refine ⟨u, ?_, by simp only [Is]⟩
  have e3 : (Builtin.max_ ts o.type l.toArray).run P w = .ok u w := by
    unfold Builtin.max_
    match l, hu with
    | .int k x :: r, hu => simp only [maxOf] at hu; simpa using maxG_run w hu
  simp [execOp, ho, resolve, invoke, builtin, Sem.run_bind, e2, e3]
theorem fold_get : ∀ (cs : List Value) (j off : Nat) (a : Array Value) (i : Nat), off + j + cs.length ≤ a.size → ((cs.zipIdx j).foldl (fun a q => a.setIfInBounds (off + q.2) q.1) a)[i]? = if off + j ≤ i ∧ i < off + j + cs.length then cs[i - (off + j)]? else a[i]?
  | [], j, off, a, i, h => by rw [if_neg (by simp)]; rfl
  | c :: cs, j, off, a, i, h => by
    simp only [List.length_cons] at h ⊢
    rw [List.zipIdx_cons, List.foldl_cons, fold_get cs (j + 1) off _ i (by simp; omega)]
    by_cases h1 : i = off + j
    · subst h1
      rw [if_neg (by omega), if_pos (by omega), Array.getElem?_setIfInBounds_self_of_lt (by omega)]
      simp
    · by_cases h2 : off + (j + 1) ≤ i ∧ i < off + (j + 1) + cs.length
      · rw [if_pos h2, if_pos (by omega), show i - (off + j) = (i - (off + (j + 1))) + 1 by omega, List.getElem?_cons_succ]
      · rw [if_neg h2, if_neg (by omega)]
        simp [Array.getElem?_setIfInBounds, Ne.symm h1]
theorem fold_put (cs : List Value) (off : Nat) (us : List Value) (h : off + cs.length ≤ us.length) : ((cs.zipIdx 0).foldl (fun a q => a.setIfInBounds (off + q.2) q.1) us.toArray) = (us.take off ++ (cs ++ us.drop (off + cs.length))).toArray := by
  apply Array.ext_getElem?
  intro i
  rw [fold_get cs 0 off _ i (by simp; omega)]
  simp only [Nat.add_zero, List.getElem?_toArray]
  by_cases h1 : i < off
  · rw [if_neg (by omega), List.getElem?_append_left (by simp; omega), List.getElem?_take_of_lt h1]
  · rw [List.getElem?_append_right (by simp; omega), List.length_take, show min off us.length = off by omega]
    by_cases h2 : i < off + cs.length
    · rw [if_pos (by omega), List.getElem?_append_left (by omega)]
    · rw [if_neg (by omega), List.getElem?_append_right (by omega), List.getElem?_drop]
      congr 1; omega
theorem fill_ok {E : Env} {place : Nat → Option (Nat × Nat)} : ∀ {parts : List (Nat × SV)} {vs : List (Nat × Value)} {cells : List SV} {us : List Value} {cs : List SV}, parts.map (·.1) = vs.map (·.1) → IsL E (parts.map (·.2)) (vs.map (·.2)) → IsL E cells us → fillSV place cells parts = some cs →
    ∃ ws : List Value, Instr.fill place us.toArray vs = some ws.toArray ∧ IsL E cs ws
  | [], [], cells, us, cs, _, _, hc, h => by simp only [fillSV, Option.some.injEq] at h; subst h; exact ⟨us, rfl, hc⟩
  | (i, x) :: parts, (i', v) :: vs, cells, us, cs, hi, hx, hc, h => by
    simp only [List.map_cons, List.cons.injEq] at hi
    obtain ⟨rfl, hi⟩ := hi
    simp only [List.map_cons, IsL] at hx
    simp only [fillSV] at h
    split at h
    · rename_i off n cs' hp hcs
      split at h
      · rename_i hl
        obtain ⟨ws, hws, hL⟩ := cells_is hcs hx.1
        have hlw := hL.len
        have hlu := hc.len
        obtain ⟨ws', h1, h2⟩ := fill_ok (parts := parts) (vs := vs) hi hx.2 (show IsL E (putAt cells off cs') (us.take off ++ (ws ++ us.drop (off + cs'.length))) from ((hc.cut off).1.append (hL.append (hc.cut _).2))) h
        refine ⟨ws', ?_, h2⟩
        simp only [Instr.fill, hp, hws]
        rw [if_neg (by simp; omega)]
        have := fold_put ws off us (by omega)
        rw [show ws.toArray.zipIdx = (ws.zipIdx).toArray by simp, List.foldl_toArray, this, ← h1, hlw]
      · cases h
    · cases h
  | [], _ :: _, _, _, _, hi, _, _, _ => by simp at hi
  | _ :: _, [], _, _, _, hi, _, _, _ => by simp at hi
theorem mapM_places {w : World} : ∀ {fs : List Field}, fs.all (fun f => (sizeT P f.type).isSome) = true → (fs.mapM (m := Sem) fun f => Prod.mk f.offset <$> sizeOf f.type).run P w = .ok (placesOf P fs) w
  | [], _ => by simp [placesOf]
  | f :: fs, h => by
    simp only [List.all_cons, Bool.and_eq_true] at h
    obtain ⟨m, hm⟩ := Option.isSome_iff_exists.1 h.1
    simp [List.mapM_cons, Sem.run_bind, size_run hm, mapM_places h.2, placesOf, hm]
theorem parts_is {O : Nat → Prop} {w0 : World} {S T : St} {G : Gs} {K : List Value} {a : Act} {w : World} (hs : Sat O w0 T G K a w) {o : Oper} {parts : Array (Nat × Operand)} (hp : o.op.operands = (parts.toList.map (·.2)).toArray) (hT : ∀ x ∈ o.op.operands, T.op x = S.op x) : IsL G.E ((parts.toList.map fun q => (q.1, S.op q.2)).map (·.2)) ((parts.toList.map fun q => (q.1, a.eval q.2)).map (·.2)) := by
  have := isL_ops (S := S) hs (parts.toList.map (·.2)) (fun x hx => hT x (by rw [hp]; simpa using hx))
  simpa [List.map_map, Function.comp_def] using this
theorem step_build {o : Oper} {b : Nat} {S : St} {t : TypeId} {parts : Array (Nat × Operand)} (ho : o.op = .build t parts) {fs : Array Field} {zs : Array Value} (hu : P.underlying t = some (.struct fs)) (hz : zeroT P t = some (.agg zs)) (hall : fs.toList.all (fun f => (sizeT P f.type).isSome) = true) {cs : List SV} (hf : fillSV (fun i => (placesOf P fs.toList)[i]?) (zs.toList.map .v) (parts.toList.map fun q => (q.1, S.op q.2)) = some cs) : Step P o b { val := .agg cs } S := by
  refine step_val fun T hT _ O w0 G K a w hs => ?_
  obtain ⟨ws, h1, h2⟩ := fill_ok (E := G.E) (vs := parts.toList.map fun q => (q.1, a.eval q.2)) (by simp [List.map_map, Function.comp_def]) (parts_is hs (by simp [ho, Op.operands]) hT) (IsL.vs zs.toList) hf
  refine ⟨.agg ws.toArray, ?_, by simp only [Is]; exact ⟨ws, rfl, h2⟩⟩
  have hmap : (fs.mapM (m := Sem) fun f => Prod.mk f.offset <$> sizeOf f.type).run P w = .ok (placesOf P fs.toList).toArray w := by
    rw [← Array.toArray_toList (xs := fs), List.mapM_toArray]
    simp [Sem.run_bind, mapM_places hall]
  have hparts : (parts.map fun (q : Nat × Operand) => (q.1, a.eval q.2)).toList = parts.toList.map fun q => (q.1, a.eval q.2) := by simp
  simp only [Array.toArray_toList] at h1
  have hz' := zero_run hz w
  simp [execOp, ho, Instr.build, Sem.run_bind, hz', run_underlying hu, hmap, Value.cells, hparts, h1]
theorem step_buildA {o : Oper} {b : Nat} {S : St} {t e : TypeId} {parts : Array (Nat × Operand)} (ho : o.op = .build t parts) {n m : Nat} {zs : Array Value} (hu : P.underlying t = some (.array m e)) (hz : zeroT P t = some (.agg zs)) (hn : sizeT P e = some n) {cs : List SV} (hf : fillSV (fun i => some (i * n, n)) (zs.toList.map .v) (parts.toList.map fun q => (q.1, S.op q.2)) = some cs) : Step P o b { val := .agg cs } S := by
  refine step_val fun T hT _ O w0 G K a w hs => ?_
  obtain ⟨ws, h1, h2⟩ := fill_ok (E := G.E) (vs := parts.toList.map fun q => (q.1, a.eval q.2)) (by simp [List.map_map, Function.comp_def]) (parts_is hs (by simp [ho, Op.operands]) hT) (IsL.vs zs.toList) hf
  refine ⟨.agg ws.toArray, ?_, by simp only [Is]; exact ⟨ws, rfl, h2⟩⟩
  have hparts : (parts.map fun (q : Nat × Operand) => (q.1, a.eval q.2)).toList = parts.toList.map fun q => (q.1, a.eval q.2) := by simp
  simp only [Array.toArray_toList] at h1
  have hz' := zero_run hz w
  simp [execOp, ho, Instr.build, Sem.run_bind, hz', run_underlying hu, size_run hn, Value.cells, hparts, h1]
end
end Go.Proofs.Ytlbicmdfdpcdiaa.Vm
-- Printed by a program of this session's; Lean checks it.
set_option linter.unusedVariables false
set_option linter.unusedSimpArgs false
namespace Go.Proofs.Ytlbicmdfdpcdiaa.Vm
open Go.RowKit
section
variable {P : Program}
theorem elemT_spec {t e : TypeId} {k : Ty} {by_ : Nat} {z : Value} (h : elemT P t = some (e, k, by_, z)) : ∃ i, P.underlying t = some (.slice e) ∧ P.info? e = some i ∧ i.zero = some z ∧ i.size = k.w ∧ i.bytes = by_ ∧ 0 < by_ ∧ z.cells.size = k.w ∧ 0 < k.w ∧ k.noer = true := by
  unfold elemT at h
  split at h
  · rename_i e' hu
    simp only [Option.bind_eq_some_iff] at h
    obtain ⟨k', hk, i, hi, z', hz, h⟩ := h
    split at h
    · rename_i hq
      simp only [Option.some.injEq, Prod.mk.injEq] at h
      obtain ⟨rfl, rfl, rfl, rfl⟩ := h
      exact ⟨i, hu, hi, hz, hq.1, rfl, hq.2.2.2.1, hq.2.2.2.2, hq.2.2.1, hq.2.1⟩
    · cases h
  · cases h
theorem keys_v : ∀ (l : List Value), keysOf (l.map .v) = []
  | [] => rfl
  | v :: l => by simp [keysOf, keys_v l]
theorem made_succ (z : Array Value) (n : Nat) (hz : 0 < z.size) : (madeCells z ((n + 1) * z.size)).toList = z.toList ++ (madeCells z (n * z.size)).toList := by
  apply List.ext_getElem?
  intro i
  simp only [madeCells]
  by_cases h1 : i < z.size
  · rw [List.getElem?_append_left (by simpa using h1)]
    have h2 : i < (n + 1) * z.size := by rw [Nat.add_mul]; omega
    simp [h2, h1, Nat.mod_eq_of_lt h1]
  · rw [List.getElem?_append_right (by simpa using h1)]
    by_cases h2 : i < (n + 1) * z.size
    · have h3 : i - z.size < n * z.size := by rw [Nat.add_mul] at h2; omega
      simp [h2, h3, Nat.mod_eq_sub_mod (show z.size ≤ i by omega)]
    · have h3 : ¬ i - z.size < n * z.size := by rw [Nat.add_mul] at h2; omega
      simp [h2, h3]
theorem made_flat (z : Array Value) (hz : 0 < z.size) : ∀ n, (madeCells z (n * z.size)).toList = (List.replicate n z.toList).flatten
  | 0 => by simp [madeCells]
  | n + 1 => by rw [made_succ z n hz, made_flat z hz n, List.replicate_succ, List.flatten_cons]
theorem own_form {w : World} {base t size n : Nat} {v : Value} {xs : List Value} (h : w.ownsRow base t size v n xs) : ∃ ad cp, v = .slice ad n cp ∧ v.ownBlock = ad.map (·.block) := by
  rcases h.2 with ⟨rfl, rfl⟩ | ⟨g, cap, cur, rfl, _⟩
  · exact ⟨none, 0, rfl, rfl⟩
  · exact ⟨_, cap, rfl, rfl⟩
theorem step_make {o : Oper} {b : Nat} {S : St} {t e : TypeId} {k : Ty} {by_ : Nat} {z : Value} {l c : Operand} (ho : o.op = .makeSlice t l c) (he : elemT P t = some (e, k, by_, z)) {z' : k.D} (hz : k.un' (z.cells.toList.map .v) [] = some z') {kl kc : IntKind} {n m : Int} (hl : S.op l = .v (.int kl n)) (hc : S.op c = .v (.int kc m)) (h0 : 0 ≤ m) (hb : m * (by_ : Int) ≤ 140737488355328) {L : List k.D} (hL : (n = 0 ∧ L = []) ∨ (n = m ∧ L = List.replicate m.toNat z')) : Step P o b { val := .sl b 0 none, nw := [.row (some e) k 0 L] } S := by
  obtain ⟨i, hu, hi, hz0, hsz, hby, hb0, hzs, hw, hne⟩ := elemT_spec he
  intro T hT O w0 G K a w hs Kn Q hK
  have hl' := hs.op l
  rw [hT.op l (by simp [ho, Op.operands]), hl] at hl'
  have hc' := hs.op c
  rw [hT.op c (by simp [ho, Op.operands]), hc] at hc'
  simp only [Is] at hl' hc'
  have hb' : i.bytes * m.toNat ≤ 140737488355328 := by
    have h1 : ((i.bytes * m.toNat : Nat) : Int) ≤ 140737488355328 := by rw [Int.natCast_mul, Int.toNat_of_nonneg h0, hby, Int.mul_comm]; exact hb
    omega
  have hm : m.toNat ≤ maxLen := by
    have : m.toNat ≤ i.bytes * m.toNat := Nat.le_mul_of_pos_left _ (by omega)
    simp only [maxLen]; omega
  have hd := fits_dead (hT.ft rfl) 0 (by simp)
  simp only [Nat.add_zero] at hd
  have hrep : Rep (hp O G w) k z' z.cells.toList := un_rep (E := G.E) hne hz (IsL.vs _) (by rw [keys_v]; simp)
  have hmi : ((m.toNat : Nat) : Int) = m := Int.toNat_of_nonneg h0
  have key : ∃ ad cp xs w', (Instr.makeSlice t (.int kl n) (.int kc m)).run P w = .ok (.slice ad L.length cp) w' ∧ w'.ownsRow w0.heap.size e k.w (.slice ad L.length cp) L.length xs ∧ w.grownBy w' none ∧ ad = some ⟨w.heap.size, 0, none⟩ ∧ RepL (hp O G w) k L xs := by
    rcases hL with ⟨rfl, rfl⟩ | ⟨rfl, rfl⟩
    · obtain ⟨w', r1, r2, r3⟩ := run_make_own (P := P) w w0.heap.size t e i z k.w hu hi hz0 hsz kl kc m.toNat (by omega) hm hs.bl.size
      rw [hmi] at r1
      exact ⟨_, _, _, w', r1, r2, r3, rfl, rfl⟩
    · obtain ⟨w', r1, r2, r3⟩ := run_make_full (P := P) w w0.heap.size t e i z k.w hu hi hz0 hsz kl kc n.toNat (by omega) hm hs.bl.size
      rw [hmi] at r1
      refine ⟨some ⟨w.heap.size, 0, none⟩, n.toNat, _, w', by simpa using r1, by simpa using r2, r3, rfl, ?_⟩
      rw [← hzs, made_flat z.cells (by omega)]
      exact RepL.rep hrep _
  obtain ⟨ad, cp, xs, w', r1, r2, r3, rfl, r4⟩ := key
  obtain ⟨G', e1, e2, s2⟩ := hs.own hd (t := e) (e := k) (l := L) r3 r2 (.inr ⟨_, rfl, rfl⟩) r4
  refine wp_val (w' := w') (v := .slice (some ⟨w.heap.size, 0, none⟩) L.length cp) ?_ (hK G' _ _ (s2.put o.dst ?_))
  · simp [execOp, ho, hl', hc', r1]
  · simp only [Is]; exact ⟨0, _, _, _, _, e2, Nat.le_refl _, ⟨_, _, _, rfl⟩, fun _ => rfl⟩
theorem rowAt_inner {H : Hp} {e : Ty} {a : Addr} : ∀ {l : List e.D}, (∀ i x, l[i]? = some x → ∃ c, Rep H e x c ∧ ∀ j u, c[j]? = some u → H.cell (a.add (i * e.w + j)) = some u) → ∃ xs, RepL H e l xs ∧ ∀ j u, xs[j]? = some u → H.cell (a.add j) = some u := by
  intro l
  induction l generalizing a with
  | nil => intro _; exact ⟨[], rfl, by simp⟩
  | cons x l ih =>
    intro h
    obtain ⟨c, hc, hu⟩ := h 0 x rfl
    obtain ⟨xs, h1, h2⟩ := ih (a := a.add e.w) (fun i y hy => by
      obtain ⟨c', hc', hu'⟩ := h (i + 1) y (by simpa using hy)
      refine ⟨c', hc', fun j u hj => ?_⟩
      rw [add_add, ← Nat.add_assoc, show e.w + i * e.w = (i + 1) * e.w by rw [Nat.add_mul]; omega]
      exact hu' j u hj)
    refine ⟨c ++ xs, ⟨c, xs, rfl, hc, h1⟩, fun j u hj => ?_⟩
    have hl := hc.len
    by_cases hjl : j < c.length
    · rw [List.getElem?_append_left hjl] at hj
      simpa using hu j u hj
    · rw [List.getElem?_append_right (by omega)] at hj
      have := h2 _ u hj
      rw [add_add] at this
      rw [← this]; congr 2; omega
theorem Hp.le.whole {O : Nat → Prop} {G : Gs} {w : World} {a : Addr} {v : Value} (h : (hp O G w).cell a = some v) : w.cell? a = some v := hp_cell h
theorem listOf_cases {k : Ty} {h : List SO} {x : SV} {ys : List k.D} (hx : listOf k h x = some ys) : (x = .v (.slice none 0 0) ∧ ys = []) ∨ ∃ V, rowOf h x = some V ∧ ∃ q : V.e = k, ys = rng V.r (q ▸ V.l) := by
  unfold listOf at hx
  by_cases hn : x = .v (.slice none 0 0)
  · subst hn
    simp only [Ty.unl, Option.some.injEq] at hx
    exact .inl ⟨rfl, hx.symm⟩
  · right
    rw [Ty.unl.eq_8 _ _ _ _ hn] at hx
    split at hx
    · rename_i V hV
      split at hx
      · rename_i q; cases hx; exact ⟨V, hV, q, rfl⟩
      · cases hx
    · cases hx
theorem Sat.src {O : Nat → Prop} {w0 : World} {S T : St} {G : Gs} {K : List Value} {a : Act} {w : World} (hs : Sat O w0 T G K a w) {k : Ty} {x : SV} {ys : List k.D} (hx : listOf k S.h x = some ys) (hag : ∀ q ∈ keysOf [x], T.h[q]? = S.h[q]?) {u : Value} (hu : Is G.E x u) :
    ∃ ad cp xs, u = .slice ad ys.length cp ∧ RepL (hp O G w) k ys xs ∧ (0 < ys.length → ∃ p, ad = some p ∧ ∀ j v, xs[j]? = some v → w.cell? (p.add j) = some v) := by
  rcases listOf_cases hx with ⟨rfl, rfl⟩ | ⟨V, hV, q, rfl⟩
  · simp only [Is] at hu; exact ⟨none, 0, [], hu, rfl, fun h => absurd h (by simp)⟩
  · have hkey : V.k ∈ keysOf [x] := by rw [(rowOf_some hV).1]; simp [keysOf]
    obtain ⟨_, hk, ad, cp, hE, hlc, hR, hd⟩ := row_hdr hs hV (hag _ hkey) hu
    obtain ⟨kk, ver, ow, ek, lv, r⟩ := V
    dsimp only at *
    subst q
    dsimp only
    -- the whole row's cells
    have whole : ∃ xs, RepL (hp O G w) ek lv xs ∧ (0 < lv.length → ∃ p, ad = some p ∧ ∀ j v, xs[j]? = some v → w.cell? (p.add j) = some v) := by
      cases ow with
      | some t =>
        obtain ⟨ad2, cp2, xs, q1, q2, q3, q4⟩ := hs.ob kk _ hk
        rw [hE] at q1
        simp only [Option.some.injEq, Gh.row.injEq] at q1
        obtain ⟨_, rfl, rfl, _, _⟩ := q1
        refine ⟨xs, q4, fun hl => ?_⟩
        rcases q2.2 with ⟨_, h0⟩ | ⟨g, cap, cur, he, _⟩
        · omega
        · simp only [Value.slice.injEq] at he
          obtain ⟨rfl, _, _⟩ := he
          exact ⟨_, rfl, q2.cells (g := g) rfl⟩
      | none =>
        obtain ⟨ad2, cp2, q1, q2, q3⟩ := hs.ob kk _ hk
        rw [hE] at q1
        simp only [Option.some.injEq, Gh.row.injEq] at q1
        obtain ⟨_, rfl, rfl, _, _⟩ := q1
        by_cases h0 : 0 < lv.length
        · obtain ⟨p, rfl, hx⟩ := q3 h0
          obtain ⟨xs, r1, r2⟩ := rowAt_inner hx
          exact ⟨xs, r1, fun _ => ⟨p, rfl, fun j v hj => hp_cell (r2 j v hj)⟩⟩
        · have : lv = [] := List.eq_nil_of_length_eq_zero (by omega)
          subst this
          exact ⟨[], rfl, fun h => absurd h (by simp)⟩
    obtain ⟨xs, w1, w2⟩ := whole
    cases r with
    | none => exact ⟨ad, cp, xs, hd, w1, w2⟩
    | some q =>
      obtain ⟨off, m⟩ := q
      obtain ⟨g1, ad', g2, g3, _⟩ := hd
      have hlen : (rng (some (off, m)) lv).length = m := by simp [rng]; omega
      refine ⟨ad', cp - off, (xs.drop (off * ek.w)).take (m * ek.w), by rw [hlen]; exact g2, ((w1.cut off).2.cut m).1, fun hp => ?_⟩
      rw [hlen] at hp
      obtain ⟨p, rfl, hc⟩ := w2 (by omega)
      refine ⟨p.add (off * ek.w), by simpa using g3 (by omega), fun j v hj => ?_⟩
      rw [add_add]
      refine hc _ v ?_
      rw [List.getElem?_take] at hj
      split at hj
      · rwa [List.getElem?_drop] at hj
      · cases hj
theorem append_zero {t ty e : TypeId} {i : TypeInfo} {size base : Nat} (ht : P.underlying t = some (.slice e)) (hi : P.info? e = some i) {w : World} {v : Value} {n : Nat} {xs : List Value} (hown : w.ownsRow base e size v n xs) (ad : Option Addr) (c : Nat) : (Builtin.append_ #[t, t] ty #[v, .slice ad 0 c]).run P w = .ok v w := by
  cases ad with
  | none =>
    rcases hown.2 with ⟨rfl, rfl⟩ | ⟨g, cap, cur, rfl, _, _, hnc, _⟩
    · simp [Builtin.append_, run_underlying ht, sizeOf, typeInfo, hi, Builtin.lenOf, Builtin.firstCells]
    · simp [Builtin.append_, run_underlying ht, sizeOf, typeInfo, hi, Builtin.lenOf, Builtin.firstCells, hnc, storeCells]
  | some p =>
    rcases hown.2 with ⟨rfl, rfl⟩ | ⟨g, cap, cur, rfl, _, _, hnc, _⟩
    · simp [Builtin.append_, run_underlying ht, sizeOf, typeInfo, hi, Builtin.lenOf, Builtin.firstCells, loadCells, loadCellsFrom]
    · simp [Builtin.append_, run_underlying ht, sizeOf, typeInfo, hi, Builtin.lenOf, Builtin.firstCells, hnc, storeCells, loadCells, loadCellsFrom]
theorem World.grownBy.refl' (w : World) (row : Option Nat) : w.grownBy w row := ⟨rfl, rfl, rfl, Nat.le_refl _, fun _ _ _ => rfl⟩
theorem app_run {t ty e : TypeId} {k : Ty} {by_ : Nat} {z : Value} (he : elemT P t = some (e, k, by_, z)) {O : Nat → Prop} {w0 : World} {S T : St} {G : Gs} {K : List Value} {a : Act} {w : World} (hs : Sat O w0 T G K a w) {x : SV} {l ys : List k.D} (hx : listOf k S.h x = some ys) (hag : ∀ q ∈ keysOf [x], T.h[q]? = S.h[q]?) {u v : Value} (hu : Is G.E x u) {xs : List Value} (hown : w.ownsRow w0.heap.size e k.w v l.length xs) (hrep : RepL (hp O G w) k l xs) (hb : (l.length + ys.length) * by_ ≤ 140737488355328) :
    ∃ ad' cp' xs' w', (Builtin.append_ #[t, t] ty #[v, u]).run P w = .ok (.slice ad' (l ++ ys).length cp') w' ∧ w'.ownsRow w0.heap.size e k.w (.slice ad' (l ++ ys).length cp') (l ++ ys).length xs' ∧ w.grownBy w' v.ownBlock ∧ (ad'.map (·.block) = v.ownBlock ∨ ad'.map (·.block) = some w.heap.size) ∧ RepL (hp O G w) k (l ++ ys) xs' := by
  obtain ⟨i, hut, hi, hz0, hsz, hby, hb0, hzs, hw, hne⟩ := elemT_spec he
  obtain ⟨ad, cp, news, rfl, r1, r2⟩ := hs.src hx hag hu
  by_cases h0 : ys = []
  · subst h0
    obtain ⟨ad', cp', rfl, hbl⟩ := own_form hown
    have hnil : news = [] := r1
    refine ⟨ad', cp', xs, w, ?_, by simpa using hown, World.grownBy.refl' w _, .inl hbl.symm, by simpa using hrep⟩
    have := append_zero (P := P) (ty := ty) hut hi hown ad cp
    simpa using this
  · have hpos : 0 < ys.length := List.length_pos_iff.2 h0
    obtain ⟨p, rfl, hc⟩ := r2 hpos
    have h63 : l.length + ys.length ≤ maxLen := by
      have : l.length + ys.length ≤ (l.length + ys.length) * by_ := Nat.le_mul_of_pos_right _ hb0
      simp only [maxLen]; omega
    obtain ⟨v', w', q1, q2, q3, _, q5⟩ := run_append_own_at (P := P) w w0.heap.size t ty e i z k.w by_ hut hi hz0 hsz hby hzs hw v l.length xs hown p ys.length cp news r1.len hc r1.one h63 hb hs.bl.size
    obtain ⟨ad', cp', rfl, hbl⟩ := own_form q2
    refine ⟨ad', cp', xs ++ news, w', by rw [List.length_append]; exact q1, by rw [List.length_append]; exact q2, q3, ?_, hrep.append r1⟩
    rw [← hbl]
    exact q5
theorem step_app_nil {o : Oper} {b : Nat} {S : St} {t e : TypeId} {k : Ty} {by_ : Nat} {z : Value} {args : Array Operand} {ts : Array TypeId} {s x : Operand} (ho : o.op = .call { callee := .builtin .append, args := args, argTypes := ts }) (ha : args.toList = [s, x]) (hts : ts.toList = [t, t]) (he : elemT P t = some (e, k, by_, z)) {ys : List k.D} (hx : listOf k S.h (S.op x) = some ys) (hsv : S.op s = .v (.slice none 0 0)) (hb : ys.length * by_ ≤ 140737488355328) : Step P o b { val := .sl b 0 none, ro := keysOf [S.op x], nw := [.row (some e) k 0 ys] } S := by
  obtain rfl := args_two ha
  have hts' : ts = #[t, t] := by rw [← Array.toArray_toList (xs := ts), hts]
  subst hts'
  intro T hT O w0 G K a w hs Kn Q hK
  have hs' := hs.op s
  rw [hT.op s (by simp [ho, Op.operands, Call.operands]), hsv] at hs'
  have hx' := hs.op x
  rw [hT.op x (by simp [ho, Op.operands, Call.operands])] at hx'
  simp only [Is] at hs'
  have hd := fits_dead (hT.ft rfl) 0 (by simp)
  simp only [Nat.add_zero] at hd
  obtain ⟨ad', cp', xs', w', q1, q2, q3, q4, q5⟩ := app_run (P := P) (ty := o.type) he hs (l := []) hx hT.ro hx' (World.ownsRow_nil w _ e k.w) (show RepL (hp O G w) k [] [] from rfl) (by simpa using hb)
  simp only [List.nil_append] at *
  obtain ⟨G', e1, e2, s2⟩ := hs.own hd (t := e) (e := k) (l := ys) q3 q2 (by
    rcases q4 with q4 | q4
    · left; simpa [Value.ownBlock] using q4
    · right; obtain ⟨p, hp, hpb⟩ := Option.map_eq_some_iff.1 q4; exact ⟨p, hp, hpb⟩) q5
  refine wp_val (w' := w') (v := .slice ad' ys.length cp') ?_ (hK G' _ _ (s2.put o.dst ?_))
  · simp [execOp, ho, resolve, invoke, builtin, hs', q1]
  · simp only [Is]; exact ⟨0, _, _, _, _, e2, Nat.le_refl _, ⟨_, _, _, rfl⟩, fun _ => rfl⟩
theorem step_app {o : Oper} {b : Nat} {S : St} {t e : TypeId} {k : Ty} {by_ : Nat} {z : Value} {args : Array Operand} {ts : Array TypeId} {s x : Operand} (ho : o.op = .call { callee := .builtin .append, args := args, argTypes := ts }) (ha : args.toList = [s, x]) (hts : ts.toList = [t, t]) (he : elemT P t = some (e, k, by_, z)) {l ys : List k.D} (hx : listOf k S.h (S.op x) = some ys) {q ver : Nat} (hsv : S.op s = .sl q ver none) (hk : S.h[q]? = some (.row (some e) k ver l)) (hb : (l.length + ys.length) * by_ ≤ 140737488355328) : Step P o b { val := .sl q (ver + 1) none, ro := q :: keysOf [S.op x], rw := [(q, .row (some e) k (ver + 1) (l ++ ys))] } S := by
  obtain rfl := args_two ha
  have hts' : ts = #[t, t] := by rw [← Array.toArray_toList (xs := ts), hts]
  subst hts'
  intro T hT O w0 G K a w hs Kn Q hK
  have hs' := hs.op s
  rw [hT.op s (by simp [ho, Op.operands, Call.operands]), hsv] at hs'
  have hx' := hs.op x
  rw [hT.op x (by simp [ho, Op.operands, Call.operands])] at hx'
  have hkT := (hT.ro q (by simp)).trans hk
  obtain ⟨ad, cp, xs, p1, p2, p3, p4⟩ := hs.ob q _ hkT
  have hv : a.eval s = .slice ad l.length cp := by
    simp only [Is] at hs'
    obtain ⟨v, A, c, n, wd, g1, _, _, g2⟩ := hs'
    rw [p1] at g1
    simp only [Option.some.injEq, Gh.row.injEq] at g1
    obtain ⟨rfl, rfl, rfl, rfl, rfl⟩ := g1
    exact g2 rfl
  have hbl : Value.ownBlock (.slice ad l.length cp) = ad.map (·.block) := by cases ad <;> rfl
  obtain ⟨ad', cp', xs', w', q1, q2, q3, q4, q5⟩ := app_run (P := P) (ty := o.type) he hs (l := l) hx (fun j hj => hT.ro j (List.mem_cons_of_mem _ hj)) hx' p2 p4 hb
  rw [hbl] at q3 q4
  obtain ⟨G', e1, e2, s2⟩ := hs.own_app hkT p1 q3 p3 q2 q4 q5
  refine wp_val (w' := w') (v := .slice ad' (l ++ ys).length cp') ?_ (hK G' _ _ (s2.put o.dst ?_))
  · simp [execOp, ho, resolve, invoke, builtin, hv] at q1 ⊢
    simp [q1]
  · simp only [Is]; exact ⟨_, _, _, _, _, e2, Nat.le_refl _, ⟨_, _, _, rfl⟩, fun _ => rfl⟩
end
end Go.Proofs.Ytlbicmdfdpcdiaa.Vm
-- Printed by a program of this session's; Lean checks it.
set_option linter.unusedVariables false
set_option linter.unusedSimpArgs false
namespace Go.Proofs.Ytlbicmdfdpcdiaa.Vm
open Go.RowKit
section
variable {P : Program}
theorem unsL_rep {H : Hp} {E : Env} {h : List SO} {k : Ty} (hn : k.noer = true) : ∀ {n : Nat} {cs : List SV} {l : List k.D} {us : List Value}, unsL k h n cs = some l → cs.length = n * k.w → IsL E cs us → (∀ q ∈ keysOf cs, Rd H E h q) → l.length = n ∧ RepL H k l us
  | 0, cs, l, us, hu, hl, hx, _ => by
    simp only [unsL, Option.some.injEq] at hu
    subst hu
    have : us = [] := List.eq_nil_of_length_eq_zero (by rw [hx.len, hl]; simp)
    subst this
    exact ⟨rfl, rfl⟩
  | n + 1, cs, l, us, hu, hl, hx, hR => by
    simp only [unsL, Option.bind_eq_some_iff, Option.map_eq_some_iff] at hu
    obtain ⟨x, h1, r, h2, rfl⟩ := hu
    obtain ⟨c1, c2⟩ := hx.cut k.w
    have hk : keysOf cs = keysOf (cs.take k.w) ++ keysOf (cs.drop k.w) := by rw [← keys_app, List.take_append_drop]
    obtain ⟨r1, r2⟩ := unsL_rep hn h2 (by rw [List.length_drop, hl, Nat.add_mul]; omega) c2 (fun q hq => hR q (by rw [hk]; exact List.mem_append_right _ hq))
    exact ⟨by simp [r1], _, _, (List.take_append_drop k.w us).symm, un_rep hn h1 c1 (fun q hq => hR q (by rw [hk]; exact List.mem_append_left _ hq)), r2⟩
theorem fillSV_len {place : Nat → Option (Nat × Nat)} : ∀ {parts : List (Nat × SV)} {cells cs : List SV}, fillSV place cells parts = some cs → cs.length = cells.length
  | [], cells, cs, h => by simp only [fillSV, Option.some.injEq] at h; rw [h]
  | (i, x) :: r, cells, cs, h => by
    simp only [fillSV] at h
    split at h
    · split at h
      · rename_i hq
        rw [fillSV_len h]
        simp [putAt]; omega
      · cases h
    · cases h
theorem step_lit {o : Oper} {b : Nat} {S : St} {t e : TypeId} {k : Ty} {by_ n : Nat} {z : Value} {parts : Array (Nat × Operand)} (ho : o.op = .buildSlice t n parts) (he : elemT P t = some (e, k, by_, z)) (hn : 0 < n ∧ n * k.w ≤ 16777216) {cs : List SV} (hf : fillSV (fun i => some (i * k.w, k.w)) ((List.replicate n z.cells.toList).flatten.map .v) (parts.toList.map fun q => (q.1, S.op q.2)) = some cs) {l : List k.D} (hl : unsL k S.h n cs = some l) (h1 : cs.all ocSV = true) (hrow : (keysOf cs).all (isRow S.h) = true) : Step P o b { val := .sl b 0 none, ro := keysOf cs, rw := frz S.h cs, nw := [.row (some e) k 0 l] } S := by
  obtain ⟨i, hut, hi, hz0, hsz, hby, hb0, hzs, hw, hne⟩ := elemT_spec he
  intro T hT O w0 G K a w hs Kn Q hK
  have hflat := made_flat z.cells (by omega) n
  rw [hzs] at hflat
  obtain ⟨ws, f1, f2⟩ := fill_ok (E := G.E) (vs := parts.toList.map fun q => (q.1, a.eval q.2)) (us := (madeCells z.cells (n * k.w)).toList) (by simp [List.map_map, Function.comp_def]) (parts_is hs (by simp [ho, Op.operands]) hT.op) (by rw [hflat]; exact IsL.vs _) hf
  have hcl : cs.length = n * k.w := by rw [fillSV_len hf, List.length_map, ← hflat, Array.length_toList, size_madeCells]
  obtain ⟨G1, e1, hH, s1, hRd⟩ := hs.frzRd (h0 := S.h) (cs := cs) hT.ro (fun q hq => isRow_some (List.all_eq_true.1 hrow q hq))
  obtain ⟨hlen, hrep⟩ := unsL_rep hne hl hcl (by rw [e1]; exact f2) hRd
  have hd := fits_dead (hT.ft rfl) 0 (by simp)
  simp only [Nat.add_zero] at hd
  have hbk : b ∉ keysOf cs := fun hm => by
    obtain ⟨o', e', v', l', hr⟩ := isRow_some (List.all_eq_true.1 hrow b hm)
    rw [← hT.ro b hm] at hr
    rw [hd] at hr; cases hr
  have hd1 : (setObjs T.h (frz S.h cs))[b]? = some .dead := by
    rw [objs_other (fun q hq e => hbk (by have := (frz_keys hq).1; rwa [e] at this))]; exact hd
  have hwsz : ws.toArray.size = n * k.w := by have := f2.len; simp; omega
  have hown := World.ownsRow_lit (base := w0.heap.size) (e := e) (size := k.w) w ws.toArray n hs.bl.size (by
    have : n ≤ n * k.w := Nat.le_mul_of_pos_right _ hw
    simp only [maxLen]; omega) hwsz
  obtain ⟨G', e2, e3, s2⟩ := s1.own hd1 (t := e) (e := k) (l := l) (cp := n) (ad := some ⟨w.heap.size, 0, none⟩) (w' := w.alloc (.cells ws.toArray e)) (World.grownBy_alloc w _ none) (by rw [hlen]; exact hown) (.inr ⟨_, rfl, rfl⟩) (by simpa using hrep)
  refine wp_val (w' := w.alloc (.cells ws.toArray e)) (v := .slice (some ⟨w.heap.size, 0, none⟩) n n) ?_ (hK G' _ _ (s2.put o.dst ?_))
  · have hz' : (zeroValue e).run P w = .ok z w := zero_run (by unfold zeroT; rw [hi]; exact hz0) w
    have hsz' : (sizeOf e).run P w = .ok k.w w := size_run (by unfold sizeT; rw [hi]; simp [hsz]) w
    have hparts : (parts.map fun (q : Nat × Operand) => (q.1, a.eval q.2)).toList = parts.toList.map fun q => (q.1, a.eval q.2) := by simp
    have hne0 : ¬ n * k.w = 0 := by have := Nat.mul_pos hn.1 hw; omega
    have hbig : ¬ 16777216 < n * k.w := by omega
    simp only [Array.toArray_toList] at f1
    simp only [madeCells] at f1
    simp [execOp, ho, Instr.buildSlice, Sem.run_bind, hz', hsz', run_underlying hut, hparts, hne0, hbig, f1, newRow]
  · simp only [Is]; exact ⟨0, _, _, _, _, e3, Nat.le_refl _, ⟨_, _, _, rfl⟩, fun _ => by rw [hlen]; rfl⟩
theorem enters_ {f : FuncId} {fn : Func} (hf : P.funcs[f]? = some fn) (hname : (fn.name == "runtime.NumGoroutine") = false) (hb : fn.body.isSome = true) (args : Array Value) (w : World) : (callFunc f args).run P w = .ok (.enter f args) w := by
  have h1 : fn.name ≠ "runtime.NumGoroutine" := by simpa using hname
  obtain ⟨c, hc⟩ := Option.isSome_iff_exists.1 hb
  simp [callFunc, hf, h1, hc]
theorem step_call {R : Type} {C : List Ctr} (hC : ∀ c ∈ C, CtrOk P c) {o : Oper} {b : Nat} {S : St} {f : FuncId} {fo : Operand} {args : Array Operand} {ts : Array TypeId} (ho : o.op = .call { callee := .value fo, args := args, argTypes := ts }) (hfo : S.op fo = .v (.func (.func f) #[] #[])) {c : Ctr} (hf : findC f C = some c) {κ : De → Option R} {r : R} (h : c.run (args.toList.map S.op) S.h b κ = some r) : ∃ δ, κ δ = some r ∧ δ.big = none ∧ Step P o b δ S := by
  obtain ⟨hm, rfl⟩ := findC_mem hf
  obtain ⟨δ, hκ, hbg, hcall⟩ := hC c hm _ _ b κ r h
  refine ⟨δ, hκ, hbg, ?_⟩
  intro T hT O w0 G K a w hs Kn Q hK
  have hL := isL_ops (S := S) hs args.toList (fun x hx => hT.op x (by simp [ho, Op.operands, Call.operands, Array.mem_def.2 hx]))
  have e2 : #[] ++ Array.map a.eval args ++ #[] = (args.toList.map a.eval).toArray := by apply Array.ext'; simp
  have hv := hs.op fo
  rw [hT.op fo (by simp [ho, Op.operands, Call.operands]), hfo] at hv
  simp only [Is] at hv
  rcases hcall T hT.ro (hT.ft hbg) O w0 G K a w hs _ hL with ⟨⟨fn, hfn, hnm, hbd⟩, hc⟩ | ⟨v, w', hr, v', G', he, hs'⟩
  · have hrun : (execOp a.eval o).run P w = .ok (.enter c.id (args.toList.map a.eval).toArray) w := by
      have he := enters_ hfn hnm hbd (args.toList.map a.eval).toArray w
      unfold execOp
      simp only [ho, resolve, hv, Deferred.ofValue, invoke, Sem.run_bind, Sem.run_pure, Result.andThen_ok, e2]
      exact he
    unfold Oper.wp
    rw [hrun, Oper.upon_enter]
    refine hc.mono ?_
    rintro e w' ⟨v, G', rfl, hs'⟩
    exact hK G' _ _ (hs' o.dst)
  · cases he
    refine wp_val (w' := w') (v := v) ?_ (hK G' _ _ (hs' o.dst))
    unfold execOp
    simp only [ho, resolve, hv, Deferred.ofValue, invoke, Sem.run_bind, Sem.run_pure, Result.andThen_ok, e2]
    exact hr
theorem step_inl {R : Type} {CH : FuncId → List SV → Nat → St → (De → Option R) → Option R} (hCH : CHok P CH) {o : Oper} {b : Nat} {S : St} {f : FuncId} {fo : Operand} {args : Array Operand} {ts : Array TypeId} (ho : o.op = .call { callee := .value fo, args := args, argTypes := ts }) (hfo : S.op fo = .v (.func (.func f) #[] #[])) {κ : De → Option R} {r : R} (h : CH f (args.toList.map S.op) b S κ = some r) : Big P o b S κ r := by
  obtain ⟨⟨fn, hfn, hnm, hbd⟩, hcall⟩ := hCH _ _ b S κ r h
  intro O w0 G K a w hs Kn Q hK
  have hL := isL_ops (S := S) hs args.toList (fun _ _ => rfl)
  have hc := hcall O w0 G K a w hs _ hL
  have hv := hs.op fo
  rw [hfo] at hv
  simp only [Is] at hv
  have hrun : (execOp a.eval o).run P w = .ok (.enter f (args.toList.map a.eval).toArray) w := by
    have he := enters_ hfn hnm hbd (args.toList.map a.eval).toArray w
    have e2 : #[] ++ Array.map a.eval args ++ #[] = (args.toList.map a.eval).toArray := by apply Array.ext'; simp
    unfold execOp
    simp only [ho, resolve, hv, Deferred.ofValue, invoke, Sem.run_bind, Sem.run_pure, Result.andThen_ok, e2]
    exact he
  unfold Oper.wp
  rw [hrun, Oper.upon_enter]
  refine hc.mono ?_
  rintro e w' ⟨v, δ, G', rfl, hd, hs'⟩
  exact hK δ G' _ _ hd (hs' o.dst)
theorem step_cloC {R : Type} {C : List Ctr} (hC : ∀ c ∈ C, CtrOk P c) {o : Oper} {b : Nat} {S : St} {f : FuncId} {fo : Operand} {first caps : List SV} {args : Array Operand} {ts : Array TypeId} (ho : o.op = .call { callee := .value fo, args := args, argTypes := ts }) (hfo : S.op fo = .fn (.func f) first caps) {c : Ctr} (hf : findC f C = some c) {κ : De → Option R} {r : R} (h : c.run (first ++ args.toList.map S.op ++ caps) S.h b κ = some r) : ∃ δ, κ δ = some r ∧ δ.big = none ∧ Step P o b δ S := by
  obtain ⟨hm, rfl⟩ := findC_mem hf
  obtain ⟨δ, hκ, hbg, hcall⟩ := hC c hm _ _ b κ r h
  refine ⟨δ, hκ, hbg, ?_⟩
  intro T hT O w0 G K a w hs Kn Q hK
  have hv := hs.op fo
  rw [hT.op fo (by simp [ho, Op.operands, Call.operands]), hfo] at hv
  simp only [Is] at hv
  obtain ⟨us, vs, hv, i1, i2⟩ := hv
  have hL := (i1.append (isL_ops (S := S) hs args.toList (fun x hx => hT.op x (by simp [ho, Op.operands, Call.operands, Array.mem_def.2 hx])))).append i2
  have e2 : us.toArray ++ Array.map a.eval args ++ vs.toArray = (us ++ args.toList.map a.eval ++ vs).toArray := by apply Array.ext'; simp
  rcases hcall T hT.ro (hT.ft hbg) O w0 G K a w hs _ hL with ⟨⟨fn, hfn, hnm, hbd⟩, hc⟩ | ⟨v, w', hr, v', G', he, hs'⟩
  · have hrun : (execOp a.eval o).run P w = .ok (.enter c.id (us ++ args.toList.map a.eval ++ vs).toArray) w := by
      have he := enters_ hfn hnm hbd (us ++ args.toList.map a.eval ++ vs).toArray w
      unfold execOp
      simp only [ho, resolve, hv, Deferred.ofValue, invoke, Sem.run_bind, Sem.run_pure, Result.andThen_ok, e2]
      exact he
    unfold Oper.wp
    rw [hrun, Oper.upon_enter]
    refine hc.mono ?_
    rintro e w' ⟨v, G', rfl, hs'⟩
    exact hK G' _ _ (hs' o.dst)
  · cases he
    refine wp_val (w' := w') (v := v) ?_ (hK G' _ _ (hs' o.dst))
    unfold execOp
    simp only [ho, resolve, hv, Deferred.ofValue, invoke, Sem.run_bind, Sem.run_pure, Result.andThen_ok, e2]
    exact hr
theorem step_clo {R : Type} {CH : FuncId → List SV → Nat → St → (De → Option R) → Option R} (hCH : CHok P CH) {o : Oper} {b : Nat} {S : St} {f : Operand} {g : FuncId} {first caps : List SV} {args : Array Operand} {ts : Array TypeId} (ho : o.op = .call { callee := .value f, args := args, argTypes := ts }) (hf : S.op f = .fn (.func g) first caps) {κ : De → Option R} {r : R} (h : CH g (first ++ args.toList.map S.op ++ caps) b S κ = some r) : Big P o b S κ r := by
  obtain ⟨⟨fn, hfn, hnm, hbd⟩, hcall⟩ := hCH _ _ b S κ r h
  intro O w0 G K a w hs Kn Q hK
  have hf' := hs.op f
  rw [hf] at hf'
  simp only [Is] at hf'
  obtain ⟨us, vs, hv, i1, i2⟩ := hf'
  have hL := (i1.append (isL_ops (S := S) hs args.toList (fun _ _ => rfl))).append i2
  have hc := hcall O w0 G K a w hs _ hL
  have hrun : (execOp a.eval o).run P w = .ok (.enter g (us ++ args.toList.map a.eval ++ vs).toArray) w := by
    have he := enters_ hfn hnm hbd (us ++ args.toList.map a.eval ++ vs).toArray w
    have e2 : us.toArray ++ Array.map a.eval args ++ vs.toArray = (us ++ args.toList.map a.eval ++ vs).toArray := by apply Array.ext'; simp
    unfold execOp
    simp only [ho, resolve, hv, Deferred.ofValue, invoke, Sem.run_bind, Sem.run_pure, Result.andThen_ok, e2]
    exact he
  unfold Oper.wp
  rw [hrun, Oper.upon_enter]
  refine hc.mono ?_
  rintro e w' ⟨v, δ, G', rfl, hd, hs'⟩
  exact hK δ G' _ _ hd (hs' o.dst)
theorem subLo_ok {R : Type} {o : Oper} {b : Nat} {S : St} {t : TypeId} {x : Operand} {lo hi : Option Operand} (ho : o.op = .slice t x lo hi none) (hu : P.underlying t = some .string) {s : ByteArray} (hx : S.op x = .v (.string s)) {hv : Int} (hh : (hi = none ∧ hv = (s.size : Int)) ∨ (∃ q k, hi = some q ∧ S.op q = .v (.int k hv) ∧ 0 ≤ hv ∧ hv ≤ (s.size : Int))) {κ : De → Option R} {r : R} (h : subLo S s lo hv κ = some r) : ∃ δ, κ δ = some r ∧ δ.big = none ∧ Step P o b δ S := by
  unfold subLo brc at h
  split at h
  · exact ⟨{ val := .v (.string (s.extract (0 : Int).toNat hv.toNat)) }, h, rfl, step_sub (l := 0) ho hu hx hh (.inl ⟨rfl, rfl⟩)⟩
  · split at h
    · split at h
      · split at h
        · rename_i l hq h0 h1; exact ⟨{ val := .v (.string (s.extract l.toNat hv.toNat)) }, h, rfl, step_sub (l := l) ho hu hx hh (.inr ⟨_, _, rfl, hq, h0, h1⟩)⟩
        · cases h
      · cases h
    · cases h
theorem subRes_ok {R : Type} {o : Oper} {b : Nat} {S : St} {t : TypeId} {x : Operand} {lo hi : Option Operand} (ho : o.op = .slice t x lo hi none) (hu : P.underlying t = some .string) {κ : De → Option R} {r : R} (h : subRes S (S.op x) lo hi κ = some r) : ∃ δ, κ δ = some r ∧ δ.big = none ∧ Step P o b δ S := by
  unfold subRes brc at h
  simp only [lenI_eq, sizeI_eq, rlenI_eq] at h
  split at h
  · split at h
    · exact subLo_ok ho hu ‹_› (.inl ⟨rfl, rfl⟩) h
    · split at h
      · split at h
        · split at h
          · exact subLo_ok ho hu ‹_› (.inr ⟨_, _, rfl, ‹_›, ‹_›, ‹_›⟩) h
          · cases h
        · cases h
      · cases h
  · cases h
theorem cutLo_ok {R : Type} {o : Oper} {b : Nat} {S : St} {t e : TypeId} {x : Operand} {lo hi : Option Operand} (ho : o.op = .slice t x lo hi none) (hu : P.underlying t = some (.slice e)) {V : RowV} (hV : rowOf S.h (S.op x) = some V) (hsz : sizeT P e = some V.e.w) {hv : Int} (hh : (hi = none ∧ hv = (rlen V.r V.l : Int)) ∨ (∃ q k, hi = some q ∧ S.op q = .v (.int k hv) ∧ 0 ≤ hv ∧ ((roff V.r : Nat) : Int) + hv ≤ (V.l.length : Int))) {κ : De → Option R} {r : R} (h : cutLo S V lo hv κ = some r) : ∃ δ, κ δ = some r ∧ δ.big = none ∧ Step P o b δ S := by
  unfold cutLo brc at h
  split at h
  · exact ⟨_, h, rfl, by simpa using step_cut (l := 0) ho hu hV hsz hh (.inl ⟨rfl, rfl⟩)⟩
  · split at h
    · split at h
      · split at h
        · rename_i l hq h0 h1; exact ⟨_, h, rfl, step_cut (l := l) ho hu hV hsz hh (.inr ⟨_, _, rfl, hq, h0, h1⟩)⟩
        · cases h
      · cases h
    · cases h
theorem cutRes_ok {R : Type} {o : Oper} {b : Nat} {S : St} {t e : TypeId} {x : Operand} {lo hi : Option Operand} (ho : o.op = .slice t x lo hi none) (hu : P.underlying t = some (.slice e)) {V : RowV} (hV : rowOf S.h (S.op x) = some V) (hsz : sizeT P e = some V.e.w) {κ : De → Option R} {r : R} (h : cutRes S V lo hi κ = some r) : ∃ δ, κ δ = some r ∧ δ.big = none ∧ Step P o b δ S := by
  unfold cutRes brc at h
  simp only [lenI_eq, sizeI_eq, rlenI_eq] at h
  split at h
  · exact cutLo_ok ho hu hV hsz (.inl ⟨rfl, rfl⟩) h
  · split at h
    · split at h
      · split at h
        · exact cutLo_ok ho hu hV hsz (.inr ⟨_, _, rfl, ‹_›, ‹_›, ‹_›⟩) h
        · cases h
      · cases h
    · cases h
theorem litRes_ok {R : Type} {o : Oper} {b : Nat} {S : St} {t : TypeId} {n : Nat} {parts : Array (Nat × Operand)} (ho : o.op = .buildSlice t n parts) {κ : De → Option R} {r : R} (h : litRes P t n (parts.toList.map fun q => (q.1, S.op q.2)) S.h b κ = some r) : ∃ δ, κ δ = some r ∧ δ.big = none ∧ Step P o b δ S := by
  unfold litRes at h
  split at h
  · cases h
  · rename_i e k by_ z he
    split at h
    · rename_i hn
      split at h
      · cases h
      · rename_i cs hf
        split at h
        · rename_i l hl
          split at h
          · rename_i hq
            simp only [Bool.and_eq_true] at hq
            exact ⟨_, h, rfl, step_lit ho he hn hf hl hq.1 hq.2⟩
          · cases h
        · cases h
    · cases h
theorem makeRes_ok {R : Type} {o : Oper} {b : Nat} {S : St} {t : TypeId} {l c : Operand} (ho : o.op = .makeSlice t l c) {κ : De → Option R} {r : R} (h : makeRes P t (S.op l) (S.op c) b κ = some r) : ∃ δ, κ δ = some r ∧ δ.big = none ∧ Step P o b δ S := by
  unfold makeRes brc at h
  split at h
  · cases h
  · rename_i e k by_ z he
    split at h
    · cases h
    · rename_i z' hz
      split at h
      · rename_i k1 n k2 m hl hc
        split at h
        · split at h
          · split at h
            · exact ⟨_, h, rfl, step_make ho he hz hl hc ‹_› ‹_› (.inl ⟨‹_›, rfl⟩)⟩
            · split at h
              · exact ⟨_, h, rfl, step_make ho he hz hl hc ‹_› ‹_› (.inr ⟨‹_›, rfl⟩)⟩
              · cases h
          · cases h
        · cases h
      · cases h
theorem appRes_ok {R : Type} {o : Oper} {b : Nat} {S : St} {args : Array Operand} {ts : Array TypeId} {s x : Operand} {t : TypeId} (ho : o.op = .call { callee := .builtin .append, args := args, argTypes := ts }) (ha : args.toList = [s, x]) (hts : ts.toList = [t, t]) {κ : De → Option R} {r : R} (h : appRes P S t (S.op s) (S.op x) b κ = some r) : ∃ δ, κ δ = some r ∧ δ.big = none ∧ Step P o b δ S := by
  unfold appRes brc at h
  split at h
  · cases h
  · rename_i e k by_ z he
    split at h
    · cases h
    · rename_i ys hx
      split at h
      · rename_i hsv
        split at h
        · exact ⟨_, h, rfl, step_app_nil ho ha hts he hx hsv ‹_›⟩
        · cases h
      · rename_i q ver hsv
        split at h
        · rename_i e' k' ver' l hk
          split at h
          · rename_i hq
            obtain ⟨rfl, rfl⟩ := hq
            split at h
            · rename_i hkk
              subst hkk
              split at h
              · exact ⟨_, h, rfl, step_app ho ha hts he hx hsv hk ‹_›⟩
              · cases h
            · cases h
          · cases h
        · cases h
      · cases h
end
end Go.Proofs.Ytlbicmdfdpcdiaa.Vm
-- Printed by a program of this session's; Lean checks it.
set_option linter.unusedVariables false
set_option linter.unusedSimpArgs false
namespace Go.Proofs.Ytlbicmdfdpcdiaa.Vm
open Go.RowKit
section
variable {P : Program} {R : Type} {o : Oper} {b : Nat} {S : St} {κ : De → Option R} {r : R}
theorem buildRes_ok {t : TypeId} {parts : Array (Nat × Operand)} (ho : o.op = .build t parts) (h : buildRes P t (parts.toList.map fun q => (q.1, S.op q.2)) κ = some r) : ∃ δ, κ δ = some r ∧ δ.big = none ∧ Step P o b δ S := by
  unfold buildRes at h
  split at h
  · split at h
    · split at h
      · exact ⟨_, h, rfl, step_build ho ‹_› ‹_› ‹_› ‹_›⟩
      · cases h
    · cases h
  · split at h
    · split at h
      · exact ⟨_, h, rfl, step_buildA ho ‹_› ‹_› ‹_› ‹_›⟩
      · cases h
    · cases h
  · cases h
theorem loadRes_ok {t : TypeId} {x : Operand} (ho : o.op = .load t x) (h : loadRes P t (S.op x) b S κ = some r) : ∃ δ, κ δ = some r ∧ δ.big = none ∧ Step P o b δ S := by
  unfold loadRes at h
  split at h
  · split at h
    · exact ⟨_, h, rfl, step_load_ptr ho ‹_› ‹_› ‹_›⟩
    · cases h
  · split at h
    · split at h
      · rename_i hv
        subst hv
        simp only at h
        split at h
        · exact ⟨_, h, rfl, step_load_el ho ‹_› ‹_› ‹_› ‹_›⟩
        · cases h
      · cases h
    · cases h
  · cases h
theorem storeRes_ok {t : TypeId} {x y : Operand} (ho : o.op = .store t x y) (h : storeRes P t (S.op x) (S.op y) S κ = some r) : ∃ δ, κ δ = some r ∧ δ.big = none ∧ Step P o b δ S := by
  unfold storeRes at h
  split at h
  · rename_i cs n hy hn
    split at h
    · rename_i hq
      split at h
      · rename_i k off hx
        split at h
        · split at h
          · exact ⟨_, h, rfl, step_store_ptr ho hy hn hq.1 hq.2 hx ‹_› ‹_›⟩
          · cases h
        · cases h
      · rename_i k ver i off hx
        split at h
        · split at h
          · rename_i hp
            obtain ⟨rfl, p1, p2, p3, p4⟩ := hp
            split at h
            · exact ⟨_, h, rfl, step_store_el ho hy hn hq.1 hq.2 hx ‹_› p1 (fun q hm => isRow_some (List.all_eq_true.1 p2 q hm)) p3 p4 ‹_›⟩
            · cases h
          · cases h
        · cases h
      · cases h
    · cases h
  · cases h
theorem fieldRes_ok {s : TypeId} {x : Operand} {f : Nat} (ho : o.op = .fieldAddr s x f) (h : fieldRes P s (S.op x) f κ = some r) : ∃ δ, κ δ = some r ∧ δ.big = none ∧ Step P o b δ S := by
  unfold fieldRes at h
  split at h
  · split at h
    · split at h
      · exact ⟨_, h, rfl, step_field ho ‹_› ‹_› ‹_› ‹_›⟩
      · cases h
    · cases h
  · cases h
theorem pickIx_ok {x : SV} {sz : Nat} {i : Int} {n : Nat} (h0 : 0 ≤ i) (h1 : i < (n : Int)) (h : pickIx x sz i κ n = some r) : ∃ y, addOff x (i.toNat * sz) = some y ∧ κ { val := y } = some r := by
  have at_ : ∀ m, m = i.toNat * sz → ixAt x m κ = some r → ∃ y, addOff x (i.toNat * sz) = some y ∧ κ { val := y } = some r := by
    rintro m rfl h
    unfold ixAt at h
    split at h
    · exact ⟨_, ‹_›, h⟩
    · cases h
  unfold pickIx brc at h
  split at h
  · split at h
    · rename_i e; exact at_ _ (by rw [e]; simp) h
    · have : i = 1 := by omega
      exact at_ _ (by rw [this]; simp) h
  · split at h
    · rename_i e; exact at_ _ (by rw [e]; simp) h
    · split at h
      · rename_i e; exact at_ _ (by rw [e]; simp) h
      · have : i = 2 := by omega
        exact at_ _ (by rw [this]; simp) h
  · exact at_ _ rfl h
theorem idxRes_ok {t : TypeId} {x ix : Operand} (ho : o.op = .indexAddr t x ix) (h : idxRes P t (S.op x) (S.op ix) S κ = some r) : ∃ δ, κ δ = some r ∧ δ.big = none ∧ Step P o b δ S := by
  unfold idxRes brc at h
  simp only [rlenI_eq] at h
  split at h
  · rename_i e k i hu hi
    split at h
    · split at h
      · split at h
        · split at h
          · exact ⟨_, h, rfl, step_index ho hu hi ‹_› ‹_› ‹_› ‹_› ‹_›⟩
          · cases h
        · cases h
      · cases h
    · cases h
  · rename_i n e k i hu hi
    split at h
    · rename_i sz hsz h2
      split at h
      · split at h
        · rename_i b0 b1
          obtain ⟨y, hy, h⟩ := pickIx_ok b0 b1 h
          exact ⟨_, h, rfl, step_index_arr ho hu (by simpa using h2) hi hsz b0 b1 hy⟩
        · cases h
      · cases h
    · cases h
  · cases h
theorem pickRes_ok {c x y : Operand} (ho : o.op = .pick c x y) (h : pickRes (S.op c) (S.op x) (S.op y) κ = some r) : ∃ δ, κ δ = some r ∧ δ.big = none ∧ Step P o b δ S := by
  unfold pickRes brc at h
  split at h
  · rename_i p d hc
    by_cases hp : p
    · rw [if_pos hp] at h; exact ⟨_, h, rfl, step_pick ho (g := true) (fun E u hu => by rw [hc] at hu; simp only [Is] at hu; rw [hu]; simp [hp])⟩
    · rw [if_neg hp] at h; exact ⟨_, h, rfl, step_pick ho (g := false) (fun E u hu => by rw [hc] at hu; simp only [Is] at hu; rw [hu]; simp [hp])⟩
  · rename_i p d hc
    by_cases hp : p
    · rw [if_pos hp] at h; exact ⟨_, h, rfl, step_pick ho (g := false) (fun E u hu => by rw [hc] at hu; simp only [Is] at hu; rw [hu]; simp [hp])⟩
    · rw [if_neg hp] at h; exact ⟨_, h, rfl, step_pick ho (g := true) (fun E u hu => by rw [hc] at hu; simp only [Is] at hu; rw [hu]; simp [hp])⟩
  · rename_i g hc
    cases g with
    | true => exact ⟨_, by simpa using h, rfl, step_pick ho (g := true) (fun E u hu => by rw [hc] at hu; simpa only [Is] using hu)⟩
    | false => exact ⟨_, by simpa using h, rfl, step_pick ho (g := false) (fun E u hu => by rw [hc] at hu; simpa only [Is] using hu)⟩
  · cases h
theorem lenRes_ok {args : Array Operand} {ts : Array TypeId} (ho : o.op = .call { callee := .builtin .len, args := args, argTypes := ts }) (h : lenRes P args.toList ts[0]? S κ = some r) : ∃ δ, κ δ = some r ∧ δ.big = none ∧ Step P o b δ S := by
  unfold lenRes at h
  simp only [rlenI_eq, sizeI_eq] at h
  split at h
  · rename_i x e ha ht
    split at h
    · exact ⟨_, h, rfl, step_len0 ho ha ‹_› ht⟩
    · split at h
      · exact ⟨_, h, rfl, step_len ho ha ‹_› ht⟩
      · cases h
  · rename_i x ha ht
    split at h
    · exact ⟨_, h, rfl, step_lens ho ha ‹_› ht⟩
    · cases h
  · rename_i x n e ha ht
    exact ⟨_, h, rfl, step_lena ho ha ht⟩
  · cases h
set_option maxHeartbeats 1000000 in
theorem binRes_ok {bo : BinOp} {t ty : TypeId} {x y : Operand} (ho : o.op = .binOp bo t x y ty) (h : binRes P o S bo t (S.op x) (S.op y) κ = some r) : ∃ δ, κ δ = some r ∧ δ.big = none ∧ Step P o b δ S := by
  have hfb : fallback P o S κ = some r → ∃ δ, κ δ = some r ∧ δ.big = none ∧ Step P o b δ S := step_fallback (by simp [ho])
  unfold binRes brc drw at h
  split at h
  · rename_i k i k' j hx hy
    split at h
    · split at h
      · rename_i e; subst e; exact ⟨_, h, rfl, step_arith ho hx hy (.inl ⟨rfl, rfl⟩)⟩
      · cases h
    · split at h
      · rename_i e; subst e; exact ⟨_, h, rfl, step_arith ho hx hy (.inr (.inl ⟨rfl, rfl⟩))⟩
      · cases h
    · split at h
      · rename_i e; subst e; exact ⟨_, h, rfl, step_arith ho hx hy (.inr (.inr ⟨rfl, rfl⟩))⟩
      · cases h
    · split at h
      · rename_i e; subst e; exact ⟨_, h, rfl, step_bits ho hx hy (.inl rfl)⟩
      · cases h
    · split at h
      · rename_i e; subst e; exact ⟨_, h, rfl, step_bits ho hx hy (.inr (.inl rfl))⟩
      · cases h
    · split at h
      · rename_i e; subst e; exact ⟨_, h, rfl, step_bits ho hx hy (.inr (.inr rfl))⟩
      · cases h
    · split at h
      · rename_i e; subst e
        split at h
        · cases h
        · exact ⟨_, h, rfl, step_div ho hx hy ‹_› (.inl ⟨rfl, rfl⟩)⟩
      · cases h
    · split at h
      · rename_i e; subst e
        split at h
        · cases h
        · exact ⟨_, h, rfl, step_div ho hx hy ‹_› (.inr ⟨rfl, rfl⟩)⟩
      · cases h
    · split at h
      · cases h
      · exact ⟨_, h, rfl, step_shift ho hx hy ‹_› (.inl ⟨rfl, rfl⟩)⟩
    · split at h
      · cases h
      · exact ⟨_, h, rfl, step_shift ho hx hy ‹_› (.inr ⟨rfl, rfl⟩)⟩
    · split at h
      · rename_i e; subst e
        split at h
        · exact ⟨_, h, rfl, step_cmp ho hx hy ‹_›⟩
        · exact hfb h
      · cases h
  · rename_i i j hx hy
    split at h
    · exact ⟨_, h, rfl, step_str ho hx hy ‹_›⟩
    · split at h
      · split at h
        · exact ⟨_, h, rfl, step_cat ho hx hy ‹_›⟩
        · cases h
      · exact hfb h
  · rename_i ti z hx hy
    split at h
    · exact ⟨_, h, rfl, step_ifcnil ho hx hy ‹_› (.inl ⟨rfl, rfl⟩)⟩
    · exact ⟨_, h, rfl, step_ifcnil ho hx hy ‹_› (.inr ⟨rfl, rfl⟩)⟩
    · cases h
  · rename_i p d hx
    split at h
    case h_2 => cases h
    case h_1 hbt =>
    split at h
    · rename_i q e hy
      by_cases hp : p
      · rw [if_pos hp] at h; exact ⟨_, h, rfl, step_beq ho hx hy rfl hbt (fun E => by simp only [Is]; simp [hp])⟩
      · rw [if_neg hp] at h; exact ⟨_, h, rfl, step_beq ho hx hy rfl hbt (fun E => by simp only [Is]; simp [hp])⟩
    · rename_i q e hy
      by_cases hp : p
      · rw [if_pos hp] at h; exact ⟨_, h, rfl, step_bne ho hx hy rfl hbt (fun E => by simp only [Is]; simp [hp])⟩
      · rw [if_neg hp] at h; exact ⟨_, h, rfl, step_bne ho hx hy rfl hbt (fun E => by simp only [Is]; simp [hp])⟩
    · rename_i q e hy
      by_cases hp : p
      · rw [if_pos hp] at h; exact ⟨_, h, rfl, step_beq ho hx hy rfl hbt (fun E => by simp only [Is]; simp [hp])⟩
      · rw [if_neg hp] at h; exact ⟨_, h, rfl, step_beq ho hx hy rfl hbt (fun E => by simp only [Is]; simp [hp])⟩
    · rename_i q e hy
      by_cases hp : p
      · rw [if_pos hp] at h; exact ⟨_, h, rfl, step_bne ho hx hy rfl hbt (fun E => by simp only [Is]; simp [hp])⟩
      · rw [if_neg hp] at h; exact ⟨_, h, rfl, step_bne ho hx hy rfl hbt (fun E => by simp only [Is]; simp [hp])⟩
    · exact hfb h
  · split at h
    · rename_i xs ys hx hy
      split at h
      · split at h
        · split at h
          · exact ⟨_, h, rfl, step_eqa ho hx hy ‹_› ‹_› ‹_› (.inl ⟨rfl, rfl⟩)⟩
          · cases h
        · cases h
      · split at h
        · split at h
          · exact ⟨_, h, rfl, step_eqs ho hx hy ‹_› ‹_› (.inl ⟨rfl, rfl⟩)⟩
          · cases h
        · cases h
    · rename_i xs ys hx hy
      split at h
      · split at h
        · split at h
          · exact ⟨_, h, rfl, step_eqa ho hx hy ‹_› ‹_› ‹_› (.inr ⟨rfl, rfl⟩)⟩
          · cases h
        · cases h
      · split at h
        · split at h
          · exact ⟨_, h, rfl, step_eqs ho hx hy ‹_› ‹_› (.inr ⟨rfl, rfl⟩)⟩
          · cases h
        · cases h
    · exact hfb h
set_option maxHeartbeats 1000000 in
theorem opRes1_ok {C : List Ctr} (hC : ∀ c ∈ C, CtrOk P c) {CH : FuncId → List SV → Nat → St → (De → Option R) → Option R} (hCH : CHok P CH) (h : opRes1 P C CH o b S κ = some r) : Told P CH o b S κ r := by
  unfold opRes1 at h
  unfold brc at h
  split at h
  · exact .inl ⟨_, h, rfl, step_move (.inl ‹_›)⟩
  · exact .inl ⟨_, h, rfl, step_move (.inr ‹_›)⟩
  · split at h
    · split at h
      · exact .inl ⟨_, h, rfl, step_alloc ‹_› ‹_› ‹_›⟩
      · cases h
    · cases h
  · split at h
    · split at h
      · exact .inl ⟨_, h, rfl, step_box ‹_› ‹_› ‹_›⟩
      · cases h
    · cases h
  · exact .inl (buildRes_ok ‹_› h)
  · exact .inl (litRes_ok ‹_› h)
  · exact .inl (loadRes_ok ‹_› h)
  · exact .inl (storeRes_ok ‹_› h)
  · exact .inl (fieldRes_ok ‹_› h)
  · exact .inl (idxRes_ok ‹_› h)
  · exact .inl (pickRes_ok ‹_› h)
  · split at h
    · split at h
      · exact .inl ⟨_, h, rfl, step_extract ‹_› ‹_› ‹_›⟩
      · cases h
    · exact .inl (step_fallback (by simp_all) h)
  · split at h
    · split at h
      · split at h
        · split at h
          · split at h
            · exact .inl ⟨_, h, rfl, step_fieldv ‹_› ‹_› ‹_› ‹_› ‹_› ‹_›⟩
            · cases h
          · cases h
        · cases h
      · cases h
    · exact .inl (step_fallback (by simp_all) h)
  · split at h
    · exact .inl ⟨_, h, rfl, step_not ‹_› (.inl ⟨_, _, ‹_›, rfl⟩)⟩
    · exact .inl ⟨_, h, rfl, step_not ‹_› (.inr ⟨_, _, ‹_›, rfl⟩)⟩
    · exact .inl (step_fallback (by simp_all) h)
  · split at h
    · exact .inl ⟨_, h, rfl, step_neg ‹_› ‹_›⟩
    · exact .inl (step_fallback (by simp_all) h)
  · split at h
    · rename_i d k k' a h1 h2 h3; exact .inl ⟨_, h, rfl, step_conv ‹_› h2 h3 ⟨_, h1⟩⟩
    · exact .inl (step_fallback (by simp_all) h)
  · split at h
    · cases h
    · rename_i d hne hu; exact .inl ⟨_, h, rfl, step_iface ‹_› hu (fun ms e => hne ms e)⟩
    · cases h
  · exact .inl ⟨_, h, rfl, step_func ‹_›⟩
  · split at h
    · rename_i hx; rw [← hx] at h; exact .inl ⟨_, h, rfl, step_nilCheck ‹_› (.inl ⟨_, _, hx⟩)⟩
    · rename_i hx; rw [← hx] at h; exact .inl ⟨_, h, rfl, step_nilCheck ‹_› (.inr (.inl ⟨_, _, _, _, hx⟩))⟩
    · rename_i hx; rw [← hx] at h; exact .inl ⟨_, h, rfl, step_nilCheck ‹_› (.inr (.inr ⟨_, _, _, hx⟩))⟩
    · cases h
  · exact .inl (binRes_ok ‹_› h)
  · split at h
    · exact .inl (subRes_ok ‹_› ‹_› h)
    · split at h
      · split at h
        · exact .inl (cutRes_ok ‹_› ‹_› ‹_› ‹_› h)
        · cases h
      · cases h
    · cases h
  · split at h
    · split at h
      · split at h
        · exact .inl ⟨_, h, rfl, step_byte ‹_› ‹_› ‹_› ‹_› ‹_› (sizeI_eq _ ▸ ‹_›)⟩
        · cases h
      · cases h
    · cases h
  · exact .inl (makeRes_ok ‹_› h)
  · split at h
    · exact .inl (step_call hC ‹_› rfl ‹_› h)
    · exact .inr ⟨⟨_, _, h⟩, step_inl hCH ‹_› rfl h⟩
  · split at h
    · split at h
      · exact .inl (step_cloC hC ‹_› ‹_› ‹_› h)
      · exact .inr ⟨⟨_, _, h⟩, step_clo hCH ‹_› ‹_› h⟩
    · split at h
      · exact .inl (step_call hC ‹_› ‹_› ‹_› h)
      · exact .inr ⟨⟨_, _, h⟩, step_inl hCH ‹_› ‹_› h⟩
    · cases h
  · exact .inl (lenRes_ok ‹_› h)
  · split at h
    · split at h
      · rename_i e; subst e; exact .inl (appRes_ok ‹_› ‹_› ‹_› h)
      · cases h
    · cases h
  · split at h
    · exact .inl ⟨_, h, rfl, step_min ‹_› ‹_›⟩
    · cases h
  · split at h
    · exact .inl ⟨_, h, rfl, step_max ‹_› ‹_›⟩
    · cases h
  · split at h
    · rename_i hns
      refine .inl (step_fallback (fun cs bl e => ?_) h)
      unfold notSelect at hns
      rw [e] at hns
      simp at hns
    · cases h
end
end Go.Proofs.Ytlbicmdfdpcdiaa.Vm
-- Printed by a program of this session's; Lean checks it.
set_option linter.unusedVariables false
set_option linter.unusedSimpArgs false
namespace Go.Proofs.Ytlbicmdfdpcdiaa.Vm
open Go.RowKit
section
variable {P : Program}
def Run (P : Program) (ops : Array Oper) (o : Oper) (a : Act) (w : World) (K : Act → World → Prop) (Q : Exit → Act → World → Prop) : Prop :=
  if Region.wanted o (yielded ops a.tmps) = true then o.wp P a w K Q else K (a.put o.dst undef) w
structure AgreeS (S T : St) (ops : Array Oper) (o : Oper) (b : Nat) (δ : De) : Prop where
  op : ∀ t ∈ o.looksAt ops, T.t[t]? = S.t[t]?
  ro : ∀ k ∈ δ.ro, T.h[k]? = S.h[k]?
  ft : δ.big = none → fits T b δ = true
  bg : δ.big ≠ none → T = S
def OpOk (P : Program) (ops : Array Oper) (o : Oper) (b : Nat) (δ : De) (S : St) : Prop :=
  ∀ T : St, AgreeS S T ops o b δ → ∀ O w0 G K a w, Sat O w0 T G K a w → ∀ (Kn : Act → World → Prop) (Q : Exit → Act → World → Prop), (∀ G' a' w', Sat O w0 (ap o.dst b δ T) G' K a' w' → Kn a' w') → Run P ops o a w Kn Q
theorem op_same {T S : St} {o : Oper} {ops : Array Oper} (h : ∀ t ∈ o.looksAt ops, T.t[t]? = S.t[t]?) : ∀ x ∈ o.op.operands, T.op x = S.op x := by
  intro x hx
  cases x with
  | tmp t =>
    have : t ∈ o.looksAt ops := by
      unfold Oper.looksAt
      refine List.mem_append_left _ (List.mem_filterMap.2 ⟨.tmp t, by simpa using hx, rfl⟩)
    simp only [St.op, List.getD_eq_getElem?_getD, h t this]
  | _ => rfl
theorem opOk_run {ops : Array Oper} {o : Oper} {b : Nat} {δ : De} {S : St} (hw : ∀ T : St, (∀ t ∈ o.looksAt ops, T.t[t]? = S.t[t]?) → ∀ O w0 G K a w, Sat O w0 T G K a w → Region.wanted o (yielded ops a.tmps) = true) (h : Step P o b δ S) : OpOk P ops o b δ S := by
  intro T hT O w0 G K a w hs Kn Q hK
  unfold Run
  rw [if_pos (hw T hT.op O w0 G K a w hs)]
  exact h T ⟨op_same hT.op, hT.ro, hT.ft, hT.bg⟩ O w0 G K a w hs Kn Q hK
theorem opOk_skip {ops : Array Oper} {o : Oper} {b : Nat} {S : St} (hw : ∀ T : St, (∀ t ∈ o.looksAt ops, T.t[t]? = S.t[t]?) → ∀ O w0 G K a w, Sat O w0 T G K a w → Region.wanted o (yielded ops a.tmps) = false) : OpOk P ops o b { val := .v undef } S := by
  intro T hT O w0 G K a w hs Kn Q hK
  unfold Run
  rw [if_neg (by rw [hw T hT.op O w0 G K a w hs]; simp)]
  exact hK G _ _ (hs.put o.dst (by simp only [Is]))
theorem guard_slot {ops : Array Oper} {o : Oper} {j t : Nat} {want : Bool} (hg : o.guard = some (j, want)) (ht : (ops[j]?).bind (·.dst) = some t) : t ∈ o.looksAt ops := by
  unfold Oper.looksAt
  rw [hg]
  simp [ht]
theorem wanted_of {ops : Array Oper} {o : Oper} {j t : Nat} {want g : Bool} (hg : o.guard = some (j, want)) (ht : (ops[j]?).bind (·.dst) = some t) {S : St} {x : SV} (hx : S.t[t]? = some x) (hxg : ∀ E u, Is E x u → u = .bool g) :
    ∀ T : St, (∀ t ∈ o.looksAt ops, T.t[t]? = S.t[t]?) → ∀ O w0 G K a w, Sat O w0 T G K a w → Region.wanted o (yielded ops a.tmps) = (g == want) := by
  intro T h1 O w0 G K a w hs
  have hT := (h1 t (guard_slot hg ht)).trans hx
  obtain ⟨u, hu, hi⟩ := hs.tm.get t hT
  have := hxg _ u hi
  subst this
  unfold Region.wanted yielded
  rw [hg]
  simp only [ht, Option.bind_some]
  rw [Array.getElem?_toList] at hu
  rw [hu]
  simp
theorem tst_true {p : Prop} {d : Decidable p} (hp : p) : SV.tst p d = .tst True inferInstance := by
  have : p = True := eq_true hp
  subst this
  congr 1
  exact Subsingleton.elim _ _
theorem tst_false {p : Prop} {d : Decidable p} (hp : ¬ p) : SV.tst p d = .tst False inferInstance := by
  have : p = False := eq_false hp
  subst this
  congr 1
  exact Subsingleton.elim _ _
theorem set_same {S : St} {t : Nat} {x y : SV} (hx : S.t[t]? = some x) (h : x = y) : { S with t := S.t.set t y } = S := by
  subst h
  obtain ⟨hl, he⟩ := List.getElem?_eq_some_iff.1 hx
  cases S with
  | mk st sk sh =>
    simp only at *
    congr 1
    rw [← he]
    exact List.set_getElem_self hl
theorem nt_true {p : Prop} {d : Decidable p} (hp : p) : SV.nt p d = .nt True inferInstance := by
  have : p = True := eq_true hp
  subst this
  congr 1
  exact Subsingleton.elim _ _
theorem nt_false {p : Prop} {d : Decidable p} (hp : ¬ p) : SV.nt p d = .nt False inferInstance := by
  have : p = False := eq_false hp
  subst this
  congr 1
  exact Subsingleton.elim _ _
theorem know_tst {S : St} {t : Nat} {p : Prop} {d : Decidable p} (hx : S.t[t]? = some (.tst p d)) : (p → know S t True inferInstance = S) ∧ (¬ p → know S t False inferInstance = S) :=
  ⟨fun hp => set_same hx (tst_true hp), fun hp => set_same hx (tst_false hp)⟩
theorem know_nt {S : St} {t : Nat} {p : Prop} {d : Decidable p} (hx : S.t[t]? = some (.nt p d)) : (p → knowN S t True inferInstance = S) ∧ (¬ p → knowN S t False inferInstance = S) :=
  ⟨fun hp => set_same hx (nt_true hp), fun hp => set_same hx (nt_false hp)⟩
theorem know_b {S : St} {t : Nat} {g : Bool} (hx : S.t[t]? = some (.v (.bool g))) : knowB S t g = S := set_same hx rfl
theorem op_slot {S : St} {t : Nat} {x : SV} (h : S.t.getD t .any = x) (hx : x ≠ .any) : S.t[t]? = some x := by
  rw [List.getD_eq_getElem?_getD] at h
  cases e : S.t[t]? with
  | none => rw [e] at h; exact absurd h.symm hx
  | some y => rw [e] at h; simpa using h
theorem knowO_tst {S : St} {c : Operand} {p : Prop} {d : Decidable p} (hx : S.op c = .tst p d) : (p → knowO S c True inferInstance = S) ∧ (¬ p → knowO S c False inferInstance = S) := by
  cases c with
  | tmp t => exact know_tst (op_slot hx (by simp))
  | _ => exact ⟨fun _ => rfl, fun _ => rfl⟩
theorem knowO_b {S : St} {c : Operand} {g : Bool} (hx : S.op c = .v (.bool g)) : knowBO S c g = S := by
  cases c with
  | tmp t => exact know_b (op_slot hx (by simp))
  | _ => rfl
theorem knowO_nt {S : St} {c : Operand} {p : Prop} {d : Decidable p} (hx : S.op c = .nt p d) : (p → knowNO S c True inferInstance = S) ∧ (¬ p → knowNO S c False inferInstance = S) := by
  cases c with
  | tmp t => exact know_nt (op_slot hx (by simp))
  | _ => exact ⟨fun _ => rfl, fun _ => rfl⟩
def BigR (P : Program) {R : Type} (ops : Array Oper) (o : Oper) (b : Nat) (S : St) (κ : De → Option R) (r : R) : Prop :=
  ∀ O w0 G K a w, Sat O w0 S G K a w → ∀ (Kn : Act → World → Prop) (Q : Exit → Act → World → Prop), (∀ δ G' a' w', κ δ = some r → Sat O w0 (ap o.dst b δ S) G' K a' w' → Kn a' w') → Run P ops o a w Kn Q
theorem setInt_id {S : St} {s : Nat} {k : IntKind} {n : Int} (h : S.t[s]? = some (.v (.int k n))) : setInt S s k n = S := by
  obtain ⟨h1, h2⟩ := List.getElem?_eq_some_iff.1 h
  unfold setInt
  rw [← h2, List.set_getElem_self]
theorem opRes_ok {R : Type} {C : List Ctr} (hC : ∀ c ∈ C, CtrOk P c) {CH : FuncId → List SV → Nat → St → (De → Option R) → Option R} (hCH : CHok P CH) {ops : Array Oper} {o : Oper} {b : Nat} {S : St} {κ : St → De → Option R} {r : R} (h : opRes P C CH ops o b S κ = some r) : (∃ δ, κ S δ = some r ∧ δ.big = none ∧ OpOk P ops o b δ S) ∨ ((∃ f args, CH f args b S (κ S) = some r) ∧ BigR P ops o b S (κ S) r) := by
  unfold opRes at h
  split at h
  · rename_i hg
    have h : opRes1 P C CH o b S (κ S) = some r := by
      split at h
      · exact h
      · rename_i s _
        split at h
        · rename_i k i hs
          unfold brc at h
          by_cases h0 : i = 0
          · rw [if_pos h0, setInt_id (by rw [← h0]; exact hs)] at h; exact h
          · rw [if_neg h0] at h
            by_cases h1 : i = 1
            · rw [if_pos h1, setInt_id (by rw [← h1]; exact hs)] at h; exact h
            · rw [if_neg h1] at h; cases h
        · exact h
    rcases opRes1_ok hC hCH h with ⟨δ, h1, hb, h2⟩ | ⟨hf, h2⟩
    · exact .inl ⟨δ, h1, hb, opOk_run (fun T _ O w0 G K a w _ => by unfold Region.wanted; rw [hg]) h2⟩
    · refine .inr ⟨hf, fun O w0 G K a w hs Kn Q hK => ?_⟩
      unfold Run
      rw [if_pos (by unfold Region.wanted; rw [hg])]
      exact h2 O w0 G K a w hs Kn Q hK
  · rename_i j want hg
    split at h
    · cases h
    · rename_i t ht
      have key : ∀ (g : Bool) (x : SV), S.t[t]? = some x → (∀ E u, Is E x u → u = .bool g) → (if (g == want) = true then opRes1 P C CH o b S (κ S) else κ S { val := .v undef }) = some r → (∃ δ, κ S δ = some r ∧ δ.big = none ∧ OpOk P ops o b δ S) ∨ ((∃ f args, CH f args b S (κ S) = some r) ∧ BigR P ops o b S (κ S) r) := by
        intro g x hx hxg hh
        have hw := wanted_of hg ht hx hxg
        split at hh
        · rename_i hgw
          rcases opRes1_ok hC hCH hh with ⟨δ, h1, hb, h2⟩ | ⟨hf, h2⟩
          · exact .inl ⟨δ, h1, hb, opOk_run (fun T h3 O w0 G K a w hs => by rw [hw T h3 O w0 G K a w hs]; exact hgw) h2⟩
          · refine .inr ⟨hf, fun O w0 G K a w hs Kn Q hK => ?_⟩
            unfold Run
            rw [if_pos (by rw [hw S (fun _ _ => rfl) O w0 G K a w hs]; exact hgw)]
            exact h2 O w0 G K a w hs Kn Q hK
        · rename_i hgw
          exact .inl ⟨_, hh, rfl, opOk_skip (fun T h3 O w0 G K a w hs => by rw [hw T h3 O w0 G K a w hs]; simpa using hgw)⟩
      simp only at h
      split at h
      · rename_i p d hx
        unfold brc at h
        by_cases hp : p
        · rw [if_pos hp, (know_tst hx).1 hp] at h
          exact key true _ hx (fun E u hu => by simp only [Is] at hu; rw [hu]; simp [hp]) (by cases want <;> simpa using h)
        · rw [if_neg hp, (know_tst hx).2 hp] at h
          exact key false _ hx (fun E u hu => by simp only [Is] at hu; rw [hu]; simp [hp]) (by cases want <;> simpa using h)
      · rename_i p d hx
        unfold brc at h
        by_cases hp : p
        · rw [if_pos hp, (know_nt hx).1 hp] at h
          exact key false _ hx (fun E u hu => by simp only [Is] at hu; rw [hu]; simp [hp]) (by cases want <;> simpa using h)
        · rw [if_neg hp, (know_nt hx).2 hp] at h
          exact key true _ hx (fun E u hu => by simp only [Is] at hu; rw [hu]; simp [hp]) (by cases want <;> simpa using h)
      · rename_i g hx
        unfold brc at h
        refine key g _ hx (fun E u hu => by simpa only [Is] using hu) ?_
        cases g with
        | true => rw [if_pos rfl, know_b hx] at h; cases want <;> simpa using h
        | false => rw [if_neg (by simp), know_b hx] at h; cases want <;> simpa using h
      · rename_i vs hx
        refine .inl ⟨_, h, rfl, opOk_skip (fun T h1 O w0 G K a w hs => ?_)⟩
        obtain ⟨u, hu, hi⟩ := hs.tm.get t ((h1 t (guard_slot hg ht)).trans hx)
        simp only [Is] at hi
        subst hi
        unfold Region.wanted yielded
        rw [hg]
        simp only [ht, Option.bind_some]
        rw [Array.getElem?_toList] at hu
        rw [hu]
        rfl
      · cases h
theorem evOps_seq {R : Type} {C : List Ctr} (hC : ∀ c ∈ C, CtrOk P c) {CH : Nat → FuncId → List SV → Nat → St → (De → Option R) → Option R} (hCH : ∀ i, CHok P (CH i)) {ops : Array Oper} {κ : List Dn → Nat → St → Option R} {r : R} {O : Nat → Prop} {w0 : World} {K : List Value} {Q : Exit → Act → World → Prop} (hQ : ∀ acc b S G a w, Sat O w0 S G K a w → κ acc b S = some r → Q .normal a w) : ∀ (l : List (Nat × Oper)) (b : Nat) (acc : List Dn) (S : St), (∀ q ∈ l, ops[q.1]? = some q.2) → evOps P C CH ops false l b acc S κ = some r → ∀ G a w, Sat O w0 S G K a w → wpOps P ops Q (l.map (·.1)) a w
  | [], b, acc, S, _, h, G, a, w, hs => hQ acc b S G a w hs h
  | (i, o) :: l, b, acc, S, hl, h, G, a, w, hs => by
    simp only [evOps] at h
    have hx : ops[i]? = some o := hl (i, o) List.mem_cons_self
    have next : ∀ δ, (if δ.big.isSome = true then evOps P C CH ops false l (bigB δ) [] (ap o.dst b δ S) κ else if fits S b δ = true then evOps P C CH ops false l (b + δ.nw.length) (if false then ⟨i, o, b, δ⟩ :: acc else []) (ap o.dst b δ S) κ else none) = some r → (δ.big = none → fits S b δ = true) ∧ ∃ b' acc', evOps P C CH ops false l b' acc' (ap o.dst b δ S) κ = some r := fun δ h1 => by
      split at h1
      · rename_i hb
        exact ⟨fun e => by rw [e] at hb; simp at hb, ⟨_, _, h1⟩⟩
      · split at h1
        · exact ⟨fun _ => ‹_›, ⟨_, _, h1⟩⟩
        · cases h1
    have key : Run P ops o a w (wpOps P ops Q (l.map (·.1))) Q := by
      rcases opRes_ok hC (hCH i) h with ⟨δ, h1, hb, hok⟩ | ⟨_, hbig⟩
      · obtain ⟨hft, b', acc', hh⟩ := next δ h1
        exact hok S ⟨fun _ _ => rfl, fun _ _ => rfl, hft, fun _ => rfl⟩ O w0 G K a w hs _ Q (fun G' a' w' hs' => evOps_seq hC hCH hQ l b' acc' _ (fun q hq => hl q (List.mem_cons_of_mem _ hq)) hh G' a' w' hs')
      · refine hbig O w0 G K a w hs _ Q (fun δ G' a' w' h1 hs' => ?_)
        obtain ⟨_, b', acc', hh⟩ := next δ h1
        exact evOps_seq hC hCH hQ l b' acc' _ (fun q hq => hl q (List.mem_cons_of_mem _ hq)) hh G' a' w' hs'
    simp only [List.map_cons, wpOps, hx]
    unfold Run at key
    split at key
    · rw [if_pos ‹_›]; exact .inl key
    · rw [if_neg ‹_›]; exact key
inductive Chain (P : Program) (ops : Array Oper) : List Dn → St → St → Prop
  | nil (S : St) : Chain P ops [] S S
  | cons {x : Dn} {r : List Dn} {S S' : St} (hb : x.δ.big = none) (hf : fits S x.b x.δ = true) (ho : OpOk P ops x.o x.b x.δ S) (h : Chain P ops r (ap x.o.dst x.b x.δ S) S') : Chain P ops (x :: r) S S'
theorem chain_snoc {ops : Array Oper} {x : Dn} : ∀ {l : List Dn} {S S' : St}, Chain P ops l S S' → x.δ.big = none → fits S' x.b x.δ = true → OpOk P ops x.o x.b x.δ S' → Chain P ops (l ++ [x]) S (ap x.o.dst x.b x.δ S')
  | [], S, _, .nil _, hb, hf, ho => .cons hb hf ho (.nil _)
  | y :: l, S, S', .cons hb hf ho h, hb', hf', ho' => .cons hb hf ho (chain_snoc h hb' hf' ho')
def Num (ops : Array Oper) (L : List Dn) : Prop := ∀ x ∈ L, ops[x.i]? = some x.o
theorem evOps_ok {R : Type} {C : List Ctr} (hC : ∀ c ∈ C, CtrOk P c) {ops : Array Oper} {κ : List Dn → Nat → St → Option R} {r : R} {S0 : St} : ∀ (l : List (Nat × Oper)) (b : Nat) (acc : List Dn) (S : St), Chain P ops acc.reverse S0 S → (∀ q ∈ l, ops[q.1]? = some q.2) → Num ops acc → evOps P C (fun _ _ _ _ _ _ => none) ops true l b acc S κ = some r →
    ∃ acc' b' S', κ acc' b' S' = some r ∧ Chain P ops acc'.reverse S0 S' ∧ Num ops acc' ∧ acc'.reverse.map (·.i) = acc.reverse.map (·.i) ++ l.map (·.1)
  | [], b, acc, S, hc, _, hn, h => ⟨acc, b, S, h, hc, hn, by simp⟩
  | (i, o) :: l, b, acc, S, hc, hl, hn, h => by
    simp only [evOps] at h
    have hCH : CHok P (R := R) (fun _ _ _ _ _ => none) := fun f args b S κ r h => by cases h
    obtain ⟨δ, h1, hb, hok⟩ : ∃ δ, _ := by
      rcases opRes_ok hC hCH h with h | ⟨⟨f, args, hf⟩, _⟩
      · exact h
      · cases hf
    rw [hb] at h1
    simp only [Option.isSome_none, Bool.false_eq_true, if_false, if_true] at h1
    split at h1
    · rename_i hf
      obtain ⟨acc', b', S', h2, h3, h4, h5⟩ := evOps_ok hC l _ _ _ (S0 := S0) (by simpa using chain_snoc (x := ⟨i, o, b, δ⟩) hc hb hf hok) (fun q hq => hl q (List.mem_cons_of_mem _ hq)) (fun x hx => by
        rcases List.mem_cons.1 hx with rfl | hx
        · exact hl _ List.mem_cons_self
        · exact hn x hx) h1
      exact ⟨acc', b', S', h2, h3, h4, by simpa using h5⟩
    · cases h1
theorem setNew_h {j : Nat} : ∀ {nw : List SO} {h : List SO} {b : Nat}, (j < b ∨ b + nw.length ≤ j) → (setNew h b nw)[j]? = h[j]?
  | [], _, _, _ => rfl
  | o :: r, h, b, hj => by
    simp only [List.length_cons] at hj
    rw [setNew, setNew_h (by omega), List.getElem?_set, if_neg (by omega)]
structure Free (ops : Array Oper) (x y : Dn) : Prop where
  ap1 : ∀ d, x.o.dst = some d → d ∉ y.o.looksAt ops
  ap2 : ∀ d, x.o.dst = some d → y.o.dst ≠ some d
  ap3 : ∀ d, y.o.dst = some d → d ∉ x.o.looksAt ops
  xw : ∀ q ∈ x.δ.rw, q.1 ∉ mentions y
  yw : ∀ q ∈ y.δ.rw, q.1 ∉ mentions x
  mx : ∀ k ∈ mentions y, ¬ (x.b ≤ k ∧ k < x.b + x.δ.nw.length)
  my : ∀ k ∈ mentions x, ¬ (y.b ≤ k ∧ k < y.b + y.δ.nw.length)
  nn : x.δ.nw.length = 0 ∨ y.δ.nw.length = 0 ∨ x.b + x.δ.nw.length ≤ y.b ∨ y.b + y.δ.nw.length ≤ x.b
theorem free_of {ops : Array Oper} {x y : Dn} (h : conf ops x y = false) : Free ops x y := by
  simp only [conf, Bool.or_eq_false_iff, Bool.not_eq_false', List.any_eq_false] at h
  obtain ⟨⟨⟨⟨⟨h1, h2⟩, h3⟩, h4⟩, h5⟩, h6⟩ := h
  obtain ⟨a1, a2, a3⟩ := Oper.apart_spec h1
  refine ⟨a1, a2, a3, ?_, ?_, ?_, ?_, ?_⟩
  · intro q hq hm; have := h2 q hq; simp [hm] at this
  · intro q hq hm; have := h3 q hq; simp [hm] at this
  · intro k hk hm; have := h4 k hk; simp [newAt, hm.1, hm.2] at this
  · intro k hk hm; have := h5 k hk; simp [newAt, hm.1, hm.2] at this
  · simp only [Bool.and_eq_false_iff, bne_eq_false_iff_eq, Bool.not_eq_false', Bool.or_eq_true, decide_eq_true_eq] at h6
    rcases h6 with (h6 | h6) | h6 <;> simp_all
theorem Free.symm {ops : Array Oper} {x y : Dn} (h : Free ops x y) : Free ops y x :=
  ⟨h.ap3, fun d hd hx => h.ap2 d hx hd, h.ap1, h.yw, h.xw, h.my, h.mx, by have := h.nn; omega⟩
theorem mem_ment {x : Dn} : (∀ k ∈ x.δ.ro, k ∈ mentions x) ∧ (∀ q ∈ x.δ.rw, q.1 ∈ mentions x) := by
  refine ⟨fun k hk => List.mem_append_left _ hk, fun q hq => List.mem_append_right _ (List.mem_map.2 ⟨q, hq, rfl⟩)⟩
theorem ap_none {dst : Option Tmp} {b : Nat} {δ : De} {S : St} (h : δ.big = none) : ap dst b δ S = ⟨setT S.t dst δ.val, S.k, setNew (setObjs S.h δ.rw) b δ.nw⟩ := by unfold ap; rw [h]
section
variable {ops : Array Oper} {x y : Dn} (F : Free ops x y) (hyb : y.δ.big = none) (S : St)
include F hyb
theorem far_slot {t : Nat} (ht : t ∈ x.o.looksAt ops) : (ap y.o.dst y.b y.δ S).t[t]? = S.t[t]? := by
  rw [ap_none hyb]
  cases hd : y.o.dst with
  | none => rfl
  | some d =>
    have hne : d ≠ t := fun e => F.ap3 d hd (e ▸ ht)
    simp [setT, List.getElem?_set, hne]
theorem far_h {k : Nat} (hk : k ∈ mentions x ∨ (x.b ≤ k ∧ k < x.b + x.δ.nw.length)) : (ap y.o.dst y.b y.δ S).h[k]? = S.h[k]? := by
  rw [ap_none hyb]
  have h1 : k < y.b ∨ y.b + y.δ.nw.length ≤ k := by
    rcases hk with hk | hk
    · have := F.my k hk; omega
    · have := F.nn; omega
  show (setNew (setObjs S.h y.δ.rw) y.b y.δ.nw)[k]? = S.h[k]?
  rw [setNew_h h1]
  refine objs_other fun q hq e => ?_
  rcases hk with hk | hk
  · exact F.yw q hq (e ▸ hk)
  · exact F.mx q.1 (mem_ment.2 q hq) (e ▸ hk)
end
theorem fits_iff {S : St} {b : Nat} {δ : De} : fits S b δ = true ↔ (∀ j, j < δ.nw.length → S.h[b + j]? = some .dead) ∧ (∀ o ∈ δ.nw, alive (some o) = true) ∧ (∀ k ∈ δ.ro, alive S.h[k]? = true) ∧ (∀ q ∈ δ.rw, alive S.h[q.1]? = true ∧ alive (some q.2) = true) := by
  constructor
  · intro h
    refine ⟨fits_dead h, ?_⟩
    simp only [fits, Bool.and_eq_true, List.all_eq_true] at h
    exact ⟨h.1.1.2, h.1.2, h.2⟩
  · rintro ⟨h1, h2, h3, h4⟩
    simp only [fits, Bool.and_eq_true, List.all_eq_true]
    exact ⟨⟨⟨fun j hj => by rw [h1 j (by simpa using hj)], h2⟩, h3⟩, h4⟩
theorem fit_move {ops : Array Oper} {x y : Dn} (F : Free ops x y) (hyb : y.δ.big = none) {S : St} : fits S x.b x.δ = true ↔ fits (ap y.o.dst y.b y.δ S) x.b x.δ = true := by
  have hf : ∀ k, (k ∈ mentions x ∨ (x.b ≤ k ∧ k < x.b + x.δ.nw.length)) → (ap y.o.dst y.b y.δ S).h[k]? = S.h[k]? := fun k hk => far_h F hyb S hk
  rw [fits_iff, fits_iff]
  constructor
  · rintro ⟨h1, h2, h3, h4⟩
    exact ⟨fun j hj => by rw [hf _ (.inr ⟨by omega, by omega⟩)]; exact h1 j hj, h2, fun k hk => by rw [hf _ (.inl (mem_ment.1 k hk))]; exact h3 k hk, fun q hq => by rw [hf _ (.inl (mem_ment.2 q hq))]; exact h4 q hq⟩
  · rintro ⟨h1, h2, h3, h4⟩
    exact ⟨fun j hj => by rw [← hf _ (.inr ⟨by omega, by omega⟩)]; exact h1 j hj, h2, fun k hk => by rw [← hf _ (.inl (mem_ment.1 k hk))]; exact h3 k hk, fun q hq => by rw [← hf _ (.inl (mem_ment.2 q hq))]; exact h4 q hq⟩
theorem ok_move {ops : Array Oper} {x y : Dn} (F : Free ops x y) (hxb : x.δ.big = none) (hyb : y.δ.big = none) {S : St} : OpOk P ops x.o x.b x.δ S ↔ OpOk P ops x.o x.b x.δ (ap y.o.dst y.b y.δ S) := by
  have h1 : ∀ t ∈ x.o.looksAt ops, (ap y.o.dst y.b y.δ S).t[t]? = S.t[t]? := fun t ht => far_slot F hyb S ht
  have h3 : ∀ k ∈ x.δ.ro, (ap y.o.dst y.b y.δ S).h[k]? = S.h[k]? := fun k hk => far_h F hyb S (.inl (mem_ment.1 k hk))
  constructor
  · intro h T hT
    exact h T ⟨fun t ht => (hT.op t ht).trans (h1 t ht), fun k hk => (hT.ro k hk).trans (h3 k hk), hT.ft, fun hb => absurd hxb hb⟩
  · intro h T hT
    exact h T ⟨fun t ht => (hT.op t ht).trans (h1 t ht).symm, fun k hk => (hT.ro k hk).trans (h3 k hk).symm, hT.ft, fun hb => absurd hxb hb⟩
theorem objs_set_comm {b : Nat} {o : SO} : ∀ {L : List (Nat × SO)} {h : List SO}, (∀ q ∈ L, q.1 ≠ b) → setObjs (h.set b o) L = (setObjs h L).set b o
  | [], _, _ => rfl
  | (j, p) :: r, h, hq => by
    rw [setObjs, setObjs, List.set_comm _ _ (Ne.symm (hq _ List.mem_cons_self)), objs_set_comm fun q hq' => hq q (List.mem_cons_of_mem _ hq')]
theorem objs_objs_comm {L1 : List (Nat × SO)} : ∀ {L2 : List (Nat × SO)} {h : List SO}, (∀ q ∈ L2, ∀ u ∈ L1, u.1 ≠ q.1) → setObjs (setObjs h L1) L2 = setObjs (setObjs h L2) L1
  | [], _, _ => rfl
  | (j, p) :: r, h, hq => by
    rw [setObjs, setObjs, ← objs_set_comm (hq _ List.mem_cons_self), objs_objs_comm fun q hq' => hq q (List.mem_cons_of_mem _ hq')]
theorem objs_new_comm {L : List (Nat × SO)} : ∀ {nw : List SO} {h : List SO} {b : Nat}, (∀ q ∈ L, q.1 < b ∨ b + nw.length ≤ q.1) → setObjs (setNew h b nw) L = setNew (setObjs h L) b nw
  | [], _, _, _ => rfl
  | o :: r, h, b, hq => by
    simp only [List.length_cons] at hq
    rw [setNew, setNew, objs_new_comm (fun q hq' => by have := hq q hq'; omega), objs_set_comm (fun q hq' e => by have := hq q hq'; omega)]
theorem new_set_comm {b' : Nat} {o' : SO} : ∀ {nw : List SO} {h : List SO} {b : Nat}, (b' < b ∨ b + nw.length ≤ b') → setNew (h.set b' o') b nw = (setNew h b nw).set b' o'
  | [], _, _, _ => rfl
  | o :: r, h, b, hb => by
    simp only [List.length_cons] at hb
    rw [setNew, setNew, List.set_comm _ _ (by omega), new_set_comm (by omega)]
theorem new_new_comm {n2 : List SO} {b2 : Nat} : ∀ {n1 : List SO} {h : List SO} {b1 : Nat}, (n1.length = 0 ∨ n2.length = 0 ∨ b1 + n1.length ≤ b2 ∨ b2 + n2.length ≤ b1) → setNew (setNew h b1 n1) b2 n2 = setNew (setNew h b2 n2) b1 n1
  | [], _, _, _ => rfl
  | o :: r, h, b1, hq => by
    simp only [List.length_cons] at hq
    rcases Nat.eq_zero_or_pos n2.length with h0 | h0
    · have : n2 = [] := List.eq_nil_of_length_eq_zero h0
      subst this; rfl
    · rw [setNew, setNew, new_new_comm (by omega), new_set_comm (by omega)]
theorem ap_comm {ops : Array Oper} {x y : Dn} (F : Free ops x y) (hxb : x.δ.big = none) (hyb : y.δ.big = none) (S : St) : ap x.o.dst x.b x.δ (ap y.o.dst y.b y.δ S) = ap y.o.dst y.b y.δ (ap x.o.dst x.b x.δ S) := by
  rw [ap_none hxb, ap_none hyb, ap_none hyb, ap_none hxb]
  congr 1
  · cases hx : x.o.dst with
    | none => rfl
    | some d =>
      cases hy : y.o.dst with
      | none => rfl
      | some e => exact List.set_comm _ _ (fun he => F.ap2 d hx (by rw [hy, he]))
  · show setNew (setObjs (setNew (setObjs S.h y.δ.rw) y.b y.δ.nw) x.δ.rw) x.b x.δ.nw = setNew (setObjs (setNew (setObjs S.h x.δ.rw) x.b x.δ.nw) y.δ.rw) y.b y.δ.nw
    rw [objs_new_comm (fun q hq => by have := F.my q.1 (mem_ment.2 q hq); omega), objs_new_comm (fun q hq => by have := F.mx q.1 (mem_ment.2 q hq); omega)]
    rw [objs_objs_comm (fun q hq u hu e => F.yw u hu (e ▸ mem_ment.2 q hq)), new_new_comm (by have := F.nn; omega)]
def Ord (ops : Array Oper) : List Dn → Prop
  | [] => True
  | x :: r => (∀ y ∈ r, conf ops x y = true → after x y = true) ∧ Ord ops r
theorem bubble {ops : Array Oper} {x : Dn} : ∀ {l1 l2 : List Dn} {S S' : St}, Chain P ops (l1 ++ x :: l2) S S' → (∀ y ∈ l1, conf ops y x = false) → x.δ.big = none ∧ fits S x.b x.δ = true ∧ OpOk P ops x.o x.b x.δ S ∧ Chain P ops (l1 ++ l2) (ap x.o.dst x.b x.δ S) S'
  | [], l2, S, S', .cons hb hf ho h, _ => ⟨hb, hf, ho, h⟩
  | y :: l1, l2, S, S', .cons hb hf ho h, hc => by
    have F := (free_of (hc y List.mem_cons_self)).symm
    obtain ⟨h0, h1, h2, h3⟩ := bubble h (fun z hz => hc z (List.mem_cons_of_mem _ hz))
    have g1 := (fit_move F hb).2 h1
    have g2 := (ok_move F h0 hb).2 h2
    refine ⟨h0, g1, g2, ?_⟩
    refine .cons hb ((fit_move F.symm h0).1 hf) ((ok_move F.symm hb h0).1 ho) ?_
    rw [← ap_comm F h0 hb S]
    exact h3
theorem ord_mid {ops : Array Oper} {x : Dn} : ∀ {l1 l2 : List (Dn)}, Ord ops (l1 ++ x :: l2) → (∀ y ∈ l1, conf ops y x = true → after y x = true) ∧ Ord ops (l1 ++ l2)
  | [], l2, h => ⟨by simp, h.2⟩
  | y :: l1, l2, h => by
    obtain ⟨h1, h2⟩ := h
    obtain ⟨h3, h4⟩ := ord_mid h2
    refine ⟨fun z hz => ?_, ⟨fun z hz => h1 z (by simp at hz ⊢; rcases hz with hz | hz <;> simp [hz]), h4⟩⟩
    rcases List.mem_cons.1 hz with rfl | hz
    · exact h1 x (by simp)
    · exact h3 z hz
theorem chain_any {ops : Array Oper} {Q : Exit → Act → World → Prop} {O : Nat → Prop} {w0 : World} {K : List Value} {S' : St} (hQ : ∀ G a w, Sat O w0 S' G K a w → Q .normal a w) : ∀ (n : Nat) (L : List (Dn)) (S : St) (listed : Array Bool), L.length = n → Chain P ops L S S' → Num ops L → Ord ops L → (∀ i, i < ops.size → (listed.getD i true = false ↔ i ∈ L.map (·.i))) → (L.map (·.i)).Pairwise (· < ·) → listed.size = ops.size →
    (∀ x ∈ L, x.o.after.toList.all (fun e => !Region.binds .any e || e.on < x.i) = true) → ∀ G a w, Sat O w0 S G K a w → wpAny P .any ops Q n listed a w
  | n, L, S, listed, hn, hc, hnum, hord, hlist, hpw, hsz, hed, G, a, w, hs => by
    have hready : ∀ i ∈ Region.ready .any ops listed, ∃ l1 x l2, L = l1 ++ x :: l2 ∧ x.i = i ∧ ∀ y ∈ l1, conf ops y x = false := by
      intro i hi
      simp only [Region.ready, List.mem_filter, List.mem_range, Bool.and_eq_true, Bool.not_eq_true'] at hi
      obtain ⟨hlt, hnl, hrd⟩ := hi
      obtain ⟨x, hx, rfl⟩ := List.mem_map.1 ((hlist i hlt).1 hnl)
      obtain ⟨l1, l2, rfl⟩ := List.append_of_mem hx
      refine ⟨l1, x, l2, rfl, rfl, fun y hy => ?_⟩
      rw [hnum x hx] at hrd
      simp only [Option.map_some, Option.getD_some, Array.all_eq_true_iff_forall_mem, Bool.or_eq_true, Bool.not_eq_true'] at hrd
      cases hcf : conf ops y x with
      | false => rfl
      | true =>
        have := (ord_mid hord).1 y hy hcf
        simp only [after, List.any_eq_true, Bool.and_eq_true, beq_iff_eq, Array.mem_toList_iff] at this
        obtain ⟨e, he, hb, hon⟩ := this
        have hyl : y.i < ops.size := (Array.getElem?_eq_some_iff.1 (hnum y (by simp [hy]))).1
        have h1 := (hlist y.i hyl).2 (List.mem_map.2 ⟨y, by simp [hy], rfl⟩)
        rcases hrd e he with h2 | h2
        · rw [hb] at h2; cases h2
        · rw [hon] at h2
          have h3 : listed.getD y.i false = listed.getD y.i true := by
            simp only [Array.getD_eq_getD_getElem?]
            rw [Array.getElem?_eq_getElem (by omega)]; rfl
          rw [h3, h1] at h2; cases h2
    have hnone : Region.ready .any ops listed = [] → L = [] := by
      intro he
      match L, hnum, hlist, hpw, hed with
      | [], _, _, _, _ => rfl
      | x :: L', hnum, hlist, hpw, hed =>
        exfalso
        have hxl : x.i < ops.size := (Array.getElem?_eq_some_iff.1 (hnum x (by simp))).1
        have : x.i ∈ Region.ready .any ops listed := by
          simp only [Region.ready, List.mem_filter, List.mem_range, Bool.and_eq_true, Bool.not_eq_true']
          refine ⟨hxl, (hlist x.i hxl).2 (by simp), ?_⟩
          rw [hnum x (by simp)]
          simp only [Option.map_some, Option.getD_some, Array.all_eq_true_iff_forall_mem, Bool.or_eq_true, Bool.not_eq_true']
          intro e hee
          have h1 := List.all_eq_true.1 (hed x (by simp)) e (Array.mem_toList_iff.2 hee)
          simp only [Bool.or_eq_true, Bool.not_eq_true', decide_eq_true_eq] at h1
          rcases h1 with h1 | h1
          · exact .inl h1
          · right
            have h2 : ¬ listed.getD e.on true = false := fun h3 => by
              have h4 := (hlist e.on (by omega)).1 h3
              simp only [List.map_cons, List.pairwise_cons] at hpw
              rcases List.mem_cons.1 (show e.on ∈ x.i :: L'.map (·.i) from h4) with h5 | h5
              · omega
              · have := hpw.1 e.on h5; omega
            have h3 : listed.getD e.on false = listed.getD e.on true := by
              simp only [Array.getD_eq_getD_getElem?]
              rw [Array.getElem?_eq_getElem (by omega)]; rfl
            rw [h3]; simpa using h2
        rw [he] at this; cases this
    match n, hn with
    | 0, hn =>
      have hL : L = [] := List.eq_nil_of_length_eq_zero hn
      subst hL
      cases hc
      refine ⟨?_, hQ G a w hs⟩
      cases hr : Region.ready .any ops listed with
      | nil => rfl
      | cons i r =>
        obtain ⟨l1, x, l2, e, _⟩ := hready i (by rw [hr]; simp)
        simp at e
    | n + 1, hn =>
      refine ⟨fun he => ?_, fun i hi => ?_⟩
      · have := hnone he; subst this; simp at hn
      · obtain ⟨l1, x, l2, rfl, rfl, hfree⟩ := hready i hi
        obtain ⟨hbg, hf, hok, hch⟩ := bubble hc hfree
        have hx := hnum x (by simp)
        have hlt : x.i < ops.size := (Array.getElem?_eq_some_iff.1 hx).1
        have := hok S ⟨fun _ _ => rfl, fun _ _ => rfl, fun _ => hf, fun _ => rfl⟩ O w0 G K a w hs (wpAny P .any ops Q n (listed.setIfInBounds x.i true)) Q (fun G' a' w' hs' => by
          refine chain_any hQ n (l1 ++ l2) _ _ (by simp at hn ⊢; omega) hch (fun y hy => hnum y (by simp at hy ⊢; rcases hy with hy | hy <;> simp [hy])) (ord_mid hord).2 (fun j hj => ?_) ?_ (by simpa using hsz) (fun y hy => hed y (by simp at hy ⊢; rcases hy with hy | hy <;> simp [hy])) G' a' w' hs'
          · have hp := hpw
            rw [List.map_append, List.map_cons, List.pairwise_append] at hp
            obtain ⟨_, hp2, hp3⟩ := hp
            rw [List.pairwise_cons] at hp2
            by_cases e : j = x.i
            · subst e
              constructor
              · intro h; simp [Array.getD_eq_getD_getElem?, Array.getElem?_setIfInBounds, hsz, hlt] at h
              · intro h
                rw [List.map_append, List.mem_append] at h
                rcases h with h | h
                · have := hp3 _ h x.i (by simp); omega
                · have := hp2.1 _ h; omega
            · have h1 : (listed.setIfInBounds x.i true).getD j true = listed.getD j true := by
                simp [Array.getD_eq_getD_getElem?, Array.getElem?_setIfInBounds, Ne.symm e]
              rw [h1, hlist j hj]
              simp [e]
          · rw [List.map_append, List.map_cons] at hpw
            rw [List.map_append]
            exact hpw.sublist (by simp))
        unfold wpOp
        simp only [hx]
        unfold Run at this
        split at this
        · rw [if_pos ‹_›]; exact .inl this
        · rw [if_neg ‹_›]; exact this
end
end Go.Proofs.Ytlbicmdfdpcdiaa.Vm
