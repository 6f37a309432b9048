-- printed
import Derived.Test.YtlbicmdfdpcdiaaDnPDax0
import Derived.Test.YtlbicmdfdpcdiaaDnPDax18
namespace Go.Proofs.Ytlbicmdfdpcdiaa.PDa
open Go.RowKit Go.Proofs.YtlbicmdfdpcdiaaW.PrintWords Go.Proofs.YtlbicmdfdpcdiaaW.PrintLast Go.Proofs.YtlbicmdfdpcdiaaW.PrintMore
attribute [local go_sem] max2_int min2_int max_two min_two max_three min_three max_four min_four
set_option linter.unusedVariables false
set_option linter.unusedSimpArgs false
namespace SK
structure SWO {α : Type} (lt : α → α → Bool) : Prop where
 asym : ∀ x y, lt x y = true → lt y x = false
 trans : ∀ x y z, lt y x = false → lt z y = false → lt z x = false
section
variable {α : Type} (lt : α → α → Bool)
def mg (A B : List α) : List α := List.merge A B (fun x y => !lt y x)
@[simp] theorem mg_nil_left (B : List α) : mg lt [] B = B := by simp [mg]
@[simp] theorem mg_nil_right (A : List α) : mg lt A [] = A := by simp [mg]
theorem mg_cons (x y : α) (A B : List α) : mg lt (x :: A) (y :: B) = if lt y x = false then x :: mg lt A (y :: B) else y :: mg lt (x :: A) B := by
 unfold mg
 rw [List.cons_merge_cons]
 cases lt y x <;> simp
def srt (L : List α) : Prop := L.Pairwise (fun x y => lt y x = false)
variable {lt}
theorem mg_length (A B : List α) : (mg lt A B).length = A.length + B.length := by unfold mg; exact List.length_merge ..
theorem mg_cut {A2 B2 : List α} : ∀ (A1 B1 : List α), (∀ a ∈ A1, ∀ b ∈ B2, lt b a = false) → (∀ b ∈ B1, ∀ a ∈ A2, lt b a = true) → mg lt (A1 ++ A2) (B1 ++ B2) = mg lt A1 B1 ++ mg lt A2 B2 := by
 intro A1
 induction A1 with
 | nil =>
  intro B1
  induction B1 with
  | nil => intro _ _; simp
  | cons b B1 ih =>
   intro h1 h2
   cases A2 with
   | nil => simp
   | cons a A2 =>
    simp only [List.nil_append, List.cons_append]
    rw [mg_cons, h2 b (by simp) a (by simp)]
    simp only [Bool.true_eq_false, if_false]
    have := ih h1 (fun b hb a ha => h2 b (by simp [hb]) a ha)
    simp only [List.nil_append] at this
    rw [this]
    simp
 | cons a A1 ih =>
  intro B1
  induction B1 with
  | nil =>
   intro h1 h2
   cases B2 with
   | nil => simp
   | cons b B2 =>
    simp only [List.nil_append, List.cons_append]
    rw [mg_cons, h1 a (by simp) b (by simp), if_pos rfl]
    have := ih [] (fun a ha b hb => h1 a (by simp [ha]) b hb) h2
    simp only [List.nil_append] at this
    rw [this]
    simp
  | cons b B1 ihb =>
   intro h1 h2
   simp only [List.cons_append]
   rw [mg_cons, mg_cons]
   split
   ·have := ih (b :: B1) (fun a ha b hb => h1 a (by simp [ha]) b hb) h2
    simp only [List.cons_append] at this
    rw [this]; rfl
   ·have := ihb h1 (fun b hb a ha => h2 b (by simp [hb]) a ha)
    simp only [List.cons_append] at this
    rw [this]; rfl
theorem mg_srt (H : SWO lt) {A B : List α} (hA : srt lt A) (hB : srt lt B) : srt lt (mg lt A B) := by
 unfold srt mg at *
 have := List.pairwise_merge (le := fun x y => !lt y x) (fun a b c h1 h2 => by
   simp only [Bool.not_eq_eq_eq_not, Bool.not_true] at h1 h2 ⊢
   exact H.trans a b c h1 h2) (fun a b => by
   have := H.asym a b
   revert this
   cases lt a b <;> cases lt b a <;> simp) A B (hA.imp fun h => by simpa using h) (hB.imp fun h => by simpa using h)
 exact this.imp fun h => by simpa using h
theorem mg_assoc (H : SWO lt) : ∀ (A B C : List α), mg lt (mg lt A B) C = mg lt A (mg lt B C) := by
 intro A
 induction A with
 | nil => intro B C; simp
 | cons x A ihA =>
  intro B
  induction B with
  | nil => intro C; simp
  | cons y B ihB =>
   intro C
   induction C with
   | nil => simp
   | cons z C ihC =>
    rw [mg_cons (x := x) (y := y), mg_cons (x := y) (y := z)]
    cases hyx : lt y x
    ·simp only [if_true]
     cases hzx : lt z x
     ·-- x first
      cases hzy : lt z y
      ·simp only [if_true]
       rw [mg_cons, hzx, if_pos rfl, mg_cons, hyx, if_pos rfl, ihA, mg_cons (x := y) (y := z), hzy, if_pos rfl]
      ·simp only [Bool.true_eq_false, if_false]
       rw [mg_cons, hzx, if_pos rfl, mg_cons, hzx, if_pos rfl, ihA, mg_cons (x := y) (y := z), hzy]
       simp
     ·have hzy : lt z y = true := by
       cases h : lt z y
       ·have := H.trans x y z hyx h
        rw [this] at hzx; cases hzx
       ·rfl
      simp only [hzy, Bool.true_eq_false, if_false]
      rw [mg_cons, hzx, mg_cons, hzx]
      simp only [Bool.true_eq_false, if_false]
      rw [← ihC, mg_cons (x := x) (y := y), hyx, if_pos rfl]
    ·simp only [Bool.true_eq_false, if_false]
     cases hzy : lt z y
     ·simp only [if_true]
      rw [mg_cons, hzy, if_pos rfl, mg_cons, hyx]
      simp only [Bool.true_eq_false, if_false]
      rw [ihB]
     ·simp only [Bool.true_eq_false, if_false]
      have hzx : lt z x = true := by
       cases h : lt z x
       ·have h1 := H.asym y x hyx
        have := H.trans y x z h1 h
        rw [this] at hzy; cases hzy
       ·rfl
      rw [mg_cons, hzy, mg_cons, hzx]
      simp only [Bool.true_eq_false, if_false]
      rw [← ihC, mg_cons (x := x) (y := y), hyx]
      simp
variable (lt)
def insR (x : α) : List α → List α
 | [] => [x]
 | y :: A => if lt x y then x :: y :: A else y :: insR x A
def isort (L : List α) : List α := L.foldl (fun acc x => insR lt x acc) []
variable {lt}
theorem insR_mg (x : α) : ∀ A : List α, insR lt x A = mg lt A [x]
 | [] => by simp [insR]
 | y :: A => by
  rw [mg_cons, insR, insR_mg x A]
  cases h : lt x y <;> simp
@[simp] theorem isort_nil : isort lt ([] : List α) = [] := rfl
theorem isort_snoc (L : List α) (x : α) : isort lt (L ++ [x]) = mg lt (isort lt L) [x] := by simp [isort, insR_mg]
theorem insR_map {β : Type} {lt' : β → β → Bool} (f : α → β) (h : ∀ x y, lt' (f x) (f y) = lt x y) (x : α) : ∀ A : List α, insR lt' (f x) (A.map f) = (insR lt x A).map f
 | [] => rfl
 | y :: A => by
  simp only [List.map_cons, insR, h, insR_map f h x A]
  split <;> rfl
theorem isort_map {β : Type} {lt' : β → β → Bool} (f : α → β) (h : ∀ x y, lt' (f x) (f y) = lt x y) (L : List α) : isort lt' (L.map f) = (isort lt L).map f := by
 have key : ∀ (L acc : List α), (L.map f).foldl (fun acc x => insR lt' x acc) (acc.map f) = (L.foldl (fun acc x => insR lt x acc) acc).map f := by
  intro L
  induction L with
  | nil => intro acc; rfl
  | cons x L ih =>
   intro acc
   simp only [List.map_cons, List.foldl_cons]
   rw [insR_map f h, ih]
 exact key L []
theorem list_snoc_ind {p : List α → Prop} (h0 : p []) (h1 : ∀ L x, p L → p (L ++ [x])) : ∀ L, p L := by
 intro L
 generalize hn : L.length = n
 induction n generalizing L with
 | zero => obtain rfl := List.eq_nil_of_length_eq_zero hn; exact h0
 | succ n ih =>
  rcases List.eq_nil_or_concat L with rfl | ⟨L', x, rfl⟩
  ·exact h0
  ·rw [List.concat_eq_append] at hn ⊢
   exact h1 L' x (ih L' (by simpa using hn))
theorem isort_length : ∀ L : List α, (isort lt L).length = L.length := by
 refine list_snoc_ind rfl fun L x ih => ?_
 rw [isort_snoc, mg_length, ih]; simp
theorem isort_srt (H : SWO lt) : ∀ L : List α, srt lt (isort lt L) := by
 refine list_snoc_ind (by simp [srt]) fun L x ih => ?_
 rw [isort_snoc]
 exact mg_srt H ih (by simp [srt])
theorem isort_append (H : SWO lt) (A : List α) : ∀ B : List α, isort lt (A ++ B) = mg lt (isort lt A) (isort lt B) := by
 refine list_snoc_ind (by simp) fun B x ih => ?_
 rw [← List.append_assoc, isort_snoc, ih, isort_snoc, mg_assoc H]
theorem mg_le (A B : List α) (h : ∀ a ∈ A, ∀ b ∈ B, lt b a = false) : mg lt A B = A ++ B := by
 have := mg_cut (A2 := []) (B2 := B) A [] h (by simp)
 simpa using this
variable (lt)
def bsort (bs : Nat) (L : List α) : List α :=
 if h : bs = 0 ∨ L = [] then [] else isort lt (L.take bs) ++ bsort bs (L.drop bs)
termination_by L.length
decreasing_by
 have : L.length ≠ 0 := fun e => h (.inr (List.eq_nil_of_length_eq_zero e))
 rw [List.length_drop]; omega
variable {lt}
theorem bsort_nil (bs : Nat) : bsort lt bs ([] : List α) = [] := by unfold bsort; simp
theorem bsort_app (bs : Nat) (h : 0 < bs) (C R : List α) (hC : C.length = bs) : bsort lt bs (C ++ R) = isort lt C ++ bsort lt bs R := by
 conv => lhs; unfold bsort
 rw [dif_neg (by
  intro e
  rcases e with e | e
  ·omega
  ·have h0 := (List.append_eq_nil_iff.1 e).1
   subst h0
   simp at hC; omega)]
 rw [List.take_left' hC, List.drop_left' hC]
theorem bsort_short (bs : Nat) (h : 0 < bs) (R : List α) (hR : R.length ≤ bs) : bsort lt bs R = isort lt R := by
 unfold bsort
 split
 ·rename_i e
  rcases e with e | rfl
  ·omega
  ·rfl
 ·rw [List.take_of_length_le hR, List.drop_eq_nil_of_le hR, bsort_nil, List.append_nil]
theorem bsort_length (bs : Nat) (h : 0 < bs) : ∀ (n : Nat) (L : List α), L.length = n → (bsort lt bs L).length = n := by
 intro n
 induction n using Nat.strongRecOn with
 | _ n ih =>
  intro L hL
  by_cases hs : L.length ≤ bs
  ·rw [bsort_short bs h L hs, isort_length, hL]
  ·have e := bsort_app (lt := lt) bs h (L.take bs) (L.drop bs) (by rw [List.length_take]; omega)
   rw [List.take_append_drop] at e
   rw [e, List.length_append, isort_length, ih (L.drop bs).length (by rw [List.length_drop]; omega) _ rfl, List.length_take, List.length_drop]
   omega
end
end SK
namespace SK
open Go.Shelf Go.Lib
theorem rblk_set {w : World} {g : Nat} {t : TypeId} {cs : Array Value} (h : w.heap[g]? = some (.cells cs t (0, 0))) (i : Nat) (u : Value) : (w.setCell ⟨g, i, none⟩ u).heap[g]? = some (.cells (cs.setIfInBounds i u) t (0, 0)) := by
 simp [World.setCell, Array.getElem?_modify, h]
theorem rblk_cell {W : World} {blk : Nat} {A X B : List Value} {e : TypeId} (h : W.heap[blk]? = some (.cells (A ++ (X ++ B)).toArray e (0, 0))) (s : Nat) (hs : s = A.length) (j : Nat) (v : Value) (hj : X[j]? = some v) : W.cell? ⟨blk, s + j, none⟩ = some v := by
 subst hs
 have hl := (List.getElem?_eq_some_iff.1 hj).1
 unfold World.cell?
 simp only [h]
 rw [List.getElem?_toArray, List.getElem?_append_right (by omega), Nat.add_sub_cancel_left, List.getElem?_append_left hl, hj]
 simp
theorem rblk_load (P : Program) {W : World} {blk : Nat} {A X B : List Value} {e : TypeId} (h : W.heap[blk]? = some (.cells (A ++ (X ++ B)).toArray e (0, 0))) (s k : Nat) (hs : s = A.length) (hk : X.length = k) :
  Sem.run P (loadCellsFrom ⟨blk, s, none⟩ 0 k #[]) W = .ok X.toArray W := by
 have hl := run_loadCells_list (P := P) (w := W) ⟨blk, s, none⟩ X (fun j v hj => by rw [Addr.add_lit]; exact rblk_cell h s hs j v hj)
 rw [hk] at hl
 simpa [loadCells] using hl
theorem rblk_store (P : Program) {W : World} {blk : Nat} {A X B : List Value} {e : TypeId} (h : W.heap[blk]? = some (.cells (A ++ (X ++ B)).toArray e (0, 0))) (s : Nat) (hs : s = A.length) (Y : List Value) (hY : Y.length = X.length) (h1 : ∀ v ∈ Y, v.oneCell' = true) :
  Sem.run P (storeCells ⟨blk, s, none⟩ Y 0) W = .ok () (W.setCells blk s Y) := by
 have := run_storeCells_cells (P := P) blk s Y 0 W (fun j hj => by
   rw [Nat.add_zero, rblk_cell h s hs j X[j] (List.getElem?_eq_getElem (by omega))]; rfl) (fun j hj => by simp [World.frozen?, h]) h1
 rwa [Nat.add_zero] at this
theorem rblk_stored {blk : Nat} {e : TypeId} : ∀ (Y : List Value) {W : World} {A X B : List Value} (h : W.heap[blk]? = some (.cells (A ++ (X ++ B)).toArray e (0, 0))) (s : Nat) (hs : s = A.length) (hY : Y.length = X.length),
  (W.setCells blk s Y).heap[blk]? = some (.cells (A ++ (Y ++ B)).toArray e (0, 0))
 | [], W, A, X, B, h, s, hs, hY => by
  obtain rfl : X = [] := List.eq_nil_of_length_eq_zero hY.symm
  exact h
 | y :: Y, W, A, X, B, h, s, hs, hY => by
  cases X with
  | nil => simp at hY
  | cons x X =>
   have h2 := rblk_set h s y
   have e1 : (A ++ (x :: X ++ B)).toArray.setIfInBounds s y = ((A ++ [y]) ++ (X ++ B)).toArray := by
    subst hs
    simp [List.set_append]
   rw [e1] at h2
   have := rblk_stored Y h2 (s + 1) (by simp [hs]) (by simpa using hY)
   rw [World.setCells]
   rw [this]
   simp
theorem rblk_other {blk : Nat} : ∀ (Y : List Value) (W : World) (s i : Nat), i ≠ blk → (W.setCells blk s Y).heap[i]? = W.heap[i]?
 | [], _, _, _, _ => rfl
 | y :: Y, W, s, i, h => by
  rw [World.setCells, rblk_other Y _ _ _ h]
  exact Below.heap_setCell W ⟨blk, s, none⟩ y i h
theorem rblk_size {blk : Nat} : ∀ (Y : List Value) (W : World) (s : Nat), (W.setCells blk s Y).heap.size = W.heap.size
 | [], _, _ => rfl
 | y :: Y, W, s => by
  rw [World.setCells, rblk_size Y]
  simp [World.setCell]
theorem rblk_rest {blk : Nat} : ∀ (Y : List Value) (W : World) (s : Nat), (W.setCells blk s Y).os = W.os ∧ (W.setCells blk s Y).tape = W.tape ∧ (W.setCells blk s Y).output = W.output
 | [], _, _ => ⟨rfl, rfl, rfl⟩
 | y :: Y, W, s => by
  rw [World.setCells]
  exact rblk_rest Y _ _
structure SWB {α : Type} (enc : α → List Value) (blk : Nat) (e : TypeId) (tail : List Value) (w0 : World) (L : List α) (W : World) : Prop where
 row : W.heap[blk]? = some (.cells (L.flatMap enc ++ tail).toArray e (0, 0))
 grown : w0.grownBy W (some blk)
theorem gtrans {a b c : World} {row : Option Nat} (h : a.grownBy b row) (k : b.grownBy c row) : a.grownBy c row :=
 ⟨k.os.trans h.os, k.tape.trans h.tape, k.output.trans h.output, Nat.le_trans h.size k.size, fun i hi hr => (k.block i (Nat.lt_of_lt_of_le hi h.size) hr).trans (h.block i hi hr)⟩
section
variable {α : Type} {enc : α → List Value} {k blk : Nat} {e : TypeId} {tail : List Value} {w0 W W' : World} {L : List α}
theorem flat_len (hk : ∀ x, (enc x).length = k) : ∀ L : List α, (L.flatMap enc).length = L.length * k
 | [] => by simp
 | x :: L => by rw [List.flatMap_cons, List.length_append, flat_len hk L, hk, List.length_cons, Nat.add_mul, Nat.one_mul, Nat.add_comm]
theorem SWB.below (h : SWB enc blk e tail w0 L W) (hb : Below W.heap.size W W') : SWB enc blk e tail w0 L W' :=
 ⟨(hb.block blk (Array.getElem?_eq_some_iff.1 h.row).1).trans h.row, gtrans h.grown ⟨hb.os, hb.tape, hb.output, hb.size, fun i hi _ => hb.block i hi⟩⟩
theorem SWB.drew (h : SWB enc blk e tail w0 L W) : SWB enc blk e tail w0 L W.drew := h.below ((Below.refl _ _).drew)
theorem cut1 (p : List α) (x : α) (r : List α) (tail : List Value) : (p ++ x :: r).flatMap enc ++ tail = p.flatMap enc ++ (enc x ++ (r.flatMap enc ++ tail)) := by simp
theorem SWB.load (h : SWB enc blk e tail w0 L W) (P : Program) (hk : ∀ x, (enc x).length = k) {off i : Nat} (ho : off = 0) {p r : List α} {x : α} (hL : L = p ++ x :: r) (hi : i = p.length) :
  Sem.run P (loadCellsFrom ⟨blk, off + i * k, none⟩ 0 k #[]) W = .ok (enc x).toArray W := by
 have hr := h.row
 rw [hL, cut1] at hr
 exact rblk_load P hr _ k (by rw [ho, hi, flat_len hk]; omega) (hk x)
theorem SWB.store (h : SWB enc blk e tail w0 L W) (P : Program) (hk : ∀ x, (enc x).length = k) (h1 : ∀ x, ∀ v ∈ enc x, v.oneCell' = true) {off i : Nat} (ho : off = 0) {p r : List α} {x : α} (y : α) (hL : L = p ++ x :: r) (hi : i = p.length) :
  Sem.run P (storeCells ⟨blk, off + i * k, none⟩ (enc y) 0) W = .ok () (W.setCells blk (off + i * k) (enc y)) ∧ SWB enc blk e tail w0 (p ++ y :: r) (W.setCells blk (off + i * k) (enc y)) := by
 have hr := h.row
 rw [hL, cut1] at hr
 have hs : off + i * k = (p.flatMap enc).length := by rw [ho, hi, flat_len hk]; omega
 refine ⟨rblk_store P hr _ hs (enc y) (by rw [hk, hk]) (h1 y), ⟨by rw [rblk_stored (enc y) hr _ hs (by rw [hk, hk]), cut1], ?_⟩⟩
 obtain ⟨r1, r2, r3⟩ := rblk_rest (blk := blk) (enc y) W (off + i * k)
 exact gtrans h.grown ⟨r1, r2, r3, Nat.le_of_eq (rblk_size _ _ _).symm, fun j _ hj => rblk_other _ _ _ _ (fun e => hj (by rw [e]))⟩
end
end SK
namespace SK
open Go.Shelf Go.Lib
structure TF (P : Program) (k : Nat) : Prop where
 mixed : P.follows .mixedOrders = true
 t0 : P.underlying 0 = some (TypeDesc.tuple #[])
 a0 : ∀ w, (isAgg 0).run P w = .ok false w
 z0 : ∀ w, (Go.sizeOf 0).run P w = .ok 1 w
 v0 : ∀ w, (zeroValue 0).run P w = .ok (Value.tuple #[]) w
 t3 : P.underlying 3 = some (TypeDesc.int IntKind.i64)
 a3 : ∀ w, (isAgg 3).run P w = .ok false w
 z3 : ∀ w, (Go.sizeOf 3).run P w = .ok 1 w
 v3 : ∀ w, (zeroValue 3).run P w = .ok (Value.int IntKind.i64 0) w
 t4 : P.underlying 4 = some (TypeDesc.bool)
 a4 : ∀ w, (isAgg 4).run P w = .ok false w
 z4 : ∀ w, (Go.sizeOf 4).run P w = .ok 1 w
 v4 : ∀ w, (zeroValue 4).run P w = .ok (Value.bool false) w
 tS : P.underlying 23 = some (TypeDesc.slice 38)
 aS : ∀ w, (isAgg 23).run P w = .ok false w
 zS : ∀ w, (Go.sizeOf 23).run P w = .ok 1 w
 vS : ∀ w, (zeroValue 23).run P w = .ok (Value.slice none 0 0) w
 tU : P.underlying 124 = some (TypeDesc.int IntKind.u64)
 aU : ∀ w, (isAgg 124).run P w = .ok false w
 zU : ∀ w, (Go.sizeOf 124).run P w = .ok 1 w
 vU : ∀ w, (zeroValue 124).run P w = .ok (Value.int IntKind.u64 0) w
 tC : P.underlying 31 = some (TypeDesc.func #[38, 38] #[3] false)
 aC : ∀ w, (isAgg 31).run P w = .ok false w
 zC : ∀ w, (Go.sizeOf 31).run P w = .ok 1 w
 vC : ∀ w, (zeroValue 31).run P w = .ok (Value.nilFunc) w
 aE : ∀ w, (isAgg 38).run P w = .ok true w
 zE : ∀ w, (Go.sizeOf 38).run P w = .ok k w
theorem tf : TF Try.prog 9 := by
 constructor
 all_goals first | kernel_rfl | (intro w; go_simp; done) | (intro w; go_simp; rfl)
variable {P : Program} {α : Type}
set_option maxHeartbeats 4000000 in
set_option maxRecDepth 1000000 in
theorem swapRange_calls (k : Nat) (T : TF P k) (FG : P.funcs[83]? = some Try.f83) (enc : α → List Value) (hk : ∀ x, (enc x).length = k) (h1 : ∀ x, ∀ v ∈ enc x, v.oneCell' = true)
  (blk off cap a b n N : Nat) (ho : off = 0) (g : Nat) (tail : List Value) (w0 w : World) (pre X mid Z post : List α)
  (S : SWB enc blk 38 tail w0 (pre ++ (X ++ (mid ++ (Z ++ post)))) w) (hX : X.length = n) (hZ : Z.length = n) (ha : a = pre.length) (hb : b = pre.length + n + mid.length) (hN : N = pre.length + (n + (mid.length + (n + post.length)))) (hsz : N < 4611686018427387904) :
  Calls P 83 #[.slice (some ⟨blk, off, none⟩) N cap, .int .i64 a, .int .i64 b, .int .i64 n, .func (.func g) #[] #[]] w fun e w' => e = .returned (.tuple #[]) ∧ SWB enc blk 38 tail w0 (pre ++ (Z ++ (mid ++ (X ++ post)))) w' := by
 have mixed := T.mixed; have t0 := T.t0; have a0 := T.a0; have z0 := T.z0; have v0 := T.v0; have t3 := T.t3; have a3 := T.a3; have z3 := T.z3; have v3 := T.v3; have t4 := T.t4; have a4 := T.a4; have z4 := T.z4; have v4 := T.v4; have tS := T.tS; have aS := T.aS; have zS := T.zS; have vS := T.vS; have tC := T.tC; have aC := T.aC; have zC := T.zC; have vC := T.vC; have aE := T.aE; have zE := T.zE
 have HK : Hid (∀ x, (enc x).length = k) := hk
 have H1 : Hid (∀ x, ∀ v ∈ enc x, v.oneCell' = true) := h1
 have S0 : Aside (SWB enc blk 38 tail w0 (pre ++ (X ++ (mid ++ (Z ++ post)))) w) := S
 have HA : Hid (a = pre.length ∧ b = pre.length + n + mid.length ∧ N = pre.length + (n + (mid.length + (n + post.length))) ∧ X.length = n ∧ Z.length = n ∧ off = 0) := ⟨ha, hb, hN, hX, hZ, ho⟩
 have haN : a + n ≤ N := by omega
 have hbN : b + n ≤ N := by omega
 clear S hk h1 ha hb hN hX hZ ho
 go_enter FG, Try.ntmps83
 go_wp2
 go_loopg [10] n (fun kx s wr => ∃ (i : Nat), s = .int .i64 i ∧ i ≤ n ∧ n - i ≤ kx ∧ Aside (SWB enc blk 38 tail w0 (pre ++ (Z.take i ++ (X.drop i ++ (mid ++ (X.take i ++ (Z.drop i ++ post)))))) wr))
 case atStart => exact ⟨0, rfl, by omega, by omega, by simpa using S0⟩
 case round =>
  clear S0
  obtain ⟨i, rfl, hin, hkx, S1⟩ := hrel
  by_cases hlt : i < n
  ·have hltz : (i : Int) < (n : Int) := by omega
   go_wp2_with fail
   obtain ⟨hA, hB, hN, hX, hZ, hO⟩ := HA.out
   have ea : ((a : Int) + (i : Int)).toNat = a + i := by omega
   have pa : (0 : Int) ≤ (a : Int) + (i : Int) := by omega
   have ba : (a : Int) + (i : Int) < (N : Int) := by omega
   have ra : IntKind.i64.wrap ((a : Int) + (i : Int)) = (a : Int) + (i : Int) := by rw [IntKind.wrap_i64]; omega
   have ec : ((b : Int) + (i : Int)).toNat = b + i := by omega
   have pc : (0 : Int) ≤ (b : Int) + (i : Int) := by omega
   have bc : (b : Int) + (i : Int) < (N : Int) := by omega
   have rc : IntKind.i64.wrap ((b : Int) + (i : Int)) = (b : Int) + (i : Int) := by rw [IntKind.wrap_i64]; omega
   have hx : X.drop i = X[i]'(by omega) :: X.drop (i + 1) := List.drop_eq_getElem_cons (by omega)
   have hz : Z.drop i = Z[i]'(by omega) :: Z.drop (i + 1) := List.drop_eq_getElem_cons (by omega)
   obtain ⟨x, hx'⟩ : ∃ x, X[i]'(by omega) = x := ⟨_, rfl⟩
   obtain ⟨z, hz'⟩ : ∃ z, Z[i]'(by omega) = z := ⟨_, rfl⟩
   have tx : X.take (i + 1) = X.take i ++ [x] := by rw [List.take_succ_eq_append_getElem (by omega), hx']
   have tz : Z.take (i + 1) = Z.take i ++ [z] := by rw [List.take_succ_eq_append_getElem (by omega), hz']
   rw [hx'] at hx
   rw [hz'] at hz
   have S2 := S1
   rw [hx, hz] at S2
   have SD := S2.drew
   have l1 := SD.load P HK.out hO (i := a + i) (p := pre ++ Z.take i) (x := x) (r := X.drop (i + 1) ++ (mid ++ (X.take i ++ (z :: Z.drop (i + 1) ++ post)))) (by simp) (by simp; omega)
   have l2 := SD.load P HK.out hO (i := b + i) (p := pre ++ (Z.take i ++ (x :: (X.drop (i + 1) ++ (mid ++ X.take i))))) (x := z) (r := Z.drop (i + 1) ++ post) (by simp) (by simp; omega)
   obtain ⟨s1, S3⟩ := SD.store P HK.out H1.out hO (i := a + i) (p := pre ++ Z.take i) (x := x) (r := X.drop (i + 1) ++ (mid ++ (X.take i ++ (z :: Z.drop (i + 1) ++ post)))) z (by simp) (by simp; omega)
   obtain ⟨s2, S4⟩ := S3.store P HK.out H1.out hO (i := b + i) (p := pre ++ (Z.take i ++ (z :: (X.drop (i + 1) ++ (mid ++ X.take i))))) (x := z) (r := Z.drop (i + 1) ++ post) x (by simp) (by simp; omega)
   have S5 : Aside (SWB enc blk 38 tail w0 (pre ++ (Z.take (i + 1) ++ (X.drop (i + 1) ++ (mid ++ (X.take (i + 1) ++ (Z.drop (i + 1) ++ post)))))) ((wr.drew.setCells blk (off + (a + i) * k) (enc z)).setCells blk (off + (b + i) * k) (enc x))) := by
    show SWB _ _ _ _ _ _ _
    rw [tx, tz]; simpa using S4
   have n1 : (enc x).length = k := HK.out _
   have n2 : (enc z).length = k := HK.out _
   clear S1 S2 SD S3 S4 tx tz hx hz hx' hz' hA hB hN hX hZ hO
   generalize enc x = cX at S5 l1 s2 n1
   generalize enc z = cZ at S5 l2 s1 s2 n2
   go_big_region_o
   clear l1 l2 s1 s2
   generalize (wr.drew.setCells blk (off + (a + i) * k) cZ).setCells blk (off + (b + i) * k) cX = w2 at S5 ⊢
   go_wp2
   go_roundg (n - (i + 1))
   case measure => omega
   case rel => exact ⟨i + 1, by go_num, by omega, Nat.le_refl _, S5⟩
  ·have hltz : ¬ (i : Int) < (n : Int) := by omega
   go_wp2
   go_end0
   refine ⟨rfl, ?_⟩
   obtain rfl : i = n := by omega
   have this : SWB enc blk 38 tail w0 _ wr := S1
   rw [List.take_of_length_le (by rw [HA.out.2.2.2.2.1]; exact Nat.le_refl _), List.take_of_length_le (by rw [HA.out.2.2.2.1]; exact Nat.le_refl _), List.drop_eq_nil_of_le (by rw [HA.out.2.2.2.1]; exact Nat.le_refl _), List.drop_eq_nil_of_le (by rw [HA.out.2.2.2.2.1]; exact Nat.le_refl _)] at this
   simpa using this
end SK
namespace SK
open Go.Shelf Go.Lib
variable {P : Program} {α : Type}
theorem enters_k {f : FuncId} {fn : Func} (hf : P.funcs[f]? = some fn) (hname : (fn.name == "runtime.NumGoroutine") = false) (hb : fn.body.isSome = true) (args : Array Value) (w : World) : (callFunc f args).run P w = .ok (.enter f args) w := by
 have h1 : fn.name ≠ "runtime.NumGoroutine" := by simpa using hname
 obtain ⟨c, hc⟩ := Option.isSome_iff_exists.1 hb
 simp [callFunc, hf, h1, hc]
structure AsideK (p : Prop) : Prop where mk :: (out : p)
set_option maxHeartbeats 4000000 in
set_option maxRecDepth 1000000 in
theorem rotate_calls (k : Nat) (T : TF P k) (FG : P.funcs[77]? = some Try.f77) (FS : P.funcs[83]? = some Try.f83) (enc : α → List Value) (hk : ∀ x, (enc x).length = k) (h1 : ∀ x, ∀ v ∈ enc x, v.oneCell' = true)
  (blk off cap a m b N : Nat) (ho : off = 0) (g : Nat) (tail : List Value) (w0 w : World) (pre U V post : List α)
  (S : SWB enc blk 38 tail w0 (pre ++ (U ++ (V ++ post))) w) (hU : 0 < U.length) (hV : 0 < V.length) (ha : a = pre.length) (hm : m = pre.length + U.length) (hb : b = pre.length + (U.length + V.length)) (hN : N = pre.length + (U.length + (V.length + post.length))) (hsz : N < 4611686018427387904) :
  Calls P 77 #[.slice (some ⟨blk, off, none⟩) N cap, .int .i64 a, .int .i64 m, .int .i64 b, .func (.func g) #[] #[]] w fun e w' => e = .returned (.tuple #[]) ∧ SWB enc blk 38 tail w0 (pre ++ (V ++ (U ++ post))) w' := by
 have mixed := T.mixed; have t0 := T.t0; have a0 := T.a0; have z0 := T.z0; have v0 := T.v0; have t3 := T.t3; have a3 := T.a3; have z3 := T.z3; have v3 := T.v3; have t4 := T.t4; have a4 := T.a4; have z4 := T.z4; have v4 := T.v4; have tS := T.tS; have aS := T.aS; have zS := T.zS; have vS := T.vS; have tC := T.tC; have aC := T.aC; have zC := T.zC; have vC := T.vC; have aE := T.aE; have zE := T.zE
 have SW : ∀ (w : World) (za zb zn : Int) (aa bb nn : Nat) (pre X mid Z post : List α), za = aa → zb = bb → zn = nn → SWB enc blk 38 tail w0 (pre ++ (X ++ (mid ++ (Z ++ post)))) w → X.length = nn → Z.length = nn → aa = pre.length → bb = pre.length + nn + mid.length → N = pre.length + (nn + (mid.length + (nn + post.length))) →
   Calls P 83 #[.slice (some ⟨blk, off, none⟩) N cap, .int .i64 za, .int .i64 zb, .int .i64 zn, .func (.func g) #[] #[]] w fun e w' => e = .returned (.tuple #[]) ∧ SWB enc blk 38 tail w0 (pre ++ (Z ++ (mid ++ (X ++ post)))) w' :=
  fun w za zb zn aa bb nn pre X mid Z post e1 e2 e3 S h1' h2 h3 h4 h5 => by
   subst e1 e2 e3
   exact swapRange_calls k T FS enc hk h1 blk off cap aa bb nn N ho g tail w0 w pre X mid Z post S h1' h2 h3 h4 h5 hsz
 have eS : ∀ args w, (callFunc 83 args).run P w = .ok (.enter 83 args) w := enters_k FS (by kernel_rfl) rfl
 have HSW : Aside _ := SW
 have hbv : b ≤ N := by omega
 have S0 : Aside (SWB enc blk 38 tail w0 (pre ++ (U ++ (V ++ post))) w) := S
 have HG : Hid (pre ++ (V ++ (U ++ post)) = pre ++ (V ++ (U ++ post))) := rfl
 have HA : Hid (a = pre.length ∧ m = pre.length + U.length ∧ b = pre.length + (U.length + V.length) ∧ N = pre.length + (U.length + (V.length + post.length)) ∧ 0 < U.length ∧ 0 < V.length) := ⟨ha, hm, hb, hN, hU, hV⟩
 have ham : a < m := by omega
 have hmb : m < b := by omega
 clear S hk h1 ha hb hN hU hV SW hm ho
 go_enter FG, Try.ntmps77
 go_wp2
 go_loopg [10, 11] (m - a + (b - m)) (fun kx s10 s11 wr => ∃ (p1 U1 V1 q1 : List α) (i j : Nat), s10 = .int .i64 i ∧ s11 = .int .i64 j ∧ 0 < i ∧ 0 < j ∧ i ≤ m ∧ m + j ≤ N ∧ i + j ≤ kx ∧ Hid (i = U1.length ∧ j = V1.length ∧ m = p1.length + U1.length ∧ N = p1.length + (U1.length + (V1.length + q1.length)) ∧ pre ++ (V ++ (U ++ post)) = p1 ++ (V1 ++ (U1 ++ q1))) ∧ Aside (SWB enc blk 38 tail w0 (p1 ++ (U1 ++ (V1 ++ q1))) wr))
 case atStart =>
  obtain ⟨hA, hM, hB, hN, hU, hV⟩ := HA.out
  exact ⟨pre, U, V, post, U.length, V.length, by congr 1; omega, by congr 1; omega, hU, hV, by omega, by omega, by omega, ⟨rfl, rfl, hM, hN, rfl⟩, S0⟩
 case round =>
  clear S0
  obtain ⟨p1, U1, V1, q1, i, j, rfl, rfl, hi0, hj0, him, hjN, hkx, HI, S1⟩ := hrel
  by_cases hij : i = j
  ·subst hij
   go_wp2_with (go_at_fn 83; refine (HSW.out _ _ _ _ (m - i) m i p1 U1 [] V1 q1 (by omega) rfl rfl S1 HI.out.1.symm HI.out.2.1.symm (by have := HI.out; omega) (by have := HI.out; simp; omega) (by have := HI.out; simp; omega)).mono ?_; rintro e w' ⟨rfl, S2⟩)
   go_end0
   refine ⟨rfl, ?_⟩
   have e := HI.out.2.2.2.2
   simp only [List.nil_append] at S2
   rw [e]
   exact S2
  ·have hij' : ¬ (i : Int) = (j : Int) := by omega
   by_cases hgt : j < i
   ·have hgtz : (j : Int) < (i : Int) := by omega
    have S2 : Aside (SWB enc blk 38 tail w0 (p1 ++ (U1.take j ++ (U1.drop j ++ (V1 ++ q1)))) wr) := by
     have e_ : U1.take j ++ (U1.drop j ++ (V1 ++ q1)) = U1 ++ (V1 ++ q1) := by rw [← List.append_assoc, List.take_append_drop]
     rw [e_]; exact S1
    go_wp2_with (go_at_fn 83; refine (HSW.out _ _ _ _ (m - i) m j p1 (U1.take j) (U1.drop j) V1 q1 (by omega) rfl rfl S2 (by have := HI.out; rw [List.length_take]; omega) HI.out.2.1.symm (by have := HI.out; omega) (by have := HI.out; rw [List.length_drop]; omega) (by have := HI.out; rw [List.length_drop]; omega)).mono ?_; rintro e w' ⟨rfl, S3⟩; have S4 := AsideK.mk S3; clear S3)
    go_roundg (i - j + j)
    case measure => omega
    case rel =>
     obtain ⟨h1, h2, h3, h4, h5⟩ := HI.out
     refine ⟨p1 ++ V1, U1.drop j, U1.take j, q1, i - j, j, by congr 1; omega, rfl, by omega, by omega, by omega, by omega, by omega, ⟨?_, ?_, ?_, ?_, ?_⟩, ?_⟩
     ·rw [List.length_drop]; omega
     ·rw [List.length_take]; omega
     ·rw [List.length_drop, List.length_append]; omega
     ·rw [List.length_drop, List.length_take, List.length_append]; omega
     ·rw [h5]
      have e_ : U1.take j ++ (U1.drop j ++ q1) = U1 ++ q1 := by rw [← List.append_assoc, List.take_append_drop]
      rw [← e_]; simp only [List.append_assoc]
     ·have := S4.out
      (try simp only [List.append_assoc] at this ⊢)
      exact this
   ·have hgtz : (i : Int) < (j : Int) := by omega
    have hgtz' : ¬ (j : Int) < (i : Int) := by omega
    have S2 : Aside (SWB enc blk 38 tail w0 (p1 ++ (U1 ++ (V1.take (j - i) ++ (V1.drop (j - i) ++ q1)))) wr) := by
     have e_ : V1.take (j - i) ++ (V1.drop (j - i) ++ q1) = V1 ++ q1 := by rw [← List.append_assoc, List.take_append_drop]
     rw [e_]; exact S1
    go_wp2_with (go_at_fn 83; refine (HSW.out _ _ _ _ (m - i) (m + j - i) i p1 U1 (V1.take (j - i)) (V1.drop (j - i)) q1 (by omega) (by omega) rfl S2 HI.out.1.symm (by have := HI.out; rw [List.length_drop]; omega) (by have := HI.out; omega) (by have := HI.out; rw [List.length_take]; omega) (by have := HI.out; rw [List.length_take]; omega)).mono ?_; rintro e w' ⟨rfl, S3⟩; have S4 := AsideK.mk S3; clear S3)
    go_roundg (i + (j - i))
    case measure => omega
    case rel =>
     obtain ⟨h1, h2, h3, h4, h5⟩ := HI.out
     refine ⟨p1, V1.drop (j - i), V1.take (j - i), U1 ++ q1, i, j - i, rfl, by congr 1; omega, by omega, by omega, by omega, by omega, by omega, ⟨?_, ?_, ?_, ?_, ?_⟩, ?_⟩
     ·rw [List.length_drop]; omega
     ·rw [List.length_take]; omega
     ·rw [List.length_drop]; omega
     ·rw [List.length_drop, List.length_take, List.length_append]; omega
     ·rw [h5]
      have e_ : V1.take (j - i) ++ (V1.drop (j - i) ++ (U1 ++ q1)) = V1 ++ (U1 ++ q1) := by rw [← List.append_assoc, List.take_append_drop]
      rw [← e_]
     ·have := S4.out
      (try simp only [List.append_assoc] at this ⊢)
      exact this
end SK
end Go.Proofs.Ytlbicmdfdpcdiaa.PDa
