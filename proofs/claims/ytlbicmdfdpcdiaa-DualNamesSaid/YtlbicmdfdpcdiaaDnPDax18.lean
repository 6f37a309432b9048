-- printed
import Derived.Test.YtlbicmdfdpcdiaaDnPDax0
import Derived.Test.YtlbicmdfdpcdiaaDnPDax17
namespace Go.Proofs.Ytlbicmdfdpcdiaa.PDa
open Go.RowKit Go.Proofs.YtlbicmdfdpcdiaaW.PrintWords Go.Proofs.YtlbicmdfdpcdiaaW.PrintLast Go.Proofs.YtlbicmdfdpcdiaaW.PrintMore
attribute [local go_sem] max2_int min2_int max_two min_two max_three min_three max_four min_four
set_option linter.unusedVariables false
set_option linter.unusedSimpArgs false
def dual_worth_above.f (a0_0 : Int) (a0_1 : Int) (a1_0 : Int) (a1_1 : Int) : Option (Bool) := if a0_0 > a1_0 then (some true) else (if a0_0 = a1_0 then (some (decide (a0_1 > a1_1))) else (some false))
set_option maxHeartbeats 8000000 in
set_option maxRecDepth 100000 in
theorem dual_worth_above.calls (a0_0 : Int) (a0_1 : Int) (a1_0 : Int) (a1_1 : Int) (r : Bool) (w : World) (h : dual_worth_above.f a0_0 a0_1 a1_0 a1_1 = some r) :
  Calls Try.prog 34 #[.agg #[.int .i64 a0_0, .int .i64 a0_1], .agg #[.int .i64 a1_0, .int .i64 a1_1]] w fun e w' => e = .returned (.bool r) ∧ Below w.heap.size w w' := by
 have hu71 := Try.underlying71
 have HB := Aside0.mk (Below.refl w.heap.size w)
 have H : (if a0_0 > a1_0 then (some true) else (if a0_0 = a1_0 then (some (decide (a0_1 > a1_1))) else (some false))) = some r := h
 clear h
 by_cases c3 : a0_0 > a1_0 <;> first
 |(rw [if_pos c3] at H
   have c3b0 : decide (a1_0 < a0_0) = true := decide_eq_true c3
   clear c3
   obtain rfl := Option.some.inj H)
 |(rw [if_neg c3] at H
   have c3b0 : decide (a1_0 < a0_0) = false := decide_eq_false c3
   clear c3
   by_cases c9 : a0_0 = a1_0 <;> first
   |(rw [if_pos c9] at H
     have c9b0 : (a0_0 == a1_0) = true := beq_iff_eq.mpr c9
     have c9b1 : (a0_0 != a1_0) = false := bne_eq_false_iff_eq.mpr c9
     clear c9
     obtain rfl := Option.some.inj H)
   |(rw [if_neg c9] at H
     have c9b0 : (a0_0 == a1_0) = false := beq_eq_false_iff_ne.mpr c9
     have c9b1 : (a0_0 != a1_0) = true := bne_iff_ne.mpr c9
     obtain rfl := Option.some.inj H))
 all_goals
  go_enter Try.func34, Try.ntmps34
  go_wp2_with (first | ((with_reducible refine gate_dst (N := 2) rfl ?_); refine box_event (by rfl) (N := 2) (by rfl) (cs := #[.int .i64 a0_0, .int .i64 a0_1]) (t := 71) (by first | (go_simp; done) | (go_simp; rfl)) ?_; intro gb323 hg w10 hbox hb; obtain ⟨hb_, hw_⟩ := box_facts (lA HB.out) hg hb; replace HB := Aside0.mk (hb_); have BK323 := Aside0.mk (hbox); have GW323 := Aside0.mk (hw_); have GE323 := Aside0.mk (hw_); clear hb hbox hg hb_ hw_) | ((with_reducible refine gate_dst (N := 3) rfl ?_); refine box_event (by rfl) (N := 3) (by rfl) (cs := #[.int .i64 a1_0, .int .i64 a1_1]) (t := 71) (by first | (go_simp; done) | (go_simp; rfl)) ?_; intro gb324 hg w11 hbox hb; obtain ⟨hb_, hw_⟩ := box_facts (by repeat (first | (with_reducible first | exact HB.out | apply l1 | apply l2 | apply l3 | refine below_set ?_ GE323.out) | exact HB.out)) hg hb; replace HB := Aside0.mk (hb_); have BK324 := Aside0.mk (hbox); have GW324 := Aside0.mk (hw_); have GE324 := Aside0.mk (hw_); have NB323_324 := Aside0.mk ((nL hg BK323.out)); have NB324_323 := Aside0.mk ((nG hg BK323.out)); replace BK323 := Aside0.mk (bB BK323.out hb); clear hb hbox hg hb_ hw_; have hnb12 := NB323_324.out; have hnc12 := NB324_323.out; obtain ⟨hcz13_0, hcz13_1, hfz13_0, hfz13_1⟩ := blk_cells2 BK323.out; obtain ⟨hcz14_0, hcz14_1, hfz14_0, hfz14_1⟩ := blk_cells2 BK324.out))
  go_ret
  exact ⟨by first | rfl | (simp [errW_none, errW_some] <;> rfl) | (simp [*, errW_none, errW_some] <;> rfl), by repeat (first | (with_reducible first | exact HB.out | apply l1 | apply l2 | apply l3 | refine below_set ?_ GE323.out | refine below_set ?_ GE324.out) | exact HB.out)⟩
namespace BP
def val (p : Int × Int) : Int := p.1 * 8192 + p.2
def above (a b : Int × Int) : Bool := decide (a.1 > b.1) || (decide (a.1 = b.1) && decide (a.2 > b.2))
def plus (o : Int × Int) (s : Int) : Int × Int := (wrap64 (o.1 + s), wrap64 (o.2 + 1))
def cell (a b c : Int × Int) (s : Int) : Int × Int :=
 let w1 := if above b a = true then b else a
 if s > 0 then (if above (plus c s) w1 = true then plus c s else w1) else w1
structure Tab (n m : Nat) (sh : Nat → Nat → Int) (W : Nat → Nat → Int × Int) : Prop where
 hn : n ≤ 4096
 sh_le : ∀ i j, i < n → j < m → sh i j ≤ 400000000
 last : ∀ j, j ≤ m → W n j = (0, 0)
 side : ∀ i, i ≤ n → W i m = (0, 0)
 step : ∀ i j, i < n → j < m → W i j = cell (W (i + 1) j) (W i (j + 1)) (W (i + 1) (j + 1)) (sh i j)
section
variable {n m : Nat} {sh : Nat → Nat → Int} {W : Nat → Nat → Int × Int}
def V (W : Nat → Nat → Int × Int) (i j : Nat) : Int := val (W i j)
end
end BP
namespace BP
section
variable (sh : Nat → Nat → Int) (W : Nat → Nat → Int × Int)
def hit (want : Int × Int) (p q : Nat) : Bool := decide (0 < sh p q) && decide (plus (W (p + 1) (q + 1)) (sh p q) = want)
def findQ (want : Int × Int) (p : Nat) : Nat → Nat → Option Nat
 | 0, _ => none
 | r + 1, q => if hit sh W want p q = true then some q else findQ want p r (q + 1)
def findP (m : Nat) (want : Int × Int) (j : Nat) : Nat → Nat → Option (Nat × Nat)
 | 0, _ => none
 | r + 1, p => match findQ sh W want p (m - j) j with
  | some q => some (p, q)
  | none => findP m want j r (p + 1)
def rowL (n m : Nat) : Nat → Nat → Nat → Option (List (Nat × Nat))
 | 0, _, _ => none
 | k + 1, i, j => if W i j = (0, 0) then some [] else match findP sh W m (W i j) j (n - i) i with
  | none => none
  | some pq => (rowL n m k (pq.1 + 1) (pq.2 + 1)).map (fun L => pq :: L)
end
section
variable {n m : Nat} {sh : Nat → Nat → Int} {W : Nat → Nat → Int × Int} {want : Int × Int}
theorem findQ_some {p : Nat} : ∀ {r q x : Nat}, findQ sh W want p r q = some x → q ≤ x ∧ x < q + r ∧ hit sh W want p x = true ∧ ∀ y, q ≤ y → y < x → hit sh W want p y = false
 | 0, q, x, h => by simp [findQ] at h
 | r + 1, q, x, h => by
  unfold findQ at h
  by_cases c : hit sh W want p q = true
  ·rw [if_pos c] at h
   obtain rfl := Option.some.inj h
   exact ⟨Nat.le_refl _, by omega, c, fun y h1 h2 => by omega⟩
  ·rw [if_neg c] at h
   obtain ⟨a1, a2, a3, a4⟩ := findQ_some h
   refine ⟨by omega, by omega, a3, fun y h1 h2 => ?_⟩
   by_cases e : y = q
   ·subst e; simpa using c
   ·exact a4 y (by omega) h2
theorem findQ_none {p : Nat} : ∀ {r q : Nat}, findQ sh W want p r q = none → ∀ y, q ≤ y → y < q + r → hit sh W want p y = false
 | 0, q, _, y, h1, h2 => by omega
 | r + 1, q, h, y, h1, h2 => by
  unfold findQ at h
  by_cases c : hit sh W want p q = true
  ·rw [if_pos c] at h; simp at h
  ·rw [if_neg c] at h
   by_cases e : y = q
   ·subst e; simpa using c
   ·exact findQ_none h y (by omega) (by omega)
theorem findP_some {j : Nat} (hj : j ≤ m) : ∀ {r p : Nat} {x : Nat × Nat}, findP sh W m want j r p = some x → p ≤ x.1 ∧ x.1 < p + r ∧ j ≤ x.2 ∧ x.2 < m ∧ hit sh W want x.1 x.2 = true ∧
  (∀ a b, p ≤ a → a < x.1 → j ≤ b → b < m → hit sh W want a b = false) ∧ ∀ b, j ≤ b → b < x.2 → hit sh W want x.1 b = false
 | 0, p, x, h => by simp [findP] at h
 | r + 1, p, x, h => by
  unfold findP at h
  split at h
  ·rename_i q e
   obtain rfl := Option.some.inj h
   obtain ⟨a1, a2, a3, a4⟩ := findQ_some e
   exact ⟨Nat.le_refl _, by dsimp only; omega, a1, by dsimp only; omega, a3, fun a b h1 h2 => by dsimp only at h2; omega, a4⟩
  ·rename_i e
   obtain ⟨a1, a2, a3, a4, a5, a6, a7⟩ := findP_some hj h
   refine ⟨by omega, by omega, a3, a4, a5, fun a b h1 h2 h3 h4 => ?_, a7⟩
   by_cases e1 : a = p
   ·subst e1; exact findQ_none e b h3 (by omega)
   ·exact a6 a b (by omega) h2 h3 h4
end
section
variable {n m : Nat} {sh : Nat → Nat → Int} {W : Nat → Nat → Int × Int}
end
section
variable {n m : Nat} {sh sh' : Nat → Nat → Int} {W W' : Nat → Nat → Int × Int}
end
end BP
namespace BP
def tabAt (m : Nat) (T : List (Int × Int)) (i j : Nat) : Int × Int := T.getD (i * (m + 1) + j) (0, 0)
def cellV (m : Nat) (sh : Nat → Nat → Int) (T : List (Int × Int)) (i j : Nat) : Int × Int := cell (tabAt m T (i + 1) j) (tabAt m T i (j + 1)) (tabAt m T (i + 1) (j + 1)) (sh i j)
def tabJ (m : Nat) (sh : Nat → Nat → Int) (i : Nat) (T : List (Int × Int)) : Nat → List (Int × Int)
 | 0 => T
 | c + 1 => (tabJ m sh i T c).set (i * (m + 1) + (m - 1 - c)) (cellV m sh (tabJ m sh i T c) i (m - 1 - c))
def tabI (n m : Nat) (sh : Nat → Nat → Int) : Nat → List (Int × Int)
 | 0 => List.replicate ((n + 1) * (m + 1)) (0, 0)
 | c + 1 => tabJ m sh (n - 1 - c) (tabI n m sh c) m
theorem tabJ_length (m : Nat) (sh : Nat → Nat → Int) (i : Nat) (T : List (Int × Int)) : ∀ c, (tabJ m sh i T c).length = T.length
 | 0 => rfl
 | c + 1 => by rw [tabJ, List.length_set, tabJ_length m sh i T c]
theorem tabI_length (n m : Nat) (sh : Nat → Nat → Int) : ∀ c, (tabI n m sh c).length = (n + 1) * (m + 1)
 | 0 => by simp [tabI]
 | c + 1 => by rw [tabI, tabJ_length, tabI_length n m sh c]
theorem place_lt {n m i j : Nat} (hi : i ≤ n) (hj : j ≤ m) : i * (m + 1) + j < (n + 1) * (m + 1) := by
 have := Nat.mul_le_mul_right (m + 1) hi
 rw [Nat.succ_mul]; omega
end BP
namespace SD
open Go.Shelf Go.Lib
theorem dblk_set {w : World} {g : Nat} {t : TypeId} {cs : Array Value} (h : w.heap[g]? = some (.cells cs t (0, 0))) (i : Nat) (u : Value) : (w.setCell ⟨g, i, none⟩ u).heap[g]? = some (.cells (cs.setIfInBounds i u) t (0, 0)) := by
 simp [World.setCell, Array.getElem?_modify, h]
theorem dblk_cell {W : World} {blk : Nat} {A X B : List Value} {e : TypeId} (h : W.heap[blk]? = some (.cells (A ++ (X ++ B)).toArray e (0, 0))) (s : Nat) (hs : s = A.length) (j : Nat) (v : Value) (hj : X[j]? = some v) : W.cell? ⟨blk, s + j, none⟩ = some v := by
 subst hs
 have hl := (List.getElem?_eq_some_iff.1 hj).1
 unfold World.cell?
 simp only [h]
 rw [List.getElem?_toArray, List.getElem?_append_right (by omega), Nat.add_sub_cancel_left, List.getElem?_append_left hl, hj]
 simp
theorem dblk_store (P : Program) {W : World} {blk : Nat} {A X B : List Value} {e : TypeId} (h : W.heap[blk]? = some (.cells (A ++ (X ++ B)).toArray e (0, 0))) (s : Nat) (hs : s = A.length) (Y : List Value) (hY : Y.length = X.length) (h1 : ∀ v ∈ Y, v.oneCell' = true) :
  Sem.run P (storeCells ⟨blk, s, none⟩ Y 0) W = .ok () (W.setCells blk s Y) := by
 have := run_storeCells_cells (P := P) blk s Y 0 W (fun j hj => by
   rw [Nat.add_zero, dblk_cell h s hs j X[j] (List.getElem?_eq_getElem (by omega))]; rfl) (fun j hj => by simp [World.frozen?, h]) h1
 rwa [Nat.add_zero] at this
theorem dblk_stored {blk : Nat} {e : TypeId} : ∀ (Y : List Value) {W : World} {A X B : List Value} (h : W.heap[blk]? = some (.cells (A ++ (X ++ B)).toArray e (0, 0))) (s : Nat) (hs : s = A.length) (hY : Y.length = X.length),
  (W.setCells blk s Y).heap[blk]? = some (.cells (A ++ (Y ++ B)).toArray e (0, 0))
 | [], W, A, X, B, h, s, hs, hY => by
  obtain rfl : X = [] := List.eq_nil_of_length_eq_zero hY.symm
  exact h
 | y :: Y, W, A, X, B, h, s, hs, hY => by
  cases X with
  | nil => simp at hY
  | cons x X =>
   have h2 := dblk_set h s y
   have e1 : (A ++ (x :: X ++ B)).toArray.setIfInBounds s y = ((A ++ [y]) ++ (X ++ B)).toArray := by
    subst hs
    simp [List.set_append]
   rw [e1] at h2
   have := dblk_stored Y h2 (s + 1) (by simp [hs]) (by simpa using hY)
   rw [World.setCells]
   rw [this]
   simp
theorem dblk_other {blk : Nat} : ∀ (Y : List Value) (W : World) (s i : Nat), i ≠ blk → (W.setCells blk s Y).heap[i]? = W.heap[i]?
 | [], _, _, _, _ => rfl
 | y :: Y, W, s, i, h => by
  rw [World.setCells, dblk_other Y _ _ _ h]
  exact Below.heap_setCell W ⟨blk, s, none⟩ y i h
theorem dblk_size {blk : Nat} : ∀ (Y : List Value) (W : World) (s : Nat), (W.setCells blk s Y).heap.size = W.heap.size
 | [], _, _ => rfl
 | y :: Y, W, s => by
  rw [World.setCells, dblk_size Y]
  simp [World.setCell]
theorem dblk_rest {blk : Nat} : ∀ (Y : List Value) (W : World) (s : Nat), (W.setCells blk s Y).os = W.os ∧ (W.setCells blk s Y).tape = W.tape ∧ (W.setCells blk s Y).output = W.output
 | [], _, _ => ⟨rfl, rfl, rfl⟩
 | y :: Y, W, s => by
  rw [World.setCells]
  exact dblk_rest Y _ _
structure DWB {α : Type} (enc : α → List Value) (blk : Nat) (e : TypeId) (tail : List Value) (w0 : World) (L : List α) (W : World) : Prop where
 row : W.heap[blk]? = some (.cells (L.flatMap enc ++ tail).toArray e (0, 0))
 grown : w0.grownBy W (some blk)
theorem dtrans {a b c : World} {row : Option Nat} (h : a.grownBy b row) (k : b.grownBy c row) : a.grownBy c row :=
 ⟨k.os.trans h.os, k.tape.trans h.tape, k.output.trans h.output, Nat.le_trans h.size k.size, fun i hi hr => (k.block i (Nat.lt_of_lt_of_le hi h.size) hr).trans (h.block i hi hr)⟩
section
variable {α : Type} {enc : α → List Value} {k blk : Nat} {e : TypeId} {tail : List Value} {w0 W W' : World} {L : List α}
theorem dflat_len (hk : ∀ x, (enc x).length = k) : ∀ L : List α, (L.flatMap enc).length = L.length * k
 | [] => by simp
 | x :: L => by rw [List.flatMap_cons, List.length_append, dflat_len hk L, hk, List.length_cons, Nat.add_mul, Nat.one_mul, Nat.add_comm]
theorem DWB.below (h : DWB enc blk e tail w0 L W) (hb : Below W.heap.size W W') : DWB enc blk e tail w0 L W' :=
 ⟨(hb.block blk (Array.getElem?_eq_some_iff.1 h.row).1).trans h.row, dtrans h.grown ⟨hb.os, hb.tape, hb.output, hb.size, fun i hi _ => hb.block i hi⟩⟩
theorem DWB.drew (h : DWB enc blk e tail w0 L W) : DWB enc blk e tail w0 L W.drew := h.below ((Below.refl _ _).drew)
theorem dcut1 (p : List α) (x : α) (r : List α) (tail : List Value) : (p ++ x :: r).flatMap enc ++ tail = p.flatMap enc ++ (enc x ++ (r.flatMap enc ++ tail)) := by simp
theorem DWB.store (h : DWB enc blk e tail w0 L W) (P : Program) (hk : ∀ x, (enc x).length = k) (h1 : ∀ x, ∀ v ∈ enc x, v.oneCell' = true) {off i : Nat} (ho : off = 0) {p r : List α} {x : α} (y : α) (hL : L = p ++ x :: r) (hi : i = p.length) :
  Sem.run P (storeCells ⟨blk, off + i * k, none⟩ (enc y) 0) W = .ok () (W.setCells blk (off + i * k) (enc y)) ∧ DWB enc blk e tail w0 (p ++ y :: r) (W.setCells blk (off + i * k) (enc y)) := by
 have hr := h.row
 rw [hL, dcut1] at hr
 have hs : off + i * k = (p.flatMap enc).length := by rw [ho, hi, dflat_len hk]; omega
 refine ⟨dblk_store P hr _ hs (enc y) (by rw [hk, hk]) (h1 y), ⟨by rw [dblk_stored (enc y) hr _ hs (by rw [hk, hk]), dcut1], ?_⟩⟩
 obtain ⟨r1, r2, r3⟩ := dblk_rest (blk := blk) (enc y) W (off + i * k)
 exact dtrans h.grown ⟨r1, r2, r3, Nat.le_of_eq (dblk_size _ _ _).symm, fun j _ hj => dblk_other _ _ _ _ (fun e => hj (by rw [e]))⟩
end
end SD
def shareV (xs ys : List S66) (i j : Nat) : Int := IntKind.i64.wrap (min (xs.getD i z66).f1 (ys.getD j z66).f1 - max (xs.getD i z66).f0 (ys.getD j z66).f0)
theorem base_facts {V W : World} {N : Nat} {T : List (Int × Int)} {cs : Array Value} (S : SD.DWB encW V.heap.size 71 [] ((V.alloc (Obj.cells cs 71)).alloc (Obj.cells #[Value.slice (some ⟨V.heap.size, 0, none⟩) N N] 69)) T W) :
  Below V.heap.size V W ∧ W.heap[V.heap.size + 1]? = some (.cells #[Value.slice (some ⟨V.heap.size, 0, none⟩) N N] 69 (0, 0)) := by
 have g := S.grown
 have hs : ((V.alloc (Obj.cells cs 71)).alloc (Obj.cells #[Value.slice (some ⟨V.heap.size, 0, none⟩) N N] 69)).heap.size = V.heap.size + 2 := by simp
 have hb : Below V.heap.size V ((V.alloc (Obj.cells cs 71)).alloc (Obj.cells #[Value.slice (some ⟨V.heap.size, 0, none⟩) N N] 69)) := below_alloc (below_alloc (Below.refl _ _) _) _
 refine ⟨⟨g.os.trans hb.os, g.tape.trans hb.tape, g.output.trans hb.output, Nat.le_trans hb.size g.size, fun i hi => (g.block i (by omega) (by simp; omega)).trans (hb.block i hi)⟩, ?_⟩
 rw [g.block (V.heap.size + 1) (by omega) (by simp)]
 have := blk_new (V.alloc (Obj.cells cs 71)) (Obj.cells #[Value.slice (some ⟨V.heap.size, 0, none⟩) N N] 69)
 rwa [World.size_alloc] at this
theorem swb_cells {blk : Nat} {T : List (Int × Int)} {w0 W : World} (S : SD.DWB encW blk 71 [] w0 T W) (q : Nat) (hq : q < T.length) :
  W.cell? ⟨blk, q * 2, none⟩ = some (.int .i64 (T.getD q (0, 0)).1) ∧ W.cell? ⟨blk, q * 2 + 1, none⟩ = some (.int .i64 (T.getD q (0, 0)).2) := by
 have hr := S.row
 have hx : T.getD q (0, 0) = T[q] := by simp [List.getD, hq]
 rw [hx]
 have e : T.flatMap encW ++ [] = (T.take q).flatMap encW ++ (encW T[q] ++ ((T.drop (q + 1)).flatMap encW ++ [])) := by
  have h := SD.dcut1 (enc := encW) (T.take q) T[q] (T.drop (q + 1)) []
  rwa [← List.drop_eq_getElem_cons hq, List.take_append_drop] at h
 rw [e] at hr
 have hl : q * 2 = ((T.take q).flatMap encW).length := by rw [SD.dflat_len (enc := encW) (k := 2) (fun _ => rfl), List.length_take]; omega
 exact ⟨SD.dblk_cell hr (q * 2) hl 0 _ rfl, SD.dblk_cell hr (q * 2) hl 1 _ rfl⟩
theorem at_table {V W0 W' : World} {n m N gb : Nat} {T : List (Int × Int)} (S : SD.DWB encW V.heap.size 71 [] W0 T W') (hBF : Below V.heap.size V W' ∧ W'.heap[V.heap.size + 1]? = some (.cells #[Value.slice (some ⟨V.heap.size, 0, none⟩) N N] 69 (0, 0)))
  (h : V.heap[gb]? = some (.cells #[Value.int .i64 (m : Int)] 3 (0, 0))) (hT : T.length = N) (hN : (n + 1) * (m + 1) = N) (hn : n ≤ 4096) (hm : m ≤ 4096) (p q : Nat) (hp : p ≤ n) (hq : q ≤ m) :
  Calls Try.prog 33 #[.int .i64 p, .int .i64 q, .pointer (some ⟨V.heap.size + 1, 0, none⟩), .pointer (some ⟨gb, 0, none⟩)] W' (fun e w' => e = .returned (.pointer (some ⟨V.heap.size, (p * (m + 1) + q) * 2, none⟩)) ∧ w' = W') ∧
   W'.cell? ⟨V.heap.size, (p * (m + 1) + q) * 2, none⟩ = some (.int .i64 (BP.tabAt m T p q).1) ∧ W'.cell? ⟨V.heap.size, (p * (m + 1) + q) * 2 + 1, none⟩ = some (.int .i64 (BP.tabAt m T p q).2) := by
 have h1 : p * (m + 1) ≤ n * (m + 1) := Nat.mul_le_mul_right _ hp
 have h2 : (n + 1) * (m + 1) = n * (m + 1) + (m + 1) := Nat.succ_mul _ _
 have hlt : p * (m + 1) + q < N := by omega
 exact ⟨at_calls p q m N V.heap.size N (V.heap.size + 1) gb W' ((blk_cell hBF.2 0).trans rfl) ((blk_cell (blk_below h hBF.1) 0).trans rfl) (by omega) (by omega) hm hlt, swb_cells S _ (by omega)⟩
theorem above_f (a b : Int × Int) : dual_worth_above.f a.1 a.2 b.1 b.2 = some (BP.above a b) := by
 unfold dual_worth_above.f BP.above
 split
 ·rename_i h; simp [h]
 ·rename_i h
  split
  ·rename_i h2; simp [h2]
  ·rename_i h2; simp [h, h2]
theorem share_table {V W' : World} {bx byy cx cy : Nat} {A B : Option Addr} {xs ys : List S66} (hb : Below V.heap.size V W') (h1 : V.heap[bx]? = some (.cells #[Value.slice A xs.length cx] 64 (0, 0))) (h2 : V.heap[byy]? = some (.cells #[Value.slice B ys.length cy] 64 (0, 0)))
  (r1 : Kd.C k66 V A xs.length xs) (r2 : Kd.C k66 V B ys.length ys) (i j : Nat) (hi : i < xs.length) (hj : j < ys.length) :
  Calls Try.prog 32 #[.int .i64 i, .int .i64 j, .pointer (some ⟨bx, 0, none⟩), .pointer (some ⟨byy, 0, none⟩)] W' fun e w' => e = .returned (.int .i64 (shareV xs ys i j)) ∧ ∃ m, w' = W'.drewN m := by
 have h := share_calls i j bx byy A B xs ys cx cy W' ((blk_cell (blk_below h1 hb) 0).trans rfl) ((blk_cell (blk_below h2 hb) 0).trans rfl) (Kd.C_below r1 hb) (Kd.C_below r2 hb) xs[i] ys[j] (List.getElem?_eq_getElem hi) (List.getElem?_eq_getElem hj)
 unfold shareV
 simp only [List.getD, List.getElem?_eq_getElem hi, List.getElem?_eq_getElem hj, Option.getD_some]
 exact h
def blockOf (n : Nat) : Code → Option Code
 | .block k c => if k = n then some c else blockOf n c
 | .seq a b => match blockOf n a with
  | some c => some c
  | none => blockOf n b
 | .loop c => blockOf n c
 | .scope c => blockOf n c
 | .cond _ a b => match blockOf n a with
  | some c => some c
  | none => blockOf n b
 | _ => none
noncomputable def blk (n : Nat) : Code := ((Try.f16.body.bind (blockOf n)).getD .skip)
def regOf (n : Nat) : Code → Option Code
 | .region k ops d => if k = n then some (.region k ops d) else none
 | .block k c => regOf n c
 | .seq a b => match regOf n a with
  | some c => some c
  | none => regOf n b
 | .loop c => regOf n c
 | .scope c => regOf n c
 | .cond _ a b => match regOf n a with
  | some c => some c
  | none => regOf n b
 | _ => none
theorem wp_norm {P : Program} {c : Code} {a : Act} {w : World} {Q : Exit → Act → World → Prop} (h : ∀ K : Act → World → Prop, Aside0 (∀ a w, Q .normal a w → K a w) → c.wp P (Exit.then K (fun _ _ _ => False)) a w) : c.wp P Q a w :=
 wp_mono (h (fun a w => Q .normal a w) ⟨fun _ _ h => h⟩) (fun e a w hq => match e, hq with
  | .normal, hq => hq)
noncomputable def rgn (n : Nat) : Code := ((Try.f16.body.bind (regOf n)).getD .skip)
set_option maxHeartbeats 8000000 in
set_option maxRecDepth 100000 in
theorem fill_put (i j m gx gy gt gm g g19 : Nat) (W : World) (w0 : Int × Int) (q : Nat) (a b : Int)
  (hg : g19 ≠ g) (h19 : W.heap[g19]? = some (.cells #[.int .i64 w0.1, .int .i64 w0.2] 71 (0, 0)))
  (hf : W.frozen? ⟨g, q, none⟩ = false) (hf2 : W.frozen? ⟨g, q + 1, none⟩ = false) (hc : W.cell? ⟨g, q, none⟩ = some (.int .i64 a)) (hc2 : W.cell? ⟨g, q + 1, none⟩ = some (.int .i64 b))
  (A4 : Aside0 (∀ W', Below W.heap.size W W' → Calls Try.prog 33 #[.int .i64 (i : Int), .int .i64 (j : Int), .pointer (some ⟨gt, 0, none⟩), .pointer (some ⟨gm, 0, none⟩)] W' (fun e w' => e = .returned (.pointer (some ⟨g, q, none⟩)) ∧ w' = W')))
  (s0 s1 s2 s3 s4 s5 s6 s7 s8 s9 aA aB aC aD aE aF aG aH aI aJ aK aL aM aN aO aP aQ aR aS aT aU aV aW aX aY aZ bA bC bD bE bF bG bH bI bJ bK bL bM bN bO bP bQ bR bS bT bU bV bW bX bY bZ cA cB cC cD cE cF cG cH cI cJ cK cL cM cN cO cP cQ cR cS cT cU cV cW cX cY cZ dA dB dC dD dE dF dG dH dI dJ dK dL dM dN dO dP dQ dR dS dT dU dV dW dX dY dZ eA eB eC eD eE eF eG eH eI eJ eK eL eM eN eO eP eQ eR eS eT eU eV eW eX eY eZ fA fB fC fD fE fF fG fH fI fJ fK fL fM fN fO fP fQ fR fS fT fU fV fW fX fY fZ gA gB gC gD gE gF gG gH gI gJ gK gL gM gN gO gP gQ gR gS gT gU gV gW gX gY gZ hA : Value) (Q : Exit → Act → World → Prop)
  (HQ : Aside0 (∀ (hB hC hD hE hG hH : Value), Q .normal ⟨List.toArray (s0::s1::s2::s3::s4::s5::s6::s7::s8::s9::aA::aB::aC::aD::.func (.func 32) #[] #[.pointer (some ⟨gx, 0, none⟩), .pointer (some ⟨gy, 0, none⟩)]::aE::.func (.func 33) #[] #[.pointer (some ⟨gt, 0, none⟩), .pointer (some ⟨gm, 0, none⟩)]::.int .i64 (i : Int)::.int .i64 (j : Int)::.pointer (some ⟨g19, 0, none⟩)::aF::aG::aH::aI::aJ::aK::aL::aM::aN::aO::aP::aQ::aR::aS::aT::aU::aV::aW::aX::aY::aZ::bA::bC::bD::bE::bF::bG::bH::bI::bJ::bK::bL::bM::bN::bO::bP::bQ::bR::bS::bT::bU::bV::bW::bX::bY::bZ::cA::cB::cC::cD::cE::cF::cG::cH::cI::cJ::cK::cL::cM::cN::cO::cP::cQ::cR::cS::cT::cU::cV::cW::cX::cY::cZ::dA::dB::dC::dD::dE::dF::dG::dH::dI::dJ::dK::dL::dM::dN::dO::dP::dQ::dR::dS::dT::dU::dV::dW::dX::dY::dZ::eA::eB::eC::eD::eE::eF::eG::eH::eI::eJ::hB::hC::hD::hE::hG::hH::eQ::eR::eS::eT::eU::eV::eW::eX::eY::eZ::fA::fB::fC::fD::fE::fF::fG::fH::fI::fJ::fK::fL::fM::fN::fO::fP::fQ::fR::fS::fT::fU::fV::fW::fX::fY::fZ::gA::gB::gC::gD::gE::gF::gG::gH::gI::gJ::gK::gL::gM::gN::gO::gP::gQ::gR::gS::gT::gU::gV::gW::gX::gY::gZ::hA::[]), []⟩ (((W.setCell ⟨g, q, none⟩ (.int .i64 w0.1)).setCell ⟨g, q + 1, none⟩ (.int .i64 w0.2)).drew))) :
  (rgn 32).wp Try.prog Q ⟨List.toArray (s0::s1::s2::s3::s4::s5::s6::s7::s8::s9::aA::aB::aC::aD::.func (.func 32) #[] #[.pointer (some ⟨gx, 0, none⟩), .pointer (some ⟨gy, 0, none⟩)]::aE::.func (.func 33) #[] #[.pointer (some ⟨gt, 0, none⟩), .pointer (some ⟨gm, 0, none⟩)]::.int .i64 (i : Int)::.int .i64 (j : Int)::.pointer (some ⟨g19, 0, none⟩)::aF::aG::aH::aI::aJ::aK::aL::aM::aN::aO::aP::aQ::aR::aS::aT::aU::aV::aW::aX::aY::aZ::bA::bC::bD::bE::bF::bG::bH::bI::bJ::bK::bL::bM::bN::bO::bP::bQ::bR::bS::bT::bU::bV::bW::bX::bY::bZ::cA::cB::cC::cD::cE::cF::cG::cH::cI::cJ::cK::cL::cM::cN::cO::cP::cQ::cR::cS::cT::cU::cV::cW::cX::cY::cZ::dA::dB::dC::dD::dE::dF::dG::dH::dI::dJ::dK::dL::dM::dN::dO::dP::dQ::dR::dS::dT::dU::dV::dW::dX::dY::dZ::eA::eB::eC::eD::eE::eF::eG::eH::eI::eJ::eK::eL::eM::eN::eO::eP::eQ::eR::eS::eT::eU::eV::eW::eX::eY::eZ::fA::fB::fC::fD::fE::fF::fG::fH::fI::fJ::fK::fL::fM::fN::fO::fP::fQ::fR::fS::fT::fU::fV::fW::fX::fY::fZ::gA::gB::gC::gD::gE::gF::gG::gH::gI::gJ::gK::gL::gM::gN::gO::gP::gQ::gR::gS::gT::gU::gV::gW::gX::gY::gZ::hA::[]), []⟩ W := by
 refine wp_norm fun K HK => ?_
 conv => arg 2; whnf
 have c1 : W.cell? ⟨g19, 0, none⟩ = some (.int .i64 w0.1) := (blk_cell h19 0).trans rfl
 have c2 : W.cell? ⟨g19, 1, none⟩ = some (.int .i64 w0.2) := (blk_cell h19 1).trans rfl
 clear h19
 go_region_with (go_at_call 33; refine (A4.out _ (by repeat (first | exact Below.refl _ _ | apply below_drew | apply pw_below_drewN))).mono ?_; rintro e w' ⟨rfl, hww⟩; rw [hww]; clear hww)
 all_goals exact HK.out _ _ <| HQ.out _ _ _ _ _ _
theorem swb_put {g q : Nat} {T : List (Int × Int)} {W0 W : World} (S : SD.DWB encW g 71 [] W0 T W) (hq : q < T.length) (v : Int × Int) :
  SD.DWB encW g 71 [] W0 (T.set q v) ((W.setCell ⟨g, q * 2, none⟩ (.int .i64 v.1)).setCell ⟨g, q * 2 + 1, none⟩ (.int .i64 v.2)).drew := by
 have hT : T = T.take q ++ T[q] :: T.drop (q + 1) := by rw [← List.drop_eq_getElem_cons hq, List.take_append_drop]
 have h := (SD.DWB.store (S) Try.prog (k := 2) (fun _ => rfl) (fun x v hv => by
  rcases List.mem_cons.1 hv with rfl | hv
  ·rfl
  ·rcases List.mem_cons.1 hv with rfl | hv
   ·rfl
   ·simp at hv) (off := 0) (i := q) rfl v hT (by rw [List.length_take]; omega)).2
 have e : T.set q v = T.take q ++ v :: T.drop (q + 1) := List.set_eq_take_append_cons_drop.trans (if_pos hq)
 rw [e]
 rw [Nat.zero_add] at h
 exact SD.DWB.drew h
theorem swb_froz {g q : Nat} {T : List (Int × Int)} {W0 W : World} (S : SD.DWB encW g 71 [] W0 T W) : W.frozen? ⟨g, q, none⟩ = false := by
 have := S.row
 simp [World.frozen?, this]
set_option maxHeartbeats 8000000 in
set_option maxRecDepth 100000 in
theorem fill_cell (i j n m N gx gy gt gm g : Nat) (T : List (Int × Int)) (W0 W : World) (sh : Int) (hi : i < n) (hj : j < m) (hn : n ≤ 4096) (hm : m ≤ 4096) (w0 o1 o2 : Int × Int)
  (hT : T.length = N) (hlt : i * (m + 1) + j < N) (hS : SD.DWB encW g 71 [] W0 T W)
  (A1 : Aside0 (∀ W', Below W.heap.size W W' → Calls Try.prog 33 #[.int .i64 ((i : Int) + 1), .int .i64 (j : Int), .pointer (some ⟨gt, 0, none⟩), .pointer (some ⟨gm, 0, none⟩)] W' (fun e w' => e = .returned (.pointer (some ⟨g, ((i + 1) * (m + 1) + j) * 2, none⟩)) ∧ w' = W') ∧ W'.cell? ⟨g, ((i + 1) * (m + 1) + j) * 2, none⟩ = some (.int .i64 w0.1) ∧ W'.cell? ⟨g, ((i + 1) * (m + 1) + j) * 2 + 1, none⟩ = some (.int .i64 w0.2)))
  (A2 : Aside0 (∀ W', Below W.heap.size W W' → Calls Try.prog 33 #[.int .i64 (i : Int), .int .i64 ((j : Int) + 1), .pointer (some ⟨gt, 0, none⟩), .pointer (some ⟨gm, 0, none⟩)] W' (fun e w' => e = .returned (.pointer (some ⟨g, (i * (m + 1) + (j + 1)) * 2, none⟩)) ∧ w' = W') ∧ W'.cell? ⟨g, (i * (m + 1) + (j + 1)) * 2, none⟩ = some (.int .i64 o1.1) ∧ W'.cell? ⟨g, (i * (m + 1) + (j + 1)) * 2 + 1, none⟩ = some (.int .i64 o1.2)))
  (A3 : Aside0 (∀ W', Below W.heap.size W W' → Calls Try.prog 33 #[.int .i64 ((i : Int) + 1), .int .i64 ((j : Int) + 1), .pointer (some ⟨gt, 0, none⟩), .pointer (some ⟨gm, 0, none⟩)] W' (fun e w' => e = .returned (.pointer (some ⟨g, ((i + 1) * (m + 1) + (j + 1)) * 2, none⟩)) ∧ w' = W') ∧ W'.cell? ⟨g, ((i + 1) * (m + 1) + (j + 1)) * 2, none⟩ = some (.int .i64 o2.1) ∧ W'.cell? ⟨g, ((i + 1) * (m + 1) + (j + 1)) * 2 + 1, none⟩ = some (.int .i64 o2.2)))
  (A4 : Aside0 (∀ W', Below W.heap.size W W' → Calls Try.prog 33 #[.int .i64 (i : Int), .int .i64 (j : Int), .pointer (some ⟨gt, 0, none⟩), .pointer (some ⟨gm, 0, none⟩)] W' (fun e w' => e = .returned (.pointer (some ⟨g, (i * (m + 1) + j) * 2, none⟩)) ∧ w' = W')))
  (SH : Aside0 (∀ W', Below W.heap.size W W' → Calls Try.prog 32 #[.int .i64 (i : Int), .int .i64 (j : Int), .pointer (some ⟨gx, 0, none⟩), .pointer (some ⟨gy, 0, none⟩)] W' fun e w' => e = .returned (.int .i64 sh) ∧ ∃ m, w' = W'.drewN m))
  (s0 s1 s2 s3 s4 s5 s6 s7 s8 s9 aA aB aC aD aE aF aG aH aI aJ aK aL aM aN aO aP aQ aR aS aT aU aV aW aX aY aZ bA bC bD bE bF bG bH bI bJ bK bL bM bN bO bP bQ bR bS bT bU bV bW bX bY bZ cA cB cC cD cE cF cG cH cI cJ cK cL cM cN cO cP cQ cR cS cT cU cV cW cX cY cZ dA dB dC dD dE dF dG dH dI dJ dK dL dM dN dO dP dQ dR dS dT dU dV dW dX dY dZ eA eB eC eD eE eF eG eH eI eJ eK eL eM eN eO eP eQ eR eS eT eU eV eW eX eY eZ fA fB fC fD fE fF fG fH fI fJ fK fL fM fN fO fP fQ fR fS fT fU fV fW fX fY fZ gA gB gC gD gE gF gG gH gI gJ gK gL gM gN gO gP gQ gR gS gT gU gV gW gX gY gZ hA hB : Value) (Q : Exit → Act → World → Prop)
  (HQ : Aside0 (∀ (hC hD hE hG hH hI hJ hM hO hP hQ hR hU hV hW hX hZ iA iB iC iD iE iF iG iH iI iJ iK iL iM iN iO iP iQ iR iS iT iU iV iW iX iY iZ jA jB jC jD jE jF jG jH jI jJ jK : Value) (W' : World), SD.DWB encW g 71 [] W0 (T.set (i * (m + 1) + j) (BP.cell w0 o1 o2 sh)) W' → Q .normal ⟨List.toArray (s0::s1::s2::s3::s4::s5::s6::s7::s8::s9::aA::aB::aC::aD::.func (.func 32) #[] #[.pointer (some ⟨gx, 0, none⟩), .pointer (some ⟨gy, 0, none⟩)]::aE::.func (.func 33) #[] #[.pointer (some ⟨gt, 0, none⟩), .pointer (some ⟨gm, 0, none⟩)]::.int .i64 (i : Int)::.int .i64 (j : Int)::hC::hD::hE::hG::aJ::aK::aL::aM::aN::aO::aP::aQ::aR::aS::aT::aU::aV::aW::aX::aY::aZ::bA::bC::bD::bE::bF::bG::bH::bI::bJ::bK::bL::bM::bN::bO::bP::bQ::bR::bS::bT::bU::bV::bW::bX::bY::bZ::cA::cB::cC::cD::cE::cF::cG::cH::cI::cJ::cK::cL::cM::cN::cO::cP::cQ::cR::cS::hH::hI::hJ::hM::hO::hP::hQ::hR::hU::hV::hW::hX::hZ::iA::iB::iC::iD::iE::iF::iG::iH::iI::iJ::iK::iL::iM::iN::iO::iP::iQ::iR::iS::iT::iU::iV::iW::iX::iY::iZ::jA::jB::jC::jD::jE::jF::jG::jH::jI::jJ::jK::eR::eS::eT::eU::eV::eW::eX::eY::eZ::fA::fB::fC::fD::fE::fF::fG::fH::fI::fJ::fK::fL::fM::fN::fO::fP::fQ::fR::fS::fT::fU::fV::fW::fX::fY::fZ::gA::gB::gC::gD::gE::gF::gG::gH::gI::gJ::gK::gL::gM::gN::gO::gP::gQ::gR::gS::gT::gU::gV::gW::gX::gY::gZ::hA::hB::[]), []⟩ W')) :
  (blk 5).wp Try.prog Q ⟨List.toArray (s0::s1::s2::s3::s4::s5::s6::s7::s8::s9::aA::aB::aC::aD::.func (.func 32) #[] #[.pointer (some ⟨gx, 0, none⟩), .pointer (some ⟨gy, 0, none⟩)]::aE::.func (.func 33) #[] #[.pointer (some ⟨gt, 0, none⟩), .pointer (some ⟨gm, 0, none⟩)]::.int .i64 (i : Int)::.int .i64 (j : Int)::aF::aG::aH::aI::aJ::aK::aL::aM::aN::aO::aP::aQ::aR::aS::aT::aU::aV::aW::aX::aY::aZ::bA::bC::bD::bE::bF::bG::bH::bI::bJ::bK::bL::bM::bN::bO::bP::bQ::bR::bS::bT::bU::bV::bW::bX::bY::bZ::cA::cB::cC::cD::cE::cF::cG::cH::cI::cJ::cK::cL::cM::cN::cO::cP::cQ::cR::cS::cT::cU::cV::cW::cX::cY::cZ::dA::dB::dC::dD::dE::dF::dG::dH::dI::dJ::dK::dL::dM::dN::dO::dP::dQ::dR::dS::dT::dU::dV::dW::dX::dY::dZ::eA::eB::eC::eD::eE::eF::eG::eH::eI::eJ::eK::eL::eM::eN::eO::eP::eQ::eR::eS::eT::eU::eV::eW::eX::eY::eZ::fA::fB::fC::fD::fE::fF::fG::fH::fI::fJ::fK::fL::fM::fN::fO::fP::fQ::fR::fS::fT::fU::fV::fW::fX::fY::fZ::gA::gB::gC::gD::gE::gF::gG::gH::gI::gJ::gK::gL::gM::gN::gO::gP::gQ::gR::gS::gT::gU::gV::gW::gX::gY::gZ::hA::hB::[]), []⟩ W := by
 refine wp_norm fun K HK => ?_
 conv => arg 2; whnf
 have hi0 : (0 : Int) ≤ (i : Int) := by omega
 have hib : i ≤ 4096 := by omega
 have hj0 : (0 : Int) ≤ (j : Int) := by omega
 have hjb : j ≤ 4096 := by omega
 have HS := Aside0.mk hS
 have HL := Aside0.mk (And.intro hT hlt)
 clear hT hlt hS hi hj
 have bel0 : Below W.heap.size W W := Below.refl _ _
 have bel1 : Below W.heap.size W (W.alloc (Obj.cells #[Value.int .i64 w0.1, Value.int .i64 w0.2] 71)) := below_alloc bel0 _
 have P1 := Aside0.mk (A1.out W bel0).1
 have hc1 := (A1.out W bel0).2.1
 have hc2 := (A1.out W bel0).2.2
 have P2 := Aside0.mk (A2.out _ bel1).1
 have hc3 := (A2.out _ bel1).2.1
 have hc4 := (A2.out _ bel1).2.2
 have F1 := above_f o1 w0
 clear bel0 bel1
 obtain ⟨b1, hb1⟩ : ∃ b, BP.above o1 w0 = b := ⟨_, rfl⟩
 rw [hb1] at F1
 have HB1 := Aside0.mk hb1
 have FF1 := Aside0.mk F1
 clear hb1 F1
 cases b1
 case false =>
  by_cases hs : 0 < sh
  ·have hs0 : decide (0 < sh) = true := decide_eq_true hs
   have HSN := Aside0.mk hs
   have F3 : dual_worth_above.f (wrap64 (o2.1 + sh)) (wrap64 (o2.2 + 1)) w0.1 w0.2 = some (BP.above (BP.plus o2 sh) w0) := above_f (BP.plus o2 sh) w0
   obtain ⟨b3, hb3⟩ : ∃ b, BP.above (BP.plus o2 sh) w0 = b := ⟨_, rfl⟩
   rw [hb3] at F3
   have HB3 := Aside0.mk hb3
   have FF3 := Aside0.mk F3
   clear hb3 F3 hs
   cases b3
   case false =>
    go_wp2_with (first | (go_at_call 33; first | ((with_reducible refine P1.out.mono ?_); rintro e w' ⟨rfl, hww⟩; rw [hww]; clear hww) | ((with_reducible refine P2.out.mono ?_); rintro e w' ⟨rfl, hww⟩; rw [hww]; clear hww) | ((with_reducible refine P3.out.mono ?_); rintro e w' ⟨rfl, hww⟩; rw [hww]; clear hww)) | (go_at_call 34; (with_reducible refine (dual_worth_above.calls _ _ _ _ _ _ FF3.out).mono ?_); rintro e w8 ⟨rfl, hb8⟩; have B19e := Aside0.mk (blk_below (blk_alloc B19'.out (.cells #[.int .i64 (wrap64 (o2.1 + sh)), .int .i64 (wrap64 (o2.2 + 1))] 71)) hb8); have B22 := Aside0.mk (blk_below (blk_new w6 (.cells #[.int .i64 (wrap64 (o2.1 + sh)), .int .i64 (wrap64 (o2.2 + 1))] 71)) hb8); have HB8 := Aside0.mk (below_step (below_alloc HB6.out (.cells #[.int .i64 (wrap64 (o2.1 + sh)), .int .i64 (wrap64 (o2.2 + 1))] 71)) hb8); clear hb8 c5 c6 g0 g1 g2 g3; obtain ⟨p0, p1, p2, p3⟩ := blk_cells2 B19e.out; obtain ⟨q0, q1, q2, q3⟩ := blk_cells2 B22.out) | (go_at_call 34; (with_reducible refine (dual_worth_above.calls _ _ _ _ _ _ FF1.out).mono ?_); rintro e w5 ⟨rfl, hb5⟩; have B19 := Aside0.mk (blk_below (blk_alloc (blk_new W (.cells #[.int .i64 w0.1, .int .i64 w0.2] 71)) (.cells #[.int .i64 o1.1, .int .i64 o1.2] 71)) hb5); have B20 := Aside0.mk (blk_below (blk_new (W.alloc (.cells #[.int .i64 w0.1, .int .i64 w0.2] 71)) (.cells #[.int .i64 o1.1, .int .i64 o1.2] 71)) hb5); have HB5 := Aside0.mk (below_step (below_alloc (below_alloc (Below.refl _ W) (.cells #[.int .i64 w0.1, .int .i64 w0.2] 71)) (.cells #[.int .i64 o1.1, .int .i64 o1.2] 71)) hb5); clear hb5 hc1 hc2 hc3 hc4; skip) | (go_at_call 32; have B19s := B19; have HB5s := HB5; refine (SH.out _ HB5s.out).mono ?_; rintro e w6 ⟨rfl, nd, hw6⟩; have B19' := Aside0.mk (hw6 ▸ blk_drewN B19s.out nd); have HB6 := Aside0.mk (hw6 ▸ pw_below_drewN HB5s.out nd); clear hw6 B19 HB5 B19s HB5s B20; skip; have P3 := Aside0.mk (A3.out _ HB6.out).1; have c5 := (A3.out _ HB6.out).2.1; have c6 := (A3.out _ HB6.out).2.2; obtain ⟨g0, g1, g2, g3⟩ := blk_cells2 B19'.out; have hlt := blk_lt B19'.out; have hne : W.heap.size ≠ w6.heap.size := Nat.ne_of_lt hlt; have hne2 := hne.symm))
    have hS6 := SD.DWB.below HS.out HB8.out
    have hcc := swb_cells hS6 (i * (m + 1) + j) (by have := HL.out; omega)
    have hgn : W.heap.size ≠ g := Nat.ne_of_gt (blk_lt HS.out.row)
    refine fill_put i j m gx gy gt gm g W.heap.size _ w0 ((i * (m + 1) + j) * 2) _ _ hgn B19e.out (swb_froz hS6) (swb_froz hS6) hcc.1 hcc.2 ⟨fun W' hb => A4.out W' (below_step HB8.out hb)⟩ _ _ _ _ _ _ _ _ _ _ _ _ _ _ _ _ _ _ _ _ _ _ _ _ _ _ _ _ _ _ _ _ _ _ _ _ _ _ _ _ _ _ _ _ _ _ _ _ _ _ _ _ _ _ _ _ _ _ _ _ _ _ _ _ _ _ _ _ _ _ _ _ _ _ _ _ _ _ _ _ _ _ _ _ _ _ _ _ _ _ _ _ _ _ _ _ _ _ _ _ _ _ _ _ _ _ _ _ _ _ _ _ _ _ _ _ _ _ _ _ _ _ _ _ _ _ _ _ _ _ _ _ _ _ _ _ _ _ _ _ _ _ _ _ _ _ _ _ _ _ _ _ _ _ _ _ _ _ _ _ _ _ _ _ _ _ _ _ _ _ _ _ _ _ _ _ _ _ _ _ _ _ _ _ _ _ _ _ _ _ _ _ _ ⟨fun jF jG jH jI jJ jK => ?_⟩
    refine HK.out _ _ (HQ.out _ _ _ _ _ _ _ _ _ _ _ _ _ _ _ _ _ _ _ _ _ _ _ _ _ _ _ _ _ _ _ _ _ _ _ _ _ _ _ _ _ _ _ _ _ _ _ _ _ _ _ _ _ _ _ ?_)
    rw [show BP.cell w0 o1 o2 sh = w0 from by unfold BP.cell; rw [HB1.out]; exact (if_pos HSN.out).trans (if_neg (fun h => by have h2 : BP.above (BP.plus o2 sh) w0 = true := h; rw [HB3.out] at h2; exact absurd h2 (by decide)))]
    exact swb_put hS6 (by have := HL.out; omega) w0
   case true =>
    go_wp2_with (first | (go_at_call 33; first | ((with_reducible refine P1.out.mono ?_); rintro e w' ⟨rfl, hww⟩; rw [hww]; clear hww) | ((with_reducible refine P2.out.mono ?_); rintro e w' ⟨rfl, hww⟩; rw [hww]; clear hww) | ((with_reducible refine P3.out.mono ?_); rintro e w' ⟨rfl, hww⟩; rw [hww]; clear hww)) | (go_at_call 34; (with_reducible refine (dual_worth_above.calls _ _ _ _ _ _ FF3.out).mono ?_); rintro e w8 ⟨rfl, hb8⟩; have B19e := Aside0.mk (blk_below (blk_alloc B19'.out (.cells #[.int .i64 (wrap64 (o2.1 + sh)), .int .i64 (wrap64 (o2.2 + 1))] 71)) hb8); have B22 := Aside0.mk (blk_below (blk_new w6 (.cells #[.int .i64 (wrap64 (o2.1 + sh)), .int .i64 (wrap64 (o2.2 + 1))] 71)) hb8); have HB8 := Aside0.mk (below_step (below_alloc HB6.out (.cells #[.int .i64 (wrap64 (o2.1 + sh)), .int .i64 (wrap64 (o2.2 + 1))] 71)) hb8); clear hb8 c5 c6 g0 g1 g2 g3; obtain ⟨p0, p1, p2, p3⟩ := blk_cells2 B19e.out; obtain ⟨q0, q1, q2, q3⟩ := blk_cells2 B22.out) | (go_at_call 34; (with_reducible refine (dual_worth_above.calls _ _ _ _ _ _ FF1.out).mono ?_); rintro e w5 ⟨rfl, hb5⟩; have B19 := Aside0.mk (blk_below (blk_alloc (blk_new W (.cells #[.int .i64 w0.1, .int .i64 w0.2] 71)) (.cells #[.int .i64 o1.1, .int .i64 o1.2] 71)) hb5); have B20 := Aside0.mk (blk_below (blk_new (W.alloc (.cells #[.int .i64 w0.1, .int .i64 w0.2] 71)) (.cells #[.int .i64 o1.1, .int .i64 o1.2] 71)) hb5); have HB5 := Aside0.mk (below_step (below_alloc (below_alloc (Below.refl _ W) (.cells #[.int .i64 w0.1, .int .i64 w0.2] 71)) (.cells #[.int .i64 o1.1, .int .i64 o1.2] 71)) hb5); clear hb5 hc1 hc2 hc3 hc4; skip) | (go_at_call 32; have B19s := B19; have HB5s := HB5; refine (SH.out _ HB5s.out).mono ?_; rintro e w6 ⟨rfl, nd, hw6⟩; have B19' := Aside0.mk (hw6 ▸ blk_drewN B19s.out nd); have HB6 := Aside0.mk (hw6 ▸ pw_below_drewN HB5s.out nd); clear hw6 B19 HB5 B19s HB5s B20; skip; have P3 := Aside0.mk (A3.out _ HB6.out).1; have c5 := (A3.out _ HB6.out).2.1; have c6 := (A3.out _ HB6.out).2.2; obtain ⟨g0, g1, g2, g3⟩ := blk_cells2 B19'.out; have hlt := blk_lt B19'.out; have hne : W.heap.size ≠ w6.heap.size := Nat.ne_of_lt hlt; have hne2 := hne.symm))
    have B19f : Aside0 (((w8.setCell ⟨W.heap.size, 0, none⟩ (.int .i64 (BP.plus o2 sh).1)).setCell ⟨W.heap.size, 1, none⟩ (.int .i64 (BP.plus o2 sh).2)).heap[W.heap.size]? = some (.cells #[.int .i64 (BP.plus o2 sh).1, .int .i64 (BP.plus o2 sh).2] 71 (0, 0))) := ⟨blk_put (blk_put B19e.out 0 _ rfl) 1 _ rfl⟩
    have HB8f : Aside0 (Below W.heap.size W ((w8.setCell ⟨W.heap.size, 0, none⟩ (.int .i64 (BP.plus o2 sh).1)).setCell ⟨W.heap.size, 1, none⟩ (.int .i64 (BP.plus o2 sh).2))) := ⟨below_set (below_set HB8.out (Nat.le_refl _)) (Nat.le_refl _)⟩
    have hS6 := SD.DWB.below HS.out HB8f.out
    have hcc := swb_cells hS6 (i * (m + 1) + j) (by have := HL.out; omega)
    have hgn : W.heap.size ≠ g := Nat.ne_of_gt (blk_lt HS.out.row)
    refine fill_put i j m gx gy gt gm g W.heap.size _ (BP.plus o2 sh) ((i * (m + 1) + j) * 2) _ _ hgn B19f.out (swb_froz hS6) (swb_froz hS6) hcc.1 hcc.2 ⟨fun W' hb => A4.out W' (below_step HB8f.out hb)⟩ _ _ _ _ _ _ _ _ _ _ _ _ _ _ _ _ _ _ _ _ _ _ _ _ _ _ _ _ _ _ _ _ _ _ _ _ _ _ _ _ _ _ _ _ _ _ _ _ _ _ _ _ _ _ _ _ _ _ _ _ _ _ _ _ _ _ _ _ _ _ _ _ _ _ _ _ _ _ _ _ _ _ _ _ _ _ _ _ _ _ _ _ _ _ _ _ _ _ _ _ _ _ _ _ _ _ _ _ _ _ _ _ _ _ _ _ _ _ _ _ _ _ _ _ _ _ _ _ _ _ _ _ _ _ _ _ _ _ _ _ _ _ _ _ _ _ _ _ _ _ _ _ _ _ _ _ _ _ _ _ _ _ _ _ _ _ _ _ _ _ _ _ _ _ _ _ _ _ _ _ _ _ _ _ _ _ _ _ _ _ _ _ _ ⟨fun jF jG jH jI jJ jK => ?_⟩
    refine HK.out _ _ (HQ.out _ _ _ _ _ _ _ _ _ _ _ _ _ _ _ _ _ _ _ _ _ _ _ _ _ _ _ _ _ _ _ _ _ _ _ _ _ _ _ _ _ _ _ _ _ _ _ _ _ _ _ _ _ _ _ ?_)
    rw [show BP.cell w0 o1 o2 sh = BP.plus o2 sh from by unfold BP.cell; rw [HB1.out]; exact (if_pos HSN.out).trans (if_pos HB3.out)]
    exact swb_put hS6 (by have := HL.out; omega) (BP.plus o2 sh)
  ·have hs0 : decide (0 < sh) = false := decide_eq_false hs
   have HSN := Aside0.mk hs
   clear hs
   go_wp2_with (first | (go_at_call 33; first | ((with_reducible refine P1.out.mono ?_); rintro e w' ⟨rfl, hww⟩; rw [hww]; clear hww) | ((with_reducible refine P2.out.mono ?_); rintro e w' ⟨rfl, hww⟩; rw [hww]; clear hww) | ((with_reducible refine P3.out.mono ?_); rintro e w' ⟨rfl, hww⟩; rw [hww]; clear hww)) | (go_at_call 34; (with_reducible refine (dual_worth_above.calls _ _ _ _ _ _ FF1.out).mono ?_); rintro e w5 ⟨rfl, hb5⟩; have B19 := Aside0.mk (blk_below (blk_alloc (blk_new W (.cells #[.int .i64 w0.1, .int .i64 w0.2] 71)) (.cells #[.int .i64 o1.1, .int .i64 o1.2] 71)) hb5); have B20 := Aside0.mk (blk_below (blk_new (W.alloc (.cells #[.int .i64 w0.1, .int .i64 w0.2] 71)) (.cells #[.int .i64 o1.1, .int .i64 o1.2] 71)) hb5); have HB5 := Aside0.mk (below_step (below_alloc (below_alloc (Below.refl _ W) (.cells #[.int .i64 w0.1, .int .i64 w0.2] 71)) (.cells #[.int .i64 o1.1, .int .i64 o1.2] 71)) hb5); clear hb5 hc1 hc2 hc3 hc4; skip) | (go_at_call 32; have B19s := B19; have HB5s := HB5; refine (SH.out _ HB5s.out).mono ?_; rintro e w6 ⟨rfl, nd, hw6⟩; have B19' := Aside0.mk (hw6 ▸ blk_drewN B19s.out nd); have HB6 := Aside0.mk (hw6 ▸ pw_below_drewN HB5s.out nd); clear hw6 B19 HB5 B19s HB5s B20; skip))
   have hS6 := SD.DWB.below HS.out HB6.out
   have hcc := swb_cells hS6 (i * (m + 1) + j) (by have := HL.out; omega)
   have hgn : W.heap.size ≠ g := Nat.ne_of_gt (blk_lt HS.out.row)
   refine fill_put i j m gx gy gt gm g W.heap.size _ w0 ((i * (m + 1) + j) * 2) _ _ hgn B19'.out (swb_froz hS6) (swb_froz hS6) hcc.1 hcc.2 ⟨fun W' hb => A4.out W' (below_step HB6.out hb)⟩ _ _ _ _ _ _ _ _ _ _ _ _ _ _ _ _ _ _ _ _ _ _ _ _ _ _ _ _ _ _ _ _ _ _ _ _ _ _ _ _ _ _ _ _ _ _ _ _ _ _ _ _ _ _ _ _ _ _ _ _ _ _ _ _ _ _ _ _ _ _ _ _ _ _ _ _ _ _ _ _ _ _ _ _ _ _ _ _ _ _ _ _ _ _ _ _ _ _ _ _ _ _ _ _ _ _ _ _ _ _ _ _ _ _ _ _ _ _ _ _ _ _ _ _ _ _ _ _ _ _ _ _ _ _ _ _ _ _ _ _ _ _ _ _ _ _ _ _ _ _ _ _ _ _ _ _ _ _ _ _ _ _ _ _ _ _ _ _ _ _ _ _ _ _ _ _ _ _ _ _ _ _ _ _ _ _ _ _ _ _ _ _ _ ⟨fun jF jG jH jI jJ jK => ?_⟩
   refine HK.out _ _ (HQ.out _ _ _ _ _ _ _ _ _ _ _ _ _ _ _ _ _ _ _ _ _ _ _ _ _ _ _ _ _ _ _ _ _ _ _ _ _ _ _ _ _ _ _ _ _ _ _ _ _ _ _ _ _ _ _ ?_)
   rw [show BP.cell w0 o1 o2 sh = w0 from by unfold BP.cell; rw [HB1.out]; exact if_neg (by have := HSN.out; omega)]
   exact swb_put hS6 (by have := HL.out; omega) w0
 case true =>
  by_cases hs : 0 < sh
  ·have hs0 : decide (0 < sh) = true := decide_eq_true hs
   have HSN := Aside0.mk hs
   have F3 : dual_worth_above.f (wrap64 (o2.1 + sh)) (wrap64 (o2.2 + 1)) o1.1 o1.2 = some (BP.above (BP.plus o2 sh) o1) := above_f (BP.plus o2 sh) o1
   obtain ⟨b3, hb3⟩ : ∃ b, BP.above (BP.plus o2 sh) o1 = b := ⟨_, rfl⟩
   rw [hb3] at F3
   have HB3 := Aside0.mk hb3
   have FF3 := Aside0.mk F3
   clear hb3 F3 hs
   cases b3
   case false =>
    go_wp2_with (first | (go_at_call 33; first | ((with_reducible refine P1.out.mono ?_); rintro e w' ⟨rfl, hww⟩; rw [hww]; clear hww) | ((with_reducible refine P2.out.mono ?_); rintro e w' ⟨rfl, hww⟩; rw [hww]; clear hww) | ((with_reducible refine P3.out.mono ?_); rintro e w' ⟨rfl, hww⟩; rw [hww]; clear hww)) | (go_at_call 34; (with_reducible refine (dual_worth_above.calls _ _ _ _ _ _ FF3.out).mono ?_); rintro e w8 ⟨rfl, hb8⟩; have B19e := Aside0.mk (blk_below (blk_alloc B19'.out (.cells #[.int .i64 (wrap64 (o2.1 + sh)), .int .i64 (wrap64 (o2.2 + 1))] 71)) hb8); have B22 := Aside0.mk (blk_below (blk_new w6 (.cells #[.int .i64 (wrap64 (o2.1 + sh)), .int .i64 (wrap64 (o2.2 + 1))] 71)) hb8); have HB8 := Aside0.mk (below_step (below_alloc HB6.out (.cells #[.int .i64 (wrap64 (o2.1 + sh)), .int .i64 (wrap64 (o2.2 + 1))] 71)) hb8); clear hb8 c5 c6 g0 g1 g2 g3; obtain ⟨p0, p1, p2, p3⟩ := blk_cells2 B19e.out; obtain ⟨q0, q1, q2, q3⟩ := blk_cells2 B22.out) | (go_at_call 34; (with_reducible refine (dual_worth_above.calls _ _ _ _ _ _ FF1.out).mono ?_); rintro e w5 ⟨rfl, hb5⟩; have B19 := Aside0.mk (blk_below (blk_alloc (blk_new W (.cells #[.int .i64 w0.1, .int .i64 w0.2] 71)) (.cells #[.int .i64 o1.1, .int .i64 o1.2] 71)) hb5); have B20 := Aside0.mk (blk_below (blk_new (W.alloc (.cells #[.int .i64 w0.1, .int .i64 w0.2] 71)) (.cells #[.int .i64 o1.1, .int .i64 o1.2] 71)) hb5); have HB5 := Aside0.mk (below_step (below_alloc (below_alloc (Below.refl _ W) (.cells #[.int .i64 w0.1, .int .i64 w0.2] 71)) (.cells #[.int .i64 o1.1, .int .i64 o1.2] 71)) hb5); clear hb5 hc1 hc2 hc3 hc4; rw [World.size_alloc] at B20; have d0 := (blk_cell B20.out 0).trans rfl; have d1 := (blk_cell B20.out 1).trans rfl; obtain ⟨e0, e1, f0, f1⟩ := blk_cells2 B19.out) | (go_at_call 32; have B19s : Aside0 ((((w5.setCell ⟨W.heap.size, 0, none⟩ (.int .i64 o1.1)).setCell ⟨W.heap.size, 1, none⟩ (.int .i64 o1.2))).heap[W.heap.size]? = some (.cells #[.int .i64 o1.1, .int .i64 o1.2] 71 (0, 0))) := ⟨blk_put (blk_put B19.out 0 _ rfl) 1 _ rfl⟩; have HB5s : Aside0 (Below W.heap.size W (((w5.setCell ⟨W.heap.size, 0, none⟩ (.int .i64 o1.1)).setCell ⟨W.heap.size, 1, none⟩ (.int .i64 o1.2)))) := ⟨below_set (below_set HB5.out (Nat.le_refl _)) (Nat.le_refl _)⟩; refine (SH.out _ HB5s.out).mono ?_; rintro e w6 ⟨rfl, nd, hw6⟩; have B19' := Aside0.mk (hw6 ▸ blk_drewN B19s.out nd); have HB6 := Aside0.mk (hw6 ▸ pw_below_drewN HB5s.out nd); clear hw6 B19 HB5 B19s HB5s B20; clear d0 d1 e0 e1 f0 f1; have P3 := Aside0.mk (A3.out _ HB6.out).1; have c5 := (A3.out _ HB6.out).2.1; have c6 := (A3.out _ HB6.out).2.2; obtain ⟨g0, g1, g2, g3⟩ := blk_cells2 B19'.out; have hlt := blk_lt B19'.out; have hne : W.heap.size ≠ w6.heap.size := Nat.ne_of_lt hlt; have hne2 := hne.symm))
    have hS6 := SD.DWB.below HS.out HB8.out
    have hcc := swb_cells hS6 (i * (m + 1) + j) (by have := HL.out; omega)
    have hgn : W.heap.size ≠ g := Nat.ne_of_gt (blk_lt HS.out.row)
    refine fill_put i j m gx gy gt gm g W.heap.size _ o1 ((i * (m + 1) + j) * 2) _ _ hgn B19e.out (swb_froz hS6) (swb_froz hS6) hcc.1 hcc.2 ⟨fun W' hb => A4.out W' (below_step HB8.out hb)⟩ _ _ _ _ _ _ _ _ _ _ _ _ _ _ _ _ _ _ _ _ _ _ _ _ _ _ _ _ _ _ _ _ _ _ _ _ _ _ _ _ _ _ _ _ _ _ _ _ _ _ _ _ _ _ _ _ _ _ _ _ _ _ _ _ _ _ _ _ _ _ _ _ _ _ _ _ _ _ _ _ _ _ _ _ _ _ _ _ _ _ _ _ _ _ _ _ _ _ _ _ _ _ _ _ _ _ _ _ _ _ _ _ _ _ _ _ _ _ _ _ _ _ _ _ _ _ _ _ _ _ _ _ _ _ _ _ _ _ _ _ _ _ _ _ _ _ _ _ _ _ _ _ _ _ _ _ _ _ _ _ _ _ _ _ _ _ _ _ _ _ _ _ _ _ _ _ _ _ _ _ _ _ _ _ _ _ _ _ _ _ _ _ _ ⟨fun jF jG jH jI jJ jK => ?_⟩
    refine HK.out _ _ (HQ.out _ _ _ _ _ _ _ _ _ _ _ _ _ _ _ _ _ _ _ _ _ _ _ _ _ _ _ _ _ _ _ _ _ _ _ _ _ _ _ _ _ _ _ _ _ _ _ _ _ _ _ _ _ _ _ ?_)
    rw [show BP.cell w0 o1 o2 sh = o1 from by unfold BP.cell; rw [HB1.out]; exact (if_pos HSN.out).trans (if_neg (fun h => by have h2 : BP.above (BP.plus o2 sh) o1 = true := h; rw [HB3.out] at h2; exact absurd h2 (by decide)))]
    exact swb_put hS6 (by have := HL.out; omega) o1
   case true =>
    go_wp2_with (first | (go_at_call 33; first | ((with_reducible refine P1.out.mono ?_); rintro e w' ⟨rfl, hww⟩; rw [hww]; clear hww) | ((with_reducible refine P2.out.mono ?_); rintro e w' ⟨rfl, hww⟩; rw [hww]; clear hww) | ((with_reducible refine P3.out.mono ?_); rintro e w' ⟨rfl, hww⟩; rw [hww]; clear hww)) | (go_at_call 34; (with_reducible refine (dual_worth_above.calls _ _ _ _ _ _ FF3.out).mono ?_); rintro e w8 ⟨rfl, hb8⟩; have B19e := Aside0.mk (blk_below (blk_alloc B19'.out (.cells #[.int .i64 (wrap64 (o2.1 + sh)), .int .i64 (wrap64 (o2.2 + 1))] 71)) hb8); have B22 := Aside0.mk (blk_below (blk_new w6 (.cells #[.int .i64 (wrap64 (o2.1 + sh)), .int .i64 (wrap64 (o2.2 + 1))] 71)) hb8); have HB8 := Aside0.mk (below_step (below_alloc HB6.out (.cells #[.int .i64 (wrap64 (o2.1 + sh)), .int .i64 (wrap64 (o2.2 + 1))] 71)) hb8); clear hb8 c5 c6 g0 g1 g2 g3; obtain ⟨p0, p1, p2, p3⟩ := blk_cells2 B19e.out; obtain ⟨q0, q1, q2, q3⟩ := blk_cells2 B22.out) | (go_at_call 34; (with_reducible refine (dual_worth_above.calls _ _ _ _ _ _ FF1.out).mono ?_); rintro e w5 ⟨rfl, hb5⟩; have B19 := Aside0.mk (blk_below (blk_alloc (blk_new W (.cells #[.int .i64 w0.1, .int .i64 w0.2] 71)) (.cells #[.int .i64 o1.1, .int .i64 o1.2] 71)) hb5); have B20 := Aside0.mk (blk_below (blk_new (W.alloc (.cells #[.int .i64 w0.1, .int .i64 w0.2] 71)) (.cells #[.int .i64 o1.1, .int .i64 o1.2] 71)) hb5); have HB5 := Aside0.mk (below_step (below_alloc (below_alloc (Below.refl _ W) (.cells #[.int .i64 w0.1, .int .i64 w0.2] 71)) (.cells #[.int .i64 o1.1, .int .i64 o1.2] 71)) hb5); clear hb5 hc1 hc2 hc3 hc4; rw [World.size_alloc] at B20; have d0 := (blk_cell B20.out 0).trans rfl; have d1 := (blk_cell B20.out 1).trans rfl; obtain ⟨e0, e1, f0, f1⟩ := blk_cells2 B19.out) | (go_at_call 32; have B19s : Aside0 ((((w5.setCell ⟨W.heap.size, 0, none⟩ (.int .i64 o1.1)).setCell ⟨W.heap.size, 1, none⟩ (.int .i64 o1.2))).heap[W.heap.size]? = some (.cells #[.int .i64 o1.1, .int .i64 o1.2] 71 (0, 0))) := ⟨blk_put (blk_put B19.out 0 _ rfl) 1 _ rfl⟩; have HB5s : Aside0 (Below W.heap.size W (((w5.setCell ⟨W.heap.size, 0, none⟩ (.int .i64 o1.1)).setCell ⟨W.heap.size, 1, none⟩ (.int .i64 o1.2)))) := ⟨below_set (below_set HB5.out (Nat.le_refl _)) (Nat.le_refl _)⟩; refine (SH.out _ HB5s.out).mono ?_; rintro e w6 ⟨rfl, nd, hw6⟩; have B19' := Aside0.mk (hw6 ▸ blk_drewN B19s.out nd); have HB6 := Aside0.mk (hw6 ▸ pw_below_drewN HB5s.out nd); clear hw6 B19 HB5 B19s HB5s B20; clear d0 d1 e0 e1 f0 f1; have P3 := Aside0.mk (A3.out _ HB6.out).1; have c5 := (A3.out _ HB6.out).2.1; have c6 := (A3.out _ HB6.out).2.2; obtain ⟨g0, g1, g2, g3⟩ := blk_cells2 B19'.out; have hlt := blk_lt B19'.out; have hne : W.heap.size ≠ w6.heap.size := Nat.ne_of_lt hlt; have hne2 := hne.symm))
    have B19f : Aside0 (((w8.setCell ⟨W.heap.size, 0, none⟩ (.int .i64 (BP.plus o2 sh).1)).setCell ⟨W.heap.size, 1, none⟩ (.int .i64 (BP.plus o2 sh).2)).heap[W.heap.size]? = some (.cells #[.int .i64 (BP.plus o2 sh).1, .int .i64 (BP.plus o2 sh).2] 71 (0, 0))) := ⟨blk_put (blk_put B19e.out 0 _ rfl) 1 _ rfl⟩
    have HB8f : Aside0 (Below W.heap.size W ((w8.setCell ⟨W.heap.size, 0, none⟩ (.int .i64 (BP.plus o2 sh).1)).setCell ⟨W.heap.size, 1, none⟩ (.int .i64 (BP.plus o2 sh).2))) := ⟨below_set (below_set HB8.out (Nat.le_refl _)) (Nat.le_refl _)⟩
    have hS6 := SD.DWB.below HS.out HB8f.out
    have hcc := swb_cells hS6 (i * (m + 1) + j) (by have := HL.out; omega)
    have hgn : W.heap.size ≠ g := Nat.ne_of_gt (blk_lt HS.out.row)
    refine fill_put i j m gx gy gt gm g W.heap.size _ (BP.plus o2 sh) ((i * (m + 1) + j) * 2) _ _ hgn B19f.out (swb_froz hS6) (swb_froz hS6) hcc.1 hcc.2 ⟨fun W' hb => A4.out W' (below_step HB8f.out hb)⟩ _ _ _ _ _ _ _ _ _ _ _ _ _ _ _ _ _ _ _ _ _ _ _ _ _ _ _ _ _ _ _ _ _ _ _ _ _ _ _ _ _ _ _ _ _ _ _ _ _ _ _ _ _ _ _ _ _ _ _ _ _ _ _ _ _ _ _ _ _ _ _ _ _ _ _ _ _ _ _ _ _ _ _ _ _ _ _ _ _ _ _ _ _ _ _ _ _ _ _ _ _ _ _ _ _ _ _ _ _ _ _ _ _ _ _ _ _ _ _ _ _ _ _ _ _ _ _ _ _ _ _ _ _ _ _ _ _ _ _ _ _ _ _ _ _ _ _ _ _ _ _ _ _ _ _ _ _ _ _ _ _ _ _ _ _ _ _ _ _ _ _ _ _ _ _ _ _ _ _ _ _ _ _ _ _ _ _ _ _ _ _ _ _ ⟨fun jF jG jH jI jJ jK => ?_⟩
    refine HK.out _ _ (HQ.out _ _ _ _ _ _ _ _ _ _ _ _ _ _ _ _ _ _ _ _ _ _ _ _ _ _ _ _ _ _ _ _ _ _ _ _ _ _ _ _ _ _ _ _ _ _ _ _ _ _ _ _ _ _ _ ?_)
    rw [show BP.cell w0 o1 o2 sh = BP.plus o2 sh from by unfold BP.cell; rw [HB1.out]; exact (if_pos HSN.out).trans (if_pos HB3.out)]
    exact swb_put hS6 (by have := HL.out; omega) (BP.plus o2 sh)
  ·have hs0 : decide (0 < sh) = false := decide_eq_false hs
   have HSN := Aside0.mk hs
   clear hs
   go_wp2_with (first | (go_at_call 33; first | ((with_reducible refine P1.out.mono ?_); rintro e w' ⟨rfl, hww⟩; rw [hww]; clear hww) | ((with_reducible refine P2.out.mono ?_); rintro e w' ⟨rfl, hww⟩; rw [hww]; clear hww) | ((with_reducible refine P3.out.mono ?_); rintro e w' ⟨rfl, hww⟩; rw [hww]; clear hww)) | (go_at_call 34; (with_reducible refine (dual_worth_above.calls _ _ _ _ _ _ FF1.out).mono ?_); rintro e w5 ⟨rfl, hb5⟩; have B19 := Aside0.mk (blk_below (blk_alloc (blk_new W (.cells #[.int .i64 w0.1, .int .i64 w0.2] 71)) (.cells #[.int .i64 o1.1, .int .i64 o1.2] 71)) hb5); have B20 := Aside0.mk (blk_below (blk_new (W.alloc (.cells #[.int .i64 w0.1, .int .i64 w0.2] 71)) (.cells #[.int .i64 o1.1, .int .i64 o1.2] 71)) hb5); have HB5 := Aside0.mk (below_step (below_alloc (below_alloc (Below.refl _ W) (.cells #[.int .i64 w0.1, .int .i64 w0.2] 71)) (.cells #[.int .i64 o1.1, .int .i64 o1.2] 71)) hb5); clear hb5 hc1 hc2 hc3 hc4; rw [World.size_alloc] at B20; have d0 := (blk_cell B20.out 0).trans rfl; have d1 := (blk_cell B20.out 1).trans rfl; obtain ⟨e0, e1, f0, f1⟩ := blk_cells2 B19.out) | (go_at_call 32; have B19s : Aside0 ((((w5.setCell ⟨W.heap.size, 0, none⟩ (.int .i64 o1.1)).setCell ⟨W.heap.size, 1, none⟩ (.int .i64 o1.2))).heap[W.heap.size]? = some (.cells #[.int .i64 o1.1, .int .i64 o1.2] 71 (0, 0))) := ⟨blk_put (blk_put B19.out 0 _ rfl) 1 _ rfl⟩; have HB5s : Aside0 (Below W.heap.size W (((w5.setCell ⟨W.heap.size, 0, none⟩ (.int .i64 o1.1)).setCell ⟨W.heap.size, 1, none⟩ (.int .i64 o1.2)))) := ⟨below_set (below_set HB5.out (Nat.le_refl _)) (Nat.le_refl _)⟩; refine (SH.out _ HB5s.out).mono ?_; rintro e w6 ⟨rfl, nd, hw6⟩; have B19' := Aside0.mk (hw6 ▸ blk_drewN B19s.out nd); have HB6 := Aside0.mk (hw6 ▸ pw_below_drewN HB5s.out nd); clear hw6 B19 HB5 B19s HB5s B20; clear d0 d1 e0 e1 f0 f1))
   have hS6 := SD.DWB.below HS.out HB6.out
   have hcc := swb_cells hS6 (i * (m + 1) + j) (by have := HL.out; omega)
   have hgn : W.heap.size ≠ g := Nat.ne_of_gt (blk_lt HS.out.row)
   refine fill_put i j m gx gy gt gm g W.heap.size _ o1 ((i * (m + 1) + j) * 2) _ _ hgn B19'.out (swb_froz hS6) (swb_froz hS6) hcc.1 hcc.2 ⟨fun W' hb => A4.out W' (below_step HB6.out hb)⟩ _ _ _ _ _ _ _ _ _ _ _ _ _ _ _ _ _ _ _ _ _ _ _ _ _ _ _ _ _ _ _ _ _ _ _ _ _ _ _ _ _ _ _ _ _ _ _ _ _ _ _ _ _ _ _ _ _ _ _ _ _ _ _ _ _ _ _ _ _ _ _ _ _ _ _ _ _ _ _ _ _ _ _ _ _ _ _ _ _ _ _ _ _ _ _ _ _ _ _ _ _ _ _ _ _ _ _ _ _ _ _ _ _ _ _ _ _ _ _ _ _ _ _ _ _ _ _ _ _ _ _ _ _ _ _ _ _ _ _ _ _ _ _ _ _ _ _ _ _ _ _ _ _ _ _ _ _ _ _ _ _ _ _ _ _ _ _ _ _ _ _ _ _ _ _ _ _ _ _ _ _ _ _ _ _ _ _ _ _ _ _ _ _ ⟨fun jF jG jH jI jJ jK => ?_⟩
   refine HK.out _ _ (HQ.out _ _ _ _ _ _ _ _ _ _ _ _ _ _ _ _ _ _ _ _ _ _ _ _ _ _ _ _ _ _ _ _ _ _ _ _ _ _ _ _ _ _ _ _ _ _ _ _ _ _ _ _ _ _ _ ?_)
   rw [show BP.cell w0 o1 o2 sh = o1 from by unfold BP.cell; rw [HB1.out]; exact if_neg (by have := HSN.out; omega)]
   exact swb_put hS6 (by have := HL.out; omega) o1
theorem wp_norm_blk {P : Program} {c : Code} {a : Act} {w : World} {id : Nat} {Q : Exit → Act → World → Prop} (h : ∀ K : Act → World → Prop, Aside0 (∀ a w, Q .normal a w → K a w) → c.wp P (Exit.inBlock id (Exit.then K (fun _ _ _ => False))) a w) : c.wp P (Exit.inBlock id Q) a w := by
 refine wp_mono (h (fun a w => Q .normal a w) ⟨fun _ _ h => h⟩) (fun e a w hq => ?_)
 cases e with
 | normal => exact hq
 | exit k =>
  unfold Exit.inBlock at hq ⊢
  dsimp only at hq ⊢
  split
  ·rename_i h; rw [if_pos h] at hq; exact hq
  ·rename_i h; rw [if_neg h] at hq; exact hq.elim
 | goto l => exact hq.elim
 | ret => exact hq.elim
 | panic ch => exact hq.elim
 | outgrown => exact hq.elim
set_option maxHeartbeats 8000000 in
set_option maxRecDepth 100000 in
theorem fill_loop (n m N gx gy gt gm g : Nat) (sh : Nat → Nat → Int) (W0 V0 : World) (hn : n ≤ 4096) (hm : m ≤ 4096) (hN : (n + 1) * (m + 1) = N)
  (AT : Aside0 (∀ (T : List (Int × Int)) (W : World), SD.DWB encW g 71 [] W0 T W → T.length = N → ∀ p q : Nat, p ≤ n → q ≤ m → Calls Try.prog 33 #[.int .i64 (p : Int), .int .i64 (q : Int), .pointer (some ⟨gt, 0, none⟩), .pointer (some ⟨gm, 0, none⟩)] W (fun e w' => e = .returned (.pointer (some ⟨g, (p * (m + 1) + q) * 2, none⟩)) ∧ w' = W)))
  (SHR : Aside0 (∀ (T : List (Int × Int)) (W : World), SD.DWB encW g 71 [] W0 T W → ∀ p q : Nat, p < n → q < m → Calls Try.prog 32 #[.int .i64 (p : Int), .int .i64 (q : Int), .pointer (some ⟨gx, 0, none⟩), .pointer (some ⟨gy, 0, none⟩)] W fun e w' => e = .returned (.int .i64 (sh p q)) ∧ ∃ m, w' = W.drewN m))
  (MB : Aside0 (∀ (T : List (Int × Int)) (W : World), SD.DWB encW g 71 [] W0 T W → W.cell? ⟨gm, 0, none⟩ = some (.int .i64 (m : Int))))
  (S0 : Aside0 (SD.DWB encW g 71 [] W0 (BP.tabI n m sh 0) V0))
  (s0 s1 s2 s3 s4 s5 s6 s7 s8 aA aB aC aD aE aF aG aH aI aJ aK aL aM aN aO aP aQ aR aS aT aU aV aW aX aY aZ bA bC bD bE bF bG bH bI bJ bK bL bM bN bO bP bQ bR bS bT bU bV bW bX bY bZ cA cB cC cD cE cF cG cH cI cJ cK cL cM cN cO cP cQ cR cS cT cU cV cW cX cY cZ dA dB dC dD dE dF dG dH dI dJ dK dL dM dN dO dP dQ dR dS dT dU dV dW dX dY dZ eA eB eC eD eE eF eG eH eI eJ eK eL eM eN eO eP eQ eR eS eT eU eV eW eX eY eZ fA fB fC fD fE fF fG fH fI fJ fK fL fM fN fO fP fQ fR fS fT fU fV fW fX fY fZ gA gB gC gD gE gF gG gH gI gJ gK gL gM gN gO gP gQ gR gS gT gU gV gW gX gY gZ hA hB : Value) (Q : Exit → Act → World → Prop)
  (HQ : Aside0 (∀ (hC hD u19 u20 u21 u22 hE hG hH hI hJ hM hO hP hQ hR u84 u85 u86 u87 u88 u89 u90 u91 u92 u93 u94 u95 u96 u97 u98 u99 u100 u101 u102 u103 u104 u105 u106 u107 u108 u109 u110 u111 u112 u113 u114 u115 u116 u117 u118 u119 u120 u121 u122 u123 u124 u125 u126 u127 u128 u129 u130 u131 u132 u133 : Value) (W' : World), SD.DWB encW g 71 [] W0 (BP.tabI n m sh n) W' → Q .normal ⟨List.toArray (s0::s1::s2::s3::s4::s5::s6::s7::s8::.int .i64 (n : Int)::.pointer (some ⟨gm, 0, none⟩)::aA::aB::aC::.func (.func 32) #[] #[.pointer (some ⟨gx, 0, none⟩), .pointer (some ⟨gy, 0, none⟩)]::aD::.func (.func 33) #[] #[.pointer (some ⟨gt, 0, none⟩), .pointer (some ⟨gm, 0, none⟩)]::hC::hD::u19::u20::u21::u22::aJ::aK::aL::aM::aN::aO::aP::aQ::aR::aS::aT::aU::aV::aW::aX::aY::aZ::bA::bC::bD::bE::bF::bG::bH::bI::bJ::bK::bL::bM::bN::bO::bP::bQ::bR::bS::bT::bU::bV::bW::bX::bY::bZ::cA::cB::cC::cD::cE::cF::cG::cH::cI::hE::hG::hH::hI::hJ::hM::hO::hP::hQ::hR::u84::u85::u86::u87::u88::u89::u90::u91::u92::u93::u94::u95::u96::u97::u98::u99::u100::u101::u102::u103::u104::u105::u106::u107::u108::u109::u110::u111::u112::u113::u114::u115::u116::u117::u118::u119::u120::u121::u122::u123::u124::u125::u126::u127::u128::u129::u130::u131::u132::u133::eR::eS::eT::eU::eV::eW::eX::eY::eZ::fA::fB::fC::fD::fE::fF::fG::fH::fI::fJ::fK::fL::fM::fN::fO::fP::fQ::fR::fS::fT::fU::fV::fW::fX::fY::fZ::gA::gB::gC::gD::gE::gF::gG::gH::gI::gJ::gK::gL::gM::gN::gO::gP::gQ::gR::gS::gT::gU::gV::gW::gX::gY::gZ::hA::hB::[]), []⟩ W')) :
  (blk 2).wp Try.prog (Exit.inBlock 2 Q) ⟨List.toArray (s0::s1::s2::s3::s4::s5::s6::s7::s8::.int .i64 (n : Int)::.pointer (some ⟨gm, 0, none⟩)::aA::aB::aC::.func (.func 32) #[] #[.pointer (some ⟨gx, 0, none⟩), .pointer (some ⟨gy, 0, none⟩)]::aD::.func (.func 33) #[] #[.pointer (some ⟨gt, 0, none⟩), .pointer (some ⟨gm, 0, none⟩)]::.int .i64 ((n : Int) - 1)::aE::aF::aG::aH::aI::aJ::aK::aL::aM::aN::aO::aP::aQ::aR::aS::aT::aU::aV::aW::aX::aY::aZ::bA::bC::bD::bE::bF::bG::bH::bI::bJ::bK::bL::bM::bN::bO::bP::bQ::bR::bS::bT::bU::bV::bW::bX::bY::bZ::cA::cB::cC::cD::cE::cF::cG::cH::cI::cJ::cK::cL::cM::cN::cO::cP::cQ::cR::cS::cT::cU::cV::cW::cX::cY::cZ::dA::dB::dC::dD::dE::dF::dG::dH::dI::dJ::dK::dL::dM::dN::dO::dP::dQ::dR::dS::dT::dU::dV::dW::dX::dY::dZ::eA::eB::eC::eD::eE::eF::eG::eH::eI::eJ::eK::eL::eM::eN::eO::eP::eQ::eR::eS::eT::eU::eV::eW::eX::eY::eZ::fA::fB::fC::fD::fE::fF::fG::fH::fI::fJ::fK::fL::fM::fN::fO::fP::fQ::fR::fS::fT::fU::fV::fW::fX::fY::fZ::gA::gB::gC::gD::gE::gF::gG::gH::gI::gJ::gK::gL::gM::gN::gO::gP::gQ::gR::gS::gT::gU::gV::gW::gX::gY::gZ::hA::hB::[]), []⟩ V0 := by
 refine wp_norm_blk fun K HK => ?_
 conv => arg 2; whnf
 have HN := Aside0.mk hN
 clear hN
 go_loopg [17] n (fun kx v W => ∃ c r : Nat, r = kx ∧ c + r = n ∧ v = .int .i64 ((r : Int) - 1) ∧ Aside0 (SD.DWB encW g 71 [] W0 (BP.tabI n m sh c) W))
 case atStart => exact ⟨0, n, rfl, by omega, rfl, S0⟩
 case round =>
  clear S0
  obtain ⟨c, r, hrk, hck, rfl, SB⟩ := hrel
  have HRK := Aside0.mk (And.intro hrk hck)
  clear hrk hck
  cases r with
  | zero =>
   have hneg : ((0 : Nat) : Int) - 1 = -1 := rfl
   rw [hneg]
   go_wp2
   have hc : c = n := by have := HRK.out; omega
   exact HK.out _ _ (HQ.out _ _ _ _ _ _ _ _ _ _ _ _ _ _ _ _ _ _ _ _ _ _ _ _ _ _ _ _ _ _ _ _ _ _ _ _ _ _ _ _ _ _ _ _ _ _ _ _ _ _ _ _ _ _ _ _ _ _ _ _ _ _ _ _ _ _ _ (hc ▸ SB.out))
  | succ i =>
   have hii : ((i + 1 : Nat) : Int) - 1 = (i : Int) := by omega
   rw [hii]
   clear hii
   have hi0 : (0 : Int) ≤ (i : Int) := by omega
   have hib : i ≤ 4096 := by have := HRK.out; omega
   have ck10 := MB.out _ _ SB.out
   go_wp2_with fail
   go_loopg [18] m (fun kj v W => ∃ d s : Nat, s = kj ∧ d + s = m ∧ v = .int .i64 ((s : Int) - 1) ∧ Aside0 (SD.DWB encW g 71 [] W0 (BP.tabJ m sh i (BP.tabI n m sh c) d) W))
   case atStart => exact ⟨0, m, rfl, by omega, by first | rfl | go_num, SB⟩
   case round =>
    clear SB ck10
    obtain ⟨d, s, hsk, hds, rfl, SB⟩ := hrel
    have HSK := Aside0.mk (And.intro hsk hds)
    clear hsk hds
    cases s with
    | zero =>
     have hneg : ((0 : Nat) : Int) - 1 = -1 := rfl
     rw [hneg]
     go_wp2
     go_roundg i
     case measure => have := HRK.out; omega
     case rel =>
      have hd : d = m := by have := HSK.out; omega
      subst hd
      have hni : n - 1 - c = i := by have := HRK.out; omega
      exact ⟨c + 1, i, rfl, by have := HRK.out; omega, by first | rfl | go_num, ⟨by rw [BP.tabI, hni]; exact SB.out⟩⟩
    | succ j =>
     have hjj : ((j + 1 : Nat) : Int) - 1 = (j : Int) := by omega
     rw [hjj]
     clear hjj
     have hj0 : (0 : Int) ≤ (j : Int) := by omega
     have hjb : j ≤ 4096 := by have := HSK.out; omega
     obtain ⟨T, hT⟩ : ∃ T, BP.tabJ m sh i (BP.tabI n m sh c) d = T := ⟨_, rfl⟩
     have hTl : T.length = N := by rw [← hT, BP.tabJ_length, BP.tabI_length, HN.out]
     rw [hT] at SB
     have HT := Aside0.mk hT
     clear hT
     have HTL := Aside0.mk hTl
     clear hTl
     go_upto_block 5 with (fail)
     refine wp_block ?_
     have ei1 : ((i + 1 : Nat) : Int) = (i : Int) + 1 := by omega
     have ej1 : ((j + 1 : Nat) : Int) = (j : Int) + 1 := by omega
     have hi1 : i + 1 ≤ n := by have := HRK.out; omega
     have hj1 : j + 1 ≤ m := by have := HSK.out; omega
     have hlt : ∀ p q, p ≤ n → q ≤ m → p * (m + 1) + q < T.length := fun p q hp hq => by rw [HTL.out, ← HN.out]; exact BP.place_lt hp hq
     have A : ∀ (W' : World) (p q : Nat), Below wr.heap.size wr W' → p ≤ n → q ≤ m → _ := fun W' p q hb hp hq => And.intro (AT.out T W' (SD.DWB.below SB.out hb) HTL.out p q hp hq) (swb_cells (SD.DWB.below SB.out hb) _ (hlt p q hp hq))
     refine fill_cell i j n m N gx gy gt gm g T W0 wr (sh i j) (by omega) (by omega) hn hm (BP.tabAt m T (i + 1) j) (BP.tabAt m T i (j + 1)) (BP.tabAt m T (i + 1) (j + 1)) HTL.out (by rw [← HTL.out]; exact hlt i j (by omega) (by omega)) SB.out
      ⟨fun W' hb => by have := A W' (i + 1) j hb hi1 (by omega); rw [ei1] at this; exact this⟩
      ⟨fun W' hb => by have := A W' i (j + 1) hb (by omega) hj1; rw [ej1] at this; exact this⟩
      ⟨fun W' hb => by have := A W' (i + 1) (j + 1) hb hi1 hj1; rw [ei1, ej1] at this; exact this⟩
      ⟨fun W' hb => (A W' i j hb (by omega) (by omega)).1⟩
      ⟨fun W' hb => SHR.out T W' (SD.DWB.below SB.out hb) i j (by omega) (by omega)⟩ _ _ _ _ _ _ _ _ _ _ _ _ _ _ _ _ _ _ _ _ _ _ _ _ _ _ _ _ _ _ _ _ _ _ _ _ _ _ _ _ _ _ _ _ _ _ _ _ _ _ _ _ _ _ _ _ _ _ _ _ _ _ _ _ _ _ _ _ _ _ _ _ _ _ _ _ _ _ _ _ _ _ _ _ _ _ _ _ _ _ _ _ _ _ _ _ _ _ _ _ _ _ _ _ _ _ _ _ _ _ _ _ _ _ _ _ _ _ _ _ _ _ _ _ _ _ _ _ _ _ _ _ _ _ _ _ _ _ _ _ _ _ _ _ _ _ _ _ _ _ _ _ _ _ _ _ _ _ _ _ _ _ _ _ _ _ _ _ _ _ _ _ _ _ _ _ _ _ _ _ _ _ _ _ _ _ _ _ _ _ _ _ _ _ ⟨fun u19 u20 u21 u22 u84 u85 u86 u87 u88 u89 u90 u91 u92 u93 u94 u95 u96 u97 u98 u99 u100 u101 u102 u103 u104 u105 u106 u107 u108 u109 u110 u111 u112 u113 u114 u115 u116 u117 u118 u119 u120 u121 u122 u123 u124 u125 u126 u127 u128 u129 u130 u131 u132 u133 W' hS => ?_⟩
     unfold Exit.inBlock
     unfold Exit.then
     dsimp only
     have HS' := Aside0.mk hS
     clear hS A hlt hi1 hj1 ei1 ej1
     go_wp2
     go_roundg j
     case measure => have := HSK.out; omega
     case rel =>
      have hdj : m - 1 - d = j := by have := HSK.out; omega
      exact ⟨d + 1, j, rfl, by have := HSK.out; omega, by first | rfl | go_num, ⟨by rw [BP.tabJ, hdj, HT.out]; exact HS'.out⟩⟩
theorem wp_norm_exit {P : Program} {c : Code} {a : Act} {w : World} (id : Nat) {Q : Exit → Act → World → Prop} (h : ∀ K K8 : Act → World → Prop, Aside0 (∀ a w, Q .normal a w → K a w) → Aside0 (∀ a w, Q (.exit id) a w → K8 a w) → c.wp P (Exit.then K (Exit.inBlock id (Exit.then K8 (fun _ _ _ => False)))) a w) : c.wp P Q a w := by
 refine wp_mono (h (fun a w => Q .normal a w) (fun a w => Q (.exit id) a w) ⟨fun _ _ h => h⟩ ⟨fun _ _ h => h⟩) (fun e a w hq => ?_)
 cases e with
 | normal => exact hq
 | exit k =>
  unfold Exit.then Exit.inBlock at hq
  dsimp only at hq
  split at hq
  ·rename_i h; rw [h]; exact hq
  ·exact hq.elim
 | goto l => exact hq.elim
 | ret => exact hq.elim
 | panic ch => exact hq.elim
 | outgrown => exact hq.elim
theorem eqA71 (d : Nat) (w : World) (x0 y0 : Int) (x1 y1 : Int) :
  (Op.equalIn (d + 2) 71 (.agg #[.int .i64 x0, .int .i64 x1]) (.agg #[.int .i64 y0, .int .i64 y1])).run Try.prog w = .ok (x0 == y0 && (x1 == y1)) w := by
 exact eqA_arr2 Try.underlying71 (by first | (go_simp; done) | (go_simp; rfl)) (by first | (go_simp; done) | (go_simp; rfl)) (by first | (go_simp; done) | (go_simp; rfl)) (by first | (go_simp; done) | (go_simp; rfl)) (by first | (go_simp; done) | (go_simp; rfl)) (by first | (go_simp; done) | (go_simp; rfl)) (by first | (go_simp; done) | (go_simp; rfl))
attribute [local go_sem high] eqA71
set_option maxHeartbeats 8000000 in
set_option maxRecDepth 100000 in
theorem find_cell (i j p q gx gy gt gm gw g a b : Nat) (W W1 : World) (sh : Int) (o want : Int × Int) (v : Value) (out : List S47) (hp : p ≤ 4096) (hq : q ≤ 4096)
  (A3 : Aside0 (∀ W', Below W.heap.size W W' → Calls Try.prog 33 #[.int .i64 ((p : Int) + 1), .int .i64 ((q : Int) + 1), .pointer (some ⟨gt, 0, none⟩), .pointer (some ⟨gm, 0, none⟩)] W' (fun e w' => e = .returned (.pointer (some ⟨g, a, none⟩)) ∧ w' = W') ∧ W'.cell? ⟨g, a, none⟩ = some (.int .i64 o.1) ∧ W'.cell? ⟨g, a + 1, none⟩ = some (.int .i64 o.2)))
  (SH : Aside0 (∀ W', Below W.heap.size W W' → Calls Try.prog 32 #[.int .i64 (p : Int), .int .i64 (q : Int), .pointer (some ⟨gx, 0, none⟩), .pointer (some ⟨gy, 0, none⟩)] W' fun e w' => e = .returned (.int .i64 sh) ∧ ∃ m, w' = W'.drewN m))
  (HW : Aside0 (W.heap[gw]? = some (.cells #[.int .i64 want.1, .int .i64 want.2] 71 (0, 0))))
  (HO : Aside0 (Kd.R k47 47 W b (fun k => k ≠ gw) v out)) (HB : Aside0 (Below b W1 W)) (HZ : Aside0 (b ≤ W.heap.size)) (HL : Aside0 (out.length ≤ 4096))
  (s0 s1 s2 s3 s4 s5 s6 s7 s8 s9 aA aB aC aD aE aF aG aH aI aJ aK aL aM aN aO aP aQ aR aS aT aU aV aW aX aY aZ bA bC bD bE bF bG bH bI bJ bK bL bM bN bO bP bQ bR bS bT bU bV bW bX bY bZ cA cB cC cD cE cF cG cH cI cJ cK cL cM cN cO cP cQ cR cS cT cU cV cW cX cY cZ dA dB dC dD dE dF dG dH dI dJ dK dL dM dN dO dP dQ dR dS dT dU dV dW dX dY dZ eA eB eC eD eE eF eG eH eI eJ eK eL eM eN eO eP eQ eR eS eT eU eV eW eX eY eZ fA fB fC fD fE fF fG fH fI fJ fK fL fM fN fO fP fQ fR fS fT fU fV fW fX fY fZ gA gB gC gD gE gF gG gH gI gJ gK gL gM gN gO gP gQ gR gS gT gU gV gW gX : Value) (Q : Exit → Act → World → Prop)
  (HQ : Aside0 ((¬ (0 < sh ∧ BP.plus o sh = want)) → ∀ (gY gZ hA hB hC hD hE hG hH hI hJ hM hO hP hQ hR hU hV hW hX hZ iA iB iC iD iE iF iG iH iI iJ iK iL iM iN iO iP iQ : Value) (W' : World), Below W.heap.size W W' → Q .normal ⟨List.toArray (s0::s1::s2::s3::s4::s5::s6::s7::s8::s9::aA::aB::aC::aD::.func (.func 32) #[] #[.pointer (some ⟨gx, 0, none⟩), .pointer (some ⟨gy, 0, none⟩)]::aE::.func (.func 33) #[] #[.pointer (some ⟨gt, 0, none⟩), .pointer (some ⟨gm, 0, none⟩)]::aF::aG::aH::aI::aJ::aK::v::.int .i64 (i : Int)::.int .i64 (j : Int)::.pointer (some ⟨gw, 0, none⟩)::.int .i64 (p : Int)::.int .i64 (q : Int)::gY::gZ::aN::aO::aP::aQ::aR::aS::aT::aU::aV::aW::aX::aY::aZ::bA::bC::bD::bE::bF::bG::bH::bI::bJ::bK::bL::bM::bN::bO::bP::bQ::bR::bS::bT::bU::bV::bW::bX::bY::bZ::cA::cB::cC::cD::cE::cF::cG::cH::cI::cJ::cK::cL::cM::cN::cO::cP::cQ::cR::cS::cT::cU::cV::cW::cX::cY::cZ::dA::dB::dC::dD::dE::dF::dG::dH::dI::dJ::dK::dL::dM::dN::dO::dP::dQ::dR::dS::dT::dU::dV::dW::dX::dY::dZ::eA::eB::eC::eD::eE::eF::eG::eH::eI::eJ::eK::eL::eM::eN::eO::eP::eQ::eR::eS::eT::eU::eV::eW::eX::eY::eZ::fA::fB::fC::fD::fE::fF::fG::fH::fI::fJ::fK::fL::fM::hA::hB::hC::hD::hE::hG::hH::hI::hJ::hM::hO::hP::hQ::hR::hU::hV::hW::hX::hZ::iA::iB::iC::iD::iE::iF::iG::iH::iI::iJ::iK::iL::iM::iN::iO::iP::iQ::gX::[]), []⟩ W'))
  (HQ8 : Aside0 (0 < sh ∧ BP.plus o sh = want → ∀ (gY gZ hA hB hC hD hE hG hH hI hJ hM hO hP hQ hR hU hV hW hX hZ iA iB iC iD iE iF iG iH iI iJ iK iL iM iN iO iP iQ v' : Value) (W' : World), Kd.R k47 47 W' b (fun k => k ≠ gw) v' (out ++ [⟨p, q⟩]) → Below b W1 W' → Q (.exit 8) ⟨List.toArray (s0::s1::s2::s3::s4::s5::s6::s7::s8::s9::aA::aB::aC::aD::.func (.func 32) #[] #[.pointer (some ⟨gx, 0, none⟩), .pointer (some ⟨gy, 0, none⟩)]::aE::.func (.func 33) #[] #[.pointer (some ⟨gt, 0, none⟩), .pointer (some ⟨gm, 0, none⟩)]::aF::aG::aH::aI::aJ::aK::v'::.int .i64 ((p : Int) + 1)::.int .i64 ((q : Int) + 1)::.pointer (some ⟨gw, 0, none⟩)::.int .i64 (p : Int)::.int .i64 (q : Int)::gY::gZ::aN::aO::aP::aQ::aR::aS::aT::aU::aV::aW::aX::aY::aZ::bA::bC::bD::bE::bF::bG::bH::bI::bJ::bK::bL::bM::bN::bO::bP::bQ::bR::bS::bT::bU::bV::bW::bX::bY::bZ::cA::cB::cC::cD::cE::cF::cG::cH::cI::cJ::cK::cL::cM::cN::cO::cP::cQ::cR::cS::cT::cU::cV::cW::cX::cY::cZ::dA::dB::dC::dD::dE::dF::dG::dH::dI::dJ::dK::dL::dM::dN::dO::dP::dQ::dR::dS::dT::dU::dV::dW::dX::dY::dZ::eA::eB::eC::eD::eE::eF::eG::eH::eI::eJ::eK::eL::eM::eN::eO::eP::eQ::eR::eS::eT::eU::eV::eW::eX::eY::eZ::fA::fB::fC::fD::fE::fF::fG::fH::fI::fJ::fK::fL::fM::hA::hB::hC::hD::hE::hG::hH::hI::hJ::hM::hO::hP::hQ::hR::hU::hV::hW::hX::hZ::iA::iB::iC::iD::iE::iF::iG::iH::iI::iJ::iK::iL::iM::iN::iO::iP::iQ::gX::[]), []⟩ W')) :
  (blk 11).wp Try.prog Q ⟨List.toArray (s0::s1::s2::s3::s4::s5::s6::s7::s8::s9::aA::aB::aC::aD::.func (.func 32) #[] #[.pointer (some ⟨gx, 0, none⟩), .pointer (some ⟨gy, 0, none⟩)]::aE::.func (.func 33) #[] #[.pointer (some ⟨gt, 0, none⟩), .pointer (some ⟨gm, 0, none⟩)]::aF::aG::aH::aI::aJ::aK::v::.int .i64 (i : Int)::.int .i64 (j : Int)::.pointer (some ⟨gw, 0, none⟩)::.int .i64 (p : Int)::.int .i64 (q : Int)::aL::aM::aN::aO::aP::aQ::aR::aS::aT::aU::aV::aW::aX::aY::aZ::bA::bC::bD::bE::bF::bG::bH::bI::bJ::bK::bL::bM::bN::bO::bP::bQ::bR::bS::bT::bU::bV::bW::bX::bY::bZ::cA::cB::cC::cD::cE::cF::cG::cH::cI::cJ::cK::cL::cM::cN::cO::cP::cQ::cR::cS::cT::cU::cV::cW::cX::cY::cZ::dA::dB::dC::dD::dE::dF::dG::dH::dI::dJ::dK::dL::dM::dN::dO::dP::dQ::dR::dS::dT::dU::dV::dW::dX::dY::dZ::eA::eB::eC::eD::eE::eF::eG::eH::eI::eJ::eK::eL::eM::eN::eO::eP::eQ::eR::eS::eT::eU::eV::eW::eX::eY::eZ::fA::fB::fC::fD::fE::fF::fG::fH::fI::fJ::fK::fL::fM::fN::fO::fP::fQ::fR::fS::fT::fU::fV::fW::fX::fY::fZ::gA::gB::gC::gD::gE::gF::gG::gH::gI::gJ::gK::gL::gM::gN::gO::gP::gQ::gR::gS::gT::gU::gV::gW::gX::[]), []⟩ W := by
 refine wp_norm_exit 8 fun K K8 HK HK8 => ?_
 conv => arg 2; whnf
 have hp0 : (0 : Int) ≤ (p : Int) := by omega
 have hq0 : (0 : Int) ≤ (q : Int) := by omega
 have bel0 : Below W.heap.size W W := Below.refl _ _
 have P3 := Aside0.mk (A3.out W bel0).1
 have c5 := (A3.out W bel0).2.1
 have c6 := (A3.out W bel0).2.2
 have HBo := Aside0.mk (below_alloc bel0 (.cells #[.int .i64 o.1, .int .i64 o.2] 71))
 clear bel0
 by_cases hs : 0 < sh
 case neg =>
  have hs0 : decide (0 < sh) = false := decide_eq_false hs
  have HSN := Aside0.mk (show ¬ (0 < sh ∧ BP.plus o sh = want) from fun h => hs h.1)
  clear hs
  go_wp2_with (first | (go_at_call 33; (with_reducible refine P3.out.mono ?_); rintro e w' ⟨rfl, hww⟩; rw [hww]; clear hww) | (go_at_call 32; refine (SH.out _ HBo.out).mono ?_; rintro e w6 ⟨rfl, nd, hw6⟩; have HB6 := Aside0.mk (hw6 ▸ pw_below_drewN HBo.out nd); have B29 := Aside0.mk (hw6 ▸ blk_drewN (blk_new W (.cells #[.int .i64 o.1, .int .i64 o.2] 71)) nd); have BW6 := Aside0.mk (blk_below HW.out HB6.out); clear hw6 c5 c6; obtain ⟨g0, g1, g2, g3⟩ := blk_cells2 B29.out; obtain ⟨g4, g5, g6, g7⟩ := blk_cells2 BW6.out; skip))
  exact HK.out _ _ (HQ.out HSN.out _ _ _ _ _ _ _ _ _ _ _ _ _ _ _ _ _ _ _ _ _ _ _ _ _ _ _ _ _ _ _ _ _ _ _ _ _ _ _ HB6.out)
 case pos =>
  have hs0 : decide (0 < sh) = true := decide_eq_true hs
  by_cases h1 : wrap64 (o.1 + sh) = want.1
  case neg =>
   have hb1 : (wrap64 (o.1 + sh) == want.1) = false := beq_eq_false_iff_ne.2 h1
   have HSN := Aside0.mk (show ¬ (0 < sh ∧ BP.plus o sh = want) from fun h => h1 (congrArg (·.1) h.2))
   clear hs h1
   go_wp2_with (first | (go_at_call 33; (with_reducible refine P3.out.mono ?_); rintro e w' ⟨rfl, hww⟩; rw [hww]; clear hww) | (go_at_call 32; refine (SH.out _ HBo.out).mono ?_; rintro e w6 ⟨rfl, nd, hw6⟩; have HB6 := Aside0.mk (hw6 ▸ pw_below_drewN HBo.out nd); have B29 := Aside0.mk (hw6 ▸ blk_drewN (blk_new W (.cells #[.int .i64 o.1, .int .i64 o.2] 71)) nd); have BW6 := Aside0.mk (blk_below HW.out HB6.out); clear hw6 c5 c6; obtain ⟨g0, g1, g2, g3⟩ := blk_cells2 B29.out; obtain ⟨g4, g5, g6, g7⟩ := blk_cells2 BW6.out; skip))
   exact HK.out _ _ (HQ.out HSN.out _ _ _ _ _ _ _ _ _ _ _ _ _ _ _ _ _ _ _ _ _ _ _ _ _ _ _ _ _ _ _ _ _ _ _ _ _ _ _ HB6.out)
  case pos =>
   have hb1 : (wrap64 (o.1 + sh) == want.1) = true := beq_iff_eq.2 h1
   by_cases h2 : wrap64 (o.2 + 1) = want.2
   case neg =>
    have hb2 : (wrap64 (o.2 + 1) == want.2) = false := beq_eq_false_iff_ne.2 h2
    have HSN := Aside0.mk (show ¬ (0 < sh ∧ BP.plus o sh = want) from fun h => h2 (congrArg (·.2) h.2))
    clear hs h1 h2
    go_wp2_with (first | (go_at_call 33; (with_reducible refine P3.out.mono ?_); rintro e w' ⟨rfl, hww⟩; rw [hww]; clear hww) | (go_at_call 32; refine (SH.out _ HBo.out).mono ?_; rintro e w6 ⟨rfl, nd, hw6⟩; have HB6 := Aside0.mk (hw6 ▸ pw_below_drewN HBo.out nd); have B29 := Aside0.mk (hw6 ▸ blk_drewN (blk_new W (.cells #[.int .i64 o.1, .int .i64 o.2] 71)) nd); have BW6 := Aside0.mk (blk_below HW.out HB6.out); clear hw6 c5 c6; obtain ⟨g0, g1, g2, g3⟩ := blk_cells2 B29.out; obtain ⟨g4, g5, g6, g7⟩ := blk_cells2 BW6.out; skip))
    exact HK.out _ _ (HQ.out HSN.out _ _ _ _ _ _ _ _ _ _ _ _ _ _ _ _ _ _ _ _ _ _ _ _ _ _ _ _ _ _ _ _ _ _ _ _ _ _ _ HB6.out)
   case pos =>
    have hb2 : (wrap64 (o.2 + 1) == want.2) = true := beq_iff_eq.2 h2
    have HSN := Aside0.mk (show 0 < sh ∧ BP.plus o sh = want from ⟨hs, Prod.ext h1 h2⟩)
    clear hs h1 h2
    go_wp2_with (first | (first | (go_at_call 33; (with_reducible refine P3.out.mono ?_); rintro e w' ⟨rfl, hww⟩; rw [hww]; clear hww) | (go_at_call 32; refine (SH.out _ HBo.out).mono ?_; rintro e w6 ⟨rfl, nd, hw6⟩; have HB6 := Aside0.mk (hw6 ▸ pw_below_drewN HBo.out nd); have B29 := Aside0.mk (hw6 ▸ blk_drewN (blk_new W (.cells #[.int .i64 o.1, .int .i64 o.2] 71)) nd); have BW6 := Aside0.mk (blk_below HW.out HB6.out); clear hw6 c5 c6; obtain ⟨g0, g1, g2, g3⟩ := blk_cells2 B29.out; obtain ⟨g4, g5, g6, g7⟩ := blk_cells2 BW6.out; have HO6 := Aside0.mk (Kd.R_below HO.out HB6.out); have HBB6 := Aside0.mk (HB.out.trans (HB6.out.mono HZ.out)); have HZ6 := Aside0.mk (Nat.le_trans HZ.out HB6.out.size); have HF6 := Aside0.mk (fun (k : Nat) (hk : w6.heap.size ≤ k) => (show k ≠ gw from fun e => by have h1 := blk_lt HW.out; have h2 := HB6.out.size; omega)))) | ((with_reducible refine gate_builtin (b := .append) (xs := #[.tmp 186, .tmp 190]) rfl ?_); at_builtin; refine Kd.R_append k47 (w0 := W1) b rfl (.tmp 186) (.tmp 190) 40 47 (.agg #[.int .i64 0, .int .i64 0]) 16 rfl Try.underlying40 info47 rfl (by decide) (by omega) v out (⟨p, q⟩ : S47) [.int .i64 p, .int .i64 q] (fun k => k ≠ gw) (fun _ => False) rfl rfl (k47_mkM _ _ _ _) (fun k hk => hk.elim) (fun k hk => HF6.out k hk) HO6.out HBB6.out HZ6.out (by have := HL.out; omega) ?_; intro v1 w7 hO7 hB7 hG7 hA7; have HO7 := Aside0.mk hO7; have HB7 := Aside0.mk hB7; clear hO7 hB7 hG7 hA7))
    exact HK8.out _ _ (HQ8.out HSN.out _ _ _ _ _ _ _ _ _ _ _ _ _ _ _ _ _ _ _ _ _ _ _ _ _ _ _ _ _ _ _ _ _ _ _ _ _ _ _ _ HO7.out HB7.out)
theorem inb_mono {id id2 : Nat} {Q : Exit → Act → World → Prop} {e : Exit} {a : Act} {w : World} (h : Exit.inBlock id (Exit.then (fun a w => Q .normal a w) (Exit.inBlock id2 (Exit.then (fun a w => Q (.exit id2) a w) (fun _ _ _ => False)))) e a w) : Exit.inBlock id Q e a w := by
 cases e with
 | normal => exact h
 | exit k =>
  unfold Exit.inBlock at h ⊢
  dsimp only at h ⊢
  split
  ·rename_i c; rw [if_pos c] at h; exact h
  ·rename_i c
   rw [if_neg c] at h
   unfold Exit.then at h
   dsimp only at h
   split at h
   ·rename_i c2; rw [c2]; exact h
   ·exact h.elim
 | goto l => exact h.elim
 | ret => exact h.elim
 | panic ch => exact h.elim
 | outgrown => exact h.elim
set_option maxHeartbeats 8000000 in
set_option maxRecDepth 100000 in
theorem find_q (i j p n m gx gy gt gm gw g b : Nat) (T : List (Int × Int)) (W W1 : World) (sh : Nat → Nat → Int) (want : Int × Int) (v : Value) (out : List S47) (hp : p < n) (hj : j ≤ m) (hn : n ≤ 4096) (hm : m ≤ 4096)
  (AT : Aside0 (∀ W' : World, Below W.heap.size W W' → ∀ p q : Nat, p ≤ n → q ≤ m → Calls Try.prog 33 #[.int .i64 (p : Int), .int .i64 (q : Int), .pointer (some ⟨gt, 0, none⟩), .pointer (some ⟨gm, 0, none⟩)] W' (fun e w' => e = .returned (.pointer (some ⟨g, (p * (m + 1) + q) * 2, none⟩)) ∧ w' = W') ∧ W'.cell? ⟨g, (p * (m + 1) + q) * 2, none⟩ = some (.int .i64 (BP.tabAt m T p q).1) ∧ W'.cell? ⟨g, (p * (m + 1) + q) * 2 + 1, none⟩ = some (.int .i64 (BP.tabAt m T p q).2)))
  (SHR : Aside0 (∀ W' : World, Below W.heap.size W W' → ∀ p q : Nat, p < n → q < m → Calls Try.prog 32 #[.int .i64 (p : Int), .int .i64 (q : Int), .pointer (some ⟨gx, 0, none⟩), .pointer (some ⟨gy, 0, none⟩)] W' fun e w' => e = .returned (.int .i64 (sh p q)) ∧ ∃ m, w' = W'.drewN m))
  (MB : Aside0 (∀ W' : World, Below W.heap.size W W' → W'.cell? ⟨gm, 0, none⟩ = some (.int .i64 (m : Int))))
  (HW : Aside0 (W.heap[gw]? = some (.cells #[.int .i64 want.1, .int .i64 want.2] 71 (0, 0))))
  (HO : Aside0 (Kd.R k47 47 W b (fun k => k ≠ gw) v out)) (HB : Aside0 (Below b W1 W)) (HZ : Aside0 (b ≤ W.heap.size)) (HL : Aside0 (out.length ≤ 4096))
  (s0 s1 s2 s3 s4 s5 s6 s7 s8 aA aB aC aD aE aF aG aH aI aJ aK aL aM aN aO aP aQ aR aS aT aU aV aW aX aY aZ bA bC bD bE bF bG bH bI bJ bK bL bM bN bO bP bQ bR bS bT bU bV bW bX bY bZ cA cB cC cD cE cF cG cH cI cJ cK cL cM cN cO cP cQ cR cS cT cU cV cW cX cY cZ dA dB dC dD dE dF dG dH dI dJ dK dL dM dN dO dP dQ dR dS dT dU dV dW dX dY dZ eA eB eC eD eE eF eG eH eI eJ eK eL eM eN eO eP eQ eR eS eT eU eV eW eX eY eZ fA fB fC fD fE fF fG fH fI fJ fK fL fM fN fO fP fQ fR fS fT fU fV fW fX fY fZ gA gB gC gD gE gF gG gH gI gJ gK gL gM gN gO gP gQ gR gS gT gU gV gW : Value) (Q : Exit → Act → World → Prop)
  (HQ : Aside0 (BP.findQ sh (BP.tabAt m T) want p (m - j) j = none → ∀ (gX gY gZ hA hB hC hD hE hG hH hI hJ hM hO hP hQ hR hU hV hW hX hZ iA iB iC iD iE iF iG iH iI iJ iK iL iM iN iO iP iQ iR iS iT iU iV : Value) (W' : World), Below W.heap.size W W' → Q .normal ⟨List.toArray (s0::s1::s2::s3::s4::s5::s6::s7::s8::.int .i64 (n : Int)::.pointer (some ⟨gm, 0, none⟩)::aA::aB::aC::.func (.func 32) #[] #[.pointer (some ⟨gx, 0, none⟩), .pointer (some ⟨gy, 0, none⟩)]::aD::.func (.func 33) #[] #[.pointer (some ⟨gt, 0, none⟩), .pointer (some ⟨gm, 0, none⟩)]::aE::aF::aG::aH::aI::aJ::v::.int .i64 (i : Int)::.int .i64 (j : Int)::.pointer (some ⟨gw, 0, none⟩)::.int .i64 (p : Int)::gX::gY::gZ::aM::aN::aO::aP::aQ::aR::aS::aT::aU::aV::aW::aX::aY::aZ::bA::bC::bD::bE::bF::bG::bH::bI::bJ::bK::bL::bM::bN::bO::bP::bQ::bR::bS::bT::bU::bV::bW::bX::bY::bZ::cA::cB::cC::cD::cE::cF::cG::cH::cI::cJ::cK::cL::cM::cN::cO::cP::cQ::cR::cS::cT::cU::cV::cW::cX::cY::cZ::dA::dB::dC::dD::dE::dF::dG::dH::dI::dJ::dK::dL::dM::dN::dO::dP::dQ::dR::dS::dT::dU::dV::dW::dX::dY::dZ::eA::eB::eC::eD::eE::eF::eG::eH::eI::eJ::eK::eL::eM::eN::eO::eP::eQ::eR::eS::eT::eU::eV::eW::eX::eY::eZ::fA::fB::fC::fD::fE::fF::fG::hA::hB::hC::hD::hE::hG::hH::hI::hJ::hM::hO::hP::hQ::hR::hU::hV::hW::hX::hZ::iA::iB::iC::iD::iE::iF::iG::iH::iI::iJ::iK::iL::iM::iN::iO::iP::iQ::iR::iS::iT::iU::iV::gW::[]), []⟩ W'))
  (HQ8 : Aside0 (∀ q, BP.findQ sh (BP.tabAt m T) want p (m - j) j = some q → ∀ (gX gY gZ hA hB hC hD hE hG hH hI hJ hM hO hP hQ hR hU hV hW hX hZ iA iB iC iD iE iF iG iH iI iJ iK iL iM iN iO iP iQ iR iS iT iU iV v' : Value) (W' : World), Kd.R k47 47 W' b (fun k => k ≠ gw) v' (out ++ [⟨p, q⟩]) → Below b W1 W' → Q (.exit 8) ⟨List.toArray (s0::s1::s2::s3::s4::s5::s6::s7::s8::.int .i64 (n : Int)::.pointer (some ⟨gm, 0, none⟩)::aA::aB::aC::.func (.func 32) #[] #[.pointer (some ⟨gx, 0, none⟩), .pointer (some ⟨gy, 0, none⟩)]::aD::.func (.func 33) #[] #[.pointer (some ⟨gt, 0, none⟩), .pointer (some ⟨gm, 0, none⟩)]::aE::aF::aG::aH::aI::aJ::v'::.int .i64 ((p : Int) + 1)::.int .i64 ((q : Int) + 1)::.pointer (some ⟨gw, 0, none⟩)::.int .i64 (p : Int)::gX::gY::gZ::aM::aN::aO::aP::aQ::aR::aS::aT::aU::aV::aW::aX::aY::aZ::bA::bC::bD::bE::bF::bG::bH::bI::bJ::bK::bL::bM::bN::bO::bP::bQ::bR::bS::bT::bU::bV::bW::bX::bY::bZ::cA::cB::cC::cD::cE::cF::cG::cH::cI::cJ::cK::cL::cM::cN::cO::cP::cQ::cR::cS::cT::cU::cV::cW::cX::cY::cZ::dA::dB::dC::dD::dE::dF::dG::dH::dI::dJ::dK::dL::dM::dN::dO::dP::dQ::dR::dS::dT::dU::dV::dW::dX::dY::dZ::eA::eB::eC::eD::eE::eF::eG::eH::eI::eJ::eK::eL::eM::eN::eO::eP::eQ::eR::eS::eT::eU::eV::eW::eX::eY::eZ::fA::fB::fC::fD::fE::fF::fG::hA::hB::hC::hD::hE::hG::hH::hI::hJ::hM::hO::hP::hQ::hR::hU::hV::hW::hX::hZ::iA::iB::iC::iD::iE::iF::iG::iH::iI::iJ::iK::iL::iM::iN::iO::iP::iQ::iR::iS::iT::iU::iV::gW::[]), []⟩ W')) :
  (blk 10).wp Try.prog (Exit.inBlock 10 Q) ⟨List.toArray (s0::s1::s2::s3::s4::s5::s6::s7::s8::.int .i64 (n : Int)::.pointer (some ⟨gm, 0, none⟩)::aA::aB::aC::.func (.func 32) #[] #[.pointer (some ⟨gx, 0, none⟩), .pointer (some ⟨gy, 0, none⟩)]::aD::.func (.func 33) #[] #[.pointer (some ⟨gt, 0, none⟩), .pointer (some ⟨gm, 0, none⟩)]::aE::aF::aG::aH::aI::aJ::v::.int .i64 (i : Int)::.int .i64 (j : Int)::.pointer (some ⟨gw, 0, none⟩)::.int .i64 (p : Int)::.int .i64 (j : Int)::aK::aL::aM::aN::aO::aP::aQ::aR::aS::aT::aU::aV::aW::aX::aY::aZ::bA::bC::bD::bE::bF::bG::bH::bI::bJ::bK::bL::bM::bN::bO::bP::bQ::bR::bS::bT::bU::bV::bW::bX::bY::bZ::cA::cB::cC::cD::cE::cF::cG::cH::cI::cJ::cK::cL::cM::cN::cO::cP::cQ::cR::cS::cT::cU::cV::cW::cX::cY::cZ::dA::dB::dC::dD::dE::dF::dG::dH::dI::dJ::dK::dL::dM::dN::dO::dP::dQ::dR::dS::dT::dU::dV::dW::dX::dY::dZ::eA::eB::eC::eD::eE::eF::eG::eH::eI::eJ::eK::eL::eM::eN::eO::eP::eQ::eR::eS::eT::eU::eV::eW::eX::eY::eZ::fA::fB::fC::fD::fE::fF::fG::fH::fI::fJ::fK::fL::fM::fN::fO::fP::fQ::fR::fS::fT::fU::fV::fW::fX::fY::fZ::gA::gB::gC::gD::gE::gF::gG::gH::gI::gJ::gK::gL::gM::gN::gO::gP::gQ::gR::gS::gT::gU::gV::gW::[]), []⟩ W := by
 refine wp_mono (Q := Exit.inBlock 10 (Exit.then (fun a w => Q .normal a w) (Exit.inBlock 8 (Exit.then (fun a w => Q (.exit 8) a w) (fun _ _ _ => False))))) ?_ (fun e a w hq => inb_mono hq)
 obtain ⟨K, hK⟩ : ∃ K : Act → World → Prop, K = fun a w => Q .normal a w := ⟨_, rfl⟩
 obtain ⟨K8, hK8⟩ : ∃ K : Act → World → Prop, K = fun a w => Q (.exit 8) a w := ⟨_, rfl⟩
 rw [← hK, ← hK8]
 have HK : Aside0 (∀ a w, Q .normal a w → K a w) := ⟨fun a w h => by rw [hK]; exact h⟩
 have HK8 : Aside0 (∀ a w, Q (.exit 8) a w → K8 a w) := ⟨fun a w h => by rw [hK8]; exact h⟩
 clear hK hK8
 conv => arg 2; whnf
 have HP := Aside0.mk hp
 have HJ := Aside0.mk hj
 clear hp hj
 go_loopg [23, 24, 25, 28] (m - j) (fun kx v23 v24 v25 v28 w' => ∃ q : Nat, v28 = .int .i64 (q : Int) ∧ v23 = v ∧ v24 = .int .i64 (i : Int) ∧ v25 = .int .i64 (j : Int) ∧ q + kx = m ∧ Aside0 (Below W.heap.size W w') ∧ Aside0 (BP.findQ sh (BP.tabAt m T) want p (m - j) j = BP.findQ sh (BP.tabAt m T) want p kx q))
 case atStart => exact ⟨j, rfl, rfl, rfl, rfl, by have := HJ.out; omega, ⟨Below.refl _ _⟩, ⟨rfl⟩⟩
 case round =>
  obtain ⟨q, rfl, rfl, rfl, rfl, hqk, HBW, HF⟩ := hrel
  have HKQ := Aside0.mk hqk
  clear hqk
  have ck10 := MB.out _ HBW.out
  cases gk with
  | zero =>
   have hlt : decide ((q : Int) < (m : Int)) = false := decide_eq_false (by have := HKQ.out; omega)
   have hlt2 : decide (q < m) = false := decide_eq_false (by have := HKQ.out; omega)
   go_wp2
   exact HK.out _ _ (HQ.out HF.out _ _ _ _ _ _ _ _ _ _ _ _ _ _ _ _ _ _ _ _ _ _ _ _ _ _ _ _ _ _ _ _ _ _ _ _ _ _ _ _ _ _ _ _ _ HBW.out)
  | succ r =>
   have hlt : decide ((q : Int) < (m : Int)) = true := decide_eq_true (by have := HKQ.out; omega)
   have hlt2 : decide (q < m) = true := decide_eq_true (by have := HKQ.out; omega)
   go_upto_block 11 with (fail)
   clear hlt hlt2 ck10
   refine wp_block ?_
   have ei1 : ((p + 1 : Nat) : Int) = (p : Int) + 1 := by omega
   have ej1 : ((q + 1 : Nat) : Int) = (q : Int) + 1 := by omega
   have hi1 : p + 1 ≤ n := by have := HP.out; omega
   have hj1 : q + 1 ≤ m := by have := HKQ.out; omega
   refine find_cell i j p q gx gy gt gm gw g _ b wr W1 (sh p q) (BP.tabAt m T (p + 1) (q + 1)) want _ out (by omega) (by omega)
    ⟨fun W' hb => by have := AT.out W' (below_step HBW.out hb) (p + 1) (q + 1) hi1 hj1; rw [ei1, ej1] at this; exact this⟩
    ⟨fun W' hb => SHR.out W' (below_step HBW.out hb) p q (by omega) (by omega)⟩ ⟨blk_below HW.out HBW.out⟩ ⟨Kd.R_below HO.out HBW.out⟩ ⟨HB.out.trans (HBW.out.mono HZ.out)⟩ ⟨Nat.le_trans HZ.out HBW.out.size⟩ HL _ _ _ _ _ _ _ _ _ _ _ _ _ _ _ _ _ _ _ _ _ _ _ _ _ _ _ _ _ _ _ _ _ _ _ _ _ _ _ _ _ _ _ _ _ _ _ _ _ _ _ _ _ _ _ _ _ _ _ _ _ _ _ _ _ _ _ _ _ _ _ _ _ _ _ _ _ _ _ _ _ _ _ _ _ _ _ _ _ _ _ _ _ _ _ _ _ _ _ _ _ _ _ _ _ _ _ _ _ _ _ _ _ _ _ _ _ _ _ _ _ _ _ _ _ _ _ _ _ _ _ _ _ _ _ _ _ _ _ _ _ _ _ _ _ _ _ _ _ _ _ _ _ _ _ _ _ _ _ _ _ _ _ _ _ _ _ _ _ _ _ _ _ _ _ _ _ _ _ _ _ _ _ _ _ _ _ _ _ _ ⟨fun hno x29 x30 x160 x161 x162 x163 x164 x165 x166 x167 x168 x169 x170 x171 x172 x173 x174 x175 x176 x177 x178 x179 x180 x181 x182 x183 x184 x185 x186 x187 x188 x189 x190 x191 x192 x193 x194 x195 W' hB' => ?_⟩ ⟨fun hyes x29 x30 x160 x161 x162 x163 x164 x165 x166 x167 x168 x169 x170 x171 x172 x173 x174 x175 x176 x177 x178 x179 x180 x181 x182 x183 x184 x185 x186 x187 x188 x189 x190 x191 x192 x193 x194 x195 v' W' hR' hB' => ?_⟩
   ·have HF2 : Aside0 (BP.findQ sh (BP.tabAt m T) want p (m - j) j = BP.findQ sh (BP.tabAt m T) want p r (q + 1)) := ⟨by rw [HF.out, BP.findQ, if_neg]; unfold BP.hit; simp only [Bool.and_eq_true, decide_eq_true_eq]; exact hno⟩
    have HB2 := Aside0.mk (below_step HBW.out hB')
    clear hno hB' hi1 hj1 ei1 ej1
    unfold Exit.inBlock
    unfold Exit.then
    dsimp only
    have hq9 : q ≤ 4096 := by have := HKQ.out; omega
    go_wp2
    go_roundg r
    case measure => omega
    case rel => exact ⟨q + 1, by first | rfl | go_num, rfl, rfl, rfl, by have := HKQ.out; omega, HB2, HF2⟩
   ·have hF : BP.findQ sh (BP.tabAt m T) want p (m - j) j = some q := by rw [HF.out, BP.findQ, if_pos]; unfold BP.hit; simp only [Bool.and_eq_true, decide_eq_true_eq]; exact hyes
    exact HK8.out _ _ (HQ8.out q hF _ _ _ _ _ _ _ _ _ _ _ _ _ _ _ _ _ _ _ _ _ _ _ _ _ _ _ _ _ _ _ _ _ _ _ _ _ _ _ _ _ _ _ _ _ _ hR' hB')
set_option maxHeartbeats 8000000 in
set_option maxRecDepth 100000 in
theorem find_p (i j n m gx gy gt gm gw g b : Nat) (T : List (Int × Int)) (W W1 : World) (sh : Nat → Nat → Int) (want : Int × Int) (v : Value) (out : List S47) (pq : Nat × Nat) (hi : i ≤ n) (hj : j ≤ m) (hn : n ≤ 4096) (hm : m ≤ 4096)
  (AT : Aside0 (∀ W' : World, Below W.heap.size W W' → ∀ p q : Nat, p ≤ n → q ≤ m → Calls Try.prog 33 #[.int .i64 (p : Int), .int .i64 (q : Int), .pointer (some ⟨gt, 0, none⟩), .pointer (some ⟨gm, 0, none⟩)] W' (fun e w' => e = .returned (.pointer (some ⟨g, (p * (m + 1) + q) * 2, none⟩)) ∧ w' = W') ∧ W'.cell? ⟨g, (p * (m + 1) + q) * 2, none⟩ = some (.int .i64 (BP.tabAt m T p q).1) ∧ W'.cell? ⟨g, (p * (m + 1) + q) * 2 + 1, none⟩ = some (.int .i64 (BP.tabAt m T p q).2)))
  (SHR : Aside0 (∀ W' : World, Below W.heap.size W W' → ∀ p q : Nat, p < n → q < m → Calls Try.prog 32 #[.int .i64 (p : Int), .int .i64 (q : Int), .pointer (some ⟨gx, 0, none⟩), .pointer (some ⟨gy, 0, none⟩)] W' fun e w' => e = .returned (.int .i64 (sh p q)) ∧ ∃ m, w' = W'.drewN m))
  (MB : Aside0 (∀ W' : World, Below W.heap.size W W' → W'.cell? ⟨gm, 0, none⟩ = some (.int .i64 (m : Int))))
  (HW : Aside0 (W.heap[gw]? = some (.cells #[.int .i64 want.1, .int .i64 want.2] 71 (0, 0))))
  (HO : Aside0 (Kd.R k47 47 W b (fun k => k ≠ gw) v out)) (HB : Aside0 (Below b W1 W)) (HZ : Aside0 (b ≤ W.heap.size)) (HL : Aside0 (out.length ≤ 4096))
  (HF : Aside0 (BP.findP sh (BP.tabAt m T) m want j (n - i) i = some pq))
  (s0 s1 s2 s3 s4 s5 s6 s7 s8 aA aB aC aD aE aF aG aH aI aJ aK aL aM aN aO aP aQ aR aS aT aU aV aW aX aY aZ bA bC bD bE bF bG bH bI bJ bK bL bM bN bO bP bQ bR bS bT bU bV bW bX bY bZ cA cB cC cD cE cF cG cH cI cJ cK cL cM cN cO cP cQ cR cS cT cU cV cW cX cY cZ dA dB dC dD dE dF dG dH dI dJ dK dL dM dN dO dP dQ dR dS dT dU dV dW dX dY dZ eA eB eC eD eE eF eG eH eI eJ eK eL eM eN eO eP eQ eR eS eT eU eV eW eX eY eZ fA fB fC fD fE fF fG fH fI fJ fK fL fM fN fO fP fQ fR fS fT fU fV fW fX fY fZ gA gB gC gD gE gF gG gH gI gJ gK gL gM gN gO gP gQ gR gS gT gU gV gW gX : Value) (Q : Exit → Act → World → Prop)
  (HQ : Aside0 (∀ (gY gZ hA hB hC hD hE hG hH hI hJ hM hO hP hQ hR hU hV hW hX hZ iA iB iC iD iE iF iG iH iI iJ iK iL iM iN iO iP iQ iR iS iT iU iV iW iX iY iZ jA jB jC jD v' : Value) (W' : World), Kd.R k47 47 W' b (fun k => k ≠ gw) v' (out ++ [⟨pq.1, pq.2⟩]) → Below b W1 W' → Q .normal ⟨List.toArray (s0::s1::s2::s3::s4::s5::s6::s7::s8::.int .i64 (n : Int)::.pointer (some ⟨gm, 0, none⟩)::aA::aB::aC::.func (.func 32) #[] #[.pointer (some ⟨gx, 0, none⟩), .pointer (some ⟨gy, 0, none⟩)]::aD::.func (.func 33) #[] #[.pointer (some ⟨gt, 0, none⟩), .pointer (some ⟨gm, 0, none⟩)]::aE::aF::aG::aH::aI::aJ::v'::.int .i64 ((pq.1 : Int) + 1)::.int .i64 ((pq.2 : Int) + 1)::.pointer (some ⟨gw, 0, none⟩)::gY::gZ::hA::hB::aN::aO::aP::aQ::aR::aS::aT::aU::aV::aW::aX::aY::aZ::bA::bC::bD::bE::bF::bG::bH::bI::bJ::bK::bL::bM::bN::bO::bP::bQ::bR::bS::bT::bU::bV::bW::bX::bY::bZ::cA::cB::cC::cD::cE::cF::cG::cH::cI::cJ::cK::cL::cM::cN::cO::cP::cQ::cR::cS::cT::cU::cV::cW::cX::cY::cZ::dA::dB::dC::dD::dE::dF::dG::dH::dI::dJ::dK::dL::dM::dN::dO::dP::dQ::dR::dS::dT::dU::dV::dW::dX::dY::dZ::eA::eB::eC::eD::eE::eF::eG::eH::eI::eJ::eK::eL::eM::eN::eO::eP::eQ::eR::eS::eT::eU::eV::eW::eX::eY::eZ::fA::fB::hC::hD::hE::hG::hH::hI::hJ::hM::hO::hP::hQ::hR::hU::hV::hW::hX::hZ::iA::iB::iC::iD::iE::iF::iG::iH::iI::iJ::iK::iL::iM::iN::iO::iP::iQ::iR::iS::iT::iU::iV::iW::iX::iY::iZ::jA::jB::jC::jD::gX::[]), []⟩ W')) :
  (blk 8).wp Try.prog (Exit.inBlock 8 Q) ⟨List.toArray (s0::s1::s2::s3::s4::s5::s6::s7::s8::.int .i64 (n : Int)::.pointer (some ⟨gm, 0, none⟩)::aA::aB::aC::.func (.func 32) #[] #[.pointer (some ⟨gx, 0, none⟩), .pointer (some ⟨gy, 0, none⟩)]::aD::.func (.func 33) #[] #[.pointer (some ⟨gt, 0, none⟩), .pointer (some ⟨gm, 0, none⟩)]::aE::aF::aG::aH::aI::aJ::v::.int .i64 (i : Int)::.int .i64 (j : Int)::.pointer (some ⟨gw, 0, none⟩)::.int .i64 (i : Int)::aK::aL::aM::aN::aO::aP::aQ::aR::aS::aT::aU::aV::aW::aX::aY::aZ::bA::bC::bD::bE::bF::bG::bH::bI::bJ::bK::bL::bM::bN::bO::bP::bQ::bR::bS::bT::bU::bV::bW::bX::bY::bZ::cA::cB::cC::cD::cE::cF::cG::cH::cI::cJ::cK::cL::cM::cN::cO::cP::cQ::cR::cS::cT::cU::cV::cW::cX::cY::cZ::dA::dB::dC::dD::dE::dF::dG::dH::dI::dJ::dK::dL::dM::dN::dO::dP::dQ::dR::dS::dT::dU::dV::dW::dX::dY::dZ::eA::eB::eC::eD::eE::eF::eG::eH::eI::eJ::eK::eL::eM::eN::eO::eP::eQ::eR::eS::eT::eU::eV::eW::eX::eY::eZ::fA::fB::fC::fD::fE::fF::fG::fH::fI::fJ::fK::fL::fM::fN::fO::fP::fQ::fR::fS::fT::fU::fV::fW::fX::fY::fZ::gA::gB::gC::gD::gE::gF::gG::gH::gI::gJ::gK::gL::gM::gN::gO::gP::gQ::gR::gS::gT::gU::gV::gW::gX::[]), []⟩ W := by
 refine wp_norm_blk fun K HK => ?_
 conv => arg 2; whnf
 have HI := Aside0.mk hi
 clear hi
 go_loopg [23, 24, 25, 27] (n - i) (fun kx v23 v24 v25 v27 w' => ∃ p : Nat, v27 = .int .i64 (p : Int) ∧ v23 = v ∧ v24 = .int .i64 (i : Int) ∧ v25 = .int .i64 (j : Int) ∧ p + kx = n ∧ Aside0 (Below W.heap.size W w') ∧ Aside0 (BP.findP sh (BP.tabAt m T) m want j kx p = some pq))
 case atStart => exact ⟨i, rfl, rfl, rfl, rfl, by have := HI.out; omega, ⟨Below.refl _ _⟩, HF⟩
 case round =>
  clear HF
  obtain ⟨p, rfl, rfl, rfl, rfl, hpk, HBW, HF⟩ := hrel
  have HKP := Aside0.mk hpk
  clear hpk
  cases gk with
  | zero => exact absurd HF.out (by simp [BP.findP])
  | succ r =>
   have hp9 : p < 4096 := by have := HKP.out; omega
   have hlt : decide ((p : Int) < (n : Int)) = true := decide_eq_true (by have := HKP.out; omega)
   have hlt2 : decide (p < n) = true := decide_eq_true (by have := HKP.out; omega)
   go_upto_block 10 with (fail)
   clear hlt hlt2
   refine wp_block ?_
   refine find_q i j p n m gx gy gt gm gw g b T wr W1 sh want _ out (by have := HKP.out; omega) hj hn hm ⟨fun W' hb => AT.out W' (below_step HBW.out hb)⟩ ⟨fun W' hb => SHR.out W' (below_step HBW.out hb)⟩ ⟨fun W' hb => MB.out W' (below_step HBW.out hb)⟩
    ⟨blk_below HW.out HBW.out⟩ ⟨Kd.R_below HO.out HBW.out⟩ ⟨HB.out.trans (HBW.out.mono HZ.out)⟩ ⟨Nat.le_trans HZ.out HBW.out.size⟩ HL _ _ _ _ _ _ _ _ _ _ _ _ _ _ _ _ _ _ _ _ _ _ _ _ _ _ _ _ _ _ _ _ _ _ _ _ _ _ _ _ _ _ _ _ _ _ _ _ _ _ _ _ _ _ _ _ _ _ _ _ _ _ _ _ _ _ _ _ _ _ _ _ _ _ _ _ _ _ _ _ _ _ _ _ _ _ _ _ _ _ _ _ _ _ _ _ _ _ _ _ _ _ _ _ _ _ _ _ _ _ _ _ _ _ _ _ _ _ _ _ _ _ _ _ _ _ _ _ _ _ _ _ _ _ _ _ _ _ _ _ _ _ _ _ _ _ _ _ _ _ _ _ _ _ _ _ _ _ _ _ _ _ _ _ _ _ _ _ _ _ _ _ _ _ _ _ _ _ _ _ _ _ _ _ _ _ _ _ ⟨fun hno x28 x29 x30 x155 x156 x157 x158 x159 x160 x161 x162 x163 x164 x165 x166 x167 x168 x169 x170 x171 x172 x173 x174 x175 x176 x177 x178 x179 x180 x181 x182 x183 x184 x185 x186 x187 x188 x189 x190 x191 x192 x193 x194 x195 W' hB' => ?_⟩ ⟨fun q hyes x28 x29 x30 x155 x156 x157 x158 x159 x160 x161 x162 x163 x164 x165 x166 x167 x168 x169 x170 x171 x172 x173 x174 x175 x176 x177 x178 x179 x180 x181 x182 x183 x184 x185 x186 x187 x188 x189 x190 x191 x192 x193 x194 x195 v' W' hR' hB' => ?_⟩
   ·have HF2 : Aside0 (BP.findP sh (BP.tabAt m T) m want j r (p + 1) = some pq) := ⟨by have h := HF.out; rw [BP.findP, hno] at h; exact h⟩
    have HB2 := Aside0.mk (below_step HBW.out hB')
    clear hno hB'
    unfold Exit.then
    (try dsimp only)
    go_wp2
    go_roundg r
    case measure => omega
    case rel => exact ⟨p + 1, by first | rfl | go_num, rfl, rfl, rfl, by have := HKP.out; omega, HB2, HF2⟩
   ·have hF : (p, q) = pq := by have h := HF.out; rw [BP.findP, hyes] at h; exact Option.some.inj h
    subst hF
    have HR' := Aside0.mk hR'
    have HB' := Aside0.mk hB'
    clear hR' hB' hyes
    exact HK.out _ _ (HQ.out _ _ _ _ _ _ _ _ _ _ _ _ _ _ _ _ _ _ _ _ _ _ _ _ _ _ _ _ _ _ _ _ _ _ _ _ _ _ _ _ _ _ _ _ _ _ _ _ _ _ _ _ _ HR'.out HB'.out)
attribute [local go_sem high] eqA71
set_option maxHeartbeats 8000000 in
set_option maxRecDepth 100000 in
theorem walk_row (k n m gx gy gt gm g : Nat) (T : List (Int × Int)) (W : World) (sh : Nat → Nat → Int) (L0 : List (Nat × Nat)) (hn : n ≤ 4096) (hm : m ≤ 4096)
  (AT : Aside0 (∀ W' : World, Below W.heap.size W W' → ∀ p q : Nat, p ≤ n → q ≤ m → Calls Try.prog 33 #[.int .i64 (p : Int), .int .i64 (q : Int), .pointer (some ⟨gt, 0, none⟩), .pointer (some ⟨gm, 0, none⟩)] W' (fun e w' => e = .returned (.pointer (some ⟨g, (p * (m + 1) + q) * 2, none⟩)) ∧ w' = W') ∧ W'.cell? ⟨g, (p * (m + 1) + q) * 2, none⟩ = some (.int .i64 (BP.tabAt m T p q).1) ∧ W'.cell? ⟨g, (p * (m + 1) + q) * 2 + 1, none⟩ = some (.int .i64 (BP.tabAt m T p q).2)))
  (SHR : Aside0 (∀ W' : World, Below W.heap.size W W' → ∀ p q : Nat, p < n → q < m → Calls Try.prog 32 #[.int .i64 (p : Int), .int .i64 (q : Int), .pointer (some ⟨gx, 0, none⟩), .pointer (some ⟨gy, 0, none⟩)] W' fun e w' => e = .returned (.int .i64 (sh p q)) ∧ ∃ m, w' = W'.drewN m))
  (MB : Aside0 (∀ W' : World, Below W.heap.size W W' → W'.cell? ⟨gm, 0, none⟩ = some (.int .i64 (m : Int))))
  (HL0 : Aside0 (BP.rowL sh (BP.tabAt m T) n m k 0 0 = some L0))
  (s0 s1 s2 s3 s4 s5 s6 s7 s8 aA aB aC aD aE aF aG aH aI aJ aK aL aM aN aO aP aQ aR aS aT aU aV aW aX aY aZ bA bC bD bE bF bG bH bI bJ bK bL bM bN bO bP bQ bR bS bT bU bV bW bX bY bZ cA cB cC cD cE cF cG cH cI cJ cK cL cM cN cO cP cQ cR cS cT cU cV cW cX cY cZ dA dB dC dD dE dF dG dH dI dJ dK dL dM dN dO dP dQ dR dS dT dU dV dW dX dY dZ eA eB eC eD eE eF eG eH eI eJ eK eL eM eN eO eP eQ eR eS eT eU eV eW eX eY eZ fA fB fC fD fE fF fG fH fI fJ fK fL fM fN fO fP fQ fR fS fT fU fV fW fX fY fZ gA gB gC gD gE gF gG gH gI gJ gK gL gM gN gO gP gQ gR gS gT gU gV gW gX gY gZ : Value) (Q : Exit → Act → World → Prop)
  (HQ : Aside0 (∀ (hA hB hC hD hE hG hH hI hJ hM hO hP hQ hR hU hV hW hX hZ iA iB iC iD iE iF iG iH iI iJ iK iL iM iN iO iP iQ iR iS iT iU iV iW iX iY iZ jA jB jC jD jE jF jG jH jI jJ jK jL jM jN jO jP jQ jR jS jT jU jV jW jX v' : Value) (W' : World), Kd.R k47 47 W' W.heap.size (fun _ => True) v' (L0.map fun x => ⟨(x.1 : Int), (x.2 : Int)⟩) → Below W.heap.size W W' → Q .normal ⟨List.toArray (s0::s1::s2::s3::s4::s5::s6::s7::s8::.int .i64 (n : Int)::.pointer (some ⟨gm, 0, none⟩)::aA::aB::aC::.func (.func 32) #[] #[.pointer (some ⟨gx, 0, none⟩), .pointer (some ⟨gy, 0, none⟩)]::aD::.func (.func 33) #[] #[.pointer (some ⟨gt, 0, none⟩), .pointer (some ⟨gm, 0, none⟩)]::aE::aF::aG::aH::aI::aJ::v'::hA::hB::hC::hD::hE::hG::hH::aP::aQ::aR::aS::aT::aU::aV::aW::aX::aY::aZ::bA::bC::bD::bE::bF::bG::bH::bI::bJ::bK::bL::bM::bN::bO::bP::bQ::bR::bS::bT::bU::bV::bW::bX::bY::bZ::cA::cB::cC::cD::cE::cF::cG::cH::cI::cJ::cK::cL::cM::cN::cO::cP::cQ::cR::cS::cT::cU::cV::cW::cX::cY::cZ::dA::dB::dC::dD::dE::dF::dG::dH::dI::dJ::dK::dL::dM::dN::dO::dP::dQ::dR::dS::dT::dU::dV::dW::dX::dY::dZ::eA::eB::eC::eD::eE::eF::eG::eH::eI::eJ::eK::eL::eM::eN::eO::hI::hJ::hM::hO::hP::hQ::hR::hU::hV::hW::hX::hZ::iA::iB::iC::iD::iE::iF::iG::iH::iI::iJ::iK::iL::iM::iN::iO::iP::iQ::iR::iS::iT::iU::iV::iW::iX::iY::iZ::jA::jB::jC::jD::jE::jF::jG::jH::jI::jJ::jK::jL::jM::jN::jO::jP::jQ::jR::jS::jT::jU::jV::jW::jX::gZ::[]), []⟩ W')) :
  (blk 6).wp Try.prog (Exit.inBlock 6 Q) ⟨List.toArray (s0::s1::s2::s3::s4::s5::s6::s7::s8::.int .i64 (n : Int)::.pointer (some ⟨gm, 0, none⟩)::aA::aB::aC::.func (.func 32) #[] #[.pointer (some ⟨gx, 0, none⟩), .pointer (some ⟨gy, 0, none⟩)]::aD::.func (.func 33) #[] #[.pointer (some ⟨gt, 0, none⟩), .pointer (some ⟨gm, 0, none⟩)]::aE::aF::aG::aH::aI::aJ::.slice none 0 0::.int .i64 0::.int .i64 0::aK::aL::aM::aN::aO::aP::aQ::aR::aS::aT::aU::aV::aW::aX::aY::aZ::bA::bC::bD::bE::bF::bG::bH::bI::bJ::bK::bL::bM::bN::bO::bP::bQ::bR::bS::bT::bU::bV::bW::bX::bY::bZ::cA::cB::cC::cD::cE::cF::cG::cH::cI::cJ::cK::cL::cM::cN::cO::cP::cQ::cR::cS::cT::cU::cV::cW::cX::cY::cZ::dA::dB::dC::dD::dE::dF::dG::dH::dI::dJ::dK::dL::dM::dN::dO::dP::dQ::dR::dS::dT::dU::dV::dW::dX::dY::dZ::eA::eB::eC::eD::eE::eF::eG::eH::eI::eJ::eK::eL::eM::eN::eO::eP::eQ::eR::eS::eT::eU::eV::eW::eX::eY::eZ::fA::fB::fC::fD::fE::fF::fG::fH::fI::fJ::fK::fL::fM::fN::fO::fP::fQ::fR::fS::fT::fU::fV::fW::fX::fY::fZ::gA::gB::gC::gD::gE::gF::gG::gH::gI::gJ::gK::gL::gM::gN::gO::gP::gQ::gR::gS::gT::gU::gV::gW::gX::gY::gZ::[]), []⟩ W := by
 refine wp_norm_blk fun K HK => ?_
 conv => arg 2; whnf
 go_loopg [23, 24, 25] k (fun kx v23 v24 v25 w' => ∃ (i j : Nat) (out L : List (Nat × Nat)), v24 = .int .i64 (i : Int) ∧ v25 = .int .i64 (j : Int) ∧ i ≤ n ∧ j ≤ m ∧ Aside0 (Below W.heap.size W w') ∧ Aside0 (Kd.R k47 47 w' W.heap.size (fun _ => True) v23 (out.map fun x => ⟨(x.1 : Int), (x.2 : Int)⟩)) ∧ Aside0 (BP.rowL sh (BP.tabAt m T) n m kx i j = some L) ∧ Aside0 (out ++ L = L0) ∧ Aside0 (out.length ≤ i))
 case atStart => exact ⟨0, 0, [], L0, rfl, rfl, Nat.zero_le _, Nat.zero_le _, ⟨Below.refl _ _⟩, ⟨Kd.R_nil _ _ _ _ _⟩, HL0, ⟨rfl⟩, ⟨Nat.le_refl _⟩⟩
 case round =>
  clear HL0
  obtain ⟨i, j, out, L, rfl, rfl, hi, hj, HBW, HR, HROW, HOUT, HLEN⟩ := hrel
  cases gk with
  | zero => exact absurd HROW.out (by simp [BP.rowL])
  | succ r =>
   obtain ⟨P1', c1, c2⟩ := AT.out _ HBW.out i j hi hj
   have P1 := Aside0.mk P1'
   clear P1'
   obtain ⟨w0, hw0⟩ : ∃ w0, BP.tabAt m T i j = w0 := ⟨_, rfl⟩
   rw [hw0] at c1 c2
   have HW0 := Aside0.mk hw0
   clear hw0
   by_cases h0 : w0 = (0, 0)
   ·have e1 : (w0.1 == 0) = true := by rw [h0]; rfl
    have e2 : (w0.2 == 0) = true := by rw [h0]; rfl
    have HLn : Aside0 (L = []) := ⟨by have h := HROW.out; rw [BP.rowL, if_pos (by rw [HW0.out]; exact h0)] at h; exact (Option.some.inj h).symm⟩
    clear h0
    go_wp2_with (first | (go_at_call 33; first | ((with_reducible refine P1.out.mono ?_); rintro e w' ⟨rfl, hww⟩; rw [hww]; clear hww)))
    refine HK.out _ _ (HQ.out _ _ _ _ _ _ _ _ _ _ _ _ _ _ _ _ _ _ _ _ _ _ _ _ _ _ _ _ _ _ _ _ _ _ _ _ _ _ _ _ _ _ _ _ _ _ _ _ _ _ _ _ _ _ _ _ _ _ _ _ _ _ _ _ _ _ _ _ _ _ _ ?_ HBW.out)
    have := HOUT.out
    rw [HLn.out, List.append_nil] at this
    rw [← this]
    exact HR.out
   ·have hne : (w0.1 == 0 && (w0.2 == 0)) = false := by
     rw [Bool.eq_false_iff]
     intro h
     rw [Bool.and_eq_true, beq_iff_eq, beq_iff_eq] at h
     exact h0 (Prod.ext h.1 h.2)
    have hne2 : w0.1 = 0 → ¬ w0.2 = 0 := fun a b => h0 (Prod.ext a b)
    obtain ⟨pq, L', hfp, hL', hLc⟩ : ∃ pq L', BP.findP sh (BP.tabAt m T) m w0 j (n - i) i = some pq ∧ BP.rowL sh (BP.tabAt m T) n m r (pq.1 + 1) (pq.2 + 1) = some L' ∧ L = pq::L' := by
     have h := HROW.out
     rw [BP.rowL, if_neg (by rw [HW0.out]; exact h0), HW0.out] at h
     cases e : BP.findP sh (BP.tabAt m T) m w0 j (n - i) i with
     | none => rw [e] at h; simp at h
     | some pq =>
      rw [e] at h
      dsimp only at h
      obtain ⟨L', h1, h2⟩ := Option.map_eq_some_iff.1 h
      exact ⟨pq, L', rfl, h1, h2.symm⟩
    have HFP := Aside0.mk hfp
    have HL' := Aside0.mk hL'
    have HLC := Aside0.mk hLc
    clear h0 hfp hL' hLc
    go_upto_block 8 with (first | (go_at_call 33; first | ((with_reducible refine P1.out.mono ?_); rintro e w' ⟨rfl, hww⟩; rw [hww]; clear hww)))
    go_step3
    go_upto_block 8 with (first | (go_at_call 33; first | ((with_reducible refine P1.out.mono ?_); rintro e w' ⟨rfl, hww⟩; rw [hww]; clear hww)))
    go_step3
    go_upto_block 8 with (fail)
    refine wp_block ?_
    have HBA := Aside0.mk (below_alloc HBW.out (.cells #[.int .i64 w0.1, .int .i64 w0.2] 71))
    have HRA := Aside0.mk (Kd.R_mono (ok' := fun k_ => k_ ≠ wr.heap.size) (Kd.R_alloc (Kd.R_bound HR.out) (.cells #[.int .i64 w0.1, .int .i64 w0.2] 71)) (fun k_ hk => by have := hk.2.2.1; omega))
    have HSZ := Aside0.mk (below_size HBW.out)
    refine find_p i j n m gx gy gt gm wr.heap.size g W.heap.size T _ W sh w0 u23 _ pq hi hj hn hm ⟨fun W' hb => AT.out W' (below_step HBA.out hb)⟩ ⟨fun W' hb => SHR.out W' (below_step HBA.out hb)⟩ ⟨fun W' hb => MB.out W' (below_step HBA.out hb)⟩ ⟨blk_new _ _⟩ HRA HBA ⟨below_size HBA.out⟩ ⟨by rw [List.length_map]; have := HLEN.out; omega⟩ HFP _ _ _ _ _ _ _ _ _ _ _ _ _ _ _ _ _ _ _ _ _ _ _ _ _ _ _ _ _ _ _ _ _ _ _ _ _ _ _ _ _ _ _ _ _ _ _ _ _ _ _ _ _ _ _ _ _ _ _ _ _ _ _ _ _ _ _ _ _ _ _ _ _ _ _ _ _ _ _ _ _ _ _ _ _ _ _ _ _ _ _ _ _ _ _ _ _ _ _ _ _ _ _ _ _ _ _ _ _ _ _ _ _ _ _ _ _ _ _ _ _ _ _ _ _ _ _ _ _ _ _ _ _ _ _ _ _ _ _ _ _ _ _ _ _ _ _ _ _ _ _ _ _ _ _ _ _ _ _ _ _ _ _ _ _ _ _ _ _ _ _ _ _ _ _ _ _ _ _ _ _ _ _ _ _ _ _ _ _ ⟨fun x27 x28 x29 x30 x149 x150 x151 x152 x153 x154 x155 x156 x157 x158 x159 x160 x161 x162 x163 x164 x165 x166 x167 x168 x169 x170 x171 x172 x173 x174 x175 x176 x177 x178 x179 x180 x181 x182 x183 x184 x185 x186 x187 x188 x189 x190 x191 x192 x193 x194 x195 v' W' hR' hB' => ?_⟩
    have hpb := BP.findP_some hj HFP.out
    unfold Exit.noGoto Exit.inBlock
    (try dsimp only)
    have HR' := Aside0.mk (Kd.R_mono (ok' := fun _ => True) hR' (fun _ _ => trivial))
    have HB' := Aside0.mk hB'
    have HPB := Aside0.mk hpb
    clear hR' hB' hpb
    go_wp2
    go_roundg r
    case measure => omega
    case rel => exact ⟨pq.1 + 1, pq.2 + 1, out ++ [pq], L', by first | rfl | go_num, by first | rfl | go_num, by have := HPB.out.2.1; omega, by have := HPB.out.2.2.2.1; omega, HB', ⟨by rw [List.map_append]; exact HR'.out⟩, HL', ⟨by rw [← HOUT.out, HLC.out, List.append_assoc]; rfl⟩, ⟨by have := HLEN.out; have := HPB.out.1; simp; omega⟩⟩
end Go.Proofs.Ytlbicmdfdpcdiaa.PDa
