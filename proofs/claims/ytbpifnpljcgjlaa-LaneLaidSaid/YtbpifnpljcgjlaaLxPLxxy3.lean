-- Written by programs of this session's (wip/printer) out of the translation and of the print's words; Lean checks it.
import Derived.Test.YtbpifnpljcgjlaaLxPLxx0
import Derived.Test.YtbpifnpljcgjlaaLxPLxx11
import Derived.Test.YtbpifnpljcgjlaaLxPLxx12
import Derived.Test.YtbpifnpljcgjlaaLxPLxx13
import Derived.Test.YtbpifnpljcgjlaaLxPLxx14
import Derived.Test.YtbpifnpljcgjlaaLxPLxx15
import Derived.Test.YtbpifnpljcgjlaaLxPLxxy1
import Derived.Test.YtbpifnpljcgjlaaLxPLxxy2
namespace Go.Proofs.Ytbpifnpljcgjlaa.PLx
open Go.RowKit Go.Proofs.YtbpifnpljcgjlaaW.PrintWords Go.Proofs.YtbpifnpljcgjlaaW.PrintLast Go.Proofs.YtbpifnpljcgjlaaW.PrintMore
attribute [local go_sem] max2_int min2_int max_two min_two max_three min_three max_four min_four   -- for this text's walks alone
set_option linter.unusedVariables false
set_option linter.unusedSimpArgs false
def freeV (l : List Int) : Nat → Nat → Int × Bool
 | 0, _ => (0, false)
 | m + 1, n => if (n : Int) ∈ l then freeV l m (n + 1) else ((n : Int), true)
theorem getD_mem {l : List Int} {i : Nat} (h : i < l.length) : l.getD i 0 ∈ l := by
 rw [List.getD_eq_getElem?_getD, List.getElem?_eq_getElem h]; exact List.getElem_mem h
theorem free_inner (l : List Int) (hl : l.length ≤ 4097) (M n : Nat) (hM : M ≤ 4098) (hn : n < M) (v : Int × Bool) : ∀ (m i : Nat), i + m = l.length → ((n : Int) ∈ l → Tells (fun k => lane_free_int.l0 k 1 (M : Int) l ((n + 1 : Nat) : Int) ((n + 1 : Nat) : Int)) v) →
  ((∀ j, i ≤ j → j < l.length → l.getD j 0 ≠ (n : Int)) → v = ((n : Int), true)) →
  Tells (fun k => lane_free_int.l1 k 1 (M : Int) l (n : Int) (n : Int) false l (l.length : Int) (i : Int)) v
 | 0, i, h, h1, h2 => by
  refine Tells.step (g := fun _ => some ((n : Int), true)) (fun k => ?_) ?_
  ·simp only [lane_free_int.l1]
   rw [if_neg (by omega)]
   rfl
  ·rw [h2 fun j a b => by omega]; exact Tells.const _
 | m + 1, i, h, h1, h2 => by
  have hs : ∀ k, lane_free_int.l1 (k + 1) 1 (M : Int) l (n : Int) (n : Int) false l (l.length : Int) (i : Int) = if (l.getD i 0 == (n : Int)) = true then lane_free_int.l0 k 1 (M : Int) l ((n + 1 : Nat) : Int) ((n + 1 : Nat) : Int) else lane_free_int.l1 k 1 (M : Int) l (n : Int) (n : Int) false l (l.length : Int) ((i + 1 : Nat) : Int) := fun k => by
   simp only [lane_free_int.l1]
   rw [if_pos (by omega), if_pos (by omega), if_pos (by omega), wrap64_id (a := (n : Int) + 1) (by unfold I64; omega), wrap64_id (a := (i : Int) + 1) (by unfold I64; omega)]
   rfl
  by_cases hx : l.getD i 0 = (n : Int)
  ·exact Tells.step hs (Tells.pos (by simpa using hx) (h1 (by rw [← hx]; exact getD_mem (by omega))))
  ·refine Tells.step hs (Tells.neg (by simpa using hx) (free_inner l hl M n hM hn v m (i + 1) (by omega) h1 fun h' => h2 fun j a b => ?_))
   rcases Nat.lt_or_ge i j with q | q
   ·exact h' j q b
   ·obtain rfl : j = i := by omega
    exact hx
theorem free_loop (l : List Int) (hl : l.length ≤ 4097) (M : Nat) (hM : M ≤ 4098) : ∀ (m n : Nat), n + m = M → Tells (fun k => lane_free_int.l0 k 1 (M : Int) l (n : Int) (n : Int)) (freeV l m n)
 | 0, n, h => Tells.step (g := fun _ => some (0, false)) (fun k => by simp only [lane_free_int.l0]; rw [if_neg (by omega)]) (Tells.const _)
 | m + 1, n, h => by
  refine Tells.step (g := fun k => lane_free_int.l1 k 1 (M : Int) l (n : Int) (n : Int) false l (l.length : Int) ((0 : Nat) : Int)) (fun k => by simp only [lane_free_int.l0]; rw [if_pos (by omega)]; rfl) ?_
  unfold freeV
  refine free_inner l hl M n hM (by omega) _ l.length 0 (by omega) (fun hm => ?_) (fun hn => ?_)
  ·rw [if_pos hm]; exact free_loop l hl M hM m (n + 1) (by omega)
  ·rw [if_neg]
   intro hm
   obtain ⟨j, hj, e⟩ := List.getElem_of_mem hm
   exact hn j (by omega) hj (by rw [List.getD_eq_getElem?_getD, List.getElem?_eq_getElem hj]; exact e)
theorem freeV_bound (l : List Int) : ∀ m n, 0 ≤ (freeV l m n).1 ∧ (freeV l m n).1 < (n : Int) + m + 1
 | 0, n => by
  unfold freeV
  show (0 : Int) ≤ 0 ∧ (0 : Int) < _
  omega
 | m + 1, n => by
  unfold freeV
  split
  ·have := freeV_bound l m (n + 1)
   omega
  ·show (0 : Int) ≤ (n : Int) ∧ (n : Int) < _
   omega
def aheadL (d : List S41) (L : List Int) (i : Nat) : Nat → List Int
 | 0 => []
 | j + 1 => if (d.getD j z41).f3 = (d.getD i z41).f3 ∧ cmpI ((d.getD j z41).f1.f0 * (d.getD i z41).f0.f1) ((d.getD i z41).f0.f0 * (d.getD j z41).f1.f1) > 0 then aheadL d L i j ++ [L.getD j 0] else aheadL d L i j
theorem aheadL_length (d : List S41) (L : List Int) (i : Nat) : ∀ j, (aheadL d L i j).length ≤ j
 | 0 => by simp [aheadL]
 | j + 1 => by
  unfold aheadL
  have := aheadL_length d L i j
  split
  ·simp; omega
  ·omega
def laneV (d : List S41) (L : List Int) (i : Nat) : Int := (freeV (aheadL d L i i) ((aheadL d L i i).length + 1) 0).1
def lanesV (d : List S41) : Nat → List Int
 | 0 => List.replicate d.length 0
 | i + 1 => (lanesV d i).set i (laneV d (lanesV d i) i)
def manyV (d : List S41) : Nat → Int
 | 0 => 0
 | i + 1 => mx (manyV d i) (laneV d (lanesV d i) i + 1)
theorem lanesV_length (d : List S41) : ∀ i, (lanesV d i).length = d.length
 | 0 => by simp [lanesV]
 | i + 1 => by simp [lanesV, lanesV_length d i]
theorem laneV_bound (d : List S41) (L : List Int) (i : Nat) : 0 ≤ laneV d L i ∧ laneV d L i ≤ i + 1 := by
 have h1 := freeV_bound (aheadL d L i i) ((aheadL d L i i).length + 1) 0
 have h2 := aheadL_length d L i i
 unfold laneV; omega
theorem lanes_inner (d : List S41) (hG : ∀ a ∈ d, G41 a) (hd : docOK d) (L : List Int) (hL : L.length = d.length) (many : Int) (i : Nat) (hi : i < d.length) (v : List Int × Int × Option (Int × Int))
  (hv : Tells (fun k => lane_Lanes.l0 k (L.set i (laneV d L i)) (mx many (laneV d L i + 1)) d (d.length : Int) ((i + 1 : Nat) : Int) d) v) : ∀ (m j : Nat), j + m = i →
  Tells (fun k => lane_Lanes.l1 k L many (i : Int) (aheadL d L i j) d (d.length : Int) (i : Int) (i : Int) (j : Int) d (d.getD i z41).f0.f0 (d.getD i z41).f0.f1 (d.getD i z41).f1.f0 (d.getD i z41).f1.f1 (d.getD i z41).f2 (d.getD i z41).f3 (d.getD i z41).f4 (d.getD i z41).f5.f0 (d.getD i z41).f5.f1) v
 | 0, j, h => by
  obtain rfl : j = i := by omega
  have hl := aheadL_length d L j j
  have hd1 := hd.1
  have hb := laneV_bound d L j
  have hf := free_loop (aheadL d L j j) (by omega) ((aheadL d L j j).length + 1) (by omega) ((aheadL d L j j).length + 1) 0 (by omega)
  refine Tells.step (g := fun k => (lane_free_int.f k 0 1 (wrap64 (((aheadL d L j j).length : Int) + 1)) (aheadL d L j j)).bind fun b => if 0 ≤ (j : Int) then if (j : Int) < (L.length : Int) then lane_Lanes.l0 k (L.set j b.1) (mx many (wrap64 (rd (L.set j b.1) (j : Int) + 1))) d (d.length : Int) (wrap64 ((j : Int) + 1)) d else none else none) (fun k => ?_) ?_
  ·simp only [lane_Lanes.l1]
   rw [if_neg (by omega)]
   rfl
  ·rw [wrap64_id (by unfold I64; omega)]
   refine Tells.bind (v := freeV (aheadL d L j j) ((aheadL d L j j).length + 1) 0) hf ?_
   refine Tells.pos (by omega) (Tells.pos (by omega) ?_)
   have e : rd (L.set j (freeV (aheadL d L j j) ((aheadL d L j j).length + 1) 0).1) (j : Int) = laneV d L j := by
    rw [rdI_nat, List.getD_eq_getElem?_getD, List.getElem?_set_self (by omega)]; rfl
   rw [e, wrap64_id (by unfold I64; omega), wrap64_id (by unfold I64; omega)]
   exact hv
 | m + 1, j, h => by
  have hl := aheadL_length d L i j
  have hd1 := hd.1
  have ga := G_at hG (show j < d.length by omega)
  have gb := G_at hG hi
  have oa := (hd.2.1 j (by omega)).1
  have ob := (hd.2.1 i hi).1
  have hc := Cmp_tells (I64.of_wf ga.2.1.1) (I64.of_wf ga.2.1.2) (I64.of_wf gb.1.1) (I64.of_wf gb.1.2) (timeE_pos oa.2.1) (timeE_pos ob.1)
  have ih := lanes_inner d hG hd L hL many i hi v hv m (j + 1) (by omega)
  have hs : ∀ k A, A = aheadL d L i j → lane_Lanes.l1 (k + 1) L many (i : Int) A d (d.length : Int) (i : Int) (i : Int) (j : Int) d (d.getD i z41).f0.f0 (d.getD i z41).f0.f1 (d.getD i z41).f1.f0 (d.getD i z41).f1.f1 (d.getD i z41).f2 (d.getD i z41).f3 (d.getD i z41).f4 (d.getD i z41).f5.f0 (d.getD i z41).f5.f1 = lane_Lanes.l1 k L many (i : Int) (aheadL d L i (j + 1)) d (d.length : Int) (i : Int) (i : Int) ((j + 1 : Nat) : Int) d (d.getD i z41).f0.f0 (d.getD i z41).f0.f1 (d.getD i z41).f1.f0 (d.getD i z41).f1.f1 (d.getD i z41).f2 (d.getD i z41).f3 (d.getD i z41).f4 (d.getD i z41).f5.f0 (d.getD i z41).f5.f1 := fun k A hA => by
   simp only [lane_Lanes.l1]
   rw [if_pos (by omega), if_pos (by omega), if_pos (by omega), rdC_nat, hc, wrap64_id (a := (j : Int) + 1) (by unfold I64; omega)]
   simp only [Option.bind_some]
   by_cases c1 : (d.getD j z41).f3 = (d.getD i z41).f3
   ·rw [if_pos c1]
    by_cases c2 : cmpI ((d.getD j z41).f1.f0 * (d.getD i z41).f0.f1) ((d.getD i z41).f0.f0 * (d.getD j z41).f1.f1) > 0
    ·rw [if_pos c2, if_pos (by omega), if_pos (by rw [hA]; omega), rdI_nat]
     conv => rhs; rw [aheadL, if_pos ⟨c1, c2⟩]
     rw [hA]; rfl
    ·rw [if_neg c2]
     conv => rhs; rw [aheadL, if_neg (fun h => c2 h.2)]
     rw [hA]; rfl
   ·rw [if_neg c1]
    conv => rhs; rw [aheadL, if_neg (fun h => c1 h.1)]
    rw [hA]; rfl
  exact Tells.step (fun k => hs k _ rfl) ih
theorem lanes_loop (d : List S41) (hG : ∀ a ∈ d, G41 a) (hd : docOK d) : ∀ (m i : Nat), i + m = d.length →
  Tells (fun k => lane_Lanes.l0 k (lanesV d i) (manyV d i) d (d.length : Int) (i : Int) d) (lanesV d d.length, manyV d d.length, none)
 | 0, i, h => by
  obtain rfl : i = d.length := by omega
  exact Tells.step (g := fun _ => some _) (fun k => by simp only [lane_Lanes.l0]; rw [if_neg (by omega)]) (Tells.const _)
 | m + 1, i, h => by
  have ih := lanes_loop d hG hd m (i + 1) (by omega)
  have hin := lanes_inner d hG hd (lanesV d i) (lanesV_length d i) (manyV d i) i (by omega) _ ih i 0 (by omega)
  refine Tells.step (fun k => ?_) hin
  simp only [lane_Lanes.l0]
  rw [if_pos (by omega), if_pos (by omega), if_pos (by omega), rdC_nat]
  rfl
theorem lanes_tells (d : List S41) (hG : ∀ a ∈ d, G41 a) (hd : docOK d) : Tells (fun k => lane_Lanes.f k d) (lanesV d d.length, manyV d d.length, none) := by
 obtain ⟨r, q1, q2⟩ := checkDoc_tells d hG
 obtain rfl := q2.2 hd
 have hd1 := hd.1
 refine Tells.bind q1 (Tells.pos rfl (Tells.pos (by omega) (Tells.pos (by omega) ?_)))
 have := lanes_loop d hG hd d.length 0 (by omega)
 exact this
theorem lanes_refused (d : List S41) (hG : ∀ a ∈ d, G41 a) (hd : ¬ docOK d) : ∃ e, Tells (fun k => lane_Lanes.f k d) ([], 0, some e) := by
 obtain ⟨r, q1, q2⟩ := checkDoc_tells d hG
 cases r with
 | none => exact absurd (q2.1 rfl) hd
 | some e => exact ⟨e, Tells.bind q1 (Tells.neg (by simp) (Tells.const _))⟩
theorem one_tells (x : S41) (h : x.f5.f1.length ≤ 256) : cue_one.f x.f0.f0 x.f0.f1 x.f1.f0 x.f1.f1 x.f2 x.f3 x.f4 x.f5.f0 x.f5.f1 = some (x.f0.f0, x.f0.f1, x.f1.f0, x.f1.f1, x.f2, x.f3, x.f4, x.f5.f0, x.f5.f1) := by
 unfold cue_one.f
 rw [if_pos (by simp; omega)]
 rfl
theorem twin_loop (l : List S41) (hl : l.length ≤ 8192) (hs : ∀ a ∈ l, a.f5.f1.length ≤ 256) : ∀ (m i : Nat), i + m = l.length → Tells (fun k => cue_twin.l0 k (l.take i) l (l.length : Int) (i : Int)) l
 | 0, i, h => by
  obtain rfl : i = l.length := by omega
  rw [List.take_length]
  exact Tells.step (g := fun _ => some l) (fun k => by simp only [cue_twin.l0]; rw [if_neg (by omega)]) (Tells.const _)
 | m + 1, i, h => by
  have hi : i < l.length := by omega
  have e : l.getD i z41 = l[i] := by rw [List.getD_eq_getElem?_getD, List.getElem?_eq_getElem hi]; rfl
  have ho := one_tells (l.getD i z41) (by rw [e]; exact hs _ (List.getElem_mem hi))
  refine Tells.step (fun k => ?_) (twin_loop l hl hs m (i + 1) (by omega))
  simp only [cue_twin.l0]
  rw [if_pos (by omega), if_pos (by omega), if_pos (by omega), rdC_nat, ho, wrap64_id (by unfold I64; omega)]
  simp only [Option.bind_some]
  rw [if_pos (by rw [List.length_take]; omega), List.take_add_one, List.getElem?_eq_getElem hi, ← e]
  rfl
theorem Twin_tells (l : List S41) (hl : l.length ≤ 8192) (hs : ∀ a ∈ l, a.f5.f1.length ≤ 256) : Tells (fun k => cue_Twin.f k l) l :=
 Tells.bind (twin_loop l hl hs l.length 0 (by omega)) (Tells.const _)
def inLane (x : S41) (n : Int) : S41 := ⟨x.f0, x.f1, n, x.f3, x.f4, x.f5⟩
def laid (d : List S41) (L : List Int) : Nat → List S41
 | 0 => d
 | i + 1 => (laid d L i).set i (inLane (d.getD i z41) (L.getD i 0))
theorem laid_length (d : List S41) (L : List Int) : ∀ i, (laid d L i).length = d.length
 | 0 => rfl
 | i + 1 => by simp [laid, laid_length d L i]
theorem laid_at (d : List S41) (L : List Int) : ∀ i j, j < d.length → (laid d L i).getD j z41 = if j < i then inLane (d.getD j z41) (L.getD j 0) else d.getD j z41
 | 0, j, hj => by rw [if_neg (by omega)]; rfl
 | i + 1, j, hj => by
  unfold laid
  rw [List.getD_eq_getElem?_getD]
  by_cases e : j = i
  ·subst e
   rw [List.getElem?_set_self (by rw [laid_length]; exact hj), if_pos (by omega)]; rfl
  ·rw [List.getElem?_set_ne (by omega), ← List.getD_eq_getElem?_getD, laid_at d L i j hj]
   by_cases q : j < i
   ·rw [if_pos q, if_pos (by omega)]
   ·rw [if_neg q, if_neg (by omega)]
theorem lay_loop (d : List S41) (hd : d.length ≤ 4096) (L : List Int) (hL : L.length = d.length) : ∀ (m i : Nat), i + m = d.length →
  (∀ j, j < d.length → i ≤ j → L.getD j 0 < 8) → Tells (fun k => lane_Lay.l0 k L (L.length : Int) (i : Int) (laid d L i)) (laid d L d.length, none)
 | 0, i, h, hb => by
  obtain rfl : i = d.length := by omega
  exact Tells.step (g := fun _ => some _) (fun k => by simp only [lane_Lay.l0]; rw [if_neg (by omega)]) (Tells.const _)
 | m + 1, i, h, hb => by
  have hn := hb i (by omega) (Nat.le_refl _)
  refine Tells.step (fun k => ?_) (lay_loop d hd L hL m (i + 1) (by omega) fun j a b => hb j a (by omega))
  simp only [lane_Lay.l0]
  have hlen := laid_length d L i
  rw [if_pos (by omega), if_pos (by omega), if_pos (by omega), rdI_nat, if_neg (by omega), if_pos (by omega), rdC_nat, laid_at d L i i (by omega), if_neg (by omega), wrap64_id (by unfold I64; omega)]
  rfl
theorem lay_full (d : List S41) (hd : d.length ≤ 4096) (L : List Int) (hL : L.length = d.length) (j : Nat) (hj : j < d.length) (hv : L.getD j 0 ≥ 8) : ∀ (m i : Nat), i + m = d.length → i ≤ j →
  ∃ e, Tells (fun k => lane_Lay.l0 k L (L.length : Int) (i : Int) (laid d L i)) ([], some e)
 | 0, i, h, hb => by omega
 | m + 1, i, h, hb => by
  have hlen := laid_length d L i
  by_cases hn : L.getD i 0 ≥ 8
  ·refine ⟨((i : Int), 35), Tells.step (g := fun _ => some _) (fun k => ?_) (Tells.const _)⟩
   simp only [lane_Lay.l0]
   rw [if_pos (by omega), if_pos (by omega), if_pos (by omega), rdI_nat, if_pos hn]
  ·have : i ≠ j := fun e => by subst e; exact hn hv
   obtain ⟨e, q⟩ := lay_full d hd L hL j hj hv m (i + 1) (by omega) (by omega)
   refine ⟨e, Tells.step (fun k => ?_) q⟩
   simp only [lane_Lay.l0]
   rw [if_pos (by omega), if_pos (by omega), if_pos (by omega), rdI_nat, if_neg hn, if_pos (by omega), rdC_nat, laid_at d L i i (by omega), if_neg (by omega), wrap64_id (by unfold I64; omega)]
   rfl
theorem docOK_spans {d : List S41} (h : docOK d) : ∀ a ∈ d, a.f5.f1.length ≤ 256 := fun a ha => by
 obtain ⟨j, hj, rfl⟩ := List.getElem_of_mem ha
 have := (h.2.1 j hj).1.2.2.2.2.2.2.1
 rwa [List.getD_eq_getElem?_getD, List.getElem?_eq_getElem hj] at this
theorem lay_tells (d : List S41) (hG : ∀ a ∈ d, G41 a) (hd : docOK d) : ((∀ j, j < d.length → (lanesV d d.length).getD j 0 < 8) → Tells (fun k => lane_Lay.f k d) (laid d (lanesV d d.length) d.length, none)) ∧
  ((∃ j, j < d.length ∧ (lanesV d d.length).getD j 0 ≥ 8) → ∃ e, Tells (fun k => lane_Lay.f k d) ([], some e)) := by
 have h1 := lanes_tells d hG hd
 have h2 := Twin_tells d (by have := hd.1; omega) (docOK_spans hd)
 have hl := lanesV_length d d.length
 constructor
 ·intro h
  refine Tells.bind h1 (Tells.pos rfl (Tells.bind h2 ?_))
  exact lay_loop d hd.1 _ hl d.length 0 (by omega) fun j a _ => h j a
 ·rintro ⟨j, hj, hv⟩
  obtain ⟨e, q⟩ := lay_full d hd.1 _ hl j hj hv d.length 0 (by omega) (by omega)
  exact ⟨e, Tells.bind h1 (Tells.pos rfl (Tells.bind h2 q))⟩
theorem lay_refused (d : List S41) (hG : ∀ a ∈ d, G41 a) (hd : ¬ docOK d) : ∃ e, Tells (fun k => lane_Lay.f k d) ([], some e) := by
 obtain ⟨e, q⟩ := lanes_refused d hG hd
 exact ⟨_, Tells.bind q (Tells.neg (by simp) (Tells.const _))⟩
theorem lanes_at (d : List S41) : ∀ i j, j < d.length → (lanesV d i).getD j 0 = if j < i then laneV d (lanesV d j) j else 0
 | 0, j, hj => by
  rw [if_neg (by omega), lanesV, List.getD_eq_getElem?_getD, List.getElem?_replicate_of_lt hj]; rfl
 | i + 1, j, hj => by
  rw [lanesV, List.getD_eq_getElem?_getD]
  by_cases e : j = i
  ·subst e
   rw [List.getElem?_set_self (by rw [lanesV_length]; exact hj), if_pos (by omega)]; rfl
  ·rw [List.getElem?_set_ne (by omega), ← List.getD_eq_getElem?_getD, lanes_at d i j hj]
   by_cases q : j < i
   ·rw [if_pos q, if_pos (by omega)]
   ·rw [if_neg q, if_neg (by omega)]
theorem many_le (d : List S41) (b : Int) (hb : 0 ≤ b) : ∀ i, manyV d i ≤ b ↔ ∀ j, j < i → laneV d (lanesV d j) j < b
 | 0 => ⟨fun _ j hj => by omega, fun _ => by unfold manyV; exact hb⟩
 | i + 1 => by
  have ih := many_le d b hb i
  unfold manyV mx
  constructor
  ·intro h j hj
   by_cases e : j = i
   ·subst e; split at h <;> omega
   ·exact ih.1 (by split at h <;> omega) j (by omega)
  ·intro h
   have h1 := ih.2 fun j hj => h j (by omega)
   have h2 := h i (by omega)
   split <;> omega
def sameTimes (a b : S41) : Prop := a.f0 = b.f0 ∧ a.f1 = b.f1 ∧ a.f3 = b.f3
theorem aheadL_congr {d x : List S41} (h : ∀ j, sameTimes (d.getD j z41) (x.getD j z41)) (L : List Int) (i : Nat) : ∀ j, aheadL d L i j = aheadL x L i j
 | 0 => rfl
 | j + 1 => by
  unfold aheadL
  rw [aheadL_congr h L i j, (h j).2.1, (h j).2.2, (h i).1, (h i).2.2]
theorem lanesV_congr {d x : List S41} (h : ∀ j, sameTimes (d.getD j z41) (x.getD j z41)) (hl : d.length = x.length) : ∀ i, lanesV d i = lanesV x i
 | 0 => by unfold lanesV; rw [hl]
 | i + 1 => by unfold lanesV laneV; rw [lanesV_congr h hl i, aheadL_congr h]
theorem spans_same (l : List S62) (hl : l.length ≤ 256) : ∀ (m i : Nat), i + m = l.length → Tells (fun k => surtitlelaw7_SameSpans.l0 k l l (i : Int)) true
 | 0, i, h => Tells.step (g := fun _ => some true) (fun k => by simp only [surtitlelaw7_SameSpans.l0]; rw [if_neg (by omega)]) (Tells.const _)
 | m + 1, i, h => by
  refine Tells.step (fun k => ?_) (spans_same l hl m (i + 1) (by omega))
  simp only [surtitlelaw7_SameSpans.l0]
  rw [if_pos (by omega), if_pos (by omega), if_pos (by omega), if_neg (by simp), wrap64_id (by unfold I64; omega)]
  rfl
theorem sameCue_self (x : S41) (n : Int) (h : x.f5.f1.length ≤ 256) : Tells (fun k => surtitlelaw13_SameCue.f k x.f0.f0 x.f0.f1 x.f1.f0 x.f1.f1 n x.f3 x.f4 x.f5.f0 x.f5.f1 x.f0.f0 x.f0.f1 x.f1.f0 x.f1.f1 n x.f3 x.f4 x.f5.f0 x.f5.f1) true := by
 refine Tells.pos (by simp) (Tells.pos (by simp) (Tells.pos rfl (Tells.pos rfl (Tells.pos rfl (Tells.bind (v := true) ?_ (Tells.const _))))))
 refine Tells.pos rfl (Tells.bind (v := true) ?_ (Tells.const _))
 exact Tells.pos rfl (spans_same _ h x.f5.f1.length 0 (by omega))
theorem sameDoc_self (l : List S41) (hl : l.length ≤ 4096) (hs : ∀ a ∈ l, a.f5.f1.length ≤ 256) : ∀ (m i : Nat), i + m = l.length → Tells (fun k => surtitlelaw13_SameDoc.l0 k (i : Int) l l) true
 | 0, i, h => Tells.step (g := fun _ => some true) (fun k => by simp only [surtitlelaw13_SameDoc.l0]; rw [if_neg (by omega)]) (Tells.const _)
 | m + 1, i, h => by
  have hi : i < l.length := by omega
  have hc := sameCue_self (l.getD i z41) (l.getD i z41).f2 (by rw [List.getD_eq_getElem?_getD, List.getElem?_eq_getElem hi]; exact hs _ (List.getElem_mem hi))
  refine Tells.step (g := fun k => (surtitlelaw13_SameCue.f k (l.getD i z41).f0.f0 (l.getD i z41).f0.f1 (l.getD i z41).f1.f0 (l.getD i z41).f1.f1 (l.getD i z41).f2 (l.getD i z41).f3 (l.getD i z41).f4 (l.getD i z41).f5.f0 (l.getD i z41).f5.f1 (l.getD i z41).f0.f0 (l.getD i z41).f0.f1 (l.getD i z41).f1.f0 (l.getD i z41).f1.f1 (l.getD i z41).f2 (l.getD i z41).f3 (l.getD i z41).f4 (l.getD i z41).f5.f0 (l.getD i z41).f5.f1).bind fun t => if t = true then surtitlelaw13_SameDoc.l0 k ((i + 1 : Nat) : Int) l l else some false) (fun k => ?_) ?_
  ·simp only [surtitlelaw13_SameDoc.l0]
   rw [if_pos (by omega), if_pos (by omega), if_pos (by omega), rdC_nat, wrap64_id (by unfold I64; omega)]
   rfl
  ·exact Tells.bind hc (Tells.pos rfl (sameDoc_self l hl hs m (i + 1) (by omega)))
theorem head_tells : Tells (fun k => surtitlelaw13_head.f k) true := Tells.of_le (k := 70) (fun k => surtitlelaw13_head.mono k) (by kernel_rfl)
theorem cmpOK_lane {a : S41} (n : Int) (h : cueOK0 a) : cueOK0 (inLane a n) := h
theorem G_lane {a : S41} {n : Int} (h : G41 a) (h0 : 0 ≤ n) (h8 : n < 8) : G41 (inLane a n) :=
 ⟨h.1, h.2.1, by simp [inLane, Lit.wf, IntKind.min, IntKind.max, IntKind.signed, IntKind.bits]; omega, h.2.2.2.1, h.2.2.2.2.1, h.2.2.2.2.2⟩
theorem laid_tells (L : List Int) (d x : List S41) (hd : docOK d) (hx : x.length = d.length) (hL : L.length = d.length) (hat : ∀ j, j < d.length → x.getD j z41 = inLane (d.getD j z41) (L.getD j 0)) :
  ∀ (m i : Nat), i + m = d.length → Tells (fun k => surtitlelaw13_LaneLaid.l0 k L (i : Int) d x) true
 | 0, i, h => by
  refine Tells.step (g := fun k => (surtitlelaw13_head.f k).bind fun t => some t) (fun k => ?_) (Tells.bind head_tells (Tells.const _))
  simp only [surtitlelaw13_LaneLaid.l0]; rw [if_neg (by omega)]
 | m + 1, i, h => by
  have hd1 := hd.1
  have hs := (hd.2.1 i (by omega)).1.2.2.2.2.2.2.1
  have hc := sameCue_self (d.getD i z41) (d.getD i z41).f2 hs
  refine Tells.step (g := fun k => (surtitlelaw13_SameCue.f k (d.getD i z41).f0.f0 (d.getD i z41).f0.f1 (d.getD i z41).f1.f0 (d.getD i z41).f1.f1 (d.getD i z41).f2 (d.getD i z41).f3 (d.getD i z41).f4 (d.getD i z41).f5.f0 (d.getD i z41).f5.f1 (d.getD i z41).f0.f0 (d.getD i z41).f0.f1 (d.getD i z41).f1.f0 (d.getD i z41).f1.f1 (d.getD i z41).f2 (d.getD i z41).f3 (d.getD i z41).f4 (d.getD i z41).f5.f0 (d.getD i z41).f5.f1).bind fun t => if t = true then surtitlelaw13_LaneLaid.l0 k L ((i + 1 : Nat) : Int) d x else some false) (fun k => ?_) (Tells.bind hc (Tells.pos rfl (laid_tells L d x hd hx hL hat m (i + 1) (by omega))))
  simp only [surtitlelaw13_LaneLaid.l0]
  rw [if_pos (by omega), if_pos (by omega), if_pos (by omega), rdC_nat, rdC_nat, rdI_nat, hat i (by omega), if_pos (show (inLane (d.getD i z41) (L.getD i 0)).f2 = L.getD i 0 from rfl), if_pos (by omega), wrap64_id (by unfold I64; omega)]
  rfl
theorem getD_ext {x y : List S41} (hl : x.length = y.length) (h : ∀ j, j < x.length → x.getD j z41 = y.getD j z41) : x = y := by
 refine List.ext_getElem hl fun j h1 h2 => ?_
 have := h j h1
 rwa [List.getD_eq_getElem?_getD, List.getD_eq_getElem?_getD, List.getElem?_eq_getElem h1, List.getElem?_eq_getElem h2] at this
theorem laneLaid_tells (d : List S41) (hG : ∀ a ∈ d, G41 a) : Tells (fun k => surtitlelaw13_LaneLaid.f k d) true := by
 have bad : ∀ (L : List Int) (e : Int × Int) (c : List S41), Tells (fun k => surtitlelaw13_LaneLaid.j0 k L (some e) true c []) true := fun L e c =>
  Tells.step (g := fun k => (surtitlelaw13_head.f k).bind fun t => some t) (fun k => rfl) (Tells.bind head_tells (Tells.const _))
 by_cases hd : docOK d
 case neg =>
  obtain ⟨e, q⟩ := lanes_refused d hG hd
  obtain ⟨e', q'⟩ := lay_refused d hG hd
  exact Tells.bind q (Tells.bind q' (Tells.neg (by simp) (bad _ _ _)))
 have h1 := lanes_tells d hG hd
 obtain ⟨y1, y2⟩ := lay_tells d hG hd
 have hLl := lanesV_length d d.length
 have hv : ∀ j, j < d.length → (lanesV d d.length).getD j 0 = laneV d (lanesV d j) j := fun j hj => by rw [lanes_at d _ j hj, if_pos hj]
 have hm := many_le d 8 (by decide) d.length
 by_cases hb : manyV d d.length > 8
 ·have : ∃ j, j < d.length ∧ (lanesV d d.length).getD j 0 ≥ 8 := by
   refine Classical.byContradiction fun hn => ?_
   have := hm.2 fun j hj => by
    rw [← hv j hj]
    exact Int.not_le.1 fun h => hn ⟨j, hj, h⟩
   omega
  obtain ⟨e, q⟩ := y2 this
  refine Tells.bind h1 (Tells.bind q (Tells.pos rfl ?_))
  rw [decide_eq_true hb]
  exact bad _ _ _
 have hlt : ∀ j, j < d.length → (lanesV d d.length).getD j 0 < 8 := fun j hj => by rw [hv j hj]; exact hm.1 (by omega) j hj
 have hge : ∀ j, j < d.length → 0 ≤ (lanesV d d.length).getD j 0 := fun j hj => by rw [hv j hj]; exact (laneV_bound _ _ _).1
 have hlay := y1 hlt
 obtain ⟨L, hL⟩ : ∃ L, lanesV d d.length = L := ⟨_, rfl⟩
 obtain ⟨x, hx⟩ : ∃ x, laid d L d.length = x := ⟨_, rfl⟩
 have hxl : x.length = d.length := by rw [← hx]; exact laid_length d L _
 have hat : ∀ j, j < d.length → x.getD j z41 = inLane (d.getD j z41) (L.getD j 0) := fun j hj => by rw [← hx, laid_at d L _ j hj, if_pos hj]
 rw [hL] at h1 hlay hLl hlt hge
 rw [hx] at hlay
 have hGx : ∀ a ∈ x, G41 a := fun a ha => by
  obtain ⟨j, hj, rfl⟩ := List.getElem_of_mem ha
  have e := hat j (by omega)
  rw [List.getD_eq_getElem?_getD, List.getElem?_eq_getElem hj] at e
  rw [show x[j] = _ from e]
  exact G_lane (G_at hG (by omega)) (hge j (by omega)) (hlt j (by omega))
 have hdx : docOK x := by
  refine ⟨by rw [hxl]; exact hd.1, fun i hi => ?_, fun i h1 hi => ?_⟩
  ·rw [hat i (by omega)]
   exact ⟨cmpOK_lane _ (hd.2.1 i (by omega)).1, hge i (by omega), hlt i (by omega)⟩
  ·rw [hat i (by omega), hat (i - 1) (by omega)]
   exact hd.2.2 i h1 (by omega)
 have hsame : ∀ j, sameTimes (x.getD j z41) (d.getD j z41) := fun j => by
  by_cases hj : j < d.length
  ·rw [hat j hj]; exact ⟨rfl, rfl, rfl⟩
  ·rw [List.getD_eq_getElem?_getD, List.getD_eq_getElem?_getD, List.getElem?_eq_none (by omega), List.getElem?_eq_none (by omega)]; exact ⟨rfl, rfl, rfl⟩
 have hLx : lanesV x x.length = L := by rw [lanesV_congr hsame hxl, hxl, hL]
 have hlayx := (lay_tells x hGx hdx).1 fun j hj => by rw [hLx]; exact hlt j (by omega)
 have hxx : laid x (lanesV x x.length) x.length = x := by
  rw [hLx]
  refine getD_ext (laid_length _ _ _) fun j hj => ?_
  rw [laid_length] at hj
  rw [laid_at x L _ j hj, if_pos hj, hat j (by omega)]
  rfl
 rw [hxx] at hlayx
 obtain ⟨r, q1, q2⟩ := checkDoc_tells x hGx
 obtain rfl := q2.2 hdx
 refine Tells.bind h1 (Tells.bind hlay (Tells.pos rfl ?_))
 rw [decide_eq_false hb]
 refine Tells.step (g := fun k => (lane_Lay.f k x).bind fun b => if b.2.isNone = true then (surtitlelaw13_SameDoc.f k x b.1).bind fun t => if t = true then (cue_CheckDoc.f k x).bind fun t2 => if t2.isNone = true then surtitlelaw13_LaneLaid.j1 k L ((x.length : Int) != (d.length : Int)) d x else surtitlelaw13_LaneLaid.j1 k L true d x else surtitlelaw13_LaneLaid.j1 k L true d x else surtitlelaw13_LaneLaid.j1 k L true d x) (fun k => rfl) ?_
 refine Tells.bind hlayx (Tells.pos rfl (Tells.bind (v := true) ?_ (Tells.pos rfl (Tells.bind q1 (Tells.pos rfl ?_)))))
 ·exact Tells.pos rfl (sameDoc_self x (by rw [hxl]; exact hd.1) (docOK_spans hdx) x.length 0 (by omega))
 ·have e : ((x.length : Int) != (d.length : Int)) = false := by rw [hxl]; simp
  rw [e]
  exact Tells.step (g := fun k => surtitlelaw13_LaneLaid.l0 k L 0 d x) (fun k => rfl) (laid_tells L d x hd hxl hLl hat d.length 0 (by omega))
end Go.Proofs.Ytbpifnpljcgjlaa.PLx
