-- Written by programs of this session's (wip/printer) out of the translation and of the print's words; Lean checks it.
import Derived.Test.YtbpifnpljcgjlaaLxPLxx0
import Derived.Test.YtbpifnpljcgjlaaLxPLxx4
import Derived.Test.YtbpifnpljcgjlaaLxPLxx8
import Derived.Test.YtbpifnpljcgjlaaLxPLxx9
import Derived.Test.YtbpifnpljcgjlaaLxPLxx10
import Derived.Test.YtbpifnpljcgjlaaLxPLxx11
import Derived.Test.YtbpifnpljcgjlaaLxPLxxy1
namespace Go.Proofs.Ytbpifnpljcgjlaa.PLx
open Go.RowKit Go.Proofs.YtbpifnpljcgjlaaW.PrintWords Go.Proofs.YtbpifnpljcgjlaaW.PrintLast Go.Proofs.YtbpifnpljcgjlaaW.PrintMore
attribute [local go_sem] max2_int min2_int max_two min_two max_three min_three max_four min_four   -- for this text's walks alone
set_option linter.unusedVariables false
set_option linter.unusedSimpArgs false
def cmpI (a b : Int) : Int := if a = b then 0 else if a < b then -1 else 1
theorem cmpI_nat (a b : Nat) : cmpI (a : Int) (b : Int) = cmpN a b := by
 unfold cmpI cmpN
 simp only [Int.natCast_inj, Int.ofNat_lt]
theorem Cmp_tells {a b c d : Int} (ha : I64 a) (hb : I64 b) (hc : I64 c) (hd : I64 d) (hb0 : 0 < b) (hd0 : 0 < d) : ratio_Cmp.f a b c d = some (cmpI (a * d) (c * b)) := by
 have ha' := ha; have hb' := hb; have hc' := hc; have hd' := hd
 unfold I64 at ha' hb' hc' hd'
 have eb : IntKind.u64.wrap b = ((b.natAbs : Nat) : Int) := by rw [wrapU]; omega
 have ed : IntKind.u64.wrap d = ((d.natAbs : Nat) : Int) := by rw [wrapU]; omega
 have m1 : a.natAbs * d.natAbs ≤ 9223372036854775808 * 9223372036854775808 := Nat.mul_le_mul (by omega) (by omega)
 have m2 : c.natAbs * b.natAbs ≤ 9223372036854775808 * 9223372036854775808 := Nat.mul_le_mul (by omega) (by omega)
 have hw := wcmp_tells (a.natAbs * d.natAbs) (c.natAbs * b.natAbs) (by omega) (by omega)
 have e1 : ((a.natAbs * d.natAbs : Nat) : Int) = (a.natAbs : Int) * d := by rw [Int.natCast_mul]; congr 1; omega
 have e2 : ((c.natAbs * b.natAbs : Nat) : Int) = (c.natAbs : Int) * b := by rw [Int.natCast_mul]; congr 1; omega
 have q := cmpI_nat (a.natAbs * d.natAbs) (c.natAbs * b.natAbs)
 rw [e1, e2] at q
 unfold ratio_Cmp.f
 simp only [size_tells ha, size_tells hc, eb, ed, Option.bind_some, mul_tells _ _ (show a.natAbs < 18446744073709551616 by omega) (show d.natAbs < 18446744073709551616 by omega), mul_tells _ _ (show c.natAbs < 18446744073709551616 by omega) (show b.natAbs < 18446744073709551616 by omega), hw, ← q]
 have pa : (a < 0 → a * d < 0) ∧ (0 ≤ a → 0 ≤ a * d) := ⟨fun h => Int.mul_neg_of_neg_of_pos h hd0, fun h => Int.mul_nonneg h (by omega)⟩
 have pc : (c < 0 → c * b < 0) ∧ (0 ≤ c → 0 ≤ c * b) := ⟨fun h => Int.mul_neg_of_neg_of_pos h hb0, fun h => Int.mul_nonneg h (by omega)⟩
 by_cases h1 : a < 0
 ·rw [if_pos h1]
  have n1 : (a.natAbs : Int) * d = -(a * d) := by rw [← Int.neg_mul]; congr 1; omega
  by_cases h2 : c < 0
  ·have n2 : (c.natAbs : Int) * b = -(c * b) := by rw [← Int.neg_mul]; congr 1; omega
   rw [if_pos h2, n1, n2]
   unfold cmpI
   congr 1
   by_cases e : a * d = c * b
   ·rw [if_pos (by omega), if_pos e]; rw [wrap64_id (by unfold I64; omega)]; rfl
   ·rw [if_neg (by omega), if_neg e]
    by_cases l : a * d < c * b
    ·rw [if_neg (by omega), if_pos l]; rw [wrap64_id (by unfold I64; omega)]
    ·rw [if_pos (by omega), if_neg l]; rw [wrap64_id (by unfold I64; omega)]; rfl
  ·rw [if_neg h2]
   have := pa.1 h1
   have := pc.2 (by omega)
   unfold cmpI
   rw [if_neg (by omega), if_pos (by omega)]
 ·rw [if_neg h1]
  have n1 : (a.natAbs : Int) * d = a * d := by congr 1; omega
  have := pa.2 (by omega)
  by_cases h2 : c < 0
  ·rw [if_pos h2]
   have := pc.1 h2
   unfold cmpI
   rw [if_neg (by omega), if_neg (by omega)]
  ·have n2 : (c.natAbs : Int) * b = c * b := by congr 1; omega
   rw [if_neg h2, n1, n2]
def timeE (n d : Int) : Int := if RightN n d ∧ d ≤ 1048576 then (if n < 0 then 31 else if 360000 * d < n then 31 else 0) else 12
theorem Time_tells {n d : Int} (hn : I64 n) (hd : I64 d) : Tells (fun k => ratio_Time.f k n d) (timeE n d) := by
 refine Tells.bind (Right_tells hn hd) ?_
 by_cases h : RightN n d
 ·rw [decide_eq_true h]
  refine Tells.pos rfl ?_
  unfold timeE
  by_cases h2 : d > 1048576
  ·rw [decide_eq_true h2, if_neg (fun h' => by omega)]
   exact Tells.step (g := fun _ => some _) (fun k => by simp [ratio_Time.j0]) (Tells.const _)
  ·rw [decide_eq_false h2, if_pos ⟨h, by omega⟩]
   have hd0 := h.1
   have hc := Cmp_tells (a := n) (b := d) (c := 360000) (d := 1) hn hd (by unfold I64; omega) (by unfold I64; omega) (by omega) (by omega)
   refine Tells.step (g := fun _ => some _) (fun k => ?_) (Tells.const _)
   simp only [ratio_Time.j0, Bool.false_eq_true, if_false, hc, Option.bind_some, Int.mul_one]
   by_cases h3 : n < 0
   ·rw [if_pos h3, if_pos h3]
   ·rw [if_neg h3, if_neg h3]
    by_cases h4 : 360000 * d < n
    ·have hq : cmpI n (360000 * d) = 1 := by unfold cmpI; rw [if_neg (by omega), if_neg (by omega)]
     rw [if_pos h4, hq]; rfl
    ·have hq : ¬ cmpI n (360000 * d) > 0 := by unfold cmpI; split <;> (try split) <;> omega
     rw [if_neg h4, if_neg hq]
 ·rw [decide_eq_false h]
  refine Tells.neg (by decide) ?_
  unfold timeE
  rw [if_neg (fun h' => h h'.1)]
  exact Tells.step (g := fun _ => some _) (fun k => by simp [ratio_Time.j0]) (Tells.const _)
def rightS (x : S62) (n : Int) : Bool := decide (0 ≤ x.f0 ∧ x.f0 < x.f1 ∧ x.f1 ≤ n ∧ 1 ≤ x.f2 ∧ x.f2 ≤ 5) && (if x.f2 = 5 then decide (0 ≤ x.f3 ∧ x.f3 ≤ 16777215) else decide (x.f3 = 0))
theorem right_tells (x : S62) (n : Int) : Tells (fun k => style_right.f k x.f0 x.f1 x.f2 x.f3 n) (rightS x n) := by
 have hT : ∀ b : Bool, Tells (fun k => style_right.j0 k b x.f0 x.f1 x.f2 x.f3) (!b && (if x.f2 = 5 then decide (0 ≤ x.f3 ∧ x.f3 ≤ 16777215) else decide (x.f3 = 0))) := fun b => by
  refine Tells.step (g := fun _ => some _) (fun k => ?_) (Tells.const _)
  simp only [style_right.j0]
  cases b
  ·by_cases h : x.f2 = 5
   ·by_cases h2 : x.f3 ≥ 0
    ·simp [h, h2]
    ·simp [h, h2]
   ·simp [h]; rfl
  ·simp
 unfold rightS
 by_cases h1 : x.f0 < 0
 ·rw [show decide (0 ≤ x.f0 ∧ x.f0 < x.f1 ∧ x.f1 ≤ n ∧ 1 ≤ x.f2 ∧ x.f2 ≤ 5) = false from decide_eq_false (by omega)]
  exact Tells.pos h1 (hT true)
 refine Tells.neg h1 ?_
 by_cases h2 : x.f1 ≤ x.f0
 ·rw [show decide (0 ≤ x.f0 ∧ x.f0 < x.f1 ∧ x.f1 ≤ n ∧ 1 ≤ x.f2 ∧ x.f2 ≤ 5) = false from decide_eq_false (by omega)]
  exact Tells.pos h2 (hT true)
 refine Tells.neg h2 ?_
 by_cases h3 : x.f1 > n
 ·rw [show decide (0 ≤ x.f0 ∧ x.f0 < x.f1 ∧ x.f1 ≤ n ∧ 1 ≤ x.f2 ∧ x.f2 ≤ 5) = false from decide_eq_false (by omega)]
  exact Tells.pos h3 (hT true)
 refine Tells.neg h3 ?_
 by_cases h4 : x.f2 < 1
 ·rw [show decide (0 ≤ x.f0 ∧ x.f0 < x.f1 ∧ x.f1 ≤ n ∧ 1 ≤ x.f2 ∧ x.f2 ≤ 5) = false from decide_eq_false (by omega)]
  exact Tells.pos h4 (hT true)
 refine Tells.neg h4 ?_
 have := hT (decide (x.f2 > 5))
 by_cases h5 : x.f2 > 5
 ·rw [decide_eq_true h5] at this ⊢
  rw [show decide (0 ≤ x.f0 ∧ x.f0 < x.f1 ∧ x.f1 ≤ n ∧ 1 ≤ x.f2 ∧ x.f2 ≤ 5) = false from decide_eq_false (by omega)]
  exact this
 ·rw [decide_eq_false h5] at this ⊢
  rw [show decide (0 ≤ x.f0 ∧ x.f0 < x.f1 ∧ x.f1 ≤ n ∧ 1 ≤ x.f2 ∧ x.f2 ≤ 5) = true from decide_eq_true (by omega)]
  exact this
def withinS (x y : S62) : Bool := decide (y.f0 ≤ x.f0 ∧ x.f1 ≤ y.f1)
def crossS (x y : S62) : Bool := decide (x.f0 < y.f1 ∧ y.f0 < x.f1) && !withinS x y && !withinS y x
theorem within_tells (x y : S62) : style_within.f x.f0 x.f1 x.f2 x.f3 y.f0 y.f1 y.f2 y.f3 = some (withinS x y) := by
 unfold style_within.f withinS
 by_cases h : x.f0 ≥ y.f0
 ·rw [if_pos h]; congr 1; simp; omega
 ·rw [if_neg h]; congr 1; simp; omega
theorem cross_tells (x y : S62) : style_crosses.f x.f0 x.f1 x.f2 x.f3 y.f0 y.f1 y.f2 y.f3 = some (crossS x y) := by
 unfold style_crosses.f crossS
 rw [within_tells x y, within_tells y x]
 by_cases h : x.f0 < y.f1
 ·rw [if_pos h]
  by_cases h2 : y.f0 < x.f1
  ·rw [if_pos h2, decide_eq_true ⟨h, h2⟩]
   cases withinS x y <;> simp
  ·rw [if_neg h2, decide_eq_false (fun h' => h2 h'.2)]; rfl
 ·rw [if_neg h, decide_eq_false (fun h' => h h'.1)]; rfl
theorem rdS_nat (l : List S62) (i : Nat) : rd_T62 l (i : Int) = l.getD i z62 := rfl
theorem index_loop (x : S62) (l : List S62) (hl : l.length ≤ 9223372036854775807) : ∀ (m i : Nat), i + m = l.length →
  ∃ r : Int, Tells (fun k => api_Span_79.l0 k l (l.length : Int) (i : Int) x.f0 x.f1 x.f2 x.f3) r ∧ (0 ≤ r ↔ ∃ j, i ≤ j ∧ j < l.length ∧ crossS x (l.getD j z62) = true) ∧ -1 ≤ r
 | 0, i, h => ⟨-1, Tells.step (g := fun _ => some (-1)) (fun k => by simp only [api_Span_79.l0]; rw [if_neg (by omega)]) (Tells.const _), ⟨fun h => by omega, fun ⟨j, h1, h2, _⟩ => by omega⟩, by omega⟩
 | m + 1, i, h => by
  have hb := cross_tells x (l.getD i z62)
  have hs : ∀ k, api_Span_79.l0 (k + 1) l (l.length : Int) (i : Int) x.f0 x.f1 x.f2 x.f3 = if crossS x (l.getD i z62) = true then some (i : Int) else api_Span_79.l0 k l (l.length : Int) ((i + 1 : Nat) : Int) x.f0 x.f1 x.f2 x.f3 := fun k => by
   simp only [api_Span_79.l0]
   rw [if_pos (by omega), if_pos (by omega), if_pos (by omega)]
   unfold style_Check_1.f
   rw [rdS_nat, hb]
   simp only [Option.bind_some]
   rw [wrap64_id (by unfold I64; omega)]
   rfl
  by_cases hx : crossS x (l.getD i z62) = true
  ·exact ⟨i, Tells.step (g := fun _ => some (i : Int)) (fun k => by rw [hs, if_pos hx]) (Tells.const _), ⟨fun _ => ⟨i, Nat.le_refl _, by omega, hx⟩, fun _ => by omega⟩, by omega⟩
  ·obtain ⟨r, h1, h2, h3⟩ := index_loop x l hl m (i + 1) (by omega)
   refine ⟨r, Tells.step (g := fun k => api_Span_79.l0 k l (l.length : Int) ((i + 1 : Nat) : Int) x.f0 x.f1 x.f2 x.f3) (fun k => by rw [hs, if_neg hx]) h1, ⟨fun h => ?_, fun ⟨j, q1, q2, q3⟩ => h2.2 ⟨j, ?_, q2, q3⟩⟩, h3⟩
   ·obtain ⟨j, q1, q2, q3⟩ := h2.1 h
    exact ⟨j, by omega, q2, q3⟩
   ·rcases Nat.lt_or_ge i j with h' | h'
    ·omega
    ·obtain rfl : j = i := by omega
     exact absurd q3 hx
theorem contains_tells (x : S62) (l : List S62) (hl : l.length ≤ 9223372036854775807) : Tells (fun k => api_Span_64.f k l x.f0 x.f1 x.f2 x.f3) (l.any (crossS x)) := by
 obtain ⟨r, h1, h2, h3⟩ := index_loop x l hl l.length 0 (by omega)
 refine Tells.bind h1 ?_
 have : decide (r ≥ 0) = l.any (crossS x) := by
  rw [Bool.eq_iff_iff, decide_eq_true_eq, List.any_eq_true]
  show 0 ≤ r ↔ _
  rw [h2]
  constructor
  ·rintro ⟨j, _, q2, q3⟩
   rw [List.getD_eq_getElem?_getD, List.getElem?_eq_getElem q2] at q3
   exact ⟨_, List.getElem_mem q2, q3⟩
  ·rintro ⟨y, hy, hc⟩
   obtain ⟨j, hj, rfl⟩ := List.getElem_of_mem hy
   exact ⟨j, by omega, hj, by rw [List.getD_eq_getElem?_getD, List.getElem?_eq_getElem hj]; exact hc⟩
 rw [this]
 exact Tells.const _
def spansOK (l : List S62) (n : Int) : Prop := ∀ i, i < l.length → rightS (l.getD i z62) n = true ∧ (l.take i).any (crossS (l.getD i z62)) = false
theorem check_loop (s : ByteArray) (n : Int) (l : List S62) (hl : l.length ≤ 9223372036854775807) : ∀ (m i : Nat), i + m = l.length →
  ∃ r : Int, Tells (fun k => style_Check.l0 k n l (l.length : Int) (i : Int) s l) r ∧ (r = 0 ∨ r = 23) ∧ (r = 0 ↔ ∀ j, i ≤ j → j < l.length → rightS (l.getD j z62) n = true ∧ (l.take j).any (crossS (l.getD j z62)) = false)
 | 0, i, h => ⟨0, Tells.step (g := fun _ => some 0) (fun k => by simp only [style_Check.l0]; rw [if_neg (by omega)]) (Tells.const _), .inl rfl, ⟨fun _ j h1 h2 => by omega, fun _ => rfl⟩⟩
 | m + 1, i, h => by
  have h1 := right_tells (l.getD i z62) n
  have h2 := contains_tells (l.getD i z62) (l.take i) (by rw [List.length_take]; omega)
  have hs : ∀ k, style_Check.l0 (k + 1) n l (l.length : Int) (i : Int) s l = (style_right.f k (l.getD i z62).f0 (l.getD i z62).f1 (l.getD i z62).f2 (l.getD i z62).f3 n).bind fun t => if t = true then ((api_Span_64.f k (l.take i) (l.getD i z62).f0 (l.getD i z62).f1 (l.getD i z62).f2 (l.getD i z62).f3).bind fun t2 => if t2 = true then some 23 else style_Check.l0 k n l (l.length : Int) ((i + 1 : Nat) : Int) s l) else some 23 := fun k => by
   simp only [style_Check.l0]
   rw [if_pos (by omega), if_pos (by omega), if_pos (by omega), if_pos (by omega), rdS_nat, wrap64_id (by unfold I64; omega)]
   rfl
  by_cases c1 : rightS (l.getD i z62) n = true
  ·by_cases c2 : (l.take i).any (crossS (l.getD i z62)) = true
   ·refine ⟨23, Tells.step hs (Tells.bind h1 (Tells.pos c1 (Tells.bind h2 (Tells.pos c2 (Tells.const _))))), .inr rfl, ⟨fun h => by omega, fun h => ?_⟩⟩
    have := (h i (Nat.le_refl _) (by omega)).2
    rw [c2] at this; exact absurd this (by decide)
   ·obtain ⟨r, q1, q2, q3⟩ := check_loop s n l hl m (i + 1) (by omega)
    refine ⟨r, Tells.step hs (Tells.bind h1 (Tells.pos c1 (Tells.bind h2 (Tells.neg c2 q1)))), q2, q3.trans ⟨fun h' j a b => ?_, fun h' j a b => h' j (by omega) b⟩⟩
    rcases Nat.lt_or_ge i j with h'' | h''
    ·exact h' j (by omega) b
    ·obtain rfl : j = i := by omega
     exact ⟨c1, by simpa using c2⟩
  ·refine ⟨23, Tells.step hs (Tells.bind h1 (Tells.neg c1 (Tells.const _))), .inr rfl, ⟨fun h => by omega, fun h => ?_⟩⟩
   exact absurd (h i (Nat.le_refl _) (by omega)).1 c1
theorem styleCheck_tells (s : ByteArray) (l : List S62) : ∃ r : Int, Tells (fun k => style_Check.f k s l) r ∧ (r = 0 ↔ s.size ≤ 4096 ∧ l.length ≤ 256 ∧ spansOK l (Lib.runeCount s)) := by
 by_cases h1 : (s.size : Int) > 4096
 ·exact ⟨3, Tells.pos h1 (Tells.const _), ⟨fun h => by omega, fun h => by omega⟩⟩
 by_cases h2 : (l.length : Int) > 256
 ·exact ⟨2, Tells.neg h1 (Tells.pos h2 (Tells.const _)), ⟨fun h => by omega, fun h => by omega⟩⟩
 obtain ⟨r, q1, q2, q3⟩ := check_loop s (Lib.runeCount s) l (by omega) l.length 0 (by omega)
 refine ⟨r, Tells.neg h1 (Tells.neg h2 (Tells.bind (v := (Lib.runeCount s : Int)) ?_ q1)), q3.trans ⟨fun h => ⟨by omega, by omega, fun i hi => h i (by omega) hi⟩, fun h j _ hj => h.2.2 j hj⟩⟩
 refine Tells.same (fun k => ?_) (Tells.const _)
 unfold utf_Count.f
 rw [if_pos (by omega)]
theorem rdC_nat (l : List S41) (i : Nat) : rd_T41 l (i : Int) = l.getD i z41 := rfl
theorem rdI_nat (l : List Int) (i : Nat) : rd l (i : Int) = l.getD i 0 := rfl
theorem G_at {P : S41 → Prop} {l : List S41} (h : ∀ a ∈ l, P a) {i : Nat} (hi : i < l.length) : P (l.getD i z41) := by
 rw [List.getD_eq_getElem?_getD, List.getElem?_eq_getElem hi]
 exact h _ (List.getElem_mem hi)
def nameE (s : ByteArray) : Int := if 64 < s.size then 25 else if (places s).any (fun p => decide (sRune s p < 32)) then 25 else 0
def cueOK0 (x : S41) : Prop := timeE x.f0.f0 x.f0.f1 = 0 ∧ timeE x.f1.f0 x.f1.f1 = 0 ∧ cmpI (x.f0.f0 * x.f1.f1) (x.f1.f0 * x.f0.f1) < 0 ∧ (x.f3 = 0 ∨ x.f3 = 1) ∧ nameE x.f4 = 0 ∧ x.f5.f0.size ≤ 4096 ∧ x.f5.f1.length ≤ 256 ∧ spansOK x.f5.f1 (Lib.runeCount x.f5.f0)
def cueOK (x : S41) : Prop := cueOK0 x ∧ 0 ≤ x.f2 ∧ x.f2 < 8
theorem timeE_pos {n d : Int} (h : timeE n d = 0) : 0 < d := by
 unfold timeE at h
 split at h
 ·rename_i h1; have := h1.1.1; omega
 ·exact absurd h (by decide)
theorem cueCheck_tells (x : S41) (hG : G41 x) : ∃ r : Int, Tells (fun k => cue_Check.f k x.f0.f0 x.f0.f1 x.f1.f0 x.f1.f1 x.f2 x.f3 x.f4 x.f5.f0 x.f5.f1) r ∧ (r = 0 ↔ cueOK x) := by
 have i0 := I64.of_wf hG.1.1
 have i1 := I64.of_wf hG.1.2
 have i2 := I64.of_wf hG.2.1.1
 have i3 := I64.of_wf hG.2.1.2
 have t0 := Time_tells i0 i1
 have t1 := Time_tells i2 i3
 have s0 : ∀ k, cue_Check.l0 (k + 1) ([(⟨x.f0.f0, x.f0.f1⟩ : S36), (⟨x.f1.f0, x.f1.f1⟩ : S36)]) 2 0 x.f0.f0 x.f0.f1 x.f1.f0 x.f1.f1 x.f2 x.f3 x.f4 x.f5.f0 x.f5.f1 = (ratio_Time.f k x.f0.f0 x.f0.f1).bind fun t => if t = 0 then cue_Check.l0 k ([(⟨x.f0.f0, x.f0.f1⟩ : S36), (⟨x.f1.f0, x.f1.f1⟩ : S36)]) 2 1 x.f0.f0 x.f0.f1 x.f1.f0 x.f1.f1 x.f2 x.f3 x.f4 x.f5.f0 x.f5.f1 else some t := fun k => by
  simp only [cue_Check.l0]
  rw [if_pos (by decide), if_pos (by decide), if_pos (by simp), wrap64_id (by unfold I64; omega)]
  rfl
 have s1 : ∀ k, cue_Check.l0 (k + 1) ([(⟨x.f0.f0, x.f0.f1⟩ : S36), (⟨x.f1.f0, x.f1.f1⟩ : S36)]) 2 1 x.f0.f0 x.f0.f1 x.f1.f0 x.f1.f1 x.f2 x.f3 x.f4 x.f5.f0 x.f5.f1 = (ratio_Time.f k x.f1.f0 x.f1.f1).bind fun t => if t = 0 then cue_Check.l0 k ([(⟨x.f0.f0, x.f0.f1⟩ : S36), (⟨x.f1.f0, x.f1.f1⟩ : S36)]) 2 2 x.f0.f0 x.f0.f1 x.f1.f0 x.f1.f1 x.f2 x.f3 x.f4 x.f5.f0 x.f5.f1 else some t := fun k => by
  simp only [cue_Check.l0]
  rw [if_pos (by decide), if_pos (by decide), if_pos (by simp), wrap64_id (by unfold I64; omega)]
  rfl
 by_cases c0 : timeE x.f0.f0 x.f0.f1 = 0
 case neg => exact ⟨_, Tells.step s0 (Tells.bind t0 (Tells.neg c0 (Tells.const _))), ⟨fun h => absurd h c0, fun h => absurd h.1.1 c0⟩⟩
 by_cases c1 : timeE x.f1.f0 x.f1.f1 = 0
 case neg => exact ⟨_, Tells.step s0 (Tells.bind t0 (Tells.pos c0 (Tells.step s1 (Tells.bind t1 (Tells.neg c1 (Tells.const _)))))), ⟨fun h => absurd h c1, fun h => absurd h.1.2.1 c1⟩⟩
 have hc := Cmp_tells i0 i1 i2 i3 (timeE_pos c0) (timeE_pos c1)
 have sj : ∀ k, cue_Check.j1 (k + 1) x.f0.f0 x.f0.f1 x.f1.f0 x.f1.f1 x.f2 x.f3 x.f4 x.f5.f0 x.f5.f1 = if nameE x.f4 = 0 then (style_Check.f k x.f5.f0 x.f5.f1).bind (fun t => some t) else some (nameE x.f4) := fun k => rfl
 have s2 : ∀ k, cue_Check.l0 (k + 1) ([(⟨x.f0.f0, x.f0.f1⟩ : S36), (⟨x.f1.f0, x.f1.f1⟩ : S36)]) 2 2 x.f0.f0 x.f0.f1 x.f1.f0 x.f1.f1 x.f2 x.f3 x.f4 x.f5.f0 x.f5.f1 = if cmpI (x.f0.f0 * x.f1.f1) (x.f1.f0 * x.f0.f1) ≥ 0 then some 32 else if x.f2 < 0 then some 34 else if x.f2 ≥ 8 then some 34 else if x.f3 = 0 then cue_Check.j1 k x.f0.f0 x.f0.f1 x.f1.f0 x.f1.f1 x.f2 x.f3 x.f4 x.f5.f0 x.f5.f1 else if x.f3 = 1 then cue_Check.j1 k x.f0.f0 x.f0.f1 x.f1.f0 x.f1.f1 x.f2 x.f3 x.f4 x.f5.f0 x.f5.f1 else some 34 := fun k => by
  simp only [cue_Check.l0]
  rw [if_neg (by decide), hc]
  rfl
 have up : ∀ {r : Int}, Tells (fun k => cue_Check.l0 k ([(⟨x.f0.f0, x.f0.f1⟩ : S36), (⟨x.f1.f0, x.f1.f1⟩ : S36)]) 2 2 x.f0.f0 x.f0.f1 x.f1.f0 x.f1.f1 x.f2 x.f3 x.f4 x.f5.f0 x.f5.f1) r → Tells (fun k => cue_Check.f k x.f0.f0 x.f0.f1 x.f1.f0 x.f1.f1 x.f2 x.f3 x.f4 x.f5.f0 x.f5.f1) r := fun h =>
  Tells.step s0 (Tells.bind t0 (Tells.pos c0 (Tells.step s1 (Tells.bind t1 (Tells.pos c1 h)))))
 by_cases c2 : cmpI (x.f0.f0 * x.f1.f1) (x.f1.f0 * x.f0.f1) ≥ 0
 ·exact ⟨32, up (Tells.step s2 (Tells.pos c2 (Tells.const _))), ⟨fun h => absurd h (by decide), fun h => by have := h.1.2.2.1; omega⟩⟩
 by_cases c3 : x.f2 < 0
 ·exact ⟨34, up (Tells.step s2 (Tells.neg c2 (Tells.pos c3 (Tells.const _)))), ⟨fun h => absurd h (by decide), fun h => by have := h.2.1; omega⟩⟩
 by_cases c4 : x.f2 ≥ 8
 ·exact ⟨34, up (Tells.step s2 (Tells.neg c2 (Tells.neg c3 (Tells.pos c4 (Tells.const _))))), ⟨fun h => absurd h (by decide), fun h => by have := h.2.2; omega⟩⟩
 have tj : ∃ r : Int, Tells (fun k => cue_Check.j1 k x.f0.f0 x.f0.f1 x.f1.f0 x.f1.f1 x.f2 x.f3 x.f4 x.f5.f0 x.f5.f1) r ∧ (r = 0 ↔ nameE x.f4 = 0 ∧ x.f5.f0.size ≤ 4096 ∧ x.f5.f1.length ≤ 256 ∧ spansOK x.f5.f1 (Lib.runeCount x.f5.f0)) := by
  by_cases c5 : nameE x.f4 = 0
  ·obtain ⟨r, q1, q2⟩ := styleCheck_tells x.f5.f0 x.f5.f1
   exact ⟨r, Tells.step sj (Tells.pos c5 (Tells.bind q1 (Tells.const _))), q2.trans ⟨fun h => ⟨c5, h⟩, fun h => h.2⟩⟩
  ·exact ⟨_, Tells.step sj (Tells.neg c5 (Tells.const _)), ⟨fun h => absurd h c5, fun h => absurd h.1 c5⟩⟩
 obtain ⟨r, q1, q2⟩ := tj
 by_cases c6 : x.f3 = 0
 ·exact ⟨r, up (Tells.step s2 (Tells.neg c2 (Tells.neg c3 (Tells.neg c4 (Tells.pos c6 q1))))), q2.trans ⟨fun h => ⟨⟨c0, c1, by omega, .inl c6, h⟩, by omega, by omega⟩, fun h => h.1.2.2.2.2⟩⟩
 by_cases c7 : x.f3 = 1
 ·exact ⟨r, up (Tells.step s2 (Tells.neg c2 (Tells.neg c3 (Tells.neg c4 (Tells.neg c6 (Tells.pos c7 q1)))))), q2.trans ⟨fun h => ⟨⟨c0, c1, by omega, .inr c7, h⟩, by omega, by omega⟩, fun h => h.1.2.2.2.2⟩⟩
 ·exact ⟨34, up (Tells.step s2 (Tells.neg c2 (Tells.neg c3 (Tells.neg c4 (Tells.neg c6 (Tells.neg c7 (Tells.const _))))))), ⟨fun h => absurd h (by decide), fun h => by rcases h.1.2.2.2.1 with h | h <;> contradiction⟩⟩
def compareC (a b : S41) : Int := if cmpI (a.f0.f0 * b.f0.f1) (b.f0.f0 * a.f0.f1) = 0 then cmpI (a.f1.f0 * b.f1.f1) (b.f1.f0 * a.f1.f1) else cmpI (a.f0.f0 * b.f0.f1) (b.f0.f0 * a.f0.f1)
theorem compare_tells {a b : S41} (ga : G41 a) (gb : G41 b) (ha : cueOK0 a) (hb : cueOK0 b) :
  cue_Compare.f a.f0.f0 a.f0.f1 a.f1.f0 a.f1.f1 a.f2 a.f3 a.f4 a.f5.f0 a.f5.f1 b.f0.f0 b.f0.f1 b.f1.f0 b.f1.f1 b.f2 b.f3 b.f4 b.f5.f0 b.f5.f1 = some (compareC a b) := by
 have h1 := Cmp_tells (I64.of_wf ga.1.1) (I64.of_wf ga.1.2) (I64.of_wf gb.1.1) (I64.of_wf gb.1.2) (timeE_pos ha.1) (timeE_pos hb.1)
 have h2 := Cmp_tells (I64.of_wf ga.2.1.1) (I64.of_wf ga.2.1.2) (I64.of_wf gb.2.1.1) (I64.of_wf gb.2.1.2) (timeE_pos ha.2.1) (timeE_pos hb.2.1)
 unfold cue_Compare.f compareC
 rw [h1, h2]
 simp only [Option.bind_some]
 split <;> rfl
def docOK (l : List S41) : Prop := l.length ≤ 4096 ∧ (∀ i, i < l.length → cueOK (l.getD i z41)) ∧ ∀ i, 1 ≤ i → i < l.length → compareC (l.getD (i - 1) z41) (l.getD i z41) ≤ 0
theorem wrong_tells (i e : Int) (h : e ≠ 0) : cue_wrong.f i e = some (some (i, e)) := by unfold cue_wrong.f; rw [if_neg h]
theorem order_loop (l : List S41) (hG : ∀ a ∈ l, G41 a) (hl : l.length ≤ 4096) (hok : ∀ i, i < l.length → cueOK (l.getD i z41)) : ∀ (m i : Nat), 1 ≤ i → i + m = l.length →
  ∃ r : Option (Int × Int), Tells (fun k => cue_CheckDoc.l1 k (i : Int) l) r ∧ (r = none ↔ ∀ j, i ≤ j → j < l.length → compareC (l.getD (j - 1) z41) (l.getD j z41) ≤ 0)
 | 0, i, h1, h => ⟨none, Tells.step (g := fun _ => some none) (fun k => by simp only [cue_CheckDoc.l1]; rw [if_neg (by omega)]) (Tells.const _), ⟨fun _ j a b => by omega, fun _ => rfl⟩⟩
 | m + 1, i, h1, h => by
  have hc := compare_tells (G_at hG (show i - 1 < l.length by omega)) (G_at hG (show i < l.length by omega)) (hok _ (by omega)).1 (hok _ (by omega)).1
  have hs : ∀ k, cue_CheckDoc.l1 (k + 1) (i : Int) l = if compareC (l.getD (i - 1) z41) (l.getD i z41) > 0 then some (some ((i : Int), 33)) else cue_CheckDoc.l1 k ((i + 1 : Nat) : Int) l := fun k => by
   simp only [cue_CheckDoc.l1]
   rw [wrap64_id (a := (i : Int) - 1) (by unfold I64; omega), wrap64_id (a := (i : Int) + 1) (by unfold I64; omega), if_pos (by omega), if_pos (by omega), if_pos (by omega), if_pos (by omega), show (i : Int) - 1 = ((i - 1 : Nat) : Int) by omega, rdC_nat, rdC_nat, hc]
   rfl
  by_cases hx : compareC (l.getD (i - 1) z41) (l.getD i z41) > 0
  ·exact ⟨_, Tells.step hs (Tells.pos hx (Tells.const _)), ⟨fun h => by simp at h, fun h => by have := h i (Nat.le_refl _) (by omega); omega⟩⟩
  ·obtain ⟨r, q1, q2⟩ := order_loop l hG hl hok m (i + 1) (by omega) (by omega)
   refine ⟨r, Tells.step hs (Tells.neg hx q1), q2.trans ⟨fun h' j a b => ?_, fun h' j a b => h' j (by omega) b⟩⟩
   rcases Nat.lt_or_ge i j with h'' | h''
   ·exact h' j (by omega) b
   ·obtain rfl : j = i := by omega
    omega
theorem cues_loop (l : List S41) (hG : ∀ a ∈ l, G41 a) (hl : l.length ≤ 4096) (r1 : Option (Int × Int)) : ∀ (m i : Nat), i + m = l.length → (∀ j, j < i → cueOK (l.getD j z41)) →
  ((∀ j, j < l.length → cueOK (l.getD j z41)) → Tells (fun k => cue_CheckDoc.l1 k 1 l) r1) →
  ∃ r : Option (Int × Int), Tells (fun k => cue_CheckDoc.l0 k l (l.length : Int) (i : Int) l) r ∧ (r = none ↔ (∀ j, j < l.length → cueOK (l.getD j z41)) ∧ r1 = none)
 | 0, i, h, hp, h1 => ⟨r1, Tells.step (g := fun k => cue_CheckDoc.l1 k 1 l) (fun k => by simp only [cue_CheckDoc.l0]; rw [if_neg (by omega)]) (h1 fun j hj => hp j (by omega)), ⟨fun h' => ⟨fun j hj => hp j (by omega), h'⟩, fun h' => h'.2⟩⟩
 | m + 1, i, h, hp, h1 => by
  obtain ⟨e, q1, q2⟩ := cueCheck_tells _ (G_at hG (show i < l.length by omega))
  have hs : ∀ k, cue_CheckDoc.l0 (k + 1) l (l.length : Int) (i : Int) l = (cue_Check.f k (l.getD i z41).f0.f0 (l.getD i z41).f0.f1 (l.getD i z41).f1.f0 (l.getD i z41).f1.f1 (l.getD i z41).f2 (l.getD i z41).f3 (l.getD i z41).f4 (l.getD i z41).f5.f0 (l.getD i z41).f5.f1).bind fun t => if t = 0 then cue_CheckDoc.l0 k l (l.length : Int) ((i + 1 : Nat) : Int) l else (cue_wrong.f (i : Int) t).bind fun t2 => some t2 := fun k => by
   simp only [cue_CheckDoc.l0]
   rw [wrap64_id (a := (i : Int) + 1) (by unfold I64; omega), if_pos (by omega), if_pos (by omega), if_pos (by omega), rdC_nat]
   rfl
  by_cases he : e = 0
  ·obtain ⟨r, p1, p2⟩ := cues_loop l hG hl r1 m (i + 1) (by omega) (fun j hj => by
    rcases Nat.lt_or_ge j i with h' | h'
    ·exact hp j h'
    ·obtain rfl : j = i := by omega
     exact q2.1 he) h1
   exact ⟨r, Tells.step hs (Tells.bind q1 (Tells.pos he p1)), p2⟩
  ·refine ⟨some ((i : Int), e), Tells.step hs (Tells.bind q1 (Tells.neg he ?_)), ⟨fun h' => by simp at h', fun h' => absurd (q2.2 (h'.1 i (by omega))) he⟩⟩
   rw [wrong_tells _ _ he]
   exact Tells.const _
theorem checkDoc_tells (l : List S41) (hG : ∀ a ∈ l, G41 a) : ∃ r : Option (Int × Int), Tells (fun k => cue_CheckDoc.f k l) r ∧ (r = none ↔ docOK l) := by
 by_cases h : (l.length : Int) > 4096
 ·refine ⟨some (0, 2), Tells.pos h (Tells.const _), ⟨fun h' => by simp at h', fun h' => by have := h'.1; omega⟩⟩
 have hl : l.length ≤ 4096 := by omega
 by_cases hok : ∀ j, j < l.length → cueOK (l.getD j z41)
 ·have : ∃ r1, Tells (fun k => cue_CheckDoc.l1 k 1 l) r1 ∧ (r1 = none ↔ ∀ j, 1 ≤ j → j < l.length → compareC (l.getD (j - 1) z41) (l.getD j z41) ≤ 0) := by
   by_cases h0 : 1 ≤ l.length
   ·exact order_loop l hG hl hok (l.length - 1) 1 (by omega) (by omega)
   ·exact ⟨none, Tells.step (g := fun _ => some none) (fun k => by simp only [cue_CheckDoc.l1]; rw [if_neg (by omega)]) (Tells.const _), ⟨fun _ j a b => by omega, fun _ => rfl⟩⟩
  obtain ⟨r1, p1, p2⟩ := this
  obtain ⟨r, q1, q2⟩ := cues_loop l hG hl r1 l.length 0 (by omega) (fun j hj => by omega) (fun _ => p1)
  exact ⟨r, Tells.neg h q1, q2.trans ⟨fun h' => ⟨hl, hok, p2.1 h'.2⟩, fun h' => ⟨hok, p2.2 h'.2.2⟩⟩⟩
 ·obtain ⟨r, q1, q2⟩ := cues_loop l hG hl none l.length 0 (by omega) (fun j hj => by omega) (fun h' => absurd h' hok)
  exact ⟨r, Tells.neg h q1, q2.trans ⟨fun h' => absurd h'.1 hok, fun h' => absurd h'.2.1 hok⟩⟩
end Go.Proofs.Ytbpifnpljcgjlaa.PLx
