import Derived.Test.YtlbicmdfdpcdiaaDlX
import Derived.Test.YtlbicmdfdpcdiaaDlFP1
import Derived.Test.YtlbicmdfdpcdiaaDlKD1
import Derived.Test.YtlbicmdfdpcdiaaDlKNM1
import Derived.Test.YtlbicmdfdpcdiaaDlKAL1
set_option linter.unusedSectionVars false
-- Printed by a program of this session's; Lean checks it.
set_option linter.unusedVariables false
set_option linter.unusedSimpArgs false
set_option maxRecDepth 100000
namespace Go.Proofs.Ytlbicmdfdpcdiaa.F
open Go.Proofs.Ytlbicmdfdpcdiaa.Vm Go.RowKit
namespace BP
def val (p : Int × Int) : Int := p.1 * 8192 + p.2
def InW (b : Nat) (p : Int × Int) : Prop := 0 ≤ p.1 ∧ p.1 ≤ 400000000 * (b : Int) ∧ 0 ≤ p.2 ∧ p.2 ≤ (b : Int)
def above (a b : Int × Int) : Bool := decide (a.1 > b.1) || (decide (a.1 = b.1) && decide (a.2 > b.2))
def plus (o : Int × Int) (s : Int) : Int × Int := (wrap64 (o.1 + s), wrap64 (o.2 + 1))
def cell (a b c : Int × Int) (s : Int) : Int × Int :=
  let w1 := if above b a = true then b else a
  if s > 0 then (if above (plus c s) w1 = true then plus c s else w1) else w1
structure Tab (n m : Nat) (sh : Nat → Nat → Int) (W : Nat → Nat → Int × Int) : Prop where
  hn : n ≤ 4096
  sh_le : ∀ i j, i < n → j < m → sh i j ≤ 400000000
  last : ∀ j, j ≤ m → W n j = (0, 0)
  side : ∀ i, i ≤ n → W i m = (0, 0)
  step : ∀ i j, i < n → j < m → W i j = cell (W (i + 1) j) (W i (j + 1)) (W (i + 1) (j + 1)) (sh i j)
theorem plus_in {b : Nat} {c : Int × Int} {s : Int} (hb : b ≤ 4096) (h : InW b c) (h0 : 0 < s) (h1 : s ≤ 400000000) : plus c s = (c.1 + s, c.2 + 1) ∧ InW (b + 1) (c.1 + s, c.2 + 1) := by
  unfold InW at *
  have e1 : wrap64 (c.1 + s) = c.1 + s := by unfold wrap64; omega
  have e2 : wrap64 (c.2 + 1) = c.2 + 1 := by unfold wrap64; omega
  unfold plus
  rw [e1, e2]
  refine ⟨rfl, ?_⟩
  dsimp only
  omega
theorem InW.mono {a b : Nat} {p : Int × Int} (h : InW a p) (hab : a ≤ b) : InW b p := by unfold InW at *; omega
theorem InW.zero (b : Nat) : InW b (0, 0) := by unfold InW; dsimp only; omega
theorem above_iff {a b : Nat} {p q : Int × Int} (ha : a ≤ 4097) (hb : b ≤ 4097) (hp : InW a p) (hq : InW b q) : above p q = decide (val q < val p) := by
  unfold InW at *
  unfold above val
  rw [Bool.eq_iff_iff]
  simp only [Bool.or_eq_true, Bool.and_eq_true, decide_eq_true_eq]
  omega
theorem val_inj {a b : Nat} {p q : Int × Int} (ha : a ≤ 4097) (hb : b ≤ 4097) (hp : InW a p) (hq : InW b q) : val p = val q ↔ p = q := by
  obtain ⟨p1, p2⟩ := p
  obtain ⟨q1, q2⟩ := q
  unfold InW at *
  unfold val
  simp only [Prod.mk.injEq]
  dsimp only at *
  omega
theorem cell_in {k : Nat} {a b c : Int × Int} {s : Int} (hk : k < 4096) (ha : InW k a) (hb : InW (k + 1) b) (hc : InW k c) (hs : s ≤ 400000000) : InW (k + 1) (cell a b c s) := by
  unfold cell
  dsimp only
  have h1 : InW (k + 1) (if above b a = true then b else a) := by split; exact hb; exact ha.mono (by omega)
  generalize (if above b a = true then b else a) = w1 at h1
  split
  · split
    · obtain ⟨e, h⟩ := plus_in (by omega) hc (by omega) hs
      rw [e]; exact h
    · exact h1
  · exact h1
theorem cell_val {k : Nat} {a b c : Int × Int} {s : Int} (hk : k < 4096) (ha : InW k a) (hb : InW (k + 1) b) (hc : InW k c) (hs : s ≤ 400000000) :
    val a ≤ val (cell a b c s) ∧ val b ≤ val (cell a b c s) ∧ (0 < s → val c + (s * 8192 + 1) ≤ val (cell a b c s)) ∧ (val (cell a b c s) = val a ∨ val (cell a b c s) = val b ∨ 0 < s ∧ val (cell a b c s) = val c + (s * 8192 + 1)) := by
  unfold cell
  dsimp only
  have e1 := above_iff (by omega) (by omega) hb ha
  have h1 : InW (k + 1) (if above b a = true then b else a) ∧ val a ≤ val (if above b a = true then b else a) ∧ val b ≤ val (if above b a = true then b else a) ∧ (val (if above b a = true then b else a) = val a ∨ val (if above b a = true then b else a) = val b) := by
    rw [e1]
    by_cases h : val a < val b
    · rw [decide_eq_true h, if_pos rfl]; exact ⟨hb, by omega, by omega, .inr rfl⟩
    · rw [decide_eq_false h, if_neg (by decide)]; exact ⟨ha.mono (by omega), by omega, by omega, .inl rfl⟩
  generalize (if above b a = true then b else a) = w1 at h1
  obtain ⟨i1, l1, l2, l3⟩ := h1
  by_cases hs0 : s > 0
  · rw [if_pos hs0]
    obtain ⟨e, h⟩ := plus_in (by omega) hc hs0 hs
    have ev : val (plus c s) = val c + (s * 8192 + 1) := by rw [e]; unfold val; dsimp only; omega
    rw [← e] at h
    rw [above_iff (by omega) (by omega) h i1]
    by_cases h2 : val w1 < val (plus c s)
    · rw [decide_eq_true h2, if_pos rfl]; exact ⟨by omega, by omega, fun _ => by omega, .inr (.inr ⟨by omega, ev⟩)⟩
    · rw [decide_eq_false h2, if_neg (by decide)]; exact ⟨by omega, by omega, fun _ => by omega, by omega⟩
  · rw [if_neg hs0]
    exact ⟨by omega, by omega, fun h => by omega, by omega⟩
section
variable {n m : Nat} {sh : Nat → Nat → Int} {W : Nat → Nat → Int × Int}
theorem Tab.inW (h : Tab n m sh W) : ∀ (d i j : Nat), i ≤ n → j ≤ m → (n - i) + (m - j) = d → InW (n - i) (W i j)
  | 0, i, j, hi, hj, hd => by
    obtain rfl : i = n := by omega
    rw [h.last j hj]; exact InW.zero _
  | d + 1, i, j, hi, hj, hd => by
    by_cases e1 : i = n
    · subst e1; rw [h.last j hj]; exact InW.zero _
    by_cases e2 : j = m
    · subst e2; rw [h.side i hi]; exact InW.zero _
    have hn := h.hn
    rw [h.step i j (by omega) (by omega)]
    have e : n - i = n - (i + 1) + 1 := by omega
    rw [e]
    refine cell_in (by omega) (Tab.inW h d (i + 1) j (by omega) (by omega) (by omega)) ?_ ?_ (h.sh_le i j (by omega) (by omega))
    · have := Tab.inW h d i (j + 1) (by omega) (by omega) (by omega)
      rwa [e] at this
    · by_cases hd1 : (n - (i + 1)) + (m - (j + 1)) = d
      · exact Tab.inW h d (i + 1) (j + 1) (by omega) (by omega) hd1
      · cases d with
        | zero => omega
        | succ d => exact Tab.inW h d (i + 1) (j + 1) (by omega) (by omega) (by omega)
theorem Tab.in' (h : Tab n m sh W) {i j : Nat} (hi : i ≤ n) (hj : j ≤ m) : InW (n - i) (W i j) := h.inW _ i j hi hj rfl
def V (W : Nat → Nat → Int × Int) (i j : Nat) : Int := val (W i j)
theorem Tab.cells (h : Tab n m sh W) {i j : Nat} (hi : i < n) (hj : j < m) :
    V W (i + 1) j ≤ V W i j ∧ V W i (j + 1) ≤ V W i j ∧ (0 < sh i j → V W (i + 1) (j + 1) + (sh i j * 8192 + 1) ≤ V W i j) ∧ (V W i j = V W (i + 1) j ∨ V W i j = V W i (j + 1) ∨ 0 < sh i j ∧ V W i j = V W (i + 1) (j + 1) + (sh i j * 8192 + 1)) := by
  have hn := h.hn
  unfold V
  rw [h.step i j hi hj]
  have e : n - i = n - (i + 1) + 1 := by omega
  exact cell_val (k := n - (i + 1)) (by omega) (h.in' (by omega) (by omega)) (by have := h.in' (i := i) (j := j + 1) (by omega) (by omega); rwa [e] at this) (h.in' (by omega) (by omega)) (h.sh_le i j hi hj)
theorem Tab.V_last (h : Tab n m sh W) {j : Nat} (hj : j ≤ m) : V W n j = 0 := by unfold V; rw [h.last j hj]; rfl
theorem Tab.V_side (h : Tab n m sh W) {i : Nat} (hi : i ≤ n) : V W i m = 0 := by unfold V; rw [h.side i hi]; rfl
theorem Tab.V_nonneg (h : Tab n m sh W) {i j : Nat} (hi : i ≤ n) (hj : j ≤ m) : 0 ≤ V W i j := by
  have := h.in' hi hj
  unfold InW at this; unfold V val; omega
theorem Tab.V_anti (h : Tab n m sh W) : ∀ (d i j p q : Nat), i ≤ p → j ≤ q → p ≤ n → q ≤ m → (p - i) + (q - j) = d → V W p q ≤ V W i j
  | 0, i, j, p, q, h1, h2, h3, h4, hd => by
    obtain rfl : i = p := by omega
    obtain rfl : j = q := by omega
    exact Int.le_refl _
  | d + 1, i, j, p, q, h1, h2, h3, h4, hd => by
    by_cases e2 : j = m
    · obtain rfl : q = m := by omega
      rw [h.V_side h3]
      exact h.V_nonneg (by omega) (by omega)
    by_cases e1 : i = n
    · obtain rfl : p = n := by omega
      rw [h.V_last h4]
      exact h.V_nonneg (by omega) (by omega)
    have hc := h.cells (i := i) (j := j) (by omega) (by omega)
    by_cases e : i < p
    · exact Int.le_trans (Tab.V_anti h d (i + 1) j p q (by omega) h2 h3 h4 (by omega)) hc.1
    · exact Int.le_trans (Tab.V_anti h d i (j + 1) p q h1 (by omega) h3 h4 (by omega)) hc.2.1
theorem Tab.anti (h : Tab n m sh W) {i j p q : Nat} (h1 : i ≤ p) (h2 : j ≤ q) (h3 : p ≤ n) (h4 : q ≤ m) : V W p q ≤ V W i j := h.V_anti _ i j p q h1 h2 h3 h4 rfl
theorem Tab.pair_le (h : Tab n m sh W) {i j p q : Nat} (h1 : i ≤ p) (h2 : j ≤ q) (h3 : p < n) (h4 : q < m) (hs : 0 < sh p q) : V W (p + 1) (q + 1) + (sh p q * 8192 + 1) ≤ V W i j :=
  Int.le_trans ((h.cells h3 h4).2.2.1 hs) (h.anti h1 h2 (by omega) (by omega))
theorem Tab.pair_ex (h : Tab n m sh W) : ∀ (d i j : Nat), i ≤ n → j ≤ m → (n - i) + (m - j) = d → V W i j ≠ 0 → ∃ p q, i ≤ p ∧ p < n ∧ j ≤ q ∧ q < m ∧ 0 < sh p q ∧ V W i j = V W (p + 1) (q + 1) + (sh p q * 8192 + 1)
  | 0, i, j, hi, hj, hd, hv => by
    obtain rfl : i = n := by omega
    exact absurd (h.V_last hj) hv
  | d + 1, i, j, hi, hj, hd, hv => by
    by_cases e1 : i = n
    · subst e1; exact absurd (h.V_last hj) hv
    by_cases e2 : j = m
    · subst e2; exact absurd (h.V_side hi) hv
    obtain ⟨_, _, _, hc⟩ := h.cells (i := i) (j := j) (by omega) (by omega)
    rcases hc with e | e | ⟨hs, e⟩
    · obtain ⟨p, q, a1, a2, a3, a4, a5, a6⟩ := Tab.pair_ex h d (i + 1) j (by omega) hj (by omega) (by rw [← e]; exact hv)
      exact ⟨p, q, by omega, a2, a3, a4, a5, by rw [e]; exact a6⟩
    · obtain ⟨p, q, a1, a2, a3, a4, a5, a6⟩ := Tab.pair_ex h d i (j + 1) hi (by omega) (by omega) (by rw [← e]; exact hv)
      exact ⟨p, q, a1, a2, by omega, a4, a5, by rw [e]; exact a6⟩
    · exact ⟨i, j, Nat.le_refl _, by omega, Nat.le_refl _, by omega, hs, e⟩
theorem Tab.want (h : Tab n m sh W) {i j p q : Nat} (h1 : i ≤ n) (h2 : j ≤ m) (h3 : p < n) (h4 : q < m) (hs : 0 < sh p q) : plus (W (p + 1) (q + 1)) (sh p q) = W i j ↔ V W i j = V W (p + 1) (q + 1) + (sh p q * 8192 + 1) := by
  have hn := h.hn
  obtain ⟨e, hp⟩ := plus_in (b := n - (p + 1)) (by omega) (h.in' (i := p + 1) (j := q + 1) (by omega) (by omega)) hs (h.sh_le p q h3 h4)
  have ev : val (plus (W (p + 1) (q + 1)) (sh p q)) = V W (p + 1) (q + 1) + (sh p q * 8192 + 1) := by rw [e]; unfold V val; dsimp only; omega
  rw [← val_inj (a := n - (p + 1) + 1) (b := n - i) (by omega) (by omega) (by rw [e]; exact hp) (h.in' h1 h2), ev]
  unfold V
  omega
theorem Tab.none (h : Tab n m sh W) {i j : Nat} (h1 : i ≤ n) (h2 : j ≤ m) : W i j = (0, 0) ↔ V W i j = 0 := by
  have hn := h.hn
  rw [← val_inj (a := n - i) (b := 0) (by omega) (by omega) (h.in' h1 h2) (InW.zero 0)]
  unfold V
  show val (W i j) = 0 * 8192 + 0 ↔ _
  omega
end
end BP
namespace BP
def tabAt (m : Nat) (T : List (Int × Int)) (i j : Nat) : Int × Int := T.getD (i * (m + 1) + j) (0, 0)
def cellV (m : Nat) (sh : Nat → Nat → Int) (T : List (Int × Int)) (i j : Nat) : Int × Int := cell (tabAt m T (i + 1) j) (tabAt m T i (j + 1)) (tabAt m T (i + 1) (j + 1)) (sh i j)
def tabJ (m : Nat) (sh : Nat → Nat → Int) (i : Nat) (T : List (Int × Int)) : Nat → List (Int × Int)
  | 0 => T
  | c + 1 => (tabJ m sh i T c).set (i * (m + 1) + (m - 1 - c)) (cellV m sh (tabJ m sh i T c) i (m - 1 - c))
def tabI (n m : Nat) (sh : Nat → Nat → Int) : Nat → List (Int × Int)
  | 0 => List.replicate ((n + 1) * (m + 1)) (0, 0)
  | c + 1 => tabJ m sh (n - 1 - c) (tabI n m sh c) m
theorem tabJ_length (m : Nat) (sh : Nat → Nat → Int) (i : Nat) (T : List (Int × Int)) : ∀ c, (tabJ m sh i T c).length = T.length
  | 0 => rfl
  | c + 1 => by rw [tabJ, List.length_set, tabJ_length m sh i T c]
theorem tabI_length (n m : Nat) (sh : Nat → Nat → Int) : ∀ c, (tabI n m sh c).length = (n + 1) * (m + 1)
  | 0 => by simp [tabI]
  | c + 1 => by rw [tabI, tabJ_length, tabI_length n m sh c]
theorem place_inj {m i j p q : Nat} (hj : j ≤ m) (hq : q ≤ m) (h : i * (m + 1) + j = p * (m + 1) + q) : i = p ∧ j = q := by
  have h1 : (i * (m + 1) + j) / (m + 1) = i := by rw [Nat.mul_comm, Nat.mul_add_div (by omega), Nat.div_eq_of_lt (by omega), Nat.add_zero]
  have h2 : (p * (m + 1) + q) / (m + 1) = p := by rw [Nat.mul_comm, Nat.mul_add_div (by omega), Nat.div_eq_of_lt (by omega), Nat.add_zero]
  have : i = p := by rw [← h1, ← h2, h]
  subst this
  exact ⟨rfl, by omega⟩
theorem place_lt {n m i j : Nat} (hi : i ≤ n) (hj : j ≤ m) : i * (m + 1) + j < (n + 1) * (m + 1) := by
  have := Nat.mul_le_mul_right (m + 1) hi
  rw [Nat.succ_mul]; omega
theorem tabAt_set {m : Nat} {T : List (Int × Int)} {i j p q : Nat} (v : Int × Int) (hj : j ≤ m) (hq : q ≤ m) (hl : i * (m + 1) + j < T.length) : tabAt m (T.set (i * (m + 1) + j) v) p q = if p = i ∧ q = j then v else tabAt m T p q := by
  unfold tabAt
  rw [List.getD_eq_getElem?_getD]
  by_cases e : p = i ∧ q = j
  · obtain ⟨rfl, rfl⟩ := e
    rw [if_pos ⟨rfl, rfl⟩, List.getElem?_set_self hl]; rfl
  · rw [if_neg e, List.getElem?_set_ne (fun h => e (by have := place_inj hj hq h; omega)), List.getD_eq_getElem?_getD]
theorem tabJ_at {m : Nat} (sh : Nat → Nat → Int) {i : Nat} {T : List (Int × Int)} (hl : i * (m + 1) + m < T.length) : ∀ c, c ≤ m →
    (∀ p q, q ≤ m → (p ≠ i ∨ q < m - c ∨ q = m) → tabAt m (tabJ m sh i T c) p q = tabAt m T p q) ∧
    ∀ q, m - c ≤ q → q < m → tabAt m (tabJ m sh i T c) i q = cell (tabAt m T (i + 1) q) (tabAt m (tabJ m sh i T c) i (q + 1)) (tabAt m T (i + 1) (q + 1)) (sh i q)
  | 0, _ => ⟨fun p q _ _ => rfl, fun q h1 h2 => by omega⟩
  | c + 1, hc => by
    obtain ⟨ih1, ih2⟩ := tabJ_at sh hl c (by omega)
    have hlen := tabJ_length m sh i T c
    have hs : ∀ p q, q ≤ m → tabAt m (tabJ m sh i T (c + 1)) p q = if p = i ∧ q = m - 1 - c then cellV m sh (tabJ m sh i T c) i (m - 1 - c) else tabAt m (tabJ m sh i T c) p q := fun p q hq => by
      rw [tabJ, tabAt_set _ (by omega) hq (by rw [hlen]; omega)]
    refine ⟨fun p q hq h => ?_, fun q h1 h2 => ?_⟩
    · rw [hs p q hq, if_neg (by omega)]
      exact ih1 p q hq (by omega)
    · rw [hs i q (by omega), hs i (q + 1) (by omega), if_neg (c := i = i ∧ q + 1 = m - 1 - c) (by omega)]
      by_cases e : q = m - 1 - c
      · rw [if_pos ⟨rfl, e⟩, ← e, cellV, ih1 (i + 1) q (by omega) (by omega), ih1 (i + 1) (q + 1) (by omega) (by omega)]
      · rw [if_neg (fun h => e h.2)]
        exact ih2 q (by omega) h2
theorem tabI_at {n m : Nat} (sh : Nat → Nat → Int) : ∀ c, c ≤ n →
    (∀ p q, q ≤ m → p ≤ n → (p < n - c ∨ p = n ∨ q = m) → tabAt m (tabI n m sh c) p q = (0, 0)) ∧
    ∀ p q, n - c ≤ p → p < n → q < m → tabAt m (tabI n m sh c) p q = cell (tabAt m (tabI n m sh c) (p + 1) q) (tabAt m (tabI n m sh c) p (q + 1)) (tabAt m (tabI n m sh c) (p + 1) (q + 1)) (sh p q)
  | 0, _ => ⟨fun p q hq hp _ => by unfold tabAt tabI; rw [List.getD_eq_getElem?_getD, List.getElem?_replicate]; split <;> rfl, fun p q h1 h2 => by omega⟩
  | c + 1, hc => by
    obtain ⟨ih1, ih2⟩ := tabI_at (n := n) (m := m) sh c (by omega)
    have hlen := tabI_length n m sh c
    obtain ⟨j1, j2⟩ := tabJ_at sh (i := n - 1 - c) (T := tabI n m sh c) (m := m) (by rw [hlen]; exact place_lt (show n - 1 - c ≤ n by omega) (Nat.le_refl m)) m (Nat.le_refl _)
    refine ⟨fun p q hq hp h => ?_, fun p q h1 h2 h3 => ?_⟩
    · rw [tabI]
      by_cases e : p = n - 1 - c
      · have hq' : q = m := by omega
        rw [j1 p q hq (by omega)]
        exact ih1 p q hq hp (by omega)
      · rw [j1 p q hq (.inl e)]
        exact ih1 p q hq hp (by omega)
    · rw [tabI]
      by_cases e : p = n - 1 - c
      · rw [e, j2 q (by omega) h3, j1 (n - 1 - c + 1) q (by omega) (.inl (by omega)), j1 (n - 1 - c + 1) (q + 1) (by omega) (.inl (by omega))]
      · rw [j1 p q (by omega) (.inl e), j1 (p + 1) q (by omega) (.inl (by omega)), j1 p (q + 1) (by omega) (.inl e), j1 (p + 1) (q + 1) (by omega) (.inl (by omega))]
        exact ih2 p q (by omega) h2 h3
theorem tab_of {n m : Nat} {sh : Nat → Nat → Int} (hn : n ≤ 4096) (hs : ∀ i j, i < n → j < m → sh i j ≤ 400000000) : Tab n m sh (tabAt m (tabI n m sh n)) := by
  obtain ⟨h1, h2⟩ := tabI_at (m := m) sh n (Nat.le_refl _)
  exact ⟨hn, hs, fun j hj => h1 n j hj (Nat.le_refl _) (by omega), fun i hi => h1 i m (Nat.le_refl _) hi (by omega), fun i j hi hj => h2 i j (by omega) hi hj⟩
end BP
namespace BP
section
variable (sh : Nat → Nat → Int) (W : Nat → Nat → Int × Int)
def hit (want : Int × Int) (p q : Nat) : Bool := decide (0 < sh p q) && decide (plus (W (p + 1) (q + 1)) (sh p q) = want)
def findQ (want : Int × Int) (p : Nat) : Nat → Nat → Option Nat
  | 0, _ => none
  | r + 1, q => if hit sh W want p q = true then some q else findQ want p r (q + 1)
def findP (m : Nat) (want : Int × Int) (j : Nat) : Nat → Nat → Option (Nat × Nat)
  | 0, _ => none
  | r + 1, p => match findQ sh W want p (m - j) j with
    | some q => some (p, q)
    | none => findP m want j r (p + 1)
def rowL (n m : Nat) : Nat → Nat → Nat → Option (List (Nat × Nat))
  | 0, _, _ => none
  | k + 1, i, j => if W i j = (0, 0) then some [] else match findP sh W m (W i j) j (n - i) i with
    | none => none
    | some pq => (rowL n m k (pq.1 + 1) (pq.2 + 1)).map (fun L => pq :: L)
end
section
variable {n m : Nat} {sh : Nat → Nat → Int} {W : Nat → Nat → Int × Int} {want : Int × Int}
theorem findQ_some {p : Nat} : ∀ {r q x : Nat}, findQ sh W want p r q = some x → q ≤ x ∧ x < q + r ∧ hit sh W want p x = true ∧ ∀ y, q ≤ y → y < x → hit sh W want p y = false
  | 0, q, x, h => by simp [findQ] at h
  | r + 1, q, x, h => by
    unfold findQ at h
    by_cases c : hit sh W want p q = true
    · rw [if_pos c] at h
      obtain rfl := Option.some.inj h
      exact ⟨Nat.le_refl _, by omega, c, fun y h1 h2 => by omega⟩
    · rw [if_neg c] at h
      obtain ⟨a1, a2, a3, a4⟩ := findQ_some h
      refine ⟨by omega, by omega, a3, fun y h1 h2 => ?_⟩
      by_cases e : y = q
      · subst e; simpa using c
      · exact a4 y (by omega) h2
theorem findQ_none {p : Nat} : ∀ {r q : Nat}, findQ sh W want p r q = none → ∀ y, q ≤ y → y < q + r → hit sh W want p y = false
  | 0, q, _, y, h1, h2 => by omega
  | r + 1, q, h, y, h1, h2 => by
    unfold findQ at h
    by_cases c : hit sh W want p q = true
    · rw [if_pos c] at h; simp at h
    · rw [if_neg c] at h
      by_cases e : y = q
      · subst e; simpa using c
      · exact findQ_none h y (by omega) (by omega)
theorem findP_some {j : Nat} (hj : j ≤ m) : ∀ {r p : Nat} {x : Nat × Nat}, findP sh W m want j r p = some x → p ≤ x.1 ∧ x.1 < p + r ∧ j ≤ x.2 ∧ x.2 < m ∧ hit sh W want x.1 x.2 = true ∧
    (∀ a b, p ≤ a → a < x.1 → j ≤ b → b < m → hit sh W want a b = false) ∧ ∀ b, j ≤ b → b < x.2 → hit sh W want x.1 b = false
  | 0, p, x, h => by simp [findP] at h
  | r + 1, p, x, h => by
    unfold findP at h
    split at h
    · rename_i q e
      obtain rfl := Option.some.inj h
      obtain ⟨a1, a2, a3, a4⟩ := findQ_some e
      exact ⟨Nat.le_refl _, by dsimp only; omega, a1, by dsimp only; omega, a3, fun a b h1 h2 => by dsimp only at h2; omega, a4⟩
    · rename_i e
      obtain ⟨a1, a2, a3, a4, a5, a6, a7⟩ := findP_some hj h
      refine ⟨by omega, by omega, a3, a4, a5, fun a b h1 h2 h3 h4 => ?_, a7⟩
      by_cases e1 : a = p
      · subst e1; exact findQ_none e b h3 (by omega)
      · exact a6 a b (by omega) h2 h3 h4
theorem findP_none {j : Nat} (hj : j ≤ m) : ∀ {r p : Nat}, findP sh W m want j r p = none → ∀ a b, p ≤ a → a < p + r → j ≤ b → b < m → hit sh W want a b = false
  | 0, p, _, a, b, h1, h2, _, _ => by omega
  | r + 1, p, h, a, b, h1, h2, h3, h4 => by
    unfold findP at h
    split at h
    · simp at h
    · rename_i e
      by_cases e1 : a = p
      · subst e1; exact findQ_none e b h3 (by omega)
      · exact findP_none hj h a b (by omega) (by omega) h3 h4
def RowOK (n m : Nat) (sh : Nat → Nat → Int) : Nat → Nat → List (Nat × Nat) → Prop
  | _, _, [] => True
  | i, j, x :: L => i ≤ x.1 ∧ x.1 < n ∧ j ≤ x.2 ∧ x.2 < m ∧ 0 < sh x.1 x.2 ∧ RowOK n m sh (x.1 + 1) (x.2 + 1) L
def total (sh : Nat → Nat → Int) : List (Nat × Nat) → Int
  | [] => 0
  | x :: L => (sh x.1 x.2 * 8192 + 1) + total sh L
theorem hit_iff (h : Tab n m sh W) {i j p q : Nat} (h1 : i ≤ n) (h2 : j ≤ m) (h3 : p < n) (h4 : q < m) : hit sh W (W i j) p q = true ↔ 0 < sh p q ∧ V W i j = V W (p + 1) (q + 1) + (sh p q * 8192 + 1) := by
  unfold hit
  rw [Bool.and_eq_true, decide_eq_true_eq, decide_eq_true_eq]
  constructor
  · rintro ⟨a, b⟩; exact ⟨a, (h.want h1 h2 h3 h4 a).1 b⟩
  · rintro ⟨a, b⟩; exact ⟨a, (h.want h1 h2 h3 h4 a).2 b⟩
theorem rowL_tells (h : Tab n m sh W) : ∀ (k i j : Nat), i ≤ n → j ≤ m → n - i < k → ∃ L, rowL sh W n m k i j = some L ∧ RowOK n m sh i j L ∧ total sh L = V W i j
  | 0, i, j, _, _, hk => by omega
  | k + 1, i, j, hi, hj, hk => by
    unfold rowL
    by_cases c : W i j = (0, 0)
    · rw [if_pos c]; exact ⟨[], rfl, trivial, ((h.none hi hj).1 c).symm⟩
    · rw [if_neg c]
      have hv : V W i j ≠ 0 := fun e => c ((h.none hi hj).2 e)
      obtain ⟨p, q, a1, a2, a3, a4, a5, a6⟩ := h.pair_ex _ i j hi hj rfl hv
      cases e : findP sh W m (W i j) j (n - i) i with
      | none =>
        have := findP_none hj e p q a1 (by omega) a3 a4
        rw [(hit_iff h hi hj a2 a4).2 ⟨a5, a6⟩] at this
        exact absurd this (by decide)
      | some x =>
        obtain ⟨b1, b2, b3, b4, b5, _, _⟩ := findP_some hj e
        obtain ⟨c1, c2⟩ := (hit_iff h hi hj (by omega) b4).1 b5
        obtain ⟨L, d1, d2, d3⟩ := rowL_tells h k (x.1 + 1) (x.2 + 1) (by omega) (by omega) (by omega)
        refine ⟨x :: L, by dsimp only; rw [d1]; rfl, ⟨b1, by omega, b3, b4, c1, d2⟩, ?_⟩
        unfold total; rw [d3, c2]; omega
theorem rowL_mono (k : Nat) : ∀ (i j : Nat) (L : List (Nat × Nat)), rowL sh W n m k i j = some L → rowL sh W n m (k + 1) i j = some L := by
  induction k with
  | zero => intro i j L h; simp [rowL] at h
  | succ k ih =>
    intro i j L h
    rw [rowL] at h ⊢
    split
    · rename_i c; rw [if_pos c] at h; exact h
    · rename_i c
      rw [if_neg c] at h
      cases e : findP sh W m (W i j) j (n - i) i with
      | none => rw [e] at h; exact h
      | some x =>
        rw [e] at h
        dsimp only at h ⊢
        obtain ⟨L', h1, rfl⟩ := Option.map_eq_some_iff.1 h
        rw [ih _ _ _ h1]; rfl
end
section
variable {n m : Nat} {sh : Nat → Nat → Int} {W : Nat → Nat → Int × Int}
def rowV (sh : Nat → Nat → Int) (W : Nat → Nat → Int × Int) (n m i j : Nat) : List (Nat × Nat) := (rowL sh W n m (n + 1) i j).getD []
theorem rowL_up (k d : Nat) {i j : Nat} {L : List (Nat × Nat)} (h : rowL sh W n m k i j = some L) : rowL sh W n m (k + d) i j = some L := by
  induction d with
  | zero => exact h
  | succ d ih => exact rowL_mono _ _ _ _ ih
theorem rowL_same {k k' i j : Nat} {L L' : List (Nat × Nat)} (h : rowL sh W n m k i j = some L) (h' : rowL sh W n m k' i j = some L') : L = L' := by
  have a := rowL_up k k' h
  have b := rowL_up k' k h'
  rw [Nat.add_comm] at b
  exact Option.some.inj (a.symm.trans b)
theorem rowL_V (h : Tab n m sh W) {k i j : Nat} (hi : i ≤ n) (hj : j ≤ m) (hk : n - i < k) : rowL sh W n m k i j = some (rowV sh W n m i j) := by
  obtain ⟨L, h1, _, _⟩ := rowL_tells h k i j hi hj hk
  obtain ⟨L', h2, _, _⟩ := rowL_tells h (n + 1) i j hi hj (by omega)
  unfold rowV
  rw [h2, h1, rowL_same h1 h2]; rfl
theorem rowV_ok (h : Tab n m sh W) {i j : Nat} (hi : i ≤ n) (hj : j ≤ m) : RowOK n m sh i j (rowV sh W n m i j) ∧ total sh (rowV sh W n m i j) = V W i j := by
  obtain ⟨L', h2, h3, h4⟩ := rowL_tells h (n + 1) i j hi hj (by omega)
  unfold rowV
  rw [h2]
  exact ⟨h3, h4⟩
theorem rowV_nil (h : Tab n m sh W) {i j : Nat} (hi : i ≤ n) (hj : j ≤ m) (hv : V W i j = 0) : rowV sh W n m i j = [] := by
  have := rowL_V h (k := n + 1) hi hj (by omega)
  rw [rowL, if_pos ((h.none hi hj).2 hv)] at this
  exact (Option.some.inj this).symm
theorem rowV_cons (h : Tab n m sh W) {i j p q : Nat} (hi : i ≤ p) (hj : j ≤ q) (hp : p < n) (hq : q < m) (hs : 0 < sh p q) (hv : V W i j = V W (p + 1) (q + 1) + (sh p q * 8192 + 1))
    (hf : ∀ a b, i ≤ a → j ≤ b → b < m → (a < p ∨ a = p ∧ b < q) → 0 < sh a b → V W (a + 1) (b + 1) + (sh a b * 8192 + 1) < V W i j) : rowV sh W n m i j = (p, q) :: rowV sh W n m (p + 1) (q + 1) := by
  have h0 := rowL_V h (k := n + 1) (i := i) (j := j) (by omega) (by omega) (by omega)
  have hn0 : ¬ W i j = (0, 0) := fun e => by
    have := (h.none (by omega) (by omega)).1 e
    have := h.V_nonneg (i := p + 1) (j := q + 1) (by omega) (by omega)
    omega
  rw [rowL, if_neg hn0] at h0
  cases e : findP sh W m (W i j) j (n - i) i with
  | none =>
    have := findP_none (show j ≤ m by omega) e p q hi (by omega) hj hq
    rw [(hit_iff h (by omega) (by omega) hp hq).2 ⟨hs, hv⟩] at this
    exact absurd this (by decide)
  | some x =>
    obtain ⟨b1, b2, b3, b4, b5, b6, b7⟩ := findP_some (show j ≤ m by omega) e
    obtain ⟨x1, x2⟩ := x
    dsimp only at b1 b2 b3 b4 b5 b6 b7
    obtain ⟨c1, c2⟩ := (hit_iff h (by omega) (by omega) (by omega) b4).1 b5
    have e1 : x1 = p := by
      rcases Nat.lt_trichotomy x1 p with l | l | l
      · have := hf x1 x2 b1 b3 b4 (.inl l) c1; omega
      · exact l
      · have := b6 p q hi l hj hq
        rw [(hit_iff h (by omega) (by omega) hp hq).2 ⟨hs, hv⟩] at this
        exact absurd this (by decide)
    subst e1
    have e2 : x2 = q := by
      rcases Nat.lt_trichotomy x2 q with l | l | l
      · have := hf x1 x2 b1 b3 b4 (.inr ⟨rfl, l⟩) c1; omega
      · exact l
      · have := b7 q hj l
        rw [(hit_iff h (by omega) (by omega) hp hq).2 ⟨hs, hv⟩] at this
        exact absurd this (by decide)
    subst e2
    rw [e] at h0
    dsimp only at h0
    rw [rowL_V h (by omega) (by omega) (by omega)] at h0
    exact (Option.some.inj h0).symm
def Tried (W : Nat → Nat → Int × Int) (sh : Nat → Nat → Int) (n m i j p q : Nat) (c : Int) (out : List (Nat × Nat)) : Prop :=
  (∀ a b, i ≤ a → a < n → j ≤ b → b < m → (a < p ∨ a = p ∧ b < q) → 0 < sh a b → V W (a + 1) (b + 1) + (sh a b * 8192 + 1) ≤ c) ∧
  ((c = 0 ∧ out = []) ∨ ∃ a b, i ≤ a ∧ a < n ∧ j ≤ b ∧ b < m ∧ (a < p ∨ a = p ∧ b < q) ∧ 0 < sh a b ∧ c = V W (a + 1) (b + 1) + (sh a b * 8192 + 1) ∧ out = (a, b) :: rowV sh W n m (a + 1) (b + 1) ∧
    ∀ a' b', i ≤ a' → j ≤ b' → b' < m → (a' < a ∨ a' = a ∧ b' < b) → 0 < sh a' b' → V W (a' + 1) (b' + 1) + (sh a' b' * 8192 + 1) < c)
theorem Tried.start (i j : Nat) : Tried W sh n m i j i j 0 [] := ⟨fun a b h1 h2 h3 h4 h5 _ => by omega, .inl ⟨rfl, rfl⟩⟩
theorem Tried.row {i j p : Nat} {c : Int} {out : List (Nat × Nat)} (h : Tried W sh n m i j p m c out) : Tried W sh n m i j (p + 1) j c out :=
  ⟨fun a b h1 h2 h3 h4 h5 hs => h.1 a b h1 h2 h3 h4 (by omega) hs, h.2.imp id fun ⟨a, b, h1, h2, h3, h4, h5, h6⟩ => ⟨a, b, h1, h2, h3, h4, by omega, h6⟩⟩
theorem Tried.skip {i j p q : Nat} {c : Int} {out : List (Nat × Nat)} (h : Tried W sh n m i j p q c out) (hs : ¬ (0 < sh p q ∧ V W (p + 1) (q + 1) + (sh p q * 8192 + 1) > c)) : Tried W sh n m i j p (q + 1) c out :=
  ⟨fun a b h1 h2 h3 h4 h5 h6 => by
    by_cases e : a = p ∧ b = q
    · obtain ⟨rfl, rfl⟩ := e
      exact Int.not_lt.1 fun h' => hs ⟨h6, h'⟩
    · exact h.1 a b h1 h2 h3 h4 (by omega) h6, h.2.imp id fun ⟨a, b, h1, h2, h3, h4, h5, h6⟩ => ⟨a, b, h1, h2, h3, h4, by omega, h6⟩⟩
theorem Tried.take {i j p q : Nat} {c : Int} {out : List (Nat × Nat)} (h : Tried W sh n m i j p q c out) (h1 : i ≤ p) (h2 : p < n) (h3 : j ≤ q) (h4 : q < m) (h5 : 0 < sh p q) (hc : V W (p + 1) (q + 1) + (sh p q * 8192 + 1) > c) :
    Tried W sh n m i j p (q + 1) (V W (p + 1) (q + 1) + (sh p q * 8192 + 1)) ((p, q) :: rowV sh W n m (p + 1) (q + 1)) :=
  ⟨fun a b g1 g2 g3 g4 g5 g6 => by
    by_cases e : a = p ∧ b = q
    · obtain ⟨rfl, rfl⟩ := e; exact Int.le_refl _
    · have := h.1 a b g1 g2 g3 g4 (by omega) g6; omega,
   .inr ⟨p, q, h1, h2, h3, h4, by omega, h5, rfl, rfl, fun a' b' g1 g3 g4 g5 g6 => by have := h.1 a' b' g1 (by omega) g3 g4 (by omega) g6; omega⟩⟩
theorem Tried.done (h : Tab n m sh W) {i j : Nat} (hi : i ≤ n) (hj : j ≤ m) {c : Int} {out : List (Nat × Nat)} (ht : Tried W sh n m i j n j c out) : c = V W i j ∧ out = rowV sh W n m i j := by
  obtain ⟨h1, h2⟩ := ht
  have hge : c = 0 ∨ 0 < c := by
    rcases h2 with ⟨e, _⟩ | ⟨a, b, g1, g2, g3, g4, _, g6, g7, _⟩
    · exact .inl e
    · have := h.V_nonneg (i := a + 1) (j := b + 1) (by omega) (by omega)
      omega
  have hle : V W i j ≤ c := by
    by_cases e : V W i j = 0
    · omega
    · obtain ⟨p, q, a1, a2, a3, a4, a5, a6⟩ := h.pair_ex _ i j hi hj rfl e
      have := h1 p q a1 a2 a3 a4 (.inl a2) a5
      omega
  rcases h2 with ⟨e, rfl⟩ | ⟨a, b, g1, g2, g3, g4, g5, g6, g7, rfl, g9⟩
  · have := h.V_nonneg hi hj
    have e2 : V W i j = 0 := by omega
    exact ⟨by omega, (rowV_nil h hi hj e2).symm⟩
  · have hv := h.pair_le g1 g3 g2 g4 g6
    have e : c = V W i j := by omega
    refine ⟨e, (rowV_cons h g1 g3 g2 g4 g6 (by omega) fun a' b' k1 k2 k3 k4 k5 => ?_).symm⟩
    have := g9 a' b' k1 k2 k3 k4 k5
    omega
end
section
variable {n m : Nat} {sh sh' : Nat → Nat → Int} {W W' : Nat → Nat → Int × Int}
end
end BP
end Go.Proofs.Ytlbicmdfdpcdiaa.F
-- Printed by a program of this session's; Lean checks it.
set_option linter.unusedVariables false
set_option linter.unusedSimpArgs false
set_option maxRecDepth 100000
namespace Go.Proofs.Ytlbicmdfdpcdiaa.F
open Go.Proofs.Ytlbicmdfdpcdiaa.Vm Go.RowKit
abbrev PL : Type := List (Int × Int)
def endsV (l : List CuD) : PL := l.map fun x => (((thV x.1.1 x.1.2 : Nat) : Int), ((thV x.2.1.1 x.2.1.2 : Nat) : Int))
theorem ends_loop (l : List CuD) (hG : ∀ a ∈ l, GC a) (hd : docOK l) : ∀ (m i : Nat), i + m = l.length → TellsL (fun K k => itn (dual_Pairs_1.B11 K l) k ((i : Int), endsV (l.take i))) (endsV l)
  | 0, i, h => by
    obtain rfl : i = l.length := by omega
    rw [List.take_length]
    exact TellsL.step (g := fun _ _ => some (endsV l)) (fun K k => by rw [itn, dual_Pairs_1.B11, dual_Pairs_1.T11, lenI_eq, sel_neg (by dsimp only; omega)]) (TellsL.const _)
  | m + 1, i, h => by
    have hi : i < l.length := by omega
    have hl := hd.1
    obtain ⟨g0, g1, g2, g3⟩ := G_at hG hi
    have hc := (hd.2.1 i hi).1
    have h1 := thousandths_tells g0 g1 hc.1
    have h2 := thousandths_tells g2 g3 hc.2.1
    refine TellsL.step (g := fun K k => (dual_thousandths K ((l.getD i default).1.1, (l.getD i default).1.2)).bind fun t => (dual_thousandths K ((l.getD i default).2.1.1, (l.getD i default).2.1.2)).bind fun t2 => itn (dual_Pairs_1.B11 K l) k (((i + 1 : Nat) : Int), endsV (l.take i) ++ [(t, t2)])) (fun K k => ?_) (TellsL.bind h1 (TellsL.bind h2 ?_))
    · rw [itn, dual_Pairs_1.B11, dual_Pairs_1.T11]
      dsimp only
      rw [lenI_eq, sel_pos (by omega), sel_pos (by omega), sel_pos (by omega), lget_nat, wrap64_id (by unfold I64; omega)]
      have hap : ∀ (t : Int × Int) (u v : Option PL), sel (((endsV (l.take i)).length + ([t] : PL).length) * 16 ≤ 140737488355328) u v = u := fun t u v => sel_pos (by unfold endsV; rw [List.length_map, List.length_take, List.length_singleton]; omega)
      simp only [hap]
      rfl
    · have e : endsV (l.take i) ++ [(((thV (l.getD i default).1.1 (l.getD i default).1.2 : Nat) : Int), ((thV (l.getD i default).2.1.1 (l.getD i default).2.1.2 : Nat) : Int))] = endsV (l.take (i + 1)) := by
        rw [List.take_succ_eq_append_getElem hi]
        unfold endsV
        rw [List.map_append, List.getD_eq_getElem?_getD, List.getElem?_eq_getElem hi]
        rfl
      rw [e]
      exact ends_loop l hG hd m (i + 1) (by omega)
theorem ends_tells (l : List CuD) (hG : ∀ a ∈ l, GC a) (hd : docOK l) : Tells (fun k => dual_Pairs_1 k l) (endsV l) := TellsL.diag (ends_loop l hG hd l.length 0 (by omega))
def shS (x y : PL) (i j : Nat) : Int := wrap64 ((if (y.getD j default).2 < (x.getD i default).2 then (y.getD j default).2 else (x.getD i default).2) - (if (x.getD i default).1 < (y.getD j default).1 then (y.getD j default).1 else (x.getD i default).1))
theorem above_f (a b : Int × Int) (k : Nat) : dual_worth_above k (a, b) = some (BP.above a b) := by
  unfold dual_worth_above BP.above
  dsimp only
  rw [sel_eq, sel_eq]
  split
  · rename_i h; simp [h]
  · rename_i h
    split
    · rename_i h2; simp [h2]
    · rename_i h2; simp [h, h2]
section
variable {n m : Nat} (hn : n ≤ 4096) (hm : m ≤ 4096) (hnm : n * m ≤ 1048576) {a b : List CuD} (ha : a.length = n) (hb : b.length = m) {x y : PL} (hx : x.length = n) (hy : y.length = m)
theorem ix {i j : Nat} (hm : m ≤ 4096) (hb : b.length = m) (hi : i ≤ 4097) (hj : j ≤ 4097) : wrap64 (wrap64 ((i : Int) * wrap64 (lenI b + 1)) + (j : Int)) = ((i * (m + 1) + j : Nat) : Int) := by
  have h1 : i * (m + 1) ≤ 4097 * 4097 := Nat.mul_le_mul hi (by omega)
  rw [lenI_eq, hb, wrap64_id (a := (m : Int) + 1) (by unfold I64; omega), show (i : Int) * ((m : Int) + 1) = ((i * (m + 1) : Nat) : Int) by simp, wrap64_id (a := ((i * (m + 1) : Nat) : Int)) (by unfold I64; omega)]
  generalize i * (m + 1) = q at *
  rw [wrap64_id (by unfold I64; omega)]
  omega
theorem succ_w {i : Nat} (hi : i ≤ 5000) : wrap64 ((i : Int) + 1) = ((i + 1 : Nat) : Int) := by rw [wrap64_id (by unfold I64; omega)]; omega
theorem lget_tab {T : PL} (i j : Nat) : lget T ((i * (m + 1) + j : Nat) : Int) default = BP.tabAt m T i j := rfl
include hn hm ha hb hx hy in
theorem fillJ (K : Nat) (g : (Int × PL) → Option (PL × Option (Int × Int))) (i : Nat) (hi : i < n) (T0 : PL) (hT : T0.length = (n + 1) * (m + 1)) : ∀ (j k : Nat), j ≤ m → j < k →
    itn (dual_Pairs.B67 K ((i : Int), T0) (a, b) g x y) k ((j : Int) - 1, BP.tabJ m (shS x y) i T0 (m - j)) = g ((i : Int) - 1, BP.tabJ m (shS x y) i T0 m)
  | 0, k, hj, hk => by
    obtain ⟨k, rfl⟩ : ∃ q, k = q + 1 := ⟨k - 1, by omega⟩
    rw [itn, dual_Pairs.B67, dual_Pairs.T67, sel_neg (by dsimp only; omega)]
    dsimp only
    rw [wrap64_id (by unfold I64; omega)]
    rfl
  | j + 1, k, hj, hk => by
    obtain ⟨k, rfl⟩ : ∃ q, k = q + 1 := ⟨k - 1, by omega⟩
    have hlen := BP.tabJ_length m (shS x y) i T0 (m - (j + 1))
    have e1 : ((j + 1 : Nat) : Int) - 1 = (j : Int) := by omega
    have e2 : m - j = m - (j + 1) + 1 := by omega
    have ih := fillJ K g i hi T0 hT j k (by omega) (by omega)
    rw [e2, BP.tabJ, show m - 1 - (m - (j + 1)) = j by omega] at ih
    rw [← ih, e1]
    generalize BP.tabJ m (shS x y) i T0 (m - (j + 1)) = T at hlen ⊢
    have p1 := BP.place_lt (n := n) (m := m) (i := i + 1) (j := j) (by omega) (by omega)
    have p2 := BP.place_lt (n := n) (m := m) (i := i) (j := j + 1) (by omega) (by omega)
    have p3 := BP.place_lt (n := n) (m := m) (i := i + 1) (j := j + 1) (by omega) (by omega)
    have p4 := BP.place_lt (n := n) (m := m) (i := i) (j := j) (by omega) (by omega)
    rw [← hT, ← hlen] at p1 p2 p3 p4
    have j74 : ∀ w : Int × Int, dual_Pairs.J74 K ((i : Int), T0) (a, b) ((j : Int), T) (itn (dual_Pairs.B67 K ((i : Int), T0) (a, b) g x y) k) w = itn (dual_Pairs.B67 K ((i : Int), T0) (a, b) g x y) k ((j : Int) - 1, T.set (i * (m + 1) + j) w) := fun w => by
      unfold dual_Pairs.J74
      dsimp only
      rw [ix hm hb (by omega) (by omega), lenI_eq, sel_pos (by omega), sel_pos (by omega), wrap64_id (by unfold I64; omega)]
      rfl
    have j71 : ∀ w : Int × Int, dual_Pairs.J71 K ((i : Int), T0) x ((j : Int), T) y (a, b) (itn (dual_Pairs.B67 K ((i : Int), T0) (a, b) g x y) k) w = itn (dual_Pairs.B67 K ((i : Int), T0) (a, b) g x y) k ((j : Int) - 1, T.set (i * (m + 1) + j) (if shS x y i j > 0 then (if BP.above (BP.plus (BP.tabAt m T (i + 1) (j + 1)) (shS x y i j)) w = true then BP.plus (BP.tabAt m T (i + 1) (j + 1)) (shS x y i j) else w) else w)) := fun w => by
      unfold dual_Pairs.J71
      dsimp only
      rw [lenI_eq, lenI_eq, hx, hy]
      rw [sel_pos (by omega), sel_pos (by omega), sel_pos (by omega), sel_pos (by omega), sel_pos (by omega), sel_pos (by omega), sel_pos (by omega), sel_pos (by omega), lget_nat, lget_nat]
      rw [show wrap64 ((if (y.getD j default).2 < (x.getD i default).2 then (y.getD j default).2 else (x.getD i default).2) - (if (x.getD i default).1 < (y.getD j default).1 then (y.getD j default).1 else (x.getD i default).1)) = shS x y i j from rfl]
      unfold dual_Pairs.J77
      dsimp only
      by_cases hs : 0 < shS x y i j
      · rw [sel_pos hs, if_pos hs, succ_w (by omega), succ_w (by omega), ix hm hb (by omega) (by omega), lenI_eq, sel_pos (by omega), sel_pos (by omega), lget_tab, above_f, Option.bind_some]
        rw [show ((wrap64 ((BP.tabAt m T (i + 1) (j + 1)).1 + shS x y i j)), (wrap64 ((BP.tabAt m T (i + 1) (j + 1)).2 + 1))) = BP.plus (BP.tabAt m T (i + 1) (j + 1)) (shS x y i j) from rfl]
        cases hab : BP.above (BP.plus (BP.tabAt m T (i + 1) (j + 1)) (shS x y i j)) w
        · rw [sel_neg (by decide), if_neg (by decide)]; exact j74 w
        · rw [sel_pos rfl, if_pos rfl]; exact j74 _
      · rw [sel_neg hs, if_neg hs]; exact j74 w
    rw [itn, dual_Pairs.B67, dual_Pairs.T67]
    dsimp only
    rw [succ_w (i := i) (by omega), succ_w (i := j) (by omega), ix hm hb (by omega) (by omega), ix hm hb (by omega) (by omega), lenI_eq, sel_pos (by omega), sel_pos (by omega), sel_pos (by omega), sel_pos (by omega), sel_pos (by omega), lget_tab, lget_tab, above_f, Option.bind_some]
    unfold BP.cellV BP.cell
    dsimp only
    cases hab : BP.above (BP.tabAt m T i (j + 1)) (BP.tabAt m T (i + 1) j)
    · rw [sel_neg (by decide)]; exact j71 _
    · rw [sel_pos rfl]; exact j71 _
include hn hm ha hb hx hy in
theorem fillI (K : Nat) (hK : 5000 ≤ K) : ∀ (i k : Nat), i ≤ n → i < k → itn (dual_Pairs.B63 K (a, b) x y) k ((i : Int) - 1, BP.tabI n m (shS x y) (n - i)) = dual_Pairs.L145 K (a, b) (-1, BP.tabI n m (shS x y) n) x y (0, 0, [])
  | 0, k, hi, hk => by
    obtain ⟨k, rfl⟩ : ∃ q, k = q + 1 := ⟨k - 1, by omega⟩
    rw [itn, dual_Pairs.B63, dual_Pairs.T63, sel_neg (by dsimp only; omega)]
    rfl
  | i + 1, k, hi, hk => by
    obtain ⟨k, rfl⟩ : ∃ q, k = q + 1 := ⟨k - 1, by omega⟩
    rw [← fillI K hK i k (by omega) (by omega), show ((i + 1 : Nat) : Int) - 1 = (i : Int) by omega, show n - i = n - (i + 1) + 1 by omega, BP.tabI, show n - 1 - (n - (i + 1)) = i by omega]
    rw [itn, dual_Pairs.B63, dual_Pairs.T63, sel_pos (by dsimp only; omega)]
    unfold dual_Pairs.L67
    dsimp only
    rw [lenI_eq, hb, wrap64_id (by unfold I64; omega)]
    have := fillJ hn hm ha hb hx hy K (itn (dual_Pairs.B63 K (a, b) x y) k) i (by omega) (BP.tabI n m (shS x y) (n - (i + 1))) (BP.tabI_length ..) m K (Nat.le_refl _) (by omega)
    rw [Nat.sub_self] at this
    exact this
end
end Go.Proofs.Ytlbicmdfdpcdiaa.F
-- Printed by a program of this session's; Lean checks it.
set_option linter.unusedVariables false
set_option linter.unusedSimpArgs false
set_option maxRecDepth 100000
namespace Go.Proofs.Ytlbicmdfdpcdiaa.F
open Go.Proofs.Ytlbicmdfdpcdiaa.Vm Go.RowKit
def told (L : List (Nat × Nat)) : PL := L.map fun x => ((x.1 : Int), (x.2 : Int))
section
variable {n m : Nat} (hn : n ≤ 4096) (hm : m ≤ 4096) {a b : List CuD} (ha : a.length = n) (hb : b.length = m) {x y : PL} (hx : x.length = n) (hy : y.length = m) {T : PL} (hT : T.length = (n + 1) * (m + 1)) (z : Int)
abbrev RES : Type := PL × Option (Int × Int)
include hn hm hb hx hy hT in
theorem rowQ (K : Nat) (g149 : Int → Option RES) (g145 : (Int × Int × PL) → Option RES) (i j : Nat) (hi : i ≤ n) (hj : j ≤ m) (out : PL) (ho : out.length ≤ 4096) (p : Nat) (hp : p < n) : ∀ (r q k : Nat), q + r = m → r < k →
    itn (dual_Pairs.B153 K (a, b) (p : Int) (z, T) x y g149 ((i : Int), (j : Int), out) g145) k (q : Int) = match BP.findQ (shS x y) (BP.tabAt m T) (BP.tabAt m T i j) p r q with
      | some q' => g145 (((p + 1 : Nat) : Int), ((q' + 1 : Nat) : Int), out ++ [((p : Int), (q' : Int))])
      | none => g149 ((p + 1 : Nat) : Int)
  | 0, q, k, h, hk => by
    obtain ⟨k, rfl⟩ : ∃ t, k = t + 1 := ⟨k - 1, by omega⟩
    rw [itn, dual_Pairs.B153, dual_Pairs.T153]
    dsimp only
    rw [lenI_eq, hb, sel_neg (by omega), succ_w (by omega)]
    rfl
  | r + 1, q, k, h, hk => by
    obtain ⟨k, rfl⟩ : ∃ t, k = t + 1 := ⟨k - 1, by omega⟩
    have ih := rowQ K g149 g145 i j hi hj out ho p hp r (q + 1) k (by omega) (by omega)
    have p3 := BP.place_lt (n := n) (m := m) (i := p + 1) (j := q + 1) (by omega) (by omega)
    rw [← hT] at p3
    rw [itn, dual_Pairs.B153, dual_Pairs.T153]
    dsimp only
    rw [succ_w (i := p) (by omega), succ_w (i := q) (by omega), ix hm hb (by omega) (by omega), lenI_eq, lenI_eq, lenI_eq, lenI_eq, hb, hx, hy]
    rw [sel_pos (by omega), sel_pos (by omega), sel_pos (by omega), sel_pos (by omega), sel_pos (by omega), sel_pos (by omega), sel_pos (by omega), sel_pos (by omega), sel_pos (by omega), sel_pos (by omega), sel_pos (by omega), lget_nat, lget_nat]
    rw [show wrap64 ((if (y.getD q default).2 < (x.getD p default).2 then (y.getD q default).2 else (x.getD p default).2) - (if (x.getD p default).1 < (y.getD q default).1 then (y.getD q default).1 else (x.getD p default).1)) = shS x y p q from rfl]
    unfold dual_Pairs.J159
    dsimp only
    rw [succ_w (i := p) (by omega), succ_w (i := q) (by omega), ix hm hb (by omega) (by omega), ix hm hb (by omega) (by omega), lget_tab, lget_tab]
    unfold BP.findQ BP.hit
    by_cases hs : 0 < shS x y p q
    · rw [sel_pos hs, decide_eq_true hs, Bool.true_and]
      by_cases he : BP.plus (BP.tabAt m T (p + 1) (q + 1)) (shS x y p q) = BP.tabAt m T i j
      · rw [sel_pos, sel_pos (by rw [List.length_singleton]; omega), if_pos (decide_eq_true he)]
        have h1 := congrArg Prod.fst he
        have h2 := congrArg Prod.snd he
        unfold BP.plus at h1 h2
        dsimp only at h1 h2
        rw [h1, h2]
        simp
      · rw [sel_neg, if_neg (by simpa using he)]
        · exact ih
        · intro h'
          simp only [Bool.and_eq_true, beq_iff_eq] at h'
          exact he (Prod.ext h'.1 h'.2)
    · rw [sel_neg hs, decide_eq_false hs, Bool.false_and, if_neg (by decide)]
      exact ih
include hn hm ha hb hx hy hT in
theorem rowP (K : Nat) (hK : 5000 ≤ K) (g145 : (Int × Int × PL) → Option RES) (i j : Nat) (hi : i ≤ n) (hj : j ≤ m) (out : PL) (ho : out.length ≤ 4096) : ∀ (r p k : Nat), p + r = n → r < k →
    itn (dual_Pairs.B149 K (a, b) ((i : Int), (j : Int), out) g145 x y (z, T)) k (p : Int) = match BP.findP (shS x y) (BP.tabAt m T) m (BP.tabAt m T i j) j r p with
      | some pq => g145 (((pq.1 + 1 : Nat) : Int), ((pq.2 + 1 : Nat) : Int), out ++ [((pq.1 : Int), (pq.2 : Int))])
      | none => g145 ((i : Int), (j : Int), out)
  | 0, p, k, h, hk => by
    obtain ⟨k, rfl⟩ : ∃ t, k = t + 1 := ⟨k - 1, by omega⟩
    rw [itn, dual_Pairs.B149, dual_Pairs.T149]
    dsimp only
    rw [lenI_eq, ha, sel_neg (by omega)]
    rfl
  | r + 1, p, k, h, hk => by
    obtain ⟨k, rfl⟩ : ∃ t, k = t + 1 := ⟨k - 1, by omega⟩
    have ih := rowP K hK g145 i j hi hj out ho r (p + 1) k (by omega) (by omega)
    rw [itn, dual_Pairs.B149, dual_Pairs.T149]
    dsimp only
    rw [lenI_eq, ha, sel_pos (by omega), dual_Pairs.L153, rowQ hn hm hb hx hy hT z K _ g145 i j hi hj out ho p (by omega) (m - j) j K (by omega) (by omega)]
    unfold BP.findP
    cases BP.findQ (shS x y) (BP.tabAt m T) (BP.tabAt m T i j) p (m - j) j with
    | none => exact ih
    | some q => rfl
include hn hm ha hb hx hy hT in
theorem rowLoop (K : Nat) (hK : 5000 ≤ K) : ∀ (kk i j : Nat) (L : List (Nat × Nat)) (out : PL) (k : Nat), BP.rowL (shS x y) (BP.tabAt m T) n m kk i j = some L → i ≤ n → j ≤ m → out.length ≤ i → kk ≤ k →
    (∀ p q, i ≤ p → p < n → q < m → True) →
    itn (dual_Pairs.B145 K (a, b) (z, T) x y) k ((i : Int), (j : Int), out) = some (out ++ told L, none)
  | 0, i, j, L, out, k, h, _, _, _, _, _ => by simp [BP.rowL] at h
  | kk + 1, i, j, L, out, k, h, hi, hj, ho, hk, _ => by
    obtain ⟨k, rfl⟩ : ∃ t, k = t + 1 := ⟨k - 1, by omega⟩
    have p3 := BP.place_lt (n := n) (m := m) (i := i) (j := j) hi hj
    rw [← hT] at p3
    rw [BP.rowL] at h
    rw [itn, dual_Pairs.B145, dual_Pairs.T145]
    unfold dual_Pairs.J146
    dsimp only
    rw [ix hm hb (by omega) (by omega), lenI_eq, sel_pos (by omega), sel_pos (by omega), lget_tab]
    by_cases c : BP.tabAt m T i j = (0, 0)
    · rw [if_pos c] at h
      obtain rfl := Option.some.inj h
      rw [c, sel_neg (by decide)]
      simp [told]
    · rw [if_neg c] at h
      rw [sel_pos, sel_pos (by omega), sel_pos (by omega), dual_Pairs.L149, rowP hn hm ha hb hx hy hT z K hK _ i j hi hj out (by omega) (n - i) i K (by omega) (by omega)]
      · cases e : BP.findP (shS x y) (BP.tabAt m T) m (BP.tabAt m T i j) j (n - i) i with
        | none => rw [e] at h; simp at h
        | some pq =>
          rw [e] at h
          obtain ⟨L', h1, rfl⟩ := Option.map_eq_some_iff.1 h
          obtain ⟨b1, b2, b3, b4, _, _, _⟩ := BP.findP_some hj e
          dsimp only
          rw [rowLoop K hK kk (pq.1 + 1) (pq.2 + 1) L' (out ++ [((pq.1 : Int), (pq.2 : Int))]) k h1 (by omega) (by omega) (by rw [List.length_append, List.length_singleton]; omega) (by omega) (fun _ _ _ _ _ => trivial)]
          simp [told]
      · have : ¬ ((BP.tabAt m T i j).1 = 0 ∧ (BP.tabAt m T i j).2 = 0) := fun h' => c (Prod.ext h'.1 h'.2)
        simp only [Bool.not_eq_true', Bool.and_eq_false_iff, beq_eq_false_iff_ne]
        omega
end
def shV (a b : List CuD) (i j : Nat) : Int := shS (endsV a) (endsV b) i j
def shC (x y : CuD) : Int := min ((thV x.2.1.1 x.2.1.2 : Nat) : Int) ((thV y.2.1.1 y.2.1.2 : Nat) : Int) - max ((thV x.1.1 x.1.2 : Nat) : Int) ((thV y.1.1 y.1.2 : Nat) : Int)
theorem shC_le {x y : CuD} (hx : cueOK0 x) (hy : cueOK0 y) : shC x y ≤ 400000000 ∧ -400000000 ≤ shC x y := by
  have a1 := thV_le hx.1
  have a2 := thV_le hx.2.1
  have b1 := thV_le hy.1
  have b2 := thV_le hy.2.1
  unfold shC
  omega
theorem endsV_at {l : List CuD} {i : Nat} (hi : i < l.length) : (endsV l).getD i default = (((thV (l.getD i default).1.1 (l.getD i default).1.2 : Nat) : Int), ((thV (l.getD i default).2.1.1 (l.getD i default).2.1.2 : Nat) : Int)) := by
  unfold endsV; rw [List.getD_eq_getElem?_getD, List.getElem?_map, List.getD_eq_getElem?_getD, List.getElem?_eq_getElem hi]; rfl
theorem shV_eq {a b : List CuD} (ha : docOK a) (hb : docOK b) {i j : Nat} (hi : i < a.length) (hj : j < b.length) : shV a b i j = shC (a.getD i default) (b.getD j default) := by
  have hl := shC_le (ha.2.1 i hi).1 (hb.2.1 j hj).1
  unfold shV shS
  rw [endsV_at hi, endsV_at hj]
  unfold shC at *
  dsimp only
  rw [wrap64_id (by unfold I64; split <;> split <;> omega)]
  split <;> split <;> omega
def WV (a b : List CuD) : Nat → Nat → Int × Int := BP.tabAt b.length (BP.tabI a.length b.length (shV a b) a.length)
theorem tabV {a b : List CuD} (ha : docOK a) (hb : docOK b) : BP.Tab a.length b.length (shV a b) (WV a b) :=
  BP.tab_of ha.1 (fun i j hi hj => by rw [shV_eq ha hb hi hj]; exact (shC_le (ha.2.1 i hi).1 (hb.2.1 j hj).1).1)
def rowsV (a b : List CuD) : List (Nat × Nat) := BP.rowV (shV a b) (WV a b) a.length b.length 0 0
theorem rowsV_ok {a b : List CuD} (ha : docOK a) (hb : docOK b) : BP.RowOK a.length b.length (shV a b) 0 0 (rowsV a b) ∧ BP.total (shV a b) (rowsV a b) = BP.V (WV a b) 0 0 :=
  BP.rowV_ok (tabV ha hb) (Nat.zero_le _) (Nat.zero_le _)
theorem mul_len {a b : List CuD} (ha : docOK a) (hb : docOK b) : wrap64 (lenI a * lenI b) = ((a.length * b.length : Nat) : Int) := by
  have h1 := ha.1
  have h2 := hb.1
  have := Nat.mul_le_mul h1 h2
  rw [lenI_eq, lenI_eq, ← Int.natCast_mul]
  exact wrap64_id (by unfold I64; omega)
theorem len2 (a b : List CuD) : lenI ([a, b] : List (List CuD)) = 2 := by rw [lenI_eq]; rfl
theorem pairs_s0 (a b : List CuD) (K k : Nat) : itn (dual_Pairs.B11 K 2 (a, b)) (k + 1) 0 = (cue_CheckDoc K a).bind fun t => opt t (itn (dual_Pairs.B11 K 2 (a, b)) k 1) fun u => some ([], some u) := by
  rw [itn, dual_Pairs.B11, dual_Pairs.T11]
  dsimp only
  rw [len2, sel_pos (by decide), sel_pos (by decide), sel_pos (by decide), wrap64_id (a := 0 + 1) (by unfold I64; omega)]
  rfl
theorem pairs_s1 (a b : List CuD) (K k : Nat) : itn (dual_Pairs.B11 K 2 (a, b)) (k + 1) 1 = (cue_CheckDoc K b).bind fun t => opt t (itn (dual_Pairs.B11 K 2 (a, b)) k 2) fun u => some ([], some u) := by
  rw [itn, dual_Pairs.B11, dual_Pairs.T11]
  dsimp only
  rw [len2, sel_pos (by decide), sel_pos (by decide), sel_pos (by decide), wrap64_id (a := 1 + 1) (by unfold I64; omega)]
  rfl
theorem pairs_up (a b : List CuD) : ∀ {r : RES}, TellsL (fun K m => itn (dual_Pairs.B11 K 2 (a, b)) m 0) r → Tells (fun k => dual_Pairs k (a, b)) r := fun h => by
  refine Tells.same (fun k => ?_) (TellsL.diag h)
  unfold dual_Pairs dual_Pairs.M dual_Pairs.J2 dual_Pairs.L11
  dsimp only
  rw [len2]
theorem lrep_nat {α : Type} (N : Nat) (x : α) : lrep ((N : Nat) : Int) x = List.replicate N x := by unfold lrep; rw [Int.toNat_natCast]
theorem bindc {α β : Type} {o : Option α} {f g : α → Option β} (h : ∀ x, f x = g x) : o.bind f = o.bind g := by rw [show f = g from funext h]
theorem pairs_tells {a b : List CuD} (hGa : ∀ x ∈ a, GC x) (hGb : ∀ x ∈ b, GC x) (ha : docOK a) (hb : docOK b) (hmn : a.length * b.length ≤ 1048576) : Tells (fun k => dual_Pairs k (a, b)) (told (rowsV a b), none) := by
  obtain ⟨r1, q1, p1⟩ := checkDoc_tells a hGa
  obtain rfl := p1.2 ha
  obtain ⟨r2, q2, p2⟩ := checkDoc_tells b hGb
  obtain rfl := p2.2 hb
  have hm := mul_len ha hb
  have hna := ha.1
  have hnb := hb.1
  have lx : (endsV a).length = a.length := by unfold endsV; rw [List.length_map]
  have ly : (endsV b).length = b.length := by unfold endsV; rw [List.length_map]
  refine pairs_up a b (TellsL.step (pairs_s0 a b) (TellsL.bind q1 (TellsL.step (pairs_s1 a b) (TellsL.bind q2 ?_))))
  have hN1 : (a.length + 1) * (b.length + 1) = a.length * b.length + a.length + b.length + 1 := by rw [Nat.succ_mul, Nat.mul_succ]; omega
  have e1 : wrap64 (wrap64 (lenI a + 1) * wrap64 (lenI b + 1)) = (((a.length + 1) * (b.length + 1) : Nat) : Int) := by
    rw [lenI_eq, lenI_eq, succ_w (by omega), succ_w (by omega), ← Int.natCast_mul, wrap64_id (by unfold I64; omega)]
  have key : ∀ K k, 5000 ≤ K → itn (dual_Pairs.B11 K 2 (a, b)) (k + 1) 2 = (dual_Pairs_1 K a).bind fun t2 => (dual_Pairs_1 K b).bind fun t3 => dual_Pairs.L63 K (a, b) t2 t3 ((a.length : Int) - 1, List.replicate ((a.length + 1) * (b.length + 1)) (0, 0)) := fun K k hK => by
    rw [itn, dual_Pairs.B11, dual_Pairs.T11]
    dsimp only
    rw [sel_neg (by decide), hm, sel_neg (by omega), e1]
    unfold dual_Pairs.J25
    refine bindc fun t2 => bindc fun t3 => ?_
    dsimp only
    rw [sel_pos (by omega), sel_pos (by omega), sel_neg (by omega), sel_pos rfl, lenI_eq, wrap64_id (by unfold I64; omega)]
    rw [lrep_nat]
  have st : ∀ {g : Nat → Nat → Option RES} {r : RES}, (∀ K k, 5000 ≤ K → itn (dual_Pairs.B11 K 2 (a, b)) (k + 1) 2 = g K k) → TellsL g r → TellsL (fun K k => itn (dual_Pairs.B11 K 2 (a, b)) k 2) r := by
    rintro g r he ⟨q, hq⟩
    refine ⟨q + 5000, fun K k hK hk => ?_⟩
    obtain ⟨t, rfl⟩ : ∃ t, k = t + 1 := ⟨k - 1, by omega⟩
    show itn (dual_Pairs.B11 K 2 (a, b)) (t + 1) 2 = some r
    rw [he K t (by omega)]; exact hq K t (by omega) (by omega)
  refine st key (TellsL.bind (ends_tells a hGa ha) (TellsL.bind (ends_tells b hGb hb) ⟨5000, fun K k hK _ => ?_⟩))
  dsimp only
  unfold dual_Pairs.L63
  have h1 := fillI hna hnb rfl rfl lx ly K hK a.length K (Nat.le_refl _) (by omega)
  rw [Nat.sub_self, BP.tabI] at h1
  rw [h1]
  unfold dual_Pairs.L145
  have hT := BP.tabI_length a.length b.length (shS (endsV a) (endsV b)) a.length
  have := rowLoop hna hnb rfl rfl lx ly hT (-1) K hK (a.length + 1) 0 0 (rowsV a b) [] K (BP.rowL_V (tabV ha hb) (Nat.zero_le _) (Nat.zero_le _) (by omega)) (Nat.zero_le _) (Nat.zero_le _) (Nat.le_refl _) (by omega) (fun _ _ _ _ _ => trivial)
  rw [List.nil_append] at this
  exact this
theorem pairs_refused {a b : List CuD} (hGa : ∀ x ∈ a, GC x) (hGb : ∀ x ∈ b, GC x) (h : ¬ (docOK a ∧ docOK b ∧ a.length * b.length ≤ 1048576)) : ∃ e, Tells (fun k => dual_Pairs k (a, b)) ([], some e) := by
  obtain ⟨r1, q1, p1⟩ := checkDoc_tells a hGa
  obtain ⟨r2, q2, p2⟩ := checkDoc_tells b hGb
  by_cases ha : docOK a
  case neg =>
    cases r1 with
    | none => exact absurd (p1.1 rfl) ha
    | some e => exact ⟨e, pairs_up a b (TellsL.step (pairs_s0 a b) (TellsL.bind q1 (TellsL.const _)))⟩
  obtain rfl := p1.2 ha
  by_cases hb : docOK b
  case neg =>
    cases r2 with
    | none => exact absurd (p2.1 rfl) hb
    | some e => exact ⟨e, pairs_up a b (TellsL.step (pairs_s0 a b) (TellsL.bind q1 (TellsL.step (pairs_s1 a b) (TellsL.bind q2 (TellsL.const _)))))⟩
  obtain rfl := p2.2 hb
  have hm := mul_len ha hb
  have hn : ¬ a.length * b.length ≤ 1048576 := fun e => h ⟨ha, hb, e⟩
  refine ⟨(0, 2), pairs_up a b (TellsL.step (pairs_s0 a b) (TellsL.bind q1 (TellsL.step (pairs_s1 a b) (TellsL.bind q2 ?_))))⟩
  refine TellsL.step (g := fun _ _ => some ([], some (0, 2))) (fun K k => ?_) (TellsL.const _)
  show itn (dual_Pairs.B11 K 2 (a, b)) (k + 1) 2 = _
  rw [itn, dual_Pairs.B11, dual_Pairs.T11]
  dsimp only
  rw [sel_neg (by decide), hm, sel_pos (by omega)]
end Go.Proofs.Ytlbicmdfdpcdiaa.F
-- Printed by a program of this session's; Lean checks it.
set_option linter.unusedVariables false
set_option linter.unusedSimpArgs false
set_option maxRecDepth 100000
namespace Go.Proofs.Ytlbicmdfdpcdiaa.F
open Go.Proofs.Ytlbicmdfdpcdiaa.Vm Go.RowKit
theorem best2_s (side a b c d : Int) (K k : Nat) : itn (ratio_best.B11 K (side, [(a, b), (c, d)])) (k + 1) (0, a, b) = (ratio_Cmp K ((c, d), (a, b))).bind fun t => sel (t = side) (itn (ratio_best.B11 K (side, [(a, b), (c, d)])) k (1, c, d)) (itn (ratio_best.B11 K (side, [(a, b), (c, d)])) k (1, a, b)) := by kernel_rfl
theorem best2_e (side a b c d : Int) (K k : Nat) (x y : Int) : itn (ratio_best.B11 K (side, [(a, b), (c, d)])) (k + 1) (1, x, y) = some ((x, y), true) := by kernel_rfl
theorem best2_u (side a b c d : Int) (k : Nat) : ratio_best k (side, [(a, b), (c, d)]) = itn (ratio_best.B11 k (side, [(a, b), (c, d)])) k (0, a, b) := by kernel_rfl
theorem best2 (side : Int) {a b c d : Int} (ha : I64 a) (hb : I64 b) (hc : I64 c) (hd : I64 d) (hb0 : 0 < b) (hd0 : 0 < d) : Tells (fun k => ratio_best k (side, [(a, b), (c, d)])) (if cmpI (c * b) (a * d) = side then ((c, d), true) else ((a, b), true)) := by
  have hcmp := Cmp_tells hc hd ha hb hd0 hb0
  refine ⟨2, fun k hk => ?_⟩
  obtain ⟨n, rfl⟩ : ∃ n, k = n + 1 + 1 := ⟨k - 2, by omega⟩
  dsimp only
  rw [best2_u, best2_s, hcmp, Option.bind_some, best2_e, best2_e]
  by_cases h : cmpI (c * b) (a * d) = side
  · rw [sel_pos h, if_pos h]
  · rw [sel_neg h, if_neg h]
theorem share_tells {x y : CuD} (gx : GC x) (gy : GC y) (hx : cueOK0 x) (hy : cueOK0 y) : Tells (fun k => surtitlelaw19_share k (x, y)) (max 0 (shC x y)) := by
  obtain ⟨a0, a1, a2, a3⟩ := gx
  obtain ⟨b0, b1, b2, b3⟩ := gy
  have hl := shC_le hx hy
  have l1 := best2 (-1) a2 a3 b2 b3 (timeE_pos hx.2.1) (timeE_pos hy.2.1)
  have l2 := best2 1 a0 a1 b0 b1 (timeE_pos hx.1) (timeE_pos hy.1)
  have w1 : ∃ e : Int × Int, (if cmpI (y.2.1.1 * x.2.1.2) (x.2.1.1 * y.2.1.2) = -1 then ((y.2.1.1, y.2.1.2), true) else ((x.2.1.1, x.2.1.2), true)) = (e, true) ∧ I64 e.1 ∧ I64 e.2 ∧ timeE e.1 e.2 = 0 ∧ ((thV e.1 e.2 : Nat) : Int) = min ((thV x.2.1.1 x.2.1.2 : Nat) : Int) ((thV y.2.1.1 y.2.1.2 : Nat) : Int) := by
    by_cases c : cmpI (y.2.1.1 * x.2.1.2) (x.2.1.1 * y.2.1.2) = -1
    · have hlt : y.2.1.1 * x.2.1.2 ≤ x.2.1.1 * y.2.1.2 := by unfold cmpI at c; split at c <;> (try split at c) <;> omega
      have := thV_mono hy.2.1 hx.2.1 hlt
      exact ⟨(y.2.1.1, y.2.1.2), if_pos c, b2, b3, hy.2.1, by dsimp only; omega⟩
    · have hlt : x.2.1.1 * y.2.1.2 ≤ y.2.1.1 * x.2.1.2 := by unfold cmpI at c; split at c <;> (try split at c) <;> omega
      have := thV_mono hx.2.1 hy.2.1 hlt
      exact ⟨(x.2.1.1, x.2.1.2), if_neg c, a2, a3, hx.2.1, by dsimp only; omega⟩
  have w2 : ∃ e : Int × Int, (if cmpI (y.1.1 * x.1.2) (x.1.1 * y.1.2) = 1 then ((y.1.1, y.1.2), true) else ((x.1.1, x.1.2), true)) = (e, true) ∧ I64 e.1 ∧ I64 e.2 ∧ timeE e.1 e.2 = 0 ∧ ((thV e.1 e.2 : Nat) : Int) = max ((thV x.1.1 x.1.2 : Nat) : Int) ((thV y.1.1 y.1.2 : Nat) : Int) := by
    by_cases c : cmpI (y.1.1 * x.1.2) (x.1.1 * y.1.2) = 1
    · have hlt : x.1.1 * y.1.2 ≤ y.1.1 * x.1.2 := by unfold cmpI at c; split at c <;> (try split at c) <;> omega
      have := thV_mono hx.1 hy.1 hlt
      exact ⟨(y.1.1, y.1.2), if_pos c, b0, b1, hy.1, by dsimp only; omega⟩
    · have hlt : y.1.1 * x.1.2 ≤ x.1.1 * y.1.2 := by unfold cmpI at c; split at c <;> (try split at c) <;> omega
      have := thV_mono hy.1 hx.1 hlt
      exact ⟨(x.1.1, x.1.2), if_neg c, a0, a1, hx.1, by dsimp only; omega⟩
  obtain ⟨e1, q1, i1, j1, t1, v1⟩ := w1
  obtain ⟨e2, q2, i2, j2, t2, v2⟩ := w2
  rw [q1] at l1
  rw [q2] at l2
  refine Tells.bind (v := (e1, true)) (Tells.bind l1 (Tells.const _)) (Tells.bind (v := (e2, true)) (Tells.bind l2 (Tells.const _)) (Tells.bind (whole_tells i1 j1 t1) (Tells.bind (whole_tells i2 j2 t2) (Tells.same (fun k => ?_) (Tells.const _)))))
  dsimp only
  rw [v1, v2]
  unfold shC at *
  rw [wrap64_id (by unfold I64; omega)]
  congr 1
  split <;> omega
theorem within_tells' {a n : Nat} (h : a < n) (hn : n ≤ 4096) (k : Nat) : surtitlelaw19_within k ((a : Int), (n : Int)) = some (a : Int) := by
  unfold surtitlelaw19_within
  have e : Int.tmod (a : Int) (n : Int) = (a : Int) := by
    rw [Int.tmod_eq_emod_of_nonneg (by omega)]
    exact Int.emod_eq_of_lt (by omega) (by omega)
  dsimp only
  rw [sel_neg (by omega), e, sel_neg (by omega)]
  rfl
theorem told_at (L : List (Nat × Nat)) (i : Nat) (hi : i < L.length) : lget (told L) (i : Int) default = (((L[i]).1 : Int), ((L[i]).2 : Int)) := by
  show (told L).getD i default = _
  unfold told
  rw [List.getD_eq_getElem?_getD, List.getElem?_map, List.getElem?_eq_getElem hi]
  rfl
theorem told_len (L : List (Nat × Nat)) : (told L).length = L.length := by unfold told; rw [List.length_map]
theorem told_lenI (L : List (Nat × Nat)) : lenI (told L) = (L.length : Int) := by rw [lenI_eq, told_len]
namespace BP
def ssum (sh : Nat → Nat → Int) : List (Nat × Nat) → Int
  | [] => 0
  | x :: L => sh x.1 x.2 + ssum sh L
theorem total_ssum (sh : Nat → Nat → Int) : ∀ L : List (Nat × Nat), total sh L = ssum sh L * 8192 + (L.length : Int)
  | [] => rfl
  | x :: L => by unfold total ssum; rw [total_ssum sh L, List.length_cons]; omega
theorem RowOK.mem {n m : Nat} {sh : Nat → Nat → Int} : ∀ {L : List (Nat × Nat)} {i j : Nat}, RowOK n m sh i j L → ∀ x ∈ L, x.1 < n ∧ x.2 < m ∧ 0 < sh x.1 x.2
  | [], _, _, _, x, hx => by simp at hx
  | y :: L, i, j, ⟨a1, a2, a3, a4, a5, a6⟩, x, hx => by
    rcases List.mem_cons.1 hx with rfl | hx
    · exact ⟨a2, a4, a5⟩
    · exact RowOK.mem a6 x hx
theorem RowOK.len {n m : Nat} {sh : Nat → Nat → Int} : ∀ {L : List (Nat × Nat)} {i j : Nat}, RowOK n m sh i j L → i ≤ n → j ≤ m → L.length + i ≤ n ∧ L.length + j ≤ m
  | [], i, j, _, hi, hj => by simp; omega
  | y :: L, i, j, ⟨a1, a2, a3, a4, a5, a6⟩, hi, hj => by
    have := RowOK.len a6 (by omega) (by omega)
    rw [List.length_cons]; omega
theorem ssum_le {n m : Nat} {sh : Nat → Nat → Int} (h9 : ∀ i j, i < n → j < m → sh i j ≤ 400000000) : ∀ (L : List (Nat × Nat)), (∀ x ∈ L, x.1 < n ∧ x.2 < m ∧ 0 < sh x.1 x.2) → 0 ≤ ssum sh L ∧ ssum sh L ≤ 400000000 * (L.length : Int)
  | [], _ => by unfold ssum; simp
  | y :: L, h => by
    have h1 := ssum_le h9 L fun x hx => h x (List.mem_cons_of_mem _ hx)
    obtain ⟨q1, q2, q3⟩ := h y List.mem_cons_self
    have := h9 y.1 y.2 q1 q2
    unfold ssum
    rw [List.length_cons]
    omega
end BP
theorem share_at {a b : List CuD} (hGa : ∀ x ∈ a, GC x) (hGb : ∀ x ∈ b, GC x) (ha : docOK a) (hb : docOK b) {i j : Nat} (hi : i < a.length) (hj : j < b.length) (h0 : 0 < shV a b i j) :
    Tells (fun k => surtitlelaw19_share k (lget a (i : Int) default, lget b (j : Int) default)) (shV a b i j) := by
  have h := share_tells (G_at hGa hi) (G_at hGb hj) (ha.2.1 i hi).1 (hb.2.1 j hj).1
  have e := shV_eq ha hb hi hj
  rw [show max 0 (shC (a.getD i default) (b.getD j default)) = shV a b i j by rw [e] at h0 ⊢; omega] at h
  exact h
end Go.Proofs.Ytlbicmdfdpcdiaa.F
-- Printed by a program of this session's; Lean checks it.
set_option linter.unusedVariables false
set_option linter.unusedSimpArgs false
set_option maxRecDepth 100000
namespace Go.Proofs.Ytlbicmdfdpcdiaa.F
open Go.Proofs.Ytlbicmdfdpcdiaa.Vm Go.RowKit
def hcue (n d l : Int) : CuD := ((n, 1), ((d, 1), (0, (l, ((⟨#[]⟩ : ByteArray), ((⟨#[]⟩ : ByteArray), ([] : List (Int × (Int × (Int × Int))))))))))
open PDa.SK (isort isort_perm isort_length cmpZ_lt cmpZ_eq cmpZ)
def hA : List CuD := [hcue 0 2 0, hcue 2 4 0]
def hB : List CuD := [hcue 0 1 0, hcue 1 4 0]
theorem head_a (k : Nat) : surtitlelaw19_cues (k + 8) ([0, 2, 2, 4] : List Int) = some hA := by kernel_rfl
theorem head_b (k : Nat) : surtitlelaw19_cues (k + 8) ([0, 1, 1, 4] : List Int) = some hB := by kernel_rfl
theorem head_p (k : Nat) : dual_Pairs (k + 80) (hA, hB) = some (([(0, 0), (1, 1)] : List (Int × Int)), none) := by kernel_rfl
def hS : List CuD := [hcue 0 2 0, hcue 2 4 0, hcue 0 2 1, hcue 2 4 1]
def hT : List CuD := [hcue 0 2 0, hcue 0 2 1, hcue 2 4 0, hcue 2 4 1]
theorem head_tw (k : Nat) : cue_twin (k + 80) hS = some hS := by kernel_rfl
theorem head_cmp (k : Nat) : hS.map (fun x => hS.map fun y => cue_Compare (k + 80) (x, y)) = hS.map fun x => hS.map fun y => some (cmpCue x y) := by kernel_rfl
theorem head_is : isort ltCue hS = hT := by kernel_rfl
theorem head_so (k : Nat) : sort_cues (k + 80) hS = some hT := by
  unfold sort_cues
  rw [if_pos, head_is]
  refine ⟨fun x hx => ?_, by decide⟩
  have hp : 0 < x.1.2 ∧ 0 < x.2.1.2 := by
    simp only [hS, List.mem_cons, List.not_mem_nil, or_false] at hx
    rcases hx with rfl | rfl | rfl | rfl <;> decide
  refine ⟨hp.1, hp.2, fun y hy => ?_⟩
  have h1 := List.map_inj_left.1 (head_cmp k) x hx
  exact List.map_inj_left.1 h1 y hy
theorem head_st (k : Nat) : cue_Sort (k + 80) hS = some hT := by
  unfold cue_Sort
  rw [head_tw, Option.bind_some, head_so, Option.bind_some]
theorem head_mg (k : Nat) : dual_Merge (k + 80) (hA, hB) = (cue_Sort (k + 80) hS).bind fun t => some (t, none) := by kernel_rfl
theorem head_sp (k : Nat) : surtitlelaw19_SamePairs (k + 80) ([(0, 0), (1, 1)], [(0, 0), (1, 1)]) = some true := by kernel_rfl
theorem head_e (k : Nat) : surtitlelaw19_head (k + 80) () = some true := by
  unfold surtitlelaw19_head
  rw [head_a (k + 72), Option.bind_some, head_b (k + 72), Option.bind_some, head_p, Option.bind_some, head_mg, head_st, Option.bind_some, Option.bind_some]
  show (surtitlelaw19_SamePairs (k + 80) ([(0, 0), (1, 1)], [(0, 0), (1, 1)])).bind _ = _
  rw [head_sp, Option.bind_some]
  kernel_rfl
theorem head_tells : Tells (fun k => surtitlelaw19_head k ()) true := ⟨80, fun k hk => by
  obtain ⟨t, rfl⟩ : ∃ t, k = t + 80 := ⟨k - 80, by omega⟩
  exact head_e t⟩
theorem gc_good {x : CuD} (h : CueTy.Good x) : GC x := by
  obtain ⟨⟨h1, h2⟩, ⟨h3, h4⟩, _⟩ := h
  exact ⟨I64.of_wf h1, I64.of_wf h2, I64.of_wf h3, I64.of_wf h4⟩
theorem gc_list {t : TypeId} {l : List CuD} (h : Ty.Good (.sl t CueTy) l) : ∀ x ∈ l, GC x := fun x hx => gc_good (h.2 x hx)
end Go.Proofs.Ytlbicmdfdpcdiaa.F
-- Printed by a program of this session's; Lean checks it.
set_option linter.unusedVariables false
set_option linter.unusedSimpArgs false
set_option maxRecDepth 100000
namespace Go.Proofs.Ytlbicmdfdpcdiaa.F
open Go.Proofs.Ytlbicmdfdpcdiaa.Vm Go.RowKit
section
open PDa.SK (SWO isort insR srt mg isort_snoc insR_mg isort_srt isort_perm isort_length isort_map list_snoc_ind)
variable {α : Type} {lt : α → α → Bool}
end
section
open PDa.SK (SWO isort insR srt mg isort_snoc insR_mg isort_srt isort_perm isort_length isort_map list_snoc_ind)
end
end Go.Proofs.Ytlbicmdfdpcdiaa.F
-- Printed by a program of this session's; Lean checks it.
set_option linter.unusedVariables false
set_option linter.unusedSimpArgs false
set_option maxRecDepth 100000
namespace Go.Proofs.Ytlbicmdfdpcdiaa.F
open Go.Proofs.Ytlbicmdfdpcdiaa.Vm Go.RowKit
open PDa.SK (isort isort_perm isort_length cmpZ_lt cmpZ_eq cmpZ)
theorem TellsL.stepK {α : Type} {f g : Nat → Nat → Option α} {v : α} (c : Nat) (he : ∀ K m, c ≤ K → f K (m + 1) = g K m) (h : TellsL g v) : TellsL f v := by
  obtain ⟨a, ha⟩ := h
  refine ⟨max (a + 1) c, fun K m hK hm => ?_⟩
  obtain ⟨j, rfl⟩ : ∃ j, m = j + 1 := ⟨m - 1, by omega⟩
  rw [he K j (by omega)]; exact ha K j (by omega) (by omega)
end Go.Proofs.Ytlbicmdfdpcdiaa.F
-- Printed by a program of this session's; Lean checks it.
set_option linter.unusedVariables false
set_option linter.unusedSimpArgs false
set_option maxRecDepth 100000
namespace Go.Proofs.Ytlbicmdfdpcdiaa.F
open Go.Proofs.Ytlbicmdfdpcdiaa.Vm Go.RowKit
section
variable {a b : List CuD} (sa : ∀ x ∈ a, x.2.2.2.1 = 0) (sb : ∀ x ∈ b, x.2.2.2.1 = 0) (la : a.length ≤ 4096) (lb : b.length ≤ 4096)
variable (hGa : ∀ x ∈ a, GC x) (hGb : ∀ x ∈ b, GC x)
end
end Go.Proofs.Ytlbicmdfdpcdiaa.F
-- Printed by a program of this session's; Lean checks it.
set_option linter.unusedVariables false
set_option linter.unusedSimpArgs false
set_option maxRecDepth 100000
namespace Go.Proofs.Ytlbicmdfdpcdiaa.F
open Go.Proofs.Ytlbicmdfdpcdiaa.Vm Go.RowKit
section
variable {a b : List CuD} (hGa : ∀ x ∈ a, GC x) (hGb : ∀ x ∈ b, GC x) (ha : docOK a) (hb : docOK b) (pk : List Int)
include hGa hGb ha hb
theorem share_any {i j : Nat} (hi : i < a.length) (hj : j < b.length) : Tells (fun k => surtitlelaw19_share k (lget a (i : Int) default, lget b (j : Int) default)) (max 0 (shV a b i j)) := by
  rw [shV_eq ha hb hi hj]
  exact share_tells (G_at hGa hi) (G_at hGb hj) (ha.2.1 i hi).1 (hb.2.1 j hj).1
theorem sh_bound {i j : Nat} (hi : i < a.length) (hj : j < b.length) : shV a b i j ≤ 400000000 := by
  rw [shV_eq ha hb hi hj]; exact (shC_le (ha.2.1 i hi).1 (hb.2.1 j hj).1).1
end
section
variable {a b : List CuD} (hGa : ∀ x ∈ a, GC x) (hGb : ∀ x ∈ b, GC x) (ha : docOK a) (hb : docOK b) (pk : List Int)
include hGa hGb ha hb
end
end Go.Proofs.Ytlbicmdfdpcdiaa.F
-- Printed by a program of this session's; Lean checks it.
set_option linter.unusedVariables false
set_option linter.unusedSimpArgs false
set_option linter.unusedSectionVars false
set_option maxRecDepth 100000
namespace Go.Proofs.Ytlbicmdfdpcdiaa.F
open Go.Proofs.Ytlbicmdfdpcdiaa.Vm Go.RowKit
def Tells3 {α : Type} (f : Nat → Nat → Nat → Option α) (v : α) : Prop := ∃ a, ∀ K m k, a ≤ K → a ≤ m → a ≤ k → f K m k = some v
theorem Tells3.diag {α : Type} {f : Nat → Nat → Nat → Option α} {v : α} (h : Tells3 f v) : TellsL (fun K m => f K m K) v := h.elim fun a ha => ⟨a, fun K m hK hm => ha K m K hK hm hK⟩
theorem Tells3.of {α : Type} {f : Nat → Nat → Option α} {v : α} (h : TellsL f v) : Tells3 (fun K m _ => f K m) v := h.elim fun a ha => ⟨a, fun K m _ hK hm _ => ha K m hK hm⟩
theorem Tells3.stepK {α : Type} {f g : Nat → Nat → Nat → Option α} {v : α} (c : Nat) (he : ∀ K m k, c ≤ K → f K m (k + 1) = g K m k) (h : Tells3 g v) : Tells3 f v := by
  obtain ⟨a, ha⟩ := h
  refine ⟨max (a + 1) c, fun K m k hK hm hk => ?_⟩
  obtain ⟨j, rfl⟩ : ∃ j, k = j + 1 := ⟨k - 1, by omega⟩
  rw [he K m j (by omega)]; exact ha K m j (by omega) (by omega) (by omega)
theorem lex_iff {A B u v : Int} {n m : Nat} (hn : n ≤ 4097) (hm : m ≤ 4097) (h : BP.InW n (A, B)) (h' : BP.InW m (u, v)) : A * 8192 + B > u * 8192 + v ↔ (A > u ∨ A = u ∧ B > v) := by
  unfold BP.InW at h h'
  dsimp only at h h'
  omega
abbrev BT : Type := Int × (Int × List (Int × Int))
theorem best_u (k : Nat) (p : List CuD × (List CuD × (Int × Int))) : surtitlelaw19_best (k + 1) p = itn (surtitlelaw19_best.B80 k (surtitlelaw19_best k) p) k (0, 0, p.2.2.1, []) := by rfl
def bestW (sh : Nat → Nat → Int) (W : Nat → Nat → Int × Int) (n m i j : Nat) : BT := ((W i j).1, ((W i j).2, told (BP.rowV sh W n m i j)))
section
variable {a b : List CuD} {n m : Nat} {sh : Nat → Nat → Int} {W : Nat → Nat → Int × Int} (hn : a.length = n) (hm : b.length = m) (hn4 : n ≤ 4096) (hm4 : m ≤ 4096) (hT : BP.Tab n m sh W)
  (hsh : ∀ i j, i < n → j < m → Tells (fun k => surtitlelaw19_share k (lget a (i : Int) default, lget b (j : Int) default)) (max 0 (sh i j)))
include hn hm hn4 hm4 hT hsh
theorem best_l1 (i0 jI : Int) (x1 x2 : Int) (x4 : List (Int × Int)) {i j p : Nat} (hip : i ≤ p) (hp : p < n) (R : BT)
    (IH : ∀ q, q < m → j ≤ q → Tells (fun k => surtitlelaw19_best k (a, (b, (((p + 1 : Nat) : Int), ((q + 1 : Nat) : Int))))) (bestW sh W n m (p + 1) (q + 1)))
    (K0 : ∀ u v out, BP.Tried W sh n m i j (p + 1) j (u * 8192 + v) out → BP.InW (n - i) (u, v) → TellsL (fun K k => itn (surtitlelaw19_best.B80 K (surtitlelaw19_best K) (a, (b, (i0, jI)))) k (u, v, ((p + 1 : Nat) : Int), told out)) R) :
    ∀ (d q : Nat) (u v : Int) (out : List (Nat × Nat)), q + d = m → j ≤ q → BP.Tried W sh n m i j p q (u * 8192 + v) out → BP.InW (n - i) (u, v) →
      Tells3 (fun K k' k => itn (surtitlelaw19_best.B84 K (surtitlelaw19_best K) (a, (b, (i0, jI))) (x1, x2, (p : Int), x4) (fun w => itn (surtitlelaw19_best.B80 K (surtitlelaw19_best K) (a, (b, (i0, jI)))) k' w)) k (u, v, (q : Int), told out)) R
  | 0, q, u, v, out, hq, hjq, ht, hw => by
    refine Tells3.stepK 0 (fun K k' k _ => ?_) (Tells3.of (K0 u v out (by
      have e : q = m := by omega
      subst e; exact ht.row) hw))
    rw [itn, surtitlelaw19_best.B84, surtitlelaw19_best.T84]
    dsimp only
    rw [lenI_eq b, sel_neg (by omega), succ_w (by omega)]
  | d + 1, q, u, v, out, hq, hjq, ht, hw => by
    have hq' : q < m := by omega
    obtain ⟨c1, hc1⟩ := hsh p q hp hq'
    have skip : ¬ (0 < sh p q ∧ BP.V W (p + 1) (q + 1) + (sh p q * 8192 + 1) > u * 8192 + v) → Tells3 (fun K k' k => itn (surtitlelaw19_best.B84 K (surtitlelaw19_best K) (a, (b, (i0, jI))) (x1, x2, (p : Int), x4) (fun w => itn (surtitlelaw19_best.B80 K (surtitlelaw19_best K) (a, (b, (i0, jI)))) k' w)) k (u, v, ((q + 1 : Nat) : Int), told out)) R :=
      fun hs => best_l1 i0 jI x1 x2 x4 hip hp R IH K0 d (q + 1) u v out (by omega) (by omega) (ht.skip hs) hw
    have head : ∀ K k' k, c1 ≤ K → itn (surtitlelaw19_best.B84 K (surtitlelaw19_best K) (a, (b, (i0, jI))) (x1, x2, (p : Int), x4) (fun w => itn (surtitlelaw19_best.B80 K (surtitlelaw19_best K) (a, (b, (i0, jI)))) k' w)) (k + 1) (u, v, (q : Int), told out) =
        sel (max 0 (sh p q) = 0) (itn (surtitlelaw19_best.B84 K (surtitlelaw19_best K) (a, (b, (i0, jI))) (x1, x2, (p : Int), x4) (fun w => itn (surtitlelaw19_best.B80 K (surtitlelaw19_best K) (a, (b, (i0, jI)))) k' w)) k (u, v, ((q + 1 : Nat) : Int), told out)) ((surtitlelaw19_best K (a, (b, (((p + 1 : Nat) : Int), ((q + 1 : Nat) : Int))))).bind fun t1 => sel (u < (wrap64 (t1.1 + max 0 (sh p q)))) (sel (((([((p : Int), (q : Int))] : List (Int × Int)).length + t1.2.2.length) * 16) ≤ 140737488355328) (itn (surtitlelaw19_best.B84 K (surtitlelaw19_best K) (a, (b, (i0, jI))) (x1, x2, (p : Int), x4) (fun w => itn (surtitlelaw19_best.B80 K (surtitlelaw19_best K) (a, (b, (i0, jI)))) k' w)) k (wrap64 (t1.1 + max 0 (sh p q)), wrap64 (t1.2.1 + 1), ((q + 1 : Nat) : Int), ([((p : Int), (q : Int))] : List (Int × Int)) ++ t1.2.2)) none)
          (sel (wrap64 (t1.1 + max 0 (sh p q)) = u) (sel (v < wrap64 (t1.2.1 + 1)) (sel (((([((p : Int), (q : Int))] : List (Int × Int)).length + t1.2.2.length) * 16) ≤ 140737488355328) (itn (surtitlelaw19_best.B84 K (surtitlelaw19_best K) (a, (b, (i0, jI))) (x1, x2, (p : Int), x4) (fun w => itn (surtitlelaw19_best.B80 K (surtitlelaw19_best K) (a, (b, (i0, jI)))) k' w)) k (wrap64 (t1.1 + max 0 (sh p q)), wrap64 (t1.2.1 + 1), ((q + 1 : Nat) : Int), ([((p : Int), (q : Int))] : List (Int × Int)) ++ t1.2.2)) none)
            (itn (surtitlelaw19_best.B84 K (surtitlelaw19_best K) (a, (b, (i0, jI))) (x1, x2, (p : Int), x4) (fun w => itn (surtitlelaw19_best.B80 K (surtitlelaw19_best K) (a, (b, (i0, jI)))) k' w)) k (u, v, ((q + 1 : Nat) : Int), told out)))
            (itn (surtitlelaw19_best.B84 K (surtitlelaw19_best K) (a, (b, (i0, jI))) (x1, x2, (p : Int), x4) (fun w => itn (surtitlelaw19_best.B80 K (surtitlelaw19_best K) (a, (b, (i0, jI)))) k' w)) k (u, v, ((q + 1 : Nat) : Int), told out)))) := by
      intro K k' k hK
      rw [itn, surtitlelaw19_best.B84, surtitlelaw19_best.T84]
      dsimp only
      rw [lenI_eq b, lenI_eq a, sel_pos (by omega), sel_pos (by omega), sel_pos (by omega), sel_pos (by omega), sel_pos (by omega), succ_w (i := p) (by omega), succ_w (i := q) (by omega)]
      refine Eq.trans (congrArg (fun t => Option.bind t _) (show surtitlelaw19_share K _ = some (max 0 (sh p q)) from hc1 K hK)) ?_
      rw [Option.bind_some]
    by_cases hs : 0 < sh p q
    case neg => exact Tells3.stepK c1 (fun K k' k hK => (head K k' k hK).trans (sel_pos (by omega))) (skip (fun h => hs h.1))
    obtain ⟨c2, hc2⟩ := IH q hq' hjq
    have hni : n - (p + 1) + 1 ≤ n - i := by omega
    have hnl : n - i ≤ 4097 := by omega
    have hsl := hT.sh_le p q hp hq'
    have hWin := hT.in' (i := p + 1) (j := q + 1) (by omega) (by omega)
    obtain ⟨e, hi2⟩ := BP.plus_in (b := n - (p + 1)) (by omega) hWin hs hsl
    have hR := BP.RowOK.len (BP.rowV_ok hT (i := p + 1) (j := q + 1) (by omega) (by omega)).1 (by omega) (by omega)
    have hmax : max 0 (sh p q) = sh p q := by omega
    rw [hmax] at head
    have ev : BP.V W (p + 1) (q + 1) = (W (p + 1) (q + 1)).1 * 8192 + (W (p + 1) (q + 1)).2 := rfl
    have e1 : wrap64 ((W (p + 1) (q + 1)).1 + sh p q) = (W (p + 1) (q + 1)).1 + sh p q := congrArg Prod.fst e
    have e2 : wrap64 ((W (p + 1) (q + 1)).2 + 1) = (W (p + 1) (q + 1)).2 + 1 := congrArg Prod.snd e
    have hi3 := hi2.mono hni
    have htake := fun hc => ht.take hip hp hjq hq' hs hc
    have hlen : (told (BP.rowV sh W n m (p + 1) (q + 1))).length = (BP.rowV sh W n m (p + 1) (q + 1)).length := told_len _
    have hb : ∀ K, c2 ≤ K → surtitlelaw19_best K (a, (b, (((p + 1 : Nat) : Int), ((q + 1 : Nat) : Int)))) = some ((W (p + 1) (q + 1)).1, ((W (p + 1) (q + 1)).2, told (BP.rowV sh W n m (p + 1) (q + 1)))) := fun K hK => hc2 K hK
    generalize BP.rowV sh W n m (p + 1) (q + 1) = row at hR hlen hb htake
    rw [ev] at skip htake
    clear ev hWin e hi2
    generalize (W (p + 1) (q + 1)).1 = A0 at *
    generalize (W (p + 1) (q + 1)).2 = B0 at *
    have take : (A0 + sh p q) * 8192 + (B0 + 1) > u * 8192 + v → Tells3 (fun K k' k => itn (surtitlelaw19_best.B84 K (surtitlelaw19_best K) (a, (b, (i0, jI))) (x1, x2, (p : Int), x4) (fun w => itn (surtitlelaw19_best.B80 K (surtitlelaw19_best K) (a, (b, (i0, jI)))) k' w)) k (A0 + sh p q, B0 + 1, ((q + 1 : Nat) : Int), ([((p : Int), (q : Int))] : List (Int × Int)) ++ told row)) R := fun hc => by
      have h2 := htake (by omega)
      rw [show A0 * 8192 + B0 + (sh p q * 8192 + 1) = (A0 + sh p q) * 8192 + (B0 + 1) by omega] at h2
      exact best_l1 i0 jI x1 x2 x4 hip hp R IH K0 d (q + 1) (A0 + sh p q) (B0 + 1) ((p, q) :: row) (by omega) (by omega) h2 hi3
    have hx := lex_iff hnl hnl hi3 hw
    have go : ∀ K k' k, max c1 c2 ≤ K → itn (surtitlelaw19_best.B84 K (surtitlelaw19_best K) (a, (b, (i0, jI))) (x1, x2, (p : Int), x4) (fun w => itn (surtitlelaw19_best.B80 K (surtitlelaw19_best K) (a, (b, (i0, jI)))) k' w)) (k + 1) (u, v, (q : Int), told out) =
        sel (u < A0 + sh p q) (itn (surtitlelaw19_best.B84 K (surtitlelaw19_best K) (a, (b, (i0, jI))) (x1, x2, (p : Int), x4) (fun w => itn (surtitlelaw19_best.B80 K (surtitlelaw19_best K) (a, (b, (i0, jI)))) k' w)) k (A0 + sh p q, B0 + 1, ((q + 1 : Nat) : Int), ([((p : Int), (q : Int))] : List (Int × Int)) ++ told row))
          (sel (A0 + sh p q = u) (sel (v < B0 + 1) (itn (surtitlelaw19_best.B84 K (surtitlelaw19_best K) (a, (b, (i0, jI))) (x1, x2, (p : Int), x4) (fun w => itn (surtitlelaw19_best.B80 K (surtitlelaw19_best K) (a, (b, (i0, jI)))) k' w)) k (A0 + sh p q, B0 + 1, ((q + 1 : Nat) : Int), ([((p : Int), (q : Int))] : List (Int × Int)) ++ told row))
            (itn (surtitlelaw19_best.B84 K (surtitlelaw19_best K) (a, (b, (i0, jI))) (x1, x2, (p : Int), x4) (fun w => itn (surtitlelaw19_best.B80 K (surtitlelaw19_best K) (a, (b, (i0, jI)))) k' w)) k (u, v, ((q + 1 : Nat) : Int), told out)))
            (itn (surtitlelaw19_best.B84 K (surtitlelaw19_best K) (a, (b, (i0, jI))) (x1, x2, (p : Int), x4) (fun w => itn (surtitlelaw19_best.B80 K (surtitlelaw19_best K) (a, (b, (i0, jI)))) k' w)) k (u, v, ((q + 1 : Nat) : Int), told out))) := by
      intro K k' k hK
      rw [head K k' k (by omega), sel_neg (by omega), hb K (by omega), Option.bind_some]
      dsimp only
      rw [e1, e2, hlen, List.length_singleton, sel_pos (p := (1 + row.length) * 16 ≤ 140737488355328) (by omega)]
    clear head e1 e2 hb hlen
    by_cases h1 : u < A0 + sh p q
    · exact Tells3.stepK (max c1 c2) (fun K k' k hK => (go K k' k hK).trans (sel_pos h1)) (take (hx.2 (.inl h1)))
    by_cases h2 : A0 + sh p q = u
    case neg => exact Tells3.stepK (max c1 c2) (fun K k' k hK => (go K k' k hK).trans ((sel_neg h1).trans (sel_neg h2))) (skip fun hc => by
      have := hx.1 (by omega)
      omega)
    by_cases h3 : v < B0 + 1
    · exact Tells3.stepK (max c1 c2) (fun K k' k hK => (go K k' k hK).trans ((sel_neg h1).trans ((sel_pos h2).trans (sel_pos h3)))) (take (hx.2 (.inr ⟨h2, h3⟩)))
    · exact Tells3.stepK (max c1 c2) (fun K k' k hK => (go K k' k hK).trans ((sel_neg h1).trans ((sel_pos h2).trans (sel_neg h3)))) (skip fun hc => by
        have := hx.1 (by omega)
        omega)
theorem best_l0 (i0 : Int) {i j : Nat} (hi : i ≤ n) (hj : j ≤ m)
    (IH : ∀ p q, i ≤ p → p < n → q < m → j ≤ q → Tells (fun k => surtitlelaw19_best k (a, (b, (((p + 1 : Nat) : Int), ((q + 1 : Nat) : Int))))) (bestW sh W n m (p + 1) (q + 1))) :
    ∀ (d p : Nat) (u v : Int) (out : List (Nat × Nat)), p + d = n → i ≤ p → BP.Tried W sh n m i j p j (u * 8192 + v) out → BP.InW (n - i) (u, v) →
      TellsL (fun K k => itn (surtitlelaw19_best.B80 K (surtitlelaw19_best K) (a, (b, (i0, (j : Int))))) k (u, v, (p : Int), told out)) (bestW sh W n m i j)
  | 0, p, u, v, out, hp, hip, ht, hw => by
    obtain rfl : p = n := by omega
    obtain ⟨h1, h2⟩ := BP.Tried.done hT hi hj ht
    have h3 : (u, v) = W i j := (BP.val_inj (a := p - i) (b := p - i) (by omega) (by omega) hw (hT.in' hi hj)).1 h1
    refine TellsL.step (g := fun _ _ => some (bestW sh W p m i j)) (fun K k => ?_) (TellsL.const _)
    rw [itn, surtitlelaw19_best.B80, surtitlelaw19_best.T80]
    dsimp only
    rw [lenI_eq a, sel_neg (by omega), h2]
    unfold bestW
    rw [← h3]
  | d + 1, p, u, v, out, hp, hip, ht, hw => by
    have h := best_l1 hn hm hn4 hm4 hT hsh i0 (j : Int) u v (told out) hip (by omega) (bestW sh W n m i j) (fun q h1 h2 => IH p q hip (by omega) h1 h2) (fun u v out h1 h2 => best_l0 i0 hi hj IH d (p + 1) u v out (by omega) (by omega) h1 h2) (m - j) j u v out (by omega) (Nat.le_refl _) ht hw
    refine TellsL.step (fun K k => ?_) (Tells3.diag h)
    rw [itn, surtitlelaw19_best.B80, surtitlelaw19_best.T80]
    dsimp only
    rw [lenI_eq a, sel_pos (by omega)]
    rfl
theorem best_up {i j : Nat} {R : BT} (h : TellsL (fun K k => itn (surtitlelaw19_best.B80 K (surtitlelaw19_best K) (a, (b, ((i : Int), (j : Int))))) k (0, 0, (i : Int), told [])) R) : Tells (fun k => surtitlelaw19_best k (a, (b, ((i : Int), (j : Int))))) R :=
  Tells.step (g := fun k => itn (surtitlelaw19_best.B80 k (surtitlelaw19_best k) (a, (b, ((i : Int), (j : Int))))) k (0, 0, (i : Int), [])) (fun k => best_u k _) (TellsL.diag h)
theorem best_tells : ∀ (d i j : Nat), n - i ≤ d → i ≤ n → j ≤ m → Tells (fun k => surtitlelaw19_best k (a, (b, ((i : Int), (j : Int))))) (bestW sh W n m i j)
  | 0, i, j, hd, hi, hj => best_up hn hm hn4 hm4 hT hsh (best_l0 hn hm hn4 hm4 hT hsh (i : Int) hi hj (fun p q h1 h2 => by omega) (n - i) i 0 0 [] (by omega) (Nat.le_refl _) (BP.Tried.start i j) (BP.InW.zero _))
  | d + 1, i, j, hd, hi, hj => best_up hn hm hn4 hm4 hT hsh (best_l0 hn hm hn4 hm4 hT hsh (i : Int) hi hj (fun p q h1 h2 h3 h4 => best_tells d (p + 1) (q + 1) (by omega) (by omega) (by omega)) (n - i) i 0 0 [] (by omega) (Nat.le_refl _) (BP.Tried.start i j) (BP.InW.zero _))
end
theorem samep_loop (L : List (Nat × Nat)) (hl : L.length ≤ 4096) : ∀ (m t : Nat), t + m = L.length → TellsL (fun K k => itn (surtitlelaw19_SamePairs.B9 K (told L, told L)) k (t : Int)) true
  | 0, t, h => by
    refine TellsL.step (g := fun _ _ => some true) (fun K k => ?_) (TellsL.const _)
    rw [itn, surtitlelaw19_SamePairs.B9, surtitlelaw19_SamePairs.T9]
    dsimp only
    rw [told_lenI, sel_neg (by omega)]
  | m + 1, t, h => by
    refine TellsL.step (fun K k => ?_) (samep_loop L hl m (t + 1) (by omega))
    show itn (surtitlelaw19_SamePairs.B9 K (told L, told L)) (k + 1) (t : Int) = itn (surtitlelaw19_SamePairs.B9 K (told L, told L)) k ((t + 1 : Nat) : Int)
    rw [itn, surtitlelaw19_SamePairs.B9, surtitlelaw19_SamePairs.T9]
    dsimp only
    rw [told_lenI, sel_pos (by omega), sel_pos (by omega), sel_pos (by omega), sel_pos (by omega), sel_pos (by omega)]
    unfold surtitlelaw19_SamePairs.J12
    rw [sel_neg (by simp), succ_w (by omega)]
theorem samep_tells (L : List (Nat × Nat)) (hl : L.length ≤ 4096) : Tells (fun k => surtitlelaw19_SamePairs k (told L, told L)) true := by
  refine Tells.same (g := fun k => sel (lenI (told L) = lenI (told L)) (itn (surtitlelaw19_SamePairs.B9 k (told L, told L)) k 0) (some false)) (fun k => by rfl) ?_
  exact Tells.spos rfl (TellsL.diag (f := fun K k => itn (surtitlelaw19_SamePairs.B9 K (told L, told L)) k 0) (samep_loop L hl L.length 0 (by omega)))
section
variable {a b : List CuD} (hGa : ∀ x ∈ a, GC x) (hGb : ∀ x ∈ b, GC x) (ha : docOK a) (hb : docOK b)
include hGa hGb ha hb
theorem all_l (L : List (Nat × Nat)) (T : Int) (x2 : Int) (hL : ∀ x ∈ L, x.1 < a.length ∧ x.2 < b.length ∧ 0 < shV a b x.1 x.2) (hl : L.length ≤ 4096) (h2 : T ≤ 400000000 * 4096) :
    ∀ (m t : Nat) (s : Int), t + m = L.length → 0 ≤ s → s + BP.ssum (shV a b) (L.drop t) = T → TellsL (fun K k => itn (surtitlelaw19_DualAll.B13 K (told L, none) (a, b) (T, (x2, told L))) k (s, (t : Int))) true
  | 0, t, s, h, h0, h1 => by
    obtain rfl : t = L.length := by omega
    rw [List.drop_length] at h1
    obtain rfl : s = T := by unfold BP.ssum at h1; omega
    refine TellsL.step (g := fun K k => (surtitlelaw19_SamePairs K (told L, told L)).bind fun t8 => sel (t8 = true) ((surtitlelaw19_head K ()).bind fun t9 => some t9) (some false)) (fun K k => ?_) (TellsL.of (Tells.bind (samep_tells L hl) (Tells.spos rfl (Tells.bind head_tells (Tells.const _)))))
    rw [itn, surtitlelaw19_DualAll.B13, surtitlelaw19_DualAll.T13]
    dsimp only
    rw [told_lenI, sel_neg (by omega), sel_pos rfl]
    rfl
  | m + 1, t, s, h, h0, h1 => by
    have ht : t < L.length := by omega
    obtain ⟨q1, q2, q3⟩ := hL _ (List.getElem_mem ht)
    have l1 := ha.1
    have l2 := hb.1
    have e : L.drop t = L[t] :: L.drop (t + 1) := List.drop_eq_getElem_cons ht
    have e2 : BP.ssum (shV a b) (L.drop t) = shV a b (L[t]).1 (L[t]).2 + BP.ssum (shV a b) (L.drop (t + 1)) := by rw [e]; rfl
    have b9 := BP.ssum_le (n := a.length) (m := b.length) (sh := shV a b) (fun i j hi hj => sh_bound hGa hGb ha hb hi hj) (L.drop (t + 1)) (fun x hx => hL x (List.mem_of_mem_drop hx))
    obtain ⟨c1, hc1⟩ := share_at hGa hGb ha hb q1 q2 q3
    have ih : ∀ s' : Int, s' = s + shV a b (L[t]).1 (L[t]).2 → TellsL (fun K k => itn (surtitlelaw19_DualAll.B13 K (told L, none) (a, b) (T, (x2, told L))) k (s', ((t + 1 : Nat) : Int))) true := fun s' hs' => all_l L T x2 hL hl h2 m (t + 1) s' (by omega) (by omega) (by omega)
    generalize shV a b (L[t]).1 (L[t]).2 = z at q3 e2 hc1 ih
    generalize BP.ssum (shV a b) (L.drop (t + 1)) = uu at e2 b9
    rw [e2] at h1
    refine TellsL.stepK c1 (fun K k hK => ?_) (ih _ rfl)
    rw [itn, surtitlelaw19_DualAll.B13, surtitlelaw19_DualAll.T13]
    dsimp only
    rw [told_lenI, sel_pos (by omega), sel_pos (by omega), sel_pos (by omega), told_at L t ht]
    dsimp only
    rw [lenI_eq a, lenI_eq b, within_tells' q1 l1, Option.bind_some, sel_pos (by omega), sel_pos (by omega), sel_pos (by omega), sel_pos (by omega), within_tells' q2 l2, Option.bind_some, sel_pos (by omega), sel_pos (by omega)]
    refine Eq.trans (congrArg (fun t => Option.bind t _) (show surtitlelaw19_share K _ = some z from hc1 K hK)) ?_
    rw [Option.bind_some, wrap64_id (a := s + z) (by unfold I64; omega), succ_w (by omega)]
end
theorem all_u (k : Nat) (a b : List CuD) : surtitlelaw19_DualAll k (a, b) = (dual_Pairs k (a, b)).bind fun t0 => opt t0.2 (sel (5 < (lenI a)) ((surtitlelaw19_head k ()).bind fun t2 => some t2) (sel (5 < (lenI b)) ((surtitlelaw19_head k ()).bind fun t3 => some t3) ((surtitlelaw19_best k (a, (b, (0, 0)))).bind fun t4 => sel ((lenI t0.1) = t4.2.1) (itn (surtitlelaw19_DualAll.B13 k t0 (a, b) t4) k (0, 0)) (some false)))) fun u1 => (surtitlelaw19_head k ()).bind fun t10 => some t10 := by kernel_rfl
theorem all_tells (a b : List CuD) (hGa : ∀ x ∈ a, GC x) (hGb : ∀ x ∈ b, GC x) : Tells (fun k => surtitlelaw19_DualAll k (a, b)) true := by
  refine Tells.same (fun k => all_u k a b) ?_
  by_cases hc : docOK a ∧ docOK b ∧ a.length * b.length ≤ 1048576
  · obtain ⟨ha, hb, hm⟩ := hc
    refine Tells.bind (pairs_tells hGa hGb ha hb hm) ?_
    have l1 := ha.1
    have l2 := hb.1
    have hd := Tells.bind head_tells (Tells.const true) (g := fun _ t => some t)
    by_cases h5 : (5 : Int) < a.length
    · exact Tells.same (fun k => sel_pos (by rw [lenI_eq]; omega)) hd
    by_cases h6 : (5 : Int) < b.length
    · exact Tells.same (fun k => (sel_neg (by rw [lenI_eq]; omega)).trans (sel_pos (by rw [lenI_eq]; omega))) hd
    obtain ⟨r1, t1⟩ := rowsV_ok ha hb
    have hT := tabV ha hb
    have k1 := BP.RowOK.len r1 (Nat.zero_le _) (Nat.zero_le _)
    rw [BP.total_ssum] at t1
    have b9 := BP.ssum_le (n := a.length) (m := b.length) (sh := shV a b) (fun i j hi hj => sh_bound hGa hGb ha hb hi hj) (rowsV a b) (BP.RowOK.mem r1)
    have hw := hT.in' (i := 0) (j := 0) (Nat.zero_le _) (Nat.zero_le _)
    have ev : BP.V (WV a b) 0 0 = (WV a b 0 0).1 * 8192 + (WV a b 0 0).2 := rfl
    unfold BP.InW at hw
    rw [ev] at t1
    have hbest := best_tells rfl rfl l1 l2 hT (fun i j hi hj => share_any hGa hGb ha hb hi hj) a.length 0 0 (by omega) (Nat.zero_le _) (Nat.zero_le _)
    have hbe : bestW (shV a b) (WV a b) a.length b.length 0 0 = ((WV a b 0 0).1, ((WV a b 0 0).2, told (rowsV a b))) := rfl
    rw [hbe] at hbest
    have mem := BP.RowOK.mem r1
    generalize rowsV a b = L at *
    generalize (WV a b 0 0).1 = w1 at *
    generalize (WV a b 0 0).2 = w2 at *
    have e1 : (L.length : Int) = w2 := by omega
    have e2 : BP.ssum (shV a b) L = w1 := by omega
    have hl := TellsL.diag (all_l hGa hGb ha hb L w1 w2 mem (by omega) (by omega) L.length 0 0 (by omega) (Int.le_refl 0) (by rw [List.drop_zero]; omega))
    refine Tells.same (fun k => (sel_neg (by rw [lenI_eq]; omega)).trans (sel_neg (by rw [lenI_eq]; omega))) (Tells.bind hbest (Tells.same (fun k => ?_) hl))
    exact sel_pos (by show lenI (told L) = w2; rw [told_lenI]; exact e1)
  · obtain ⟨e1, p1⟩ := pairs_refused hGa hGb hc
    exact Tells.bind p1 (Tells.bind head_tells (Tells.const _))
theorem all_good {t u : TypeId} (p : List CuD × List CuD) (h : Ty.Good (.pr (.sl t CueTy) (.sl u CueTy)) p) : ∃ k, surtitlelaw19_DualAll k p = some true := (all_tells p.1 p.2 (gc_list h.1) (gc_list h.2)).get
end Go.Proofs.Ytlbicmdfdpcdiaa.F
