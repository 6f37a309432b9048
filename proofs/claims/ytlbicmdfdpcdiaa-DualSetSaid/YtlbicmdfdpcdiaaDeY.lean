import Derived.Test.YtlbicmdfdpcdiaaDeX
import Derived.Test.YtlbicmdfdpcdiaaDeFP1
import Derived.Test.YtlbicmdfdpcdiaaDeKD1
import Derived.Test.YtlbicmdfdpcdiaaDeKAP1
import Derived.Test.YtlbicmdfdpcdiaaDeC
import Derived.Test.YtlbicmdfdpcdiaaDeKNM1
import Derived.Test.YtlbicmdfdpcdiaaDeKBK1
import Derived.Test.YtlbicmdfdpcdiaaDeKST1
set_option linter.unusedSectionVars false
-- Printed by a program of this session's; Lean checks it.
set_option linter.unusedVariables false
set_option linter.unusedSimpArgs false
set_option maxRecDepth 100000
namespace Go.Proofs.Ytlbicmdfdpcdiaa.F
open Go.Proofs.Ytlbicmdfdpcdiaa.Vm Go.RowKit
namespace BP
def val (p : Int × Int) : Int := p.1 * 8192 + p.2
def InW (b : Nat) (p : Int × Int) : Prop := 0 ≤ p.1 ∧ p.1 ≤ 400000000 * (b : Int) ∧ 0 ≤ p.2 ∧ p.2 ≤ (b : Int)
def above (a b : Int × Int) : Bool := decide (a.1 > b.1) || (decide (a.1 = b.1) && decide (a.2 > b.2))
def plus (o : Int × Int) (s : Int) : Int × Int := (wrap64 (o.1 + s), wrap64 (o.2 + 1))
def cell (a b c : Int × Int) (s : Int) : Int × Int :=
  let w1 := if above b a = true then b else a
  if s > 0 then (if above (plus c s) w1 = true then plus c s else w1) else w1
structure Tab (n m : Nat) (sh : Nat → Nat → Int) (W : Nat → Nat → Int × Int) : Prop where
  hn : n ≤ 4096
  sh_le : ∀ i j, i < n → j < m → sh i j ≤ 400000000
  last : ∀ j, j ≤ m → W n j = (0, 0)
  side : ∀ i, i ≤ n → W i m = (0, 0)
  step : ∀ i j, i < n → j < m → W i j = cell (W (i + 1) j) (W i (j + 1)) (W (i + 1) (j + 1)) (sh i j)
theorem plus_in {b : Nat} {c : Int × Int} {s : Int} (hb : b ≤ 4096) (h : InW b c) (h0 : 0 < s) (h1 : s ≤ 400000000) : plus c s = (c.1 + s, c.2 + 1) ∧ InW (b + 1) (c.1 + s, c.2 + 1) := by
  unfold InW at *
  have e1 : wrap64 (c.1 + s) = c.1 + s := by unfold wrap64; omega
  have e2 : wrap64 (c.2 + 1) = c.2 + 1 := by unfold wrap64; omega
  unfold plus
  rw [e1, e2]
  refine ⟨rfl, ?_⟩
  dsimp only
  omega
theorem InW.mono {a b : Nat} {p : Int × Int} (h : InW a p) (hab : a ≤ b) : InW b p := by unfold InW at *; omega
theorem InW.zero (b : Nat) : InW b (0, 0) := by unfold InW; dsimp only; omega
theorem above_iff {a b : Nat} {p q : Int × Int} (ha : a ≤ 4097) (hb : b ≤ 4097) (hp : InW a p) (hq : InW b q) : above p q = decide (val q < val p) := by
  unfold InW at *
  unfold above val
  rw [Bool.eq_iff_iff]
  simp only [Bool.or_eq_true, Bool.and_eq_true, decide_eq_true_eq]
  omega
theorem val_inj {a b : Nat} {p q : Int × Int} (ha : a ≤ 4097) (hb : b ≤ 4097) (hp : InW a p) (hq : InW b q) : val p = val q ↔ p = q := by
  obtain ⟨p1, p2⟩ := p
  obtain ⟨q1, q2⟩ := q
  unfold InW at *
  unfold val
  simp only [Prod.mk.injEq]
  dsimp only at *
  omega
theorem cell_in {k : Nat} {a b c : Int × Int} {s : Int} (hk : k < 4096) (ha : InW k a) (hb : InW (k + 1) b) (hc : InW k c) (hs : s ≤ 400000000) : InW (k + 1) (cell a b c s) := by
  unfold cell
  dsimp only
  have h1 : InW (k + 1) (if above b a = true then b else a) := by split; exact hb; exact ha.mono (by omega)
  generalize (if above b a = true then b else a) = w1 at h1
  split
  · split
    · obtain ⟨e, h⟩ := plus_in (by omega) hc (by omega) hs
      rw [e]; exact h
    · exact h1
  · exact h1
theorem cell_val {k : Nat} {a b c : Int × Int} {s : Int} (hk : k < 4096) (ha : InW k a) (hb : InW (k + 1) b) (hc : InW k c) (hs : s ≤ 400000000) :
    val a ≤ val (cell a b c s) ∧ val b ≤ val (cell a b c s) ∧ (0 < s → val c + (s * 8192 + 1) ≤ val (cell a b c s)) ∧ (val (cell a b c s) = val a ∨ val (cell a b c s) = val b ∨ 0 < s ∧ val (cell a b c s) = val c + (s * 8192 + 1)) := by
  unfold cell
  dsimp only
  have e1 := above_iff (by omega) (by omega) hb ha
  have h1 : InW (k + 1) (if above b a = true then b else a) ∧ val a ≤ val (if above b a = true then b else a) ∧ val b ≤ val (if above b a = true then b else a) ∧ (val (if above b a = true then b else a) = val a ∨ val (if above b a = true then b else a) = val b) := by
    rw [e1]
    by_cases h : val a < val b
    · rw [decide_eq_true h, if_pos rfl]; exact ⟨hb, by omega, by omega, .inr rfl⟩
    · rw [decide_eq_false h, if_neg (by decide)]; exact ⟨ha.mono (by omega), by omega, by omega, .inl rfl⟩
  generalize (if above b a = true then b else a) = w1 at h1
  obtain ⟨i1, l1, l2, l3⟩ := h1
  by_cases hs0 : s > 0
  · rw [if_pos hs0]
    obtain ⟨e, h⟩ := plus_in (by omega) hc hs0 hs
    have ev : val (plus c s) = val c + (s * 8192 + 1) := by rw [e]; unfold val; dsimp only; omega
    rw [← e] at h
    rw [above_iff (by omega) (by omega) h i1]
    by_cases h2 : val w1 < val (plus c s)
    · rw [decide_eq_true h2, if_pos rfl]; exact ⟨by omega, by omega, fun _ => by omega, .inr (.inr ⟨by omega, ev⟩)⟩
    · rw [decide_eq_false h2, if_neg (by decide)]; exact ⟨by omega, by omega, fun _ => by omega, by omega⟩
  · rw [if_neg hs0]
    exact ⟨by omega, by omega, fun h => by omega, by omega⟩
section
variable {n m : Nat} {sh : Nat → Nat → Int} {W : Nat → Nat → Int × Int}
theorem Tab.inW (h : Tab n m sh W) : ∀ (d i j : Nat), i ≤ n → j ≤ m → (n - i) + (m - j) = d → InW (n - i) (W i j)
  | 0, i, j, hi, hj, hd => by
    obtain rfl : i = n := by omega
    rw [h.last j hj]; exact InW.zero _
  | d + 1, i, j, hi, hj, hd => by
    by_cases e1 : i = n
    · subst e1; rw [h.last j hj]; exact InW.zero _
    by_cases e2 : j = m
    · subst e2; rw [h.side i hi]; exact InW.zero _
    have hn := h.hn
    rw [h.step i j (by omega) (by omega)]
    have e : n - i = n - (i + 1) + 1 := by omega
    rw [e]
    refine cell_in (by omega) (Tab.inW h d (i + 1) j (by omega) (by omega) (by omega)) ?_ ?_ (h.sh_le i j (by omega) (by omega))
    · have := Tab.inW h d i (j + 1) (by omega) (by omega) (by omega)
      rwa [e] at this
    · by_cases hd1 : (n - (i + 1)) + (m - (j + 1)) = d
      · exact Tab.inW h d (i + 1) (j + 1) (by omega) (by omega) hd1
      · cases d with
        | zero => omega
        | succ d => exact Tab.inW h d (i + 1) (j + 1) (by omega) (by omega) (by omega)
theorem Tab.in' (h : Tab n m sh W) {i j : Nat} (hi : i ≤ n) (hj : j ≤ m) : InW (n - i) (W i j) := h.inW _ i j hi hj rfl
def V (W : Nat → Nat → Int × Int) (i j : Nat) : Int := val (W i j)
theorem Tab.cells (h : Tab n m sh W) {i j : Nat} (hi : i < n) (hj : j < m) :
    V W (i + 1) j ≤ V W i j ∧ V W i (j + 1) ≤ V W i j ∧ (0 < sh i j → V W (i + 1) (j + 1) + (sh i j * 8192 + 1) ≤ V W i j) ∧ (V W i j = V W (i + 1) j ∨ V W i j = V W i (j + 1) ∨ 0 < sh i j ∧ V W i j = V W (i + 1) (j + 1) + (sh i j * 8192 + 1)) := by
  have hn := h.hn
  unfold V
  rw [h.step i j hi hj]
  have e : n - i = n - (i + 1) + 1 := by omega
  exact cell_val (k := n - (i + 1)) (by omega) (h.in' (by omega) (by omega)) (by have := h.in' (i := i) (j := j + 1) (by omega) (by omega); rwa [e] at this) (h.in' (by omega) (by omega)) (h.sh_le i j hi hj)
theorem Tab.V_last (h : Tab n m sh W) {j : Nat} (hj : j ≤ m) : V W n j = 0 := by unfold V; rw [h.last j hj]; rfl
theorem Tab.V_side (h : Tab n m sh W) {i : Nat} (hi : i ≤ n) : V W i m = 0 := by unfold V; rw [h.side i hi]; rfl
theorem Tab.pair_ex (h : Tab n m sh W) : ∀ (d i j : Nat), i ≤ n → j ≤ m → (n - i) + (m - j) = d → V W i j ≠ 0 → ∃ p q, i ≤ p ∧ p < n ∧ j ≤ q ∧ q < m ∧ 0 < sh p q ∧ V W i j = V W (p + 1) (q + 1) + (sh p q * 8192 + 1)
  | 0, i, j, hi, hj, hd, hv => by
    obtain rfl : i = n := by omega
    exact absurd (h.V_last hj) hv
  | d + 1, i, j, hi, hj, hd, hv => by
    by_cases e1 : i = n
    · subst e1; exact absurd (h.V_last hj) hv
    by_cases e2 : j = m
    · subst e2; exact absurd (h.V_side hi) hv
    obtain ⟨_, _, _, hc⟩ := h.cells (i := i) (j := j) (by omega) (by omega)
    rcases hc with e | e | ⟨hs, e⟩
    · obtain ⟨p, q, a1, a2, a3, a4, a5, a6⟩ := Tab.pair_ex h d (i + 1) j (by omega) hj (by omega) (by rw [← e]; exact hv)
      exact ⟨p, q, by omega, a2, a3, a4, a5, by rw [e]; exact a6⟩
    · obtain ⟨p, q, a1, a2, a3, a4, a5, a6⟩ := Tab.pair_ex h d i (j + 1) hi (by omega) (by omega) (by rw [← e]; exact hv)
      exact ⟨p, q, a1, a2, by omega, a4, a5, by rw [e]; exact a6⟩
    · exact ⟨i, j, Nat.le_refl _, by omega, Nat.le_refl _, by omega, hs, e⟩
theorem Tab.want (h : Tab n m sh W) {i j p q : Nat} (h1 : i ≤ n) (h2 : j ≤ m) (h3 : p < n) (h4 : q < m) (hs : 0 < sh p q) : plus (W (p + 1) (q + 1)) (sh p q) = W i j ↔ V W i j = V W (p + 1) (q + 1) + (sh p q * 8192 + 1) := by
  have hn := h.hn
  obtain ⟨e, hp⟩ := plus_in (b := n - (p + 1)) (by omega) (h.in' (i := p + 1) (j := q + 1) (by omega) (by omega)) hs (h.sh_le p q h3 h4)
  have ev : val (plus (W (p + 1) (q + 1)) (sh p q)) = V W (p + 1) (q + 1) + (sh p q * 8192 + 1) := by rw [e]; unfold V val; dsimp only; omega
  rw [← val_inj (a := n - (p + 1) + 1) (b := n - i) (by omega) (by omega) (by rw [e]; exact hp) (h.in' h1 h2), ev]
  unfold V
  omega
theorem Tab.none (h : Tab n m sh W) {i j : Nat} (h1 : i ≤ n) (h2 : j ≤ m) : W i j = (0, 0) ↔ V W i j = 0 := by
  have hn := h.hn
  rw [← val_inj (a := n - i) (b := 0) (by omega) (by omega) (h.in' h1 h2) (InW.zero 0)]
  unfold V
  show val (W i j) = 0 * 8192 + 0 ↔ _
  omega
end
end BP
namespace BP
def tabAt (m : Nat) (T : List (Int × Int)) (i j : Nat) : Int × Int := T.getD (i * (m + 1) + j) (0, 0)
def cellV (m : Nat) (sh : Nat → Nat → Int) (T : List (Int × Int)) (i j : Nat) : Int × Int := cell (tabAt m T (i + 1) j) (tabAt m T i (j + 1)) (tabAt m T (i + 1) (j + 1)) (sh i j)
def tabJ (m : Nat) (sh : Nat → Nat → Int) (i : Nat) (T : List (Int × Int)) : Nat → List (Int × Int)
  | 0 => T
  | c + 1 => (tabJ m sh i T c).set (i * (m + 1) + (m - 1 - c)) (cellV m sh (tabJ m sh i T c) i (m - 1 - c))
def tabI (n m : Nat) (sh : Nat → Nat → Int) : Nat → List (Int × Int)
  | 0 => List.replicate ((n + 1) * (m + 1)) (0, 0)
  | c + 1 => tabJ m sh (n - 1 - c) (tabI n m sh c) m
theorem tabJ_length (m : Nat) (sh : Nat → Nat → Int) (i : Nat) (T : List (Int × Int)) : ∀ c, (tabJ m sh i T c).length = T.length
  | 0 => rfl
  | c + 1 => by rw [tabJ, List.length_set, tabJ_length m sh i T c]
theorem tabI_length (n m : Nat) (sh : Nat → Nat → Int) : ∀ c, (tabI n m sh c).length = (n + 1) * (m + 1)
  | 0 => by simp [tabI]
  | c + 1 => by rw [tabI, tabJ_length, tabI_length n m sh c]
theorem place_inj {m i j p q : Nat} (hj : j ≤ m) (hq : q ≤ m) (h : i * (m + 1) + j = p * (m + 1) + q) : i = p ∧ j = q := by
  have h1 : (i * (m + 1) + j) / (m + 1) = i := by rw [Nat.mul_comm, Nat.mul_add_div (by omega), Nat.div_eq_of_lt (by omega), Nat.add_zero]
  have h2 : (p * (m + 1) + q) / (m + 1) = p := by rw [Nat.mul_comm, Nat.mul_add_div (by omega), Nat.div_eq_of_lt (by omega), Nat.add_zero]
  have : i = p := by rw [← h1, ← h2, h]
  subst this
  exact ⟨rfl, by omega⟩
theorem place_lt {n m i j : Nat} (hi : i ≤ n) (hj : j ≤ m) : i * (m + 1) + j < (n + 1) * (m + 1) := by
  have := Nat.mul_le_mul_right (m + 1) hi
  rw [Nat.succ_mul]; omega
theorem tabAt_set {m : Nat} {T : List (Int × Int)} {i j p q : Nat} (v : Int × Int) (hj : j ≤ m) (hq : q ≤ m) (hl : i * (m + 1) + j < T.length) : tabAt m (T.set (i * (m + 1) + j) v) p q = if p = i ∧ q = j then v else tabAt m T p q := by
  unfold tabAt
  rw [List.getD_eq_getElem?_getD]
  by_cases e : p = i ∧ q = j
  · obtain ⟨rfl, rfl⟩ := e
    rw [if_pos ⟨rfl, rfl⟩, List.getElem?_set_self hl]; rfl
  · rw [if_neg e, List.getElem?_set_ne (fun h => e (by have := place_inj hj hq h; omega)), List.getD_eq_getElem?_getD]
theorem tabJ_at {m : Nat} (sh : Nat → Nat → Int) {i : Nat} {T : List (Int × Int)} (hl : i * (m + 1) + m < T.length) : ∀ c, c ≤ m →
    (∀ p q, q ≤ m → (p ≠ i ∨ q < m - c ∨ q = m) → tabAt m (tabJ m sh i T c) p q = tabAt m T p q) ∧
    ∀ q, m - c ≤ q → q < m → tabAt m (tabJ m sh i T c) i q = cell (tabAt m T (i + 1) q) (tabAt m (tabJ m sh i T c) i (q + 1)) (tabAt m T (i + 1) (q + 1)) (sh i q)
  | 0, _ => ⟨fun p q _ _ => rfl, fun q h1 h2 => by omega⟩
  | c + 1, hc => by
    obtain ⟨ih1, ih2⟩ := tabJ_at sh hl c (by omega)
    have hlen := tabJ_length m sh i T c
    have hs : ∀ p q, q ≤ m → tabAt m (tabJ m sh i T (c + 1)) p q = if p = i ∧ q = m - 1 - c then cellV m sh (tabJ m sh i T c) i (m - 1 - c) else tabAt m (tabJ m sh i T c) p q := fun p q hq => by
      rw [tabJ, tabAt_set _ (by omega) hq (by rw [hlen]; omega)]
    refine ⟨fun p q hq h => ?_, fun q h1 h2 => ?_⟩
    · rw [hs p q hq, if_neg (by omega)]
      exact ih1 p q hq (by omega)
    · rw [hs i q (by omega), hs i (q + 1) (by omega), if_neg (c := i = i ∧ q + 1 = m - 1 - c) (by omega)]
      by_cases e : q = m - 1 - c
      · rw [if_pos ⟨rfl, e⟩, ← e, cellV, ih1 (i + 1) q (by omega) (by omega), ih1 (i + 1) (q + 1) (by omega) (by omega)]
      · rw [if_neg (fun h => e h.2)]
        exact ih2 q (by omega) h2
theorem tabI_at {n m : Nat} (sh : Nat → Nat → Int) : ∀ c, c ≤ n →
    (∀ p q, q ≤ m → p ≤ n → (p < n - c ∨ p = n ∨ q = m) → tabAt m (tabI n m sh c) p q = (0, 0)) ∧
    ∀ p q, n - c ≤ p → p < n → q < m → tabAt m (tabI n m sh c) p q = cell (tabAt m (tabI n m sh c) (p + 1) q) (tabAt m (tabI n m sh c) p (q + 1)) (tabAt m (tabI n m sh c) (p + 1) (q + 1)) (sh p q)
  | 0, _ => ⟨fun p q hq hp _ => by unfold tabAt tabI; rw [List.getD_eq_getElem?_getD, List.getElem?_replicate]; split <;> rfl, fun p q h1 h2 => by omega⟩
  | c + 1, hc => by
    obtain ⟨ih1, ih2⟩ := tabI_at (n := n) (m := m) sh c (by omega)
    have hlen := tabI_length n m sh c
    obtain ⟨j1, j2⟩ := tabJ_at sh (i := n - 1 - c) (T := tabI n m sh c) (m := m) (by rw [hlen]; exact place_lt (show n - 1 - c ≤ n by omega) (Nat.le_refl m)) m (Nat.le_refl _)
    refine ⟨fun p q hq hp h => ?_, fun p q h1 h2 h3 => ?_⟩
    · rw [tabI]
      by_cases e : p = n - 1 - c
      · have hq' : q = m := by omega
        rw [j1 p q hq (by omega)]
        exact ih1 p q hq hp (by omega)
      · rw [j1 p q hq (.inl e)]
        exact ih1 p q hq hp (by omega)
    · rw [tabI]
      by_cases e : p = n - 1 - c
      · rw [e, j2 q (by omega) h3, j1 (n - 1 - c + 1) q (by omega) (.inl (by omega)), j1 (n - 1 - c + 1) (q + 1) (by omega) (.inl (by omega))]
      · rw [j1 p q (by omega) (.inl e), j1 (p + 1) q (by omega) (.inl (by omega)), j1 p (q + 1) (by omega) (.inl e), j1 (p + 1) (q + 1) (by omega) (.inl (by omega))]
        exact ih2 p q (by omega) h2 h3
theorem tab_of {n m : Nat} {sh : Nat → Nat → Int} (hn : n ≤ 4096) (hs : ∀ i j, i < n → j < m → sh i j ≤ 400000000) : Tab n m sh (tabAt m (tabI n m sh n)) := by
  obtain ⟨h1, h2⟩ := tabI_at (m := m) sh n (Nat.le_refl _)
  exact ⟨hn, hs, fun j hj => h1 n j hj (Nat.le_refl _) (by omega), fun i hi => h1 i m (Nat.le_refl _) hi (by omega), fun i j hi hj => h2 i j (by omega) hi hj⟩
end BP
namespace BP
section
variable (sh : Nat → Nat → Int) (W : Nat → Nat → Int × Int)
def hit (want : Int × Int) (p q : Nat) : Bool := decide (0 < sh p q) && decide (plus (W (p + 1) (q + 1)) (sh p q) = want)
def findQ (want : Int × Int) (p : Nat) : Nat → Nat → Option Nat
  | 0, _ => none
  | r + 1, q => if hit sh W want p q = true then some q else findQ want p r (q + 1)
def findP (m : Nat) (want : Int × Int) (j : Nat) : Nat → Nat → Option (Nat × Nat)
  | 0, _ => none
  | r + 1, p => match findQ sh W want p (m - j) j with
    | some q => some (p, q)
    | none => findP m want j r (p + 1)
def rowL (n m : Nat) : Nat → Nat → Nat → Option (List (Nat × Nat))
  | 0, _, _ => none
  | k + 1, i, j => if W i j = (0, 0) then some [] else match findP sh W m (W i j) j (n - i) i with
    | none => none
    | some pq => (rowL n m k (pq.1 + 1) (pq.2 + 1)).map (fun L => pq :: L)
end
section
variable {n m : Nat} {sh : Nat → Nat → Int} {W : Nat → Nat → Int × Int} {want : Int × Int}
theorem findQ_some {p : Nat} : ∀ {r q x : Nat}, findQ sh W want p r q = some x → q ≤ x ∧ x < q + r ∧ hit sh W want p x = true ∧ ∀ y, q ≤ y → y < x → hit sh W want p y = false
  | 0, q, x, h => by simp [findQ] at h
  | r + 1, q, x, h => by
    unfold findQ at h
    by_cases c : hit sh W want p q = true
    · rw [if_pos c] at h
      obtain rfl := Option.some.inj h
      exact ⟨Nat.le_refl _, by omega, c, fun y h1 h2 => by omega⟩
    · rw [if_neg c] at h
      obtain ⟨a1, a2, a3, a4⟩ := findQ_some h
      refine ⟨by omega, by omega, a3, fun y h1 h2 => ?_⟩
      by_cases e : y = q
      · subst e; simpa using c
      · exact a4 y (by omega) h2
theorem findQ_none {p : Nat} : ∀ {r q : Nat}, findQ sh W want p r q = none → ∀ y, q ≤ y → y < q + r → hit sh W want p y = false
  | 0, q, _, y, h1, h2 => by omega
  | r + 1, q, h, y, h1, h2 => by
    unfold findQ at h
    by_cases c : hit sh W want p q = true
    · rw [if_pos c] at h; simp at h
    · rw [if_neg c] at h
      by_cases e : y = q
      · subst e; simpa using c
      · exact findQ_none h y (by omega) (by omega)
theorem findP_some {j : Nat} (hj : j ≤ m) : ∀ {r p : Nat} {x : Nat × Nat}, findP sh W m want j r p = some x → p ≤ x.1 ∧ x.1 < p + r ∧ j ≤ x.2 ∧ x.2 < m ∧ hit sh W want x.1 x.2 = true ∧
    (∀ a b, p ≤ a → a < x.1 → j ≤ b → b < m → hit sh W want a b = false) ∧ ∀ b, j ≤ b → b < x.2 → hit sh W want x.1 b = false
  | 0, p, x, h => by simp [findP] at h
  | r + 1, p, x, h => by
    unfold findP at h
    split at h
    · rename_i q e
      obtain rfl := Option.some.inj h
      obtain ⟨a1, a2, a3, a4⟩ := findQ_some e
      exact ⟨Nat.le_refl _, by dsimp only; omega, a1, by dsimp only; omega, a3, fun a b h1 h2 => by dsimp only at h2; omega, a4⟩
    · rename_i e
      obtain ⟨a1, a2, a3, a4, a5, a6, a7⟩ := findP_some hj h
      refine ⟨by omega, by omega, a3, a4, a5, fun a b h1 h2 h3 h4 => ?_, a7⟩
      by_cases e1 : a = p
      · subst e1; exact findQ_none e b h3 (by omega)
      · exact a6 a b (by omega) h2 h3 h4
theorem findP_none {j : Nat} (hj : j ≤ m) : ∀ {r p : Nat}, findP sh W m want j r p = none → ∀ a b, p ≤ a → a < p + r → j ≤ b → b < m → hit sh W want a b = false
  | 0, p, _, a, b, h1, h2, _, _ => by omega
  | r + 1, p, h, a, b, h1, h2, h3, h4 => by
    unfold findP at h
    split at h
    · simp at h
    · rename_i e
      by_cases e1 : a = p
      · subst e1; exact findQ_none e b h3 (by omega)
      · exact findP_none hj h a b (by omega) (by omega) h3 h4
def RowOK (n m : Nat) (sh : Nat → Nat → Int) : Nat → Nat → List (Nat × Nat) → Prop
  | _, _, [] => True
  | i, j, x :: L => i ≤ x.1 ∧ x.1 < n ∧ j ≤ x.2 ∧ x.2 < m ∧ 0 < sh x.1 x.2 ∧ RowOK n m sh (x.1 + 1) (x.2 + 1) L
def total (sh : Nat → Nat → Int) : List (Nat × Nat) → Int
  | [] => 0
  | x :: L => (sh x.1 x.2 * 8192 + 1) + total sh L
theorem hit_iff (h : Tab n m sh W) {i j p q : Nat} (h1 : i ≤ n) (h2 : j ≤ m) (h3 : p < n) (h4 : q < m) : hit sh W (W i j) p q = true ↔ 0 < sh p q ∧ V W i j = V W (p + 1) (q + 1) + (sh p q * 8192 + 1) := by
  unfold hit
  rw [Bool.and_eq_true, decide_eq_true_eq, decide_eq_true_eq]
  constructor
  · rintro ⟨a, b⟩; exact ⟨a, (h.want h1 h2 h3 h4 a).1 b⟩
  · rintro ⟨a, b⟩; exact ⟨a, (h.want h1 h2 h3 h4 a).2 b⟩
theorem rowL_tells (h : Tab n m sh W) : ∀ (k i j : Nat), i ≤ n → j ≤ m → n - i < k → ∃ L, rowL sh W n m k i j = some L ∧ RowOK n m sh i j L ∧ total sh L = V W i j
  | 0, i, j, _, _, hk => by omega
  | k + 1, i, j, hi, hj, hk => by
    unfold rowL
    by_cases c : W i j = (0, 0)
    · rw [if_pos c]; exact ⟨[], rfl, trivial, ((h.none hi hj).1 c).symm⟩
    · rw [if_neg c]
      have hv : V W i j ≠ 0 := fun e => c ((h.none hi hj).2 e)
      obtain ⟨p, q, a1, a2, a3, a4, a5, a6⟩ := h.pair_ex _ i j hi hj rfl hv
      cases e : findP sh W m (W i j) j (n - i) i with
      | none =>
        have := findP_none hj e p q a1 (by omega) a3 a4
        rw [(hit_iff h hi hj a2 a4).2 ⟨a5, a6⟩] at this
        exact absurd this (by decide)
      | some x =>
        obtain ⟨b1, b2, b3, b4, b5, _, _⟩ := findP_some hj e
        obtain ⟨c1, c2⟩ := (hit_iff h hi hj (by omega) b4).1 b5
        obtain ⟨L, d1, d2, d3⟩ := rowL_tells h k (x.1 + 1) (x.2 + 1) (by omega) (by omega) (by omega)
        refine ⟨x :: L, by dsimp only; rw [d1]; rfl, ⟨b1, by omega, b3, b4, c1, d2⟩, ?_⟩
        unfold total; rw [d3, c2]; omega
theorem rowL_mono (k : Nat) : ∀ (i j : Nat) (L : List (Nat × Nat)), rowL sh W n m k i j = some L → rowL sh W n m (k + 1) i j = some L := by
  induction k with
  | zero => intro i j L h; simp [rowL] at h
  | succ k ih =>
    intro i j L h
    rw [rowL] at h ⊢
    split
    · rename_i c; rw [if_pos c] at h; exact h
    · rename_i c
      rw [if_neg c] at h
      cases e : findP sh W m (W i j) j (n - i) i with
      | none => rw [e] at h; exact h
      | some x =>
        rw [e] at h
        dsimp only at h ⊢
        obtain ⟨L', h1, rfl⟩ := Option.map_eq_some_iff.1 h
        rw [ih _ _ _ h1]; rfl
end
section
variable {n m : Nat} {sh : Nat → Nat → Int} {W : Nat → Nat → Int × Int}
def rowV (sh : Nat → Nat → Int) (W : Nat → Nat → Int × Int) (n m i j : Nat) : List (Nat × Nat) := (rowL sh W n m (n + 1) i j).getD []
theorem rowL_up (k d : Nat) {i j : Nat} {L : List (Nat × Nat)} (h : rowL sh W n m k i j = some L) : rowL sh W n m (k + d) i j = some L := by
  induction d with
  | zero => exact h
  | succ d ih => exact rowL_mono _ _ _ _ ih
theorem rowL_same {k k' i j : Nat} {L L' : List (Nat × Nat)} (h : rowL sh W n m k i j = some L) (h' : rowL sh W n m k' i j = some L') : L = L' := by
  have a := rowL_up k k' h
  have b := rowL_up k' k h'
  rw [Nat.add_comm] at b
  exact Option.some.inj (a.symm.trans b)
theorem rowL_V (h : Tab n m sh W) {k i j : Nat} (hi : i ≤ n) (hj : j ≤ m) (hk : n - i < k) : rowL sh W n m k i j = some (rowV sh W n m i j) := by
  obtain ⟨L, h1, _, _⟩ := rowL_tells h k i j hi hj hk
  obtain ⟨L', h2, _, _⟩ := rowL_tells h (n + 1) i j hi hj (by omega)
  unfold rowV
  rw [h2, h1, rowL_same h1 h2]; rfl
theorem rowV_ok (h : Tab n m sh W) {i j : Nat} (hi : i ≤ n) (hj : j ≤ m) : RowOK n m sh i j (rowV sh W n m i j) ∧ total sh (rowV sh W n m i j) = V W i j := by
  obtain ⟨L', h2, h3, h4⟩ := rowL_tells h (n + 1) i j hi hj (by omega)
  unfold rowV
  rw [h2]
  exact ⟨h3, h4⟩
end
section
variable {n m : Nat} {sh sh' : Nat → Nat → Int} {W W' : Nat → Nat → Int × Int}
end
end BP
end Go.Proofs.Ytlbicmdfdpcdiaa.F
-- Printed by a program of this session's; Lean checks it.
set_option linter.unusedVariables false
set_option linter.unusedSimpArgs false
set_option maxRecDepth 100000
namespace Go.Proofs.Ytlbicmdfdpcdiaa.F
open Go.Proofs.Ytlbicmdfdpcdiaa.Vm Go.RowKit
abbrev PL : Type := List (Int × Int)
def endsV (l : List CuD) : PL := l.map fun x => (((thV x.1.1 x.1.2 : Nat) : Int), ((thV x.2.1.1 x.2.1.2 : Nat) : Int))
theorem ends_loop (l : List CuD) (hG : ∀ a ∈ l, GC a) (hd : docOK l) : ∀ (m i : Nat), i + m = l.length → TellsL (fun K k => itn (dual_Pairs_1.B11 K l) k ((i : Int), endsV (l.take i))) (endsV l)
  | 0, i, h => by
    obtain rfl : i = l.length := by omega
    rw [List.take_length]
    exact TellsL.step (g := fun _ _ => some (endsV l)) (fun K k => by rw [itn, dual_Pairs_1.B11, dual_Pairs_1.T11, lenI_eq, sel_neg (by dsimp only; omega)]) (TellsL.const _)
  | m + 1, i, h => by
    have hi : i < l.length := by omega
    have hl := hd.1
    obtain ⟨g0, g1, g2, g3⟩ := G_at hG hi
    have hc := (hd.2.1 i hi).1
    have h1 := thousandths_tells g0 g1 hc.1
    have h2 := thousandths_tells g2 g3 hc.2.1
    refine TellsL.step (g := fun K k => (dual_thousandths K ((l.getD i default).1.1, (l.getD i default).1.2)).bind fun t => (dual_thousandths K ((l.getD i default).2.1.1, (l.getD i default).2.1.2)).bind fun t2 => itn (dual_Pairs_1.B11 K l) k (((i + 1 : Nat) : Int), endsV (l.take i) ++ [(t, t2)])) (fun K k => ?_) (TellsL.bind h1 (TellsL.bind h2 ?_))
    · rw [itn, dual_Pairs_1.B11, dual_Pairs_1.T11]
      dsimp only
      rw [lenI_eq, sel_pos (by omega), sel_pos (by omega), sel_pos (by omega), lget_nat, wrap64_id (by unfold I64; omega)]
      have hap : ∀ (t : Int × Int) (u v : Option PL), sel (((endsV (l.take i)).length + ([t] : PL).length) * 16 ≤ 140737488355328) u v = u := fun t u v => sel_pos (by unfold endsV; rw [List.length_map, List.length_take, List.length_singleton]; omega)
      simp only [hap]
      rfl
    · have e : endsV (l.take i) ++ [(((thV (l.getD i default).1.1 (l.getD i default).1.2 : Nat) : Int), ((thV (l.getD i default).2.1.1 (l.getD i default).2.1.2 : Nat) : Int))] = endsV (l.take (i + 1)) := by
        rw [List.take_succ_eq_append_getElem hi]
        unfold endsV
        rw [List.map_append, List.getD_eq_getElem?_getD, List.getElem?_eq_getElem hi]
        rfl
      rw [e]
      exact ends_loop l hG hd m (i + 1) (by omega)
theorem ends_tells (l : List CuD) (hG : ∀ a ∈ l, GC a) (hd : docOK l) : Tells (fun k => dual_Pairs_1 k l) (endsV l) := TellsL.diag (ends_loop l hG hd l.length 0 (by omega))
def shS (x y : PL) (i j : Nat) : Int := wrap64 ((if (y.getD j default).2 < (x.getD i default).2 then (y.getD j default).2 else (x.getD i default).2) - (if (x.getD i default).1 < (y.getD j default).1 then (y.getD j default).1 else (x.getD i default).1))
theorem above_f (a b : Int × Int) (k : Nat) : dual_worth_above k (a, b) = some (BP.above a b) := by
  unfold dual_worth_above BP.above
  dsimp only
  rw [sel_eq, sel_eq]
  split
  · rename_i h; simp [h]
  · rename_i h
    split
    · rename_i h2; simp [h2]
    · rename_i h2; simp [h, h2]
section
variable {n m : Nat} (hn : n ≤ 4096) (hm : m ≤ 4096) (hnm : n * m ≤ 1048576) {a b : List CuD} (ha : a.length = n) (hb : b.length = m) {x y : PL} (hx : x.length = n) (hy : y.length = m)
theorem ix {i j : Nat} (hm : m ≤ 4096) (hb : b.length = m) (hi : i ≤ 4097) (hj : j ≤ 4097) : wrap64 (wrap64 ((i : Int) * wrap64 (lenI b + 1)) + (j : Int)) = ((i * (m + 1) + j : Nat) : Int) := by
  have h1 : i * (m + 1) ≤ 4097 * 4097 := Nat.mul_le_mul hi (by omega)
  rw [lenI_eq, hb, wrap64_id (a := (m : Int) + 1) (by unfold I64; omega), show (i : Int) * ((m : Int) + 1) = ((i * (m + 1) : Nat) : Int) by simp, wrap64_id (a := ((i * (m + 1) : Nat) : Int)) (by unfold I64; omega)]
  generalize i * (m + 1) = q at *
  rw [wrap64_id (by unfold I64; omega)]
  omega
theorem succ_w {i : Nat} (hi : i ≤ 5000) : wrap64 ((i : Int) + 1) = ((i + 1 : Nat) : Int) := by rw [wrap64_id (by unfold I64; omega)]; omega
theorem lget_tab {T : PL} (i j : Nat) : lget T ((i * (m + 1) + j : Nat) : Int) default = BP.tabAt m T i j := rfl
include hn hm ha hb hx hy in
theorem fillJ (K : Nat) (g : (Int × PL) → Option (PL × Option (Int × Int))) (i : Nat) (hi : i < n) (T0 : PL) (hT : T0.length = (n + 1) * (m + 1)) : ∀ (j k : Nat), j ≤ m → j < k →
    itn (dual_Pairs.B67 K ((i : Int), T0) (a, b) g x y) k ((j : Int) - 1, BP.tabJ m (shS x y) i T0 (m - j)) = g ((i : Int) - 1, BP.tabJ m (shS x y) i T0 m)
  | 0, k, hj, hk => by
    obtain ⟨k, rfl⟩ : ∃ q, k = q + 1 := ⟨k - 1, by omega⟩
    rw [itn, dual_Pairs.B67, dual_Pairs.T67, sel_neg (by dsimp only; omega)]
    dsimp only
    rw [wrap64_id (by unfold I64; omega)]
    rfl
  | j + 1, k, hj, hk => by
    obtain ⟨k, rfl⟩ : ∃ q, k = q + 1 := ⟨k - 1, by omega⟩
    have hlen := BP.tabJ_length m (shS x y) i T0 (m - (j + 1))
    have e1 : ((j + 1 : Nat) : Int) - 1 = (j : Int) := by omega
    have e2 : m - j = m - (j + 1) + 1 := by omega
    have ih := fillJ K g i hi T0 hT j k (by omega) (by omega)
    rw [e2, BP.tabJ, show m - 1 - (m - (j + 1)) = j by omega] at ih
    rw [← ih, e1]
    generalize BP.tabJ m (shS x y) i T0 (m - (j + 1)) = T at hlen ⊢
    have p1 := BP.place_lt (n := n) (m := m) (i := i + 1) (j := j) (by omega) (by omega)
    have p2 := BP.place_lt (n := n) (m := m) (i := i) (j := j + 1) (by omega) (by omega)
    have p3 := BP.place_lt (n := n) (m := m) (i := i + 1) (j := j + 1) (by omega) (by omega)
    have p4 := BP.place_lt (n := n) (m := m) (i := i) (j := j) (by omega) (by omega)
    rw [← hT, ← hlen] at p1 p2 p3 p4
    have j74 : ∀ w : Int × Int, dual_Pairs.J74 K ((i : Int), T0) (a, b) ((j : Int), T) (itn (dual_Pairs.B67 K ((i : Int), T0) (a, b) g x y) k) w = itn (dual_Pairs.B67 K ((i : Int), T0) (a, b) g x y) k ((j : Int) - 1, T.set (i * (m + 1) + j) w) := fun w => by
      unfold dual_Pairs.J74
      dsimp only
      rw [ix hm hb (by omega) (by omega), lenI_eq, sel_pos (by omega), sel_pos (by omega), wrap64_id (by unfold I64; omega)]
      rfl
    have j71 : ∀ w : Int × Int, dual_Pairs.J71 K ((i : Int), T0) x ((j : Int), T) y (a, b) (itn (dual_Pairs.B67 K ((i : Int), T0) (a, b) g x y) k) w = itn (dual_Pairs.B67 K ((i : Int), T0) (a, b) g x y) k ((j : Int) - 1, T.set (i * (m + 1) + j) (if shS x y i j > 0 then (if BP.above (BP.plus (BP.tabAt m T (i + 1) (j + 1)) (shS x y i j)) w = true then BP.plus (BP.tabAt m T (i + 1) (j + 1)) (shS x y i j) else w) else w)) := fun w => by
      unfold dual_Pairs.J71
      dsimp only
      rw [lenI_eq, lenI_eq, hx, hy]
      rw [sel_pos (by omega), sel_pos (by omega), sel_pos (by omega), sel_pos (by omega), sel_pos (by omega), sel_pos (by omega), sel_pos (by omega), sel_pos (by omega), lget_nat, lget_nat]
      rw [show wrap64 ((if (y.getD j default).2 < (x.getD i default).2 then (y.getD j default).2 else (x.getD i default).2) - (if (x.getD i default).1 < (y.getD j default).1 then (y.getD j default).1 else (x.getD i default).1)) = shS x y i j from rfl]
      unfold dual_Pairs.J77
      dsimp only
      by_cases hs : 0 < shS x y i j
      · rw [sel_pos hs, if_pos hs, succ_w (by omega), succ_w (by omega), ix hm hb (by omega) (by omega), lenI_eq, sel_pos (by omega), sel_pos (by omega), lget_tab, above_f, Option.bind_some]
        rw [show ((wrap64 ((BP.tabAt m T (i + 1) (j + 1)).1 + shS x y i j)), (wrap64 ((BP.tabAt m T (i + 1) (j + 1)).2 + 1))) = BP.plus (BP.tabAt m T (i + 1) (j + 1)) (shS x y i j) from rfl]
        cases hab : BP.above (BP.plus (BP.tabAt m T (i + 1) (j + 1)) (shS x y i j)) w
        · rw [sel_neg (by decide), if_neg (by decide)]; exact j74 w
        · rw [sel_pos rfl, if_pos rfl]; exact j74 _
      · rw [sel_neg hs, if_neg hs]; exact j74 w
    rw [itn, dual_Pairs.B67, dual_Pairs.T67]
    dsimp only
    rw [succ_w (i := i) (by omega), succ_w (i := j) (by omega), ix hm hb (by omega) (by omega), ix hm hb (by omega) (by omega), lenI_eq, sel_pos (by omega), sel_pos (by omega), sel_pos (by omega), sel_pos (by omega), sel_pos (by omega), lget_tab, lget_tab, above_f, Option.bind_some]
    unfold BP.cellV BP.cell
    dsimp only
    cases hab : BP.above (BP.tabAt m T i (j + 1)) (BP.tabAt m T (i + 1) j)
    · rw [sel_neg (by decide)]; exact j71 _
    · rw [sel_pos rfl]; exact j71 _
include hn hm ha hb hx hy in
theorem fillI (K : Nat) (hK : 5000 ≤ K) : ∀ (i k : Nat), i ≤ n → i < k → itn (dual_Pairs.B63 K (a, b) x y) k ((i : Int) - 1, BP.tabI n m (shS x y) (n - i)) = dual_Pairs.L145 K (a, b) (-1, BP.tabI n m (shS x y) n) x y (0, 0, [])
  | 0, k, hi, hk => by
    obtain ⟨k, rfl⟩ : ∃ q, k = q + 1 := ⟨k - 1, by omega⟩
    rw [itn, dual_Pairs.B63, dual_Pairs.T63, sel_neg (by dsimp only; omega)]
    rfl
  | i + 1, k, hi, hk => by
    obtain ⟨k, rfl⟩ : ∃ q, k = q + 1 := ⟨k - 1, by omega⟩
    rw [← fillI K hK i k (by omega) (by omega), show ((i + 1 : Nat) : Int) - 1 = (i : Int) by omega, show n - i = n - (i + 1) + 1 by omega, BP.tabI, show n - 1 - (n - (i + 1)) = i by omega]
    rw [itn, dual_Pairs.B63, dual_Pairs.T63, sel_pos (by dsimp only; omega)]
    unfold dual_Pairs.L67
    dsimp only
    rw [lenI_eq, hb, wrap64_id (by unfold I64; omega)]
    have := fillJ hn hm ha hb hx hy K (itn (dual_Pairs.B63 K (a, b) x y) k) i (by omega) (BP.tabI n m (shS x y) (n - (i + 1))) (BP.tabI_length ..) m K (Nat.le_refl _) (by omega)
    rw [Nat.sub_self] at this
    exact this
end
end Go.Proofs.Ytlbicmdfdpcdiaa.F
-- Printed by a program of this session's; Lean checks it.
set_option linter.unusedVariables false
set_option linter.unusedSimpArgs false
set_option maxRecDepth 100000
namespace Go.Proofs.Ytlbicmdfdpcdiaa.F
open Go.Proofs.Ytlbicmdfdpcdiaa.Vm Go.RowKit
def told (L : List (Nat × Nat)) : PL := L.map fun x => ((x.1 : Int), (x.2 : Int))
section
variable {n m : Nat} (hn : n ≤ 4096) (hm : m ≤ 4096) {a b : List CuD} (ha : a.length = n) (hb : b.length = m) {x y : PL} (hx : x.length = n) (hy : y.length = m) {T : PL} (hT : T.length = (n + 1) * (m + 1)) (z : Int)
abbrev RES : Type := PL × Option (Int × Int)
include hn hm hb hx hy hT in
theorem rowQ (K : Nat) (g149 : Int → Option RES) (g145 : (Int × Int × PL) → Option RES) (i j : Nat) (hi : i ≤ n) (hj : j ≤ m) (out : PL) (ho : out.length ≤ 4096) (p : Nat) (hp : p < n) : ∀ (r q k : Nat), q + r = m → r < k →
    itn (dual_Pairs.B153 K (a, b) (p : Int) (z, T) x y g149 ((i : Int), (j : Int), out) g145) k (q : Int) = match BP.findQ (shS x y) (BP.tabAt m T) (BP.tabAt m T i j) p r q with
      | some q' => g145 (((p + 1 : Nat) : Int), ((q' + 1 : Nat) : Int), out ++ [((p : Int), (q' : Int))])
      | none => g149 ((p + 1 : Nat) : Int)
  | 0, q, k, h, hk => by
    obtain ⟨k, rfl⟩ : ∃ t, k = t + 1 := ⟨k - 1, by omega⟩
    rw [itn, dual_Pairs.B153, dual_Pairs.T153]
    dsimp only
    rw [lenI_eq, hb, sel_neg (by omega), succ_w (by omega)]
    rfl
  | r + 1, q, k, h, hk => by
    obtain ⟨k, rfl⟩ : ∃ t, k = t + 1 := ⟨k - 1, by omega⟩
    have ih := rowQ K g149 g145 i j hi hj out ho p hp r (q + 1) k (by omega) (by omega)
    have p3 := BP.place_lt (n := n) (m := m) (i := p + 1) (j := q + 1) (by omega) (by omega)
    rw [← hT] at p3
    rw [itn, dual_Pairs.B153, dual_Pairs.T153]
    dsimp only
    rw [succ_w (i := p) (by omega), succ_w (i := q) (by omega), ix hm hb (by omega) (by omega), lenI_eq, lenI_eq, lenI_eq, lenI_eq, hb, hx, hy]
    rw [sel_pos (by omega), sel_pos (by omega), sel_pos (by omega), sel_pos (by omega), sel_pos (by omega), sel_pos (by omega), sel_pos (by omega), sel_pos (by omega), sel_pos (by omega), sel_pos (by omega), sel_pos (by omega), lget_nat, lget_nat]
    rw [show wrap64 ((if (y.getD q default).2 < (x.getD p default).2 then (y.getD q default).2 else (x.getD p default).2) - (if (x.getD p default).1 < (y.getD q default).1 then (y.getD q default).1 else (x.getD p default).1)) = shS x y p q from rfl]
    unfold dual_Pairs.J159
    dsimp only
    rw [succ_w (i := p) (by omega), succ_w (i := q) (by omega), ix hm hb (by omega) (by omega), ix hm hb (by omega) (by omega), lget_tab, lget_tab]
    unfold BP.findQ BP.hit
    by_cases hs : 0 < shS x y p q
    · rw [sel_pos hs, decide_eq_true hs, Bool.true_and]
      by_cases he : BP.plus (BP.tabAt m T (p + 1) (q + 1)) (shS x y p q) = BP.tabAt m T i j
      · rw [sel_pos, sel_pos (by rw [List.length_singleton]; omega), if_pos (decide_eq_true he)]
        have h1 := congrArg Prod.fst he
        have h2 := congrArg Prod.snd he
        unfold BP.plus at h1 h2
        dsimp only at h1 h2
        rw [h1, h2]
        simp
      · rw [sel_neg, if_neg (by simpa using he)]
        · exact ih
        · intro h'
          simp only [Bool.and_eq_true, beq_iff_eq] at h'
          exact he (Prod.ext h'.1 h'.2)
    · rw [sel_neg hs, decide_eq_false hs, Bool.false_and, if_neg (by decide)]
      exact ih
include hn hm ha hb hx hy hT in
theorem rowP (K : Nat) (hK : 5000 ≤ K) (g145 : (Int × Int × PL) → Option RES) (i j : Nat) (hi : i ≤ n) (hj : j ≤ m) (out : PL) (ho : out.length ≤ 4096) : ∀ (r p k : Nat), p + r = n → r < k →
    itn (dual_Pairs.B149 K (a, b) ((i : Int), (j : Int), out) g145 x y (z, T)) k (p : Int) = match BP.findP (shS x y) (BP.tabAt m T) m (BP.tabAt m T i j) j r p with
      | some pq => g145 (((pq.1 + 1 : Nat) : Int), ((pq.2 + 1 : Nat) : Int), out ++ [((pq.1 : Int), (pq.2 : Int))])
      | none => g145 ((i : Int), (j : Int), out)
  | 0, p, k, h, hk => by
    obtain ⟨k, rfl⟩ : ∃ t, k = t + 1 := ⟨k - 1, by omega⟩
    rw [itn, dual_Pairs.B149, dual_Pairs.T149]
    dsimp only
    rw [lenI_eq, ha, sel_neg (by omega)]
    rfl
  | r + 1, p, k, h, hk => by
    obtain ⟨k, rfl⟩ : ∃ t, k = t + 1 := ⟨k - 1, by omega⟩
    have ih := rowP K hK g145 i j hi hj out ho r (p + 1) k (by omega) (by omega)
    rw [itn, dual_Pairs.B149, dual_Pairs.T149]
    dsimp only
    rw [lenI_eq, ha, sel_pos (by omega), dual_Pairs.L153, rowQ hn hm hb hx hy hT z K _ g145 i j hi hj out ho p (by omega) (m - j) j K (by omega) (by omega)]
    unfold BP.findP
    cases BP.findQ (shS x y) (BP.tabAt m T) (BP.tabAt m T i j) p (m - j) j with
    | none => exact ih
    | some q => rfl
include hn hm ha hb hx hy hT in
theorem rowLoop (K : Nat) (hK : 5000 ≤ K) : ∀ (kk i j : Nat) (L : List (Nat × Nat)) (out : PL) (k : Nat), BP.rowL (shS x y) (BP.tabAt m T) n m kk i j = some L → i ≤ n → j ≤ m → out.length ≤ i → kk ≤ k →
    (∀ p q, i ≤ p → p < n → q < m → True) →
    itn (dual_Pairs.B145 K (a, b) (z, T) x y) k ((i : Int), (j : Int), out) = some (out ++ told L, none)
  | 0, i, j, L, out, k, h, _, _, _, _, _ => by simp [BP.rowL] at h
  | kk + 1, i, j, L, out, k, h, hi, hj, ho, hk, _ => by
    obtain ⟨k, rfl⟩ : ∃ t, k = t + 1 := ⟨k - 1, by omega⟩
    have p3 := BP.place_lt (n := n) (m := m) (i := i) (j := j) hi hj
    rw [← hT] at p3
    rw [BP.rowL] at h
    rw [itn, dual_Pairs.B145, dual_Pairs.T145]
    unfold dual_Pairs.J146
    dsimp only
    rw [ix hm hb (by omega) (by omega), lenI_eq, sel_pos (by omega), sel_pos (by omega), lget_tab]
    by_cases c : BP.tabAt m T i j = (0, 0)
    · rw [if_pos c] at h
      obtain rfl := Option.some.inj h
      rw [c, sel_neg (by decide)]
      simp [told]
    · rw [if_neg c] at h
      rw [sel_pos, sel_pos (by omega), sel_pos (by omega), dual_Pairs.L149, rowP hn hm ha hb hx hy hT z K hK _ i j hi hj out (by omega) (n - i) i K (by omega) (by omega)]
      · cases e : BP.findP (shS x y) (BP.tabAt m T) m (BP.tabAt m T i j) j (n - i) i with
        | none => rw [e] at h; simp at h
        | some pq =>
          rw [e] at h
          obtain ⟨L', h1, rfl⟩ := Option.map_eq_some_iff.1 h
          obtain ⟨b1, b2, b3, b4, _, _, _⟩ := BP.findP_some hj e
          dsimp only
          rw [rowLoop K hK kk (pq.1 + 1) (pq.2 + 1) L' (out ++ [((pq.1 : Int), (pq.2 : Int))]) k h1 (by omega) (by omega) (by rw [List.length_append, List.length_singleton]; omega) (by omega) (fun _ _ _ _ _ => trivial)]
          simp [told]
      · have : ¬ ((BP.tabAt m T i j).1 = 0 ∧ (BP.tabAt m T i j).2 = 0) := fun h' => c (Prod.ext h'.1 h'.2)
        simp only [Bool.not_eq_true', Bool.and_eq_false_iff, beq_eq_false_iff_ne]
        omega
end
def shV (a b : List CuD) (i j : Nat) : Int := shS (endsV a) (endsV b) i j
def shC (x y : CuD) : Int := min ((thV x.2.1.1 x.2.1.2 : Nat) : Int) ((thV y.2.1.1 y.2.1.2 : Nat) : Int) - max ((thV x.1.1 x.1.2 : Nat) : Int) ((thV y.1.1 y.1.2 : Nat) : Int)
theorem shC_le {x y : CuD} (hx : cueOK0 x) (hy : cueOK0 y) : shC x y ≤ 400000000 ∧ -400000000 ≤ shC x y := by
  have a1 := thV_le hx.1
  have a2 := thV_le hx.2.1
  have b1 := thV_le hy.1
  have b2 := thV_le hy.2.1
  unfold shC
  omega
theorem endsV_at {l : List CuD} {i : Nat} (hi : i < l.length) : (endsV l).getD i default = (((thV (l.getD i default).1.1 (l.getD i default).1.2 : Nat) : Int), ((thV (l.getD i default).2.1.1 (l.getD i default).2.1.2 : Nat) : Int)) := by
  unfold endsV; rw [List.getD_eq_getElem?_getD, List.getElem?_map, List.getD_eq_getElem?_getD, List.getElem?_eq_getElem hi]; rfl
theorem shV_eq {a b : List CuD} (ha : docOK a) (hb : docOK b) {i j : Nat} (hi : i < a.length) (hj : j < b.length) : shV a b i j = shC (a.getD i default) (b.getD j default) := by
  have hl := shC_le (ha.2.1 i hi).1 (hb.2.1 j hj).1
  unfold shV shS
  rw [endsV_at hi, endsV_at hj]
  unfold shC at *
  dsimp only
  rw [wrap64_id (by unfold I64; split <;> split <;> omega)]
  split <;> split <;> omega
def WV (a b : List CuD) : Nat → Nat → Int × Int := BP.tabAt b.length (BP.tabI a.length b.length (shV a b) a.length)
theorem tabV {a b : List CuD} (ha : docOK a) (hb : docOK b) : BP.Tab a.length b.length (shV a b) (WV a b) :=
  BP.tab_of ha.1 (fun i j hi hj => by rw [shV_eq ha hb hi hj]; exact (shC_le (ha.2.1 i hi).1 (hb.2.1 j hj).1).1)
def rowsV (a b : List CuD) : List (Nat × Nat) := BP.rowV (shV a b) (WV a b) a.length b.length 0 0
theorem rowsV_ok {a b : List CuD} (ha : docOK a) (hb : docOK b) : BP.RowOK a.length b.length (shV a b) 0 0 (rowsV a b) ∧ BP.total (shV a b) (rowsV a b) = BP.V (WV a b) 0 0 :=
  BP.rowV_ok (tabV ha hb) (Nat.zero_le _) (Nat.zero_le _)
theorem mul_len {a b : List CuD} (ha : docOK a) (hb : docOK b) : wrap64 (lenI a * lenI b) = ((a.length * b.length : Nat) : Int) := by
  have h1 := ha.1
  have h2 := hb.1
  have := Nat.mul_le_mul h1 h2
  rw [lenI_eq, lenI_eq, ← Int.natCast_mul]
  exact wrap64_id (by unfold I64; omega)
theorem len2 (a b : List CuD) : lenI ([a, b] : List (List CuD)) = 2 := by rw [lenI_eq]; rfl
theorem pairs_s0 (a b : List CuD) (K k : Nat) : itn (dual_Pairs.B11 K 2 (a, b)) (k + 1) 0 = (cue_CheckDoc K a).bind fun t => opt t (itn (dual_Pairs.B11 K 2 (a, b)) k 1) fun u => some ([], some u) := by
  rw [itn, dual_Pairs.B11, dual_Pairs.T11]
  dsimp only
  rw [len2, sel_pos (by decide), sel_pos (by decide), sel_pos (by decide), wrap64_id (a := 0 + 1) (by unfold I64; omega)]
  rfl
theorem pairs_s1 (a b : List CuD) (K k : Nat) : itn (dual_Pairs.B11 K 2 (a, b)) (k + 1) 1 = (cue_CheckDoc K b).bind fun t => opt t (itn (dual_Pairs.B11 K 2 (a, b)) k 2) fun u => some ([], some u) := by
  rw [itn, dual_Pairs.B11, dual_Pairs.T11]
  dsimp only
  rw [len2, sel_pos (by decide), sel_pos (by decide), sel_pos (by decide), wrap64_id (a := 1 + 1) (by unfold I64; omega)]
  rfl
theorem pairs_up (a b : List CuD) : ∀ {r : RES}, TellsL (fun K m => itn (dual_Pairs.B11 K 2 (a, b)) m 0) r → Tells (fun k => dual_Pairs k (a, b)) r := fun h => by
  refine Tells.same (fun k => ?_) (TellsL.diag h)
  unfold dual_Pairs dual_Pairs.M dual_Pairs.J2 dual_Pairs.L11
  dsimp only
  rw [len2]
theorem lrep_nat {α : Type} (N : Nat) (x : α) : lrep ((N : Nat) : Int) x = List.replicate N x := by unfold lrep; rw [Int.toNat_natCast]
theorem bindc {α β : Type} {o : Option α} {f g : α → Option β} (h : ∀ x, f x = g x) : o.bind f = o.bind g := by rw [show f = g from funext h]
theorem pairs_tells {a b : List CuD} (hGa : ∀ x ∈ a, GC x) (hGb : ∀ x ∈ b, GC x) (ha : docOK a) (hb : docOK b) (hmn : a.length * b.length ≤ 1048576) : Tells (fun k => dual_Pairs k (a, b)) (told (rowsV a b), none) := by
  obtain ⟨r1, q1, p1⟩ := checkDoc_tells a hGa
  obtain rfl := p1.2 ha
  obtain ⟨r2, q2, p2⟩ := checkDoc_tells b hGb
  obtain rfl := p2.2 hb
  have hm := mul_len ha hb
  have hna := ha.1
  have hnb := hb.1
  have lx : (endsV a).length = a.length := by unfold endsV; rw [List.length_map]
  have ly : (endsV b).length = b.length := by unfold endsV; rw [List.length_map]
  refine pairs_up a b (TellsL.step (pairs_s0 a b) (TellsL.bind q1 (TellsL.step (pairs_s1 a b) (TellsL.bind q2 ?_))))
  have hN1 : (a.length + 1) * (b.length + 1) = a.length * b.length + a.length + b.length + 1 := by rw [Nat.succ_mul, Nat.mul_succ]; omega
  have e1 : wrap64 (wrap64 (lenI a + 1) * wrap64 (lenI b + 1)) = (((a.length + 1) * (b.length + 1) : Nat) : Int) := by
    rw [lenI_eq, lenI_eq, succ_w (by omega), succ_w (by omega), ← Int.natCast_mul, wrap64_id (by unfold I64; omega)]
  have key : ∀ K k, 5000 ≤ K → itn (dual_Pairs.B11 K 2 (a, b)) (k + 1) 2 = (dual_Pairs_1 K a).bind fun t2 => (dual_Pairs_1 K b).bind fun t3 => dual_Pairs.L63 K (a, b) t2 t3 ((a.length : Int) - 1, List.replicate ((a.length + 1) * (b.length + 1)) (0, 0)) := fun K k hK => by
    rw [itn, dual_Pairs.B11, dual_Pairs.T11]
    dsimp only
    rw [sel_neg (by decide), hm, sel_neg (by omega), e1]
    unfold dual_Pairs.J25
    refine bindc fun t2 => bindc fun t3 => ?_
    dsimp only
    rw [sel_pos (by omega), sel_pos (by omega), sel_neg (by omega), sel_pos rfl, lenI_eq, wrap64_id (by unfold I64; omega)]
    rw [lrep_nat]
  have st : ∀ {g : Nat → Nat → Option RES} {r : RES}, (∀ K k, 5000 ≤ K → itn (dual_Pairs.B11 K 2 (a, b)) (k + 1) 2 = g K k) → TellsL g r → TellsL (fun K k => itn (dual_Pairs.B11 K 2 (a, b)) k 2) r := by
    rintro g r he ⟨q, hq⟩
    refine ⟨q + 5000, fun K k hK hk => ?_⟩
    obtain ⟨t, rfl⟩ : ∃ t, k = t + 1 := ⟨k - 1, by omega⟩
    show itn (dual_Pairs.B11 K 2 (a, b)) (t + 1) 2 = some r
    rw [he K t (by omega)]; exact hq K t (by omega) (by omega)
  refine st key (TellsL.bind (ends_tells a hGa ha) (TellsL.bind (ends_tells b hGb hb) ⟨5000, fun K k hK _ => ?_⟩))
  dsimp only
  unfold dual_Pairs.L63
  have h1 := fillI hna hnb rfl rfl lx ly K hK a.length K (Nat.le_refl _) (by omega)
  rw [Nat.sub_self, BP.tabI] at h1
  rw [h1]
  unfold dual_Pairs.L145
  have hT := BP.tabI_length a.length b.length (shS (endsV a) (endsV b)) a.length
  have := rowLoop hna hnb rfl rfl lx ly hT (-1) K hK (a.length + 1) 0 0 (rowsV a b) [] K (BP.rowL_V (tabV ha hb) (Nat.zero_le _) (Nat.zero_le _) (by omega)) (Nat.zero_le _) (Nat.zero_le _) (Nat.le_refl _) (by omega) (fun _ _ _ _ _ => trivial)
  rw [List.nil_append] at this
  exact this
theorem pairs_refused {a b : List CuD} (hGa : ∀ x ∈ a, GC x) (hGb : ∀ x ∈ b, GC x) (h : ¬ (docOK a ∧ docOK b ∧ a.length * b.length ≤ 1048576)) : ∃ e, Tells (fun k => dual_Pairs k (a, b)) ([], some e) := by
  obtain ⟨r1, q1, p1⟩ := checkDoc_tells a hGa
  obtain ⟨r2, q2, p2⟩ := checkDoc_tells b hGb
  by_cases ha : docOK a
  case neg =>
    cases r1 with
    | none => exact absurd (p1.1 rfl) ha
    | some e => exact ⟨e, pairs_up a b (TellsL.step (pairs_s0 a b) (TellsL.bind q1 (TellsL.const _)))⟩
  obtain rfl := p1.2 ha
  by_cases hb : docOK b
  case neg =>
    cases r2 with
    | none => exact absurd (p2.1 rfl) hb
    | some e => exact ⟨e, pairs_up a b (TellsL.step (pairs_s0 a b) (TellsL.bind q1 (TellsL.step (pairs_s1 a b) (TellsL.bind q2 (TellsL.const _)))))⟩
  obtain rfl := p2.2 hb
  have hm := mul_len ha hb
  have hn : ¬ a.length * b.length ≤ 1048576 := fun e => h ⟨ha, hb, e⟩
  refine ⟨(0, 2), pairs_up a b (TellsL.step (pairs_s0 a b) (TellsL.bind q1 (TellsL.step (pairs_s1 a b) (TellsL.bind q2 ?_))))⟩
  refine TellsL.step (g := fun _ _ => some ([], some (0, 2))) (fun K k => ?_) (TellsL.const _)
  show itn (dual_Pairs.B11 K 2 (a, b)) (k + 1) 2 = _
  rw [itn, dual_Pairs.B11, dual_Pairs.T11]
  dsimp only
  rw [sel_neg (by decide), hm, sel_pos (by omega)]
end Go.Proofs.Ytlbicmdfdpcdiaa.F
-- Printed by a program of this session's; Lean checks it.
set_option linter.unusedVariables false
set_option linter.unusedSimpArgs false
set_option maxRecDepth 100000
namespace Go.Proofs.Ytlbicmdfdpcdiaa.F
open Go.Proofs.Ytlbicmdfdpcdiaa.Vm Go.RowKit
theorem told_at (L : List (Nat × Nat)) (i : Nat) (hi : i < L.length) : lget (told L) (i : Int) default = (((L[i]).1 : Int), ((L[i]).2 : Int)) := by
  show (told L).getD i default = _
  unfold told
  rw [List.getD_eq_getElem?_getD, List.getElem?_map, List.getElem?_eq_getElem hi]
  rfl
theorem told_len (L : List (Nat × Nat)) : (told L).length = L.length := by unfold told; rw [List.length_map]
theorem told_lenI (L : List (Nat × Nat)) : lenI (told L) = (L.length : Int) := by rw [lenI_eq, told_len]
namespace BP
theorem RowOK.mem {n m : Nat} {sh : Nat → Nat → Int} : ∀ {L : List (Nat × Nat)} {i j : Nat}, RowOK n m sh i j L → ∀ x ∈ L, x.1 < n ∧ x.2 < m ∧ 0 < sh x.1 x.2
  | [], _, _, _, x, hx => by simp at hx
  | y :: L, i, j, ⟨a1, a2, a3, a4, a5, a6⟩, x, hx => by
    rcases List.mem_cons.1 hx with rfl | hx
    · exact ⟨a2, a4, a5⟩
    · exact RowOK.mem a6 x hx
theorem RowOK.len {n m : Nat} {sh : Nat → Nat → Int} : ∀ {L : List (Nat × Nat)} {i j : Nat}, RowOK n m sh i j L → i ≤ n → j ≤ m → L.length + i ≤ n ∧ L.length + j ≤ m
  | [], i, j, _, hi, hj => by simp; omega
  | y :: L, i, j, ⟨a1, a2, a3, a4, a5, a6⟩, hi, hj => by
    have := RowOK.len a6 (by omega) (by omega)
    rw [List.length_cons]; omega
end BP
end Go.Proofs.Ytlbicmdfdpcdiaa.F
-- Printed by a program of this session's; Lean checks it.
set_option linter.unusedVariables false
set_option linter.unusedSimpArgs false
set_option maxRecDepth 100000
namespace Go.Proofs.Ytlbicmdfdpcdiaa.F
open Go.Proofs.Ytlbicmdfdpcdiaa.Vm Go.RowKit
def hcue (n d l : Int) : CuD := ((n, 1), ((d, 1), (0, (l, ((⟨#[]⟩ : ByteArray), ((⟨#[]⟩ : ByteArray), ([] : List (Int × (Int × (Int × Int))))))))))
open PDa.SK (isort isort_perm isort_length cmpZ_lt cmpZ_eq cmpZ)
def hA : List CuD := [hcue 0 2 0, hcue 2 4 0]
def hB : List CuD := [hcue 0 1 0, hcue 1 4 0]
theorem head_a (k : Nat) : surtitlelaw19_cues (k + 8) ([0, 2, 2, 4] : List Int) = some hA := by kernel_rfl
theorem head_b (k : Nat) : surtitlelaw19_cues (k + 8) ([0, 1, 1, 4] : List Int) = some hB := by kernel_rfl
theorem head_p (k : Nat) : dual_Pairs (k + 80) (hA, hB) = some (([(0, 0), (1, 1)] : List (Int × Int)), none) := by kernel_rfl
def hS : List CuD := [hcue 0 2 0, hcue 2 4 0, hcue 0 2 1, hcue 2 4 1]
def hT : List CuD := [hcue 0 2 0, hcue 0 2 1, hcue 2 4 0, hcue 2 4 1]
theorem head_tw (k : Nat) : cue_twin (k + 80) hS = some hS := by kernel_rfl
theorem head_cmp (k : Nat) : hS.map (fun x => hS.map fun y => cue_Compare (k + 80) (x, y)) = hS.map fun x => hS.map fun y => some (cmpCue x y) := by kernel_rfl
theorem head_is : isort ltCue hS = hT := by kernel_rfl
theorem head_so (k : Nat) : sort_cues (k + 80) hS = some hT := by
  unfold sort_cues
  rw [if_pos, head_is]
  refine ⟨fun x hx => ?_, by decide⟩
  have hp : 0 < x.1.2 ∧ 0 < x.2.1.2 := by
    simp only [hS, List.mem_cons, List.not_mem_nil, or_false] at hx
    rcases hx with rfl | rfl | rfl | rfl <;> decide
  refine ⟨hp.1, hp.2, fun y hy => ?_⟩
  have h1 := List.map_inj_left.1 (head_cmp k) x hx
  exact List.map_inj_left.1 h1 y hy
theorem head_st (k : Nat) : cue_Sort (k + 80) hS = some hT := by
  unfold cue_Sort
  rw [head_tw, Option.bind_some, head_so, Option.bind_some]
theorem head_mg (k : Nat) : dual_Merge (k + 80) (hA, hB) = (cue_Sort (k + 80) hS).bind fun t => some (t, none) := by kernel_rfl
theorem head_sp (k : Nat) : surtitlelaw19_SamePairs (k + 80) ([(0, 0), (1, 1)], [(0, 0), (1, 1)]) = some true := by kernel_rfl
theorem head_e (k : Nat) : surtitlelaw19_head (k + 80) () = some true := by
  unfold surtitlelaw19_head
  rw [head_a (k + 72), Option.bind_some, head_b (k + 72), Option.bind_some, head_p, Option.bind_some, head_mg, head_st, Option.bind_some, Option.bind_some]
  show (surtitlelaw19_SamePairs (k + 80) ([(0, 0), (1, 1)], [(0, 0), (1, 1)])).bind _ = _
  rw [head_sp, Option.bind_some]
  kernel_rfl
theorem head_tells : Tells (fun k => surtitlelaw19_head k ()) true := ⟨80, fun k hk => by
  obtain ⟨t, rfl⟩ : ∃ t, k = t + 80 := ⟨k - 80, by omega⟩
  exact head_e t⟩
theorem gc_good {x : CuD} (h : CueTy.Good x) : GC x := by
  obtain ⟨⟨h1, h2⟩, ⟨h3, h4⟩, _⟩ := h
  exact ⟨I64.of_wf h1, I64.of_wf h2, I64.of_wf h3, I64.of_wf h4⟩
theorem gc_list {t : TypeId} {l : List CuD} (h : Ty.Good (.sl t CueTy) l) : ∀ x ∈ l, GC x := fun x hx => gc_good (h.2 x hx)
end Go.Proofs.Ytlbicmdfdpcdiaa.F
-- Printed by a program of this session's; Lean checks it.
set_option linter.unusedVariables false
set_option linter.unusedSimpArgs false
set_option maxRecDepth 100000
namespace Go.Proofs.Ytlbicmdfdpcdiaa.F
open Go.Proofs.Ytlbicmdfdpcdiaa.Vm Go.RowKit
section
open PDa.SK (SWO isort insR srt mg isort_snoc insR_mg isort_srt isort_perm isort_length isort_map list_snoc_ind)
variable {α : Type} {lt : α → α → Bool}
def Stab (lt : α → α → Bool) (sd : α → Int) (L : List α) : Prop := L.Pairwise fun x y => lt y x = false ∧ (lt x y = false → sd x ≤ sd y)
theorem insR_cons (x y : α) (A : List α) : insR lt x (y :: A) = if lt x y = true then x :: y :: A else y :: insR lt x A := rfl
theorem mem_insR {x y : α} : ∀ {A : List α}, y ∈ insR lt x A ↔ y = x ∨ y ∈ A
  | [] => by simp [insR]
  | z :: A => by
    unfold insR
    split
    · simp
    · rw [List.mem_cons, mem_insR, List.mem_cons]
      constructor
      · rintro (h | h | h)
        · exact .inr (.inl h)
        · exact .inl h
        · exact .inr (.inr h)
      · rintro (h | h | h)
        · exact .inr (.inl h)
        · exact .inl h
        · exact .inr (.inr h)
theorem insR_end {x : α} : ∀ {A : List α}, (∀ a ∈ A, lt x a = false) → insR lt x A = A ++ [x]
  | [], _ => rfl
  | y :: A, h => by
    rw [insR, if_neg (by rw [h y (by simp)]; decide), insR_end (fun a ha => h a (List.mem_cons_of_mem _ ha))]
    rfl
theorem isort_of_srt' : ∀ L : List α, srt lt L → isort lt L = L :=
  list_snoc_ind (fun _ => rfl) fun L x ih h => by
    unfold srt at h
    rw [List.pairwise_append] at h
    rw [isort_snoc, ← insR_mg, ih h.1, insR_end (fun a ha => h.2.2 a ha x (by simp))]
theorem lt_le_lt (H : SWO lt) {x y z : α} (h : lt x y = true) (h2 : lt z y = false) : lt x z = true := by
  cases h3 : lt x z with
  | true => rfl
  | false => have := H.trans _ _ _ h2 h3; rw [h] at this; cases this
theorem stab_ins (H : SWO lt) {sd : α → Int} {x : α} : ∀ {A : List α}, Stab lt sd A → (∀ a ∈ A, sd a ≤ sd x) → Stab lt sd (insR lt x A)
  | [], _, _ => by simp [insR, Stab]
  | y :: A, h, hs => by
    unfold insR
    have h' := List.pairwise_cons.1 h
    split
    · rename_i hx
      refine List.pairwise_cons.2 ⟨fun z hz => ?_, h⟩
      have : lt x z = true := by
        rcases List.mem_cons.1 hz with rfl | hz
        · exact hx
        · exact lt_le_lt H hx (h'.1 z hz).1
      exact ⟨H.asym _ _ this, fun e => by rw [this] at e; cases e⟩
    · rename_i hx
      refine List.pairwise_cons.2 ⟨fun z hz => ?_, stab_ins H h'.2 (fun a ha => hs a (List.mem_cons_of_mem _ ha))⟩
      rcases mem_insR.1 hz with rfl | hz
      · exact ⟨by simpa using hx, fun _ => hs y (by simp)⟩
      · exact h'.1 z hz
theorem stab_isort (H : SWO lt) (sd : α → Int) : ∀ L : List α, L.Pairwise (fun x y => sd x ≤ sd y) → Stab lt sd (isort lt L) :=
  list_snoc_ind (fun _ => by simp [Stab]) fun L x ih h => by
    rw [List.pairwise_append] at h
    rw [isort_snoc, ← insR_mg]
    exact stab_ins H (ih h.1) (fun a ha => h.2.2 a ((isort_perm L).mem_iff.1 ha) x (by simp))
theorem filter_ins (H : SWO lt) (p : α → Bool) {x : α} : ∀ {A : List α}, srt lt A → (insR lt x A).filter p = if p x = true then insR lt x (A.filter p) else A.filter p
  | [], _ => by
    cases h : p x <;> simp [insR, h]
  | y :: A, h => by
    have h' := List.pairwise_cons.1 h
    rw [insR_cons]
    split
    · rename_i hx
      rw [List.filter_cons]
      split
      · cases hy : p y with
        | true => rw [List.filter_cons, if_pos hy, insR_cons, if_pos hx]
        | false =>
          rw [List.filter_cons, if_neg (by rw [hy]; decide)]
          cases hf : A.filter p with
          | nil => rfl
          | cons z B =>
            have hz : z ∈ A := (List.mem_filter.1 (show z ∈ A.filter p by rw [hf]; simp)).1
            rw [insR_cons, if_pos (lt_le_lt H hx (h'.1 z hz))]
      · rfl
    · rename_i hx
      have ih := filter_ins H p (x := x) h'.2
      rw [List.filter_cons, ih, List.filter_cons]
      cases hy : p y with
      | true =>
        rw [if_pos rfl, if_pos rfl]
        split
        · rw [insR_cons, if_neg hx]
        · rfl
      | false => rw [if_neg (show ¬ false = true by decide), if_neg (show ¬ false = true by decide)]
theorem filter_isort (H : SWO lt) (p : α → Bool) : ∀ L : List α, (isort lt L).filter p = isort lt (L.filter p) :=
  list_snoc_ind rfl fun L x ih => by
    rw [isort_snoc, ← insR_mg, filter_ins H p (isort_srt H L), ih, List.filter_append]
    cases h : p x with
    | true => rw [if_pos rfl, List.filter_cons, if_pos h, List.filter_nil, isort_snoc, ← insR_mg]
    | false => rw [if_neg (by decide), List.filter_cons, if_neg (by rw [h]; decide), List.filter_nil, List.append_nil]
end
section
open PDa.SK (SWO isort insR srt mg isort_snoc insR_mg isort_srt isort_perm isort_length isort_map list_snoc_ind)
def PosC (x : CuD) : Prop := 0 < x.1.2 ∧ 0 < x.2.1.2
theorem swoC : SWO (fun x y : {x : CuD // PosC x} => ltCue x.1 y.1) := ltCue_swo (fun x : {x : CuD // PosC x} => x.1) (fun x => x.2)
theorem lift_pos {L : List CuD} (h : ∀ x ∈ L, PosC x) : ∃ M : List {x : CuD // PosC x}, L = M.map (·.1) := ⟨L.pmap Subtype.mk h, by rw [List.map_pmap]; simp⟩
theorem isort_lift (M : List {x : CuD // PosC x}) : isort ltCue (M.map (·.1)) = (isort (fun x y : {x : CuD // PosC x} => ltCue x.1 y.1) M).map (·.1) := isort_map (lt := fun x y : {x : CuD // PosC x} => ltCue x.1 y.1) (lt' := ltCue) (fun x => x.1) (fun _ _ => rfl) M
theorem isortC_stab {L : List CuD} (h : ∀ x ∈ L, PosC x) (hs : L.Pairwise fun x y => x.2.2.2.1 ≤ y.2.2.2.1) : Stab ltCue (fun x => x.2.2.2.1) (isort ltCue L) := by
  obtain ⟨M, rfl⟩ := lift_pos h
  rw [isort_lift]
  unfold Stab
  rw [List.pairwise_map] at hs ⊢
  exact stab_isort swoC (fun x => x.1.2.2.2.1) M hs
theorem isortC_filter {L : List CuD} (h : ∀ x ∈ L, PosC x) (p : CuD → Bool) : (isort ltCue L).filter p = isort ltCue (L.filter p) := by
  obtain ⟨M, rfl⟩ := lift_pos h
  rw [isort_lift, List.filter_map, filter_isort swoC, List.filter_map, isort_lift]
theorem isortC_id {L : List CuD} (h : ∀ x ∈ L, PosC x) (hs : L.Pairwise fun x y => ltCue y x = false) : isort ltCue L = L := isort_of_srt' L hs
theorem mem_isortC {L : List CuD} {x : CuD} : x ∈ isort ltCue L ↔ x ∈ L := (isort_perm L).mem_iff
theorem srt_of_adj {L : List CuD} (h : ∀ x ∈ L, PosC x) (hs : ∀ i, (hi : i + 1 < L.length) → ltCue L[i + 1] L[i] = false) : L.Pairwise fun x y => ltCue y x = false := by
  induction L with
  | nil => exact List.Pairwise.nil
  | cons x L ih =>
    have ih' := ih (fun y hy => h y (List.mem_cons_of_mem _ hy)) (fun i hi => hs (i + 1) (by simp; omega))
    refine List.pairwise_cons.2 ⟨fun z hz => ?_, ih'⟩
    cases L with
    | nil => cases hz
    | cons y L =>
      have h0 := hs 0 (by simp)
      rcases List.mem_cons.1 hz with rfl | hz'
      · exact h0
      · have h1 := (List.pairwise_cons.1 ih').1 z hz'
        exact swoC.trans ⟨x, h x (by simp)⟩ ⟨y, h y (by simp)⟩ ⟨z, h z (by simp [hz'])⟩ h0 h1
end
end Go.Proofs.Ytlbicmdfdpcdiaa.F
-- Printed by a program of this session's; Lean checks it.
set_option linter.unusedVariables false
set_option linter.unusedSimpArgs false
set_option maxRecDepth 100000
namespace Go.Proofs.Ytlbicmdfdpcdiaa.F
open Go.Proofs.Ytlbicmdfdpcdiaa.Vm Go.RowKit
open PDa.SK (isort isort_perm isort_length cmpZ_lt cmpZ_eq cmpZ)
theorem TellsL.stepK {α : Type} {f g : Nat → Nat → Option α} {v : α} (c : Nat) (he : ∀ K m, c ≤ K → f K (m + 1) = g K m) (h : TellsL g v) : TellsL f v := by
  obtain ⟨a, ha⟩ := h
  refine ⟨max (a + 1) c, fun K m hK hm => ?_⟩
  obtain ⟨j, rfl⟩ : ∃ j, m = j + 1 := ⟨m - 1, by omega⟩
  rw [he K j (by omega)]; exact ha K j (by omega) (by omega)
theorem lgetn {α : Type} (l : List α) (i : Nat) (z : α) : lget l (i : Int) z = l.getD i z := rfl
theorem lsetn {α : Type} (l : List α) (i : Nat) (z : α) : lset l (i : Int) z = l.set i z := rfl
abbrev MR : Type := List CuD × Option (Int × Int)
abbrev setTimes (x y : CuD) : CuD := (y.1, (y.2.1, x.2.2))
abbrev setSide (s : Int) (x : CuD) : CuD := (x.1, (x.2.1, (x.2.2.1, (s, x.2.2.2.2))))
def CO (x : CuD) : Prop := GC x ∧ cueOK0 x
theorem CO.pos {x : CuD} (h : CO x) : PosC x := ⟨timeE_pos h.2.1, timeE_pos h.2.2.1⟩
theorem CO.cmp {x y : CuD} (hx : CO x) (hy : CO y) (k : Nat) : cue_Compare k (x, y) = some (compareC x y) := compare_tells hx.1 hy.1 hx.2 hy.2 k
theorem CO.times {x y : CuD} (hx : CO x) (hy : CO y) : CO (setTimes x y) := by
  obtain ⟨⟨_, _⟩, h3, h4, h5, h6⟩ := hx
  obtain ⟨g, g3, g4, g5, _⟩ := hy
  exact ⟨g, g3, g4, g5, h6⟩
theorem CO.side {x : CuD} {s : Int} (hx : CO x) (hs : s = 0 ∨ s = 1) : CO (setSide s x) := by
  obtain ⟨g, h3, h4, h5, _, h6⟩ := hx
  exact ⟨g, h3, h4, h5, hs, h6⟩
theorem cmpI_Z (a b : Int) : cmpI a b = cmpZ a b := by
  unfold cmpI cmpZ
  rfl
theorem compareC_eq (x y : CuD) : compareC x y = cmpCue x y := by
  unfold compareC cmpCue
  simp only [cmpI_Z]
theorem cmpZ_neg (a b : Int) : cmpZ b a = - cmpZ a b := by
  unfold cmpZ
  split <;> split <;> (try split) <;> (try split) <;> omega
theorem compareC_neg (x y : CuD) : compareC y x = - compareC x y := by
  rw [compareC_eq, compareC_eq]
  unfold cmpCue
  rw [cmpZ_neg (x.1.1 * y.1.2), cmpZ_neg (x.2.1.1 * y.2.1.2)]
  split <;> split <;> omega
theorem ltC_cmp (x y : CuD) : ltCue x y = decide (compareC x y < 0) := by unfold ltCue; rw [compareC_eq]
theorem ltC_false {x y : CuD} : ltCue x y = false ↔ compareC y x ≤ 0 := by
  rw [ltC_cmp, compareC_neg y x, decide_eq_false_iff_not]; omega
def stepHi (a hi : List CuD) (x : Nat × Nat) : List CuD :=
  if (0 < x.2 ∧ 0 < compareC (hi.getD (x.2 - 1) default) (setTimes (hi.getD x.2 default) (a.getD x.1 default))) ∨ (x.2 + 1 < hi.length ∧ 0 < compareC (setTimes (hi.getD x.2 default) (a.getD x.1 default)) (hi.getD (x.2 + 1) default)) then hi
  else hi.set x.2 (setTimes (hi.getD x.2 default) (a.getD x.1 default))
def hiV (a b : List CuD) (L : List (Nat × Nat)) : List CuD := L.foldl (stepHi a) b
def mergeV (a b : List CuD) : List CuD := isort ltCue (a ++ (hiV a b (rowsV a b)).map (setSide 1))
theorem stepHi_len (a hi : List CuD) (x : Nat × Nat) : (stepHi a hi x).length = hi.length := by unfold stepHi; split <;> simp
theorem hiV_len (a : List CuD) : ∀ (L : List (Nat × Nat)) (b : List CuD), (hiV a b L).length = b.length
  | [], b => rfl
  | x :: L, b => by unfold hiV; rw [List.foldl_cons]; exact (hiV_len a L _).trans (stepHi_len a b x)
theorem getD_mem' {α : Type} [Inhabited α] {l : List α} {i : Nat} (h : i < l.length) : l.getD i default ∈ l := by
  rw [List.getD_eq_getElem?_getD, List.getElem?_eq_getElem h]; exact List.getElem_mem h
theorem CO.step {a hi : List CuD} (ha : ∀ x ∈ a, CO x) (hh : ∀ x ∈ hi, CO x) {p q : Nat} (hp : p < a.length) (hq : q < hi.length) : ∀ x ∈ stepHi a hi (p, q), CO x := by
  unfold stepHi
  split
  · exact hh
  · intro x hx
    rcases List.mem_or_eq_of_mem_set hx with h | rfl
    · exact hh x h
    · exact CO.times (hh _ (getD_mem' hq)) (ha _ (getD_mem' hp))
theorem hi_round (K m : Nat) (L : List (Nat × Nat)) (a b hi : List CuD) (pp : List CuD × List CuD) (ha : ∀ x ∈ a, CO x) (hh : ∀ x ∈ hi, CO x) (la : a.length ≤ 4096) (lh : hi.length ≤ 4096) (i : Nat) (hi' : i < L.length) (hL : L.length ≤ 4096) (h1 : (L[i]).1 < a.length) (h2 : (L[i]).2 < hi.length) :
    itn (dual_Merge.B45 K (told L, none) a pp) (m + 1) ((i : Int), hi) = itn (dual_Merge.B45 K (told L, none) a pp) m (((i + 1 : Nat) : Int), stepHi a hi L[i]) := by
  obtain ⟨⟨p, q⟩, e⟩ : ∃ pq, L[i] = pq := ⟨_, rfl⟩
  rw [e] at h1 h2 ⊢
  dsimp only at h1 h2
  rw [itn, dual_Merge.B45, dual_Merge.T45]
  dsimp only
  rw [told_lenI, told_at L i hi', e]
  dsimp only
  have w1 : wrap64 ((i : Int) + 1) = ((i + 1 : Nat) : Int) := wrap64_id (by unfold I64; omega)
  have w3 : wrap64 ((q : Int) + 1) = ((q + 1 : Nat) : Int) := wrap64_id (by unfold I64; omega)
  rw [w1, w3, lenI_eq, lenI_eq a, sel_pos (by omega), sel_pos (by omega), sel_pos (by omega), sel_pos (by omega), sel_pos (by omega), sel_pos (by omega), sel_pos (by omega), sel_pos (by omega), sel_pos (by omega)]
  have cz := CO.times (hh _ (getD_mem' h2)) (ha _ (getD_mem' h1))
  unfold stepHi
  dsimp only
  have pos : sel (0 ≤ (q : Int)) (sel ((q : Int) < (hi.length : Int)) (itn (dual_Merge.B45 K (told L, none) a pp) m (((i + 1 : Nat) : Int), lset hi (q : Int) (setTimes (hi.getD q default) (a.getD p default)))) none) none = itn (dual_Merge.B45 K (told L, none) a pp) m (((i + 1 : Nat) : Int), hi.set q (setTimes (hi.getD q default) (a.getD p default))) := by
    rw [sel_pos (by omega), sel_pos (by omega), lsetn]
  have up : sel (((q + 1 : Nat) : Int) < (hi.length : Int)) (sel (0 ≤ ((q + 1 : Nat) : Int)) (sel (((q + 1 : Nat) : Int) < (hi.length : Int)) ((cue_Compare K (setTimes (lget hi (q : Int) default) (lget a (p : Int) default), lget hi ((q + 1 : Nat) : Int) default)).bind fun t6 => sel (0 < t6) (itn (dual_Merge.B45 K (told L, none) a pp) m (((i + 1 : Nat) : Int), hi)) (sel (0 ≤ (q : Int)) (sel ((q : Int) < (hi.length : Int)) (itn (dual_Merge.B45 K (told L, none) a pp) m (((i + 1 : Nat) : Int), lset hi (q : Int) (setTimes (hi.getD q default) (a.getD p default)))) none) none)) none) none) (sel (0 ≤ (q : Int)) (sel ((q : Int) < (hi.length : Int)) (itn (dual_Merge.B45 K (told L, none) a pp) m (((i + 1 : Nat) : Int), lset hi (q : Int) (setTimes (hi.getD q default) (a.getD p default)))) none) none)
      = itn (dual_Merge.B45 K (told L, none) a pp) m (((i + 1 : Nat) : Int), if q + 1 < hi.length ∧ 0 < compareC (setTimes (hi.getD q default) (a.getD p default)) (hi.getD (q + 1) default) then hi else hi.set q (setTimes (hi.getD q default) (a.getD p default))) := by
    rw [pos]
    by_cases c : q + 1 < hi.length
    · have cq := hh _ (getD_mem' c)
      rw [sel_pos (by omega), sel_pos (by omega), sel_pos (by omega), lgetn, lgetn, lgetn, CO.cmp cz cq, Option.bind_some]
      by_cases d : 0 < compareC (setTimes (hi.getD q default) (a.getD p default)) (hi.getD (q + 1) default)
      · rw [sel_pos d, if_pos ⟨c, d⟩]
      · rw [sel_neg d, if_neg (fun h => d h.2)]
    · rw [sel_neg (by omega), if_neg (fun h => c h.1)]
  by_cases c0 : 0 < q
  · have w2 : wrap64 ((q : Int) - 1) = ((q - 1 : Nat) : Int) := by rw [wrap64_id (by unfold I64; omega)]; omega
    have cp := hh _ (getD_mem' (show q - 1 < hi.length by omega))
    rw [sel_pos (by omega), w2, sel_pos (by omega), sel_pos (by omega)]
    have hc : cue_Compare K (lget hi ((q - 1 : Nat) : Int) default, setTimes (lget hi (q : Int) default) (lget a (p : Int) default)) = some (compareC (hi.getD (q - 1) default) (setTimes (hi.getD q default) (a.getD p default))) := CO.cmp cp cz K
    refine Eq.trans (congrArg (fun t => Option.bind t _) hc) ?_
    rw [Option.bind_some]
    by_cases d : 0 < compareC (hi.getD (q - 1) default) (setTimes (hi.getD q default) (a.getD p default))
    · rw [sel_pos d, if_pos (.inl ⟨c0, d⟩)]
    · rw [sel_neg d]
      refine up.trans ?_
      have : ((0 < q ∧ 0 < compareC (hi.getD (q - 1) default) (setTimes (hi.getD q default) (a.getD p default))) ∨ (q + 1 < hi.length ∧ 0 < compareC (setTimes (hi.getD q default) (a.getD p default)) (hi.getD (q + 1) default))) ↔ (q + 1 < hi.length ∧ 0 < compareC (setTimes (hi.getD q default) (a.getD p default)) (hi.getD (q + 1) default)) := ⟨fun h => h.elim (fun h => absurd h.2 d) id, .inr⟩
      simp only [this]
  · rw [sel_neg (by omega)]
    refine up.trans ?_
    have : ((0 < q ∧ 0 < compareC (hi.getD (q - 1) default) (setTimes (hi.getD q default) (a.getD p default))) ∨ (q + 1 < hi.length ∧ 0 < compareC (setTimes (hi.getD q default) (a.getD p default)) (hi.getD (q + 1) default))) ↔ (q + 1 < hi.length ∧ 0 < compareC (setTimes (hi.getD q default) (a.getD p default)) (hi.getD (q + 1) default)) := ⟨fun h => h.elim (fun h => absurd h.1 c0) id, .inr⟩
    simp only [this]
theorem hi_loop (L : List (Nat × Nat)) (a : List CuD) (pp : List CuD × List CuD) (n : Nat) (ha : ∀ x ∈ a, CO x) (la : a.length ≤ 4096) (lh : n ≤ 4096) (hL : L.length ≤ 4096) (hx : ∀ x ∈ L, x.1 < a.length ∧ x.2 < n) {v : List CuD × Option (Int × Int)} (hi0 : List CuD) :
    ∀ (m i : Nat) (hi : List CuD), i + m = L.length → (∀ x ∈ hi, CO x) → hi.length = n → hiV a hi (L.drop i) = hi0 → TellsL (fun K m => itn (dual_Merge.B45 K (told L, none) a pp) m ((L.length : Int), hi0)) v → TellsL (fun K m => itn (dual_Merge.B45 K (told L, none) a pp) m ((i : Int), hi)) v
  | 0, i, hi, h, hh, hn, he, ht => by
    obtain rfl : i = L.length := by omega
    rw [List.drop_length] at he
    have : hi = hi0 := he
    rw [this]; exact ht
  | m + 1, i, hi, h, hh, hn, he, ht => by
    have hi' : i < L.length := by omega
    obtain ⟨h1, h2⟩ := hx _ (List.getElem_mem hi')
    have e : L.drop i = L[i] :: L.drop (i + 1) := List.drop_eq_getElem_cons hi'
    refine TellsL.step (fun K k => hi_round K k L a [] hi pp ha hh la (by omega) i hi' hL h1 (by rw [hn]; exact h2)) ?_
    refine hi_loop L a pp n ha la lh hL hx hi0 m (i + 1) _ (by omega) (CO.step ha hh h1 (by rw [hn]; exact h2)) ((stepHi_len a hi _).trans hn) ?_ ht
    rw [e] at he
    exact he
theorem side_loop (K : Nat) (j4 : Int) (p : List CuD × List CuD) (v : Int) (l : List CuD) (hl : lget ([p.1, p.2] : List (List CuD)) v default = l) (t0 : RES) (g : Int → Option MR) (h4 : l.length ≤ 4096) (hs : ∀ x ∈ l, x.2.2.2.1 = 0) : ∀ (r i k : Nat), i + r = l.length → r < k →
    itn (dual_Merge.B27 K (l.length : Int) p v g j4 t0) k (i : Int) = g (wrap64 (v + 1))
  | 0, i, k, h, hk => by
    obtain ⟨k, rfl⟩ : ∃ t, k = t + 1 := ⟨k - 1, by omega⟩
    rw [itn, dual_Merge.B27, dual_Merge.T27, sel_neg (by omega)]
  | r + 1, i, k, h, hk => by
    obtain ⟨k, rfl⟩ : ∃ t, k = t + 1 := ⟨k - 1, by omega⟩
    have ih := side_loop K j4 p v l hl t0 g h4 hs r (i + 1) k (by omega) (by omega)
    have e := hs _ (getD_mem' (show i < l.length by omega))
    rw [itn, dual_Merge.B27, dual_Merge.T27, hl, lenI_eq, sel_pos (by omega), sel_pos (by omega), sel_pos (by omega), lgetn, sel_pos e, wrap64_id (by unfold I64; omega)]
    exact ih
theorem set_loop (v45 : Int × List CuD) (a : List CuD) (p : List CuD × List CuD) (t0 : RES) (hi : List CuD) (ev : v45.2 = hi) (h4 : hi.length ≤ 4096) (u : MR)
    (hu : Tells (fun K => sel (((a.length + (hi.map (setSide 1)).length) * 104) ≤ 140737488355328) ((cue_Sort K (a ++ hi.map (setSide 1))).bind fun t7 => some (t7, none)) none) u) : ∀ (m i : Nat), i + m = hi.length →
    TellsL (fun K m => itn (dual_Merge.B58 K v45 a p t0) m ((i : Int), (hi.take i).map (setSide 1) ++ hi.drop i)) u
  | 0, i, h => by
    obtain rfl : i = hi.length := by omega
    refine TellsL.step (g := fun K _ => sel (((a.length + (hi.map (setSide 1)).length) * 104) ≤ 140737488355328) ((cue_Sort K (a ++ hi.map (setSide 1))).bind fun t7 => some (t7, none)) none) (fun K k => ?_) (TellsL.of hu)
    rw [itn, dual_Merge.B58, dual_Merge.T58]
    dsimp only
    rw [ev, lenI_eq, sel_neg (by omega), List.take_length, List.drop_length, List.append_nil]
  | m + 1, i, h => by
    have hi' : i < hi.length := by omega
    have e : hi.drop i = hi[i] :: hi.drop (i + 1) := List.drop_eq_getElem_cons hi'
    have e2 : hi.take (i + 1) = hi.take i ++ [hi[i]] := List.take_succ_eq_append_getElem hi'
    have l1 : ((hi.take i).map (setSide 1)).length = i := by rw [List.length_map, List.length_take]; omega
    refine TellsL.step (fun K k => ?_) (set_loop v45 a p t0 hi ev h4 u hu m (i + 1) (by omega))
    show itn (dual_Merge.B58 K v45 a p t0) (k + 1) ((i : Int), (hi.take i).map (setSide 1) ++ hi.drop i) = itn (dual_Merge.B58 K v45 a p t0) k (((i + 1 : Nat) : Int), (hi.take (i + 1)).map (setSide 1) ++ hi.drop (i + 1))
    rw [itn, dual_Merge.B58, dual_Merge.T58]
    dsimp only
    have hg : ((hi.take i).map (setSide 1) ++ hi.drop i).getD i default = hi[i] := by
      rw [List.getD_eq_getElem?_getD, List.getElem?_append_right (by omega), l1, Nat.sub_self, e]; rfl
    have hs : ((hi.take i).map (setSide 1) ++ hi.drop i).set i (setSide 1 hi[i]) = (hi.take (i + 1)).map (setSide 1) ++ hi.drop (i + 1) := by
      rw [List.set_append_right _ _ (by omega), l1, Nat.sub_self, e, List.set_cons_zero, e2, List.map_append, List.append_assoc]; rfl
    rw [ev, lenI_eq, lenI_eq, List.length_append, l1, List.length_drop, sel_pos (by omega), sel_pos (by omega), sel_pos (by omega), wrap64_id (by unfold I64; omega), lgetn, hg, lsetn]
    rw [show ∀ y : CuD, (y.1, (y.2.1, (y.2.2.1, ((1 : Int), y.2.2.2.2)))) = setSide 1 y from fun _ => rfl, hs]
    rfl
theorem twin_loop (l : List CuD) (h1 : ∀ x ∈ l, x.2.2.2.2.2.2.length * 32 ≤ 140737488355328) (h2 : l.length * 104 ≤ 140737488355328) : ∀ (m i : Nat), i + m = l.length → TellsL (fun K m => itn (cue_twin.B12 K l) m ((i : Int), l.take i)) l
  | 0, i, h => by
    obtain rfl : i = l.length := by omega
    refine TellsL.step (g := fun _ _ => some l) (fun K k => ?_) (TellsL.const _)
    rw [itn, cue_twin.B12, cue_twin.T12]
    dsimp only
    rw [lenI_eq, sel_neg (by omega), List.take_length]
  | m + 1, i, h => by
    have hi' : i < l.length := by omega
    have e2 : l.take (i + 1) = l.take i ++ [l[i]] := List.take_succ_eq_append_getElem hi'
    have hg : l.getD i default = l[i] := by rw [List.getD_eq_getElem?_getD, List.getElem?_eq_getElem hi']; rfl
    refine TellsL.step (fun K k => ?_) (twin_loop l h1 h2 m (i + 1) (by omega))
    show itn (cue_twin.B12 K l) (k + 1) ((i : Int), l.take i) = itn (cue_twin.B12 K l) k (((i + 1 : Nat) : Int), l.take (i + 1))
    rw [itn, cue_twin.B12, cue_twin.T12]
    dsimp only
    rw [lenI_eq, sel_pos (by omega), sel_pos (by omega), sel_pos (by omega), lgetn, hg]
    have ho : cue_one K l[i] = some l[i] := by unfold cue_one; rw [sel_pos (h1 _ (List.getElem_mem hi'))]
    refine Eq.trans (congrArg (fun t => Option.bind t _) (show cue_one K _ = some l[i] from ho)) ?_
    rw [Option.bind_some, List.length_take, List.length_singleton, sel_pos (by omega), wrap64_id (by unfold I64; omega), e2]
    rfl
theorem twin_tells (l : List CuD) (h1 : ∀ x ∈ l, x.2.2.2.2.2.2.length * 32 ≤ 140737488355328) (h2 : l.length * 104 ≤ 140737488355328) : Tells (fun k => cue_twin k l) l := TellsL.diag (twin_loop l h1 h2 l.length 0 (by omega))
theorem Twin_tells (l : List CuD) (h1 : ∀ x ∈ l, x.2.2.2.2.2.2.length * 32 ≤ 140737488355328) (h2 : l.length * 104 ≤ 140737488355328) : Tells (fun k => cue_Twin k l) l := Tells.bind (twin_tells l h1 h2) (Tells.const _)
theorem Sort_tells (l : List CuD) (hc : ∀ x ∈ l, CO x) (hl : l.length ≤ 8192) : Tells (fun k => cue_Sort k l) (isort ltCue l) := by
  refine Tells.bind (twin_tells l (fun x hx => by have := (hc x hx).2.2.2.2.2.2.2.1; omega) (by omega)) (Tells.bind (v := isort ltCue l) (Tells.same (fun k => ?_) (Tells.const _)) (Tells.const _))
  unfold sort_cues
  rw [if_pos ⟨fun x hx => ⟨(hc x hx).pos.1, (hc x hx).pos.2, fun y hy => by rw [(hc x hx).cmp (hc y hy), compareC_eq]⟩, by omega⟩]
end Go.Proofs.Ytlbicmdfdpcdiaa.F
-- Printed by a program of this session's; Lean checks it.
set_option linter.unusedVariables false
set_option linter.unusedSimpArgs false
set_option maxRecDepth 100000
namespace Go.Proofs.Ytlbicmdfdpcdiaa.F
open Go.Proofs.Ytlbicmdfdpcdiaa.Vm Go.RowKit
theorem merge_u (k : Nat) (a b : List CuD) : dual_Merge k (a, b) = (dual_Pairs k (a, b)).bind fun t0 => opt t0.2 (itn (dual_Merge.B22 k 2 (a, b) t0) k 0) fun u1 => some (([] : List CuD), (some u1)) := by kernel_rfl
section
variable {a b : List CuD} (sa : ∀ x ∈ a, x.2.2.2.1 = 0) (sb : ∀ x ∈ b, x.2.2.2.1 = 0) (la : a.length ≤ 4096) (lb : b.length ≤ 4096)
include sa la in
theorem merge_s0 (t0 : RES) (K m : Nat) (hK : 5000 ≤ K) : itn (dual_Merge.B22 K 2 (a, b) t0) (m + 1) 0 = itn (dual_Merge.B22 K 2 (a, b) t0) m 1 := by
  rw [itn, dual_Merge.B22, dual_Merge.T22, sel_pos (by omega), sel_pos (by omega), sel_pos (by rw [lenI_eq]; simp)]
  have h := side_loop K 2 (a, b) 0 a rfl t0 (fun v => itn (dual_Merge.B22 K 2 (a, b) t0) m v) la sa a.length 0 K (by omega) (by omega)
  rw [← lenI_eq, show wrap64 (0 + 1) = 1 from wrap64_id (by unfold I64; omega)] at h
  exact h
include sb lb in
theorem merge_s1 (t0 : RES) (K m : Nat) (hK : 5000 ≤ K) : itn (dual_Merge.B22 K 2 (a, b) t0) (m + 1) 1 = itn (dual_Merge.B22 K 2 (a, b) t0) m 2 := by
  rw [itn, dual_Merge.B22, dual_Merge.T22, sel_pos (by omega), sel_pos (by omega), sel_pos (by rw [lenI_eq]; simp)]
  have h := side_loop K 2 (a, b) 1 b rfl t0 (fun v => itn (dual_Merge.B22 K 2 (a, b) t0) m v) lb sb b.length 0 K (by omega) (by omega)
  rw [← lenI_eq, show wrap64 (1 + 1) = 2 from wrap64_id (by unfold I64; omega)] at h
  exact h
include sa sb la lb in
theorem merge_up (t0 : RES) {u : MR} (h : Tells (fun K => sel (4096 < wrap64 (lenI a + lenI b)) (some (([] : List CuD), (some (0, 2)))) ((cue_Twin K a).bind fun t2 => (cue_Twin K b).bind fun t3 => itn (dual_Merge.B45 K t0 t2 (a, b)) K (0, t3))) u) :
    Tells (fun K => itn (dual_Merge.B22 K 2 (a, b) t0) K 0) u := by
  refine TellsL.diag (f := fun K m => itn (dual_Merge.B22 K 2 (a, b) t0) m 0) (TellsL.stepK (g := fun K m => itn (dual_Merge.B22 K 2 (a, b) t0) m 1) 5000 (fun K m hK => merge_s0 sa la t0 K m hK) (TellsL.stepK (g := fun K m => itn (dual_Merge.B22 K 2 (a, b) t0) m 2) 5000 (fun K m hK => merge_s1 sb lb t0 K m hK) (TellsL.step (fun K m => ?_) (TellsL.of h))))
  rw [itn, dual_Merge.B22, dual_Merge.T22, sel_neg (by omega)]
  rfl
theorem doc_mem {l : List CuD} (h : docOK l) {x : CuD} (hx : x ∈ l) : cueOK x := by
  obtain ⟨i, hi, rfl⟩ := List.getElem_of_mem hx
  have := h.2.1 i hi
  rwa [List.getD_eq_getElem?_getD, List.getElem?_eq_getElem hi] at this
theorem doc_CO {l : List CuD} (hG : ∀ x ∈ l, GC x) (h : docOK l) : ∀ x ∈ l, CO x := fun x hx => ⟨hG x hx, (doc_mem h hx).1⟩
theorem doc_spans {l : List CuD} (h : docOK l) : ∀ x ∈ l, x.2.2.2.2.2.2.length * 32 ≤ 140737488355328 := fun x hx => by have := (doc_mem h hx).1.2.2.2.2.2.2.1; omega
theorem hiV_CO {a : List CuD} (ca : ∀ x ∈ a, CO x) {n : Nat} : ∀ (L : List (Nat × Nat)) (b : List CuD), (∀ x ∈ b, CO x) → b.length = n → (∀ x ∈ L, x.1 < a.length ∧ x.2 < n) → ∀ x ∈ hiV a b L, CO x
  | [], b, hb, _, _ => hb
  | y :: L, b, hb, hn, hL => by
    obtain ⟨h1, h2⟩ := hL y (by simp)
    unfold hiV; rw [List.foldl_cons]
    exact hiV_CO ca L _ (CO.step ca hb h1 (by rw [hn]; exact h2)) ((stepHi_len _ _ _).trans hn) (fun x hx => hL x (List.mem_cons_of_mem _ hx))
variable (hGa : ∀ x ∈ a, GC x) (hGb : ∀ x ∈ b, GC x)
theorem rows_in (ha : docOK a) (hb : docOK b) : (∀ x ∈ rowsV a b, x.1 < a.length ∧ x.2 < b.length) ∧ (rowsV a b).length ≤ 4096 := by
  obtain ⟨r1, t1⟩ := rowsV_ok ha hb
  have k1 := BP.RowOK.len r1 (Nat.zero_le _) (Nat.zero_le _)
  have := ha.1
  exact ⟨fun x hx => ⟨(BP.RowOK.mem r1 x hx).1, (BP.RowOK.mem r1 x hx).2.1⟩, by omega⟩
include hGa hGb in
theorem merge_CO (ha : docOK a) (hb : docOK b) : ∀ x ∈ a ++ (hiV a b (rowsV a b)).map (setSide 1), CO x := by
  intro x hx
  rcases List.mem_append.1 hx with h | h
  · exact doc_CO hGa ha x h
  · obtain ⟨y, hy, rfl⟩ := List.mem_map.1 h
    exact (hiV_CO (doc_CO hGa ha) _ b (doc_CO hGb hb) rfl (rows_in ha hb).1 y hy).side (.inr rfl)
include sa sb hGa hGb in
theorem merge_tells (ha : docOK a) (hb : docOK b) (hm : a.length * b.length ≤ 1048576) (hl : a.length + b.length ≤ 4096) : Tells (fun k => dual_Merge k (a, b)) (mergeV a b, none) := by
  have p := pairs_tells hGa hGb ha hb hm
  obtain ⟨rx, rl⟩ := rows_in ha hb
  refine Tells.same (fun k => merge_u k a b) (Tells.bind p ?_)
  refine merge_up sa sb (by omega) (by omega) (told (rowsV a b), none) ?_
  rw [lenI_eq, lenI_eq, wrap64_id (by unfold I64; omega)]
  refine Tells.sneg (by omega) (Tells.bind (Twin_tells a (doc_spans ha) (by omega)) (Tells.bind (Twin_tells b (doc_spans hb) (by omega)) ?_))
  have hlen := hiV_len a (rowsV a b) b
  have hS := Sort_tells (a ++ (hiV a b (rowsV a b)).map (setSide 1)) (merge_CO hGa hGb ha hb) (by rw [List.length_append, List.length_map, hlen]; omega)
  refine TellsL.diag (hi_loop (rowsV a b) a (a, b) b.length (doc_CO hGa ha) (by omega) (by omega) rl rx (hiV a b (rowsV a b)) (rowsV a b).length 0 b (by omega) (doc_CO hGb hb) rfl (by rw [List.drop_zero]) ?_)
  refine TellsL.step (g := fun K _ => itn (dual_Merge.B58 K (((rowsV a b).length : Int), hiV a b (rowsV a b)) a (a, b) (told (rowsV a b), none)) K (0, hiV a b (rowsV a b))) (fun K m => ?_) (TellsL.of (TellsL.diag (f := fun K m => itn (dual_Merge.B58 K (((rowsV a b).length : Int), hiV a b (rowsV a b)) a (a, b) (told (rowsV a b), none)) m (0, hiV a b (rowsV a b))) ?_))
  · rw [itn, dual_Merge.B45, dual_Merge.T45]
    dsimp only
    rw [told_lenI, sel_neg (by omega)]
    rfl
  · refine set_loop (((rowsV a b).length : Int), hiV a b (rowsV a b)) a (a, b) (told (rowsV a b), none) (hiV a b (rowsV a b)) rfl (by omega) (mergeV a b, none) ?_ (hiV a b (rowsV a b)).length 0 (by omega)
    exact Tells.spos (by rw [List.length_map, hlen]; omega) (Tells.bind hS (Tells.const _))
include sa sb hGa hGb in
theorem merge_refused (h : ¬ (docOK a ∧ docOK b ∧ a.length * b.length ≤ 1048576 ∧ a.length + b.length ≤ 4096)) : ∃ e, Tells (fun k => dual_Merge k (a, b)) ([], some e) := by
  by_cases h0 : docOK a ∧ docOK b ∧ a.length * b.length ≤ 1048576
  · obtain ⟨ha, hb, hm⟩ := h0
    have l1 := ha.1
    have l2 := hb.1
    refine ⟨(0, 2), Tells.same (fun k => merge_u k a b) (Tells.bind (pairs_tells hGa hGb ha hb hm) (merge_up sa sb l1 l2 (told (rowsV a b), none) ?_))⟩
    rw [lenI_eq, lenI_eq, wrap64_id (by unfold I64; omega)]
    have : ¬ a.length + b.length ≤ 4096 := fun e => h ⟨ha, hb, hm, e⟩
    exact Tells.spos (by omega) (Tells.const _)
  · obtain ⟨e, p⟩ := pairs_refused hGa hGb h0
    exact ⟨e, Tells.same (fun k => merge_u k a b) (Tells.bind p (Tells.const _))⟩
end
theorem low_loop (l : List CuD) (h2 : l.length * 104 ≤ 140737488355328) : ∀ (m i : Nat), i + m = l.length → TellsL (fun K m => itn (surtitlelaw19_low.B14 K l) m ((i : Int), (l.take i).map (setSide 0))) (l.map (setSide 0))
  | 0, i, h => by
    obtain rfl : i = l.length := by omega
    refine TellsL.step (g := fun _ _ => some (l.map (setSide 0))) (fun K k => ?_) (TellsL.const _)
    rw [itn, surtitlelaw19_low.B14, surtitlelaw19_low.T14]
    dsimp only
    rw [lenI_eq, sel_neg (by omega), List.take_length]
  | m + 1, i, h => by
    have hi' : i < l.length := by omega
    have e2 : l.take (i + 1) = l.take i ++ [l[i]] := List.take_succ_eq_append_getElem hi'
    have hg : l.getD i default = l[i] := by rw [List.getD_eq_getElem?_getD, List.getElem?_eq_getElem hi']; rfl
    refine TellsL.step (fun K k => ?_) (low_loop l h2 m (i + 1) (by omega))
    show itn (surtitlelaw19_low.B14 K l) (k + 1) ((i : Int), (l.take i).map (setSide 0)) = itn (surtitlelaw19_low.B14 K l) k (((i + 1 : Nat) : Int), (l.take (i + 1)).map (setSide 0))
    rw [itn, surtitlelaw19_low.B14, surtitlelaw19_low.T14]
    dsimp only
    rw [lenI_eq, sel_pos (by omega), sel_pos (by omega), sel_pos (by omega), lgetn, hg, List.length_map, List.length_take, List.length_singleton, sel_pos (by omega), wrap64_id (by unfold I64; omega), e2, List.map_append]
    rfl
theorem low_tells (l : List CuD) (h2 : l.length * 104 ≤ 140737488355328) : Tells (fun k => surtitlelaw19_low k l) (l.map (setSide 0)) := TellsL.diag (low_loop l h2 l.length 0 (by omega))
theorem low_side (l : List CuD) : ∀ x ∈ l.map (setSide 0), x.2.2.2.1 = 0 := fun x hx => by
  obtain ⟨y, _, rfl⟩ := List.mem_map.1 hx
  rfl
theorem low_GC {l : List CuD} (h : ∀ x ∈ l, GC x) : ∀ x ∈ l.map (setSide 0), GC x := fun x hx => by
  obtain ⟨y, hy, rfl⟩ := List.mem_map.1 hx
  exact h y hy
end Go.Proofs.Ytlbicmdfdpcdiaa.F
-- Printed by a program of this session's; Lean checks it.
set_option linter.unusedVariables false
set_option linter.unusedSimpArgs false
set_option linter.unusedSectionVars false
set_option maxRecDepth 100000
namespace Go.Proofs.Ytlbicmdfdpcdiaa.F
open Go.Proofs.Ytlbicmdfdpcdiaa.Vm Go.RowKit
abbrev SpD4 : Type := Int × (Int × (Int × Int))
theorem spans_loop (l : List SpD4) (hl : l.length ≤ 4611686018427387904) : ∀ (m i : Nat), i + m = l.length → TellsL (fun K k => itn (surtitlelaw7_SameSpans.B9 K (l, l)) k (i : Int)) true
  | 0, i, h => by
    refine TellsL.step (g := fun _ _ => some true) (fun K k => ?_) (TellsL.const _)
    rw [itn, surtitlelaw7_SameSpans.B9, surtitlelaw7_SameSpans.T9]
    dsimp only
    rw [lenI_eq, sel_neg (by omega)]
  | m + 1, i, h => by
    refine TellsL.step (fun K k => ?_) (spans_loop l hl m (i + 1) (by omega))
    show itn (surtitlelaw7_SameSpans.B9 K (l, l)) (k + 1) (i : Int) = itn (surtitlelaw7_SameSpans.B9 K (l, l)) k ((i + 1 : Nat) : Int)
    rw [itn, surtitlelaw7_SameSpans.B9, surtitlelaw7_SameSpans.T9]
    dsimp only
    rw [lenI_eq, sel_pos (by omega), sel_pos (by omega), sel_pos (by omega), sel_pos (by omega), sel_pos (by omega)]
    unfold surtitlelaw7_SameSpans.J12
    rw [sel_neg (by simp), wrap64_id (by unfold I64; omega)]
    rfl
theorem sameSpans_refl (l : List SpD4) (hl : l.length ≤ 4611686018427387904) : Tells (fun k => surtitlelaw7_SameSpans k (l, l)) true := by
  refine Tells.same (g := fun k => sel (lenI l = lenI l) (itn (surtitlelaw7_SameSpans.B9 k (l, l)) k 0) (some false)) (fun k => by rfl) ?_
  exact Tells.spos rfl (TellsL.diag (f := fun K k => itn (surtitlelaw7_SameSpans.B9 K (l, l)) k 0) (spans_loop l hl l.length 0 (by omega)))
theorem sameCue_refl (x : CuD) (hl : x.2.2.2.2.2.2.length ≤ 4611686018427387904) : Tells (fun k => surtitlelaw13_SameCue k (x, x)) true := by
  unfold surtitlelaw13_SameCue surtitlelaw13_SameCue.J1 surtitlelaw7_SameText surtitlelaw7_SameText.J1
  dsimp only
  refine Tells.spos (by simp) (Tells.spos (by simp) (Tells.spos rfl (Tells.spos rfl (Tells.spos rfl (Tells.bind ?_ (Tells.const _))))))
  exact Tells.spos rfl (Tells.bind (sameSpans_refl _ hl) (Tells.const _))
def lowP (l : List CuD) : List CuD := (l.filter fun x => decide (x.2.2.2.1 = 0)).map (setSide 0)
def highP (l : List CuD) : List CuD := (l.filter fun x => decide (x.2.2.2.1 = 1)).map (setSide 0)
theorem lowP_app (l m : List CuD) : lowP (l ++ m) = lowP l ++ lowP m := by unfold lowP; rw [List.filter_append, List.map_append]
theorem highP_app (l m : List CuD) : highP (l ++ m) = highP l ++ highP m := by unfold highP; rw [List.filter_append, List.map_append]
theorem lowP_len (l : List CuD) : (lowP l).length ≤ l.length := by unfold lowP; rw [List.length_map]; exact List.length_filter_le _ _
theorem highP_len (l : List CuD) : (highP l).length ≤ l.length := by unfold highP; rw [List.length_map]; exact List.length_filter_le _ _
theorem lowP_nil : lowP [] = [] := rfl
theorem highP_nil : highP [] = [] := rfl
theorem lowP_0 {x : CuD} (l : List CuD) (h : x.2.2.2.1 = 0) : lowP (x :: l) = setSide 0 x :: lowP l ∧ highP (x :: l) = highP l := by
  unfold lowP highP
  rw [List.filter_cons, if_pos (by simp [h]), List.filter_cons, if_neg (by simp [h])]
  exact ⟨rfl, rfl⟩
theorem lowP_1 {x : CuD} (l : List CuD) (h : x.2.2.2.1 = 1) : lowP (x :: l) = lowP l ∧ highP (x :: l) = setSide 0 x :: highP l := by
  unfold lowP highP
  rw [List.filter_cons, if_neg (by simp [h]), List.filter_cons, if_pos (by simp [h])]
  exact ⟨rfl, rfl⟩
theorem take_next {l : List CuD} {i : Nat} (hi : i < l.length) : l.take (i + 1) = l.take i ++ [l[i]] := List.take_succ_eq_append_getElem hi
theorem getD_el {l : List CuD} {i : Nat} (hi : i < l.length) : l.getD i default = l[i] := by rw [List.getD_eq_getElem?_getD, List.getElem?_eq_getElem hi]; rfl
theorem apart_loop (l p : List CuD) (hl : l.length ≤ 4096) (hs : ∀ x ∈ l, x.2.2.2.1 = 0 ∨ x.2.2.2.1 = 1) : ∀ (m i : Nat), i + m = l.length → TellsL (fun K k => itn (dual_Apart.B18 K l p) k ((i : Int), highP (l.take i), lowP (l.take i))) (lowP l, highP l, none)
  | 0, i, h => by
    obtain rfl : i = l.length := by omega
    refine TellsL.step (g := fun _ _ => some (lowP l, highP l, none)) (fun K k => ?_) (TellsL.const _)
    rw [itn, dual_Apart.B18, dual_Apart.T18]
    dsimp only
    rw [lenI_eq, sel_neg (by omega), List.take_length]
  | m + 1, i, h => by
    have hi : i < l.length := by omega
    have e2 := take_next hi
    have l1 := lowP_len (l.take i)
    have l2 := highP_len (l.take i)
    rw [List.length_take] at l1 l2
    refine TellsL.step (fun K k => ?_) (apart_loop l p hl hs m (i + 1) (by omega))
    show itn (dual_Apart.B18 K l p) (k + 1) ((i : Int), highP (l.take i), lowP (l.take i)) = itn (dual_Apart.B18 K l p) k (((i + 1 : Nat) : Int), highP (l.take (i + 1)), lowP (l.take (i + 1)))
    rw [itn, dual_Apart.B18, dual_Apart.T18]
    dsimp only
    rw [lenI_eq, sel_pos (by omega), sel_pos (by omega), sel_pos (by omega), lgetn, getD_el hi, succ_w (i := i) (by omega), e2, lowP_app, highP_app]
    rcases hs _ (List.getElem_mem hi) with h0 | h0
    · obtain ⟨q1, q2⟩ := lowP_0 [] h0
      rw [q1, q2, lowP_nil, highP_nil, List.append_nil, sel_pos h0, sel_pos (by rw [List.length_singleton]; omega)]
    · obtain ⟨q1, q2⟩ := lowP_1 [] h0
      rw [q1, q2, lowP_nil, highP_nil, List.append_nil, sel_neg (by omega), sel_pos h0, sel_pos (by rw [List.length_singleton]; omega)]
theorem apart_u (k : Nat) (p : List CuD) : dual_Apart k p = (cue_CheckDoc k p).bind fun t0 => opt t0 ((cue_Twin k p).bind fun t2 => itn (dual_Apart.B18 k t2 p) k (0, [], [])) fun u1 => some (([] : List CuD), (([] : List CuD), (some u1))) := by kernel_rfl
theorem apart_tells {l : List CuD} (hG : ∀ x ∈ l, GC x) (hd : docOK l) : Tells (fun k => dual_Apart k l) (lowP l, highP l, none) := by
  obtain ⟨r, q, e⟩ := checkDoc_tells l hG
  obtain rfl := e.2 hd
  have l1 := hd.1
  refine Tells.same (fun k => apart_u k l) (Tells.bind q (Tells.bind (Twin_tells l (doc_spans hd) (by omega)) ?_))
  exact TellsL.diag (f := fun K k => itn (dual_Apart.B18 K l l) k (0, [], [])) (apart_loop l l l1 (fun x hx => (doc_mem hd hx).1.2.2.2.1) l.length 0 (by omega))
end Go.Proofs.Ytlbicmdfdpcdiaa.F
-- Printed by a program of this session's; Lean checks it.
set_option linter.unusedVariables false
set_option linter.unusedSimpArgs false
set_option maxRecDepth 100000
namespace Go.Proofs.Ytlbicmdfdpcdiaa.F
open Go.Proofs.Ytlbicmdfdpcdiaa.Vm Go.RowKit
theorem stab_adj {d : List CuD} (h : Stab ltCue (fun x => x.2.2.2.1) d) {i : Nat} (h1 : 1 ≤ i) (hi : i < d.length) :
    compareC (d.getD (i - 1) default) (d.getD i default) ≤ 0 ∧ (compareC (d.getD (i - 1) default) (d.getD i default) = 0 → (d.getD (i - 1) default).2.2.2.1 ≤ (d.getD i default).2.2.2.1) := by
  have hp := List.pairwise_iff_getElem.1 h (i - 1) i (by omega) hi (by omega)
  rw [List.getD_eq_getElem?_getD, List.getD_eq_getElem?_getD, List.getElem?_eq_getElem hi, List.getElem?_eq_getElem (show i - 1 < d.length by omega)]
  simp only [Option.getD_some]
  obtain ⟨q1, q2⟩ := hp
  refine ⟨ltC_false.1 q1, fun e => q2 (ltC_false.2 ?_)⟩
  rw [compareC_neg, e]; omega
theorem sides_pw {A B : List CuD} (hA : ∀ x ∈ A, x.2.2.2.1 = 0) (hB : ∀ x ∈ B, x.2.2.2.1 = 1) : (A ++ B).Pairwise fun x y => x.2.2.2.1 ≤ y.2.2.2.1 := by
  rw [List.pairwise_append]
  refine ⟨List.pairwise_iff_getElem.2 fun i j hi hj _ => ?_, List.pairwise_iff_getElem.2 fun i j hi hj _ => ?_, fun x hx y hy => ?_⟩
  · rw [hA _ (List.getElem_mem hi), hA _ (List.getElem_mem hj)]; exact Int.le_refl _
  · rw [hB _ (List.getElem_mem hi), hB _ (List.getElem_mem hj)]; exact Int.le_refl _
  · rw [hA x hx, hB y hy]; decide
theorem high_side (l : List CuD) : ∀ x ∈ l.map (setSide 1), x.2.2.2.1 = 1 := fun x hx => by
  obtain ⟨y, _, rfl⟩ := List.mem_map.1 hx
  rfl
end Go.Proofs.Ytlbicmdfdpcdiaa.F
-- Printed by a program of this session's; Lean checks it.
set_option linter.unusedVariables false
set_option linter.unusedSimpArgs false
set_option linter.unusedSectionVars false
set_option maxRecDepth 100000
namespace Go.Proofs.Ytlbicmdfdpcdiaa.F
open Go.Proofs.Ytlbicmdfdpcdiaa.Vm Go.RowKit
theorem setSide_same {x : CuD} (h : x.2.2.2.1 = 0) : setSide 0 x = x := by
  obtain ⟨a, b, c, d, e⟩ := x
  dsimp only at h
  subst h; rfl
theorem map_side0 {l : List CuD} (h : ∀ x ∈ l, x.2.2.2.1 = 0) : l.map (setSide 0) = l := by
  conv => rhs; rw [← List.map_id l]
  exact List.map_congr_left fun x hx => setSide_same (h x hx)
theorem cueOK_times {x y : CuD} (hx : cueOK x) (hy : cueOK y) : cueOK (setTimes x y) := by
  obtain ⟨⟨_, _, _, h4⟩, h5⟩ := hx
  obtain ⟨⟨g1, g2, g3, _⟩, _⟩ := hy
  exact ⟨⟨g1, g2, g3, h4⟩, h5⟩
theorem cueOK_side {x : CuD} {s : Int} (hx : cueOK x) (hs : s = 0 ∨ s = 1) : cueOK (setSide s x) := by
  obtain ⟨⟨h1, h2, h3, _, h4⟩, h5⟩ := hx
  exact ⟨⟨h1, h2, h3, hs, h4⟩, h5⟩
theorem getD_set_self {l : List CuD} {q : Nat} {z : CuD} (hq : q < l.length) : (l.set q z).getD q default = z := by
  rw [List.getD_eq_getElem?_getD, List.getElem?_set_self hq]; rfl
theorem getD_set_ne {l : List CuD} {q i : Nat} {z : CuD} (h : q ≠ i) : (l.set q z).getD i default = l.getD i default := by
  rw [List.getD_eq_getElem?_getD, List.getElem?_set_ne h, ← List.getD_eq_getElem?_getD]
theorem step_docOK {a h : List CuD} (ha : docOK a) (hh : docOK h) {p q : Nat} (hp : p < a.length) (hq : q < h.length) : docOK (stepHi a h (p, q)) := by
  unfold stepHi
  dsimp only
  split
  · exact hh
  · rename_i hc
    have c1 : ¬ (0 < q ∧ 0 < compareC (h.getD (q - 1) default) (setTimes (h.getD q default) (a.getD p default))) := fun e => hc (.inl e)
    have c2 : ¬ (q + 1 < h.length ∧ 0 < compareC (setTimes (h.getD q default) (a.getD p default)) (h.getD (q + 1) default)) := fun e => hc (.inr e)
    obtain ⟨d1, d2, d3⟩ := hh
    refine ⟨by rw [List.length_set]; exact d1, fun i hi => ?_, fun i h1 hi => ?_⟩
    · rw [List.length_set] at hi
      by_cases e : q = i
      · subst e; rw [getD_set_self hq]; exact cueOK_times (d2 q hq) (ha.2.1 p hp)
      · rw [getD_set_ne e]; exact d2 i hi
    · rw [List.length_set] at hi
      by_cases e : q = i
      · subst e
        rw [getD_set_self hq, getD_set_ne (by omega)]
        exact Int.not_lt.1 fun h => c1 ⟨by omega, h⟩
      · by_cases e' : q = i - 1
        · subst e'
          rw [getD_set_self hq, getD_set_ne (by omega)]
          rw [show i - 1 + 1 = i by omega] at c2
          exact Int.not_lt.1 fun h => c2 ⟨hi, h⟩
        · rw [getD_set_ne e, getD_set_ne e']; exact d3 i h1 hi
theorem hi_docOK {a : List CuD} (ha : docOK a) {n : Nat} : ∀ (L : List (Nat × Nat)) (b : List CuD), docOK b → b.length = n → (∀ x ∈ L, x.1 < a.length ∧ x.2 < n) → docOK (hiV a b L)
  | [], b, hb, _, _ => hb
  | y :: L, b, hb, hn, hL => by
    obtain ⟨h1, h2⟩ := hL y (by simp)
    unfold hiV; rw [List.foldl_cons]
    exact hi_docOK ha L _ (step_docOK ha hb h1 (by rw [hn]; exact h2)) ((stepHi_len _ _ _).trans hn) (fun x hx => hL x (List.mem_cons_of_mem _ hx))
theorem step_el (a h : List CuD) (p q i : Nat) (hq : q < h.length) : (stepHi a h (p, q)).getD i default = h.getD i default ∨ (q = i ∧ (stepHi a h (p, q)).getD i default = setTimes (h.getD i default) (a.getD p default)) := by
  unfold stepHi
  dsimp only
  split
  · exact .inl rfl
  · by_cases e : q = i
    · subst e; exact .inr ⟨rfl, getD_set_self hq⟩
    · exact .inl (getD_set_ne e)
theorem hi_el (a : List CuD) {n : Nat} (i : Nat) : ∀ (L : List (Nat × Nat)) (b : List CuD), b.length = n → (∀ x ∈ L, x.2 < n) → (hiV a b L).getD i default = b.getD i default ∨ ∃ p, (p, i) ∈ L ∧ (hiV a b L).getD i default = setTimes (b.getD i default) (a.getD p default)
  | [], b, _, _ => .inl rfl
  | (p, q) :: L, b, hn, hL => by
    have h2 := hL (p, q) (by simp)
    unfold hiV; rw [List.foldl_cons]
    rcases hi_el a i L (stepHi a b (p, q)) ((stepHi_len _ _ _).trans hn) (fun x hx => hL x (List.mem_cons_of_mem _ hx)) with h | ⟨p', hp', h⟩
    · rcases step_el a b p q i (by rw [hn]; exact h2) with h3 | ⟨rfl, h3⟩
      · exact .inl (h.trans h3)
      · exact .inr ⟨p, by simp, h.trans h3⟩
    · refine .inr ⟨p', List.mem_cons_of_mem _ hp', h.trans ?_⟩
      rcases step_el a b p q i (by rw [hn]; exact h2) with h3 | ⟨_, h3⟩ <;> rw [h3]
theorem hi_side {a b : List CuD} {L : List (Nat × Nat)} (hL : ∀ x ∈ L, x.2 < b.length) (sb : ∀ x ∈ b, x.2.2.2.1 = 0) : ∀ x ∈ hiV a b L, x.2.2.2.1 = 0 := by
  intro x hx
  obtain ⟨i, hi, rfl⟩ := List.getElem_of_mem hx
  have hi' := hi
  rw [hiV_len] at hi'
  have e := hi_el a i L b rfl hL
  rw [getD_el hi] at e
  have hb := sb _ (getD_mem' hi')
  rcases e with e | ⟨p, _, e⟩ <;> rw [e] <;> exact hb
theorem doc_pos {l : List CuD} (h : docOK l) : ∀ x ∈ l, PosC x := fun x hx => ⟨timeE_pos (doc_mem h hx).1.1, timeE_pos (doc_mem h hx).1.2.1⟩
theorem doc_srt {l : List CuD} (h : docOK l) : l.Pairwise fun x y => ltCue y x = false := by
  refine srt_of_adj (doc_pos h) fun i hi => ?_
  have := h.2.2 (i + 1) (by omega) hi
  rw [show i + 1 - 1 = i by omega, getD_el hi, getD_el (show i < l.length by omega)] at this
  exact ltC_false.2 this
section
variable {a b : List CuD} (sa : ∀ x ∈ a, x.2.2.2.1 = 0) (sb : ∀ x ∈ b, x.2.2.2.1 = 0) (ha : docOK a) (hb : docOK b)
include sa ha hb in
theorem merge_docOK (hl : a.length + b.length ≤ 4096) : docOK (mergeV a b) := by
  have hh := hi_docOK ha (rowsV a b) b hb rfl (rows_in ha hb).1
  have hc : ∀ x ∈ a ++ (hiV a b (rowsV a b)).map (setSide 1), cueOK x := by
    intro x hx
    rcases List.mem_append.1 hx with h | h
    · exact doc_mem ha h
    · obtain ⟨y, hy, rfl⟩ := List.mem_map.1 h
      exact cueOK_side (doc_mem hh hy) (.inr rfl)
  have hst : Stab ltCue (fun x => x.2.2.2.1) (mergeV a b) := isortC_stab (fun z hz => ⟨timeE_pos (hc z hz).1.1, timeE_pos (hc z hz).1.2.1⟩) (sides_pw sa (high_side _))
  have hlen : (mergeV a b).length = a.length + b.length := by unfold mergeV; rw [PDa.SK.isort_length, List.length_append, List.length_map, hiV_len]
  exact ⟨by omega, fun i hi => hc _ (mem_isortC.1 (getD_mem' hi)), fun i h1 hi => (stab_adj hst h1 hi).1⟩
include sa sb ha hb in
theorem merge_apart : lowP (mergeV a b) = a ∧ highP (mergeV a b) = hiV a b (rowsV a b) := by
  have hh := hi_docOK ha (rowsV a b) b hb rfl (rows_in ha hb).1
  have hpos : ∀ x ∈ a ++ (hiV a b (rowsV a b)).map (setSide 1), PosC x := by
    intro x hx
    rcases List.mem_append.1 hx with h | h
    · exact doc_pos ha x h
    · obtain ⟨y, hy, rfl⟩ := List.mem_map.1 h
      exact doc_pos hh y hy
  have hs := hi_side (a := a) (b := b) (L := rowsV a b) (fun x hx => ((rows_in ha hb).1 x hx).2) sb
  unfold lowP highP mergeV
  rw [isortC_filter hpos, isortC_filter hpos, List.filter_append, List.filter_append]
  have f1 : a.filter (fun x => decide (x.2.2.2.1 = 0)) = a := List.filter_eq_self.2 fun x hx => by simp [sa x hx]
  have f2 : ((hiV a b (rowsV a b)).map (setSide 1)).filter (fun x => decide (x.2.2.2.1 = 0)) = [] := List.filter_eq_nil_iff.2 fun x hx => by simp [high_side _ x hx]
  have f3 : a.filter (fun x => decide (x.2.2.2.1 = 1)) = [] := List.filter_eq_nil_iff.2 fun x hx => by simp [sa x hx]
  have f4 : ((hiV a b (rowsV a b)).map (setSide 1)).filter (fun x => decide (x.2.2.2.1 = 1)) = (hiV a b (rowsV a b)).map (setSide 1) := List.filter_eq_self.2 fun x hx => by simp [high_side _ x hx]
  rw [f1, f2, f3, f4, List.append_nil, List.nil_append, isortC_id (doc_pos ha) (doc_srt ha), map_side0 sa]
  refine ⟨rfl, ?_⟩
  rw [isortC_id (fun x hx => hpos x (List.mem_append_right _ hx)) (by
    rw [List.pairwise_map]
    exact doc_srt hh), List.map_map]
  exact map_side0 hs
end
end Go.Proofs.Ytlbicmdfdpcdiaa.F
-- Printed by a program of this session's; Lean checks it.
set_option linter.unusedVariables false
set_option linter.unusedSimpArgs false
set_option maxRecDepth 100000
namespace Go.Proofs.Ytlbicmdfdpcdiaa.F
open Go.Proofs.Ytlbicmdfdpcdiaa.Vm Go.RowKit
section
variable {a b : List CuD} (hGa : ∀ x ∈ a, GC x) (hGb : ∀ x ∈ b, GC x) (ha : docOK a) (hb : docOK b) (pk : List Int)
include hGa hGb ha hb
end
theorem rowOK_adj {n m : Nat} {sh : Nat → Nat → Int} : ∀ {L : List (Nat × Nat)} {i j : Nat}, BP.RowOK n m sh i j L → ∀ t, (h : t + 1 < L.length) → (L[t]).1 < (L[t + 1]).1 ∧ (L[t]).2 < (L[t + 1]).2
  | [], _, _, _, t, h => by simp at h
  | [x], _, _, _, t, h => by simp at h
  | x :: y :: L, i, j, hr, 0, h => by
    obtain ⟨_, _, _, _, _, h5⟩ := hr
    obtain ⟨q1, _, q2, _⟩ := h5
    exact ⟨q1, q2⟩
  | x :: y :: L, i, j, hr, t + 1, h => by
    obtain ⟨_, _, _, _, _, h5⟩ := hr
    exact rowOK_adj h5 t (by simpa using h)
section
variable {a b : List CuD} (hGa : ∀ x ∈ a, GC x) (hGb : ∀ x ∈ b, GC x) (ha : docOK a) (hb : docOK b) (pk : List Int)
include hGa hGb ha hb
end
end Go.Proofs.Ytlbicmdfdpcdiaa.F
-- Printed by a program of this session's; Lean checks it.
set_option linter.unusedVariables false
set_option linter.unusedSimpArgs false
set_option linter.unusedSectionVars false
set_option maxRecDepth 100000
namespace Go.Proofs.Ytlbicmdfdpcdiaa.F
open Go.Proofs.Ytlbicmdfdpcdiaa.Vm Go.RowKit
section
variable (L : List (Nat × Nat)) (p : List CuD × List CuD) (a b : List CuD) (M : MR) (A : List CuD × (List CuD × Option (Int × Int)))
end
section
variable {a b : List CuD} (ha : docOK a) (hb : docOK b) (L : List (Nat × Nat)) (pp : List CuD × List CuD) (M : MR)
include ha hb in
end
theorem merge_GC {a b : List CuD} (ga : ∀ x ∈ a, GC x) (gb : ∀ x ∈ b, GC x) (ha : docOK a) (hb : docOK b) : ∀ x ∈ mergeV a b, GC x := fun x hx => (merge_CO ga gb ha hb x (mem_isortC.1 hx)).1
end Go.Proofs.Ytlbicmdfdpcdiaa.F
-- Printed by a program of this session's; Lean checks it.
set_option linter.unusedVariables false
set_option linter.unusedSimpArgs false
set_option linter.unusedSectionVars false
set_option maxRecDepth 100000
namespace Go.Proofs.Ytlbicmdfdpcdiaa.F
open Go.Proofs.Ytlbicmdfdpcdiaa.Vm Go.RowKit
theorem Tells.map {α β : Type} {f : Nat → Option α} {v : α} (π : α → β) (h : Tells f v) : Tells (fun k => (f k).map π) (π v) := by
  obtain ⟨a, ha⟩ := h
  exact ⟨a, fun k hk => by show (f k).map π = _; rw [ha k hk]; rfl⟩
theorem rise_lt {L : List (Nat × Nat)} (hr : ∀ t, (h : t + 1 < L.length) → (L[t]).1 < (L[t + 1]).1 ∧ (L[t]).2 < (L[t + 1]).2) : ∀ (d t : Nat) (h : t + (d + 1) < L.length), (L[t]'(by omega)).2 < (L[t + (d + 1)]).2
  | 0, t, h => (hr t h).2
  | d + 1, t, h => Nat.lt_trans (rise_lt hr d t (by omega)) (hr (t + (d + 1)) h).2
theorem hi_same (a : List CuD) {n j : Nat} {L : List (Nat × Nat)} {b : List CuD} (hn : b.length = n) (hL : ∀ x ∈ L, x.2 < n) (hj : ∀ x ∈ L, x.2 ≠ j) : (hiV a b L).getD j default = b.getD j default := by
  rcases hi_el a j L b hn hL with h | ⟨p, hp, _⟩
  · exact h
  · exact absurd rfl (hj _ hp)
theorem hi_at {a b : List CuD} {L : List (Nat × Nat)} (hL : ∀ x ∈ L, x.1 < a.length ∧ x.2 < b.length) (hr : ∀ t, (h : t + 1 < L.length) → (L[t]).1 < (L[t + 1]).1 ∧ (L[t]).2 < (L[t + 1]).2) {i : Nat} (hi : i < L.length) {p q : Nat} (e : L[i] = (p, q)) :
    (hiV a b L).getD q default = (if (0 < q ∧ 0 < compareC ((hiV a b L).getD (q - 1) default) (setTimes (b.getD q default) (a.getD p default))) ∨ (q + 1 < b.length ∧ 0 < compareC (setTimes (b.getD q default) (a.getD p default)) (b.getD (q + 1) default)) then b.getD q default else setTimes (b.getD q default) (a.getD p default)) := by
  have hq : q < b.length := by have := (hL _ (List.getElem_mem hi)).2; rw [e] at this; exact this
  have e0 : L = L.take i ++ (p, q) :: L.drop (i + 1) := by rw [← e, ← List.drop_eq_getElem_cons hi, List.take_append_drop]
  have h1 : ∀ x ∈ L.take i, x.2 < q := by
    intro x hx
    obtain ⟨t, ht, rfl⟩ := List.getElem_of_mem hx
    rw [List.length_take] at ht
    rw [List.getElem_take]
    have := rise_lt hr (i - t - 1) t (by omega)
    simp only [show t + (i - t - 1 + 1) = i by omega, e] at this
    exact this
  have h2 : ∀ x ∈ L.drop (i + 1), q < x.2 := by
    intro x hx
    obtain ⟨t, ht, rfl⟩ := List.getElem_of_mem hx
    rw [List.length_drop] at ht
    rw [List.getElem_drop]
    have := rise_lt hr t i (by omega)
    simp only [show i + (t + 1) = i + 1 + t by omega, e] at this
    exact this
  have m1 : ∀ x ∈ L.take i, x.2 < b.length := fun x hx => (hL x (List.mem_of_mem_take hx)).2
  have m2 : ∀ x ∈ L.drop (i + 1), x.2 < b.length := fun x hx => (hL x (List.mem_of_mem_drop hx)).2
  have hsplit : hiV a b L = hiV a (stepHi a (hiV a b (L.take i)) (p, q)) (L.drop (i + 1)) := by
    conv => lhs; rw [e0]
    unfold hiV
    rw [List.foldl_append, List.foldl_cons]
  have l1 := hiV_len a (L.take i) b
  have l2 : (stepHi a (hiV a b (L.take i)) (p, q)).length = b.length := (stepHi_len _ _ _).trans l1
  have g0 : (hiV a b (L.take i)).getD q default = b.getD q default := hi_same a rfl m1 (fun x hx => by have := h1 x hx; omega)
  have g1 : (hiV a b (L.take i)).getD (q + 1) default = b.getD (q + 1) default := hi_same a rfl m1 (fun x hx => by have := h1 x hx; omega)
  have gq : (hiV a b L).getD q default = (stepHi a (hiV a b (L.take i)) (p, q)).getD q default := by
    rw [hsplit]; exact hi_same a l2 m2 (fun x hx => by have := h2 x hx; omega)
  rw [gq]
  have gm : 0 < q → (hiV a b L).getD (q - 1) default = (hiV a b (L.take i)).getD (q - 1) default := fun h0 => by
    rw [hsplit, hi_same a l2 m2 (fun x hx => by have := h2 x hx; omega)]
    rcases step_el a (hiV a b (L.take i)) p q (q - 1) (by rw [l1]; exact hq) with h | ⟨h, _⟩
    · exact h
    · omega
  unfold stepHi
  dsimp only
  rw [g0, g1, l1]
  by_cases h0 : 0 < q
  · rw [gm h0]
    split
    · exact g0
    · exact getD_set_self (by rw [l1]; exact hq)
  · simp only [h0, false_and, false_or]
    split
    · exact g0
    · exact getD_set_self (by rw [l1]; exact hq)
section
variable {a b : List CuD} (hGa : ∀ x ∈ a, GC x) (hGb : ∀ x ∈ b, GC x) (ha : docOK a) (hb : docOK b) (L : List (Nat × Nat)) (pp : List CuD × List CuD) (M : MR)
include hGa hGb ha hb in
theorem set_l (hl : L.length ≤ 4096) (hL : ∀ x ∈ L, x.1 < a.length ∧ x.2 < b.length) (hr : ∀ t, (h : t + 1 < L.length) → (L[t]).1 < (L[t + 1]).1 ∧ (L[t]).2 < (L[t + 1]).2) : ∀ (m i : Nat), i + m = L.length →
    TellsL (fun K k => itn (surtitlelaw19_DualSet.B42 K (told L) b a (a, hiV a b L) pp M) k (i : Int)) true
  | 0, i, h => by
    refine TellsL.step (g := fun K _ => (surtitlelaw19_head K ()).bind fun t17 => some t17) (fun K k => ?_) (TellsL.of (Tells.bind head_tells (Tells.const _)))
    rw [itn, surtitlelaw19_DualSet.B42, surtitlelaw19_DualSet.T42]
    rw [told_lenI, sel_neg (by omega)]
  | m + 1, i, h => by
    have hi : i < L.length := by omega
    have l1 := ha.1
    have l2 := hb.1
    have l3 := hiV_len a L b
    have dH := hi_docOK ha L b hb rfl hL
    have cH := hiV_CO (doc_CO hGa ha) L b (doc_CO hGb hb) rfl hL
    have ih := set_l hl hL hr m (i + 1) (by omega)
    obtain ⟨⟨p, q⟩, e⟩ : ∃ pq, L[i] = pq := ⟨_, rfl⟩
    obtain ⟨hp, hq⟩ := hL _ (List.getElem_mem hi)
    rw [e] at hp hq
    dsimp only at hp hq
    have hat := hi_at hL hr hi e
    have ca := doc_CO hGa ha _ (getD_mem' hp)
    have cb := doc_CO hGb hb _ (getD_mem' hq)
    have cz := CO.times cb ca
    have cH0 : 0 < q → CO ((hiV a b L).getD (q - 1) default) := fun h0 => cH _ (getD_mem' (by omega))
    have cb1 : q + 1 < b.length → CO (b.getD (q + 1) default) := fun h0 => doc_CO hGb hb _ (getD_mem' h0)
    have dq := doc_mem dH (getD_mem' (show q < (hiV a b L).length by omega))
    generalize hiV a b L = H at l3 ih hat cH0 dq ⊢
    obtain ⟨k0, hk0⟩ := sameCue_refl (H.getD q default) (by have := dq.1.2.2.2.2.2.2.1; omega)
    refine TellsL.stepK k0 (fun K k hK => ?_) ih
    have fin : ∀ x y : CuD, x = H.getD q default → y = H.getD q default → ((surtitlelaw13_SameCue K (x, y)).bind fun t => sel ((!t) = true) (some false) (itn (surtitlelaw19_DualSet.B42 K (told L) b a (a, H) pp M) k ((i + 1 : Nat) : Int))) = itn (surtitlelaw19_DualSet.B42 K (told L) b a (a, H) pp M) k ((i + 1 : Nat) : Int) := by
      intro x y hx hy
      subst hx hy
      rw [show surtitlelaw13_SameCue K (H.getD q default, H.getD q default) = some true from hk0 K hK, Option.bind_some, sel_neg (by decide)]
    rw [itn, surtitlelaw19_DualSet.B42, surtitlelaw19_DualSet.T42]
    dsimp only
    rw [told_lenI, told_at L i hi, e]
    dsimp only
    rw [lenI_eq b, lenI_eq a, lenI_eq H, succ_w (i := i) (by omega), succ_w (i := q) (by omega), sel_pos (by omega), sel_pos (by omega), sel_pos (by omega), sel_pos (by omega), sel_pos (by omega), sel_pos (by omega), sel_pos (by omega), sel_pos (by omega), sel_pos (by omega), sel_pos (by omega), sel_pos (by omega), sel_pos (by omega), sel_pos (by omega)]
    have zfin : H.getD q default = setTimes (b.getD q default) (a.getD p default) → sel (0 ≤ (q : Int)) (sel ((q : Int) < (H.length : Int)) ((surtitlelaw13_SameCue K (lget H (q : Int) default, setTimes (lget b (q : Int) default) (lget a (p : Int) default))).bind fun t => sel ((!t) = true) (some false) (itn (surtitlelaw19_DualSet.B42 K (told L) b a (a, H) pp M) k ((i + 1 : Nat) : Int))) none) none = itn (surtitlelaw19_DualSet.B42 K (told L) b a (a, H) pp M) k ((i + 1 : Nat) : Int) := fun hz => by
      rw [sel_pos (by omega), sel_pos (by omega)]
      exact fin _ _ rfl hz.symm
    have bfin : H.getD q default = b.getD q default → sel (0 ≤ (q : Int)) (sel ((q : Int) < (b.length : Int)) (sel (0 ≤ (q : Int)) (sel ((q : Int) < (H.length : Int)) ((surtitlelaw13_SameCue K (lget H (q : Int) default, lget b (q : Int) default)).bind fun t => sel ((!t) = true) (some false) (itn (surtitlelaw19_DualSet.B42 K (told L) b a (a, H) pp M) k ((i + 1 : Nat) : Int))) none) none) none) none = itn (surtitlelaw19_DualSet.B42 K (told L) b a (a, H) pp M) k ((i + 1 : Nat) : Int) := fun hz => by
      rw [sel_pos (by omega), sel_pos (by omega), sel_pos (by omega), sel_pos (by omega)]
      exact fin _ _ rfl hz.symm
    -- b's next
    have nxt : (H.getD q default = if q + 1 < b.length ∧ 0 < compareC (setTimes (b.getD q default) (a.getD p default)) (b.getD (q + 1) default) then b.getD q default else setTimes (b.getD q default) (a.getD p default)) →
        sel (((q + 1 : Nat) : Int) = (b.length : Int)) (sel (0 ≤ (q : Int)) (sel ((q : Int) < (H.length : Int)) ((surtitlelaw13_SameCue K (lget H (q : Int) default, setTimes (lget b (q : Int) default) (lget a (p : Int) default))).bind fun t => sel ((!t) = true) (some false) (itn (surtitlelaw19_DualSet.B42 K (told L) b a (a, H) pp M) k ((i + 1 : Nat) : Int))) none) none)
          (sel (0 ≤ ((q + 1 : Nat) : Int)) (sel (((q + 1 : Nat) : Int) < (b.length : Int)) ((cue_Compare K (setTimes (lget b (q : Int) default) (lget a (p : Int) default), lget b ((q + 1 : Nat) : Int) default)).bind fun t6 => sel (t6 ≤ 0) (sel (0 ≤ (q : Int)) (sel ((q : Int) < (H.length : Int)) ((surtitlelaw13_SameCue K (lget H (q : Int) default, setTimes (lget b (q : Int) default) (lget a (p : Int) default))).bind fun t => sel ((!t) = true) (some false) (itn (surtitlelaw19_DualSet.B42 K (told L) b a (a, H) pp M) k ((i + 1 : Nat) : Int))) none) none)
            (sel (0 ≤ (q : Int)) (sel ((q : Int) < (b.length : Int)) (sel (0 ≤ (q : Int)) (sel ((q : Int) < (H.length : Int)) ((surtitlelaw13_SameCue K (lget H (q : Int) default, lget b (q : Int) default)).bind fun t => sel ((!t) = true) (some false) (itn (surtitlelaw19_DualSet.B42 K (told L) b a (a, H) pp M) k ((i + 1 : Nat) : Int))) none) none) none) none)) none) none)
          = itn (surtitlelaw19_DualSet.B42 K (told L) b a (a, H) pp M) k ((i + 1 : Nat) : Int) := fun hz => by
      by_cases c : q + 1 < b.length
      · have hcmp := CO.cmp cz (cb1 c) K
        rw [sel_neg (by omega), sel_pos (by omega), sel_pos (by omega), show cue_Compare K (setTimes (lget b (q : Int) default) (lget a (p : Int) default), lget b ((q + 1 : Nat) : Int) default) = _ from hcmp, Option.bind_some]
        by_cases d : 0 < compareC (setTimes (b.getD q default) (a.getD p default)) (b.getD (q + 1) default)
        · rw [if_pos ⟨c, d⟩] at hz
          rw [sel_neg (by omega)]; exact bfin hz
        · rw [if_neg (fun h => d h.2)] at hz
          rw [sel_pos (by omega)]; exact zfin hz
      · rw [if_neg (fun h => c h.1)] at hz
        rw [sel_pos (by omega)]; exact zfin hz
    by_cases c0 : 0 < q
    · have w2 : wrap64 ((q : Int) - 1) = ((q - 1 : Nat) : Int) := by rw [wrap64_id (by unfold I64; omega)]; omega
      rw [sel_neg (by omega), w2, sel_pos (by omega), sel_pos (by omega)]
      clear w2
      have hcmp := CO.cmp (cH0 c0) cz K
      refine Eq.trans (congrArg (fun t => Option.bind t _) (show cue_Compare K _ = _ from hcmp)) ?_
      rw [Option.bind_some]
      by_cases d : 0 < compareC (H.getD (q - 1) default) (setTimes (b.getD q default) (a.getD p default))
      · rw [if_pos (.inl ⟨c0, d⟩)] at hat
        rw [sel_neg (by omega)]; exact bfin hat
      · rw [sel_pos (by omega)]
        refine nxt (hat.trans ?_)
        simp only [d, and_false, false_or]
    · rw [sel_pos (by omega)]
      refine nxt (hat.trans ?_)
      simp only [c0, false_and, false_or]
end
theorem set_u (k : Nat) (x y : List CuD) : surtitlelaw19_DualSet k (x, y) = (surtitlelaw19_low k x).bind fun t0 => (surtitlelaw19_low k y).bind fun t1 => (dual_Pairs_i k (t0, t1)).bind fun t2 => (dual_Merge k (t0, t1)).bind fun t3 => opt t3.2 ((dual_Apart_i k t3.1).bind fun t5 => sel ((lenI t5.2) = (lenI t1)) (itn (surtitlelaw19_DualSet.B42 k t2 t1 t0 t5 (x, y) t3) k 0) (some false)) fun u4 => (surtitlelaw19_head k ()).bind fun t17 => some t17 := by kernel_rfl
theorem set_tells (x y : List CuD) (hx : ∀ z ∈ x, GC z) (hy : ∀ z ∈ y, GC z) (lx : x.length * 104 ≤ 140737488355328) (ly : y.length * 104 ≤ 140737488355328) : Tells (fun k => surtitlelaw19_DualSet k (x, y)) true := by
  refine Tells.same (fun k => set_u k x y) (Tells.bind (low_tells x lx) (Tells.bind (low_tells y ly) ?_))
  have sa := low_side x
  have sb := low_side y
  have ga := low_GC hx
  have gb := low_GC hy
  generalize x.map (setSide 0) = a at sa ga ⊢
  generalize y.map (setSide 0) = b at sb gb ⊢
  have bad : ¬ (docOK a ∧ docOK b ∧ a.length * b.length ≤ 1048576 ∧ a.length + b.length ≤ 4096) → ∀ (r : List (Int × Int)), Tells (fun k => (dual_Merge k (a, b)).bind fun t3 => opt t3.2 ((dual_Apart_i k t3.1).bind fun t5 => sel ((lenI t5.2) = (lenI b)) (itn (surtitlelaw19_DualSet.B42 k r b a t5 (x, y) t3) k 0) (some false)) fun u4 => (surtitlelaw19_head k ()).bind fun t17 => some t17) true := fun h r => by
    obtain ⟨e', p2⟩ := merge_refused sa sb ga gb h
    exact Tells.bind p2 (Tells.bind head_tells (Tells.const _))
  by_cases h0 : docOK a ∧ docOK b ∧ a.length * b.length ≤ 1048576
  case neg =>
    obtain ⟨e, p1⟩ := pairs_refused ga gb h0
    exact Tells.bind (Tells.map Prod.fst p1) (bad (fun h => h0 ⟨h.1, h.2.1, h.2.2.1⟩) _)
  obtain ⟨ha, hb, hm⟩ := h0
  refine Tells.bind (Tells.map Prod.fst (pairs_tells ga gb ha hb hm)) ?_
  by_cases hl : a.length + b.length ≤ 4096
  case neg => exact bad (fun h => hl h.2.2.2) _
  refine Tells.bind (merge_tells sa sb ga gb ha hb hm hl) ?_
  have dM := merge_docOK sa ha hb hl
  obtain ⟨m1, m2⟩ := merge_apart sa sb ha hb
  have hap := apart_tells (merge_GC ga gb ha hb) dM
  rw [m1, m2] at hap
  refine Tells.bind (Tells.map (fun q => (Prod.fst q, Prod.fst (Prod.snd q))) hap) ?_
  obtain ⟨rx, rl⟩ := rows_in ha hb
  have hr := rowOK_adj (rowsV_ok ha hb).1
  have t := TellsL.diag (set_l ga gb ha hb (rowsV a b) (x, y) (mergeV a b, none) rl rx hr (rowsV a b).length 0 (by omega))
  refine Tells.same (fun k => ?_) t
  exact sel_pos (by rw [lenI_eq, lenI_eq]; show ((hiV a b (rowsV a b)).length : Int) = _; rw [hiV_len])
theorem set_good {t u : TypeId} (P : Program) (hb : P.bytesOf t = 104) (hb' : P.bytesOf u = 104) (p : List CuD × List CuD) (h : Ty.Good (.pr (.sl t CueTy) (.sl u CueTy)) p) (hf : Ty.Fit P (.pr (.sl t CueTy) (.sl u CueTy)) p) : ∃ k, surtitlelaw19_DualSet k p = some true := by
  have h1 := hf.1.1
  have h2 := hf.2.1
  rw [hb] at h1
  rw [hb'] at h2
  have e : reachBytes = 140737488351232 + 0 ∨ reachBytes ≤ 140737488355328 := .inr (by decide)
  exact (set_tells p.1 p.2 (gc_list h.1) (gc_list h.2) (by omega) (by omega)).get
end Go.Proofs.Ytlbicmdfdpcdiaa.F
