import Derived.Test.YtlbicmdfdpcdiaaDlFL1
set_option linter.unusedSectionVars false
-- Printed by a program of this session's; Lean checks it.
set_option linter.unusedVariables false
set_option linter.unusedSimpArgs false
set_option maxRecDepth 100000
namespace Go.Proofs.Ytlbicmdfdpcdiaa.F
open Go.Proofs.Ytlbicmdfdpcdiaa.Vm Go.RowKit
def Bits (x n : Nat) : Prop := x < 2 ^ n ∧ (0 < x → 0 < n ∧ 2 ^ (n - 1) ≤ x)
instance (x n : Nat) : Decidable (Bits x n) := by unfold Bits; infer_instance
theorem lenTab_all : ∀ i : Fin 256, ∃ t : Fin 9, bt math_bits_Len64.str (i.1 : Int) = (t.1 : Int) ∧ Bits i.1 t.1 := by decide +kernel
theorem lenTab_at (i : Nat) (h : i < 256) : ∃ t : Nat, t ≤ 8 ∧ bt math_bits_Len64.str (i : Int) = (t : Int) ∧ Bits i t := by
  obtain ⟨t, h1, h2⟩ := lenTab_all ⟨i, h⟩
  exact ⟨t.1, by omega, h1, h2⟩
theorem strSize : sizeI math_bits_Len64.str = 256 := by kernel_rfl
theorem bits_div (x c t : Nat) (h : Bits (x / 2 ^ c) t) (h0 : 0 < x / 2 ^ c) : Bits x (t + c) := by
  obtain ⟨h1, h2⟩ := h
  have hp : 0 < 2 ^ c := Nat.pow_pos (by omega)
  refine ⟨?_, fun _ => ⟨by have := (h2 h0).1; omega, ?_⟩⟩
  · rw [Nat.pow_add]; exact (Nat.div_lt_iff_lt_mul hp).1 h1
  · have h3 := (h2 h0)
    rw [show t + c - 1 = (t - 1) + c by omega, Nat.pow_add]
    exact (Nat.le_div_iff_mul_le hp).1 h3.2
theorem wrapU8 (n : Int) : IntKind.u8.wrap n = n % 256 := by simp [IntKind.wrap, IntKind.bits, IntKind.signed]
theorem w64 (n : Nat) (h : n ≤ 200) : wrap64 (n : Int) = (n : Int) := by unfold wrap64; omega
theorem len_j7 (k x b : Nat) (hx : x < 256) (hb : b ≤ 100) : ∃ t : Nat, math_bits_Len64.J7 k ((x : Int), (b : Int)) = some ((t + b : Nat) : Int) ∧ t ≤ 8 ∧ Bits x t := by
  obtain ⟨t, ht, e, hB⟩ := lenTab_at x hx
  refine ⟨t, ?_, ht, hB⟩
  unfold math_bits_Len64.J7 math_bits_Len64.J10
  rw [show IntKind.u8.wrap ((x : Int), (b : Int)).1 = (x : Int) by rw [wrapU8]; dsimp only; omega, strSize, sel_pos (by omega), sel_pos (by omega), e, w64 t (by omega)]
  dsimp only
  rw [show ((b : Int) + (t : Int)) = ((t + b : Nat) : Int) by omega, w64 _ (by omega)]
theorem len_j4 (k x b : Nat) (hx : x < 65536) (hb : b ≤ 90) : ∃ t : Nat, math_bits_Len64.J4 k ((x : Int), (b : Int)) = some ((t + b : Nat) : Int) ∧ t ≤ 16 ∧ Bits x t := by
  unfold math_bits_Len64.J4
  dsimp only
  by_cases h : 256 ≤ x
  · rw [sel_pos (by omega), show ((x : Int) / 256) = ((x / 2 ^ 8 : Nat) : Int) by omega, show ((b : Int) + 8) = ((b + 8 : Nat) : Int) by omega, w64 _ (by omega)]
    obtain ⟨t, e, ht, hB⟩ := len_j7 k (x / 2 ^ 8) (b + 8) (by omega) (by omega)
    exact ⟨t + 8, by rw [e]; congr 2; omega, by omega, bits_div _ _ _ hB (by omega)⟩
  · rw [sel_neg (by omega)]
    obtain ⟨t, e, ht, hB⟩ := len_j7 k x b (by omega) (by omega)
    exact ⟨t, e, by omega, hB⟩
theorem len_j1 (k x b : Nat) (hx : x < 4294967296) (hb : b ≤ 70) : ∃ t : Nat, math_bits_Len64.J1 k ((x : Int), (b : Int)) = some ((t + b : Nat) : Int) ∧ t ≤ 32 ∧ Bits x t := by
  unfold math_bits_Len64.J1
  dsimp only
  by_cases h : 65536 ≤ x
  · rw [sel_pos (by omega), show ((x : Int) / 65536) = ((x / 2 ^ 16 : Nat) : Int) by omega, show ((b : Int) + 16) = ((b + 16 : Nat) : Int) by omega, w64 _ (by omega)]
    obtain ⟨t, e, ht, hB⟩ := len_j4 k (x / 2 ^ 16) (b + 16) (by omega) (by omega)
    exact ⟨t + 16, by rw [e]; congr 2; omega, by omega, bits_div _ _ _ hB (by omega)⟩
  · rw [sel_neg (by omega)]
    obtain ⟨t, e, ht, hB⟩ := len_j4 k x b (by omega) (by omega)
    exact ⟨t, e, by omega, hB⟩
theorem len64_tells (k : Nat) (x : Nat) (hx : x < 2 ^ 64) : ∃ t : Nat, math_bits_Len64 k (x : Int) = some (t : Int) ∧ t ≤ 64 ∧ Bits x t := by
  unfold math_bits_Len64
  by_cases h : 4294967296 ≤ x
  · rw [sel_pos (by omega), show ((x : Int) / 4294967296) = ((x / 2 ^ 32 : Nat) : Int) by omega]
    obtain ⟨t, e, ht, hB⟩ := len_j1 k (x / 2 ^ 32) 32 (by omega) (by omega)
    exact ⟨t + 32, e, by omega, bits_div _ _ _ hB (by omega)⟩
  · rw [sel_neg (by omega)]
    obtain ⟨t, e, ht, hB⟩ := len_j1 k x 0 (by omega) (by omega)
    exact ⟨t, by simpa using e, by omega, hB⟩
theorem wrapU (n : Int) : IntKind.u64.wrap n = n % 18446744073709551616 := by simp [IntKind.wrap, IntKind.bits, IntKind.signed]
theorem wrapU_id (n : Nat) (h : n < 18446744073709551616) : IntKind.u64.wrap (n : Int) = n := by rw [wrapU]; omega
theorem wrapU_ok (n : Int) (h₀ : 0 ≤ n) (h₁ : n < 2 ^ 64) : IntKind.u64.wrap n = n := by rw [wrapU]; omega
theorem and_lo32 (n : Nat) (h : n < 18446744073709551616) : Go.bits .and .u64 (n : Int) 4294967295 = ((n % 4294967296 : Nat) : Int) := by
  have := bits_mask .u64 64 (by decide) wrapU_ok 32 (by decide) (n : Int) (by omega) (by omega)
  simpa using this
theorem or_join (i : Nat) (hi : i ≤ 64) (a b : Nat) (ha : a < 18446744073709551616) (hm : a % 2 ^ i = 0) (hb : b < 2 ^ i) : Go.bits .or .u64 (a : Int) (b : Int) = ((a + b : Nat) : Int) := by
  have hp : 2 ^ i ≤ 2 ^ 64 := Nat.pow_le_pow_right (by omega) hi
  have := bits_join .u64 64 (by decide) wrapU_ok i (a : Int) (b : Int) (by omega) (by exact_mod_cast hm) (by omega) (by omega) (by exact_mod_cast hb) (by omega)
  rw [this]; omega
theorem guess {yn1 yn0 N u d qh rh : Nat} (hN : N = yn1 * 4294967296 + yn0) (h0 : yn0 < 4294967296) (h1 : 0 < yn1) (hd : d < 4294967296) (hu : u < N) (e : qh * yn1 + rh = u) (hq : (u * 4294967296 + d) / N ≤ qh) :
    (4294967296 ≤ qh → (u * 4294967296 + d) / N ≤ qh - 1 ∧ 0 < qh) ∧ (4294967296 * rh + d < qh * yn0 → (u * 4294967296 + d) / N ≤ qh - 1 ∧ 0 < qh) ∧
    (qh * yn0 ≤ 4294967296 * rh + d → (u * 4294967296 + d) / N = qh) ∧ (4294967296 ≤ rh → (u * 4294967296 + d) / N = qh) := by
  have hN0 : 0 < N := by omega
  have eN : qh * N = qh * yn1 * 4294967296 + qh * yn0 := by rw [hN, Nat.mul_add, Nat.mul_assoc]
  have lt : (u * 4294967296 + d) / N < 4294967296 := by rw [Nat.div_lt_iff_lt_mul hN0]; omega
  have le : qh * yn0 ≤ 4294967296 * rh + d → (u * 4294967296 + d) / N = qh := by
    intro h
    refine Nat.le_antisymm hq ?_
    rw [Nat.le_div_iff_mul_le hN0]
    omega
  refine ⟨fun h => by omega, fun h => ?_, le, fun h => le ?_⟩
  · have : (u * 4294967296 + d) / N < qh := by
      rw [Nat.div_lt_iff_lt_mul hN0]; omega
    generalize (u * 4294967296 + d) / N = Q at *
    omega
  · have a : qh * yn1 < yn1 * 4294967296 := by omega
    have b : qh < 4294967296 := by
      rw [Nat.mul_comm] at a
      exact Nat.lt_of_mul_lt_mul_left a
    have c : qh * yn0 ≤ 4294967296 * 4294967296 := Nat.mul_le_mul (by omega) (by omega)
    omega
theorem wprod {qh yn0 : Nat} (h : qh < 4294967296) (h0 : yn0 < 4294967296) : IntKind.u64.wrap ((qh : Int) * (yn0 : Int)) = ((qh * yn0 : Nat) : Int) := by
  have c : qh * yn0 ≤ 4294967296 * 4294967295 := Nat.mul_le_mul (by omega) (by omega)
  have : ((qh : Int) * (yn0 : Int)) = ((qh * yn0 : Nat) : Int) := by simp
  rw [this, wrapU_id _ (by omega)]
theorem wsum {rh d : Nat} (h : rh < 4294967296) (hd : d < 4294967296) : IntKind.u64.wrap (IntKind.u64.wrap (4294967296 * (rh : Int)) + (d : Int)) = ((4294967296 * rh + d : Nat) : Int) := by
  rw [show (4294967296 * (rh : Int)) = ((4294967296 * rh : Nat) : Int) by omega, wrapU_id _ (by omega), show (((4294967296 * rh : Nat) : Int) + (d : Int)) = ((4294967296 * rh + d : Nat) : Int) by omega, wrapU_id _ (by omega)]
theorem wrest {u d q N : Nat} (hu : q = (u * 4294967296 + d) / N) (hN : 0 < N) (hM : N < 18446744073709551616) :
    IntKind.u64.wrap (IntKind.u64.wrap (IntKind.u64.wrap ((u : Int) * 4294967296) + (d : Int)) - IntKind.u64.wrap ((q : Int) * (N : Int))) = (((u * 4294967296 + d) % N : Nat) : Int) := by
  have e := Nat.div_add_mod (u * 4294967296 + d) N
  have l := Nat.mod_lt (u * 4294967296 + d) hN
  rw [← hu] at e
  generalize (u * 4294967296 + d) % N = r at *
  have : ((q : Int) * (N : Int)) = ((N * q : Nat) : Int) := by rw [Nat.mul_comm]; simp
  rw [this]
  generalize N * q = p at *
  simp only [wrapU]
  omega
structure DivC (N s : Nat) (t0 y : Int) : Prop where
  s64 : s ≤ 64
  s0 : IntKind.u64.wrap t0 = (s : Int)
  n0 : IntKind.u64.wrap (y * (2 ^ (min (Int.toNat (IntKind.u64.wrap t0)) 64))) = (N : Int)
theorem pw_eq' (n : Nat) : pw n = ((2 ^ n : Nat) : Int) := by
  unfold pw
  split <;> rfl
theorem div_j37 {N s u d q1 q : Nat} {t0 : Int} {p : Int × (Int × Int)} (c : DivC N s t0 p.2.2) (hN0 : 0 < N) (hNM : N < 18446744073709551616) (hu : u < N) (hd : d < 4294967296) (hq1 : q1 < 4294967296) (k : Nat) (hq : (u * 4294967296 + d) / N = q) :
    math_bits_Div64.J37 k t0 (u : Int) (d : Int) p (q1 : Int) (q : Int) = some (((q1 * 4294967296 + (u * 4294967296 + d) / N : Nat) : Int), (((u * 4294967296 + d) % N / 2 ^ s : Nat) : Int)) := by
  have lt : (u * 4294967296 + d) / N < 4294967296 := by rw [Nat.div_lt_iff_lt_mul hN0]; omega
  have h64 := c.s64
  unfold math_bits_Div64.J37 math_bits_Div64.J54
  rw [c.n0, c.s0, sel_neg (by omega), wrest hq.symm hN0 hNM, hq]
  have e1 : IntKind.u64.wrap (IntKind.u64.wrap ((q1 : Int) * 4294967296) + (q : Int)) = ((q1 * 4294967296 + q : Nat) : Int) := by
    rw [show ((q1 : Int) * 4294967296) = ((q1 * 4294967296 : Nat) : Int) by omega, wrapU_id _ (by omega), show (((q1 * 4294967296 : Nat) : Int) + (q : Int)) = ((q1 * 4294967296 + q : Nat) : Int) by omega, wrapU_id _ (by omega)]
  rw [e1, show min (Int.toNat (s : Int)) 64 = s by simp; omega, pw_eq']
  simp
theorem div_l1 {yn1 yn0 N u d s q1 : Nat} {t0 : Int} {p : Int × (Int × Int)} (c : DivC N s t0 p.2.2) (hN : N = yn1 * 4294967296 + yn0) (h0 : yn0 < 4294967296) (h1 : 2147483648 ≤ yn1) (h1' : yn1 < 4294967296) (hd : d < 4294967296) (hu : u < N) (hq1 : q1 < 4294967296) (K : Nat) (f : Nat) :
    ∀ (k qh rh : Nat), f ≤ k → rh < 4294967296 → 4294967296 ≤ rh + f * yn1 → qh * yn1 + rh = u → (u * 4294967296 + d) / N ≤ qh → qh < 8589934592 →
      itn (math_bits_Div64.B46 K p t0 (d : Int) (yn0 : Int) (q1 : Int) (u : Int)) k ((rh : Int), (qh : Int)) = some (((q1 * 4294967296 + (u * 4294967296 + d) / N : Nat) : Int), (((u * 4294967296 + d) % N / 2 ^ s : Nat) : Int)) := by
  have hN0 : 0 < N := by omega
  have hNM : N < 18446744073709551616 := by omega
  have hY : ((N : Int) / 4294967296) = (yn1 : Int) := by omega
  have hlast : ∀ q : Nat, (u * 4294967296 + d) / N = q → math_bits_Div64.J37 K t0 (u : Int) (d : Int) p (q1 : Int) (q : Int) =
        some (((q1 * 4294967296 + (u * 4294967296 + d) / N : Nat) : Int), (((u * 4294967296 + d) % N / 2 ^ s : Nat) : Int)) :=
    fun q hq => div_j37 c hN0 hNM hu hd hq1 K hq
  induction f with
  | zero => intro k qh rh _ h2 h3; omega
  | succ f ih =>
    intro k qh rh hk h2 h3 e hq hb
    obtain ⟨k, rfl⟩ : ∃ m, k = m + 1 := ⟨k - 1, by omega⟩
    obtain ⟨ga, gb, gc, _⟩ := guess hN h0 (by omega) hd hu e hq
    have w1 : IntKind.u64.wrap ((rh : Int) + (yn1 : Int)) = ((rh + yn1 : Nat) : Int) := by
      rw [show ((rh : Int) + (yn1 : Int)) = ((rh + yn1 : Nat) : Int) by omega, wrapU_id _ (by omega)]
    have yes : ∀ w : Int, w = ((rh + yn1 : Nat) : Int) → (u * 4294967296 + d) / N ≤ qh - 1 → 0 < qh →
        sel (4294967296 ≤ w) (math_bits_Div64.J37 K t0 (u : Int) (d : Int) p (q1 : Int) (IntKind.u64.wrap ((qh : Int) - 1))) (itn (math_bits_Div64.B46 K p t0 (d : Int) (yn0 : Int) (q1 : Int) (u : Int)) k (w, IntKind.u64.wrap ((qh : Int) - 1))) =
        some (((q1 * 4294967296 + (u * 4294967296 + d) / N : Nat) : Int), (((u * 4294967296 + d) % N / 2 ^ s : Nat) : Int)) := by
      rintro w rfl g1 g2
      have e' : (qh - 1) * yn1 + (rh + yn1) = u := by
        obtain ⟨p, rfl⟩ : ∃ p, qh = p + 1 := ⟨qh - 1, by omega⟩
        rw [Nat.add_mul] at e
        simp
        omega
      have w2 : IntKind.u64.wrap ((qh : Int) - 1) = ((qh - 1 : Nat) : Int) := by
        rw [show ((qh : Int) - 1) = ((qh - 1 : Nat) : Int) by omega, wrapU_id _ (by omega)]
      rw [w2]
      by_cases hr : 4294967296 ≤ rh + yn1
      · rw [sel_pos (by omega)]
        obtain ⟨_, _, _, gd⟩ := guess hN h0 (by omega) hd hu e' g1
        exact hlast _ (gd hr)
      · rw [sel_neg (by omega)]
        exact ih k (qh - 1) (rh + yn1) (by omega) (by omega) (by rw [Nat.succ_mul] at h3; omega) e' g1 (by omega)
    rw [itn, math_bits_Div64.B46, math_bits_Div64.T46, math_bits_Div64.J49, math_bits_Div64.J52]
    dsimp only
    rw [c.n0, hY, w1]
    by_cases hB : 4294967296 ≤ qh
    · rw [sel_pos (by omega)]
      exact yes _ rfl (ga hB).1 (ga hB).2
    · rw [sel_neg (by omega), wprod (by omega) h0, wsum h2 hd]
      by_cases hT : 4294967296 * rh + d < qh * yn0
      · rw [sel_pos (by omega)]
        exact yes _ rfl (gb hT).1 (gb hT).2
      · rw [sel_neg (by omega)]
        exact hlast _ (gc (by omega))
theorem guess0 {yn1 yn0 N u d : Nat} (hN : N = yn1 * 4294967296 + yn0) (h0 : yn0 < 4294967296) (h1 : 2147483648 ≤ yn1) (h1' : yn1 < 4294967296) (hd : d < 4294967296) (hu : u < N) :
    (u * 4294967296 + d) / N ≤ u / yn1 ∧ u / yn1 < 8589934592 ∧ u / yn1 * yn1 + u % yn1 = u ∧ u % yn1 < yn1 := by
  refine ⟨?_, ?_, ?_, Nat.mod_lt _ (by omega)⟩
  · have a : (u * 4294967296 + d) / N ≤ (u * 4294967296 + d) / (4294967296 * yn1) := Nat.div_le_div_left (by omega) (by omega)
    rw [← Nat.div_div_eq_div_mul, show (u * 4294967296 + d) / 4294967296 = u by omega] at a
    exact a
  · rw [Nat.div_lt_iff_lt_mul (by omega)]; omega
  · have := Nat.div_add_mod u yn1; rw [Nat.mul_comm] at this; exact this
theorem wguess {u yn1 : Nat} (h : 0 < yn1) (hu : u < 18446744073709551616) : IntKind.u64.wrap (Int.tdiv (u : Int) (yn1 : Int)) = ((u / yn1 : Nat) : Int) ∧
    IntKind.u64.wrap ((u : Int) - IntKind.u64.wrap (((u / yn1 : Nat) : Int) * (yn1 : Int))) = ((u % yn1 : Nat) : Int) := by
  have e := Nat.div_add_mod u yn1
  have l := Nat.div_le_self u yn1
  have l2 := Nat.mod_le u yn1
  constructor
  · rw [Int.tdiv_eq_ediv_of_nonneg (by omega), show ((u : Int) / (yn1 : Int)) = ((u / yn1 : Nat) : Int) by simp, wrapU_id _ (by omega)]
  · rw [show (((u / yn1 : Nat) : Int) * (yn1 : Int)) = ((yn1 * (u / yn1) : Nat) : Int) by rw [Nat.mul_comm]; simp]
    generalize yn1 * (u / yn1) = p at *
    rw [wrapU_id _ (by omega), show ((u : Int) - (p : Int)) = ((u % yn1 : Nat) : Int) by omega, wrapU_id _ (by omega)]
theorem div_j17 {yn1 yn0 N u d1 d0 s : Nat} {t0 : Int} {p : Int × (Int × Int)} (c : DivC N s t0 p.2.2) (hN : N = yn1 * 4294967296 + yn0) (h0 : yn0 < 4294967296) (h1 : 2147483648 ≤ yn1) (h1' : yn1 < 4294967296) (hd1 : d1 < 4294967296) (hd0 : d0 < 4294967296) (hu : u < N) (k : Nat) (hk : 7 ≤ k)
    (hx : (IntKind.u64.wrap (p.2.1 * (2 ^ (min (Int.toNat (IntKind.u64.wrap t0)) 64)))) / 4294967296 = (d1 : Int)) :
    math_bits_Div64.J17 k (fun p t0 j14 j10 j17 j34 v46 => math_bits_Div64.L46 k p t0 j14 j10 j17 j34 v46) (u : Int) p t0 (d0 : Int) (yn0 : Int) (((u * 4294967296 + d1) / N : Nat) : Int) =
      some ((((u * 4294967296 + d1) / N * 4294967296 + ((u * 4294967296 + d1) % N * 4294967296 + d0) / N : Nat) : Int), ((((u * 4294967296 + d1) % N * 4294967296 + d0) % N / 2 ^ s : Nat) : Int)) := by
  have hN0 : 0 < N := by omega
  have lr := Nat.mod_lt (u * 4294967296 + d1) hN0
  have lq : (u * 4294967296 + d1) / N < 4294967296 := by rw [Nat.div_lt_iff_lt_mul hN0]; omega
  have hr := wrest (q := (u * 4294967296 + d1) / N) (d := d1) (u := u) rfl hN0 (by omega)
  have hY : ((N : Int) / 4294967296) = (yn1 : Int) := by omega
  unfold math_bits_Div64.J17 math_bits_Div64.J34 math_bits_Div64.J35 math_bits_Div64.J36 math_bits_Div64.L46
  rw [hx, c.n0, hY, hr, sel_neg (by omega)]
  obtain ⟨r, er⟩ : ∃ r, (u * 4294967296 + d1) % N = r := ⟨_, rfl⟩
  simp only [er] at lr ⊢
  clear hr
  obtain ⟨w1, w2⟩ := wguess (u := r) (yn1 := yn1) (by omega) (by omega)
  rw [w1, w2]
  obtain ⟨g1, g2, g3, g4⟩ := guess0 hN h0 h1 h1' hd0 lr
  exact div_l1 c hN h0 h1 h1' hd0 lr lq k 2 k _ _ (by omega) (by omega) (by omega) g3 g1 g2
theorem div_l0 {yn1 yn0 N u d1 d0 s : Nat} {t0 : Int} {p : Int × (Int × Int)} (c : DivC N s t0 p.2.2) (hN : N = yn1 * 4294967296 + yn0) (h0 : yn0 < 4294967296) (h1 : 2147483648 ≤ yn1) (h1' : yn1 < 4294967296) (hd1 : d1 < 4294967296) (hd0 : d0 < 4294967296) (hu : u < N) (K : Nat) (hK : 7 ≤ K)
    (hx : (IntKind.u64.wrap (p.2.1 * (2 ^ (min (Int.toNat (IntKind.u64.wrap t0)) 64)))) / 4294967296 = (d1 : Int)) (f : Nat) :
    ∀ (k qh rh : Nat), f ≤ k → rh < 4294967296 → 4294967296 ≤ rh + f * yn1 → qh * yn1 + rh = u → (u * 4294967296 + d1) / N ≤ qh → qh < 8589934592 →
      itn (math_bits_Div64.B26 K p t0 (yn0 : Int) (u : Int) (d0 : Int)) k ((qh : Int), (rh : Int)) =
      some ((((u * 4294967296 + d1) / N * 4294967296 + ((u * 4294967296 + d1) % N * 4294967296 + d0) / N : Nat) : Int), ((((u * 4294967296 + d1) % N * 4294967296 + d0) % N / 2 ^ s : Nat) : Int)) := by
  have hN0 : 0 < N := by omega
  have hY : ((N : Int) / 4294967296) = (yn1 : Int) := by omega
  have fin : ∀ q : Nat, (u * 4294967296 + d1) / N = q → math_bits_Div64.J17 K (fun p t0 j14 j10 j17 j34 v46 => math_bits_Div64.L46 K p t0 j14 j10 j17 j34 v46) (u : Int) p t0 (d0 : Int) (yn0 : Int) (q : Int) =
      some ((((u * 4294967296 + d1) / N * 4294967296 + ((u * 4294967296 + d1) % N * 4294967296 + d0) / N : Nat) : Int), ((((u * 4294967296 + d1) % N * 4294967296 + d0) % N / 2 ^ s : Nat) : Int)) := by
    rintro q rfl
    exact div_j17 c hN h0 h1 h1' hd1 hd0 hu K hK hx
  induction f with
  | zero => intro k qh rh _ h2 h3; omega
  | succ f ih =>
    intro k qh rh hk h2 h3 e hq hb
    obtain ⟨k, rfl⟩ : ∃ m, k = m + 1 := ⟨k - 1, by omega⟩
    obtain ⟨ga, gb, gc, _⟩ := guess hN h0 (by omega) hd1 hu e hq
    have w1 : IntKind.u64.wrap ((rh : Int) + (yn1 : Int)) = ((rh + yn1 : Nat) : Int) := by
      rw [show ((rh : Int) + (yn1 : Int)) = ((rh + yn1 : Nat) : Int) by omega, wrapU_id _ (by omega)]
    have yes : ∀ w : Int, w = ((rh + yn1 : Nat) : Int) → (u * 4294967296 + d1) / N ≤ qh - 1 → 0 < qh →
        sel (4294967296 ≤ w) (math_bits_Div64.J17 K (fun p t0 j14 j10 j17 j34 v46 => math_bits_Div64.L46 K p t0 j14 j10 j17 j34 v46) (u : Int) p t0 (d0 : Int) (yn0 : Int) (IntKind.u64.wrap ((qh : Int) - 1))) (itn (math_bits_Div64.B26 K p t0 (yn0 : Int) (u : Int) (d0 : Int)) k (IntKind.u64.wrap ((qh : Int) - 1), w)) =
        some ((((u * 4294967296 + d1) / N * 4294967296 + ((u * 4294967296 + d1) % N * 4294967296 + d0) / N : Nat) : Int), ((((u * 4294967296 + d1) % N * 4294967296 + d0) % N / 2 ^ s : Nat) : Int)) := by
      rintro w rfl g1 g2
      have e' : (qh - 1) * yn1 + (rh + yn1) = u := by
        obtain ⟨p, rfl⟩ : ∃ p, qh = p + 1 := ⟨qh - 1, by omega⟩
        rw [Nat.add_mul] at e
        simp
        omega
      have w2 : IntKind.u64.wrap ((qh : Int) - 1) = ((qh - 1 : Nat) : Int) := by
        rw [show ((qh : Int) - 1) = ((qh - 1 : Nat) : Int) by omega, wrapU_id _ (by omega)]
      rw [w2]
      by_cases hr : 4294967296 ≤ rh + yn1
      · rw [sel_pos (by omega)]
        obtain ⟨_, _, _, gd⟩ := guess hN h0 (by omega) hd1 hu e' g1
        exact fin _ (gd hr)
      · rw [sel_neg (by omega)]
        exact ih k (qh - 1) (rh + yn1) (by omega) (by omega) (by rw [Nat.succ_mul] at h3; omega) e' g1 (by omega)
    rw [itn, math_bits_Div64.B26, math_bits_Div64.T26, math_bits_Div64.J29, math_bits_Div64.J32]
    dsimp only
    rw [hx, c.n0, hY, w1]
    by_cases hB : 4294967296 ≤ qh
    · rw [sel_pos (by omega)]
      exact yes _ rfl (ga hB).1 (ga hB).2
    · rw [sel_neg (by omega), wprod (by omega) h0, wsum h2 hd1]
      by_cases hT : 4294967296 * rh + d1 < qh * yn0
      · rw [sel_pos (by omega)]
        exact yes _ rfl (gb hT).1 (gb hT).2
      · rw [sel_neg (by omega)]
        exact fin _ (gc (by omega))
theorem two_digits {N u d1 d0 : Nat} (hN : 0 < N) : (u * 4294967296 + d1) / N * 4294967296 + ((u * 4294967296 + d1) % N * 4294967296 + d0) / N = (u * 18446744073709551616 + d1 * 4294967296 + d0) / N ∧
    ((u * 4294967296 + d1) % N * 4294967296 + d0) % N = (u * 18446744073709551616 + d1 * 4294967296 + d0) % N := by
  have e1 := Nat.div_add_mod (u * 4294967296 + d1) N
  obtain ⟨q1, eq1⟩ : ∃ r, (u * 4294967296 + d1) / N = r := ⟨_, rfl⟩
  obtain ⟨r1, er1⟩ : ∃ r, (u * 4294967296 + d1) % N = r := ⟨_, rfl⟩
  simp only [eq1, er1] at e1 ⊢
  have e : u * 18446744073709551616 + d1 * 4294967296 + d0 = N * (q1 * 4294967296) + (r1 * 4294967296 + d0) := by
    rw [← Nat.mul_assoc]; omega
  rw [e]
  constructor
  · rw [Nat.mul_add_div hN]
  · rw [Nat.mul_add_mod]
theorem div64_tells (hi lo y : Nat) (h1 : hi < y) (h2 : y < 18446744073709551616) (h3 : lo < 18446744073709551616) (k : Nat) (hk : 20 ≤ k) :
    math_bits_Div64 k ((hi : Int), ((lo : Int), (y : Int))) = some ((((hi * 18446744073709551616 + lo) / y : Nat) : Int), (((hi * 18446744073709551616 + lo) % y : Nat) : Int)) := by
  unfold math_bits_Div64 math_bits_Div64.M
  dsimp only
  rw [sel_neg (by omega), sel_neg (by omega)]
  by_cases h0 : hi = 0
  · subst h0
    rw [sel_pos (by omega), sel_neg (by omega), sel_neg (by omega)]
    simp only [Nat.zero_mul, Nat.zero_add]
    rw [Int.tdiv_eq_ediv_of_nonneg (by omega), Int.tmod_eq_emod_of_nonneg (by omega), show ((lo : Int) / (y : Int)) = ((lo / y : Nat) : Int) by simp, wrapU_id _ (Nat.lt_of_le_of_lt (Nat.div_le_self _ _) h3)]
    simp
  · rw [sel_neg (by omega)]
    obtain ⟨t, e, ht, hB⟩ := len64_tells k y h2
    obtain ⟨b1, b2⟩ := hB
    have b2 := b2 (by omega)
    unfold math_bits_LeadingZeros64
    rw [e]
    simp only [Option.bind_some]
    obtain ⟨s, hs⟩ : ∃ s : Nat, t + s = 64 := ⟨64 - t, by omega⟩
    have w0 : IntKind.u64.wrap (wrap64 (64 - (t : Int))) = (s : Int) := by
      rw [show wrap64 (64 - (t : Int)) = (s : Int) by unfold wrap64; omega, wrapU_id _ (by omega)]
    generalize wrap64 (64 - (t : Int)) = t0 at *
    have w1 : IntKind.u64.wrap (64 - (s : Int)) = (t : Int) := by
      rw [show (64 - (s : Int)) = (t : Int) by omega, wrapU_id _ (by omega)]
    have pS : 0 < 2 ^ s := Nat.two_pow_pos s
    have pT : 0 < 2 ^ t := Nat.two_pow_pos t
    have pp : 2 ^ t * 2 ^ s = 18446744073709551616 := by rw [← Nat.pow_add, hs]
    have pq : 2 ^ (t - 1) * 2 ^ s = 9223372036854775808 := by rw [← Nat.pow_add, show t - 1 + s = 63 by omega]
    have hN1 : y * 2 ^ s < 18446744073709551616 := by rw [← pp]; exact (Nat.mul_lt_mul_right pS).2 b1
    have hN2 : 9223372036854775808 ≤ y * 2 ^ s := by rw [← pq]; exact Nat.mul_le_mul_right _ b2.2
    have smin : min (Int.toNat (s : Int)) 64 = s := by simp; omega
    have tmin : min (Int.toNat (t : Int)) 64 = t := by simp; omega
    have c1 : IntKind.u64.wrap ((y : Int) * (2 ^ (min (Int.toNat (IntKind.u64.wrap t0)) 64))) = ((y * 2 ^ s : Nat) : Int) := by
      rw [w0, smin, show ((y : Int) * 2 ^ s) = ((y * 2 ^ s : Nat) : Int) by simp, wrapU_id _ hN1]
    have hH : hi * 2 ^ s < 18446744073709551616 := Nat.lt_of_le_of_lt (Nat.mul_le_mul_right _ (by omega)) hN1
    have c2 : IntKind.u64.wrap ((hi : Int) * (2 ^ (min (Int.toNat (IntKind.u64.wrap t0)) 64))) = ((hi * 2 ^ s : Nat) : Int) := by
      rw [w0, smin, show ((hi : Int) * 2 ^ s) = ((hi * 2 ^ s : Nat) : Int) by simp, wrapU_id _ hH]
    have c3 : (lo : Int) / (pw (min (Int.toNat (t : Int)) 64)) = ((lo / 2 ^ t : Nat) : Int) := by
      rw [tmin, pw_eq']; simp
    have hL : lo / 2 ^ t < 2 ^ s := by rw [Nat.div_lt_iff_lt_mul pT, Nat.mul_comm, pp]; exact h3
    have c4 : Go.bits .or .u64 ((hi * 2 ^ s : Nat) : Int) ((lo / 2 ^ t : Nat) : Int) = ((hi * 2 ^ s + lo / 2 ^ t : Nat) : Int) := or_join s (by omega) _ _ hH (Nat.mul_mod_left _ _) hL
    have c5 : IntKind.u64.wrap ((lo : Int) * (2 ^ (min (Int.toNat (IntKind.u64.wrap t0)) 64))) = ((lo * 2 ^ s % 18446744073709551616 : Nat) : Int) := by
      rw [w0, smin, show ((lo : Int) * 2 ^ s) = ((lo * 2 ^ s : Nat) : Int) by simp, wrapU]; omega
    have c : DivC (y * 2 ^ s) s t0 (y : Int) := ⟨by omega, w0, c1⟩
    have hL0 : lo * 2 ^ s % 18446744073709551616 < 18446744073709551616 := Nat.mod_lt _ (by omega)
    unfold math_bits_Div64.J10 math_bits_Div64.J11 math_bits_Div64.J14 math_bits_Div64.J15 math_bits_Div64.J16 math_bits_Div64.L26
    dsimp only
    rw [c2, c5, c1, w0, w1, c3, c4, sel_neg (by omega), sel_neg (by omega), sel_neg (by omega), sel_neg (by omega), and_lo32 _ hN1, and_lo32 _ hL0]
    have el : lo * 2 ^ s % 18446744073709551616 + lo / 2 ^ t * 18446744073709551616 = lo * 2 ^ s := by
      have a : lo * 2 ^ s / 18446744073709551616 = lo / 2 ^ t := by
        rw [← pp, Nat.mul_div_mul_right _ _ pS]
      have b := Nat.div_add_mod (lo * 2 ^ s) 18446744073709551616
      rw [a] at b
      omega
    have hU : hi * 2 ^ s + lo / 2 ^ t < y * 2 ^ s := by
      have : (hi + 1) * 2 ^ s ≤ y * 2 ^ s := Nat.mul_le_mul_right _ (by omega)
      rw [Nat.add_mul] at this
      omega
    have eX : (hi * 2 ^ s + lo / 2 ^ t) * 18446744073709551616 + lo * 2 ^ s % 18446744073709551616 = (hi * 18446744073709551616 + lo) * 2 ^ s := by
      rw [Nat.add_mul, Nat.add_mul, Nat.mul_right_comm]; omega
    have q1 : (hi * 18446744073709551616 + lo) * 2 ^ s / (y * 2 ^ s) = (hi * 18446744073709551616 + lo) / y := Nat.mul_div_mul_right _ _ pS
    have q2 : (hi * 18446744073709551616 + lo) * 2 ^ s % (y * 2 ^ s) / 2 ^ s = (hi * 18446744073709551616 + lo) % y := by
      rw [Nat.mul_mod_mul_right, Nat.mul_div_cancel _ pS]
    rw [← q1, ← q2, ← eX]
    have hx : (IntKind.u64.wrap ((lo : Int) * (2 ^ (min (Int.toNat (IntKind.u64.wrap t0)) 64)))) / 4294967296 = ((lo * 2 ^ s % 18446744073709551616 / 4294967296 : Nat) : Int) := by rw [c5]; omega
    generalize hi * 2 ^ s + lo / 2 ^ t = u at *
    generalize lo * 2 ^ s % 18446744073709551616 = L at *
    generalize y * 2 ^ s = N at *
    clear eX q1 q2 el hL c1 c2 c3 c4 c5 hH pp pq
    have hE : N = N / 4294967296 * 4294967296 + N % 4294967296 := by omega
    have b1' : 2147483648 ≤ N / 4294967296 := by omega
    have b2' : N / 4294967296 < 4294967296 := by omega
    have b3' : N % 4294967296 < 4294967296 := by omega
    have d1' : L / 4294967296 < 4294967296 := by omega
    have d2' : L % 4294967296 < 4294967296 := by omega
    have eL : u * 18446744073709551616 + L = u * 18446744073709551616 + L / 4294967296 * 4294967296 + L % 4294967296 := by omega
    have hNd : ((N : Int) / 4294967296) = ((N / 4294967296 : Nat) : Int) := by omega
    rw [eL, hNd]
    generalize N / 4294967296 = yn1 at *
    generalize N % 4294967296 = yn0 at *
    generalize L / 4294967296 = d1 at *
    generalize L % 4294967296 = d0 at *
    rw [sel_neg (by omega)]
    obtain ⟨g1, g2, g3, g4⟩ := guess0 hE b3' b1' b2' d1' hU
    obtain ⟨w4, w5⟩ := wguess (u := u) (yn1 := yn1) (by omega) (by omega)
    rw [w4, w5, div_l0 (p := ((hi : Int), ((lo : Int), (y : Int)))) c hE b3' b1' b2' d1' d2' hU k (by omega) hx 2 k _ _ (by omega) (by omega) (by omega) g3 g1 g2, (two_digits (by omega)).1, (two_digits (by omega)).2]
end Go.Proofs.Ytlbicmdfdpcdiaa.F
-- Printed by a program of this session's; Lean checks it.
set_option linter.unusedVariables false
set_option linter.unusedSimpArgs false
set_option maxRecDepth 100000
namespace Go.Proofs.Ytlbicmdfdpcdiaa.F
open Go.Proofs.Ytlbicmdfdpcdiaa.Vm Go.RowKit
def Tells {α : Type} (f : Nat → Option α) (v : α) : Prop := ∃ k0, ∀ k, k0 ≤ k → f k = some v
theorem Tells.const {α : Type} (v : α) : Tells (fun _ => some v) v := ⟨0, fun _ _ => rfl⟩
theorem Tells.bind {α β : Type} {f : Nat → Option α} {g : Nat → α → Option β} {v : α} {u : β} (h1 : Tells f v) (h2 : Tells (fun k => g k v) u) : Tells (fun k => (f k).bind (g k)) u := by
  obtain ⟨a, ha⟩ := h1
  obtain ⟨b, hb⟩ := h2
  exact ⟨max a b, fun k hk => by show (f k).bind (g k) = _; rw [ha k (by omega)]; exact hb k (by omega)⟩
theorem Tells.step {α : Type} {f g : Nat → Option α} {v : α} (he : ∀ k, f (k + 1) = g k) (h : Tells g v) : Tells f v := by
  obtain ⟨a, ha⟩ := h
  refine ⟨a + 1, fun k hk => ?_⟩
  obtain ⟨j, rfl⟩ : ∃ j, k = j + 1 := ⟨k - 1, by omega⟩
  rw [he]; exact ha j (by omega)
theorem Tells.same {α : Type} {f g : Nat → Option α} {v : α} (he : ∀ k, f k = g k) (h : Tells g v) : Tells f v := by
  obtain ⟨a, ha⟩ := h
  exact ⟨a, fun k hk => by rw [he]; exact ha k hk⟩
theorem Tells.get {α : Type} {f : Nat → Option α} {v : α} (h : Tells f v) : ∃ k, f k = some v := h.elim fun k hk => ⟨k, hk k (Nat.le_refl _)⟩
theorem Tells.spos {α : Type} {c : Prop} [Decidable c] {f g : Nat → Option α} {v : α} (h : c) (hf : Tells f v) : Tells (fun k => sel c (f k) (g k)) v := Tells.same (fun k => sel_pos h) hf
theorem Tells.sneg {α : Type} {c : Prop} [Decidable c] {f g : Nat → Option α} {v : α} (h : ¬ c) (hg : Tells g v) : Tells (fun k => sel c (f k) (g k)) v := Tells.same (fun k => sel_neg h) hg
def TellsL {α : Type} (f : Nat → Nat → Option α) (v : α) : Prop := ∃ a, ∀ K m, a ≤ K → a ≤ m → f K m = some v
theorem TellsL.diag {α : Type} {f : Nat → Nat → Option α} {v : α} (h : TellsL f v) : Tells (fun K => f K K) v := h.elim fun a ha => ⟨a, fun k hk => ha k k hk hk⟩
theorem TellsL.of {α : Type} {f : Nat → Option α} {v : α} (h : Tells f v) : TellsL (fun K _ => f K) v := h.elim fun a ha => ⟨a, fun K _ hK _ => ha K hK⟩
theorem TellsL.const {α : Type} (v : α) : TellsL (fun _ _ => some v) v := ⟨0, fun _ _ _ _ => rfl⟩
theorem TellsL.step {α : Type} {f g : Nat → Nat → Option α} {v : α} (he : ∀ K m, f K (m + 1) = g K m) (h : TellsL g v) : TellsL f v := by
  obtain ⟨a, ha⟩ := h
  refine ⟨a + 1, fun K m hK hm => ?_⟩
  obtain ⟨j, rfl⟩ : ∃ j, m = j + 1 := ⟨m - 1, by omega⟩
  rw [he]; exact ha K j (by omega) (by omega)
theorem TellsL.bind {α β : Type} {f : Nat → Option α} {g : Nat → Nat → α → Option β} {v : α} {u : β} (h1 : Tells f v) (h2 : TellsL (fun K m => g K m v) u) : TellsL (fun K m => (f K).bind (g K m)) u := by
  obtain ⟨a, ha⟩ := h1
  obtain ⟨b, hb⟩ := h2
  exact ⟨max a b, fun K m hK hm => by show (f K).bind (g K m) = _; rw [ha K (by omega)]; exact hb K m (by omega) (by omega)⟩
theorem TellsL.same {α : Type} {f g : Nat → Nat → Option α} {v : α} (he : ∀ K m, f K m = g K m) (h : TellsL g v) : TellsL f v := by
  obtain ⟨a, ha⟩ := h
  exact ⟨a, fun K m hK hm => by rw [he]; exact ha K m hK hm⟩
theorem TellsL.spos {α : Type} {c : Prop} [Decidable c] {f g : Nat → Nat → Option α} {v : α} (h : c) (hf : TellsL f v) : TellsL (fun K m => sel c (f K m) (g K m)) v := TellsL.same (fun _ _ => sel_pos h) hf
theorem TellsL.sneg {α : Type} {c : Prop} [Decidable c] {f g : Nat → Nat → Option α} {v : α} (h : ¬ c) (hg : TellsL g v) : TellsL (fun K m => sel c (f K m) (g K m)) v := TellsL.same (fun _ _ => sel_neg h) hg
def I64 (a : Int) : Prop := -9223372036854775808 ≤ a ∧ a < 9223372036854775808
theorem I64.of_wf {a : Int} (h : (Lit.int .i64 a).wf = true) : I64 a := by
  simp only [Lit.wf, IntKind.min, IntKind.max, IntKind.signed, IntKind.bits, Bool.and_eq_true, decide_eq_true_eq, if_true] at h
  unfold I64; omega
theorem wrap64_id {a : Int} (h : I64 a) : wrap64 a = a := by
  unfold I64 at h; unfold wrap64; omega
theorem size_tells {a : Int} (h : I64 a) (k : Nat) : ratio_size k a = some (a.natAbs : Int) := by
  unfold ratio_size
  unfold I64 at h
  rw [sel_eq]
  split
  · rw [wrapU, wrapU]
    unfold wrap64
    congr 1; omega
  · rw [wrapU]
    congr 1; omega
theorem small_tells (a : Int) (k : Nat) : ratio_small k a = some (0, a) := rfl
theorem mul64_tells (a b : Nat) (ha : a < 18446744073709551616) (hb : b < 18446744073709551616) (k : Nat) :
    math_bits_Mul64 k ((a : Int), (b : Int)) = some (((a * b / 18446744073709551616 : Nat) : Int), ((a * b % 18446744073709551616 : Nat) : Int)) := by
  unfold math_bits_Mul64 math_bits_Mul64.J6 math_bits_Mul64.J9 math_bits_Mul64.J10
  dsimp only
  rw [and_lo32 a ha, and_lo32 b hb]
  have ea := Nat.div_add_mod a 4294967296
  have eb := Nat.div_add_mod b 4294967296
  have la := Nat.mod_lt a (show 0 < 4294967296 by decide)
  have lb := Nat.mod_lt b (show 0 < 4294967296 by decide)
  have ha1 : a / 4294967296 < 4294967296 := by omega
  have hb1 : b / 4294967296 < 4294967296 := by omega
  obtain ⟨a1, ea1⟩ : ∃ x, a / 4294967296 = x := ⟨_, rfl⟩
  obtain ⟨a0, ea0⟩ : ∃ x, a % 4294967296 = x := ⟨_, rfl⟩
  obtain ⟨b1, eb1⟩ : ∃ x, b / 4294967296 = x := ⟨_, rfl⟩
  obtain ⟨b0, eb0⟩ : ∃ x, b % 4294967296 = x := ⟨_, rfl⟩
  have c1 : ((a : Int) / 4294967296) = (a1 : Int) := by rw [← ea1]; rfl
  have c2 : ((b : Int) / 4294967296) = (b1 : Int) := by rw [← eb1]; rfl
  rw [c1, c2, ea0, eb0]
  rw [ea1, ea0] at ea
  rw [eb1, eb0] at eb
  rw [ea1] at ha1
  rw [eb1] at hb1
  rw [ea0] at la
  rw [eb0] at lb
  clear c1 c2 ea1 ea0 eb1 eb0
  subst ea eb
  have p11 : a1 * b1 ≤ 4294967295 * 4294967295 := Nat.mul_le_mul (by omega) (by omega)
  have p10 : a1 * b0 ≤ 4294967295 * 4294967295 := Nat.mul_le_mul (by omega) (by omega)
  have p01 : a0 * b1 ≤ 4294967295 * 4294967295 := Nat.mul_le_mul (by omega) (by omega)
  have p00 : a0 * b0 ≤ 4294967295 * 4294967295 := Nat.mul_le_mul (by omega) (by omega)
  have hp : (4294967296 * a1 + a0) * (4294967296 * b1 + b0) = 18446744073709551616 * (a1 * b1) + 4294967296 * (a1 * b0) + 4294967296 * (a0 * b1) + a0 * b0 := by
    simp only [Nat.add_mul, Nat.mul_add]
    have : 4294967296 * a1 * (4294967296 * b1) = 18446744073709551616 * (a1 * b1) := by
      rw [Nat.mul_mul_mul_comm]
    have : 4294967296 * a1 * b0 = 4294967296 * (a1 * b0) := Nat.mul_assoc _ _ _
    have : a0 * (4294967296 * b1) = 4294967296 * (a0 * b1) := Nat.mul_left_comm _ _ _
    omega
  have hpi : ((4294967296 * a1 + a0 : Nat) : Int) * ((4294967296 * b1 + b0 : Nat) : Int) = (((4294967296 * a1 + a0) * (4294967296 * b1 + b0) : Nat) : Int) := (Int.natCast_mul _ _).symm
  rw [hpi, hp]
  have n11 : (a1 : Int) * (b1 : Int) = ((a1 * b1 : Nat) : Int) := (Int.natCast_mul _ _).symm
  have n10 : (a1 : Int) * (b0 : Int) = ((a1 * b0 : Nat) : Int) := (Int.natCast_mul _ _).symm
  have n01 : (a0 : Int) * (b1 : Int) = ((a0 * b1 : Nat) : Int) := (Int.natCast_mul _ _).symm
  have n00 : (a0 : Int) * (b0 : Int) = ((a0 * b0 : Nat) : Int) := (Int.natCast_mul _ _).symm
  rw [n11, n10, n01, n00]
  clear n11 n10 n01 n00 hpi hp
  obtain ⟨p, ep⟩ : ∃ x, a1 * b1 = x := ⟨_, rfl⟩
  obtain ⟨q, eq⟩ : ∃ x, a1 * b0 = x := ⟨_, rfl⟩
  obtain ⟨r, er⟩ : ∃ x, a0 * b1 = x := ⟨_, rfl⟩
  obtain ⟨s, es⟩ : ∃ x, a0 * b0 = x := ⟨_, rfl⟩
  rw [ep] at p11 ⊢
  rw [eq] at p10 ⊢
  rw [er] at p01 ⊢
  rw [es] at p00 ⊢
  clear ep eq er es ha hb
  have w1 : IntKind.u64.wrap ((s : Nat) : Int) = ((s : Nat) : Int) := wrapU_id _ (by omega)
  have w2 : IntKind.u64.wrap ((q : Nat) : Int) = ((q : Nat) : Int) := wrapU_id _ (by omega)
  have w3 : IntKind.u64.wrap ((p : Nat) : Int) = ((p : Nat) : Int) := wrapU_id _ (by omega)
  have w4 : IntKind.u64.wrap ((r : Nat) : Int) = ((r : Nat) : Int) := wrapU_id _ (by omega)
  rw [w1, w2, w3, w4]
  have d1 : ((s : Int) / 4294967296) = ((s / 4294967296 : Nat) : Int) := rfl
  rw [d1, ← Int.natCast_add, wrapU_id (q + s / 4294967296) (by omega), and_lo32 _ (by omega), ← Int.natCast_add, wrapU_id ((q + s / 4294967296) % 4294967296 + r) (by omega)]
  have d2 : (((q + s / 4294967296 : Nat) : Int) / 4294967296) = (((q + s / 4294967296) / 4294967296 : Nat) : Int) := rfl
  have d3 : ((((q + s / 4294967296) % 4294967296 + r : Nat) : Int) / 4294967296) = ((((q + s / 4294967296) % 4294967296 + r) / 4294967296 : Nat) : Int) := rfl
  rw [d2, d3, ← Int.natCast_add, wrapU_id (p + (q + s / 4294967296) / 4294967296) (by omega), ← Int.natCast_add, wrapU_id _ (by omega), wrapU]
  congr 2
  · congr 1; omega
theorem mul_tells (a b : Nat) (ha : a < 18446744073709551616) (hb : b < 18446744073709551616) (k : Nat) :
    ratio_mul k ((a : Int), (b : Int)) = some (((a * b / 18446744073709551616 : Nat) : Int), ((a * b % 18446744073709551616 : Nat) : Int)) := by
  unfold ratio_mul
  rw [mul64_tells a b ha hb]; rfl
def cmpN (a b : Nat) : Int := if a = b then 0 else if a < b then -1 else 1
theorem wcmp_tells (a b : Nat) (ha : a < 340282366920938463463374607431768211456) (hb : b < 340282366920938463463374607431768211456) (k : Nat) :
    ratio_wide_cmp k ((((a / 18446744073709551616 : Nat) : Int), ((a % 18446744073709551616 : Nat) : Int)), (((b / 18446744073709551616 : Nat) : Int), ((b % 18446744073709551616 : Nat) : Int))) = some (cmpN a b) := by
  unfold ratio_wide_cmp ratio_wide_cmp.J1 cmpN
  simp only [sel_eq, Bool.and_eq_true, beq_iff_eq, Int.natCast_inj, Int.ofNat_lt]
  by_cases h : a = b
  · subst h; simp
  · rw [if_neg (by omega), if_neg h]
    by_cases h2 : a < b
    · rw [if_pos h2]
      by_cases h3 : a / 18446744073709551616 < b / 18446744073709551616
      · rw [if_pos h3]
      · rw [if_neg h3, if_pos (by omega), if_pos (by omega)]
    · rw [if_neg h2, if_neg (by omega)]
      by_cases h3 : a / 18446744073709551616 = b / 18446744073709551616
      · rw [if_pos h3, if_neg (by omega)]
      · rw [if_neg h3]
def hiW (n : Nat) : Int := ((n / 18446744073709551616 : Nat) : Int)
def loW (n : Nat) : Int := ((n % 18446744073709551616 : Nat) : Int)
theorem hiW_lt {n : Nat} (h : n < 18446744073709551616) : hiW n = 0 := by unfold hiW; rw [Nat.div_eq_of_lt h]; rfl
theorem loW_lt {n : Nat} (h : n < 18446744073709551616) : loW n = (n : Int) := by unfold loW; rw [Nat.mod_eq_of_lt h]
theorem sub_tells (x y b : Nat) (hx : x < 18446744073709551616) (hy : y < 18446744073709551616) (hb : b ≤ 1) (k : Nat) : math_bits_Sub64 k ((x : Int), ((y : Int), (b : Int))) = some ((((x + 18446744073709551616 - y - b) % 18446744073709551616 : Nat) : Int), ((if x < y + b then 1 else 0 : Nat) : Int)) := by
  unfold math_bits_Sub64 M64
  dsimp only
  rw [if_pos (by omega)]
  refine congrArg some (Prod.ext ?_ ?_)
  · show _ = (((x + 18446744073709551616 - y - b) % 18446744073709551616 : Nat) : Int); omega
  · show _ = ((if x < y + b then 1 else 0 : Nat) : Int); split <;> split <;> omega
theorem add_tells (x y b : Nat) (hb : b ≤ 1) (k : Nat) : math_bits_Add64 k ((x : Int), ((y : Int), (b : Int))) = some ((((x + y + b) % 18446744073709551616 : Nat) : Int), (((x + y + b) / 18446744073709551616 : Nat) : Int)) := by
  unfold math_bits_Add64 M64
  dsimp only
  rw [if_pos (by omega)]
  refine congrArg some (Prod.ext ?_ ?_)
  · show _ = (((x + y + b) % 18446744073709551616 : Nat) : Int); omega
  · show _ = (((x + y + b) / 18446744073709551616 : Nat) : Int); omega
theorem wminus_tells {a b : Nat} (ha : a < 340282366920938463463374607431768211456) (hb : b ≤ a) (k : Nat) : ratio_wide_minus k ((hiW a, loW a), (hiW b, loW b)) = some (hiW (a - b), loW (a - b)) := by
  unfold ratio_wide_minus
  dsimp only
  rw [show (0 : Int) = ((0 : Nat) : Int) from rfl]
  unfold hiW loW
  rw [sub_tells _ _ 0 (Nat.mod_lt _ (by decide)) (Nat.mod_lt _ (by decide)) (by decide)]
  rw [Option.bind_some]
  dsimp only
  rw [sub_tells _ _ _ (by omega) (by omega) (by split <;> decide)]
  rw [Option.bind_some]
  refine congrArg some (Prod.ext (congrArg Nat.cast ?_) (congrArg Nat.cast ?_))
  · split <;> omega
  · omega
theorem wplus_tells {a b : Nat} (ha : a < 340282366920938463463374607431768211456) (hb : b < 340282366920938463463374607431768211456) (k : Nat) : ratio_wide_plus k ((hiW a, loW a), (hiW b, loW b)) = some (hiW ((a + b) % 340282366920938463463374607431768211456), loW ((a + b) % 340282366920938463463374607431768211456)) := by
  unfold ratio_wide_plus
  dsimp only
  rw [show (0 : Int) = ((0 : Nat) : Int) from rfl]
  unfold hiW loW
  rw [add_tells _ _ 0 (by decide)]
  rw [Option.bind_some]
  dsimp only
  rw [add_tells _ _ _ (by omega)]
  rw [Option.bind_some]
  exact congrArg some (Prod.ext (congrArg Nat.cast (by omega)) (congrArg Nat.cast (by omega)))
theorem shr_nat (x i : Nat) (hi : i ≤ 64) : (x : Int) / pw (min (Int.toNat (i : Int)) 64) = ((x / 2 ^ i : Nat) : Int) := by
  rw [Int.toNat_natCast, Nat.min_eq_left hi, pw_eq']
  simp
theorem and_one (x : Nat) (h : x < 18446744073709551616) : Go.bits .and .u64 (x : Int) 1 = ((x % 2 : Nat) : Int) := by
  have := bits_mask .u64 64 (by decide) wrapU_ok 1 (by decide) (x : Int) (by omega) (by omega)
  simpa using this
theorem and_63_all : ∀ i : Fin 128, Go.bits .and .i64 (i.1 : Int) 63 = ((i.1 % 64 : Nat) : Int) := by decide +kernel
theorem and_63 (i : Nat) (h : i < 128) : Go.bits .and .i64 (i : Int) 63 = ((i % 64 : Nat) : Int) := and_63_all ⟨i, h⟩
theorem over_digit {X Y Q R i : Nat} (h : Q * Y + R = X / 2 ^ (i + 1)) : (2 * Q) * Y + (2 * R + X / 2 ^ i % 2) = X / 2 ^ i := by
  have e : X / 2 ^ (i + 1) = X / 2 ^ i / 2 := by rw [Nat.pow_succ, Nat.div_div_eq_div_mul]
  rw [e] at h
  rw [Nat.mul_assoc]
  omega
theorem digit_at {X i : Nat} (hX : X < 340282366920938463463374607431768211456) (hi : i < 128) :
    (if (i : Int) < 64 then Go.bits .and .u64 (loW X / pw (min (Int.toNat (i : Int)) 64)) 1 else Go.bits .and .u64 (hiW X / pw (min (Int.toNat (Go.bits .and .i64 (i : Int) 63)) 64)) 1) = ((X / 2 ^ i % 2 : Nat) : Int) := by
  split
  · rename_i h
    unfold loW
    rw [shr_nat _ _ (by omega), and_one _ (Nat.lt_of_le_of_lt (Nat.div_le_self _ _) (by omega))]
    congr 1
    have : X % 18446744073709551616 / 2 ^ i % 2 = X / 2 ^ i % 2 := by
      have e : 18446744073709551616 = 2 ^ i * (2 * 2 ^ (63 - i)) := by rw [← Nat.pow_succ', ← Nat.pow_add, show i + (63 - i + 1) = 64 by omega]
      rw [e, Nat.mod_mul_right_div_self, Nat.mod_mul_right_mod]
    exact this
  · rename_i h
    unfold hiW
    rw [and_63 i hi, shr_nat _ _ (by omega), and_one _ (Nat.lt_of_le_of_lt (Nat.div_le_self _ _) (by omega))]
    congr 1
    have e : 18446744073709551616 * 2 ^ (i % 64) = 2 ^ i := by rw [show (18446744073709551616 : Nat) = 2 ^ 64 by decide, ← Nat.pow_add, show 64 + i % 64 = i by omega]
    rw [Nat.div_div_eq_div_mul, e]
theorem twice_lo {R b : Nat} (hR : R < 170141183460469231731687303715884105728) (hb : b < 2) : Go.bits .or .u64 (IntKind.u64.wrap (loW R * 2)) (b : Int) = loW (2 * R + b) := by
  unfold loW
  rw [show ((R % 18446744073709551616 : Nat) : Int) * 2 = ((R % 18446744073709551616 * 2 : Nat) : Int) by omega, wrapU]
  rw [show ((R % 18446744073709551616 * 2 : Nat) : Int) % 18446744073709551616 = ((R % 18446744073709551616 * 2 % 18446744073709551616 : Nat) : Int) by omega]
  rw [or_join 1 (by decide) _ b (by omega) (by omega) (by omega)]
  congr 1; omega
theorem twice_hi {R b : Nat} (hR : R < 170141183460469231731687303715884105728) (hb : b < 2) : Go.bits .or .u64 (IntKind.u64.wrap (hiW R * 2)) (loW R / 9223372036854775808) = hiW (2 * R + b) := by
  unfold loW hiW
  rw [show ((R / 18446744073709551616 : Nat) : Int) * 2 = ((R / 18446744073709551616 * 2 : Nat) : Int) by omega, wrapU_id _ (by omega)]
  rw [show ((R % 18446744073709551616 : Nat) : Int) / 9223372036854775808 = ((R % 18446744073709551616 / 9223372036854775808 : Nat) : Int) by omega]
  rw [or_join 1 (by decide) _ _ (by omega) (by omega) (by omega)]
  congr 1; omega
theorem twice_lo0 {R : Nat} (hR : R < 170141183460469231731687303715884105728) : IntKind.u64.wrap (loW R * 2) = loW (2 * R) := by
  unfold loW
  rw [wrapU]; omega
theorem two1 : (2 : Int) ^ (min (Int.toNat 1) 64) = 2 := by decide
theorem over_loop {X Y : Nat} (hX : X < 340282366920938463463374607431768211456) (hY : 0 < Y) (hY2 : Y ≤ 170141183460469231731687303715884105728) :
    ∀ (i Q R : Nat), i ≤ 128 → Q * Y + R = X / 2 ^ i → R < Y → Q < 2 ^ (128 - i) →
      TellsL (fun K m => itn (ratio_wide_over.B17 K ((hiW X, loW X), (hiW Y, loW Y))) m ((i : Int) - 1, hiW Q, loW Q, hiW R, loW R)) ((hiW (X / Y), loW (X / Y)), (hiW (X % Y), loW (X % Y)))
  | 0, Q, R, _, hQ, hR, hq => by
    refine TellsL.step (g := fun _ _ => some ((hiW Q, loW Q), (hiW R, loW R))) (fun K m => ?_) ?_
    · rw [itn, ratio_wide_over.B17, ratio_wide_over.T17, sel_neg (by dsimp only; omega)]
    · have e : X / Y = Q ∧ X % Y = R := by
        rw [Nat.pow_zero, Nat.div_one] at hQ
        subst hQ
        exact ⟨by rw [Nat.mul_comm, Nat.mul_add_div hY, Nat.div_eq_of_lt hR, Nat.add_zero], by rw [Nat.mul_comm, Nat.mul_add_mod, Nat.mod_eq_of_lt hR]⟩
      rw [e.1, e.2]
      exact TellsL.const _
  | i + 1, Q, R, hi, hQ, hR, hq => by
    have hb := digit_at (i := i) hX (by omega)
    have hd := over_digit hQ
    have hb2 : X / 2 ^ i % 2 < 2 := Nat.mod_lt _ (by decide)
    obtain ⟨b, eb⟩ : ∃ b, X / 2 ^ i % 2 = b := ⟨_, rfl⟩
    rw [eb] at hb hd hb2
    have hQ2 : Q < 170141183460469231731687303715884105728 := Nat.lt_of_lt_of_le hq (Nat.le_trans (Nat.pow_le_pow_right (by decide) (show 128 - (i + 1) ≤ 127 by omega)) (by decide))
    have hR2 : R < 170141183460469231731687303715884105728 := by omega
    have hq2 : 2 * Q + 1 < 2 ^ (128 - i) := by
      have : 2 ^ (128 - i) = 2 * 2 ^ (128 - (i + 1)) := by rw [show 128 - i = 128 - (i + 1) + 1 by omega, Nat.pow_succ']
      omega
    have hj : ∀ K (g : (Int × Int × Int × Int × Int) → Option ((Int × Int) × (Int × Int))), ratio_wide_over.J21 K ((i : Int), hiW Q, loW Q, hiW R, loW R) ((hiW X, loW X), (hiW Y, loW Y)) g (b : Int) =
        if 2 * R + b < Y then g ((i : Int) - 1, hiW (2 * Q), loW (2 * Q), hiW (2 * R + b), loW (2 * R + b)) else g ((i : Int) - 1, hiW (2 * Q + 1), loW (2 * Q + 1), hiW (2 * R + b - Y), loW (2 * R + b - Y)) := by
      intro K g
      unfold ratio_wide_over.J21 ratio_wide_over.J19
      dsimp only
      rw [two1, twice_hi hR2 hb2, twice_lo hR2 hb2]
      have hw := wcmp_tells (2 * R + b) Y (by omega) (by omega) K
      rw [show (hiW (2 * R + b), loW (2 * R + b)) = (((((2 * R + b) / 18446744073709551616 : Nat) : Int)), ((((2 * R + b) % 18446744073709551616 : Nat) : Int))) from rfl, show (hiW Y, loW Y) = ((((Y / 18446744073709551616 : Nat) : Int)), (((Y % 18446744073709551616 : Nat) : Int))) from rfl, hw, wrap64_id (a := (i : Int) - 1) (by unfold I64; omega)]
      simp only [Option.bind_some]
      by_cases hc : 2 * R + b < Y
      · rw [if_pos hc, sel_neg (by unfold cmpN; rw [if_neg (by omega), if_pos hc]; decide), twice_lo0 hQ2, twice_hi (b := 0) hQ2 (by decide), Nat.add_zero]
      · have hm := wminus_tells (a := 2 * R + b) (b := Y) (by omega) (by omega) K
        unfold hiW loW at hm
        rw [if_neg hc, sel_pos (by unfold cmpN; split <;> (try split) <;> omega), hm]
        simp only [Option.bind_some]
        rw [twice_hi (b := 1) hQ2 (by decide), show (1 : Int) = ((1 : Nat) : Int) from rfl, twice_lo (b := 1) hQ2 (by decide)]
        rfl
    have h63 : ¬ Go.bits .and .i64 (i : Int) 63 < 0 := by rw [and_63 i (by omega)]; omega
    have e : (((i + 1 : Nat) : Int) - 1) = (i : Int) := by omega
    have hT : ∀ K (g : (Int × Int × Int × Int × Int) → Option ((Int × Int) × (Int × Int))), ratio_wide_over.B17 K ((hiW X, loW X), (hiW Y, loW Y)) g (((i + 1 : Nat) : Int) - 1, hiW Q, loW Q, hiW R, loW R) =
        if 2 * R + b < Y then g ((i : Int) - 1, hiW (2 * Q), loW (2 * Q), hiW (2 * R + b), loW (2 * R + b)) else g ((i : Int) - 1, hiW (2 * Q + 1), loW (2 * Q + 1), hiW (2 * R + b - Y), loW (2 * R + b - Y)) := by
      intro K g
      rw [e, ← hj K g, ratio_wide_over.B17, ratio_wide_over.T17]
      dsimp only
      rw [sel_pos (by omega), sel_neg h63]
      by_cases h6 : (i : Int) < 64
      · rw [if_pos h6] at hb
        rw [sel_pos h6, sel_neg (by omega), hb]
      · rw [if_neg h6] at hb
        rw [sel_neg h6, hb]
    by_cases hc : 2 * R + b < Y
    · exact TellsL.step (fun K m => by rw [itn, hT, if_pos hc]) (over_loop hX hY hY2 i (2 * Q) (2 * R + b) (by omega) (by rw [hd]) hc (by omega))
    · exact TellsL.step (fun K m => by rw [itn, hT, if_neg hc]) (over_loop hX hY hY2 i (2 * Q + 1) (2 * R + b - Y) (by omega) (by rw [Nat.add_mul]; omega) (by omega) (by omega))
end Go.Proofs.Ytlbicmdfdpcdiaa.F
-- Printed by a program of this session's; Lean checks it.
set_option linter.unusedVariables false
set_option linter.unusedSimpArgs false
set_option maxRecDepth 100000
namespace Go.Proofs.Ytlbicmdfdpcdiaa.F
open Go.Proofs.Ytlbicmdfdpcdiaa.Vm Go.RowKit
theorem I64.nat {n : Nat} (h : n < 9223372036854775808) : I64 (n : Int) := by unfold I64; omega
theorem I64.negNat {n : Nat} (h : n < 9223372036854775808) : I64 (-(n : Int)) := by unfold I64; omega
theorem over_tells {X Y : Nat} (hX : X < 340282366920938463463374607431768211456) (hY : 0 < Y) (hY2 : Y ≤ 170141183460469231731687303715884105728) :
    Tells (fun k => ratio_wide_over k ((hiW X, loW X), (hiW Y, loW Y))) ((hiW (X / Y), loW (X / Y)), (hiW (X % Y), loW (X % Y))) := by
  by_cases h : Y < 18446744073709551616
  · rw [hiW_lt h, loW_lt h]
    refine ⟨20, fun k hk => ?_⟩
    unfold ratio_wide_over ratio_wide_over.M
    dsimp only
    rw [sel_pos rfl, sel_neg (by omega), sel_neg (by omega)]
    have e1 : Int.tmod (hiW X) (Y : Int) = ((X / 18446744073709551616 % Y : Nat) : Int) := rfl
    have e2 : Int.tdiv (hiW X) (Y : Int) = ((X / 18446744073709551616 / Y : Nat) : Int) := rfl
    have hm := Nat.mod_lt (X / 18446744073709551616) hY
    rw [e1, e2, show loW X = ((X % 18446744073709551616 : Nat) : Int) from rfl, div64_tells _ _ Y hm h (by omega) k hk]
    have ed := Nat.div_add_mod (X / 18446744073709551616) Y
    have eX := Nat.div_add_mod X 18446744073709551616
    have hq : X / 18446744073709551616 / Y ≤ X / 18446744073709551616 := Nat.div_le_self _ _
    rw [wrapU_id _ (by omega)]
    obtain ⟨q, eq⟩ : ∃ q, X / 18446744073709551616 / Y = q := ⟨_, rfl⟩
    obtain ⟨r, er⟩ : ∃ r, X / 18446744073709551616 % Y = r := ⟨_, rfl⟩
    rw [eq, er] at ed ⊢
    rw [er] at hm
    have e : X = Y * (q * 18446744073709551616) + (r * 18446744073709551616 + X % 18446744073709551616) := by rw [← Nat.mul_assoc]; omega
    have d1 : X / Y = q * 18446744073709551616 + (r * 18446744073709551616 + X % 18446744073709551616) / Y := by
      conv => lhs; rw [e]
      rw [Nat.mul_add_div hY]
    have d2 : X % Y = (r * 18446744073709551616 + X % 18446744073709551616) % Y := by
      conv => lhs; rw [e]
      rw [Nat.mul_add_mod]
    have hlt : (r * 18446744073709551616 + X % 18446744073709551616) / Y < 18446744073709551616 := by
      rw [Nat.div_lt_iff_lt_mul hY]
      have : (r + 1) * 18446744073709551616 ≤ Y * 18446744073709551616 := Nat.mul_le_mul_right _ hm
      rw [Nat.mul_comm 18446744073709551616 Y]
      omega
    have hr : X % Y < Y := Nat.mod_lt _ hY
    rw [hiW_lt (show X % Y < 18446744073709551616 by omega), loW_lt (show X % Y < 18446744073709551616 by omega), d2, d1]
    obtain ⟨t, et⟩ : ∃ t, (r * 18446744073709551616 + X % 18446744073709551616) / Y = t := ⟨_, rfl⟩
    rw [et] at hlt ⊢
    unfold hiW loW
    simp only [Option.bind_some]
    exact congrArg some (Prod.ext (Prod.ext (congrArg Nat.cast (by omega)) (congrArg Nat.cast (by omega))) rfl)
  · have h1 : ¬ hiW Y = 0 := by unfold hiW; omega
    refine Tells.same (fun k => ?_) (TellsL.diag (over_loop hX hY hY2 128 0 0 (by omega) (by rw [Nat.div_eq_of_lt hX]; simp) hY (by decide)))
    unfold ratio_wide_over ratio_wide_over.M ratio_wide_over.L17
    dsimp only
    rw [sel_neg h1]
    rfl
theorem common_loop : ∀ (Y X : Nat), X ≤ 170141183460469231731687303715884105728 → Y ≤ 170141183460469231731687303715884105728 →
    TellsL (fun K m => itn (ratio_common.B5 K) m (hiW X, loW X, hiW Y, loW Y)) (hiW (Nat.gcd X Y), loW (Nat.gcd X Y)) := by
  intro Y
  induction Y using Nat.strongRecOn with
  | _ Y ih =>
  intro X hX hY
  by_cases h : Y = 0
  · subst h
    refine TellsL.step (g := fun _ _ => some (hiW X, loW X)) (fun K m => ?_) ?_
    · rw [itn, ratio_common.B5, ratio_common.T5]
      rfl
    · rw [Nat.gcd_zero_right]; exact TellsL.const _
  · have hr : X % Y < Y := Nat.mod_lt _ (by omega)
    have h1 := over_tells (X := X) (Y := Y) (by omega) (by omega) hY
    have h2 := ih (X % Y) hr Y hY (by omega)
    refine TellsL.step (g := fun K m => (ratio_wide_over K ((hiW X, loW X), (hiW Y, loW Y))).bind fun b => itn (ratio_common.B5 K) m (hiW Y, loW Y, b.2.1, b.2.2)) (fun K m => ?_) ?_
    · rw [itn, ratio_common.B5, ratio_common.T5]
      dsimp only
      rw [sel_pos]
      have : ¬ (hiW Y = 0 ∧ loW Y = 0) := by unfold hiW loW; omega
      simp only [Bool.not_eq_true', Bool.and_eq_false_iff, beq_eq_false_iff_ne]
      omega
    · refine TellsL.bind h1 ?_
      have e : Nat.gcd X Y = Nat.gcd Y (X % Y) := by rw [Nat.gcd_comm, Nat.gcd_rec, Nat.gcd_comm]
      rw [e]
      exact h2
theorem common_tells (Y X : Nat) (hX : X ≤ 170141183460469231731687303715884105728) (hY : Y ≤ 170141183460469231731687303715884105728) :
    Tells (fun k => ratio_common k ((hiW X, loW X), (hiW Y, loW Y))) (hiW (Nat.gcd X Y), loW (Nat.gcd X Y)) := TellsL.diag (common_loop Y X hX hY)
def fitN (neg : Bool) (N D : Nat) : (Int × Int) × Int :=
  if N / Nat.gcd N D ≤ 4611686018427387904 ∧ D / Nat.gcd N D ≤ 2147483648 then (((if neg then -((N / Nat.gcd N D : Nat) : Int) else ((N / Nat.gcd N D : Nat) : Int)), ((D / Nat.gcd N D : Nat) : Int)), 0) else ((0, 0), 12)
theorem wsmall (a n : Nat) (ha : a < 340282366920938463463374607431768211456) (hn : n < 18446744073709551616) (k : Nat) : ratio_wide_cmp k ((hiW a, loW a), (0, (n : Int))) = some (cmpN a n) := by
  have := wcmp_tells a n ha (by omega) k
  rw [show ((n / 18446744073709551616 : Nat) : Int) = 0 from hiW_lt hn, show ((n % 18446744073709551616 : Nat) : Int) = (n : Int) from loW_lt hn] at this
  exact this
theorem fit_tells (neg : Bool) {N D : Nat} (hN : N ≤ 170141183460469231731687303715884105728) (hD : 0 < D) (hD2 : D ≤ 170141183460469231731687303715884105728) :
    Tells (fun k => ratio_frac_fit k (neg, ((hiW N, loW N), (hiW D, loW D)))) (fitN neg N D) := by
  have hg : 0 < Nat.gcd N D := Nat.gcd_pos_of_pos_right _ hD
  have hgD : Nat.gcd N D ≤ D := Nat.gcd_le_right _ hD
  obtain ⟨g, eg⟩ : ∃ g, Nat.gcd N D = g := ⟨_, rfl⟩
  have hc := common_tells D N hN hD2
  unfold fitN
  rw [eg] at hg hgD hc ⊢
  have o1 := over_tells (X := N) (Y := g) (by omega) hg (by omega)
  have o2 := over_tells (X := D) (Y := g) (by omega) hg (by omega)
  have l1 : N / g ≤ N := Nat.div_le_self _ _
  have l2 : D / g ≤ D := Nat.div_le_self _ _
  unfold ratio_frac_fit
  refine Tells.bind hc (Tells.bind o1 (Tells.bind o2 ?_))
  have e1 : ∀ k, ratio_small k 4611686018427387904 = some (0, ((4611686018427387904 : Nat) : Int)) := fun _ => rfl
  have e2 : ∀ k, ratio_small k 2147483648 = some (0, ((2147483648 : Nat) : Int)) := fun _ => rfl
  dsimp only
  simp only [e1, e2, Option.bind_some]
  have m1 := wsmall (N / g) 4611686018427387904 (by omega) (by decide)
  have m2 := wsmall (D / g) 2147483648 (by omega) (by decide)
  simp only [m1, m2, Option.bind_some]
  by_cases c1 : N / g ≤ 4611686018427387904
  · have : ¬ 0 < cmpN (N / g) 4611686018427387904 := by unfold cmpN; split <;> (try split) <;> omega
    refine Tells.sneg this ?_
    by_cases c2 : D / g ≤ 2147483648
    · have : ¬ 0 < cmpN (D / g) 2147483648 := by unfold cmpN; split <;> (try split) <;> omega
      refine Tells.sneg this ?_
      rw [if_pos ⟨c1, c2⟩]
      refine Tells.same (fun k => ?_) (Tells.const _)
      unfold ratio_frac_fit.J8
      dsimp only
      rw [loW_lt (show N / g < 18446744073709551616 by omega), loW_lt (show D / g < 18446744073709551616 by omega), wrap64_id (I64.nat (show N / g < 9223372036854775808 by omega)), wrap64_id (I64.nat (show D / g < 9223372036854775808 by omega)), wrap64_id (I64.negNat (show N / g < 9223372036854775808 by omega))]
      cases neg
      · rw [sel_neg (by decide)]; rfl
      · rw [sel_pos rfl]; rfl
    · have : 0 < cmpN (D / g) 2147483648 := by unfold cmpN; split <;> (try split) <;> omega
      refine Tells.spos this ?_
      rw [if_neg (fun h => c2 h.2)]
      exact Tells.const _
  · have : 0 < cmpN (N / g) 4611686018427387904 := by unfold cmpN; split <;> (try split) <;> omega
    refine Tells.spos this ?_
    rw [if_neg (fun h => c1 h.1)]
    exact Tells.const _
theorem New_tells {n d : Int} (hn : I64 n) (hd : I64 d) : Tells (fun k => ratio_New k (n, d)) (if d = 0 then ((0, 0), 11) else fitN (decide (n < 0) != decide (d < 0)) n.natAbs d.natAbs) := by
  unfold ratio_New ratio_New.J3
  dsimp only
  have hn' := hn
  have hd' := hd
  unfold I64 at hn' hd'
  by_cases h : d = 0
  · rw [if_pos h]
    exact Tells.spos h (Tells.const _)
  · rw [if_neg h]
    refine Tells.sneg h ?_
    have hf : ∀ b, Tells (fun k => ratio_frac_fit k (b, ((0, (n.natAbs : Int)), (0, (d.natAbs : Int))))) (fitN b n.natAbs d.natAbs) := fun b => by
      have := fit_tells b (N := n.natAbs) (D := d.natAbs) (by omega) (by omega) (by omega)
      rwa [hiW_lt (by omega), loW_lt (by omega), hiW_lt (by omega), loW_lt (by omega)] at this
    simp only [size_tells hn, size_tells hd, small_tells, Option.bind_some]
    by_cases h2 : n < 0
    · refine Tells.spos h2 ?_
      have e : (!decide (d < 0)) = (decide (n < 0) != decide (d < 0)) := by rw [decide_eq_true h2]; cases decide (d < 0) <;> rfl
      rw [e]
      exact Tells.bind (hf _) (Tells.const _)
    · refine Tells.sneg h2 ?_
      have e : (decide (d < 0)) = (decide (n < 0) != decide (d < 0)) := by rw [decide_eq_false h2]; cases decide (d < 0) <;> rfl
      refine Tells.same (g := fun k => (ratio_frac_fit k ((decide (n < 0) != decide (d < 0)), ((0, (n.natAbs : Int)), (0, (d.natAbs : Int))))).bind fun t9 => some ((t9.1.1, t9.1.2), t9.2)) (fun k => by rw [← e]) ?_
      exact Tells.bind (hf _) (Tells.const _)
def RightN (n d : Int) : Prop := 1 ≤ d ∧ d ≤ 2147483648 ∧ n.natAbs ≤ 4611686018427387904 ∧ Nat.gcd n.natAbs d.natAbs = 1
instance (n d : Int) : Decidable (RightN n d) := inferInstanceAs (Decidable (_ ∧ _))
theorem Right_tells {n d : Int} (hn : I64 n) (hd : I64 d) : Tells (fun k => ratio_Right k (n, d)) (decide (RightN n d)) := by
  unfold ratio_Right ratio_Right.J4
  dsimp only
  have hn' := hn
  have hd' := hd
  unfold I64 at hn' hd'
  by_cases h : d < 1
  · refine Tells.spos h ?_
    rw [decide_eq_false (fun h' => by have := h'.1; omega)]
    exact Tells.const _
  · refine Tells.sneg h ?_
    have hN := New_tells hn hd
    rw [if_neg (by omega)] at hN
    refine Tells.bind hN ?_
    unfold fitN
    have e1 : (decide (n < 0) != decide (d < 0)) = decide (n < 0) := by rw [decide_eq_false (show ¬ d < 0 by omega)]; cases decide (n < 0) <;> rfl
    rw [e1]
    obtain ⟨g, eg⟩ : ∃ g, Nat.gcd n.natAbs d.natAbs = g := ⟨_, rfl⟩
    have hg : 0 < g := by rw [← eg]; exact Nat.gcd_pos_of_pos_right _ (by omega)
    obtain ⟨a, ha⟩ : g ∣ n.natAbs := by rw [← eg]; exact Nat.gcd_dvd_left _ _
    obtain ⟨b, hb⟩ : g ∣ d.natAbs := by rw [← eg]; exact Nat.gcd_dvd_right _ _
    have da : n.natAbs / g = a := by rw [ha, Nat.mul_div_cancel_left _ hg]
    have db : d.natAbs / g = b := by rw [hb, Nat.mul_div_cancel_left _ hg]
    have hb0 : 0 < b := by
      rcases Nat.eq_zero_or_pos b with h0 | h0
      · rw [h0] at hb; omega
      · exact h0
    rw [eg, da, db]
    have hR : RightN n d ↔ 1 ≤ d ∧ d ≤ 2147483648 ∧ n.natAbs ≤ 4611686018427387904 ∧ g = 1 := by unfold RightN; rw [eg]
    by_cases h1 : a ≤ 4611686018427387904 ∧ b ≤ 2147483648
    · rw [if_pos h1]
      refine Tells.spos rfl ?_
      by_cases h2 : g = 1
      · subst h2
        have : RightN n d := hR.2 ⟨by omega, by omega, by omega, rfl⟩
        rw [decide_eq_true this]
        have ea : (if decide (n < 0) = true then -((a : Nat) : Int) else ((a : Nat) : Int)) = n := by
          by_cases hn0 : n < 0 <;> simp [hn0] <;> omega
        have eb : ((b : Nat) : Int) = d := by omega
        rw [ea, eb]
        simp only [beq_self_eq_true, Bool.and_self]
        exact Tells.const _
      · rw [decide_eq_false (fun h' => h2 (hR.1 h').2.2.2)]
        have : ((b : Nat) : Int) ≠ d := by
          intro e
          have : d.natAbs = b := by omega
          rw [this] at hb
          have : b * 1 < b * g := Nat.mul_lt_mul_of_pos_left (by omega) hb0
          rw [Nat.mul_comm b g] at this
          omega
        have : (((b : Nat) : Int) == d) = false := beq_eq_false_iff_ne.2 this
        simp only [this, Bool.and_false]
        exact Tells.const _
    · rw [if_neg h1]
      refine Tells.sneg (by decide) ?_
      rw [decide_eq_false (fun h' => ?_)]
      · exact Tells.const _
      · obtain ⟨_, q2, q3, q4⟩ := hR.1 h'
        subst q4
        exact h1 ⟨by omega, by omega⟩
end Go.Proofs.Ytlbicmdfdpcdiaa.F
-- Printed by a program of this session's; Lean checks it.
set_option linter.unusedVariables false
set_option linter.unusedSimpArgs false
set_option maxRecDepth 100000
namespace Go.Proofs.Ytlbicmdfdpcdiaa.F
open Go.Proofs.Ytlbicmdfdpcdiaa.Vm Go.RowKit
def cmpI (a b : Int) : Int := if a = b then 0 else if a < b then -1 else 1
theorem cmpI_nat (a b : Nat) : cmpI (a : Int) (b : Int) = cmpN a b := by
  unfold cmpI cmpN
  simp only [Int.natCast_inj, Int.ofNat_lt]
theorem Cmp_tells {a b c d : Int} (ha : I64 a) (hb : I64 b) (hc : I64 c) (hd : I64 d) (hb0 : 0 < b) (hd0 : 0 < d) (k : Nat) : ratio_Cmp k ((a, b), (c, d)) = some (cmpI (a * d) (c * b)) := by
  have ha' := ha; have hb' := hb; have hc' := hc; have hd' := hd
  unfold I64 at ha' hb' hc' hd'
  have eb : IntKind.u64.wrap b = ((b.natAbs : Nat) : Int) := by rw [wrapU]; omega
  have ed : IntKind.u64.wrap d = ((d.natAbs : Nat) : Int) := by rw [wrapU]; omega
  have m1 : a.natAbs * d.natAbs ≤ 9223372036854775808 * 9223372036854775808 := Nat.mul_le_mul (by omega) (by omega)
  have m2 : c.natAbs * b.natAbs ≤ 9223372036854775808 * 9223372036854775808 := Nat.mul_le_mul (by omega) (by omega)
  have hw := wcmp_tells (a.natAbs * d.natAbs) (c.natAbs * b.natAbs) (by omega) (by omega) k
  have e1 : ((a.natAbs * d.natAbs : Nat) : Int) = (a.natAbs : Int) * d := by rw [Int.natCast_mul]; congr 1; omega
  have e2 : ((c.natAbs * b.natAbs : Nat) : Int) = (c.natAbs : Int) * b := by rw [Int.natCast_mul]; congr 1; omega
  have q := cmpI_nat (a.natAbs * d.natAbs) (c.natAbs * b.natAbs)
  rw [e1, e2] at q
  unfold ratio_Cmp
  simp only [sel_eq, size_tells ha, size_tells hc, eb, ed, Option.bind_some, mul_tells _ _ (show a.natAbs < 18446744073709551616 by omega) (show d.natAbs < 18446744073709551616 by omega), mul_tells _ _ (show c.natAbs < 18446744073709551616 by omega) (show b.natAbs < 18446744073709551616 by omega), hw, ← q]
  have pa : (a < 0 → a * d < 0) ∧ (0 ≤ a → 0 ≤ a * d) := ⟨fun h => Int.mul_neg_of_neg_of_pos h hd0, fun h => Int.mul_nonneg h (by omega)⟩
  have pc : (c < 0 → c * b < 0) ∧ (0 ≤ c → 0 ≤ c * b) := ⟨fun h => Int.mul_neg_of_neg_of_pos h hb0, fun h => Int.mul_nonneg h (by omega)⟩
  by_cases h1 : a < 0
  · rw [if_pos h1]
    have n1 : (a.natAbs : Int) * d = -(a * d) := by rw [← Int.neg_mul]; congr 1; omega
    by_cases h2 : c < 0
    · have n2 : (c.natAbs : Int) * b = -(c * b) := by rw [← Int.neg_mul]; congr 1; omega
      rw [if_pos h2, if_pos h1, n1, n2]
      unfold cmpI
      congr 1
      by_cases e : a * d = c * b
      · rw [if_pos (by omega), if_pos e]; rw [wrap64_id (by unfold I64; omega)]; rfl
      · rw [if_neg (by omega), if_neg e]
        by_cases l : a * d < c * b
        · rw [if_neg (by omega), if_pos l]; rw [wrap64_id (by unfold I64; omega)]
        · rw [if_pos (by omega), if_neg l]; rw [wrap64_id (by unfold I64; omega)]; rfl
    · rw [if_neg h2, if_pos h1]
      have := pa.1 h1
      have := pc.2 (by omega)
      unfold cmpI
      rw [if_neg (by omega), if_pos (by omega)]
  · rw [if_neg h1]
    have n1 : (a.natAbs : Int) * d = a * d := by congr 1; omega
    have := pa.2 (by omega)
    by_cases h2 : c < 0
    · rw [if_pos h2, if_neg h1]
      have := pc.1 h2
      unfold cmpI
      rw [if_neg (by omega), if_neg (by omega)]
    · have n2 : (c.natAbs : Int) * b = c * b := by congr 1; omega
      rw [if_neg h2, if_neg h1, n1, n2]
def timeE (n d : Int) : Int := if RightN n d ∧ d ≤ 1048576 then (if n < 0 then 31 else if 360000 * d < n then 31 else 0) else 12
theorem Time_tells {n d : Int} (hn : I64 n) (hd : I64 d) : Tells (fun k => ratio_Time k (n, d)) (timeE n d) := by
  unfold ratio_Time
  refine Tells.bind (Right_tells hn hd) ?_
  dsimp only
  by_cases h : RightN n d
  · rw [decide_eq_true h]
    refine Tells.sneg (by decide) ?_
    unfold timeE
    by_cases h2 : 1048576 < d
    · refine Tells.spos h2 ?_
      rw [if_neg (fun h' => by omega)]
      exact Tells.const _
    · refine Tells.sneg h2 ?_
      rw [if_pos ⟨h, by omega⟩]
      have hd0 := h.1
      by_cases h3 : n < 0
      · refine Tells.spos h3 ?_
        rw [if_pos h3]
        exact Tells.const _
      · refine Tells.sneg h3 ?_
        rw [if_neg h3]
        have hc := Cmp_tells (a := n) (b := d) (c := 360000) (d := 1) hn hd (by unfold I64; omega) (by unfold I64; omega) (by omega) (by omega)
        simp only [hc, Option.bind_some, Int.mul_one]
        by_cases h4 : 360000 * d < n
        · have hq : cmpI n (360000 * d) = 1 := by unfold cmpI; rw [if_neg (by omega), if_neg (by omega)]
          rw [if_pos h4, hq]
          exact Tells.spos (by decide) (Tells.const _)
        · have hq : ¬ 0 < cmpI n (360000 * d) := by unfold cmpI; split <;> (try split) <;> omega
          rw [if_neg h4]
          exact Tells.sneg hq (Tells.const _)
  · rw [decide_eq_false h]
    refine Tells.spos (by decide) ?_
    unfold timeE
    rw [if_neg (fun h' => h h'.1)]
    exact Tells.const _
abbrev SpD : Type := Int × (Int × (Int × Int))
theorem lget_nat {α : Type} (l : List α) (i : Nat) (z : α) : lget l (i : Int) z = l.getD i z := rfl
def rightS (x : SpD) (n : Int) : Bool := decide (0 ≤ x.1 ∧ x.1 < x.2.1 ∧ x.2.1 ≤ n ∧ 1 ≤ x.2.2.1 ∧ x.2.2.1 ≤ 5) && (if x.2.2.1 = 5 then decide (0 ≤ x.2.2.2 ∧ x.2.2.2 ≤ 16777215) else decide (x.2.2.2 = 0))
theorem right_tells (x : SpD) (n : Int) (k : Nat) : style_right k (x, n) = some (rightS x n) := by
  unfold style_right rightS
  simp only [sel_eq]
  by_cases h : 0 ≤ x.1 ∧ x.1 < x.2.1 ∧ x.2.1 ≤ n ∧ 1 ≤ x.2.2.1 ∧ x.2.2.1 ≤ 5
  · rw [if_neg (by omega), if_neg (by omega), if_neg (by omega), if_neg (by omega), if_neg (by omega), decide_eq_true h, Bool.true_and]
    by_cases h5 : x.2.2.1 = 5
    · rw [if_pos h5, if_pos h5]
      by_cases h6 : 0 ≤ x.2.2.2
      · rw [if_pos h6]; congr 1; simp [h6]
      · rw [if_neg h6, decide_eq_false (fun h' => h6 h'.1)]
    · rw [if_neg h5, if_neg h5]
  · rw [decide_eq_false h, Bool.false_and]
    repeat' split
    all_goals first | rfl | (exfalso; omega)
def withinS (x y : SpD) : Bool := decide (y.1 ≤ x.1 ∧ x.2.1 ≤ y.2.1)
def crossS (x y : SpD) : Bool := decide (x.1 < y.2.1 ∧ y.1 < x.2.1) && !withinS x y && !withinS y x
theorem within_tells (x y : SpD) (k : Nat) : style_within k (x, y) = some (withinS x y) := by
  unfold style_within withinS
  dsimp only
  by_cases h : y.1 ≤ x.1
  · rw [sel_pos h]; congr 1; simp; omega
  · rw [sel_neg h]; congr 1; simp; omega
theorem cross_tells (x y : SpD) (k : Nat) : style_crosses k (x, y) = some (crossS x y) := by
  unfold style_crosses style_crosses.J1 crossS
  dsimp only
  rw [within_tells x y, within_tells y x]
  simp only [Option.bind_some]
  by_cases h : x.1 < y.2.1
  · rw [sel_pos h]
    by_cases h2 : y.1 < x.2.1
    · rw [sel_pos h2, decide_eq_true ⟨h, h2⟩]
      cases withinS x y
      · rw [sel_pos (by decide)]; simp
      · rw [sel_neg (by decide)]; simp
    · rw [sel_neg h2, decide_eq_false (fun h' => h2 h'.2)]; rfl
  · rw [sel_neg h, decide_eq_false (fun h' => h h'.1)]; rfl
theorem drop_any {α : Type} (f : α → Bool) (l : List α) (z : α) (i j : Nat) (h : j < i) (hi : i ≤ l.length) : ((l.take i).drop j).any f = (f (l.getD j z) || ((l.take i).drop (j + 1)).any f) := by
  have hj : j < (l.take i).length := by rw [List.length_take]; omega
  rw [List.drop_eq_getElem_cons hj, List.any_cons, List.getElem_take, List.getD_eq_getElem?_getD, List.getElem?_eq_getElem (by omega)]
  rfl
theorem inner_loop (s : ByteArray) (l : List SpD) (K : Nat) (g : Int → Option Int) (t0 : Int) (t1 : Bool) (i : Nat) (hi : i < l.length) (hl : l.length ≤ 256) : ∀ (m j k : Nat), j + m = i → m < k →
    itn (style_Check.B48 K (i : Int) (s, l) g t0 t1) k (j : Int) = if ((l.take i).drop j).any (crossS (l.getD i default)) = true then some 23 else g ((i + 1 : Nat) : Int)
  | 0, j, k, h, hk => by
    obtain ⟨k, rfl⟩ : ∃ q, k = q + 1 := ⟨k - 1, by omega⟩
    obtain rfl : j = i := by omega
    rw [itn, style_Check.B48, style_Check.T48, sel_neg (by simp), wrap64_id (by unfold I64; omega), List.drop_of_length_le (by rw [List.length_take]; omega)]
    rfl
  | m + 1, j, k, h, hk => by
    obtain ⟨k, rfl⟩ : ∃ q, k = q + 1 := ⟨k - 1, by omega⟩
    rw [itn, style_Check.B48, style_Check.T48, sel_pos (by simp; omega), sel_pos (by omega), sel_pos (by simp; omega), Int.zero_add, lget_nat, lget_nat, cross_tells (l.getD i default) (l.getD j default), drop_any _ l default i j (by omega) (by omega), Option.bind_some]
    cases hx : crossS (l.getD i default) (l.getD j default)
    · rw [sel_neg (by decide), wrap64_id (a := (j : Int) + 1) (by unfold I64; omega)]
      exact (inner_loop s l K g t0 t1 i hi hl m (j + 1) k (by omega) (by omega)).trans (by rw [Bool.false_or])
    · rw [sel_pos rfl, sel_pos (by omega)]; simp
def spansOK (l : List SpD) (n : Int) : Prop := ∀ i, i < l.length → rightS (l.getD i default) n = true ∧ (l.take i).any (crossS (l.getD i default)) = false
theorem check_loop (s : ByteArray) (n : Int) (l : List SpD) (hl : l.length ≤ 256) : ∀ (m i : Nat), i + m = l.length →
    ∃ r : Int, TellsL (fun K k => itn (style_Check.B38 K (s, l) n) k (i : Int)) r ∧ (r = 0 ∨ r = 23) ∧ (r = 0 ↔ ∀ j, i ≤ j → j < l.length → rightS (l.getD j default) n = true ∧ (l.take j).any (crossS (l.getD j default)) = false)
  | 0, i, h => ⟨0, TellsL.step (g := fun _ _ => some 0) (fun K k => by rw [itn, style_Check.B38, style_Check.T38]; dsimp only; rw [lenI_eq, sel_neg (by omega)]) (TellsL.const _), .inl rfl, ⟨fun _ j h1 h2 => by omega, fun _ => rfl⟩⟩
  | m + 1, i, h => by
    have hs : ∀ K k, 300 ≤ K → itn (style_Check.B38 K (s, l) n) (k + 1) (i : Int) = if rightS (l.getD i default) n = true then (if (l.take i).any (crossS (l.getD i default)) = true then some 23 else itn (style_Check.B38 K (s, l) n) k ((i + 1 : Nat) : Int)) else some 23 := fun K k hK => by
      rw [itn, style_Check.B38, style_Check.T38]
      dsimp only
      rw [lenI_eq, sel_pos (by omega), sel_pos (by omega), sel_pos (by omega), lget_nat, right_tells (l.getD i default) n, Option.bind_some]
      cases hr : rightS (l.getD i default) n
      · rw [sel_pos (by decide), if_neg (by decide)]
      · rw [sel_neg (by decide), sel_pos (by omega), sel_pos (by omega), if_pos rfl, style_Check.L48]
        exact inner_loop s l K _ n true i (by omega) hl i 0 K (by omega) (by omega)
    have st : ∀ {g : Nat → Nat → Option Int} {r : Int}, (∀ K k, 300 ≤ K → itn (style_Check.B38 K (s, l) n) (k + 1) (i : Int) = g K k) → TellsL g r → TellsL (fun K k => itn (style_Check.B38 K (s, l) n) k (i : Int)) r := by
      rintro g r he ⟨a, ha⟩
      refine ⟨a + 300, fun K k hK hk => ?_⟩
      obtain ⟨q, rfl⟩ : ∃ q, k = q + 1 := ⟨k - 1, by omega⟩
      show itn (style_Check.B38 K (s, l) n) (q + 1) (i : Int) = some r
      rw [he K q (by omega)]; exact ha K q (by omega) (by omega)
    by_cases c1 : rightS (l.getD i default) n = true
    · by_cases c2 : (l.take i).any (crossS (l.getD i default)) = true
      · refine ⟨23, st (fun K k hK => by rw [hs K k hK, if_pos c1, if_pos c2]) (TellsL.const _), .inr rfl, ⟨fun h => by omega, fun h => ?_⟩⟩
        have := (h i (Nat.le_refl _) (by omega)).2
        rw [c2] at this; exact absurd this (by decide)
      · obtain ⟨r, q1, q2, q3⟩ := check_loop s n l hl m (i + 1) (by omega)
        refine ⟨r, st (fun K k hK => by rw [hs K k hK, if_pos c1, if_neg c2]) q1, q2, q3.trans ⟨fun h' j a b => ?_, fun h' j a b => h' j (by omega) b⟩⟩
        rcases Nat.lt_or_ge i j with h'' | h''
        · exact h' j (by omega) b
        · obtain rfl : j = i := by omega
          exact ⟨c1, by simpa using c2⟩
    · refine ⟨23, st (fun K k hK => by rw [hs K k hK, if_neg c1]) (TellsL.const _), .inr rfl, ⟨fun h => by omega, fun h => ?_⟩⟩
      exact absurd (h i (Nat.le_refl _) (by omega)).1 c1
theorem styleCheck_tells (s : ByteArray) (l : List SpD) : ∃ r : Int, Tells (fun k => style_Check k (s, l)) r ∧ (r = 0 ↔ s.size ≤ 4096 ∧ l.length ≤ 256 ∧ spansOK l (Lib.runeCount s)) := by
  unfold style_Check style_Check.M
  dsimp only
  rw [sizeI_eq, lenI_eq]
  by_cases h1 : 4096 < (s.size : Int)
  · exact ⟨3, Tells.spos h1 (Tells.const _), ⟨fun h => by omega, fun h => by omega⟩⟩
  by_cases h2 : 256 < (l.length : Int)
  · exact ⟨2, Tells.sneg h1 (Tells.spos h2 (Tells.const _)), ⟨fun h => by omega, fun h => by omega⟩⟩
  obtain ⟨r, q1, q2, q3⟩ := check_loop s (Lib.runeCount s) l (by omega) l.length 0 (by omega)
  refine ⟨r, Tells.sneg h1 (Tells.sneg h2 (Tells.bind (v := (Lib.runeCount s : Int)) ?_ (TellsL.diag q1))), q3.trans ⟨fun h => ⟨by omega, by omega, fun i hi => h i (by omega) hi⟩, fun h j _ hj => h.2.2 j hj⟩⟩
  refine Tells.same (fun k => ?_) (Tells.const _)
  unfold utf_Count PDa.utf_Count.f
  rw [if_pos (by omega)]
end Go.Proofs.Ytlbicmdfdpcdiaa.F
-- Printed by a program of this session's; Lean checks it.
set_option linter.unusedVariables false
set_option linter.unusedSimpArgs false
set_option maxRecDepth 100000
namespace Go.Proofs.Ytlbicmdfdpcdiaa.F
open Go.Proofs.Ytlbicmdfdpcdiaa.Vm Go.RowKit
abbrev CuD : Type := (Int × Int) × ((Int × Int) × (Int × (Int × (ByteArray × (ByteArray × List (Int × (Int × (Int × Int))))))))
def GC (x : CuD) : Prop := I64 x.1.1 ∧ I64 x.1.2 ∧ I64 x.2.1.1 ∧ I64 x.2.1.2
theorem G_at {P : CuD → Prop} {l : List CuD} (h : ∀ a ∈ l, P a) {i : Nat} (hi : i < l.length) : P (l.getD i default) := by
  rw [List.getD_eq_getElem?_getD, List.getElem?_eq_getElem hi]
  exact h _ (List.getElem_mem hi)
def nameE (s : ByteArray) : Int := (PDa.cue_named.f s).getD 0
theorem named_tells (s : ByteArray) (k : Nat) : cue_named k s = some (nameE s) := rfl
def cueOK0 (x : CuD) : Prop := timeE x.1.1 x.1.2 = 0 ∧ timeE x.2.1.1 x.2.1.2 = 0 ∧ cmpI (x.1.1 * x.2.1.2) (x.2.1.1 * x.1.2) < 0 ∧ (x.2.2.2.1 = 0 ∨ x.2.2.2.1 = 1) ∧ nameE x.2.2.2.2.1 = 0 ∧ x.2.2.2.2.2.1.size ≤ 4096 ∧ x.2.2.2.2.2.2.length ≤ 256 ∧ spansOK x.2.2.2.2.2.2 (Lib.runeCount x.2.2.2.2.2.1)
def cueOK (x : CuD) : Prop := cueOK0 x ∧ 0 ≤ x.2.2.1 ∧ x.2.2.1 < 8
theorem timeE_pos {n d : Int} (h : timeE n d = 0) : 0 < d := by
  unfold timeE at h
  split at h
  · rename_i h1; have := h1.1.1; omega
  · exact absurd h (by decide)
theorem cueCheck_tells (x : CuD) (hG : GC x) : ∃ r : Int, Tells (fun k => cue_Check k x) r ∧ (r = 0 ↔ cueOK x) := by
  obtain ⟨i0, i1, i2, i3⟩ := hG
  have t0 := Time_tells i0 i1
  have t1 := Time_tells i2 i3
  have s0 : ∀ K k, itn (cue_Check.B10 K x) (k + 1) 0 = (ratio_Time K x.1).bind fun t => sel (t = 0) (itn (cue_Check.B10 K x) k 1) (some t) := fun K k => by
    rw [itn, cue_Check.B10, cue_Check.T10, lenI_eq, sel_pos (by simp), sel_pos (by omega), sel_pos (by simp), wrap64_id (by unfold I64; omega)]
    rfl
  have s1 : ∀ K k, itn (cue_Check.B10 K x) (k + 1) 1 = (ratio_Time K x.2.1).bind fun t => sel (t = 0) (itn (cue_Check.B10 K x) k 2) (some t) := fun K k => by
    rw [itn, cue_Check.B10, cue_Check.T10, lenI_eq, sel_pos (by simp), sel_pos (by omega), sel_pos (by simp), wrap64_id (by unfold I64; omega)]
    rfl
  have dg : ∀ {r : Int}, TellsL (fun K m => itn (cue_Check.B10 K x) m 0) r → Tells (fun k => cue_Check k x) r := fun h => TellsL.diag h
  by_cases c0 : timeE x.1.1 x.1.2 = 0
  case neg => exact ⟨_, dg (TellsL.step s0 (TellsL.bind t0 (TellsL.sneg c0 (TellsL.const _)))), ⟨fun h => absurd h c0, fun h => absurd h.1.1 c0⟩⟩
  by_cases c1 : timeE x.2.1.1 x.2.1.2 = 0
  case neg => exact ⟨_, dg (TellsL.step s0 (TellsL.bind t0 (TellsL.spos c0 (TellsL.step s1 (TellsL.bind t1 (TellsL.sneg c1 (TellsL.const _))))))), ⟨fun h => absurd h c1, fun h => absurd h.1.2.1 c1⟩⟩
  have hc := Cmp_tells i0 i1 i2 i3 (timeE_pos c0) (timeE_pos c1)
  have s2 : ∀ K k, itn (cue_Check.B10 K x) (k + 1) 2 = sel (0 ≤ cmpI (x.1.1 * x.2.1.2) (x.2.1.1 * x.1.2)) (some 32) (sel (x.2.2.1 < 0) (some 34) (sel (8 ≤ x.2.2.1) (some 34) (sel (x.2.2.2.1 = 0) (cue_Check.J17 K x ()) (sel (x.2.2.2.1 = 1) (cue_Check.J17 K x ()) (some 34))))) := fun K k => by
    rw [itn, cue_Check.B10, cue_Check.T10, lenI_eq, sel_neg (by simp)]
    rw [show (x.1, x.2.1) = ((x.1.1, x.1.2), (x.2.1.1, x.2.1.2)) from rfl, hc, Option.bind_some]
  have up : ∀ {r : Int}, TellsL (fun K m => itn (cue_Check.B10 K x) m 2) r → Tells (fun k => cue_Check k x) r := fun h =>
    dg (TellsL.step s0 (TellsL.bind t0 (TellsL.spos c0 (TellsL.step s1 (TellsL.bind t1 (TellsL.spos c1 h))))))
  by_cases c2 : 0 ≤ cmpI (x.1.1 * x.2.1.2) (x.2.1.1 * x.1.2)
  · exact ⟨32, up (TellsL.step s2 (TellsL.spos c2 (TellsL.const _))), ⟨fun h => absurd h (by decide), fun h => by have := h.1.2.2.1; omega⟩⟩
  by_cases c3 : x.2.2.1 < 0
  · exact ⟨34, up (TellsL.step s2 (TellsL.sneg c2 (TellsL.spos c3 (TellsL.const _)))), ⟨fun h => absurd h (by decide), fun h => by have := h.2.1; omega⟩⟩
  by_cases c4 : 8 ≤ x.2.2.1
  · exact ⟨34, up (TellsL.step s2 (TellsL.sneg c2 (TellsL.sneg c3 (TellsL.spos c4 (TellsL.const _))))), ⟨fun h => absurd h (by decide), fun h => by have := h.2.2; omega⟩⟩
  have tj : ∃ r : Int, Tells (fun k => cue_Check.J17 k x ()) r ∧ (r = 0 ↔ nameE x.2.2.2.2.1 = 0 ∧ x.2.2.2.2.2.1.size ≤ 4096 ∧ x.2.2.2.2.2.2.length ≤ 256 ∧ spansOK x.2.2.2.2.2.2 (Lib.runeCount x.2.2.2.2.2.1)) := by
    unfold cue_Check.J17
    simp only [named_tells, Option.bind_some]
    by_cases c5 : nameE x.2.2.2.2.1 = 0
    · obtain ⟨r, q1, q2⟩ := styleCheck_tells x.2.2.2.2.2.1 x.2.2.2.2.2.2
      exact ⟨r, Tells.spos c5 (Tells.bind q1 (Tells.const _)), q2.trans ⟨fun h => ⟨c5, h⟩, fun h => h.2⟩⟩
    · exact ⟨_, Tells.sneg c5 (Tells.const _), ⟨fun h => absurd h c5, fun h => absurd h.1 c5⟩⟩
  obtain ⟨r, q1, q2⟩ := tj
  by_cases c6 : x.2.2.2.1 = 0
  · exact ⟨r, up (TellsL.step s2 (TellsL.sneg c2 (TellsL.sneg c3 (TellsL.sneg c4 (TellsL.spos c6 (TellsL.of q1)))))), q2.trans ⟨fun h => ⟨⟨c0, c1, by omega, .inl c6, h⟩, by omega, by omega⟩, fun h => h.1.2.2.2.2⟩⟩
  by_cases c7 : x.2.2.2.1 = 1
  · exact ⟨r, up (TellsL.step s2 (TellsL.sneg c2 (TellsL.sneg c3 (TellsL.sneg c4 (TellsL.sneg c6 (TellsL.spos c7 (TellsL.of q1))))))), q2.trans ⟨fun h => ⟨⟨c0, c1, by omega, .inr c7, h⟩, by omega, by omega⟩, fun h => h.1.2.2.2.2⟩⟩
  · exact ⟨34, up (TellsL.step s2 (TellsL.sneg c2 (TellsL.sneg c3 (TellsL.sneg c4 (TellsL.sneg c6 (TellsL.sneg c7 (TellsL.const _))))))), ⟨fun h => absurd h (by decide), fun h => by rcases h.1.2.2.2.1 with h | h <;> contradiction⟩⟩
def compareC (a b : CuD) : Int := if cmpI (a.1.1 * b.1.2) (b.1.1 * a.1.2) = 0 then cmpI (a.2.1.1 * b.2.1.2) (b.2.1.1 * a.2.1.2) else cmpI (a.1.1 * b.1.2) (b.1.1 * a.1.2)
theorem compare_tells {a b : CuD} (ga : GC a) (gb : GC b) (ha : cueOK0 a) (hb : cueOK0 b) (k : Nat) :
    cue_Compare k (a, b) = some (compareC a b) := by
  have h1 := Cmp_tells ga.1 ga.2.1 gb.1 gb.2.1 (timeE_pos ha.1) (timeE_pos hb.1) k
  have h2 := Cmp_tells ga.2.2.1 ga.2.2.2 gb.2.2.1 gb.2.2.2 (timeE_pos ha.2.1) (timeE_pos hb.2.1) k
  unfold cue_Compare compareC
  dsimp only
  rw [show (a.1, b.1) = ((a.1.1, a.1.2), (b.1.1, b.1.2)) from rfl, h1, Option.bind_some, show (a.2.1, b.2.1) = ((a.2.1.1, a.2.1.2), (b.2.1.1, b.2.1.2)) from rfl, h2, Option.bind_some, sel_eq]
  split <;> rfl
def docOK (l : List CuD) : Prop := l.length ≤ 4096 ∧ (∀ i, i < l.length → cueOK (l.getD i default)) ∧ ∀ i, 1 ≤ i → i < l.length → compareC (l.getD (i - 1) default) (l.getD i default) ≤ 0
theorem wrong_tells (i e : Int) (h : e ≠ 0) (k : Nat) : cue_wrong k (i, e) = some (some (i, e)) := by unfold cue_wrong; rw [sel_neg h]
theorem order_loop (l : List CuD) (hG : ∀ a ∈ l, GC a) (hl : l.length ≤ 4096) (hok : ∀ i, i < l.length → cueOK (l.getD i default)) : ∀ (m i : Nat), 1 ≤ i → i + m = l.length →
    ∃ r : Option (Int × Int), TellsL (fun K m => itn (cue_CheckDoc.B26 K l) m (i : Int)) r ∧ (r = none ↔ ∀ j, i ≤ j → j < l.length → compareC (l.getD (j - 1) default) (l.getD j default) ≤ 0)
  | 0, i, h1, h => ⟨none, TellsL.step (g := fun _ _ => some none) (fun K k => by rw [itn, cue_CheckDoc.B26, cue_CheckDoc.T26, lenI_eq, sel_neg (by omega)]) (TellsL.const _), ⟨fun _ j a b => by omega, fun _ => rfl⟩⟩
  | m + 1, i, h1, h => by
    have hc := compare_tells (G_at hG (show i - 1 < l.length by omega)) (G_at hG (show i < l.length by omega)) (hok _ (by omega)).1 (hok _ (by omega)).1
    have hs : ∀ K k, itn (cue_CheckDoc.B26 K l) (k + 1) (i : Int) = sel (0 < compareC (l.getD (i - 1) default) (l.getD i default)) (some (some ((i : Int), 33))) (itn (cue_CheckDoc.B26 K l) k ((i + 1 : Nat) : Int)) := fun K k => by
      rw [itn, cue_CheckDoc.B26, cue_CheckDoc.T26, lenI_eq, wrap64_id (a := (i : Int) - 1) (by unfold I64; omega), wrap64_id (a := (i : Int) + 1) (by unfold I64; omega), sel_pos (by omega), sel_pos (by omega), sel_pos (by omega), sel_pos (by omega), sel_pos (by omega), show (i : Int) - 1 = ((i - 1 : Nat) : Int) by omega, lget_nat, lget_nat]
      rw [show ∀ a b : CuD, cue_Compare K ((a.1, (a.2.1, (a.2.2.1, (a.2.2.2.1, (a.2.2.2.2.1, a.2.2.2.2.2))))), (b.1, (b.2.1, (b.2.2.1, (b.2.2.2.1, (b.2.2.2.2.1, b.2.2.2.2.2)))))) = cue_Compare K (a, b) from fun _ _ => rfl, hc, Option.bind_some, wrong_tells _ _ (by decide), Option.bind_some]
      rfl
    by_cases hx : 0 < compareC (l.getD (i - 1) default) (l.getD i default)
    · exact ⟨_, TellsL.step hs (TellsL.spos hx (TellsL.const _)), ⟨fun h => by simp at h, fun h => by have := h i (Nat.le_refl _) (by omega); omega⟩⟩
    · obtain ⟨r, q1, q2⟩ := order_loop l hG hl hok m (i + 1) (by omega) (by omega)
      refine ⟨r, TellsL.step hs (TellsL.sneg hx q1), q2.trans ⟨fun h' j a b => ?_, fun h' j a b => h' j (by omega) b⟩⟩
      rcases Nat.lt_or_ge i j with h'' | h''
      · exact h' j (by omega) b
      · obtain rfl : j = i := by omega
        omega
theorem cues_loop (l : List CuD) (hG : ∀ a ∈ l, GC a) (hl : l.length ≤ 4096) (r1 : Option (Int × Int)) : ∀ (m i : Nat), i + m = l.length → (∀ j, j < i → cueOK (l.getD j default)) →
    ((∀ j, j < l.length → cueOK (l.getD j default)) → TellsL (fun K m => itn (cue_CheckDoc.B26 K l) m 1) r1) →
    ∃ r : Option (Int × Int), TellsL (fun K m => itn (cue_CheckDoc.B12 K l) m (i : Int)) r ∧ (r = none ↔ (∀ j, j < l.length → cueOK (l.getD j default)) ∧ r1 = none)
  | 0, i, h, hp, h1 => ⟨r1, TellsL.step (g := fun K _ => itn (cue_CheckDoc.B26 K l) K 1) (fun K k => by rw [itn, cue_CheckDoc.B12, cue_CheckDoc.T12, lenI_eq, sel_neg (by omega)]; rfl) (TellsL.of (TellsL.diag (h1 fun j hj => hp j (by omega)))), ⟨fun h' => ⟨fun j hj => hp j (by omega), h'⟩, fun h' => h'.2⟩⟩
  | m + 1, i, h, hp, h1 => by
    obtain ⟨e, q1, q2⟩ := cueCheck_tells _ (G_at hG (show i < l.length by omega))
    have hs : ∀ K k, itn (cue_CheckDoc.B12 K l) (k + 1) (i : Int) = (cue_Check K (l.getD i default)).bind fun t => sel (t = 0) (itn (cue_CheckDoc.B12 K l) k ((i + 1 : Nat) : Int)) ((cue_wrong K ((i : Int), t)).bind fun t3 => opt t3 (some none) fun u4 => some (some u4)) := fun K k => by
      rw [itn, cue_CheckDoc.B12, cue_CheckDoc.T12, lenI_eq, wrap64_id (a := (i : Int) + 1) (by unfold I64; omega), sel_pos (by omega), sel_pos (by omega), sel_pos (by omega), lget_nat]
      rfl
    by_cases he : e = 0
    · obtain ⟨r, p1, p2⟩ := cues_loop l hG hl r1 m (i + 1) (by omega) (fun j hj => by
        rcases Nat.lt_or_ge j i with h' | h'
        · exact hp j h'
        · obtain rfl : j = i := by omega
          exact q2.1 he) h1
      exact ⟨r, TellsL.step hs (TellsL.bind q1 (TellsL.spos he p1)), p2⟩
    · refine ⟨some ((i : Int), e), TellsL.step hs (TellsL.bind q1 (TellsL.sneg he ?_)), ⟨fun h' => by simp at h', fun h' => absurd (q2.2 (h'.1 i (by omega))) he⟩⟩
      refine TellsL.same (fun K m => ?_) (TellsL.const _)
      rw [wrong_tells _ _ he]
      rfl
theorem checkDoc_tells (l : List CuD) (hG : ∀ a ∈ l, GC a) : ∃ r : Option (Int × Int), Tells (fun k => cue_CheckDoc k l) r ∧ (r = none ↔ docOK l) := by
  unfold cue_CheckDoc cue_CheckDoc.M
  rw [lenI_eq]
  by_cases h : 4096 < (l.length : Int)
  · exact ⟨some (0, 2), Tells.spos h (Tells.same (fun k => rfl) (Tells.const _)), ⟨fun h' => by simp at h', fun h' => by have := h'.1; omega⟩⟩
  have hl : l.length ≤ 4096 := by omega
  by_cases hok : ∀ j, j < l.length → cueOK (l.getD j default)
  · have : ∃ r1, TellsL (fun K m => itn (cue_CheckDoc.B26 K l) m 1) r1 ∧ (r1 = none ↔ ∀ j, 1 ≤ j → j < l.length → compareC (l.getD (j - 1) default) (l.getD j default) ≤ 0) := by
      by_cases h0 : 1 ≤ l.length
      · exact order_loop l hG hl hok (l.length - 1) 1 (by omega) (by omega)
      · exact ⟨none, TellsL.step (g := fun _ _ => some none) (fun K k => by rw [itn, cue_CheckDoc.B26, cue_CheckDoc.T26, lenI_eq, sel_neg (by omega)]) (TellsL.const _), ⟨fun _ j a b => by omega, fun _ => rfl⟩⟩
    obtain ⟨r1, p1, p2⟩ := this
    obtain ⟨r, q1, q2⟩ := cues_loop l hG hl r1 l.length 0 (by omega) (fun j hj => by omega) (fun _ => p1)
    exact ⟨r, Tells.sneg h (TellsL.diag q1), q2.trans ⟨fun h' => ⟨hl, hok, p2.1 h'.2⟩, fun h' => ⟨hok, p2.2 h'.2.2⟩⟩⟩
  · obtain ⟨r, q1, q2⟩ := cues_loop l hG hl none l.length 0 (by omega) (fun j hj => by omega) (fun h' => absurd h' hok)
    exact ⟨r, Tells.sneg h (TellsL.diag q1), q2.trans ⟨fun h' => absurd h'.1 hok, fun h' => absurd h'.2.1 hok⟩⟩
end Go.Proofs.Ytlbicmdfdpcdiaa.F
-- Printed by a program of this session's; Lean checks it.
set_option linter.unusedVariables false
set_option linter.unusedSimpArgs false
set_option maxRecDepth 100000
namespace Go.Proofs.Ytlbicmdfdpcdiaa.F
open Go.Proofs.Ytlbicmdfdpcdiaa.Vm Go.RowKit
theorem wplus' {a b : Nat} (h : a + b < 340282366920938463463374607431768211456) (k : Nat) : ratio_wide_plus k ((hiW a, loW a), (hiW b, loW b)) = some (hiW (a + b), loW (a + b)) := by
  have := wplus_tells (a := a) (b := b) (by omega) (by omega) k
  rwa [Nat.mod_eq_of_lt h] at this
def thV (n d : Int) : Nat := (2 * (n.natAbs * 1000) + d.natAbs) / (2 * d.natAbs)
theorem timeE_facts {n d : Int} (h : timeE n d = 0) : RightN n d ∧ 0 < d ∧ d ≤ 1048576 ∧ 0 ≤ n ∧ n ≤ 360000 * d := by
  unfold timeE at h
  split at h
  · rename_i h1
    have := h1.1.1
    split at h
    · exact absurd h (by decide)
    · split at h
      · exact absurd h (by decide)
      · exact ⟨h1.1, by omega, h1.2, by omega, by omega⟩
  · exact absurd h (by decide)
theorem thV_le {n d : Int} (h : timeE n d = 0) : thV n d ≤ 360000000 := by
  obtain ⟨_, h1, h2, h3, h4⟩ := timeE_facts h
  unfold thV
  have hn : n.natAbs ≤ 360000 * d.natAbs := by omega
  have hd : 0 < d.natAbs := by omega
  generalize n.natAbs = a at *
  generalize d.natAbs = b at *
  have : (2 * (a * 1000) + b) / (2 * b) < 360000001 := by
    rw [Nat.div_lt_iff_lt_mul (by omega)]
    omega
  omega
theorem thV_mono {a b c d : Int} (h1 : timeE a b = 0) (h2 : timeE c d = 0) (h : a * d ≤ c * b) : thV a b ≤ thV c d := by
  obtain ⟨_, b0, _, a0, _⟩ := timeE_facts h1
  obtain ⟨_, d0, _, c0, _⟩ := timeE_facts h2
  unfold thV
  have hh : a.natAbs * d.natAbs ≤ c.natAbs * b.natAbs := by
    have e1 : ((a.natAbs * d.natAbs : Nat) : Int) = a * d := by rw [Int.natCast_mul]; congr 1 <;> omega
    have e2 : ((c.natAbs * b.natAbs : Nat) : Int) = c * b := by rw [Int.natCast_mul]; congr 1 <;> omega
    omega
  have hb : 0 < b.natAbs := by omega
  have hd : 0 < d.natAbs := by omega
  generalize a.natAbs = x at *
  generalize b.natAbs = y at *
  generalize c.natAbs = z at *
  generalize d.natAbs = t at *
  obtain ⟨q, eq⟩ : ∃ q, (2 * (x * 1000) + y) / (2 * y) = q := ⟨_, rfl⟩
  rw [eq, Nat.le_div_iff_mul_le (by omega)]
  have hq : q * (2 * y) ≤ 2 * (x * 1000) + y := by rw [← eq]; exact Nat.div_mul_le_self _ _
  refine Nat.le_of_mul_le_mul_left (c := y) ?_ hb
  have e1 : y * (q * (2 * t)) = t * (q * (2 * y)) := by rw [Nat.mul_left_comm y q, Nat.mul_left_comm t q, Nat.mul_left_comm y 2, Nat.mul_left_comm t 2, Nat.mul_comm y t]
  have e2 : t * (q * (2 * y)) ≤ t * (2 * (x * 1000) + y) := Nat.mul_le_mul_left _ hq
  have e3 : t * (2 * (x * 1000) + y) = 2000 * (x * t) + t * y := by rw [Nat.mul_add, show t * (2 * (x * 1000)) = 2000 * (x * t) by rw [Nat.mul_comm t, Nat.mul_assoc, Nat.mul_assoc, Nat.mul_left_comm x 1000, ← Nat.mul_assoc 2 1000]]
  have e4 : y * (2 * (z * 1000) + t) = 2000 * (z * y) + t * y := by rw [Nat.mul_add, Nat.mul_comm y t, show y * (2 * (z * 1000)) = 2000 * (z * y) by rw [Nat.mul_comm y, Nat.mul_assoc, Nat.mul_assoc, Nat.mul_left_comm z 1000, ← Nat.mul_assoc 2 1000]]
  rw [e1, e4]
  refine Nat.le_trans e2 ?_
  rw [e3]
  have := Nat.mul_le_mul_left 2000 hh
  omega
theorem whole_tells {n d : Int} (hn : I64 n) (hd : I64 d) (ht : timeE n d = 0) : Tells (fun k => ratio_Whole k ((n, d), (1000, 2))) (((thV n d : Nat) : Int), 0) := by
  obtain ⟨hR, h1, h2, h3, h4⟩ := timeE_facts ht
  have hle := thV_le ht
  have ed : IntKind.u64.wrap d = ((d.natAbs : Nat) : Int) := by rw [wrapU]; omega
  have e1000 : ∀ k, ratio_size k 1000 = some ((1000 : Nat) : Int) := fun k => size_tells (by unfold I64; omega) k
  have hN : n.natAbs * 1000 ≤ 360000 * 1048576 * 1000 := by omega
  unfold ratio_Whole
  refine Tells.bind (Right_tells hn hd) ?_
  rw [decide_eq_true hR]
  refine Tells.sneg (by decide) (Tells.sneg (by dsimp only; omega) ?_)
  have hm := mul_tells n.natAbs 1000 (by omega) (by omega)
  obtain ⟨N, eN⟩ : ∃ N, n.natAbs * 1000 = N := ⟨_, rfl⟩
  obtain ⟨D, eD⟩ : ∃ D, d.natAbs = D := ⟨_, rfl⟩
  have ht' : thV n d = (2 * N + D) / (2 * D) := by unfold thV; rw [eN, eD]
  rw [eN] at hm hN
  rw [ht'] at hle ⊢
  have hD0 : 0 < D := by omega
  have hD1 : D ≤ 1048576 := by omega
  have p1 := wplus' (a := N) (b := N) (by omega)
  have p2 := wplus' (a := N + N) (b := D) (by omega)
  have p3 := wplus' (a := D) (b := D) (by omega)
  have o := over_tells (X := N + N + D) (Y := D + D) (by omega) (by omega) (by omega)
  have eq : (N + N + D) / (D + D) = (2 * N + D) / (2 * D) := by rw [← Nat.two_mul, ← Nat.two_mul]
  rw [eq] at o
  obtain ⟨q, hq⟩ : ∃ q, (2 * N + D) / (2 * D) = q := ⟨_, rfl⟩
  rw [hq] at o hle ⊢
  have c := wsmall q 4611686018427387904 (by omega) (by decide)
  have hhalf : ∀ k, ratio_frac_half k (false, ((hiW N, loW N), (hiW D, loW D))) = some (false, ((hiW (N + N + D), loW (N + N + D)), (hiW (D + D), loW (D + D)))) := fun k => by
    unfold ratio_frac_half ratio_frac_half.J3
    dsimp only
    rw [p1, Option.bind_some, p2, Option.bind_some, p3, Option.bind_some, sel_neg (by decide), sel_neg (by decide)]
  have hfloor : Tells (fun k => ratio_frac_floor k (false, ((hiW (N + N + D), loW (N + N + D)), (hiW (D + D), loW (D + D))))) ((hiW q, loW q), false) := by
    unfold ratio_frac_floor ratio_frac_floor.J3 ratio_frac_floor.J2
    refine Tells.bind o (Tells.sneg (by simp) (Tells.sneg (by simp) (Tells.same (fun k => rfl) (Tells.const _))))
  have hmul : ∀ k, ratio_mul k (((n.natAbs : Nat) : Int), ((1000 : Nat) : Int)) = some (hiW N, loW N) := hm
  have hsm : ∀ k, ratio_small k ((D : Nat) : Int) = some (hiW D, loW D) := fun k => by rw [small_tells, hiW_lt (by omega), loW_lt (by omega)]
  have hdz : decide ((1000 : Int) < 0) = false := by decide
  dsimp only
  simp only [size_tells hn, Option.bind_some, e1000, hmul, ed, eD, hsm, hdz]
  refine Tells.bind (v := ((q : Int), 0)) ?_ (Tells.const _)
  unfold ratio_frac_whole
  dsimp only
  simp only [hhalf, Option.bind_some]
  refine Tells.sneg (by simp) (Tells.spos (by trivial) (Tells.bind hfloor ?_))
  refine Tells.same (fun k => ?_) (Tells.const _)
  unfold ratio_frac_whole.J3
  dsimp only
  rw [show ratio_small k 4611686018427387904 = some (0, ((4611686018427387904 : Nat) : Int)) from rfl, Option.bind_some, c, Option.bind_some, sel_neg (by unfold cmpN; split <;> (try split) <;> omega), sel_neg (by decide), loW_lt (by omega), wrap64_id (I64.nat (by omega))]
theorem thousandths_tells {n d : Int} (hn : I64 n) (hd : I64 d) (ht : timeE n d = 0) : Tells (fun k => dual_thousandths k (n, d)) ((thV n d : Nat) : Int) := by
  unfold dual_thousandths
  exact Tells.bind (whole_tells hn hd ht) (Tells.const _)
end Go.Proofs.Ytlbicmdfdpcdiaa.F
