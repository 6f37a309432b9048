-- Written by programs of this session's (wip/printer) out of the translation and of the print's words; Lean checks it.
import Derived.Test.YtbpifnpljcgjlaaLxPLxx0
import Derived.Test.YtbpifnpljcgjlaaLxPLxx4
import Derived.Test.YtbpifnpljcgjlaaLxPLxx5
import Derived.Test.YtbpifnpljcgjlaaLxPLxx6
import Derived.Test.YtbpifnpljcgjlaaLxPLxx7
import Derived.Test.YtbpifnpljcgjlaaLxPLxx8
namespace Go.Proofs.Ytbpifnpljcgjlaa.PLx
open Go.RowKit Go.Proofs.YtbpifnpljcgjlaaW.PrintWords Go.Proofs.YtbpifnpljcgjlaaW.PrintLast Go.Proofs.YtbpifnpljcgjlaaW.PrintMore
attribute [local go_sem] max2_int min2_int max_two min_two max_three min_three max_four min_four   -- for this text's walks alone
set_option linter.unusedVariables false
set_option linter.unusedSimpArgs false
def lenTab : ByteArray := ⟨#[0, 1, 2, 2, 3, 3, 3, 3, 4, 4, 4, 4, 4, 4, 4, 4, 5, 5, 5, 5, 5, 5, 5, 5, 5, 5, 5, 5, 5, 5, 5, 5, 6, 6, 6, 6, 6, 6, 6, 6, 6, 6, 6, 6, 6, 6, 6, 6, 6, 6, 6, 6, 6, 6, 6, 6, 6, 6, 6, 6, 6, 6, 6, 6, 7, 7, 7, 7, 7, 7, 7, 7, 7, 7, 7, 7, 7, 7, 7, 7, 7, 7, 7, 7, 7, 7, 7, 7, 7, 7, 7, 7, 7, 7, 7, 7, 7, 7, 7, 7, 7, 7, 7, 7, 7, 7, 7, 7, 7, 7, 7, 7, 7, 7, 7, 7, 7, 7, 7, 7, 7, 7, 7, 7, 7, 7, 7, 7, 8, 8, 8, 8, 8, 8, 8, 8, 8, 8, 8, 8, 8, 8, 8, 8, 8, 8, 8, 8, 8, 8, 8, 8, 8, 8, 8, 8, 8, 8, 8, 8, 8, 8, 8, 8, 8, 8, 8, 8, 8, 8, 8, 8, 8, 8, 8, 8, 8, 8, 8, 8, 8, 8, 8, 8, 8, 8, 8, 8, 8, 8, 8, 8, 8, 8, 8, 8, 8, 8, 8, 8, 8, 8, 8, 8, 8, 8, 8, 8, 8, 8, 8, 8, 8, 8, 8, 8, 8, 8, 8, 8, 8, 8, 8, 8, 8, 8, 8, 8, 8, 8, 8, 8, 8, 8, 8, 8, 8, 8, 8, 8, 8, 8, 8, 8, 8, 8, 8, 8, 8, 8, 8, 8, 8, 8, 8, 8]⟩
def Bits (x n : Nat) : Prop := x < 2 ^ n ∧ (0 < x → 0 < n ∧ 2 ^ (n - 1) ≤ x)
instance (x n : Nat) : Decidable (Bits x n) := by unfold Bits; infer_instance
theorem lenTab_all : ∀ i : Fin 256, ∃ t : Fin 9, bt lenTab (i.1 : Int) = (t.1 : Int) ∧ Bits i.1 t.1 := by decide +kernel
theorem lenTab_at (i : Nat) (h : i < 256) : ∃ t : Nat, t ≤ 8 ∧ bt lenTab (i : Int) = (t : Int) ∧ Bits i t := by
 obtain ⟨t, h1, h2⟩ := lenTab_all ⟨i, h⟩
 exact ⟨t.1, by omega, h1, h2⟩
theorem bits_div (x c t : Nat) (h : Bits (x / 2 ^ c) t) (h0 : 0 < x / 2 ^ c) : Bits x (t + c) := by
 obtain ⟨h1, h2⟩ := h
 have hp : 0 < 2 ^ c := Nat.pow_pos (by omega)
 refine ⟨?_, fun _ => ⟨by have := (h2 h0).1; omega, ?_⟩⟩
 ·rw [Nat.pow_add]; exact (Nat.div_lt_iff_lt_mul hp).1 h1
 ·have h3 := (h2 h0)
  rw [show t + c - 1 = (t - 1) + c by omega, Nat.pow_add]
  exact (Nat.le_div_iff_mul_le hp).1 h3.2
theorem len_j0 (k : Nat) (x b : Nat) (hx : x < 4294967296) (hb : b ≤ 32) : ∃ t : Nat, bits_Len64.j0 (k + 1) (x : Int) (b : Int) = some ((t + b : Nat) : Int) ∧ t ≤ 32 ∧ Bits x t := by
 have w (n : Nat) (h : n ≤ 200) : wrap64 (n : Int) = (n : Int) := by unfold wrap64; omega
 unfold bits_Len64.j0
 rw [show (⟨#[0, 1, 2, 2, 3, 3, 3, 3, 4, 4, 4, 4, 4, 4, 4, 4, 5, 5, 5, 5, 5, 5, 5, 5, 5, 5, 5, 5, 5, 5, 5, 5, 6, 6, 6, 6, 6, 6, 6, 6, 6, 6, 6, 6, 6, 6, 6, 6, 6, 6, 6, 6, 6, 6, 6, 6, 6, 6, 6, 6, 6, 6, 6, 6, 7, 7, 7, 7, 7, 7, 7, 7, 7, 7, 7, 7, 7, 7, 7, 7, 7, 7, 7, 7, 7, 7, 7, 7, 7, 7, 7, 7, 7, 7, 7, 7, 7, 7, 7, 7, 7, 7, 7, 7, 7, 7, 7, 7, 7, 7, 7, 7, 7, 7, 7, 7, 7, 7, 7, 7, 7, 7, 7, 7, 7, 7, 7, 7, 8, 8, 8, 8, 8, 8, 8, 8, 8, 8, 8, 8, 8, 8, 8, 8, 8, 8, 8, 8, 8, 8, 8, 8, 8, 8, 8, 8, 8, 8, 8, 8, 8, 8, 8, 8, 8, 8, 8, 8, 8, 8, 8, 8, 8, 8, 8, 8, 8, 8, 8, 8, 8, 8, 8, 8, 8, 8, 8, 8, 8, 8, 8, 8, 8, 8, 8, 8, 8, 8, 8, 8, 8, 8, 8, 8, 8, 8, 8, 8, 8, 8, 8, 8, 8, 8, 8, 8, 8, 8, 8, 8, 8, 8, 8, 8, 8, 8, 8, 8, 8, 8, 8, 8, 8, 8, 8, 8, 8, 8, 8, 8, 8, 8, 8, 8, 8, 8, 8, 8, 8, 8, 8, 8, 8, 8, 8, 8]⟩ : ByteArray) = lenTab from rfl]
 dsimp only
 by_cases h1 : 65536 ≤ x
 ·rw [if_pos (by omega)]
  by_cases h2 : 16777216 ≤ x
  ·obtain ⟨t, ht, e, hB⟩ := lenTab_at (x / 2 ^ 24) (by omega)
   rw [if_pos (by omega), if_pos (by omega), if_pos (by omega), show ((x : Int) / 65536 / 256 % 256) = ((x / 2 ^ 24 : Nat) : Int) by omega, e]
   refine ⟨t + 24, ?_, by omega, bits_div _ _ _ hB (by omega)⟩
   rw [show wrap64 ((b : Int) + 16) = ((b + 16 : Nat) : Int) from (by rw [show ((b : Int) + 16) = ((b + 16 : Nat) : Int) by omega, w _ (by omega)]), show wrap64 (((b + 16 : Nat) : Int) + 8) = ((b + 24 : Nat) : Int) from (by rw [show (((b + 16 : Nat) : Int) + 8) = ((b + 24 : Nat) : Int) by omega, w _ (by omega)]), w t (by omega), show (((b + 24 : Nat) : Int) + (t : Int)) = ((b + 24 + t : Nat) : Int) by omega, w _ (by omega)]
   exact congrArg some (by omega)
  ·obtain ⟨t, ht, e, hB⟩ := lenTab_at (x / 2 ^ 16) (by omega)
   rw [if_neg (by omega), if_pos (by omega), if_pos (by omega), show ((x : Int) / 65536 % 256) = ((x / 2 ^ 16 : Nat) : Int) by omega, e]
   refine ⟨t + 16, ?_, by omega, bits_div _ _ _ hB (by omega)⟩
   rw [show wrap64 ((b : Int) + 16) = ((b + 16 : Nat) : Int) from (by rw [show ((b : Int) + 16) = ((b + 16 : Nat) : Int) by omega, w _ (by omega)]), w t (by omega), show (((b + 16 : Nat) : Int) + (t : Int)) = ((b + 16 + t : Nat) : Int) by omega, w _ (by omega)]
   exact congrArg some (by omega)
 ·rw [if_neg (by omega)]
  by_cases h2 : 256 ≤ x
  ·obtain ⟨t, ht, e, hB⟩ := lenTab_at (x / 2 ^ 8) (by omega)
   rw [if_pos (by omega), if_pos (by omega), if_pos (by omega), show ((x : Int) / 256 % 256) = ((x / 2 ^ 8 : Nat) : Int) by omega, e]
   refine ⟨t + 8, ?_, by omega, bits_div _ _ _ hB (by omega)⟩
   rw [show wrap64 ((b : Int) + 8) = ((b + 8 : Nat) : Int) from (by rw [show ((b : Int) + 8) = ((b + 8 : Nat) : Int) by omega, w _ (by omega)]), w t (by omega), show (((b + 8 : Nat) : Int) + (t : Int)) = ((b + 8 + t : Nat) : Int) by omega, w _ (by omega)]
   exact congrArg some (by omega)
  ·obtain ⟨t, ht, e, hB⟩ := lenTab_at x (by omega)
   rw [if_neg (by omega), if_pos (by omega), if_pos (by omega), show ((x : Int) % 256) = (x : Int) by omega, e]
   refine ⟨t, ?_, by omega, hB⟩
   rw [w t (by omega), show ((b : Int) + (t : Int)) = ((b + t : Nat) : Int) by omega, w _ (by omega)]
   exact congrArg some (by omega)
theorem len64_tells (k : Nat) (x : Nat) (hx : x < 2 ^ 64) : ∃ t : Nat, bits_Len64.f (k + 1) (x : Int) = some (t : Int) ∧ t ≤ 64 ∧ Bits x t := by
 unfold bits_Len64.f
 by_cases h : 4294967296 ≤ x
 ·rw [if_pos (by omega), show ((x : Int) / 4294967296) = ((x / 2 ^ 32 : Nat) : Int) by omega]
  obtain ⟨t, e, ht, hB⟩ := len_j0 k (x / 2 ^ 32) 32 (by omega) (by omega)
  exact ⟨t + 32, e, by omega, bits_div _ _ _ hB (by omega)⟩
 ·rw [if_neg (by omega)]
  obtain ⟨t, e, ht, hB⟩ := len_j0 k x 0 (by omega) (by omega)
  exact ⟨t, by simpa using e, by omega, hB⟩
theorem wrapU (n : Int) : IntKind.u64.wrap n = n % 18446744073709551616 := by simp [IntKind.wrap, IntKind.bits, IntKind.signed]
theorem wrapU_id (n : Nat) (h : n < 18446744073709551616) : IntKind.u64.wrap (n : Int) = n := by rw [wrapU]; omega
theorem wrapU_ok (n : Int) (h₀ : 0 ≤ n) (h₁ : n < 2 ^ 64) : IntKind.u64.wrap n = n := by rw [wrapU]; omega
theorem and_lo32 (n : Nat) (h : n < 18446744073709551616) : Go.bits .and .u64 (n : Int) 4294967295 = ((n % 4294967296 : Nat) : Int) := by
 have := bits_mask .u64 64 (by decide) wrapU_ok 32 (by decide) (n : Int) (by omega) (by omega)
 simpa using this
theorem or_join (i : Nat) (hi : i ≤ 64) (a b : Nat) (ha : a < 18446744073709551616) (hm : a % 2 ^ i = 0) (hb : b < 2 ^ i) : Go.bits .or .u64 (a : Int) (b : Int) = ((a + b : Nat) : Int) := by
 have hp : 2 ^ i ≤ 2 ^ 64 := Nat.pow_le_pow_right (by omega) hi
 have := bits_join .u64 64 (by decide) wrapU_ok i (a : Int) (b : Int) (by omega) (by exact_mod_cast hm) (by omega) (by omega) (by exact_mod_cast hb) (by omega)
 rw [this]; omega
theorem guess {yn1 yn0 N u d qh rh : Nat} (hN : N = yn1 * 4294967296 + yn0) (h0 : yn0 < 4294967296) (h1 : 0 < yn1) (hd : d < 4294967296) (hu : u < N) (e : qh * yn1 + rh = u) (hq : (u * 4294967296 + d) / N ≤ qh) :
  (4294967296 ≤ qh → (u * 4294967296 + d) / N ≤ qh - 1 ∧ 0 < qh) ∧ (4294967296 * rh + d < qh * yn0 → (u * 4294967296 + d) / N ≤ qh - 1 ∧ 0 < qh) ∧
  (qh * yn0 ≤ 4294967296 * rh + d → (u * 4294967296 + d) / N = qh) ∧ (4294967296 ≤ rh → (u * 4294967296 + d) / N = qh) := by
 have hN0 : 0 < N := by omega
 have eN : qh * N = qh * yn1 * 4294967296 + qh * yn0 := by rw [hN, Nat.mul_add, Nat.mul_assoc]
 have lt : (u * 4294967296 + d) / N < 4294967296 := by rw [Nat.div_lt_iff_lt_mul hN0]; omega
 have le : qh * yn0 ≤ 4294967296 * rh + d → (u * 4294967296 + d) / N = qh := by
  intro h
  refine Nat.le_antisymm hq ?_
  rw [Nat.le_div_iff_mul_le hN0]
  omega
 refine ⟨fun h => by omega, fun h => ?_, le, fun h => le ?_⟩
 ·have : (u * 4294967296 + d) / N < qh := by
   rw [Nat.div_lt_iff_lt_mul hN0]; omega
  generalize (u * 4294967296 + d) / N = Q at *
  omega
 ·have a : qh * yn1 < yn1 * 4294967296 := by omega
  have b : qh < 4294967296 := by
   rw [Nat.mul_comm] at a
   exact Nat.lt_of_mul_lt_mul_left a
  have c : qh * yn0 ≤ 4294967296 * 4294967296 := Nat.mul_le_mul (by omega) (by omega)
  omega
theorem wprod {qh yn0 : Nat} (h : qh < 4294967296) (h0 : yn0 < 4294967296) : IntKind.u64.wrap ((qh : Int) * (yn0 : Int)) = ((qh * yn0 : Nat) : Int) := by
 have c : qh * yn0 ≤ 4294967296 * 4294967295 := Nat.mul_le_mul (by omega) (by omega)
 have : ((qh : Int) * (yn0 : Int)) = ((qh * yn0 : Nat) : Int) := by simp
 rw [this, wrapU_id _ (by omega)]
theorem wsum {rh d : Nat} (h : rh < 4294967296) (hd : d < 4294967296) : IntKind.u64.wrap (IntKind.u64.wrap (4294967296 * (rh : Int)) + (d : Int)) = ((4294967296 * rh + d : Nat) : Int) := by
 rw [show (4294967296 * (rh : Int)) = ((4294967296 * rh : Nat) : Int) by omega, wrapU_id _ (by omega), show (((4294967296 * rh : Nat) : Int) + (d : Int)) = ((4294967296 * rh + d : Nat) : Int) by omega, wrapU_id _ (by omega)]
theorem wrest {u d q N : Nat} (hu : q = (u * 4294967296 + d) / N) (hN : 0 < N) (hM : N < 18446744073709551616) :
  IntKind.u64.wrap (IntKind.u64.wrap (IntKind.u64.wrap ((u : Int) * 4294967296) + (d : Int)) - IntKind.u64.wrap ((q : Int) * (N : Int))) = (((u * 4294967296 + d) % N : Nat) : Int) := by
 have e := Nat.div_add_mod (u * 4294967296 + d) N
 have l := Nat.mod_lt (u * 4294967296 + d) hN
 rw [← hu] at e
 generalize (u * 4294967296 + d) % N = r at *
 have : ((q : Int) * (N : Int)) = ((N * q : Nat) : Int) := by rw [Nat.mul_comm]; simp
 rw [this]
 generalize N * q = p at *
 simp only [wrapU]
 omega
theorem div_l1 {yn1 yn0 N u d s q1 : Nat} (hN : N = yn1 * 4294967296 + yn0) (h0 : yn0 < 4294967296) (h1 : 2147483648 ≤ yn1) (h1' : yn1 < 4294967296) (hd : d < 4294967296) (hu : u < N) (hq1 : q1 < 4294967296) (hs : s ≤ 64) (f : Nat) :
  ∀ (k qh rh : Nat), 2 * f + 2 ≤ k → rh < 4294967296 → 4294967296 ≤ rh + f * yn1 → qh * yn1 + rh = u → (u * 4294967296 + d) / N ≤ qh → qh < 8589934592 →
   bits_Div64.l1 k N s yn1 yn0 d q1 rh u qh = some (((q1 * 4294967296 + (u * 4294967296 + d) / N : Nat) : Int), (((u * 4294967296 + d) % N / 2 ^ s : Nat) : Int)) := by
 have hN0 : 0 < N := by omega
 have hNM : N < 18446744073709551616 := by omega
 have lt : (u * 4294967296 + d) / N < 4294967296 := by rw [Nat.div_lt_iff_lt_mul hN0]; omega
 have hlast : ∀ q : Nat, (u * 4294967296 + d) / N = q →
   (some (IntKind.u64.wrap (IntKind.u64.wrap ((q1 : Int) * 4294967296) + (q : Int)), shr .u64 (IntKind.u64.wrap (IntKind.u64.wrap (IntKind.u64.wrap ((u : Int) * 4294967296) + (d : Int)) - IntKind.u64.wrap ((q : Int) * (N : Int)))) (s : Int)) : Option (Int × Int)) =
    some (((q1 * 4294967296 + (u * 4294967296 + d) / N : Nat) : Int), (((u * 4294967296 + d) % N / 2 ^ s : Nat) : Int)) := by
  intro q hq
  rw [wrest hq.symm hN0 hNM, hq]
  have e1 : IntKind.u64.wrap (IntKind.u64.wrap ((q1 : Int) * 4294967296) + (q : Int)) = ((q1 * 4294967296 + q : Nat) : Int) := by
   rw [show ((q1 : Int) * 4294967296) = ((q1 * 4294967296 : Nat) : Int) by omega, wrapU_id _ (by omega), show (((q1 * 4294967296 : Nat) : Int) + (q : Int)) = ((q1 * 4294967296 + q : Nat) : Int) by omega, wrapU_id _ (by omega)]
  have e2 : shr .u64 (((u * 4294967296 + d) % N : Nat) : Int) (s : Int) = (((u * 4294967296 + d) % N / 2 ^ s : Nat) : Int) := by
   unfold shr
   rw [show min ((s : Int)).toNat IntKind.u64.bits = s from by simp [IntKind.bits]; omega]
   simp
  rw [e1, e2]
 induction f with
 | zero => intro k qh rh _ h2 h3; omega
 | succ f ih =>
  intro k qh rh hk h2 h3 e hq hb
  obtain ⟨k, rfl⟩ : ∃ m, k = m + 1 + 1 := ⟨k - 2, by omega⟩
  obtain ⟨ga, gb, gc, _⟩ := guess hN h0 (by omega) hd hu e hq
  have yes : (u * 4294967296 + d) / N ≤ qh - 1 → 0 < qh → bits_Div64.j4 (k + 1) N s yn1 yn0 d q1 rh u qh true = some (((q1 * 4294967296 + (u * 4294967296 + d) / N : Nat) : Int), (((u * 4294967296 + d) % N / 2 ^ s : Nat) : Int)) := by
   intro g1 g2
   have e' : (qh - 1) * yn1 + (rh + yn1) = u := by
    obtain ⟨p, rfl⟩ : ∃ p, qh = p + 1 := ⟨qh - 1, by omega⟩
    rw [Nat.add_mul] at e
    simp
    omega
   have w1 : IntKind.u64.wrap ((rh : Int) + (yn1 : Int)) = ((rh + yn1 : Nat) : Int) := by
    rw [show ((rh : Int) + (yn1 : Int)) = ((rh + yn1 : Nat) : Int) by omega, wrapU_id _ (by omega)]
   have w2 : IntKind.u64.wrap ((qh : Int) - 1) = ((qh - 1 : Nat) : Int) := by
    rw [show ((qh : Int) - 1) = ((qh - 1 : Nat) : Int) by omega, wrapU_id _ (by omega)]
   simp only [bits_Div64.j4]
   rw [if_pos trivial, w1, w2]
   by_cases hr : 4294967296 ≤ rh + yn1
   ·rw [if_pos (by omega), if_pos (by omega)]
    obtain ⟨_, _, _, gd⟩ := guess hN h0 (by omega) hd hu e' g1
    exact hlast _ (gd hr)
   ·rw [if_neg (by omega)]
    exact ih k (qh - 1) (rh + yn1) (by omega) (by omega) (by rw [Nat.succ_mul] at h3; omega) e' g1 (by omega)
  simp only [bits_Div64.l1]
  by_cases hB : 4294967296 ≤ qh
  ·rw [if_pos (by omega)]
   exact yes (ga hB).1 (ga hB).2
  ·rw [if_neg (by omega), wprod (by omega) h0, wsum h2 hd]
   by_cases hT : 4294967296 * rh + d < qh * yn0
   ·rw [show decide (((qh * yn0 : Nat) : Int) > ((4294967296 * rh + d : Nat) : Int)) = true by simp only [decide_eq_true_eq]; omega]
    exact yes (gb hT).1 (gb hT).2
   ·rw [show decide (((qh * yn0 : Nat) : Int) > ((4294967296 * rh + d : Nat) : Int)) = false by simp only [decide_eq_false_iff_not]; omega]
    simp only [bits_Div64.j4]
    rw [if_neg (by simp), if_pos (by omega)]
    exact hlast _ (gc (by omega))
theorem guess0 {yn1 yn0 N u d : Nat} (hN : N = yn1 * 4294967296 + yn0) (h0 : yn0 < 4294967296) (h1 : 2147483648 ≤ yn1) (h1' : yn1 < 4294967296) (hd : d < 4294967296) (hu : u < N) :
  (u * 4294967296 + d) / N ≤ u / yn1 ∧ u / yn1 < 8589934592 ∧ u / yn1 * yn1 + u % yn1 = u ∧ u % yn1 < yn1 := by
 refine ⟨?_, ?_, ?_, Nat.mod_lt _ (by omega)⟩
 ·have a : (u * 4294967296 + d) / N ≤ (u * 4294967296 + d) / (4294967296 * yn1) := Nat.div_le_div_left (by omega) (by omega)
  rw [← Nat.div_div_eq_div_mul, show (u * 4294967296 + d) / 4294967296 = u by omega] at a
  exact a
 ·rw [Nat.div_lt_iff_lt_mul (by omega)]; omega
 ·have := Nat.div_add_mod u yn1; rw [Nat.mul_comm] at this; exact this
theorem wguess {u yn1 : Nat} (h : 0 < yn1) (hu : u < 18446744073709551616) : IntKind.u64.wrap (Int.tdiv (u : Int) (yn1 : Int)) = ((u / yn1 : Nat) : Int) ∧
  IntKind.u64.wrap ((u : Int) - IntKind.u64.wrap (((u / yn1 : Nat) : Int) * (yn1 : Int))) = ((u % yn1 : Nat) : Int) := by
 have e := Nat.div_add_mod u yn1
 have l := Nat.div_le_self u yn1
 have l2 := Nat.mod_le u yn1
 constructor
 ·rw [Int.tdiv_eq_ediv_of_nonneg (by omega), show ((u : Int) / (yn1 : Int)) = ((u / yn1 : Nat) : Int) by simp, wrapU_id _ (by omega)]
 ·rw [show (((u / yn1 : Nat) : Int) * (yn1 : Int)) = ((yn1 * (u / yn1) : Nat) : Int) by rw [Nat.mul_comm]; simp]
  generalize yn1 * (u / yn1) = p at *
  rw [wrapU_id _ (by omega), show ((u : Int) - (p : Int)) = ((u % yn1 : Nat) : Int) by omega, wrapU_id _ (by omega)]
theorem div_j2 {yn1 yn0 N u d1 d0 s : Nat} (hN : N = yn1 * 4294967296 + yn0) (h0 : yn0 < 4294967296) (h1 : 2147483648 ≤ yn1) (h1' : yn1 < 4294967296) (hd1 : d1 < 4294967296) (hd0 : d0 < 4294967296) (hu : u < N) (hs : s ≤ 64) (k : Nat) (hk : 7 ≤ k) :
  bits_Div64.j2 k N s yn1 yn0 u d1 d0 (((u * 4294967296 + d1) / N : Nat) : Int) =
   some ((((u * 4294967296 + d1) / N * 4294967296 + ((u * 4294967296 + d1) % N * 4294967296 + d0) / N : Nat) : Int), ((((u * 4294967296 + d1) % N * 4294967296 + d0) % N / 2 ^ s : Nat) : Int)) := by
 obtain ⟨k, rfl⟩ : ∃ m, k = m + 1 := ⟨k - 1, by omega⟩
 have hN0 : 0 < N := by omega
 have lr := Nat.mod_lt (u * 4294967296 + d1) hN0
 have lq : (u * 4294967296 + d1) / N < 4294967296 := by rw [Nat.div_lt_iff_lt_mul hN0]; omega
 have hr := wrest (q := (u * 4294967296 + d1) / N) (d := d1) (u := u) rfl hN0 (by omega)
 simp only [bits_Div64.j2]
 rw [if_neg (by omega), hr]
 obtain ⟨r, er⟩ : ∃ r, (u * 4294967296 + d1) % N = r := ⟨_, rfl⟩
 simp only [er] at lr ⊢
 clear hr
 obtain ⟨w1, w2⟩ := wguess (u := r) (yn1 := yn1) (by omega) (by omega)
 rw [w1, w2]
 obtain ⟨g1, g2, g3, g4⟩ := guess0 hN h0 h1 h1' hd0 lr
 exact div_l1 hN h0 h1 h1' hd0 lr lq hs 2 k _ _ (by omega) (by omega) (by omega) g3 g1 g2
theorem div_l0 {yn1 yn0 N u d1 d0 s : Nat} (hN : N = yn1 * 4294967296 + yn0) (h0 : yn0 < 4294967296) (h1 : 2147483648 ≤ yn1) (h1' : yn1 < 4294967296) (hd1 : d1 < 4294967296) (hd0 : d0 < 4294967296) (hu : u < N) (hs : s ≤ 64) (f : Nat) :
  ∀ (k qh rh : Nat), 2 * f + 9 ≤ k → rh < 4294967296 → 4294967296 ≤ rh + f * yn1 → qh * yn1 + rh = u → (u * 4294967296 + d1) / N ≤ qh → qh < 8589934592 →
   bits_Div64.l0 k N s yn1 yn0 u d1 d0 qh rh =
   some ((((u * 4294967296 + d1) / N * 4294967296 + ((u * 4294967296 + d1) % N * 4294967296 + d0) / N : Nat) : Int), ((((u * 4294967296 + d1) % N * 4294967296 + d0) % N / 2 ^ s : Nat) : Int)) := by
 have hN0 : 0 < N := by omega
 induction f with
 | zero => intro k qh rh _ h2 h3; omega
 | succ f ih =>
  intro k qh rh hk h2 h3 e hq hb
  obtain ⟨k, rfl⟩ : ∃ m, k = m + 1 + 1 := ⟨k - 2, by omega⟩
  obtain ⟨ga, gb, gc, _⟩ := guess hN h0 (by omega) hd1 hu e hq
  have fin : ∀ q : Nat, (u * 4294967296 + d1) / N = q → bits_Div64.j2 k N s yn1 yn0 u d1 d0 (q : Int) =
    some ((((u * 4294967296 + d1) / N * 4294967296 + ((u * 4294967296 + d1) % N * 4294967296 + d0) / N : Nat) : Int), ((((u * 4294967296 + d1) % N * 4294967296 + d0) % N / 2 ^ s : Nat) : Int)) := by
   rintro q rfl
   exact div_j2 hN h0 h1 h1' hd1 hd0 hu hs k (by omega)
  have yes : (u * 4294967296 + d1) / N ≤ qh - 1 → 0 < qh → bits_Div64.j1 (k + 1) N s yn1 yn0 u d1 d0 qh rh true =
    some ((((u * 4294967296 + d1) / N * 4294967296 + ((u * 4294967296 + d1) % N * 4294967296 + d0) / N : Nat) : Int), ((((u * 4294967296 + d1) % N * 4294967296 + d0) % N / 2 ^ s : Nat) : Int)) := by
   intro g1 g2
   have e' : (qh - 1) * yn1 + (rh + yn1) = u := by
    obtain ⟨p, rfl⟩ : ∃ p, qh = p + 1 := ⟨qh - 1, by omega⟩
    rw [Nat.add_mul] at e
    simp
    omega
   have w1 : IntKind.u64.wrap ((rh : Int) + (yn1 : Int)) = ((rh + yn1 : Nat) : Int) := by
    rw [show ((rh : Int) + (yn1 : Int)) = ((rh + yn1 : Nat) : Int) by omega, wrapU_id _ (by omega)]
   have w2 : IntKind.u64.wrap ((qh : Int) - 1) = ((qh - 1 : Nat) : Int) := by
    rw [show ((qh : Int) - 1) = ((qh - 1 : Nat) : Int) by omega, wrapU_id _ (by omega)]
   simp only [bits_Div64.j1]
   rw [if_pos trivial, w1, w2]
   by_cases hr : 4294967296 ≤ rh + yn1
   ·rw [if_pos (by omega)]
    obtain ⟨_, _, _, gd⟩ := guess hN h0 (by omega) hd1 hu e' g1
    exact fin _ (gd hr)
   ·rw [if_neg (by omega)]
    exact ih k (qh - 1) (rh + yn1) (by omega) (by omega) (by rw [Nat.succ_mul] at h3; omega) e' g1 (by omega)
  simp only [bits_Div64.l0]
  by_cases hB : 4294967296 ≤ qh
  ·rw [if_pos (by omega)]
   exact yes (ga hB).1 (ga hB).2
  ·rw [if_neg (by omega), wprod (by omega) h0, wsum h2 hd1]
   by_cases hT : 4294967296 * rh + d1 < qh * yn0
   ·rw [show decide (((qh * yn0 : Nat) : Int) > ((4294967296 * rh + d1 : Nat) : Int)) = true by simp only [decide_eq_true_eq]; omega]
    exact yes (gb hT).1 (gb hT).2
   ·rw [show decide (((qh * yn0 : Nat) : Int) > ((4294967296 * rh + d1 : Nat) : Int)) = false by simp only [decide_eq_false_iff_not]; omega]
    simp only [bits_Div64.j1]
    rw [if_neg (by simp)]
    exact fin _ (gc (by omega))
theorem two_digits {N u d1 d0 : Nat} (hN : 0 < N) : (u * 4294967296 + d1) / N * 4294967296 + ((u * 4294967296 + d1) % N * 4294967296 + d0) / N = (u * 18446744073709551616 + d1 * 4294967296 + d0) / N ∧
  ((u * 4294967296 + d1) % N * 4294967296 + d0) % N = (u * 18446744073709551616 + d1 * 4294967296 + d0) % N := by
 have e1 := Nat.div_add_mod (u * 4294967296 + d1) N
 obtain ⟨q1, eq1⟩ : ∃ r, (u * 4294967296 + d1) / N = r := ⟨_, rfl⟩
 obtain ⟨r1, er1⟩ : ∃ r, (u * 4294967296 + d1) % N = r := ⟨_, rfl⟩
 simp only [eq1, er1] at e1 ⊢
 have e : u * 18446744073709551616 + d1 * 4294967296 + d0 = N * (q1 * 4294967296) + (r1 * 4294967296 + d0) := by
  rw [← Nat.mul_assoc]; omega
 rw [e]
 constructor
 ·rw [Nat.mul_add_div hN]
 ·rw [Nat.mul_add_mod]
theorem div64_tells (hi lo y : Nat) (h1 : hi < y) (h2 : y < 18446744073709551616) (h3 : lo < 18446744073709551616) (k : Nat) (hk : 20 ≤ k) :
  bits_Div64.f k (hi : Int) (lo : Int) (y : Int) = some ((((hi * 18446744073709551616 + lo) / y : Nat) : Int), (((hi * 18446744073709551616 + lo) % y : Nat) : Int)) := by
 obtain ⟨k, rfl⟩ : ∃ m, k = m + 1 := ⟨k - 1, by omega⟩
 unfold bits_Div64.f
 rw [if_neg (by omega), if_neg (by omega)]
 by_cases h0 : hi = 0
 ·subst h0
  rw [if_pos (by omega)]
  simp only [Nat.zero_mul, Nat.zero_add]
  rw [Int.tdiv_eq_ediv_of_nonneg (by omega), Int.tmod_eq_emod_of_nonneg (by omega), show ((lo : Int) / (y : Int)) = ((lo / y : Nat) : Int) by simp, wrapU_id _ (Nat.lt_of_le_of_lt (Nat.div_le_self _ _) h3)]
  simp
 ·rw [if_neg (by omega)]
  obtain ⟨t, e, ht, hB⟩ := len64_tells k y h2
  obtain ⟨b1, b2⟩ := hB
  have b2 := b2 (by omega)
  unfold bits_LeadingZeros64.f
  rw [e]
  simp only [Option.bind_some]
  obtain ⟨s, hs⟩ : ∃ s : Nat, t + s = 64 := ⟨64 - t, by omega⟩
  have w0 : IntKind.u64.wrap (wrap64 (64 - (t : Int))) = (s : Int) := by
   rw [show wrap64 (64 - (t : Int)) = (s : Int) by unfold wrap64; omega, wrapU_id _ (by omega)]
  rw [w0]
  have w1 : IntKind.u64.wrap (64 - (s : Int)) = (t : Int) := by
   rw [show (64 - (s : Int)) = (t : Int) by omega, wrapU_id _ (by omega)]
  rw [w1, if_pos (by omega), if_pos (by omega)]
  have pS : 0 < 2 ^ s := Nat.two_pow_pos s
  have pT : 0 < 2 ^ t := Nat.two_pow_pos t
  have pp : 2 ^ t * 2 ^ s = 18446744073709551616 := by rw [← Nat.pow_add, hs]
  have pq : 2 ^ (t - 1) * 2 ^ s = 9223372036854775808 := by rw [← Nat.pow_add, show t - 1 + s = 63 by omega]
  have hN1 : y * 2 ^ s < 18446744073709551616 := by rw [← pp]; exact (Nat.mul_lt_mul_right pS).2 b1
  have hN2 : 9223372036854775808 ≤ y * 2 ^ s := by rw [← pq]; exact Nat.mul_le_mul_right _ b2.2
  have smin : min ((s : Int)).toNat IntKind.u64.bits = s := by simp [IntKind.bits]; omega
  have tmin : min ((t : Int)).toNat IntKind.u64.bits = t := by simp [IntKind.bits]; omega
  have c1 : shl .u64 (y : Int) (s : Int) = ((y * 2 ^ s : Nat) : Int) := by
   unfold shl
   rw [smin, show ((y : Int) * 2 ^ s) = ((y * 2 ^ s : Nat) : Int) by simp, wrapU_id _ hN1]
  have hH : hi * 2 ^ s < 18446744073709551616 := Nat.lt_of_le_of_lt (Nat.mul_le_mul_right _ (by omega)) hN1
  have c2 : shl .u64 (hi : Int) (s : Int) = ((hi * 2 ^ s : Nat) : Int) := by
   unfold shl
   rw [smin, show ((hi : Int) * 2 ^ s) = ((hi * 2 ^ s : Nat) : Int) by simp, wrapU_id _ hH]
  have c3 : shr .u64 (lo : Int) (t : Int) = ((lo / 2 ^ t : Nat) : Int) := by
   unfold shr
   rw [tmin]; simp
  have hL : lo / 2 ^ t < 2 ^ s := by rw [Nat.div_lt_iff_lt_mul pT, Nat.mul_comm, pp]; exact h3
  have c4 : Go.bits .or .u64 ((hi * 2 ^ s : Nat) : Int) ((lo / 2 ^ t : Nat) : Int) = ((hi * 2 ^ s + lo / 2 ^ t : Nat) : Int) := or_join s (by omega) _ _ hH (Nat.mul_mod_left _ _) hL
  have c5 : shl .u64 (lo : Int) (s : Int) = ((lo * 2 ^ s % 18446744073709551616 : Nat) : Int) := by
   unfold shl
   rw [smin, show ((lo : Int) * 2 ^ s) = ((lo * 2 ^ s : Nat) : Int) by simp, wrapU]; omega
  rw [c1, c2, c3, c4, c5]
  have el : lo * 2 ^ s % 18446744073709551616 + lo / 2 ^ t * 18446744073709551616 = lo * 2 ^ s := by
   have a : lo * 2 ^ s / 18446744073709551616 = lo / 2 ^ t := by
    rw [← pp, Nat.mul_div_mul_right _ _ pS]
   have b := Nat.div_add_mod (lo * 2 ^ s) 18446744073709551616
   rw [a] at b
   omega
  have hU : hi * 2 ^ s + lo / 2 ^ t < y * 2 ^ s := by
   have : (hi + 1) * 2 ^ s ≤ y * 2 ^ s := Nat.mul_le_mul_right _ (by omega)
   rw [Nat.add_mul] at this
   omega
  have eX : (hi * 2 ^ s + lo / 2 ^ t) * 18446744073709551616 + lo * 2 ^ s % 18446744073709551616 = (hi * 18446744073709551616 + lo) * 2 ^ s := by
   rw [Nat.add_mul, Nat.add_mul, Nat.mul_right_comm]; omega
  have q1 : (hi * 18446744073709551616 + lo) * 2 ^ s / (y * 2 ^ s) = (hi * 18446744073709551616 + lo) / y := Nat.mul_div_mul_right _ _ pS
  have q2 : (hi * 18446744073709551616 + lo) * 2 ^ s % (y * 2 ^ s) / 2 ^ s = (hi * 18446744073709551616 + lo) % y := by
   rw [Nat.mul_mod_mul_right, Nat.mul_div_cancel _ pS]
  rw [← q1, ← q2, ← eX]
  generalize hi * 2 ^ s + lo / 2 ^ t = u at *
  have hL0 : lo * 2 ^ s % 18446744073709551616 < 18446744073709551616 := Nat.mod_lt _ (by omega)
  generalize lo * 2 ^ s % 18446744073709551616 = L at *
  generalize y * 2 ^ s = N at *
  clear eX q1 q2 el hL c1 c2 c3 c4 c5 hH pp pq
  rw [show ((N : Int) / 4294967296) = ((N / 4294967296 : Nat) : Int) by omega, show ((L : Int) / 4294967296) = ((L / 4294967296 : Nat) : Int) by omega, and_lo32 N (by omega), and_lo32 L (by omega)]
  have hE : N = N / 4294967296 * 4294967296 + N % 4294967296 := by omega
  have b1' : 2147483648 ≤ N / 4294967296 := by omega
  have b2' : N / 4294967296 < 4294967296 := by omega
  have b3' : N % 4294967296 < 4294967296 := by omega
  have d1' : L / 4294967296 < 4294967296 := by omega
  have d2' : L % 4294967296 < 4294967296 := by omega
  have eL : u * 18446744073709551616 + L = u * 18446744073709551616 + L / 4294967296 * 4294967296 + L % 4294967296 := by omega
  rw [eL]
  generalize N / 4294967296 = yn1 at *
  generalize N % 4294967296 = yn0 at *
  generalize L / 4294967296 = d1 at *
  generalize L % 4294967296 = d0 at *
  rw [if_neg (by omega)]
  obtain ⟨g1, g2, g3, g4⟩ := guess0 hE b3' b1' b2' d1' hU
  obtain ⟨w4, w5⟩ := wguess (u := u) (yn1 := yn1) (by omega) (by omega)
  rw [w4, w5, div_l0 hE b3' b1' b2' d1' d2' hU (by omega) 2 (k + 1) _ _ (by omega) (by omega) (by omega) g3 g1 g2, (two_digits (by omega)).1, (two_digits (by omega)).2]
def Tells {α : Type} (f : Nat → Option α) (v : α) : Prop := ∃ k0, ∀ k, k0 ≤ k → f k = some v
theorem Tells.const {α : Type} (v : α) : Tells (fun _ => some v) v := ⟨0, fun _ _ => rfl⟩
theorem Tells.bind {α β : Type} {f : Nat → Option α} {g : Nat → α → Option β} {v : α} {u : β} (h1 : Tells f v) (h2 : Tells (fun k => g k v) u) : Tells (fun k => (f k).bind (g k)) u := by
 obtain ⟨a, ha⟩ := h1
 obtain ⟨b, hb⟩ := h2
 exact ⟨max a b, fun k hk => by show (f k).bind (g k) = _; rw [ha k (by omega)]; exact hb k (by omega)⟩
theorem Tells.step {α : Type} {f g : Nat → Option α} {v : α} (he : ∀ k, f (k + 1) = g k) (h : Tells g v) : Tells f v := by
 obtain ⟨a, ha⟩ := h
 refine ⟨a + 1, fun k hk => ?_⟩
 obtain ⟨j, rfl⟩ : ∃ j, k = j + 1 := ⟨k - 1, by omega⟩
 rw [he]; exact ha j (by omega)
theorem Tells.same {α : Type} {f g : Nat → Option α} {v : α} (he : ∀ k, f k = g k) (h : Tells g v) : Tells f v := by
 obtain ⟨a, ha⟩ := h
 exact ⟨a, fun k hk => by rw [he]; exact ha k hk⟩
theorem Tells.pos {α : Type} {c : Prop} [Decidable c] {f g : Nat → Option α} {v : α} (h : c) (hf : Tells f v) : Tells (fun k => if c then f k else g k) v := Tells.same (fun k => if_pos h) hf
theorem Tells.neg {α : Type} {c : Prop} [Decidable c] {f g : Nat → Option α} {v : α} (h : ¬ c) (hg : Tells g v) : Tells (fun k => if c then f k else g k) v := Tells.same (fun k => if_neg h) hg
theorem Tells.of_le {α : Type} {f : Nat → Option α} {v : α} {k : Nat} (hm : ∀ k, LeO (f k) (f (k + 1))) (h : f k = some v) : Tells f v := by
 refine ⟨k, fun j hj => ?_⟩
 induction j with
 | zero =>
  obtain rfl : k = 0 := by omega
  exact h
 | succ j ih =>
  by_cases e : k = j + 1
  ·rw [← e]; exact h
  ·exact hm j _ (ih (by omega))
theorem Tells.get {α : Type} {f : Nat → Option α} {v : α} (h : Tells f v) : ∃ k, f k = some v := h.elim fun k hk => ⟨k, hk k (Nat.le_refl _)⟩
def I64 (a : Int) : Prop := -9223372036854775808 ≤ a ∧ a < 9223372036854775808
theorem I64.of_wf {a : Int} (h : (Lit.int .i64 a).wf = true) : I64 a := by
 simp only [Lit.wf, IntKind.min, IntKind.max, IntKind.signed, IntKind.bits, Bool.and_eq_true, decide_eq_true_eq, if_true] at h
 unfold I64; omega
theorem wrap64_id {a : Int} (h : I64 a) : wrap64 a = a := by
 unfold I64 at h; unfold wrap64; omega
theorem size_tells {a : Int} (h : I64 a) : ratio_size.f a = some (a.natAbs : Int) := by
 unfold ratio_size.f
 unfold I64 at h
 split
 ·rw [wrapU, wrapU]
  unfold wrap64
  congr 1; omega
 ·rw [wrapU]
  congr 1; omega
theorem small_tells (a : Int) : ratio_small.f a = some (0, a) := rfl
theorem mul64_tells (a b : Nat) (ha : a < 18446744073709551616) (hb : b < 18446744073709551616) :
  bits_Mul64.f (a : Int) (b : Int) = some (((a * b / 18446744073709551616 : Nat) : Int), ((a * b % 18446744073709551616 : Nat) : Int)) := by
 unfold bits_Mul64.f
 rw [and_lo32 a ha, and_lo32 b hb]
 have ea := Nat.div_add_mod a 4294967296
 have eb := Nat.div_add_mod b 4294967296
 have la := Nat.mod_lt a (show 0 < 4294967296 by decide)
 have lb := Nat.mod_lt b (show 0 < 4294967296 by decide)
 have ha1 : a / 4294967296 < 4294967296 := by omega
 have hb1 : b / 4294967296 < 4294967296 := by omega
 obtain ⟨a1, ea1⟩ : ∃ x, a / 4294967296 = x := ⟨_, rfl⟩
 obtain ⟨a0, ea0⟩ : ∃ x, a % 4294967296 = x := ⟨_, rfl⟩
 obtain ⟨b1, eb1⟩ : ∃ x, b / 4294967296 = x := ⟨_, rfl⟩
 obtain ⟨b0, eb0⟩ : ∃ x, b % 4294967296 = x := ⟨_, rfl⟩
 have c1 : ((a : Int) / 4294967296) = (a1 : Int) := by rw [← ea1]; rfl
 have c2 : ((b : Int) / 4294967296) = (b1 : Int) := by rw [← eb1]; rfl
 rw [c1, c2, ea0, eb0]
 rw [ea1, ea0] at ea
 rw [eb1, eb0] at eb
 rw [ea1] at ha1
 rw [eb1] at hb1
 rw [ea0] at la
 rw [eb0] at lb
 clear c1 c2 ea1 ea0 eb1 eb0
 subst ea eb
 have p11 : a1 * b1 ≤ 4294967295 * 4294967295 := Nat.mul_le_mul (by omega) (by omega)
 have p10 : a1 * b0 ≤ 4294967295 * 4294967295 := Nat.mul_le_mul (by omega) (by omega)
 have p01 : a0 * b1 ≤ 4294967295 * 4294967295 := Nat.mul_le_mul (by omega) (by omega)
 have p00 : a0 * b0 ≤ 4294967295 * 4294967295 := Nat.mul_le_mul (by omega) (by omega)
 have hp : (4294967296 * a1 + a0) * (4294967296 * b1 + b0) = 18446744073709551616 * (a1 * b1) + 4294967296 * (a1 * b0) + 4294967296 * (a0 * b1) + a0 * b0 := by
  simp only [Nat.add_mul, Nat.mul_add]
  have : 4294967296 * a1 * (4294967296 * b1) = 18446744073709551616 * (a1 * b1) := by
   rw [Nat.mul_mul_mul_comm]
  have : 4294967296 * a1 * b0 = 4294967296 * (a1 * b0) := Nat.mul_assoc _ _ _
  have : a0 * (4294967296 * b1) = 4294967296 * (a0 * b1) := Nat.mul_left_comm _ _ _
  omega
 have hpi : ((4294967296 * a1 + a0 : Nat) : Int) * ((4294967296 * b1 + b0 : Nat) : Int) = (((4294967296 * a1 + a0) * (4294967296 * b1 + b0) : Nat) : Int) := (Int.natCast_mul _ _).symm
 rw [hpi, hp]
 have n11 : (a1 : Int) * (b1 : Int) = ((a1 * b1 : Nat) : Int) := (Int.natCast_mul _ _).symm
 have n10 : (a1 : Int) * (b0 : Int) = ((a1 * b0 : Nat) : Int) := (Int.natCast_mul _ _).symm
 have n01 : (a0 : Int) * (b1 : Int) = ((a0 * b1 : Nat) : Int) := (Int.natCast_mul _ _).symm
 have n00 : (a0 : Int) * (b0 : Int) = ((a0 * b0 : Nat) : Int) := (Int.natCast_mul _ _).symm
 rw [n11, n10, n01, n00]
 clear n11 n10 n01 n00 hpi hp
 obtain ⟨p, ep⟩ : ∃ x, a1 * b1 = x := ⟨_, rfl⟩
 obtain ⟨q, eq⟩ : ∃ x, a1 * b0 = x := ⟨_, rfl⟩
 obtain ⟨r, er⟩ : ∃ x, a0 * b1 = x := ⟨_, rfl⟩
 obtain ⟨s, es⟩ : ∃ x, a0 * b0 = x := ⟨_, rfl⟩
 rw [ep] at p11 ⊢
 rw [eq] at p10 ⊢
 rw [er] at p01 ⊢
 rw [es] at p00 ⊢
 clear ep eq er es ha hb
 have w1 : IntKind.u64.wrap ((s : Nat) : Int) = ((s : Nat) : Int) := wrapU_id _ (by omega)
 have w2 : IntKind.u64.wrap ((q : Nat) : Int) = ((q : Nat) : Int) := wrapU_id _ (by omega)
 have w3 : IntKind.u64.wrap ((p : Nat) : Int) = ((p : Nat) : Int) := wrapU_id _ (by omega)
 have w4 : IntKind.u64.wrap ((r : Nat) : Int) = ((r : Nat) : Int) := wrapU_id _ (by omega)
 rw [w1, w2, w3, w4]
 have d1 : ((s : Int) / 4294967296) = ((s / 4294967296 : Nat) : Int) := rfl
 rw [d1, ← Int.natCast_add, wrapU_id (q + s / 4294967296) (by omega), and_lo32 _ (by omega), ← Int.natCast_add, wrapU_id ((q + s / 4294967296) % 4294967296 + r) (by omega)]
 have d2 : (((q + s / 4294967296 : Nat) : Int) / 4294967296) = (((q + s / 4294967296) / 4294967296 : Nat) : Int) := rfl
 have d3 : ((((q + s / 4294967296) % 4294967296 + r : Nat) : Int) / 4294967296) = ((((q + s / 4294967296) % 4294967296 + r) / 4294967296 : Nat) : Int) := rfl
 rw [d2, d3, ← Int.natCast_add, wrapU_id (p + (q + s / 4294967296) / 4294967296) (by omega), ← Int.natCast_add, wrapU_id _ (by omega), wrapU]
 congr 2
 ·congr 1; omega
theorem mul_tells (a b : Nat) (ha : a < 18446744073709551616) (hb : b < 18446744073709551616) :
  ratio_mul.f (a : Int) (b : Int) = some (((a * b / 18446744073709551616 : Nat) : Int), ((a * b % 18446744073709551616 : Nat) : Int)) := by
 unfold ratio_mul.f
 rw [mul64_tells a b ha hb]; rfl
def cmpN (a b : Nat) : Int := if a = b then 0 else if a < b then -1 else 1
theorem wcmp_tells (a b : Nat) (ha : a < 340282366920938463463374607431768211456) (hb : b < 340282366920938463463374607431768211456) :
  ratio_wide_cmp.f ((a / 18446744073709551616 : Nat) : Int) ((a % 18446744073709551616 : Nat) : Int) ((b / 18446744073709551616 : Nat) : Int) ((b % 18446744073709551616 : Nat) : Int) = some (cmpN a b) := by
 unfold ratio_wide_cmp.f cmpN
 simp only [Bool.and_eq_true, beq_iff_eq, Int.natCast_inj, Int.ofNat_lt]
 by_cases h : a = b
 ·subst h; simp
 ·rw [if_neg (by omega), if_neg h]
  by_cases h2 : a < b
  ·rw [if_pos h2]
   by_cases h3 : a / 18446744073709551616 < b / 18446744073709551616
   ·rw [if_pos h3]
   ·rw [if_neg h3, if_pos (by omega), if_pos (by omega)]
  ·rw [if_neg h2, if_neg (by omega)]
   by_cases h3 : a / 18446744073709551616 = b / 18446744073709551616
   ·rw [if_pos h3, if_neg (by omega)]
   ·rw [if_neg h3]
def hiW (n : Nat) : Int := ((n / 18446744073709551616 : Nat) : Int)
def loW (n : Nat) : Int := ((n % 18446744073709551616 : Nat) : Int)
theorem hiW_lt {n : Nat} (h : n < 18446744073709551616) : hiW n = 0 := by unfold hiW; rw [Nat.div_eq_of_lt h]; rfl
theorem loW_lt {n : Nat} (h : n < 18446744073709551616) : loW n = (n : Int) := by unfold loW; rw [Nat.mod_eq_of_lt h]
theorem wminus_tells {a b : Nat} (ha : a < 340282366920938463463374607431768211456) (hb : b ≤ a) : ratio_wide_minus.f (hiW a) (loW a) (hiW b) (loW b) = some (hiW (a - b), loW (a - b)) := by
 unfold ratio_wide_minus.f hiW loW M64
 rw [if_pos (by omega)]
 congr 2
 ·split <;> omega
 ·omega
theorem shr_nat (x i : Nat) (hi : i ≤ 64) : shr .u64 (x : Int) (i : Int) = ((x / 2 ^ i : Nat) : Int) := by
 unfold shr
 rw [Int.toNat_natCast, Nat.min_eq_left (show i ≤ IntKind.u64.bits from hi)]
 exact_mod_cast rfl
theorem and_one (x : Nat) (h : x < 18446744073709551616) : Go.bits .and .u64 (x : Int) 1 = ((x % 2 : Nat) : Int) := by
 have := bits_mask .u64 64 (by decide) wrapU_ok 1 (by decide) (x : Int) (by omega) (by omega)
 simpa using this
theorem and_63_all : ∀ i : Fin 128, Go.bits .and .i64 (i.1 : Int) 63 = ((i.1 % 64 : Nat) : Int) := by decide +kernel
theorem and_63 (i : Nat) (h : i < 128) : Go.bits .and .i64 (i : Int) 63 = ((i % 64 : Nat) : Int) := and_63_all ⟨i, h⟩
theorem over_digit {X Y Q R i : Nat} (h : Q * Y + R = X / 2 ^ (i + 1)) : (2 * Q) * Y + (2 * R + X / 2 ^ i % 2) = X / 2 ^ i := by
 have e : X / 2 ^ (i + 1) = X / 2 ^ i / 2 := by rw [Nat.pow_succ, Nat.div_div_eq_div_mul]
 rw [e] at h
 rw [Nat.mul_assoc]
 omega
theorem digit_at {X i : Nat} (hX : X < 340282366920938463463374607431768211456) (hi : i < 128) :
  (if (i : Int) < 64 then Go.bits .and .u64 (shr .u64 (loW X) (i : Int)) 1 else Go.bits .and .u64 (shr .u64 (hiW X) (Go.bits .and .i64 (i : Int) 63)) 1) = ((X / 2 ^ i % 2 : Nat) : Int) := by
 split
 ·rename_i h
  unfold loW
  rw [shr_nat _ _ (by omega), and_one _ (Nat.lt_of_le_of_lt (Nat.div_le_self _ _) (by omega))]
  congr 1
  have : X % 18446744073709551616 / 2 ^ i % 2 = X / 2 ^ i % 2 := by
   have e : 18446744073709551616 = 2 ^ i * (2 * 2 ^ (63 - i)) := by rw [← Nat.pow_succ', ← Nat.pow_add, show i + (63 - i + 1) = 64 by omega]
   rw [e, Nat.mod_mul_right_div_self, Nat.mod_mul_right_mod]
  exact this
 ·rename_i h
  unfold hiW
  rw [and_63 i hi, shr_nat _ _ (by omega), and_one _ (Nat.lt_of_le_of_lt (Nat.div_le_self _ _) (by omega))]
  congr 1
  have e : 18446744073709551616 * 2 ^ (i % 64) = 2 ^ i := by rw [show (18446744073709551616 : Nat) = 2 ^ 64 by decide, ← Nat.pow_add, show 64 + i % 64 = i by omega]
  rw [Nat.div_div_eq_div_mul, e]
theorem twice_lo {R b : Nat} (hR : R < 170141183460469231731687303715884105728) (hb : b < 2) : Go.bits .or .u64 (IntKind.u64.wrap (loW R * 2)) (b : Int) = loW (2 * R + b) := by
 unfold loW
 rw [show ((R % 18446744073709551616 : Nat) : Int) * 2 = ((R % 18446744073709551616 * 2 : Nat) : Int) by omega, wrapU]
 rw [show ((R % 18446744073709551616 * 2 : Nat) : Int) % 18446744073709551616 = ((R % 18446744073709551616 * 2 % 18446744073709551616 : Nat) : Int) by omega]
 rw [or_join 1 (by decide) _ b (by omega) (by omega) (by omega)]
 congr 1; omega
theorem twice_hi {R b : Nat} (hR : R < 170141183460469231731687303715884105728) (hb : b < 2) : Go.bits .or .u64 (IntKind.u64.wrap (hiW R * 2)) (loW R / 9223372036854775808) = hiW (2 * R + b) := by
 unfold loW hiW
 rw [show ((R / 18446744073709551616 : Nat) : Int) * 2 = ((R / 18446744073709551616 * 2 : Nat) : Int) by omega, wrapU_id _ (by omega)]
 rw [show ((R % 18446744073709551616 : Nat) : Int) / 9223372036854775808 = ((R % 18446744073709551616 / 9223372036854775808 : Nat) : Int) by omega]
 rw [or_join 1 (by decide) _ _ (by omega) (by omega) (by omega)]
 congr 1; omega
theorem twice_lo0 {R : Nat} (hR : R < 170141183460469231731687303715884105728) : IntKind.u64.wrap (loW R * 2) = loW (2 * R) := by
 unfold loW
 rw [wrapU]; omega
theorem over_loop {X Y : Nat} (hX : X < 340282366920938463463374607431768211456) (hY : 0 < Y) (hY2 : Y ≤ 170141183460469231731687303715884105728) :
  ∀ (i Q R : Nat), i ≤ 128 → Q * Y + R = X / 2 ^ i → R < Y → Q < 2 ^ (128 - i) →
   Tells (fun k => ratio_wide_over.l0 k ((i : Int) - 1) (hiW X) (loW X) (hiW Y) (loW Y) (hiW Q) (loW Q) (hiW R) (loW R)) (hiW (X / Y), loW (X / Y), hiW (X % Y), loW (X % Y))
 | 0, Q, R, _, hQ, hR, hq => by
  refine Tells.step (g := fun k => some (hiW Q, loW Q, hiW R, loW R)) (fun k => ?_) ?_
  ·simp [ratio_wide_over.l0]
  ·have e : X / Y = Q ∧ X % Y = R := by
    rw [Nat.pow_zero, Nat.div_one] at hQ
    subst hQ
    exact ⟨by rw [Nat.mul_comm, Nat.mul_add_div hY, Nat.div_eq_of_lt hR, Nat.add_zero], by rw [Nat.mul_comm, Nat.mul_add_mod, Nat.mod_eq_of_lt hR]⟩
   rw [e.1, e.2]
   exact Tells.const _
 | i + 1, Q, R, hi, hQ, hR, hq => by
  have hb := digit_at (i := i) hX (by omega)
  have hd := over_digit hQ
  have hb2 : X / 2 ^ i % 2 < 2 := Nat.mod_lt _ (by decide)
  obtain ⟨b, eb⟩ : ∃ b, X / 2 ^ i % 2 = b := ⟨_, rfl⟩
  rw [eb] at hb hd hb2
  have hQ2 : Q < 170141183460469231731687303715884105728 := Nat.lt_of_lt_of_le hq (Nat.le_trans (Nat.pow_le_pow_right (by decide) (show 128 - (i + 1) ≤ 127 by omega)) (by decide))
  have hR2 : R < 170141183460469231731687303715884105728 := by omega
  have hq2 : 2 * Q + 1 < 2 ^ (128 - i) := by
   have : 2 ^ (128 - i) = 2 * 2 ^ (128 - (i + 1)) := by rw [show 128 - i = 128 - (i + 1) + 1 by omega, Nat.pow_succ']
   omega
  refine Tells.step (g := fun k => ratio_wide_over.j1 k (i : Int) (b : Int) (hiW X) (loW X) (hiW Y) (loW Y) (hiW Q) (loW Q) (hiW R) (loW R)) (fun k => ?_) ?_
  ·have e : (((i + 1 : Nat) : Int) - 1) = (i : Int) := by omega
   have h63 : 0 ≤ Go.bits .and .i64 (i : Int) 63 := by rw [and_63 i (by omega)]; omega
   rw [e]
   simp only [ratio_wide_over.l0]
   rw [if_pos (by omega), if_pos h63]
   split
   ·rename_i h6
    rw [if_pos h6] at hb
    rw [if_pos (by omega), hb]
   ·rename_i h6
    rw [if_neg h6] at hb
    rw [hb]
  ·by_cases hc : 2 * R + b < Y
   ·refine Tells.step (g := fun k => ratio_wide_over.l0 k ((i : Int) - 1) (hiW X) (loW X) (hiW Y) (loW Y) (hiW (2 * Q)) (loW (2 * Q)) (hiW (2 * R + b)) (loW (2 * R + b))) (fun k => ?_) (over_loop hX hY hY2 i (2 * Q) (2 * R + b) (by omega) (by rw [hd]) hc (by omega))
    simp only [ratio_wide_over.j1]
    rw [twice_hi hR2 hb2, twice_lo hR2 hb2, twice_lo0 hQ2, twice_hi (b := 0) hQ2 (by decide), Nat.add_zero]
    have hw := wcmp_tells (2 * R + b) Y (by omega) (by omega)
    unfold hiW loW at *
    rw [hw]
    unfold cmpN
    rw [if_neg (by omega), if_pos hc]
    simp only [Option.bind_some]
    rw [if_neg (by decide), wrap64_id (by unfold I64; omega)]
   ·refine Tells.step (g := fun k => ratio_wide_over.l0 k ((i : Int) - 1) (hiW X) (loW X) (hiW Y) (loW Y) (hiW (2 * Q + 1)) (loW (2 * Q + 1)) (hiW (2 * R + b - Y)) (loW (2 * R + b - Y))) (fun k => ?_) (over_loop hX hY hY2 i (2 * Q + 1) (2 * R + b - Y) (by omega) (by rw [Nat.add_mul]; omega) (by omega) (by omega))
    simp only [ratio_wide_over.j1]
    rw [twice_hi hR2 hb2, twice_lo hR2 hb2, twice_hi (b := 1) hQ2 (by decide), show (1 : Int) = ((1 : Nat) : Int) from rfl, twice_lo (b := 1) hQ2 (by decide)]
    have hw := wcmp_tells (2 * R + b) Y (by omega) (by omega)
    have hm := wminus_tells (a := 2 * R + b) (b := Y) (by omega) (by omega)
    rw [hm]
    unfold hiW loW at *
    rw [hw]
    have : ¬ cmpN (2 * R + b) Y < 0 := by
     unfold cmpN
     split <;> (try split) <;> omega
    simp only [Option.bind_some]
    rw [if_pos (by omega), wrap64_id (by unfold I64; omega)]
theorem I64.nat {n : Nat} (h : n < 9223372036854775808) : I64 (n : Int) := by unfold I64; omega
theorem I64.negNat {n : Nat} (h : n < 9223372036854775808) : I64 (-(n : Int)) := by unfold I64; omega
theorem over_tells {X Y : Nat} (hX : X < 340282366920938463463374607431768211456) (hY : 0 < Y) (hY2 : Y ≤ 170141183460469231731687303715884105728) :
  Tells (fun k => ratio_wide_over.f k (hiW X) (loW X) (hiW Y) (loW Y)) (hiW (X / Y), loW (X / Y), hiW (X % Y), loW (X % Y)) := by
 by_cases h : Y < 18446744073709551616
 ·rw [hiW_lt h, loW_lt h]
  refine ⟨20, fun k hk => ?_⟩
  unfold ratio_wide_over.f
  dsimp only
  rw [if_pos rfl, if_neg (by omega)]
  have e1 : Int.tmod (hiW X) (Y : Int) = ((X / 18446744073709551616 % Y : Nat) : Int) := rfl
  have e2 : Int.tdiv (hiW X) (Y : Int) = ((X / 18446744073709551616 / Y : Nat) : Int) := rfl
  have hm := Nat.mod_lt (X / 18446744073709551616) hY
  rw [e1, e2, show loW X = ((X % 18446744073709551616 : Nat) : Int) from rfl, div64_tells _ _ Y hm h (by omega) k hk]
  have ed := Nat.div_add_mod (X / 18446744073709551616) Y
  have eX := Nat.div_add_mod X 18446744073709551616
  have hq : X / 18446744073709551616 / Y ≤ X / 18446744073709551616 := Nat.div_le_self _ _
  rw [wrapU_id _ (by omega)]
  obtain ⟨q, eq⟩ : ∃ q, X / 18446744073709551616 / Y = q := ⟨_, rfl⟩
  obtain ⟨r, er⟩ : ∃ r, X / 18446744073709551616 % Y = r := ⟨_, rfl⟩
  rw [eq, er] at ed ⊢
  rw [er] at hm
  have e : X = Y * (q * 18446744073709551616) + (r * 18446744073709551616 + X % 18446744073709551616) := by rw [← Nat.mul_assoc]; omega
  have d1 : X / Y = q * 18446744073709551616 + (r * 18446744073709551616 + X % 18446744073709551616) / Y := by
   conv => lhs; rw [e]
   rw [Nat.mul_add_div hY]
  have d2 : X % Y = (r * 18446744073709551616 + X % 18446744073709551616) % Y := by
   conv => lhs; rw [e]
   rw [Nat.mul_add_mod]
  have hlt : (r * 18446744073709551616 + X % 18446744073709551616) / Y < 18446744073709551616 := by
   rw [Nat.div_lt_iff_lt_mul hY]
   have : (r + 1) * 18446744073709551616 ≤ Y * 18446744073709551616 := Nat.mul_le_mul_right _ hm
   rw [Nat.mul_comm 18446744073709551616 Y]
   omega
  have hr : X % Y < Y := Nat.mod_lt _ hY
  rw [hiW_lt (show X % Y < 18446744073709551616 by omega), loW_lt (show X % Y < 18446744073709551616 by omega), d2, d1]
  obtain ⟨t, et⟩ : ∃ t, (r * 18446744073709551616 + X % 18446744073709551616) / Y = t := ⟨_, rfl⟩
  rw [et] at hlt ⊢
  unfold hiW loW
  simp only [Option.bind_some]
  congr 2
  ·congr 1; omega
  ·congr 2; omega
 ·have h1 : ¬ hiW Y = 0 := by unfold hiW; omega
  refine Tells.same (g := fun k => ratio_wide_over.l0 k (((128 : Nat) : Int) - 1) (hiW X) (loW X) (hiW Y) (loW Y) (hiW 0) (loW 0) (hiW 0) (loW 0)) (fun k => ?_) (over_loop hX hY hY2 128 0 0 (by omega) (by rw [Nat.div_eq_of_lt hX]; simp) hY (by decide))
  unfold ratio_wide_over.f
  rw [if_neg h1]
  rfl
theorem common_tells : ∀ (Y X : Nat), X ≤ 170141183460469231731687303715884105728 → Y ≤ 170141183460469231731687303715884105728 →
  Tells (fun k => ratio_common.l0 k (hiW X) (loW X) (hiW Y) (loW Y)) (hiW (Nat.gcd X Y), loW (Nat.gcd X Y)) := by
 intro Y
 induction Y using Nat.strongRecOn with
 | _ Y ih =>
 intro X hX hY
 by_cases h : Y = 0
 ·subst h
  refine Tells.step (g := fun _ => some (hiW X, loW X)) (fun k => ?_) ?_
  ·simp only [ratio_common.l0]
   rfl
  ·rw [Nat.gcd_zero_right]; exact Tells.const _
 ·have hr : X % Y < Y := Nat.mod_lt _ (by omega)
  have h1 := over_tells (X := X) (Y := Y) (by omega) (by omega) hY
  have h2 := ih (X % Y) hr Y hY (by omega)
  refine Tells.step (g := fun k => (ratio_wide_over.f k (hiW X) (loW X) (hiW Y) (loW Y)).bind fun b => ratio_common.l0 k (hiW Y) (loW Y) b.2.2.1 b.2.2.2) (fun k => ?_) ?_
  ·simp only [ratio_common.l0]
   rw [if_pos]
   have : ¬ (hiW Y = 0 ∧ loW Y = 0) := by unfold hiW loW; omega
   simp only [Bool.or_eq_true, Bool.not_eq_true', beq_eq_false_iff_ne]
   omega
  ·refine Tells.bind h1 ?_
   have e : Nat.gcd X Y = Nat.gcd Y (X % Y) := by rw [Nat.gcd_comm, Nat.gcd_rec, Nat.gcd_comm]
   rw [e]
   exact h2
def fitN (neg : Bool) (N D : Nat) : Int × Int × Int :=
 if N / Nat.gcd N D ≤ 4611686018427387904 ∧ D / Nat.gcd N D ≤ 2147483648 then ((if neg then -((N / Nat.gcd N D : Nat) : Int) else ((N / Nat.gcd N D : Nat) : Int)), ((D / Nat.gcd N D : Nat) : Int), 0) else (0, 0, 12)
theorem fit_tells (neg : Bool) {N D : Nat} (hN : N ≤ 170141183460469231731687303715884105728) (hD : 0 < D) (hD2 : D ≤ 170141183460469231731687303715884105728) :
  Tells (fun k => ratio_frac_fit.f k neg (hiW N) (loW N) (hiW D) (loW D)) (fitN neg N D) := by
 have hg : 0 < Nat.gcd N D := Nat.gcd_pos_of_pos_right _ hD
 have hgD : Nat.gcd N D ≤ D := Nat.gcd_le_right _ hD
 obtain ⟨g, eg⟩ : ∃ g, Nat.gcd N D = g := ⟨_, rfl⟩
 have hc := common_tells D N hN hD2
 unfold fitN
 rw [eg] at hg hgD hc ⊢
 have o1 := over_tells (X := N) (Y := g) (by omega) hg (by omega)
 have o2 := over_tells (X := D) (Y := g) (by omega) hg (by omega)
 have l1 : N / g ≤ N := Nat.div_le_self _ _
 have l2 : D / g ≤ D := Nat.div_le_self _ _
 have m1 := wcmp_tells (N / g) 4611686018427387904 (by omega) (by omega)
 have m2 := wcmp_tells (D / g) 2147483648 (by omega) (by omega)
 refine Tells.bind hc (Tells.bind o1 (Tells.bind o2 ?_))
 refine Tells.same (g := fun k => ((some (cmpN (N / g) 4611686018427387904) : Option Int)).bind fun t163 => (if t163 > 0 then (ratio_frac_fit.j0 k true neg (hiW N) (loW N) (hiW D) (loW D) (hiW (N / g)) (loW (N / g)) (hiW (D / g)) (loW (D / g))) else ((some (cmpN (D / g) 2147483648) : Option Int)).bind fun t166 => (ratio_frac_fit.j0 k (decide (t166 > 0)) neg (hiW N) (loW N) (hiW D) (loW D) (hiW (N / g)) (loW (N / g)) (hiW (D / g)) (loW (D / g))))) (fun k => ?_) ?_
 ·rw [← m1, ← m2]; rfl
 ·simp only [Option.bind_some]
  by_cases c1 : N / g ≤ 4611686018427387904
  ·have : ¬ cmpN (N / g) 4611686018427387904 > 0 := by unfold cmpN; split <;> (try split) <;> omega
   refine Tells.neg this ?_
   by_cases c2 : D / g ≤ 2147483648
   ·have : ¬ cmpN (D / g) 2147483648 > 0 := by unfold cmpN; split <;> (try split) <;> omega
    rw [decide_eq_false this, if_pos ⟨c1, c2⟩]
    refine Tells.step (g := fun _ => some _) (fun k => ?_) (Tells.const _)
    simp only [ratio_frac_fit.j0, Bool.false_eq_true, if_false]
    rw [loW_lt (show N / g < 18446744073709551616 by omega), loW_lt (show D / g < 18446744073709551616 by omega), wrap64_id (I64.nat (show N / g < 9223372036854775808 by omega)), wrap64_id (I64.nat (show D / g < 9223372036854775808 by omega)), wrap64_id (I64.negNat (show N / g < 9223372036854775808 by omega))]
    cases neg <;> rfl
   ·have : cmpN (D / g) 2147483648 > 0 := by unfold cmpN; split <;> (try split) <;> omega
    rw [decide_eq_true this, if_neg (fun h => c2 h.2)]
    exact Tells.step (g := fun _ => some _) (fun k => rfl) (Tells.const _)
  ·have : cmpN (N / g) 4611686018427387904 > 0 := by unfold cmpN; split <;> (try split) <;> omega
   refine Tells.pos this ?_
   rw [if_neg (fun h => c1 h.1)]
   exact Tells.step (g := fun _ => some _) (fun k => rfl) (Tells.const _)
theorem New_tells {n d : Int} (hn : I64 n) (hd : I64 d) : Tells (fun k => ratio_New.f k n d) (if d = 0 then (0, 0, 11) else fitN (decide (n < 0) != decide (d < 0)) n.natAbs d.natAbs) := by
 unfold ratio_New.f
 have hn' := hn
 have hd' := hd
 unfold I64 at hn' hd'
 by_cases h : d = 0
 ·rw [if_pos h]
  exact Tells.pos h (Tells.const _)
 ·rw [if_neg h]
  refine Tells.neg h ?_
  have hf : ∀ b, Tells (fun k => ratio_frac_fit.f k b 0 (n.natAbs : Int) 0 (d.natAbs : Int)) (fitN b n.natAbs d.natAbs) := fun b => by
   have := fit_tells b (N := n.natAbs) (D := d.natAbs) (by omega) (by omega) (by omega)
   rwa [hiW_lt (by omega), loW_lt (by omega), hiW_lt (by omega), loW_lt (by omega)] at this
  simp only [size_tells hn, size_tells hd, small_tells, Option.bind_some]
  by_cases h2 : n < 0
  ·refine Tells.pos h2 ?_
   have e : (!decide (d < 0)) = (decide (n < 0) != decide (d < 0)) := by rw [decide_eq_true h2]; cases decide (d < 0) <;> rfl
   rw [e]
   exact Tells.bind (hf _) (Tells.const _)
  ·refine Tells.neg h2 ?_
   have e : (decide (d < 0)) = (decide (n < 0) != decide (d < 0)) := by rw [decide_eq_false h2]; cases decide (d < 0) <;> rfl
   refine Tells.same (g := fun k => (ratio_frac_fit.f k (decide (n < 0) != decide (d < 0)) 0 (n.natAbs : Int) 0 (d.natAbs : Int)).bind fun b => some (b.1, b.2.1, b.2.2)) (fun k => by rw [← e]) ?_
   exact Tells.bind (hf _) (Tells.const _)
def RightN (n d : Int) : Prop := 1 ≤ d ∧ d ≤ 2147483648 ∧ n.natAbs ≤ 4611686018427387904 ∧ Nat.gcd n.natAbs d.natAbs = 1
instance (n d : Int) : Decidable (RightN n d) := inferInstanceAs (Decidable (_ ∧ _))
theorem Right_tells {n d : Int} (hn : I64 n) (hd : I64 d) : Tells (fun k => ratio_Right.f k n d) (decide (RightN n d)) := by
 unfold ratio_Right.f
 have hn' := hn
 have hd' := hd
 unfold I64 at hn' hd'
 by_cases h : d < 1
 ·refine Tells.pos h ?_
  rw [decide_eq_false (fun h' => by have := h'.1; omega)]
  exact Tells.const _
 ·refine Tells.neg h ?_
  have hN := New_tells hn hd
  rw [if_neg (by omega)] at hN
  refine Tells.bind hN ?_
  unfold fitN
  have e1 : (decide (n < 0) != decide (d < 0)) = decide (n < 0) := by rw [decide_eq_false (show ¬ d < 0 by omega)]; cases decide (n < 0) <;> rfl
  rw [e1]
  obtain ⟨g, eg⟩ : ∃ g, Nat.gcd n.natAbs d.natAbs = g := ⟨_, rfl⟩
  have hg : 0 < g := by rw [← eg]; exact Nat.gcd_pos_of_pos_right _ (by omega)
  obtain ⟨a, ha⟩ : g ∣ n.natAbs := by rw [← eg]; exact Nat.gcd_dvd_left _ _
  obtain ⟨b, hb⟩ : g ∣ d.natAbs := by rw [← eg]; exact Nat.gcd_dvd_right _ _
  have da : n.natAbs / g = a := by rw [ha, Nat.mul_div_cancel_left _ hg]
  have db : d.natAbs / g = b := by rw [hb, Nat.mul_div_cancel_left _ hg]
  have hb0 : 0 < b := by
   rcases Nat.eq_zero_or_pos b with h0 | h0
   ·rw [h0] at hb; omega
   ·exact h0
  rw [eg, da, db]
  have hR : RightN n d ↔ 1 ≤ d ∧ d ≤ 2147483648 ∧ n.natAbs ≤ 4611686018427387904 ∧ g = 1 := by unfold RightN; rw [eg]
  by_cases h1 : a ≤ 4611686018427387904 ∧ b ≤ 2147483648
  ·rw [if_pos h1]
   refine Tells.pos rfl ?_
   by_cases h2 : g = 1
   ·subst h2
    have : RightN n d := hR.2 ⟨by omega, by omega, by omega, rfl⟩
    rw [decide_eq_true this]
    have ea : (if decide (n < 0) = true then -((a : Nat) : Int) else ((a : Nat) : Int)) = n := by
     by_cases hn0 : n < 0 <;> simp [hn0] <;> omega
    have eb : ((b : Nat) : Int) = d := by omega
    rw [ea, eb]
    simp only [beq_self_eq_true, Bool.and_self]
    exact Tells.const _
   ·rw [decide_eq_false (fun h' => h2 (hR.1 h').2.2.2)]
    have : ((b : Nat) : Int) ≠ d := by
     intro e
     have : d.natAbs = b := by omega
     rw [this] at hb
     have : b * 1 < b * g := Nat.mul_lt_mul_of_pos_left (by omega) hb0
     rw [Nat.mul_comm b g] at this
     omega
    have : (((b : Nat) : Int) == d) = false := beq_eq_false_iff_ne.2 this
    simp only [this, Bool.and_false]
    exact Tells.const _
  ·rw [if_neg h1]
   refine Tells.neg (by decide) ?_
   rw [decide_eq_false (fun h' => ?_)]
   ·exact Tells.const _
   ·obtain ⟨_, q2, q3, q4⟩ := hR.1 h'
    subst q4
    exact h1 ⟨by omega, by omega⟩
end Go.Proofs.Ytbpifnpljcgjlaa.PLx
