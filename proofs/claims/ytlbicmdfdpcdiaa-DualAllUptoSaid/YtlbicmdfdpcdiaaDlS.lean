import Derived.Test.YtlbicmdfdpcdiaaDlP
set_option linter.unusedSectionVars false
-- Printed by a program of this session's; Lean checks it.
namespace Go.Proofs.Ytlbicmdfdpcdiaa.PDa
open Go.RowKit Go.Proofs.YtlbicmdfdpcdiaaW.PrintWords Go.Proofs.YtlbicmdfdpcdiaaW.PrintLast Go.Proofs.YtlbicmdfdpcdiaaW.PrintMore
attribute [local go_sem] max2_int min2_int max_two min_two max_three min_three max_four min_four
set_option linter.unusedVariables false
set_option linter.unusedSimpArgs false
end Go.Proofs.Ytlbicmdfdpcdiaa.PDa
-- Printed by a program of this session's; Lean checks it.
namespace Go.Proofs.Ytlbicmdfdpcdiaa.PDa
open Go.RowKit Go.Proofs.YtlbicmdfdpcdiaaW.PrintWords Go.Proofs.YtlbicmdfdpcdiaaW.PrintLast Go.Proofs.YtlbicmdfdpcdiaaW.PrintMore
attribute [local go_sem] max2_int min2_int max_two min_two max_three min_three max_four min_four
set_option linter.unusedVariables false
set_option linter.unusedSimpArgs false
end Go.Proofs.Ytlbicmdfdpcdiaa.PDa
-- Printed by a program of this session's; Lean checks it.
namespace Go.Proofs.Ytlbicmdfdpcdiaa.PDa
open Go.RowKit Go.Proofs.YtlbicmdfdpcdiaaW.PrintWords Go.Proofs.YtlbicmdfdpcdiaaW.PrintLast Go.Proofs.YtlbicmdfdpcdiaaW.PrintMore
attribute [local go_sem] max2_int min2_int max_two min_two max_three min_three max_four min_four
set_option linter.unusedVariables false
set_option linter.unusedSimpArgs false
end Go.Proofs.Ytlbicmdfdpcdiaa.PDa
-- Printed by a program of this session's; Lean checks it.
namespace Go.Proofs.Ytlbicmdfdpcdiaa.PDa
open Go.RowKit Go.Proofs.YtlbicmdfdpcdiaaW.PrintWords Go.Proofs.YtlbicmdfdpcdiaaW.PrintLast Go.Proofs.YtlbicmdfdpcdiaaW.PrintMore
attribute [local go_sem] max2_int min2_int max_two min_two max_three min_three max_four min_four
set_option linter.unusedVariables false
set_option linter.unusedSimpArgs false
theorem add64_run (x y b : Nat) (hb : b ≤ 1) (w : World) :
  (callFunc 81 #[.int .u64 x, .int .u64 y, .int .u64 b]).run Try.prog w =
   .ok (.value (.tuple #[.int .u64 (((x + y + b) % 18446744073709551616 : Nat) : Int), .int .u64 (((x + y + b) / 18446744073709551616 : Nat) : Int)])) w := by
 rw [run_callFunc_extern Try.func81 (by kernel_rfl) (by kernel_rfl) (by kernel_rfl) (e := add64Entry) (by kernel_rfl), run_add64 x y b (by omega) (by omega) (by omega) (by omega)]
 simp only [Result.andThen]
 congr 5 <;> omega
end Go.Proofs.Ytlbicmdfdpcdiaa.PDa
-- Printed by a program of this session's; Lean checks it.
namespace Go.Proofs.Ytlbicmdfdpcdiaa.PDa
open Go.RowKit Go.Proofs.YtlbicmdfdpcdiaaW.PrintWords Go.Proofs.YtlbicmdfdpcdiaaW.PrintLast Go.Proofs.YtlbicmdfdpcdiaaW.PrintMore
attribute [local go_sem] max2_int min2_int max_two min_two max_three min_three max_four min_four
set_option linter.unusedVariables false
set_option linter.unusedSimpArgs false
attribute [local go_sem high] eqA88
end Go.Proofs.Ytlbicmdfdpcdiaa.PDa
-- Printed by a program of this session's; Lean checks it.
namespace Go.Proofs.Ytlbicmdfdpcdiaa.PDa
open Go.RowKit Go.Proofs.YtlbicmdfdpcdiaaW.PrintWords Go.Proofs.YtlbicmdfdpcdiaaW.PrintLast Go.Proofs.YtlbicmdfdpcdiaaW.PrintMore
attribute [local go_sem] max2_int min2_int max_two min_two max_three min_three max_four min_four
set_option linter.unusedVariables false
set_option linter.unusedSimpArgs false
end Go.Proofs.Ytlbicmdfdpcdiaa.PDa
-- Printed by a program of this session's; Lean checks it.
namespace Go.Proofs.Ytlbicmdfdpcdiaa.PDa
open Go.RowKit Go.Proofs.YtlbicmdfdpcdiaaW.PrintWords Go.Proofs.YtlbicmdfdpcdiaaW.PrintLast Go.Proofs.YtlbicmdfdpcdiaaW.PrintMore
attribute [local go_sem] max2_int min2_int max_two min_two max_three min_three max_four min_four
set_option linter.unusedVariables false
set_option linter.unusedSimpArgs false
end Go.Proofs.Ytlbicmdfdpcdiaa.PDa
-- Printed by a program of this session's; Lean checks it.
namespace Go.Proofs.Ytlbicmdfdpcdiaa.PDa
open Go.RowKit Go.Proofs.YtlbicmdfdpcdiaaW.PrintWords Go.Proofs.YtlbicmdfdpcdiaaW.PrintLast Go.Proofs.YtlbicmdfdpcdiaaW.PrintMore
attribute [local go_sem] max2_int min2_int max_two min_two max_three min_three max_four min_four
set_option linter.unusedVariables false
set_option linter.unusedSimpArgs false
end Go.Proofs.Ytlbicmdfdpcdiaa.PDa
-- Printed by a program of this session's; Lean checks it.
namespace Go.Proofs.Ytlbicmdfdpcdiaa.PDa
open Go.RowKit Go.Proofs.YtlbicmdfdpcdiaaW.PrintWords Go.Proofs.YtlbicmdfdpcdiaaW.PrintLast Go.Proofs.YtlbicmdfdpcdiaaW.PrintMore
attribute [local go_sem] max2_int min2_int max_two min_two max_three min_three max_four min_four
set_option linter.unusedVariables false
set_option linter.unusedSimpArgs false
set_option maxHeartbeats 8000000 in
set_option maxRecDepth 100000 in
theorem at_calls (i j m N g cap bb bm : Nat) (w : World) (h1 : w.cell? ⟨bb, 0, none⟩ = some (.slice (some ⟨g, 0, none⟩) N cap)) (h2 : w.cell? ⟨bm, 0, none⟩ = some (.int .i64 m))
  (hi : i ≤ 4096) (hj : j ≤ 4096) (hm : m ≤ 4096) (hN : i * (m + 1) + j < N) :
  Calls Try.prog 33 #[.int .i64 i, .int .i64 j, .pointer (some ⟨bb, 0, none⟩), .pointer (some ⟨bm, 0, none⟩)] w fun e w' => e = .returned (.pointer (some ⟨g, (i * (m + 1) + j) * 2, none⟩)) ∧ w' = w := by
 have hu69 := Try.underlying69
 have hu71 := Try.underlying71
 have hmul : i * (m + 1) ≤ 4096 * 4097 := Nat.mul_le_mul hi (by omega)
 have e1 : IntKind.i64.wrap ((m : Int) + 1) = ((m + 1 : Nat) : Int) := by rw [IntKind.wrap_i64]; omega
 have e2 : IntKind.i64.wrap ((i : Int) * ((m + 1 : Nat) : Int)) = ((i * (m + 1) : Nat) : Int) := by
  rw [show (i : Int) * ((m + 1 : Nat) : Int) = ((i * (m + 1) : Nat) : Int) by simp, IntKind.wrap_i64]; omega
 have e3 : IntKind.i64.wrap (((i * (m + 1) : Nat) : Int) + (j : Int)) = ((i * (m + 1) + j : Nat) : Int) := by rw [IntKind.wrap_i64]; omega
 have hNz : ((i * (m + 1) + j : Nat) : Int) < (N : Int) := by omega
 have h0 : (0 : Int) ≤ ((i * (m + 1) + j : Nat) : Int) := by omega
 generalize i * (m + 1) + j = q at *
 generalize i * (m + 1) = p at *
 generalize m + 1 = m1 at *
 go_enter Try.func33, Try.ntmps33
 go_wp2
 go_ret
 exact ⟨by first | rfl | simp, rfl⟩
end Go.Proofs.Ytlbicmdfdpcdiaa.PDa
-- Printed by a program of this session's; Lean checks it.
namespace Go.Proofs.Ytlbicmdfdpcdiaa.PDa
open Go.RowKit Go.Proofs.YtlbicmdfdpcdiaaW.PrintWords Go.Proofs.YtlbicmdfdpcdiaaW.PrintLast Go.Proofs.YtlbicmdfdpcdiaaW.PrintMore
attribute [local go_sem] max2_int min2_int max_two min_two max_three min_three max_four min_four
set_option linter.unusedVariables false
set_option linter.unusedSimpArgs false
def dual_worth_above.f (a0_0 : Int) (a0_1 : Int) (a1_0 : Int) (a1_1 : Int) : Option (Bool) := if a0_0 > a1_0 then (some true) else (if a0_0 = a1_0 then (some (decide (a0_1 > a1_1))) else (some false))
namespace BP
def val (p : Int × Int) : Int := p.1 * 8192 + p.2
def above (a b : Int × Int) : Bool := decide (a.1 > b.1) || (decide (a.1 = b.1) && decide (a.2 > b.2))
def plus (o : Int × Int) (s : Int) : Int × Int := (wrap64 (o.1 + s), wrap64 (o.2 + 1))
def cell (a b c : Int × Int) (s : Int) : Int × Int :=
 let w1 := if above b a = true then b else a
 if s > 0 then (if above (plus c s) w1 = true then plus c s else w1) else w1
structure Tab (n m : Nat) (sh : Nat → Nat → Int) (W : Nat → Nat → Int × Int) : Prop where
 hn : n ≤ 4096
 sh_le : ∀ i j, i < n → j < m → sh i j ≤ 400000000
 last : ∀ j, j ≤ m → W n j = (0, 0)
 side : ∀ i, i ≤ n → W i m = (0, 0)
 step : ∀ i j, i < n → j < m → W i j = cell (W (i + 1) j) (W i (j + 1)) (W (i + 1) (j + 1)) (sh i j)
section
variable {n m : Nat} {sh : Nat → Nat → Int} {W : Nat → Nat → Int × Int}
def V (W : Nat → Nat → Int × Int) (i j : Nat) : Int := val (W i j)
end
end BP
namespace BP
section
variable (sh : Nat → Nat → Int) (W : Nat → Nat → Int × Int)
def hit (want : Int × Int) (p q : Nat) : Bool := decide (0 < sh p q) && decide (plus (W (p + 1) (q + 1)) (sh p q) = want)
def findQ (want : Int × Int) (p : Nat) : Nat → Nat → Option Nat
 | 0, _ => none
 | r + 1, q => if hit sh W want p q = true then some q else findQ want p r (q + 1)
def findP (m : Nat) (want : Int × Int) (j : Nat) : Nat → Nat → Option (Nat × Nat)
 | 0, _ => none
 | r + 1, p => match findQ sh W want p (m - j) j with
  | some q => some (p, q)
  | none => findP m want j r (p + 1)
def rowL (n m : Nat) : Nat → Nat → Nat → Option (List (Nat × Nat))
 | 0, _, _ => none
 | k + 1, i, j => if W i j = (0, 0) then some [] else match findP sh W m (W i j) j (n - i) i with
  | none => none
  | some pq => (rowL n m k (pq.1 + 1) (pq.2 + 1)).map (fun L => pq :: L)
end
section
variable {n m : Nat} {sh : Nat → Nat → Int} {W : Nat → Nat → Int × Int} {want : Int × Int}
theorem findQ_some {p : Nat} : ∀ {r q x : Nat}, findQ sh W want p r q = some x → q ≤ x ∧ x < q + r ∧ hit sh W want p x = true ∧ ∀ y, q ≤ y → y < x → hit sh W want p y = false
 | 0, q, x, h => by simp [findQ] at h
 | r + 1, q, x, h => by
  unfold findQ at h
  by_cases c : hit sh W want p q = true
  ·rw [if_pos c] at h
   obtain rfl := Option.some.inj h
   exact ⟨Nat.le_refl _, by omega, c, fun y h1 h2 => by omega⟩
  ·rw [if_neg c] at h
   obtain ⟨a1, a2, a3, a4⟩ := findQ_some h
   refine ⟨by omega, by omega, a3, fun y h1 h2 => ?_⟩
   by_cases e : y = q
   ·subst e; simpa using c
   ·exact a4 y (by omega) h2
theorem findQ_none {p : Nat} : ∀ {r q : Nat}, findQ sh W want p r q = none → ∀ y, q ≤ y → y < q + r → hit sh W want p y = false
 | 0, q, _, y, h1, h2 => by omega
 | r + 1, q, h, y, h1, h2 => by
  unfold findQ at h
  by_cases c : hit sh W want p q = true
  ·rw [if_pos c] at h; simp at h
  ·rw [if_neg c] at h
   by_cases e : y = q
   ·subst e; simpa using c
   ·exact findQ_none h y (by omega) (by omega)
theorem findP_some {j : Nat} (hj : j ≤ m) : ∀ {r p : Nat} {x : Nat × Nat}, findP sh W m want j r p = some x → p ≤ x.1 ∧ x.1 < p + r ∧ j ≤ x.2 ∧ x.2 < m ∧ hit sh W want x.1 x.2 = true ∧
  (∀ a b, p ≤ a → a < x.1 → j ≤ b → b < m → hit sh W want a b = false) ∧ ∀ b, j ≤ b → b < x.2 → hit sh W want x.1 b = false
 | 0, p, x, h => by simp [findP] at h
 | r + 1, p, x, h => by
  unfold findP at h
  split at h
  ·rename_i q e
   obtain rfl := Option.some.inj h
   obtain ⟨a1, a2, a3, a4⟩ := findQ_some e
   exact ⟨Nat.le_refl _, by dsimp only; omega, a1, by dsimp only; omega, a3, fun a b h1 h2 => by dsimp only at h2; omega, a4⟩
  ·rename_i e
   obtain ⟨a1, a2, a3, a4, a5, a6, a7⟩ := findP_some hj h
   refine ⟨by omega, by omega, a3, a4, a5, fun a b h1 h2 h3 h4 => ?_, a7⟩
   by_cases e1 : a = p
   ·subst e1; exact findQ_none e b h3 (by omega)
   ·exact a6 a b (by omega) h2 h3 h4
end
section
variable {n m : Nat} {sh : Nat → Nat → Int} {W : Nat → Nat → Int × Int}
end
section
variable {n m : Nat} {sh sh' : Nat → Nat → Int} {W W' : Nat → Nat → Int × Int}
end
end BP
namespace BP
def tabAt (m : Nat) (T : List (Int × Int)) (i j : Nat) : Int × Int := T.getD (i * (m + 1) + j) (0, 0)
def cellV (m : Nat) (sh : Nat → Nat → Int) (T : List (Int × Int)) (i j : Nat) : Int × Int := cell (tabAt m T (i + 1) j) (tabAt m T i (j + 1)) (tabAt m T (i + 1) (j + 1)) (sh i j)
def tabJ (m : Nat) (sh : Nat → Nat → Int) (i : Nat) (T : List (Int × Int)) : Nat → List (Int × Int)
 | 0 => T
 | c + 1 => (tabJ m sh i T c).set (i * (m + 1) + (m - 1 - c)) (cellV m sh (tabJ m sh i T c) i (m - 1 - c))
def tabI (n m : Nat) (sh : Nat → Nat → Int) : Nat → List (Int × Int)
 | 0 => List.replicate ((n + 1) * (m + 1)) (0, 0)
 | c + 1 => tabJ m sh (n - 1 - c) (tabI n m sh c) m
theorem tabJ_length (m : Nat) (sh : Nat → Nat → Int) (i : Nat) (T : List (Int × Int)) : ∀ c, (tabJ m sh i T c).length = T.length
 | 0 => rfl
 | c + 1 => by rw [tabJ, List.length_set, tabJ_length m sh i T c]
theorem tabI_length (n m : Nat) (sh : Nat → Nat → Int) : ∀ c, (tabI n m sh c).length = (n + 1) * (m + 1)
 | 0 => by simp [tabI]
 | c + 1 => by rw [tabI, tabJ_length, tabI_length n m sh c]
theorem place_lt {n m i j : Nat} (hi : i ≤ n) (hj : j ≤ m) : i * (m + 1) + j < (n + 1) * (m + 1) := by
 have := Nat.mul_le_mul_right (m + 1) hi
 rw [Nat.succ_mul]; omega
end BP
namespace SD
open Go.Shelf Go.Lib
structure DWB {α : Type} (enc : α → List Value) (blk : Nat) (e : TypeId) (tail : List Value) (w0 : World) (L : List α) (W : World) : Prop where
 row : W.heap[blk]? = some (.cells (L.flatMap enc ++ tail).toArray e (0, 0))
 grown : w0.grownBy W (some blk)
section
variable {α : Type} {enc : α → List Value} {k blk : Nat} {e : TypeId} {tail : List Value} {w0 W W' : World} {L : List α}
end
end SD
theorem above_f (a b : Int × Int) : dual_worth_above.f a.1 a.2 b.1 b.2 = some (BP.above a b) := by
 unfold dual_worth_above.f BP.above
 split
 ·rename_i h; simp [h]
 ·rename_i h
  split
  ·rename_i h2; simp [h2]
  ·rename_i h2; simp [h, h2]
def blockOf (n : Nat) : Code → Option Code
 | .block k c => if k = n then some c else blockOf n c
 | .seq a b => match blockOf n a with
  | some c => some c
  | none => blockOf n b
 | .loop c => blockOf n c
 | .scope c => blockOf n c
 | .cond _ a b => match blockOf n a with
  | some c => some c
  | none => blockOf n b
 | _ => none
noncomputable def blk (n : Nat) : Code := ((Try.f16.body.bind (blockOf n)).getD .skip)
theorem eqA71 (d : Nat) (w : World) (x0 y0 : Int) (x1 y1 : Int) :
  (Op.equalIn (d + 2) 71 (.agg #[.int .i64 x0, .int .i64 x1]) (.agg #[.int .i64 y0, .int .i64 y1])).run Try.prog w = .ok (x0 == y0 && (x1 == y1)) w := by
 exact eqA_arr2 Try.underlying71 (by first | (go_simp; done) | (go_simp; rfl)) (by first | (go_simp; done) | (go_simp; rfl)) (by first | (go_simp; done) | (go_simp; rfl)) (by first | (go_simp; done) | (go_simp; rfl)) (by first | (go_simp; done) | (go_simp; rfl)) (by first | (go_simp; done) | (go_simp; rfl)) (by first | (go_simp; done) | (go_simp; rfl))
attribute [local go_sem high] eqA71
attribute [local go_sem high] eqA71
end Go.Proofs.Ytlbicmdfdpcdiaa.PDa
-- Printed by a program of this session's; Lean checks it.
namespace Go.Proofs.Ytlbicmdfdpcdiaa.PDa
open Go.RowKit Go.Proofs.YtlbicmdfdpcdiaaW.PrintWords Go.Proofs.YtlbicmdfdpcdiaaW.PrintLast Go.Proofs.YtlbicmdfdpcdiaaW.PrintMore
attribute [local go_sem] max2_int min2_int max_two min_two max_three min_three max_four min_four
set_option linter.unusedVariables false
set_option linter.unusedSimpArgs false
namespace SK
structure SWO {α : Type} (lt : α → α → Bool) : Prop where
 asym : ∀ x y, lt x y = true → lt y x = false
 trans : ∀ x y z, lt y x = false → lt z y = false → lt z x = false
section
variable {α : Type} (lt : α → α → Bool)
def mg (A B : List α) : List α := List.merge A B (fun x y => !lt y x)
@[simp] theorem mg_nil_left (B : List α) : mg lt [] B = B := by simp [mg]
@[simp] theorem mg_nil_right (A : List α) : mg lt A [] = A := by simp [mg]
theorem mg_cons (x y : α) (A B : List α) : mg lt (x :: A) (y :: B) = if lt y x = false then x :: mg lt A (y :: B) else y :: mg lt (x :: A) B := by
 unfold mg
 rw [List.cons_merge_cons]
 cases lt y x <;> simp
def srt (L : List α) : Prop := L.Pairwise (fun x y => lt y x = false)
variable {lt}
theorem mg_length (A B : List α) : (mg lt A B).length = A.length + B.length := by unfold mg; exact List.length_merge ..
theorem mg_cut {A2 B2 : List α} : ∀ (A1 B1 : List α), (∀ a ∈ A1, ∀ b ∈ B2, lt b a = false) → (∀ b ∈ B1, ∀ a ∈ A2, lt b a = true) → mg lt (A1 ++ A2) (B1 ++ B2) = mg lt A1 B1 ++ mg lt A2 B2 := by
 intro A1
 induction A1 with
 | nil =>
  intro B1
  induction B1 with
  | nil => intro _ _; simp
  | cons b B1 ih =>
   intro h1 h2
   cases A2 with
   | nil => simp
   | cons a A2 =>
    simp only [List.nil_append, List.cons_append]
    rw [mg_cons, h2 b (by simp) a (by simp)]
    simp only [Bool.true_eq_false, if_false]
    have := ih h1 (fun b hb a ha => h2 b (by simp [hb]) a ha)
    simp only [List.nil_append] at this
    rw [this]
    simp
 | cons a A1 ih =>
  intro B1
  induction B1 with
  | nil =>
   intro h1 h2
   cases B2 with
   | nil => simp
   | cons b B2 =>
    simp only [List.nil_append, List.cons_append]
    rw [mg_cons, h1 a (by simp) b (by simp), if_pos rfl]
    have := ih [] (fun a ha b hb => h1 a (by simp [ha]) b hb) h2
    simp only [List.nil_append] at this
    rw [this]
    simp
  | cons b B1 ihb =>
   intro h1 h2
   simp only [List.cons_append]
   rw [mg_cons, mg_cons]
   split
   ·have := ih (b :: B1) (fun a ha b hb => h1 a (by simp [ha]) b hb) h2
    simp only [List.cons_append] at this
    rw [this]; rfl
   ·have := ihb h1 (fun b hb a ha => h2 b (by simp [hb]) a ha)
    simp only [List.cons_append] at this
    rw [this]; rfl
theorem mg_srt (H : SWO lt) {A B : List α} (hA : srt lt A) (hB : srt lt B) : srt lt (mg lt A B) := by
 unfold srt mg at *
 have := List.pairwise_merge (le := fun x y => !lt y x) (fun a b c h1 h2 => by
   simp only [Bool.not_eq_eq_eq_not, Bool.not_true] at h1 h2 ⊢
   exact H.trans a b c h1 h2) (fun a b => by
   have := H.asym a b
   revert this
   cases lt a b <;> cases lt b a <;> simp) A B (hA.imp fun h => by simpa using h) (hB.imp fun h => by simpa using h)
 exact this.imp fun h => by simpa using h
theorem mg_assoc (H : SWO lt) : ∀ (A B C : List α), mg lt (mg lt A B) C = mg lt A (mg lt B C) := by
 intro A
 induction A with
 | nil => intro B C; simp
 | cons x A ihA =>
  intro B
  induction B with
  | nil => intro C; simp
  | cons y B ihB =>
   intro C
   induction C with
   | nil => simp
   | cons z C ihC =>
    rw [mg_cons (x := x) (y := y), mg_cons (x := y) (y := z)]
    cases hyx : lt y x
    ·simp only [if_true]
     cases hzx : lt z x
     ·-- x first
      cases hzy : lt z y
      ·simp only [if_true]
       rw [mg_cons, hzx, if_pos rfl, mg_cons, hyx, if_pos rfl, ihA, mg_cons (x := y) (y := z), hzy, if_pos rfl]
      ·simp only [Bool.true_eq_false, if_false]
       rw [mg_cons, hzx, if_pos rfl, mg_cons, hzx, if_pos rfl, ihA, mg_cons (x := y) (y := z), hzy]
       simp
     ·have hzy : lt z y = true := by
       cases h : lt z y
       ·have := H.trans x y z hyx h
        rw [this] at hzx; cases hzx
       ·rfl
      simp only [hzy, Bool.true_eq_false, if_false]
      rw [mg_cons, hzx, mg_cons, hzx]
      simp only [Bool.true_eq_false, if_false]
      rw [← ihC, mg_cons (x := x) (y := y), hyx, if_pos rfl]
    ·simp only [Bool.true_eq_false, if_false]
     cases hzy : lt z y
     ·simp only [if_true]
      rw [mg_cons, hzy, if_pos rfl, mg_cons, hyx]
      simp only [Bool.true_eq_false, if_false]
      rw [ihB]
     ·simp only [Bool.true_eq_false, if_false]
      have hzx : lt z x = true := by
       cases h : lt z x
       ·have h1 := H.asym y x hyx
        have := H.trans y x z h1 h
        rw [this] at hzy; cases hzy
       ·rfl
      rw [mg_cons, hzy, mg_cons, hzx]
      simp only [Bool.true_eq_false, if_false]
      rw [← ihC, mg_cons (x := x) (y := y), hyx]
      simp
variable (lt)
def insR (x : α) : List α → List α
 | [] => [x]
 | y :: A => if lt x y then x :: y :: A else y :: insR x A
def isort (L : List α) : List α := L.foldl (fun acc x => insR lt x acc) []
variable {lt}
theorem insR_mg (x : α) : ∀ A : List α, insR lt x A = mg lt A [x]
 | [] => by simp [insR]
 | y :: A => by
  rw [mg_cons, insR, insR_mg x A]
  cases h : lt x y <;> simp
@[simp] theorem isort_nil : isort lt ([] : List α) = [] := rfl
theorem isort_snoc (L : List α) (x : α) : isort lt (L ++ [x]) = mg lt (isort lt L) [x] := by simp [isort, insR_mg]
theorem insR_map {β : Type} {lt' : β → β → Bool} (f : α → β) (h : ∀ x y, lt' (f x) (f y) = lt x y) (x : α) : ∀ A : List α, insR lt' (f x) (A.map f) = (insR lt x A).map f
 | [] => rfl
 | y :: A => by
  simp only [List.map_cons, insR, h, insR_map f h x A]
  split <;> rfl
theorem isort_map {β : Type} {lt' : β → β → Bool} (f : α → β) (h : ∀ x y, lt' (f x) (f y) = lt x y) (L : List α) : isort lt' (L.map f) = (isort lt L).map f := by
 have key : ∀ (L acc : List α), (L.map f).foldl (fun acc x => insR lt' x acc) (acc.map f) = (L.foldl (fun acc x => insR lt x acc) acc).map f := by
  intro L
  induction L with
  | nil => intro acc; rfl
  | cons x L ih =>
   intro acc
   simp only [List.map_cons, List.foldl_cons]
   rw [insR_map f h, ih]
 exact key L []
theorem list_snoc_ind {p : List α → Prop} (h0 : p []) (h1 : ∀ L x, p L → p (L ++ [x])) : ∀ L, p L := by
 intro L
 generalize hn : L.length = n
 induction n generalizing L with
 | zero => obtain rfl := List.eq_nil_of_length_eq_zero hn; exact h0
 | succ n ih =>
  rcases List.eq_nil_or_concat L with rfl | ⟨L', x, rfl⟩
  ·exact h0
  ·rw [List.concat_eq_append] at hn ⊢
   exact h1 L' x (ih L' (by simpa using hn))
theorem isort_length : ∀ L : List α, (isort lt L).length = L.length := by
 refine list_snoc_ind rfl fun L x ih => ?_
 rw [isort_snoc, mg_length, ih]; simp
theorem isort_srt (H : SWO lt) : ∀ L : List α, srt lt (isort lt L) := by
 refine list_snoc_ind (by simp [srt]) fun L x ih => ?_
 rw [isort_snoc]
 exact mg_srt H ih (by simp [srt])
theorem isort_append (H : SWO lt) (A : List α) : ∀ B : List α, isort lt (A ++ B) = mg lt (isort lt A) (isort lt B) := by
 refine list_snoc_ind (by simp) fun B x ih => ?_
 rw [← List.append_assoc, isort_snoc, ih, isort_snoc, mg_assoc H]
theorem mg_le (A B : List α) (h : ∀ a ∈ A, ∀ b ∈ B, lt b a = false) : mg lt A B = A ++ B := by
 have := mg_cut (A2 := []) (B2 := B) A [] h (by simp)
 simpa using this
variable (lt)
def bsort (bs : Nat) (L : List α) : List α :=
 if h : bs = 0 ∨ L = [] then [] else isort lt (L.take bs) ++ bsort bs (L.drop bs)
termination_by L.length
decreasing_by
 have : L.length ≠ 0 := fun e => h (.inr (List.eq_nil_of_length_eq_zero e))
 rw [List.length_drop]; omega
variable {lt}
theorem bsort_nil (bs : Nat) : bsort lt bs ([] : List α) = [] := by unfold bsort; simp
theorem bsort_app (bs : Nat) (h : 0 < bs) (C R : List α) (hC : C.length = bs) : bsort lt bs (C ++ R) = isort lt C ++ bsort lt bs R := by
 conv => lhs; unfold bsort
 rw [dif_neg (by
  intro e
  rcases e with e | e
  ·omega
  ·have h0 := (List.append_eq_nil_iff.1 e).1
   subst h0
   simp at hC; omega)]
 rw [List.take_left' hC, List.drop_left' hC]
theorem bsort_short (bs : Nat) (h : 0 < bs) (R : List α) (hR : R.length ≤ bs) : bsort lt bs R = isort lt R := by
 unfold bsort
 split
 ·rename_i e
  rcases e with e | rfl
  ·omega
  ·rfl
 ·rw [List.take_of_length_le hR, List.drop_eq_nil_of_le hR, bsort_nil, List.append_nil]
theorem bsort_length (bs : Nat) (h : 0 < bs) : ∀ (n : Nat) (L : List α), L.length = n → (bsort lt bs L).length = n := by
 intro n
 induction n using Nat.strongRecOn with
 | _ n ih =>
  intro L hL
  by_cases hs : L.length ≤ bs
  ·rw [bsort_short bs h L hs, isort_length, hL]
  ·have e := bsort_app (lt := lt) bs h (L.take bs) (L.drop bs) (by rw [List.length_take]; omega)
   rw [List.take_append_drop] at e
   rw [e, List.length_append, isort_length, ih (L.drop bs).length (by rw [List.length_drop]; omega) _ rfl, List.length_take, List.length_drop]
   omega
end
end SK
namespace SK
open Go.Shelf Go.Lib
theorem rblk_set {w : World} {g : Nat} {t : TypeId} {cs : Array Value} (h : w.heap[g]? = some (.cells cs t (0, 0))) (i : Nat) (u : Value) : (w.setCell ⟨g, i, none⟩ u).heap[g]? = some (.cells (cs.setIfInBounds i u) t (0, 0)) := by
 simp [World.setCell, Array.getElem?_modify, h]
theorem rblk_cell {W : World} {blk : Nat} {A X B : List Value} {e : TypeId} (h : W.heap[blk]? = some (.cells (A ++ (X ++ B)).toArray e (0, 0))) (s : Nat) (hs : s = A.length) (j : Nat) (v : Value) (hj : X[j]? = some v) : W.cell? ⟨blk, s + j, none⟩ = some v := by
 subst hs
 have hl := (List.getElem?_eq_some_iff.1 hj).1
 unfold World.cell?
 simp only [h]
 rw [List.getElem?_toArray, List.getElem?_append_right (by omega), Nat.add_sub_cancel_left, List.getElem?_append_left hl, hj]
 simp
theorem rblk_load (P : Program) {W : World} {blk : Nat} {A X B : List Value} {e : TypeId} (h : W.heap[blk]? = some (.cells (A ++ (X ++ B)).toArray e (0, 0))) (s k : Nat) (hs : s = A.length) (hk : X.length = k) :
  Sem.run P (loadCellsFrom ⟨blk, s, none⟩ 0 k #[]) W = .ok X.toArray W := by
 have hl := run_loadCells_list (P := P) (w := W) ⟨blk, s, none⟩ X (fun j v hj => by rw [Addr.add_lit]; exact rblk_cell h s hs j v hj)
 rw [hk] at hl
 simpa [loadCells] using hl
theorem rblk_store (P : Program) {W : World} {blk : Nat} {A X B : List Value} {e : TypeId} (h : W.heap[blk]? = some (.cells (A ++ (X ++ B)).toArray e (0, 0))) (s : Nat) (hs : s = A.length) (Y : List Value) (hY : Y.length = X.length) (h1 : ∀ v ∈ Y, v.oneCell' = true) :
  Sem.run P (storeCells ⟨blk, s, none⟩ Y 0) W = .ok () (W.setCells blk s Y) := by
 have := run_storeCells_cells (P := P) blk s Y 0 W (fun j hj => by
   rw [Nat.add_zero, rblk_cell h s hs j X[j] (List.getElem?_eq_getElem (by omega))]; rfl) (fun j hj => by simp [World.frozen?, h]) h1
 rwa [Nat.add_zero] at this
theorem rblk_stored {blk : Nat} {e : TypeId} : ∀ (Y : List Value) {W : World} {A X B : List Value} (h : W.heap[blk]? = some (.cells (A ++ (X ++ B)).toArray e (0, 0))) (s : Nat) (hs : s = A.length) (hY : Y.length = X.length),
  (W.setCells blk s Y).heap[blk]? = some (.cells (A ++ (Y ++ B)).toArray e (0, 0))
 | [], W, A, X, B, h, s, hs, hY => by
  obtain rfl : X = [] := List.eq_nil_of_length_eq_zero hY.symm
  exact h
 | y :: Y, W, A, X, B, h, s, hs, hY => by
  cases X with
  | nil => simp at hY
  | cons x X =>
   have h2 := rblk_set h s y
   have e1 : (A ++ (x :: X ++ B)).toArray.setIfInBounds s y = ((A ++ [y]) ++ (X ++ B)).toArray := by
    subst hs
    simp [List.set_append]
   rw [e1] at h2
   have := rblk_stored Y h2 (s + 1) (by simp [hs]) (by simpa using hY)
   rw [World.setCells]
   rw [this]
   simp
theorem rblk_other {blk : Nat} : ∀ (Y : List Value) (W : World) (s i : Nat), i ≠ blk → (W.setCells blk s Y).heap[i]? = W.heap[i]?
 | [], _, _, _, _ => rfl
 | y :: Y, W, s, i, h => by
  rw [World.setCells, rblk_other Y _ _ _ h]
  exact Below.heap_setCell W ⟨blk, s, none⟩ y i h
theorem rblk_size {blk : Nat} : ∀ (Y : List Value) (W : World) (s : Nat), (W.setCells blk s Y).heap.size = W.heap.size
 | [], _, _ => rfl
 | y :: Y, W, s => by
  rw [World.setCells, rblk_size Y]
  simp [World.setCell]
theorem rblk_rest {blk : Nat} : ∀ (Y : List Value) (W : World) (s : Nat), (W.setCells blk s Y).os = W.os ∧ (W.setCells blk s Y).tape = W.tape ∧ (W.setCells blk s Y).output = W.output
 | [], _, _ => ⟨rfl, rfl, rfl⟩
 | y :: Y, W, s => by
  rw [World.setCells]
  exact rblk_rest Y _ _
structure SWB {α : Type} (enc : α → List Value) (blk : Nat) (e : TypeId) (tail : List Value) (w0 : World) (L : List α) (W : World) : Prop where
 row : W.heap[blk]? = some (.cells (L.flatMap enc ++ tail).toArray e (0, 0))
 grown : w0.grownBy W (some blk)
theorem gtrans {a b c : World} {row : Option Nat} (h : a.grownBy b row) (k : b.grownBy c row) : a.grownBy c row :=
 ⟨k.os.trans h.os, k.tape.trans h.tape, k.output.trans h.output, Nat.le_trans h.size k.size, fun i hi hr => (k.block i (Nat.lt_of_lt_of_le hi h.size) hr).trans (h.block i hi hr)⟩
section
variable {α : Type} {enc : α → List Value} {k blk : Nat} {e : TypeId} {tail : List Value} {w0 W W' : World} {L : List α}
theorem flat_len (hk : ∀ x, (enc x).length = k) : ∀ L : List α, (L.flatMap enc).length = L.length * k
 | [] => by simp
 | x :: L => by rw [List.flatMap_cons, List.length_append, flat_len hk L, hk, List.length_cons, Nat.add_mul, Nat.one_mul, Nat.add_comm]
theorem SWB.below (h : SWB enc blk e tail w0 L W) (hb : Below W.heap.size W W') : SWB enc blk e tail w0 L W' :=
 ⟨(hb.block blk (Array.getElem?_eq_some_iff.1 h.row).1).trans h.row, gtrans h.grown ⟨hb.os, hb.tape, hb.output, hb.size, fun i hi _ => hb.block i hi⟩⟩
theorem SWB.drew (h : SWB enc blk e tail w0 L W) : SWB enc blk e tail w0 L W.drew := h.below ((Below.refl _ _).drew)
theorem cut1 (p : List α) (x : α) (r : List α) (tail : List Value) : (p ++ x :: r).flatMap enc ++ tail = p.flatMap enc ++ (enc x ++ (r.flatMap enc ++ tail)) := by simp
theorem SWB.load (h : SWB enc blk e tail w0 L W) (P : Program) (hk : ∀ x, (enc x).length = k) {off i : Nat} (ho : off = 0) {p r : List α} {x : α} (hL : L = p ++ x :: r) (hi : i = p.length) :
  Sem.run P (loadCellsFrom ⟨blk, off + i * k, none⟩ 0 k #[]) W = .ok (enc x).toArray W := by
 have hr := h.row
 rw [hL, cut1] at hr
 exact rblk_load P hr _ k (by rw [ho, hi, flat_len hk]; omega) (hk x)
theorem SWB.store (h : SWB enc blk e tail w0 L W) (P : Program) (hk : ∀ x, (enc x).length = k) (h1 : ∀ x, ∀ v ∈ enc x, v.oneCell' = true) {off i : Nat} (ho : off = 0) {p r : List α} {x : α} (y : α) (hL : L = p ++ x :: r) (hi : i = p.length) :
  Sem.run P (storeCells ⟨blk, off + i * k, none⟩ (enc y) 0) W = .ok () (W.setCells blk (off + i * k) (enc y)) ∧ SWB enc blk e tail w0 (p ++ y :: r) (W.setCells blk (off + i * k) (enc y)) := by
 have hr := h.row
 rw [hL, cut1] at hr
 have hs : off + i * k = (p.flatMap enc).length := by rw [ho, hi, flat_len hk]; omega
 refine ⟨rblk_store P hr _ hs (enc y) (by rw [hk, hk]) (h1 y), ⟨by rw [rblk_stored (enc y) hr _ hs (by rw [hk, hk]), cut1], ?_⟩⟩
 obtain ⟨r1, r2, r3⟩ := rblk_rest (blk := blk) (enc y) W (off + i * k)
 exact gtrans h.grown ⟨r1, r2, r3, Nat.le_of_eq (rblk_size _ _ _).symm, fun j _ hj => rblk_other _ _ _ _ (fun e => hj (by rw [e]))⟩
end
end SK
namespace SK
open Go.Shelf Go.Lib
structure TF (P : Program) (k : Nat) : Prop where
 mixed : P.follows .mixedOrders = true
 t0 : P.underlying 0 = some (TypeDesc.tuple #[])
 a0 : ∀ w, (isAgg 0).run P w = .ok false w
 z0 : ∀ w, (Go.sizeOf 0).run P w = .ok 1 w
 v0 : ∀ w, (zeroValue 0).run P w = .ok (Value.tuple #[]) w
 t3 : P.underlying 3 = some (TypeDesc.int IntKind.i64)
 a3 : ∀ w, (isAgg 3).run P w = .ok false w
 z3 : ∀ w, (Go.sizeOf 3).run P w = .ok 1 w
 v3 : ∀ w, (zeroValue 3).run P w = .ok (Value.int IntKind.i64 0) w
 t4 : P.underlying 4 = some (TypeDesc.bool)
 a4 : ∀ w, (isAgg 4).run P w = .ok false w
 z4 : ∀ w, (Go.sizeOf 4).run P w = .ok 1 w
 v4 : ∀ w, (zeroValue 4).run P w = .ok (Value.bool false) w
 tS : P.underlying 23 = some (TypeDesc.slice 38)
 aS : ∀ w, (isAgg 23).run P w = .ok false w
 zS : ∀ w, (Go.sizeOf 23).run P w = .ok 1 w
 vS : ∀ w, (zeroValue 23).run P w = .ok (Value.slice none 0 0) w
 tU : P.underlying 124 = some (TypeDesc.int IntKind.u64)
 aU : ∀ w, (isAgg 124).run P w = .ok false w
 zU : ∀ w, (Go.sizeOf 124).run P w = .ok 1 w
 vU : ∀ w, (zeroValue 124).run P w = .ok (Value.int IntKind.u64 0) w
 tC : P.underlying 31 = some (TypeDesc.func #[38, 38] #[3] false)
 aC : ∀ w, (isAgg 31).run P w = .ok false w
 zC : ∀ w, (Go.sizeOf 31).run P w = .ok 1 w
 vC : ∀ w, (zeroValue 31).run P w = .ok (Value.nilFunc) w
 aE : ∀ w, (isAgg 38).run P w = .ok true w
 zE : ∀ w, (Go.sizeOf 38).run P w = .ok k w
theorem tf : TF Try.prog 9 := by
 constructor
 all_goals first | kernel_rfl | (intro w; go_simp; done) | (intro w; go_simp; rfl)
variable {P : Program} {α : Type}
set_option maxHeartbeats 4000000 in
set_option maxRecDepth 1000000 in
theorem swapRange_calls (k : Nat) (T : TF P k) (FG : P.funcs[83]? = some Try.f83) (enc : α → List Value) (hk : ∀ x, (enc x).length = k) (h1 : ∀ x, ∀ v ∈ enc x, v.oneCell' = true)
  (blk off cap a b n N : Nat) (ho : off = 0) (g : Nat) (tail : List Value) (w0 w : World) (pre X mid Z post : List α)
  (S : SWB enc blk 38 tail w0 (pre ++ (X ++ (mid ++ (Z ++ post)))) w) (hX : X.length = n) (hZ : Z.length = n) (ha : a = pre.length) (hb : b = pre.length + n + mid.length) (hN : N = pre.length + (n + (mid.length + (n + post.length)))) (hsz : N < 4611686018427387904) :
  Calls P 83 #[.slice (some ⟨blk, off, none⟩) N cap, .int .i64 a, .int .i64 b, .int .i64 n, .func (.func g) #[] #[]] w fun e w' => e = .returned (.tuple #[]) ∧ SWB enc blk 38 tail w0 (pre ++ (Z ++ (mid ++ (X ++ post)))) w' := by
 have mixed := T.mixed; have t0 := T.t0; have a0 := T.a0; have z0 := T.z0; have v0 := T.v0; have t3 := T.t3; have a3 := T.a3; have z3 := T.z3; have v3 := T.v3; have t4 := T.t4; have a4 := T.a4; have z4 := T.z4; have v4 := T.v4; have tS := T.tS; have aS := T.aS; have zS := T.zS; have vS := T.vS; have tC := T.tC; have aC := T.aC; have zC := T.zC; have vC := T.vC; have aE := T.aE; have zE := T.zE
 have HK : Hid (∀ x, (enc x).length = k) := hk
 have H1 : Hid (∀ x, ∀ v ∈ enc x, v.oneCell' = true) := h1
 have S0 : Aside (SWB enc blk 38 tail w0 (pre ++ (X ++ (mid ++ (Z ++ post)))) w) := S
 have HA : Hid (a = pre.length ∧ b = pre.length + n + mid.length ∧ N = pre.length + (n + (mid.length + (n + post.length))) ∧ X.length = n ∧ Z.length = n ∧ off = 0) := ⟨ha, hb, hN, hX, hZ, ho⟩
 have haN : a + n ≤ N := by omega
 have hbN : b + n ≤ N := by omega
 clear S hk h1 ha hb hN hX hZ ho
 go_enter FG, Try.ntmps83
 go_wp2
 go_loopg [10] n (fun kx s wr => ∃ (i : Nat), s = .int .i64 i ∧ i ≤ n ∧ n - i ≤ kx ∧ Aside (SWB enc blk 38 tail w0 (pre ++ (Z.take i ++ (X.drop i ++ (mid ++ (X.take i ++ (Z.drop i ++ post)))))) wr))
 case atStart => exact ⟨0, rfl, by omega, by omega, by simpa using S0⟩
 case round =>
  clear S0
  obtain ⟨i, rfl, hin, hkx, S1⟩ := hrel
  by_cases hlt : i < n
  ·have hltz : (i : Int) < (n : Int) := by omega
   go_wp2_with fail
   obtain ⟨hA, hB, hN, hX, hZ, hO⟩ := HA.out
   have ea : ((a : Int) + (i : Int)).toNat = a + i := by omega
   have pa : (0 : Int) ≤ (a : Int) + (i : Int) := by omega
   have ba : (a : Int) + (i : Int) < (N : Int) := by omega
   have ra : IntKind.i64.wrap ((a : Int) + (i : Int)) = (a : Int) + (i : Int) := by rw [IntKind.wrap_i64]; omega
   have ec : ((b : Int) + (i : Int)).toNat = b + i := by omega
   have pc : (0 : Int) ≤ (b : Int) + (i : Int) := by omega
   have bc : (b : Int) + (i : Int) < (N : Int) := by omega
   have rc : IntKind.i64.wrap ((b : Int) + (i : Int)) = (b : Int) + (i : Int) := by rw [IntKind.wrap_i64]; omega
   have hx : X.drop i = X[i]'(by omega) :: X.drop (i + 1) := List.drop_eq_getElem_cons (by omega)
   have hz : Z.drop i = Z[i]'(by omega) :: Z.drop (i + 1) := List.drop_eq_getElem_cons (by omega)
   obtain ⟨x, hx'⟩ : ∃ x, X[i]'(by omega) = x := ⟨_, rfl⟩
   obtain ⟨z, hz'⟩ : ∃ z, Z[i]'(by omega) = z := ⟨_, rfl⟩
   have tx : X.take (i + 1) = X.take i ++ [x] := by rw [List.take_succ_eq_append_getElem (by omega), hx']
   have tz : Z.take (i + 1) = Z.take i ++ [z] := by rw [List.take_succ_eq_append_getElem (by omega), hz']
   rw [hx'] at hx
   rw [hz'] at hz
   have S2 := S1
   rw [hx, hz] at S2
   have SD := S2.drew
   have l1 := SD.load P HK.out hO (i := a + i) (p := pre ++ Z.take i) (x := x) (r := X.drop (i + 1) ++ (mid ++ (X.take i ++ (z :: Z.drop (i + 1) ++ post)))) (by simp) (by simp; omega)
   have l2 := SD.load P HK.out hO (i := b + i) (p := pre ++ (Z.take i ++ (x :: (X.drop (i + 1) ++ (mid ++ X.take i))))) (x := z) (r := Z.drop (i + 1) ++ post) (by simp) (by simp; omega)
   obtain ⟨s1, S3⟩ := SD.store P HK.out H1.out hO (i := a + i) (p := pre ++ Z.take i) (x := x) (r := X.drop (i + 1) ++ (mid ++ (X.take i ++ (z :: Z.drop (i + 1) ++ post)))) z (by simp) (by simp; omega)
   obtain ⟨s2, S4⟩ := S3.store P HK.out H1.out hO (i := b + i) (p := pre ++ (Z.take i ++ (z :: (X.drop (i + 1) ++ (mid ++ X.take i))))) (x := z) (r := Z.drop (i + 1) ++ post) x (by simp) (by simp; omega)
   have S5 : Aside (SWB enc blk 38 tail w0 (pre ++ (Z.take (i + 1) ++ (X.drop (i + 1) ++ (mid ++ (X.take (i + 1) ++ (Z.drop (i + 1) ++ post)))))) ((wr.drew.setCells blk (off + (a + i) * k) (enc z)).setCells blk (off + (b + i) * k) (enc x))) := by
    show SWB _ _ _ _ _ _ _
    rw [tx, tz]; simpa using S4
   have n1 : (enc x).length = k := HK.out _
   have n2 : (enc z).length = k := HK.out _
   clear S1 S2 SD S3 S4 tx tz hx hz hx' hz' hA hB hN hX hZ hO
   generalize enc x = cX at S5 l1 s2 n1
   generalize enc z = cZ at S5 l2 s1 s2 n2
   go_big_region_o
   clear l1 l2 s1 s2
   generalize (wr.drew.setCells blk (off + (a + i) * k) cZ).setCells blk (off + (b + i) * k) cX = w2 at S5 ⊢
   go_wp2
   go_roundg (n - (i + 1))
   case measure => omega
   case rel => exact ⟨i + 1, by go_num, by omega, Nat.le_refl _, S5⟩
  ·have hltz : ¬ (i : Int) < (n : Int) := by omega
   go_wp2
   go_end0
   refine ⟨rfl, ?_⟩
   obtain rfl : i = n := by omega
   have this : SWB enc blk 38 tail w0 _ wr := S1
   rw [List.take_of_length_le (by rw [HA.out.2.2.2.2.1]; exact Nat.le_refl _), List.take_of_length_le (by rw [HA.out.2.2.2.1]; exact Nat.le_refl _), List.drop_eq_nil_of_le (by rw [HA.out.2.2.2.1]; exact Nat.le_refl _), List.drop_eq_nil_of_le (by rw [HA.out.2.2.2.2.1]; exact Nat.le_refl _)] at this
   simpa using this
end SK
namespace SK
open Go.Shelf Go.Lib
variable {P : Program} {α : Type}
theorem enters_k {f : FuncId} {fn : Func} (hf : P.funcs[f]? = some fn) (hname : (fn.name == "runtime.NumGoroutine") = false) (hb : fn.body.isSome = true) (args : Array Value) (w : World) : (callFunc f args).run P w = .ok (.enter f args) w := by
 have h1 : fn.name ≠ "runtime.NumGoroutine" := by simpa using hname
 obtain ⟨c, hc⟩ := Option.isSome_iff_exists.1 hb
 simp [callFunc, hf, h1, hc]
structure AsideK (p : Prop) : Prop where mk :: (out : p)
set_option maxHeartbeats 4000000 in
set_option maxRecDepth 1000000 in
theorem rotate_calls (k : Nat) (T : TF P k) (FG : P.funcs[77]? = some Try.f77) (FS : P.funcs[83]? = some Try.f83) (enc : α → List Value) (hk : ∀ x, (enc x).length = k) (h1 : ∀ x, ∀ v ∈ enc x, v.oneCell' = true)
  (blk off cap a m b N : Nat) (ho : off = 0) (g : Nat) (tail : List Value) (w0 w : World) (pre U V post : List α)
  (S : SWB enc blk 38 tail w0 (pre ++ (U ++ (V ++ post))) w) (hU : 0 < U.length) (hV : 0 < V.length) (ha : a = pre.length) (hm : m = pre.length + U.length) (hb : b = pre.length + (U.length + V.length)) (hN : N = pre.length + (U.length + (V.length + post.length))) (hsz : N < 4611686018427387904) :
  Calls P 77 #[.slice (some ⟨blk, off, none⟩) N cap, .int .i64 a, .int .i64 m, .int .i64 b, .func (.func g) #[] #[]] w fun e w' => e = .returned (.tuple #[]) ∧ SWB enc blk 38 tail w0 (pre ++ (V ++ (U ++ post))) w' := by
 have mixed := T.mixed; have t0 := T.t0; have a0 := T.a0; have z0 := T.z0; have v0 := T.v0; have t3 := T.t3; have a3 := T.a3; have z3 := T.z3; have v3 := T.v3; have t4 := T.t4; have a4 := T.a4; have z4 := T.z4; have v4 := T.v4; have tS := T.tS; have aS := T.aS; have zS := T.zS; have vS := T.vS; have tC := T.tC; have aC := T.aC; have zC := T.zC; have vC := T.vC; have aE := T.aE; have zE := T.zE
 have SW : ∀ (w : World) (za zb zn : Int) (aa bb nn : Nat) (pre X mid Z post : List α), za = aa → zb = bb → zn = nn → SWB enc blk 38 tail w0 (pre ++ (X ++ (mid ++ (Z ++ post)))) w → X.length = nn → Z.length = nn → aa = pre.length → bb = pre.length + nn + mid.length → N = pre.length + (nn + (mid.length + (nn + post.length))) →
   Calls P 83 #[.slice (some ⟨blk, off, none⟩) N cap, .int .i64 za, .int .i64 zb, .int .i64 zn, .func (.func g) #[] #[]] w fun e w' => e = .returned (.tuple #[]) ∧ SWB enc blk 38 tail w0 (pre ++ (Z ++ (mid ++ (X ++ post)))) w' :=
  fun w za zb zn aa bb nn pre X mid Z post e1 e2 e3 S h1' h2 h3 h4 h5 => by
   subst e1 e2 e3
   exact swapRange_calls k T FS enc hk h1 blk off cap aa bb nn N ho g tail w0 w pre X mid Z post S h1' h2 h3 h4 h5 hsz
 have eS : ∀ args w, (callFunc 83 args).run P w = .ok (.enter 83 args) w := enters_k FS (by kernel_rfl) rfl
 have HSW : Aside _ := SW
 have hbv : b ≤ N := by omega
 have S0 : Aside (SWB enc blk 38 tail w0 (pre ++ (U ++ (V ++ post))) w) := S
 have HG : Hid (pre ++ (V ++ (U ++ post)) = pre ++ (V ++ (U ++ post))) := rfl
 have HA : Hid (a = pre.length ∧ m = pre.length + U.length ∧ b = pre.length + (U.length + V.length) ∧ N = pre.length + (U.length + (V.length + post.length)) ∧ 0 < U.length ∧ 0 < V.length) := ⟨ha, hm, hb, hN, hU, hV⟩
 have ham : a < m := by omega
 have hmb : m < b := by omega
 clear S hk h1 ha hb hN hU hV SW hm ho
 go_enter FG, Try.ntmps77
 go_wp2
 go_loopg [10, 11] (m - a + (b - m)) (fun kx s10 s11 wr => ∃ (p1 U1 V1 q1 : List α) (i j : Nat), s10 = .int .i64 i ∧ s11 = .int .i64 j ∧ 0 < i ∧ 0 < j ∧ i ≤ m ∧ m + j ≤ N ∧ i + j ≤ kx ∧ Hid (i = U1.length ∧ j = V1.length ∧ m = p1.length + U1.length ∧ N = p1.length + (U1.length + (V1.length + q1.length)) ∧ pre ++ (V ++ (U ++ post)) = p1 ++ (V1 ++ (U1 ++ q1))) ∧ Aside (SWB enc blk 38 tail w0 (p1 ++ (U1 ++ (V1 ++ q1))) wr))
 case atStart =>
  obtain ⟨hA, hM, hB, hN, hU, hV⟩ := HA.out
  exact ⟨pre, U, V, post, U.length, V.length, by congr 1; omega, by congr 1; omega, hU, hV, by omega, by omega, by omega, ⟨rfl, rfl, hM, hN, rfl⟩, S0⟩
 case round =>
  clear S0
  obtain ⟨p1, U1, V1, q1, i, j, rfl, rfl, hi0, hj0, him, hjN, hkx, HI, S1⟩ := hrel
  by_cases hij : i = j
  ·subst hij
   go_wp2_with (go_at_fn 83; refine (HSW.out _ _ _ _ (m - i) m i p1 U1 [] V1 q1 (by omega) rfl rfl S1 HI.out.1.symm HI.out.2.1.symm (by have := HI.out; omega) (by have := HI.out; simp; omega) (by have := HI.out; simp; omega)).mono ?_; rintro e w' ⟨rfl, S2⟩)
   go_end0
   refine ⟨rfl, ?_⟩
   have e := HI.out.2.2.2.2
   simp only [List.nil_append] at S2
   rw [e]
   exact S2
  ·have hij' : ¬ (i : Int) = (j : Int) := by omega
   by_cases hgt : j < i
   ·have hgtz : (j : Int) < (i : Int) := by omega
    have S2 : Aside (SWB enc blk 38 tail w0 (p1 ++ (U1.take j ++ (U1.drop j ++ (V1 ++ q1)))) wr) := by
     have e_ : U1.take j ++ (U1.drop j ++ (V1 ++ q1)) = U1 ++ (V1 ++ q1) := by rw [← List.append_assoc, List.take_append_drop]
     rw [e_]; exact S1
    go_wp2_with (go_at_fn 83; refine (HSW.out _ _ _ _ (m - i) m j p1 (U1.take j) (U1.drop j) V1 q1 (by omega) rfl rfl S2 (by have := HI.out; rw [List.length_take]; omega) HI.out.2.1.symm (by have := HI.out; omega) (by have := HI.out; rw [List.length_drop]; omega) (by have := HI.out; rw [List.length_drop]; omega)).mono ?_; rintro e w' ⟨rfl, S3⟩; have S4 := AsideK.mk S3; clear S3)
    go_roundg (i - j + j)
    case measure => omega
    case rel =>
     obtain ⟨h1, h2, h3, h4, h5⟩ := HI.out
     refine ⟨p1 ++ V1, U1.drop j, U1.take j, q1, i - j, j, by congr 1; omega, rfl, by omega, by omega, by omega, by omega, by omega, ⟨?_, ?_, ?_, ?_, ?_⟩, ?_⟩
     ·rw [List.length_drop]; omega
     ·rw [List.length_take]; omega
     ·rw [List.length_drop, List.length_append]; omega
     ·rw [List.length_drop, List.length_take, List.length_append]; omega
     ·rw [h5]
      have e_ : U1.take j ++ (U1.drop j ++ q1) = U1 ++ q1 := by rw [← List.append_assoc, List.take_append_drop]
      rw [← e_]; simp only [List.append_assoc]
     ·have := S4.out
      (try simp only [List.append_assoc] at this ⊢)
      exact this
   ·have hgtz : (i : Int) < (j : Int) := by omega
    have hgtz' : ¬ (j : Int) < (i : Int) := by omega
    have S2 : Aside (SWB enc blk 38 tail w0 (p1 ++ (U1 ++ (V1.take (j - i) ++ (V1.drop (j - i) ++ q1)))) wr) := by
     have e_ : V1.take (j - i) ++ (V1.drop (j - i) ++ q1) = V1 ++ q1 := by rw [← List.append_assoc, List.take_append_drop]
     rw [e_]; exact S1
    go_wp2_with (go_at_fn 83; refine (HSW.out _ _ _ _ (m - i) (m + j - i) i p1 U1 (V1.take (j - i)) (V1.drop (j - i)) q1 (by omega) (by omega) rfl S2 HI.out.1.symm (by have := HI.out; rw [List.length_drop]; omega) (by have := HI.out; omega) (by have := HI.out; rw [List.length_take]; omega) (by have := HI.out; rw [List.length_take]; omega)).mono ?_; rintro e w' ⟨rfl, S3⟩; have S4 := AsideK.mk S3; clear S3)
    go_roundg (i + (j - i))
    case measure => omega
    case rel =>
     obtain ⟨h1, h2, h3, h4, h5⟩ := HI.out
     refine ⟨p1, V1.drop (j - i), V1.take (j - i), U1 ++ q1, i, j - i, rfl, by congr 1; omega, by omega, by omega, by omega, by omega, by omega, ⟨?_, ?_, ?_, ?_, ?_⟩, ?_⟩
     ·rw [List.length_drop]; omega
     ·rw [List.length_take]; omega
     ·rw [List.length_drop]; omega
     ·rw [List.length_drop, List.length_take, List.length_append]; omega
     ·rw [h5]
      have e_ : V1.take (j - i) ++ (V1.drop (j - i) ++ (U1 ++ q1)) = V1 ++ (U1 ++ q1) := by rw [← List.append_assoc, List.take_append_drop]
      rw [← e_]
     ·have := S4.out
      (try simp only [List.append_assoc] at this ⊢)
      exact this
end SK
end Go.Proofs.Ytlbicmdfdpcdiaa.PDa
-- Printed by a program of this session's; Lean checks it.
namespace Go.Proofs.Ytlbicmdfdpcdiaa.PDa
open Go.RowKit Go.Proofs.YtlbicmdfdpcdiaaW.PrintWords Go.Proofs.YtlbicmdfdpcdiaaW.PrintLast Go.Proofs.YtlbicmdfdpcdiaaW.PrintMore
attribute [local go_sem] max2_int min2_int max_two min_two max_three min_three max_four min_four
set_option linter.unusedVariables false
set_option linter.unusedSimpArgs false
namespace SK
open Go.Shelf Go.Lib
structure BelowBy (w : World) where
 W : World
 h : Below w.heap.size w W
instance (w : World) : Inhabited (BelowBy w) := ⟨⟨w, Below.refl _ _⟩⟩
theorem wp_region_quiet_below {P : Program} {id : Nat} {Q : Exit → Act → World → Prop} {a : Act} {w : World} {l : List Oper} (hm : P.follows .mixedOrders = true) (hB : Region.lexB .any l.toArray = true)
  (h : wpQuiet P l.toArray (fun w' => ∃ p : BelowBy w, w' = p.W) (fun a' => ∀ w', (∃ p : BelowBy w, w' = p.W) → Q .normal a' w') l a) : (Code.region id l.toArray true).wp P Q a w :=
 wp_region_quiet (C := fun w' => ∃ p : BelowBy w, w' = p.W) hm hB ⟨⟨w.drew, (Below.refl _ _).drew⟩, rfl⟩ (by simpa using h)
theorem Calls.below_of {P : Program} {f : FuncId} {args : Array Value} {w : World} {p : BelowBy w} {v : Value}
  (h : Calls P f args p.W fun e w' => e = .returned v ∧ Below p.W.heap.size p.W w') : Calls P f args p.W fun e w'' => e = .returned v ∧ ∃ q : BelowBy w, w'' = q.W :=
 h.mono fun _ w' ⟨he, hb⟩ => ⟨he, ⟨w', p.h.trans (hb.mono p.h.size)⟩, rfl⟩
def ltc {α : Type} (cf : α → α → Int) (x y : α) : Bool := decide (cf x y < 0)
variable {P : Program} {α : Type}
set_option maxHeartbeats 4000000 in
set_option maxRecDepth 1000000 in
theorem insertion_calls (k : Nat) (T : TF P k) (FG : P.funcs[66]? = some Try.f66) (enc : α → List Value) (hk : ∀ x, (enc x).length = k) (h1 : ∀ x, ∀ v ∈ enc x, v.oneCell' = true) (cf : α → α → Int) (H : SWO (ltc cf))
  (g : Nat) (eg : ∀ args w, (callFunc g args).run P w = .ok (.enter g args) w) (hcmp : ∀ (x y : α) (w : World), Calls P g #[.agg (enc x).toArray, .agg (enc y).toArray] w fun e w' => e = .returned (.int .i64 (cf x y)) ∧ Below w.heap.size w w')
  (blk off cap a b N : Nat) (ho : off = 0) (tail : List Value) (w0 w : World) (pre S post : List α)
  (SW : SWB enc blk 38 tail w0 (pre ++ (S ++ post)) w) (ha : a = pre.length) (hb : b = pre.length + S.length) (hN : N = pre.length + (S.length + post.length)) (hsz : N < 4611686018427387904) :
  Calls P 66 #[.slice (some ⟨blk, off, none⟩) N cap, .int .i64 a, .int .i64 b, .func (.func g) #[] #[]] w fun e w' => e = .returned (.tuple #[]) ∧ SWB enc blk 38 tail w0 (pre ++ (isort (ltc cf) S ++ post)) w' := by
 have mixed := T.mixed; have t0 := T.t0; have a0 := T.a0; have z0 := T.z0; have v0 := T.v0; have t3 := T.t3; have a3 := T.a3; have z3 := T.z3; have v3 := T.v3; have t4 := T.t4; have a4 := T.a4; have z4 := T.z4; have v4 := T.v4; have tS := T.tS; have aS := T.aS; have zS := T.zS; have vS := T.vS; have tC := T.tC; have aC := T.aC; have zC := T.zC; have vC := T.vC; have aE := T.aE; have zE := T.zE
 have u22 := run_underlying T.tS
 have HK : Hid (∀ x, (enc x).length = k) := hk
 have H1 : Hid (∀ x, ∀ v ∈ enc x, v.oneCell' = true) := h1
 have HC : Aside _ := hcmp
 have HO : Hid (off = 0) := ho
 have HH : Hid (SWO (ltc cf)) := H
 have S0 : Aside (SWB enc blk 38 tail w0 (pre ++ (S ++ post)) w) := SW
 have HA : Hid (a = pre.length ∧ b = pre.length + S.length ∧ N = pre.length + (S.length + post.length)) := ⟨ha, hb, hN⟩
 have haN : a ≤ N := by omega
 have hbN : b ≤ N := by omega
 clear SW hk h1 ha hb hN ho hcmp H
 go_enter FG, Try.ntmps66
 go_wp2
 go_loopg [8] (S.length) (fun kx s wr => ∃ (i t : Nat), s = .int .i64 i ∧ a < i ∧ i ≤ N + 1 ∧ S.length + 1 - t ≤ kx + 1 ∧ Hid (i = a + t ∧ (t ≤ S.length ∨ t = 1)) ∧ Aside (SWB enc blk 38 tail w0 (pre ++ (isort (ltc cf) (S.take t) ++ (S.drop t ++ post))) wr))
 case atStart =>
  refine ⟨a + 1, 1, by go_num, by omega, by omega, by omega, ⟨rfl, .inr rfl⟩, ?_⟩
  have e : isort (ltc cf) (S.take 1) = S.take 1 := by
   cases S with
   | nil => rfl
   | cons x S => simp [isort, insR]
  show SWB _ _ _ _ _ _ _
  rw [e, ← List.append_assoc (S.take 1), List.take_append_drop]
  exact S0
 case round =>
  clear S0
  obtain ⟨i, t, rfl, hai, hiN, hkx, HI, S1⟩ := hrel
  by_cases hlt : i < b
  ·have hltz : (i : Int) < (b : Int) := by omega
   have htS : t < S.length := by have := HI.out; have := HA.out; omega
   obtain ⟨x, hx⟩ : ∃ x, S[t] = x := ⟨_, rfl⟩
   have hdr : S.drop t = x :: S.drop (t + 1) := by rw [← hx]; exact List.drop_eq_getElem_cons htS
   have htk : isort (ltc cf) (S.take (t + 1)) = mg (ltc cf) (isort (ltc cf) (S.take t)) [x] := by
    rw [List.take_succ_eq_append_getElem htS, isort_snoc, hx]
   have S2 : Aside (SWB enc blk 38 tail w0 (pre ++ (isort (ltc cf) (S.take t) ++ (x :: (S.drop (t + 1) ++ post)))) wr) := by
    show SWB _ _ _ _ _ _ _
    have := S1
    rw [hdr] at this
    exact this
   have HX : Hid (isort (ltc cf) (S.take (t + 1)) = mg (ltc cf) (isort (ltc cf) (S.take t)) [x] ∧ (isort (ltc cf) (S.take t)).length = t ∧ srt (ltc cf) (isort (ltc cf) (S.take t))) := ⟨htk, by rw [isort_length, List.length_take]; omega, isort_srt HH.out _⟩
   clear hx hdr htk S1
   go_wp2
   go_loopg [9] t (fun kj s wr2 => ∃ (j : Nat) (Q1 Q2 : List α), s = .int .i64 j ∧ a ≤ j ∧ j ≤ i ∧ j - a ≤ kj ∧ Hid (isort (ltc cf) (S.take t) = Q1 ++ Q2 ∧ j = a + Q1.length ∧ ∀ q ∈ Q2, ltc cf x q = true) ∧ Aside (SWB enc blk 38 tail w0 (pre ++ (Q1 ++ (x :: (Q2 ++ (S.drop (t + 1) ++ post))))) wr2))
   case atStart => exact ⟨i, isort (ltc cf) (S.take t), [], rfl, by omega, Nat.le_refl _, by have := HI.out; omega, ⟨by simp, by have := HI.out; have := HX.out; omega, by simp⟩, S2⟩
   case round =>
    clear S2
    obtain ⟨j, Q1, Q2, rfl, haj, hji, hkj, HQ, S3⟩ := hrel
    have out : (∀ q ∈ Q1, ltc cf x q = false) → Q1 ++ (x :: Q2) = isort (ltc cf) (S.take (t + 1)) := fun hq => by
     rw [HX.out.1, HQ.out.1]
     have := mg_cut (lt := ltc cf) (A2 := Q2) (B2 := []) Q1 [x] (by simp) (fun b hb a ha => by rw [List.mem_singleton.1 hb]; exact HQ.out.2.2 a ha)
     rw [mg_le Q1 [x] (fun a ha b hb => by rw [List.mem_singleton.1 hb]; exact hq a ha)] at this
     simpa using this.symm
    have OUT : Aside _ := out
    clear out
    have fin : ∀ wr2, (∀ q ∈ Q1, ltc cf x q = false) → SWB enc blk 38 tail w0 (pre ++ (Q1 ++ (x :: (Q2 ++ (S.drop (t + 1) ++ post))))) wr2 → Aside (SWB enc blk 38 tail w0 (pre ++ (isort (ltc cf) (S.take (t + 1)) ++ (S.drop (t + 1) ++ post))) wr2) := fun wr2 hq h => by
     show SWB _ _ _ _ _ _ _
     rw [← OUT hq]
     simpa using h
    have FIN : Aside _ := fin
    clear fin
    rcases List.eq_nil_or_concat Q1 with rfl | ⟨Q, y, rfl⟩
    ·-- j = a
     have hja : j = a := by have := HQ.out.2.1; simpa using this
     have hjaz : decide ((j : Int) > (a : Int)) = false := decide_eq_false (by omega)
     have hjaz' : ¬ (a : Int) < (j : Int) := by omega
     have hjan : ¬ a < j := by omega
     clear hja
     have S4 : Aside (SWB enc blk 38 tail w0 _ wr.drew) := FIN wr.drew (by simp) (SWB.drew S3)
     go_wp2_with fail
     go_big_region_o
     all_goals go_wp2
     go_roundg (S.length - (t + 1))
     case measure => have := HI.out; omega
     case rel => exact ⟨i + 1, t + 1, by go_num, by omega, by omega, by omega, ⟨by have := HI.out; omega, .inl (by omega)⟩, S4⟩
    ·rw [List.concat_eq_append] at *
     obtain ⟨jp, hjp⟩ : ∃ jp, j = jp + 1 := ⟨j - 1, by have := HQ.out.2.1; simp at this; omega⟩
     subst hjp
     have hjan : a < jp + 1 := by have := HQ.out.2.1; simp at this; omega
     have hjaz : (a : Int) < (jp : Int) + 1 := by omega
     have jN : (jp : Int) + 1 < (N : Int) := by have := HQ.out; have := HI.out; have := HA.out; omega
     have jN1 : (jp : Int) < (N : Int) := by omega
     have hwp : IntKind.i64.wrap (jp : Int) = (jp : Int) := by rw [IntKind.wrap_i64]; omega
     have p0 : (0 : Int) ≤ (jp : Int) + 1 := by omega
     have e0 : ((jp : Int) + 1).toNat = jp + 1 := by omega
     have hjQ : jp = (pre ++ Q).length := by have := HQ.out.2.1; have := HA.out.1; simp at this ⊢; simp at *; omega
     have lx : ∀ p : BelowBy wr, Sem.run P (loadCellsFrom ⟨blk, off + (jp + 1) * k, none⟩ 0 k #[]) p.W = .ok (enc x).toArray p.W := fun p => (SWB.below S3 p.h).load P HK.out HO.out (p := pre ++ (Q ++ [y])) (x := x) (r := Q2 ++ (S.drop (t + 1) ++ post)) (by simp) (by rw [hjQ]; simp; omega)
     have ly : ∀ p : BelowBy wr, Sem.run P (loadCellsFrom ⟨blk, off + jp * k, none⟩ 0 k #[]) p.W = .ok (enc y).toArray p.W := fun p => (SWB.below S3 p.h).load P HK.out HO.out (p := pre ++ Q) (x := y) (r := x :: (Q2 ++ (S.drop (t + 1) ++ post))) (by simp) hjQ
     have hcg : ∀ p : BelowBy wr, Calls P g #[.agg (enc x).toArray, .agg (enc y).toArray] p.W fun e w' => e = .returned (.int .i64 (cf x y)) ∧ Below p.W.heap.size p.W w' := fun p => HC x y p.W
     have HJ : Hid (jp = (pre ++ Q).length) := hjQ
     clear hjQ
     by_cases hlv : cf x y < 0
     ·go_wp2_with fail
      refine wp_region_quiet_below (by assumption) (by kernel_rfl) ?_
      repeat (quiet_step (first | (go_at_fn g; refine Calls.below_of (hcg _))))
      refine wpQuiet_nil ?_
      intro wq hw'
      have hbq : Below wr.heap.size wr wq := by obtain ⟨p, hp⟩ := hw'; rw [hp]; exact p.h
      clear hw' lx ly hcg
      have S4 := (SWB.below S3 hbq).drew
      have HB : Aside _ := hbq
      clear hbq S3
      go_wp2_with fail
      have l1 := S4.load P HK.out HO.out (i := jp + 1) (p := pre ++ (Q ++ [y])) (x := x) (r := Q2 ++ (S.drop (t + 1) ++ post)) (by simp) (by rw [HJ.out]; simp; omega)
      have l2 := S4.load P HK.out HO.out (i := jp) (p := pre ++ Q) (x := y) (r := x :: (Q2 ++ (S.drop (t + 1) ++ post))) (by simp) HJ.out
      obtain ⟨s1, S5⟩ := S4.store P HK.out H1.out HO.out (i := jp + 1) (p := pre ++ (Q ++ [y])) (x := x) (r := Q2 ++ (S.drop (t + 1) ++ post)) y (by simp) (by rw [HJ.out]; simp; omega)
      obtain ⟨s2, S6⟩ := S5.store P HK.out H1.out HO.out (i := jp) (p := pre ++ Q) (x := y) (r := y :: (Q2 ++ (S.drop (t + 1) ++ post))) x (by simp) HJ.out
      have S7 : Aside (SWB enc blk 38 tail w0 (pre ++ (Q ++ (x :: ((y :: Q2) ++ (S.drop (t + 1) ++ post))))) ((wq.drew.setCells blk (off + (jp + 1) * k) (enc y)).setCells blk (off + jp * k) (enc x))) := by
       show SWB _ _ _ _ _ _ _
       simpa using S6
      have n1 : (enc x).length = k := HK.out _
      have n2 : (enc y).length = k := HK.out _
      have HL : Hid (ltc cf x y = true) := decide_eq_true (by omega)
      clear S4 S5 S6 hlv
      generalize enc x = cX at S7 l1 s2 n1
      generalize enc y = cY at S7 l2 s1 s2 n2
      go_big_region_o
      clear l1 l2 s1 s2
      generalize (wq.drew.setCells blk (off + (jp + 1) * k) cY).setCells blk (off + jp * k) cX = w2 at S7 ⊢
      go_wp2
      go_roundg (jp - a)
      case measure => omega
      case rel =>
       refine ⟨jp, Q, y :: Q2, by first | rfl | go_num, by omega, by omega, Nat.le_refl _, ⟨by rw [HQ.out.1]; simp, by have := HJ.out; have := HA.out.1; simp at *; omega, fun q hq => ?_⟩, S7⟩
       rcases List.mem_cons.1 hq with rfl | hq
       ·exact HL.out
       ·exact HQ.out.2.2 q hq
     ·go_wp2_with fail
      refine wp_region_quiet_below (by assumption) (by kernel_rfl) ?_
      repeat (quiet_step (first | (go_at_fn g; refine Calls.below_of (hcg _))))
      refine wpQuiet_nil ?_
      intro wq hw'
      have hbq : Below wr.heap.size wr wq := by obtain ⟨p, hp⟩ := hw'; rw [hp]; exact p.h
      clear hw' lx ly hcg
      have hle : ∀ q ∈ Q ++ [y], ltc cf x q = false := fun q hq => by
       have hy : ltc cf x y = false := decide_eq_false (by omega)
       rcases List.mem_append.1 hq with hq | hq
       ·have hs := HX.out.2.2
        rw [HQ.out.1] at hs
        have := (List.pairwise_append.1 (List.pairwise_append.1 hs).1).2.2 q hq y (by simp)
        exact HH.out.trans q y x this hy
       ·rw [List.mem_singleton.1 hq]; exact hy
      have S4 : Aside (SWB enc blk 38 tail w0 _ wq) := FIN wq hle (SWB.below S3 hbq)
      have HB : Aside _ := hbq
      clear hbq S3 hle
      go_wp2
      go_roundg (S.length - (t + 1))
      case measure => have := HI.out; omega
      case rel => exact ⟨i + 1, t + 1, by go_num, by omega, by omega, by omega, ⟨by have := HI.out; omega, .inl (by omega)⟩, S4⟩
  ·have hltz : ¬ (i : Int) < (b : Int) := by omega
   go_wp2
   go_end0
   refine ⟨rfl, ?_⟩
   have h2 := HI.out
   have h3 := HA.out
   have e : S.take t = S := List.take_of_length_le (by omega)
   have e2 : S.drop t = [] := List.drop_eq_nil_of_le (by omega)
   have this : SWB enc blk 38 tail w0 _ wr := S1
   rw [e, e2] at this
   simpa using this
end SK
namespace SK
open Go.Shelf Go.Lib
variable {P : Program} {α : Type}
theorem srch_up {lt : α → α → Bool} (H : SWO lt) {B : List α} (hB : srt lt B) {s : Nat} (hs : s < B.length) {x : α} (h : lt B[s] x = true) : ∀ z ∈ B.take (s + 1), lt z x = true := by
 intro z hz
 rw [List.take_succ_eq_append_getElem hs] at hz
 rcases List.mem_append.1 hz with hz | hz
 ·have hp : lt B[s] z = false := by
   have h3 : srt lt (B.take s ++ B.drop s) := by rw [List.take_append_drop]; exact hB
   rw [List.drop_eq_getElem_cons hs] at h3
   exact (List.pairwise_append.1 h3).2.2 z hz B[s] (List.mem_cons_self ..)
  cases hzx : lt z x
  ·have := H.trans x z B[s] hzx hp
   rw [this] at h; cases h
  ·rfl
 ·rw [List.mem_singleton.1 hz]; exact h
theorem srch_down {lt : α → α → Bool} (H : SWO lt) {B : List α} (hB : srt lt B) {s : Nat} (hs : s < B.length) {x : α} (h : lt B[s] x = false) : ∀ z ∈ B.drop s, lt z x = false := by
 intro z hz
 rw [List.drop_eq_getElem_cons hs] at hz
 rcases List.mem_cons.1 hz with rfl | hz
 ·exact h
 ·have hp : lt z B[s] = false := by
   have h3 : srt lt (B.take s ++ B.drop s) := by rw [List.take_append_drop]; exact hB
   rw [List.drop_eq_getElem_cons hs] at h3
   exact (List.pairwise_cons.1 (List.pairwise_append.1 h3).2.1).1 z hz
  exact H.trans x B[s] z h hp
set_option maxHeartbeats 4000000 in
set_option maxRecDepth 1000000 in
theorem sym_one (k : Nat) (T : TF P k) (FG : P.funcs[67]? = some Try.f67) (enc : α → List Value) (hk : ∀ x, (enc x).length = k) (h1 : ∀ x, ∀ v ∈ enc x, v.oneCell' = true) (cf : α → α → Int) (H : SWO (ltc cf))
  (g : Nat) (eg : ∀ args w, (callFunc g args).run P w = .ok (.enter g args) w) (hcmp : ∀ (x y : α) (w : World), Calls P g #[.agg (enc x).toArray, .agg (enc y).toArray] w fun e w' => e = .returned (.int .i64 (cf x y)) ∧ Below w.heap.size w w')
  (blk off cap a m b N : Nat) (ho : off = 0) (tail : List Value) (w0 w : World) (pre : List α) (x : α) (B post : List α) (hB : srt (ltc cf) B)
  (SW : SWB enc blk 38 tail w0 (pre ++ (x :: (B ++ post))) w) (ha : a = pre.length) (hm : m = a + 1) (hb : b = m + B.length) (hN : N = pre.length + (1 + (B.length + post.length))) (hsz : N < 4611686018427387904) :
  Calls P 67 #[.slice (some ⟨blk, off, none⟩) N cap, .int .i64 a, .int .i64 m, .int .i64 b, .func (.func g) #[] #[]] w fun e w' => e = .returned (.tuple #[]) ∧ SWB enc blk 38 tail w0 (pre ++ (mg (ltc cf) [x] B ++ post)) w' := by
 have mixed := T.mixed; have t0 := T.t0; have a0 := T.a0; have z0 := T.z0; have v0 := T.v0; have t3 := T.t3; have a3 := T.a3; have z3 := T.z3; have v3 := T.v3; have t4 := T.t4; have a4 := T.a4; have z4 := T.z4; have v4 := T.v4; have tS := T.tS; have aS := T.aS; have zS := T.zS; have vS := T.vS; have tC := T.tC; have aC := T.aC; have zC := T.zC; have vC := T.vC; have aE := T.aE; have zE := T.zE; have tU := T.tU; have aU := T.aU; have zU := T.zU; have vU := T.vU
 have u22 := run_underlying T.tS
 have HK : Hid (∀ x, (enc x).length = k) := hk
 have H1 : Hid (∀ x, ∀ v ∈ enc x, v.oneCell' = true) := h1
 have HC : Aside _ := hcmp
 have HO : Hid (off = 0) := ho
 have HH : Hid (SWO (ltc cf)) := H
 have HBs : Hid (srt (ltc cf) B) := hB
 have S0 : Aside (SWB enc blk 38 tail w0 (pre ++ (x :: (B ++ post))) w) := SW
 subst hm
 have HA : Hid (a = pre.length ∧ b = a + 1 + B.length ∧ N = pre.length + (1 + (B.length + post.length))) := ⟨ha, hb, hN⟩
 have haN : a + 1 ≤ N := by omega
 have hbN : b ≤ N := by omega
 clear SW hk h1 ha hb hN ho hcmp H hB
 have hone : ((a : Int) + 1) - (a : Int) = 1 := by omega
 go_enter FG, Try.ntmps67
 go_wp2
 go_loopg [10, 11, 12] (b - (a + 1)) (fun kx s10 s11 s12 wr => ∃ (i j : Nat), s10 = .int .i64 i ∧ s11 = .int .i64 j ∧ a + 1 ≤ i ∧ i ≤ j ∧ j ≤ b ∧ j - i ≤ kx ∧ Hid ((∀ z ∈ B.take (i - (a + 1)), ltc cf z x = true) ∧ (∀ z ∈ B.drop (j - (a + 1)), ltc cf z x = false)) ∧ Aside (SWB enc blk 38 tail w0 (pre ++ (x :: (B ++ post))) wr))
 case atStart => exact ⟨a + 1, b, by go_num, rfl, Nat.le_refl _, by have := HA.out; omega, Nat.le_refl _, Nat.le_refl _, ⟨by simp, by rw [List.drop_eq_nil_of_le (by have := HA.out; omega)]; simp⟩, S0⟩
 case round =>
  clear S0
  obtain ⟨i, j, rfl, rfl, hai, hij, hjb, hkx, HI, S1⟩ := hrel
  by_cases hlt : i < j
  ·have hltz : (i : Int) < (j : Int) := by omega
   go_wp2_with fail
   obtain ⟨h, hh⟩ : ∃ h : Nat, (h : Int) = ((i : Int) + (j : Int)) / 2 := ⟨(i + j) / 2, by omega⟩
   rw [← hh]
   have hih : i ≤ h := by omega
   have hhj : h < j := by omega
   have HHh : Hid ((h : Int) = ((i : Int) + (j : Int)) / 2) := hh
   clear hh
   have hs : h - (a + 1) < B.length := by have := HA.out; omega
   obtain ⟨y, hy⟩ : ∃ y, B[h - (a + 1)] = y := ⟨_, rfl⟩
   have hcutB : B = B.take (h - (a + 1)) ++ (y :: B.drop (h - (a + 1) + 1)) := by
    rw [← hy, ← List.drop_eq_getElem_cons hs, List.take_append_drop]
   have hN1 : (h : Int) < (N : Int) := by have := HA.out; omega
   have hN2 : (a : Int) < (N : Int) := by omega
   have ph : (0 : Int) ≤ (h : Int) := by omega
   have pa : (0 : Int) ≤ (a : Int) := by omega
   have S2 : Aside (SWB enc blk 38 tail w0 ((pre ++ (x :: B.take (h - (a + 1)))) ++ (y :: (B.drop (h - (a + 1) + 1) ++ post))) wr) := by
    show SWB _ _ _ _ _ _ _
    have this : SWB enc blk 38 tail w0 _ wr := S1
    rw [hcutB] at this
    simpa using this
   have ly : ∀ p : BelowBy wr, Sem.run P (loadCellsFrom ⟨blk, off + h * k, none⟩ 0 k #[]) p.W = .ok (enc y).toArray p.W := fun p => (SWB.below S2 p.h).load P HK.out HO.out (p := pre ++ (x :: B.take (h - (a + 1)))) (x := y) (r := B.drop (h - (a + 1) + 1) ++ post) rfl (by have := HA.out; simp; omega)
   have lx : ∀ p : BelowBy wr, Sem.run P (loadCellsFrom ⟨blk, off + a * k, none⟩ 0 k #[]) p.W = .ok (enc x).toArray p.W := fun p => (SWB.below S1 p.h).load P HK.out HO.out (p := pre) (x := x) (r := B ++ post) (by simp) HA.out.1
   have hcg : ∀ p : BelowBy wr, Calls P g #[.agg (enc y).toArray, .agg (enc x).toArray] p.W fun e w' => e = .returned (.int .i64 (cf y x)) ∧ Below p.W.heap.size p.W w' := fun p => HC y x p.W
   have HY : Hid (B[h - (a + 1)] = y) := hy
   clear hy hcutB S2
   refine wp_region_quiet_below (by assumption) (by kernel_rfl) ?_
   repeat (quiet_step (first | (go_at_fn g; refine Calls.below_of (hcg _))))
   refine wpQuiet_nil ?_
   intro wq hw'
   have hbq : Below wr.heap.size wr wq := by obtain ⟨p, hp⟩ := hw'; rw [hp]; exact p.h
   clear hw' lx ly hcg
   have S3 : Aside (SWB enc blk 38 tail w0 (pre ++ (x :: (B ++ post))) wq) := SWB.below S1 hbq
   have HB : Aside _ := hbq
   clear hbq S1
   by_cases hlv : cf y x < 0
   ·go_wp2
    go_roundg (j - (h + 1))
    case measure => omega
    case rel =>
     refine ⟨h + 1, j, by go_num, rfl, by omega, by omega, hjb, Nat.le_refl _, ⟨?_, HI.out.2⟩, S3⟩
     have := srch_up HH.out HBs.out hs (x := x) (by rw [HY.out]; exact decide_eq_true (by omega))
     rw [show h + 1 - (a + 1) = h - (a + 1) + 1 by omega]
     exact this
   ·go_wp2
    go_roundg (h - i)
    case measure => omega
    case rel =>
     exact ⟨i, h, rfl, by go_num, hai, hih, by omega, Nat.le_refl _, ⟨HI.out.1, srch_down HH.out HBs.out hs (by rw [HY.out]; exact decide_eq_false (by omega))⟩, S3⟩
  ·have hltz : ¬ (i : Int) < (j : Int) := by omega
   obtain rfl : i = j := by omega
   clear hij hltz hlt
   obtain ⟨B1, B2, hB12, hBl⟩ : ∃ B1 B2, B = B1 ++ B2 ∧ i = a + 1 + B1.length ∧ (∀ z ∈ B1, ltc cf z x = true) ∧ (∀ z ∈ B2, ltc cf z x = false) :=
    ⟨B.take (i - (a + 1)), B.drop (i - (a + 1)), (List.take_append_drop _ _).symm, by rw [List.length_take]; have := HA.out; omega, HI.out.1, HI.out.2⟩
   subst hB12
   have HB2 : Hid (i = a + 1 + B1.length ∧ (∀ z ∈ B1, ltc cf z x = true) ∧ (∀ z ∈ B2, ltc cf z x = false)) := hBl
   clear hBl
   go_wp2
   go_loopg [13] (i - a) (fun kx s13 wr => ∃ (c : Nat) (D1 D2 : List α), s13 = .int .i64 c ∧ a ≤ c ∧ c < i ∧ i - c ≤ kx ∧ Hid (B1 = D1 ++ D2 ∧ c = a + D1.length) ∧ Aside (SWB enc blk 38 tail w0 (pre ++ (D1 ++ (x :: (D2 ++ (B2 ++ post))))) wr))
   case atStart => exact ⟨a, [], B1, rfl, Nat.le_refl _, by omega, by omega, ⟨rfl, rfl⟩, by show SWB _ _ _ _ _ _ _; have this : SWB enc blk 38 tail w0 _ wr := S1; simpa using this⟩
   case round =>
    clear S1
    obtain ⟨c, D1, D2, rfl, hac, hci, hkc, HD, S2⟩ := hrel
    by_cases hlt : c + 1 < i
    ·have hltz : (c : Int) < (i : Int) - 1 := by omega
     obtain ⟨y, D3, hD3⟩ : ∃ y D3, D2 = y :: D3 := by
      cases D2 with
      | nil =>
       have e1 := HD.out.1
       have e2 := HD.out.2
       have e3 := HB2.out.1
       rw [List.append_nil] at e1
       rw [e1] at e3
       omega
      | cons y D3 => exact ⟨y, D3, rfl⟩
     subst hD3
     go_wp2_with fail
     have hcN : (c : Int) < (N : Int) := by omega
     have hcN1 : (c : Int) + 1 < (N : Int) := by omega
     have rc : IntKind.i64.wrap ((c : Int) + 1) = (c : Int) + 1 := by rw [IntKind.wrap_i64]; omega
     have ec : ((c : Int) + 1).toNat = c + 1 := by omega
     have pc : (0 : Int) ≤ (c : Int) + 1 := by omega
     have pc0 : (0 : Int) ≤ (c : Int) := by omega
     have SD := SWB.drew S2
     have hcl : c = (pre ++ D1).length := by have := HD.out.2; have := HA.out.1; simp; omega
     have l1 := SD.load P HK.out HO.out (i := c) (p := pre ++ D1) (x := x) (r := y :: (D3 ++ (B2 ++ post))) (by simp) hcl
     have l2 := SD.load P HK.out HO.out (i := c + 1) (p := pre ++ (D1 ++ [x])) (x := y) (r := D3 ++ (B2 ++ post)) (by simp) (by rw [hcl]; simp; omega)
     obtain ⟨s1, S5⟩ := SD.store P HK.out H1.out HO.out (i := c) (p := pre ++ D1) (x := x) (r := y :: (D3 ++ (B2 ++ post))) y (by simp) hcl
     obtain ⟨s2, S6⟩ := S5.store P HK.out H1.out HO.out (i := c + 1) (p := pre ++ (D1 ++ [y])) (x := y) (r := D3 ++ (B2 ++ post)) x (by simp) (by rw [hcl]; simp; omega)
     have S7 : Aside (SWB enc blk 38 tail w0 (pre ++ ((D1 ++ [y]) ++ (x :: (D3 ++ (B2 ++ post))))) ((wr.drew.setCells blk (off + c * k) (enc y)).setCells blk (off + (c + 1) * k) (enc x))) := by
      show SWB _ _ _ _ _ _ _
      simpa using S6
     have n1 : (enc x).length = k := HK.out _
     have n2 : (enc y).length = k := HK.out _
     have HCL : Hid (c = (pre ++ D1).length) := hcl
     clear SD S5 S6 S2 hcl
     generalize enc x = cX at S7 l1 s2 n1
     generalize enc y = cY at S7 l2 s1 s2 n2
     go_big_region_o
     clear l1 l2 s1 s2
     generalize (wr.drew.setCells blk (off + c * k) cY).setCells blk (off + (c + 1) * k) cX = w2 at S7 ⊢
     go_wp2
     go_roundg (i - (c + 1))
     case measure => omega
     case rel => exact ⟨c + 1, D1 ++ [y], D3, by go_num, by omega, by omega, Nat.le_refl _, ⟨by rw [HD.out.1]; simp, by have := HD.out.2; simp; omega⟩, S7⟩
    ·have hltz : ¬ (c : Int) < (i : Int) - 1 := by omega
     go_wp2
     refine bodyPost_ret (results_none rfl _ _ _) rfl ?_
     refine ⟨rfl, ?_⟩
     have h5 := HD.out
     have h6 := HB2.out
     obtain rfl : D2 = [] := by
      have := h6.1; rw [h5.1] at this; simp at this
      exact List.eq_nil_of_length_eq_zero (by omega)
     have e : mg (ltc cf) [x] (B1 ++ B2) = B1 ++ (x :: B2) := by
      have := mg_cut (lt := ltc cf) (A2 := [x]) (B2 := B2) [] B1 (by simp) (fun b hb a ha => by rw [List.mem_singleton.1 ha]; exact h6.2.1 b hb)
      rw [mg_le [x] B2 (fun a ha b hb => by rw [List.mem_singleton.1 ha]; exact h6.2.2 b hb)] at this
      simpa using this
     rw [e, h5.1]
     have this : SWB enc blk 38 tail w0 _ wr := S2
     simpa using this
end SK
namespace SK
open Go.Shelf Go.Lib
variable {P : Program} {α : Type}
theorem srch_up' {lt : α → α → Bool} (H : SWO lt) {A : List α} (hA : srt lt A) {s : Nat} (hs : s < A.length) {x : α} (h : lt x A[s] = false) : ∀ z ∈ A.take (s + 1), lt x z = false := by
 intro z hz
 rw [List.take_succ_eq_append_getElem hs] at hz
 rcases List.mem_append.1 hz with hz | hz
 ·have hp : lt A[s] z = false := by
   have h3 : srt lt (A.take s ++ A.drop s) := by rw [List.take_append_drop]; exact hA
   rw [List.drop_eq_getElem_cons hs] at h3
   exact (List.pairwise_append.1 h3).2.2 z hz A[s] (List.mem_cons_self ..)
  exact H.trans z A[s] x hp h
 ·rw [List.mem_singleton.1 hz]; exact h
theorem srch_down' {lt : α → α → Bool} (H : SWO lt) {A : List α} (hA : srt lt A) {s : Nat} (hs : s < A.length) {x : α} (h : lt x A[s] = true) : ∀ z ∈ A.drop s, lt x z = true := by
 intro z hz
 rw [List.drop_eq_getElem_cons hs] at hz
 rcases List.mem_cons.1 hz with rfl | hz
 ·exact h
 ·have hp : lt z A[s] = false := by
   have h3 : srt lt (A.take s ++ A.drop s) := by rw [List.take_append_drop]; exact hA
   rw [List.drop_eq_getElem_cons hs] at h3
   exact (List.pairwise_cons.1 (List.pairwise_append.1 h3).2.1).1 z hz
  cases hxz : lt x z
  ·have := H.trans A[s] z x hp hxz
   rw [this] at h; cases h
  ·rfl
set_option maxHeartbeats 4000000 in
set_option maxRecDepth 1000000 in
theorem sym_last (k : Nat) (T : TF P k) (FG : P.funcs[67]? = some Try.f67) (enc : α → List Value) (hk : ∀ x, (enc x).length = k) (h1 : ∀ x, ∀ v ∈ enc x, v.oneCell' = true) (cf : α → α → Int) (H : SWO (ltc cf))
  (g : Nat) (eg : ∀ args w, (callFunc g args).run P w = .ok (.enter g args) w) (hcmp : ∀ (x y : α) (w : World), Calls P g #[.agg (enc x).toArray, .agg (enc y).toArray] w fun e w' => e = .returned (.int .i64 (cf x y)) ∧ Below w.heap.size w w')
  (blk off cap a m b N : Nat) (ho : off = 0) (tail : List Value) (w0 w : World) (pre A : List α) (x : α) (post : List α) (hA : srt (ltc cf) A) (hA2 : 2 ≤ A.length)
  (SW : SWB enc blk 38 tail w0 (pre ++ (A ++ (x :: post))) w) (ha : a = pre.length) (hm : m = a + A.length) (hb : b = m + 1) (hN : N = pre.length + (A.length + (1 + post.length))) (hsz : N < 4611686018427387904) :
  Calls P 67 #[.slice (some ⟨blk, off, none⟩) N cap, .int .i64 a, .int .i64 m, .int .i64 b, .func (.func g) #[] #[]] w fun e w' => e = .returned (.tuple #[]) ∧ SWB enc blk 38 tail w0 (pre ++ (mg (ltc cf) A [x] ++ post)) w' := by
 have mixed := T.mixed; have t0 := T.t0; have a0 := T.a0; have z0 := T.z0; have v0 := T.v0; have t3 := T.t3; have a3 := T.a3; have z3 := T.z3; have v3 := T.v3; have t4 := T.t4; have a4 := T.a4; have z4 := T.z4; have v4 := T.v4; have tS := T.tS; have aS := T.aS; have zS := T.zS; have vS := T.vS; have tC := T.tC; have aC := T.aC; have zC := T.zC; have vC := T.vC; have aE := T.aE; have zE := T.zE; have tU := T.tU; have aU := T.aU; have zU := T.zU; have vU := T.vU
 have u22 := run_underlying T.tS
 have HK : Hid (∀ x, (enc x).length = k) := hk
 have H1 : Hid (∀ x, ∀ v ∈ enc x, v.oneCell' = true) := h1
 have HC : Aside _ := hcmp
 have HO : Hid (off = 0) := ho
 have HH : Hid (SWO (ltc cf)) := H
 have HAs : Hid (srt (ltc cf) A) := hA
 have S0 : Aside (SWB enc blk 38 tail w0 (pre ++ (A ++ (x :: post))) w) := SW
 subst hb
 have HA : Hid (a = pre.length ∧ m = a + A.length ∧ N = pre.length + (A.length + (1 + post.length))) := ⟨ha, hm, hN⟩
 have hmN : m + 1 ≤ N := by omega
 have ham : a + 2 ≤ m := by omega
 have hnone : ((m : Int) - (a : Int) == 1) = false := by
  rw [beq_eq_false_iff_ne]; omega
 have hone : ((m : Int) + 1) - (m : Int) = 1 := by omega
 clear SW hk h1 ha hm hN ho hcmp H hA hA2
 go_enter FG, Try.ntmps67
 go_wp2
 go_loopg [14, 15, 16] (m - a) (fun kx s10 s11 s12 wr => ∃ (i j : Nat), s10 = .int .i64 i ∧ s11 = .int .i64 j ∧ a ≤ i ∧ i ≤ j ∧ j ≤ m ∧ j - i ≤ kx ∧ Hid ((∀ z ∈ A.take (i - a), ltc cf x z = false) ∧ (∀ z ∈ A.drop (j - a), ltc cf x z = true)) ∧ Aside (SWB enc blk 38 tail w0 (pre ++ (A ++ (x :: post))) wr))
 case atStart => exact ⟨a, m, rfl, rfl, Nat.le_refl _, by omega, Nat.le_refl _, Nat.le_refl _, ⟨by simp, by rw [List.drop_eq_nil_of_le (by have := HA.out; omega)]; simp⟩, S0⟩
 case round =>
  clear S0
  obtain ⟨i, j, rfl, rfl, hai, hij, hjb, hkx, HI, S1⟩ := hrel
  by_cases hlt : i < j
  ·have hltz : (i : Int) < (j : Int) := by omega
   go_wp2_with fail
   obtain ⟨h, hh⟩ : ∃ h : Nat, (h : Int) = ((i : Int) + (j : Int)) / 2 := ⟨(i + j) / 2, by omega⟩
   rw [← hh]
   have hih : i ≤ h := by omega
   have hhj : h < j := by omega
   have HHh : Hid ((h : Int) = ((i : Int) + (j : Int)) / 2) := hh
   clear hh
   have hs : h - a < A.length := by have := HA.out; omega
   obtain ⟨y, hy⟩ : ∃ y, A[h - a] = y := ⟨_, rfl⟩
   have hcutA : A = A.take (h - a) ++ (y :: A.drop (h - a + 1)) := by
    rw [← hy, ← List.drop_eq_getElem_cons hs, List.take_append_drop]
   have hN1 : (h : Int) < (N : Int) := by have := HA.out; omega
   have hN2 : (m : Int) < (N : Int) := by omega
   have ph : (0 : Int) ≤ (h : Int) := by omega
   have pa : (0 : Int) ≤ (m : Int) := by omega
   have S2 : Aside (SWB enc blk 38 tail w0 ((pre ++ A.take (h - a)) ++ (y :: (A.drop (h - a + 1) ++ (x :: post)))) wr) := by
    show SWB _ _ _ _ _ _ _
    have this : SWB enc blk 38 tail w0 _ wr := S1
    rw [hcutA] at this
    simpa using this
   have ly : ∀ p : BelowBy wr, Sem.run P (loadCellsFrom ⟨blk, off + h * k, none⟩ 0 k #[]) p.W = .ok (enc y).toArray p.W := fun p => (SWB.below S2 p.h).load P HK.out HO.out (p := pre ++ A.take (h - a)) (x := y) (r := A.drop (h - a + 1) ++ (x :: post)) rfl (by have := HA.out; simp; omega)
   have lx : ∀ p : BelowBy wr, Sem.run P (loadCellsFrom ⟨blk, off + m * k, none⟩ 0 k #[]) p.W = .ok (enc x).toArray p.W := fun p => (SWB.below S1 p.h).load P HK.out HO.out (p := pre ++ A) (x := x) (r := post) (by simp) (by have := HA.out; simp; omega)
   have hcg : ∀ p : BelowBy wr, Calls P g #[.agg (enc x).toArray, .agg (enc y).toArray] p.W fun e w' => e = .returned (.int .i64 (cf x y)) ∧ Below p.W.heap.size p.W w' := fun p => HC x y p.W
   have HY : Hid (A[h - a] = y) := hy
   clear hy hcutA S2
   refine wp_region_quiet_below (by assumption) (by kernel_rfl) ?_
   repeat (quiet_step (first | (go_at_fn g; refine Calls.below_of (hcg _))))
   refine wpQuiet_nil ?_
   intro wq hw'
   have hbq : Below wr.heap.size wr wq := by obtain ⟨p, hp⟩ := hw'; rw [hp]; exact p.h
   clear hw' lx ly hcg
   have S3 : Aside (SWB enc blk 38 tail w0 (pre ++ (A ++ (x :: post))) wq) := SWB.below S1 hbq
   have HB : Aside _ := hbq
   clear hbq S1
   by_cases hlv : cf x y < 0
   ·have hlv2 : (!decide (cf x y < 0)) = false := by simp; omega
    rw [hlv2]
    clear hlv2
    go_wp2
    go_roundg (h - i)
    case measure => omega
    case rel =>
     exact ⟨i, h, rfl, by go_num, hai, hih, by omega, Nat.le_refl _, ⟨HI.out.1, srch_down' HH.out HAs.out hs (by rw [HY.out]; exact decide_eq_true (by omega))⟩, S3⟩
   ·have hlv2 : (!decide (cf x y < 0)) = true := by simp; omega
    rw [hlv2]
    clear hlv2
    go_wp2
    go_roundg (j - (h + 1))
    case measure => omega
    case rel =>
     refine ⟨h + 1, j, by go_num, rfl, by omega, by omega, hjb, Nat.le_refl _, ⟨?_, HI.out.2⟩, S3⟩
     have := srch_up' HH.out HAs.out hs (x := x) (by rw [HY.out]; exact decide_eq_false (by omega))
     rw [show h + 1 - a = h - a + 1 by omega]
     exact this
  ·have hltz : ¬ (i : Int) < (j : Int) := by omega
   obtain rfl : i = j := by omega
   clear hij hltz hlt
   obtain ⟨A1, A2, hA12, hAl⟩ : ∃ A1 A2, A = A1 ++ A2 ∧ i = a + A1.length ∧ (∀ z ∈ A1, ltc cf x z = false) ∧ (∀ z ∈ A2, ltc cf x z = true) :=
    ⟨A.take (i - a), A.drop (i - a), (List.take_append_drop _ _).symm, by rw [List.length_take]; have := HA.out; omega, HI.out.1, HI.out.2⟩
   subst hA12
   have HA2 : Hid (i = a + A1.length ∧ (∀ z ∈ A1, ltc cf x z = false) ∧ (∀ z ∈ A2, ltc cf x z = true)) := hAl
   clear hAl
   go_wp2
   go_loopg [17] (m - i) (fun kx s13 wr => ∃ (c : Nat) (D1 D2 : List α), s13 = .int .i64 c ∧ i ≤ c ∧ c ≤ m ∧ c - i ≤ kx ∧ Hid (A2 = D1 ++ D2 ∧ c = i + D1.length) ∧ Aside (SWB enc blk 38 tail w0 (pre ++ (A1 ++ (D1 ++ (x :: (D2 ++ post))))) wr))
   case atStart => exact ⟨m, A2, [], rfl, by omega, Nat.le_refl _, Nat.le_refl _, ⟨by simp, by have := HA.out; have := HA2.out.1; simp at *; omega⟩, by show SWB _ _ _ _ _ _ _; have this : SWB enc blk 38 tail w0 _ wr := S1; simpa using this⟩
   case round =>
    clear S1
    obtain ⟨c, D1, D2, rfl, hac, hci, hkc, HD, S2⟩ := hrel
    by_cases hlt : i < c
    ·have hltz : (i : Int) < (c : Int) := by omega
     rcases List.eq_nil_or_concat D1 with rfl | ⟨D3, y, rfl⟩
     ·have := HD.out.2; simp at this; omega
     rw [List.concat_eq_append] at *
     obtain ⟨cp, hcp⟩ : ∃ cp, c = cp + 1 := ⟨c - 1, by omega⟩
     subst hcp
     go_wp2_with fail
     have hcN : (cp : Int) < (N : Int) := by omega
     have hcN1 : (cp : Int) + 1 < (N : Int) := by omega
     have rc : IntKind.i64.wrap (cp : Int) = (cp : Int) := by rw [IntKind.wrap_i64]; omega
     have ec : ((cp : Int) + 1).toNat = cp + 1 := by omega
     have pc : (0 : Int) ≤ (cp : Int) + 1 := by omega
     have pc0 : (0 : Int) ≤ (cp : Int) := by omega
     have SD := SWB.drew S2
     have hcl : cp = (pre ++ (A1 ++ D3)).length := by have := HD.out.2; have := HA.out.1; have := HA2.out.1; simp at *; omega
     have l1 := SD.load P HK.out HO.out (i := cp + 1) (p := pre ++ (A1 ++ (D3 ++ [y]))) (x := x) (r := D2 ++ post) (by simp) (by rw [hcl]; simp; omega)
     have l2 := SD.load P HK.out HO.out (i := cp) (p := pre ++ (A1 ++ D3)) (x := y) (r := x :: (D2 ++ post)) (by simp) hcl
     obtain ⟨s1, S5⟩ := SD.store P HK.out H1.out HO.out (i := cp + 1) (p := pre ++ (A1 ++ (D3 ++ [y]))) (x := x) (r := D2 ++ post) y (by simp) (by rw [hcl]; simp; omega)
     obtain ⟨s2, S6⟩ := S5.store P HK.out H1.out HO.out (i := cp) (p := pre ++ (A1 ++ D3)) (x := y) (r := y :: (D2 ++ post)) x (by simp) hcl
     have S7 : Aside (SWB enc blk 38 tail w0 (pre ++ (A1 ++ (D3 ++ (x :: ((y :: D2) ++ post))))) ((wr.drew.setCells blk (off + (cp + 1) * k) (enc y)).setCells blk (off + cp * k) (enc x))) := by
      show SWB _ _ _ _ _ _ _
      simpa using S6
     have n1 : (enc x).length = k := HK.out _
     have n2 : (enc y).length = k := HK.out _
     have HCL : Hid (cp = (pre ++ (A1 ++ D3)).length) := hcl
     clear SD S5 S6 S2 hcl
     generalize enc x = cX at S7 l1 s2 n1
     generalize enc y = cY at S7 l2 s1 s2 n2
     go_big_region_o
     clear l1 l2 s1 s2
     generalize (wr.drew.setCells blk (off + (cp + 1) * k) cY).setCells blk (off + cp * k) cX = w2 at S7 ⊢
     go_wp2
     go_roundg (cp - i)
     case measure => omega
     case rel => exact ⟨cp, D3, y :: D2, by first | rfl | go_num, by omega, by omega, Nat.le_refl _, ⟨by rw [HD.out.1]; simp, by have := HD.out.2; simp at this; omega⟩, S7⟩
    ·have hltz : ¬ (i : Int) < (c : Int) := by omega
     go_wp2
     refine bodyPost_ret (results_none rfl _ _ _) rfl ?_
     refine ⟨rfl, ?_⟩
     have h5 := HD.out
     have h6 := HA2.out
     obtain rfl : D1 = [] := List.eq_nil_of_length_eq_zero (by omega)
     have e : mg (ltc cf) (A1 ++ A2) [x] = A1 ++ (x :: A2) := by
      have := mg_cut (lt := ltc cf) (A2 := A2) (B2 := []) A1 [x] (by simp) (fun b hb a ha => by rw [List.mem_singleton.1 hb]; exact h6.2.2 a ha)
      rw [mg_le A1 [x] (fun a ha b hb => by rw [List.mem_singleton.1 hb]; exact h6.2.1 a ha)] at this
      simpa using this
     rw [e, h5.1]
     have this : SWB enc blk 38 tail w0 _ wr := S2
     simpa using this
end SK
namespace SK
open Go.Shelf Go.Lib
variable {P : Program} {α : Type}
theorem parts_fit {lt : α → α → Bool} (H : SWO lt) {A1 A2 B1 B2 : List α} (hA : srt lt (A1 ++ A2)) (hB : srt lt (B1 ++ B2))
  (h1 : A1 = [] ∨ B2 = [] ∨ ∃ x y, A1.getLast? = some x ∧ B2.head? = some y ∧ lt y x = false) (h2 : B1 = [] ∨ A2 = [] ∨ ∃ x y, A2.head? = some x ∧ B1.getLast? = some y ∧ lt y x = true) :
  mg lt (A1 ++ A2) (B1 ++ B2) = mg lt A1 B1 ++ mg lt A2 B2 := by
 have last : ∀ (L : List α) (x : α), srt lt L → L.getLast? = some x → ∀ z ∈ L, lt x z = false ∨ z = x := by
  intro L x hL hx z hz
  rcases List.eq_nil_or_concat L with rfl | ⟨L', u, rfl⟩
  ·cases hz
  ·rw [List.concat_eq_append] at *
   simp at hx
   subst hx
   rcases List.mem_append.1 hz with hz | hz
   ·exact .inl ((List.pairwise_append.1 hL).2.2 z hz u (by simp))
   ·exact .inr (List.mem_singleton.1 hz)
 have hd : ∀ (L : List α) (x : α), srt lt L → L.head? = some x → ∀ z ∈ L, lt z x = false ∨ z = x := by
  intro L x hL hx z hz
  cases L with
  | nil => cases hz
  | cons u L =>
   simp at hx
   subst hx
   rcases List.mem_cons.1 hz with rfl | hz
   ·exact .inr rfl
   ·exact .inl ((List.pairwise_cons.1 hL).1 z hz)
 have irr : ∀ x : α, lt x x = false := fun x => by
  cases h : lt x x
  ·rfl
  ·have := H.asym x x h; rw [this] at h; cases h
 have hA' := List.pairwise_append.1 hA
 have hB' := List.pairwise_append.1 hB
 refine mg_cut A1 B1 (fun a ha b hb => ?_) (fun b hb a ha => ?_)
 ·rcases h1 with rfl | rfl | ⟨x, y, hx, hy, hxy⟩
  ·cases ha
  ·cases hb
  ·have e1 : lt x a = false := by rcases last A1 x hA'.1 hx a ha with h | rfl; exact h; exact irr _
   have e2 : lt b y = false := by rcases hd B2 y hB'.2.1 hy b hb with h | rfl; exact h; exact irr _
   exact H.trans a y b (H.trans a x y e1 hxy) e2
 ·rcases h2 with rfl | rfl | ⟨x, y, hx, hy, hxy⟩
  ·cases hb
  ·cases ha
  ·have e1 : lt y b = false := by rcases last B1 y hB'.1 hy b hb with h | rfl; exact h; exact irr _
   have e2 : lt a x = false := by rcases hd A2 x hA'.2.1 hx a ha with h | rfl; exact h; exact irr _
   cases h : lt b a
   ·have h3 := H.trans x a b e2 h
    have := H.trans x b y h3 e1
    rw [this] at hxy; cases hxy
   ·rfl
set_option maxHeartbeats 8000000 in
set_option maxRecDepth 1000000 in
theorem sym_gen (k : Nat) (T : TF P k) (FG : P.funcs[67]? = some Try.f67) (FR : P.funcs[77]? = some Try.f77) (FS : P.funcs[83]? = some Try.f83) (enc : α → List Value) (hk : ∀ x, (enc x).length = k) (h1 : ∀ x, ∀ v ∈ enc x, v.oneCell' = true) (cf : α → α → Int) (H : SWO (ltc cf))
  (g : Nat) (eg : ∀ args w, (callFunc g args).run P w = .ok (.enter g args) w) (hcmp : ∀ (x y : α) (w : World), Calls P g #[.agg (enc x).toArray, .agg (enc y).toArray] w fun e w' => e = .returned (.int .i64 (cf x y)) ∧ Below w.heap.size w w')
  (blk off cap a m b N : Nat) (ho : off = 0) (tail : List Value) (w0 w : World) (pre A B post : List α) (hA : srt (ltc cf) A) (hB : srt (ltc cf) B) (hA2 : 2 ≤ A.length) (hB2 : 2 ≤ B.length)
  (SW : SWB enc blk 38 tail w0 (pre ++ (A ++ (B ++ post))) w) (ha : a = pre.length) (hm : m = a + A.length) (hb : b = m + B.length) (hN : N = pre.length + (A.length + (B.length + post.length))) (hsz : N < 4611686018427387904)
  (IH : ∀ (pre' A' B' post' : List α) (w' : World) (a' m' b' : Nat), A'.length + B'.length < A.length + B.length → 0 < A'.length → 0 < B'.length → srt (ltc cf) A' → srt (ltc cf) B' → SWB enc blk 38 tail w0 (pre' ++ (A' ++ (B' ++ post'))) w' → a' = pre'.length → m' = a' + A'.length → b' = m' + B'.length → N = pre'.length + (A'.length + (B'.length + post'.length)) →
   Calls P 67 #[.slice (some ⟨blk, off, none⟩) N cap, .int .i64 a', .int .i64 m', .int .i64 b', .func (.func g) #[] #[]] w' fun e w' => e = .returned (.tuple #[]) ∧ SWB enc blk 38 tail w0 (pre' ++ (mg (ltc cf) A' B' ++ post')) w') :
  Calls P 67 #[.slice (some ⟨blk, off, none⟩) N cap, .int .i64 a, .int .i64 m, .int .i64 b, .func (.func g) #[] #[]] w fun e w' => e = .returned (.tuple #[]) ∧ SWB enc blk 38 tail w0 (pre ++ (mg (ltc cf) A B ++ post)) w' := by
 have mixed := T.mixed; have t0 := T.t0; have a0 := T.a0; have z0 := T.z0; have v0 := T.v0; have t3 := T.t3; have a3 := T.a3; have z3 := T.z3; have v3 := T.v3; have t4 := T.t4; have a4 := T.a4; have z4 := T.z4; have v4 := T.v4; have tS := T.tS; have aS := T.aS; have zS := T.zS; have vS := T.vS; have tC := T.tC; have aC := T.aC; have zC := T.zC; have vC := T.vC; have aE := T.aE; have zE := T.zE; have tU := T.tU; have aU := T.aU; have zU := T.zU; have vU := T.vU
 have u22 := run_underlying T.tS
 have HK : Hid (∀ x, (enc x).length = k) := hk
 have H1 : Hid (∀ x, ∀ v ∈ enc x, v.oneCell' = true) := h1
 have HC : Aside _ := hcmp
 have HI : Aside _ := IH
 have ROT : ∀ (w : World) (a m b : Nat) (pre U V post : List α), SWB enc blk 38 tail w0 (pre ++ (U ++ (V ++ post))) w → 0 < U.length → 0 < V.length → a = pre.length → m = pre.length + U.length → b = pre.length + (U.length + V.length) → N = pre.length + (U.length + (V.length + post.length)) →
   Calls P 77 #[.slice (some ⟨blk, off, none⟩) N cap, .int .i64 a, .int .i64 m, .int .i64 b, .func (.func g) #[] #[]] w fun e w' => e = .returned (.tuple #[]) ∧ SWB enc blk 38 tail w0 (pre ++ (V ++ (U ++ post))) w' :=
  fun w a m b pre U V post S h2 h3 h4 h5 h6 h7 => rotate_calls k T FR FS enc hk h1 blk off cap a m b N ho g tail w0 w pre U V post S h2 h3 h4 h5 h6 h7 hsz
 have HR : Aside _ := ROT
 have HO : Hid (off = 0) := ho
 have HH : Hid (SWO (ltc cf)) := H
 have HS : Hid (srt (ltc cf) A ∧ srt (ltc cf) B) := ⟨hA, hB⟩
 have eSY : ∀ args w, (callFunc 67 args).run P w = .ok (.enter 67 args) w := enters_k FG (by kernel_rfl) rfl
 have eRO : ∀ args w, (callFunc 77 args).run P w = .ok (.enter 77 args) w := enters_k FR (by kernel_rfl) rfl
 have S0 : Aside (SWB enc blk 38 tail w0 (pre ++ (A ++ (B ++ post))) w) := SW
 obtain ⟨mid, hmid⟩ : ∃ mid : Nat, ((a : Int) + (b : Int)) / 2 = (mid : Int) := ⟨(a + b) / 2, by omega⟩
 obtain ⟨pp, hpp⟩ : ∃ pp : Nat, (mid : Int) + (m : Int) - 1 = (pp : Int) := ⟨mid + m - 1, by omega⟩
 obtain ⟨st0, r0, hF⟩ : ∃ st0 r0 : Nat, a ≤ st0 ∧ st0 ≤ r0 ∧ r0 ≤ m ∧ r0 ≤ mid ∧ (∀ c, st0 ≤ c → c < r0 → m + c ≤ pp ∧ pp < b + c) ∧ (st0 + b = mid + m ∨ st0 = a) ∧ (r0 = mid ∨ r0 = m) ∧ (mid < m → st0 + b = mid + m ∧ r0 = mid) ∧ (¬ mid < m → st0 = a ∧ r0 = m) := by
  by_cases h : mid < m
  ·exact ⟨mid + m - b, mid, by omega, by omega, by omega, by omega, fun c h1 h2 => by omega, by omega, by omega, fun _ => by omega, fun h' => absurd h h'⟩
  ·exact ⟨a, m, by omega, by omega, by omega, by omega, fun c h1 h2 => by omega, by omega, by omega, fun h' => absurd h' h, fun _ => by omega⟩
 have HF : Hid _ := hF
 have HA : Hid (a = pre.length ∧ m = a + A.length ∧ b = m + B.length ∧ N = pre.length + (A.length + (B.length + post.length))) := ⟨ha, hm, hb, hN⟩
 have hbN : b ≤ N := by omega
 have ham : a + 2 ≤ m := by omega
 have hmb : m + 2 ≤ b := by omega
 have hamid : a < mid := by omega
 have hmidb : mid < b := by omega
 have n1 : ((m : Int) - (a : Int) == 1) = false := by rw [beq_eq_false_iff_ne]; omega
 have n2 : ((b : Int) - (m : Int) == 1) = false := by rw [beq_eq_false_iff_ne]; omega
 have HM : Hid (((a : Int) + (b : Int)) / 2 = (mid : Int) ∧ (mid : Int) + (m : Int) - 1 = (pp : Int)) := ⟨hmid, hpp⟩
 clear SW hk h1 ha hm hb hN ho hcmp H hA hB hA2 hB2 IH ROT hF
 have split : mid < m ∨ ¬ mid < m := by omega
 rcases split with hmm | hmm
 all_goals
  have hmz : (mid : Int) < (m : Int) ∨ ¬ (mid : Int) < (m : Int) := by omega
  go_enter FG, Try.ntmps67
  go_wp2_with fail
  go_loopg [20, 21, 23] (r0 - st0) (fun kx s20 s21 s23 wr => ∃ (st r : Nat), s20 = .int .i64 st ∧ s21 = .int .i64 r ∧ st0 ≤ st ∧ st ≤ r ∧ r ≤ r0 ∧ r - st ≤ kx ∧ Hid ((st0 < st → ∃ x y, A[st - 1 - a]? = some x ∧ B[pp - (st - 1) - m]? = some y ∧ ltc cf y x = false) ∧ (r < r0 → ∃ x y, A[r - a]? = some x ∧ B[pp - r - m]? = some y ∧ ltc cf y x = true)) ∧ Aside (SWB enc blk 38 tail w0 (pre ++ (A ++ (B ++ post))) wr))
  case atStart =>
   have h := HF.out
   exact ⟨st0, r0, by congr 1; omega, by congr 1; omega, Nat.le_refl _, h.2.1, Nat.le_refl _, Nat.le_refl _, ⟨fun h => absurd h (Nat.lt_irrefl _), fun h => absurd h (Nat.lt_irrefl _)⟩, S0⟩
  case round =>
   clear S0
   obtain ⟨st, r, rfl, rfl, hst0, hstr, hr0, hkx, HP, S1⟩ := hrel
   by_cases hlt : st < r
   ·have hltz : (st : Int) < (r : Int) := by omega
    obtain ⟨c, hc⟩ : ∃ c : Nat, ((st : Int) + (r : Int)) / 2 = (c : Int) := ⟨(st + r) / 2, by omega⟩
    have hrN : r ≤ N := by have := HF.out; omega
    have hrz : (r : Int) ≤ 4611686018427387904 := by omega
    go_wp2_with fail
    have hcr : st ≤ c ∧ c < r := by omega
    have HCc : Hid (((st : Int) + (r : Int)) / 2 = (c : Int)) := hc
    clear hc
    obtain ⟨hb1, hb2⟩ := HF.out.2.2.2.2.1 c (by omega) (by omega)
    have hac : a ≤ c ∧ c < m := by have := HF.out; omega
    have hsA : c - a < A.length := by have := HA.out; omega
    have hsB : pp - c - m < B.length := by have := HA.out; omega
    obtain ⟨x, hx⟩ : ∃ x, A[c - a] = x := ⟨_, rfl⟩
    obtain ⟨y, hy⟩ : ∃ y, B[pp - c - m] = y := ⟨_, rfl⟩
    have hcutA : A = A.take (c - a) ++ (x :: A.drop (c - a + 1)) := by rw [← hx, ← List.drop_eq_getElem_cons hsA, List.take_append_drop]
    have hcutB : B = B.take (pp - c - m) ++ (y :: B.drop (pp - c - m + 1)) := by rw [← hy, ← List.drop_eq_getElem_cons hsB, List.take_append_drop]
    have SA : Aside (SWB enc blk 38 tail w0 ((pre ++ A.take (c - a)) ++ (x :: (A.drop (c - a + 1) ++ (B ++ post)))) wr) := by
     show SWB _ _ _ _ _ _ _
     have this : SWB enc blk 38 tail w0 _ wr := S1
     rw [hcutA] at this
     simpa using this
    have SB : Aside (SWB enc blk 38 tail w0 ((pre ++ (A ++ B.take (pp - c - m))) ++ (y :: (B.drop (pp - c - m + 1) ++ post))) wr) := by
     show SWB _ _ _ _ _ _ _
     have this : SWB enc blk 38 tail w0 _ wr := S1
     rw [hcutB] at this
     simpa using this
    have e1 : ((pp : Int) - (c : Int)).toNat = pp - c := by omega
    have e2 : (0 : Int) ≤ (pp : Int) - (c : Int) := by omega
    have e3 : (pp : Int) - (c : Int) < (N : Int) := by omega
    have e4 : IntKind.i64.wrap ((pp : Int) - (c : Int)) = (pp : Int) - (c : Int) := by rw [IntKind.wrap_i64]; omega
    have e5 : (0 : Int) ≤ (c : Int) := by omega
    have e7 : c ≤ pp := by omega
    have e8 : (c : Int) ≤ (pp : Int) := by omega
    have e6 : (c : Int) < (N : Int) := by omega
    have lx : ∀ p : BelowBy wr, Sem.run P (loadCellsFrom ⟨blk, off + c * k, none⟩ 0 k #[]) p.W = .ok (enc x).toArray p.W := fun p => (SWB.below SA p.h).load P HK.out HO.out (p := pre ++ A.take (c - a)) (x := x) (r := A.drop (c - a + 1) ++ (B ++ post)) rfl (by have := HA.out; simp; omega)
    have ly : ∀ p : BelowBy wr, Sem.run P (loadCellsFrom ⟨blk, off + (pp - c) * k, none⟩ 0 k #[]) p.W = .ok (enc y).toArray p.W := fun p => (SWB.below SB p.h).load P HK.out HO.out (p := pre ++ (A ++ B.take (pp - c - m))) (x := y) (r := B.drop (pp - c - m + 1) ++ post) rfl (by have := HA.out; simp; omega)
    have hcg : ∀ p : BelowBy wr, Calls P g #[.agg (enc y).toArray, .agg (enc x).toArray] p.W fun e w' => e = .returned (.int .i64 (cf y x)) ∧ Below p.W.heap.size p.W w' := fun p => HC y x p.W
    have HX : Hid (A[c - a]? = some x ∧ B[pp - c - m]? = some y) := ⟨by rw [List.getElem?_eq_getElem hsA, hx], by rw [List.getElem?_eq_getElem hsB, hy]⟩
    clear hx hy hcutA hcutB SA SB
    refine wp_region_quiet_below (by assumption) (by kernel_rfl) ?_
    repeat (quiet_step (first | (go_at_fn g; refine Calls.below_of (hcg _))))
    refine wpQuiet_nil ?_
    intro wq hw'
    have hbq : Below wr.heap.size wr wq := by obtain ⟨p, hp⟩ := hw'; rw [hp]; exact p.h
    clear hw' lx ly hcg e1 e2 e3 e4 e5 e6 e7 e8
    have S3 : Aside (SWB enc blk 38 tail w0 (pre ++ (A ++ (B ++ post))) wq) := SWB.below S1 hbq
    have HB : Aside _ := hbq
    clear hbq S1
    by_cases hlv : cf y x < 0
    ·have hlv2 : (!decide (cf y x < 0)) = false := by simp; omega
     rw [hlv2]
     clear hlv2
     go_wp2
     go_roundg (c - st)
     case measure => omega
     case rel =>
      exact ⟨st, c, rfl, by go_num, hst0, hcr.1, by omega, Nat.le_refl _, ⟨HP.out.1, fun _ => ⟨x, y, HX.out.1, HX.out.2, decide_eq_true (by omega)⟩⟩, S3⟩
    ·have hlv2 : (!decide (cf y x < 0)) = true := by simp; omega
     rw [hlv2]
     clear hlv2
     go_wp2
     go_roundg (r - (c + 1))
     case measure => omega
     case rel =>
      refine ⟨c + 1, r, by go_num, rfl, by omega, by omega, hr0, Nat.le_refl _, ⟨fun _ => ⟨x, y, ?_, ?_, decide_eq_false (by omega)⟩, HP.out.2⟩, S3⟩
      ·rw [Nat.add_sub_cancel]; exact HX.out.1
      ·rw [Nat.add_sub_cancel]; exact HX.out.2
   ·have hltz : ¬ (st : Int) < (r : Int) := by omega
    obtain rfl : st = r := by omega
    clear hlt hstr hkx hltz
    obtain ⟨en, hen⟩ : ∃ en : Nat, (mid : Int) + (m : Int) - (st : Int) = (en : Int) := ⟨mid + m - st, by have := HF.out; omega⟩
    have f0 := HF.out
    have g0 := HA.out
    obtain ⟨A1, A2, hA12, lA1⟩ : ∃ A1 A2, A = A1 ++ A2 ∧ st = a + A1.length := ⟨A.take (st - a), A.drop (st - a), (List.take_append_drop _ _).symm, by rw [List.length_take]; omega⟩
    have hme : m ≤ en ∧ en ≤ b := by omega
    obtain ⟨B1, B2, hB12, lB1⟩ : ∃ B1 B2, B = B1 ++ B2 ∧ en = m + B1.length := ⟨B.take (en - m), B.drop (en - m), (List.take_append_drop _ _).symm, by rw [List.length_take]; omega⟩
    subst hA12 hB12
    simp only [List.length_append] at g0
    have e : mg (ltc cf) (A1 ++ A2) (B1 ++ B2) = mg (ltc cf) A1 B1 ++ mg (ltc cf) A2 B2 := by
     refine parts_fit HH.out HS.out.1 HS.out.2 ?_ ?_
     ·by_cases h1 : A1 = []
      ·exact .inl h1
      ·by_cases h2 : B2 = []
       ·exact .inr (.inl h2)
       ·have l1 : 0 < A1.length := List.length_pos_iff.2 h1
        have l2 : 0 < B2.length := List.length_pos_iff.2 h2
        obtain ⟨x, y, hx, hy, hxy⟩ := HP.out.1 (by omega)
        refine .inr (.inr ⟨x, y, ?_, ?_, hxy⟩)
        ·rw [List.getElem?_append_left (by omega)] at hx
         rw [List.getLast?_eq_getElem?, ← hx]; congr 1; omega
        ·rw [List.getElem?_append_right (by omega)] at hy
         rw [List.head?_eq_getElem?, ← hy]; congr 1; omega
     ·by_cases h1 : B1 = []
      ·exact .inl h1
      ·by_cases h2 : A2 = []
       ·exact .inr (.inl h2)
       ·have l1 : 0 < B1.length := List.length_pos_iff.2 h1
        have l2 : 0 < A2.length := List.length_pos_iff.2 h2
        obtain ⟨x, y, hx, hy, hxy⟩ := HP.out.2 (by omega)
        refine .inr (.inr ⟨x, y, ?_, ?_, hxy⟩)
        ·rw [List.getElem?_append_right (by omega)] at hx
         rw [List.head?_eq_getElem?, ← hx]; congr 1; omega
        ·rw [List.getElem?_append_left (by omega)] at hy
         rw [List.getLast?_eq_getElem?, ← hy]; congr 1; omega
    have HQ : Hid (mg (ltc cf) (A1 ++ A2) (B1 ++ B2) = mg (ltc cf) A1 B1 ++ mg (ltc cf) A2 B2) := e
    have HE : Hid ((mid : Int) + (m : Int) - (st : Int) = (en : Int)) := hen
    have sA := List.pairwise_append.1 HS.out.1
    have sB := List.pairwise_append.1 HS.out.2
    have RO : ∀ W, 0 < A2.length → 0 < B1.length → SWB enc blk 38 tail w0 (pre ++ (A1 ++ (A2 ++ (B1 ++ (B2 ++ post))))) W →
      Calls P 77 #[.slice (some ⟨blk, off, none⟩) N cap, .int .i64 st, .int .i64 m, .int .i64 en, .func (.func g) #[] #[]] W fun e w' => e = .returned (.tuple #[]) ∧ SWB enc blk 38 tail w0 (pre ++ (A1 ++ (B1 ++ (A2 ++ (B2 ++ post))))) w' := fun W h1 h2 S => by
     have := HR W st m en (pre ++ A1) A2 B1 (B2 ++ post) (by simpa using S) h1 h2 (by simp; omega) (by simp; omega) (by simp; omega) (by simp; omega)
     simpa using this
    have SL : ∀ W, 0 < A1.length → 0 < B1.length → SWB enc blk 38 tail w0 (pre ++ (A1 ++ (B1 ++ (A2 ++ (B2 ++ post))))) W →
      Calls P 67 #[.slice (some ⟨blk, off, none⟩) N cap, .int .i64 a, .int .i64 st, .int .i64 mid, .func (.func g) #[] #[]] W fun e w' => e = .returned (.tuple #[]) ∧ SWB enc blk 38 tail w0 (pre ++ (mg (ltc cf) A1 B1 ++ (A2 ++ (B2 ++ post)))) w' := fun W h1 h2 S => by
     have := HI pre A1 B1 (A2 ++ (B2 ++ post)) W a st mid (by simp; omega) h1 h2 sA.1 sB.1 S (by omega) (by omega) (by omega) (by simp; omega)
     simpa using this
    have SR : ∀ W, 0 < A2.length → 0 < B2.length → SWB enc blk 38 tail w0 (pre ++ (mg (ltc cf) A1 B1 ++ (A2 ++ (B2 ++ post)))) W →
      Calls P 67 #[.slice (some ⟨blk, off, none⟩) N cap, .int .i64 mid, .int .i64 en, .int .i64 b, .func (.func g) #[] #[]] W fun e w' => e = .returned (.tuple #[]) ∧ SWB enc blk 38 tail w0 (pre ++ (mg (ltc cf) A1 B1 ++ (mg (ltc cf) A2 B2 ++ post))) w' := fun W h1 h2 S => by
     have hl := mg_length (lt := ltc cf) A1 B1
     have := HI (pre ++ mg (ltc cf) A1 B1) A2 B2 post W mid en b (by simp; omega) h1 h2 sA.2.1 sB.2.1 (by simpa using S) (by simp; omega) (by omega) (by omega) (by simp; omega)
     simpa using this
    have S2 : Aside (SWB enc blk 38 tail w0 (pre ++ (A1 ++ (A2 ++ (B1 ++ (B2 ++ post))))) wr) := by
     show SWB _ _ _ _ _ _ _
     have this : SWB enc blk 38 tail w0 _ wr := S1
     simpa using this
    have ARO : Aside _ := RO
    have ASL : Aside _ := SL
    have ASR : Aside _ := SR
    have nA1 : A1.length = 0 → A1 = [] := List.eq_nil_of_length_eq_zero
    have nA2 : A2.length = 0 → A2 = [] := List.eq_nil_of_length_eq_zero
    have nB1 : B1.length = 0 → B1 = [] := List.eq_nil_of_length_eq_zero
    have nB2 : B2.length = 0 → B2 = [] := List.eq_nil_of_length_eq_zero
    have HN : Hid ((A1.length = 0 → A1 = []) ∧ (A2.length = 0 → A2 = []) ∧ (B1.length = 0 → B1 = []) ∧ (B2.length = 0 → B2 = [])) := ⟨nA1, nA2, nB1, nB2⟩
    have HG : Hid (a = pre.length ∧ m = a + (A1.length + A2.length) ∧ b = m + (B1.length + B2.length) ∧ st = a + A1.length ∧ en = m + B1.length ∧ st + en = mid + m) := ⟨g0.1, g0.2.1, g0.2.2.1, lA1, lB1, by omega⟩
    have hsr : a ≤ st ∧ st ≤ m ∧ st ≤ mid ∧ m ≤ en ∧ mid ≤ en ∧ en ≤ b := by omega
    have hseq : st + en = mid + m := by omega
    clear RO SL SR S1 nA1 nA2 nB1 nB2 f0 g0 lA1 lB1 e sA sB HP
    have cases3 : (st = m) ∨ (st < m ∧ en = m) ∨ (st < m ∧ m < en) := by omega
    rcases cases3 with h3 | ⟨h3, h4⟩ | ⟨h3, h4⟩
    ·-- A2 = []
     have hg := HG.out
     obtain rfl : A2 = [] := HN.out.2.1 (by omega)
     subst h3
     have hem : en = mid := by omega
     subst hem
     by_cases hsm : st < en
     ·have has : a < st := by omega
      have h5 : 0 < A1.length ∧ 0 < B1.length := by omega
      have L5 : Hid (0 < A1.length ∧ 0 < B1.length) := h5
      clear h5 hg
      have S3 : Aside (SWB enc blk 38 tail w0 (pre ++ (A1 ++ (B1 ++ (([] : List α) ++ (B2 ++ post))))) wr) := by
       show SWB _ _ _ _ _ _ _
       have this : SWB enc blk 38 tail w0 _ wr := S2
       simpa using this
      go_wp2_with (go_at_fn 67; refine (ASL _ L5.out.1 L5.out.2 S3).mono ?_; rintro e w' ⟨rfl, S4⟩; have S5 := AsideK.mk S4; clear S4)
      go_end0
      refine ⟨rfl, ?_⟩
      have q := HQ.out
      have := S5.out
      first | (rw [q]; simpa using this) | (simp only [List.append_nil, List.nil_append] at q; rw [q]; simpa using this) | (simp only [List.append_nil, List.nil_append, mg_nil_left, mg_nil_right] at q this ⊢; first | exact this | (rw [q]; exact this))
     ·obtain rfl : B1 = [] := HN.out.2.2.1 (by omega)
      have hse : st = en := by omega
      subst hse
      clear hg
      go_wp2
      go_end0
      refine ⟨rfl, ?_⟩
      have q := HQ.out
      have this : SWB enc blk 38 tail w0 _ wr := S2
      first | (rw [q]; simpa using this) | (simp only [List.append_nil, List.nil_append] at q; rw [q]; simpa using this) | (simp only [List.append_nil, List.nil_append, mg_nil_left, mg_nil_right] at q this ⊢; first | exact this | (rw [q]; exact this))
    ·-- B1 = []
     have hg := HG.out
     obtain rfl : B1 = [] := HN.out.2.2.1 (by omega)
     subst h4
     have hem : st = mid := by omega
     subst hem
     have L5 : Hid (0 < A2.length ∧ 0 < B2.length) := by show _ ∧ _; simp at hg; omega
     have h6 : en < b := by omega
     clear hg
     have S3 : Aside (SWB enc blk 38 tail w0 (pre ++ (mg (ltc cf) A1 ([] : List α) ++ (A2 ++ (B2 ++ post)))) wr) := by
      show SWB _ _ _ _ _ _ _
      have this : SWB enc blk 38 tail w0 _ wr := S2
      simpa using this
     go_wp2_with (go_at_fn 67; refine (ASR _ L5.out.1 L5.out.2 S3).mono ?_; rintro e w' ⟨rfl, S4⟩; have S5 := AsideK.mk S4; clear S4)
     go_end0
     refine ⟨rfl, ?_⟩
     have q := HQ.out
     have := S5.out
     first | (rw [q]; simpa using this) | (simp only [List.append_nil, List.nil_append] at q; rw [q]; simpa using this) | (simp only [List.append_nil, List.nil_append, mg_nil_left, mg_nil_right] at q this ⊢; first | exact this | (rw [q]; exact this))
    ·-- all
     have hg := HG.out
     have LR : Hid (0 < A2.length ∧ 0 < B1.length) := by show _ ∧ _; omega
     have h5 : st < mid := by omega
     have h6 : mid < en := by omega
     have ca : a < st ∨ (¬ a < st ∧ A1 = []) := by
      by_cases h : a < st
      ·exact .inl h
      ·exact .inr ⟨h, HN.out.1 (by omega)⟩
     have cb : en < b ∨ (¬ en < b ∧ B2 = []) := by
      by_cases h : en < b
      ·exact .inl h
      ·exact .inr ⟨h, HN.out.2.2.2 (by omega)⟩
     have LA : Hid (a < st → 0 < A1.length) := fun h => by omega
     have LB : Hid (en < b → 0 < B2.length) := fun h => by omega
     clear hg
     rcases ca with h7 | ⟨h7, rfl⟩ <;> rcases cb with h8 | ⟨h8, rfl⟩
     ·go_wp2_with (first | (go_at_fn 77; refine (ARO _ LR.out.1 LR.out.2 S2).mono ?_; rintro e w' ⟨rfl, S4⟩; have S5 := AsideK.mk S4; clear S4) | (go_at_fn 67; first | (refine (ASL _ (LA.out h7) LR.out.2 S5.out).mono ?_; rintro e w' ⟨rfl, S4⟩; have S6 := AsideK.mk S4; clear S4) | (refine (ASR _ LR.out.1 (LB.out h8) S6.out).mono ?_; rintro e w' ⟨rfl, S4⟩; have S7 := AsideK.mk S4; clear S4)))
      go_end0
      refine ⟨rfl, ?_⟩
      have q := HQ.out
      have := S7.out
      first | (rw [q]; simpa using this) | (simp only [List.append_nil, List.nil_append] at q; rw [q]; simpa using this) | (simp only [List.append_nil, List.nil_append, mg_nil_left, mg_nil_right] at q this ⊢; first | exact this | (rw [q]; exact this))
     ·go_wp2_with (first | (go_at_fn 77; refine (ARO _ LR.out.1 LR.out.2 S2).mono ?_; rintro e w' ⟨rfl, S4⟩; have S5 := AsideK.mk S4; clear S4) | (go_at_fn 67; refine (ASL _ (LA.out h7) LR.out.2 S5.out).mono ?_; rintro e w' ⟨rfl, S4⟩; have S6 := AsideK.mk S4; clear S4))
      go_end0
      refine ⟨rfl, ?_⟩
      have q := HQ.out
      have := S6.out
      first | (rw [q]; simpa using this) | (simp only [List.append_nil, List.nil_append] at q; rw [q]; simpa using this) | (simp only [List.append_nil, List.nil_append, mg_nil_left, mg_nil_right] at q this ⊢; first | exact this | (rw [q]; exact this))
     ·go_wp2_with (first | (go_at_fn 77; refine (ARO _ LR.out.1 LR.out.2 S2).mono ?_; rintro e w' ⟨rfl, S4⟩; have S5 := AsideK.mk S4; clear S4) | (go_at_fn 67; refine (ASR _ LR.out.1 (LB.out h8) (by have := S5.out; simpa using this)).mono ?_; rintro e w' ⟨rfl, S4⟩; have S6 := AsideK.mk S4; clear S4))
      go_end0
      refine ⟨rfl, ?_⟩
      have q := HQ.out
      have := S6.out
      first | (rw [q]; simpa using this) | (simp only [List.append_nil, List.nil_append] at q; rw [q]; simpa using this) | (simp only [List.append_nil, List.nil_append, mg_nil_left, mg_nil_right] at q this ⊢; first | exact this | (rw [q]; exact this))
     ·go_wp2_with (first | (go_at_fn 77; refine (ARO _ LR.out.1 LR.out.2 S2).mono ?_; rintro e w' ⟨rfl, S4⟩; have S5 := AsideK.mk S4; clear S4))
      go_end0
      refine ⟨rfl, ?_⟩
      have q := HQ.out
      have := S5.out
      first | (rw [q]; simpa using this) | (simp only [List.append_nil, List.nil_append] at q; rw [q]; simpa using this) | (simp only [List.append_nil, List.nil_append, mg_nil_left, mg_nil_right] at q this ⊢; first | exact this | (rw [q]; exact this))
end SK
end Go.Proofs.Ytlbicmdfdpcdiaa.PDa
-- Printed by a program of this session's; Lean checks it.
namespace Go.Proofs.Ytlbicmdfdpcdiaa.PDa
open Go.RowKit Go.Proofs.YtlbicmdfdpcdiaaW.PrintWords Go.Proofs.YtlbicmdfdpcdiaaW.PrintLast Go.Proofs.YtlbicmdfdpcdiaaW.PrintMore
attribute [local go_sem] max2_int min2_int max_two min_two max_three min_three max_four min_four
set_option linter.unusedVariables false
set_option linter.unusedSimpArgs false
namespace SK
open Go.Shelf Go.Lib
variable {P : Program} {α : Type}
theorem sym_calls (k : Nat) (T : TF P k) (FY : P.funcs[67]? = some Try.f67) (FR : P.funcs[77]? = some Try.f77) (FS : P.funcs[83]? = some Try.f83) (enc : α → List Value) (hk : ∀ x, (enc x).length = k) (h1 : ∀ x, ∀ v ∈ enc x, v.oneCell' = true) (cf : α → α → Int) (H : SWO (ltc cf))
  (g : Nat) (eg : ∀ args w, (callFunc g args).run P w = .ok (.enter g args) w) (hcmp : ∀ (x y : α) (w : World), Calls P g #[.agg (enc x).toArray, .agg (enc y).toArray] w fun e w' => e = .returned (.int .i64 (cf x y)) ∧ Below w.heap.size w w')
  (blk off cap N : Nat) (ho : off = 0) (tail : List Value) (w0 : World) (hsz : N < 4611686018427387904) : ∀ (n : Nat) (pre A B post : List α) (w : World) (a m b : Nat), A.length + B.length = n → 0 < A.length → 0 < B.length → srt (ltc cf) A → srt (ltc cf) B → SWB enc blk 38 tail w0 (pre ++ (A ++ (B ++ post))) w → a = pre.length → m = a + A.length → b = m + B.length → N = pre.length + (A.length + (B.length + post.length)) →
   Calls P 67 #[.slice (some ⟨blk, off, none⟩) N cap, .int .i64 a, .int .i64 m, .int .i64 b, .func (.func g) #[] #[]] w fun e w' => e = .returned (.tuple #[]) ∧ SWB enc blk 38 tail w0 (pre ++ (mg (ltc cf) A B ++ post)) w' := by
 intro n
 induction n using Nat.strongRecOn with
 | _ n ih =>
  intro pre A B post w a m b hn hA0 hB0 hA hB S ha hm hb hN
  by_cases hA1 : A.length = 1
  ·obtain ⟨x, rfl⟩ := List.length_eq_one_iff.1 hA1
   exact sym_one k T FY enc hk h1 cf H g eg hcmp blk off cap a m b N ho tail w0 w pre x B post hB (by simpa using S) ha (by simpa using hm) hb (by simpa using hN) hsz
  ·by_cases hB1 : B.length = 1
   ·obtain ⟨x, rfl⟩ := List.length_eq_one_iff.1 hB1
    exact sym_last k T FY enc hk h1 cf H g eg hcmp blk off cap a m b N ho tail w0 w pre A x post hA (by omega) (by simpa using S) ha hm (by simpa using hb) (by simpa using hN) hsz
   ·exact sym_gen k T FY FR FS enc hk h1 cf H g eg hcmp blk off cap a m b N ho tail w0 w pre A B post hA hB (by omega) (by omega) S ha hm hb hN hsz
     (fun pre' A' B' post' w' a' m' b' hl h0 h0' hA' hB' S' ha' hm' hb' hN' => ih (A'.length + B'.length) (by omega) pre' A' B' post' w' a' m' b' rfl h0 h0' hA' hB' S' ha' hm' hb' hN')
set_option maxHeartbeats 8000000 in
set_option maxRecDepth 1000000 in
theorem stable_calls (k : Nat) (T : TF P k) (FG : P.funcs[55]? = some Try.f55) (FI : P.funcs[66]? = some Try.f66) (FY : P.funcs[67]? = some Try.f67) (FR : P.funcs[77]? = some Try.f77) (FS : P.funcs[83]? = some Try.f83) (enc : α → List Value) (hk : ∀ x, (enc x).length = k) (h1 : ∀ x, ∀ v ∈ enc x, v.oneCell' = true) (cf : α → α → Int) (H : SWO (ltc cf))
  (g : Nat) (eg : ∀ args w, (callFunc g args).run P w = .ok (.enter g args) w) (hcmp : ∀ (x y : α) (w : World), Calls P g #[.agg (enc x).toArray, .agg (enc y).toArray] w fun e w' => e = .returned (.int .i64 (cf x y)) ∧ Below w.heap.size w w')
  (blk off cap N : Nat) (ho : off = 0) (tail : List Value) (w0 : World) (hsz : N < 4611686018427387904) (L : List α) (w : World) (S : SWB enc blk 38 tail w0 L w) (hL : L.length = N) (hsz2 : N ≤ 140737488355328) :
  Calls P 55 #[.slice (some ⟨blk, off, none⟩) N cap, .int .i64 N, .func (.func g) #[] #[]] w fun e w' => e = .returned (.tuple #[]) ∧ SWB enc blk 38 tail w0 (isort (ltc cf) L) w' := by
 have mixed := T.mixed; have t0 := T.t0; have a0 := T.a0; have z0 := T.z0; have v0 := T.v0; have t3 := T.t3; have a3 := T.a3; have z3 := T.z3; have v3 := T.v3; have t4 := T.t4; have a4 := T.a4; have z4 := T.z4; have v4 := T.v4; have tS := T.tS; have aS := T.aS; have zS := T.zS; have vS := T.vS; have tC := T.tC; have aC := T.aC; have zC := T.zC; have vC := T.vC; have aE := T.aE; have zE := T.zE; have tU := T.tU; have aU := T.aU; have zU := T.zU; have vU := T.vU
 have u22 := run_underlying T.tS
 have IN : ∀ (W : World) (a b : Nat) (pre S post : List α), SWB enc blk 38 tail w0 (pre ++ (S ++ post)) W → a = pre.length → b = pre.length + S.length → N = pre.length + (S.length + post.length) →
   Calls P 66 #[.slice (some ⟨blk, off, none⟩) N cap, .int .i64 a, .int .i64 b, .func (.func g) #[] #[]] W fun e w' => e = .returned (.tuple #[]) ∧ SWB enc blk 38 tail w0 (pre ++ (isort (ltc cf) S ++ post)) w' :=
  fun W a b pre S post h h2 h3 h4 => insertion_calls k T FI enc hk h1 cf H g eg hcmp blk off cap a b N ho tail w0 W pre S post h h2 h3 h4 hsz
 have SY : ∀ (W : World) (a m b : Nat) (za zm zb : Int) (pre A B post : List α), za = a → zm = m → zb = b → 0 < A.length → 0 < B.length → srt (ltc cf) A → srt (ltc cf) B → SWB enc blk 38 tail w0 (pre ++ (A ++ (B ++ post))) W → a = pre.length → m = a + A.length → b = m + B.length → N = pre.length + (A.length + (B.length + post.length)) →
   Calls P 67 #[.slice (some ⟨blk, off, none⟩) N cap, .int .i64 za, .int .i64 zm, .int .i64 zb, .func (.func g) #[] #[]] W fun e w' => e = .returned (.tuple #[]) ∧ SWB enc blk 38 tail w0 (pre ++ (mg (ltc cf) A B ++ post)) w' :=
  fun W a m b za zm zb pre A B post e1 e2 e3 h0 h0' hA hB S ha hm hb hN => by
   subst e1 e2 e3
   exact sym_calls k T FY FR FS enc hk h1 cf H g eg hcmp blk off cap N ho tail w0 hsz _ pre A B post W a m b rfl h0 h0' hA hB S ha hm hb hN
 have eSY : ∀ args w, (callFunc 67 args).run P w = .ok (.enter 67 args) w := enters_k FY (by kernel_rfl) rfl
 have eIN : ∀ args w, (callFunc 66 args).run P w = .ok (.enter 66 args) w := enters_k FI (by kernel_rfl) rfl
 have AIN : Aside _ := IN
 have ASY : Aside _ := SY
 have HH : Hid (SWO (ltc cf)) := H
 have S0 : Aside (SWB enc blk 38 tail w0 L w) := S
 have HL : Hid (L.length = N) := hL
 clear S hk h1 ho hcmp H IN SY hL
 go_enter FG, Try.ntmps55
 go_wp2
 go_loopg [7, 8] N (fun kx s7 s8 wr => ∃ (a b : Nat) (X R : List α), s7 = .int .i64 a ∧ s8 = .int .i64 b ∧ b = a + 20 ∧ a ≤ N ∧ N - a ≤ kx ∧ Hid (bsort (ltc cf) 20 L = X ++ bsort (ltc cf) 20 R ∧ a = X.length ∧ N = X.length + R.length) ∧ Aside (SWB enc blk 38 tail w0 (X ++ R) wr))
 case atStart => exact ⟨0, 20, [], L, rfl, rfl, rfl, by omega, by omega, ⟨rfl, rfl, by rw [HL.out]; simp⟩, S0⟩
 case round =>
  clear S0
  obtain ⟨a, b, X, R, rfl, rfl, rfl, haN, hkx, HX, S1⟩ := hrel
  by_cases hlt : a + 20 ≤ N
  ·have hltz : (a : Int) + 20 ≤ (N : Int) := by omega
   have S2 : Aside (SWB enc blk 38 tail w0 (X ++ (R.take 20 ++ R.drop 20)) wr) := by
    show SWB _ _ _ _ _ _ _
    rw [List.take_append_drop]; exact S1
   go_wp2_with (go_at_fn 66; refine (AIN.out _ a (a + 20) X (R.take 20) (R.drop 20) S2 HX.out.2.1 (by have := HX.out; rw [List.length_take]; omega) (by have := HX.out; rw [List.length_take, List.length_drop]; omega)).mono ?_; rintro e w' ⟨rfl, S3⟩; have S4 := AsideK.mk S3; clear S3)
   go_roundg (N - (a + 20))
   case measure => omega
   case rel =>
    have h := HX.out
    have hR : (R.take 20).length = 20 := by rw [List.length_take]; omega
    refine ⟨a + 20, a + 20 + 20, X ++ isort (ltc cf) (R.take 20), R.drop 20, by first | rfl | go_num, by first | rfl | (congr 1; omega), rfl, by omega, Nat.le_refl _, ⟨?_, ?_, ?_⟩, ?_⟩
    ·rw [h.1, List.append_assoc, ← bsort_app 20 (by omega) _ _ hR, List.take_append_drop]
    ·rw [List.length_append, isort_length, hR]; omega
    ·rw [List.length_append, isort_length, hR, List.length_drop]; omega
    ·have := S4.out
     show SWB _ _ _ _ _ _ _
     simpa using this
  ·have hltz : ¬ (a : Int) + 20 ≤ (N : Int) := by omega
   have S2 : Aside (SWB enc blk 38 tail w0 (X ++ (R ++ [])) wr) := by
    show SWB _ _ _ _ _ _ _
    rw [List.append_nil]; exact S1
   go_wp2_with (go_at_fn 66; refine (AIN.out _ a N X R [] S2 HX.out.2.1 (by have := HX.out; omega) (by have := HX.out; simp; omega)).mono ?_; rintro e w' ⟨rfl, S3⟩; have S4 := AsideK.mk S3; clear S3)
   have S5 : Aside (SWB enc blk 38 tail w0 (bsort (ltc cf) 20 L) w') := by
    show SWB _ _ _ _ _ _ _
    have h := HX.out
    rw [h.1, bsort_short 20 (by omega) R (by omega)]
    simpa using S4.out
   clear S4 S2 S1 HX hltz hlt
   go_loopg [6, 7, 8, 9] N (fun kx s6 s7 s8 s9 wr => ∃ (bs : Nat), s6 = .int .i64 bs ∧ 20 ≤ bs ∧ N - bs ≤ kx ∧ bs ≤ 2 * N + 20 ∧ Aside (SWB enc blk 38 tail w0 (bsort (ltc cf) bs L) wr))
   case atStart => exact ⟨20, rfl, by omega, by omega, by omega, S5⟩
   case round =>
    clear S5
    obtain ⟨bs, rfl, hbs, hkx, hb2, S1⟩ := hrel
    by_cases hlt : bs < N
    ·have hltz : (bs : Int) < (N : Int) := by omega
     go_wp2_with fail
     go_loopg [7, 8] N (fun kj s7 s8 wr => ∃ (a b : Nat) (X R : List α), s7 = .int .i64 a ∧ s8 = .int .i64 b ∧ b = a + 2 * bs ∧ a ≤ N ∧ N - a ≤ kj ∧ Hid (bsort (ltc cf) (2 * bs) L = X ++ bsort (ltc cf) (2 * bs) R ∧ a = X.length ∧ N = X.length + R.length) ∧ Aside (SWB enc blk 38 tail w0 (X ++ bsort (ltc cf) bs R) wr))
     case atStart => exact ⟨0, 2 * bs, [], L, rfl, by go_num, by omega, by omega, by omega, ⟨rfl, rfl, by rw [HL.out]; simp⟩, S1⟩
     case round =>
      clear S1
      obtain ⟨a, b, X, R, rfl, rfl, hb, haN, hkj, HX, S2⟩ := hrel
      by_cases hle : b ≤ N
      ·have hlez : (b : Int) ≤ (N : Int) := by omega
       have habs : (a : Int) + (bs : Int) ≤ (N : Int) := by omega
       have hR : 2 * bs ≤ R.length := by have := HX.out; omega
       have c1 : (R.take bs).length = bs := by rw [List.length_take]; omega
       have c2 : ((R.drop bs).take bs).length = bs := by rw [List.length_take, List.length_drop]; omega
       have eR : R = R.take bs ++ ((R.drop bs).take bs ++ R.drop (2 * bs)) := by
        rw [show R.drop (2 * bs) = (R.drop bs).drop bs by rw [List.drop_drop]; congr 1; omega, List.take_append_drop, List.take_append_drop]
       have eb : bsort (ltc cf) bs R = isort (ltc cf) (R.take bs) ++ (isort (ltc cf) ((R.drop bs).take bs) ++ bsort (ltc cf) bs (R.drop (2 * bs))) := by
        conv => lhs; rw [eR]
        rw [bsort_app bs (by omega) _ _ c1, bsort_app bs (by omega) _ _ c2]
       have eb2 : bsort (ltc cf) (2 * bs) R = mg (ltc cf) (isort (ltc cf) (R.take bs)) (isort (ltc cf) ((R.drop bs).take bs)) ++ bsort (ltc cf) (2 * bs) (R.drop (2 * bs)) := by
        conv => lhs; rw [eR, ← List.append_assoc]
        rw [bsort_app (2 * bs) (by omega) _ _ (by rw [List.length_append]; omega), isort_append HH.out]
       have S3 : Aside (SWB enc blk 38 tail w0 (X ++ (isort (ltc cf) (R.take bs) ++ (isort (ltc cf) ((R.drop bs).take bs) ++ bsort (ltc cf) bs (R.drop (2 * bs))))) wr) := by
        show SWB _ _ _ _ _ _ _
        rw [← eb]; exact S2
       have l1 : (isort (ltc cf) (R.take bs)).length = bs := by rw [isort_length, c1]
       have l2 : (isort (ltc cf) ((R.drop bs).take bs)).length = bs := by rw [isort_length, c2]
       have l3 : (bsort (ltc cf) bs (R.drop (2 * bs))).length = (R.drop (2 * bs)).length := bsort_length bs (by omega) _ _ rfl
       have l4 : (mg (ltc cf) (isort (ltc cf) (R.take bs)) (isort (ltc cf) ((R.drop bs).take bs))).length = 2 * bs := by rw [mg_length, l1, l2]; omega
       have HE : Hid (bsort (ltc cf) (2 * bs) R = mg (ltc cf) (isort (ltc cf) (R.take bs)) (isort (ltc cf) ((R.drop bs).take bs)) ++ bsort (ltc cf) (2 * bs) (R.drop (2 * bs)) ∧ (isort (ltc cf) (R.take bs)).length = bs ∧ (isort (ltc cf) ((R.drop bs).take bs)).length = bs ∧ (bsort (ltc cf) bs (R.drop (2 * bs))).length = (R.drop (2 * bs)).length ∧ (mg (ltc cf) (isort (ltc cf) (R.take bs)) (isort (ltc cf) ((R.drop bs).take bs))).length = 2 * bs ∧ 2 * bs ≤ R.length) := ⟨eb2, l1, l2, l3, l4, hR⟩
       have HB : Hid (b = a + 2 * bs) := hb
       have hbz : b ≤ 140737488355328 := by omega
       clear eb eR eb2 S2 c1 c2 l1 l2 l3 l4 hR hb
       go_wp2_with (go_at_fn 67; refine (ASY.out _ a (a + bs) b _ _ _ X (isort (ltc cf) (R.take bs)) (isort (ltc cf) ((R.drop bs).take bs)) (bsort (ltc cf) bs (R.drop (2 * bs))) rfl (by omega) rfl (by have := HE.out; omega) (by have := HE.out; omega) (isort_srt HH.out _) (isort_srt HH.out _) S3 HX.out.2.1 (by have := HE.out; omega) (by have := HE.out; have := HB.out; omega) (by have h1 := HE.out; have h2 := HX.out; rw [h1.2.1, h1.2.2.1, h1.2.2.2.1, List.length_drop]; omega)).mono ?_; rintro e w' ⟨rfl, S4⟩; have S5 := AsideK.mk S4; clear S4)
       go_roundg (N - b)
       case measure => have := HB.out; omega
       case rel =>
        have h1 := HE.out
        have h2 := HX.out
        have h3 := HB.out
        refine ⟨b, b + 2 * bs, X ++ mg (ltc cf) (isort (ltc cf) (R.take bs)) (isort (ltc cf) ((R.drop bs).take bs)), R.drop (2 * bs), by first | rfl | go_num, by first | rfl | (congr 1; omega), rfl, hle, Nat.le_refl _, ⟨?_, ?_, ?_⟩, ?_⟩
        ·rw [h2.1, h1.1, List.append_assoc]
        ·rw [List.length_append, h1.2.2.2.2.1]; omega
        ·rw [List.length_append, h1.2.2.2.2.1, List.length_drop]; omega
        ·have := S5.out
         show SWB _ _ _ _ _ _ _
         simpa using this
      ·have hlez : ¬ (b : Int) ≤ (N : Int) := by omega
       have HB : Hid (b = a + 2 * bs) := hb
       clear hb
       by_cases hm : a + bs < N
       ·have hmz : (a : Int) + (bs : Int) < (N : Int) := by omega
        have hR : bs < R.length ∧ R.length < 2 * bs := by have := HX.out; have := HB.out; omega
        have c1 : (R.take bs).length = bs := by rw [List.length_take]; omega
        have eR : R = R.take bs ++ R.drop bs := (List.take_append_drop _ _).symm
        have eb : bsort (ltc cf) bs R = isort (ltc cf) (R.take bs) ++ isort (ltc cf) (R.drop bs) := by
         conv => lhs; rw [eR]
         rw [bsort_app bs (by omega) _ _ c1, bsort_short bs (by omega) (R.drop bs) (by rw [List.length_drop]; omega)]
        have eb2 : bsort (ltc cf) (2 * bs) R = mg (ltc cf) (isort (ltc cf) (R.take bs)) (isort (ltc cf) (R.drop bs)) := by
         rw [bsort_short (2 * bs) (by omega) R (by omega), ← isort_append HH.out, List.take_append_drop]
        have S3 : Aside (SWB enc blk 38 tail w0 (X ++ (isort (ltc cf) (R.take bs) ++ (isort (ltc cf) (R.drop bs) ++ []))) wr) := by
         show SWB _ _ _ _ _ _ _
         rw [List.append_nil, ← eb]; exact S2
        have HE : Hid (bsort (ltc cf) (2 * bs) R = mg (ltc cf) (isort (ltc cf) (R.take bs)) (isort (ltc cf) (R.drop bs)) ∧ (isort (ltc cf) (R.take bs)).length = bs ∧ (isort (ltc cf) (R.drop bs)).length = R.length - bs ∧ bs < R.length) := ⟨eb2, by rw [isort_length, c1], by rw [isort_length, List.length_drop], hR.1⟩
        clear eb eb2 eR c1 hR S2
        go_wp2_with (go_at_fn 67; refine (ASY.out _ a (a + bs) N _ _ _ X (isort (ltc cf) (R.take bs)) (isort (ltc cf) (R.drop bs)) [] rfl (by omega) rfl (by have := HE.out; omega) (by have := HE.out; omega) (isort_srt HH.out _) (isort_srt HH.out _) S3 HX.out.2.1 (by have := HE.out; omega) (by have := HE.out; have := HX.out; omega) (by have h1 := HE.out; have h2 := HX.out; rw [h1.2.1, h1.2.2.1]; simp; omega)).mono ?_; rintro e w' ⟨rfl, S4⟩; have S5 := AsideK.mk S4; clear S4)
        go_roundg (N - 2 * bs)
        case measure => omega
        case rel =>
         refine ⟨2 * bs, by first | rfl | (congr 1; omega), by omega, Nat.le_refl _, by omega, ?_⟩
         show SWB _ _ _ _ _ _ _
         rw [HX.out.1, HE.out.1]
         simpa using S5.out
       ·have hmz : ¬ (a : Int) + (bs : Int) < (N : Int) := by omega
        have S3 : Aside (SWB enc blk 38 tail w0 (bsort (ltc cf) (2 * bs) L) wr) := by
         show SWB _ _ _ _ _ _ _
         have h := HX.out
         rw [h.1, bsort_short (2 * bs) (by omega) R (by omega), ← bsort_short (lt := ltc cf) bs (by omega) R (by omega)]
         exact S2
        clear S2
        go_wp2
        go_roundg (N - 2 * bs)
        case measure => omega
        case rel => exact ⟨2 * bs, by first | rfl | (congr 1; omega), by omega, Nat.le_refl _, by omega, S3⟩
    ·have hltz : ¬ (bs : Int) < (N : Int) := by omega
     go_wp2
     go_end0
     refine ⟨rfl, ?_⟩
     rw [← bsort_short (lt := ltc cf) bs (by omega) L (by rw [HL.out]; omega)]
     exact S1
end SK
namespace SK
open Go.Shelf Go.Lib
variable {P : Program} {α : Type}
set_option maxHeartbeats 8000000 in
set_option maxRecDepth 1000000 in
theorem sortStable_calls (k : Nat) (T : TF P k) (FO : P.funcs[42]? = some Try.f42) (FG : P.funcs[55]? = some Try.f55) (FI : P.funcs[66]? = some Try.f66) (FY : P.funcs[67]? = some Try.f67) (FR : P.funcs[77]? = some Try.f77) (FS : P.funcs[83]? = some Try.f83) (enc : α → List Value) (hk : ∀ x, (enc x).length = k) (h1 : ∀ x, ∀ v ∈ enc x, v.oneCell' = true) (cf : α → α → Int) (H : SWO (ltc cf))
  (g : Nat) (eg : ∀ args w, (callFunc g args).run P w = .ok (.enter g args) w) (hcmp : ∀ (x y : α) (w : World), Calls P g #[.agg (enc x).toArray, .agg (enc y).toArray] w fun e w' => e = .returned (.int .i64 (cf x y)) ∧ Below w.heap.size w w')
  (blk off cap N : Nat) (ho : off = 0) (tail : List Value) (w0 : World) (hsz : N < 4611686018427387904) (L : List α) (w : World) (S : SWB enc blk 38 tail w0 L w) (hL : L.length = N) (hsz2 : N ≤ 140737488355328) :
  Calls P 42 #[.slice (some ⟨blk, off, none⟩) N cap, .func (.func g) #[] #[]] w fun e w' => e = .returned (.tuple #[]) ∧ SWB enc blk 38 tail w0 (isort (ltc cf) L) w' := by
 have mixed := T.mixed; have t0 := T.t0; have a0 := T.a0; have z0 := T.z0; have v0 := T.v0; have t3 := T.t3; have a3 := T.a3; have z3 := T.z3; have v3 := T.v3; have t4 := T.t4; have a4 := T.a4; have z4 := T.z4; have v4 := T.v4; have tS := T.tS; have aS := T.aS; have zS := T.zS; have vS := T.vS; have tC := T.tC; have aC := T.aC; have zC := T.zC; have vC := T.vC; have aE := T.aE; have zE := T.zE; have tU := T.tU; have aU := T.aU; have zU := T.zU; have vU := T.vU
 have u22 := run_underlying T.tS
 have ST := stable_calls k T FG FI FY FR FS enc hk h1 cf H g eg hcmp blk off cap N ho tail w0 hsz L w S hL hsz2
 have AST : Aside _ := ST
 have eST : ∀ args w, (callFunc 55 args).run P w = .ok (.enter 55 args) w := enters_k FG (by kernel_rfl) rfl
 clear ST S hk h1 hcmp H hL ho
 go_enter FO, Try.ntmps42
 go_wp2_with (go_at_fn 55; refine Calls.mono AST.out ?_; rintro e w' ⟨rfl, S3⟩; have S4 := AsideK.mk S3; clear S3)
 go_end0
 exact ⟨rfl, S4.out⟩
set_option maxHeartbeats 8000000 in
set_option maxRecDepth 1000000 in
theorem insertion_none (k : Nat) (T : TF P k) (FG : P.funcs[66]? = some Try.f66) (p : Option Addr) (cap : Nat) (fv : Value) (w : World) :
  Calls P 66 #[.slice p 0 cap, .int .i64 0, .int .i64 0, fv] w fun e w' => e = .returned (.tuple #[]) ∧ w' = w := by
 have mixed := T.mixed; have t0 := T.t0; have a0 := T.a0; have z0 := T.z0; have v0 := T.v0; have t3 := T.t3; have a3 := T.a3; have z3 := T.z3; have v3 := T.v3; have t4 := T.t4; have a4 := T.a4; have z4 := T.z4; have v4 := T.v4; have tS := T.tS; have aS := T.aS; have zS := T.zS; have vS := T.vS; have tC := T.tC; have aC := T.aC; have zC := T.zC; have vC := T.vC; have aE := T.aE; have zE := T.zE; have tU := T.tU; have aU := T.aU; have zU := T.zU; have vU := T.vU
 have u22 := run_underlying T.tS
 go_enter FG, Try.ntmps66
 go_wp2
 go_loopg [8] 0 (fun kx s wr => s = .int .i64 1 ∧ wr = w)
 case atStart => exact ⟨rfl, rfl⟩
 case round =>
  obtain ⟨rfl, rfl⟩ := hrel
  go_wp2
  go_end0
  exact ⟨rfl, rfl⟩
set_option maxHeartbeats 8000000 in
set_option maxRecDepth 1000000 in
theorem sortStable_none (k : Nat) (T : TF P k) (FO : P.funcs[42]? = some Try.f42) (FG : P.funcs[55]? = some Try.f55) (FI : P.funcs[66]? = some Try.f66) (p : Option Addr) (cap : Nat) (fv : Value) (w : World) :
  Calls P 42 #[.slice p 0 cap, fv] w fun e w' => e = .returned (.tuple #[]) ∧ w' = w := by
 have eST : ∀ args w, (callFunc 55 args).run P w = .ok (.enter 55 args) w := enters_k FG (by kernel_rfl) rfl
 have eIN : ∀ args w, (callFunc 66 args).run P w = .ok (.enter 66 args) w := enters_k FI (by kernel_rfl) rfl
 have IN := insertion_none k T FI p cap fv
 have AIN : Aside _ := IN
 clear IN
 have ST : ∀ w, Calls P 55 #[.slice p 0 cap, .int .i64 0, fv] w fun e w' => e = .returned (.tuple #[]) ∧ w' = w := by
  intro w
  have mixed := T.mixed; have t0 := T.t0; have a0 := T.a0; have z0 := T.z0; have v0 := T.v0; have t3 := T.t3; have a3 := T.a3; have z3 := T.z3; have v3 := T.v3; have t4 := T.t4; have a4 := T.a4; have z4 := T.z4; have v4 := T.v4; have tS := T.tS; have aS := T.aS; have zS := T.zS; have vS := T.vS; have tC := T.tC; have aC := T.aC; have zC := T.zC; have vC := T.vC; have aE := T.aE; have zE := T.zE; have tU := T.tU; have aU := T.aU; have zU := T.zU; have vU := T.vU
  have u22 := run_underlying T.tS
  go_enter FG, Try.ntmps55
  go_wp2
  go_loopg [7, 8] 0 (fun kx s7 s8 wr => s7 = .int .i64 0 ∧ s8 = .int .i64 20 ∧ wr = w)
  case atStart => exact ⟨rfl, rfl, rfl⟩
  case round =>
   obtain ⟨rfl, rfl, rfl⟩ := hrel
   go_wp2_with (go_at_fn 66; refine Calls.mono (AIN.out _) ?_; rintro e w' ⟨rfl, rfl⟩)
   go_loopg [6] 0 (fun kx s6 wr => s6 = .int .i64 20 ∧ wr = w')
   case atStart => exact ⟨rfl, rfl⟩
   case round =>
    obtain ⟨rfl, rfl⟩ := hrel
    go_wp2
    go_end0
    exact ⟨rfl, rfl⟩
 have mixed := T.mixed; have t0 := T.t0; have a0 := T.a0; have z0 := T.z0; have v0 := T.v0; have t3 := T.t3; have a3 := T.a3; have z3 := T.z3; have v3 := T.v3; have t4 := T.t4; have a4 := T.a4; have z4 := T.z4; have v4 := T.v4; have tS := T.tS; have aS := T.aS; have zS := T.zS; have vS := T.vS; have tC := T.tC; have aC := T.aC; have zC := T.zC; have vC := T.vC; have aE := T.aE; have zE := T.zE; have tU := T.tU; have aU := T.aU; have zU := T.zU; have vU := T.vU
 have u22 := run_underlying T.tS
 have AST : Aside _ := ST
 clear ST
 go_enter FO, Try.ntmps42
 go_wp2_with (go_at_fn 55; refine Calls.mono (AST.out _) ?_; rintro e w' ⟨rfl, rfl⟩)
 go_end0
 exact ⟨rfl, rfl⟩
end SK
namespace SK
open Go.Shelf Go.Lib
theorem exists_list {α : Type} (Q : Nat → α → Prop) : ∀ n : Nat, (∀ j, j < n → ∃ x, Q j x) → ∃ L : List α, L.length = n ∧ ∀ j x, L[j]? = some x → Q j x := by
 intro n
 induction n with
 | zero => intro _; exact ⟨[], rfl, fun j x h => by simp at h⟩
 | succ n ih =>
  intro h
  obtain ⟨L, hL, hQ⟩ := ih fun j hj => h j (by omega)
  obtain ⟨x, hx⟩ := h n (by omega)
  refine ⟨L ++ [x], by simp [hL], fun j y hj => ?_⟩
  rcases Nat.lt_or_ge j L.length with hl | hl
  ·rw [List.getElem?_append_left hl] at hj; exact hQ j y hj
  ·have hlt := (List.getElem?_eq_some_iff.1 hj).1
   simp at hlt
   obtain rfl : j = L.length := by omega
   simp at hj
   subst hj
   rw [hL]; exact hx
theorem flat_of_chunks {α : Type} (enc : α → List Value) (k : Nat) (hk : ∀ x, (enc x).length = k) : ∀ (L : List α) (inner : List Value), inner.length = L.length * k → (∀ j x, L[j]? = some x → (inner.drop (j * k)).take k = enc x) → inner = L.flatMap enc := by
 intro L
 induction L with
 | nil => intro inner h _; simp at h; simp [h]
 | cons x L ih =>
  intro inner h hc
  have h0 := hc 0 x rfl
  simp only [Nat.zero_mul, List.drop_zero] at h0
  rw [List.flatMap_cons, ← h0, ← ih (inner.drop k) (by rw [List.length_drop, h, List.length_cons, Nat.add_mul]; omega) (fun j y hj => ?_), List.take_append_drop]
  have := hc (j + 1) y (by simpa using hj)
  rw [List.drop_drop]
  rw [show k + j * k = (j + 1) * k by rw [Nat.add_mul]; omega]
  exact this
theorem chunk_of_flat {α : Type} (enc : α → List Value) (k : Nat) (hk : ∀ x, (enc x).length = k) : ∀ (L : List α) (j : Nat) (x : α), L[j]? = some x → ((L.flatMap enc).drop (j * k)).take k = enc x := by
 intro L
 induction L with
 | nil => intro j x h; simp at h
 | cons y L ih =>
  intro j x h
  cases j with
  | zero =>
   simp at h
   subst h
   rw [Nat.zero_mul, List.drop_zero, List.flatMap_cons, List.take_left' (hk _)]
  | succ j =>
   have := ih j x (by simpa using h)
   rw [List.flatMap_cons, Nat.add_mul, Nat.one_mul, Nat.add_comm, ← List.drop_drop, List.drop_left' (hk _)]
   exact this
theorem mg_perm {α : Type} {lt : α → α → Bool} (A B : List α) : (mg lt A B).Perm (A ++ B) := by unfold mg; exact List.merge_perm_append ..
theorem isort_perm {α : Type} {lt : α → α → Bool} : ∀ L : List α, (isort lt L).Perm L := by
 refine list_snoc_ind (List.Perm.refl _) fun L x ih => ?_
 rw [isort_snoc]
 exact (mg_perm _ _).trans (ih.append_right _)
def cmpZ (a b : Int) : Int := if a = b then 0 else if a < b then -1 else 1
def cmpCue (x y : S38) : Int := if cmpZ (x.f0.f0 * y.f0.f1) (y.f0.f0 * x.f0.f1) = 0 then cmpZ (x.f1.f0 * y.f1.f1) (y.f1.f0 * x.f1.f1) else cmpZ (x.f0.f0 * y.f0.f1) (y.f0.f0 * x.f0.f1)
def ltCue (x y : S38) : Bool := decide (cmpCue x y < 0)
def pairOK (x y : S38) : Bool := decide (ratio_Cmp.f x.f0.f0 x.f0.f1 y.f0.f0 y.f0.f1 = some (cmpZ (x.f0.f0 * y.f0.f1) (y.f0.f0 * x.f0.f1))) && decide (ratio_Cmp.f x.f1.f0 x.f1.f1 y.f1.f0 y.f1.f1 = some (cmpZ (x.f1.f0 * y.f1.f1) (y.f1.f0 * x.f1.f1)))
def cuesOK (t : List S38) : Bool := t.all fun x => decide (0 < x.f0.f1) && (decide (0 < x.f1.f1) && t.all (pairOK x))
theorem cmpZ_lt {a b : Int} : cmpZ a b < 0 ↔ a < b := by
 unfold cmpZ
 split
 ·omega
 ·split <;> omega
theorem cmpZ_eq {a b : Int} : cmpZ a b = 0 ↔ a = b := by
 unfold cmpZ
 split
 ·simp_all
 ·split <;> simp_all
theorem frac_lt {a b c d e f : Int} (hb : 0 < b) (hd : 0 < d) (hf : 0 < f) (h1 : a * d ≤ c * b) (h2 : c * f ≤ e * d) : a * f ≤ e * b := by
 have h3 : a * d * f ≤ c * b * f := Int.mul_le_mul_of_nonneg_right h1 (by omega)
 have h4 : c * f * b ≤ e * d * b := Int.mul_le_mul_of_nonneg_right h2 (by omega)
 have e1 : a * d * f = a * f * d := by rw [Int.mul_assoc, Int.mul_comm d f, ← Int.mul_assoc]
 have e2 : c * b * f = c * f * b := by rw [Int.mul_assoc, Int.mul_comm b f, ← Int.mul_assoc]
 have e3 : e * d * b = e * b * d := by rw [Int.mul_assoc, Int.mul_comm d b, ← Int.mul_assoc]
 have h5 : a * f * d ≤ e * b * d := by omega
 exact Int.le_of_mul_le_mul_right h5 hd
theorem ltCue_iff (x y : S38) : ltCue x y = true ↔ (x.f0.f0 * y.f0.f1 < y.f0.f0 * x.f0.f1 ∨ (x.f0.f0 * y.f0.f1 = y.f0.f0 * x.f0.f1 ∧ x.f1.f0 * y.f1.f1 < y.f1.f0 * x.f1.f1)) := by
 unfold ltCue cmpCue
 rw [decide_eq_true_iff]
 split
 ·rename_i h
  rw [cmpZ_eq] at h
  rw [cmpZ_lt]
  omega
 ·rename_i h
  rw [cmpZ_eq] at h
  rw [cmpZ_lt]
  omega
theorem ltCue_swo (p : S38 → Prop) (hp : ∀ x, p x → 0 < x.f0.f1 ∧ 0 < x.f1.f1) {α : Type} (f : α → S38) (hf : ∀ x, p (f x)) : SWO (fun x y => ltCue (f x) (f y)) := by
 constructor
 ·intro x y h
  rw [← Bool.not_eq_true]
  rw [ltCue_iff] at h ⊢
  omega
 ·intro x y z h1 h2
  rw [← Bool.not_eq_true] at h1 h2 ⊢
  rw [ltCue_iff] at h1 h2 ⊢
  obtain ⟨px, px'⟩ := hp _ (hf x)
  obtain ⟨py, py'⟩ := hp _ (hf y)
  obtain ⟨pz, pz'⟩ := hp _ (hf z)
  generalize f x = X at *
  generalize f y = Y at *
  generalize f z = Z at *
  -- X ≤ Y ≤ Z
  have a1 : X.f0.f0 * Y.f0.f1 ≤ Y.f0.f0 * X.f0.f1 := by omega
  have a2 : Y.f0.f0 * Z.f0.f1 ≤ Z.f0.f0 * Y.f0.f1 := by omega
  have a3 := frac_lt px py pz a1 a2
  intro hc
  have a4 : X.f0.f0 * Z.f0.f1 = Z.f0.f0 * X.f0.f1 ∧ Z.f1.f0 * X.f1.f1 < X.f1.f0 * Z.f1.f1 := by omega
  -- equal starts: Y's is equal, too
  have b1 := frac_lt pz px py (show Z.f0.f0 * X.f0.f1 ≤ X.f0.f0 * Z.f0.f1 by omega) a1
  have b2 := frac_lt py pz px a2 (show Z.f0.f0 * X.f0.f1 ≤ X.f0.f0 * Z.f0.f1 by omega)
  have c1 : X.f1.f0 * Y.f1.f1 ≤ Y.f1.f0 * X.f1.f1 := by omega
  have c2 : Y.f1.f0 * Z.f1.f1 ≤ Z.f1.f0 * Y.f1.f1 := by omega
  have c3 := frac_lt px' py' pz' c1 c2
  omega
end SK
namespace SK
open Go.Shelf Go.Lib
structure El {A : Type} (d : Kd A) (w : World) (base : Nat) (okt : Nat → Nat → Prop) (t : List A) where
 x : A
 cs : List Value
 tag : Nat
 mem : x ∈ t
 m : d.M w base (okt tag) x cs
theorem map_of_getElem? {α β : Type} (L : List α) (M : List β) (f : α → β) (hl : L.length = M.length) (h : ∀ (j : Nat) (x : α), L[j]? = some x → M[j]? = some (f x)) : L.map f = M := by
 apply List.ext_getElem?
 intro j
 rw [List.getElem?_map]
 cases e : L[j]? with
 | none =>
  rw [List.getElem?_eq_none_iff] at e
  simp [List.getElem?_eq_none_iff.2 (show M.length ≤ j by omega)]
 | some x => rw [h j x e]; rfl
theorem S_elems {A : Type} {d : Kd A} {e : Nat} {w : World} {base : Nat} {ok : Nat → Prop} {v : Value} {t : List A} (h : Kd.S d e w base ok v t) (hne : t ≠ []) :
  ∃ (f : Nat → Nat) (g cap : Nat) (tail : List Value) (L : List (El d w base (fun j k => (ok k ∧ k ≠ g) ∧ f k = j) t)), v = .slice (some ⟨g, 0, none⟩) t.length cap ∧ base ≤ g ∧ ok g ∧ t.length ≤ cap ∧ cap ≤ maxLen ∧
   t.length * d.sz + tail.length = cap * d.sz ∧ w.heap[g]? = some (.cells (L.flatMap (·.cs) ++ tail).toArray e (0, 0)) ∧ L.map (·.x) = t ∧ L.map (·.tag) = List.range t.length := by
 obtain ⟨f, h0, inner, ho, hr⟩ := h
 rw [List.length_zipIdx] at ho
 have hn0 : t.length ≠ 0 := fun hz => hne (List.eq_nil_of_length_eq_zero hz)
 obtain ⟨hil, ho⟩ := ho
 rcases ho with ⟨_, hz⟩ | ⟨g, cap, cur, rfl, hg, hh, hnc, hcm, hcs, htk⟩
 ·exact absurd hz hn0
 have hown : (Value.slice (some ⟨g, 0, none⟩) t.length cap).ownBlock = some g := rfl
 obtain ⟨hr1, hr2⟩ := hr
 obtain ⟨L, hL, hQ⟩ := exists_list (α := El d w base (fun j k => (ok k ∧ k ≠ g) ∧ f k = j) t) (fun j el => t[j]? = some el.x ∧ el.tag = j ∧ el.cs = (inner.drop (j * d.sz)).take d.sz) t.length (fun j hj => by
  have hp := hr2 j (t[j], j) (Kd.zip_at (List.getElem?_eq_getElem hj))
  exact ⟨⟨t[j], (inner.drop (j * d.sz)).take d.sz, j, List.getElem_mem hj, d.M_mono (fun k hk => ⟨⟨hk.1.1, fun e => hk.1.2 (by rw [hown, e])⟩, hk.2⟩) hp⟩, List.getElem?_eq_getElem hj, rfl, rfl⟩)
 have hfl : inner = L.flatMap (·.cs) := flat_of_chunks (·.cs) d.sz (fun x => d.K_len (d.K_of_M x.m)) L inner (by rw [hil, hL]; rfl) (fun j x hj => (hQ j x hj).2.2.symm)
 refine ⟨f, g, cap, cur.toList.drop (t.length * d.sz), L, rfl, hg, h0 g rfl, hnc, hcm, ?_, ?_, ?_, ?_⟩
 ·have : t.length * d.sz ≤ cap * d.sz := Nat.mul_le_mul_right _ hnc
  rw [List.length_drop, show cur.toList.length = cap * d.sz from hcs]; omega
 ·rw [hh, ← hfl, ← htk]
  congr 2
  exact congrArg List.toArray (List.take_append_drop _ _).symm
 ·exact map_of_getElem? L t _ hL (fun j x hj => (hQ j x hj).1)
 ·exact map_of_getElem? L _ _ (by simp [hL]) (fun j x hj => by
   have hlt := (List.getElem?_eq_some_iff.1 hj).1
   rw [(hQ j x hj).2.1, List.getElem?_range (by omega)])
theorem S_rebuild {A : Type} {d : Kd A} {e : Nat} {w W : World} {base : Nat} {ok : Nat → Prop} {t : List A} {f : Nat → Nat} {g cap : Nat} {tail : List Value}
  (L : List (El d w base (fun j k => (ok k ∧ k ≠ g) ∧ f k = j) t)) (hn : (L.map (·.tag)).Nodup) (hl : L.length = t.length) (hg : base ≤ g) (hok : ok g) (hnc : t.length ≤ cap) (hcm : cap ≤ maxLen) (htl : t.length * d.sz + tail.length = cap * d.sz)
  (hW : SWB (·.cs) g e tail w L W) : Kd.S d e W base ok (.slice (some ⟨g, 0, none⟩) t.length cap) (L.map (·.x)) := by
 have hk : ∀ x : El d w base (fun j k => (ok k ∧ k ≠ g) ∧ f k = j) t, x.cs.length = d.sz := fun x => d.K_len (d.K_of_M x.m)
 have hfl : (L.flatMap (·.cs)).length = t.length * d.sz := by rw [flat_len (enc := fun x : El d w base (fun j k => (ok k ∧ k ≠ g) ∧ f k = j) t => x.cs) hk, hl]
 refine ⟨fun k => (L.map (·.tag)).idxOf (f k), fun k hk => ?_, L.flatMap (·.cs), ?_, ?_, ?_⟩
 ·have : g = k := by simpa [Value.ownBlock] using hk
  exact this ▸ hok
 ·rw [List.length_zipIdx, List.length_map, hl]
  refine ⟨hfl, .inr ⟨g, cap, _, rfl, hg, hW.row, hnc, hcm, ?_, ?_⟩⟩
  ·show (L.flatMap (·.cs) ++ tail).toArray.size = cap * d.sz
   rw [List.size_toArray, List.length_append, hfl]; exact htl
  ·show (L.flatMap (·.cs) ++ tail).toArray.toList.take (t.length * d.sz) = _
   rw [List.take_left' hfl]
 ·rw [List.length_zipIdx, List.length_map, hl]; exact hfl
 ·intro j p hj
  rw [List.getElem?_zipIdx] at hj
  cases hx : (L.map (·.x))[j]? with
  | none => rw [hx] at hj; simp at hj
  | some x =>
   rw [hx] at hj
   simp at hj
   subst hj
   rw [List.getElem?_map] at hx
   cases hy : L[j]? with
   | none => rw [hy] at hx; simp at hx
   | some el =>
    rw [hy] at hx
    simp at hx
    subst hx
    have hc := chunk_of_flat (fun x : El d w base (fun j k => (ok k ∧ k ≠ g) ∧ f k = j) t => x.cs) d.sz hk L j el hy
    show d.M W base (fun k => (ok k ∧ some k ≠ (Value.slice (some ⟨g, 0, none⟩) t.length cap).ownBlock) ∧ (L.map (·.tag)).idxOf (f k) = j) el.x (((L.flatMap (·.cs)).drop (j * d.sz)).take d.sz)
    rw [hc]
    refine Kd.M_step (d.M_mono (fun k hk => ⟨⟨hk.1.1, fun e => hk.1.2 (by simpa [Value.ownBlock] using e)⟩, ?_⟩) el.m) (fun k hk hlt => hW.grown.block k hlt (fun e => hk.1.2 (by simpa [Value.ownBlock] using e)))
    rw [hk.2]
    have hlt : j < (L.map (·.tag)).length := by rw [List.length_map]; exact (List.getElem?_eq_some_iff.1 hy).1
    have hget : (L.map (·.tag))[j] = el.tag := by
     rw [List.getElem_map]
     exact congrArg El.tag (Option.some.inj ((List.getElem?_eq_getElem (by simpa using hlt)).symm.trans hy))
    rw [← hget]
    exact hn.idxOf_getElem j hlt
end SK
namespace SK
open Go.Shelf Go.Lib
theorem compare_El {w W : World} {base base' : Nat} {okx oky : Nat → Prop} {x y : S38} {cx cy : List Value} (mx : k38.M w base okx x cx) (my : k38.M w base' oky y cy) (h : pairOK x y = true) :
  Calls Try.prog 15 #[.agg cx.toArray, .agg cy.toArray] W fun e w' => e = .returned (.int .i64 (cmpCue x y)) ∧ Below W.heap.size W w' := by
 obtain ⟨v, rfl, hv⟩ := k38_openM mx
 obtain ⟨u, rfl, hu⟩ := k38_openM my
 obtain ⟨A, c, rfl⟩ := Kd.R_slice hv
 obtain ⟨B, c2, rfl⟩ := Kd.R_slice hu
 refine cue_Compare.callsV _ _ _ _ _ _ _ _ _ _ _ _ _ _ _ _ _ _ _ _ _ _ (cmpCue x y) W ?_
 unfold pairOK at h
 rw [Bool.and_eq_true, decide_eq_true_iff, decide_eq_true_iff] at h
 unfold cue_Compare.f cmpCue
 rw [h.1, Option.bind_some]
 split
 ·rw [h.2]; rfl
 ·rfl
theorem cuesOK_pair {t : List S38} (h : cuesOK t = true) {x y : S38} (hx : x ∈ t) (hy : y ∈ t) : pairOK x y = true := by
 unfold cuesOK at h
 have := List.all_eq_true.1 h x hx
 simp only [Bool.and_eq_true] at this
 exact List.all_eq_true.1 this.2.2 y hy
theorem cuesOK_den {t : List S38} (h : cuesOK t = true) {x : S38} (hx : x ∈ t) : 0 < x.f0.f1 ∧ 0 < x.f1.f1 := by
 unfold cuesOK at h
 have := List.all_eq_true.1 h x hx
 simp only [Bool.and_eq_true, decide_eq_true_iff] at this
 exact ⟨this.1, this.2.1⟩
theorem sort_cues {w : World} {base : Nat} {ok : Nat → Prop} {v : Value} {t : List S38} (h : Kd.S k38 38 w base ok v t) (hc : cuesOK t = true) (hn : t.length ≤ 140737488355328) :
  Calls Try.prog 42 #[v, .func (.func 15) #[] #[]] w fun e w' => e = .returned (.tuple #[]) ∧ Kd.S k38 38 w' base ok v (isort ltCue t) ∧ ∀ w0 : World, Below w0.heap.size w0 w → w0.heap.size ≤ base → Below w0.heap.size w0 w' := by
 by_cases hne : t = []
 ·subst hne
  obtain ⟨A, c, rfl⟩ := Kd.R_slice (Kd.S_R h)
  refine (sortStable_none 9 tf Try.func42 Try.func55 Try.func66 A c _ w).mono ?_
  rintro e w' ⟨rfl, rfl⟩
  exact ⟨rfl, h, fun w0 hb _ => hb⟩
 ·obtain ⟨f, g, cap, tail, L, rfl, hg, hok, hnc, hcm, htl, hrow, hx, htag⟩ := S_elems h hne
  have hlen : L.length = t.length := by have hz := congrArg List.length hx; rwa [List.length_map] at hz
  have hS : SWB (fun x : El k38 w base (fun j k => (ok k ∧ k ≠ g) ∧ f k = j) t => x.cs) g 38 tail w L w := ⟨hrow, ⟨rfl, rfl, rfl, Nat.le_refl _, fun _ _ _ => rfl⟩⟩
  have hswo : SWO (ltc fun x y : El k38 w base (fun j k => (ok k ∧ k ≠ g) ∧ f k = j) t => cmpCue x.x y.x) := ltCue_swo (· ∈ t) (fun x hx => cuesOK_den hc hx) (fun x : El k38 w base (fun j k => (ok k ∧ k ≠ g) ∧ f k = j) t => x.x) (fun x => x.mem)
  refine (sortStable_calls 9 tf Try.func42 Try.func55 Try.func66 Try.func67 Try.func77 Try.func83 (fun x : El k38 w base (fun j k => (ok k ∧ k ≠ g) ∧ f k = j) t => x.cs) (fun x => k38.K_len (k38.K_of_M x.m)) (fun x => k38.K_one (k38.K_of_M x.m))
   (fun x y => cmpCue x.x y.x) hswo 15 (enters_k Try.func15 (by kernel_rfl) rfl) (fun x y W => compare_El x.m y.m (cuesOK_pair hc x.mem y.mem)) g 0 cap t.length rfl tail w (by omega) L w hS hlen hn).mono ?_
  rintro e w' ⟨rfl, S2⟩
  have hp := isort_perm (lt := ltc fun x y : El k38 w base (fun j k => (ok k ∧ k ≠ g) ∧ f k = j) t => cmpCue x.x y.x) L
  have hm : (isort (ltc fun x y : El k38 w base (fun j k => (ok k ∧ k ≠ g) ∧ f k = j) t => cmpCue x.x y.x) L).map (·.x) = isort ltCue t :=
   (isort_map (lt := ltc fun x y : El k38 w base (fun j k => (ok k ∧ k ≠ g) ∧ f k = j) t => cmpCue x.x y.x) (lt' := ltCue) (fun x => x.x) (fun x y => rfl) L).symm.trans (congrArg (isort ltCue) hx)
  refine ⟨rfl, ?_, fun w0 hb hle => ⟨S2.grown.os.trans hb.os, S2.grown.tape.trans hb.tape, S2.grown.output.trans hb.output, Nat.le_trans hb.size S2.grown.size, fun i hi => (S2.grown.block i (Nat.lt_of_lt_of_le hi hb.size) (fun e => by injection e with e; omega)).trans (hb.block i hi)⟩⟩
  rw [← hm]
  exact S_rebuild _ ((hp.map (·.tag)).nodup_iff.2 (htag ▸ List.nodup_range)) (by rw [isort_length, hlen]) hg hok hnc hcm htl S2
end SK
end Go.Proofs.Ytlbicmdfdpcdiaa.PDa
