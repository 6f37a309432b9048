-- Written by programs of this session's (wip/printer) out of the translation and of the print's words; Lean checks it.
import Derived.Test.YtbpifnpljcgjlaaLxPLxx0
import Derived.Test.YtbpifnpljcgjlaaLxPLxx4
import Derived.Test.YtbpifnpljcgjlaaLxPLxx11
namespace Go.Proofs.Ytbpifnpljcgjlaa.PLx
open Go.RowKit Go.Proofs.YtbpifnpljcgjlaaW.PrintWords Go.Proofs.YtbpifnpljcgjlaaW.PrintLast Go.Proofs.YtbpifnpljcgjlaaW.PrintMore
attribute [local go_sem] max2_int min2_int max_two min_two max_three min_three max_four min_four   -- for this text's walks alone
set_option linter.unusedVariables false
set_option linter.unusedSimpArgs false
mutual
def lane_free_int.l0 : Nat → Int → Int → List Int → Int → Int → Option (Int × Bool)
 | 0, _, _, _, _, _ => none
 | k + 1, x1, x2, x3, x12, x13 => if x13 < x2 then (lane_free_int.l1 k x1 x2 x3 x12 x13 false x3 (x3.length : Int) 0) else (some (0, false))
def lane_free_int.l1 : Nat → Int → Int → List Int → Int → Int → Bool → List Int → Int → Int → Option (Int × Bool)
 | 0, _, _, _, _, _, _, _, _, _ => none
 | k + 1, x1, x2, x3, x12, x13, x14, x26, x27, x28 => if x28 < x27 then (if 0 ≤ x28 then (if x28 < (x26.length : Int) then ((lane_Lanes_1.f (rd x26 x28) x12).bind fun t249 => (if t249 = true then (lane_free_int.l0 k x1 x2 x3 (wrap64 (x12 + x1)) (wrap64 (x13 + 1))) else (lane_free_int.l1 k x1 x2 x3 x12 x13 x14 x26 x27 (wrap64 (x28 + 1))))) else (none)) else (none)) else (if x14 = true then (lane_free_int.l0 k x1 x2 x3 (wrap64 (x12 + x1)) (wrap64 (x13 + 1))) else (some (x12, true)))
end
def lane_free_int.f (k : Nat) (a0 : Int) (a1 : Int) (a2 : Int) (l3 : List Int)  : Option (Int × Bool) := lane_free_int.l0 k a1 a2 l3 a0 0
theorem lane_free_int.mono_l : ∀ k, (∀ y0 y1 y2 y3 y4, LeO (lane_free_int.l0 k y0 y1 y2 y3 y4) (lane_free_int.l0 (k + 1) y0 y1 y2 y3 y4)) ∧ (∀ y0 y1 y2 y3 y4 y5 y6 y7 y8, LeO (lane_free_int.l1 k y0 y1 y2 y3 y4 y5 y6 y7 y8) (lane_free_int.l1 (k + 1) y0 y1 y2 y3 y4 y5 y6 y7 y8))
 | 0 => ⟨fun _ _ _ _ _ r h => by simp [lane_free_int.l0] at h, fun _ _ _ _ _ _ _ _ _ r h => by simp [lane_free_int.l1] at h⟩
 | k + 1 => by
  obtain ⟨ih0, ih1⟩ := lane_free_int.mono_l k
  refine ⟨?_, ?_⟩
  ·intro y0 y1 y2 y3 y4
   unfold lane_free_int.l0
   repeat' first
   | (with_reducible exact ih0 _ _ _ _ _)
   | (with_reducible exact ih1 _ _ _ _ _ _ _ _ _)
   | (with_reducible exact LeO.refl _)
   | (with_reducible exact LeO.none _)
   | (with_reducible refine LeO.ite ?_ ?_)
   | (with_reducible refine LeO.bind ?_ (fun _ => ?_))
   | exact ih0 _ _ _ _ _
   | exact ih1 _ _ _ _ _ _ _ _ _
   | exact LeO.none _
   | refine LeO.ite ?_ ?_
   | refine LeO.bind ?_ (fun _ => ?_)
  ·intro y0 y1 y2 y3 y4 y5 y6 y7 y8
   unfold lane_free_int.l1
   repeat' first
   | (with_reducible exact ih0 _ _ _ _ _)
   | (with_reducible exact ih1 _ _ _ _ _ _ _ _ _)
   | (with_reducible exact LeO.refl _)
   | (with_reducible exact LeO.none _)
   | (with_reducible refine LeO.ite ?_ ?_)
   | (with_reducible refine LeO.bind ?_ (fun _ => ?_))
   | exact ih0 _ _ _ _ _
   | exact ih1 _ _ _ _ _ _ _ _ _
   | exact LeO.none _
   | refine LeO.ite ?_ ?_
   | refine LeO.bind ?_ (fun _ => ?_)
theorem lane_free_int.mono : ∀ a0 a1 a2 a3 k, LeO (lane_free_int.f k a0 a1 a2 a3) (lane_free_int.f (k + 1) a0 a1 a2 a3) := by
 intro a0 a1 a2 a3 k
 obtain ⟨ih0, ih1⟩ := lane_free_int.mono_l k
 unfold lane_free_int.f
 repeat' first
   | (with_reducible exact ih0 _ _ _ _ _)
   | (with_reducible exact ih1 _ _ _ _ _ _ _ _ _)
   | (with_reducible exact LeO.refl _)
   | (with_reducible exact LeO.none _)
   | (with_reducible refine LeO.ite ?_ ?_)
   | (with_reducible refine LeO.bind ?_ (fun _ => ?_))
   | exact ih0 _ _ _ _ _
   | exact ih1 _ _ _ _ _ _ _ _ _
   | exact LeO.none _
   | refine LeO.ite ?_ ?_
   | refine LeO.bind ?_ (fun _ => ?_)
set_option maxHeartbeats 8000000 in
set_option maxRecDepth 100000 in
theorem lane_free_int.calls (k : Nat) (a0 : Int) (a1 : Int) (a2 : Int) (A3 : Option Addr) (c3 : Nat) (l3 : List Int)  (r1 : Int) (r2 : Bool) (w : World) (hr3 : Kd.C (Kd.int .i64) w A3 l3.length l3) (hc3 : l3.length ≤ c3) (h : lane_free_int.f k a0 a1 a2 l3 = some (r1, r2)) :
  Calls Try.prog 25 #[.int .i64 a0, .int .i64 a1, .int .i64 a2, .slice A3 l3.length c3, .func (.func 26) #[] #[]] w fun e w' => e = .returned (.tuple #[.int .i64 r1, .bool r2]) ∧ Drawn0 w w' := by
 have HR3 := Aside0.mk hr3
 have HC3 := Aside0.mk hc3
 clear hr3 hc3
 have H : (lane_free_int.l0 k a1 a2 l3 a0 0) = some (r1, r2) := h
 clear h
 have H' := Aside0.mk H
 clear H
 go_enter Try.func25, Try.ntmps25
 go_wp2
 (try simp only [Act.put, List.setIfInBounds_toArray, List.set_cons_zero, List.set_cons_succ])
 go_loopg [12, 13] k (fun kq v12 v13 w' => ∃ (x12_1 : Int) (x13_1 : Int), v12 = .int .i64 x12_1 ∧ v13 = .int .i64 x13_1 ∧ Aside0 (lane_free_int.l0 kq a1 a2 l3 x12_1 x13_1 = some (r1, r2)) ∧ Aside0 (kq ≤ k) ∧ Drawn0 w w')
 case atStart => exact ⟨(a0), (0), (by first | rfl | (simp; done) | (simp [*]; done)), (by first | rfl | (simp; done) | (simp [*]; done)), H', ⟨Nat.le_refl _⟩, by repeat (first | exact Drawn0.refl _ | apply Drawn0.step)⟩
 case round =>
  clear H'
  try clear c2
  try clear p2
  try clear c3
  obtain ⟨x12_1, x13_1, rfl, rfl, HA, HK1, ⟨m1, rfl⟩⟩ := hrel
  cases gk with
  | zero => exact absurd HA.out (by simp [lane_free_int.l0])
  | succ k1 =>
   have H := HA.out
   clear HA
   simp only [lane_free_int.l0] at H
   by_cases c6 : x13_1 < a2
   ·rw [if_pos c6] at H
    have c6b0 : decide (x13_1 < a2) = true := decide_eq_true c6
    clear c6
    have H' := Aside0.mk H
    clear H
    go_wp2
    (try simp only [Act.put, List.setIfInBounds_toArray, List.set_cons_zero, List.set_cons_succ])
    go_loopg [14, 28] k1 (fun kq v14 v28 w' => ∃ (x14_2 : Bool) (x28_2 : Int), v14 = .bool x14_2 ∧ v28 = .int .i64 x28_2 ∧ Aside0 (lane_free_int.l1 kq a1 a2 l3 x12_1 x13_1 x14_2 l3 (l3.length : Int) x28_2 = some (r1, r2)) ∧ Aside0 (kq ≤ k1) ∧ Drawn0 w w')
    case atStart => exact ⟨(false), (0), (by first | rfl | (simp; done) | (simp [*]; done)), (by first | rfl | (simp; done) | (simp [*]; done)), H', ⟨Nat.le_refl _⟩, by repeat (first | exact Drawn0.refl _ | apply Drawn0.step)⟩
    case round =>
     clear H'
     try clear c2
     try clear p2
     try clear c3
     try clear c6
     try clear c6b0
     try clear p2
     obtain ⟨x14_2, x28_2, rfl, rfl, HA, HK2, ⟨m2, rfl⟩⟩ := hrel
     cases gk with
     | zero => exact absurd HA.out (by simp [lane_free_int.l1])
     | succ k2 =>
      have H := HA.out
      clear HA
      simp only [lane_free_int.l1] at H
      by_cases c7 : x28_2 < (l3.length : Int)
      ·rw [if_pos c7] at H
       have c7b0 : decide (x28_2 < (l3.length : Int)) = true := decide_eq_true c7
       clear c7
       by_cases c8 : 0 ≤ x28_2
       ·rw [if_pos c8] at H
        have c8b0 : decide (0 ≤ x28_2) = true := decide_eq_true c8
        clear c8
        by_cases c9 : x28_2 < (l3.length : Int)
        ·rw [if_pos c9] at H
         have c9b0 : decide (x28_2 < (l3.length : Int)) = true := decide_eq_true c9
         clear c9
         replace H := Option.bind_eq_some_iff.mp H
         obtain ⟨t249, A100, H⟩ := H
         (try dsimp only at H)
         have A10 := Aside0.mk A100
         clear A100
         by_cases c11 : t249 = true
         ·subst c11
          have H1 : (lane_free_int.l0 k2 a1 a2 l3 (wrap64 (x12_1 + a1)) (wrap64 (x13_1 + 1))) = some (r1, r2) := by rw [if_pos rfl] at H; exact H
          clear H
          have H := H1
          clear H1
          have H' := Aside0.mk H
          clear H
          have p248 : 0 ≤ (x28_2 : Int) := of_decide_eq_true (by first | (with_reducible assumption) | assumption)
          have q248 : x28_2 < (l3.length : Int) := of_decide_eq_true (by first | (with_reducible assumption) | assumption)
          obtain ⟨ad248, e248, hx248_0⟩ := Kd.at_int HR3.out x28_2 p248 q248
          cases e248
          replace p248 := eq_true p248
          replace q248 := eq_true q248
          go_wp2_with (first | (go_at_call 26; (with_reducible refine (lane_Lanes_1.calls (rd l3 x28_2) x12_1 true _ A10.out).mono ?_); rintro e w' ⟨rfl, ⟨nd, rfl⟩⟩))
          go_roundg k2
          case measure => have := HK1.out; have := HK2.out; omega
          case rel => exact ⟨(wrap64 (x12_1 + a1)), (wrap64 (x13_1 + 1)), (by first | rfl | (simp; done) | (simp [*]; done)), (by first | rfl | (simp; done) | (simp [*]; done)), H', ⟨by have := HK1.out; have := HK2.out; omega⟩, by repeat (first | exact Drawn0.refl _ | apply Drawn0.step)⟩
         ·replace c11 := Bool.eq_false_iff.mpr c11
          subst c11
          have H1 : (lane_free_int.l1 k2 a1 a2 l3 x12_1 x13_1 x14_2 l3 (l3.length : Int) (wrap64 (x28_2 + 1))) = some (r1, r2) := by rw [if_neg (show ¬ (false = true) by decide)] at H; exact H
          clear H
          have H := H1
          clear H1
          have H' := Aside0.mk H
          clear H
          have p248 : 0 ≤ (x28_2 : Int) := of_decide_eq_true (by first | (with_reducible assumption) | assumption)
          have q248 : x28_2 < (l3.length : Int) := of_decide_eq_true (by first | (with_reducible assumption) | assumption)
          obtain ⟨ad248, e248, hx248_0⟩ := Kd.at_int HR3.out x28_2 p248 q248
          cases e248
          replace p248 := eq_true p248
          replace q248 := eq_true q248
          go_wp2_with (first | (go_at_call 26; (with_reducible refine (lane_Lanes_1.calls (rd l3 x28_2) x12_1 false _ A10.out).mono ?_); rintro e w' ⟨rfl, ⟨nd, rfl⟩⟩))
          go_roundg k2
          case measure => have := HK1.out; have := HK2.out; omega
          case rel => exact ⟨(x14_2), (wrap64 (x28_2 + 1)), (by first | rfl | (simp; done) | (simp [*]; done)), (by first | rfl | (simp; done) | (simp [*]; done)), H', ⟨by have := HK1.out; have := HK2.out; omega⟩, by repeat (first | exact Drawn0.refl _ | apply Drawn0.step)⟩
        ·rw [if_neg c9] at H
         exact absurd H (by simp)
       ·rw [if_neg c8] at H
        exact absurd H (by simp)
      ·rw [if_neg c7] at H
       have c7b0 : decide (x28_2 < (l3.length : Int)) = false := decide_eq_false c7
       clear c7
       by_cases c12 : x14_2 = true
       ·subst c12
        have H1 : (lane_free_int.l0 k2 a1 a2 l3 (wrap64 (x12_1 + a1)) (wrap64 (x13_1 + 1))) = some (r1, r2) := by rw [if_pos rfl] at H; exact H
        clear H
        have H := H1
        clear H1
        have H' := Aside0.mk H
        clear H
        go_wp2
        go_roundg k2
        case measure => have := HK1.out; have := HK2.out; omega
        case rel => exact ⟨(wrap64 (x12_1 + a1)), (wrap64 (x13_1 + 1)), (by first | rfl | (simp; done) | (simp [*]; done)), (by first | rfl | (simp; done) | (simp [*]; done)), H', ⟨by have := HK1.out; have := HK2.out; omega⟩, by repeat (first | exact Drawn0.refl _ | apply Drawn0.step)⟩
       ·replace c12 := Bool.eq_false_iff.mpr c12
        subst c12
        have H1 : (some (x12_1, true)) = some (r1, r2) := by rw [if_neg (show ¬ (false = true) by decide)] at H; exact H
        clear H
        have H := H1
        clear H1
        simp only [Option.some.injEq, Prod.mk.injEq] at H
        obtain ⟨rfl, rfl⟩ := H
        go_wp2
        go_ret2
        exact ⟨by first | rfl | (simp; done) | (simp [*]; done), by repeat (first | exact Drawn0.refl _ | apply Drawn0.step)⟩
   ·rw [if_neg c6] at H
    have c6b0 : decide (x13_1 < a2) = false := decide_eq_false c6
    clear c6
    simp only [Option.some.injEq, Prod.mk.injEq] at H
    obtain ⟨rfl, rfl⟩ := H
    go_wp2
    go_ret2
    exact ⟨by first | rfl | (simp; done) | (simp [*]; done), by repeat (first | exact Drawn0.refl _ | apply Drawn0.step)⟩
mutual
def lane_Lanes.l0 : Nat → List Int → Int → List (S41) → Int → Int → List (S41) → Option (List Int × Int × Option (Int × Int))
 | 0, _, _, _, _, _, _ => none
 | k + 1, x6, x7, x23, x24, x25, x251000 => if x25 < x24 then (if 0 ≤ x25 then (if x25 < (x23.length : Int) then (lane_Lanes.l1 k x6 x7 x25 ([] : List Int) x23 x24 x25 x25 0 x251000 ((rd_T41 x23 x25).f0.f0) ((rd_T41 x23 x25).f0.f1) ((rd_T41 x23 x25).f1.f0) ((rd_T41 x23 x25).f1.f1) ((rd_T41 x23 x25).f2) ((rd_T41 x23 x25).f3) ((rd_T41 x23 x25).f4) ((rd_T41 x23 x25).f5.f0) ((rd_T41 x23 x25).f5.f1)) else (none)) else (none)) else (some (x6, x7, none))
def lane_Lanes.l1 : Nat → List Int → Int → Int → List Int → List (S41) → Int → Int → Int → Int → List (S41) → Int → Int → Int → Int → Int → Int → ByteArray → ByteArray → List (S62) → Option (List Int × Int × Option (Int × Int))
 | 0, _, _, _, _, _, _, _, _, _, _, _, _, _, _, _, _, _, _, _ => none
 | k + 1, x6, x7, x8, x10, x23, x24, x25, x30, x31, x251000, x260000, x260001, x260002, x260003, x260004, x260005, x260006, x260007, x260008 => if x31 < x30 then (if 0 ≤ x31 then (if x31 < (x251000.length : Int) then (if ((rd_T41 x251000 x31).f3) = x260005 then ((ratio_Cmp.f ((rd_T41 x251000 x31).f1.f0) ((rd_T41 x251000 x31).f1.f1) x260000 x260001).bind fun t262 => (if t262 > 0 then (if x31 < (x6.length : Int) then (if x10.length < 17592186044416 then (lane_Lanes.l1 k x6 x7 x8 (x10 ++ [rd x6 x31]) x23 x24 x25 x30 (wrap64 (x31 + 1)) x251000 x260000 x260001 x260002 x260003 x260004 x260005 x260006 x260007 x260008) else (none)) else (none)) else (lane_Lanes.l1 k x6 x7 x8 x10 x23 x24 x25 x30 (wrap64 (x31 + 1)) x251000 x260000 x260001 x260002 x260003 x260004 x260005 x260006 x260007 x260008))) else (lane_Lanes.l1 k x6 x7 x8 x10 x23 x24 x25 x30 (wrap64 (x31 + 1)) x251000 x260000 x260001 x260002 x260003 x260004 x260005 x260006 x260007 x260008)) else (none)) else (none)) else ((lane_free_int.f k 0 1 (wrap64 ((x10.length : Int) + 1)) x10).bind fun bt267 => (if 0 ≤ x8 then (if x8 < (x6.length : Int) then ((some (x6.set (x8 : Int).toNat bt267.1 : List Int)).bind fun y269 => (lane_Lanes.l0 k y269 (mx x7 (wrap64 ((rd y269 x8) + 1))) x23 x24 (wrap64 (x25 + 1)) x251000)) else (none)) else (none)))
end
def lane_Lanes.f (k : Nat) (l0_0 : List (S41)) : Option (List Int × Int × Option (Int × Int)) := (cue_CheckDoc.f k l0_0).bind fun t251 => (if t251.isNone = true then (if 0 ≤ (l0_0.length : Int) then (if ((l0_0.length : Int) : Int).toNat ≤ 35184372088832 then (lane_Lanes.l0 k (List.replicate ((l0_0.length : Int) : Int).toNat 0) 0 l0_0 (l0_0.length : Int) 0 l0_0) else (none)) else (none)) else (some (([] : List Int), 0, some (t251.getD (0, 0)))))
theorem lane_Lanes.mono_l : ∀ k, (∀ y0 y1 y2 y3 y4 y5, LeO (lane_Lanes.l0 k y0 y1 y2 y3 y4 y5) (lane_Lanes.l0 (k + 1) y0 y1 y2 y3 y4 y5)) ∧ (∀ y0 y1 y2 y3 y4 y5 y6 y7 y8 y9 y10 y11 y12 y13 y14 y15 y16 y17 y18, LeO (lane_Lanes.l1 k y0 y1 y2 y3 y4 y5 y6 y7 y8 y9 y10 y11 y12 y13 y14 y15 y16 y17 y18) (lane_Lanes.l1 (k + 1) y0 y1 y2 y3 y4 y5 y6 y7 y8 y9 y10 y11 y12 y13 y14 y15 y16 y17 y18))
 | 0 => ⟨fun _ _ _ _ _ _ r h => by simp [lane_Lanes.l0] at h, fun _ _ _ _ _ _ _ _ _ _ _ _ _ _ _ _ _ _ _ r h => by simp [lane_Lanes.l1] at h⟩
 | k + 1 => by
  obtain ⟨ih0, ih1⟩ := lane_Lanes.mono_l k
  refine ⟨?_, ?_⟩
  ·intro y0 y1 y2 y3 y4 y5
   unfold lane_Lanes.l0
   repeat' first
   | (with_reducible exact ih0 _ _ _ _ _ _)
   | (with_reducible exact ih1 _ _ _ _ _ _ _ _ _ _ _ _ _ _ _ _ _ _ _)
   | (with_reducible exact cue_CheckDoc.mono _ _)
   | (with_reducible exact lane_free_int.mono _ _ _ _ _)
   | (with_reducible exact LeO.refl _)
   | (with_reducible exact LeO.none _)
   | (with_reducible refine LeO.ite ?_ ?_)
   | (with_reducible refine LeO.bind ?_ (fun _ => ?_))
   | exact ih0 _ _ _ _ _ _
   | exact ih1 _ _ _ _ _ _ _ _ _ _ _ _ _ _ _ _ _ _ _
   | exact cue_CheckDoc.mono _ _
   | exact lane_free_int.mono _ _ _ _ _
   | exact LeO.none _
   | refine LeO.ite ?_ ?_
   | refine LeO.bind ?_ (fun _ => ?_)
  ·intro y0 y1 y2 y3 y4 y5 y6 y7 y8 y9 y10 y11 y12 y13 y14 y15 y16 y17 y18
   unfold lane_Lanes.l1
   repeat' first
   | (with_reducible exact ih0 _ _ _ _ _ _)
   | (with_reducible exact ih1 _ _ _ _ _ _ _ _ _ _ _ _ _ _ _ _ _ _ _)
   | (with_reducible exact cue_CheckDoc.mono _ _)
   | (with_reducible exact lane_free_int.mono _ _ _ _ _)
   | (with_reducible exact LeO.refl _)
   | (with_reducible exact LeO.none _)
   | (with_reducible refine LeO.ite ?_ ?_)
   | (with_reducible refine LeO.bind ?_ (fun _ => ?_))
   | exact ih0 _ _ _ _ _ _
   | exact ih1 _ _ _ _ _ _ _ _ _ _ _ _ _ _ _ _ _ _ _
   | exact cue_CheckDoc.mono _ _
   | exact lane_free_int.mono _ _ _ _ _
   | exact LeO.none _
   | refine LeO.ite ?_ ?_
   | refine LeO.bind ?_ (fun _ => ?_)
theorem lane_Lanes.mono : ∀ a0 k, LeO (lane_Lanes.f k a0) (lane_Lanes.f (k + 1) a0) := by
 intro a0 k
 obtain ⟨ih0, ih1⟩ := lane_Lanes.mono_l k
 unfold lane_Lanes.f
 repeat' first
   | (with_reducible exact ih0 _ _ _ _ _ _)
   | (with_reducible exact ih1 _ _ _ _ _ _ _ _ _ _ _ _ _ _ _ _ _ _ _)
   | (with_reducible exact cue_CheckDoc.mono _ _)
   | (with_reducible exact lane_free_int.mono _ _ _ _ _)
   | (with_reducible exact LeO.refl _)
   | (with_reducible exact LeO.none _)
   | (with_reducible refine LeO.ite ?_ ?_)
   | (with_reducible refine LeO.bind ?_ (fun _ => ?_))
   | exact ih0 _ _ _ _ _ _
   | exact ih1 _ _ _ _ _ _ _ _ _ _ _ _ _ _ _ _ _ _ _
   | exact cue_CheckDoc.mono _ _
   | exact lane_free_int.mono _ _ _ _ _
   | exact LeO.none _
   | refine LeO.ite ?_ ?_
   | refine LeO.bind ?_ (fun _ => ?_)
set_option maxHeartbeats 8000000 in
set_option maxRecDepth 100000 in
theorem lane_Lanes.calls (k : Nat) (A0_0 : Option Addr) (c0_0 : Nat) (l0_0 : List (S41)) (r1 : List Int) (r2 : Int) (r3 : Option (Int × Int)) (w : World) (hr0_0 : Kd.C k41 w A0_0 l0_0.length l0_0) (hc0_0 : l0_0.length ≤ c0_0) (h : lane_Lanes.f k l0_0 = some (r1, r2, r3)) :
  Calls Try.prog 9 #[.agg #[.slice A0_0 l0_0.length c0_0]] w fun e w' => ∃ v0_ v2_ : Value, e = .returned (.tuple #[v0_, .int .i64 r2, v2_]) ∧ Kd.R (Kd.int .i64) 3 w' w.heap.size (fun _ => True) v0_ r1 ∧ EV v2_ r3 ∧ Below w.heap.size w w' := by
 have hu24 := Try.underlying24
 have hu41 := Try.underlying41
 have hu36 := Try.underlying36
 have hu27 := Try.underlying27
 have hu69 := Try.underlying69
 have HR0_0 := Aside0.mk hr0_0
 have HC0_0 := Aside0.mk hc0_0
 clear hr0_0 hc0_0
 have HB := Aside0.mk (Below.refl w.heap.size w)
 have H : ((cue_CheckDoc.f k l0_0).bind fun t251 => (if t251.isNone = true then (if 0 ≤ (l0_0.length : Int) then (if ((l0_0.length : Int) : Int).toNat ≤ 35184372088832 then (lane_Lanes.l0 k (List.replicate ((l0_0.length : Int) : Int).toNat 0) 0 l0_0 (l0_0.length : Int) 0 l0_0) else (none)) else (none)) else (some (([] : List Int), 0, some (t251.getD (0, 0)))))) = some (r1, r2, r3) := h
 clear h
 replace H := Option.bind_eq_some_iff.mp H
 obtain ⟨t251, A20, H⟩ := H
 (try dsimp only at H)
 have A2 := Aside0.mk A20
 clear A20
 rcases t251 with _ | q254
 ·rw [if_pos (show (none : Option (Int × Int)).isNone = true by rfl)] at H
  (try dsimp only [Option.getD] at H)
  (try (obtain rfl := EV_none HE253.out))
  by_cases c3 : 0 ≤ (l0_0.length : Int)
  ·rw [if_pos c3] at H
   have c3b0 := eq_true c3
   have c3b1 : decide (0 ≤ (l0_0.length : Int)) = true := decide_eq_true c3
   clear c3
   by_cases c4 : ((l0_0.length : Int) : Int).toNat ≤ 35184372088832
   ·rw [if_pos c4] at H
    have c4b0 := eq_true c4
    have c4b1 : decide (((l0_0.length : Int) : Int).toNat ≤ 35184372088832) = true := decide_eq_true c4
    clear c4
    obtain ⟨y255, hy255⟩ : ∃ y_ : List Int, y_ = (List.replicate ((l0_0.length : Int) : Int).toNat 0) := ⟨_, rfl⟩
    replace H : (lane_Lanes.l0 k y255 0 l0_0 (l0_0.length : Int) 0 l0_0) = some (r1, r2, r3) := by first | (rw [hy255]; with_reducible exact H) | (have H2_ := (Option.bind_some _ _).symm.trans H; rw [hy255]; with_reducible exact H2_) | (have H2_ := (Option.bind_some _ _).symm.trans H; with_reducible exact H2_) | with_reducible exact H | (rw [hy255]; exact H) | exact H
    have Ny255 := Aside0.mk hy255
    clear hy255
    have H' := Aside0.mk H
    clear H
    go_enter Try.func9, Try.ntmps9
    go_wp2_with (first | ((with_reducible refine gate_dst (N := 1) rfl ?_); refine box_event (by rfl) (N := 1) (by rfl) (cs := #[.slice A0_0 l0_0.length c0_0]) (t := 24) (by first | (go_simp; done) | (go_simp; rfl)) ?_; intro gb250 hg w5 hbox hb; obtain ⟨hb_, hw_⟩ := box_facts (by repeat (first | (with_reducible first | exact HB.out | apply l1 | apply l2 | apply l3) | exact HB.out)) hg hb; have n0_ := Aside0.mk (hb_); have n1_ := Aside0.mk (hbox); have n2_ := Aside0.mk (hw_); have n3_ := Aside0.mk (hw_); clear HB; have HB := n0_; have BK250 := n1_; have GW250 := n2_; have GE250 := n3_; clear n0_ n1_ n2_ n3_; clear hb hbox hg hb_ hw_; obtain ⟨hcz6_0, hfz6_0⟩ := blk_cells1 BK250.out) | ((with_reducible refine gate_callee (f := 13) rfl ?_); refine goesL_ (some 14) rfl rfl Try.func13 (by kernel_rfl) rfl #[.agg #[.slice A0_0 l0_0.length c0_0]] rfl (by (try simp only [List.map_toArray, List.map_cons, List.map_nil]); first | done | rfl | (simp only [List.length_drop, List.length_take]; rfl)) ?_; (with_reducible refine (cue_CheckDoc.calls k _ _ l0_0 none _ ?side1 ?side2 A2.out).mono ?_); (case side1 => repeat (first | exact (Kd.C_below HR0_0.out HB.out) | (with_reducible refine Kd.C_alloc ?_ _) | (with_reducible refine Kd.C_drewN ?_ _) | (with_reducible refine Kd.C_drew ?_))); (case side2 => exact HC0_0.out); rintro e w7 ⟨v252, rfl, he0, hb⟩; refine ⟨_, rfl, ?_⟩; obtain rfl := EV_none he0; have n0_ := Aside0.mk (blk_below (by (with_reducible repeat (first | apply b1 | apply b2 | apply b3)); exact BK250.out) hb); have n1_ := Aside0.mk (below_step (by repeat (first | (with_reducible first | exact HB.out | apply l1 | apply l2 | apply l3 | refine below_set ?_ GE250.out) | exact HB.out)) hb); clear BK250; clear HB; have BK250 := n0_; have HB := n1_; clear n0_ n1_; (try clear hb); (try clear hb2); (try clear hk); (try clear hi); obtain ⟨hcz8_0, hfz8_0⟩ := blk_cells1 BK250.out) | ((with_reducible refine gate_dst (N := 21) rfl ?_); refine Kd.R_make (Kd.int .i64) _ 3 rfl (N := 21) rfl 25 _ _ rfl (l0_0.length : Int) rfl rfl Try.underlying25 (.int .i64 0) 8 info3 rfl (by decide) (by omega) 0 (ok := fun _ => True) (okp := fun _ => True) rfl (fun _ hk => hk) trivial (of_decide_eq_true (by first | (with_reducible assumption) | assumption)) (Nat.le_trans (Nat.mul_le_mul_right _ (of_decide_eq_true (by first | (with_reducible assumption) | assumption) : (l0_0.length : Int).toNat ≤ 35184372088832)) (by omega)) (Below.refl _ _) (Nat.le_refl _) ?_; intro v256 w9 ho10 hb hg_ hnew_; clear hg_ hnew_; (first | rw [← Ny255.out] at ho10 | (simp only [Int.reduceToNat] at ho10; rw [← Ny255.out] at ho10)); have n0_ := Aside0.mk (Kd.R_lower ho10 (below_size (by repeat (first | (with_reducible first | exact HB.out | apply l1 | apply l2 | apply l3 | refine below_set ?_ GE250.out) | exact HB.out)))); have n1_ := Aside0.mk (blk_below (by (with_reducible repeat (first | apply b1 | apply b2 | apply b3)); exact BK250.out) hb); have n2_ := Aside0.mk (below_step (by repeat (first | (with_reducible first | exact HB.out | apply l1 | apply l2 | apply l3 | refine below_set ?_ GE250.out) | exact HB.out)) hb); clear BK250; clear HB; have HO257 := n0_; have BK250 := n1_; have HB := n2_; clear n0_ n1_ n2_; clear hb ho10; obtain ⟨hcz11_0, hfz11_0⟩ := blk_cells1 BK250.out))
    (try simp only [Act.put, List.setIfInBounds_toArray, List.set_cons_zero, List.set_cons_succ])
    go_loopg [7, 25] k (fun kq v7 v25 w' => ∃ (x6_1 : List Int) (x7_1 : Int) (x25_1 : Int), v7 = .int .i64 x7_1 ∧ v25 = .int .i64 x25_1 ∧ Aside0 (lane_Lanes.l0 kq x6_1 x7_1 l0_0 (l0_0.length : Int) x25_1 l0_0 = some (r1, r2, r3)) ∧ Aside0 (kq ≤ k) ∧ Aside0 (Kd.R (Kd.int .i64) 3 w' w.heap.size (fun _ => True) v256 x6_1) ∧ Aside0 (w'.heap[gb250]? = some (.cells #[(.slice A0_0 l0_0.length c0_0)] 24 (0, 0))) ∧ Aside0 (Below w.heap.size w w'))
    case atStart => exact ⟨(y255), (0), (0), (by first | rfl | (simp; done) | (simp [*]; done)), (by first | rfl | (simp; done) | (simp [*]; done)), H', ⟨Nat.le_refl _⟩, ⟨by (with_reducible repeat (first | apply Kd.R_alloc | apply Kd.R_drewN | apply Kd.R_drew)); exact HO257.out⟩, ⟨by (with_reducible repeat (first | apply b1 | apply b2 | apply b3)); exact BK250.out⟩, ⟨by repeat (first | (with_reducible first | exact HB.out | apply l1 | apply l2 | apply l3 | refine below_set ?_ GE250.out) | exact HB.out)⟩⟩
    case round =>
     clear H'
     try clear c1
     try clear p2
     try clear q2
     try clear c3
     try clear c3b0
     try clear c3b1
     try clear c4
     try clear c4b0
     try clear c4b1
     try clear c9
     try clear hcz11_0
     try clear hcz6_0
     try clear hcz8_0
     try clear hfz11_0
     try clear hfz6_0
     try clear hfz8_0
     try clear q254
     obtain ⟨x6_1, x7_1, x25_1, rfl, rfl, HA, HK1, HO_6, BK250, HB⟩ := hrel
     cases gk with
     | zero => exact absurd HA.out (by simp [lane_Lanes.l0])
     | succ k1 =>
      have H := HA.out
      clear HA
      simp only [lane_Lanes.l0] at H
      by_cases c12 : x25_1 < (l0_0.length : Int)
      ·rw [if_pos c12] at H
       have c12b0 : decide (x25_1 < (l0_0.length : Int)) = true := decide_eq_true c12
       clear c12
       by_cases c13 : 0 ≤ x25_1
       ·rw [if_pos c13] at H
        have c13b0 : decide (0 ≤ x25_1) = true := decide_eq_true c13
        clear c13
        by_cases c14 : x25_1 < (l0_0.length : Int)
        ·rw [if_pos c14] at H
         have c14b0 : decide (x25_1 < (l0_0.length : Int)) = true := decide_eq_true c14
         clear c14
         have H' := Aside0.mk H
         clear H
         have p258 : 0 ≤ (x25_1 : Int) := of_decide_eq_true (by first | (with_reducible assumption) | assumption)
         have q258 : x25_1 < (l0_0.length : Int) := of_decide_eq_true (by first | (with_reducible assumption) | assumption)
         obtain ⟨ad258, A258_8, c258_8, e258, hx258_0, hx258_1, hx258_2, hx258_3, hx258_4, hx258_5, hx258_6, hx258_7, hx258_8, hl258_8, hi258_8⟩ := at_T41 HR0_0.out x25_1 p258 q258
         cases e258
         replace hx258_0 := (HB.out.cell (World.block_lt_of_cell? w _ hx258_0)).trans hx258_0
         replace hx258_1 := (HB.out.cell (World.block_lt_of_cell? w _ hx258_1)).trans hx258_1
         replace hx258_2 := (HB.out.cell (World.block_lt_of_cell? w _ hx258_2)).trans hx258_2
         replace hx258_3 := (HB.out.cell (World.block_lt_of_cell? w _ hx258_3)).trans hx258_3
         replace hx258_4 := (HB.out.cell (World.block_lt_of_cell? w _ hx258_4)).trans hx258_4
         replace hx258_5 := (HB.out.cell (World.block_lt_of_cell? w _ hx258_5)).trans hx258_5
         replace hx258_6 := (HB.out.cell (World.block_lt_of_cell? w _ hx258_6)).trans hx258_6
         replace hx258_7 := (HB.out.cell (World.block_lt_of_cell? w _ hx258_7)).trans hx258_7
         replace hx258_8 := (HB.out.cell (World.block_lt_of_cell? w _ hx258_8)).trans hx258_8
         have HR258_8 := Aside0.mk hi258_8
         have HC258_8 := Aside0.mk hl258_8
         clear hi258_8 hl258_8
         replace p258 := eq_true p258
         replace q258 := eq_true q258
         go_wp2_with (first | ((with_reducible refine gate_dst (N := 9) rfl ?_); refine box_event (by rfl) (N := 9) (by rfl) (cs := #[.int .i64 0, .int .i64 0, .int .i64 0, .int .i64 0, .int .i64 0, .int .i64 0, .string (⟨#[]⟩ : ByteArray), .string (⟨#[]⟩ : ByteArray), .slice none 0 0]) (t := 41) (by first | (go_simp; done) | (go_simp; rfl)) ?_; intro gb259 hg w15 hbox hb; obtain ⟨hb_, hw_⟩ := box_facts (by repeat (first | (with_reducible first | exact HB.out | apply l1 | apply l2 | apply l3 | refine below_set ?_ GE250.out) | exact HB.out)) hg hb; have n0_ := Aside0.mk (Kd.R_below (by (with_reducible repeat (first | apply Kd.R_alloc | apply Kd.R_drewN | apply Kd.R_drew)); exact HO_6.out) hb); have n1_ := Aside0.mk (blk_below (by (with_reducible repeat (first | apply b1 | apply b2 | apply b3)); exact BK250.out) hb); have n2_ := Aside0.mk (hb_); have n3_ := Aside0.mk (hbox); have n4_ := Aside0.mk (hw_); have n5_ := Aside0.mk (hw_); have n6_ := Aside0.mk ((by rw [hg]; exact Nat.ne_of_lt (blk_lt (by (with_reducible repeat (first | apply b1 | apply b2 | apply b3)); exact BK250.out)) : gb250 ≠ gb259)); have n7_ := Aside0.mk ((by rw [hg]; exact Nat.ne_of_gt (blk_lt (by (with_reducible repeat (first | apply b1 | apply b2 | apply b3)); exact BK250.out)) : gb259 ≠ gb250)); clear HO_6; clear BK250; clear HB; have HO_6 := n0_; have BK250 := n1_; have HB := n2_; have BK259 := n3_; have GW259 := n4_; have GE259 := n5_; have NB250_259 := n6_; have NB259_250 := n7_; clear n0_ n1_ n2_ n3_ n4_ n5_ n6_ n7_; clear hb hbox hg hb_ hw_; have hnb16 := NB259_250.out; have hnc16 := NB250_259.out; obtain ⟨hcz17_0, hcz17_1, hcz17_2, hcz17_3, hcz17_4, hcz17_5, hcz17_6, hcz17_7, hcz17_8, hfz17_0, hfz17_1, hfz17_2, hfz17_3, hfz17_4, hfz17_5, hfz17_6, hfz17_7, hfz17_8⟩ := blk_cells9 BK259.out))
         (try simp only [Act.put, List.setIfInBounds_toArray, List.set_cons_zero, List.set_cons_succ])
         go_loopg [10, 31] k1 (fun kq v10 v31 w' => ∃ (x10_2 : List Int) (x31_2 : Int), v31 = .int .i64 x31_2 ∧ Aside0 (lane_Lanes.l1 kq x6_1 x7_1 x25_1 x10_2 l0_0 (l0_0.length : Int) x25_1 x25_1 x31_2 l0_0 ((rd_T41 l0_0 x25_1).f0.f0) ((rd_T41 l0_0 x25_1).f0.f1) ((rd_T41 l0_0 x25_1).f1.f0) ((rd_T41 l0_0 x25_1).f1.f1) ((rd_T41 l0_0 x25_1).f2) ((rd_T41 l0_0 x25_1).f3) ((rd_T41 l0_0 x25_1).f4) ((rd_T41 l0_0 x25_1).f5.f0) ((rd_T41 l0_0 x25_1).f5.f1) = some (r1, r2, r3)) ∧ Aside0 (kq ≤ k1) ∧ Aside0 (Kd.R (Kd.int .i64) 3 w' w.heap.size (fun k_ => some k_ ≠ (v10 : Value).ownBlock) v256 x6_1) ∧ Aside0 (Kd.R (Kd.int .i64) 3 w' w.heap.size (fun k_ => some k_ ≠ (v256 : Value).ownBlock) v10 x10_2) ∧ Aside0 (w'.heap[gb250]? = some (.cells #[(.slice (some ad258) l0_0.length c0_0)] 24 (0, 0))) ∧ Aside0 (w'.heap[gb259]? = some (.cells #[.int .i64 ((rd_T41 l0_0 x25_1).f0.f0), .int .i64 ((rd_T41 l0_0 x25_1).f0.f1), .int .i64 ((rd_T41 l0_0 x25_1).f1.f0), .int .i64 ((rd_T41 l0_0 x25_1).f1.f1), .int .i64 ((rd_T41 l0_0 x25_1).f2), .int .i64 ((rd_T41 l0_0 x25_1).f3), .string ((rd_T41 l0_0 x25_1).f4), .string ((rd_T41 l0_0 x25_1).f5.f0), (.slice A258_8 ((rd_T41 l0_0 x25_1).f5.f1).length c258_8)] 41 (0, 0))) ∧ Aside0 (Below w.heap.size w w'))
         case atStart => exact ⟨(([] : List Int)), (0), (by first | rfl | (simp; done) | (simp [*]; done)), H', ⟨Nat.le_refl _⟩, ⟨by (with_reducible repeat (first | apply Kd.R_alloc | apply Kd.R_drewN | apply Kd.R_drew)); exact Kd.R_mono (Kd.R_far (p := ⟨gb259, 8, none⟩) (Kd.R_far (p := ⟨gb259, 7, none⟩) (Kd.R_far (p := ⟨gb259, 6, none⟩) (Kd.R_far (p := ⟨gb259, 5, none⟩) (Kd.R_far (p := ⟨gb259, 4, none⟩) (Kd.R_far (p := ⟨gb259, 3, none⟩) (Kd.R_far (p := ⟨gb259, 2, none⟩) (Kd.R_far (p := ⟨gb259, 1, none⟩) (Kd.R_far (p := ⟨gb259, 0, none⟩) (Kd.R_types HO_6.out BK259.out (by decide)) (fun _ hk => hk.2) (.int .i64 ((rd_T41 l0_0 x25_1).f0.f0))) (fun _ hk => hk.2) (.int .i64 ((rd_T41 l0_0 x25_1).f0.f1))) (fun _ hk => hk.2) (.int .i64 ((rd_T41 l0_0 x25_1).f1.f0))) (fun _ hk => hk.2) (.int .i64 ((rd_T41 l0_0 x25_1).f1.f1))) (fun _ hk => hk.2) (.int .i64 ((rd_T41 l0_0 x25_1).f2))) (fun _ hk => hk.2) (.int .i64 ((rd_T41 l0_0 x25_1).f3))) (fun _ hk => hk.2) (.string ((rd_T41 l0_0 x25_1).f4))) (fun _ hk => hk.2) (.string ((rd_T41 l0_0 x25_1).f5.f0))) (fun _ hk => hk.2) (.slice A258_8 ((rd_T41 l0_0 x25_1).f5.f1).length c258_8)) (fun _ hk => (by simp [Value.ownBlock]))⟩, ⟨by first | exact Kd.R_nil _ _ _ _ _ | exact Kd.N_nil _ _ _ _ _ | exact Kd.V_nil _ _ _ _ _ | exact Kd.Q_nil _ _ _ _ _ | exact Kd.S_nil _ _ _ _ _⟩, ⟨by (with_reducible repeat (first | apply b1 | apply b2 | apply b3)); refine blk_far ?_ NB250_259.out _; (with_reducible repeat (first | apply b1 | apply b2 | apply b3)); refine blk_far ?_ NB250_259.out _; (with_reducible repeat (first | apply b1 | apply b2 | apply b3)); refine blk_far ?_ NB250_259.out _; (with_reducible repeat (first | apply b1 | apply b2 | apply b3)); refine blk_far ?_ NB250_259.out _; (with_reducible repeat (first | apply b1 | apply b2 | apply b3)); refine blk_far ?_ NB250_259.out _; (with_reducible repeat (first | apply b1 | apply b2 | apply b3)); refine blk_far ?_ NB250_259.out _; (with_reducible repeat (first | apply b1 | apply b2 | apply b3)); refine blk_far ?_ NB250_259.out _; (with_reducible repeat (first | apply b1 | apply b2 | apply b3)); refine blk_far ?_ NB250_259.out _; (with_reducible repeat (first | apply b1 | apply b2 | apply b3)); refine blk_far ?_ NB250_259.out _; (with_reducible repeat (first | apply b1 | apply b2 | apply b3)); exact BK250.out⟩, ⟨by (with_reducible repeat (first | apply b1 | apply b2 | apply b3)); refine blk_put (cs := #[.int .i64 ((rd_T41 l0_0 x25_1).f0.f0), .int .i64 ((rd_T41 l0_0 x25_1).f0.f1), .int .i64 ((rd_T41 l0_0 x25_1).f1.f0), .int .i64 ((rd_T41 l0_0 x25_1).f1.f1), .int .i64 ((rd_T41 l0_0 x25_1).f2), .int .i64 ((rd_T41 l0_0 x25_1).f3), .string ((rd_T41 l0_0 x25_1).f4), .string ((rd_T41 l0_0 x25_1).f5.f0), .slice none 0 0]) ?_ 8 _ rfl; (with_reducible repeat (first | apply b1 | apply b2 | apply b3)); refine blk_put (cs := #[.int .i64 ((rd_T41 l0_0 x25_1).f0.f0), .int .i64 ((rd_T41 l0_0 x25_1).f0.f1), .int .i64 ((rd_T41 l0_0 x25_1).f1.f0), .int .i64 ((rd_T41 l0_0 x25_1).f1.f1), .int .i64 ((rd_T41 l0_0 x25_1).f2), .int .i64 ((rd_T41 l0_0 x25_1).f3), .string ((rd_T41 l0_0 x25_1).f4), .string (⟨#[]⟩ : ByteArray), .slice none 0 0]) ?_ 7 _ rfl; (with_reducible repeat (first | apply b1 | apply b2 | apply b3)); refine blk_put (cs := #[.int .i64 ((rd_T41 l0_0 x25_1).f0.f0), .int .i64 ((rd_T41 l0_0 x25_1).f0.f1), .int .i64 ((rd_T41 l0_0 x25_1).f1.f0), .int .i64 ((rd_T41 l0_0 x25_1).f1.f1), .int .i64 ((rd_T41 l0_0 x25_1).f2), .int .i64 ((rd_T41 l0_0 x25_1).f3), .string (⟨#[]⟩ : ByteArray), .string (⟨#[]⟩ : ByteArray), .slice none 0 0]) ?_ 6 _ rfl; (with_reducible repeat (first | apply b1 | apply b2 | apply b3)); refine blk_put (cs := #[.int .i64 ((rd_T41 l0_0 x25_1).f0.f0), .int .i64 ((rd_T41 l0_0 x25_1).f0.f1), .int .i64 ((rd_T41 l0_0 x25_1).f1.f0), .int .i64 ((rd_T41 l0_0 x25_1).f1.f1), .int .i64 ((rd_T41 l0_0 x25_1).f2), .int .i64 0, .string (⟨#[]⟩ : ByteArray), .string (⟨#[]⟩ : ByteArray), .slice none 0 0]) ?_ 5 _ rfl; (with_reducible repeat (first | apply b1 | apply b2 | apply b3)); refine blk_put (cs := #[.int .i64 ((rd_T41 l0_0 x25_1).f0.f0), .int .i64 ((rd_T41 l0_0 x25_1).f0.f1), .int .i64 ((rd_T41 l0_0 x25_1).f1.f0), .int .i64 ((rd_T41 l0_0 x25_1).f1.f1), .int .i64 0, .int .i64 0, .string (⟨#[]⟩ : ByteArray), .string (⟨#[]⟩ : ByteArray), .slice none 0 0]) ?_ 4 _ rfl; (with_reducible repeat (first | apply b1 | apply b2 | apply b3)); refine blk_put (cs := #[.int .i64 ((rd_T41 l0_0 x25_1).f0.f0), .int .i64 ((rd_T41 l0_0 x25_1).f0.f1), .int .i64 ((rd_T41 l0_0 x25_1).f1.f0), .int .i64 0, .int .i64 0, .int .i64 0, .string (⟨#[]⟩ : ByteArray), .string (⟨#[]⟩ : ByteArray), .slice none 0 0]) ?_ 3 _ rfl; (with_reducible repeat (first | apply b1 | apply b2 | apply b3)); refine blk_put (cs := #[.int .i64 ((rd_T41 l0_0 x25_1).f0.f0), .int .i64 ((rd_T41 l0_0 x25_1).f0.f1), .int .i64 0, .int .i64 0, .int .i64 0, .int .i64 0, .string (⟨#[]⟩ : ByteArray), .string (⟨#[]⟩ : ByteArray), .slice none 0 0]) ?_ 2 _ rfl; (with_reducible repeat (first | apply b1 | apply b2 | apply b3)); refine blk_put (cs := #[.int .i64 ((rd_T41 l0_0 x25_1).f0.f0), .int .i64 0, .int .i64 0, .int .i64 0, .int .i64 0, .int .i64 0, .string (⟨#[]⟩ : ByteArray), .string (⟨#[]⟩ : ByteArray), .slice none 0 0]) ?_ 1 _ rfl; (with_reducible repeat (first | apply b1 | apply b2 | apply b3)); refine blk_put (cs := #[.int .i64 0, .int .i64 0, .int .i64 0, .int .i64 0, .int .i64 0, .int .i64 0, .string (⟨#[]⟩ : ByteArray), .string (⟨#[]⟩ : ByteArray), .slice none 0 0]) ?_ 0 _ rfl; (with_reducible repeat (first | apply b1 | apply b2 | apply b3)); exact BK259.out⟩, ⟨by repeat (first | (with_reducible first | exact HB.out | apply l1 | apply l2 | apply l3 | refine below_set ?_ GE250.out | refine below_set ?_ GE259.out) | exact HB.out)⟩⟩
         case round =>
          clear H'
          try clear c1
          try clear c2
          try clear p2
          try clear q2
          try clear hx2
          try clear c3
          try clear c3b0
          try clear c3b1
          try clear c4
          try clear c4b0
          try clear c4b1
          try clear c9
          try clear c12
          try clear c12b0
          try clear c13
          try clear c13b0
          try clear c14
          try clear c14b0
          try clear c16
          try clear hcz11_0
          try clear hcz17_0
          try clear hcz17_1
          try clear hcz17_2
          try clear hcz17_3
          try clear hcz17_4
          try clear hcz17_5
          try clear hcz17_6
          try clear hcz17_7
          try clear hcz17_8
          try clear hcz6_0
          try clear hcz8_0
          try clear hfz11_0
          try clear hfz17_0
          try clear hfz17_1
          try clear hfz17_2
          try clear hfz17_3
          try clear hfz17_4
          try clear hfz17_5
          try clear hfz17_6
          try clear hfz17_7
          try clear hfz17_8
          try clear hfz6_0
          try clear hfz8_0
          try clear hx258_0
          try clear hx258_1
          try clear hx258_2
          try clear hx258_3
          try clear hx258_4
          try clear hx258_5
          try clear hx258_6
          try clear hx258_7
          try clear hx258_8
          try clear p2
          try clear p258
          try clear q2
          try clear q254
          try clear q258
          obtain ⟨x10_2, x31_2, rfl, HA, HK2, HO_6, HO_10, BK250, BK259, HB⟩ := hrel
          cases gk with
          | zero => exact absurd HA.out (by simp [lane_Lanes.l1])
          | succ k2 =>
           have H := HA.out
           clear HA
           simp only [lane_Lanes.l1] at H
           by_cases c18 : x31_2 < x25_1
           ·rw [if_pos c18] at H
            have c18b0 : decide (x31_2 < x25_1) = true := decide_eq_true c18
            clear c18
            by_cases c19 : 0 ≤ x31_2
            ·rw [if_pos c19] at H
             have c19b0 : decide (0 ≤ x31_2) = true := decide_eq_true c19
             clear c19
             by_cases c20 : x31_2 < (l0_0.length : Int)
             ·rw [if_pos c20] at H
              have c20b0 : decide (x31_2 < (l0_0.length : Int)) = true := decide_eq_true c20
              clear c20
              by_cases c21 : ((rd_T41 l0_0 x31_2).f3) = ((rd_T41 l0_0 x25_1).f3)
              ·rw [if_pos c21] at H
               have c21b0 : (((rd_T41 l0_0 x31_2).f3) == ((rd_T41 l0_0 x25_1).f3)) = true := beq_iff_eq.mpr c21
               have c21b1 : (((rd_T41 l0_0 x31_2).f3) != ((rd_T41 l0_0 x25_1).f3)) = false := bne_eq_false_iff_eq.mpr c21
               clear c21
               replace H := Option.bind_eq_some_iff.mp H
               obtain ⟨t262, A220, H⟩ := H
               (try dsimp only at H)
               have A22 := Aside0.mk A220
               clear A220
               by_cases c23 : t262 > 0
               ·rw [if_pos c23] at H
                have c23b0 : decide (0 < t262) = true := decide_eq_true c23
                clear c23
                by_cases c24 : x31_2 < (x6_1.length : Int)
                ·rw [if_pos c24] at H
                 have c24b0 : decide (x31_2 < (x6_1.length : Int)) = true := decide_eq_true c24
                 clear c24
                 by_cases c25 : x10_2.length < 17592186044416
                 ·rw [if_pos c25] at H
                  have LMc25 := Aside0.mk c25
                  clear c25
                  obtain ⟨y264, hy264⟩ : ∃ y_ : List Int, y_ = (x10_2 ++ [rd x6_1 x31_2]) := ⟨_, rfl⟩
                  replace H : (lane_Lanes.l1 k2 x6_1 x7_1 x25_1 y264 l0_0 (l0_0.length : Int) x25_1 x25_1 (wrap64 (x31_2 + 1)) l0_0 ((rd_T41 l0_0 x25_1).f0.f0) ((rd_T41 l0_0 x25_1).f0.f1) ((rd_T41 l0_0 x25_1).f1.f0) ((rd_T41 l0_0 x25_1).f1.f1) ((rd_T41 l0_0 x25_1).f2) ((rd_T41 l0_0 x25_1).f3) ((rd_T41 l0_0 x25_1).f4) ((rd_T41 l0_0 x25_1).f5.f0) ((rd_T41 l0_0 x25_1).f5.f1)) = some (r1, r2, r3) := by first | (rw [hy264]; with_reducible exact H) | (have H2_ := (Option.bind_some _ _).symm.trans H; rw [hy264]; with_reducible exact H2_) | (have H2_ := (Option.bind_some _ _).symm.trans H; with_reducible exact H2_) | with_reducible exact H | (rw [hy264]; exact H) | exact H
                  have Ny264 := Aside0.mk hy264
                  clear hy264
                  have H' := Aside0.mk H
                  clear H
                  have hnb26 := NB250_259.out
                  have hnc26 := NB259_250.out
                  obtain ⟨hcz27_0, hfz27_0⟩ := blk_cells1 BK250.out
                  have p260 : 0 ≤ (x31_2 : Int) := of_decide_eq_true (by first | (with_reducible assumption) | assumption)
                  have q260 : x31_2 < (l0_0.length : Int) := of_decide_eq_true (by first | (with_reducible assumption) | assumption)
                  obtain ⟨ad260, A260_8, c260_8, e260, hx260_0, hx260_1, hx260_2, hx260_3, hx260_4, hx260_5, hx260_6, hx260_7, hx260_8, hl260_8, hi260_8⟩ := at_T41 HR0_0.out x31_2 p260 q260
                  obtain rfl : ad258 = ad260 := (by injection e260)
                  replace hx260_0 := (HB.out.cell (World.block_lt_of_cell? w _ hx260_0)).trans hx260_0
                  replace hx260_1 := (HB.out.cell (World.block_lt_of_cell? w _ hx260_1)).trans hx260_1
                  replace hx260_2 := (HB.out.cell (World.block_lt_of_cell? w _ hx260_2)).trans hx260_2
                  replace hx260_3 := (HB.out.cell (World.block_lt_of_cell? w _ hx260_3)).trans hx260_3
                  replace hx260_4 := (HB.out.cell (World.block_lt_of_cell? w _ hx260_4)).trans hx260_4
                  replace hx260_5 := (HB.out.cell (World.block_lt_of_cell? w _ hx260_5)).trans hx260_5
                  replace hx260_6 := (HB.out.cell (World.block_lt_of_cell? w _ hx260_6)).trans hx260_6
                  replace hx260_7 := (HB.out.cell (World.block_lt_of_cell? w _ hx260_7)).trans hx260_7
                  replace hx260_8 := (HB.out.cell (World.block_lt_of_cell? w _ hx260_8)).trans hx260_8
                  have HR260_8 := Aside0.mk hi260_8
                  have HC260_8 := Aside0.mk hl260_8
                  clear hi260_8 hl260_8
                  replace p260 := eq_true p260
                  replace q260 := eq_true q260
                  go_wp2_with (first | ((with_reducible refine gate_dst (N := 12) rfl ?_); refine box_event (by rfl) (N := 12) (by rfl) (cs := #[.int .i64 0, .int .i64 0, .int .i64 0, .int .i64 0, .int .i64 0, .int .i64 0, .string (⟨#[]⟩ : ByteArray), .string (⟨#[]⟩ : ByteArray), .slice none 0 0]) (t := 41) (by first | (go_simp; done) | (go_simp; rfl)) ?_; intro gb261 hg w28 hbox hb; obtain ⟨hb_, hw_⟩ := box_facts (by repeat (first | (with_reducible first | exact HB.out | apply l1 | apply l2 | apply l3 | refine below_set ?_ GE250.out | refine below_set ?_ GE259.out) | exact HB.out)) hg hb; have n0_ := Aside0.mk (Kd.R_below (by (with_reducible repeat (first | apply Kd.R_alloc | apply Kd.R_drewN | apply Kd.R_drew)); exact HO_6.out) hb); have n1_ := Aside0.mk (Kd.R_below (by (with_reducible repeat (first | apply Kd.R_alloc | apply Kd.R_drewN | apply Kd.R_drew)); exact HO_10.out) hb); have n2_ := Aside0.mk (blk_below (by (with_reducible repeat (first | apply b1 | apply b2 | apply b3)); exact BK250.out) hb); have n3_ := Aside0.mk (blk_below (by (with_reducible repeat (first | apply b1 | apply b2 | apply b3)); exact BK259.out) hb); have n4_ := Aside0.mk (hb_); have n5_ := Aside0.mk (hbox); have n6_ := Aside0.mk (hw_); have n7_ := Aside0.mk (hw_); have n8_ := Aside0.mk ((by rw [hg]; exact Nat.ne_of_lt (blk_lt (by (with_reducible repeat (first | apply b1 | apply b2 | apply b3)); exact BK250.out)) : gb250 ≠ gb261)); have n9_ := Aside0.mk ((by rw [hg]; exact Nat.ne_of_gt (blk_lt (by (with_reducible repeat (first | apply b1 | apply b2 | apply b3)); exact BK250.out)) : gb261 ≠ gb250)); have n10_ := Aside0.mk ((by rw [hg]; exact Nat.ne_of_lt (blk_lt (by (with_reducible repeat (first | apply b1 | apply b2 | apply b3)); exact BK259.out)) : gb259 ≠ gb261)); have n11_ := Aside0.mk ((by rw [hg]; exact Nat.ne_of_gt (blk_lt (by (with_reducible repeat (first | apply b1 | apply b2 | apply b3)); exact BK259.out)) : gb261 ≠ gb259)); clear HO_6; clear HO_10; clear BK250; clear BK259; clear HB; have HO_6 := n0_; have HO_10 := n1_; have BK250 := n2_; have BK259 := n3_; have HB := n4_; have BK261 := n5_; have GW261 := n6_; have GE261 := n7_; have NB250_261 := n8_; have NB261_250 := n9_; have NB259_261 := n10_; have NB261_259 := n11_; clear n0_ n1_ n2_ n3_ n4_ n5_ n6_ n7_ n8_ n9_ n10_ n11_; clear hb hbox hg hb_ hw_; have hnb29 := NB261_250.out; have hnc29 := NB250_261.out; have hnb30 := NB261_259.out; have hnc30 := NB259_261.out; obtain ⟨hcz31_0, hcz31_1, hcz31_2, hcz31_3, hcz31_4, hcz31_5, hcz31_6, hcz31_7, hcz31_8, hfz31_0, hfz31_1, hfz31_2, hfz31_3, hfz31_4, hfz31_5, hfz31_6, hfz31_7, hfz31_8⟩ := blk_cells9 BK261.out; obtain ⟨hcz32_0, hcz32_1, hcz32_2, hcz32_3, hcz32_4, hcz32_5, hcz32_6, hcz32_7, hcz32_8, hfz32_0, hfz32_1, hfz32_2, hfz32_3, hfz32_4, hfz32_5, hfz32_6, hfz32_7, hfz32_8⟩ := blk_cells9 BK259.out) | (go_at_call 24; (with_reducible refine (ratio_Cmp.calls ((rd_T41 l0_0 x31_2).f1.f0) ((rd_T41 l0_0 x31_2).f1.f1) ((rd_T41 l0_0 x25_1).f0.f0) ((rd_T41 l0_0 x25_1).f0.f1) t262 _ A22.out).mono ?_); rintro e w33 ⟨rfl, hb⟩; have n0_ := Aside0.mk (Kd.R_below (by (with_reducible repeat (first | apply Kd.R_alloc | apply Kd.R_drewN | apply Kd.R_drew)); exact (Kd.R_mono (Kd.R_far (p := ⟨gb261, 8, none⟩) (Kd.R_far (p := ⟨gb261, 7, none⟩) (Kd.R_far (p := ⟨gb261, 6, none⟩) (Kd.R_far (p := ⟨gb261, 5, none⟩) (Kd.R_far (p := ⟨gb261, 4, none⟩) (Kd.R_far (p := ⟨gb261, 3, none⟩) (Kd.R_far (p := ⟨gb261, 2, none⟩) (Kd.R_far (p := ⟨gb261, 1, none⟩) (Kd.R_far (p := ⟨gb261, 0, none⟩) (Kd.R_types HO_6.out BK261.out (by decide)) (fun _ hk => hk.2) (.int .i64 ((rd_T41 l0_0 x31_2).f0.f0))) (fun _ hk => hk.2) (.int .i64 ((rd_T41 l0_0 x31_2).f0.f1))) (fun _ hk => hk.2) (.int .i64 ((rd_T41 l0_0 x31_2).f1.f0))) (fun _ hk => hk.2) (.int .i64 ((rd_T41 l0_0 x31_2).f1.f1))) (fun _ hk => hk.2) (.int .i64 ((rd_T41 l0_0 x31_2).f2))) (fun _ hk => hk.2) (.int .i64 ((rd_T41 l0_0 x31_2).f3))) (fun _ hk => hk.2) (.string ((rd_T41 l0_0 x31_2).f4))) (fun _ hk => hk.2) (.string ((rd_T41 l0_0 x31_2).f5.f0))) (fun _ hk => hk.2) (.slice A260_8 ((rd_T41 l0_0 x31_2).f5.f1).length c260_8)) (fun _ h_ => h_.1))) hb); have n1_ := Aside0.mk (Kd.R_below (by (with_reducible repeat (first | apply Kd.R_alloc | apply Kd.R_drewN | apply Kd.R_drew)); exact (Kd.R_mono (Kd.R_far (p := ⟨gb261, 8, none⟩) (Kd.R_far (p := ⟨gb261, 7, none⟩) (Kd.R_far (p := ⟨gb261, 6, none⟩) (Kd.R_far (p := ⟨gb261, 5, none⟩) (Kd.R_far (p := ⟨gb261, 4, none⟩) (Kd.R_far (p := ⟨gb261, 3, none⟩) (Kd.R_far (p := ⟨gb261, 2, none⟩) (Kd.R_far (p := ⟨gb261, 1, none⟩) (Kd.R_far (p := ⟨gb261, 0, none⟩) (Kd.R_types HO_10.out BK261.out (by decide)) (fun _ hk => hk.2) (.int .i64 ((rd_T41 l0_0 x31_2).f0.f0))) (fun _ hk => hk.2) (.int .i64 ((rd_T41 l0_0 x31_2).f0.f1))) (fun _ hk => hk.2) (.int .i64 ((rd_T41 l0_0 x31_2).f1.f0))) (fun _ hk => hk.2) (.int .i64 ((rd_T41 l0_0 x31_2).f1.f1))) (fun _ hk => hk.2) (.int .i64 ((rd_T41 l0_0 x31_2).f2))) (fun _ hk => hk.2) (.int .i64 ((rd_T41 l0_0 x31_2).f3))) (fun _ hk => hk.2) (.string ((rd_T41 l0_0 x31_2).f4))) (fun _ hk => hk.2) (.string ((rd_T41 l0_0 x31_2).f5.f0))) (fun _ hk => hk.2) (.slice A260_8 ((rd_T41 l0_0 x31_2).f5.f1).length c260_8)) (fun _ h_ => h_.1))) hb); have n2_ := Aside0.mk (blk_below (g := gb250) (o := .cells #[.slice (some ad258) l0_0.length c0_0] 24 (0, 0)) (by (with_reducible repeat (first | apply b1 | apply b2 | apply b3)); refine blk_far ?_ NB250_261.out _; (with_reducible repeat (first | apply b1 | apply b2 | apply b3)); refine blk_far ?_ NB250_261.out _; (with_reducible repeat (first | apply b1 | apply b2 | apply b3)); refine blk_far ?_ NB250_261.out _; (with_reducible repeat (first | apply b1 | apply b2 | apply b3)); refine blk_far ?_ NB250_261.out _; (with_reducible repeat (first | apply b1 | apply b2 | apply b3)); refine blk_far ?_ NB250_261.out _; (with_reducible repeat (first | apply b1 | apply b2 | apply b3)); refine blk_far ?_ NB250_261.out _; (with_reducible repeat (first | apply b1 | apply b2 | apply b3)); refine blk_far ?_ NB250_261.out _; (with_reducible repeat (first | apply b1 | apply b2 | apply b3)); refine blk_far ?_ NB250_261.out _; (with_reducible repeat (first | apply b1 | apply b2 | apply b3)); refine blk_far ?_ NB250_261.out _; (with_reducible repeat (first | apply b1 | apply b2 | apply b3)); exact BK250.out) hb); have n3_ := Aside0.mk (blk_below (g := gb259) (o := .cells #[.int .i64 ((rd_T41 l0_0 x25_1).f0.f0), .int .i64 ((rd_T41 l0_0 x25_1).f0.f1), .int .i64 ((rd_T41 l0_0 x25_1).f1.f0), .int .i64 ((rd_T41 l0_0 x25_1).f1.f1), .int .i64 ((rd_T41 l0_0 x25_1).f2), .int .i64 ((rd_T41 l0_0 x25_1).f3), .string ((rd_T41 l0_0 x25_1).f4), .string ((rd_T41 l0_0 x25_1).f5.f0), .slice A258_8 ((rd_T41 l0_0 x25_1).f5.f1).length c258_8] 41 (0, 0)) (by (with_reducible repeat (first | apply b1 | apply b2 | apply b3)); refine blk_far ?_ NB259_261.out _; (with_reducible repeat (first | apply b1 | apply b2 | apply b3)); refine blk_far ?_ NB259_261.out _; (with_reducible repeat (first | apply b1 | apply b2 | apply b3)); refine blk_far ?_ NB259_261.out _; (with_reducible repeat (first | apply b1 | apply b2 | apply b3)); refine blk_far ?_ NB259_261.out _; (with_reducible repeat (first | apply b1 | apply b2 | apply b3)); refine blk_far ?_ NB259_261.out _; (with_reducible repeat (first | apply b1 | apply b2 | apply b3)); refine blk_far ?_ NB259_261.out _; (with_reducible repeat (first | apply b1 | apply b2 | apply b3)); refine blk_far ?_ NB259_261.out _; (with_reducible repeat (first | apply b1 | apply b2 | apply b3)); refine blk_far ?_ NB259_261.out _; (with_reducible repeat (first | apply b1 | apply b2 | apply b3)); refine blk_far ?_ NB259_261.out _; (with_reducible repeat (first | apply b1 | apply b2 | apply b3)); exact BK259.out) hb); have n4_ := Aside0.mk (blk_below (g := gb261) (o := .cells #[.int .i64 ((rd_T41 l0_0 x31_2).f0.f0), .int .i64 ((rd_T41 l0_0 x31_2).f0.f1), .int .i64 ((rd_T41 l0_0 x31_2).f1.f0), .int .i64 ((rd_T41 l0_0 x31_2).f1.f1), .int .i64 ((rd_T41 l0_0 x31_2).f2), .int .i64 ((rd_T41 l0_0 x31_2).f3), .string ((rd_T41 l0_0 x31_2).f4), .string ((rd_T41 l0_0 x31_2).f5.f0), .slice A260_8 ((rd_T41 l0_0 x31_2).f5.f1).length c260_8] 41 (0, 0)) (by (with_reducible repeat (first | apply b1 | apply b2 | apply b3)); refine blk_put (cs := #[.int .i64 ((rd_T41 l0_0 x31_2).f0.f0), .int .i64 ((rd_T41 l0_0 x31_2).f0.f1), .int .i64 ((rd_T41 l0_0 x31_2).f1.f0), .int .i64 ((rd_T41 l0_0 x31_2).f1.f1), .int .i64 ((rd_T41 l0_0 x31_2).f2), .int .i64 ((rd_T41 l0_0 x31_2).f3), .string ((rd_T41 l0_0 x31_2).f4), .string ((rd_T41 l0_0 x31_2).f5.f0), .slice none 0 0]) ?_ 8 _ rfl; (with_reducible repeat (first | apply b1 | apply b2 | apply b3)); refine blk_put (cs := #[.int .i64 ((rd_T41 l0_0 x31_2).f0.f0), .int .i64 ((rd_T41 l0_0 x31_2).f0.f1), .int .i64 ((rd_T41 l0_0 x31_2).f1.f0), .int .i64 ((rd_T41 l0_0 x31_2).f1.f1), .int .i64 ((rd_T41 l0_0 x31_2).f2), .int .i64 ((rd_T41 l0_0 x31_2).f3), .string ((rd_T41 l0_0 x31_2).f4), .string (⟨#[]⟩ : ByteArray), .slice none 0 0]) ?_ 7 _ rfl; (with_reducible repeat (first | apply b1 | apply b2 | apply b3)); refine blk_put (cs := #[.int .i64 ((rd_T41 l0_0 x31_2).f0.f0), .int .i64 ((rd_T41 l0_0 x31_2).f0.f1), .int .i64 ((rd_T41 l0_0 x31_2).f1.f0), .int .i64 ((rd_T41 l0_0 x31_2).f1.f1), .int .i64 ((rd_T41 l0_0 x31_2).f2), .int .i64 ((rd_T41 l0_0 x31_2).f3), .string (⟨#[]⟩ : ByteArray), .string (⟨#[]⟩ : ByteArray), .slice none 0 0]) ?_ 6 _ rfl; (with_reducible repeat (first | apply b1 | apply b2 | apply b3)); refine blk_put (cs := #[.int .i64 ((rd_T41 l0_0 x31_2).f0.f0), .int .i64 ((rd_T41 l0_0 x31_2).f0.f1), .int .i64 ((rd_T41 l0_0 x31_2).f1.f0), .int .i64 ((rd_T41 l0_0 x31_2).f1.f1), .int .i64 ((rd_T41 l0_0 x31_2).f2), .int .i64 0, .string (⟨#[]⟩ : ByteArray), .string (⟨#[]⟩ : ByteArray), .slice none 0 0]) ?_ 5 _ rfl; (with_reducible repeat (first | apply b1 | apply b2 | apply b3)); refine blk_put (cs := #[.int .i64 ((rd_T41 l0_0 x31_2).f0.f0), .int .i64 ((rd_T41 l0_0 x31_2).f0.f1), .int .i64 ((rd_T41 l0_0 x31_2).f1.f0), .int .i64 ((rd_T41 l0_0 x31_2).f1.f1), .int .i64 0, .int .i64 0, .string (⟨#[]⟩ : ByteArray), .string (⟨#[]⟩ : ByteArray), .slice none 0 0]) ?_ 4 _ rfl; (with_reducible repeat (first | apply b1 | apply b2 | apply b3)); refine blk_put (cs := #[.int .i64 ((rd_T41 l0_0 x31_2).f0.f0), .int .i64 ((rd_T41 l0_0 x31_2).f0.f1), .int .i64 ((rd_T41 l0_0 x31_2).f1.f0), .int .i64 0, .int .i64 0, .int .i64 0, .string (⟨#[]⟩ : ByteArray), .string (⟨#[]⟩ : ByteArray), .slice none 0 0]) ?_ 3 _ rfl; (with_reducible repeat (first | apply b1 | apply b2 | apply b3)); refine blk_put (cs := #[.int .i64 ((rd_T41 l0_0 x31_2).f0.f0), .int .i64 ((rd_T41 l0_0 x31_2).f0.f1), .int .i64 0, .int .i64 0, .int .i64 0, .int .i64 0, .string (⟨#[]⟩ : ByteArray), .string (⟨#[]⟩ : ByteArray), .slice none 0 0]) ?_ 2 _ rfl; (with_reducible repeat (first | apply b1 | apply b2 | apply b3)); refine blk_put (cs := #[.int .i64 ((rd_T41 l0_0 x31_2).f0.f0), .int .i64 0, .int .i64 0, .int .i64 0, .int .i64 0, .int .i64 0, .string (⟨#[]⟩ : ByteArray), .string (⟨#[]⟩ : ByteArray), .slice none 0 0]) ?_ 1 _ rfl; (with_reducible repeat (first | apply b1 | apply b2 | apply b3)); refine blk_put (cs := #[.int .i64 0, .int .i64 0, .int .i64 0, .int .i64 0, .int .i64 0, .int .i64 0, .string (⟨#[]⟩ : ByteArray), .string (⟨#[]⟩ : ByteArray), .slice none 0 0]) ?_ 0 _ rfl; (with_reducible repeat (first | apply b1 | apply b2 | apply b3)); exact BK261.out) hb); have n5_ := Aside0.mk (below_step (by repeat (first | (with_reducible first | exact HB.out | apply l1 | apply l2 | apply l3 | refine below_set ?_ GE250.out | refine below_set ?_ GE259.out | refine below_set ?_ GE261.out) | exact HB.out)) hb); clear HO_6; clear HO_10; clear BK250; clear BK259; clear BK261; clear HB; have HO_6 := n0_; have HO_10 := n1_; have BK250 := n2_; have BK259 := n3_; have BK261 := n4_; have HB := n5_; clear n0_ n1_ n2_ n3_ n4_ n5_; (try clear hb); (try clear hb2); (try clear hk); (try clear hi); obtain ⟨Ao34, co34, eo34⟩ := Kd.R_slice HO_6.out; subst eo34; have p263 : 0 ≤ (x31_2 : Int) := of_decide_eq_true (by first | (with_reducible assumption) | assumption); have q263 : x31_2 < (x6_1.length : Int) := of_decide_eq_true (by first | (with_reducible assumption) | assumption); obtain ⟨ad263, e263, hx263_0⟩ := Kd.at_int (Kd.R_reads' HO_6.out).2.2 x31_2 p263 q263; cases e263; replace p263 := eq_true p263; replace q263 := eq_true q263) | ((with_reducible refine gate_builtin (b := .append) (xs := #[.tmp 52, .tmp 57]) rfl ?_); at_builtin; refine Kd.R_append (Kd.int .i64) (w0 := w) w.heap.size rfl (.tmp 52) (.tmp 57) 25 3 (.int .i64 0) 8 rfl Try.underlying25 info3 rfl (by decide) (by omega) u10 x10_2 (rd x6_1 x31_2) [.int .i64 (rd x6_1 x31_2)] (fun k_ => some k_ ≠ (.slice (some ad263) x6_1.length co34 : Value).ownBlock) (fun _ => False) rfl rfl ?aP (fun _ hk => hk.elim) ?aF ?aO ?aB ?aS ?aL ?_; (case aP => exact rfl); (case aB => exact (by repeat (first | (with_reducible first | exact HB.out | apply l1 | apply l2 | apply l3 | refine below_set ?_ GE250.out | refine below_set ?_ GE259.out | refine below_set ?_ GE261.out) | exact HB.out))); (case aF => exact (fun k_ hk => Kd.fresh' (Kd.R_lt (by (with_reducible repeat (first | apply Kd.R_alloc | apply Kd.R_drewN | apply Kd.R_drew)); exact HO_6.out)) k_ hk)); (case aO => exact (by (with_reducible repeat (first | apply Kd.R_alloc | apply Kd.R_drewN | apply Kd.R_drew)); exact HO_10.out)); (case aS => exact (below_size (by repeat (first | (with_reducible first | exact HB.out | apply l1 | apply l2 | apply l3 | refine below_set ?_ GE250.out | refine below_set ?_ GE259.out | refine below_set ?_ GE261.out) | exact HB.out)))); (case aL => have := LMc25.out; omega); intro v265 w35 ho hb hg hat; rw [← Ny264.out] at ho; have n0_ := Aside0.mk (Kd.R_after (ok := (fun _ => True)) (by (with_reducible repeat (first | apply Kd.R_alloc | apply Kd.R_drewN | apply Kd.R_drew)); exact Kd.R_mono HO_6.out (fun _ hk => ⟨trivial, hk⟩)) hg hat); have n1_ := Aside0.mk (blk_grown (by (with_reducible repeat (first | apply b1 | apply b2 | apply b3)); exact BK250.out) hg (Kd.R_ne HO_10.out BK250.out (by decide))); have n2_ := Aside0.mk (blk_grown (by (with_reducible repeat (first | apply b1 | apply b2 | apply b3)); exact BK259.out) hg (Kd.R_ne HO_10.out BK259.out (by decide))); have n3_ := Aside0.mk (blk_grown (by (with_reducible repeat (first | apply b1 | apply b2 | apply b3)); exact BK261.out) hg (Kd.R_ne HO_10.out BK261.out (by decide))); have n4_ := Aside0.mk (hb); have n5_ := Aside0.mk (ho); clear HO_6; clear BK250; clear BK259; clear BK261; clear HB; clear HO_10; have HO_6 := n0_; have BK250 := n1_; have BK259 := n2_; have BK261 := n3_; have HB := n4_; have HO266 := n5_; clear n0_ n1_ n2_ n3_ n4_ n5_; clear ho hb hg hat))
                  go_roundg k2
                  case measure => have := HK1.out; have := HK2.out; omega
                  case rel => exact ⟨(y264), (wrap64 (x31_2 + 1)), (by first | rfl | (simp; done) | (simp [*]; done)), H', ⟨by have := HK1.out; have := HK2.out; omega⟩, ⟨by (with_reducible repeat (first | apply Kd.R_alloc | apply Kd.R_drewN | apply Kd.R_drew)); exact Kd.R_mono HO_6.out (fun _ hk => hk.2)⟩, ⟨by (with_reducible repeat (first | apply Kd.R_alloc | apply Kd.R_drewN | apply Kd.R_drew)); exact HO266.out⟩, ⟨by (with_reducible repeat (first | apply b1 | apply b2 | apply b3)); exact BK250.out⟩, ⟨by (with_reducible repeat (first | apply b1 | apply b2 | apply b3)); exact BK259.out⟩, ⟨by repeat (first | (with_reducible first | exact HB.out | apply l1 | apply l2 | apply l3 | refine below_set ?_ GE250.out | refine below_set ?_ GE259.out | refine below_set ?_ GE261.out) | exact HB.out)⟩⟩
                 ·rw [if_neg c25] at H
                  exact absurd H (by simp)
                ·rw [if_neg c24] at H
                 exact absurd H (by simp)
               ·rw [if_neg c23] at H
                have c23b0 : decide (0 < t262) = false := decide_eq_false c23
                clear c23
                have H' := Aside0.mk H
                clear H
                have hnb36 := NB250_259.out
                have hnc36 := NB259_250.out
                obtain ⟨hcz37_0, hfz37_0⟩ := blk_cells1 BK250.out
                have p260 : 0 ≤ (x31_2 : Int) := of_decide_eq_true (by first | (with_reducible assumption) | assumption)
                have q260 : x31_2 < (l0_0.length : Int) := of_decide_eq_true (by first | (with_reducible assumption) | assumption)
                obtain ⟨ad260, A260_8, c260_8, e260, hx260_0, hx260_1, hx260_2, hx260_3, hx260_4, hx260_5, hx260_6, hx260_7, hx260_8, hl260_8, hi260_8⟩ := at_T41 HR0_0.out x31_2 p260 q260
                obtain rfl : ad258 = ad260 := (by injection e260)
                replace hx260_0 := (HB.out.cell (World.block_lt_of_cell? w _ hx260_0)).trans hx260_0
                replace hx260_1 := (HB.out.cell (World.block_lt_of_cell? w _ hx260_1)).trans hx260_1
                replace hx260_2 := (HB.out.cell (World.block_lt_of_cell? w _ hx260_2)).trans hx260_2
                replace hx260_3 := (HB.out.cell (World.block_lt_of_cell? w _ hx260_3)).trans hx260_3
                replace hx260_4 := (HB.out.cell (World.block_lt_of_cell? w _ hx260_4)).trans hx260_4
                replace hx260_5 := (HB.out.cell (World.block_lt_of_cell? w _ hx260_5)).trans hx260_5
                replace hx260_6 := (HB.out.cell (World.block_lt_of_cell? w _ hx260_6)).trans hx260_6
                replace hx260_7 := (HB.out.cell (World.block_lt_of_cell? w _ hx260_7)).trans hx260_7
                replace hx260_8 := (HB.out.cell (World.block_lt_of_cell? w _ hx260_8)).trans hx260_8
                have HR260_8 := Aside0.mk hi260_8
                have HC260_8 := Aside0.mk hl260_8
                clear hi260_8 hl260_8
                replace p260 := eq_true p260
                replace q260 := eq_true q260
                go_wp2_with (first | ((with_reducible refine gate_dst (N := 12) rfl ?_); refine box_event (by rfl) (N := 12) (by rfl) (cs := #[.int .i64 0, .int .i64 0, .int .i64 0, .int .i64 0, .int .i64 0, .int .i64 0, .string (⟨#[]⟩ : ByteArray), .string (⟨#[]⟩ : ByteArray), .slice none 0 0]) (t := 41) (by first | (go_simp; done) | (go_simp; rfl)) ?_; intro gb261 hg w38 hbox hb; obtain ⟨hb_, hw_⟩ := box_facts (by repeat (first | (with_reducible first | exact HB.out | apply l1 | apply l2 | apply l3 | refine below_set ?_ GE250.out | refine below_set ?_ GE259.out) | exact HB.out)) hg hb; have n0_ := Aside0.mk (Kd.R_below (by (with_reducible repeat (first | apply Kd.R_alloc | apply Kd.R_drewN | apply Kd.R_drew)); exact HO_6.out) hb); have n1_ := Aside0.mk (Kd.R_below (by (with_reducible repeat (first | apply Kd.R_alloc | apply Kd.R_drewN | apply Kd.R_drew)); exact HO_10.out) hb); have n2_ := Aside0.mk (blk_below (by (with_reducible repeat (first | apply b1 | apply b2 | apply b3)); exact BK250.out) hb); have n3_ := Aside0.mk (blk_below (by (with_reducible repeat (first | apply b1 | apply b2 | apply b3)); exact BK259.out) hb); have n4_ := Aside0.mk (hb_); have n5_ := Aside0.mk (hbox); have n6_ := Aside0.mk (hw_); have n7_ := Aside0.mk (hw_); have n8_ := Aside0.mk ((by rw [hg]; exact Nat.ne_of_lt (blk_lt (by (with_reducible repeat (first | apply b1 | apply b2 | apply b3)); exact BK250.out)) : gb250 ≠ gb261)); have n9_ := Aside0.mk ((by rw [hg]; exact Nat.ne_of_gt (blk_lt (by (with_reducible repeat (first | apply b1 | apply b2 | apply b3)); exact BK250.out)) : gb261 ≠ gb250)); have n10_ := Aside0.mk ((by rw [hg]; exact Nat.ne_of_lt (blk_lt (by (with_reducible repeat (first | apply b1 | apply b2 | apply b3)); exact BK259.out)) : gb259 ≠ gb261)); have n11_ := Aside0.mk ((by rw [hg]; exact Nat.ne_of_gt (blk_lt (by (with_reducible repeat (first | apply b1 | apply b2 | apply b3)); exact BK259.out)) : gb261 ≠ gb259)); clear HO_6; clear HO_10; clear BK250; clear BK259; clear HB; have HO_6 := n0_; have HO_10 := n1_; have BK250 := n2_; have BK259 := n3_; have HB := n4_; have BK261 := n5_; have GW261 := n6_; have GE261 := n7_; have NB250_261 := n8_; have NB261_250 := n9_; have NB259_261 := n10_; have NB261_259 := n11_; clear n0_ n1_ n2_ n3_ n4_ n5_ n6_ n7_ n8_ n9_ n10_ n11_; clear hb hbox hg hb_ hw_; have hnb39 := NB261_250.out; have hnc39 := NB250_261.out; have hnb40 := NB261_259.out; have hnc40 := NB259_261.out; obtain ⟨hcz41_0, hcz41_1, hcz41_2, hcz41_3, hcz41_4, hcz41_5, hcz41_6, hcz41_7, hcz41_8, hfz41_0, hfz41_1, hfz41_2, hfz41_3, hfz41_4, hfz41_5, hfz41_6, hfz41_7, hfz41_8⟩ := blk_cells9 BK261.out; obtain ⟨hcz42_0, hcz42_1, hcz42_2, hcz42_3, hcz42_4, hcz42_5, hcz42_6, hcz42_7, hcz42_8, hfz42_0, hfz42_1, hfz42_2, hfz42_3, hfz42_4, hfz42_5, hfz42_6, hfz42_7, hfz42_8⟩ := blk_cells9 BK259.out) | (go_at_call 24; (with_reducible refine (ratio_Cmp.calls ((rd_T41 l0_0 x31_2).f1.f0) ((rd_T41 l0_0 x31_2).f1.f1) ((rd_T41 l0_0 x25_1).f0.f0) ((rd_T41 l0_0 x25_1).f0.f1) t262 _ A22.out).mono ?_); rintro e w43 ⟨rfl, hb⟩; have n0_ := Aside0.mk (Kd.R_below (by (with_reducible repeat (first | apply Kd.R_alloc | apply Kd.R_drewN | apply Kd.R_drew)); exact (Kd.R_mono (Kd.R_far (p := ⟨gb261, 8, none⟩) (Kd.R_far (p := ⟨gb261, 7, none⟩) (Kd.R_far (p := ⟨gb261, 6, none⟩) (Kd.R_far (p := ⟨gb261, 5, none⟩) (Kd.R_far (p := ⟨gb261, 4, none⟩) (Kd.R_far (p := ⟨gb261, 3, none⟩) (Kd.R_far (p := ⟨gb261, 2, none⟩) (Kd.R_far (p := ⟨gb261, 1, none⟩) (Kd.R_far (p := ⟨gb261, 0, none⟩) (Kd.R_types HO_6.out BK261.out (by decide)) (fun _ hk => hk.2) (.int .i64 ((rd_T41 l0_0 x31_2).f0.f0))) (fun _ hk => hk.2) (.int .i64 ((rd_T41 l0_0 x31_2).f0.f1))) (fun _ hk => hk.2) (.int .i64 ((rd_T41 l0_0 x31_2).f1.f0))) (fun _ hk => hk.2) (.int .i64 ((rd_T41 l0_0 x31_2).f1.f1))) (fun _ hk => hk.2) (.int .i64 ((rd_T41 l0_0 x31_2).f2))) (fun _ hk => hk.2) (.int .i64 ((rd_T41 l0_0 x31_2).f3))) (fun _ hk => hk.2) (.string ((rd_T41 l0_0 x31_2).f4))) (fun _ hk => hk.2) (.string ((rd_T41 l0_0 x31_2).f5.f0))) (fun _ hk => hk.2) (.slice A260_8 ((rd_T41 l0_0 x31_2).f5.f1).length c260_8)) (fun _ h_ => h_.1))) hb); have n1_ := Aside0.mk (Kd.R_below (by (with_reducible repeat (first | apply Kd.R_alloc | apply Kd.R_drewN | apply Kd.R_drew)); exact (Kd.R_mono (Kd.R_far (p := ⟨gb261, 8, none⟩) (Kd.R_far (p := ⟨gb261, 7, none⟩) (Kd.R_far (p := ⟨gb261, 6, none⟩) (Kd.R_far (p := ⟨gb261, 5, none⟩) (Kd.R_far (p := ⟨gb261, 4, none⟩) (Kd.R_far (p := ⟨gb261, 3, none⟩) (Kd.R_far (p := ⟨gb261, 2, none⟩) (Kd.R_far (p := ⟨gb261, 1, none⟩) (Kd.R_far (p := ⟨gb261, 0, none⟩) (Kd.R_types HO_10.out BK261.out (by decide)) (fun _ hk => hk.2) (.int .i64 ((rd_T41 l0_0 x31_2).f0.f0))) (fun _ hk => hk.2) (.int .i64 ((rd_T41 l0_0 x31_2).f0.f1))) (fun _ hk => hk.2) (.int .i64 ((rd_T41 l0_0 x31_2).f1.f0))) (fun _ hk => hk.2) (.int .i64 ((rd_T41 l0_0 x31_2).f1.f1))) (fun _ hk => hk.2) (.int .i64 ((rd_T41 l0_0 x31_2).f2))) (fun _ hk => hk.2) (.int .i64 ((rd_T41 l0_0 x31_2).f3))) (fun _ hk => hk.2) (.string ((rd_T41 l0_0 x31_2).f4))) (fun _ hk => hk.2) (.string ((rd_T41 l0_0 x31_2).f5.f0))) (fun _ hk => hk.2) (.slice A260_8 ((rd_T41 l0_0 x31_2).f5.f1).length c260_8)) (fun _ h_ => h_.1))) hb); have n2_ := Aside0.mk (blk_below (g := gb250) (o := .cells #[.slice (some ad258) l0_0.length c0_0] 24 (0, 0)) (by (with_reducible repeat (first | apply b1 | apply b2 | apply b3)); refine blk_far ?_ NB250_261.out _; (with_reducible repeat (first | apply b1 | apply b2 | apply b3)); refine blk_far ?_ NB250_261.out _; (with_reducible repeat (first | apply b1 | apply b2 | apply b3)); refine blk_far ?_ NB250_261.out _; (with_reducible repeat (first | apply b1 | apply b2 | apply b3)); refine blk_far ?_ NB250_261.out _; (with_reducible repeat (first | apply b1 | apply b2 | apply b3)); refine blk_far ?_ NB250_261.out _; (with_reducible repeat (first | apply b1 | apply b2 | apply b3)); refine blk_far ?_ NB250_261.out _; (with_reducible repeat (first | apply b1 | apply b2 | apply b3)); refine blk_far ?_ NB250_261.out _; (with_reducible repeat (first | apply b1 | apply b2 | apply b3)); refine blk_far ?_ NB250_261.out _; (with_reducible repeat (first | apply b1 | apply b2 | apply b3)); refine blk_far ?_ NB250_261.out _; (with_reducible repeat (first | apply b1 | apply b2 | apply b3)); exact BK250.out) hb); have n3_ := Aside0.mk (blk_below (g := gb259) (o := .cells #[.int .i64 ((rd_T41 l0_0 x25_1).f0.f0), .int .i64 ((rd_T41 l0_0 x25_1).f0.f1), .int .i64 ((rd_T41 l0_0 x25_1).f1.f0), .int .i64 ((rd_T41 l0_0 x25_1).f1.f1), .int .i64 ((rd_T41 l0_0 x25_1).f2), .int .i64 ((rd_T41 l0_0 x25_1).f3), .string ((rd_T41 l0_0 x25_1).f4), .string ((rd_T41 l0_0 x25_1).f5.f0), .slice A258_8 ((rd_T41 l0_0 x25_1).f5.f1).length c258_8] 41 (0, 0)) (by (with_reducible repeat (first | apply b1 | apply b2 | apply b3)); refine blk_far ?_ NB259_261.out _; (with_reducible repeat (first | apply b1 | apply b2 | apply b3)); refine blk_far ?_ NB259_261.out _; (with_reducible repeat (first | apply b1 | apply b2 | apply b3)); refine blk_far ?_ NB259_261.out _; (with_reducible repeat (first | apply b1 | apply b2 | apply b3)); refine blk_far ?_ NB259_261.out _; (with_reducible repeat (first | apply b1 | apply b2 | apply b3)); refine blk_far ?_ NB259_261.out _; (with_reducible repeat (first | apply b1 | apply b2 | apply b3)); refine blk_far ?_ NB259_261.out _; (with_reducible repeat (first | apply b1 | apply b2 | apply b3)); refine blk_far ?_ NB259_261.out _; (with_reducible repeat (first | apply b1 | apply b2 | apply b3)); refine blk_far ?_ NB259_261.out _; (with_reducible repeat (first | apply b1 | apply b2 | apply b3)); refine blk_far ?_ NB259_261.out _; (with_reducible repeat (first | apply b1 | apply b2 | apply b3)); exact BK259.out) hb); have n4_ := Aside0.mk (blk_below (g := gb261) (o := .cells #[.int .i64 ((rd_T41 l0_0 x31_2).f0.f0), .int .i64 ((rd_T41 l0_0 x31_2).f0.f1), .int .i64 ((rd_T41 l0_0 x31_2).f1.f0), .int .i64 ((rd_T41 l0_0 x31_2).f1.f1), .int .i64 ((rd_T41 l0_0 x31_2).f2), .int .i64 ((rd_T41 l0_0 x31_2).f3), .string ((rd_T41 l0_0 x31_2).f4), .string ((rd_T41 l0_0 x31_2).f5.f0), .slice A260_8 ((rd_T41 l0_0 x31_2).f5.f1).length c260_8] 41 (0, 0)) (by (with_reducible repeat (first | apply b1 | apply b2 | apply b3)); refine blk_put (cs := #[.int .i64 ((rd_T41 l0_0 x31_2).f0.f0), .int .i64 ((rd_T41 l0_0 x31_2).f0.f1), .int .i64 ((rd_T41 l0_0 x31_2).f1.f0), .int .i64 ((rd_T41 l0_0 x31_2).f1.f1), .int .i64 ((rd_T41 l0_0 x31_2).f2), .int .i64 ((rd_T41 l0_0 x31_2).f3), .string ((rd_T41 l0_0 x31_2).f4), .string ((rd_T41 l0_0 x31_2).f5.f0), .slice none 0 0]) ?_ 8 _ rfl; (with_reducible repeat (first | apply b1 | apply b2 | apply b3)); refine blk_put (cs := #[.int .i64 ((rd_T41 l0_0 x31_2).f0.f0), .int .i64 ((rd_T41 l0_0 x31_2).f0.f1), .int .i64 ((rd_T41 l0_0 x31_2).f1.f0), .int .i64 ((rd_T41 l0_0 x31_2).f1.f1), .int .i64 ((rd_T41 l0_0 x31_2).f2), .int .i64 ((rd_T41 l0_0 x31_2).f3), .string ((rd_T41 l0_0 x31_2).f4), .string (⟨#[]⟩ : ByteArray), .slice none 0 0]) ?_ 7 _ rfl; (with_reducible repeat (first | apply b1 | apply b2 | apply b3)); refine blk_put (cs := #[.int .i64 ((rd_T41 l0_0 x31_2).f0.f0), .int .i64 ((rd_T41 l0_0 x31_2).f0.f1), .int .i64 ((rd_T41 l0_0 x31_2).f1.f0), .int .i64 ((rd_T41 l0_0 x31_2).f1.f1), .int .i64 ((rd_T41 l0_0 x31_2).f2), .int .i64 ((rd_T41 l0_0 x31_2).f3), .string (⟨#[]⟩ : ByteArray), .string (⟨#[]⟩ : ByteArray), .slice none 0 0]) ?_ 6 _ rfl; (with_reducible repeat (first | apply b1 | apply b2 | apply b3)); refine blk_put (cs := #[.int .i64 ((rd_T41 l0_0 x31_2).f0.f0), .int .i64 ((rd_T41 l0_0 x31_2).f0.f1), .int .i64 ((rd_T41 l0_0 x31_2).f1.f0), .int .i64 ((rd_T41 l0_0 x31_2).f1.f1), .int .i64 ((rd_T41 l0_0 x31_2).f2), .int .i64 0, .string (⟨#[]⟩ : ByteArray), .string (⟨#[]⟩ : ByteArray), .slice none 0 0]) ?_ 5 _ rfl; (with_reducible repeat (first | apply b1 | apply b2 | apply b3)); refine blk_put (cs := #[.int .i64 ((rd_T41 l0_0 x31_2).f0.f0), .int .i64 ((rd_T41 l0_0 x31_2).f0.f1), .int .i64 ((rd_T41 l0_0 x31_2).f1.f0), .int .i64 ((rd_T41 l0_0 x31_2).f1.f1), .int .i64 0, .int .i64 0, .string (⟨#[]⟩ : ByteArray), .string (⟨#[]⟩ : ByteArray), .slice none 0 0]) ?_ 4 _ rfl; (with_reducible repeat (first | apply b1 | apply b2 | apply b3)); refine blk_put (cs := #[.int .i64 ((rd_T41 l0_0 x31_2).f0.f0), .int .i64 ((rd_T41 l0_0 x31_2).f0.f1), .int .i64 ((rd_T41 l0_0 x31_2).f1.f0), .int .i64 0, .int .i64 0, .int .i64 0, .string (⟨#[]⟩ : ByteArray), .string (⟨#[]⟩ : ByteArray), .slice none 0 0]) ?_ 3 _ rfl; (with_reducible repeat (first | apply b1 | apply b2 | apply b3)); refine blk_put (cs := #[.int .i64 ((rd_T41 l0_0 x31_2).f0.f0), .int .i64 ((rd_T41 l0_0 x31_2).f0.f1), .int .i64 0, .int .i64 0, .int .i64 0, .int .i64 0, .string (⟨#[]⟩ : ByteArray), .string (⟨#[]⟩ : ByteArray), .slice none 0 0]) ?_ 2 _ rfl; (with_reducible repeat (first | apply b1 | apply b2 | apply b3)); refine blk_put (cs := #[.int .i64 ((rd_T41 l0_0 x31_2).f0.f0), .int .i64 0, .int .i64 0, .int .i64 0, .int .i64 0, .int .i64 0, .string (⟨#[]⟩ : ByteArray), .string (⟨#[]⟩ : ByteArray), .slice none 0 0]) ?_ 1 _ rfl; (with_reducible repeat (first | apply b1 | apply b2 | apply b3)); refine blk_put (cs := #[.int .i64 0, .int .i64 0, .int .i64 0, .int .i64 0, .int .i64 0, .int .i64 0, .string (⟨#[]⟩ : ByteArray), .string (⟨#[]⟩ : ByteArray), .slice none 0 0]) ?_ 0 _ rfl; (with_reducible repeat (first | apply b1 | apply b2 | apply b3)); exact BK261.out) hb); have n5_ := Aside0.mk (below_step (by repeat (first | (with_reducible first | exact HB.out | apply l1 | apply l2 | apply l3 | refine below_set ?_ GE250.out | refine below_set ?_ GE259.out | refine below_set ?_ GE261.out) | exact HB.out)) hb); clear HO_6; clear HO_10; clear BK250; clear BK259; clear BK261; clear HB; have HO_6 := n0_; have HO_10 := n1_; have BK250 := n2_; have BK259 := n3_; have BK261 := n4_; have HB := n5_; clear n0_ n1_ n2_ n3_ n4_ n5_; (try clear hb); (try clear hb2); (try clear hk); (try clear hi)))
                go_roundg k2
                case measure => have := HK1.out; have := HK2.out; omega
                case rel => exact ⟨(x10_2), (wrap64 (x31_2 + 1)), (by first | rfl | (simp; done) | (simp [*]; done)), H', ⟨by have := HK1.out; have := HK2.out; omega⟩, ⟨by (with_reducible repeat (first | apply Kd.R_alloc | apply Kd.R_drewN | apply Kd.R_drew)); exact HO_6.out⟩, ⟨by (with_reducible repeat (first | apply Kd.R_alloc | apply Kd.R_drewN | apply Kd.R_drew)); exact HO_10.out⟩, ⟨by (with_reducible repeat (first | apply b1 | apply b2 | apply b3)); exact BK250.out⟩, ⟨by (with_reducible repeat (first | apply b1 | apply b2 | apply b3)); exact BK259.out⟩, ⟨by repeat (first | (with_reducible first | exact HB.out | apply l1 | apply l2 | apply l3 | refine below_set ?_ GE250.out | refine below_set ?_ GE259.out | refine below_set ?_ GE261.out) | exact HB.out)⟩⟩
              ·rw [if_neg c21] at H
               have c21b0 : (((rd_T41 l0_0 x31_2).f3) == ((rd_T41 l0_0 x25_1).f3)) = false := beq_eq_false_iff_ne.mpr c21
               have c21b1 : (((rd_T41 l0_0 x31_2).f3) != ((rd_T41 l0_0 x25_1).f3)) = true := bne_iff_ne.mpr c21
               have H' := Aside0.mk H
               clear H
               have hnb44 := NB250_259.out
               have hnc44 := NB259_250.out
               obtain ⟨hcz45_0, hfz45_0⟩ := blk_cells1 BK250.out
               have p260 : 0 ≤ (x31_2 : Int) := of_decide_eq_true (by first | (with_reducible assumption) | assumption)
               have q260 : x31_2 < (l0_0.length : Int) := of_decide_eq_true (by first | (with_reducible assumption) | assumption)
               obtain ⟨ad260, A260_8, c260_8, e260, hx260_0, hx260_1, hx260_2, hx260_3, hx260_4, hx260_5, hx260_6, hx260_7, hx260_8, hl260_8, hi260_8⟩ := at_T41 HR0_0.out x31_2 p260 q260
               obtain rfl : ad258 = ad260 := (by injection e260)
               replace hx260_0 := (HB.out.cell (World.block_lt_of_cell? w _ hx260_0)).trans hx260_0
               replace hx260_1 := (HB.out.cell (World.block_lt_of_cell? w _ hx260_1)).trans hx260_1
               replace hx260_2 := (HB.out.cell (World.block_lt_of_cell? w _ hx260_2)).trans hx260_2
               replace hx260_3 := (HB.out.cell (World.block_lt_of_cell? w _ hx260_3)).trans hx260_3
               replace hx260_4 := (HB.out.cell (World.block_lt_of_cell? w _ hx260_4)).trans hx260_4
               replace hx260_5 := (HB.out.cell (World.block_lt_of_cell? w _ hx260_5)).trans hx260_5
               replace hx260_6 := (HB.out.cell (World.block_lt_of_cell? w _ hx260_6)).trans hx260_6
               replace hx260_7 := (HB.out.cell (World.block_lt_of_cell? w _ hx260_7)).trans hx260_7
               replace hx260_8 := (HB.out.cell (World.block_lt_of_cell? w _ hx260_8)).trans hx260_8
               have HR260_8 := Aside0.mk hi260_8
               have HC260_8 := Aside0.mk hl260_8
               clear hi260_8 hl260_8
               replace p260 := eq_true p260
               replace q260 := eq_true q260
               go_wp2_with (first | ((with_reducible refine gate_dst (N := 12) rfl ?_); refine box_event (by rfl) (N := 12) (by rfl) (cs := #[.int .i64 0, .int .i64 0, .int .i64 0, .int .i64 0, .int .i64 0, .int .i64 0, .string (⟨#[]⟩ : ByteArray), .string (⟨#[]⟩ : ByteArray), .slice none 0 0]) (t := 41) (by first | (go_simp; done) | (go_simp; rfl)) ?_; intro gb261 hg w46 hbox hb; obtain ⟨hb_, hw_⟩ := box_facts (by repeat (first | (with_reducible first | exact HB.out | apply l1 | apply l2 | apply l3 | refine below_set ?_ GE250.out | refine below_set ?_ GE259.out) | exact HB.out)) hg hb; have n0_ := Aside0.mk (Kd.R_below (by (with_reducible repeat (first | apply Kd.R_alloc | apply Kd.R_drewN | apply Kd.R_drew)); exact HO_6.out) hb); have n1_ := Aside0.mk (Kd.R_below (by (with_reducible repeat (first | apply Kd.R_alloc | apply Kd.R_drewN | apply Kd.R_drew)); exact HO_10.out) hb); have n2_ := Aside0.mk (blk_below (by (with_reducible repeat (first | apply b1 | apply b2 | apply b3)); exact BK250.out) hb); have n3_ := Aside0.mk (blk_below (by (with_reducible repeat (first | apply b1 | apply b2 | apply b3)); exact BK259.out) hb); have n4_ := Aside0.mk (hb_); have n5_ := Aside0.mk (hbox); have n6_ := Aside0.mk (hw_); have n7_ := Aside0.mk (hw_); have n8_ := Aside0.mk ((by rw [hg]; exact Nat.ne_of_lt (blk_lt (by (with_reducible repeat (first | apply b1 | apply b2 | apply b3)); exact BK250.out)) : gb250 ≠ gb261)); have n9_ := Aside0.mk ((by rw [hg]; exact Nat.ne_of_gt (blk_lt (by (with_reducible repeat (first | apply b1 | apply b2 | apply b3)); exact BK250.out)) : gb261 ≠ gb250)); have n10_ := Aside0.mk ((by rw [hg]; exact Nat.ne_of_lt (blk_lt (by (with_reducible repeat (first | apply b1 | apply b2 | apply b3)); exact BK259.out)) : gb259 ≠ gb261)); have n11_ := Aside0.mk ((by rw [hg]; exact Nat.ne_of_gt (blk_lt (by (with_reducible repeat (first | apply b1 | apply b2 | apply b3)); exact BK259.out)) : gb261 ≠ gb259)); clear HO_6; clear HO_10; clear BK250; clear BK259; clear HB; have HO_6 := n0_; have HO_10 := n1_; have BK250 := n2_; have BK259 := n3_; have HB := n4_; have BK261 := n5_; have GW261 := n6_; have GE261 := n7_; have NB250_261 := n8_; have NB261_250 := n9_; have NB259_261 := n10_; have NB261_259 := n11_; clear n0_ n1_ n2_ n3_ n4_ n5_ n6_ n7_ n8_ n9_ n10_ n11_; clear hb hbox hg hb_ hw_; have hnb47 := NB261_250.out; have hnc47 := NB250_261.out; have hnb48 := NB261_259.out; have hnc48 := NB259_261.out; obtain ⟨hcz49_0, hcz49_1, hcz49_2, hcz49_3, hcz49_4, hcz49_5, hcz49_6, hcz49_7, hcz49_8, hfz49_0, hfz49_1, hfz49_2, hfz49_3, hfz49_4, hfz49_5, hfz49_6, hfz49_7, hfz49_8⟩ := blk_cells9 BK261.out; obtain ⟨hcz50_0, hcz50_1, hcz50_2, hcz50_3, hcz50_4, hcz50_5, hcz50_6, hcz50_7, hcz50_8, hfz50_0, hfz50_1, hfz50_2, hfz50_3, hfz50_4, hfz50_5, hfz50_6, hfz50_7, hfz50_8⟩ := blk_cells9 BK259.out))
               go_roundg k2
               case measure => have := HK1.out; have := HK2.out; omega
               case rel => exact ⟨(x10_2), (wrap64 (x31_2 + 1)), (by first | rfl | (simp; done) | (simp [*]; done)), H', ⟨by have := HK1.out; have := HK2.out; omega⟩, ⟨by (with_reducible repeat (first | apply Kd.R_alloc | apply Kd.R_drewN | apply Kd.R_drew)); exact Kd.R_mono (Kd.R_far (p := ⟨gb261, 8, none⟩) (Kd.R_far (p := ⟨gb261, 7, none⟩) (Kd.R_far (p := ⟨gb261, 6, none⟩) (Kd.R_far (p := ⟨gb261, 5, none⟩) (Kd.R_far (p := ⟨gb261, 4, none⟩) (Kd.R_far (p := ⟨gb261, 3, none⟩) (Kd.R_far (p := ⟨gb261, 2, none⟩) (Kd.R_far (p := ⟨gb261, 1, none⟩) (Kd.R_far (p := ⟨gb261, 0, none⟩) (Kd.R_types HO_6.out BK261.out (by decide)) (fun _ hk => hk.2) (.int .i64 ((rd_T41 l0_0 x31_2).f0.f0))) (fun _ hk => hk.2) (.int .i64 ((rd_T41 l0_0 x31_2).f0.f1))) (fun _ hk => hk.2) (.int .i64 ((rd_T41 l0_0 x31_2).f1.f0))) (fun _ hk => hk.2) (.int .i64 ((rd_T41 l0_0 x31_2).f1.f1))) (fun _ hk => hk.2) (.int .i64 ((rd_T41 l0_0 x31_2).f2))) (fun _ hk => hk.2) (.int .i64 ((rd_T41 l0_0 x31_2).f3))) (fun _ hk => hk.2) (.string ((rd_T41 l0_0 x31_2).f4))) (fun _ hk => hk.2) (.string ((rd_T41 l0_0 x31_2).f5.f0))) (fun _ hk => hk.2) (.slice A260_8 ((rd_T41 l0_0 x31_2).f5.f1).length c260_8)) (fun _ hk => hk.1)⟩, ⟨by (with_reducible repeat (first | apply Kd.R_alloc | apply Kd.R_drewN | apply Kd.R_drew)); exact Kd.R_mono (Kd.R_far (p := ⟨gb261, 8, none⟩) (Kd.R_far (p := ⟨gb261, 7, none⟩) (Kd.R_far (p := ⟨gb261, 6, none⟩) (Kd.R_far (p := ⟨gb261, 5, none⟩) (Kd.R_far (p := ⟨gb261, 4, none⟩) (Kd.R_far (p := ⟨gb261, 3, none⟩) (Kd.R_far (p := ⟨gb261, 2, none⟩) (Kd.R_far (p := ⟨gb261, 1, none⟩) (Kd.R_far (p := ⟨gb261, 0, none⟩) (Kd.R_types HO_10.out BK261.out (by decide)) (fun _ hk => hk.2) (.int .i64 ((rd_T41 l0_0 x31_2).f0.f0))) (fun _ hk => hk.2) (.int .i64 ((rd_T41 l0_0 x31_2).f0.f1))) (fun _ hk => hk.2) (.int .i64 ((rd_T41 l0_0 x31_2).f1.f0))) (fun _ hk => hk.2) (.int .i64 ((rd_T41 l0_0 x31_2).f1.f1))) (fun _ hk => hk.2) (.int .i64 ((rd_T41 l0_0 x31_2).f2))) (fun _ hk => hk.2) (.int .i64 ((rd_T41 l0_0 x31_2).f3))) (fun _ hk => hk.2) (.string ((rd_T41 l0_0 x31_2).f4))) (fun _ hk => hk.2) (.string ((rd_T41 l0_0 x31_2).f5.f0))) (fun _ hk => hk.2) (.slice A260_8 ((rd_T41 l0_0 x31_2).f5.f1).length c260_8)) (fun _ hk => hk.1)⟩, ⟨by (with_reducible repeat (first | apply b1 | apply b2 | apply b3)); refine blk_far ?_ NB250_261.out _; (with_reducible repeat (first | apply b1 | apply b2 | apply b3)); refine blk_far ?_ NB250_261.out _; (with_reducible repeat (first | apply b1 | apply b2 | apply b3)); refine blk_far ?_ NB250_261.out _; (with_reducible repeat (first | apply b1 | apply b2 | apply b3)); refine blk_far ?_ NB250_261.out _; (with_reducible repeat (first | apply b1 | apply b2 | apply b3)); refine blk_far ?_ NB250_261.out _; (with_reducible repeat (first | apply b1 | apply b2 | apply b3)); refine blk_far ?_ NB250_261.out _; (with_reducible repeat (first | apply b1 | apply b2 | apply b3)); refine blk_far ?_ NB250_261.out _; (with_reducible repeat (first | apply b1 | apply b2 | apply b3)); refine blk_far ?_ NB250_261.out _; (with_reducible repeat (first | apply b1 | apply b2 | apply b3)); refine blk_far ?_ NB250_261.out _; (with_reducible repeat (first | apply b1 | apply b2 | apply b3)); exact BK250.out⟩, ⟨by (with_reducible repeat (first | apply b1 | apply b2 | apply b3)); refine blk_far ?_ NB259_261.out _; (with_reducible repeat (first | apply b1 | apply b2 | apply b3)); refine blk_far ?_ NB259_261.out _; (with_reducible repeat (first | apply b1 | apply b2 | apply b3)); refine blk_far ?_ NB259_261.out _; (with_reducible repeat (first | apply b1 | apply b2 | apply b3)); refine blk_far ?_ NB259_261.out _; (with_reducible repeat (first | apply b1 | apply b2 | apply b3)); refine blk_far ?_ NB259_261.out _; (with_reducible repeat (first | apply b1 | apply b2 | apply b3)); refine blk_far ?_ NB259_261.out _; (with_reducible repeat (first | apply b1 | apply b2 | apply b3)); refine blk_far ?_ NB259_261.out _; (with_reducible repeat (first | apply b1 | apply b2 | apply b3)); refine blk_far ?_ NB259_261.out _; (with_reducible repeat (first | apply b1 | apply b2 | apply b3)); refine blk_far ?_ NB259_261.out _; (with_reducible repeat (first | apply b1 | apply b2 | apply b3)); exact BK259.out⟩, ⟨by repeat (first | (with_reducible first | exact HB.out | apply l1 | apply l2 | apply l3 | refine below_set ?_ GE250.out | refine below_set ?_ GE259.out | refine below_set ?_ GE261.out) | exact HB.out)⟩⟩
             ·rw [if_neg c20] at H
              exact absurd H (by simp)
            ·rw [if_neg c19] at H
             exact absurd H (by simp)
           ·rw [if_neg c18] at H
            have c18b0 : decide (x31_2 < x25_1) = false := decide_eq_false c18
            clear c18
            replace H := Option.bind_eq_some_iff.mp H
            obtain ⟨⟨t267, t268⟩, A510, H⟩ := H
            (try dsimp only at H)
            have A51 := Aside0.mk A510
            clear A510
            by_cases c52 : 0 ≤ x25_1
            ·rw [if_pos c52] at H
             have c52b0 : decide (0 ≤ x25_1) = true := decide_eq_true c52
             clear c52
             by_cases c53 : x25_1 < (x6_1.length : Int)
             ·rw [if_pos c53] at H
              have c53b0 : decide (x25_1 < (x6_1.length : Int)) = true := decide_eq_true c53
              clear c53
              obtain ⟨y269, hy269⟩ : ∃ y_ : List Int, y_ = (x6_1.set (x25_1 : Int).toNat t267) := ⟨_, rfl⟩
              replace H : (lane_Lanes.l0 k2 y269 (mx x7_1 (wrap64 ((rd y269 x25_1) + 1))) l0_0 (l0_0.length : Int) (wrap64 (x25_1 + 1)) l0_0) = some (r1, r2, r3) := by first | (rw [hy269]; with_reducible exact H) | (have H2_ := (Option.bind_some _ _).symm.trans H; rw [hy269]; with_reducible exact H2_) | (have H2_ := (Option.bind_some _ _).symm.trans H; with_reducible exact H2_) | with_reducible exact H | (rw [hy269]; exact H) | exact H
              have Ny269 := Aside0.mk hy269
              clear hy269
              obtain ⟨ji55, hji55⟩ : ∃ j_ : Int, (mx x7_1 (wrap64 ((rd y269 x25_1) + 1))) = j_ := ⟨_, rfl⟩
              replace H : (lane_Lanes.l0 k2 y269 ji55 l0_0 (l0_0.length : Int) (wrap64 (x25_1 + 1)) l0_0) = some (r1, r2, r3) := by first | (rw [hji55] at H; exact H) | (simp only [hji55] at H ⊢; exact H)
              (try rw [hji55] at A51)
              have hji55_ : (if x7_1 < (wrap64 ((rd y269 x25_1) + 1)) then (wrap64 ((rd y269 x25_1) + 1)) else x7_1) = ji55 := hji55
              have H' := Aside0.mk H
              clear H
              obtain ⟨Ao56, co56, eo56⟩ := Kd.R_slice HO_10.out
              subst eo56
              go_wp2_with (first | (go_at_call 25; (with_reducible refine (lane_free_int.calls k2 0 1 (wrap64 ((x10_2.length : Int) + 1)) _ _ x10_2 t267 t268 _ ?side1 ?side2 A51.out).mono ?_); (case side1 => repeat (first | exact (Kd.R_reads' HO_10.out).2.2 | (with_reducible refine Kd.C_alloc ?_ _) | (with_reducible refine Kd.C_drewN ?_ _) | (with_reducible refine Kd.C_drew ?_))); (case side2 => exact (Kd.R_reads' HO_10.out).2.1); rintro e w' ⟨rfl, ⟨nd, rfl⟩⟩; (try (rw [drewN_self wr]; generalize hq_ : World.drewN wr _ = wr; have n0_ : Aside0 (Kd.R (Kd.int .i64) 3 wr w.heap.size (fun k_ => some k_ ≠ (v256 : Value).ownBlock) (.slice Ao56 x10_2.length co56) x10_2) := ⟨by rw [← hq_]; exact (by (with_reducible repeat (first | apply Kd.R_alloc | apply Kd.R_drewN | apply Kd.R_drew)); exact HO_10.out)⟩; have n1_ : Aside0 (Kd.R (Kd.int .i64) 3 wr w.heap.size (fun k_ => some k_ ≠ (.slice Ao56 x10_2.length co56 : Value).ownBlock) v256 x6_1) := ⟨by rw [← hq_]; exact (by (with_reducible repeat (first | apply Kd.R_alloc | apply Kd.R_drewN | apply Kd.R_drew)); exact HO_6.out)⟩; have n2_ : Aside0 (wr.heap[gb250]? = some (.cells #[.slice (some ad258) l0_0.length c0_0] 24 (0, 0))) := ⟨by rw [← hq_]; exact (by (with_reducible repeat (first | apply b1 | apply b2 | apply b3)); exact BK250.out)⟩; have n3_ : Aside0 (wr.heap[gb259]? = some (.cells #[.int .i64 ((rd_T41 l0_0 x25_1).f0.f0), .int .i64 ((rd_T41 l0_0 x25_1).f0.f1), .int .i64 ((rd_T41 l0_0 x25_1).f1.f0), .int .i64 ((rd_T41 l0_0 x25_1).f1.f1), .int .i64 ((rd_T41 l0_0 x25_1).f2), .int .i64 ((rd_T41 l0_0 x25_1).f3), .string ((rd_T41 l0_0 x25_1).f4), .string ((rd_T41 l0_0 x25_1).f5.f0), .slice A258_8 ((rd_T41 l0_0 x25_1).f5.f1).length c258_8] 41 (0, 0))) := ⟨by rw [← hq_]; exact (by (with_reducible repeat (first | apply b1 | apply b2 | apply b3)); exact BK259.out)⟩; have n4_ : Aside0 (Below w.heap.size w wr) := ⟨by rw [← hq_]; exact (by repeat (first | (with_reducible first | exact HB.out | apply l1 | apply l2 | apply l3 | refine below_set ?_ GE250.out | refine below_set ?_ GE259.out) | exact HB.out))⟩; clear HO_10 HO_6 BK250 BK259 HB hq_; have HO_10 := n0_; have HO_6 := n1_; have BK250 := n2_; have BK259 := n3_; have HB := n4_; clear n0_ n1_ n2_ n3_ n4_)); have p54 : 0 ≤ (x25_1 : Int) := of_decide_eq_true (by first | (with_reducible assumption) | assumption); have q54 : (x25_1 : Int) < ((x6_1.length : Int) : Int) := of_decide_eq_true (by first | (with_reducible assumption) | assumption); obtain ⟨go54, co54, eo54, gb54, gl54, cl54, HG54⟩ := Kd.R_form HO_6.out (by omega); (first | cases eo54 | (injection eo54 with ea_ en_ ec_; (first | subst ea_ | (injection ea_ with ea_; subst ea_)); subst ec_; clear en_)); have GB54 := Aside0.mk gb54; have GG54 := Aside0.mk HG54; clear gb54 gl54 HG54; obtain ⟨hx54_0, hf54_0⟩ := Kd.R_celln 0 HO_6.out (x25_1 : Int) p54 q54; replace p54 := eq_true p54; replace q54 := eq_true q54; obtain ⟨hy57_, hz57_⟩ := Kd.R_celln 0 HO_6.out (x25_1 : Int) (of_decide_eq_true (by first | (with_reducible assumption) | assumption)) (of_decide_eq_true (by first | (with_reducible assumption) | assumption)); have HP57 := Kd.R_putg HO_6.out (x25_1 : Int) t267) | ((with_reducible refine gate_store (t := 3) (p := 70) rfl ?_); refine store_event (t := 3) (p := 70) (v := ?vo_w58) (w1 := (wr.setCell ⟨go54, (x25_1 : Int).toNat, none⟩ (.int .i64 t267))) ?hg ?ho ?hn ?hr ?_; (case ho => rfl); (case hg => rfl); (case hn => rfl); (case hr => first | (go_simp; done) | (go_simp; rfl)); intro w58 hw; have hg : wr.grownBy w58 (some go54) := (by rw [hw]; exact HP57.2); have hp_ : Kd.R (Kd.int .i64) 3 w58 w.heap.size (fun k_ => some k_ ≠ (.slice Ao56 x10_2.length co56 : Value).ownBlock) (.slice (some ⟨go54, 0, none⟩) x6_1.length co54) y269 := (by rw [hw, Ny269.out]; exact HP57.1); clear HP57; have n0_ := Aside0.mk (hp_); have n1_ := Aside0.mk (Kd.R_after (v := (.slice (some ⟨go54, 0, none⟩) x6_1.length co54)) (v1 := (.slice (some ⟨go54, 0, none⟩) x6_1.length co54)) (ok := (fun _ => True)) (by (with_reducible repeat (first | apply Kd.R_alloc | apply Kd.R_drewN | apply Kd.R_drew)); exact Kd.R_mono HO_10.out (fun _ hk => ⟨trivial, hk⟩)) hg (.inl rfl)); have n2_ := Aside0.mk (blk_grown (by (with_reducible repeat (first | apply b1 | apply b2 | apply b3)); exact BK250.out) hg (Kd.R_ne HO_6.out BK250.out (by decide))); have n3_ := Aside0.mk (blk_grown (by (with_reducible repeat (first | apply b1 | apply b2 | apply b3)); exact BK259.out) hg (Kd.R_ne HO_6.out BK259.out (by decide))); have n4_ := Aside0.mk ((by rw [hw]; exact below_set (HB.out) GB54.out : Below w.heap.size w w58)); clear HO_6; clear HO_10; clear BK250; clear BK259; clear HB; have HO_6 := n0_; have HO_10 := n1_; have BK250 := n2_; have BK259 := n3_; have HB := n4_; clear n0_ n1_ n2_ n3_ n4_; clear hg hw hp_; have p270 : 0 ≤ (x25_1 : Int) := of_decide_eq_true (by first | (with_reducible assumption) | assumption); have q270 : x25_1 < (y269.length : Int) := (by have h_ : (x25_1 : Int) < ((x6_1.length : Int) : Int) := of_decide_eq_true (by first | (with_reducible assumption) | assumption); first | (have e_ := (Kd.R_reads' HO_6.out).1; omega) | simpa only [Ny269.out, List.length_set] using h_); have ql270 : ((x25_1 : Int) < ((x6_1.length : Int) : Int)) = True := eq_true (of_decide_eq_true (by first | (with_reducible assumption) | assumption)); obtain ⟨ad270, e270, hx270_0⟩ := Kd.at_int (Kd.R_reads' HO_6.out).2.2 x25_1 p270 q270; obtain rfl : (⟨go54, 0, none⟩ : Addr) = ad270 := (by injection e270); (first | simp only [add_plain] at hx270_0 | simp only [add_at] at hx270_0 | simp only [Addr.add, Nat.zero_add] at hx270_0 | skip); replace p270 := eq_true p270; replace q270 := eq_true q270))
              go_roundg k2
              case measure => have := HK1.out; have := HK2.out; omega
              case rel => exact ⟨(y269), (ji55), (wrap64 (x25_1 + 1)), (by first | rfl | (simp; done) | (simp only [← hji55] <;> (first | rfl | simp)) | (simp [*]; done)), (by first | rfl | (simp; done) | (simp [*]; done)), H', ⟨by have := HK1.out; have := HK2.out; omega⟩, ⟨by (with_reducible repeat (first | apply Kd.R_alloc | apply Kd.R_drewN | apply Kd.R_drew)); exact Kd.R_mono HO_6.out (fun _ hk => trivial)⟩, ⟨by (with_reducible repeat (first | apply b1 | apply b2 | apply b3)); exact BK250.out⟩, ⟨by repeat (first | (with_reducible first | exact HB.out | apply l1 | apply l2 | apply l3 | refine below_set ?_ GE250.out | refine below_set ?_ GE259.out) | exact HB.out)⟩⟩
             ·rw [if_neg c53] at H
              exact absurd H (by simp)
            ·rw [if_neg c52] at H
             exact absurd H (by simp)
        ·rw [if_neg c14] at H
         exact absurd H (by simp)
       ·rw [if_neg c13] at H
        exact absurd H (by simp)
      ·rw [if_neg c12] at H
       have c12b0 : decide (x25_1 < (l0_0.length : Int)) = false := decide_eq_false c12
       clear c12
       simp only [Option.some.injEq, Prod.mk.injEq] at H
       obtain ⟨rfl, rfl, rfl⟩ := H
       go_wp2
       go_ret3
       exact ⟨_, .nilIface, by first | rfl | (simp [errW_none, errW_some] <;> rfl) | (simp [*, errW_none, errW_some] <;> rfl), by (with_reducible repeat (first | apply Kd.R_alloc | apply Kd.R_drewN | apply Kd.R_drew)); exact HO_6.out, EV_nil, by repeat (first | (with_reducible first | exact HB.out | apply l1 | apply l2 | apply l3 | refine below_set ?_ GE250.out) | exact HB.out)⟩
   ·rw [if_neg c4] at H
    exact absurd H (by simp)
  ·rw [if_neg c3] at H
   exact absurd H (by simp)
 ·rw [if_neg (show ¬ (some q254).isNone = true by simp)] at H
  (try dsimp only [Option.getD] at H)
  (try (obtain ⟨ev252, rfl⟩ := EV_some HE253.out))
  simp only [Option.some.injEq, Prod.mk.injEq] at H
  obtain ⟨rfl, rfl, rfl⟩ := H
  go_enter Try.func9, Try.ntmps9
  go_wp2_with (first | ((with_reducible refine gate_dst (N := 1) rfl ?_); refine box_event (by rfl) (N := 1) (by rfl) (cs := #[.slice A0_0 l0_0.length c0_0]) (t := 24) (by first | (go_simp; done) | (go_simp; rfl)) ?_; intro gb250 hg w59 hbox hb; obtain ⟨hb_, hw_⟩ := box_facts (by repeat (first | (with_reducible first | exact HB.out | apply l1 | apply l2 | apply l3) | exact HB.out)) hg hb; have n0_ := Aside0.mk (hb_); have n1_ := Aside0.mk (hbox); have n2_ := Aside0.mk (hw_); have n3_ := Aside0.mk (hw_); clear HB; have HB := n0_; have BK250 := n1_; have GW250 := n2_; have GE250 := n3_; clear n0_ n1_ n2_ n3_; clear hb hbox hg hb_ hw_; obtain ⟨hcz60_0, hfz60_0⟩ := blk_cells1 BK250.out) | ((with_reducible refine gate_callee (f := 13) rfl ?_); refine goesL_ (some 14) rfl rfl Try.func13 (by kernel_rfl) rfl #[.agg #[.slice A0_0 l0_0.length c0_0]] rfl (by (try simp only [List.map_toArray, List.map_cons, List.map_nil]); first | done | rfl | (simp only [List.length_drop, List.length_take]; rfl)) ?_; (with_reducible refine (cue_CheckDoc.calls k _ _ l0_0 (some q254) _ ?side1 ?side2 A2.out).mono ?_); (case side1 => repeat (first | exact (Kd.C_below HR0_0.out HB.out) | (with_reducible refine Kd.C_alloc ?_ _) | (with_reducible refine Kd.C_drewN ?_ _) | (with_reducible refine Kd.C_drew ?_))); (case side2 => exact HC0_0.out); rintro e w61 ⟨v252, rfl, he0, hb⟩; refine ⟨_, rfl, ?_⟩; obtain ⟨ev252, rfl⟩ := EV_some he0; have n0_ := Aside0.mk (blk_below (by (with_reducible repeat (first | apply b1 | apply b2 | apply b3)); exact BK250.out) hb); have n1_ := Aside0.mk (below_step (by repeat (first | (with_reducible first | exact HB.out | apply l1 | apply l2 | apply l3 | refine below_set ?_ GE250.out) | exact HB.out)) hb); clear BK250; clear HB; have BK250 := n0_; have HB := n1_; clear n0_ n1_; (try clear hb); (try clear hb2); (try clear hk); (try clear hi)))
  go_ret3
  exact ⟨_, (.iface 69 (.pointer (some ⟨ev252, 0, none⟩))), by first | rfl | (simp [errW_none, errW_some] <;> rfl) | (simp [*, errW_none, errW_some] <;> rfl), by first | exact Kd.R_nil _ _ _ _ _ | exact Kd.N_nil _ _ _ _ _ | exact Kd.V_nil _ _ _ _ _ | exact Kd.Q_nil _ _ _ _ _ | exact Kd.S_nil _ _ _ _ _, EV_mk _ _, by repeat (first | (with_reducible first | exact HB.out | apply l1 | apply l2 | apply l3 | refine below_set ?_ GE250.out) | exact HB.out)⟩
def cue_one.f (a0_0 : Int) (a0_1 : Int) (a0_2 : Int) (a0_3 : Int) (a0_4 : Int) (a0_5 : Int) (a0_6 : ByteArray) (a0_7 : ByteArray) (l0_8 : List (S62)) : Option (Int × Int × Int × Int × Int × Int × ByteArray × ByteArray × (List (S62))) := if ([] : List (S62)).length + l0_8.length < 4398046511104 then (some (a0_0, a0_1, a0_2, a0_3, a0_4, a0_5, a0_6, a0_7, (([] : List (S62)) ++ l0_8))) else (none)
set_option maxHeartbeats 8000000 in
set_option maxRecDepth 100000 in
theorem cue_one.calls (a0_0 : Int) (a0_1 : Int) (a0_2 : Int) (a0_3 : Int) (a0_4 : Int) (a0_5 : Int) (a0_6 : ByteArray) (a0_7 : ByteArray) (A0_8 : Option Addr) (c0_8 : Nat) (l0_8 : List (S62)) (r1 : Int) (r2 : Int) (r3 : Int) (r4 : Int) (r5 : Int) (r6 : Int) (r7 : ByteArray) (r8 : ByteArray) (r9 : List (S62)) (w : World) (hr0_8 : Kd.C k62 w A0_8 l0_8.length l0_8) (hc0_8 : l0_8.length ≤ c0_8) (h : cue_one.f a0_0 a0_1 a0_2 a0_3 a0_4 a0_5 a0_6 a0_7 l0_8 = some (r1, r2, r3, r4, r5, r6, r7, r8, r9)) :
  Calls Try.prog 59 #[.agg #[.int .i64 a0_0, .int .i64 a0_1, .int .i64 a0_2, .int .i64 a0_3, .int .i64 a0_4, .int .i64 a0_5, .string a0_6, .string a0_7, .slice A0_8 l0_8.length c0_8]] w fun e w' => ∃ v8_ : Value, e = .returned (.agg #[.int .i64 r1, .int .i64 r2, .int .i64 r3, .int .i64 r4, .int .i64 r5, .int .i64 r6, .string r7, .string r8, v8_]) ∧ Kd.R k62 62 w' w.heap.size (fun _ => True) v8_ r9 ∧ Below w.heap.size w w' := by
 have hu41 := Try.underlying41
 have HR0_8 := Aside0.mk hr0_8
 have HC0_8 := Aside0.mk hc0_8
 clear hr0_8 hc0_8
 have HB := Aside0.mk (Below.refl w.heap.size w)
 have H : (if ([] : List (S62)).length + l0_8.length < 4398046511104 then (some (a0_0, a0_1, a0_2, a0_3, a0_4, a0_5, a0_6, a0_7, (([] : List (S62)) ++ l0_8))) else (none)) = some (r1, r2, r3, r4, r5, r6, r7, r8, r9) := h
 clear h
 by_cases c2 : ([] : List (S62)).length + l0_8.length < 4398046511104
 ·rw [if_pos c2] at H
  have LMc2 := Aside0.mk c2
  clear c2
  obtain ⟨y273, hy273⟩ : ∃ y_ : List (S62), y_ = (([] : List (S62)) ++ l0_8) := ⟨_, rfl⟩
  replace H : (some (a0_0, a0_1, a0_2, a0_3, a0_4, a0_5, a0_6, a0_7, y273)) = some (r1, r2, r3, r4, r5, r6, r7, r8, r9) := by first | (rw [hy273]; with_reducible exact H) | (have H2_ := (Option.bind_some _ _).symm.trans H; rw [hy273]; with_reducible exact H2_) | (have H2_ := (Option.bind_some _ _).symm.trans H; with_reducible exact H2_) | with_reducible exact H | (rw [hy273]; exact H) | exact H
  have Ny273 := Aside0.mk hy273
  clear hy273
  simp only [Option.some.injEq, Prod.mk.injEq] at H
  obtain ⟨rfl, rfl, rfl, rfl, rfl, rfl, rfl, rfl, rfl⟩ := H
  go_enter Try.func59, Try.ntmps59
  go_wp2_with (first | ((with_reducible refine gate_dst (N := 1) rfl ?_); refine box_event (by rfl) (N := 1) (by rfl) (cs := #[.int .i64 a0_0, .int .i64 a0_1, .int .i64 a0_2, .int .i64 a0_3, .int .i64 a0_4, .int .i64 a0_5, .string a0_6, .string a0_7, .slice A0_8 l0_8.length c0_8]) (t := 41) (by first | (go_simp; done) | (go_simp; rfl)) ?_; intro gb271 hg w3 hbox hb; obtain ⟨hb_, hw_⟩ := box_facts (by repeat (first | (with_reducible first | exact HB.out | apply l1 | apply l2 | apply l3) | exact HB.out)) hg hb; have n0_ := Aside0.mk (hb_); have n1_ := Aside0.mk (hbox); have n2_ := Aside0.mk (hw_); have n3_ := Aside0.mk (hw_); clear HB; have HB := n0_; have BK271 := n1_; have GW271 := n2_; have GE271 := n3_; clear n0_ n1_ n2_ n3_; clear hb hbox hg hb_ hw_) | ((with_reducible refine gate_dst (N := 2) rfl ?_); refine box_event (by rfl) (N := 2) (by rfl) (cs := #[.int .i64 0, .int .i64 0, .int .i64 0, .int .i64 0, .int .i64 0, .int .i64 0, .string (⟨#[]⟩ : ByteArray), .string (⟨#[]⟩ : ByteArray), .slice none 0 0]) (t := 41) (by first | (go_simp; done) | (go_simp; rfl)) ?_; intro gb272 hg w4 hbox hb; obtain ⟨hb_, hw_⟩ := box_facts (by repeat (first | (with_reducible first | exact HB.out | apply l1 | apply l2 | apply l3 | refine below_set ?_ GE271.out) | exact HB.out)) hg hb; have n0_ := Aside0.mk (blk_below (by (with_reducible repeat (first | apply b1 | apply b2 | apply b3)); exact BK271.out) hb); have n1_ := Aside0.mk (hb_); have n2_ := Aside0.mk (hbox); have n3_ := Aside0.mk (hw_); have n4_ := Aside0.mk (hw_); have n5_ := Aside0.mk ((by rw [hg]; exact Nat.ne_of_lt (blk_lt (by (with_reducible repeat (first | apply b1 | apply b2 | apply b3)); exact BK271.out)) : gb271 ≠ gb272)); have n6_ := Aside0.mk ((by rw [hg]; exact Nat.ne_of_gt (blk_lt (by (with_reducible repeat (first | apply b1 | apply b2 | apply b3)); exact BK271.out)) : gb272 ≠ gb271)); clear BK271; clear HB; have BK271 := n0_; have HB := n1_; have BK272 := n2_; have GW272 := n3_; have GE272 := n4_; have NB271_272 := n5_; have NB272_271 := n6_; clear n0_ n1_ n2_ n3_ n4_ n5_ n6_; clear hb hbox hg hb_ hw_; have hnb5 := NB271_272.out; have hnc5 := NB272_271.out; obtain ⟨hcz6_0, hcz6_1, hcz6_2, hcz6_3, hcz6_4, hcz6_5, hcz6_6, hcz6_7, hcz6_8, hfz6_0, hfz6_1, hfz6_2, hfz6_3, hfz6_4, hfz6_5, hfz6_6, hfz6_7, hfz6_8⟩ := blk_cells9 BK271.out) | ((with_reducible refine gate_builtin (b := .append) (xs := #[(.const (.slice none 0 0)), .tmp 5]) rfl ?_); at_builtin; refine Kd.R_append_rows k62 (w0 := w) w.heap.size rfl (.const (.slice none 0 0)) (.tmp 5) 37 62 (.agg #[(.int .i64 0), (.int .i64 0), (.int .i64 0), (.int .i64 0)]) 32 rfl Try.underlying37 info62 rfl (by decide) (by omega) (.slice none 0 0) ([] : List (S62)) l0_8 _ _ _ (fun _ => True) (fun _ => False) rfl rfl ?aO ?aR (fun _ _ h => h) (fun _ h => h.elim) ?aF ?aB ?aS ?aL ?_; (case aR => repeat (first | exact (Kd.C_below HR0_8.out HB.out) | (with_reducible refine Kd.C_alloc ?_ _) | (with_reducible refine Kd.C_drewN ?_ _) | (with_reducible refine Kd.C_drew ?_))); (case aB => exact (by repeat (first | (with_reducible first | exact HB.out | apply l1 | apply l2 | apply l3 | refine below_set ?_ GE271.out | refine below_set ?_ GE272.out) | exact HB.out))); (case aF => exact (fun _ _ => trivial)); (case aO => exact ((Kd.R_nil _ _ _ _ (fun _ => True)))); (case aS => exact (below_size (by repeat (first | (with_reducible first | exact HB.out | apply l1 | apply l2 | apply l3 | refine below_set ?_ GE271.out | refine below_set ?_ GE272.out) | exact HB.out)))); (case aL => have := LMc2.out; omega); intro v274 w7 ho hb hg hat; rw [← Ny273.out] at ho; have n0_ := Aside0.mk (blk_grown (by (with_reducible repeat (first | apply b1 | apply b2 | apply b3)); exact BK271.out) hg (by simp [Value.ownBlock])); have n1_ := Aside0.mk (blk_grown (by (with_reducible repeat (first | apply b1 | apply b2 | apply b3)); exact BK272.out) hg (by simp [Value.ownBlock])); have n2_ := Aside0.mk (hb); have n3_ := Aside0.mk (ho); clear BK271; clear BK272; clear HB; have BK271 := n0_; have BK272 := n1_; have HB := n2_; have HO275 := n3_; clear n0_ n1_ n2_ n3_; clear ho hb hg hat; obtain ⟨Ao8, co8, eo8⟩ := Kd.R_slice HO275.out; subst eo8; obtain ⟨hcz9_0, hcz9_1, hcz9_2, hcz9_3, hcz9_4, hcz9_5, hcz9_6, hcz9_7, hcz9_8, hfz9_0, hfz9_1, hfz9_2, hfz9_3, hfz9_4, hfz9_5, hfz9_6, hfz9_7, hfz9_8⟩ := blk_cells9 BK271.out; obtain ⟨hcz10_0, hcz10_1, hcz10_2, hcz10_3, hcz10_4, hcz10_5, hcz10_6, hcz10_7, hcz10_8, hfz10_0, hfz10_1, hfz10_2, hfz10_3, hfz10_4, hfz10_5, hfz10_6, hfz10_7, hfz10_8⟩ := blk_cells9 BK272.out))
  refine bodyPost_ret (results_cell_row rfl _ _ gb272 41 #[.int .i64 a0_0, .int .i64 a0_1, .int .i64 a0_2, .int .i64 a0_3, .int .i64 a0_4, .int .i64 a0_5, .string a0_6, .string a0_7, .slice Ao8 y273.length co8] (0, 0) _ rfl (by (with_reducible repeat (first | apply b1 | apply b2 | apply b3)); refine blk_put (cs := #[.int .i64 a0_0, .int .i64 a0_1, .int .i64 a0_2, .int .i64 a0_3, .int .i64 a0_4, .int .i64 a0_5, .string a0_6, .string a0_7, .slice none 0 0]) ?_ 8 _ rfl; (with_reducible repeat (first | apply b1 | apply b2 | apply b3)); refine blk_put (cs := #[.int .i64 a0_0, .int .i64 a0_1, .int .i64 a0_2, .int .i64 a0_3, .int .i64 a0_4, .int .i64 a0_5, .string a0_6, .string (⟨#[]⟩ : ByteArray), .slice none 0 0]) ?_ 7 _ rfl; (with_reducible repeat (first | apply b1 | apply b2 | apply b3)); refine blk_put (cs := #[.int .i64 a0_0, .int .i64 a0_1, .int .i64 a0_2, .int .i64 a0_3, .int .i64 a0_4, .int .i64 a0_5, .string (⟨#[]⟩ : ByteArray), .string (⟨#[]⟩ : ByteArray), .slice none 0 0]) ?_ 6 _ rfl; (with_reducible repeat (first | apply b1 | apply b2 | apply b3)); refine blk_put (cs := #[.int .i64 a0_0, .int .i64 a0_1, .int .i64 a0_2, .int .i64 a0_3, .int .i64 a0_4, .int .i64 0, .string (⟨#[]⟩ : ByteArray), .string (⟨#[]⟩ : ByteArray), .slice none 0 0]) ?_ 5 _ rfl; (with_reducible repeat (first | apply b1 | apply b2 | apply b3)); refine blk_put (cs := #[.int .i64 a0_0, .int .i64 a0_1, .int .i64 a0_2, .int .i64 a0_3, .int .i64 0, .int .i64 0, .string (⟨#[]⟩ : ByteArray), .string (⟨#[]⟩ : ByteArray), .slice none 0 0]) ?_ 4 _ rfl; (with_reducible repeat (first | apply b1 | apply b2 | apply b3)); refine blk_put (cs := #[.int .i64 a0_0, .int .i64 a0_1, .int .i64 a0_2, .int .i64 0, .int .i64 0, .int .i64 0, .string (⟨#[]⟩ : ByteArray), .string (⟨#[]⟩ : ByteArray), .slice none 0 0]) ?_ 3 _ rfl; (with_reducible repeat (first | apply b1 | apply b2 | apply b3)); refine blk_put (cs := #[.int .i64 a0_0, .int .i64 a0_1, .int .i64 0, .int .i64 0, .int .i64 0, .int .i64 0, .string (⟨#[]⟩ : ByteArray), .string (⟨#[]⟩ : ByteArray), .slice none 0 0]) ?_ 2 _ rfl; (with_reducible repeat (first | apply b1 | apply b2 | apply b3)); refine blk_put (cs := #[.int .i64 a0_0, .int .i64 0, .int .i64 0, .int .i64 0, .int .i64 0, .int .i64 0, .string (⟨#[]⟩ : ByteArray), .string (⟨#[]⟩ : ByteArray), .slice none 0 0]) ?_ 1 _ rfl; (with_reducible repeat (first | apply b1 | apply b2 | apply b3)); refine blk_put (cs := #[.int .i64 0, .int .i64 0, .int .i64 0, .int .i64 0, .int .i64 0, .int .i64 0, .string (⟨#[]⟩ : ByteArray), .string (⟨#[]⟩ : ByteArray), .slice none 0 0]) ?_ 0 _ rfl; (with_reducible repeat (first | apply b1 | apply b2 | apply b3)); refine blk_far ?_ NB272_271.out _; (with_reducible repeat (first | apply b1 | apply b2 | apply b3)); exact BK272.out) Try.underlying41 rfl (by kernel_rfl)) rfl ?_
  exact ⟨_, by first | rfl | (simp [errW_none, errW_some] <;> rfl) | (simp [*, errW_none, errW_some] <;> rfl), by (with_reducible repeat (first | apply Kd.R_alloc | apply Kd.R_drewN | apply Kd.R_drew)); exact Kd.R_mono (Kd.R_far (p := ⟨gb272, 8, none⟩) (Kd.R_far (p := ⟨gb272, 7, none⟩) (Kd.R_far (p := ⟨gb272, 6, none⟩) (Kd.R_far (p := ⟨gb272, 5, none⟩) (Kd.R_far (p := ⟨gb272, 4, none⟩) (Kd.R_far (p := ⟨gb272, 3, none⟩) (Kd.R_far (p := ⟨gb272, 2, none⟩) (Kd.R_far (p := ⟨gb272, 1, none⟩) (Kd.R_far (p := ⟨gb272, 0, none⟩) (Kd.R_far (p := ⟨gb271, 8, none⟩) (Kd.R_types (Kd.R_types HO275.out BK271.out (by decide)) BK272.out (by decide)) (fun _ hk => hk.1.2) (.slice Ao8 y273.length co8)) (fun _ hk => hk.2) (.int .i64 a0_0)) (fun _ hk => hk.2) (.int .i64 a0_1)) (fun _ hk => hk.2) (.int .i64 a0_2)) (fun _ hk => hk.2) (.int .i64 a0_3)) (fun _ hk => hk.2) (.int .i64 a0_4)) (fun _ hk => hk.2) (.int .i64 a0_5)) (fun _ hk => hk.2) (.string a0_6)) (fun _ hk => hk.2) (.string a0_7)) (fun _ hk => hk.2) (.slice Ao8 y273.length co8)) (fun _ hk => trivial), by repeat (first | (with_reducible first | exact HB.out | apply l1 | apply l2 | apply l3 | refine below_set ?_ GE271.out | refine below_set ?_ GE272.out) | exact HB.out)⟩
 ·rw [if_neg c2] at H
  exact absurd H (by simp)
def cue_twin.l0 : Nat → List (S41) → List (S41) → Int → Int → Option ((List (S41)))
 | 0, _, _, _, _ => none
 | k + 1, x3, x6, x7, x8 => if x8 < x7 then (if 0 ≤ x8 then (if x8 < (x6.length : Int) then ((cue_one.f ((rd_T41 x6 x8).f0.f0) ((rd_T41 x6 x8).f0.f1) ((rd_T41 x6 x8).f1.f0) ((rd_T41 x6 x8).f1.f1) ((rd_T41 x6 x8).f2) ((rd_T41 x6 x8).f3) ((rd_T41 x6 x8).f4) ((rd_T41 x6 x8).f5.f0) ((rd_T41 x6 x8).f5.f1)).bind fun bt278 => (if x3.length < 1353245080339 then (cue_twin.l0 k (x3 ++ [(⟨(⟨bt278.1, bt278.2.1⟩ : S36), (⟨bt278.2.2.1, bt278.2.2.2.1⟩ : S36), bt278.2.2.2.2.1, bt278.2.2.2.2.2.1, bt278.2.2.2.2.2.2.1, (⟨bt278.2.2.2.2.2.2.2.1, bt278.2.2.2.2.2.2.2.2⟩ : S39)⟩ : S41)]) x6 x7 (wrap64 (x8 + 1))) else (none))) else (none)) else (none)) else (some x3)
def cue_twin.f (k : Nat) (l0 : List (S41)) : Option ((List (S41))) := cue_twin.l0 k ([] : List (S41)) l0 (l0.length : Int) 0
set_option maxHeartbeats 8000000 in
set_option maxRecDepth 100000 in
theorem cue_twin.calls (k : Nat) (A0 : Option Addr) (c0 : Nat) (l0 : List (S41)) (r : List (S41)) (w : World) (hr0 : Kd.C k41 w A0 l0.length l0) (hc0 : l0.length ≤ c0) (h : cue_twin.f k l0 = some r) :
  Calls Try.prog 49 #[.slice A0 l0.length c0] w fun e w' => ∃ v0_ : Value, e = .returned (v0_) ∧ Kd.S k41 41 w' w.heap.size (fun _ => True) v0_ r ∧ Below w.heap.size w w' := by
 have hu41 := Try.underlying41
 have HR0 := Aside0.mk hr0
 have HC0 := Aside0.mk hc0
 clear hr0 hc0
 have HB := Aside0.mk (Below.refl w.heap.size w)
 have H : (cue_twin.l0 k ([] : List (S41)) l0 (l0.length : Int) 0) = some r := h
 clear h
 have H' := Aside0.mk H
 clear H
 go_enter Try.func49, Try.ntmps49
 go_wp2
 (try simp only [Act.put, List.setIfInBounds_toArray, List.set_cons_zero, List.set_cons_succ])
 go_loopg [3, 8] k (fun kq v3 v8 w' => ∃ (x3_1 : List (S41)) (x8_1 : Int), v8 = .int .i64 x8_1 ∧ Aside0 (cue_twin.l0 kq x3_1 l0 (l0.length : Int) x8_1 = some r) ∧ Aside0 (kq ≤ k) ∧ Aside0 (Kd.S k41 41 w' w.heap.size (fun _ => True) v3 x3_1) ∧ Aside0 (Below w.heap.size w w'))
 case atStart => exact ⟨(([] : List (S41))), (0), (by first | rfl | (simp; done) | (simp [*]; done)), H', ⟨Nat.le_refl _⟩, ⟨by first | exact Kd.S_nil _ _ _ _ _ | exact Kd.N_nil _ _ _ _ _ | exact Kd.V_nil _ _ _ _ _ | exact Kd.Q_nil _ _ _ _ _ | exact Kd.R_nil _ _ _ _ _⟩, ⟨by repeat (first | (with_reducible first | exact HB.out | apply l1 | apply l2 | apply l3) | exact HB.out)⟩⟩
 case round =>
  clear H'
  obtain ⟨x3_1, x8_1, rfl, HA, HK1, HO_3, HB⟩ := hrel
  cases gk with
  | zero => exact absurd HA.out (by simp [cue_twin.l0])
  | succ k1 =>
   have H := HA.out
   clear HA
   simp only [cue_twin.l0] at H
   by_cases c2 : x8_1 < (l0.length : Int)
   ·rw [if_pos c2] at H
    have c2b0 : decide (x8_1 < (l0.length : Int)) = true := decide_eq_true c2
    clear c2
    by_cases c3 : 0 ≤ x8_1
    ·rw [if_pos c3] at H
     have c3b0 : decide (0 ≤ x8_1) = true := decide_eq_true c3
     clear c3
     by_cases c4 : x8_1 < (l0.length : Int)
     ·rw [if_pos c4] at H
      have c4b0 : decide (x8_1 < (l0.length : Int)) = true := decide_eq_true c4
      clear c4
      replace H := Option.bind_eq_some_iff.mp H
      obtain ⟨⟨t278, t279, t280, t281, t282, t283, t284, t285, t286⟩, A50, H⟩ := H
      (try dsimp only at H)
      have A5 := Aside0.mk A50
      clear A50
      by_cases c6 : x3_1.length < 1353245080339
      ·rw [if_pos c6] at H
       have LMc6 := Aside0.mk c6
       clear c6
       obtain ⟨y289, hy289⟩ : ∃ y_ : List (S41), y_ = (x3_1 ++ [(⟨(⟨t278, t279⟩ : S36), (⟨t280, t281⟩ : S36), t282, t283, t284, (⟨t285, t286⟩ : S39)⟩ : S41)]) := ⟨_, rfl⟩
       replace H : (cue_twin.l0 k1 y289 l0 (l0.length : Int) (wrap64 (x8_1 + 1))) = some r := by first | (rw [hy289]; with_reducible exact H) | (have H2_ := (Option.bind_some _ _).symm.trans H; rw [hy289]; with_reducible exact H2_) | (have H2_ := (Option.bind_some _ _).symm.trans H; with_reducible exact H2_) | with_reducible exact H | (rw [hy289]; exact H) | exact H
       have Ny289 := Aside0.mk hy289
       clear hy289
       have H' := Aside0.mk H
       clear H
       have p276 : 0 ≤ (x8_1 : Int) := of_decide_eq_true (by first | (with_reducible assumption) | assumption)
       have q276 : x8_1 < (l0.length : Int) := of_decide_eq_true (by first | (with_reducible assumption) | assumption)
       obtain ⟨ad276, A276_8, c276_8, e276, hx276_0, hx276_1, hx276_2, hx276_3, hx276_4, hx276_5, hx276_6, hx276_7, hx276_8, hl276_8, hi276_8⟩ := at_T41 HR0.out x8_1 p276 q276
       cases e276
       replace hx276_0 := (HB.out.cell (World.block_lt_of_cell? w _ hx276_0)).trans hx276_0
       replace hx276_1 := (HB.out.cell (World.block_lt_of_cell? w _ hx276_1)).trans hx276_1
       replace hx276_2 := (HB.out.cell (World.block_lt_of_cell? w _ hx276_2)).trans hx276_2
       replace hx276_3 := (HB.out.cell (World.block_lt_of_cell? w _ hx276_3)).trans hx276_3
       replace hx276_4 := (HB.out.cell (World.block_lt_of_cell? w _ hx276_4)).trans hx276_4
       replace hx276_5 := (HB.out.cell (World.block_lt_of_cell? w _ hx276_5)).trans hx276_5
       replace hx276_6 := (HB.out.cell (World.block_lt_of_cell? w _ hx276_6)).trans hx276_6
       replace hx276_7 := (HB.out.cell (World.block_lt_of_cell? w _ hx276_7)).trans hx276_7
       replace hx276_8 := (HB.out.cell (World.block_lt_of_cell? w _ hx276_8)).trans hx276_8
       have HR276_8 := Aside0.mk hi276_8
       have HC276_8 := Aside0.mk hl276_8
       clear hi276_8 hl276_8
       replace p276 := eq_true p276
       replace q276 := eq_true q276
       go_wp2_with (first | ((with_reducible refine gate_dst (N := 5) rfl ?_); refine box_event (by rfl) (N := 5) (by rfl) (cs := #[.int .i64 0, .int .i64 0, .int .i64 0, .int .i64 0, .int .i64 0, .int .i64 0, .string (⟨#[]⟩ : ByteArray), .string (⟨#[]⟩ : ByteArray), .slice none 0 0]) (t := 41) (by first | (go_simp; done) | (go_simp; rfl)) ?_; intro gb277 hg w7 hbox hb; obtain ⟨hb_, hw_⟩ := box_facts (by repeat (first | (with_reducible first | exact HB.out | apply l1 | apply l2 | apply l3) | exact HB.out)) hg hb; have n0_ := Aside0.mk (Kd.S_below (Kd.S_elderB (by (with_reducible repeat (first | apply Kd.S_alloc | apply Kd.S_drewN | apply Kd.S_drew)); exact HO_3.out) gb277 (Nat.le_of_eq hg.symm)) hb); have n1_ := Aside0.mk (hb_); have n2_ := Aside0.mk (hbox); have n3_ := Aside0.mk (hw_); have n4_ := Aside0.mk (hw_); clear HO_3; clear HB; have HO_3 := n0_; have HB := n1_; have BK277 := n2_; have GW277 := n3_; have GE277 := n4_; clear n0_ n1_ n2_ n3_ n4_; clear hb hbox hg hb_ hw_; obtain ⟨hcz8_0, hcz8_1, hcz8_2, hcz8_3, hcz8_4, hcz8_5, hcz8_6, hcz8_7, hcz8_8, hfz8_0, hfz8_1, hfz8_2, hfz8_3, hfz8_4, hfz8_5, hfz8_6, hfz8_7, hfz8_8⟩ := blk_cells9 BK277.out) | ((with_reducible refine gate_callee (f := 59) rfl ?_); refine goesL_ (some 14) rfl rfl Try.func59 (by kernel_rfl) rfl #[.agg #[.int .i64 ((rd_T41 l0 x8_1).f0.f0), .int .i64 ((rd_T41 l0 x8_1).f0.f1), .int .i64 ((rd_T41 l0 x8_1).f1.f0), .int .i64 ((rd_T41 l0 x8_1).f1.f1), .int .i64 ((rd_T41 l0 x8_1).f2), .int .i64 ((rd_T41 l0 x8_1).f3), .string ((rd_T41 l0 x8_1).f4), .string ((rd_T41 l0 x8_1).f5.f0), .slice A276_8 ((rd_T41 l0 x8_1).f5.f1).length c276_8]] rfl (by (try simp only [List.map_toArray, List.map_cons, List.map_nil]); first | done | rfl | (simp only [List.length_drop, List.length_take]; rfl)) ?_; (with_reducible refine (cue_one.calls ((rd_T41 l0 x8_1).f0.f0) ((rd_T41 l0 x8_1).f0.f1) ((rd_T41 l0 x8_1).f1.f0) ((rd_T41 l0 x8_1).f1.f1) ((rd_T41 l0 x8_1).f2) ((rd_T41 l0 x8_1).f3) ((rd_T41 l0 x8_1).f4) ((rd_T41 l0 x8_1).f5.f0) _ _ ((rd_T41 l0 x8_1).f5.f1) t278 t279 t280 t281 t282 t283 t284 t285 t286 _ ?side1 ?side2 A5.out).mono ?_); (case side1 => exact Kd.C_below HR276_8.out (by repeat (first | (with_reducible first | exact HB.out | apply l1 | apply l2 | apply l3 | refine below_set ?_ GE277.out) | exact HB.out))); (case side2 => exact HC276_8.out); rintro e w9 ⟨v287, rfl, ho0, hb⟩; refine ⟨_, rfl, ?_⟩; have n0_ := Aside0.mk (Kd.S_elder' (by (with_reducible repeat (first | apply Kd.S_alloc | apply Kd.S_drewN | apply Kd.S_drew)); exact (Kd.S_mono (Kd.S_far (p := ⟨gb277, 8, none⟩) (Kd.S_far (p := ⟨gb277, 7, none⟩) (Kd.S_far (p := ⟨gb277, 6, none⟩) (Kd.S_far (p := ⟨gb277, 5, none⟩) (Kd.S_far (p := ⟨gb277, 4, none⟩) (Kd.S_far (p := ⟨gb277, 3, none⟩) (Kd.S_far (p := ⟨gb277, 2, none⟩) (Kd.S_far (p := ⟨gb277, 1, none⟩) (Kd.S_far (p := ⟨gb277, 0, none⟩) (Kd.S_mono HO_3.out (fun k_ hk => (⟨hk, hk.2⟩ : _ ∧ k_ ≠ gb277))) (fun _ hk => hk.2) (.int .i64 ((rd_T41 l0 x8_1).f0.f0))) (fun _ hk => hk.2) (.int .i64 ((rd_T41 l0 x8_1).f0.f1))) (fun _ hk => hk.2) (.int .i64 ((rd_T41 l0 x8_1).f1.f0))) (fun _ hk => hk.2) (.int .i64 ((rd_T41 l0 x8_1).f1.f1))) (fun _ hk => hk.2) (.int .i64 ((rd_T41 l0 x8_1).f2))) (fun _ hk => hk.2) (.int .i64 ((rd_T41 l0 x8_1).f3))) (fun _ hk => hk.2) (.string ((rd_T41 l0 x8_1).f4))) (fun _ hk => hk.2) (.string ((rd_T41 l0 x8_1).f5.f0))) (fun _ hk => hk.2) (.slice A276_8 ((rd_T41 l0 x8_1).f5.f1).length c276_8)) (fun _ h_ => h_.1))) (Kd.R_base ho0) hb); have n1_ := Aside0.mk (Kd.R_lower ho0 (below_size (by repeat (first | (with_reducible first | exact HB.out | apply l1 | apply l2 | apply l3 | refine below_set ?_ GE277.out) | exact HB.out)))); have n2_ := Aside0.mk (blk_below (g := gb277) (o := .cells #[.int .i64 ((rd_T41 l0 x8_1).f0.f0), .int .i64 ((rd_T41 l0 x8_1).f0.f1), .int .i64 ((rd_T41 l0 x8_1).f1.f0), .int .i64 ((rd_T41 l0 x8_1).f1.f1), .int .i64 ((rd_T41 l0 x8_1).f2), .int .i64 ((rd_T41 l0 x8_1).f3), .string ((rd_T41 l0 x8_1).f4), .string ((rd_T41 l0 x8_1).f5.f0), .slice A276_8 ((rd_T41 l0 x8_1).f5.f1).length c276_8] 41 (0, 0)) (by (with_reducible repeat (first | apply b1 | apply b2 | apply b3)); refine blk_put (cs := #[.int .i64 ((rd_T41 l0 x8_1).f0.f0), .int .i64 ((rd_T41 l0 x8_1).f0.f1), .int .i64 ((rd_T41 l0 x8_1).f1.f0), .int .i64 ((rd_T41 l0 x8_1).f1.f1), .int .i64 ((rd_T41 l0 x8_1).f2), .int .i64 ((rd_T41 l0 x8_1).f3), .string ((rd_T41 l0 x8_1).f4), .string ((rd_T41 l0 x8_1).f5.f0), .slice none 0 0]) ?_ 8 _ rfl; (with_reducible repeat (first | apply b1 | apply b2 | apply b3)); refine blk_put (cs := #[.int .i64 ((rd_T41 l0 x8_1).f0.f0), .int .i64 ((rd_T41 l0 x8_1).f0.f1), .int .i64 ((rd_T41 l0 x8_1).f1.f0), .int .i64 ((rd_T41 l0 x8_1).f1.f1), .int .i64 ((rd_T41 l0 x8_1).f2), .int .i64 ((rd_T41 l0 x8_1).f3), .string ((rd_T41 l0 x8_1).f4), .string (⟨#[]⟩ : ByteArray), .slice none 0 0]) ?_ 7 _ rfl; (with_reducible repeat (first | apply b1 | apply b2 | apply b3)); refine blk_put (cs := #[.int .i64 ((rd_T41 l0 x8_1).f0.f0), .int .i64 ((rd_T41 l0 x8_1).f0.f1), .int .i64 ((rd_T41 l0 x8_1).f1.f0), .int .i64 ((rd_T41 l0 x8_1).f1.f1), .int .i64 ((rd_T41 l0 x8_1).f2), .int .i64 ((rd_T41 l0 x8_1).f3), .string (⟨#[]⟩ : ByteArray), .string (⟨#[]⟩ : ByteArray), .slice none 0 0]) ?_ 6 _ rfl; (with_reducible repeat (first | apply b1 | apply b2 | apply b3)); refine blk_put (cs := #[.int .i64 ((rd_T41 l0 x8_1).f0.f0), .int .i64 ((rd_T41 l0 x8_1).f0.f1), .int .i64 ((rd_T41 l0 x8_1).f1.f0), .int .i64 ((rd_T41 l0 x8_1).f1.f1), .int .i64 ((rd_T41 l0 x8_1).f2), .int .i64 0, .string (⟨#[]⟩ : ByteArray), .string (⟨#[]⟩ : ByteArray), .slice none 0 0]) ?_ 5 _ rfl; (with_reducible repeat (first | apply b1 | apply b2 | apply b3)); refine blk_put (cs := #[.int .i64 ((rd_T41 l0 x8_1).f0.f0), .int .i64 ((rd_T41 l0 x8_1).f0.f1), .int .i64 ((rd_T41 l0 x8_1).f1.f0), .int .i64 ((rd_T41 l0 x8_1).f1.f1), .int .i64 0, .int .i64 0, .string (⟨#[]⟩ : ByteArray), .string (⟨#[]⟩ : ByteArray), .slice none 0 0]) ?_ 4 _ rfl; (with_reducible repeat (first | apply b1 | apply b2 | apply b3)); refine blk_put (cs := #[.int .i64 ((rd_T41 l0 x8_1).f0.f0), .int .i64 ((rd_T41 l0 x8_1).f0.f1), .int .i64 ((rd_T41 l0 x8_1).f1.f0), .int .i64 0, .int .i64 0, .int .i64 0, .string (⟨#[]⟩ : ByteArray), .string (⟨#[]⟩ : ByteArray), .slice none 0 0]) ?_ 3 _ rfl; (with_reducible repeat (first | apply b1 | apply b2 | apply b3)); refine blk_put (cs := #[.int .i64 ((rd_T41 l0 x8_1).f0.f0), .int .i64 ((rd_T41 l0 x8_1).f0.f1), .int .i64 0, .int .i64 0, .int .i64 0, .int .i64 0, .string (⟨#[]⟩ : ByteArray), .string (⟨#[]⟩ : ByteArray), .slice none 0 0]) ?_ 2 _ rfl; (with_reducible repeat (first | apply b1 | apply b2 | apply b3)); refine blk_put (cs := #[.int .i64 ((rd_T41 l0 x8_1).f0.f0), .int .i64 0, .int .i64 0, .int .i64 0, .int .i64 0, .int .i64 0, .string (⟨#[]⟩ : ByteArray), .string (⟨#[]⟩ : ByteArray), .slice none 0 0]) ?_ 1 _ rfl; (with_reducible repeat (first | apply b1 | apply b2 | apply b3)); refine blk_put (cs := #[.int .i64 0, .int .i64 0, .int .i64 0, .int .i64 0, .int .i64 0, .int .i64 0, .string (⟨#[]⟩ : ByteArray), .string (⟨#[]⟩ : ByteArray), .slice none 0 0]) ?_ 0 _ rfl; (with_reducible repeat (first | apply b1 | apply b2 | apply b3)); exact BK277.out) hb); have n3_ := Aside0.mk (below_step (by repeat (first | (with_reducible first | exact HB.out | apply l1 | apply l2 | apply l3 | refine below_set ?_ GE277.out) | exact HB.out)) hb); clear HO_3; clear BK277; clear HB; have HO_3 := n0_; have HO288 := n1_; have BK277 := n2_; have HB := n3_; clear n0_ n1_ n2_ n3_; (try clear hb); (try clear hb2); (try clear hk); (try clear hi); (try clear ho0); obtain ⟨Ao11, co11, eo11⟩ := Kd.R_slice HO288.out; subst eo11) | ((with_reducible refine gate_builtin (b := .append) (xs := #[.tmp 12, .tmp 15]) rfl ?_); at_builtin; refine Kd.S_append k41 (w0 := w) w.heap.size rfl (.tmp 12) (.tmp 15) 22 41 (.agg #[(.int .i64 0), (.int .i64 0), (.int .i64 0), (.int .i64 0), (.int .i64 0), (.int .i64 0), (.string ⟨#[]⟩), (.string ⟨#[]⟩), (.slice none 0 0)]) 104 rfl Try.underlying22 info41 rfl (by decide) (by omega) u3 x3_1 (⟨(⟨t278, t279⟩ : S36), (⟨t280, t281⟩ : S36), t282, t283, t284, (⟨t285, t286⟩ : S39)⟩ : S41) [.int .i64 t278, .int .i64 t279, .int .i64 t280, .int .i64 t281, .int .i64 t282, .int .i64 t283, .string t284, .string t285, .slice Ao11 t286.length co11] (fun k_ => k_ ≠ gb277) (fun k_ => some k_ = (.slice Ao11 t286.length co11 : Value).ownBlock) rfl rfl ?aP (fun k_ hk_ => ((Kd.R_mono (ok' := fun k_ => ((fun k_ => k_ ≠ gb277)) k_ ∧ some k_ ≠ (u3 : Value).ownBlock) (Kd.R_types (Kd.R_apart' (HO288.out) (Kd.S_typed HO_3.out) (by decide)) BK277.out (by decide)) (fun k_ hk => ⟨hk.2, hk.1.2⟩))).1 k_ hk_.symm) ?aF ?aO ?aB ?aS ?aL ?_; (case aP => exact k41_mkM _ _ _ (⟨(⟨t278, t279⟩ : S36), (⟨t280, t281⟩ : S36), t282, t283, t284, (⟨t285, t286⟩ : S39)⟩ : S41) (Kd.R_mono (Kd.R_tight rfl (Kd.R_mono (ok' := fun k_ => ((fun k_ => k_ ≠ gb277)) k_ ∧ some k_ ≠ (u3 : Value).ownBlock) (Kd.R_types (Kd.R_apart' (HO288.out) (Kd.S_typed HO_3.out) (by decide)) BK277.out (by decide)) (fun k_ hk => ⟨hk.2, hk.1.2⟩))) (fun _ h_ => h_))); (case aB => exact (by repeat (first | (with_reducible first | exact HB.out | apply l1 | apply l2 | apply l3 | refine below_set ?_ GE277.out) | exact HB.out))); (case aF => exact (fun k_ hk => Kd.freshB (by (with_reducible repeat (first | apply b1 | apply b2 | apply b3)); exact BK277.out) k_ hk)); (case aO => exact (by (with_reducible repeat (first | apply Kd.S_alloc | apply Kd.S_drewN | apply Kd.S_drew)); exact Kd.S_mono HO_3.out (fun k_ hk => ⟨hk.1.2, fun e_ => hk.2 e_⟩))); (case aS => exact (below_size (by repeat (first | (with_reducible first | exact HB.out | apply l1 | apply l2 | apply l3 | refine below_set ?_ GE277.out) | exact HB.out)))); (case aL => have := LMc6.out; omega); intro v290 w10 ho hb hg hat; rw [← Ny289.out] at ho; have n0_ := Aside0.mk (blk_grown (by (with_reducible repeat (first | apply b1 | apply b2 | apply b3)); exact BK277.out) hg (Kd.S_away HO_3.out (fun _ hk => hk.1.2))); have n1_ := Aside0.mk (hb); have n2_ := Aside0.mk (ho); clear BK277; clear HB; clear HO_3; clear HO288; have BK277 := n0_; have HB := n1_; have HO291 := n2_; clear n0_ n1_ n2_; clear ho hb hg hat))
       go_roundg k1
       case measure => have := HK1.out; omega
       case rel => exact ⟨(y289), (wrap64 (x8_1 + 1)), (by first | rfl | (simp; done) | (simp [*]; done)), H', ⟨by have := HK1.out; omega⟩, ⟨by (with_reducible repeat (first | apply Kd.S_alloc | apply Kd.S_drewN | apply Kd.S_drew)); exact Kd.S_mono HO291.out (fun _ hk => trivial)⟩, ⟨by repeat (first | (with_reducible first | exact HB.out | apply l1 | apply l2 | apply l3 | refine below_set ?_ GE277.out) | exact HB.out)⟩⟩
      ·rw [if_neg c6] at H
       exact absurd H (by simp)
     ·rw [if_neg c4] at H
      exact absurd H (by simp)
    ·rw [if_neg c3] at H
     exact absurd H (by simp)
   ·rw [if_neg c2] at H
    have c2b0 : decide (x8_1 < (l0.length : Int)) = false := decide_eq_false c2
    clear c2
    obtain rfl := Option.some.inj H
    go_wp2
    go_ret
    exact ⟨_, by first | rfl | (simp [errW_none, errW_some] <;> rfl) | (simp [*, errW_none, errW_some] <;> rfl), by (with_reducible repeat (first | apply Kd.S_alloc | apply Kd.S_drewN | apply Kd.S_drew)); exact HO_3.out, by repeat (first | (with_reducible first | exact HB.out | apply l1 | apply l2 | apply l3) | exact HB.out)⟩
def cue_Twin.f (k : Nat) (l0_0 : List (S41)) : Option ((List (S41))) := (cue_twin.f k l0_0).bind fun t294 => (some t294)
set_option maxHeartbeats 8000000 in
set_option maxRecDepth 100000 in
theorem cue_Twin.calls (k : Nat) (A0_0 : Option Addr) (c0_0 : Nat) (l0_0 : List (S41)) (r : List (S41)) (w : World) (hr0_0 : Kd.C k41 w A0_0 l0_0.length l0_0) (hc0_0 : l0_0.length ≤ c0_0) (h : cue_Twin.f k l0_0 = some r) :
  Calls Try.prog 27 #[.agg #[.slice A0_0 l0_0.length c0_0]] w fun e w' => ∃ v0_ : Value, e = .returned (.agg #[v0_]) ∧ Kd.S k41 41 w' w.heap.size (fun _ => True) v0_ r ∧ Below w.heap.size w w' := by
 have hu24 := Try.underlying24
 have HR0_0 := Aside0.mk hr0_0
 have HC0_0 := Aside0.mk hc0_0
 clear hr0_0 hc0_0
 have HB := Aside0.mk (Below.refl w.heap.size w)
 have H : ((cue_twin.f k l0_0).bind fun t294 => (some t294)) = some r := h
 clear h
 replace H := Option.bind_eq_some_iff.mp H
 obtain ⟨t294, A20, H⟩ := H
 (try dsimp only at H)
 have A2 := Aside0.mk A20
 clear A20
 obtain rfl := Option.some.inj H
 go_enter Try.func27, Try.ntmps27
 go_wp2_with (first | ((with_reducible refine gate_dst (N := 1) rfl ?_); refine box_event (by rfl) (N := 1) (by rfl) (cs := #[.slice A0_0 l0_0.length c0_0]) (t := 24) (by first | (go_simp; done) | (go_simp; rfl)) ?_; intro gb292 hg w3 hbox hb; obtain ⟨hb_, hw_⟩ := box_facts (by repeat (first | (with_reducible first | exact HB.out | apply l1 | apply l2 | apply l3) | exact HB.out)) hg hb; have n0_ := Aside0.mk (hb_); have n1_ := Aside0.mk (hbox); have n2_ := Aside0.mk (hw_); have n3_ := Aside0.mk (hw_); clear HB; have HB := n0_; have BK292 := n1_; have GW292 := n2_; have GE292 := n3_; clear n0_ n1_ n2_ n3_; clear hb hbox hg hb_ hw_) | ((with_reducible refine gate_dst (N := 2) rfl ?_); refine box_event (by rfl) (N := 2) (by rfl) (cs := #[.slice none 0 0]) (t := 24) (by first | (go_simp; done) | (go_simp; rfl)) ?_; intro gb293 hg w4 hbox hb; obtain ⟨hb_, hw_⟩ := box_facts (by repeat (first | (with_reducible first | exact HB.out | apply l1 | apply l2 | apply l3 | refine below_set ?_ GE292.out) | exact HB.out)) hg hb; have n0_ := Aside0.mk (blk_below (by (with_reducible repeat (first | apply b1 | apply b2 | apply b3)); exact BK292.out) hb); have n1_ := Aside0.mk (hb_); have n2_ := Aside0.mk (hbox); have n3_ := Aside0.mk (hw_); have n4_ := Aside0.mk (hw_); have n5_ := Aside0.mk ((by rw [hg]; exact Nat.ne_of_lt (blk_lt (by (with_reducible repeat (first | apply b1 | apply b2 | apply b3)); exact BK292.out)) : gb292 ≠ gb293)); have n6_ := Aside0.mk ((by rw [hg]; exact Nat.ne_of_gt (blk_lt (by (with_reducible repeat (first | apply b1 | apply b2 | apply b3)); exact BK292.out)) : gb293 ≠ gb292)); clear BK292; clear HB; have BK292 := n0_; have HB := n1_; have BK293 := n2_; have GW293 := n3_; have GE293 := n4_; have NB292_293 := n5_; have NB293_292 := n6_; clear n0_ n1_ n2_ n3_ n4_ n5_ n6_; clear hb hbox hg hb_ hw_; have hnb5 := NB292_293.out; have hnc5 := NB293_292.out; obtain ⟨hcz6_0, hfz6_0⟩ := blk_cells1 BK292.out) | ((with_reducible refine gate_callee (f := 49) rfl ?_); refine goesL_ (some 5) rfl rfl Try.func49 (by kernel_rfl) rfl #[.slice A0_0 l0_0.length c0_0] rfl (by (try simp only [List.map_toArray, List.map_cons, List.map_nil]); first | done | rfl | (simp only [List.length_drop, List.length_take]; rfl)) ?_; (with_reducible refine (cue_twin.calls k _ _ l0_0 t294 _ ?side1 ?side2 A2.out).mono ?_); (case side1 => repeat (first | exact (Kd.C_below HR0_0.out HB.out) | (with_reducible refine Kd.C_alloc ?_ _) | (with_reducible refine Kd.C_drewN ?_ _) | (with_reducible refine Kd.C_drew ?_))); (case side2 => exact HC0_0.out); rintro e w7 ⟨v295, rfl, ho0, hb⟩; refine ⟨_, rfl, ?_⟩; have n0_ := Aside0.mk (Kd.S_lower ho0 (below_size (by repeat (first | (with_reducible first | exact HB.out | apply l1 | apply l2 | apply l3 | refine below_set ?_ GE292.out | refine below_set ?_ GE293.out) | exact HB.out)))); have n1_ := Aside0.mk (blk_below (by (with_reducible repeat (first | apply b1 | apply b2 | apply b3)); exact BK292.out) hb); have n2_ := Aside0.mk (blk_below (by (with_reducible repeat (first | apply b1 | apply b2 | apply b3)); exact BK293.out) hb); have n3_ := Aside0.mk (below_step (by repeat (first | (with_reducible first | exact HB.out | apply l1 | apply l2 | apply l3 | refine below_set ?_ GE292.out | refine below_set ?_ GE293.out) | exact HB.out)) hb); clear BK292; clear BK293; clear HB; have HO296 := n0_; have BK292 := n1_; have BK293 := n2_; have HB := n3_; clear n0_ n1_ n2_ n3_; (try clear hb); (try clear hb2); (try clear hk); (try clear hi); (try clear ho0); obtain ⟨Ao8, co8, eo8⟩ := Kd.S_slice HO296.out; subst eo8; obtain ⟨hcz9_0, hfz9_0⟩ := blk_cells1 BK293.out))
 refine bodyPost_ret (results_cell_row rfl _ _ gb293 24 #[.slice Ao8 t294.length co8] (0, 0) _ rfl (by (with_reducible repeat (first | apply b1 | apply b2 | apply b3)); refine blk_put (cs := #[.slice none 0 0]) ?_ 0 _ rfl; (with_reducible repeat (first | apply b1 | apply b2 | apply b3)); exact BK293.out) Try.underlying24 rfl (by kernel_rfl)) rfl ?_
 exact ⟨_, by first | rfl | (simp [errW_none, errW_some] <;> rfl) | (simp [*, errW_none, errW_some] <;> rfl), by (with_reducible repeat (first | apply Kd.S_alloc | apply Kd.S_drewN | apply Kd.S_drew)); exact Kd.S_mono (Kd.S_far (p := ⟨gb293, 0, none⟩) (Kd.S_types HO296.out BK293.out (by decide)) (fun _ hk => hk.2) (.slice Ao8 t294.length co8)) (fun _ hk => trivial), by repeat (first | (with_reducible first | exact HB.out | apply l1 | apply l2 | apply l3 | refine below_set ?_ GE292.out | refine below_set ?_ GE293.out) | exact HB.out)⟩
end Go.Proofs.Ytbpifnpljcgjlaa.PLx
