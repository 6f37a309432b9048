-- Written by programs of this session's (wip/printer) out of the translation and of the print's words; Lean checks it.
import Derived.Test.YthgifhnfbblklaaSpPSpx0
namespace Go.Proofs.Ythgifhnfbblklaa.PSp
open Go.RowKit Go.Proofs.YthgifhnfbblklaaW.PrintWords Go.Proofs.YthgifhnfbblklaaW.PrintLast Go.Proofs.YthgifhnfbblklaaW.PrintMore
attribute [local go_sem] max2_int min2_int max_two min_two max_three min_three max_four min_four   -- for this text's walks alone
set_option linter.unusedVariables false
set_option linter.unusedSimpArgs false
mutual
def cell_wide.j0 : Nat → Int → Bool → Option (Bool)
 | 0, _, _ => none
 | k + 1, x0, x3 => if x3 = true then (cell_wide.j1 k x0 x3) else (if x0 ≥ 8986 then (if x0 ≤ 8987 then (cell_wide.j1 k x0 (decide (x0 ≤ 8987))) else (if x0 ≥ 9001 then (cell_wide.j1 k x0 (decide (x0 ≤ 9002))) else (cell_wide.j1 k x0 false))) else (if x0 ≥ 9001 then (cell_wide.j1 k x0 (decide (x0 ≤ 9002))) else (cell_wide.j1 k x0 false)))
def cell_wide.j1 : Nat → Int → Bool → Option (Bool)
 | 0, _, _ => none
 | k + 1, x0, x3 => if x3 = true then (some true) else (if x0 ≥ 9193 then (cell_wide.j2 k x0 (decide (x0 ≤ 9196))) else (cell_wide.j2 k x0 false))
def cell_wide.j2 : Nat → Int → Bool → Option (Bool)
 | 0, _, _ => none
 | k + 1, x0, x22 => if x22 = true then (cell_wide.j3 k x0 x22) else (if x0 ≥ 9748 then (if x0 ≤ 9749 then (cell_wide.j3 k x0 (decide (x0 ≤ 9749))) else (cell_wide.j3 k x0 (x0 == 9889))) else (cell_wide.j3 k x0 (x0 == 9889)))
def cell_wide.j3 : Nat → Int → Bool → Option (Bool)
 | 0, _, _ => none
 | k + 1, x0, x22 => if x22 = true then (some true) else (if x0 = 9989 then (cell_wide.j4 k x0 (x0 == 9989)) else (if x0 = 10024 then (cell_wide.j4 k x0 (x0 == 10024)) else (cell_wide.j4 k x0 (x0 == 10060))))
def cell_wide.j4 : Nat → Int → Bool → Option (Bool)
 | 0, _, _ => none
 | k + 1, x0, x37 => if x37 = true then (some true) else (if x0 ≥ 10067 then (cell_wide.j5 k x0 (decide (x0 ≤ 10069))) else (cell_wide.j5 k x0 false))
def cell_wide.j5 : Nat → Int → Bool → Option (Bool)
 | 0, _, _ => none
 | k + 1, x0, x44 => if x44 = true then (cell_wide.j6 k x0 x44) else (if x0 ≥ 10133 then (if x0 ≤ 10135 then (cell_wide.j6 k x0 (decide (x0 ≤ 10135))) else (if x0 ≥ 11035 then (cell_wide.j6 k x0 (decide (x0 ≤ 11036))) else (cell_wide.j6 k x0 false))) else (if x0 ≥ 11035 then (cell_wide.j6 k x0 (decide (x0 ≤ 11036))) else (cell_wide.j6 k x0 false)))
def cell_wide.j6 : Nat → Int → Bool → Option (Bool)
 | 0, _, _ => none
 | k + 1, x0, x44 => if x44 = true then (some true) else (if x0 ≥ 11904 then (cell_wide.j7 k x0 (decide (x0 ≤ 12350))) else (cell_wide.j7 k x0 false))
def cell_wide.j7 : Nat → Int → Bool → Option (Bool)
 | 0, _, _ => none
 | k + 1, x0, x63 => if x63 = true then (cell_wide.j8 k x0 x63) else (if x0 ≥ 12353 then (if x0 ≤ 42191 then (cell_wide.j8 k x0 (decide (x0 ≤ 42191))) else (if x0 ≥ 43360 then (cell_wide.j8 k x0 (decide (x0 ≤ 43391))) else (cell_wide.j8 k x0 false))) else (if x0 ≥ 43360 then (cell_wide.j8 k x0 (decide (x0 ≤ 43391))) else (cell_wide.j8 k x0 false)))
def cell_wide.j8 : Nat → Int → Bool → Option (Bool)
 | 0, _, _ => none
 | k + 1, x0, x63 => if x63 = true then (some true) else (if x0 ≥ 44032 then (cell_wide.j9 k x0 (decide (x0 ≤ 55203))) else (cell_wide.j9 k x0 false))
def cell_wide.j9 : Nat → Int → Bool → Option (Bool)
 | 0, _, _ => none
 | k + 1, x0, x82 => if x82 = true then (cell_wide.j10 k x0 x82) else (if x0 ≥ 63744 then (if x0 ≤ 64255 then (cell_wide.j10 k x0 (decide (x0 ≤ 64255))) else (if x0 ≥ 65072 then (cell_wide.j10 k x0 (decide (x0 ≤ 65135))) else (cell_wide.j10 k x0 false))) else (if x0 ≥ 65072 then (cell_wide.j10 k x0 (decide (x0 ≤ 65135))) else (cell_wide.j10 k x0 false)))
def cell_wide.j10 : Nat → Int → Bool → Option (Bool)
 | 0, _, _ => none
 | k + 1, x0, x82 => if x82 = true then (some true) else (if x0 ≥ 65281 then (cell_wide.j11 k x0 (decide (x0 ≤ 65376))) else (cell_wide.j11 k x0 false))
def cell_wide.j11 : Nat → Int → Bool → Option (Bool)
 | 0, _, _ => none
 | k + 1, x0, x101 => if x101 = true then (cell_wide.j12 k x0 x101) else (if x0 ≥ 65504 then (if x0 ≤ 65510 then (cell_wide.j12 k x0 (decide (x0 ≤ 65510))) else (if x0 ≥ 127744 then (cell_wide.j12 k x0 (decide (x0 ≤ 128591))) else (cell_wide.j12 k x0 false))) else (if x0 ≥ 127744 then (cell_wide.j12 k x0 (decide (x0 ≤ 128591))) else (cell_wide.j12 k x0 false)))
def cell_wide.j12 : Nat → Int → Bool → Option (Bool)
 | 0, _, _ => none
 | k + 1, x0, x101 => if x101 = true then (some true) else (if x0 ≥ 128640 then (cell_wide.j13 k x0 (decide (x0 ≤ 128767))) else (cell_wide.j13 k x0 false))
def cell_wide.j13 : Nat → Int → Bool → Option (Bool)
 | 0, _, _ => none
 | k + 1, x0, x120 => if x120 = true then (some true) else (if x0 ≥ 129280 then (cell_wide.j14 k x0 (decide (x0 ≤ 129535))) else (cell_wide.j14 k x0 false))
def cell_wide.j14 : Nat → Int → Bool → Option (Bool)
 | 0, _, _ => none
 | k + 1, x0, x120 => if x120 = true then (some true) else (if x0 ≥ 131072 then (if x0 ≤ 262141 then (some true) else (some false)) else (some false))
end
def cell_wide.f (k : Nat) (a0 : Int) : Option (Bool) := if a0 ≥ 4352 then (cell_wide.j0 k a0 (decide (a0 ≤ 4447))) else (cell_wide.j0 k a0 false)
set_option maxHeartbeats 8000000 in
set_option maxRecDepth 100000 in
theorem cell_wide.calls (k : Nat) (a0 : Int) (r : Bool) (w : World) (h : cell_wide.f k a0 = some r) :
  Calls Try.prog 48 #[.int .i32 a0] w fun e w' => e = .returned (.bool r) ∧ Drawn0 w w' := by
 have H : (if a0 ≥ 4352 then (cell_wide.j0 k a0 (decide (a0 ≤ 4447))) else (cell_wide.j0 k a0 false)) = some r := h
 clear h
 have HC2 := Aside0.mk H
 clear H
 go_enter Try.func48, Try.ntmps48
 go_upto_region 1 with (fail)
 go_cut [3] (fun v3 wc => ∃ (kq : Nat) (x3_1 : Bool), v3 = .bool x3_1 ∧ Aside0 (cell_wide.j0 kq a0 x3_1 = some r) ∧ Aside0 (kq ≤ k) ∧ Drawn0 w wc)
 case first => as_aux_lemma =>
  have H := HC2.out
  clear HC2
  by_cases c3 : a0 ≥ 4352
  ·rw [if_pos c3] at H
   have c3b0 : decide (4352 ≤ a0) = true := decide_eq_true c3
   clear c3
   (first | rw [c3b0] | (simp only [i64_w, i32_w]; rw [c3b0]) | skip)
   have H' := Aside0.mk H
   clear H
   go_wp2
   go_meet
   case rel => exact ⟨_, (decide (a0 ≤ 4447)), (by first | rfl | (simp; done) | (simp [*]; done)), H', ⟨by first | omega | exact Nat.le_refl _⟩, by repeat (first | exact Drawn0.refl _ | apply Drawn0.step)⟩
  ·rw [if_neg c3] at H
   have c3b0 : decide (4352 ≤ a0) = false := decide_eq_false c3
   clear c3
   (first | rw [c3b0] | (simp only [i64_w, i32_w]; rw [c3b0]) | skip)
   have H' := Aside0.mk H
   clear H
   go_wp2
   go_meet
   case rel => exact ⟨_, (false), (by first | rfl | (simp; done) | (simp [*]; done)), H', ⟨by first | omega | exact Nat.le_refl _⟩, by repeat (first | exact Drawn0.refl _ | apply Drawn0.step)⟩
 case rest => as_aux_lemma =>
  clear HC2
  try clear p2
  try clear c3
  try clear c3b0
  obtain ⟨kq, x3_1, rfl, HA, HJ1, ⟨mc1, rfl⟩⟩ := hcut
  cases kq with
  | zero => exact absurd HA.out (by simp [cell_wide.j0])
  | succ kj1 =>
   have H := HA.out
   clear HA
   simp only [cell_wide.j0] at H
   have HC4 := Aside0.mk H
   clear H
   go_upto_if 3 with (fail)
   go_cut [3] (fun v3 wc => ∃ (kq : Nat) (x3_3 : Bool), v3 = .bool x3_3 ∧ Aside0 (cell_wide.j1 kq a0 x3_3 = some r) ∧ Aside0 (kq ≤ kj1) ∧ Drawn0 w wc)
   case first => as_aux_lemma =>
    have H := HC4.out
    clear HC4
    by_cases c5 : x3_1 = true
    ·subst c5
     have H1 : (cell_wide.j1 kj1 a0 true) = some r := by rw [if_pos rfl] at H; exact H
     clear H
     have H := H1
     clear H1
     have H' := Aside0.mk H
     clear H
     go_wp2
     go_meet
     case rel => exact ⟨_, (true), (by first | rfl | (simp; done) | (simp [*]; done)), H', ⟨by have := HJ1.out; first | omega | exact Nat.le_refl _⟩, by repeat (first | exact Drawn0.refl _ | apply Drawn0.step)⟩
    ·replace c5 := Bool.eq_false_iff.mpr c5
     subst c5
     have H1 : (if a0 ≥ 8986 then (if a0 ≤ 8987 then (cell_wide.j1 kj1 a0 (decide (a0 ≤ 8987))) else (if a0 ≥ 9001 then (cell_wide.j1 kj1 a0 (decide (a0 ≤ 9002))) else (cell_wide.j1 kj1 a0 false))) else (if a0 ≥ 9001 then (cell_wide.j1 kj1 a0 (decide (a0 ≤ 9002))) else (cell_wide.j1 kj1 a0 false))) = some r := by rw [if_neg (show ¬ (false = true) by decide)] at H; exact H
     clear H
     have H := H1
     clear H1
     by_cases c6 : a0 ≥ 8986
     ·rw [if_pos c6] at H
      have c6b0 : decide (8986 ≤ a0) = true := decide_eq_true c6
      clear c6
      (first | rw [c6b0] | (simp only [i64_w, i32_w]; rw [c6b0]) | skip)
      by_cases c7 : a0 ≤ 8987
      ·rw [if_pos c7] at H
       have c7b0 : decide (a0 ≤ 8987) = true := decide_eq_true c7
       clear c7
       have H' := Aside0.mk H
       clear H
       go_wp2
       go_meet
       case rel => exact ⟨_, (decide (a0 ≤ 8987)), (by first | rfl | (simp; done) | (simp [*]; done)), H', ⟨by have := HJ1.out; first | omega | exact Nat.le_refl _⟩, by repeat (first | exact Drawn0.refl _ | apply Drawn0.step)⟩
      ·rw [if_neg c7] at H
       have c7b0 : decide (a0 ≤ 8987) = false := decide_eq_false c7
       clear c7
       by_cases c8 : a0 ≥ 9001
       ·rw [if_pos c8] at H
        have c8b0 : decide (9001 ≤ a0) = true := decide_eq_true c8
        clear c8
        have H' := Aside0.mk H
        clear H
        go_wp2
        go_meet
        case rel => exact ⟨_, (decide (a0 ≤ 9002)), (by first | rfl | (simp; done) | (simp [*]; done)), H', ⟨by have := HJ1.out; first | omega | exact Nat.le_refl _⟩, by repeat (first | exact Drawn0.refl _ | apply Drawn0.step)⟩
       ·rw [if_neg c8] at H
        have c8b0 : decide (9001 ≤ a0) = false := decide_eq_false c8
        clear c8
        have H' := Aside0.mk H
        clear H
        go_wp2
        go_meet
        case rel => exact ⟨_, (false), (by first | rfl | (simp; done) | (simp [*]; done)), H', ⟨by have := HJ1.out; first | omega | exact Nat.le_refl _⟩, by repeat (first | exact Drawn0.refl _ | apply Drawn0.step)⟩
     ·rw [if_neg c6] at H
      have c6b0 : decide (8986 ≤ a0) = false := decide_eq_false c6
      clear c6
      (first | rw [c6b0] | (simp only [i64_w, i32_w]; rw [c6b0]) | skip)
      by_cases c9 : a0 ≥ 9001
      ·rw [if_pos c9] at H
       have c9b0 : decide (9001 ≤ a0) = true := decide_eq_true c9
       clear c9
       have H' := Aside0.mk H
       clear H
       go_wp2
       go_meet
       case rel => exact ⟨_, (decide (a0 ≤ 9002)), (by first | rfl | (simp; done) | (simp [*]; done)), H', ⟨by have := HJ1.out; first | omega | exact Nat.le_refl _⟩, by repeat (first | exact Drawn0.refl _ | apply Drawn0.step)⟩
      ·rw [if_neg c9] at H
       have c9b0 : decide (9001 ≤ a0) = false := decide_eq_false c9
       clear c9
       have H' := Aside0.mk H
       clear H
       go_wp2
       go_meet
       case rel => exact ⟨_, (false), (by first | rfl | (simp; done) | (simp [*]; done)), H', ⟨by have := HJ1.out; first | omega | exact Nat.le_refl _⟩, by repeat (first | exact Drawn0.refl _ | apply Drawn0.step)⟩
   case rest => as_aux_lemma =>
    clear HC4
    try clear c1
    try clear p2
    try clear c3
    try clear c3b0
    try clear c4
    try clear c5
    try clear c6
    try clear c6b0
    try clear c7
    try clear c7b0
    try clear c8
    try clear c8b0
    try clear c9
    try clear c9b0
    try clear p2
    obtain ⟨kq, x3_3, rfl, HA, HJ3, ⟨mc3, rfl⟩⟩ := hcut
    cases kq with
    | zero => exact absurd HA.out (by simp [cell_wide.j1])
    | succ kj3 =>
     have H := HA.out
     clear HA
     simp only [cell_wide.j1] at H
     by_cases c10 : x3_3 = true
     ·subst c10
      have H1 : (some true) = some r := by rw [if_pos rfl] at H; exact H
      clear H
      have H := H1
      clear H1
      obtain rfl := Option.some.inj H
      go_wp2
      go_ret
      exact ⟨by first | rfl | (simp; done) | (simp [*]; done), by repeat (first | exact Drawn0.refl _ | apply Drawn0.step)⟩
     ·replace c10 := Bool.eq_false_iff.mpr c10
      subst c10
      have H1 : (if a0 ≥ 9193 then (cell_wide.j2 kj3 a0 (decide (a0 ≤ 9196))) else (cell_wide.j2 kj3 a0 false)) = some r := by rw [if_neg (show ¬ (false = true) by decide)] at H; exact H
      clear H
      have H := H1
      clear H1
      have HC11 := Aside0.mk H
      clear H
      go_upto_region 5 with (fail)
      go_cut [22] (fun v22 wc => ∃ (kq : Nat) (x22_10 : Bool), v22 = .bool x22_10 ∧ Aside0 (cell_wide.j2 kq a0 x22_10 = some r) ∧ Aside0 (kq ≤ kj3) ∧ Drawn0 w wc)
      case first => as_aux_lemma =>
       have H := HC11.out
       clear HC11
       by_cases c12 : a0 ≥ 9193
       ·rw [if_pos c12] at H
        have c12b0 : decide (9193 ≤ a0) = true := decide_eq_true c12
        clear c12
        (first | rw [c12b0] | (simp only [i64_w, i32_w]; rw [c12b0]) | skip)
        have H' := Aside0.mk H
        clear H
        go_wp2
        go_meet
        case rel => exact ⟨_, (decide (a0 ≤ 9196)), (by first | rfl | (simp; done) | (simp [*]; done)), H', ⟨by have := HJ1.out; have := HJ3.out; first | omega | exact Nat.le_refl _⟩, by repeat (first | exact Drawn0.refl _ | apply Drawn0.step)⟩
       ·rw [if_neg c12] at H
        have c12b0 : decide (9193 ≤ a0) = false := decide_eq_false c12
        clear c12
        (first | rw [c12b0] | (simp only [i64_w, i32_w]; rw [c12b0]) | skip)
        have H' := Aside0.mk H
        clear H
        go_wp2
        go_meet
        case rel => exact ⟨_, (false), (by first | rfl | (simp; done) | (simp [*]; done)), H', ⟨by have := HJ1.out; have := HJ3.out; first | omega | exact Nat.le_refl _⟩, by repeat (first | exact Drawn0.refl _ | apply Drawn0.step)⟩
      case rest => as_aux_lemma =>
       clear HC11
       try clear c1
       try clear p2
       try clear c3
       try clear c3b0
       try clear c4
       try clear c5
       try clear c6
       try clear c6b0
       try clear c7
       try clear c7b0
       try clear c8
       try clear c8b0
       try clear c9
       try clear c9b0
       try clear c10
       try clear c12
       try clear c12b0
       try clear p2
       obtain ⟨kq, x22_10, rfl, HA, HJ10, ⟨mc10, rfl⟩⟩ := hcut
       cases kq with
       | zero => exact absurd HA.out (by simp [cell_wide.j2])
       | succ kj10 =>
        have H := HA.out
        clear HA
        simp only [cell_wide.j2] at H
        have HC13 := Aside0.mk H
        clear H
        go_upto_if 22 with (fail)
        go_cut [22] (fun v22 wc => ∃ (kq : Nat) (x22_12 : Bool), v22 = .bool x22_12 ∧ Aside0 (cell_wide.j3 kq a0 x22_12 = some r) ∧ Aside0 (kq ≤ kj10) ∧ Drawn0 w wc)
        case first => as_aux_lemma =>
         have H := HC13.out
         clear HC13
         by_cases c14 : x22_10 = true
         ·subst c14
          have H1 : (cell_wide.j3 kj10 a0 true) = some r := by rw [if_pos rfl] at H; exact H
          clear H
          have H := H1
          clear H1
          have H' := Aside0.mk H
          clear H
          go_wp2
          go_meet
          case rel => exact ⟨_, (true), (by first | rfl | (simp; done) | (simp [*]; done)), H', ⟨by have := HJ1.out; have := HJ3.out; have := HJ10.out; first | omega | exact Nat.le_refl _⟩, by repeat (first | exact Drawn0.refl _ | apply Drawn0.step)⟩
         ·replace c14 := Bool.eq_false_iff.mpr c14
          subst c14
          have H1 : (if a0 ≥ 9748 then (if a0 ≤ 9749 then (cell_wide.j3 kj10 a0 (decide (a0 ≤ 9749))) else (cell_wide.j3 kj10 a0 (a0 == 9889))) else (cell_wide.j3 kj10 a0 (a0 == 9889))) = some r := by rw [if_neg (show ¬ (false = true) by decide)] at H; exact H
          clear H
          have H := H1
          clear H1
          by_cases c15 : a0 ≥ 9748
          ·rw [if_pos c15] at H
           have c15b0 : decide (9748 ≤ a0) = true := decide_eq_true c15
           clear c15
           (first | rw [c15b0] | (simp only [i64_w, i32_w]; rw [c15b0]) | skip)
           by_cases c16 : a0 ≤ 9749
           ·rw [if_pos c16] at H
            have c16b0 : decide (a0 ≤ 9749) = true := decide_eq_true c16
            clear c16
            have H' := Aside0.mk H
            clear H
            go_wp2
            go_meet
            case rel => exact ⟨_, (decide (a0 ≤ 9749)), (by first | rfl | (simp; done) | (simp [*]; done)), H', ⟨by have := HJ1.out; have := HJ3.out; have := HJ10.out; first | omega | exact Nat.le_refl _⟩, by repeat (first | exact Drawn0.refl _ | apply Drawn0.step)⟩
           ·rw [if_neg c16] at H
            have c16b0 : decide (a0 ≤ 9749) = false := decide_eq_false c16
            clear c16
            have H' := Aside0.mk H
            clear H
            go_wp2
            go_meet
            case rel => exact ⟨_, ((a0 == 9889)), (by first | rfl | (simp; done) | (simp [*]; done)), H', ⟨by have := HJ1.out; have := HJ3.out; have := HJ10.out; first | omega | exact Nat.le_refl _⟩, by repeat (first | exact Drawn0.refl _ | apply Drawn0.step)⟩
          ·rw [if_neg c15] at H
           have c15b0 : decide (9748 ≤ a0) = false := decide_eq_false c15
           clear c15
           (first | rw [c15b0] | (simp only [i64_w, i32_w]; rw [c15b0]) | skip)
           have H' := Aside0.mk H
           clear H
           go_wp2
           go_meet
           case rel => exact ⟨_, ((a0 == 9889)), (by first | rfl | (simp; done) | (simp [*]; done)), H', ⟨by have := HJ1.out; have := HJ3.out; have := HJ10.out; first | omega | exact Nat.le_refl _⟩, by repeat (first | exact Drawn0.refl _ | apply Drawn0.step)⟩
        case rest => as_aux_lemma =>
         clear HC13
         try clear c1
         try clear p2
         try clear c3
         try clear c3b0
         try clear c4
         try clear c5
         try clear c6
         try clear c6b0
         try clear c7
         try clear c7b0
         try clear c8
         try clear c8b0
         try clear c9
         try clear c9b0
         try clear c10
         try clear c12
         try clear c12b0
         try clear c14
         try clear c15
         try clear c15b0
         try clear c16
         try clear c16b0
         try clear p2
         obtain ⟨kq, x22_12, rfl, HA, HJ12, ⟨mc12, rfl⟩⟩ := hcut
         cases kq with
         | zero => exact absurd HA.out (by simp [cell_wide.j3])
         | succ kj12 =>
          have H := HA.out
          clear HA
          simp only [cell_wide.j3] at H
          by_cases c17 : x22_12 = true
          ·subst c17
           have H1 : (some true) = some r := by rw [if_pos rfl] at H; exact H
           clear H
           have H := H1
           clear H1
           obtain rfl := Option.some.inj H
           go_wp2
           go_ret
           exact ⟨by first | rfl | (simp; done) | (simp [*]; done), by repeat (first | exact Drawn0.refl _ | apply Drawn0.step)⟩
          ·replace c17 := Bool.eq_false_iff.mpr c17
           subst c17
           have H1 : (if a0 = 9989 then (cell_wide.j4 kj12 a0 (a0 == 9989)) else (if a0 = 10024 then (cell_wide.j4 kj12 a0 (a0 == 10024)) else (cell_wide.j4 kj12 a0 (a0 == 10060)))) = some r := by rw [if_neg (show ¬ (false = true) by decide)] at H; exact H
           clear H
           have H := H1
           clear H1
           have HC18 := Aside0.mk H
           clear H
           go_upto_if 37 with (fail)
           go_cut [37] (fun v37 wc => ∃ (kq : Nat) (x37_17 : Bool), v37 = .bool x37_17 ∧ Aside0 (cell_wide.j4 kq a0 x37_17 = some r) ∧ Aside0 (kq ≤ kj12) ∧ Drawn0 w wc)
           case first => as_aux_lemma =>
            have H := HC18.out
            clear HC18
            by_cases c19 : a0 = 9989
            ·rw [if_pos c19] at H
             have c19b0 : (a0 == 9989) = true := beq_iff_eq.mpr c19
             have c19b1 : (a0 != 9989) = false := bne_eq_false_iff_eq.mpr c19
             clear c19
             (first | rw [c19b0] | (simp only [i64_w, i32_w]; rw [c19b0]) | skip)
             have H' := Aside0.mk H
             clear H
             go_wp2
             go_meet
             case rel => exact ⟨_, ((a0 == 9989)), (by first | rfl | (simp; done) | (simp [*]; done)), H', ⟨by have := HJ1.out; have := HJ3.out; have := HJ10.out; have := HJ12.out; first | omega | exact Nat.le_refl _⟩, by repeat (first | exact Drawn0.refl _ | apply Drawn0.step)⟩
            ·rw [if_neg c19] at H
             have c19b0 : (a0 == 9989) = false := beq_eq_false_iff_ne.mpr c19
             have c19b1 : (a0 != 9989) = true := bne_iff_ne.mpr c19
             (first | rw [c19b0] | (simp only [i64_w, i32_w]; rw [c19b0]) | skip)
             by_cases c20 : a0 = 10024
             ·rw [if_pos c20] at H
              have c20b0 : (a0 == 10024) = true := beq_iff_eq.mpr c20
              have c20b1 : (a0 != 10024) = false := bne_eq_false_iff_eq.mpr c20
              clear c20
              have H' := Aside0.mk H
              clear H
              go_wp2
              go_meet
              case rel => exact ⟨_, ((a0 == 10024)), (by first | rfl | (simp; done) | (simp [*]; done)), H', ⟨by have := HJ1.out; have := HJ3.out; have := HJ10.out; have := HJ12.out; first | omega | exact Nat.le_refl _⟩, by repeat (first | exact Drawn0.refl _ | apply Drawn0.step)⟩
             ·rw [if_neg c20] at H
              have c20b0 : (a0 == 10024) = false := beq_eq_false_iff_ne.mpr c20
              have c20b1 : (a0 != 10024) = true := bne_iff_ne.mpr c20
              have H' := Aside0.mk H
              clear H
              go_wp2
              go_meet
              case rel => exact ⟨_, ((a0 == 10060)), (by first | rfl | (simp; done) | (simp [*]; done)), H', ⟨by have := HJ1.out; have := HJ3.out; have := HJ10.out; have := HJ12.out; first | omega | exact Nat.le_refl _⟩, by repeat (first | exact Drawn0.refl _ | apply Drawn0.step)⟩
           case rest => as_aux_lemma =>
            clear HC18
            try clear c1
            try clear c2
            try clear p2
            try clear c3
            try clear c3b0
            try clear c4
            try clear c5
            try clear c6
            try clear c6b0
            try clear c7
            try clear c7b0
            try clear c8
            try clear c8b0
            try clear c9
            try clear c9b0
            try clear c10
            try clear c12
            try clear c12b0
            try clear c14
            try clear c15
            try clear c15b0
            try clear c16
            try clear c16b0
            try clear c17
            try clear c19
            try clear c19b0
            try clear c19b1
            try clear c20
            try clear c20b0
            try clear c20b1
            try clear p2
            obtain ⟨kq, x37_17, rfl, HA, HJ17, ⟨mc17, rfl⟩⟩ := hcut
            cases kq with
            | zero => exact absurd HA.out (by simp [cell_wide.j4])
            | succ kj17 =>
             have H := HA.out
             clear HA
             simp only [cell_wide.j4] at H
             by_cases c21 : x37_17 = true
             ·subst c21
              have H1 : (some true) = some r := by rw [if_pos rfl] at H; exact H
              clear H
              have H := H1
              clear H1
              obtain rfl := Option.some.inj H
              go_wp2
              go_ret
              exact ⟨by first | rfl | (simp; done) | (simp [*]; done), by repeat (first | exact Drawn0.refl _ | apply Drawn0.step)⟩
             ·replace c21 := Bool.eq_false_iff.mpr c21
              subst c21
              have H1 : (if a0 ≥ 10067 then (cell_wide.j5 kj17 a0 (decide (a0 ≤ 10069))) else (cell_wide.j5 kj17 a0 false)) = some r := by rw [if_neg (show ¬ (false = true) by decide)] at H; exact H
              clear H
              have H := H1
              clear H1
              have HC22 := Aside0.mk H
              clear H
              go_upto_region 13 with (fail)
              go_cut [44] (fun v44 wc => ∃ (kq : Nat) (x44_21 : Bool), v44 = .bool x44_21 ∧ Aside0 (cell_wide.j5 kq a0 x44_21 = some r) ∧ Aside0 (kq ≤ kj17) ∧ Drawn0 w wc)
              case first => as_aux_lemma =>
               have H := HC22.out
               clear HC22
               by_cases c23 : a0 ≥ 10067
               ·rw [if_pos c23] at H
                have c23b0 : decide (10067 ≤ a0) = true := decide_eq_true c23
                clear c23
                (first | rw [c23b0] | (simp only [i64_w, i32_w]; rw [c23b0]) | skip)
                have H' := Aside0.mk H
                clear H
                go_wp2
                go_meet
                case rel => exact ⟨_, (decide (a0 ≤ 10069)), (by first | rfl | (simp; done) | (simp [*]; done)), H', ⟨by have := HJ1.out; have := HJ3.out; have := HJ10.out; have := HJ12.out; have := HJ17.out; first | omega | exact Nat.le_refl _⟩, by repeat (first | exact Drawn0.refl _ | apply Drawn0.step)⟩
               ·rw [if_neg c23] at H
                have c23b0 : decide (10067 ≤ a0) = false := decide_eq_false c23
                clear c23
                (first | rw [c23b0] | (simp only [i64_w, i32_w]; rw [c23b0]) | skip)
                have H' := Aside0.mk H
                clear H
                go_wp2
                go_meet
                case rel => exact ⟨_, (false), (by first | rfl | (simp; done) | (simp [*]; done)), H', ⟨by have := HJ1.out; have := HJ3.out; have := HJ10.out; have := HJ12.out; have := HJ17.out; first | omega | exact Nat.le_refl _⟩, by repeat (first | exact Drawn0.refl _ | apply Drawn0.step)⟩
              case rest => as_aux_lemma =>
               clear HC22
               try clear c1
               try clear c2
               try clear p2
               try clear c3
               try clear c3b0
               try clear c4
               try clear c5
               try clear c6
               try clear c6b0
               try clear c7
               try clear c7b0
               try clear c8
               try clear c8b0
               try clear c9
               try clear c9b0
               try clear c10
               try clear c12
               try clear c12b0
               try clear c14
               try clear c15
               try clear c15b0
               try clear c16
               try clear c16b0
               try clear c17
               try clear c19
               try clear c19b0
               try clear c19b1
               try clear c20
               try clear c20b0
               try clear c20b1
               try clear c21
               try clear c23
               try clear c23b0
               try clear p2
               obtain ⟨kq, x44_21, rfl, HA, HJ21, ⟨mc21, rfl⟩⟩ := hcut
               cases kq with
               | zero => exact absurd HA.out (by simp [cell_wide.j5])
               | succ kj21 =>
                have H := HA.out
                clear HA
                simp only [cell_wide.j5] at H
                have HC24 := Aside0.mk H
                clear H
                go_upto_if 44 with (fail)
                go_cut [44] (fun v44 wc => ∃ (kq : Nat) (x44_23 : Bool), v44 = .bool x44_23 ∧ Aside0 (cell_wide.j6 kq a0 x44_23 = some r) ∧ Aside0 (kq ≤ kj21) ∧ Drawn0 w wc)
                case first => as_aux_lemma =>
                 have H := HC24.out
                 clear HC24
                 by_cases c25 : x44_21 = true
                 ·subst c25
                  have H1 : (cell_wide.j6 kj21 a0 true) = some r := by rw [if_pos rfl] at H; exact H
                  clear H
                  have H := H1
                  clear H1
                  have H' := Aside0.mk H
                  clear H
                  go_wp2
                  go_meet
                  case rel => exact ⟨_, (true), (by first | rfl | (simp; done) | (simp [*]; done)), H', ⟨by have := HJ1.out; have := HJ3.out; have := HJ10.out; have := HJ12.out; have := HJ17.out; have := HJ21.out; first | omega | exact Nat.le_refl _⟩, by repeat (first | exact Drawn0.refl _ | apply Drawn0.step)⟩
                 ·replace c25 := Bool.eq_false_iff.mpr c25
                  subst c25
                  have H1 : (if a0 ≥ 10133 then (if a0 ≤ 10135 then (cell_wide.j6 kj21 a0 (decide (a0 ≤ 10135))) else (if a0 ≥ 11035 then (cell_wide.j6 kj21 a0 (decide (a0 ≤ 11036))) else (cell_wide.j6 kj21 a0 false))) else (if a0 ≥ 11035 then (cell_wide.j6 kj21 a0 (decide (a0 ≤ 11036))) else (cell_wide.j6 kj21 a0 false))) = some r := by rw [if_neg (show ¬ (false = true) by decide)] at H; exact H
                  clear H
                  have H := H1
                  clear H1
                  by_cases c26 : a0 ≥ 10133
                  ·rw [if_pos c26] at H
                   have c26b0 : decide (10133 ≤ a0) = true := decide_eq_true c26
                   clear c26
                   (first | rw [c26b0] | (simp only [i64_w, i32_w]; rw [c26b0]) | skip)
                   by_cases c27 : a0 ≤ 10135
                   ·rw [if_pos c27] at H
                    have c27b0 : decide (a0 ≤ 10135) = true := decide_eq_true c27
                    clear c27
                    have H' := Aside0.mk H
                    clear H
                    go_wp2
                    go_meet
                    case rel => exact ⟨_, (decide (a0 ≤ 10135)), (by first | rfl | (simp; done) | (simp [*]; done)), H', ⟨by have := HJ1.out; have := HJ3.out; have := HJ10.out; have := HJ12.out; have := HJ17.out; have := HJ21.out; first | omega | exact Nat.le_refl _⟩, by repeat (first | exact Drawn0.refl _ | apply Drawn0.step)⟩
                   ·rw [if_neg c27] at H
                    have c27b0 : decide (a0 ≤ 10135) = false := decide_eq_false c27
                    clear c27
                    by_cases c28 : a0 ≥ 11035
                    ·rw [if_pos c28] at H
                     have c28b0 : decide (11035 ≤ a0) = true := decide_eq_true c28
                     clear c28
                     have H' := Aside0.mk H
                     clear H
                     go_wp2
                     go_meet
                     case rel => exact ⟨_, (decide (a0 ≤ 11036)), (by first | rfl | (simp; done) | (simp [*]; done)), H', ⟨by have := HJ1.out; have := HJ3.out; have := HJ10.out; have := HJ12.out; have := HJ17.out; have := HJ21.out; first | omega | exact Nat.le_refl _⟩, by repeat (first | exact Drawn0.refl _ | apply Drawn0.step)⟩
                    ·rw [if_neg c28] at H
                     have c28b0 : decide (11035 ≤ a0) = false := decide_eq_false c28
                     clear c28
                     have H' := Aside0.mk H
                     clear H
                     go_wp2
                     go_meet
                     case rel => exact ⟨_, (false), (by first | rfl | (simp; done) | (simp [*]; done)), H', ⟨by have := HJ1.out; have := HJ3.out; have := HJ10.out; have := HJ12.out; have := HJ17.out; have := HJ21.out; first | omega | exact Nat.le_refl _⟩, by repeat (first | exact Drawn0.refl _ | apply Drawn0.step)⟩
                  ·rw [if_neg c26] at H
                   have c26b0 : decide (10133 ≤ a0) = false := decide_eq_false c26
                   clear c26
                   (first | rw [c26b0] | (simp only [i64_w, i32_w]; rw [c26b0]) | skip)
                   by_cases c29 : a0 ≥ 11035
                   ·rw [if_pos c29] at H
                    have c29b0 : decide (11035 ≤ a0) = true := decide_eq_true c29
                    clear c29
                    have H' := Aside0.mk H
                    clear H
                    go_wp2
                    go_meet
                    case rel => exact ⟨_, (decide (a0 ≤ 11036)), (by first | rfl | (simp; done) | (simp [*]; done)), H', ⟨by have := HJ1.out; have := HJ3.out; have := HJ10.out; have := HJ12.out; have := HJ17.out; have := HJ21.out; first | omega | exact Nat.le_refl _⟩, by repeat (first | exact Drawn0.refl _ | apply Drawn0.step)⟩
                   ·rw [if_neg c29] at H
                    have c29b0 : decide (11035 ≤ a0) = false := decide_eq_false c29
                    clear c29
                    have H' := Aside0.mk H
                    clear H
                    go_wp2
                    go_meet
                    case rel => exact ⟨_, (false), (by first | rfl | (simp; done) | (simp [*]; done)), H', ⟨by have := HJ1.out; have := HJ3.out; have := HJ10.out; have := HJ12.out; have := HJ17.out; have := HJ21.out; first | omega | exact Nat.le_refl _⟩, by repeat (first | exact Drawn0.refl _ | apply Drawn0.step)⟩
                case rest => as_aux_lemma =>
                 clear HC24
                 try clear c1
                 try clear c2
                 try clear p2
                 try clear c3
                 try clear c3b0
                 try clear c4
                 try clear c5
                 try clear c6
                 try clear c6b0
                 try clear c7
                 try clear c7b0
                 try clear c8
                 try clear c8b0
                 try clear c9
                 try clear c9b0
                 try clear c10
                 try clear c12
                 try clear c12b0
                 try clear c14
                 try clear c15
                 try clear c15b0
                 try clear c16
                 try clear c16b0
                 try clear c17
                 try clear c19
                 try clear c19b0
                 try clear c19b1
                 try clear c20
                 try clear c20b0
                 try clear c20b1
                 try clear c21
                 try clear c23
                 try clear c23b0
                 try clear c25
                 try clear c26
                 try clear c26b0
                 try clear c27
                 try clear c27b0
                 try clear c28
                 try clear c28b0
                 try clear c29
                 try clear c29b0
                 try clear p2
                 obtain ⟨kq, x44_23, rfl, HA, HJ23, ⟨mc23, rfl⟩⟩ := hcut
                 cases kq with
                 | zero => exact absurd HA.out (by simp [cell_wide.j6])
                 | succ kj23 =>
                  have H := HA.out
                  clear HA
                  simp only [cell_wide.j6] at H
                  by_cases c30 : x44_23 = true
                  ·subst c30
                   have H1 : (some true) = some r := by rw [if_pos rfl] at H; exact H
                   clear H
                   have H := H1
                   clear H1
                   obtain rfl := Option.some.inj H
                   go_wp2
                   go_ret
                   exact ⟨by first | rfl | (simp; done) | (simp [*]; done), by repeat (first | exact Drawn0.refl _ | apply Drawn0.step)⟩
                  ·replace c30 := Bool.eq_false_iff.mpr c30
                   subst c30
                   have H1 : (if a0 ≥ 11904 then (cell_wide.j7 kj23 a0 (decide (a0 ≤ 12350))) else (cell_wide.j7 kj23 a0 false)) = some r := by rw [if_neg (show ¬ (false = true) by decide)] at H; exact H
                   clear H
                   have H := H1
                   clear H1
                   have HC31 := Aside0.mk H
                   clear H
                   go_upto_region 17 with (fail)
                   go_cut [63] (fun v63 wc => ∃ (kq : Nat) (x63_30 : Bool), v63 = .bool x63_30 ∧ Aside0 (cell_wide.j7 kq a0 x63_30 = some r) ∧ Aside0 (kq ≤ kj23) ∧ Drawn0 w wc)
                   case first => as_aux_lemma =>
                    have H := HC31.out
                    clear HC31
                    by_cases c32 : a0 ≥ 11904
                    ·rw [if_pos c32] at H
                     have c32b0 : decide (11904 ≤ a0) = true := decide_eq_true c32
                     clear c32
                     (first | rw [c32b0] | (simp only [i64_w, i32_w]; rw [c32b0]) | skip)
                     have H' := Aside0.mk H
                     clear H
                     go_wp2
                     go_meet
                     case rel => exact ⟨_, (decide (a0 ≤ 12350)), (by first | rfl | (simp; done) | (simp [*]; done)), H', ⟨by have := HJ1.out; have := HJ3.out; have := HJ10.out; have := HJ12.out; have := HJ17.out; have := HJ21.out; have := HJ23.out; first | omega | exact Nat.le_refl _⟩, by repeat (first | exact Drawn0.refl _ | apply Drawn0.step)⟩
                    ·rw [if_neg c32] at H
                     have c32b0 : decide (11904 ≤ a0) = false := decide_eq_false c32
                     clear c32
                     (first | rw [c32b0] | (simp only [i64_w, i32_w]; rw [c32b0]) | skip)
                     have H' := Aside0.mk H
                     clear H
                     go_wp2
                     go_meet
                     case rel => exact ⟨_, (false), (by first | rfl | (simp; done) | (simp [*]; done)), H', ⟨by have := HJ1.out; have := HJ3.out; have := HJ10.out; have := HJ12.out; have := HJ17.out; have := HJ21.out; have := HJ23.out; first | omega | exact Nat.le_refl _⟩, by repeat (first | exact Drawn0.refl _ | apply Drawn0.step)⟩
                   case rest => as_aux_lemma =>
                    clear HC31
                    try clear c1
                    try clear c2
                    try clear p2
                    try clear c3
                    try clear c3b0
                    try clear c4
                    try clear c5
                    try clear c6
                    try clear c6b0
                    try clear c7
                    try clear c7b0
                    try clear c8
                    try clear c8b0
                    try clear c9
                    try clear c9b0
                    try clear c10
                    try clear c12
                    try clear c12b0
                    try clear c14
                    try clear c15
                    try clear c15b0
                    try clear c16
                    try clear c16b0
                    try clear c17
                    try clear c19
                    try clear c19b0
                    try clear c19b1
                    try clear c20
                    try clear c20b0
                    try clear c20b1
                    try clear c21
                    try clear c23
                    try clear c23b0
                    try clear c25
                    try clear c26
                    try clear c26b0
                    try clear c27
                    try clear c27b0
                    try clear c28
                    try clear c28b0
                    try clear c29
                    try clear c29b0
                    try clear c30
                    try clear c32
                    try clear c32b0
                    try clear p2
                    obtain ⟨kq, x63_30, rfl, HA, HJ30, ⟨mc30, rfl⟩⟩ := hcut
                    cases kq with
                    | zero => exact absurd HA.out (by simp [cell_wide.j7])
                    | succ kj30 =>
                     have H := HA.out
                     clear HA
                     simp only [cell_wide.j7] at H
                     have HC33 := Aside0.mk H
                     clear H
                     go_upto_if 63 with (fail)
                     go_cut [63] (fun v63 wc => ∃ (kq : Nat) (x63_32 : Bool), v63 = .bool x63_32 ∧ Aside0 (cell_wide.j8 kq a0 x63_32 = some r) ∧ Aside0 (kq ≤ kj30) ∧ Drawn0 w wc)
                     case first => as_aux_lemma =>
                      have H := HC33.out
                      clear HC33
                      by_cases c34 : x63_30 = true
                      ·subst c34
                       have H1 : (cell_wide.j8 kj30 a0 true) = some r := by rw [if_pos rfl] at H; exact H
                       clear H
                       have H := H1
                       clear H1
                       have H' := Aside0.mk H
                       clear H
                       go_wp2
                       go_meet
                       case rel => exact ⟨_, (true), (by first | rfl | (simp; done) | (simp [*]; done)), H', ⟨by have := HJ1.out; have := HJ3.out; have := HJ10.out; have := HJ12.out; have := HJ17.out; have := HJ21.out; have := HJ23.out; have := HJ30.out; first | omega | exact Nat.le_refl _⟩, by repeat (first | exact Drawn0.refl _ | apply Drawn0.step)⟩
                      ·replace c34 := Bool.eq_false_iff.mpr c34
                       subst c34
                       have H1 : (if a0 ≥ 12353 then (if a0 ≤ 42191 then (cell_wide.j8 kj30 a0 (decide (a0 ≤ 42191))) else (if a0 ≥ 43360 then (cell_wide.j8 kj30 a0 (decide (a0 ≤ 43391))) else (cell_wide.j8 kj30 a0 false))) else (if a0 ≥ 43360 then (cell_wide.j8 kj30 a0 (decide (a0 ≤ 43391))) else (cell_wide.j8 kj30 a0 false))) = some r := by rw [if_neg (show ¬ (false = true) by decide)] at H; exact H
                       clear H
                       have H := H1
                       clear H1
                       by_cases c35 : a0 ≥ 12353
                       ·rw [if_pos c35] at H
                        have c35b0 : decide (12353 ≤ a0) = true := decide_eq_true c35
                        clear c35
                        (first | rw [c35b0] | (simp only [i64_w, i32_w]; rw [c35b0]) | skip)
                        by_cases c36 : a0 ≤ 42191
                        ·rw [if_pos c36] at H
                         have c36b0 : decide (a0 ≤ 42191) = true := decide_eq_true c36
                         clear c36
                         have H' := Aside0.mk H
                         clear H
                         go_wp2
                         go_meet
                         case rel => exact ⟨_, (decide (a0 ≤ 42191)), (by first | rfl | (simp; done) | (simp [*]; done)), H', ⟨by have := HJ1.out; have := HJ3.out; have := HJ10.out; have := HJ12.out; have := HJ17.out; have := HJ21.out; have := HJ23.out; have := HJ30.out; first | omega | exact Nat.le_refl _⟩, by repeat (first | exact Drawn0.refl _ | apply Drawn0.step)⟩
                        ·rw [if_neg c36] at H
                         have c36b0 : decide (a0 ≤ 42191) = false := decide_eq_false c36
                         clear c36
                         by_cases c37 : a0 ≥ 43360
                         ·rw [if_pos c37] at H
                          have c37b0 : decide (43360 ≤ a0) = true := decide_eq_true c37
                          clear c37
                          have H' := Aside0.mk H
                          clear H
                          go_wp2
                          go_meet
                          case rel => exact ⟨_, (decide (a0 ≤ 43391)), (by first | rfl | (simp; done) | (simp [*]; done)), H', ⟨by have := HJ1.out; have := HJ3.out; have := HJ10.out; have := HJ12.out; have := HJ17.out; have := HJ21.out; have := HJ23.out; have := HJ30.out; first | omega | exact Nat.le_refl _⟩, by repeat (first | exact Drawn0.refl _ | apply Drawn0.step)⟩
                         ·rw [if_neg c37] at H
                          have c37b0 : decide (43360 ≤ a0) = false := decide_eq_false c37
                          clear c37
                          have H' := Aside0.mk H
                          clear H
                          go_wp2
                          go_meet
                          case rel => exact ⟨_, (false), (by first | rfl | (simp; done) | (simp [*]; done)), H', ⟨by have := HJ1.out; have := HJ3.out; have := HJ10.out; have := HJ12.out; have := HJ17.out; have := HJ21.out; have := HJ23.out; have := HJ30.out; first | omega | exact Nat.le_refl _⟩, by repeat (first | exact Drawn0.refl _ | apply Drawn0.step)⟩
                       ·rw [if_neg c35] at H
                        have c35b0 : decide (12353 ≤ a0) = false := decide_eq_false c35
                        clear c35
                        (first | rw [c35b0] | (simp only [i64_w, i32_w]; rw [c35b0]) | skip)
                        by_cases c38 : a0 ≥ 43360
                        ·rw [if_pos c38] at H
                         have c38b0 : decide (43360 ≤ a0) = true := decide_eq_true c38
                         clear c38
                         have H' := Aside0.mk H
                         clear H
                         go_wp2
                         go_meet
                         case rel => exact ⟨_, (decide (a0 ≤ 43391)), (by first | rfl | (simp; done) | (simp [*]; done)), H', ⟨by have := HJ1.out; have := HJ3.out; have := HJ10.out; have := HJ12.out; have := HJ17.out; have := HJ21.out; have := HJ23.out; have := HJ30.out; first | omega | exact Nat.le_refl _⟩, by repeat (first | exact Drawn0.refl _ | apply Drawn0.step)⟩
                        ·rw [if_neg c38] at H
                         have c38b0 : decide (43360 ≤ a0) = false := decide_eq_false c38
                         clear c38
                         have H' := Aside0.mk H
                         clear H
                         go_wp2
                         go_meet
                         case rel => exact ⟨_, (false), (by first | rfl | (simp; done) | (simp [*]; done)), H', ⟨by have := HJ1.out; have := HJ3.out; have := HJ10.out; have := HJ12.out; have := HJ17.out; have := HJ21.out; have := HJ23.out; have := HJ30.out; first | omega | exact Nat.le_refl _⟩, by repeat (first | exact Drawn0.refl _ | apply Drawn0.step)⟩
                     case rest => as_aux_lemma =>
                      clear HC33
                      try clear c1
                      try clear c2
                      try clear p2
                      try clear c3
                      try clear c3b0
                      try clear c4
                      try clear c5
                      try clear c6
                      try clear c6b0
                      try clear c7
                      try clear c7b0
                      try clear c8
                      try clear c8b0
                      try clear c9
                      try clear c9b0
                      try clear c10
                      try clear c12
                      try clear c12b0
                      try clear c14
                      try clear c15
                      try clear c15b0
                      try clear c16
                      try clear c16b0
                      try clear c17
                      try clear c19
                      try clear c19b0
                      try clear c19b1
                      try clear c20
                      try clear c20b0
                      try clear c20b1
                      try clear c21
                      try clear c23
                      try clear c23b0
                      try clear c25
                      try clear c26
                      try clear c26b0
                      try clear c27
                      try clear c27b0
                      try clear c28
                      try clear c28b0
                      try clear c29
                      try clear c29b0
                      try clear c30
                      try clear c32
                      try clear c32b0
                      try clear c34
                      try clear c35
                      try clear c35b0
                      try clear c36
                      try clear c36b0
                      try clear c37
                      try clear c37b0
                      try clear c38
                      try clear c38b0
                      try clear p2
                      obtain ⟨kq, x63_32, rfl, HA, HJ32, ⟨mc32, rfl⟩⟩ := hcut
                      cases kq with
                      | zero => exact absurd HA.out (by simp [cell_wide.j8])
                      | succ kj32 =>
                       have H := HA.out
                       clear HA
                       simp only [cell_wide.j8] at H
                       by_cases c39 : x63_32 = true
                       ·subst c39
                        have H1 : (some true) = some r := by rw [if_pos rfl] at H; exact H
                        clear H
                        have H := H1
                        clear H1
                        obtain rfl := Option.some.inj H
                        go_wp2
                        go_ret
                        exact ⟨by first | rfl | (simp; done) | (simp [*]; done), by repeat (first | exact Drawn0.refl _ | apply Drawn0.step)⟩
                       ·replace c39 := Bool.eq_false_iff.mpr c39
                        subst c39
                        have H1 : (if a0 ≥ 44032 then (cell_wide.j9 kj32 a0 (decide (a0 ≤ 55203))) else (cell_wide.j9 kj32 a0 false)) = some r := by rw [if_neg (show ¬ (false = true) by decide)] at H; exact H
                        clear H
                        have H := H1
                        clear H1
                        have HC40 := Aside0.mk H
                        clear H
                        go_upto_region 21 with (fail)
                        go_cut [82] (fun v82 wc => ∃ (kq : Nat) (x82_39 : Bool), v82 = .bool x82_39 ∧ Aside0 (cell_wide.j9 kq a0 x82_39 = some r) ∧ Aside0 (kq ≤ kj32) ∧ Drawn0 w wc)
                        case first => as_aux_lemma =>
                         have H := HC40.out
                         clear HC40
                         by_cases c41 : a0 ≥ 44032
                         ·rw [if_pos c41] at H
                          have c41b0 : decide (44032 ≤ a0) = true := decide_eq_true c41
                          clear c41
                          (first | rw [c41b0] | (simp only [i64_w, i32_w]; rw [c41b0]) | skip)
                          have H' := Aside0.mk H
                          clear H
                          go_wp2
                          go_meet
                          case rel => exact ⟨_, (decide (a0 ≤ 55203)), (by first | rfl | (simp; done) | (simp [*]; done)), H', ⟨by have := HJ1.out; have := HJ3.out; have := HJ10.out; have := HJ12.out; have := HJ17.out; have := HJ21.out; have := HJ23.out; have := HJ30.out; have := HJ32.out; first | omega | exact Nat.le_refl _⟩, by repeat (first | exact Drawn0.refl _ | apply Drawn0.step)⟩
                         ·rw [if_neg c41] at H
                          have c41b0 : decide (44032 ≤ a0) = false := decide_eq_false c41
                          clear c41
                          (first | rw [c41b0] | (simp only [i64_w, i32_w]; rw [c41b0]) | skip)
                          have H' := Aside0.mk H
                          clear H
                          go_wp2
                          go_meet
                          case rel => exact ⟨_, (false), (by first | rfl | (simp; done) | (simp [*]; done)), H', ⟨by have := HJ1.out; have := HJ3.out; have := HJ10.out; have := HJ12.out; have := HJ17.out; have := HJ21.out; have := HJ23.out; have := HJ30.out; have := HJ32.out; first | omega | exact Nat.le_refl _⟩, by repeat (first | exact Drawn0.refl _ | apply Drawn0.step)⟩
                        case rest => as_aux_lemma =>
                         clear HC40
                         try clear c1
                         try clear c2
                         try clear p2
                         try clear c3
                         try clear c3b0
                         try clear c4
                         try clear c5
                         try clear c6
                         try clear c6b0
                         try clear c7
                         try clear c7b0
                         try clear c8
                         try clear c8b0
                         try clear c9
                         try clear c9b0
                         try clear c10
                         try clear c12
                         try clear c12b0
                         try clear c14
                         try clear c15
                         try clear c15b0
                         try clear c16
                         try clear c16b0
                         try clear c17
                         try clear c19
                         try clear c19b0
                         try clear c19b1
                         try clear c20
                         try clear c20b0
                         try clear c20b1
                         try clear c21
                         try clear c23
                         try clear c23b0
                         try clear c25
                         try clear c26
                         try clear c26b0
                         try clear c27
                         try clear c27b0
                         try clear c28
                         try clear c28b0
                         try clear c29
                         try clear c29b0
                         try clear c30
                         try clear c32
                         try clear c32b0
                         try clear c34
                         try clear c35
                         try clear c35b0
                         try clear c36
                         try clear c36b0
                         try clear c37
                         try clear c37b0
                         try clear c38
                         try clear c38b0
                         try clear c39
                         try clear c41
                         try clear c41b0
                         try clear p2
                         obtain ⟨kq, x82_39, rfl, HA, HJ39, ⟨mc39, rfl⟩⟩ := hcut
                         cases kq with
                         | zero => exact absurd HA.out (by simp [cell_wide.j9])
                         | succ kj39 =>
                          have H := HA.out
                          clear HA
                          simp only [cell_wide.j9] at H
                          have HC42 := Aside0.mk H
                          clear H
                          go_upto_if 82 with (fail)
                          go_cut [82] (fun v82 wc => ∃ (kq : Nat) (x82_41 : Bool), v82 = .bool x82_41 ∧ Aside0 (cell_wide.j10 kq a0 x82_41 = some r) ∧ Aside0 (kq ≤ kj39) ∧ Drawn0 w wc)
                          case first => as_aux_lemma =>
                           have H := HC42.out
                           clear HC42
                           by_cases c43 : x82_39 = true
                           ·subst c43
                            have H1 : (cell_wide.j10 kj39 a0 true) = some r := by rw [if_pos rfl] at H; exact H
                            clear H
                            have H := H1
                            clear H1
                            have H' := Aside0.mk H
                            clear H
                            go_wp2
                            go_meet
                            case rel => exact ⟨_, (true), (by first | rfl | (simp; done) | (simp [*]; done)), H', ⟨by have := HJ1.out; have := HJ3.out; have := HJ10.out; have := HJ12.out; have := HJ17.out; have := HJ21.out; have := HJ23.out; have := HJ30.out; have := HJ32.out; have := HJ39.out; first | omega | exact Nat.le_refl _⟩, by repeat (first | exact Drawn0.refl _ | apply Drawn0.step)⟩
                           ·replace c43 := Bool.eq_false_iff.mpr c43
                            subst c43
                            have H1 : (if a0 ≥ 63744 then (if a0 ≤ 64255 then (cell_wide.j10 kj39 a0 (decide (a0 ≤ 64255))) else (if a0 ≥ 65072 then (cell_wide.j10 kj39 a0 (decide (a0 ≤ 65135))) else (cell_wide.j10 kj39 a0 false))) else (if a0 ≥ 65072 then (cell_wide.j10 kj39 a0 (decide (a0 ≤ 65135))) else (cell_wide.j10 kj39 a0 false))) = some r := by rw [if_neg (show ¬ (false = true) by decide)] at H; exact H
                            clear H
                            have H := H1
                            clear H1
                            by_cases c44 : a0 ≥ 63744
                            ·rw [if_pos c44] at H
                             have c44b0 : decide (63744 ≤ a0) = true := decide_eq_true c44
                             clear c44
                             (first | rw [c44b0] | (simp only [i64_w, i32_w]; rw [c44b0]) | skip)
                             by_cases c45 : a0 ≤ 64255
                             ·rw [if_pos c45] at H
                              have c45b0 : decide (a0 ≤ 64255) = true := decide_eq_true c45
                              clear c45
                              have H' := Aside0.mk H
                              clear H
                              go_wp2
                              go_meet
                              case rel => exact ⟨_, (decide (a0 ≤ 64255)), (by first | rfl | (simp; done) | (simp [*]; done)), H', ⟨by have := HJ1.out; have := HJ3.out; have := HJ10.out; have := HJ12.out; have := HJ17.out; have := HJ21.out; have := HJ23.out; have := HJ30.out; have := HJ32.out; have := HJ39.out; first | omega | exact Nat.le_refl _⟩, by repeat (first | exact Drawn0.refl _ | apply Drawn0.step)⟩
                             ·rw [if_neg c45] at H
                              have c45b0 : decide (a0 ≤ 64255) = false := decide_eq_false c45
                              clear c45
                              by_cases c46 : a0 ≥ 65072
                              ·rw [if_pos c46] at H
                               have c46b0 : decide (65072 ≤ a0) = true := decide_eq_true c46
                               clear c46
                               have H' := Aside0.mk H
                               clear H
                               go_wp2
                               go_meet
                               case rel => exact ⟨_, (decide (a0 ≤ 65135)), (by first | rfl | (simp; done) | (simp [*]; done)), H', ⟨by have := HJ1.out; have := HJ3.out; have := HJ10.out; have := HJ12.out; have := HJ17.out; have := HJ21.out; have := HJ23.out; have := HJ30.out; have := HJ32.out; have := HJ39.out; first | omega | exact Nat.le_refl _⟩, by repeat (first | exact Drawn0.refl _ | apply Drawn0.step)⟩
                              ·rw [if_neg c46] at H
                               have c46b0 : decide (65072 ≤ a0) = false := decide_eq_false c46
                               clear c46
                               have H' := Aside0.mk H
                               clear H
                               go_wp2
                               go_meet
                               case rel => exact ⟨_, (false), (by first | rfl | (simp; done) | (simp [*]; done)), H', ⟨by have := HJ1.out; have := HJ3.out; have := HJ10.out; have := HJ12.out; have := HJ17.out; have := HJ21.out; have := HJ23.out; have := HJ30.out; have := HJ32.out; have := HJ39.out; first | omega | exact Nat.le_refl _⟩, by repeat (first | exact Drawn0.refl _ | apply Drawn0.step)⟩
                            ·rw [if_neg c44] at H
                             have c44b0 : decide (63744 ≤ a0) = false := decide_eq_false c44
                             clear c44
                             (first | rw [c44b0] | (simp only [i64_w, i32_w]; rw [c44b0]) | skip)
                             by_cases c47 : a0 ≥ 65072
                             ·rw [if_pos c47] at H
                              have c47b0 : decide (65072 ≤ a0) = true := decide_eq_true c47
                              clear c47
                              have H' := Aside0.mk H
                              clear H
                              go_wp2
                              go_meet
                              case rel => exact ⟨_, (decide (a0 ≤ 65135)), (by first | rfl | (simp; done) | (simp [*]; done)), H', ⟨by have := HJ1.out; have := HJ3.out; have := HJ10.out; have := HJ12.out; have := HJ17.out; have := HJ21.out; have := HJ23.out; have := HJ30.out; have := HJ32.out; have := HJ39.out; first | omega | exact Nat.le_refl _⟩, by repeat (first | exact Drawn0.refl _ | apply Drawn0.step)⟩
                             ·rw [if_neg c47] at H
                              have c47b0 : decide (65072 ≤ a0) = false := decide_eq_false c47
                              clear c47
                              have H' := Aside0.mk H
                              clear H
                              go_wp2
                              go_meet
                              case rel => exact ⟨_, (false), (by first | rfl | (simp; done) | (simp [*]; done)), H', ⟨by have := HJ1.out; have := HJ3.out; have := HJ10.out; have := HJ12.out; have := HJ17.out; have := HJ21.out; have := HJ23.out; have := HJ30.out; have := HJ32.out; have := HJ39.out; first | omega | exact Nat.le_refl _⟩, by repeat (first | exact Drawn0.refl _ | apply Drawn0.step)⟩
                          case rest => as_aux_lemma =>
                           clear HC42
                           try clear c1
                           try clear c2
                           try clear p2
                           try clear c3
                           try clear c3b0
                           try clear c4
                           try clear c5
                           try clear c6
                           try clear c6b0
                           try clear c7
                           try clear c7b0
                           try clear c8
                           try clear c8b0
                           try clear c9
                           try clear c9b0
                           try clear c10
                           try clear c12
                           try clear c12b0
                           try clear c14
                           try clear c15
                           try clear c15b0
                           try clear c16
                           try clear c16b0
                           try clear c17
                           try clear c19
                           try clear c19b0
                           try clear c19b1
                           try clear c20
                           try clear c20b0
                           try clear c20b1
                           try clear c21
                           try clear c23
                           try clear c23b0
                           try clear c25
                           try clear c26
                           try clear c26b0
                           try clear c27
                           try clear c27b0
                           try clear c28
                           try clear c28b0
                           try clear c29
                           try clear c29b0
                           try clear c30
                           try clear c32
                           try clear c32b0
                           try clear c34
                           try clear c35
                           try clear c35b0
                           try clear c36
                           try clear c36b0
                           try clear c37
                           try clear c37b0
                           try clear c38
                           try clear c38b0
                           try clear c39
                           try clear c41
                           try clear c41b0
                           try clear c43
                           try clear c44
                           try clear c44b0
                           try clear c45
                           try clear c45b0
                           try clear c46
                           try clear c46b0
                           try clear c47
                           try clear c47b0
                           try clear p2
                           obtain ⟨kq, x82_41, rfl, HA, HJ41, ⟨mc41, rfl⟩⟩ := hcut
                           cases kq with
                           | zero => exact absurd HA.out (by simp [cell_wide.j10])
                           | succ kj41 =>
                            have H := HA.out
                            clear HA
                            simp only [cell_wide.j10] at H
                            by_cases c48 : x82_41 = true
                            ·subst c48
                             have H1 : (some true) = some r := by rw [if_pos rfl] at H; exact H
                             clear H
                             have H := H1
                             clear H1
                             obtain rfl := Option.some.inj H
                             go_wp2
                             go_ret
                             exact ⟨by first | rfl | (simp; done) | (simp [*]; done), by repeat (first | exact Drawn0.refl _ | apply Drawn0.step)⟩
                            ·replace c48 := Bool.eq_false_iff.mpr c48
                             subst c48
                             have H1 : (if a0 ≥ 65281 then (cell_wide.j11 kj41 a0 (decide (a0 ≤ 65376))) else (cell_wide.j11 kj41 a0 false)) = some r := by rw [if_neg (show ¬ (false = true) by decide)] at H; exact H
                             clear H
                             have H := H1
                             clear H1
                             have HC49 := Aside0.mk H
                             clear H
                             go_upto_region 25 with (fail)
                             go_cut [101] (fun v101 wc => ∃ (kq : Nat) (x101_48 : Bool), v101 = .bool x101_48 ∧ Aside0 (cell_wide.j11 kq a0 x101_48 = some r) ∧ Aside0 (kq ≤ kj41) ∧ Drawn0 w wc)
                             case first => as_aux_lemma =>
                              have H := HC49.out
                              clear HC49
                              by_cases c50 : a0 ≥ 65281
                              ·rw [if_pos c50] at H
                               have c50b0 : decide (65281 ≤ a0) = true := decide_eq_true c50
                               clear c50
                               (first | rw [c50b0] | (simp only [i64_w, i32_w]; rw [c50b0]) | skip)
                               have H' := Aside0.mk H
                               clear H
                               go_wp2
                               go_meet
                               case rel => exact ⟨_, (decide (a0 ≤ 65376)), (by first | rfl | (simp; done) | (simp [*]; done)), H', ⟨by have := HJ1.out; have := HJ3.out; have := HJ10.out; have := HJ12.out; have := HJ17.out; have := HJ21.out; have := HJ23.out; have := HJ30.out; have := HJ32.out; have := HJ39.out; have := HJ41.out; first | omega | exact Nat.le_refl _⟩, by repeat (first | exact Drawn0.refl _ | apply Drawn0.step)⟩
                              ·rw [if_neg c50] at H
                               have c50b0 : decide (65281 ≤ a0) = false := decide_eq_false c50
                               clear c50
                               (first | rw [c50b0] | (simp only [i64_w, i32_w]; rw [c50b0]) | skip)
                               have H' := Aside0.mk H
                               clear H
                               go_wp2
                               go_meet
                               case rel => exact ⟨_, (false), (by first | rfl | (simp; done) | (simp [*]; done)), H', ⟨by have := HJ1.out; have := HJ3.out; have := HJ10.out; have := HJ12.out; have := HJ17.out; have := HJ21.out; have := HJ23.out; have := HJ30.out; have := HJ32.out; have := HJ39.out; have := HJ41.out; first | omega | exact Nat.le_refl _⟩, by repeat (first | exact Drawn0.refl _ | apply Drawn0.step)⟩
                             case rest => as_aux_lemma =>
                              clear HC49
                              try clear c1
                              try clear c2
                              try clear p2
                              try clear c3
                              try clear c3b0
                              try clear c4
                              try clear c5
                              try clear c6
                              try clear c6b0
                              try clear c7
                              try clear c7b0
                              try clear c8
                              try clear c8b0
                              try clear c9
                              try clear c9b0
                              try clear c10
                              try clear c12
                              try clear c12b0
                              try clear c14
                              try clear c15
                              try clear c15b0
                              try clear c16
                              try clear c16b0
                              try clear c17
                              try clear c19
                              try clear c19b0
                              try clear c19b1
                              try clear c20
                              try clear c20b0
                              try clear c20b1
                              try clear c21
                              try clear c23
                              try clear c23b0
                              try clear c25
                              try clear c26
                              try clear c26b0
                              try clear c27
                              try clear c27b0
                              try clear c28
                              try clear c28b0
                              try clear c29
                              try clear c29b0
                              try clear c30
                              try clear c32
                              try clear c32b0
                              try clear c34
                              try clear c35
                              try clear c35b0
                              try clear c36
                              try clear c36b0
                              try clear c37
                              try clear c37b0
                              try clear c38
                              try clear c38b0
                              try clear c39
                              try clear c41
                              try clear c41b0
                              try clear c43
                              try clear c44
                              try clear c44b0
                              try clear c45
                              try clear c45b0
                              try clear c46
                              try clear c46b0
                              try clear c47
                              try clear c47b0
                              try clear c48
                              try clear c50
                              try clear c50b0
                              try clear p2
                              obtain ⟨kq, x101_48, rfl, HA, HJ48, ⟨mc48, rfl⟩⟩ := hcut
                              cases kq with
                              | zero => exact absurd HA.out (by simp [cell_wide.j11])
                              | succ kj48 =>
                               have H := HA.out
                               clear HA
                               simp only [cell_wide.j11] at H
                               have HC51 := Aside0.mk H
                               clear H
                               go_upto_if 101 with (fail)
                               go_cut [101] (fun v101 wc => ∃ (kq : Nat) (x101_50 : Bool), v101 = .bool x101_50 ∧ Aside0 (cell_wide.j12 kq a0 x101_50 = some r) ∧ Aside0 (kq ≤ kj48) ∧ Drawn0 w wc)
                               case first => as_aux_lemma =>
                                have H := HC51.out
                                clear HC51
                                by_cases c52 : x101_48 = true
                                ·subst c52
                                 have H1 : (cell_wide.j12 kj48 a0 true) = some r := by rw [if_pos rfl] at H; exact H
                                 clear H
                                 have H := H1
                                 clear H1
                                 have H' := Aside0.mk H
                                 clear H
                                 go_wp2
                                 go_meet
                                 case rel => exact ⟨_, (true), (by first | rfl | (simp; done) | (simp [*]; done)), H', ⟨by have := HJ1.out; have := HJ3.out; have := HJ10.out; have := HJ12.out; have := HJ17.out; have := HJ21.out; have := HJ23.out; have := HJ30.out; have := HJ32.out; have := HJ39.out; have := HJ41.out; have := HJ48.out; first | omega | exact Nat.le_refl _⟩, by repeat (first | exact Drawn0.refl _ | apply Drawn0.step)⟩
                                ·replace c52 := Bool.eq_false_iff.mpr c52
                                 subst c52
                                 have H1 : (if a0 ≥ 65504 then (if a0 ≤ 65510 then (cell_wide.j12 kj48 a0 (decide (a0 ≤ 65510))) else (if a0 ≥ 127744 then (cell_wide.j12 kj48 a0 (decide (a0 ≤ 128591))) else (cell_wide.j12 kj48 a0 false))) else (if a0 ≥ 127744 then (cell_wide.j12 kj48 a0 (decide (a0 ≤ 128591))) else (cell_wide.j12 kj48 a0 false))) = some r := by rw [if_neg (show ¬ (false = true) by decide)] at H; exact H
                                 clear H
                                 have H := H1
                                 clear H1
                                 by_cases c53 : a0 ≥ 65504
                                 ·rw [if_pos c53] at H
                                  have c53b0 : decide (65504 ≤ a0) = true := decide_eq_true c53
                                  clear c53
                                  (first | rw [c53b0] | (simp only [i64_w, i32_w]; rw [c53b0]) | skip)
                                  by_cases c54 : a0 ≤ 65510
                                  ·rw [if_pos c54] at H
                                   have c54b0 : decide (a0 ≤ 65510) = true := decide_eq_true c54
                                   clear c54
                                   have H' := Aside0.mk H
                                   clear H
                                   go_wp2
                                   go_meet
                                   case rel => exact ⟨_, (decide (a0 ≤ 65510)), (by first | rfl | (simp; done) | (simp [*]; done)), H', ⟨by have := HJ1.out; have := HJ3.out; have := HJ10.out; have := HJ12.out; have := HJ17.out; have := HJ21.out; have := HJ23.out; have := HJ30.out; have := HJ32.out; have := HJ39.out; have := HJ41.out; have := HJ48.out; first | omega | exact Nat.le_refl _⟩, by repeat (first | exact Drawn0.refl _ | apply Drawn0.step)⟩
                                  ·rw [if_neg c54] at H
                                   have c54b0 : decide (a0 ≤ 65510) = false := decide_eq_false c54
                                   clear c54
                                   by_cases c55 : a0 ≥ 127744
                                   ·rw [if_pos c55] at H
                                    have c55b0 : decide (127744 ≤ a0) = true := decide_eq_true c55
                                    clear c55
                                    have H' := Aside0.mk H
                                    clear H
                                    go_wp2
                                    go_meet
                                    case rel => exact ⟨_, (decide (a0 ≤ 128591)), (by first | rfl | (simp; done) | (simp [*]; done)), H', ⟨by have := HJ1.out; have := HJ3.out; have := HJ10.out; have := HJ12.out; have := HJ17.out; have := HJ21.out; have := HJ23.out; have := HJ30.out; have := HJ32.out; have := HJ39.out; have := HJ41.out; have := HJ48.out; first | omega | exact Nat.le_refl _⟩, by repeat (first | exact Drawn0.refl _ | apply Drawn0.step)⟩
                                   ·rw [if_neg c55] at H
                                    have c55b0 : decide (127744 ≤ a0) = false := decide_eq_false c55
                                    clear c55
                                    have H' := Aside0.mk H
                                    clear H
                                    go_wp2
                                    go_meet
                                    case rel => exact ⟨_, (false), (by first | rfl | (simp; done) | (simp [*]; done)), H', ⟨by have := HJ1.out; have := HJ3.out; have := HJ10.out; have := HJ12.out; have := HJ17.out; have := HJ21.out; have := HJ23.out; have := HJ30.out; have := HJ32.out; have := HJ39.out; have := HJ41.out; have := HJ48.out; first | omega | exact Nat.le_refl _⟩, by repeat (first | exact Drawn0.refl _ | apply Drawn0.step)⟩
                                 ·rw [if_neg c53] at H
                                  have c53b0 : decide (65504 ≤ a0) = false := decide_eq_false c53
                                  clear c53
                                  (first | rw [c53b0] | (simp only [i64_w, i32_w]; rw [c53b0]) | skip)
                                  by_cases c56 : a0 ≥ 127744
                                  ·rw [if_pos c56] at H
                                   have c56b0 : decide (127744 ≤ a0) = true := decide_eq_true c56
                                   clear c56
                                   have H' := Aside0.mk H
                                   clear H
                                   go_wp2
                                   go_meet
                                   case rel => exact ⟨_, (decide (a0 ≤ 128591)), (by first | rfl | (simp; done) | (simp [*]; done)), H', ⟨by have := HJ1.out; have := HJ3.out; have := HJ10.out; have := HJ12.out; have := HJ17.out; have := HJ21.out; have := HJ23.out; have := HJ30.out; have := HJ32.out; have := HJ39.out; have := HJ41.out; have := HJ48.out; first | omega | exact Nat.le_refl _⟩, by repeat (first | exact Drawn0.refl _ | apply Drawn0.step)⟩
                                  ·rw [if_neg c56] at H
                                   have c56b0 : decide (127744 ≤ a0) = false := decide_eq_false c56
                                   clear c56
                                   have H' := Aside0.mk H
                                   clear H
                                   go_wp2
                                   go_meet
                                   case rel => exact ⟨_, (false), (by first | rfl | (simp; done) | (simp [*]; done)), H', ⟨by have := HJ1.out; have := HJ3.out; have := HJ10.out; have := HJ12.out; have := HJ17.out; have := HJ21.out; have := HJ23.out; have := HJ30.out; have := HJ32.out; have := HJ39.out; have := HJ41.out; have := HJ48.out; first | omega | exact Nat.le_refl _⟩, by repeat (first | exact Drawn0.refl _ | apply Drawn0.step)⟩
                               case rest => as_aux_lemma =>
                                clear HC51
                                try clear c1
                                try clear c2
                                try clear p2
                                try clear c3
                                try clear c3b0
                                try clear c4
                                try clear c5
                                try clear c6
                                try clear c6b0
                                try clear c7
                                try clear c7b0
                                try clear c8
                                try clear c8b0
                                try clear c9
                                try clear c9b0
                                try clear c10
                                try clear c12
                                try clear c12b0
                                try clear c14
                                try clear c15
                                try clear c15b0
                                try clear c16
                                try clear c16b0
                                try clear c17
                                try clear c19
                                try clear c19b0
                                try clear c19b1
                                try clear c20
                                try clear c20b0
                                try clear c20b1
                                try clear c21
                                try clear c23
                                try clear c23b0
                                try clear c25
                                try clear c26
                                try clear c26b0
                                try clear c27
                                try clear c27b0
                                try clear c28
                                try clear c28b0
                                try clear c29
                                try clear c29b0
                                try clear c30
                                try clear c32
                                try clear c32b0
                                try clear c34
                                try clear c35
                                try clear c35b0
                                try clear c36
                                try clear c36b0
                                try clear c37
                                try clear c37b0
                                try clear c38
                                try clear c38b0
                                try clear c39
                                try clear c41
                                try clear c41b0
                                try clear c43
                                try clear c44
                                try clear c44b0
                                try clear c45
                                try clear c45b0
                                try clear c46
                                try clear c46b0
                                try clear c47
                                try clear c47b0
                                try clear c48
                                try clear c50
                                try clear c50b0
                                try clear c52
                                try clear c53
                                try clear c53b0
                                try clear c54
                                try clear c54b0
                                try clear c55
                                try clear c55b0
                                try clear c56
                                try clear c56b0
                                try clear p2
                                obtain ⟨kq, x101_50, rfl, HA, HJ50, ⟨mc50, rfl⟩⟩ := hcut
                                cases kq with
                                | zero => exact absurd HA.out (by simp [cell_wide.j12])
                                | succ kj50 =>
                                 have H := HA.out
                                 clear HA
                                 simp only [cell_wide.j12] at H
                                 by_cases c57 : x101_50 = true
                                 ·subst c57
                                  have H1 : (some true) = some r := by rw [if_pos rfl] at H; exact H
                                  clear H
                                  have H := H1
                                  clear H1
                                  obtain rfl := Option.some.inj H
                                  go_wp2
                                  go_ret
                                  exact ⟨by first | rfl | (simp; done) | (simp [*]; done), by repeat (first | exact Drawn0.refl _ | apply Drawn0.step)⟩
                                 ·replace c57 := Bool.eq_false_iff.mpr c57
                                  subst c57
                                  have H1 : (if a0 ≥ 128640 then (cell_wide.j13 kj50 a0 (decide (a0 ≤ 128767))) else (cell_wide.j13 kj50 a0 false)) = some r := by rw [if_neg (show ¬ (false = true) by decide)] at H; exact H
                                  clear H
                                  have H := H1
                                  clear H1
                                  have HC58 := Aside0.mk H
                                  clear H
                                  go_upto_region 29 with (fail)
                                  go_cut [120] (fun v120 wc => ∃ (kq : Nat) (x120_57 : Bool), v120 = .bool x120_57 ∧ Aside0 (cell_wide.j13 kq a0 x120_57 = some r) ∧ Aside0 (kq ≤ kj50) ∧ Drawn0 w wc)
                                  case first => as_aux_lemma =>
                                   have H := HC58.out
                                   clear HC58
                                   by_cases c59 : a0 ≥ 128640
                                   ·rw [if_pos c59] at H
                                    have c59b0 : decide (128640 ≤ a0) = true := decide_eq_true c59
                                    clear c59
                                    (first | rw [c59b0] | (simp only [i64_w, i32_w]; rw [c59b0]) | skip)
                                    have H' := Aside0.mk H
                                    clear H
                                    go_wp2
                                    go_meet
                                    case rel => exact ⟨_, (decide (a0 ≤ 128767)), (by first | rfl | (simp; done) | (simp [*]; done)), H', ⟨by have := HJ1.out; have := HJ3.out; have := HJ10.out; have := HJ12.out; have := HJ17.out; have := HJ21.out; have := HJ23.out; have := HJ30.out; have := HJ32.out; have := HJ39.out; have := HJ41.out; have := HJ48.out; have := HJ50.out; first | omega | exact Nat.le_refl _⟩, by repeat (first | exact Drawn0.refl _ | apply Drawn0.step)⟩
                                   ·rw [if_neg c59] at H
                                    have c59b0 : decide (128640 ≤ a0) = false := decide_eq_false c59
                                    clear c59
                                    (first | rw [c59b0] | (simp only [i64_w, i32_w]; rw [c59b0]) | skip)
                                    have H' := Aside0.mk H
                                    clear H
                                    go_wp2
                                    go_meet
                                    case rel => exact ⟨_, (false), (by first | rfl | (simp; done) | (simp [*]; done)), H', ⟨by have := HJ1.out; have := HJ3.out; have := HJ10.out; have := HJ12.out; have := HJ17.out; have := HJ21.out; have := HJ23.out; have := HJ30.out; have := HJ32.out; have := HJ39.out; have := HJ41.out; have := HJ48.out; have := HJ50.out; first | omega | exact Nat.le_refl _⟩, by repeat (first | exact Drawn0.refl _ | apply Drawn0.step)⟩
                                  case rest => as_aux_lemma =>
                                   clear HC58
                                   try clear c1
                                   try clear c2
                                   try clear p2
                                   try clear c3
                                   try clear c3b0
                                   try clear c4
                                   try clear c5
                                   try clear c6
                                   try clear c6b0
                                   try clear c7
                                   try clear c7b0
                                   try clear c8
                                   try clear c8b0
                                   try clear c9
                                   try clear c9b0
                                   try clear c10
                                   try clear c12
                                   try clear c12b0
                                   try clear c14
                                   try clear c15
                                   try clear c15b0
                                   try clear c16
                                   try clear c16b0
                                   try clear c17
                                   try clear c19
                                   try clear c19b0
                                   try clear c19b1
                                   try clear c20
                                   try clear c20b0
                                   try clear c20b1
                                   try clear c21
                                   try clear c23
                                   try clear c23b0
                                   try clear c25
                                   try clear c26
                                   try clear c26b0
                                   try clear c27
                                   try clear c27b0
                                   try clear c28
                                   try clear c28b0
                                   try clear c29
                                   try clear c29b0
                                   try clear c30
                                   try clear c32
                                   try clear c32b0
                                   try clear c34
                                   try clear c35
                                   try clear c35b0
                                   try clear c36
                                   try clear c36b0
                                   try clear c37
                                   try clear c37b0
                                   try clear c38
                                   try clear c38b0
                                   try clear c39
                                   try clear c41
                                   try clear c41b0
                                   try clear c43
                                   try clear c44
                                   try clear c44b0
                                   try clear c45
                                   try clear c45b0
                                   try clear c46
                                   try clear c46b0
                                   try clear c47
                                   try clear c47b0
                                   try clear c48
                                   try clear c50
                                   try clear c50b0
                                   try clear c52
                                   try clear c53
                                   try clear c53b0
                                   try clear c54
                                   try clear c54b0
                                   try clear c55
                                   try clear c55b0
                                   try clear c56
                                   try clear c56b0
                                   try clear c57
                                   try clear c59
                                   try clear c59b0
                                   try clear p2
                                   obtain ⟨kq, x120_57, rfl, HA, HJ57, ⟨mc57, rfl⟩⟩ := hcut
                                   cases kq with
                                   | zero => exact absurd HA.out (by simp [cell_wide.j13])
                                   | succ kj57 =>
                                    have H := HA.out
                                    clear HA
                                    simp only [cell_wide.j13] at H
                                    by_cases c60 : x120_57 = true
                                    ·subst c60
                                     have H1 : (some true) = some r := by rw [if_pos rfl] at H; exact H
                                     clear H
                                     have H := H1
                                     clear H1
                                     obtain rfl := Option.some.inj H
                                     go_wp2
                                     go_ret
                                     exact ⟨by first | rfl | (simp; done) | (simp [*]; done), by repeat (first | exact Drawn0.refl _ | apply Drawn0.step)⟩
                                    ·replace c60 := Bool.eq_false_iff.mpr c60
                                     subst c60
                                     have H1 : (if a0 ≥ 129280 then (cell_wide.j14 kj57 a0 (decide (a0 ≤ 129535))) else (cell_wide.j14 kj57 a0 false)) = some r := by rw [if_neg (show ¬ (false = true) by decide)] at H; exact H
                                     clear H
                                     have H := H1
                                     clear H1
                                     have HC61 := Aside0.mk H
                                     clear H
                                     go_upto_region 30 with (fail)
                                     go_cut [120] (fun v120 wc => ∃ (kq : Nat) (x120_60 : Bool), v120 = .bool x120_60 ∧ Aside0 (cell_wide.j14 kq a0 x120_60 = some r) ∧ Aside0 (kq ≤ kj57) ∧ Drawn0 w wc)
                                     case first => as_aux_lemma =>
                                      have H := HC61.out
                                      clear HC61
                                      by_cases c62 : a0 ≥ 129280
                                      ·rw [if_pos c62] at H
                                       have c62b0 : decide (129280 ≤ a0) = true := decide_eq_true c62
                                       clear c62
                                       (first | rw [c62b0] | (simp only [i64_w, i32_w]; rw [c62b0]) | skip)
                                       have H' := Aside0.mk H
                                       clear H
                                       go_wp2
                                       go_meet
                                       case rel => exact ⟨_, (decide (a0 ≤ 129535)), (by first | rfl | (simp; done) | (simp [*]; done)), H', ⟨by have := HJ1.out; have := HJ3.out; have := HJ10.out; have := HJ12.out; have := HJ17.out; have := HJ21.out; have := HJ23.out; have := HJ30.out; have := HJ32.out; have := HJ39.out; have := HJ41.out; have := HJ48.out; have := HJ50.out; have := HJ57.out; first | omega | exact Nat.le_refl _⟩, by repeat (first | exact Drawn0.refl _ | apply Drawn0.step)⟩
                                      ·rw [if_neg c62] at H
                                       have c62b0 : decide (129280 ≤ a0) = false := decide_eq_false c62
                                       clear c62
                                       (first | rw [c62b0] | (simp only [i64_w, i32_w]; rw [c62b0]) | skip)
                                       have H' := Aside0.mk H
                                       clear H
                                       go_wp2
                                       go_meet
                                       case rel => exact ⟨_, (false), (by first | rfl | (simp; done) | (simp [*]; done)), H', ⟨by have := HJ1.out; have := HJ3.out; have := HJ10.out; have := HJ12.out; have := HJ17.out; have := HJ21.out; have := HJ23.out; have := HJ30.out; have := HJ32.out; have := HJ39.out; have := HJ41.out; have := HJ48.out; have := HJ50.out; have := HJ57.out; first | omega | exact Nat.le_refl _⟩, by repeat (first | exact Drawn0.refl _ | apply Drawn0.step)⟩
                                     case rest => as_aux_lemma =>
                                      clear HC61
                                      try clear c1
                                      try clear c2
                                      try clear p2
                                      try clear c3
                                      try clear c3b0
                                      try clear c4
                                      try clear c5
                                      try clear c6
                                      try clear c6b0
                                      try clear c7
                                      try clear c7b0
                                      try clear c8
                                      try clear c8b0
                                      try clear c9
                                      try clear c9b0
                                      try clear c10
                                      try clear c12
                                      try clear c12b0
                                      try clear c14
                                      try clear c15
                                      try clear c15b0
                                      try clear c16
                                      try clear c16b0
                                      try clear c17
                                      try clear c19
                                      try clear c19b0
                                      try clear c19b1
                                      try clear c20
                                      try clear c20b0
                                      try clear c20b1
                                      try clear c21
                                      try clear c23
                                      try clear c23b0
                                      try clear c25
                                      try clear c26
                                      try clear c26b0
                                      try clear c27
                                      try clear c27b0
                                      try clear c28
                                      try clear c28b0
                                      try clear c29
                                      try clear c29b0
                                      try clear c30
                                      try clear c32
                                      try clear c32b0
                                      try clear c34
                                      try clear c35
                                      try clear c35b0
                                      try clear c36
                                      try clear c36b0
                                      try clear c37
                                      try clear c37b0
                                      try clear c38
                                      try clear c38b0
                                      try clear c39
                                      try clear c41
                                      try clear c41b0
                                      try clear c43
                                      try clear c44
                                      try clear c44b0
                                      try clear c45
                                      try clear c45b0
                                      try clear c46
                                      try clear c46b0
                                      try clear c47
                                      try clear c47b0
                                      try clear c48
                                      try clear c50
                                      try clear c50b0
                                      try clear c52
                                      try clear c53
                                      try clear c53b0
                                      try clear c54
                                      try clear c54b0
                                      try clear c55
                                      try clear c55b0
                                      try clear c56
                                      try clear c56b0
                                      try clear c57
                                      try clear c59
                                      try clear c59b0
                                      try clear c60
                                      try clear c62
                                      try clear c62b0
                                      try clear p2
                                      obtain ⟨kq, x120_60, rfl, HA, HJ60, ⟨mc60, rfl⟩⟩ := hcut
                                      cases kq with
                                      | zero => exact absurd HA.out (by simp [cell_wide.j14])
                                      | succ kj60 =>
                                       have H := HA.out
                                       clear HA
                                       simp only [cell_wide.j14] at H
                                       by_cases c63 : x120_60 = true
                                       ·subst c63
                                        have H1 : (some true) = some r := by rw [if_pos rfl] at H; exact H
                                        clear H
                                        have H := H1
                                        clear H1
                                        obtain rfl := Option.some.inj H
                                        go_wp2
                                        go_ret
                                        exact ⟨by first | rfl | (simp; done) | (simp [*]; done), by repeat (first | exact Drawn0.refl _ | apply Drawn0.step)⟩
                                       ·replace c63 := Bool.eq_false_iff.mpr c63
                                        subst c63
                                        have H1 : (if a0 ≥ 131072 then (if a0 ≤ 262141 then (some true) else (some false)) else (some false)) = some r := by rw [if_neg (show ¬ (false = true) by decide)] at H; exact H
                                        clear H
                                        have H := H1
                                        clear H1
                                        by_cases c64 : a0 ≥ 131072
                                        ·rw [if_pos c64] at H
                                         have c64b0 : decide (131072 ≤ a0) = true := decide_eq_true c64
                                         clear c64
                                         by_cases c65 : a0 ≤ 262141
                                         ·rw [if_pos c65] at H
                                          have c65b0 : decide (a0 ≤ 262141) = true := decide_eq_true c65
                                          clear c65
                                          obtain rfl := Option.some.inj H
                                          go_wp2
                                          go_ret
                                          exact ⟨by first | rfl | (simp; done) | (simp [*]; done), by repeat (first | exact Drawn0.refl _ | apply Drawn0.step)⟩
                                         ·rw [if_neg c65] at H
                                          have c65b0 : decide (a0 ≤ 262141) = false := decide_eq_false c65
                                          clear c65
                                          obtain rfl := Option.some.inj H
                                          go_wp2
                                          go_ret
                                          exact ⟨by first | rfl | (simp; done) | (simp [*]; done), by repeat (first | exact Drawn0.refl _ | apply Drawn0.step)⟩
                                        ·rw [if_neg c64] at H
                                         have c64b0 : decide (131072 ≤ a0) = false := decide_eq_false c64
                                         clear c64
                                         obtain rfl := Option.some.inj H
                                         go_wp2
                                         go_ret
                                         exact ⟨by first | rfl | (simp; done) | (simp [*]; done), by repeat (first | exact Drawn0.refl _ | apply Drawn0.step)⟩
end Go.Proofs.Ythgifhnfbblklaa.PSp
