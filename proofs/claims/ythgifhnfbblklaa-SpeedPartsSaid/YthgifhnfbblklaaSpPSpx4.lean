-- Written by programs of this session's (wip/printer) out of the translation and of the print's words; Lean checks it.
import Derived.Test.YthgifhnfbblklaaSpPSpx0
namespace Go.Proofs.Ythgifhnfbblklaa.PSp
open Go.RowKit Go.Proofs.YthgifhnfbblklaaW.PrintWords Go.Proofs.YthgifhnfbblklaaW.PrintLast Go.Proofs.YthgifhnfbblklaaW.PrintMore
attribute [local go_sem] max2_int min2_int max_two min_two max_three min_three max_four min_four   -- for this text's walks alone
set_option linter.unusedVariables false
set_option linter.unusedSimpArgs false
mutual
def cell_nothing.j0 : Nat → Int → Bool → Option (Bool)
 | 0, _, _ => none
 | k + 1, x0, x3 => if x3 = true then (cell_nothing.j1 k x0 x3) else (if x0 ≥ 127 then (if x0 ≤ 159 then (cell_nothing.j1 k x0 (decide (x0 ≤ 159))) else (cell_nothing.j1 k x0 (x0 == 173))) else (cell_nothing.j1 k x0 (x0 == 173)))
def cell_nothing.j1 : Nat → Int → Bool → Option (Bool)
 | 0, _, _ => none
 | k + 1, x0, x3 => if x3 = true then (some true) else (if x0 ≥ 768 then (cell_nothing.j2 k x0 (decide (x0 ≤ 879))) else (cell_nothing.j2 k x0 false))
def cell_nothing.j2 : Nat → Int → Bool → Option (Bool)
 | 0, _, _ => none
 | k + 1, x0, x18 => if x18 = true then (cell_nothing.j3 k x0 x18) else (if x0 ≥ 1155 then (if x0 ≤ 1161 then (cell_nothing.j3 k x0 (decide (x0 ≤ 1161))) else (if x0 ≥ 1425 then (cell_nothing.j3 k x0 (decide (x0 ≤ 1469))) else (cell_nothing.j3 k x0 false))) else (if x0 ≥ 1425 then (cell_nothing.j3 k x0 (decide (x0 ≤ 1469))) else (cell_nothing.j3 k x0 false)))
def cell_nothing.j3 : Nat → Int → Bool → Option (Bool)
 | 0, _, _ => none
 | k + 1, x0, x18 => if x18 = true then (some true) else (if x0 = 1471 then (cell_nothing.j4 k x0 (x0 == 1471)) else (if x0 ≥ 1473 then (if x0 ≤ 1474 then (cell_nothing.j4 k x0 (decide (x0 ≤ 1474))) else (if x0 ≥ 1476 then (cell_nothing.j4 k x0 (decide (x0 ≤ 1477))) else (cell_nothing.j4 k x0 false))) else (if x0 ≥ 1476 then (cell_nothing.j4 k x0 (decide (x0 ≤ 1477))) else (cell_nothing.j4 k x0 false))))
def cell_nothing.j4 : Nat → Int → Bool → Option (Bool)
 | 0, _, _ => none
 | k + 1, x0, x37 => if x37 = true then (some true) else (if x0 = 1479 then (cell_nothing.j5 k x0 (x0 == 1479)) else (if x0 ≥ 1552 then (if x0 ≤ 1562 then (cell_nothing.j5 k x0 (decide (x0 ≤ 1562))) else (cell_nothing.j5 k x0 (x0 == 1564))) else (cell_nothing.j5 k x0 (x0 == 1564))))
def cell_nothing.j5 : Nat → Int → Bool → Option (Bool)
 | 0, _, _ => none
 | k + 1, x0, x52 => if x52 = true then (some true) else (if x0 ≥ 1611 then (cell_nothing.j6 k x0 (decide (x0 ≤ 1631))) else (cell_nothing.j6 k x0 false))
def cell_nothing.j6 : Nat → Int → Bool → Option (Bool)
 | 0, _, _ => none
 | k + 1, x0, x63 => if x63 = true then (cell_nothing.j7 k x0 x63) else (if x0 = 1648 then (cell_nothing.j7 k x0 (x0 == 1648)) else (if x0 ≥ 1750 then (cell_nothing.j7 k x0 (decide (x0 ≤ 1756))) else (cell_nothing.j7 k x0 false)))
def cell_nothing.j7 : Nat → Int → Bool → Option (Bool)
 | 0, _, _ => none
 | k + 1, x0, x63 => if x63 = true then (some true) else (if x0 ≥ 1759 then (cell_nothing.j8 k x0 (decide (x0 ≤ 1764))) else (cell_nothing.j8 k x0 false))
def cell_nothing.j8 : Nat → Int → Bool → Option (Bool)
 | 0, _, _ => none
 | k + 1, x0, x78 => if x78 = true then (cell_nothing.j9 k x0 x78) else (if x0 ≥ 1767 then (if x0 ≤ 1768 then (cell_nothing.j9 k x0 (decide (x0 ≤ 1768))) else (if x0 ≥ 1770 then (cell_nothing.j9 k x0 (decide (x0 ≤ 1773))) else (cell_nothing.j9 k x0 false))) else (if x0 ≥ 1770 then (cell_nothing.j9 k x0 (decide (x0 ≤ 1773))) else (cell_nothing.j9 k x0 false)))
def cell_nothing.j9 : Nat → Int → Bool → Option (Bool)
 | 0, _, _ => none
 | k + 1, x0, x78 => if x78 = true then (some true) else (if x0 = 3633 then (cell_nothing.j10 k x0 (x0 == 3633)) else (if x0 ≥ 3636 then (if x0 ≤ 3642 then (cell_nothing.j10 k x0 (decide (x0 ≤ 3642))) else (if x0 ≥ 3655 then (cell_nothing.j10 k x0 (decide (x0 ≤ 3662))) else (cell_nothing.j10 k x0 false))) else (if x0 ≥ 3655 then (cell_nothing.j10 k x0 (decide (x0 ≤ 3662))) else (cell_nothing.j10 k x0 false))))
def cell_nothing.j10 : Nat → Int → Bool → Option (Bool)
 | 0, _, _ => none
 | k + 1, x0, x97 => if x97 = true then (some true) else (if x0 ≥ 4448 then (cell_nothing.j11 k x0 (decide (x0 ≤ 4607))) else (cell_nothing.j11 k x0 false))
def cell_nothing.j11 : Nat → Int → Bool → Option (Bool)
 | 0, _, _ => none
 | k + 1, x0, x112 => if x112 = true then (cell_nothing.j12 k x0 x112) else (if x0 ≥ 6832 then (if x0 ≤ 6911 then (cell_nothing.j12 k x0 (decide (x0 ≤ 6911))) else (if x0 ≥ 7616 then (cell_nothing.j12 k x0 (decide (x0 ≤ 7679))) else (cell_nothing.j12 k x0 false))) else (if x0 ≥ 7616 then (cell_nothing.j12 k x0 (decide (x0 ≤ 7679))) else (cell_nothing.j12 k x0 false)))
def cell_nothing.j12 : Nat → Int → Bool → Option (Bool)
 | 0, _, _ => none
 | k + 1, x0, x112 => if x112 = true then (some true) else (if x0 ≥ 8203 then (cell_nothing.j13 k x0 (decide (x0 ≤ 8207))) else (cell_nothing.j13 k x0 false))
def cell_nothing.j13 : Nat → Int → Bool → Option (Bool)
 | 0, _, _ => none
 | k + 1, x0, x131 => if x131 = true then (cell_nothing.j14 k x0 x131) else (if x0 ≥ 8232 then (if x0 ≤ 8238 then (cell_nothing.j14 k x0 (decide (x0 ≤ 8238))) else (if x0 ≥ 8288 then (cell_nothing.j14 k x0 (decide (x0 ≤ 8303))) else (cell_nothing.j14 k x0 false))) else (if x0 ≥ 8288 then (cell_nothing.j14 k x0 (decide (x0 ≤ 8303))) else (cell_nothing.j14 k x0 false)))
def cell_nothing.j14 : Nat → Int → Bool → Option (Bool)
 | 0, _, _ => none
 | k + 1, x0, x131 => if x131 = true then (some true) else (if x0 ≥ 8400 then (cell_nothing.j15 k x0 (decide (x0 ≤ 8447))) else (cell_nothing.j15 k x0 false))
def cell_nothing.j15 : Nat → Int → Bool → Option (Bool)
 | 0, _, _ => none
 | k + 1, x0, x150 => if x150 = true then (cell_nothing.j16 k x0 x150) else (if x0 ≥ 12441 then (if x0 ≤ 12442 then (cell_nothing.j16 k x0 (decide (x0 ≤ 12442))) else (if x0 ≥ 65024 then (cell_nothing.j16 k x0 (decide (x0 ≤ 65039))) else (cell_nothing.j16 k x0 false))) else (if x0 ≥ 65024 then (cell_nothing.j16 k x0 (decide (x0 ≤ 65039))) else (cell_nothing.j16 k x0 false)))
def cell_nothing.j16 : Nat → Int → Bool → Option (Bool)
 | 0, _, _ => none
 | k + 1, x0, x150 => if x150 = true then (some true) else (if x0 ≥ 65056 then (cell_nothing.j17 k x0 (decide (x0 ≤ 65071))) else (cell_nothing.j17 k x0 false))
def cell_nothing.j17 : Nat → Int → Bool → Option (Bool)
 | 0, _, _ => none
 | k + 1, x0, x169 => if x169 = true then (cell_nothing.j18 k x0 x169) else (if x0 = 65279 then (cell_nothing.j18 k x0 (x0 == 65279)) else (if x0 ≥ 127995 then (cell_nothing.j18 k x0 (decide (x0 ≤ 127999))) else (cell_nothing.j18 k x0 false)))
def cell_nothing.j18 : Nat → Int → Bool → Option (Bool)
 | 0, _, _ => none
 | k + 1, x0, x169 => if x169 = true then (some true) else (if x0 ≥ 917504 then (if x0 ≤ 921599 then (some true) else (some false)) else (some false))
end
def cell_nothing.f (k : Nat) (a0 : Int) : Option (Bool) := if a0 ≥ 0 then (cell_nothing.j0 k a0 (decide (a0 ≤ 31))) else (cell_nothing.j0 k a0 false)
set_option maxHeartbeats 8000000 in
set_option maxRecDepth 100000 in
theorem cell_nothing.calls (k : Nat) (a0 : Int) (r : Bool) (w : World) (h : cell_nothing.f k a0 = some r) :
  Calls Try.prog 47 #[.int .i32 a0] w fun e w' => e = .returned (.bool r) ∧ Drawn0 w w' := by
 have H : (if a0 ≥ 0 then (cell_nothing.j0 k a0 (decide (a0 ≤ 31))) else (cell_nothing.j0 k a0 false)) = some r := h
 clear h
 have HC2 := Aside0.mk H
 clear H
 go_enter Try.func47, Try.ntmps47
 go_upto_region 1 with (fail)
 go_cut [3] (fun v3 wc => ∃ (kq : Nat) (x3_1 : Bool), v3 = .bool x3_1 ∧ Aside0 (cell_nothing.j0 kq a0 x3_1 = some r) ∧ Aside0 (kq ≤ k) ∧ Drawn0 w wc)
 case first => as_aux_lemma =>
  have H := HC2.out
  clear HC2
  by_cases c3 : a0 ≥ 0
  ·rw [if_pos c3] at H
   have c3b0 : decide (0 ≤ a0) = true := decide_eq_true c3
   clear c3
   (first | rw [c3b0] | (simp only [i64_w, i32_w]; rw [c3b0]) | skip)
   have H' := Aside0.mk H
   clear H
   go_wp2
   go_meet
   case rel => exact ⟨_, (decide (a0 ≤ 31)), (by first | rfl | (simp; done) | (simp [*]; done)), H', ⟨by first | omega | exact Nat.le_refl _⟩, by repeat (first | exact Drawn0.refl _ | apply Drawn0.step)⟩
  ·rw [if_neg c3] at H
   have c3b0 : decide (0 ≤ a0) = false := decide_eq_false c3
   clear c3
   (first | rw [c3b0] | (simp only [i64_w, i32_w]; rw [c3b0]) | skip)
   have H' := Aside0.mk H
   clear H
   go_wp2
   go_meet
   case rel => exact ⟨_, (false), (by first | rfl | (simp; done) | (simp [*]; done)), H', ⟨by first | omega | exact Nat.le_refl _⟩, by repeat (first | exact Drawn0.refl _ | apply Drawn0.step)⟩
 case rest => as_aux_lemma =>
  clear HC2
  try clear p2
  try clear c3
  try clear c3b0
  obtain ⟨kq, x3_1, rfl, HA, HJ1, ⟨mc1, rfl⟩⟩ := hcut
  cases kq with
  | zero => exact absurd HA.out (by simp [cell_nothing.j0])
  | succ kj1 =>
   have H := HA.out
   clear HA
   simp only [cell_nothing.j0] at H
   have HC4 := Aside0.mk H
   clear H
   go_upto_if 3 with (fail)
   go_cut [3] (fun v3 wc => ∃ (kq : Nat) (x3_3 : Bool), v3 = .bool x3_3 ∧ Aside0 (cell_nothing.j1 kq a0 x3_3 = some r) ∧ Aside0 (kq ≤ kj1) ∧ Drawn0 w wc)
   case first => as_aux_lemma =>
    have H := HC4.out
    clear HC4
    by_cases c5 : x3_1 = true
    ·subst c5
     have H1 : (cell_nothing.j1 kj1 a0 true) = some r := by rw [if_pos rfl] at H; exact H
     clear H
     have H := H1
     clear H1
     have H' := Aside0.mk H
     clear H
     go_wp2
     go_meet
     case rel => exact ⟨_, (true), (by first | rfl | (simp; done) | (simp [*]; done)), H', ⟨by have := HJ1.out; first | omega | exact Nat.le_refl _⟩, by repeat (first | exact Drawn0.refl _ | apply Drawn0.step)⟩
    ·replace c5 := Bool.eq_false_iff.mpr c5
     subst c5
     have H1 : (if a0 ≥ 127 then (if a0 ≤ 159 then (cell_nothing.j1 kj1 a0 (decide (a0 ≤ 159))) else (cell_nothing.j1 kj1 a0 (a0 == 173))) else (cell_nothing.j1 kj1 a0 (a0 == 173))) = some r := by rw [if_neg (show ¬ (false = true) by decide)] at H; exact H
     clear H
     have H := H1
     clear H1
     by_cases c6 : a0 ≥ 127
     ·rw [if_pos c6] at H
      have c6b0 : decide (127 ≤ a0) = true := decide_eq_true c6
      clear c6
      (first | rw [c6b0] | (simp only [i64_w, i32_w]; rw [c6b0]) | skip)
      by_cases c7 : a0 ≤ 159
      ·rw [if_pos c7] at H
       have c7b0 : decide (a0 ≤ 159) = true := decide_eq_true c7
       clear c7
       have H' := Aside0.mk H
       clear H
       go_wp2
       go_meet
       case rel => exact ⟨_, (decide (a0 ≤ 159)), (by first | rfl | (simp; done) | (simp [*]; done)), H', ⟨by have := HJ1.out; first | omega | exact Nat.le_refl _⟩, by repeat (first | exact Drawn0.refl _ | apply Drawn0.step)⟩
      ·rw [if_neg c7] at H
       have c7b0 : decide (a0 ≤ 159) = false := decide_eq_false c7
       clear c7
       have H' := Aside0.mk H
       clear H
       go_wp2
       go_meet
       case rel => exact ⟨_, ((a0 == 173)), (by first | rfl | (simp; done) | (simp [*]; done)), H', ⟨by have := HJ1.out; first | omega | exact Nat.le_refl _⟩, by repeat (first | exact Drawn0.refl _ | apply Drawn0.step)⟩
     ·rw [if_neg c6] at H
      have c6b0 : decide (127 ≤ a0) = false := decide_eq_false c6
      clear c6
      (first | rw [c6b0] | (simp only [i64_w, i32_w]; rw [c6b0]) | skip)
      have H' := Aside0.mk H
      clear H
      go_wp2
      go_meet
      case rel => exact ⟨_, ((a0 == 173)), (by first | rfl | (simp; done) | (simp [*]; done)), H', ⟨by have := HJ1.out; first | omega | exact Nat.le_refl _⟩, by repeat (first | exact Drawn0.refl _ | apply Drawn0.step)⟩
   case rest => as_aux_lemma =>
    clear HC4
    try clear c1
    try clear p2
    try clear c3
    try clear c3b0
    try clear c4
    try clear c5
    try clear c6
    try clear c6b0
    try clear c7
    try clear c7b0
    try clear p2
    obtain ⟨kq, x3_3, rfl, HA, HJ3, ⟨mc3, rfl⟩⟩ := hcut
    cases kq with
    | zero => exact absurd HA.out (by simp [cell_nothing.j1])
    | succ kj3 =>
     have H := HA.out
     clear HA
     simp only [cell_nothing.j1] at H
     by_cases c8 : x3_3 = true
     ·subst c8
      have H1 : (some true) = some r := by rw [if_pos rfl] at H; exact H
      clear H
      have H := H1
      clear H1
      obtain rfl := Option.some.inj H
      go_wp2
      go_ret
      exact ⟨by first | rfl | (simp; done) | (simp [*]; done), by repeat (first | exact Drawn0.refl _ | apply Drawn0.step)⟩
     ·replace c8 := Bool.eq_false_iff.mpr c8
      subst c8
      have H1 : (if a0 ≥ 768 then (cell_nothing.j2 kj3 a0 (decide (a0 ≤ 879))) else (cell_nothing.j2 kj3 a0 false)) = some r := by rw [if_neg (show ¬ (false = true) by decide)] at H; exact H
      clear H
      have H := H1
      clear H1
      have HC9 := Aside0.mk H
      clear H
      go_upto_region 5 with (fail)
      go_cut [18] (fun v18 wc => ∃ (kq : Nat) (x18_8 : Bool), v18 = .bool x18_8 ∧ Aside0 (cell_nothing.j2 kq a0 x18_8 = some r) ∧ Aside0 (kq ≤ kj3) ∧ Drawn0 w wc)
      case first => as_aux_lemma =>
       have H := HC9.out
       clear HC9
       by_cases c10 : a0 ≥ 768
       ·rw [if_pos c10] at H
        have c10b0 : decide (768 ≤ a0) = true := decide_eq_true c10
        clear c10
        (first | rw [c10b0] | (simp only [i64_w, i32_w]; rw [c10b0]) | skip)
        have H' := Aside0.mk H
        clear H
        go_wp2
        go_meet
        case rel => exact ⟨_, (decide (a0 ≤ 879)), (by first | rfl | (simp; done) | (simp [*]; done)), H', ⟨by have := HJ1.out; have := HJ3.out; first | omega | exact Nat.le_refl _⟩, by repeat (first | exact Drawn0.refl _ | apply Drawn0.step)⟩
       ·rw [if_neg c10] at H
        have c10b0 : decide (768 ≤ a0) = false := decide_eq_false c10
        clear c10
        (first | rw [c10b0] | (simp only [i64_w, i32_w]; rw [c10b0]) | skip)
        have H' := Aside0.mk H
        clear H
        go_wp2
        go_meet
        case rel => exact ⟨_, (false), (by first | rfl | (simp; done) | (simp [*]; done)), H', ⟨by have := HJ1.out; have := HJ3.out; first | omega | exact Nat.le_refl _⟩, by repeat (first | exact Drawn0.refl _ | apply Drawn0.step)⟩
      case rest => as_aux_lemma =>
       clear HC9
       try clear c1
       try clear p2
       try clear c3
       try clear c3b0
       try clear c4
       try clear c5
       try clear c6
       try clear c6b0
       try clear c7
       try clear c7b0
       try clear c8
       try clear c10
       try clear c10b0
       try clear p2
       obtain ⟨kq, x18_8, rfl, HA, HJ8, ⟨mc8, rfl⟩⟩ := hcut
       cases kq with
       | zero => exact absurd HA.out (by simp [cell_nothing.j2])
       | succ kj8 =>
        have H := HA.out
        clear HA
        simp only [cell_nothing.j2] at H
        have HC11 := Aside0.mk H
        clear H
        go_upto_if 18 with (fail)
        go_cut [18] (fun v18 wc => ∃ (kq : Nat) (x18_10 : Bool), v18 = .bool x18_10 ∧ Aside0 (cell_nothing.j3 kq a0 x18_10 = some r) ∧ Aside0 (kq ≤ kj8) ∧ Drawn0 w wc)
        case first => as_aux_lemma =>
         have H := HC11.out
         clear HC11
         by_cases c12 : x18_8 = true
         ·subst c12
          have H1 : (cell_nothing.j3 kj8 a0 true) = some r := by rw [if_pos rfl] at H; exact H
          clear H
          have H := H1
          clear H1
          have H' := Aside0.mk H
          clear H
          go_wp2
          go_meet
          case rel => exact ⟨_, (true), (by first | rfl | (simp; done) | (simp [*]; done)), H', ⟨by have := HJ1.out; have := HJ3.out; have := HJ8.out; first | omega | exact Nat.le_refl _⟩, by repeat (first | exact Drawn0.refl _ | apply Drawn0.step)⟩
         ·replace c12 := Bool.eq_false_iff.mpr c12
          subst c12
          have H1 : (if a0 ≥ 1155 then (if a0 ≤ 1161 then (cell_nothing.j3 kj8 a0 (decide (a0 ≤ 1161))) else (if a0 ≥ 1425 then (cell_nothing.j3 kj8 a0 (decide (a0 ≤ 1469))) else (cell_nothing.j3 kj8 a0 false))) else (if a0 ≥ 1425 then (cell_nothing.j3 kj8 a0 (decide (a0 ≤ 1469))) else (cell_nothing.j3 kj8 a0 false))) = some r := by rw [if_neg (show ¬ (false = true) by decide)] at H; exact H
          clear H
          have H := H1
          clear H1
          by_cases c13 : a0 ≥ 1155
          ·rw [if_pos c13] at H
           have c13b0 : decide (1155 ≤ a0) = true := decide_eq_true c13
           clear c13
           (first | rw [c13b0] | (simp only [i64_w, i32_w]; rw [c13b0]) | skip)
           by_cases c14 : a0 ≤ 1161
           ·rw [if_pos c14] at H
            have c14b0 : decide (a0 ≤ 1161) = true := decide_eq_true c14
            clear c14
            have H' := Aside0.mk H
            clear H
            go_wp2
            go_meet
            case rel => exact ⟨_, (decide (a0 ≤ 1161)), (by first | rfl | (simp; done) | (simp [*]; done)), H', ⟨by have := HJ1.out; have := HJ3.out; have := HJ8.out; first | omega | exact Nat.le_refl _⟩, by repeat (first | exact Drawn0.refl _ | apply Drawn0.step)⟩
           ·rw [if_neg c14] at H
            have c14b0 : decide (a0 ≤ 1161) = false := decide_eq_false c14
            clear c14
            by_cases c15 : a0 ≥ 1425
            ·rw [if_pos c15] at H
             have c15b0 : decide (1425 ≤ a0) = true := decide_eq_true c15
             clear c15
             have H' := Aside0.mk H
             clear H
             go_wp2
             go_meet
             case rel => exact ⟨_, (decide (a0 ≤ 1469)), (by first | rfl | (simp; done) | (simp [*]; done)), H', ⟨by have := HJ1.out; have := HJ3.out; have := HJ8.out; first | omega | exact Nat.le_refl _⟩, by repeat (first | exact Drawn0.refl _ | apply Drawn0.step)⟩
            ·rw [if_neg c15] at H
             have c15b0 : decide (1425 ≤ a0) = false := decide_eq_false c15
             clear c15
             have H' := Aside0.mk H
             clear H
             go_wp2
             go_meet
             case rel => exact ⟨_, (false), (by first | rfl | (simp; done) | (simp [*]; done)), H', ⟨by have := HJ1.out; have := HJ3.out; have := HJ8.out; first | omega | exact Nat.le_refl _⟩, by repeat (first | exact Drawn0.refl _ | apply Drawn0.step)⟩
          ·rw [if_neg c13] at H
           have c13b0 : decide (1155 ≤ a0) = false := decide_eq_false c13
           clear c13
           (first | rw [c13b0] | (simp only [i64_w, i32_w]; rw [c13b0]) | skip)
           by_cases c16 : a0 ≥ 1425
           ·rw [if_pos c16] at H
            have c16b0 : decide (1425 ≤ a0) = true := decide_eq_true c16
            clear c16
            have H' := Aside0.mk H
            clear H
            go_wp2
            go_meet
            case rel => exact ⟨_, (decide (a0 ≤ 1469)), (by first | rfl | (simp; done) | (simp [*]; done)), H', ⟨by have := HJ1.out; have := HJ3.out; have := HJ8.out; first | omega | exact Nat.le_refl _⟩, by repeat (first | exact Drawn0.refl _ | apply Drawn0.step)⟩
           ·rw [if_neg c16] at H
            have c16b0 : decide (1425 ≤ a0) = false := decide_eq_false c16
            clear c16
            have H' := Aside0.mk H
            clear H
            go_wp2
            go_meet
            case rel => exact ⟨_, (false), (by first | rfl | (simp; done) | (simp [*]; done)), H', ⟨by have := HJ1.out; have := HJ3.out; have := HJ8.out; first | omega | exact Nat.le_refl _⟩, by repeat (first | exact Drawn0.refl _ | apply Drawn0.step)⟩
        case rest => as_aux_lemma =>
         clear HC11
         try clear c1
         try clear p2
         try clear c3
         try clear c3b0
         try clear c4
         try clear c5
         try clear c6
         try clear c6b0
         try clear c7
         try clear c7b0
         try clear c8
         try clear c10
         try clear c10b0
         try clear c12
         try clear c13
         try clear c13b0
         try clear c14
         try clear c14b0
         try clear c15
         try clear c15b0
         try clear c16
         try clear c16b0
         try clear p2
         obtain ⟨kq, x18_10, rfl, HA, HJ10, ⟨mc10, rfl⟩⟩ := hcut
         cases kq with
         | zero => exact absurd HA.out (by simp [cell_nothing.j3])
         | succ kj10 =>
          have H := HA.out
          clear HA
          simp only [cell_nothing.j3] at H
          by_cases c17 : x18_10 = true
          ·subst c17
           have H1 : (some true) = some r := by rw [if_pos rfl] at H; exact H
           clear H
           have H := H1
           clear H1
           obtain rfl := Option.some.inj H
           go_wp2
           go_ret
           exact ⟨by first | rfl | (simp; done) | (simp [*]; done), by repeat (first | exact Drawn0.refl _ | apply Drawn0.step)⟩
          ·replace c17 := Bool.eq_false_iff.mpr c17
           subst c17
           have H1 : (if a0 = 1471 then (cell_nothing.j4 kj10 a0 (a0 == 1471)) else (if a0 ≥ 1473 then (if a0 ≤ 1474 then (cell_nothing.j4 kj10 a0 (decide (a0 ≤ 1474))) else (if a0 ≥ 1476 then (cell_nothing.j4 kj10 a0 (decide (a0 ≤ 1477))) else (cell_nothing.j4 kj10 a0 false))) else (if a0 ≥ 1476 then (cell_nothing.j4 kj10 a0 (decide (a0 ≤ 1477))) else (cell_nothing.j4 kj10 a0 false)))) = some r := by rw [if_neg (show ¬ (false = true) by decide)] at H; exact H
           clear H
           have H := H1
           clear H1
           have HC18 := Aside0.mk H
           clear H
           go_upto_if 37 with (fail)
           go_cut [37] (fun v37 wc => ∃ (kq : Nat) (x37_17 : Bool), v37 = .bool x37_17 ∧ Aside0 (cell_nothing.j4 kq a0 x37_17 = some r) ∧ Aside0 (kq ≤ kj10) ∧ Drawn0 w wc)
           case first => as_aux_lemma =>
            have H := HC18.out
            clear HC18
            by_cases c19 : a0 = 1471
            ·rw [if_pos c19] at H
             have c19b0 : (a0 == 1471) = true := beq_iff_eq.mpr c19
             have c19b1 : (a0 != 1471) = false := bne_eq_false_iff_eq.mpr c19
             clear c19
             (first | rw [c19b0] | (simp only [i64_w, i32_w]; rw [c19b0]) | skip)
             have H' := Aside0.mk H
             clear H
             go_wp2
             go_meet
             case rel => exact ⟨_, ((a0 == 1471)), (by first | rfl | (simp; done) | (simp [*]; done)), H', ⟨by have := HJ1.out; have := HJ3.out; have := HJ8.out; have := HJ10.out; first | omega | exact Nat.le_refl _⟩, by repeat (first | exact Drawn0.refl _ | apply Drawn0.step)⟩
            ·rw [if_neg c19] at H
             have c19b0 : (a0 == 1471) = false := beq_eq_false_iff_ne.mpr c19
             have c19b1 : (a0 != 1471) = true := bne_iff_ne.mpr c19
             (first | rw [c19b0] | (simp only [i64_w, i32_w]; rw [c19b0]) | skip)
             by_cases c20 : a0 ≥ 1473
             ·rw [if_pos c20] at H
              have c20b0 : decide (1473 ≤ a0) = true := decide_eq_true c20
              clear c20
              by_cases c21 : a0 ≤ 1474
              ·rw [if_pos c21] at H
               have c21b0 : decide (a0 ≤ 1474) = true := decide_eq_true c21
               clear c21
               have H' := Aside0.mk H
               clear H
               go_wp2
               go_meet
               case rel => exact ⟨_, (decide (a0 ≤ 1474)), (by first | rfl | (simp; done) | (simp [*]; done)), H', ⟨by have := HJ1.out; have := HJ3.out; have := HJ8.out; have := HJ10.out; first | omega | exact Nat.le_refl _⟩, by repeat (first | exact Drawn0.refl _ | apply Drawn0.step)⟩
              ·rw [if_neg c21] at H
               have c21b0 : decide (a0 ≤ 1474) = false := decide_eq_false c21
               clear c21
               by_cases c22 : a0 ≥ 1476
               ·rw [if_pos c22] at H
                have c22b0 : decide (1476 ≤ a0) = true := decide_eq_true c22
                clear c22
                have H' := Aside0.mk H
                clear H
                go_wp2
                go_meet
                case rel => exact ⟨_, (decide (a0 ≤ 1477)), (by first | rfl | (simp; done) | (simp [*]; done)), H', ⟨by have := HJ1.out; have := HJ3.out; have := HJ8.out; have := HJ10.out; first | omega | exact Nat.le_refl _⟩, by repeat (first | exact Drawn0.refl _ | apply Drawn0.step)⟩
               ·rw [if_neg c22] at H
                have c22b0 : decide (1476 ≤ a0) = false := decide_eq_false c22
                clear c22
                have H' := Aside0.mk H
                clear H
                go_wp2
                go_meet
                case rel => exact ⟨_, (false), (by first | rfl | (simp; done) | (simp [*]; done)), H', ⟨by have := HJ1.out; have := HJ3.out; have := HJ8.out; have := HJ10.out; first | omega | exact Nat.le_refl _⟩, by repeat (first | exact Drawn0.refl _ | apply Drawn0.step)⟩
             ·rw [if_neg c20] at H
              have c20b0 : decide (1473 ≤ a0) = false := decide_eq_false c20
              clear c20
              by_cases c23 : a0 ≥ 1476
              ·rw [if_pos c23] at H
               have c23b0 : decide (1476 ≤ a0) = true := decide_eq_true c23
               clear c23
               have H' := Aside0.mk H
               clear H
               go_wp2
               go_meet
               case rel => exact ⟨_, (decide (a0 ≤ 1477)), (by first | rfl | (simp; done) | (simp [*]; done)), H', ⟨by have := HJ1.out; have := HJ3.out; have := HJ8.out; have := HJ10.out; first | omega | exact Nat.le_refl _⟩, by repeat (first | exact Drawn0.refl _ | apply Drawn0.step)⟩
              ·rw [if_neg c23] at H
               have c23b0 : decide (1476 ≤ a0) = false := decide_eq_false c23
               clear c23
               have H' := Aside0.mk H
               clear H
               go_wp2
               go_meet
               case rel => exact ⟨_, (false), (by first | rfl | (simp; done) | (simp [*]; done)), H', ⟨by have := HJ1.out; have := HJ3.out; have := HJ8.out; have := HJ10.out; first | omega | exact Nat.le_refl _⟩, by repeat (first | exact Drawn0.refl _ | apply Drawn0.step)⟩
           case rest => as_aux_lemma =>
            clear HC18
            try clear c1
            try clear c2
            try clear p2
            try clear c3
            try clear c3b0
            try clear c4
            try clear c5
            try clear c6
            try clear c6b0
            try clear c7
            try clear c7b0
            try clear c8
            try clear c10
            try clear c10b0
            try clear c12
            try clear c13
            try clear c13b0
            try clear c14
            try clear c14b0
            try clear c15
            try clear c15b0
            try clear c16
            try clear c16b0
            try clear c17
            try clear c19
            try clear c19b0
            try clear c19b1
            try clear c20
            try clear c20b0
            try clear c21
            try clear c21b0
            try clear c22
            try clear c22b0
            try clear c23
            try clear c23b0
            try clear p2
            obtain ⟨kq, x37_17, rfl, HA, HJ17, ⟨mc17, rfl⟩⟩ := hcut
            cases kq with
            | zero => exact absurd HA.out (by simp [cell_nothing.j4])
            | succ kj17 =>
             have H := HA.out
             clear HA
             simp only [cell_nothing.j4] at H
             by_cases c24 : x37_17 = true
             ·subst c24
              have H1 : (some true) = some r := by rw [if_pos rfl] at H; exact H
              clear H
              have H := H1
              clear H1
              obtain rfl := Option.some.inj H
              go_wp2
              go_ret
              exact ⟨by first | rfl | (simp; done) | (simp [*]; done), by repeat (first | exact Drawn0.refl _ | apply Drawn0.step)⟩
             ·replace c24 := Bool.eq_false_iff.mpr c24
              subst c24
              have H1 : (if a0 = 1479 then (cell_nothing.j5 kj17 a0 (a0 == 1479)) else (if a0 ≥ 1552 then (if a0 ≤ 1562 then (cell_nothing.j5 kj17 a0 (decide (a0 ≤ 1562))) else (cell_nothing.j5 kj17 a0 (a0 == 1564))) else (cell_nothing.j5 kj17 a0 (a0 == 1564)))) = some r := by rw [if_neg (show ¬ (false = true) by decide)] at H; exact H
              clear H
              have H := H1
              clear H1
              have HC25 := Aside0.mk H
              clear H
              go_upto_if 52 with (fail)
              go_cut [52] (fun v52 wc => ∃ (kq : Nat) (x52_24 : Bool), v52 = .bool x52_24 ∧ Aside0 (cell_nothing.j5 kq a0 x52_24 = some r) ∧ Aside0 (kq ≤ kj17) ∧ Drawn0 w wc)
              case first => as_aux_lemma =>
               have H := HC25.out
               clear HC25
               by_cases c26 : a0 = 1479
               ·rw [if_pos c26] at H
                have c26b0 : (a0 == 1479) = true := beq_iff_eq.mpr c26
                have c26b1 : (a0 != 1479) = false := bne_eq_false_iff_eq.mpr c26
                clear c26
                (first | rw [c26b0] | (simp only [i64_w, i32_w]; rw [c26b0]) | skip)
                have H' := Aside0.mk H
                clear H
                go_wp2
                go_meet
                case rel => exact ⟨_, ((a0 == 1479)), (by first | rfl | (simp; done) | (simp [*]; done)), H', ⟨by have := HJ1.out; have := HJ3.out; have := HJ8.out; have := HJ10.out; have := HJ17.out; first | omega | exact Nat.le_refl _⟩, by repeat (first | exact Drawn0.refl _ | apply Drawn0.step)⟩
               ·rw [if_neg c26] at H
                have c26b0 : (a0 == 1479) = false := beq_eq_false_iff_ne.mpr c26
                have c26b1 : (a0 != 1479) = true := bne_iff_ne.mpr c26
                (first | rw [c26b0] | (simp only [i64_w, i32_w]; rw [c26b0]) | skip)
                by_cases c27 : a0 ≥ 1552
                ·rw [if_pos c27] at H
                 have c27b0 : decide (1552 ≤ a0) = true := decide_eq_true c27
                 clear c27
                 by_cases c28 : a0 ≤ 1562
                 ·rw [if_pos c28] at H
                  have c28b0 : decide (a0 ≤ 1562) = true := decide_eq_true c28
                  clear c28
                  have H' := Aside0.mk H
                  clear H
                  go_wp2
                  go_meet
                  case rel => exact ⟨_, (decide (a0 ≤ 1562)), (by first | rfl | (simp; done) | (simp [*]; done)), H', ⟨by have := HJ1.out; have := HJ3.out; have := HJ8.out; have := HJ10.out; have := HJ17.out; first | omega | exact Nat.le_refl _⟩, by repeat (first | exact Drawn0.refl _ | apply Drawn0.step)⟩
                 ·rw [if_neg c28] at H
                  have c28b0 : decide (a0 ≤ 1562) = false := decide_eq_false c28
                  clear c28
                  have H' := Aside0.mk H
                  clear H
                  go_wp2
                  go_meet
                  case rel => exact ⟨_, ((a0 == 1564)), (by first | rfl | (simp; done) | (simp [*]; done)), H', ⟨by have := HJ1.out; have := HJ3.out; have := HJ8.out; have := HJ10.out; have := HJ17.out; first | omega | exact Nat.le_refl _⟩, by repeat (first | exact Drawn0.refl _ | apply Drawn0.step)⟩
                ·rw [if_neg c27] at H
                 have c27b0 : decide (1552 ≤ a0) = false := decide_eq_false c27
                 clear c27
                 have H' := Aside0.mk H
                 clear H
                 go_wp2
                 go_meet
                 case rel => exact ⟨_, ((a0 == 1564)), (by first | rfl | (simp; done) | (simp [*]; done)), H', ⟨by have := HJ1.out; have := HJ3.out; have := HJ8.out; have := HJ10.out; have := HJ17.out; first | omega | exact Nat.le_refl _⟩, by repeat (first | exact Drawn0.refl _ | apply Drawn0.step)⟩
              case rest => as_aux_lemma =>
               clear HC25
               try clear c1
               try clear c2
               try clear p2
               try clear c3
               try clear c3b0
               try clear c4
               try clear c5
               try clear c6
               try clear c6b0
               try clear c7
               try clear c7b0
               try clear c8
               try clear c10
               try clear c10b0
               try clear c12
               try clear c13
               try clear c13b0
               try clear c14
               try clear c14b0
               try clear c15
               try clear c15b0
               try clear c16
               try clear c16b0
               try clear c17
               try clear c19
               try clear c19b0
               try clear c19b1
               try clear c20
               try clear c20b0
               try clear c21
               try clear c21b0
               try clear c22
               try clear c22b0
               try clear c23
               try clear c23b0
               try clear c24
               try clear c26
               try clear c26b0
               try clear c26b1
               try clear c27
               try clear c27b0
               try clear c28
               try clear c28b0
               try clear p2
               obtain ⟨kq, x52_24, rfl, HA, HJ24, ⟨mc24, rfl⟩⟩ := hcut
               cases kq with
               | zero => exact absurd HA.out (by simp [cell_nothing.j5])
               | succ kj24 =>
                have H := HA.out
                clear HA
                simp only [cell_nothing.j5] at H
                by_cases c29 : x52_24 = true
                ·subst c29
                 have H1 : (some true) = some r := by rw [if_pos rfl] at H; exact H
                 clear H
                 have H := H1
                 clear H1
                 obtain rfl := Option.some.inj H
                 go_wp2
                 go_ret
                 exact ⟨by first | rfl | (simp; done) | (simp [*]; done), by repeat (first | exact Drawn0.refl _ | apply Drawn0.step)⟩
                ·replace c29 := Bool.eq_false_iff.mpr c29
                 subst c29
                 have H1 : (if a0 ≥ 1611 then (cell_nothing.j6 kj24 a0 (decide (a0 ≤ 1631))) else (cell_nothing.j6 kj24 a0 false)) = some r := by rw [if_neg (show ¬ (false = true) by decide)] at H; exact H
                 clear H
                 have H := H1
                 clear H1
                 have HC30 := Aside0.mk H
                 clear H
                 go_upto_region 17 with (fail)
                 go_cut [63] (fun v63 wc => ∃ (kq : Nat) (x63_29 : Bool), v63 = .bool x63_29 ∧ Aside0 (cell_nothing.j6 kq a0 x63_29 = some r) ∧ Aside0 (kq ≤ kj24) ∧ Drawn0 w wc)
                 case first => as_aux_lemma =>
                  have H := HC30.out
                  clear HC30
                  by_cases c31 : a0 ≥ 1611
                  ·rw [if_pos c31] at H
                   have c31b0 : decide (1611 ≤ a0) = true := decide_eq_true c31
                   clear c31
                   (first | rw [c31b0] | (simp only [i64_w, i32_w]; rw [c31b0]) | skip)
                   have H' := Aside0.mk H
                   clear H
                   go_wp2
                   go_meet
                   case rel => exact ⟨_, (decide (a0 ≤ 1631)), (by first | rfl | (simp; done) | (simp [*]; done)), H', ⟨by have := HJ1.out; have := HJ3.out; have := HJ8.out; have := HJ10.out; have := HJ17.out; have := HJ24.out; first | omega | exact Nat.le_refl _⟩, by repeat (first | exact Drawn0.refl _ | apply Drawn0.step)⟩
                  ·rw [if_neg c31] at H
                   have c31b0 : decide (1611 ≤ a0) = false := decide_eq_false c31
                   clear c31
                   (first | rw [c31b0] | (simp only [i64_w, i32_w]; rw [c31b0]) | skip)
                   have H' := Aside0.mk H
                   clear H
                   go_wp2
                   go_meet
                   case rel => exact ⟨_, (false), (by first | rfl | (simp; done) | (simp [*]; done)), H', ⟨by have := HJ1.out; have := HJ3.out; have := HJ8.out; have := HJ10.out; have := HJ17.out; have := HJ24.out; first | omega | exact Nat.le_refl _⟩, by repeat (first | exact Drawn0.refl _ | apply Drawn0.step)⟩
                 case rest => as_aux_lemma =>
                  clear HC30
                  try clear c1
                  try clear c2
                  try clear p2
                  try clear c3
                  try clear c3b0
                  try clear c4
                  try clear c5
                  try clear c6
                  try clear c6b0
                  try clear c7
                  try clear c7b0
                  try clear c8
                  try clear c10
                  try clear c10b0
                  try clear c12
                  try clear c13
                  try clear c13b0
                  try clear c14
                  try clear c14b0
                  try clear c15
                  try clear c15b0
                  try clear c16
                  try clear c16b0
                  try clear c17
                  try clear c19
                  try clear c19b0
                  try clear c19b1
                  try clear c20
                  try clear c20b0
                  try clear c21
                  try clear c21b0
                  try clear c22
                  try clear c22b0
                  try clear c23
                  try clear c23b0
                  try clear c24
                  try clear c26
                  try clear c26b0
                  try clear c26b1
                  try clear c27
                  try clear c27b0
                  try clear c28
                  try clear c28b0
                  try clear c29
                  try clear c31
                  try clear c31b0
                  try clear p2
                  obtain ⟨kq, x63_29, rfl, HA, HJ29, ⟨mc29, rfl⟩⟩ := hcut
                  cases kq with
                  | zero => exact absurd HA.out (by simp [cell_nothing.j6])
                  | succ kj29 =>
                   have H := HA.out
                   clear HA
                   simp only [cell_nothing.j6] at H
                   have HC32 := Aside0.mk H
                   clear H
                   go_upto_if 63 with (fail)
                   go_cut [63] (fun v63 wc => ∃ (kq : Nat) (x63_31 : Bool), v63 = .bool x63_31 ∧ Aside0 (cell_nothing.j7 kq a0 x63_31 = some r) ∧ Aside0 (kq ≤ kj29) ∧ Drawn0 w wc)
                   case first => as_aux_lemma =>
                    have H := HC32.out
                    clear HC32
                    by_cases c33 : x63_29 = true
                    ·subst c33
                     have H1 : (cell_nothing.j7 kj29 a0 true) = some r := by rw [if_pos rfl] at H; exact H
                     clear H
                     have H := H1
                     clear H1
                     have H' := Aside0.mk H
                     clear H
                     go_wp2
                     go_meet
                     case rel => exact ⟨_, (true), (by first | rfl | (simp; done) | (simp [*]; done)), H', ⟨by have := HJ1.out; have := HJ3.out; have := HJ8.out; have := HJ10.out; have := HJ17.out; have := HJ24.out; have := HJ29.out; first | omega | exact Nat.le_refl _⟩, by repeat (first | exact Drawn0.refl _ | apply Drawn0.step)⟩
                    ·replace c33 := Bool.eq_false_iff.mpr c33
                     subst c33
                     have H1 : (if a0 = 1648 then (cell_nothing.j7 kj29 a0 (a0 == 1648)) else (if a0 ≥ 1750 then (cell_nothing.j7 kj29 a0 (decide (a0 ≤ 1756))) else (cell_nothing.j7 kj29 a0 false))) = some r := by rw [if_neg (show ¬ (false = true) by decide)] at H; exact H
                     clear H
                     have H := H1
                     clear H1
                     by_cases c34 : a0 = 1648
                     ·rw [if_pos c34] at H
                      have c34b0 : (a0 == 1648) = true := beq_iff_eq.mpr c34
                      have c34b1 : (a0 != 1648) = false := bne_eq_false_iff_eq.mpr c34
                      clear c34
                      (first | rw [c34b0] | (simp only [i64_w, i32_w]; rw [c34b0]) | skip)
                      have H' := Aside0.mk H
                      clear H
                      go_wp2
                      go_meet
                      case rel => exact ⟨_, ((a0 == 1648)), (by first | rfl | (simp; done) | (simp [*]; done)), H', ⟨by have := HJ1.out; have := HJ3.out; have := HJ8.out; have := HJ10.out; have := HJ17.out; have := HJ24.out; have := HJ29.out; first | omega | exact Nat.le_refl _⟩, by repeat (first | exact Drawn0.refl _ | apply Drawn0.step)⟩
                     ·rw [if_neg c34] at H
                      have c34b0 : (a0 == 1648) = false := beq_eq_false_iff_ne.mpr c34
                      have c34b1 : (a0 != 1648) = true := bne_iff_ne.mpr c34
                      (first | rw [c34b0] | (simp only [i64_w, i32_w]; rw [c34b0]) | skip)
                      by_cases c35 : a0 ≥ 1750
                      ·rw [if_pos c35] at H
                       have c35b0 : decide (1750 ≤ a0) = true := decide_eq_true c35
                       clear c35
                       have H' := Aside0.mk H
                       clear H
                       go_wp2
                       go_meet
                       case rel => exact ⟨_, (decide (a0 ≤ 1756)), (by first | rfl | (simp; done) | (simp [*]; done)), H', ⟨by have := HJ1.out; have := HJ3.out; have := HJ8.out; have := HJ10.out; have := HJ17.out; have := HJ24.out; have := HJ29.out; first | omega | exact Nat.le_refl _⟩, by repeat (first | exact Drawn0.refl _ | apply Drawn0.step)⟩
                      ·rw [if_neg c35] at H
                       have c35b0 : decide (1750 ≤ a0) = false := decide_eq_false c35
                       clear c35
                       have H' := Aside0.mk H
                       clear H
                       go_wp2
                       go_meet
                       case rel => exact ⟨_, (false), (by first | rfl | (simp; done) | (simp [*]; done)), H', ⟨by have := HJ1.out; have := HJ3.out; have := HJ8.out; have := HJ10.out; have := HJ17.out; have := HJ24.out; have := HJ29.out; first | omega | exact Nat.le_refl _⟩, by repeat (first | exact Drawn0.refl _ | apply Drawn0.step)⟩
                   case rest => as_aux_lemma =>
                    clear HC32
                    try clear c1
                    try clear c2
                    try clear p2
                    try clear c3
                    try clear c3b0
                    try clear c4
                    try clear c5
                    try clear c6
                    try clear c6b0
                    try clear c7
                    try clear c7b0
                    try clear c8
                    try clear c10
                    try clear c10b0
                    try clear c12
                    try clear c13
                    try clear c13b0
                    try clear c14
                    try clear c14b0
                    try clear c15
                    try clear c15b0
                    try clear c16
                    try clear c16b0
                    try clear c17
                    try clear c19
                    try clear c19b0
                    try clear c19b1
                    try clear c20
                    try clear c20b0
                    try clear c21
                    try clear c21b0
                    try clear c22
                    try clear c22b0
                    try clear c23
                    try clear c23b0
                    try clear c24
                    try clear c26
                    try clear c26b0
                    try clear c26b1
                    try clear c27
                    try clear c27b0
                    try clear c28
                    try clear c28b0
                    try clear c29
                    try clear c31
                    try clear c31b0
                    try clear c33
                    try clear c34
                    try clear c34b0
                    try clear c34b1
                    try clear c35
                    try clear c35b0
                    try clear p2
                    obtain ⟨kq, x63_31, rfl, HA, HJ31, ⟨mc31, rfl⟩⟩ := hcut
                    cases kq with
                    | zero => exact absurd HA.out (by simp [cell_nothing.j7])
                    | succ kj31 =>
                     have H := HA.out
                     clear HA
                     simp only [cell_nothing.j7] at H
                     by_cases c36 : x63_31 = true
                     ·subst c36
                      have H1 : (some true) = some r := by rw [if_pos rfl] at H; exact H
                      clear H
                      have H := H1
                      clear H1
                      obtain rfl := Option.some.inj H
                      go_wp2
                      go_ret
                      exact ⟨by first | rfl | (simp; done) | (simp [*]; done), by repeat (first | exact Drawn0.refl _ | apply Drawn0.step)⟩
                     ·replace c36 := Bool.eq_false_iff.mpr c36
                      subst c36
                      have H1 : (if a0 ≥ 1759 then (cell_nothing.j8 kj31 a0 (decide (a0 ≤ 1764))) else (cell_nothing.j8 kj31 a0 false)) = some r := by rw [if_neg (show ¬ (false = true) by decide)] at H; exact H
                      clear H
                      have H := H1
                      clear H1
                      have HC37 := Aside0.mk H
                      clear H
                      go_upto_region 21 with (fail)
                      go_cut [78] (fun v78 wc => ∃ (kq : Nat) (x78_36 : Bool), v78 = .bool x78_36 ∧ Aside0 (cell_nothing.j8 kq a0 x78_36 = some r) ∧ Aside0 (kq ≤ kj31) ∧ Drawn0 w wc)
                      case first => as_aux_lemma =>
                       have H := HC37.out
                       clear HC37
                       by_cases c38 : a0 ≥ 1759
                       ·rw [if_pos c38] at H
                        have c38b0 : decide (1759 ≤ a0) = true := decide_eq_true c38
                        clear c38
                        (first | rw [c38b0] | (simp only [i64_w, i32_w]; rw [c38b0]) | skip)
                        have H' := Aside0.mk H
                        clear H
                        go_wp2
                        go_meet
                        case rel => exact ⟨_, (decide (a0 ≤ 1764)), (by first | rfl | (simp; done) | (simp [*]; done)), H', ⟨by have := HJ1.out; have := HJ3.out; have := HJ8.out; have := HJ10.out; have := HJ17.out; have := HJ24.out; have := HJ29.out; have := HJ31.out; first | omega | exact Nat.le_refl _⟩, by repeat (first | exact Drawn0.refl _ | apply Drawn0.step)⟩
                       ·rw [if_neg c38] at H
                        have c38b0 : decide (1759 ≤ a0) = false := decide_eq_false c38
                        clear c38
                        (first | rw [c38b0] | (simp only [i64_w, i32_w]; rw [c38b0]) | skip)
                        have H' := Aside0.mk H
                        clear H
                        go_wp2
                        go_meet
                        case rel => exact ⟨_, (false), (by first | rfl | (simp; done) | (simp [*]; done)), H', ⟨by have := HJ1.out; have := HJ3.out; have := HJ8.out; have := HJ10.out; have := HJ17.out; have := HJ24.out; have := HJ29.out; have := HJ31.out; first | omega | exact Nat.le_refl _⟩, by repeat (first | exact Drawn0.refl _ | apply Drawn0.step)⟩
                      case rest => as_aux_lemma =>
                       clear HC37
                       try clear c1
                       try clear c2
                       try clear p2
                       try clear c3
                       try clear c3b0
                       try clear c4
                       try clear c5
                       try clear c6
                       try clear c6b0
                       try clear c7
                       try clear c7b0
                       try clear c8
                       try clear c10
                       try clear c10b0
                       try clear c12
                       try clear c13
                       try clear c13b0
                       try clear c14
                       try clear c14b0
                       try clear c15
                       try clear c15b0
                       try clear c16
                       try clear c16b0
                       try clear c17
                       try clear c19
                       try clear c19b0
                       try clear c19b1
                       try clear c20
                       try clear c20b0
                       try clear c21
                       try clear c21b0
                       try clear c22
                       try clear c22b0
                       try clear c23
                       try clear c23b0
                       try clear c24
                       try clear c26
                       try clear c26b0
                       try clear c26b1
                       try clear c27
                       try clear c27b0
                       try clear c28
                       try clear c28b0
                       try clear c29
                       try clear c31
                       try clear c31b0
                       try clear c33
                       try clear c34
                       try clear c34b0
                       try clear c34b1
                       try clear c35
                       try clear c35b0
                       try clear c36
                       try clear c38
                       try clear c38b0
                       try clear p2
                       obtain ⟨kq, x78_36, rfl, HA, HJ36, ⟨mc36, rfl⟩⟩ := hcut
                       cases kq with
                       | zero => exact absurd HA.out (by simp [cell_nothing.j8])
                       | succ kj36 =>
                        have H := HA.out
                        clear HA
                        simp only [cell_nothing.j8] at H
                        have HC39 := Aside0.mk H
                        clear H
                        go_upto_if 78 with (fail)
                        go_cut [78] (fun v78 wc => ∃ (kq : Nat) (x78_38 : Bool), v78 = .bool x78_38 ∧ Aside0 (cell_nothing.j9 kq a0 x78_38 = some r) ∧ Aside0 (kq ≤ kj36) ∧ Drawn0 w wc)
                        case first => as_aux_lemma =>
                         have H := HC39.out
                         clear HC39
                         by_cases c40 : x78_36 = true
                         ·subst c40
                          have H1 : (cell_nothing.j9 kj36 a0 true) = some r := by rw [if_pos rfl] at H; exact H
                          clear H
                          have H := H1
                          clear H1
                          have H' := Aside0.mk H
                          clear H
                          go_wp2
                          go_meet
                          case rel => exact ⟨_, (true), (by first | rfl | (simp; done) | (simp [*]; done)), H', ⟨by have := HJ1.out; have := HJ3.out; have := HJ8.out; have := HJ10.out; have := HJ17.out; have := HJ24.out; have := HJ29.out; have := HJ31.out; have := HJ36.out; first | omega | exact Nat.le_refl _⟩, by repeat (first | exact Drawn0.refl _ | apply Drawn0.step)⟩
                         ·replace c40 := Bool.eq_false_iff.mpr c40
                          subst c40
                          have H1 : (if a0 ≥ 1767 then (if a0 ≤ 1768 then (cell_nothing.j9 kj36 a0 (decide (a0 ≤ 1768))) else (if a0 ≥ 1770 then (cell_nothing.j9 kj36 a0 (decide (a0 ≤ 1773))) else (cell_nothing.j9 kj36 a0 false))) else (if a0 ≥ 1770 then (cell_nothing.j9 kj36 a0 (decide (a0 ≤ 1773))) else (cell_nothing.j9 kj36 a0 false))) = some r := by rw [if_neg (show ¬ (false = true) by decide)] at H; exact H
                          clear H
                          have H := H1
                          clear H1
                          by_cases c41 : a0 ≥ 1767
                          ·rw [if_pos c41] at H
                           have c41b0 : decide (1767 ≤ a0) = true := decide_eq_true c41
                           clear c41
                           (first | rw [c41b0] | (simp only [i64_w, i32_w]; rw [c41b0]) | skip)
                           by_cases c42 : a0 ≤ 1768
                           ·rw [if_pos c42] at H
                            have c42b0 : decide (a0 ≤ 1768) = true := decide_eq_true c42
                            clear c42
                            have H' := Aside0.mk H
                            clear H
                            go_wp2
                            go_meet
                            case rel => exact ⟨_, (decide (a0 ≤ 1768)), (by first | rfl | (simp; done) | (simp [*]; done)), H', ⟨by have := HJ1.out; have := HJ3.out; have := HJ8.out; have := HJ10.out; have := HJ17.out; have := HJ24.out; have := HJ29.out; have := HJ31.out; have := HJ36.out; first | omega | exact Nat.le_refl _⟩, by repeat (first | exact Drawn0.refl _ | apply Drawn0.step)⟩
                           ·rw [if_neg c42] at H
                            have c42b0 : decide (a0 ≤ 1768) = false := decide_eq_false c42
                            clear c42
                            by_cases c43 : a0 ≥ 1770
                            ·rw [if_pos c43] at H
                             have c43b0 : decide (1770 ≤ a0) = true := decide_eq_true c43
                             clear c43
                             have H' := Aside0.mk H
                             clear H
                             go_wp2
                             go_meet
                             case rel => exact ⟨_, (decide (a0 ≤ 1773)), (by first | rfl | (simp; done) | (simp [*]; done)), H', ⟨by have := HJ1.out; have := HJ3.out; have := HJ8.out; have := HJ10.out; have := HJ17.out; have := HJ24.out; have := HJ29.out; have := HJ31.out; have := HJ36.out; first | omega | exact Nat.le_refl _⟩, by repeat (first | exact Drawn0.refl _ | apply Drawn0.step)⟩
                            ·rw [if_neg c43] at H
                             have c43b0 : decide (1770 ≤ a0) = false := decide_eq_false c43
                             clear c43
                             have H' := Aside0.mk H
                             clear H
                             go_wp2
                             go_meet
                             case rel => exact ⟨_, (false), (by first | rfl | (simp; done) | (simp [*]; done)), H', ⟨by have := HJ1.out; have := HJ3.out; have := HJ8.out; have := HJ10.out; have := HJ17.out; have := HJ24.out; have := HJ29.out; have := HJ31.out; have := HJ36.out; first | omega | exact Nat.le_refl _⟩, by repeat (first | exact Drawn0.refl _ | apply Drawn0.step)⟩
                          ·rw [if_neg c41] at H
                           have c41b0 : decide (1767 ≤ a0) = false := decide_eq_false c41
                           clear c41
                           (first | rw [c41b0] | (simp only [i64_w, i32_w]; rw [c41b0]) | skip)
                           by_cases c44 : a0 ≥ 1770
                           ·rw [if_pos c44] at H
                            have c44b0 : decide (1770 ≤ a0) = true := decide_eq_true c44
                            clear c44
                            have H' := Aside0.mk H
                            clear H
                            go_wp2
                            go_meet
                            case rel => exact ⟨_, (decide (a0 ≤ 1773)), (by first | rfl | (simp; done) | (simp [*]; done)), H', ⟨by have := HJ1.out; have := HJ3.out; have := HJ8.out; have := HJ10.out; have := HJ17.out; have := HJ24.out; have := HJ29.out; have := HJ31.out; have := HJ36.out; first | omega | exact Nat.le_refl _⟩, by repeat (first | exact Drawn0.refl _ | apply Drawn0.step)⟩
                           ·rw [if_neg c44] at H
                            have c44b0 : decide (1770 ≤ a0) = false := decide_eq_false c44
                            clear c44
                            have H' := Aside0.mk H
                            clear H
                            go_wp2
                            go_meet
                            case rel => exact ⟨_, (false), (by first | rfl | (simp; done) | (simp [*]; done)), H', ⟨by have := HJ1.out; have := HJ3.out; have := HJ8.out; have := HJ10.out; have := HJ17.out; have := HJ24.out; have := HJ29.out; have := HJ31.out; have := HJ36.out; first | omega | exact Nat.le_refl _⟩, by repeat (first | exact Drawn0.refl _ | apply Drawn0.step)⟩
                        case rest => as_aux_lemma =>
                         clear HC39
                         try clear c1
                         try clear c2
                         try clear p2
                         try clear c3
                         try clear c3b0
                         try clear c4
                         try clear c5
                         try clear c6
                         try clear c6b0
                         try clear c7
                         try clear c7b0
                         try clear c8
                         try clear c10
                         try clear c10b0
                         try clear c12
                         try clear c13
                         try clear c13b0
                         try clear c14
                         try clear c14b0
                         try clear c15
                         try clear c15b0
                         try clear c16
                         try clear c16b0
                         try clear c17
                         try clear c19
                         try clear c19b0
                         try clear c19b1
                         try clear c20
                         try clear c20b0
                         try clear c21
                         try clear c21b0
                         try clear c22
                         try clear c22b0
                         try clear c23
                         try clear c23b0
                         try clear c24
                         try clear c26
                         try clear c26b0
                         try clear c26b1
                         try clear c27
                         try clear c27b0
                         try clear c28
                         try clear c28b0
                         try clear c29
                         try clear c31
                         try clear c31b0
                         try clear c33
                         try clear c34
                         try clear c34b0
                         try clear c34b1
                         try clear c35
                         try clear c35b0
                         try clear c36
                         try clear c38
                         try clear c38b0
                         try clear c40
                         try clear c41
                         try clear c41b0
                         try clear c42
                         try clear c42b0
                         try clear c43
                         try clear c43b0
                         try clear c44
                         try clear c44b0
                         try clear p2
                         obtain ⟨kq, x78_38, rfl, HA, HJ38, ⟨mc38, rfl⟩⟩ := hcut
                         cases kq with
                         | zero => exact absurd HA.out (by simp [cell_nothing.j9])
                         | succ kj38 =>
                          have H := HA.out
                          clear HA
                          simp only [cell_nothing.j9] at H
                          by_cases c45 : x78_38 = true
                          ·subst c45
                           have H1 : (some true) = some r := by rw [if_pos rfl] at H; exact H
                           clear H
                           have H := H1
                           clear H1
                           obtain rfl := Option.some.inj H
                           go_wp2
                           go_ret
                           exact ⟨by first | rfl | (simp; done) | (simp [*]; done), by repeat (first | exact Drawn0.refl _ | apply Drawn0.step)⟩
                          ·replace c45 := Bool.eq_false_iff.mpr c45
                           subst c45
                           have H1 : (if a0 = 3633 then (cell_nothing.j10 kj38 a0 (a0 == 3633)) else (if a0 ≥ 3636 then (if a0 ≤ 3642 then (cell_nothing.j10 kj38 a0 (decide (a0 ≤ 3642))) else (if a0 ≥ 3655 then (cell_nothing.j10 kj38 a0 (decide (a0 ≤ 3662))) else (cell_nothing.j10 kj38 a0 false))) else (if a0 ≥ 3655 then (cell_nothing.j10 kj38 a0 (decide (a0 ≤ 3662))) else (cell_nothing.j10 kj38 a0 false)))) = some r := by rw [if_neg (show ¬ (false = true) by decide)] at H; exact H
                           clear H
                           have H := H1
                           clear H1
                           have HC46 := Aside0.mk H
                           clear H
                           go_upto_if 97 with (fail)
                           go_cut [97] (fun v97 wc => ∃ (kq : Nat) (x97_45 : Bool), v97 = .bool x97_45 ∧ Aside0 (cell_nothing.j10 kq a0 x97_45 = some r) ∧ Aside0 (kq ≤ kj38) ∧ Drawn0 w wc)
                           case first => as_aux_lemma =>
                            have H := HC46.out
                            clear HC46
                            by_cases c47 : a0 = 3633
                            ·rw [if_pos c47] at H
                             have c47b0 : (a0 == 3633) = true := beq_iff_eq.mpr c47
                             have c47b1 : (a0 != 3633) = false := bne_eq_false_iff_eq.mpr c47
                             clear c47
                             (first | rw [c47b0] | (simp only [i64_w, i32_w]; rw [c47b0]) | skip)
                             have H' := Aside0.mk H
                             clear H
                             go_wp2
                             go_meet
                             case rel => exact ⟨_, ((a0 == 3633)), (by first | rfl | (simp; done) | (simp [*]; done)), H', ⟨by have := HJ1.out; have := HJ3.out; have := HJ8.out; have := HJ10.out; have := HJ17.out; have := HJ24.out; have := HJ29.out; have := HJ31.out; have := HJ36.out; have := HJ38.out; first | omega | exact Nat.le_refl _⟩, by repeat (first | exact Drawn0.refl _ | apply Drawn0.step)⟩
                            ·rw [if_neg c47] at H
                             have c47b0 : (a0 == 3633) = false := beq_eq_false_iff_ne.mpr c47
                             have c47b1 : (a0 != 3633) = true := bne_iff_ne.mpr c47
                             (first | rw [c47b0] | (simp only [i64_w, i32_w]; rw [c47b0]) | skip)
                             by_cases c48 : a0 ≥ 3636
                             ·rw [if_pos c48] at H
                              have c48b0 : decide (3636 ≤ a0) = true := decide_eq_true c48
                              clear c48
                              by_cases c49 : a0 ≤ 3642
                              ·rw [if_pos c49] at H
                               have c49b0 : decide (a0 ≤ 3642) = true := decide_eq_true c49
                               clear c49
                               have H' := Aside0.mk H
                               clear H
                               go_wp2
                               go_meet
                               case rel => exact ⟨_, (decide (a0 ≤ 3642)), (by first | rfl | (simp; done) | (simp [*]; done)), H', ⟨by have := HJ1.out; have := HJ3.out; have := HJ8.out; have := HJ10.out; have := HJ17.out; have := HJ24.out; have := HJ29.out; have := HJ31.out; have := HJ36.out; have := HJ38.out; first | omega | exact Nat.le_refl _⟩, by repeat (first | exact Drawn0.refl _ | apply Drawn0.step)⟩
                              ·rw [if_neg c49] at H
                               have c49b0 : decide (a0 ≤ 3642) = false := decide_eq_false c49
                               clear c49
                               by_cases c50 : a0 ≥ 3655
                               ·rw [if_pos c50] at H
                                have c50b0 : decide (3655 ≤ a0) = true := decide_eq_true c50
                                clear c50
                                have H' := Aside0.mk H
                                clear H
                                go_wp2
                                go_meet
                                case rel => exact ⟨_, (decide (a0 ≤ 3662)), (by first | rfl | (simp; done) | (simp [*]; done)), H', ⟨by have := HJ1.out; have := HJ3.out; have := HJ8.out; have := HJ10.out; have := HJ17.out; have := HJ24.out; have := HJ29.out; have := HJ31.out; have := HJ36.out; have := HJ38.out; first | omega | exact Nat.le_refl _⟩, by repeat (first | exact Drawn0.refl _ | apply Drawn0.step)⟩
                               ·rw [if_neg c50] at H
                                have c50b0 : decide (3655 ≤ a0) = false := decide_eq_false c50
                                clear c50
                                have H' := Aside0.mk H
                                clear H
                                go_wp2
                                go_meet
                                case rel => exact ⟨_, (false), (by first | rfl | (simp; done) | (simp [*]; done)), H', ⟨by have := HJ1.out; have := HJ3.out; have := HJ8.out; have := HJ10.out; have := HJ17.out; have := HJ24.out; have := HJ29.out; have := HJ31.out; have := HJ36.out; have := HJ38.out; first | omega | exact Nat.le_refl _⟩, by repeat (first | exact Drawn0.refl _ | apply Drawn0.step)⟩
                             ·rw [if_neg c48] at H
                              have c48b0 : decide (3636 ≤ a0) = false := decide_eq_false c48
                              clear c48
                              by_cases c51 : a0 ≥ 3655
                              ·rw [if_pos c51] at H
                               have c51b0 : decide (3655 ≤ a0) = true := decide_eq_true c51
                               clear c51
                               have H' := Aside0.mk H
                               clear H
                               go_wp2
                               go_meet
                               case rel => exact ⟨_, (decide (a0 ≤ 3662)), (by first | rfl | (simp; done) | (simp [*]; done)), H', ⟨by have := HJ1.out; have := HJ3.out; have := HJ8.out; have := HJ10.out; have := HJ17.out; have := HJ24.out; have := HJ29.out; have := HJ31.out; have := HJ36.out; have := HJ38.out; first | omega | exact Nat.le_refl _⟩, by repeat (first | exact Drawn0.refl _ | apply Drawn0.step)⟩
                              ·rw [if_neg c51] at H
                               have c51b0 : decide (3655 ≤ a0) = false := decide_eq_false c51
                               clear c51
                               have H' := Aside0.mk H
                               clear H
                               go_wp2
                               go_meet
                               case rel => exact ⟨_, (false), (by first | rfl | (simp; done) | (simp [*]; done)), H', ⟨by have := HJ1.out; have := HJ3.out; have := HJ8.out; have := HJ10.out; have := HJ17.out; have := HJ24.out; have := HJ29.out; have := HJ31.out; have := HJ36.out; have := HJ38.out; first | omega | exact Nat.le_refl _⟩, by repeat (first | exact Drawn0.refl _ | apply Drawn0.step)⟩
                           case rest => as_aux_lemma =>
                            clear HC46
                            try clear c1
                            try clear c2
                            try clear p2
                            try clear c3
                            try clear c3b0
                            try clear c4
                            try clear c5
                            try clear c6
                            try clear c6b0
                            try clear c7
                            try clear c7b0
                            try clear c8
                            try clear c10
                            try clear c10b0
                            try clear c12
                            try clear c13
                            try clear c13b0
                            try clear c14
                            try clear c14b0
                            try clear c15
                            try clear c15b0
                            try clear c16
                            try clear c16b0
                            try clear c17
                            try clear c19
                            try clear c19b0
                            try clear c19b1
                            try clear c20
                            try clear c20b0
                            try clear c21
                            try clear c21b0
                            try clear c22
                            try clear c22b0
                            try clear c23
                            try clear c23b0
                            try clear c24
                            try clear c26
                            try clear c26b0
                            try clear c26b1
                            try clear c27
                            try clear c27b0
                            try clear c28
                            try clear c28b0
                            try clear c29
                            try clear c31
                            try clear c31b0
                            try clear c33
                            try clear c34
                            try clear c34b0
                            try clear c34b1
                            try clear c35
                            try clear c35b0
                            try clear c36
                            try clear c38
                            try clear c38b0
                            try clear c40
                            try clear c41
                            try clear c41b0
                            try clear c42
                            try clear c42b0
                            try clear c43
                            try clear c43b0
                            try clear c44
                            try clear c44b0
                            try clear c45
                            try clear c47
                            try clear c47b0
                            try clear c47b1
                            try clear c48
                            try clear c48b0
                            try clear c49
                            try clear c49b0
                            try clear c50
                            try clear c50b0
                            try clear c51
                            try clear c51b0
                            try clear p2
                            obtain ⟨kq, x97_45, rfl, HA, HJ45, ⟨mc45, rfl⟩⟩ := hcut
                            cases kq with
                            | zero => exact absurd HA.out (by simp [cell_nothing.j10])
                            | succ kj45 =>
                             have H := HA.out
                             clear HA
                             simp only [cell_nothing.j10] at H
                             by_cases c52 : x97_45 = true
                             ·subst c52
                              have H1 : (some true) = some r := by rw [if_pos rfl] at H; exact H
                              clear H
                              have H := H1
                              clear H1
                              obtain rfl := Option.some.inj H
                              go_wp2
                              go_ret
                              exact ⟨by first | rfl | (simp; done) | (simp [*]; done), by repeat (first | exact Drawn0.refl _ | apply Drawn0.step)⟩
                             ·replace c52 := Bool.eq_false_iff.mpr c52
                              subst c52
                              have H1 : (if a0 ≥ 4448 then (cell_nothing.j11 kj45 a0 (decide (a0 ≤ 4607))) else (cell_nothing.j11 kj45 a0 false)) = some r := by rw [if_neg (show ¬ (false = true) by decide)] at H; exact H
                              clear H
                              have H := H1
                              clear H1
                              have HC53 := Aside0.mk H
                              clear H
                              go_upto_region 29 with (fail)
                              go_cut [112] (fun v112 wc => ∃ (kq : Nat) (x112_52 : Bool), v112 = .bool x112_52 ∧ Aside0 (cell_nothing.j11 kq a0 x112_52 = some r) ∧ Aside0 (kq ≤ kj45) ∧ Drawn0 w wc)
                              case first => as_aux_lemma =>
                               have H := HC53.out
                               clear HC53
                               by_cases c54 : a0 ≥ 4448
                               ·rw [if_pos c54] at H
                                have c54b0 : decide (4448 ≤ a0) = true := decide_eq_true c54
                                clear c54
                                (first | rw [c54b0] | (simp only [i64_w, i32_w]; rw [c54b0]) | skip)
                                have H' := Aside0.mk H
                                clear H
                                go_wp2
                                go_meet
                                case rel => exact ⟨_, (decide (a0 ≤ 4607)), (by first | rfl | (simp; done) | (simp [*]; done)), H', ⟨by have := HJ1.out; have := HJ3.out; have := HJ8.out; have := HJ10.out; have := HJ17.out; have := HJ24.out; have := HJ29.out; have := HJ31.out; have := HJ36.out; have := HJ38.out; have := HJ45.out; first | omega | exact Nat.le_refl _⟩, by repeat (first | exact Drawn0.refl _ | apply Drawn0.step)⟩
                               ·rw [if_neg c54] at H
                                have c54b0 : decide (4448 ≤ a0) = false := decide_eq_false c54
                                clear c54
                                (first | rw [c54b0] | (simp only [i64_w, i32_w]; rw [c54b0]) | skip)
                                have H' := Aside0.mk H
                                clear H
                                go_wp2
                                go_meet
                                case rel => exact ⟨_, (false), (by first | rfl | (simp; done) | (simp [*]; done)), H', ⟨by have := HJ1.out; have := HJ3.out; have := HJ8.out; have := HJ10.out; have := HJ17.out; have := HJ24.out; have := HJ29.out; have := HJ31.out; have := HJ36.out; have := HJ38.out; have := HJ45.out; first | omega | exact Nat.le_refl _⟩, by repeat (first | exact Drawn0.refl _ | apply Drawn0.step)⟩
                              case rest => as_aux_lemma =>
                               clear HC53
                               try clear c1
                               try clear c2
                               try clear p2
                               try clear c3
                               try clear c3b0
                               try clear c4
                               try clear c5
                               try clear c6
                               try clear c6b0
                               try clear c7
                               try clear c7b0
                               try clear c8
                               try clear c10
                               try clear c10b0
                               try clear c12
                               try clear c13
                               try clear c13b0
                               try clear c14
                               try clear c14b0
                               try clear c15
                               try clear c15b0
                               try clear c16
                               try clear c16b0
                               try clear c17
                               try clear c19
                               try clear c19b0
                               try clear c19b1
                               try clear c20
                               try clear c20b0
                               try clear c21
                               try clear c21b0
                               try clear c22
                               try clear c22b0
                               try clear c23
                               try clear c23b0
                               try clear c24
                               try clear c26
                               try clear c26b0
                               try clear c26b1
                               try clear c27
                               try clear c27b0
                               try clear c28
                               try clear c28b0
                               try clear c29
                               try clear c31
                               try clear c31b0
                               try clear c33
                               try clear c34
                               try clear c34b0
                               try clear c34b1
                               try clear c35
                               try clear c35b0
                               try clear c36
                               try clear c38
                               try clear c38b0
                               try clear c40
                               try clear c41
                               try clear c41b0
                               try clear c42
                               try clear c42b0
                               try clear c43
                               try clear c43b0
                               try clear c44
                               try clear c44b0
                               try clear c45
                               try clear c47
                               try clear c47b0
                               try clear c47b1
                               try clear c48
                               try clear c48b0
                               try clear c49
                               try clear c49b0
                               try clear c50
                               try clear c50b0
                               try clear c51
                               try clear c51b0
                               try clear c52
                               try clear c54
                               try clear c54b0
                               try clear p2
                               obtain ⟨kq, x112_52, rfl, HA, HJ52, ⟨mc52, rfl⟩⟩ := hcut
                               cases kq with
                               | zero => exact absurd HA.out (by simp [cell_nothing.j11])
                               | succ kj52 =>
                                have H := HA.out
                                clear HA
                                simp only [cell_nothing.j11] at H
                                have HC55 := Aside0.mk H
                                clear H
                                go_upto_if 112 with (fail)
                                go_cut [112] (fun v112 wc => ∃ (kq : Nat) (x112_54 : Bool), v112 = .bool x112_54 ∧ Aside0 (cell_nothing.j12 kq a0 x112_54 = some r) ∧ Aside0 (kq ≤ kj52) ∧ Drawn0 w wc)
                                case first => as_aux_lemma =>
                                 have H := HC55.out
                                 clear HC55
                                 by_cases c56 : x112_52 = true
                                 ·subst c56
                                  have H1 : (cell_nothing.j12 kj52 a0 true) = some r := by rw [if_pos rfl] at H; exact H
                                  clear H
                                  have H := H1
                                  clear H1
                                  have H' := Aside0.mk H
                                  clear H
                                  go_wp2
                                  go_meet
                                  case rel => exact ⟨_, (true), (by first | rfl | (simp; done) | (simp [*]; done)), H', ⟨by have := HJ1.out; have := HJ3.out; have := HJ8.out; have := HJ10.out; have := HJ17.out; have := HJ24.out; have := HJ29.out; have := HJ31.out; have := HJ36.out; have := HJ38.out; have := HJ45.out; have := HJ52.out; first | omega | exact Nat.le_refl _⟩, by repeat (first | exact Drawn0.refl _ | apply Drawn0.step)⟩
                                 ·replace c56 := Bool.eq_false_iff.mpr c56
                                  subst c56
                                  have H1 : (if a0 ≥ 6832 then (if a0 ≤ 6911 then (cell_nothing.j12 kj52 a0 (decide (a0 ≤ 6911))) else (if a0 ≥ 7616 then (cell_nothing.j12 kj52 a0 (decide (a0 ≤ 7679))) else (cell_nothing.j12 kj52 a0 false))) else (if a0 ≥ 7616 then (cell_nothing.j12 kj52 a0 (decide (a0 ≤ 7679))) else (cell_nothing.j12 kj52 a0 false))) = some r := by rw [if_neg (show ¬ (false = true) by decide)] at H; exact H
                                  clear H
                                  have H := H1
                                  clear H1
                                  by_cases c57 : a0 ≥ 6832
                                  ·rw [if_pos c57] at H
                                   have c57b0 : decide (6832 ≤ a0) = true := decide_eq_true c57
                                   clear c57
                                   (first | rw [c57b0] | (simp only [i64_w, i32_w]; rw [c57b0]) | skip)
                                   by_cases c58 : a0 ≤ 6911
                                   ·rw [if_pos c58] at H
                                    have c58b0 : decide (a0 ≤ 6911) = true := decide_eq_true c58
                                    clear c58
                                    have H' := Aside0.mk H
                                    clear H
                                    go_wp2
                                    go_meet
                                    case rel => exact ⟨_, (decide (a0 ≤ 6911)), (by first | rfl | (simp; done) | (simp [*]; done)), H', ⟨by have := HJ1.out; have := HJ3.out; have := HJ8.out; have := HJ10.out; have := HJ17.out; have := HJ24.out; have := HJ29.out; have := HJ31.out; have := HJ36.out; have := HJ38.out; have := HJ45.out; have := HJ52.out; first | omega | exact Nat.le_refl _⟩, by repeat (first | exact Drawn0.refl _ | apply Drawn0.step)⟩
                                   ·rw [if_neg c58] at H
                                    have c58b0 : decide (a0 ≤ 6911) = false := decide_eq_false c58
                                    clear c58
                                    by_cases c59 : a0 ≥ 7616
                                    ·rw [if_pos c59] at H
                                     have c59b0 : decide (7616 ≤ a0) = true := decide_eq_true c59
                                     clear c59
                                     have H' := Aside0.mk H
                                     clear H
                                     go_wp2
                                     go_meet
                                     case rel => exact ⟨_, (decide (a0 ≤ 7679)), (by first | rfl | (simp; done) | (simp [*]; done)), H', ⟨by have := HJ1.out; have := HJ3.out; have := HJ8.out; have := HJ10.out; have := HJ17.out; have := HJ24.out; have := HJ29.out; have := HJ31.out; have := HJ36.out; have := HJ38.out; have := HJ45.out; have := HJ52.out; first | omega | exact Nat.le_refl _⟩, by repeat (first | exact Drawn0.refl _ | apply Drawn0.step)⟩
                                    ·rw [if_neg c59] at H
                                     have c59b0 : decide (7616 ≤ a0) = false := decide_eq_false c59
                                     clear c59
                                     have H' := Aside0.mk H
                                     clear H
                                     go_wp2
                                     go_meet
                                     case rel => exact ⟨_, (false), (by first | rfl | (simp; done) | (simp [*]; done)), H', ⟨by have := HJ1.out; have := HJ3.out; have := HJ8.out; have := HJ10.out; have := HJ17.out; have := HJ24.out; have := HJ29.out; have := HJ31.out; have := HJ36.out; have := HJ38.out; have := HJ45.out; have := HJ52.out; first | omega | exact Nat.le_refl _⟩, by repeat (first | exact Drawn0.refl _ | apply Drawn0.step)⟩
                                  ·rw [if_neg c57] at H
                                   have c57b0 : decide (6832 ≤ a0) = false := decide_eq_false c57
                                   clear c57
                                   (first | rw [c57b0] | (simp only [i64_w, i32_w]; rw [c57b0]) | skip)
                                   by_cases c60 : a0 ≥ 7616
                                   ·rw [if_pos c60] at H
                                    have c60b0 : decide (7616 ≤ a0) = true := decide_eq_true c60
                                    clear c60
                                    have H' := Aside0.mk H
                                    clear H
                                    go_wp2
                                    go_meet
                                    case rel => exact ⟨_, (decide (a0 ≤ 7679)), (by first | rfl | (simp; done) | (simp [*]; done)), H', ⟨by have := HJ1.out; have := HJ3.out; have := HJ8.out; have := HJ10.out; have := HJ17.out; have := HJ24.out; have := HJ29.out; have := HJ31.out; have := HJ36.out; have := HJ38.out; have := HJ45.out; have := HJ52.out; first | omega | exact Nat.le_refl _⟩, by repeat (first | exact Drawn0.refl _ | apply Drawn0.step)⟩
                                   ·rw [if_neg c60] at H
                                    have c60b0 : decide (7616 ≤ a0) = false := decide_eq_false c60
                                    clear c60
                                    have H' := Aside0.mk H
                                    clear H
                                    go_wp2
                                    go_meet
                                    case rel => exact ⟨_, (false), (by first | rfl | (simp; done) | (simp [*]; done)), H', ⟨by have := HJ1.out; have := HJ3.out; have := HJ8.out; have := HJ10.out; have := HJ17.out; have := HJ24.out; have := HJ29.out; have := HJ31.out; have := HJ36.out; have := HJ38.out; have := HJ45.out; have := HJ52.out; first | omega | exact Nat.le_refl _⟩, by repeat (first | exact Drawn0.refl _ | apply Drawn0.step)⟩
                                case rest => as_aux_lemma =>
                                 clear HC55
                                 try clear c1
                                 try clear c2
                                 try clear p2
                                 try clear c3
                                 try clear c3b0
                                 try clear c4
                                 try clear c5
                                 try clear c6
                                 try clear c6b0
                                 try clear c7
                                 try clear c7b0
                                 try clear c8
                                 try clear c10
                                 try clear c10b0
                                 try clear c12
                                 try clear c13
                                 try clear c13b0
                                 try clear c14
                                 try clear c14b0
                                 try clear c15
                                 try clear c15b0
                                 try clear c16
                                 try clear c16b0
                                 try clear c17
                                 try clear c19
                                 try clear c19b0
                                 try clear c19b1
                                 try clear c20
                                 try clear c20b0
                                 try clear c21
                                 try clear c21b0
                                 try clear c22
                                 try clear c22b0
                                 try clear c23
                                 try clear c23b0
                                 try clear c24
                                 try clear c26
                                 try clear c26b0
                                 try clear c26b1
                                 try clear c27
                                 try clear c27b0
                                 try clear c28
                                 try clear c28b0
                                 try clear c29
                                 try clear c31
                                 try clear c31b0
                                 try clear c33
                                 try clear c34
                                 try clear c34b0
                                 try clear c34b1
                                 try clear c35
                                 try clear c35b0
                                 try clear c36
                                 try clear c38
                                 try clear c38b0
                                 try clear c40
                                 try clear c41
                                 try clear c41b0
                                 try clear c42
                                 try clear c42b0
                                 try clear c43
                                 try clear c43b0
                                 try clear c44
                                 try clear c44b0
                                 try clear c45
                                 try clear c47
                                 try clear c47b0
                                 try clear c47b1
                                 try clear c48
                                 try clear c48b0
                                 try clear c49
                                 try clear c49b0
                                 try clear c50
                                 try clear c50b0
                                 try clear c51
                                 try clear c51b0
                                 try clear c52
                                 try clear c54
                                 try clear c54b0
                                 try clear c56
                                 try clear c57
                                 try clear c57b0
                                 try clear c58
                                 try clear c58b0
                                 try clear c59
                                 try clear c59b0
                                 try clear c60
                                 try clear c60b0
                                 try clear p2
                                 obtain ⟨kq, x112_54, rfl, HA, HJ54, ⟨mc54, rfl⟩⟩ := hcut
                                 cases kq with
                                 | zero => exact absurd HA.out (by simp [cell_nothing.j12])
                                 | succ kj54 =>
                                  have H := HA.out
                                  clear HA
                                  simp only [cell_nothing.j12] at H
                                  by_cases c61 : x112_54 = true
                                  ·subst c61
                                   have H1 : (some true) = some r := by rw [if_pos rfl] at H; exact H
                                   clear H
                                   have H := H1
                                   clear H1
                                   obtain rfl := Option.some.inj H
                                   go_wp2
                                   go_ret
                                   exact ⟨by first | rfl | (simp; done) | (simp [*]; done), by repeat (first | exact Drawn0.refl _ | apply Drawn0.step)⟩
                                  ·replace c61 := Bool.eq_false_iff.mpr c61
                                   subst c61
                                   have H1 : (if a0 ≥ 8203 then (cell_nothing.j13 kj54 a0 (decide (a0 ≤ 8207))) else (cell_nothing.j13 kj54 a0 false)) = some r := by rw [if_neg (show ¬ (false = true) by decide)] at H; exact H
                                   clear H
                                   have H := H1
                                   clear H1
                                   have HC62 := Aside0.mk H
                                   clear H
                                   go_upto_region 33 with (fail)
                                   go_cut [131] (fun v131 wc => ∃ (kq : Nat) (x131_61 : Bool), v131 = .bool x131_61 ∧ Aside0 (cell_nothing.j13 kq a0 x131_61 = some r) ∧ Aside0 (kq ≤ kj54) ∧ Drawn0 w wc)
                                   case first => as_aux_lemma =>
                                    have H := HC62.out
                                    clear HC62
                                    by_cases c63 : a0 ≥ 8203
                                    ·rw [if_pos c63] at H
                                     have c63b0 : decide (8203 ≤ a0) = true := decide_eq_true c63
                                     clear c63
                                     (first | rw [c63b0] | (simp only [i64_w, i32_w]; rw [c63b0]) | skip)
                                     have H' := Aside0.mk H
                                     clear H
                                     go_wp2
                                     go_meet
                                     case rel => exact ⟨_, (decide (a0 ≤ 8207)), (by first | rfl | (simp; done) | (simp [*]; done)), H', ⟨by have := HJ1.out; have := HJ3.out; have := HJ8.out; have := HJ10.out; have := HJ17.out; have := HJ24.out; have := HJ29.out; have := HJ31.out; have := HJ36.out; have := HJ38.out; have := HJ45.out; have := HJ52.out; have := HJ54.out; first | omega | exact Nat.le_refl _⟩, by repeat (first | exact Drawn0.refl _ | apply Drawn0.step)⟩
                                    ·rw [if_neg c63] at H
                                     have c63b0 : decide (8203 ≤ a0) = false := decide_eq_false c63
                                     clear c63
                                     (first | rw [c63b0] | (simp only [i64_w, i32_w]; rw [c63b0]) | skip)
                                     have H' := Aside0.mk H
                                     clear H
                                     go_wp2
                                     go_meet
                                     case rel => exact ⟨_, (false), (by first | rfl | (simp; done) | (simp [*]; done)), H', ⟨by have := HJ1.out; have := HJ3.out; have := HJ8.out; have := HJ10.out; have := HJ17.out; have := HJ24.out; have := HJ29.out; have := HJ31.out; have := HJ36.out; have := HJ38.out; have := HJ45.out; have := HJ52.out; have := HJ54.out; first | omega | exact Nat.le_refl _⟩, by repeat (first | exact Drawn0.refl _ | apply Drawn0.step)⟩
                                   case rest => as_aux_lemma =>
                                    clear HC62
                                    try clear c1
                                    try clear c2
                                    try clear p2
                                    try clear c3
                                    try clear c3b0
                                    try clear c4
                                    try clear c5
                                    try clear c6
                                    try clear c6b0
                                    try clear c7
                                    try clear c7b0
                                    try clear c8
                                    try clear c10
                                    try clear c10b0
                                    try clear c12
                                    try clear c13
                                    try clear c13b0
                                    try clear c14
                                    try clear c14b0
                                    try clear c15
                                    try clear c15b0
                                    try clear c16
                                    try clear c16b0
                                    try clear c17
                                    try clear c19
                                    try clear c19b0
                                    try clear c19b1
                                    try clear c20
                                    try clear c20b0
                                    try clear c21
                                    try clear c21b0
                                    try clear c22
                                    try clear c22b0
                                    try clear c23
                                    try clear c23b0
                                    try clear c24
                                    try clear c26
                                    try clear c26b0
                                    try clear c26b1
                                    try clear c27
                                    try clear c27b0
                                    try clear c28
                                    try clear c28b0
                                    try clear c29
                                    try clear c31
                                    try clear c31b0
                                    try clear c33
                                    try clear c34
                                    try clear c34b0
                                    try clear c34b1
                                    try clear c35
                                    try clear c35b0
                                    try clear c36
                                    try clear c38
                                    try clear c38b0
                                    try clear c40
                                    try clear c41
                                    try clear c41b0
                                    try clear c42
                                    try clear c42b0
                                    try clear c43
                                    try clear c43b0
                                    try clear c44
                                    try clear c44b0
                                    try clear c45
                                    try clear c47
                                    try clear c47b0
                                    try clear c47b1
                                    try clear c48
                                    try clear c48b0
                                    try clear c49
                                    try clear c49b0
                                    try clear c50
                                    try clear c50b0
                                    try clear c51
                                    try clear c51b0
                                    try clear c52
                                    try clear c54
                                    try clear c54b0
                                    try clear c56
                                    try clear c57
                                    try clear c57b0
                                    try clear c58
                                    try clear c58b0
                                    try clear c59
                                    try clear c59b0
                                    try clear c60
                                    try clear c60b0
                                    try clear c61
                                    try clear c63
                                    try clear c63b0
                                    try clear p2
                                    obtain ⟨kq, x131_61, rfl, HA, HJ61, ⟨mc61, rfl⟩⟩ := hcut
                                    cases kq with
                                    | zero => exact absurd HA.out (by simp [cell_nothing.j13])
                                    | succ kj61 =>
                                     have H := HA.out
                                     clear HA
                                     simp only [cell_nothing.j13] at H
                                     have HC64 := Aside0.mk H
                                     clear H
                                     go_upto_if 131 with (fail)
                                     go_cut [131] (fun v131 wc => ∃ (kq : Nat) (x131_63 : Bool), v131 = .bool x131_63 ∧ Aside0 (cell_nothing.j14 kq a0 x131_63 = some r) ∧ Aside0 (kq ≤ kj61) ∧ Drawn0 w wc)
                                     case first => as_aux_lemma =>
                                      have H := HC64.out
                                      clear HC64
                                      by_cases c65 : x131_61 = true
                                      ·subst c65
                                       have H1 : (cell_nothing.j14 kj61 a0 true) = some r := by rw [if_pos rfl] at H; exact H
                                       clear H
                                       have H := H1
                                       clear H1
                                       have H' := Aside0.mk H
                                       clear H
                                       go_wp2
                                       go_meet
                                       case rel => exact ⟨_, (true), (by first | rfl | (simp; done) | (simp [*]; done)), H', ⟨by have := HJ1.out; have := HJ3.out; have := HJ8.out; have := HJ10.out; have := HJ17.out; have := HJ24.out; have := HJ29.out; have := HJ31.out; have := HJ36.out; have := HJ38.out; have := HJ45.out; have := HJ52.out; have := HJ54.out; have := HJ61.out; first | omega | exact Nat.le_refl _⟩, by repeat (first | exact Drawn0.refl _ | apply Drawn0.step)⟩
                                      ·replace c65 := Bool.eq_false_iff.mpr c65
                                       subst c65
                                       have H1 : (if a0 ≥ 8232 then (if a0 ≤ 8238 then (cell_nothing.j14 kj61 a0 (decide (a0 ≤ 8238))) else (if a0 ≥ 8288 then (cell_nothing.j14 kj61 a0 (decide (a0 ≤ 8303))) else (cell_nothing.j14 kj61 a0 false))) else (if a0 ≥ 8288 then (cell_nothing.j14 kj61 a0 (decide (a0 ≤ 8303))) else (cell_nothing.j14 kj61 a0 false))) = some r := by rw [if_neg (show ¬ (false = true) by decide)] at H; exact H
                                       clear H
                                       have H := H1
                                       clear H1
                                       by_cases c66 : a0 ≥ 8232
                                       ·rw [if_pos c66] at H
                                        have c66b0 : decide (8232 ≤ a0) = true := decide_eq_true c66
                                        clear c66
                                        (first | rw [c66b0] | (simp only [i64_w, i32_w]; rw [c66b0]) | skip)
                                        by_cases c67 : a0 ≤ 8238
                                        ·rw [if_pos c67] at H
                                         have c67b0 : decide (a0 ≤ 8238) = true := decide_eq_true c67
                                         clear c67
                                         have H' := Aside0.mk H
                                         clear H
                                         go_wp2
                                         go_meet
                                         case rel => exact ⟨_, (decide (a0 ≤ 8238)), (by first | rfl | (simp; done) | (simp [*]; done)), H', ⟨by have := HJ1.out; have := HJ3.out; have := HJ8.out; have := HJ10.out; have := HJ17.out; have := HJ24.out; have := HJ29.out; have := HJ31.out; have := HJ36.out; have := HJ38.out; have := HJ45.out; have := HJ52.out; have := HJ54.out; have := HJ61.out; first | omega | exact Nat.le_refl _⟩, by repeat (first | exact Drawn0.refl _ | apply Drawn0.step)⟩
                                        ·rw [if_neg c67] at H
                                         have c67b0 : decide (a0 ≤ 8238) = false := decide_eq_false c67
                                         clear c67
                                         by_cases c68 : a0 ≥ 8288
                                         ·rw [if_pos c68] at H
                                          have c68b0 : decide (8288 ≤ a0) = true := decide_eq_true c68
                                          clear c68
                                          have H' := Aside0.mk H
                                          clear H
                                          go_wp2
                                          go_meet
                                          case rel => exact ⟨_, (decide (a0 ≤ 8303)), (by first | rfl | (simp; done) | (simp [*]; done)), H', ⟨by have := HJ1.out; have := HJ3.out; have := HJ8.out; have := HJ10.out; have := HJ17.out; have := HJ24.out; have := HJ29.out; have := HJ31.out; have := HJ36.out; have := HJ38.out; have := HJ45.out; have := HJ52.out; have := HJ54.out; have := HJ61.out; first | omega | exact Nat.le_refl _⟩, by repeat (first | exact Drawn0.refl _ | apply Drawn0.step)⟩
                                         ·rw [if_neg c68] at H
                                          have c68b0 : decide (8288 ≤ a0) = false := decide_eq_false c68
                                          clear c68
                                          have H' := Aside0.mk H
                                          clear H
                                          go_wp2
                                          go_meet
                                          case rel => exact ⟨_, (false), (by first | rfl | (simp; done) | (simp [*]; done)), H', ⟨by have := HJ1.out; have := HJ3.out; have := HJ8.out; have := HJ10.out; have := HJ17.out; have := HJ24.out; have := HJ29.out; have := HJ31.out; have := HJ36.out; have := HJ38.out; have := HJ45.out; have := HJ52.out; have := HJ54.out; have := HJ61.out; first | omega | exact Nat.le_refl _⟩, by repeat (first | exact Drawn0.refl _ | apply Drawn0.step)⟩
                                       ·rw [if_neg c66] at H
                                        have c66b0 : decide (8232 ≤ a0) = false := decide_eq_false c66
                                        clear c66
                                        (first | rw [c66b0] | (simp only [i64_w, i32_w]; rw [c66b0]) | skip)
                                        by_cases c69 : a0 ≥ 8288
                                        ·rw [if_pos c69] at H
                                         have c69b0 : decide (8288 ≤ a0) = true := decide_eq_true c69
                                         clear c69
                                         have H' := Aside0.mk H
                                         clear H
                                         go_wp2
                                         go_meet
                                         case rel => exact ⟨_, (decide (a0 ≤ 8303)), (by first | rfl | (simp; done) | (simp [*]; done)), H', ⟨by have := HJ1.out; have := HJ3.out; have := HJ8.out; have := HJ10.out; have := HJ17.out; have := HJ24.out; have := HJ29.out; have := HJ31.out; have := HJ36.out; have := HJ38.out; have := HJ45.out; have := HJ52.out; have := HJ54.out; have := HJ61.out; first | omega | exact Nat.le_refl _⟩, by repeat (first | exact Drawn0.refl _ | apply Drawn0.step)⟩
                                        ·rw [if_neg c69] at H
                                         have c69b0 : decide (8288 ≤ a0) = false := decide_eq_false c69
                                         clear c69
                                         have H' := Aside0.mk H
                                         clear H
                                         go_wp2
                                         go_meet
                                         case rel => exact ⟨_, (false), (by first | rfl | (simp; done) | (simp [*]; done)), H', ⟨by have := HJ1.out; have := HJ3.out; have := HJ8.out; have := HJ10.out; have := HJ17.out; have := HJ24.out; have := HJ29.out; have := HJ31.out; have := HJ36.out; have := HJ38.out; have := HJ45.out; have := HJ52.out; have := HJ54.out; have := HJ61.out; first | omega | exact Nat.le_refl _⟩, by repeat (first | exact Drawn0.refl _ | apply Drawn0.step)⟩
                                     case rest => as_aux_lemma =>
                                      clear HC64
                                      try clear c1
                                      try clear c2
                                      try clear p2
                                      try clear c3
                                      try clear c3b0
                                      try clear c4
                                      try clear c5
                                      try clear c6
                                      try clear c6b0
                                      try clear c7
                                      try clear c7b0
                                      try clear c8
                                      try clear c10
                                      try clear c10b0
                                      try clear c12
                                      try clear c13
                                      try clear c13b0
                                      try clear c14
                                      try clear c14b0
                                      try clear c15
                                      try clear c15b0
                                      try clear c16
                                      try clear c16b0
                                      try clear c17
                                      try clear c19
                                      try clear c19b0
                                      try clear c19b1
                                      try clear c20
                                      try clear c20b0
                                      try clear c21
                                      try clear c21b0
                                      try clear c22
                                      try clear c22b0
                                      try clear c23
                                      try clear c23b0
                                      try clear c24
                                      try clear c26
                                      try clear c26b0
                                      try clear c26b1
                                      try clear c27
                                      try clear c27b0
                                      try clear c28
                                      try clear c28b0
                                      try clear c29
                                      try clear c31
                                      try clear c31b0
                                      try clear c33
                                      try clear c34
                                      try clear c34b0
                                      try clear c34b1
                                      try clear c35
                                      try clear c35b0
                                      try clear c36
                                      try clear c38
                                      try clear c38b0
                                      try clear c40
                                      try clear c41
                                      try clear c41b0
                                      try clear c42
                                      try clear c42b0
                                      try clear c43
                                      try clear c43b0
                                      try clear c44
                                      try clear c44b0
                                      try clear c45
                                      try clear c47
                                      try clear c47b0
                                      try clear c47b1
                                      try clear c48
                                      try clear c48b0
                                      try clear c49
                                      try clear c49b0
                                      try clear c50
                                      try clear c50b0
                                      try clear c51
                                      try clear c51b0
                                      try clear c52
                                      try clear c54
                                      try clear c54b0
                                      try clear c56
                                      try clear c57
                                      try clear c57b0
                                      try clear c58
                                      try clear c58b0
                                      try clear c59
                                      try clear c59b0
                                      try clear c60
                                      try clear c60b0
                                      try clear c61
                                      try clear c63
                                      try clear c63b0
                                      try clear c65
                                      try clear c66
                                      try clear c66b0
                                      try clear c67
                                      try clear c67b0
                                      try clear c68
                                      try clear c68b0
                                      try clear c69
                                      try clear c69b0
                                      try clear p2
                                      obtain ⟨kq, x131_63, rfl, HA, HJ63, ⟨mc63, rfl⟩⟩ := hcut
                                      cases kq with
                                      | zero => exact absurd HA.out (by simp [cell_nothing.j14])
                                      | succ kj63 =>
                                       have H := HA.out
                                       clear HA
                                       simp only [cell_nothing.j14] at H
                                       by_cases c70 : x131_63 = true
                                       ·subst c70
                                        have H1 : (some true) = some r := by rw [if_pos rfl] at H; exact H
                                        clear H
                                        have H := H1
                                        clear H1
                                        obtain rfl := Option.some.inj H
                                        go_wp2
                                        go_ret
                                        exact ⟨by first | rfl | (simp; done) | (simp [*]; done), by repeat (first | exact Drawn0.refl _ | apply Drawn0.step)⟩
                                       ·replace c70 := Bool.eq_false_iff.mpr c70
                                        subst c70
                                        have H1 : (if a0 ≥ 8400 then (cell_nothing.j15 kj63 a0 (decide (a0 ≤ 8447))) else (cell_nothing.j15 kj63 a0 false)) = some r := by rw [if_neg (show ¬ (false = true) by decide)] at H; exact H
                                        clear H
                                        have H := H1
                                        clear H1
                                        have HC71 := Aside0.mk H
                                        clear H
                                        go_upto_region 37 with (fail)
                                        go_cut [150] (fun v150 wc => ∃ (kq : Nat) (x150_70 : Bool), v150 = .bool x150_70 ∧ Aside0 (cell_nothing.j15 kq a0 x150_70 = some r) ∧ Aside0 (kq ≤ kj63) ∧ Drawn0 w wc)
                                        case first => as_aux_lemma =>
                                         have H := HC71.out
                                         clear HC71
                                         by_cases c72 : a0 ≥ 8400
                                         ·rw [if_pos c72] at H
                                          have c72b0 : decide (8400 ≤ a0) = true := decide_eq_true c72
                                          clear c72
                                          (first | rw [c72b0] | (simp only [i64_w, i32_w]; rw [c72b0]) | skip)
                                          have H' := Aside0.mk H
                                          clear H
                                          go_wp2
                                          go_meet
                                          case rel => exact ⟨_, (decide (a0 ≤ 8447)), (by first | rfl | (simp; done) | (simp [*]; done)), H', ⟨by have := HJ1.out; have := HJ3.out; have := HJ8.out; have := HJ10.out; have := HJ17.out; have := HJ24.out; have := HJ29.out; have := HJ31.out; have := HJ36.out; have := HJ38.out; have := HJ45.out; have := HJ52.out; have := HJ54.out; have := HJ61.out; have := HJ63.out; first | omega | exact Nat.le_refl _⟩, by repeat (first | exact Drawn0.refl _ | apply Drawn0.step)⟩
                                         ·rw [if_neg c72] at H
                                          have c72b0 : decide (8400 ≤ a0) = false := decide_eq_false c72
                                          clear c72
                                          (first | rw [c72b0] | (simp only [i64_w, i32_w]; rw [c72b0]) | skip)
                                          have H' := Aside0.mk H
                                          clear H
                                          go_wp2
                                          go_meet
                                          case rel => exact ⟨_, (false), (by first | rfl | (simp; done) | (simp [*]; done)), H', ⟨by have := HJ1.out; have := HJ3.out; have := HJ8.out; have := HJ10.out; have := HJ17.out; have := HJ24.out; have := HJ29.out; have := HJ31.out; have := HJ36.out; have := HJ38.out; have := HJ45.out; have := HJ52.out; have := HJ54.out; have := HJ61.out; have := HJ63.out; first | omega | exact Nat.le_refl _⟩, by repeat (first | exact Drawn0.refl _ | apply Drawn0.step)⟩
                                        case rest => as_aux_lemma =>
                                         clear HC71
                                         try clear c1
                                         try clear c2
                                         try clear p2
                                         try clear c3
                                         try clear c3b0
                                         try clear c4
                                         try clear c5
                                         try clear c6
                                         try clear c6b0
                                         try clear c7
                                         try clear c7b0
                                         try clear c8
                                         try clear c10
                                         try clear c10b0
                                         try clear c12
                                         try clear c13
                                         try clear c13b0
                                         try clear c14
                                         try clear c14b0
                                         try clear c15
                                         try clear c15b0
                                         try clear c16
                                         try clear c16b0
                                         try clear c17
                                         try clear c19
                                         try clear c19b0
                                         try clear c19b1
                                         try clear c20
                                         try clear c20b0
                                         try clear c21
                                         try clear c21b0
                                         try clear c22
                                         try clear c22b0
                                         try clear c23
                                         try clear c23b0
                                         try clear c24
                                         try clear c26
                                         try clear c26b0
                                         try clear c26b1
                                         try clear c27
                                         try clear c27b0
                                         try clear c28
                                         try clear c28b0
                                         try clear c29
                                         try clear c31
                                         try clear c31b0
                                         try clear c33
                                         try clear c34
                                         try clear c34b0
                                         try clear c34b1
                                         try clear c35
                                         try clear c35b0
                                         try clear c36
                                         try clear c38
                                         try clear c38b0
                                         try clear c40
                                         try clear c41
                                         try clear c41b0
                                         try clear c42
                                         try clear c42b0
                                         try clear c43
                                         try clear c43b0
                                         try clear c44
                                         try clear c44b0
                                         try clear c45
                                         try clear c47
                                         try clear c47b0
                                         try clear c47b1
                                         try clear c48
                                         try clear c48b0
                                         try clear c49
                                         try clear c49b0
                                         try clear c50
                                         try clear c50b0
                                         try clear c51
                                         try clear c51b0
                                         try clear c52
                                         try clear c54
                                         try clear c54b0
                                         try clear c56
                                         try clear c57
                                         try clear c57b0
                                         try clear c58
                                         try clear c58b0
                                         try clear c59
                                         try clear c59b0
                                         try clear c60
                                         try clear c60b0
                                         try clear c61
                                         try clear c63
                                         try clear c63b0
                                         try clear c65
                                         try clear c66
                                         try clear c66b0
                                         try clear c67
                                         try clear c67b0
                                         try clear c68
                                         try clear c68b0
                                         try clear c69
                                         try clear c69b0
                                         try clear c70
                                         try clear c72
                                         try clear c72b0
                                         try clear p2
                                         obtain ⟨kq, x150_70, rfl, HA, HJ70, ⟨mc70, rfl⟩⟩ := hcut
                                         cases kq with
                                         | zero => exact absurd HA.out (by simp [cell_nothing.j15])
                                         | succ kj70 =>
                                          have H := HA.out
                                          clear HA
                                          simp only [cell_nothing.j15] at H
                                          have HC73 := Aside0.mk H
                                          clear H
                                          go_upto_if 150 with (fail)
                                          go_cut [150] (fun v150 wc => ∃ (kq : Nat) (x150_72 : Bool), v150 = .bool x150_72 ∧ Aside0 (cell_nothing.j16 kq a0 x150_72 = some r) ∧ Aside0 (kq ≤ kj70) ∧ Drawn0 w wc)
                                          case first => as_aux_lemma =>
                                           have H := HC73.out
                                           clear HC73
                                           by_cases c74 : x150_70 = true
                                           ·subst c74
                                            have H1 : (cell_nothing.j16 kj70 a0 true) = some r := by rw [if_pos rfl] at H; exact H
                                            clear H
                                            have H := H1
                                            clear H1
                                            have H' := Aside0.mk H
                                            clear H
                                            go_wp2
                                            go_meet
                                            case rel => exact ⟨_, (true), (by first | rfl | (simp; done) | (simp [*]; done)), H', ⟨by have := HJ1.out; have := HJ3.out; have := HJ8.out; have := HJ10.out; have := HJ17.out; have := HJ24.out; have := HJ29.out; have := HJ31.out; have := HJ36.out; have := HJ38.out; have := HJ45.out; have := HJ52.out; have := HJ54.out; have := HJ61.out; have := HJ63.out; have := HJ70.out; first | omega | exact Nat.le_refl _⟩, by repeat (first | exact Drawn0.refl _ | apply Drawn0.step)⟩
                                           ·replace c74 := Bool.eq_false_iff.mpr c74
                                            subst c74
                                            have H1 : (if a0 ≥ 12441 then (if a0 ≤ 12442 then (cell_nothing.j16 kj70 a0 (decide (a0 ≤ 12442))) else (if a0 ≥ 65024 then (cell_nothing.j16 kj70 a0 (decide (a0 ≤ 65039))) else (cell_nothing.j16 kj70 a0 false))) else (if a0 ≥ 65024 then (cell_nothing.j16 kj70 a0 (decide (a0 ≤ 65039))) else (cell_nothing.j16 kj70 a0 false))) = some r := by rw [if_neg (show ¬ (false = true) by decide)] at H; exact H
                                            clear H
                                            have H := H1
                                            clear H1
                                            by_cases c75 : a0 ≥ 12441
                                            ·rw [if_pos c75] at H
                                             have c75b0 : decide (12441 ≤ a0) = true := decide_eq_true c75
                                             clear c75
                                             (first | rw [c75b0] | (simp only [i64_w, i32_w]; rw [c75b0]) | skip)
                                             by_cases c76 : a0 ≤ 12442
                                             ·rw [if_pos c76] at H
                                              have c76b0 : decide (a0 ≤ 12442) = true := decide_eq_true c76
                                              clear c76
                                              have H' := Aside0.mk H
                                              clear H
                                              go_wp2
                                              go_meet
                                              case rel => exact ⟨_, (decide (a0 ≤ 12442)), (by first | rfl | (simp; done) | (simp [*]; done)), H', ⟨by have := HJ1.out; have := HJ3.out; have := HJ8.out; have := HJ10.out; have := HJ17.out; have := HJ24.out; have := HJ29.out; have := HJ31.out; have := HJ36.out; have := HJ38.out; have := HJ45.out; have := HJ52.out; have := HJ54.out; have := HJ61.out; have := HJ63.out; have := HJ70.out; first | omega | exact Nat.le_refl _⟩, by repeat (first | exact Drawn0.refl _ | apply Drawn0.step)⟩
                                             ·rw [if_neg c76] at H
                                              have c76b0 : decide (a0 ≤ 12442) = false := decide_eq_false c76
                                              clear c76
                                              by_cases c77 : a0 ≥ 65024
                                              ·rw [if_pos c77] at H
                                               have c77b0 : decide (65024 ≤ a0) = true := decide_eq_true c77
                                               clear c77
                                               have H' := Aside0.mk H
                                               clear H
                                               go_wp2
                                               go_meet
                                               case rel => exact ⟨_, (decide (a0 ≤ 65039)), (by first | rfl | (simp; done) | (simp [*]; done)), H', ⟨by have := HJ1.out; have := HJ3.out; have := HJ8.out; have := HJ10.out; have := HJ17.out; have := HJ24.out; have := HJ29.out; have := HJ31.out; have := HJ36.out; have := HJ38.out; have := HJ45.out; have := HJ52.out; have := HJ54.out; have := HJ61.out; have := HJ63.out; have := HJ70.out; first | omega | exact Nat.le_refl _⟩, by repeat (first | exact Drawn0.refl _ | apply Drawn0.step)⟩
                                              ·rw [if_neg c77] at H
                                               have c77b0 : decide (65024 ≤ a0) = false := decide_eq_false c77
                                               clear c77
                                               have H' := Aside0.mk H
                                               clear H
                                               go_wp2
                                               go_meet
                                               case rel => exact ⟨_, (false), (by first | rfl | (simp; done) | (simp [*]; done)), H', ⟨by have := HJ1.out; have := HJ3.out; have := HJ8.out; have := HJ10.out; have := HJ17.out; have := HJ24.out; have := HJ29.out; have := HJ31.out; have := HJ36.out; have := HJ38.out; have := HJ45.out; have := HJ52.out; have := HJ54.out; have := HJ61.out; have := HJ63.out; have := HJ70.out; first | omega | exact Nat.le_refl _⟩, by repeat (first | exact Drawn0.refl _ | apply Drawn0.step)⟩
                                            ·rw [if_neg c75] at H
                                             have c75b0 : decide (12441 ≤ a0) = false := decide_eq_false c75
                                             clear c75
                                             (first | rw [c75b0] | (simp only [i64_w, i32_w]; rw [c75b0]) | skip)
                                             by_cases c78 : a0 ≥ 65024
                                             ·rw [if_pos c78] at H
                                              have c78b0 : decide (65024 ≤ a0) = true := decide_eq_true c78
                                              clear c78
                                              have H' := Aside0.mk H
                                              clear H
                                              go_wp2
                                              go_meet
                                              case rel => exact ⟨_, (decide (a0 ≤ 65039)), (by first | rfl | (simp; done) | (simp [*]; done)), H', ⟨by have := HJ1.out; have := HJ3.out; have := HJ8.out; have := HJ10.out; have := HJ17.out; have := HJ24.out; have := HJ29.out; have := HJ31.out; have := HJ36.out; have := HJ38.out; have := HJ45.out; have := HJ52.out; have := HJ54.out; have := HJ61.out; have := HJ63.out; have := HJ70.out; first | omega | exact Nat.le_refl _⟩, by repeat (first | exact Drawn0.refl _ | apply Drawn0.step)⟩
                                             ·rw [if_neg c78] at H
                                              have c78b0 : decide (65024 ≤ a0) = false := decide_eq_false c78
                                              clear c78
                                              have H' := Aside0.mk H
                                              clear H
                                              go_wp2
                                              go_meet
                                              case rel => exact ⟨_, (false), (by first | rfl | (simp; done) | (simp [*]; done)), H', ⟨by have := HJ1.out; have := HJ3.out; have := HJ8.out; have := HJ10.out; have := HJ17.out; have := HJ24.out; have := HJ29.out; have := HJ31.out; have := HJ36.out; have := HJ38.out; have := HJ45.out; have := HJ52.out; have := HJ54.out; have := HJ61.out; have := HJ63.out; have := HJ70.out; first | omega | exact Nat.le_refl _⟩, by repeat (first | exact Drawn0.refl _ | apply Drawn0.step)⟩
                                          case rest => as_aux_lemma =>
                                           clear HC73
                                           try clear c1
                                           try clear c2
                                           try clear p2
                                           try clear c3
                                           try clear c3b0
                                           try clear c4
                                           try clear c5
                                           try clear c6
                                           try clear c6b0
                                           try clear c7
                                           try clear c7b0
                                           try clear c8
                                           try clear c10
                                           try clear c10b0
                                           try clear c12
                                           try clear c13
                                           try clear c13b0
                                           try clear c14
                                           try clear c14b0
                                           try clear c15
                                           try clear c15b0
                                           try clear c16
                                           try clear c16b0
                                           try clear c17
                                           try clear c19
                                           try clear c19b0
                                           try clear c19b1
                                           try clear c20
                                           try clear c20b0
                                           try clear c21
                                           try clear c21b0
                                           try clear c22
                                           try clear c22b0
                                           try clear c23
                                           try clear c23b0
                                           try clear c24
                                           try clear c26
                                           try clear c26b0
                                           try clear c26b1
                                           try clear c27
                                           try clear c27b0
                                           try clear c28
                                           try clear c28b0
                                           try clear c29
                                           try clear c31
                                           try clear c31b0
                                           try clear c33
                                           try clear c34
                                           try clear c34b0
                                           try clear c34b1
                                           try clear c35
                                           try clear c35b0
                                           try clear c36
                                           try clear c38
                                           try clear c38b0
                                           try clear c40
                                           try clear c41
                                           try clear c41b0
                                           try clear c42
                                           try clear c42b0
                                           try clear c43
                                           try clear c43b0
                                           try clear c44
                                           try clear c44b0
                                           try clear c45
                                           try clear c47
                                           try clear c47b0
                                           try clear c47b1
                                           try clear c48
                                           try clear c48b0
                                           try clear c49
                                           try clear c49b0
                                           try clear c50
                                           try clear c50b0
                                           try clear c51
                                           try clear c51b0
                                           try clear c52
                                           try clear c54
                                           try clear c54b0
                                           try clear c56
                                           try clear c57
                                           try clear c57b0
                                           try clear c58
                                           try clear c58b0
                                           try clear c59
                                           try clear c59b0
                                           try clear c60
                                           try clear c60b0
                                           try clear c61
                                           try clear c63
                                           try clear c63b0
                                           try clear c65
                                           try clear c66
                                           try clear c66b0
                                           try clear c67
                                           try clear c67b0
                                           try clear c68
                                           try clear c68b0
                                           try clear c69
                                           try clear c69b0
                                           try clear c70
                                           try clear c72
                                           try clear c72b0
                                           try clear c74
                                           try clear c75
                                           try clear c75b0
                                           try clear c76
                                           try clear c76b0
                                           try clear c77
                                           try clear c77b0
                                           try clear c78
                                           try clear c78b0
                                           try clear p2
                                           obtain ⟨kq, x150_72, rfl, HA, HJ72, ⟨mc72, rfl⟩⟩ := hcut
                                           cases kq with
                                           | zero => exact absurd HA.out (by simp [cell_nothing.j16])
                                           | succ kj72 =>
                                            have H := HA.out
                                            clear HA
                                            simp only [cell_nothing.j16] at H
                                            by_cases c79 : x150_72 = true
                                            ·subst c79
                                             have H1 : (some true) = some r := by rw [if_pos rfl] at H; exact H
                                             clear H
                                             have H := H1
                                             clear H1
                                             obtain rfl := Option.some.inj H
                                             go_wp2
                                             go_ret
                                             exact ⟨by first | rfl | (simp; done) | (simp [*]; done), by repeat (first | exact Drawn0.refl _ | apply Drawn0.step)⟩
                                            ·replace c79 := Bool.eq_false_iff.mpr c79
                                             subst c79
                                             have H1 : (if a0 ≥ 65056 then (cell_nothing.j17 kj72 a0 (decide (a0 ≤ 65071))) else (cell_nothing.j17 kj72 a0 false)) = some r := by rw [if_neg (show ¬ (false = true) by decide)] at H; exact H
                                             clear H
                                             have H := H1
                                             clear H1
                                             have HC80 := Aside0.mk H
                                             clear H
                                             go_upto_region 41 with (fail)
                                             go_cut [169] (fun v169 wc => ∃ (kq : Nat) (x169_79 : Bool), v169 = .bool x169_79 ∧ Aside0 (cell_nothing.j17 kq a0 x169_79 = some r) ∧ Aside0 (kq ≤ kj72) ∧ Drawn0 w wc)
                                             case first => as_aux_lemma =>
                                              have H := HC80.out
                                              clear HC80
                                              by_cases c81 : a0 ≥ 65056
                                              ·rw [if_pos c81] at H
                                               have c81b0 : decide (65056 ≤ a0) = true := decide_eq_true c81
                                               clear c81
                                               (first | rw [c81b0] | (simp only [i64_w, i32_w]; rw [c81b0]) | skip)
                                               have H' := Aside0.mk H
                                               clear H
                                               go_wp2
                                               go_meet
                                               case rel => exact ⟨_, (decide (a0 ≤ 65071)), (by first | rfl | (simp; done) | (simp [*]; done)), H', ⟨by have := HJ1.out; have := HJ3.out; have := HJ8.out; have := HJ10.out; have := HJ17.out; have := HJ24.out; have := HJ29.out; have := HJ31.out; have := HJ36.out; have := HJ38.out; have := HJ45.out; have := HJ52.out; have := HJ54.out; have := HJ61.out; have := HJ63.out; have := HJ70.out; have := HJ72.out; first | omega | exact Nat.le_refl _⟩, by repeat (first | exact Drawn0.refl _ | apply Drawn0.step)⟩
                                              ·rw [if_neg c81] at H
                                               have c81b0 : decide (65056 ≤ a0) = false := decide_eq_false c81
                                               clear c81
                                               (first | rw [c81b0] | (simp only [i64_w, i32_w]; rw [c81b0]) | skip)
                                               have H' := Aside0.mk H
                                               clear H
                                               go_wp2
                                               go_meet
                                               case rel => exact ⟨_, (false), (by first | rfl | (simp; done) | (simp [*]; done)), H', ⟨by have := HJ1.out; have := HJ3.out; have := HJ8.out; have := HJ10.out; have := HJ17.out; have := HJ24.out; have := HJ29.out; have := HJ31.out; have := HJ36.out; have := HJ38.out; have := HJ45.out; have := HJ52.out; have := HJ54.out; have := HJ61.out; have := HJ63.out; have := HJ70.out; have := HJ72.out; first | omega | exact Nat.le_refl _⟩, by repeat (first | exact Drawn0.refl _ | apply Drawn0.step)⟩
                                             case rest => as_aux_lemma =>
                                              clear HC80
                                              try clear c1
                                              try clear c2
                                              try clear p2
                                              try clear c3
                                              try clear c3b0
                                              try clear c4
                                              try clear c5
                                              try clear c6
                                              try clear c6b0
                                              try clear c7
                                              try clear c7b0
                                              try clear c8
                                              try clear c10
                                              try clear c10b0
                                              try clear c12
                                              try clear c13
                                              try clear c13b0
                                              try clear c14
                                              try clear c14b0
                                              try clear c15
                                              try clear c15b0
                                              try clear c16
                                              try clear c16b0
                                              try clear c17
                                              try clear c19
                                              try clear c19b0
                                              try clear c19b1
                                              try clear c20
                                              try clear c20b0
                                              try clear c21
                                              try clear c21b0
                                              try clear c22
                                              try clear c22b0
                                              try clear c23
                                              try clear c23b0
                                              try clear c24
                                              try clear c26
                                              try clear c26b0
                                              try clear c26b1
                                              try clear c27
                                              try clear c27b0
                                              try clear c28
                                              try clear c28b0
                                              try clear c29
                                              try clear c31
                                              try clear c31b0
                                              try clear c33
                                              try clear c34
                                              try clear c34b0
                                              try clear c34b1
                                              try clear c35
                                              try clear c35b0
                                              try clear c36
                                              try clear c38
                                              try clear c38b0
                                              try clear c40
                                              try clear c41
                                              try clear c41b0
                                              try clear c42
                                              try clear c42b0
                                              try clear c43
                                              try clear c43b0
                                              try clear c44
                                              try clear c44b0
                                              try clear c45
                                              try clear c47
                                              try clear c47b0
                                              try clear c47b1
                                              try clear c48
                                              try clear c48b0
                                              try clear c49
                                              try clear c49b0
                                              try clear c50
                                              try clear c50b0
                                              try clear c51
                                              try clear c51b0
                                              try clear c52
                                              try clear c54
                                              try clear c54b0
                                              try clear c56
                                              try clear c57
                                              try clear c57b0
                                              try clear c58
                                              try clear c58b0
                                              try clear c59
                                              try clear c59b0
                                              try clear c60
                                              try clear c60b0
                                              try clear c61
                                              try clear c63
                                              try clear c63b0
                                              try clear c65
                                              try clear c66
                                              try clear c66b0
                                              try clear c67
                                              try clear c67b0
                                              try clear c68
                                              try clear c68b0
                                              try clear c69
                                              try clear c69b0
                                              try clear c70
                                              try clear c72
                                              try clear c72b0
                                              try clear c74
                                              try clear c75
                                              try clear c75b0
                                              try clear c76
                                              try clear c76b0
                                              try clear c77
                                              try clear c77b0
                                              try clear c78
                                              try clear c78b0
                                              try clear c79
                                              try clear c81
                                              try clear c81b0
                                              try clear p2
                                              obtain ⟨kq, x169_79, rfl, HA, HJ79, ⟨mc79, rfl⟩⟩ := hcut
                                              cases kq with
                                              | zero => exact absurd HA.out (by simp [cell_nothing.j17])
                                              | succ kj79 =>
                                               have H := HA.out
                                               clear HA
                                               simp only [cell_nothing.j17] at H
                                               have HC82 := Aside0.mk H
                                               clear H
                                               go_upto_if 169 with (fail)
                                               go_cut [169] (fun v169 wc => ∃ (kq : Nat) (x169_81 : Bool), v169 = .bool x169_81 ∧ Aside0 (cell_nothing.j18 kq a0 x169_81 = some r) ∧ Aside0 (kq ≤ kj79) ∧ Drawn0 w wc)
                                               case first => as_aux_lemma =>
                                                have H := HC82.out
                                                clear HC82
                                                by_cases c83 : x169_79 = true
                                                ·subst c83
                                                 have H1 : (cell_nothing.j18 kj79 a0 true) = some r := by rw [if_pos rfl] at H; exact H
                                                 clear H
                                                 have H := H1
                                                 clear H1
                                                 have H' := Aside0.mk H
                                                 clear H
                                                 go_wp2
                                                 go_meet
                                                 case rel => exact ⟨_, (true), (by first | rfl | (simp; done) | (simp [*]; done)), H', ⟨by have := HJ1.out; have := HJ3.out; have := HJ8.out; have := HJ10.out; have := HJ17.out; have := HJ24.out; have := HJ29.out; have := HJ31.out; have := HJ36.out; have := HJ38.out; have := HJ45.out; have := HJ52.out; have := HJ54.out; have := HJ61.out; have := HJ63.out; have := HJ70.out; have := HJ72.out; have := HJ79.out; first | omega | exact Nat.le_refl _⟩, by repeat (first | exact Drawn0.refl _ | apply Drawn0.step)⟩
                                                ·replace c83 := Bool.eq_false_iff.mpr c83
                                                 subst c83
                                                 have H1 : (if a0 = 65279 then (cell_nothing.j18 kj79 a0 (a0 == 65279)) else (if a0 ≥ 127995 then (cell_nothing.j18 kj79 a0 (decide (a0 ≤ 127999))) else (cell_nothing.j18 kj79 a0 false))) = some r := by rw [if_neg (show ¬ (false = true) by decide)] at H; exact H
                                                 clear H
                                                 have H := H1
                                                 clear H1
                                                 by_cases c84 : a0 = 65279
                                                 ·rw [if_pos c84] at H
                                                  have c84b0 : (a0 == 65279) = true := beq_iff_eq.mpr c84
                                                  have c84b1 : (a0 != 65279) = false := bne_eq_false_iff_eq.mpr c84
                                                  clear c84
                                                  (first | rw [c84b0] | (simp only [i64_w, i32_w]; rw [c84b0]) | skip)
                                                  have H' := Aside0.mk H
                                                  clear H
                                                  go_wp2
                                                  go_meet
                                                  case rel => exact ⟨_, ((a0 == 65279)), (by first | rfl | (simp; done) | (simp [*]; done)), H', ⟨by have := HJ1.out; have := HJ3.out; have := HJ8.out; have := HJ10.out; have := HJ17.out; have := HJ24.out; have := HJ29.out; have := HJ31.out; have := HJ36.out; have := HJ38.out; have := HJ45.out; have := HJ52.out; have := HJ54.out; have := HJ61.out; have := HJ63.out; have := HJ70.out; have := HJ72.out; have := HJ79.out; first | omega | exact Nat.le_refl _⟩, by repeat (first | exact Drawn0.refl _ | apply Drawn0.step)⟩
                                                 ·rw [if_neg c84] at H
                                                  have c84b0 : (a0 == 65279) = false := beq_eq_false_iff_ne.mpr c84
                                                  have c84b1 : (a0 != 65279) = true := bne_iff_ne.mpr c84
                                                  (first | rw [c84b0] | (simp only [i64_w, i32_w]; rw [c84b0]) | skip)
                                                  by_cases c85 : a0 ≥ 127995
                                                  ·rw [if_pos c85] at H
                                                   have c85b0 : decide (127995 ≤ a0) = true := decide_eq_true c85
                                                   clear c85
                                                   have H' := Aside0.mk H
                                                   clear H
                                                   go_wp2
                                                   go_meet
                                                   case rel => exact ⟨_, (decide (a0 ≤ 127999)), (by first | rfl | (simp; done) | (simp [*]; done)), H', ⟨by have := HJ1.out; have := HJ3.out; have := HJ8.out; have := HJ10.out; have := HJ17.out; have := HJ24.out; have := HJ29.out; have := HJ31.out; have := HJ36.out; have := HJ38.out; have := HJ45.out; have := HJ52.out; have := HJ54.out; have := HJ61.out; have := HJ63.out; have := HJ70.out; have := HJ72.out; have := HJ79.out; first | omega | exact Nat.le_refl _⟩, by repeat (first | exact Drawn0.refl _ | apply Drawn0.step)⟩
                                                  ·rw [if_neg c85] at H
                                                   have c85b0 : decide (127995 ≤ a0) = false := decide_eq_false c85
                                                   clear c85
                                                   have H' := Aside0.mk H
                                                   clear H
                                                   go_wp2
                                                   go_meet
                                                   case rel => exact ⟨_, (false), (by first | rfl | (simp; done) | (simp [*]; done)), H', ⟨by have := HJ1.out; have := HJ3.out; have := HJ8.out; have := HJ10.out; have := HJ17.out; have := HJ24.out; have := HJ29.out; have := HJ31.out; have := HJ36.out; have := HJ38.out; have := HJ45.out; have := HJ52.out; have := HJ54.out; have := HJ61.out; have := HJ63.out; have := HJ70.out; have := HJ72.out; have := HJ79.out; first | omega | exact Nat.le_refl _⟩, by repeat (first | exact Drawn0.refl _ | apply Drawn0.step)⟩
                                               case rest => as_aux_lemma =>
                                                clear HC82
                                                try clear c1
                                                try clear c2
                                                try clear p2
                                                try clear c3
                                                try clear c3b0
                                                try clear c4
                                                try clear c5
                                                try clear c6
                                                try clear c6b0
                                                try clear c7
                                                try clear c7b0
                                                try clear c8
                                                try clear c10
                                                try clear c10b0
                                                try clear c12
                                                try clear c13
                                                try clear c13b0
                                                try clear c14
                                                try clear c14b0
                                                try clear c15
                                                try clear c15b0
                                                try clear c16
                                                try clear c16b0
                                                try clear c17
                                                try clear c19
                                                try clear c19b0
                                                try clear c19b1
                                                try clear c20
                                                try clear c20b0
                                                try clear c21
                                                try clear c21b0
                                                try clear c22
                                                try clear c22b0
                                                try clear c23
                                                try clear c23b0
                                                try clear c24
                                                try clear c26
                                                try clear c26b0
                                                try clear c26b1
                                                try clear c27
                                                try clear c27b0
                                                try clear c28
                                                try clear c28b0
                                                try clear c29
                                                try clear c31
                                                try clear c31b0
                                                try clear c33
                                                try clear c34
                                                try clear c34b0
                                                try clear c34b1
                                                try clear c35
                                                try clear c35b0
                                                try clear c36
                                                try clear c38
                                                try clear c38b0
                                                try clear c40
                                                try clear c41
                                                try clear c41b0
                                                try clear c42
                                                try clear c42b0
                                                try clear c43
                                                try clear c43b0
                                                try clear c44
                                                try clear c44b0
                                                try clear c45
                                                try clear c47
                                                try clear c47b0
                                                try clear c47b1
                                                try clear c48
                                                try clear c48b0
                                                try clear c49
                                                try clear c49b0
                                                try clear c50
                                                try clear c50b0
                                                try clear c51
                                                try clear c51b0
                                                try clear c52
                                                try clear c54
                                                try clear c54b0
                                                try clear c56
                                                try clear c57
                                                try clear c57b0
                                                try clear c58
                                                try clear c58b0
                                                try clear c59
                                                try clear c59b0
                                                try clear c60
                                                try clear c60b0
                                                try clear c61
                                                try clear c63
                                                try clear c63b0
                                                try clear c65
                                                try clear c66
                                                try clear c66b0
                                                try clear c67
                                                try clear c67b0
                                                try clear c68
                                                try clear c68b0
                                                try clear c69
                                                try clear c69b0
                                                try clear c70
                                                try clear c72
                                                try clear c72b0
                                                try clear c74
                                                try clear c75
                                                try clear c75b0
                                                try clear c76
                                                try clear c76b0
                                                try clear c77
                                                try clear c77b0
                                                try clear c78
                                                try clear c78b0
                                                try clear c79
                                                try clear c81
                                                try clear c81b0
                                                try clear c83
                                                try clear c84
                                                try clear c84b0
                                                try clear c84b1
                                                try clear c85
                                                try clear c85b0
                                                try clear p2
                                                obtain ⟨kq, x169_81, rfl, HA, HJ81, ⟨mc81, rfl⟩⟩ := hcut
                                                cases kq with
                                                | zero => exact absurd HA.out (by simp [cell_nothing.j18])
                                                | succ kj81 =>
                                                 have H := HA.out
                                                 clear HA
                                                 simp only [cell_nothing.j18] at H
                                                 by_cases c86 : x169_81 = true
                                                 ·subst c86
                                                  have H1 : (some true) = some r := by rw [if_pos rfl] at H; exact H
                                                  clear H
                                                  have H := H1
                                                  clear H1
                                                  obtain rfl := Option.some.inj H
                                                  go_wp2
                                                  go_ret
                                                  exact ⟨by first | rfl | (simp; done) | (simp [*]; done), by repeat (first | exact Drawn0.refl _ | apply Drawn0.step)⟩
                                                 ·replace c86 := Bool.eq_false_iff.mpr c86
                                                  subst c86
                                                  have H1 : (if a0 ≥ 917504 then (if a0 ≤ 921599 then (some true) else (some false)) else (some false)) = some r := by rw [if_neg (show ¬ (false = true) by decide)] at H; exact H
                                                  clear H
                                                  have H := H1
                                                  clear H1
                                                  by_cases c87 : a0 ≥ 917504
                                                  ·rw [if_pos c87] at H
                                                   have c87b0 : decide (917504 ≤ a0) = true := decide_eq_true c87
                                                   clear c87
                                                   by_cases c88 : a0 ≤ 921599
                                                   ·rw [if_pos c88] at H
                                                    have c88b0 : decide (a0 ≤ 921599) = true := decide_eq_true c88
                                                    clear c88
                                                    obtain rfl := Option.some.inj H
                                                    go_wp2
                                                    go_ret
                                                    exact ⟨by first | rfl | (simp; done) | (simp [*]; done), by repeat (first | exact Drawn0.refl _ | apply Drawn0.step)⟩
                                                   ·rw [if_neg c88] at H
                                                    have c88b0 : decide (a0 ≤ 921599) = false := decide_eq_false c88
                                                    clear c88
                                                    obtain rfl := Option.some.inj H
                                                    go_wp2
                                                    go_ret
                                                    exact ⟨by first | rfl | (simp; done) | (simp [*]; done), by repeat (first | exact Drawn0.refl _ | apply Drawn0.step)⟩
                                                  ·rw [if_neg c87] at H
                                                   have c87b0 : decide (917504 ≤ a0) = false := decide_eq_false c87
                                                   clear c87
                                                   obtain rfl := Option.some.inj H
                                                   go_wp2
                                                   go_ret
                                                   exact ⟨by first | rfl | (simp; done) | (simp [*]; done), by repeat (first | exact Drawn0.refl _ | apply Drawn0.step)⟩
end Go.Proofs.Ythgifhnfbblklaa.PSp
