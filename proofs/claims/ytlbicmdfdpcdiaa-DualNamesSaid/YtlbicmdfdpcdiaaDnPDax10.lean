-- printed
import Derived.Test.YtlbicmdfdpcdiaaDnPDax0
import Derived.Test.YtlbicmdfdpcdiaaDnPDax9
namespace Go.Proofs.Ytlbicmdfdpcdiaa.PDa
open Go.RowKit Go.Proofs.YtlbicmdfdpcdiaaW.PrintWords Go.Proofs.YtlbicmdfdpcdiaaW.PrintLast Go.Proofs.YtlbicmdfdpcdiaaW.PrintMore
attribute [local go_sem] max2_int min2_int max_two min_two max_three min_three max_four min_four
set_option linter.unusedVariables false
set_option linter.unusedSimpArgs false
def style_right.j0 : Nat → Bool → Int → Int → Int → Int → Option (Bool)
 | 0, _, _, _, _, _ => none
 | k + 1, x30, x201000, x201001, x201002, x201003 => if x30 = true then (some false) else (if x201002 = 5 then (if x201003 ≥ 0 then (some (decide (x201003 ≤ 16777215))) else (some false)) else (some (x201003 == 0)))
def style_right.f (k : Nat) (a0_0 : Int) (a0_1 : Int) (a0_2 : Int) (a0_3 : Int) (a1 : Int) : Option (Bool) := if a0_0 < 0 then (style_right.j0 k true a0_0 a0_1 a0_2 a0_3) else (if a0_1 ≤ a0_0 then (style_right.j0 k true a0_0 a0_1 a0_2 a0_3) else (if a0_1 > a1 then (style_right.j0 k true a0_0 a0_1 a0_2 a0_3) else (if a0_2 < 1 then (style_right.j0 k true a0_0 a0_1 a0_2 a0_3) else (style_right.j0 k (decide (a0_2 > 5)) a0_0 a0_1 a0_2 a0_3))))
set_option maxHeartbeats 8000000 in
set_option maxRecDepth 100000 in
theorem style_right.calls (k : Nat) (a0_0 : Int) (a0_1 : Int) (a0_2 : Int) (a0_3 : Int) (a1 : Int) (r : Bool) (w : World) (h : style_right.f k a0_0 a0_1 a0_2 a0_3 a1 = some r) :
  Calls Try.prog 59 #[.agg #[.int .i64 a0_0, .int .i64 a0_1, .int .i64 a0_2, .int .i64 a0_3], .int .i64 a1] w fun e w' => e = .returned (.bool r) ∧ Below w.heap.size w w' := by
 have hu79 := Try.underlying79
 have HB := Aside0.mk (Below.refl w.heap.size w)
 have H : (if a0_0 < 0 then (style_right.j0 k true a0_0 a0_1 a0_2 a0_3) else (if a0_1 ≤ a0_0 then (style_right.j0 k true a0_0 a0_1 a0_2 a0_3) else (if a0_1 > a1 then (style_right.j0 k true a0_0 a0_1 a0_2 a0_3) else (if a0_2 < 1 then (style_right.j0 k true a0_0 a0_1 a0_2 a0_3) else (style_right.j0 k (decide (a0_2 > 5)) a0_0 a0_1 a0_2 a0_3))))) = some r := h
 clear h
 have HC3 := Aside0.mk H
 clear H
 go_enter Try.func59, Try.ntmps59
 go_upto_region 1 with (first | ((with_reducible refine gate_dst (N := 2) rfl ?_); refine box_event (by rfl) (N := 2) (by rfl) (cs := #[.int .i64 a0_0, .int .i64 a0_1, .int .i64 a0_2, .int .i64 a0_3]) (t := 79) (by first | (go_simp; done) | (go_simp; rfl)) ?_; intro gb200 hg w4 hbox hb; obtain ⟨hb_, hw_⟩ := box_facts (lA HB.out) hg hb; replace HB := Aside0.mk (hb_); have BK200 := Aside0.mk (hbox); have GW200 := Aside0.mk (hw_); have GE200 := Aside0.mk (hw_); clear hb hbox hg hb_ hw_))
 (try simp only [Act.put, List.setIfInBounds_toArray, List.set_cons_zero, List.set_cons_succ])
 go_cut [30] (fun v30 wc => ∃ (kq : Nat) (x30_2 : Bool), v30 = .bool x30_2 ∧ Aside0 (style_right.j0 kq x30_2 a0_0 a0_1 a0_2 a0_3 = some r) ∧ Aside0 (kq ≤ k) ∧ Aside0 (wc.heap[gb200]? = some (.cells #[.int .i64 a0_0, .int .i64 a0_1, .int .i64 a0_2, .int .i64 a0_3] 79 (0, 0))) ∧ Aside0 (Below w.heap.size w wc))
 case first =>
  have H := HC3.out
  clear HC3
  by_cases c5 : a0_0 < 0
  ·rw [if_pos c5] at H
   have c5b0 : decide (a0_0 < 0) = true := decide_eq_true c5
   clear c5
   (first | rw [c5b0] | (simp only [i64_w, i32_w]; rw [c5b0]) | skip)
   have H' := Aside0.mk H
   clear H
   obtain ⟨hcz6_0, hcz6_1, hcz6_2, hcz6_3, hfz6_0, hfz6_1, hfz6_2, hfz6_3⟩ := blk_cells4 BK200.out
   go_wp2
   go_meet
   case rel => exact ⟨_, (true), (by first | rfl | (simp; done) | (simp [*]; done)), H', ⟨by first | omega | exact Nat.le_refl _⟩, ⟨by (with_reducible repeat (first | apply b1 | apply b2 | apply b3)); exact BK200.out⟩, ⟨by repeat (first | (with_reducible first | exact HB.out | apply l1 | apply l2 | apply l3 | refine below_set ?_ GE200.out) | exact HB.out)⟩⟩
  ·rw [if_neg c5] at H
   have c5b0 : decide (a0_0 < 0) = false := decide_eq_false c5
   clear c5
   (first | rw [c5b0] | (simp only [i64_w, i32_w]; rw [c5b0]) | skip)
   by_cases c7 : a0_1 ≤ a0_0
   ·rw [if_pos c7] at H
    have c7b0 : decide (a0_1 ≤ a0_0) = true := decide_eq_true c7
    clear c7
    have H' := Aside0.mk H
    clear H
    obtain ⟨hcz8_0, hcz8_1, hcz8_2, hcz8_3, hfz8_0, hfz8_1, hfz8_2, hfz8_3⟩ := blk_cells4 BK200.out
    go_wp2
    go_meet
    case rel => exact ⟨_, (true), (by first | rfl | (simp; done) | (simp [*]; done)), H', ⟨by first | omega | exact Nat.le_refl _⟩, ⟨by (with_reducible repeat (first | apply b1 | apply b2 | apply b3)); exact BK200.out⟩, ⟨by repeat (first | (with_reducible first | exact HB.out | apply l1 | apply l2 | apply l3 | refine below_set ?_ GE200.out) | exact HB.out)⟩⟩
   ·rw [if_neg c7] at H
    have c7b0 : decide (a0_1 ≤ a0_0) = false := decide_eq_false c7
    clear c7
    by_cases c9 : a0_1 > a1
    ·rw [if_pos c9] at H
     have c9b0 : decide (a1 < a0_1) = true := decide_eq_true c9
     clear c9
     have H' := Aside0.mk H
     clear H
     obtain ⟨hcz10_0, hcz10_1, hcz10_2, hcz10_3, hfz10_0, hfz10_1, hfz10_2, hfz10_3⟩ := blk_cells4 BK200.out
     go_wp2
     go_meet
     case rel => exact ⟨_, (true), (by first | rfl | (simp; done) | (simp [*]; done)), H', ⟨by first | omega | exact Nat.le_refl _⟩, ⟨by (with_reducible repeat (first | apply b1 | apply b2 | apply b3)); exact BK200.out⟩, ⟨by repeat (first | (with_reducible first | exact HB.out | apply l1 | apply l2 | apply l3 | refine below_set ?_ GE200.out) | exact HB.out)⟩⟩
    ·rw [if_neg c9] at H
     have c9b0 : decide (a1 < a0_1) = false := decide_eq_false c9
     clear c9
     by_cases c11 : a0_2 < 1
     ·rw [if_pos c11] at H
      have c11b0 : decide (a0_2 < 1) = true := decide_eq_true c11
      clear c11
      have H' := Aside0.mk H
      clear H
      obtain ⟨hcz12_0, hcz12_1, hcz12_2, hcz12_3, hfz12_0, hfz12_1, hfz12_2, hfz12_3⟩ := blk_cells4 BK200.out
      go_wp2
      go_meet
      case rel => exact ⟨_, (true), (by first | rfl | (simp; done) | (simp [*]; done)), H', ⟨by first | omega | exact Nat.le_refl _⟩, ⟨by (with_reducible repeat (first | apply b1 | apply b2 | apply b3)); exact BK200.out⟩, ⟨by repeat (first | (with_reducible first | exact HB.out | apply l1 | apply l2 | apply l3 | refine below_set ?_ GE200.out) | exact HB.out)⟩⟩
     ·rw [if_neg c11] at H
      have c11b0 : decide (a0_2 < 1) = false := decide_eq_false c11
      clear c11
      have H' := Aside0.mk H
      clear H
      obtain ⟨hcz13_0, hcz13_1, hcz13_2, hcz13_3, hfz13_0, hfz13_1, hfz13_2, hfz13_3⟩ := blk_cells4 BK200.out
      go_wp2
      go_meet
      case rel => exact ⟨_, (decide (a0_2 > 5)), (by first | rfl | (simp; done) | (simp [*]; done)), H', ⟨by first | omega | exact Nat.le_refl _⟩, ⟨by (with_reducible repeat (first | apply b1 | apply b2 | apply b3)); exact BK200.out⟩, ⟨by repeat (first | (with_reducible first | exact HB.out | apply l1 | apply l2 | apply l3 | refine below_set ?_ GE200.out) | exact HB.out)⟩⟩
 case rest =>
  clear HC3
  try clear c1
  try clear p2
  try clear c5
  try clear c5b0
  try clear c7
  try clear c7b0
  try clear c9
  try clear c9b0
  try clear c11
  try clear c11b0
  try clear hcz10_0
  try clear hcz10_1
  try clear hcz10_2
  try clear hcz10_3
  try clear hcz12_0
  try clear hcz12_1
  try clear hcz12_2
  try clear hcz12_3
  try clear hcz13_0
  try clear hcz13_1
  try clear hcz13_2
  try clear hcz13_3
  try clear hcz6_0
  try clear hcz6_1
  try clear hcz6_2
  try clear hcz6_3
  try clear hcz8_0
  try clear hcz8_1
  try clear hcz8_2
  try clear hcz8_3
  try clear hfz10_0
  try clear hfz10_1
  try clear hfz10_2
  try clear hfz10_3
  try clear hfz12_0
  try clear hfz12_1
  try clear hfz12_2
  try clear hfz12_3
  try clear hfz13_0
  try clear hfz13_1
  try clear hfz13_2
  try clear hfz13_3
  try clear hfz6_0
  try clear hfz6_1
  try clear hfz6_2
  try clear hfz6_3
  try clear hfz8_0
  try clear hfz8_1
  try clear hfz8_2
  try clear hfz8_3
  obtain ⟨kq, x30_2, rfl, HA, HJ2, BK200, HB⟩ := hcut
  cases kq with
  | zero => exact absurd HA.out (by simp [style_right.j0])
  | succ kj2 =>
   have H := HA.out
   clear HA
   simp only [style_right.j0] at H
   by_cases c14 : x30_2 = true
   ·subst c14
    have H1 : (some false) = some r := by rw [if_pos rfl] at H; exact H
    clear H
    have H := H1
    clear H1
    obtain rfl := Option.some.inj H
    go_wp2
    go_ret
    exact ⟨by first | rfl | (simp [errW_none, errW_some] <;> rfl) | (simp [*, errW_none, errW_some] <;> rfl), by repeat (first | (with_reducible first | exact HB.out | apply l1 | apply l2 | apply l3 | refine below_set ?_ GE200.out) | exact HB.out)⟩
   ·replace c14 := Bool.eq_false_iff.mpr c14
    subst c14
    have H1 : (if a0_2 = 5 then (if a0_3 ≥ 0 then (some (decide (a0_3 ≤ 16777215))) else (some false)) else (some (a0_3 == 0))) = some r := by rw [if_neg (show ¬ (false = true) by decide)] at H; exact H
    clear H
    have H := H1
    clear H1
    by_cases c15 : a0_2 = 5
    ·rw [if_pos c15] at H
     have c15b0 : (a0_2 == 5) = true := beq_iff_eq.mpr c15
     have c15b1 : (a0_2 != 5) = false := bne_eq_false_iff_eq.mpr c15
     clear c15
     by_cases c16 : a0_3 ≥ 0
     ·rw [if_pos c16] at H
      have c16b0 : decide (0 ≤ a0_3) = true := decide_eq_true c16
      clear c16
      obtain rfl := Option.some.inj H
      obtain ⟨hcz17_0, hcz17_1, hcz17_2, hcz17_3, hfz17_0, hfz17_1, hfz17_2, hfz17_3⟩ := blk_cells4 BK200.out
      go_wp2
      go_ret
      exact ⟨by first | rfl | (simp [errW_none, errW_some] <;> rfl) | (simp [*, errW_none, errW_some] <;> rfl), by repeat (first | (with_reducible first | exact HB.out | apply l1 | apply l2 | apply l3 | refine below_set ?_ GE200.out) | exact HB.out)⟩
     ·rw [if_neg c16] at H
      have c16b0 : decide (0 ≤ a0_3) = false := decide_eq_false c16
      clear c16
      obtain rfl := Option.some.inj H
      obtain ⟨hcz18_0, hcz18_1, hcz18_2, hcz18_3, hfz18_0, hfz18_1, hfz18_2, hfz18_3⟩ := blk_cells4 BK200.out
      go_wp2
      go_ret
      exact ⟨by first | rfl | (simp [errW_none, errW_some] <;> rfl) | (simp [*, errW_none, errW_some] <;> rfl), by repeat (first | (with_reducible first | exact HB.out | apply l1 | apply l2 | apply l3 | refine below_set ?_ GE200.out) | exact HB.out)⟩
    ·rw [if_neg c15] at H
     have c15b0 : (a0_2 == 5) = false := beq_eq_false_iff_ne.mpr c15
     have c15b1 : (a0_2 != 5) = true := bne_iff_ne.mpr c15
     obtain rfl := Option.some.inj H
     obtain ⟨hcz19_0, hcz19_1, hcz19_2, hcz19_3, hfz19_0, hfz19_1, hfz19_2, hfz19_3⟩ := blk_cells4 BK200.out
     go_wp2
     go_ret
     exact ⟨by first | rfl | (simp [errW_none, errW_some] <;> rfl) | (simp [*, errW_none, errW_some] <;> rfl), by repeat (first | (with_reducible first | exact HB.out | apply l1 | apply l2 | apply l3 | refine below_set ?_ GE200.out) | exact HB.out)⟩
def style_within.f (a0_0 : Int) (a0_1 : Int) (a0_2 : Int) (a0_3 : Int) (a1_0 : Int) (a1_1 : Int) (a1_2 : Int) (a1_3 : Int) : Option (Bool) := if a0_0 ≥ a1_0 then (some (decide (a0_1 ≤ a1_1))) else (some false)
set_option maxHeartbeats 8000000 in
set_option maxRecDepth 100000 in
theorem style_within.calls (a0_0 : Int) (a0_1 : Int) (a0_2 : Int) (a0_3 : Int) (a1_0 : Int) (a1_1 : Int) (a1_2 : Int) (a1_3 : Int) (r : Bool) (w : World) (h : style_within.f a0_0 a0_1 a0_2 a0_3 a1_0 a1_1 a1_2 a1_3 = some r) :
  Calls Try.prog 72 #[.agg #[.int .i64 a0_0, .int .i64 a0_1, .int .i64 a0_2, .int .i64 a0_3], .agg #[.int .i64 a1_0, .int .i64 a1_1, .int .i64 a1_2, .int .i64 a1_3]] w fun e w' => e = .returned (.bool r) ∧ Below w.heap.size w w' := by
 have hu79 := Try.underlying79
 have HB := Aside0.mk (Below.refl w.heap.size w)
 have H : (if a0_0 ≥ a1_0 then (some (decide (a0_1 ≤ a1_1))) else (some false)) = some r := h
 clear h
 by_cases c3 : a0_0 ≥ a1_0 <;> first
 |(rw [if_pos c3] at H
   have c3b0 : decide (a1_0 ≤ a0_0) = true := decide_eq_true c3
   clear c3
   obtain rfl := Option.some.inj H)
 |(rw [if_neg c3] at H
   have c3b0 : decide (a1_0 ≤ a0_0) = false := decide_eq_false c3
   clear c3
   obtain rfl := Option.some.inj H)
 all_goals
  go_enter Try.func72, Try.ntmps72
  go_wp2_with (first | ((with_reducible refine gate_dst (N := 2) rfl ?_); refine box_event (by rfl) (N := 2) (by rfl) (cs := #[.int .i64 a0_0, .int .i64 a0_1, .int .i64 a0_2, .int .i64 a0_3]) (t := 79) (by first | (go_simp; done) | (go_simp; rfl)) ?_; intro gb201 hg w9 hbox hb; obtain ⟨hb_, hw_⟩ := box_facts (lA HB.out) hg hb; replace HB := Aside0.mk (hb_); have BK201 := Aside0.mk (hbox); have GW201 := Aside0.mk (hw_); have GE201 := Aside0.mk (hw_); clear hb hbox hg hb_ hw_) | ((with_reducible refine gate_dst (N := 3) rfl ?_); refine box_event (by rfl) (N := 3) (by rfl) (cs := #[.int .i64 a1_0, .int .i64 a1_1, .int .i64 a1_2, .int .i64 a1_3]) (t := 79) (by first | (go_simp; done) | (go_simp; rfl)) ?_; intro gb202 hg w10 hbox hb; obtain ⟨hb_, hw_⟩ := box_facts (by repeat (first | (with_reducible first | exact HB.out | apply l1 | apply l2 | apply l3 | refine below_set ?_ GE201.out) | exact HB.out)) hg hb; replace HB := Aside0.mk (hb_); have BK202 := Aside0.mk (hbox); have GW202 := Aside0.mk (hw_); have GE202 := Aside0.mk (hw_); have NB201_202 := Aside0.mk ((nL hg BK201.out)); have NB202_201 := Aside0.mk ((nG hg BK201.out)); replace BK201 := Aside0.mk (bB BK201.out hb); clear hb hbox hg hb_ hw_; have hnb11 := NB201_202.out; have hnc11 := NB202_201.out; obtain ⟨hcz12_0, hcz12_1, hcz12_2, hcz12_3, hfz12_0, hfz12_1, hfz12_2, hfz12_3⟩ := blk_cells4 BK201.out; obtain ⟨hcz13_0, hcz13_1, hcz13_2, hcz13_3, hfz13_0, hfz13_1, hfz13_2, hfz13_3⟩ := blk_cells4 BK202.out))
  go_ret
  exact ⟨by first | rfl | (simp [errW_none, errW_some] <;> rfl) | (simp [*, errW_none, errW_some] <;> rfl), by repeat (first | (with_reducible first | exact HB.out | apply l1 | apply l2 | apply l3 | refine below_set ?_ GE201.out | refine below_set ?_ GE202.out) | exact HB.out)⟩
def style_crosses.f (a0_0 : Int) (a0_1 : Int) (a0_2 : Int) (a0_3 : Int) (a1_0 : Int) (a1_1 : Int) (a1_2 : Int) (a1_3 : Int) : Option (Bool) := if a0_0 < a1_1 then (if a1_0 < a0_1 then ((style_within.f a0_0 a0_1 a0_2 a0_3 a1_0 a1_1 a1_2 a1_3).bind fun t205 => (if t205 = true then (some false) else ((style_within.f a1_0 a1_1 a1_2 a1_3 a0_0 a0_1 a0_2 a0_3).bind fun t206 => (some (!t206))))) else (some false)) else (some false)
set_option maxHeartbeats 8000000 in
set_option maxRecDepth 100000 in
theorem style_crosses.calls (a0_0 : Int) (a0_1 : Int) (a0_2 : Int) (a0_3 : Int) (a1_0 : Int) (a1_1 : Int) (a1_2 : Int) (a1_3 : Int) (r : Bool) (w : World) (h : style_crosses.f a0_0 a0_1 a0_2 a0_3 a1_0 a1_1 a1_2 a1_3 = some r) :
  Calls Try.prog 62 #[.agg #[.int .i64 a0_0, .int .i64 a0_1, .int .i64 a0_2, .int .i64 a0_3], .agg #[.int .i64 a1_0, .int .i64 a1_1, .int .i64 a1_2, .int .i64 a1_3]] w fun e w' => e = .returned (.bool r) ∧ Below w.heap.size w w' := by
 have hu79 := Try.underlying79
 have HB := Aside0.mk (Below.refl w.heap.size w)
 have H : (if a0_0 < a1_1 then (if a1_0 < a0_1 then ((style_within.f a0_0 a0_1 a0_2 a0_3 a1_0 a1_1 a1_2 a1_3).bind fun t205 => (if t205 = true then (some false) else ((style_within.f a1_0 a1_1 a1_2 a1_3 a0_0 a0_1 a0_2 a0_3).bind fun t206 => (some (!t206))))) else (some false)) else (some false)) = some r := h
 clear h
 by_cases c3 : a0_0 < a1_1 <;> first
 |(rw [if_pos c3] at H
   have c3b0 : decide (a0_0 < a1_1) = true := decide_eq_true c3
   clear c3
   by_cases c4 : a1_0 < a0_1 <;> first
   |(rw [if_pos c4] at H
     have c4b0 : decide (a1_0 < a0_1) = true := decide_eq_true c4
     clear c4
     replace H := Option.bind_eq_some_iff.mp H
     obtain ⟨t205, A50, H⟩ := H
     (try dsimp only at H)
     have A5 := Aside0.mk A50
     clear A50
     by_cases c6 : t205 = true <;> first
     |(subst c6
       have H1 : (some false) = some r := by rw [if_pos rfl] at H; exact H
       clear H
       have H := H1
       clear H1
       obtain rfl := Option.some.inj H
       have z38 := trivial)
     |(replace c6 := Bool.eq_false_iff.mpr c6
       subst c6
       have H1 : ((style_within.f a1_0 a1_1 a1_2 a1_3 a0_0 a0_1 a0_2 a0_3).bind fun t206 => (some (!t206))) = some r := by rw [if_neg (show ¬ (false = true) by decide)] at H; exact H
       clear H
       have H := H1
       clear H1
       replace H := Option.bind_eq_some_iff.mp H
       obtain ⟨t206, A130, H⟩ := H
       (try dsimp only at H)
       have A13 := Aside0.mk A130
       clear A130
       obtain rfl := Option.some.inj H
       have z39 := trivial))
   |(rw [if_neg c4] at H
     have c4b0 : decide (a1_0 < a0_1) = false := decide_eq_false c4
     clear c4
     obtain rfl := Option.some.inj H))
 |(rw [if_neg c3] at H
   have c3b0 : decide (a0_0 < a1_1) = false := decide_eq_false c3
   clear c3
   obtain rfl := Option.some.inj H)
 all_goals
  go_enter Try.func62, Try.ntmps62
  go_wp2_with (first | ((with_reducible refine gate_dst (N := 2) rfl ?_); refine box_event (by rfl) (N := 2) (by rfl) (cs := #[.int .i64 a0_0, .int .i64 a0_1, .int .i64 a0_2, .int .i64 a0_3]) (t := 79) (by first | (go_simp; done) | (go_simp; rfl)) ?_; intro gb203 hg w14 hbox hb; obtain ⟨hb_, hw_⟩ := box_facts (lA HB.out) hg hb; replace HB := Aside0.mk (hb_); have BK203 := Aside0.mk (hbox); have GW203 := Aside0.mk (hw_); have GE203 := Aside0.mk (hw_); clear hb hbox hg hb_ hw_) | ((with_reducible refine gate_dst (N := 3) rfl ?_); refine box_event (by rfl) (N := 3) (by rfl) (cs := #[.int .i64 a1_0, .int .i64 a1_1, .int .i64 a1_2, .int .i64 a1_3]) (t := 79) (by first | (go_simp; done) | (go_simp; rfl)) ?_; intro gb204 hg w15 hbox hb; obtain ⟨hb_, hw_⟩ := box_facts (by repeat (first | (with_reducible first | exact HB.out | apply l1 | apply l2 | apply l3 | refine below_set ?_ GE203.out) | exact HB.out)) hg hb; replace HB := Aside0.mk (hb_); have BK204 := Aside0.mk (hbox); have GW204 := Aside0.mk (hw_); have GE204 := Aside0.mk (hw_); have NB203_204 := Aside0.mk ((nL hg BK203.out)); have NB204_203 := Aside0.mk ((nG hg BK203.out)); replace BK203 := Aside0.mk (bB BK203.out hb); clear hb hbox hg hb_ hw_; have hnb16 := NB203_204.out; have hnc16 := NB204_203.out; obtain ⟨hcz17_0, hcz17_1, hcz17_2, hcz17_3, hfz17_0, hfz17_1, hfz17_2, hfz17_3⟩ := blk_cells4 BK203.out; obtain ⟨hcz18_0, hcz18_1, hcz18_2, hcz18_3, hfz18_0, hfz18_1, hfz18_2, hfz18_3⟩ := blk_cells4 BK204.out) | ((revert z38; intro z38); (go_at_call 72; (with_reducible refine (style_within.calls a0_0 a0_1 a0_2 a0_3 a1_0 a1_1 a1_2 a1_3 true _ A5.out).mono ?_); rintro e w12 ⟨rfl, hb⟩; replace BK203 := Aside0.mk (bB BK203.out hb); replace BK204 := Aside0.mk (bB BK204.out hb); replace HB := Aside0.mk (below_step (by repeat (first | (with_reducible first | exact HB.out | apply l1 | apply l2 | apply l3 | refine below_set ?_ GE203.out | refine below_set ?_ GE204.out) | exact HB.out)) hb); (try clear hb); (try clear hb2); (try clear hk); (try clear hi))) | ((revert z39; intro z39); (go_at_call 72; (with_reducible refine (style_within.calls a0_0 a0_1 a0_2 a0_3 a1_0 a1_1 a1_2 a1_3 false _ A5.out).mono ?_); rintro e w19 ⟨rfl, hb⟩; replace BK203 := Aside0.mk (bB BK203.out hb); replace BK204 := Aside0.mk (bB BK204.out hb); replace HB := Aside0.mk (below_step (by repeat (first | (with_reducible first | exact HB.out | apply l1 | apply l2 | apply l3 | refine below_set ?_ GE203.out | refine below_set ?_ GE204.out) | exact HB.out)) hb); (try clear hb); (try clear hb2); (try clear hk); (try clear hi); obtain ⟨hcz20_0, hcz20_1, hcz20_2, hcz20_3, hfz20_0, hfz20_1, hfz20_2, hfz20_3⟩ := blk_cells4 BK204.out; obtain ⟨hcz21_0, hcz21_1, hcz21_2, hcz21_3, hfz21_0, hfz21_1, hfz21_2, hfz21_3⟩ := blk_cells4 BK203.out)) | ((revert z39; intro z39); (go_at_call 72; (with_reducible refine (style_within.calls a1_0 a1_1 a1_2 a1_3 a0_0 a0_1 a0_2 a0_3 t206 _ A13.out).mono ?_); rintro e w22 ⟨rfl, hb⟩; replace BK203 := Aside0.mk (bB BK203.out hb); replace BK204 := Aside0.mk (bB BK204.out hb); replace HB := Aside0.mk (below_step (by repeat (first | (with_reducible first | exact HB.out | apply l1 | apply l2 | apply l3 | refine below_set ?_ GE203.out | refine below_set ?_ GE204.out) | exact HB.out)) hb); (try clear hb); (try clear hb2); (try clear hk); (try clear hi))))
  go_ret
  exact ⟨by first | rfl | (simp [errW_none, errW_some] <;> rfl) | (simp [*, errW_none, errW_some] <;> rfl), by repeat (first | (with_reducible first | exact HB.out | apply l1 | apply l2 | apply l3 | refine below_set ?_ GE203.out | refine below_set ?_ GE204.out) | exact HB.out)⟩
def style_Check_1.f (a0_0 : Int) (a0_1 : Int) (a0_2 : Int) (a0_3 : Int) (a1_0 : Int) (a1_1 : Int) (a1_2 : Int) (a1_3 : Int) : Option (Bool) := (style_crosses.f a1_0 a1_1 a1_2 a1_3 a0_0 a0_1 a0_2 a0_3).bind fun t208 => (some t208)
set_option maxHeartbeats 8000000 in
set_option maxRecDepth 100000 in
theorem style_Check_1.calls (a0_0 : Int) (a0_1 : Int) (a0_2 : Int) (a0_3 : Int) (B1_0 : Nat) (a1_0 : Int) (a1_1 : Int) (a1_2 : Int) (a1_3 : Int) (r : Bool) (w : World) (hb1_0 : w.heap[B1_0]? = some (.cells #[.int .i64 a1_0, .int .i64 a1_1, .int .i64 a1_2, .int .i64 a1_3] 79 (0, 0))) (h : style_Check_1.f a0_0 a0_1 a0_2 a0_3 a1_0 a1_1 a1_2 a1_3 = some r) :
  Calls Try.prog 61 #[.agg #[.int .i64 a0_0, .int .i64 a0_1, .int .i64 a0_2, .int .i64 a0_3], .pointer (some ⟨B1_0, 0, none⟩)] w fun e w' => e = .returned (.bool r) ∧ Below w.heap.size w w' := by
 have hu79 := Try.underlying79
 have BK35 := Aside0.mk hb1_0
 clear hb1_0
 have HB := Aside0.mk (Below.refl w.heap.size w)
 have H : ((style_crosses.f a1_0 a1_1 a1_2 a1_3 a0_0 a0_1 a0_2 a0_3).bind fun t208 => (some t208)) = some r := h
 clear h
 replace H := Option.bind_eq_some_iff.mp H
 obtain ⟨t208, A30, H⟩ := H
 (try dsimp only at H)
 have A3 := Aside0.mk A30
 clear A30
 obtain rfl := Option.some.inj H
 go_enter Try.func61, Try.ntmps61
 go_wp2_with (first | ((with_reducible refine gate_dst (N := 2) rfl ?_); refine box_event (by rfl) (N := 2) (by rfl) (cs := #[.int .i64 a0_0, .int .i64 a0_1, .int .i64 a0_2, .int .i64 a0_3]) (t := 79) (by first | (go_simp; done) | (go_simp; rfl)) ?_; intro gb207 hg w4 hbox hb; obtain ⟨hb_, hw_⟩ := box_facts (by repeat (first | (with_reducible first | exact HB.out | apply l1 | apply l2 | apply l3 | refine below_set ?_ GE35.out) | exact HB.out)) hg hb; replace HB := Aside0.mk (hb_); have BK207 := Aside0.mk (hbox); have GW207 := Aside0.mk (hw_); have GE207 := Aside0.mk (hw_); have NB35_207 := Aside0.mk ((by rw [hg]; exact Nat.ne_of_lt (blk_lt (bA BK35.out)) : B1_0 ≠ gb207)); have NB207_35 := Aside0.mk ((by rw [hg]; exact Nat.ne_of_gt (blk_lt (bA BK35.out)) : gb207 ≠ B1_0)); replace BK35 := Aside0.mk (bB BK35.out hb); clear hb hbox hg hb_ hw_; have hnb5 := NB35_207.out; have hnc5 := NB207_35.out; obtain ⟨hcz6_0, hcz6_1, hcz6_2, hcz6_3, hfz6_0, hfz6_1, hfz6_2, hfz6_3⟩ := blk_cells4 BK35.out; obtain ⟨hcz7_0, hcz7_1, hcz7_2, hcz7_3, hfz7_0, hfz7_1, hfz7_2, hfz7_3⟩ := blk_cells4 BK207.out) | ((with_reducible refine gate_callee (f := 62) rfl ?_); refine goesL_ (some 6) rfl rfl Try.func62 (by kernel_rfl) rfl #[.agg #[.int .i64 a1_0, .int .i64 a1_1, .int .i64 a1_2, .int .i64 a1_3], .agg #[.int .i64 a0_0, .int .i64 a0_1, .int .i64 a0_2, .int .i64 a0_3]] rfl (by (try simp only [List.map_toArray, List.map_cons, List.map_nil]); first | done | rfl | (simp only [List.length_drop, List.length_take]; rfl)) ?_; (with_reducible refine (style_crosses.calls a1_0 a1_1 a1_2 a1_3 a0_0 a0_1 a0_2 a0_3 t208 _ A3.out).mono ?_); rintro e w8 ⟨rfl, hb⟩; refine ⟨_, rfl, ?_⟩; replace BK35 := Aside0.mk (bB BK35.out hb); replace BK207 := Aside0.mk (bB BK207.out hb); replace HB := Aside0.mk (below_step (by repeat (first | (with_reducible first | exact HB.out | apply l1 | apply l2 | apply l3 | refine below_set ?_ GE35.out | refine below_set ?_ GE207.out) | exact HB.out)) hb); (try clear hb); (try clear hb2); (try clear hk); (try clear hi)))
 go_ret
 exact ⟨by first | rfl | (simp [errW_none, errW_some] <;> rfl) | (simp [*, errW_none, errW_some] <;> rfl), by repeat (first | (with_reducible first | exact HB.out | apply l1 | apply l2 | apply l3 | refine below_set ?_ GE35.out | refine below_set ?_ GE207.out) | exact HB.out)⟩
def api_Span_71.l0 : Nat → List (S79) → Int → Int → Int → Int → Int → Int → Option (Int)
 | 0, _, _, _, _, _, _, _ => none
 | k + 1, x0, x7, x8, x36000, x36001, x36002, x36003 => if x8 < x7 then (if 0 ≤ x8 then (if x8 < (x0.length : Int) then ((style_Check_1.f ((rd_T79 x0 x8).f0) ((rd_T79 x0 x8).f1) ((rd_T79 x0 x8).f2) ((rd_T79 x0 x8).f3) x36000 x36001 x36002 x36003).bind fun t210 => (if t210 = true then (some x8) else (api_Span_71.l0 k x0 x7 (wrap64 (x8 + 1)) x36000 x36001 x36002 x36003))) else (none)) else (none)) else (some (-1))
def api_Span_71.f (k : Nat) (l0 : List (S79)) (a1_0 : Int) (a1_1 : Int) (a1_2 : Int) (a1_3 : Int) : Option (Int) := api_Span_71.l0 k l0 (l0.length : Int) 0 a1_0 a1_1 a1_2 a1_3
set_option maxHeartbeats 8000000 in
set_option maxRecDepth 100000 in
theorem api_Span_71.calls (k : Nat) (A0 : Option Addr) (c0 : Nat) (l0 : List (S79)) (B1_0 : Nat) (a1_0 : Int) (a1_1 : Int) (a1_2 : Int) (a1_3 : Int) (r : Int) (w : World) (hr0 : Kd.C k79 w A0 l0.length l0) (hc0 : l0.length ≤ c0) (hb1_0 : w.heap[B1_0]? = some (.cells #[.int .i64 a1_0, .int .i64 a1_1, .int .i64 a1_2, .int .i64 a1_3] 79 (0, 0))) (h : api_Span_71.f k l0 a1_0 a1_1 a1_2 a1_3 = some r) :
  Calls Try.prog 71 #[.slice A0 l0.length c0, .func (.func 61) #[] #[.pointer (some ⟨B1_0, 0, none⟩)]] w fun e w' => e = .returned (.int .i64 r) ∧ Below w.heap.size w w' := by
 have hu79 := Try.underlying79
 have HR0 := Aside0.mk hr0
 have HC0 := Aside0.mk hc0
 clear hr0 hc0
 have BK35 := Aside0.mk hb1_0
 clear hb1_0
 have HB := Aside0.mk (Below.refl w.heap.size w)
 have H : (api_Span_71.l0 k l0 (l0.length : Int) 0 a1_0 a1_1 a1_2 a1_3) = some r := h
 clear h
 have H' := Aside0.mk H
 clear H
 go_enter Try.func71, Try.ntmps71
 go_wp2
 (try simp only [Act.put, List.setIfInBounds_toArray, List.set_cons_zero, List.set_cons_succ])
 go_loopg [8] k (fun kq v8 w' => ∃ (x8_1 : Int), v8 = .int .i64 x8_1 ∧ Aside0 (api_Span_71.l0 kq l0 (l0.length : Int) x8_1 a1_0 a1_1 a1_2 a1_3 = some r) ∧ Aside0 (kq ≤ k) ∧ Aside0 (w'.heap[B1_0]? = some (.cells #[.int .i64 a1_0, .int .i64 a1_1, .int .i64 a1_2, .int .i64 a1_3] 79 (0, 0))) ∧ Aside0 (Below w.heap.size w w'))
 case atStart => exact ⟨(0), (by first | rfl | (simp; done) | (simp [*]; done)), H', ⟨Nat.le_refl _⟩, ⟨by (with_reducible repeat (first | apply b1 | apply b2 | apply b3)); exact BK35.out⟩, ⟨by repeat (first | (with_reducible first | exact HB.out | apply l1 | apply l2 | apply l3 | refine below_set ?_ GE35.out) | exact HB.out)⟩⟩
 case round =>
  clear H'
  try clear p2
  obtain ⟨x8_1, rfl, HA, HK1, BK35, HB⟩ := hrel
  cases gk with
  | zero => exact absurd HA.out (by simp [api_Span_71.l0])
  | succ k1 =>
   have H := HA.out
   clear HA
   simp only [api_Span_71.l0] at H
   by_cases c3 : x8_1 < (l0.length : Int)
   ·rw [if_pos c3] at H
    have c3b0 : decide (x8_1 < (l0.length : Int)) = true := decide_eq_true c3
    clear c3
    by_cases c4 : 0 ≤ x8_1
    ·rw [if_pos c4] at H
     have c4b0 : decide (0 ≤ x8_1) = true := decide_eq_true c4
     clear c4
     by_cases c5 : x8_1 < (l0.length : Int)
     ·rw [if_pos c5] at H
      have c5b0 : decide (x8_1 < (l0.length : Int)) = true := decide_eq_true c5
      clear c5
      replace H := Option.bind_eq_some_iff.mp H
      obtain ⟨t210, A60, H⟩ := H
      (try dsimp only at H)
      have A6 := Aside0.mk A60
      clear A60
      by_cases c7 : t210 = true
      ·subst c7
       have H1 : (some x8_1) = some r := by rw [if_pos rfl] at H; exact H
       clear H
       have H := H1
       clear H1
       obtain rfl := Option.some.inj H
       have p209 : 0 ≤ (x8_1 : Int) := of_decide_eq_true (by first | (with_reducible assumption) | assumption)
       have q209 : x8_1 < (l0.length : Int) := of_decide_eq_true (by first | (with_reducible assumption) | assumption)
       obtain ⟨ad209, e209, hx209_0, hx209_1, hx209_2, hx209_3⟩ := at_T79 HR0.out x8_1 p209 q209
       cases e209
       replace hx209_0 := (HB.out.cell (World.block_lt_of_cell? w _ hx209_0)).trans hx209_0
       replace hx209_1 := (HB.out.cell (World.block_lt_of_cell? w _ hx209_1)).trans hx209_1
       replace hx209_2 := (HB.out.cell (World.block_lt_of_cell? w _ hx209_2)).trans hx209_2
       replace hx209_3 := (HB.out.cell (World.block_lt_of_cell? w _ hx209_3)).trans hx209_3
       replace p209 := eq_true p209
       replace q209 := eq_true q209
       go_wp2_with (first | (go_at_call 61; (with_reducible refine (style_Check_1.calls ((rd_T79 l0 x8_1).f0) ((rd_T79 l0 x8_1).f1) ((rd_T79 l0 x8_1).f2) ((rd_T79 l0 x8_1).f3) B1_0 a1_0 a1_1 a1_2 a1_3 true _ ?side1 A6.out).mono ?_); (case side1 => exact by (with_reducible repeat (first | apply b1 | apply b2 | apply b3)); exact BK35.out); rintro e w8 ⟨rfl, hb⟩; replace BK35 := Aside0.mk (bB BK35.out hb); replace HB := Aside0.mk (below_step (by repeat (first | (with_reducible first | exact HB.out | apply l1 | apply l2 | apply l3 | refine below_set ?_ GE35.out) | exact HB.out)) hb); (try clear hb); (try clear hb2); (try clear hk); (try clear hi)))
       go_ret
       exact ⟨by first | rfl | (simp [errW_none, errW_some] <;> rfl) | (simp [*, errW_none, errW_some] <;> rfl), by repeat (first | (with_reducible first | exact HB.out | apply l1 | apply l2 | apply l3 | refine below_set ?_ GE35.out) | exact HB.out)⟩
      ·replace c7 := Bool.eq_false_iff.mpr c7
       subst c7
       have H1 : (api_Span_71.l0 k1 l0 (l0.length : Int) (wrap64 (x8_1 + 1)) a1_0 a1_1 a1_2 a1_3) = some r := by rw [if_neg (show ¬ (false = true) by decide)] at H; exact H
       clear H
       have H := H1
       clear H1
       have H' := Aside0.mk H
       clear H
       have p209 : 0 ≤ (x8_1 : Int) := of_decide_eq_true (by first | (with_reducible assumption) | assumption)
       have q209 : x8_1 < (l0.length : Int) := of_decide_eq_true (by first | (with_reducible assumption) | assumption)
       obtain ⟨ad209, e209, hx209_0, hx209_1, hx209_2, hx209_3⟩ := at_T79 HR0.out x8_1 p209 q209
       cases e209
       replace hx209_0 := (HB.out.cell (World.block_lt_of_cell? w _ hx209_0)).trans hx209_0
       replace hx209_1 := (HB.out.cell (World.block_lt_of_cell? w _ hx209_1)).trans hx209_1
       replace hx209_2 := (HB.out.cell (World.block_lt_of_cell? w _ hx209_2)).trans hx209_2
       replace hx209_3 := (HB.out.cell (World.block_lt_of_cell? w _ hx209_3)).trans hx209_3
       replace p209 := eq_true p209
       replace q209 := eq_true q209
       go_wp2_with (first | (go_at_call 61; (with_reducible refine (style_Check_1.calls ((rd_T79 l0 x8_1).f0) ((rd_T79 l0 x8_1).f1) ((rd_T79 l0 x8_1).f2) ((rd_T79 l0 x8_1).f3) B1_0 a1_0 a1_1 a1_2 a1_3 false _ ?side1 A6.out).mono ?_); (case side1 => exact by (with_reducible repeat (first | apply b1 | apply b2 | apply b3)); exact BK35.out); rintro e w9 ⟨rfl, hb⟩; replace BK35 := Aside0.mk (bB BK35.out hb); replace HB := Aside0.mk (below_step (by repeat (first | (with_reducible first | exact HB.out | apply l1 | apply l2 | apply l3 | refine below_set ?_ GE35.out) | exact HB.out)) hb); (try clear hb); (try clear hb2); (try clear hk); (try clear hi)))
       go_roundg k1
       case measure => have := HK1.out; omega
       case rel => exact ⟨(wrap64 (x8_1 + 1)), (by first | rfl | (simp; done) | (simp [*]; done)), H', ⟨by have := HK1.out; omega⟩, ⟨by (with_reducible repeat (first | apply b1 | apply b2 | apply b3)); exact BK35.out⟩, ⟨by repeat (first | (with_reducible first | exact HB.out | apply l1 | apply l2 | apply l3 | refine below_set ?_ GE35.out) | exact HB.out)⟩⟩
     ·rw [if_neg c5] at H
      exact absurd H (by simp)
    ·rw [if_neg c4] at H
     exact absurd H (by simp)
   ·rw [if_neg c3] at H
    have c3b0 : decide (x8_1 < (l0.length : Int)) = false := decide_eq_false c3
    clear c3
    obtain rfl := Option.some.inj H
    go_wp2
    go_ret
    exact ⟨by first | rfl | (simp [errW_none, errW_some] <;> rfl) | (simp [*, errW_none, errW_some] <;> rfl), by repeat (first | (with_reducible first | exact HB.out | apply l1 | apply l2 | apply l3 | refine below_set ?_ GE35.out) | exact HB.out)⟩
def api_Span_60.f (k : Nat) (l0 : List (S79)) (a1_0 : Int) (a1_1 : Int) (a1_2 : Int) (a1_3 : Int) : Option (Bool) := (api_Span_71.f k l0 a1_0 a1_1 a1_2 a1_3).bind fun t211 => (some (decide (t211 ≥ 0)))
set_option maxHeartbeats 8000000 in
set_option maxRecDepth 100000 in
theorem api_Span_60.calls (k : Nat) (A0 : Option Addr) (c0 : Nat) (l0 : List (S79)) (B1_0 : Nat) (a1_0 : Int) (a1_1 : Int) (a1_2 : Int) (a1_3 : Int) (r : Bool) (w : World) (hr0 : Kd.C k79 w A0 l0.length l0) (hc0 : l0.length ≤ c0) (hb1_0 : w.heap[B1_0]? = some (.cells #[.int .i64 a1_0, .int .i64 a1_1, .int .i64 a1_2, .int .i64 a1_3] 79 (0, 0))) (h : api_Span_60.f k l0 a1_0 a1_1 a1_2 a1_3 = some r) :
  Calls Try.prog 60 #[.slice A0 l0.length c0, .func (.func 61) #[] #[.pointer (some ⟨B1_0, 0, none⟩)]] w fun e w' => e = .returned (.bool r) ∧ Below w.heap.size w w' := by
 have HR0 := Aside0.mk hr0
 have HC0 := Aside0.mk hc0
 clear hr0 hc0
 have BK35 := Aside0.mk hb1_0
 clear hb1_0
 have HB := Aside0.mk (Below.refl w.heap.size w)
 have H : ((api_Span_71.f k l0 a1_0 a1_1 a1_2 a1_3).bind fun t211 => (some (decide (t211 ≥ 0)))) = some r := h
 clear h
 replace H := Option.bind_eq_some_iff.mp H
 obtain ⟨t211, A30, H⟩ := H
 (try dsimp only at H)
 have A3 := Aside0.mk A30
 clear A30
 obtain rfl := Option.some.inj H
 go_enter Try.func60, Try.ntmps60
 go_wp2_with (first | (go_at_call 71; (with_reducible refine (api_Span_71.calls k _ _ l0 B1_0 a1_0 a1_1 a1_2 a1_3 t211 _ ?side1 ?side2 ?side3 A3.out).mono ?_); (case side1 => repeat (first | exact HR0.out | (with_reducible refine Kd.C_alloc ?_ _) | (with_reducible refine Kd.C_drewN ?_ _) | (with_reducible refine Kd.C_drew ?_))); (case side2 => exact HC0.out); (case side3 => exact by (with_reducible repeat (first | apply b1 | apply b2 | apply b3)); exact BK35.out); rintro e w4 ⟨rfl, hb⟩; replace BK35 := Aside0.mk (bB BK35.out hb); replace HB := Aside0.mk (below_step (by repeat (first | (with_reducible first | exact HB.out | apply l1 | apply l2 | apply l3 | refine below_set ?_ GE35.out) | exact HB.out)) hb); (try clear hb); (try clear hb2); (try clear hk); (try clear hi)))
 go_ret
 exact ⟨by first | rfl | (simp [errW_none, errW_some] <;> rfl) | (simp [*, errW_none, errW_some] <;> rfl), by repeat (first | (with_reducible first | exact HB.out | apply l1 | apply l2 | apply l3 | refine below_set ?_ GE35.out) | exact HB.out)⟩
def style_Check.l0 : Nat → Int → List (S79) → Int → Int → ByteArray → List (S79) → Option (Int)
 | 0, _, _, _, _, _, _ => none
 | k + 1, x3, x20, x21, x22, x213000, x213001 => if x22 < x21 then (if 0 ≤ x22 then (if x22 < (x20.length : Int) then ((style_right.f k ((rd_T79 x20 x22).f0) ((rd_T79 x20 x22).f1) ((rd_T79 x20 x22).f2) ((rd_T79 x20 x22).f3) x3).bind fun t216 => (if t216 = true then (if x22 ≤ (x213001.length : Int) then ((api_Span_60.f k (x213001.take (x22 : Int).toNat) ((rd_T79 x20 x22).f0) ((rd_T79 x20 x22).f1) ((rd_T79 x20 x22).f2) ((rd_T79 x20 x22).f3)).bind fun t221 => (if t221 = true then (some 23) else (style_Check.l0 k x3 x20 x21 (wrap64 (x22 + 1)) x213000 x213001))) else (none)) else (some 23))) else (none)) else (none)) else (some 0)
def style_Check.f (k : Nat) (a0_0 : ByteArray) (l0_1 : List (S79)) : Option (Int) := if (a0_0.size : Int) > 4096 then (some 3) else (if (l0_1.length : Int) > 256 then (some 2) else ((utf_Count.f a0_0).bind fun t213 => (style_Check.l0 k t213 l0_1 (l0_1.length : Int) 0 a0_0 l0_1)))
set_option maxHeartbeats 8000000 in
set_option maxRecDepth 100000 in
theorem style_Check.calls (k : Nat) (a0_0 : ByteArray) (A0_1 : Option Addr) (c0_1 : Nat) (l0_1 : List (S79)) (r : Int) (w : World) (hr0_1 : Kd.C k79 w A0_1 l0_1.length l0_1) (hc0_1 : l0_1.length ≤ c0_1) (h : style_Check.f k a0_0 l0_1 = some r) :
  Calls Try.prog 48 #[.agg #[.string a0_0, .slice A0_1 l0_1.length c0_1]] w fun e w' => e = .returned (.int .i64 r) ∧ Below w.heap.size w w' := by
 have hmf : ∀ (fn : Fn) (first cap : Array Value) (w : World), (Instr.makeFunc fn first cap).run Try.prog w = .ok (.func fn first cap) w := fun _ _ _ _ => rfl
 have hu36 := Try.underlying36
 have hu79 := Try.underlying79
 have HR0_1 := Aside0.mk hr0_1
 have HC0_1 := Aside0.mk hc0_1
 clear hr0_1 hc0_1
 have HB := Aside0.mk (Below.refl w.heap.size w)
 have H : (if (a0_0.size : Int) > 4096 then (some 3) else (if (l0_1.length : Int) > 256 then (some 2) else ((utf_Count.f a0_0).bind fun t213 => (style_Check.l0 k t213 l0_1 (l0_1.length : Int) 0 a0_0 l0_1)))) = some r := h
 clear h
 by_cases c2 : (a0_0.size : Int) > 4096
 ·rw [if_pos c2] at H
  have c2b0 : decide (4096 < (a0_0.size : Int)) = true := decide_eq_true c2
  have c2b1 : decide (4096 < a0_0.size) = true := decide_eq_true (by omega)
  clear c2
  obtain rfl := Option.some.inj H
  go_enter Try.func48, Try.ntmps48
  go_wp2_with (first | ((with_reducible refine gate_dst (N := 1) rfl ?_); refine box_event (by rfl) (N := 1) (by rfl) (cs := #[.string a0_0, .slice A0_1 l0_1.length c0_1]) (t := 36) (by first | (go_simp; done) | (go_simp; rfl)) ?_; intro gb212 hg w3 hbox hb; obtain ⟨hb_, hw_⟩ := box_facts (lA HB.out) hg hb; replace HB := Aside0.mk (hb_); have BK212 := Aside0.mk (hbox); have GW212 := Aside0.mk (hw_); have GE212 := Aside0.mk (hw_); clear hb hbox hg hb_ hw_; obtain ⟨hcz4_0, hcz4_1, hfz4_0, hfz4_1⟩ := blk_cells2 BK212.out))
  go_ret
  exact ⟨by first | rfl | (simp [errW_none, errW_some] <;> rfl) | (simp [*, errW_none, errW_some] <;> rfl), by repeat (first | (with_reducible first | exact HB.out | apply l1 | apply l2 | apply l3 | refine below_set ?_ GE212.out) | exact HB.out)⟩
 ·rw [if_neg c2] at H
  have c2b0 : decide (4096 < (a0_0.size : Int)) = false := decide_eq_false c2
  have c2b1 : decide (4096 < a0_0.size) = false := decide_eq_false (by omega)
  clear c2
  by_cases c5 : (l0_1.length : Int) > 256
  ·rw [if_pos c5] at H
   have c5b0 : decide (256 < (l0_1.length : Int)) = true := decide_eq_true c5
   have c5b1 : decide (256 < l0_1.length) = true := decide_eq_true (by omega)
   clear c5
   obtain rfl := Option.some.inj H
   go_enter Try.func48, Try.ntmps48
   go_wp2_with (first | ((with_reducible refine gate_dst (N := 1) rfl ?_); refine box_event (by rfl) (N := 1) (by rfl) (cs := #[.string a0_0, .slice A0_1 l0_1.length c0_1]) (t := 36) (by first | (go_simp; done) | (go_simp; rfl)) ?_; intro gb212 hg w6 hbox hb; obtain ⟨hb_, hw_⟩ := box_facts (lA HB.out) hg hb; replace HB := Aside0.mk (hb_); have BK212 := Aside0.mk (hbox); have GW212 := Aside0.mk (hw_); have GE212 := Aside0.mk (hw_); clear hb hbox hg hb_ hw_; obtain ⟨hcz7_0, hcz7_1, hfz7_0, hfz7_1⟩ := blk_cells2 BK212.out))
   go_ret
   exact ⟨by first | rfl | (simp [errW_none, errW_some] <;> rfl) | (simp [*, errW_none, errW_some] <;> rfl), by repeat (first | (with_reducible first | exact HB.out | apply l1 | apply l2 | apply l3 | refine below_set ?_ GE212.out) | exact HB.out)⟩
  ·rw [if_neg c5] at H
   have c5b0 : decide (256 < (l0_1.length : Int)) = false := decide_eq_false c5
   have c5b1 : decide (256 < l0_1.length) = false := decide_eq_false (by omega)
   clear c5
   replace H := Option.bind_eq_some_iff.mp H
   obtain ⟨t213, A80, H⟩ := H
   (try dsimp only at H)
   have A8 := Aside0.mk A80
   clear A80
   have H' := Aside0.mk H
   clear H
   go_enter Try.func48, Try.ntmps48
   go_wp2_with (first | ((with_reducible refine gate_dst (N := 1) rfl ?_); refine box_event (by rfl) (N := 1) (by rfl) (cs := #[.string a0_0, .slice A0_1 l0_1.length c0_1]) (t := 36) (by first | (go_simp; done) | (go_simp; rfl)) ?_; intro gb212 hg w9 hbox hb; obtain ⟨hb_, hw_⟩ := box_facts (lA HB.out) hg hb; replace HB := Aside0.mk (hb_); have BK212 := Aside0.mk (hbox); have GW212 := Aside0.mk (hw_); have GE212 := Aside0.mk (hw_); clear hb hbox hg hb_ hw_; obtain ⟨hcz10_0, hcz10_1, hfz10_0, hfz10_1⟩ := blk_cells2 BK212.out) | ((with_reducible refine gate_callee (f := 58) rfl ?_); refine goesL_ (some 18) rfl rfl Try.func58 (by kernel_rfl) rfl #[.string a0_0] rfl (by (try simp only [List.map_toArray, List.map_cons, List.map_nil]); first | done | rfl | (simp only [List.length_drop, List.length_take]; rfl)) ?_; (with_reducible refine (utf_Count.calls a0_0 t213 _ A8.out).mono ?_); rintro e w11 ⟨rfl, hb⟩; refine ⟨_, rfl, ?_⟩; replace BK212 := Aside0.mk (bB BK212.out hb); replace HB := Aside0.mk (below_step (by repeat (first | (with_reducible first | exact HB.out | apply l1 | apply l2 | apply l3 | refine below_set ?_ GE212.out) | exact HB.out)) hb); (try clear hb); (try clear hb2); (try clear hk); (try clear hi); obtain ⟨hcz12_0, hcz12_1, hfz12_0, hfz12_1⟩ := blk_cells2 BK212.out))
   (try simp only [Act.put, List.setIfInBounds_toArray, List.set_cons_zero, List.set_cons_succ])
   go_loopg [22] k (fun kq v22 w' => ∃ (x22_1 : Int), v22 = .int .i64 x22_1 ∧ Aside0 (style_Check.l0 kq t213 l0_1 (l0_1.length : Int) x22_1 a0_0 l0_1 = some r) ∧ Aside0 (kq ≤ k) ∧ Aside0 (w'.heap[gb212]? = some (.cells #[.string a0_0, (.slice A0_1 l0_1.length c0_1)] 36 (0, 0))) ∧ Aside0 (Below w.heap.size w w'))
   case atStart => exact ⟨(0), (by first | rfl | (simp; done) | (simp [*]; done)), H', ⟨Nat.le_refl _⟩, ⟨by (with_reducible repeat (first | apply b1 | apply b2 | apply b3)); exact BK212.out⟩, ⟨by repeat (first | (with_reducible first | exact HB.out | apply l1 | apply l2 | apply l3 | refine below_set ?_ GE212.out) | exact HB.out)⟩⟩
   case round =>
    clear H'
    try clear c2
    try clear c2b0
    try clear c2b1
    try clear p2
    try clear c4
    try clear c5
    try clear c5b0
    try clear c5b1
    try clear hcz10_0
    try clear hcz10_1
    try clear hcz12_0
    try clear hcz12_1
    try clear hcz4_0
    try clear hcz4_1
    try clear hcz7_0
    try clear hcz7_1
    try clear hfz10_0
    try clear hfz10_1
    try clear hfz12_0
    try clear hfz12_1
    try clear hfz4_0
    try clear hfz4_1
    try clear hfz7_0
    try clear hfz7_1
    obtain ⟨x22_1, rfl, HA, HK1, BK212, HB⟩ := hrel
    cases gk with
    | zero => exact absurd HA.out (by simp [style_Check.l0])
    | succ k1 =>
     have H := HA.out
     clear HA
     simp only [style_Check.l0] at H
     by_cases c13 : x22_1 < (l0_1.length : Int) <;> first
     |(rw [if_pos c13] at H
       have c13b0 : decide (x22_1 < (l0_1.length : Int)) = true := decide_eq_true c13
       clear c13
       by_cases c14 : 0 ≤ x22_1 <;> first
       |(rw [if_pos c14] at H
         have c14b0 : decide (0 ≤ x22_1) = true := decide_eq_true c14
         clear c14
         by_cases c15 : x22_1 < (l0_1.length : Int) <;> first
         |(rw [if_pos c15] at H
           have c15b0 : decide (x22_1 < (l0_1.length : Int)) = true := decide_eq_true c15
           clear c15
           replace H := Option.bind_eq_some_iff.mp H
           obtain ⟨t216, A160, H⟩ := H
           (try dsimp only at H)
           have A16 := Aside0.mk A160
           clear A160
           by_cases c17 : t216 = true <;> first
           |(subst c17
             have H1 : (if x22_1 ≤ (l0_1.length : Int) then ((api_Span_60.f k1 (l0_1.take (x22_1 : Int).toNat) ((rd_T79 l0_1 x22_1).f0) ((rd_T79 l0_1 x22_1).f1) ((rd_T79 l0_1 x22_1).f2) ((rd_T79 l0_1 x22_1).f3)).bind fun t221 => (if t221 = true then (some 23) else (style_Check.l0 k1 t213 l0_1 (l0_1.length : Int) (wrap64 (x22_1 + 1)) a0_0 l0_1))) else (none)) = some r := by rw [if_pos rfl] at H; exact H
             clear H
             have H := H1
             clear H1
             have c18b0 := eq_true (of_decide_eq_true (by first | (with_reducible assumption) | assumption) : 0 ≤ x22_1)
             by_cases c19 : x22_1 ≤ (l0_1.length : Int) <;> first
             |(rw [if_pos c19] at H
               have c19b0 := eq_true c19
               have c19b1 : decide (x22_1 ≤ (l0_1.length : Int)) = true := decide_eq_true c19
               clear c19
               obtain ⟨y217, hy217⟩ : ∃ y_ : List (S79), y_ = (l0_1.take (x22_1 : Int).toNat) := ⟨_, rfl⟩
               replace H : ((api_Span_60.f k1 y217 ((rd_T79 l0_1 x22_1).f0) ((rd_T79 l0_1 x22_1).f1) ((rd_T79 l0_1 x22_1).f2) ((rd_T79 l0_1 x22_1).f3)).bind fun t221 => (if t221 = true then (some 23) else (style_Check.l0 k1 t213 l0_1 (l0_1.length : Int) (wrap64 (x22_1 + 1)) a0_0 l0_1))) = some r := by first | (rw [hy217]; with_reducible exact H) | (have H2_ := (Option.bind_some _ _).symm.trans H; rw [hy217]; with_reducible exact H2_) | (have H2_ := (Option.bind_some _ _).symm.trans H; with_reducible exact H2_) | with_reducible exact H | (rw [hy217]; exact H) | exact H
               have Ny217 := Aside0.mk hy217
               clear hy217
               replace H := Option.bind_eq_some_iff.mp H
               obtain ⟨t221, A200, H⟩ := H
               (try dsimp only at H)
               have A20 := Aside0.mk A200
               clear A200
               by_cases c21 : t221 = true <;> first
               |(subst c21
                 have H1 : (some 23) = some r := by rw [if_pos rfl] at H; exact H
                 clear H
                 have H := H1
                 clear H1
                 obtain rfl := Option.some.inj H
                 have p214 : 0 ≤ (x22_1 : Int) := of_decide_eq_true (by first | (with_reducible assumption) | assumption)
                 have q214 : x22_1 < (l0_1.length : Int) := of_decide_eq_true (by first | (with_reducible assumption) | assumption)
                 obtain ⟨ad214, e214, hx214_0, hx214_1, hx214_2, hx214_3⟩ := at_T79 HR0_1.out x22_1 p214 q214
                 cases e214
                 replace hx214_0 := (HB.out.cell (World.block_lt_of_cell? w _ hx214_0)).trans hx214_0
                 replace hx214_1 := (HB.out.cell (World.block_lt_of_cell? w _ hx214_1)).trans hx214_1
                 replace hx214_2 := (HB.out.cell (World.block_lt_of_cell? w _ hx214_2)).trans hx214_2
                 replace hx214_3 := (HB.out.cell (World.block_lt_of_cell? w _ hx214_3)).trans hx214_3
                 replace p214 := eq_true p214
                 replace q214 := eq_true q214
                 have z55 := trivial)
               |(replace c21 := Bool.eq_false_iff.mpr c21
                 subst c21
                 have H1 : (style_Check.l0 k1 t213 l0_1 (l0_1.length : Int) (wrap64 (x22_1 + 1)) a0_0 l0_1) = some r := by rw [if_neg (show ¬ (false = true) by decide)] at H; exact H
                 clear H
                 have H := H1
                 clear H1
                 have H' := Aside0.mk H
                 clear H
                 have p214 : 0 ≤ (x22_1 : Int) := of_decide_eq_true (by first | (with_reducible assumption) | assumption)
                 have q214 : x22_1 < (l0_1.length : Int) := of_decide_eq_true (by first | (with_reducible assumption) | assumption)
                 obtain ⟨ad214, e214, hx214_0, hx214_1, hx214_2, hx214_3⟩ := at_T79 HR0_1.out x22_1 p214 q214
                 cases e214
                 replace hx214_0 := (HB.out.cell (World.block_lt_of_cell? w _ hx214_0)).trans hx214_0
                 replace hx214_1 := (HB.out.cell (World.block_lt_of_cell? w _ hx214_1)).trans hx214_1
                 replace hx214_2 := (HB.out.cell (World.block_lt_of_cell? w _ hx214_2)).trans hx214_2
                 replace hx214_3 := (HB.out.cell (World.block_lt_of_cell? w _ hx214_3)).trans hx214_3
                 replace p214 := eq_true p214
                 replace q214 := eq_true q214
                 have z56 := trivial))
             |(rw [if_neg c19] at H
               exact absurd H (by simp)))
           |(replace c17 := Bool.eq_false_iff.mpr c17
             subst c17
             have H1 : (some 23) = some r := by rw [if_neg (show ¬ (false = true) by decide)] at H; exact H
             clear H
             have H := H1
             clear H1
             obtain rfl := Option.some.inj H
             have p214 : 0 ≤ (x22_1 : Int) := of_decide_eq_true (by first | (with_reducible assumption) | assumption)
             have q214 : x22_1 < (l0_1.length : Int) := of_decide_eq_true (by first | (with_reducible assumption) | assumption)
             obtain ⟨ad214, e214, hx214_0, hx214_1, hx214_2, hx214_3⟩ := at_T79 HR0_1.out x22_1 p214 q214
             cases e214
             replace hx214_0 := (HB.out.cell (World.block_lt_of_cell? w _ hx214_0)).trans hx214_0
             replace hx214_1 := (HB.out.cell (World.block_lt_of_cell? w _ hx214_1)).trans hx214_1
             replace hx214_2 := (HB.out.cell (World.block_lt_of_cell? w _ hx214_2)).trans hx214_2
             replace hx214_3 := (HB.out.cell (World.block_lt_of_cell? w _ hx214_3)).trans hx214_3
             replace p214 := eq_true p214
             replace q214 := eq_true q214
             have z57 := trivial))
         |(rw [if_neg c15] at H
           exact absurd H (by simp)))
       |(rw [if_neg c14] at H
         exact absurd H (by simp)))
     |(rw [if_neg c13] at H
       have c13b0 : decide (x22_1 < (l0_1.length : Int)) = false := decide_eq_false c13
       clear c13
       obtain rfl := Option.some.inj H
       have z58 := trivial)
     all_goals
      go_wp2_with (first | ((with_reducible refine gate_dst (N := 5) rfl ?_); refine box_event (by rfl) (N := 5) (by rfl) (cs := #[.int .i64 0, .int .i64 0, .int .i64 0, .int .i64 0]) (t := 79) (by first | (go_simp; done) | (go_simp; rfl)) ?_; intro gb215 hg w29 hbox hb; obtain ⟨hb_, hw_⟩ := box_facts (by repeat (first | (with_reducible first | exact HB.out | apply l1 | apply l2 | apply l3 | refine below_set ?_ GE212.out) | exact HB.out)) hg hb; replace HB := Aside0.mk (hb_); have BK215 := Aside0.mk (hbox); have GW215 := Aside0.mk (hw_); have GE215 := Aside0.mk (hw_); have NB212_215 := Aside0.mk ((nL hg BK212.out)); have NB215_212 := Aside0.mk ((nG hg BK212.out)); replace BK212 := Aside0.mk (bB BK212.out hb); clear hb hbox hg hb_ hw_; have hnb30 := NB215_212.out; have hnc30 := NB212_215.out; obtain ⟨hcz31_0, hcz31_1, hcz31_2, hcz31_3, hfz31_0, hfz31_1, hfz31_2, hfz31_3⟩ := blk_cells4 BK215.out) | ((revert z57; intro z57); ((with_reducible refine gate_callee (f := 59) rfl ?_); refine goesL_ (some 29) rfl rfl Try.func59 (by kernel_rfl) rfl #[.agg #[.int .i64 ((rd_T79 l0_1 x22_1).f0), .int .i64 ((rd_T79 l0_1 x22_1).f1), .int .i64 ((rd_T79 l0_1 x22_1).f2), .int .i64 ((rd_T79 l0_1 x22_1).f3)], .int .i64 t213] rfl (by (try simp only [List.map_toArray, List.map_cons, List.map_nil]); first | done | rfl | (simp only [List.length_drop, List.length_take]; rfl)) ?_; (with_reducible refine (style_right.calls k1 ((rd_T79 l0_1 x22_1).f0) ((rd_T79 l0_1 x22_1).f1) ((rd_T79 l0_1 x22_1).f2) ((rd_T79 l0_1 x22_1).f3) t213 false _ A16.out).mono ?_); rintro e w39 ⟨rfl, hb⟩; refine ⟨_, rfl, ?_⟩; replace BK212 := Aside0.mk (blk_below (g := gb212) (o := .cells #[.string a0_0, .slice (some ad214) l0_1.length c0_1] 36 (0, 0)) (by (with_reducible repeat (first | apply b1 | apply b2 | apply b3)); refine blk_far ?_ NB212_215.out _; (with_reducible repeat (first | apply b1 | apply b2 | apply b3)); refine blk_far ?_ NB212_215.out _; (with_reducible repeat (first | apply b1 | apply b2 | apply b3)); refine blk_far ?_ NB212_215.out _; (with_reducible repeat (first | apply b1 | apply b2 | apply b3)); refine blk_far ?_ NB212_215.out _; (with_reducible repeat (first | apply b1 | apply b2 | apply b3)); exact BK212.out) hb); replace BK215 := Aside0.mk (blk_below (g := gb215) (o := .cells #[.int .i64 ((rd_T79 l0_1 x22_1).f0), .int .i64 ((rd_T79 l0_1 x22_1).f1), .int .i64 ((rd_T79 l0_1 x22_1).f2), .int .i64 ((rd_T79 l0_1 x22_1).f3)] 79 (0, 0)) (by (with_reducible repeat (first | apply b1 | apply b2 | apply b3)); refine blk_put (cs := #[.int .i64 ((rd_T79 l0_1 x22_1).f0), .int .i64 ((rd_T79 l0_1 x22_1).f1), .int .i64 ((rd_T79 l0_1 x22_1).f2), .int .i64 0]) ?_ 3 _ rfl; (with_reducible repeat (first | apply b1 | apply b2 | apply b3)); refine blk_put (cs := #[.int .i64 ((rd_T79 l0_1 x22_1).f0), .int .i64 ((rd_T79 l0_1 x22_1).f1), .int .i64 0, .int .i64 0]) ?_ 2 _ rfl; (with_reducible repeat (first | apply b1 | apply b2 | apply b3)); refine blk_put (cs := #[.int .i64 ((rd_T79 l0_1 x22_1).f0), .int .i64 0, .int .i64 0, .int .i64 0]) ?_ 1 _ rfl; (with_reducible repeat (first | apply b1 | apply b2 | apply b3)); refine blk_put (cs := #[.int .i64 0, .int .i64 0, .int .i64 0, .int .i64 0]) ?_ 0 _ rfl; (with_reducible repeat (first | apply b1 | apply b2 | apply b3)); exact BK215.out) hb); replace HB := Aside0.mk (below_step (by repeat (first | (with_reducible first | exact HB.out | apply l1 | apply l2 | apply l3 | refine below_set ?_ GE212.out | refine below_set ?_ GE215.out) | exact HB.out)) hb); (try clear hb); (try clear hb2); (try clear hk); (try clear hi))) | ((first | (revert z55; intro z55) | (revert z56; intro z56)); ((with_reducible refine gate_callee (f := 59) rfl ?_); refine goesL_ (some 29) rfl rfl Try.func59 (by kernel_rfl) rfl #[.agg #[.int .i64 ((rd_T79 l0_1 x22_1).f0), .int .i64 ((rd_T79 l0_1 x22_1).f1), .int .i64 ((rd_T79 l0_1 x22_1).f2), .int .i64 ((rd_T79 l0_1 x22_1).f3)], .int .i64 t213] rfl (by (try simp only [List.map_toArray, List.map_cons, List.map_nil]); first | done | rfl | (simp only [List.length_drop, List.length_take]; rfl)) ?_; (with_reducible refine (style_right.calls k1 ((rd_T79 l0_1 x22_1).f0) ((rd_T79 l0_1 x22_1).f1) ((rd_T79 l0_1 x22_1).f2) ((rd_T79 l0_1 x22_1).f3) t213 true _ A16.out).mono ?_); rintro e w32 ⟨rfl, hb⟩; refine ⟨_, rfl, ?_⟩; replace BK212 := Aside0.mk (blk_below (g := gb212) (o := .cells #[.string a0_0, .slice (some ad214) l0_1.length c0_1] 36 (0, 0)) (by (with_reducible repeat (first | apply b1 | apply b2 | apply b3)); refine blk_far ?_ NB212_215.out _; (with_reducible repeat (first | apply b1 | apply b2 | apply b3)); refine blk_far ?_ NB212_215.out _; (with_reducible repeat (first | apply b1 | apply b2 | apply b3)); refine blk_far ?_ NB212_215.out _; (with_reducible repeat (first | apply b1 | apply b2 | apply b3)); refine blk_far ?_ NB212_215.out _; (with_reducible repeat (first | apply b1 | apply b2 | apply b3)); exact BK212.out) hb); replace BK215 := Aside0.mk (blk_below (g := gb215) (o := .cells #[.int .i64 ((rd_T79 l0_1 x22_1).f0), .int .i64 ((rd_T79 l0_1 x22_1).f1), .int .i64 ((rd_T79 l0_1 x22_1).f2), .int .i64 ((rd_T79 l0_1 x22_1).f3)] 79 (0, 0)) (by (with_reducible repeat (first | apply b1 | apply b2 | apply b3)); refine blk_put (cs := #[.int .i64 ((rd_T79 l0_1 x22_1).f0), .int .i64 ((rd_T79 l0_1 x22_1).f1), .int .i64 ((rd_T79 l0_1 x22_1).f2), .int .i64 0]) ?_ 3 _ rfl; (with_reducible repeat (first | apply b1 | apply b2 | apply b3)); refine blk_put (cs := #[.int .i64 ((rd_T79 l0_1 x22_1).f0), .int .i64 ((rd_T79 l0_1 x22_1).f1), .int .i64 0, .int .i64 0]) ?_ 2 _ rfl; (with_reducible repeat (first | apply b1 | apply b2 | apply b3)); refine blk_put (cs := #[.int .i64 ((rd_T79 l0_1 x22_1).f0), .int .i64 0, .int .i64 0, .int .i64 0]) ?_ 1 _ rfl; (with_reducible repeat (first | apply b1 | apply b2 | apply b3)); refine blk_put (cs := #[.int .i64 0, .int .i64 0, .int .i64 0, .int .i64 0]) ?_ 0 _ rfl; (with_reducible repeat (first | apply b1 | apply b2 | apply b3)); exact BK215.out) hb); replace HB := Aside0.mk (below_step (by repeat (first | (with_reducible first | exact HB.out | apply l1 | apply l2 | apply l3 | refine below_set ?_ GE212.out | refine below_set ?_ GE215.out) | exact HB.out)) hb); (try clear hb); (try clear hb2); (try clear hk); (try clear hi); obtain ⟨hcz33_0, hcz33_1, hfz33_0, hfz33_1⟩ := blk_cells2 BK212.out; have q34 : (x22_1 : Int) ≤ ((l0_1.length : Int) : Int) := of_decide_eq_true (by first | (with_reducible assumption) | assumption); obtain ⟨i034, hi034, _, hsz34, _⟩ := info_parts info79; have hroom34 : l0_1.length ≤ c0_1 := HC0_1.out; have hC34 : Kd.C k79 _ (some ad214) l0_1.length l0_1 := HR0_1.out; have hcut34 := cut_to (P := Try.prog) 34 79 .i64 Try.underlying34 hi034 (some ad214) l0_1.length c0_1 x22_1 (of_decide_eq_true (by first | (with_reducible assumption) | assumption)) q34 hroom34; have hr34 := Kd.C_take (m := (x22_1 : Int).toNat) hC34 (by omega); have hy34 : y217.length = (x22_1 : Int).toNat := (by rw [Ny217.out, List.length_take]; omega); rw [← Ny217.out] at hr34; rw [← hy34] at hcut34; have HR220 := Aside0.mk hr34; have HC220 := Aside0.mk (show y217.length ≤ c0_1 from by omega); clear hr34 hC34 hroom34 hi034 hsz34; have KY34 := Aside0.mk hy34; clear hy34; replace q34 := eq_true q34)) | ((revert z55; intro z55); (go_at_call 60; (with_reducible refine (api_Span_60.calls k1 _ _ y217 gb215 ((rd_T79 l0_1 x22_1).f0) ((rd_T79 l0_1 x22_1).f1) ((rd_T79 l0_1 x22_1).f2) ((rd_T79 l0_1 x22_1).f3) true _ ?side1 ?side2 ?side3 A20.out).mono ?_); (case side1 => repeat (first | exact (Kd.C_below HR220.out HB.out) | (with_reducible refine Kd.C_alloc ?_ _) | (with_reducible refine Kd.C_drewN ?_ _) | (with_reducible refine Kd.C_drew ?_))); (case side2 => exact HC220.out); (case side3 => exact by (with_reducible repeat (first | apply b1 | apply b2 | apply b3)); exact BK215.out); rintro e w28 ⟨rfl, hb⟩; replace BK212 := Aside0.mk (bB BK212.out hb); replace BK215 := Aside0.mk (bB BK215.out hb); replace HB := Aside0.mk (below_step (by repeat (first | (with_reducible first | exact HB.out | apply l1 | apply l2 | apply l3 | refine below_set ?_ GE212.out | refine below_set ?_ GE215.out) | exact HB.out)) hb); (try clear hb); (try clear hb2); (try clear hk); (try clear hi))) | ((revert z56; intro z56); (go_at_call 60; (with_reducible refine (api_Span_60.calls k1 _ _ y217 gb215 ((rd_T79 l0_1 x22_1).f0) ((rd_T79 l0_1 x22_1).f1) ((rd_T79 l0_1 x22_1).f2) ((rd_T79 l0_1 x22_1).f3) false _ ?side1 ?side2 ?side3 A20.out).mono ?_); (case side1 => repeat (first | exact (Kd.C_below HR220.out HB.out) | (with_reducible refine Kd.C_alloc ?_ _) | (with_reducible refine Kd.C_drewN ?_ _) | (with_reducible refine Kd.C_drew ?_))); (case side2 => exact HC220.out); (case side3 => exact by (with_reducible repeat (first | apply b1 | apply b2 | apply b3)); exact BK215.out); rintro e w35 ⟨rfl, hb⟩; replace BK212 := Aside0.mk (bB BK212.out hb); replace BK215 := Aside0.mk (bB BK215.out hb); replace HB := Aside0.mk (below_step (by repeat (first | (with_reducible first | exact HB.out | apply l1 | apply l2 | apply l3 | refine below_set ?_ GE212.out | refine below_set ?_ GE215.out) | exact HB.out)) hb); (try clear hb); (try clear hb2); (try clear hk); (try clear hi))))
      first
      |((revert z56; intro z56)
        go_roundg k1
        case measure => have := HK1.out; omega
        case rel => exact ⟨(wrap64 (x22_1 + 1)), (by first | rfl | (simp; done) | (simp [*]; done)), H', ⟨by have := HK1.out; omega⟩, ⟨by (with_reducible repeat (first | apply b1 | apply b2 | apply b3)); exact BK212.out⟩, ⟨by repeat (first | (with_reducible first | exact HB.out | apply l1 | apply l2 | apply l3 | refine below_set ?_ GE212.out | refine below_set ?_ GE215.out) | exact HB.out)⟩⟩)
      |((first | (revert z55; intro z55) | (revert z57; intro z57))
        go_ret
        exact ⟨by first | rfl | (simp [errW_none, errW_some] <;> rfl) | (simp [*, errW_none, errW_some] <;> rfl), by repeat (first | (with_reducible first | exact HB.out | apply l1 | apply l2 | apply l3 | refine below_set ?_ GE212.out | refine below_set ?_ GE215.out) | exact HB.out)⟩)
      |((revert z58; intro z58)
        go_ret
        exact ⟨by first | rfl | (simp [errW_none, errW_some] <;> rfl) | (simp [*, errW_none, errW_some] <;> rfl), by repeat (first | (with_reducible first | exact HB.out | apply l1 | apply l2 | apply l3 | refine below_set ?_ GE212.out) | exact HB.out)⟩)
end Go.Proofs.Ytlbicmdfdpcdiaa.PDa
