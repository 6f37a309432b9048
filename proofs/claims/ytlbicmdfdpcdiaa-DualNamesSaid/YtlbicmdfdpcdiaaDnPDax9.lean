-- printed
import Derived.Test.YtlbicmdfdpcdiaaDnPDax0
import Derived.Test.YtlbicmdfdpcdiaaDnPDax1
import Derived.Test.YtlbicmdfdpcdiaaDnPDax5
import Derived.Test.YtlbicmdfdpcdiaaDnPDax8
namespace Go.Proofs.Ytlbicmdfdpcdiaa.PDa
open Go.RowKit Go.Proofs.YtlbicmdfdpcdiaaW.PrintWords Go.Proofs.YtlbicmdfdpcdiaaW.PrintLast Go.Proofs.YtlbicmdfdpcdiaaW.PrintMore
attribute [local go_sem] max2_int min2_int max_two min_two max_three min_three max_four min_four
set_option linter.unusedVariables false
set_option linter.unusedSimpArgs false
attribute [local go_sem high] eqA33
def ratio_Right.f (k : Nat) (a0_0 : Int) (a0_1 : Int) : Option (Bool) := if a0_1 < 1 then (some false) else ((ratio_New.f k a0_0 a0_1).bind fun bt192 => (if bt192.2.2 = 0 then (some (bt192.1 == a0_0 && (bt192.2.1 == a0_1))) else (some false)))
set_option maxHeartbeats 8000000 in
set_option maxRecDepth 100000 in
theorem ratio_Right.calls (k : Nat) (a0_0 : Int) (a0_1 : Int) (r : Bool) (w : World) (h : ratio_Right.f k a0_0 a0_1 = some r) :
  Calls Try.prog 51 #[.agg #[.int .i64 a0_0, .int .i64 a0_1]] w fun e w' => e = .returned (.bool r) ∧ Below w.heap.size w w' := by
 have hu33 := Try.underlying33
 have HB := Aside0.mk (Below.refl w.heap.size w)
 have H : (if a0_1 < 1 then (some false) else ((ratio_New.f k a0_0 a0_1).bind fun bt192 => (if bt192.2.2 = 0 then (some (bt192.1 == a0_0 && (bt192.2.1 == a0_1))) else (some false)))) = some r := h
 clear h
 by_cases c2 : a0_1 < 1 <;> first
 |(rw [if_pos c2] at H
   have c2b0 : decide (a0_1 < 1) = true := decide_eq_true c2
   clear c2
   obtain rfl := Option.some.inj H
   have z28 := trivial)
 |(rw [if_neg c2] at H
   have c2b0 : decide (a0_1 < 1) = false := decide_eq_false c2
   clear c2
   replace H := Option.bind_eq_some_iff.mp H
   obtain ⟨⟨t192, t193, t194⟩, A50, H⟩ := H
   (try dsimp only at H)
   have A5 := Aside0.mk A50
   clear A50
   by_cases c6 : t194 = 0 <;> first
   |(rw [if_pos c6] at H
     have c6b0 : (t194 == 0) = true := beq_iff_eq.mpr c6
     have c6b1 : (t194 != 0) = false := bne_eq_false_iff_eq.mpr c6
     clear c6
     obtain rfl := Option.some.inj H
     have z29 := trivial)
   |(rw [if_neg c6] at H
     have c6b0 : (t194 == 0) = false := beq_eq_false_iff_ne.mpr c6
     have c6b1 : (t194 != 0) = true := bne_iff_ne.mpr c6
     obtain rfl := Option.some.inj H
     have z30 := trivial))
 all_goals
  go_enter Try.func51, Try.ntmps51
  go_wp2_with (first | ((with_reducible refine gate_dst (N := 1) rfl ?_); refine box_event (by rfl) (N := 1) (by rfl) (cs := #[.int .i64 a0_0, .int .i64 a0_1]) (t := 33) (by first | (go_simp; done) | (go_simp; rfl)) ?_; intro gb191 hg w7 hbox hb; obtain ⟨hb_, hw_⟩ := box_facts (lA HB.out) hg hb; replace HB := Aside0.mk (hb_); have BK191 := Aside0.mk (hbox); have GW191 := Aside0.mk (hw_); have GE191 := Aside0.mk (hw_); clear hb hbox hg hb_ hw_; obtain ⟨hcz8_0, hcz8_1, hfz8_0, hfz8_1⟩ := blk_cells2 BK191.out) | ((first | (revert z29; intro z29) | (revert z30; intro z30)); ((with_reducible refine gate_callee (f := 63) rfl ?_); refine goesL_ (some 13) rfl rfl Try.func63 (by kernel_rfl) rfl #[.int .i64 a0_0, .int .i64 a0_1] rfl (by (try simp only [List.map_toArray, List.map_cons, List.map_nil]); first | done | rfl | (simp only [List.length_drop, List.length_take]; rfl)) ?_; (with_reducible refine (ratio_New.calls k a0_0 a0_1 t192 t193 t194 _ A5.out).mono ?_); rintro e w9 ⟨rfl, hb⟩; refine ⟨_, rfl, ?_⟩; replace BK191 := Aside0.mk (bB BK191.out hb); replace HB := Aside0.mk (below_step (by repeat (first | (with_reducible first | exact HB.out | apply l1 | apply l2 | apply l3 | refine below_set ?_ GE191.out) | exact HB.out)) hb); (try clear hb); (try clear hb2); (try clear hk); (try clear hi))) | ((revert z30; intro z30); ((with_reducible refine gate_dst (N := 3) rfl ?_); refine box_event (by rfl) (N := 3) (by rfl) (cs := #[.int .i64 0, .int .i64 0]) (t := 33) (by first | (go_simp; done) | (go_simp; rfl)) ?_; intro gb195 hg w17 hbox hb; obtain ⟨hb_, hw_⟩ := box_facts (by repeat (first | (with_reducible first | exact HB.out | apply l1 | apply l2 | apply l3 | refine below_set ?_ GE191.out) | exact HB.out)) hg hb; replace HB := Aside0.mk (hb_); have BK195 := Aside0.mk (hbox); have GW195 := Aside0.mk (hw_); have GE195 := Aside0.mk (hw_); have NB191_195 := Aside0.mk ((nL hg BK191.out)); have NB195_191 := Aside0.mk ((nG hg BK191.out)); replace BK191 := Aside0.mk (bB BK191.out hb); clear hb hbox hg hb_ hw_; have hnb18 := NB195_191.out; have hnc18 := NB191_195.out; obtain ⟨hcz19_0, hcz19_1, hfz19_0, hfz19_1⟩ := blk_cells2 BK195.out)) | ((revert z29; intro z29); ((with_reducible refine gate_dst (N := 3) rfl ?_); refine box_event (by rfl) (N := 3) (by rfl) (cs := #[.int .i64 0, .int .i64 0]) (t := 33) (by first | (go_simp; done) | (go_simp; rfl)) ?_; intro gb195 hg w10 hbox hb; obtain ⟨hb_, hw_⟩ := box_facts (by repeat (first | (with_reducible first | exact HB.out | apply l1 | apply l2 | apply l3 | refine below_set ?_ GE191.out) | exact HB.out)) hg hb; replace HB := Aside0.mk (hb_); have BK195 := Aside0.mk (hbox); have GW195 := Aside0.mk (hw_); have GE195 := Aside0.mk (hw_); have NB191_195 := Aside0.mk ((nL hg BK191.out)); have NB195_191 := Aside0.mk ((nG hg BK191.out)); replace BK191 := Aside0.mk (bB BK191.out hb); clear hb hbox hg hb_ hw_; have hnb11 := NB195_191.out; have hnc11 := NB191_195.out; obtain ⟨hcz12_0, hcz12_1, hfz12_0, hfz12_1⟩ := blk_cells2 BK195.out; obtain ⟨hcz13_0, hcz13_1, hfz13_0, hfz13_1⟩ := blk_cells2 BK191.out)))
  go_ret
  first
  |((first | (revert z29; intro z29) | (revert z30; intro z30))
    exact ⟨by first | rfl | (simp [errW_none, errW_some] <;> rfl) | (simp [*, errW_none, errW_some] <;> rfl), by repeat (first | (with_reducible first | exact HB.out | apply l1 | apply l2 | apply l3 | refine below_set ?_ GE191.out | refine below_set ?_ GE195.out) | exact HB.out)⟩)
  |((revert z28; intro z28)
    exact ⟨by first | rfl | (simp [errW_none, errW_some] <;> rfl) | (simp [*, errW_none, errW_some] <;> rfl), by repeat (first | (with_reducible first | exact HB.out | apply l1 | apply l2 | apply l3 | refine below_set ?_ GE191.out) | exact HB.out)⟩)
def ratio_Time.j0 : Nat → Bool → Int → Int → Option (Int)
 | 0, _, _, _ => none
 | k + 1, x3, x197000, x197001 => if x3 = true then (some 12) else (if x197000 < 0 then (some 31) else ((ratio_Cmp.f x197000 x197001 360000 1).bind fun t198 => (if t198 > 0 then (some 31) else (some 0))))
def ratio_Time.f (k : Nat) (a0_0 : Int) (a0_1 : Int) : Option (Int) := (ratio_Right.f k a0_0 a0_1).bind fun t197 => (if t197 = true then (ratio_Time.j0 k (decide (a0_1 > 1048576)) a0_0 a0_1) else (ratio_Time.j0 k true a0_0 a0_1))
set_option maxHeartbeats 8000000 in
set_option maxRecDepth 100000 in
theorem ratio_Time.calls (k : Nat) (a0_0 : Int) (a0_1 : Int) (r : Int) (w : World) (h : ratio_Time.f k a0_0 a0_1 = some r) :
  Calls Try.prog 46 #[.agg #[.int .i64 a0_0, .int .i64 a0_1]] w fun e w' => e = .returned (.int .i64 r) ∧ Below w.heap.size w w' := by
 have hu33 := Try.underlying33
 have HB := Aside0.mk (Below.refl w.heap.size w)
 have H : ((ratio_Right.f k a0_0 a0_1).bind fun t197 => (if t197 = true then (ratio_Time.j0 k (decide (a0_1 > 1048576)) a0_0 a0_1) else (ratio_Time.j0 k true a0_0 a0_1))) = some r := h
 clear h
 have HC2 := Aside0.mk H
 clear H
 go_enter Try.func46, Try.ntmps46
 go_upto_region 1 with (first | ((with_reducible refine gate_dst (N := 1) rfl ?_); refine box_event (by rfl) (N := 1) (by rfl) (cs := #[.int .i64 a0_0, .int .i64 a0_1]) (t := 33) (by first | (go_simp; done) | (go_simp; rfl)) ?_; intro gb196 hg w3 hbox hb; obtain ⟨hb_, hw_⟩ := box_facts (lA HB.out) hg hb; replace HB := Aside0.mk (hb_); have BK196 := Aside0.mk (hbox); have GW196 := Aside0.mk (hw_); have GE196 := Aside0.mk (hw_); clear hb hbox hg hb_ hw_))
 (try simp only [Act.put, List.setIfInBounds_toArray, List.set_cons_zero, List.set_cons_succ])
 go_cut [3] (fun v3 wc => ∃ (kq : Nat) (x3_1 : Bool), v3 = .bool x3_1 ∧ Aside0 (ratio_Time.j0 kq x3_1 a0_0 a0_1 = some r) ∧ Aside0 (kq ≤ k) ∧ Aside0 (wc.heap[gb196]? = some (.cells #[.int .i64 a0_0, .int .i64 a0_1] 33 (0, 0))) ∧ Aside0 (Below w.heap.size w wc))
 case first =>
  have H := HC2.out
  clear HC2
  replace H := Option.bind_eq_some_iff.mp H
  obtain ⟨t197, A40, H⟩ := H
  (try dsimp only at H)
  have A4 := Aside0.mk A40
  clear A40
  by_cases c5 : t197 = true
  ·subst c5
   have H1 : (ratio_Time.j0 k (decide (a0_1 > 1048576)) a0_0 a0_1) = some r := by rw [if_pos rfl] at H; exact H
   clear H
   have H := H1
   clear H1
   have H' := Aside0.mk H
   clear H
   obtain ⟨hcz6_0, hcz6_1, hfz6_0, hfz6_1⟩ := blk_cells2 BK196.out
   go_wp2_with (first | ((with_reducible refine gate_callee (f := 51) rfl ?_); refine goesL_ (some 5) rfl rfl Try.func51 (by kernel_rfl) rfl #[.agg #[.int .i64 a0_0, .int .i64 a0_1]] rfl (by (try simp only [List.map_toArray, List.map_cons, List.map_nil]); first | done | rfl | (simp only [List.length_drop, List.length_take]; rfl)) ?_; (with_reducible refine (ratio_Right.calls k a0_0 a0_1 true _ A4.out).mono ?_); rintro e w7 ⟨rfl, hb⟩; refine ⟨_, rfl, ?_⟩; replace BK196 := Aside0.mk (bB BK196.out hb); replace HB := Aside0.mk (below_step (by repeat (first | (with_reducible first | exact HB.out | apply l1 | apply l2 | apply l3 | refine below_set ?_ GE196.out) | exact HB.out)) hb); (try clear hb); (try clear hb2); (try clear hk); (try clear hi); obtain ⟨hcz8_0, hcz8_1, hfz8_0, hfz8_1⟩ := blk_cells2 BK196.out))
   go_meet
   case rel => exact ⟨_, (decide (a0_1 > 1048576)), (by first | rfl | (simp; done) | (simp [*]; done)), H', ⟨by first | omega | exact Nat.le_refl _⟩, ⟨by (with_reducible repeat (first | apply b1 | apply b2 | apply b3)); exact BK196.out⟩, ⟨by repeat (first | (with_reducible first | exact HB.out | apply l1 | apply l2 | apply l3 | refine below_set ?_ GE196.out) | exact HB.out)⟩⟩
  ·replace c5 := Bool.eq_false_iff.mpr c5
   subst c5
   have H1 : (ratio_Time.j0 k true a0_0 a0_1) = some r := by rw [if_neg (show ¬ (false = true) by decide)] at H; exact H
   clear H
   have H := H1
   clear H1
   have H' := Aside0.mk H
   clear H
   obtain ⟨hcz9_0, hcz9_1, hfz9_0, hfz9_1⟩ := blk_cells2 BK196.out
   go_wp2_with (first | ((with_reducible refine gate_callee (f := 51) rfl ?_); refine goesL_ (some 5) rfl rfl Try.func51 (by kernel_rfl) rfl #[.agg #[.int .i64 a0_0, .int .i64 a0_1]] rfl (by (try simp only [List.map_toArray, List.map_cons, List.map_nil]); first | done | rfl | (simp only [List.length_drop, List.length_take]; rfl)) ?_; (with_reducible refine (ratio_Right.calls k a0_0 a0_1 false _ A4.out).mono ?_); rintro e w10 ⟨rfl, hb⟩; refine ⟨_, rfl, ?_⟩; replace BK196 := Aside0.mk (bB BK196.out hb); replace HB := Aside0.mk (below_step (by repeat (first | (with_reducible first | exact HB.out | apply l1 | apply l2 | apply l3 | refine below_set ?_ GE196.out) | exact HB.out)) hb); (try clear hb); (try clear hb2); (try clear hk); (try clear hi)))
   go_meet
   case rel => exact ⟨_, (true), (by first | rfl | (simp; done) | (simp [*]; done)), H', ⟨by first | omega | exact Nat.le_refl _⟩, ⟨by (with_reducible repeat (first | apply b1 | apply b2 | apply b3)); exact BK196.out⟩, ⟨by repeat (first | (with_reducible first | exact HB.out | apply l1 | apply l2 | apply l3 | refine below_set ?_ GE196.out) | exact HB.out)⟩⟩
 case rest =>
  clear HC2
  try clear p2
  try clear c4
  try clear c5
  try clear hcz6_0
  try clear hcz6_1
  try clear hcz8_0
  try clear hcz8_1
  try clear hcz9_0
  try clear hcz9_1
  try clear hfz6_0
  try clear hfz6_1
  try clear hfz8_0
  try clear hfz8_1
  try clear hfz9_0
  try clear hfz9_1
  obtain ⟨kq, x3_1, rfl, HA, HJ1, BK196, HB⟩ := hcut
  cases kq with
  | zero => exact absurd HA.out (by simp [ratio_Time.j0])
  | succ kj1 =>
   have H := HA.out
   clear HA
   simp only [ratio_Time.j0] at H
   by_cases c11 : x3_1 = true
   ·subst c11
    have H1 : (some 12) = some r := by rw [if_pos rfl] at H; exact H
    clear H
    have H := H1
    clear H1
    obtain rfl := Option.some.inj H
    go_wp2
    go_ret
    exact ⟨by first | rfl | (simp [errW_none, errW_some] <;> rfl) | (simp [*, errW_none, errW_some] <;> rfl), by repeat (first | (with_reducible first | exact HB.out | apply l1 | apply l2 | apply l3 | refine below_set ?_ GE196.out) | exact HB.out)⟩
   ·replace c11 := Bool.eq_false_iff.mpr c11
    subst c11
    have H1 : (if a0_0 < 0 then (some 31) else ((ratio_Cmp.f a0_0 a0_1 360000 1).bind fun t198 => (if t198 > 0 then (some 31) else (some 0)))) = some r := by rw [if_neg (show ¬ (false = true) by decide)] at H; exact H
    clear H
    have H := H1
    clear H1
    by_cases c12 : a0_0 < 0
    ·rw [if_pos c12] at H
     have c12b0 : decide (a0_0 < 0) = true := decide_eq_true c12
     clear c12
     obtain rfl := Option.some.inj H
     obtain ⟨hcz13_0, hcz13_1, hfz13_0, hfz13_1⟩ := blk_cells2 BK196.out
     go_wp2
     go_ret
     exact ⟨by first | rfl | (simp [errW_none, errW_some] <;> rfl) | (simp [*, errW_none, errW_some] <;> rfl), by repeat (first | (with_reducible first | exact HB.out | apply l1 | apply l2 | apply l3 | refine below_set ?_ GE196.out) | exact HB.out)⟩
    ·rw [if_neg c12] at H
     have c12b0 : decide (a0_0 < 0) = false := decide_eq_false c12
     clear c12
     replace H := Option.bind_eq_some_iff.mp H
     obtain ⟨t198, A140, H⟩ := H
     (try dsimp only at H)
     have A14 := Aside0.mk A140
     clear A140
     by_cases c15 : t198 > 0
     ·rw [if_pos c15] at H
      have c15b0 : decide (0 < t198) = true := decide_eq_true c15
      clear c15
      obtain rfl := Option.some.inj H
      obtain ⟨hcz16_0, hcz16_1, hfz16_0, hfz16_1⟩ := blk_cells2 BK196.out
      go_wp2_with (first | (go_at_call 29; (with_reducible refine (ratio_Cmp.calls a0_0 a0_1 360000 1 t198 _ A14.out).mono ?_); rintro e w17 ⟨rfl, hb⟩; replace BK196 := Aside0.mk (bB BK196.out hb); replace HB := Aside0.mk (below_step (by repeat (first | (with_reducible first | exact HB.out | apply l1 | apply l2 | apply l3 | refine below_set ?_ GE196.out) | exact HB.out)) hb); (try clear hb); (try clear hb2); (try clear hk); (try clear hi)))
      go_ret
      exact ⟨by first | rfl | (simp [errW_none, errW_some] <;> rfl) | (simp [*, errW_none, errW_some] <;> rfl), by repeat (first | (with_reducible first | exact HB.out | apply l1 | apply l2 | apply l3 | refine below_set ?_ GE196.out) | exact HB.out)⟩
     ·rw [if_neg c15] at H
      have c15b0 : decide (0 < t198) = false := decide_eq_false c15
      clear c15
      obtain rfl := Option.some.inj H
      obtain ⟨hcz18_0, hcz18_1, hfz18_0, hfz18_1⟩ := blk_cells2 BK196.out
      go_wp2_with (first | (go_at_call 29; (with_reducible refine (ratio_Cmp.calls a0_0 a0_1 360000 1 t198 _ A14.out).mono ?_); rintro e w19 ⟨rfl, hb⟩; replace BK196 := Aside0.mk (bB BK196.out hb); replace HB := Aside0.mk (below_step (by repeat (first | (with_reducible first | exact HB.out | apply l1 | apply l2 | apply l3 | refine below_set ?_ GE196.out) | exact HB.out)) hb); (try clear hb); (try clear hb2); (try clear hk); (try clear hi)))
      go_ret
      exact ⟨by first | rfl | (simp [errW_none, errW_some] <;> rfl) | (simp [*, errW_none, errW_some] <;> rfl), by repeat (first | (with_reducible first | exact HB.out | apply l1 | apply l2 | apply l3 | refine below_set ?_ GE196.out) | exact HB.out)⟩
def utf8_RuneLen.j0 : Nat → Int → Bool → Option (Int)
 | 0, _, _ => none
 | k + 1, x0, x12 => if x12 = true then (some (-1)) else (if x0 ≤ 65535 then (some 3) else (if x0 ≤ 1114111 then (some 4) else (some (-1))))
def utf8_RuneLen.f (k : Nat) (a0 : Int) : Option (Int) := if a0 < 0 then (some (-1)) else (if a0 ≤ 127 then (some 1) else (if a0 ≤ 2047 then (some 2) else (if 55296 ≤ a0 then (utf8_RuneLen.j0 k a0 (decide (a0 ≤ 57343))) else (utf8_RuneLen.j0 k a0 false))))
set_option maxHeartbeats 8000000 in
set_option maxRecDepth 100000 in
theorem utf8_RuneLen.calls (k : Nat) (a0 : Int) (r : Int) (w : World) (h : utf8_RuneLen.f k a0 = some r) :
  Calls Try.prog 69 #[.int .i32 a0] w fun e w' => e = .returned (.int .i64 r) ∧ Drawn0 w w' := by
 have H : (if a0 < 0 then (some (-1)) else (if a0 ≤ 127 then (some 1) else (if a0 ≤ 2047 then (some 2) else (if 55296 ≤ a0 then (utf8_RuneLen.j0 k a0 (decide (a0 ≤ 57343))) else (utf8_RuneLen.j0 k a0 false))))) = some r := h
 clear h
 by_cases c2 : a0 < 0
 ·rw [if_pos c2] at H
  have c2b0 : decide (a0 < 0) = true := decide_eq_true c2
  clear c2
  obtain rfl := Option.some.inj H
  go_enter Try.func69, Try.ntmps69
  go_wp2
  go_ret
  exact ⟨by first | rfl | (simp; done) | (simp [*]; done), by repeat (first | exact Drawn0.refl _ | apply Drawn0.step)⟩
 ·rw [if_neg c2] at H
  have c2b0 : decide (a0 < 0) = false := decide_eq_false c2
  clear c2
  by_cases c3 : a0 ≤ 127
  ·rw [if_pos c3] at H
   have c3b0 : decide (a0 ≤ 127) = true := decide_eq_true c3
   clear c3
   obtain rfl := Option.some.inj H
   go_enter Try.func69, Try.ntmps69
   go_wp2
   go_ret
   exact ⟨by first | rfl | (simp; done) | (simp [*]; done), by repeat (first | exact Drawn0.refl _ | apply Drawn0.step)⟩
  ·rw [if_neg c3] at H
   have c3b0 : decide (a0 ≤ 127) = false := decide_eq_false c3
   clear c3
   by_cases c4 : a0 ≤ 2047
   ·rw [if_pos c4] at H
    have c4b0 : decide (a0 ≤ 2047) = true := decide_eq_true c4
    clear c4
    obtain rfl := Option.some.inj H
    go_enter Try.func69, Try.ntmps69
    go_wp2
    go_ret
    exact ⟨by first | rfl | (simp; done) | (simp [*]; done), by repeat (first | exact Drawn0.refl _ | apply Drawn0.step)⟩
   ·rw [if_neg c4] at H
    have c4b0 : decide (a0 ≤ 2047) = false := decide_eq_false c4
    clear c4
    have HC5 := Aside0.mk H
    clear H
    go_enter Try.func69, Try.ntmps69
    go_upto_region 7 with (fail)
    go_cut [12] (fun v12 wc => ∃ (kq : Nat) (x12_4 : Bool), v12 = .bool x12_4 ∧ Aside0 (utf8_RuneLen.j0 kq a0 x12_4 = some r) ∧ Aside0 (kq ≤ k) ∧ Drawn0 w wc)
    case first =>
     have H := HC5.out
     clear HC5
     by_cases c6 : 55296 ≤ a0
     ·rw [if_pos c6] at H
      have c6b0 : decide (55296 ≤ a0) = true := decide_eq_true c6
      clear c6
      (first | rw [c6b0] | (simp only [i64_w, i32_w]; rw [c6b0]) | skip)
      have H' := Aside0.mk H
      clear H
      go_wp2
      go_meet
      case rel => exact ⟨_, (decide (a0 ≤ 57343)), (by first | rfl | (simp; done) | (simp [*]; done)), H', ⟨by first | omega | exact Nat.le_refl _⟩, by repeat (first | exact Drawn0.refl _ | apply Drawn0.step)⟩
     ·rw [if_neg c6] at H
      have c6b0 : decide (55296 ≤ a0) = false := decide_eq_false c6
      clear c6
      (first | rw [c6b0] | (simp only [i64_w, i32_w]; rw [c6b0]) | skip)
      have H' := Aside0.mk H
      clear H
      go_wp2
      go_meet
      case rel => exact ⟨_, (false), (by first | rfl | (simp; done) | (simp [*]; done)), H', ⟨by first | omega | exact Nat.le_refl _⟩, by repeat (first | exact Drawn0.refl _ | apply Drawn0.step)⟩
    case rest =>
     clear HC5
     try clear c2
     try clear c2b0
     try clear p2
     try clear c3
     try clear c3b0
     try clear c4
     try clear c4b0
     try clear c6
     try clear c6b0
     obtain ⟨kq, x12_4, rfl, HA, HJ4, ⟨mc4, rfl⟩⟩ := hcut
     cases kq with
     | zero => exact absurd HA.out (by simp [utf8_RuneLen.j0])
     | succ kj4 =>
      have H := HA.out
      clear HA
      simp only [utf8_RuneLen.j0] at H
      by_cases c7 : x12_4 = true
      ·subst c7
       have H1 : (some (-1)) = some r := by rw [if_pos rfl] at H; exact H
       clear H
       have H := H1
       clear H1
       obtain rfl := Option.some.inj H
       go_wp2
       go_ret
       exact ⟨by first | rfl | (simp; done) | (simp [*]; done), by repeat (first | exact Drawn0.refl _ | apply Drawn0.step)⟩
      ·replace c7 := Bool.eq_false_iff.mpr c7
       subst c7
       have H1 : (if a0 ≤ 65535 then (some 3) else (if a0 ≤ 1114111 then (some 4) else (some (-1)))) = some r := by rw [if_neg (show ¬ (false = true) by decide)] at H; exact H
       clear H
       have H := H1
       clear H1
       by_cases c8 : a0 ≤ 65535
       ·rw [if_pos c8] at H
        have c8b0 : decide (a0 ≤ 65535) = true := decide_eq_true c8
        clear c8
        obtain rfl := Option.some.inj H
        go_wp2
        go_ret
        exact ⟨by first | rfl | (simp; done) | (simp [*]; done), by repeat (first | exact Drawn0.refl _ | apply Drawn0.step)⟩
       ·rw [if_neg c8] at H
        have c8b0 : decide (a0 ≤ 65535) = false := decide_eq_false c8
        clear c8
        by_cases c9 : a0 ≤ 1114111
        ·rw [if_pos c9] at H
         have c9b0 : decide (a0 ≤ 1114111) = true := decide_eq_true c9
         clear c9
         obtain rfl := Option.some.inj H
         go_wp2
         go_ret
         exact ⟨by first | rfl | (simp; done) | (simp [*]; done), by repeat (first | exact Drawn0.refl _ | apply Drawn0.step)⟩
        ·rw [if_neg c9] at H
         have c9b0 : decide (a0 ≤ 1114111) = false := decide_eq_false c9
         clear c9
         obtain rfl := Option.some.inj H
         go_wp2
         go_ret
         exact ⟨by first | rfl | (simp; done) | (simp [*]; done), by repeat (first | exact Drawn0.refl _ | apply Drawn0.step)⟩
def stringslite_HasPrefix.f (a0 : ByteArray) (a1 : ByteArray) : Option (Bool) := if (a0.size : Int) ≥ (a1.size : Int) then (if 0 ≤ (a1.size : Int) then (if (a1.size : Int) ≤ (a0.size : Int) then (some ((a0.extract 0 ((a1.size : Int) : Int).toNat).toList == a1.toList)) else (none)) else (none)) else (some false)
set_option maxHeartbeats 8000000 in
set_option maxRecDepth 100000 in
theorem stringslite_HasPrefix.calls (a0 : ByteArray) (a1 : ByteArray) (r : Bool) (w : World) (h : stringslite_HasPrefix.f a0 a1 = some r) :
  Calls Try.prog 78 #[.string a0, .string a1] w fun e w' => e = .returned (.bool r) ∧ Drawn0 w w' := by
 have H : (if (a0.size : Int) ≥ (a1.size : Int) then (if 0 ≤ (a1.size : Int) then (if (a1.size : Int) ≤ (a0.size : Int) then (some ((a0.extract 0 ((a1.size : Int) : Int).toNat).toList == a1.toList)) else (none)) else (none)) else (some false)) = some r := h
 clear h
 by_cases c3 : (a0.size : Int) ≥ (a1.size : Int)
 ·rw [if_pos c3] at H
  have c3b0 : decide ((a1.size : Int) ≤ (a0.size : Int)) = true := decide_eq_true c3
  have c3b1 : decide (a1.size ≤ a0.size) = true := decide_eq_true (Int.ofNat_le.mp c3)
  clear c3
  by_cases c4 : 0 ≤ (a1.size : Int)
  ·rw [if_pos c4] at H
   have c4b0 := eq_true c4
   have c4b1 : decide (0 ≤ (a1.size : Int)) = true := decide_eq_true c4
   clear c4
   by_cases c5 : (a1.size : Int) ≤ (a0.size : Int)
   ·rw [if_pos c5] at H
    have c5b0 := eq_true c5
    have c5b1 : decide ((a1.size : Int) ≤ (a0.size : Int)) = true := decide_eq_true c5
    clear c5
    obtain rfl := Option.some.inj H
    go_enter Try.func78, Try.ntmps78
    go_wp2
    go_ret
    exact ⟨by first | rfl | (simp; done) | (simp [*]; done), by repeat (first | exact Drawn0.refl _ | apply Drawn0.step)⟩
   ·rw [if_neg c5] at H
    exact absurd H (by simp)
  ·rw [if_neg c4] at H
   exact absurd H (by simp)
 ·rw [if_neg c3] at H
  have c3b0 : decide ((a1.size : Int) ≤ (a0.size : Int)) = false := decide_eq_false c3
  have c3b1 : decide (a1.size ≤ a0.size) = false := decide_eq_false (fun h => c3 (Int.ofNat_le.mpr h))
  clear c3
  obtain rfl := Option.some.inj H
  go_enter Try.func78, Try.ntmps78
  go_wp2
  go_ret
  exact ⟨by first | rfl | (simp; done) | (simp [*]; done), by repeat (first | exact Drawn0.refl _ | apply Drawn0.step)⟩
def strings_HasPrefix.f (a0 : ByteArray) (a1 : ByteArray) : Option (Bool) := (stringslite_HasPrefix.f a0 a1).bind fun t199 => (some t199)
set_option maxHeartbeats 8000000 in
set_option maxRecDepth 100000 in
theorem strings_HasPrefix.calls (a0 : ByteArray) (a1 : ByteArray) (r : Bool) (w : World) (h : strings_HasPrefix.f a0 a1 = some r) :
  Calls Try.prog 70 #[.string a0, .string a1] w fun e w' => e = .returned (.bool r) ∧ Drawn0 w w' := by
 have H : ((stringslite_HasPrefix.f a0 a1).bind fun t199 => (some t199)) = some r := h
 clear h
 replace H := Option.bind_eq_some_iff.mp H
 obtain ⟨t199, A30, H⟩ := H
 (try dsimp only at H)
 have A3 := Aside0.mk A30
 clear A30
 obtain rfl := Option.some.inj H
 go_enter Try.func70, Try.ntmps70
 go_wp2_with (first | ((with_reducible refine gate_callee (f := 78) rfl ?_); refine goesL_ (some 7) rfl rfl Try.func78 (by kernel_rfl) rfl #[.string a0, .string a1] rfl (by (try simp only [List.map_toArray, List.map_cons, List.map_nil]); first | done | rfl | (simp only [List.length_drop, List.length_take]; rfl)) ?_; (with_reducible refine (stringslite_HasPrefix.calls a0 a1 t199 _ A3.out).mono ?_); rintro e w' ⟨rfl, ⟨nd, rfl⟩⟩; refine ⟨_, rfl, ?_⟩))
 go_ret
 exact ⟨by first | rfl | (simp; done) | (simp [*]; done), by repeat (first | exact Drawn0.refl _ | apply Drawn0.step)⟩
def rlen (r : Int) : Int := if r < 0 then -1 else if r ≤ 127 then 1 else if r ≤ 2047 then 2 else if 55296 ≤ r ∧ r ≤ 57343 then -1 else if r ≤ 65535 then 3 else if r ≤ 1114111 then 4 else -1
theorem rlen_tells (r : Int) : utf8_RuneLen.f 1 r = some (rlen r) := by
 unfold utf8_RuneLen.f rlen
 simp only [utf8_RuneLen.j0]
 by_cases h1 : r < 0
 ·rw [if_pos h1, if_pos h1]
 by_cases h2 : r ≤ 127
 ·rw [if_neg h1, if_neg h1, if_pos h2, if_pos h2]
 by_cases h3 : r ≤ 2047
 ·rw [if_neg h1, if_neg h1, if_neg h2, if_neg h2, if_pos h3, if_pos h3]
 rw [if_neg h1, if_neg h1, if_neg h2, if_neg h2, if_neg h3, if_neg h3]
 by_cases h4 : 55296 ≤ r
 ·by_cases h5 : r ≤ 57343
  ·simp [h4, h5]
  ·simp only [h4, h5, if_true, decide_false, and_false, if_false, Bool.false_eq_true]
   split
   ·rfl
   ·split <;> rfl
 ·simp only [h4, false_and, if_false, Bool.false_eq_true]
  split
  ·rfl
  ·split <;> rfl
def good3 (s : ByteArray) (p : Nat) : Bool := ((strings_HasPrefix.f (s.extract p s.size) ⟨#[239, 191, 189]⟩).getD false)
theorem good3_tells (s : ByteArray) (p : Nat) : strings_HasPrefix.f (s.extract p s.size) ⟨#[239, 191, 189]⟩ = some (good3 s p) := by
 unfold good3
 have : ∃ b, strings_HasPrefix.f (s.extract p s.size) ⟨#[239, 191, 189]⟩ = some b := by
  unfold strings_HasPrefix.f stringslite_HasPrefix.f
  split
  ·exact ⟨_, rfl⟩
  ·exact ⟨_, rfl⟩
 obtain ⟨b, h⟩ := this
 rw [h]; rfl
def sRune (s : ByteArray) (p : Nat) : Int := ((Utf8.decode s p).1 : Int)
def sLen (s : ByteArray) (p : Nat) : Int := if sRune s p = 65533 then (if good3 s p = true then 3 else 1) else rlen (sRune s p)
def sBad (s : ByteArray) (p : Nat) : Bool := decide (sRune s p = 65533) && !good3 s p
def sVal (s : ByteArray) (p : Nat) : Value := .agg #[.int .i64 (p : Int), .int .i64 (sLen s p), .int .i32 (sRune s p), .bool (sBad s p)]
def posns (s : ByteArray) : Nat → Nat → List Nat
 | 0, _ => []
 | f + 1, p => if p < s.size then p :: posns s f (p + (Utf8.decode s p).2) else []
def places (s : ByteArray) : List Nat := posns s s.size 0
theorem posns_end (s : ByteArray) (f p : Nat) (h : ¬ p < s.size) : posns s f p = [] := by cases f <;> simp [posns, h]
theorem grownBy_iterAt (W : World) (k : Nat) (s : ByteArray) (pos : Nat) : W.grownBy (W.iterAt k s pos) (some k) :=
 ⟨rfl, rfl, rfl, by rw [Lib.iterAt_size]; exact Nat.le_refl _, fun i _ hi => Lib.iterAt_other W k i s pos (fun e => hi (by rw [e]))⟩
def SKeeps (Bn : Nat) (W W' : World) : Prop := KeepsWalks W W' ∧ ∀ v, W.cell? ⟨Bn, 0, none⟩ = some v → W'.cell? ⟨Bn, 0, none⟩ = some v
theorem SKeeps.t {Bn : Nat} {A B C : World} (h : SKeeps Bn A B) (k : SKeeps Bn B C) : SKeeps Bn A C := ⟨h.1.trans k.1, fun v hv => k.2 v (h.2 v hv)⟩
theorem SKeeps.b {Bn : Nat} {w : World} (W : World) (l : Nat) (o o' : Obj) (hl : w.heap.size ≤ l) (h : W.heap[l]? = some o) (hc : o.isCells = false) (hw : o.isWalk = false) : SKeeps Bn W (W.putObj l o') :=
 ⟨KeepsWalks.putObj _ h hw, fun v hv => cell_kept hv (grownBy_putObj' W l o') (fun r e => by cases e; exact ⟨o, h, hc⟩)⟩
theorem cell_iterAt {W : World} {k b : Nat} {s : ByteArray} {pos : Nat} {v : Value} (hb : b ≠ k) (h : W.cell? ⟨b, 0, none⟩ = some v) : (W.iterAt k s pos).cell? ⟨b, 0, none⟩ = some v := by
 rw [← h]; simp only [World.cell?, Lib.iterAt_other W k b s pos hb]
set_option maxRecDepth 100000 in
set_option maxHeartbeats 4000000 in
theorem signs1_in (l Bn : Nat) (s : ByteArray) (J Jx : List Nat → World → Prop) (W : World) (hs : s.size < 9223372036854775807) (hBn : Bn < W.heap.size)
  (hJ : AbidesFrom W.heap.size J) (hJx : AbidesFrom W.heap.size Jx)
  (hY : ∀ pre x W1, J pre W1 → x ∈ places s → pre.length < s.size → YieldAt Fence.wide 5 Try.prog l #[sVal s x] W1 fun e W' =>
   (e = .returned (.bool true) ∧ J (pre ++ [x]) W' ∧ SKeeps Bn W1 W') ∨ (e = .returned (.bool false) ∧ Jx (pre ++ [x]) W'))
  (hc : W.cell? ⟨Bn, 0, none⟩ = some (.string s)) (h0 : J [] W) :
  CallsIn Fence.wide 6 Try.prog 68 #[.func (.yield l) #[] #[], .pointer (some ⟨Bn, 0, none⟩)] W fun e W' => (∃ v, e = .returned v) ∧
   ((∃ ys, ys = places s ∧ J ys W') ∨ (∃ pre, pre <+: places s ∧ Jx pre W')) := by
 have hu9 := Try.underlying9
 refine callsIn_of_wp Try.func68 rfl trivial ?_ rfl
 simp only [Try.ntmps68, List.size_toArray, List.length_cons, List.length_nil, Nat.reduceAdd, Nat.reduceSub, Array.replicate_succ, Array.replicate_zero, List.push_toArray, List.append_toArray, List.nil_append, List.cons_append]
 gi_wp2
 gi_loopw [] (fun wr => ∃ (pre : List Nat) (pos b : Nat), J pre wr ∧ Aside0 (wr.heap[W.heap.size]? = some (.stringIter s pos)) ∧ Aside0 (pre ++ posns s b pos = places s) ∧ s.size ≤ pos + b ∧ wr.cell? ⟨Bn, 0, none⟩ = some (.string s) ∧ pre.length ≤ pos) (fun wr => s.size - wr.iterPos W.heap.size)
 case atStart => exact ⟨[], 0, s.size, hJ _ _ _ none h0 (World.grownBy_alloc W _ none) (fun r e => by cases e), ⟨World.iter_heap W s 0⟩, ⟨rfl⟩, by omega, ((Below.refl _ W).alloc (Nat.le_refl _) _).cell (p := ⟨Bn, 0, none⟩) hBn |>.trans hc, Nat.le_refl _⟩
 case round =>
  obtain ⟨pre, pos, b, hJs, hit, hpre, hb, hbx, hpl⟩ := hrel
  by_cases hp : pos < s.size
  ·have hnx : ∀ ty, (Instr.next (.pointer (some ⟨W.heap.size, 0, none⟩)) true ty).run Try.prog wr = _ := fun ty => Lib.run_next_any_at wr W.heap.size s pos ty hit.out hp
   have hwd := Lib.decode_width_pos s pos hp
   have hJ2 : J pre (wr.iterAt W.heap.size s (pos + (Utf8.decode s pos).2)) := hJ _ _ _ (some W.heap.size) hJs (grownBy_iterAt wr W.heap.size s _) (fun r e => by cases e; exact ⟨Nat.le_refl _, _, hit.out, rfl⟩)
   have hbx2 : (wr.iterAt W.heap.size s (pos + (Utf8.decode s pos).2)).cell? ⟨Bn, 0, none⟩ = some (.string s) := cell_iterAt (by omega) hbx
   have hip := Aside0.mk (iterPos_of hit.out)
   have hit2 := Aside0.mk (Lib.iterAt_heap wr W.heap.size s pos (pos + (Utf8.decode s pos).2) hit.out)
   have hnext : Aside0 (∃ b', b = b' + 1 ∧ posns s b pos = pos :: posns s b' (pos + (Utf8.decode s pos).2)) := by
    cases b with
    | zero => omega
    | succ b' => exact ⟨b', rfl, by simp [posns, hp]⟩
   obtain ⟨X, hX⟩ : ∃ X, wr.iterAt W.heap.size s (pos + (Utf8.decode s pos).2) = X := ⟨_, rfl⟩
   rw [hX] at hJ2 hbx2 hit2
   simp only [hX] at hnx
   clear hJs hit hbx hX
   -- what follows a round
   have tail : ∀ W3, J (pre ++ [pos]) W3 → SKeeps Bn X W3 → ∃ pre' pos' b', J pre' W3 ∧ Aside0 (W3.heap[W.heap.size]? = some (.stringIter s pos')) ∧ Aside0 (pre' ++ posns s b' pos' = places s) ∧ s.size ≤ pos' + b' ∧ W3.cell? ⟨Bn, 0, none⟩ = some (.string s) ∧ pre'.length ≤ pos' ∧ s.size - W3.iterPos W.heap.size < s.size - pos := by
    intro W3 h1 h2
    obtain ⟨b', rfl, e⟩ := hnext.out
    have hi := h2.1.same _ _ hit2.out rfl
    refine ⟨pre ++ [pos], pos + (Utf8.decode s pos).2, b', h1, ⟨hi⟩, ⟨?_⟩, by omega, h2.2 _ hbx2, by simp; omega, ?_⟩
    ·rw [← hpre.out, e]; simp
    ·rw [iterPos_of hi]; omega
   have hend : ∀ W3, Jx (pre ++ [pos]) W3 → ∃ pre', pre' <+: places s ∧ Jx pre' W3 := by
    intro W3 h1
    obtain ⟨b', rfl, e⟩ := hnext.out
    exact ⟨pre ++ [pos], ⟨posns s b' (pos + (Utf8.decode s pos).2), by rw [← hpre.out, e]; simp⟩, h1⟩
   have hlen : pre.length < s.size := by omega
   have hmem : pos ∈ places s := by
    obtain ⟨b', rfl, e⟩ := hnext.out
    rw [← hpre.out, e]
    simp
   have hyield : ∀ m v, Aside0 (v = sVal s pos) → YieldAt Fence.wide 5 Try.prog l #[v] (X.drewN m) fun e W' =>
     (e = .returned (.bool true) ∧ J (pre ++ [pos]) W' ∧ SKeeps Bn (X.drewN m) W') ∨ (e = .returned (.bool false) ∧ Jx (pre ++ [pos]) W') := by
    rintro m v ⟨rfl⟩
    exact hY pre pos (X.drewN m) (hJ _ _ _ none hJ2 (grown_of_below (Drawn0.below ⟨⟨m, rfl⟩⟩) none) (fun r e => by cases e)) hmem hlen
   have hkd : ∀ m W3, SKeeps Bn (X.drewN m) W3 → SKeeps Bn X W3 := fun m W3 h => ⟨⟨h.1.size, fun k o hk ho => h.1.same k o hk ho⟩, fun v hv => h.2 v hv⟩
   have T := Aside0.mk tail
   have HE := Aside0.mk hend
   have HY := Aside0.mk hyield
   clear tail hend hyield hJ2 hY hnext hpre
   obtain ⟨r, er⟩ : ∃ r : Nat, (Utf8.decode s pos).1 = r := ⟨_, rfl⟩
   rw [er] at hnx
   have ER := Aside0.mk er
   clear er
   by_cases hr : (r : Int) = 65533
   ·obtain rfl : r = 65533 := by omega
    have hnx := fun ty => (hnx ty).trans (show _ = Result.ok (Value.tuple #[Value.bool true, Value.int IntKind.i64 (pos : Int), Value.int IntKind.i32 65533]) X from rfl)
    have h3 := good3_tells s pos
    cases hg : good3 s pos with
    | true =>
     rw [hg] at h3
     have H3 := Aside0.mk h3
     clear h3
     have hv : Aside0 (.agg #[.int .i64 (pos : Int), .int .i64 3, .int .i32 65533, .bool false] = sVal s pos) := ⟨by
      simp [sVal, sLen, sBad, sRune, ER.out, hg]⟩
     clear hg
     gi_wp2_with (refine ⟨trivial, ?_⟩; gi_at_call 70; refine (callsIn_wide.2 (strings_HasPrefix.calls _ _ _ _ H3.out)).mono ?_; rintro e w' ⟨rfl, ⟨m, rfl⟩⟩; obtain ⟨fn, tmps, assign, body, hy, hR⟩ := HY.out m _ hv)
     gi_wp2
     refine hR.mono ?_
     rintro e W3 (⟨rfl, hJ3, hk3⟩ | ⟨rfl, hJx3⟩)
     ·obtain ⟨pre', pos', b', q1, q2, q3, q4, q5, q6, q7⟩ := T.out W3 hJ3 (hkd _ _ hk3)
      gi_wp2
      go_roundw
      case rel => exact ⟨pre', pos', b', q1, q2, q3, q4, q5, q6⟩
      case measure => rw [hip.out]; exact q7
     ·obtain ⟨pre', q1, q2⟩ := HE.out W3 hJx3
      gi_wp2
      refine bodyPost_ret (results_none rfl _ _ _) rfl ?_
      exact ⟨⟨_, rfl⟩, .inr ⟨pre', q1, q2⟩⟩
    | false =>
     rw [hg] at h3
     have H3 := Aside0.mk h3
     clear h3
     have hv : Aside0 (.agg #[.int .i64 (pos : Int), .int .i64 1, .int .i32 65533, .bool true] = sVal s pos) := ⟨by
      simp [sVal, sLen, sBad, sRune, ER.out, hg]⟩
     clear hg
     gi_wp2_with (refine ⟨trivial, ?_⟩; gi_at_call 70; refine (callsIn_wide.2 (strings_HasPrefix.calls _ _ _ _ H3.out)).mono ?_; rintro e w' ⟨rfl, ⟨m, rfl⟩⟩; obtain ⟨fn, tmps, assign, body, hy, hR⟩ := HY.out m _ hv)
     gi_wp2
     refine hR.mono ?_
     rintro e W3 (⟨rfl, hJ3, hk3⟩ | ⟨rfl, hJx3⟩)
     ·obtain ⟨pre', pos', b', q1, q2, q3, q4, q5, q6, q7⟩ := T.out W3 hJ3 (hkd _ _ hk3)
      gi_wp2
      go_roundw
      case rel => exact ⟨pre', pos', b', q1, q2, q3, q4, q5, q6⟩
      case measure => rw [hip.out]; exact q7
     ·obtain ⟨pre', q1, q2⟩ := HE.out W3 hJx3
      gi_wp2
      refine bodyPost_ret (results_none rfl _ _ _) rfl ?_
      exact ⟨⟨_, rfl⟩, .inr ⟨pre', q1, q2⟩⟩
   ·have e1 : ((r : Int) != 65533) = true := bne_iff_ne.mpr hr
    have e2 : ((r : Int) == 65533) = false := beq_eq_false_iff_ne.mpr hr
    have hv : Aside0 (.agg #[.int .i64 (pos : Int), .int .i64 (rlen (r : Int)), .int .i32 (r : Int), .bool false] = sVal s pos) := ⟨by
     simp [sVal, sLen, sBad, sRune, ER.out, hr]⟩
    gi_wp2_with (refine ⟨trivial, ?_⟩; gi_at_call 69; refine (callsIn_wide.2 (utf8_RuneLen.calls 1 (r : Int) (rlen (r : Int)) _ (rlen_tells _))).mono ?_; rintro e w' ⟨rfl, ⟨m, rfl⟩⟩; obtain ⟨fn, tmps, assign, body, hy, hR⟩ := HY.out m _ hv)
    gi_wp2
    refine hR.mono ?_
    rintro e W3 (⟨rfl, hJ3, hk3⟩ | ⟨rfl, hJx3⟩)
    ·obtain ⟨pre', pos', b', q1, q2, q3, q4, q5, q6, q7⟩ := T.out W3 hJ3 (hkd _ _ hk3)
     gi_wp2
     go_roundw
     case rel => exact ⟨pre', pos', b', q1, q2, q3, q4, q5, q6⟩
     case measure => rw [hip.out]; exact q7
    ·obtain ⟨pre', q1, q2⟩ := HE.out W3 hJx3
     gi_wp2
     refine bodyPost_ret (results_none rfl _ _ _) rfl ?_
     exact ⟨⟨_, rfl⟩, .inr ⟨pre', q1, q2⟩⟩
  ·have hnx : ∀ ty, (Instr.next (.pointer (some ⟨W.heap.size, 0, none⟩)) true ty).run Try.prog wr = _ := fun ty => Lib.run_next_end_at wr W.heap.size s pos ty hit.out hp
   gi_wp2
   go_end0
   exact ⟨⟨_, rfl⟩, .inl ⟨pre, by rw [← hpre.out, posns_end s b pos hp, List.append_nil], hJs⟩⟩
theorem signs_calls (s : ByteArray) (w : World) : Calls Try.prog 57 #[.string s] w fun e w' => e = .returned (.func (.func 68) #[] #[.pointer (some ⟨w.heap.size, 0, none⟩)]) ∧ w' = w.alloc (.cells #[.string s] 9) := by
 have hmf : ∀ (fn : Fn) (first cap : Array Value) (w : World), (Instr.makeFunc fn first cap).run Try.prog w = .ok (.func fn first cap) w := fun _ _ _ _ => rfl
 go_enter Try.func57, Try.ntmps57
 go_wp2
 go_ret
 exact ⟨rfl, rfl⟩
theorem signs_stops (Bn : Nat) (s : ByteArray) (w : World) (hs : s.size < 9223372036854775807) (hBn : Bn < w.heap.size) (hc : w.cell? ⟨Bn, 0, none⟩ = some (.string s)) :
  SeqStopsK Fence.wide 6 Try.prog 68 #[.pointer (some ⟨Bn, 0, none⟩)] (fun p : Nat => #[sVal s p]) (SKeeps Bn) (fun ys => ys = places s) (fun pre => pre <+: places s) s.size w := fun l J Jx W hW hJ hJx hY h0 =>
 signs1_in l Bn s J Jx W hs (Nat.lt_of_lt_of_le hBn hW.size) hJ hJx (fun pre x W1 h _ => hY pre x W1 h) ((hW.cell (p := ⟨Bn, 0, none⟩) hBn).trans hc) h0
theorem blk_own {W W' : World} {row : Option Nat} {b : Nat} {cs : Array Value} {t : TypeId} {fr : Nat × Nat} (h : W.heap[b]? = some (.cells cs t fr)) (hg : W.grownBy W' row) (hr : ∀ r, row = some r → ∃ o : Obj, W.heap[r]? = some o ∧ o.isCells = false) : W'.heap[b]? = some (.cells cs t fr) :=
 (grownBy_keeps_cells hg hr h rfl).trans h
theorem cell_alloc_keeps {W : World} {o : Obj} {a : Addr} {v : Value} (h : W.cell? a = some v) : (W.alloc o).cell? a = some v := ((Below.refl _ W).alloc (Nat.le_refl _) o).cell (World.block_lt_of_cell? W a h) |>.trans h
def cue_named.f (a0 : ByteArray) : Option Int := some (if 64 < a0.size then 25 else if (places a0).any (fun p => decide (sRune a0 p < 32)) then 25 else 0)
attribute [local go_sem] Oper.semAt_some in
set_option maxRecDepth 100000 in
set_option maxHeartbeats 4000000 in
theorem cue_named.calls (a0 : ByteArray) (r : Int) (w : World) (h : cue_named.f a0 = some r) :
  Calls Try.prog 47 #[.string a0] w fun e w' => e = .returned (.int .i64 r) ∧ Below w.heap.size w w' := by
 have h := Option.some.inj h
 by_cases h64 : 64 < a0.size
 ·rw [if_pos h64] at h
  subst h
  have hd : decide ((a0.size : Int) > 64) = true := by simp; omega
  go_enter Try.func47, Try.ntmps47
  go_wp2
  refine bodyPost_ret (v := .int .i64 25) (by simp [results, Try.results47, go_sem]) rfl ⟨rfl, (Below.refl _ _).alloc (Nat.le_refl _) _⟩
 rw [if_neg h64] at h
 have H := Aside0.mk h
 clear h
 refine (callsIn_wide (n := 7)).1 ?_
 refine callsIn_of_wp_marks Try.func47 rfl trivial ?_ rfl
 simp only [Try.ntmps47, List.size_toArray, List.length_cons, List.length_nil, Nat.reduceAdd, Nat.reduceSub, Array.replicate_succ, Array.replicate_zero, List.push_toArray, List.append_toArray, List.nil_append, List.cons_append]
 have hd : ¬ ((a0.size : Int) > 64) := by omega
 gi_wp2_with (refine ⟨trivial, ?_⟩; gi_at_call 57; refine (callsIn_wide.2 (signs_calls _ _)).mono ?_; rintro e w' ⟨rfl, rfl⟩)
 have b0 : ((w.alloc (Obj.cells #[Value.int IntKind.i64 0] 59)).alloc (Obj.cells #[Value.string a0] 9)).heap[w.heap.size]? = some (.cells #[.int .i64 0] 59 (0, 0)) := blk_alloc (blk_new w _) _
 have b1 := blk_new (w.alloc (Obj.cells #[Value.int IntKind.i64 0] 59)) (Obj.cells #[Value.string a0] 9)
 have hB0 : Below w.heap.size w ((w.alloc (Obj.cells #[Value.int IntKind.i64 0] 59)).alloc (Obj.cells #[Value.string a0] 9)) := ((Below.refl _ w).alloc (Nat.le_refl _) _).alloc (by simp) _
 have hsz : ((w.alloc (Obj.cells #[Value.int IntKind.i64 0] 59)).alloc (Obj.cells #[Value.string a0] 9)).heap.size = w.heap.size + 2 := by simp
 rw [World.size_alloc] at b1
 obtain ⟨W0, hW0⟩ : ∃ W0, (w.alloc (Obj.cells #[Value.int IntKind.i64 0] 59)).alloc (Obj.cells #[Value.string a0] 9) = W0 := ⟨_, rfl⟩
 rw [hW0] at b0 b1 hB0 hsz ⊢
 clear hW0
 have HS := Aside0.mk hsz
 clear hsz
 refine wpIn_rangeFunc_ownH rfl (by omega) (gf := 68) (lb := #[.pointer (some ⟨w.heap.size + 1, 0, none⟩)]) rfl trivial (enters_of Try.func68 (by kernel_rfl) rfl)
  (signs_stops (w.heap.size + 1) a0 W0 (by omega) (by have := HS.out; omega) ((blk_cell b1 0).trans rfl)) (fun h k => SKeeps.t h k) (fun W l o o' hl h hc hw => SKeeps.b (w := W0) W l o o' hl h hc hw) (Below.refl _ _) (fun _ => rfl)
  (fun pre W => ((∀ y ∈ pre, ¬ sRune a0 y < 32) ∧ W.heap[w.heap.size]? = some (.cells #[.int .i64 0] 59 (0, 0)) ∧ W.heap[w.heap.size + 1]? = some (.cells #[.string a0] 9 (0, 0))) ∧ Below w.heap.size w W)
  (fun c pre W => (c = .ret ∧ (∃ y ∈ pre, sRune a0 y < 32) ∧ W.heap[w.heap.size]? = some (.cells #[.int .i64 25] 59 (0, 0))) ∧ Below w.heap.size w W)
  (OwnFrom.and (Own.from (fun s A B row hs hg hr => ⟨hs.1, blk_own hs.2.1 hg hr, blk_own hs.2.2 hg hr⟩) _) (ownFrom_below (Nat.le_refl _) (by have := HS.out; omega)))
  (fun c => OwnFrom.and (Own.from (fun s A B row hs hg hr => ⟨hs.1, hs.2.1, blk_own hs.2.2 hg hr⟩) _) (ownFrom_below (Nat.le_refl _) (by have := HS.out; omega)))
  ⟨⟨by simp, b0, b1⟩, hB0⟩
  (fun x a' W => ∃ Bx, w.heap.size + 1 < Bx ∧ W.heap[Bx]? = some (.cells #[.int .i64 (x : Int), .int .i64 (sLen a0 x), .int .i32 (sRune a0 x), .bool (sBad a0 x)] 111 (0, 0)) ∧ a' = { tmps := #[.string a0, undef, .pointer (some ⟨w.heap.size, 0, none⟩), .pointer (some ⟨Bx, 0, none⟩), .string a0, .int .i64 (a0.size : Int), .bool false, .string a0, .func (.func 68) #[] #[.pointer (some ⟨w.heap.size + 1, 0, none⟩)], .agg #[.int .i64 (x : Int), .int .i64 (sLen a0 x), .int .i32 (sRune a0 x), .bool (sBad a0 x)], undef, undef, undef], defers := [] })
  (fun x a' _ X Y row hs hg hr => by obtain ⟨Bx, h1, h2, h3⟩ := hs; exact ⟨Bx, h1, blk_own h2 hg (fun r e => (hr r e).2), h3⟩)
  ?assign ?body ?done ?stop
 case assign =>
  rintro l pre x W K ⟨⟨hp, hb, hb1⟩, hB⟩ hK
  simp only [sVal]
  have hs1 := blk_lt hb1
  have hBs := hB.size
  gi_wp2
  refine hK _ _ ((KeepsOthers.alloc _ _).from _) ⟨(KeepsOthers.alloc _ _).walks, fun v hv => cell_alloc_keeps hv⟩ ⟨⟨hp, blk_alloc hb _, blk_alloc hb1 _⟩, hB.alloc hBs _⟩ ⟨W.heap.size, hs1, blk_new W _, rfl⟩
 case body =>
  rintro l pre x a' W hl ⟨r, hr⟩ ⟨⟨hp, hb, hb1⟩, hB⟩ ⟨Bx, hBx, bX, rfl⟩ hlt
  have c2 : W.cell? ⟨Bx, 2, none⟩ = some (.int .i32 (sRune a0 x)) := (blk_cell bX 2).trans rfl
  by_cases hx : sRune a0 x < 32
  ·have hf := blk_frozen hb 0
   have hc : W.cell? ⟨w.heap.size, 0, none⟩ = some (.int .i64 0) := (blk_cell hb 0).trans rfl
   gi_wp2
   exact ⟨(KeepsOthers.setCell _ _ _).from _, ⟨rfl, ⟨x, List.mem_append.2 (.inr (by simp)), hx⟩, blk_put hb 0 _ rfl⟩, hB.setCell (p := ⟨w.heap.size, 0, none⟩) (Nat.le_refl _) _⟩
  ·gi_wp2
   exact ⟨KeepsFrom.refl _ _, ⟨KeepsWalks.refl _, fun v hv => hv⟩, ⟨fun y hy => (List.mem_append.1 hy).elim (hp y) (fun e => by simp at e; subst e; exact hx), hb, hb1⟩, hB⟩
 case done =>
  rintro D ys W hD rfl ⟨⟨hne, hb, hb1⟩, hB⟩ hK
  have hf := blk_frozen hb 0
  have hc : W.cell? ⟨w.heap.size, 0, none⟩ = some (.int .i64 0) := (blk_cell hb 0).trans rfl
  gi_wp2
  have hK' := (KeepsOthers.setCell W ⟨w.heap.size, 0, none⟩ (.int .i64 0)).same D _ hK rfl
  refine ⟨by simp, .inl ⟨_, _, rfl, run_takeDeferred hK', ?_⟩⟩
  have hb' := blk_own (blk_put hb 0 (.int .i64 0) rfl) (grownBy_putObj' _ D (.deferred none)) (fun r e => by cases e; exact ⟨_, hK', rfl⟩)
  have hc' := (blk_cell hb' 0).trans rfl
  refine ⟨.int .i64 0, by simp [results, Try.results47, go_sem, hc'], ?_, ?_⟩
  ·rw [← H.out, if_neg]
   simp only [List.any_eq_true, decide_eq_true_eq, not_exists, not_and]
   exact fun y hy => Int.not_lt.2 (hne y hy)
  ·exact (hB.setCell (p := ⟨w.heap.size, 0, none⟩) (Nat.le_refl _) _).trans (belowK_b (w := w) (Nat.le_refl _) _ D _ _ (by have := HS.out; omega) hK' rfl rfl)
 case stop =>
  rintro D c pre W hD hpre ⟨⟨rfl, ⟨y, hy, hlt⟩, hb⟩, hB⟩ hK
  gi_wp2
  refine ⟨by simp, .inl ⟨_, _, rfl, run_takeDeferred hK, ?_⟩⟩
  have hb' := blk_own hb (grownBy_putObj' _ D (.deferred none)) (fun r e => by cases e; exact ⟨_, hK, rfl⟩)
  have hc' := (blk_cell hb' 0).trans rfl
  refine ⟨.int .i64 25, by simp [results, Try.results47, go_sem, hc'], ?_, hB.trans (belowK_b (w := w) (Nat.le_refl _) W D _ _ (by have := HS.out; omega) hK rfl rfl)⟩
  rw [← H.out, if_pos]
  simp only [List.any_eq_true, decide_eq_true_eq]
  exact ⟨y, hpre.subset hy, hlt⟩
def utf_Count.f (a0 : ByteArray) : Option Int := if a0.size < 9223372036854775807 then some (Lib.runeCount a0 : Int) else none
set_option maxHeartbeats 4000000 in
set_option maxRecDepth 1000000 in
theorem utf_Count.calls (a0 : ByteArray) (r : Int) (w : World) (h : utf_Count.f a0 = some r) :
  Calls Try.prog 58 #[.string a0] w fun e w' => e = .returned (.int .i64 r) ∧ Below w.heap.size w w' := by
 unfold utf_Count.f at h
 split at h
 case isFalse => exact absurd h (by simp)
 case isTrue hs =>
 obtain rfl := Option.some.inj h
 clear h
 have hu9 := Try.underlying9
 refine Calls.mono (R := fun e w' => e = .returned (.int .i64 (Lib.runeCount a0)) ∧ ∃ pos, w' = w.iter a0 pos) ?_ (by rintro e w' ⟨rfl, pos, rfl⟩; exact ⟨rfl, (Below.refl _ _).alloc (Nat.le_refl _) _⟩)
 go_enter Try.func58, Try.ntmps58
 go_wp2
 go_loopw [3] (fun n w' => ∃ (pos b acc : Nat), w' = w.iter a0 pos ∧ n = .int .i64 acc ∧ acc + Lib.runeCountFrom a0 b pos = Lib.runeCount a0 ∧ a0.size ≤ pos + b ∧ acc ≤ pos) (fun _ w' => a0.size - w'.iterPos w.heap.size)
 case atStart => exact ⟨0, a0.size, 0, rfl, rfl, by simp [Lib.runeCount], by omega, Nat.le_refl _⟩
 case round =>
  obtain ⟨pos, b, acc, rfl, rfl, hc, hb, ha⟩ := hrel
  by_cases hp : pos < a0.size
  ·have hnx : ∀ ty, (Instr.next (.pointer (some ⟨w.heap.size, 0, none⟩)) true ty).run Try.prog (w.iter a0 pos) = _ := fun ty => run_next_any w a0 pos ty hp
   have hwd := Lib.decode_width_pos a0 pos hp
   go_wp2
   go_roundw
   case rel =>
    cases b with
    | zero => omega
    | succ b =>
     refine ⟨pos + (Utf8.decode a0 pos).2, b, acc + 1, rfl, by go_num, ?_, by omega, by omega⟩
     rw [← hc]
     simp [Lib.runeCountFrom, hp]
     omega
   case measure =>
    simp
    omega
  ·have hnx : ∀ ty, (Instr.next (.pointer (some ⟨w.heap.size, 0, none⟩)) true ty).run Try.prog (w.iter a0 pos) = _ := fun ty => run_next_end w a0 pos ty hp
   go_wp2
   go_ret
   rw [Lib.runeCountFrom_end a0 b pos hp, Nat.add_zero] at hc
   subst hc
   exact ⟨rfl, _, rfl⟩
end Go.Proofs.Ytlbicmdfdpcdiaa.PDa
