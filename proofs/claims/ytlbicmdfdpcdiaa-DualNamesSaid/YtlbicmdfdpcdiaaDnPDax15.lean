-- printed
import Derived.Test.YtlbicmdfdpcdiaaDnPDax0
import Derived.Test.YtlbicmdfdpcdiaaDnPDax5
import Derived.Test.YtlbicmdfdpcdiaaDnPDax13
import Derived.Test.YtlbicmdfdpcdiaaDnPDax14
namespace Go.Proofs.Ytlbicmdfdpcdiaa.PDa
open Go.RowKit Go.Proofs.YtlbicmdfdpcdiaaW.PrintWords Go.Proofs.YtlbicmdfdpcdiaaW.PrintLast Go.Proofs.YtlbicmdfdpcdiaaW.PrintMore
attribute [local go_sem] max2_int min2_int max_two min_two max_three min_three max_four min_four
set_option linter.unusedVariables false
set_option linter.unusedSimpArgs false
def ratio_frac_whole.j0 : Nat → Bool → Int → Int → Option (Int × Int)
 | 0, _, _, _ => none
 | k + 1, x7, x277000, x277001 => (ratio_small.f 4611686018427387904).bind fun bt291 => ((ratio_wide_cmp.f x277000 x277001 bt291.1 bt291.2).bind fun t293 => (if t293 > 0 then (some (0, 12)) else (if x7 = true then (some (wrap64 (-(wrap64 (x277001))), 0)) else (some (wrap64 (x277001), 0)))))
def ratio_frac_whole.f (k : Nat) (a0_0 : Bool) (a0_1 : Int) (a0_2 : Int) (a0_3 : Int) (a0_4 : Int) (a1 : Int) : Option (Int × Int) := if a1 = 1 then ((ratio_frac_floor.f k a0_0 a0_1 a0_2 a0_3 a0_4).bind fun bt277 => (ratio_frac_whole.j0 k bt277.2.2 bt277.1 bt277.2.1)) else (if a1 = 2 then ((ratio_frac_half.f k a0_0 a0_1 a0_2 a0_3 a0_4).bind fun bt280 => ((ratio_frac_floor.f k bt280.1 bt280.2.1 bt280.2.2.1 bt280.2.2.2.1 bt280.2.2.2.2).bind fun bt285 => (ratio_frac_whole.j0 k bt285.2.2 bt285.1 bt285.2.1))) else (if a1 = 3 then ((ratio_frac_floor.f k (!a0_0) a0_1 a0_2 a0_3 a0_4).bind fun bt288 => (ratio_frac_whole.j0 k (!bt288.2.2) bt288.1 bt288.2.1)) else (some (0, 1))))
set_option maxHeartbeats 8000000 in
set_option maxRecDepth 100000 in
theorem ratio_frac_whole.calls (k : Nat) (a0_0 : Bool) (a0_1 : Int) (a0_2 : Int) (a0_3 : Int) (a0_4 : Int) (a1 : Int) (r1 : Int) (r2 : Int) (w : World) (h : ratio_frac_whole.f k a0_0 a0_1 a0_2 a0_3 a0_4 a1 = some (r1, r2)) :
  Calls Try.prog 53 #[.agg #[.bool a0_0, .int .u64 a0_1, .int .u64 a0_2, .int .u64 a0_3, .int .u64 a0_4], .int .i64 a1] w fun e w' => e = .returned (.tuple #[.int .i64 r1, .int .i64 r2]) ∧ Below w.heap.size w w' := by
 have hu101 := Try.underlying101
 have hu88 := Try.underlying88
 have HB := Aside0.mk (Below.refl w.heap.size w)
 have H : (if a1 = 1 then ((ratio_frac_floor.f k a0_0 a0_1 a0_2 a0_3 a0_4).bind fun bt277 => (ratio_frac_whole.j0 k bt277.2.2 bt277.1 bt277.2.1)) else (if a1 = 2 then ((ratio_frac_half.f k a0_0 a0_1 a0_2 a0_3 a0_4).bind fun bt280 => ((ratio_frac_floor.f k bt280.1 bt280.2.1 bt280.2.2.1 bt280.2.2.2.1 bt280.2.2.2.2).bind fun bt285 => (ratio_frac_whole.j0 k bt285.2.2 bt285.1 bt285.2.1))) else (if a1 = 3 then ((ratio_frac_floor.f k (!a0_0) a0_1 a0_2 a0_3 a0_4).bind fun bt288 => (ratio_frac_whole.j0 k (!bt288.2.2) bt288.1 bt288.2.1)) else (some (0, 1))))) = some (r1, r2) := h
 clear h
 have HC3 := Aside0.mk H
 clear H
 go_enter Try.func53, Try.ntmps53
 go_upto_block 0 with (first | ((with_reducible refine gate_dst (N := 2) rfl ?_); refine box_event (by rfl) (N := 2) (by rfl) (cs := #[.bool a0_0, .int .u64 a0_1, .int .u64 a0_2, .int .u64 a0_3, .int .u64 a0_4]) (t := 101) (by first | (go_simp; done) | (go_simp; rfl)) ?_; intro gb275 hg w4 hbox hb; obtain ⟨hb_, hw_⟩ := box_facts (lA HB.out) hg hb; replace HB := Aside0.mk (hb_); have BK275 := Aside0.mk (hbox); have GW275 := Aside0.mk (hw_); have GE275 := Aside0.mk (hw_); clear hb hbox hg hb_ hw_) | ((with_reducible refine gate_dst (N := 6) rfl ?_); refine box_event (by rfl) (N := 6) (by rfl) (cs := #[.int .u64 0, .int .u64 0]) (t := 88) (by first | (go_simp; done) | (go_simp; rfl)) ?_; intro gb276 hg w5 hbox hb; obtain ⟨hb_, hw_⟩ := box_facts (by repeat (first | (with_reducible first | exact HB.out | apply l1 | apply l2 | apply l3 | refine below_set ?_ GE275.out) | exact HB.out)) hg hb; replace HB := Aside0.mk (hb_); have BK276 := Aside0.mk (hbox); have GW276 := Aside0.mk (hw_); have GE276 := Aside0.mk (hw_); have NB275_276 := Aside0.mk ((nL hg BK275.out)); have NB276_275 := Aside0.mk ((nG hg BK275.out)); replace BK275 := Aside0.mk (bB BK275.out hb); clear hb hbox hg hb_ hw_))
 (try simp only [Act.put, List.setIfInBounds_toArray, List.set_cons_zero, List.set_cons_succ])
 go_cut [7] (fun v7 wc => ∃ (kq : Nat) (x7_2 : Bool) (x276000_2 : Bool) (x277000_2 : Int) (x277001_2 : Int), v7 = .bool x7_2 ∧ Aside0 (ratio_frac_whole.j0 kq x7_2 x277000_2 x277001_2 = some (r1, r2)) ∧ Aside0 (kq ≤ k) ∧ Aside0 (wc.heap[gb275]? = some (.cells #[.bool x276000_2, .int .u64 a0_1, .int .u64 a0_2, .int .u64 a0_3, .int .u64 a0_4] 101 (0, 0))) ∧ Aside0 (wc.heap[gb276]? = some (.cells #[.int .u64 x277000_2, .int .u64 x277001_2] 88 (0, 0))) ∧ Aside0 (Below w.heap.size w wc))
 case first =>
  have H := HC3.out
  clear HC3
  by_cases c6 : a1 = 1
  ·rw [if_pos c6] at H
   have c6b0 : (a1 == 1) = true := beq_iff_eq.mpr c6
   have c6b1 : (a1 != 1) = false := bne_eq_false_iff_eq.mpr c6
   clear c6
   (first | rw [c6b0] | (simp only [i64_w, i32_w]; rw [c6b0]) | skip)
   replace H := Option.bind_eq_some_iff.mp H
   obtain ⟨⟨t277, t278, t279⟩, A70, H⟩ := H
   (try dsimp only at H)
   have A7 := Aside0.mk A70
   clear A70
   have H' := Aside0.mk H
   clear H
   have hnb8 := NB275_276.out
   have hnc8 := NB276_275.out
   obtain ⟨hcz9_0, hcz9_1, hcz9_2, hcz9_3, hcz9_4, hfz9_0, hfz9_1, hfz9_2, hfz9_3, hfz9_4⟩ := blk_cells5 BK275.out
   go_wp2_with (first | ((with_reducible refine gate_callee (f := 64) rfl ?_); refine goesL_ (some 13) rfl rfl Try.func64 (by kernel_rfl) rfl #[.agg #[.bool a0_0, .int .u64 a0_1, .int .u64 a0_2, .int .u64 a0_3, .int .u64 a0_4]] rfl (by (try simp only [List.map_toArray, List.map_cons, List.map_nil]); first | done | rfl | (simp only [List.length_drop, List.length_take]; rfl)) ?_; (with_reducible refine (ratio_frac_floor.calls k a0_0 a0_1 a0_2 a0_3 a0_4 t277 t278 t279 _ A7.out).mono ?_); rintro e w10 ⟨rfl, hb⟩; refine ⟨_, rfl, ?_⟩; replace BK275 := Aside0.mk (bB BK275.out hb); replace BK276 := Aside0.mk (bB BK276.out hb); replace HB := Aside0.mk (below_step (by repeat (first | (with_reducible first | exact HB.out | apply l1 | apply l2 | apply l3 | refine below_set ?_ GE275.out | refine below_set ?_ GE276.out) | exact HB.out)) hb); (try clear hb); (try clear hb2); (try clear hk); (try clear hi); obtain ⟨hcz11_0, hcz11_1, hfz11_0, hfz11_1⟩ := blk_cells2 BK276.out))
   go_meet
   case rel => exact ⟨_, (t279), (a0_0), (t277), (t278), (by first | rfl | (simp; done) | (simp [*]; done)), H', ⟨by first | omega | exact Nat.le_refl _⟩, ⟨by (with_reducible repeat (first | apply b1 | apply b2 | apply b3)); refine blk_far ?_ NB275_276.out _; (with_reducible repeat (first | apply b1 | apply b2 | apply b3)); refine blk_far ?_ NB275_276.out _; (with_reducible repeat (first | apply b1 | apply b2 | apply b3)); exact BK275.out⟩, ⟨by (with_reducible repeat (first | apply b1 | apply b2 | apply b3)); refine blk_put (cs := #[.int .u64 t277, .int .u64 0]) ?_ 1 _ rfl; (with_reducible repeat (first | apply b1 | apply b2 | apply b3)); refine blk_put (cs := #[.int .u64 0, .int .u64 0]) ?_ 0 _ rfl; (with_reducible repeat (first | apply b1 | apply b2 | apply b3)); exact BK276.out⟩, ⟨by repeat (first | (with_reducible first | exact HB.out | apply l1 | apply l2 | apply l3 | refine below_set ?_ GE275.out | refine below_set ?_ GE276.out) | exact HB.out)⟩⟩
  ·rw [if_neg c6] at H
   have c6b0 : (a1 == 1) = false := beq_eq_false_iff_ne.mpr c6
   have c6b1 : (a1 != 1) = true := bne_iff_ne.mpr c6
   (first | rw [c6b0] | (simp only [i64_w, i32_w]; rw [c6b0]) | skip)
   by_cases c12 : a1 = 2
   ·rw [if_pos c12] at H
    have c12b0 : (a1 == 2) = true := beq_iff_eq.mpr c12
    have c12b1 : (a1 != 2) = false := bne_eq_false_iff_eq.mpr c12
    clear c12
    replace H := Option.bind_eq_some_iff.mp H
    obtain ⟨⟨t280, t281, t282, t283, t284⟩, A130, H⟩ := H
    (try dsimp only at H)
    have A13 := Aside0.mk A130
    clear A130
    replace H := Option.bind_eq_some_iff.mp H
    obtain ⟨⟨t285, t286, t287⟩, A140, H⟩ := H
    (try dsimp only at H)
    have A14 := Aside0.mk A140
    clear A140
    have H' := Aside0.mk H
    clear H
    have hnb15 := NB275_276.out
    have hnc15 := NB276_275.out
    obtain ⟨hcz16_0, hcz16_1, hcz16_2, hcz16_3, hcz16_4, hfz16_0, hfz16_1, hfz16_2, hfz16_3, hfz16_4⟩ := blk_cells5 BK275.out
    go_wp2_with (first | ((with_reducible refine gate_callee (f := 65) rfl ?_); refine goesL_ (some 20) rfl rfl Try.func65 (by kernel_rfl) rfl #[.agg #[.bool a0_0, .int .u64 a0_1, .int .u64 a0_2, .int .u64 a0_3, .int .u64 a0_4]] rfl (by (try simp only [List.map_toArray, List.map_cons, List.map_nil]); first | done | rfl | (simp only [List.length_drop, List.length_take]; rfl)) ?_; (with_reducible refine (ratio_frac_half.calls k a0_0 a0_1 a0_2 a0_3 a0_4 t280 t281 t282 t283 t284 _ A13.out).mono ?_); rintro e w17 ⟨rfl, hb⟩; refine ⟨_, rfl, ?_⟩; replace BK275 := Aside0.mk (bB BK275.out hb); replace BK276 := Aside0.mk (bB BK276.out hb); replace HB := Aside0.mk (below_step (by repeat (first | (with_reducible first | exact HB.out | apply l1 | apply l2 | apply l3 | refine below_set ?_ GE275.out | refine below_set ?_ GE276.out) | exact HB.out)) hb); (try clear hb); (try clear hb2); (try clear hk); (try clear hi)) | ((with_reducible refine gate_callee (f := 64) rfl ?_); refine goesL_ (some 21) rfl rfl Try.func64 (by kernel_rfl) rfl #[.agg #[.bool t280, .int .u64 t281, .int .u64 t282, .int .u64 t283, .int .u64 t284]] rfl (by (try simp only [List.map_toArray, List.map_cons, List.map_nil]); first | done | rfl | (simp only [List.length_drop, List.length_take]; rfl)) ?_; (with_reducible refine (ratio_frac_floor.calls k t280 t281 t282 t283 t284 t285 t286 t287 _ A14.out).mono ?_); rintro e w18 ⟨rfl, hb⟩; refine ⟨_, rfl, ?_⟩; replace BK275 := Aside0.mk (bB BK275.out hb); replace BK276 := Aside0.mk (bB BK276.out hb); replace HB := Aside0.mk (below_step (by repeat (first | (with_reducible first | exact HB.out | apply l1 | apply l2 | apply l3 | refine below_set ?_ GE275.out | refine below_set ?_ GE276.out) | exact HB.out)) hb); (try clear hb); (try clear hb2); (try clear hk); (try clear hi); obtain ⟨hcz19_0, hcz19_1, hfz19_0, hfz19_1⟩ := blk_cells2 BK276.out))
    go_meet
    case rel => exact ⟨_, (t287), (a0_0), (t285), (t286), (by first | rfl | (simp; done) | (simp [*]; done)), H', ⟨by first | omega | exact Nat.le_refl _⟩, ⟨by (with_reducible repeat (first | apply b1 | apply b2 | apply b3)); refine blk_far ?_ NB275_276.out _; (with_reducible repeat (first | apply b1 | apply b2 | apply b3)); refine blk_far ?_ NB275_276.out _; (with_reducible repeat (first | apply b1 | apply b2 | apply b3)); exact BK275.out⟩, ⟨by (with_reducible repeat (first | apply b1 | apply b2 | apply b3)); refine blk_put (cs := #[.int .u64 t285, .int .u64 0]) ?_ 1 _ rfl; (with_reducible repeat (first | apply b1 | apply b2 | apply b3)); refine blk_put (cs := #[.int .u64 0, .int .u64 0]) ?_ 0 _ rfl; (with_reducible repeat (first | apply b1 | apply b2 | apply b3)); exact BK276.out⟩, ⟨by repeat (first | (with_reducible first | exact HB.out | apply l1 | apply l2 | apply l3 | refine below_set ?_ GE275.out | refine below_set ?_ GE276.out) | exact HB.out)⟩⟩
   ·rw [if_neg c12] at H
    have c12b0 : (a1 == 2) = false := beq_eq_false_iff_ne.mpr c12
    have c12b1 : (a1 != 2) = true := bne_iff_ne.mpr c12
    by_cases c20 : a1 = 3
    ·rw [if_pos c20] at H
     have c20b0 : (a1 == 3) = true := beq_iff_eq.mpr c20
     have c20b1 : (a1 != 3) = false := bne_eq_false_iff_eq.mpr c20
     clear c20
     replace H := Option.bind_eq_some_iff.mp H
     obtain ⟨⟨t288, t289, t290⟩, A210, H⟩ := H
     (try dsimp only at H)
     have A21 := Aside0.mk A210
     clear A210
     have H' := Aside0.mk H
     clear H
     have hnb22 := NB275_276.out
     have hnc22 := NB276_275.out
     obtain ⟨hcz23_0, hcz23_1, hcz23_2, hcz23_3, hcz23_4, hfz23_0, hfz23_1, hfz23_2, hfz23_3, hfz23_4⟩ := blk_cells5 BK275.out
     go_wp2_with (first | ((with_reducible refine gate_callee (f := 64) rfl ?_); refine goesL_ (some 32) rfl rfl Try.func64 (by kernel_rfl) rfl #[.agg #[.bool (!a0_0), .int .u64 a0_1, .int .u64 a0_2, .int .u64 a0_3, .int .u64 a0_4]] rfl (by (try simp only [List.map_toArray, List.map_cons, List.map_nil]); first | done | rfl | (simp only [List.length_drop, List.length_take]; rfl)) ?_; (with_reducible refine (ratio_frac_floor.calls k (!a0_0) a0_1 a0_2 a0_3 a0_4 t288 t289 t290 _ A21.out).mono ?_); rintro e w24 ⟨rfl, hb⟩; refine ⟨_, rfl, ?_⟩; replace BK275 := Aside0.mk (blk_below (g := gb275) (o := .cells #[.bool (!a0_0), .int .u64 a0_1, .int .u64 a0_2, .int .u64 a0_3, .int .u64 a0_4] 101 (0, 0)) (by (with_reducible repeat (first | apply b1 | apply b2 | apply b3)); refine blk_put (cs := #[.bool a0_0, .int .u64 a0_1, .int .u64 a0_2, .int .u64 a0_3, .int .u64 a0_4]) ?_ 0 _ rfl; (with_reducible repeat (first | apply b1 | apply b2 | apply b3)); exact BK275.out) hb); replace BK276 := Aside0.mk (blk_below (g := gb276) (o := .cells #[.int .u64 0, .int .u64 0] 88 (0, 0)) (by (with_reducible repeat (first | apply b1 | apply b2 | apply b3)); refine blk_far ?_ NB276_275.out _; (with_reducible repeat (first | apply b1 | apply b2 | apply b3)); exact BK276.out) hb); replace HB := Aside0.mk (below_step (by repeat (first | (with_reducible first | exact HB.out | apply l1 | apply l2 | apply l3 | refine below_set ?_ GE275.out | refine below_set ?_ GE276.out) | exact HB.out)) hb); (try clear hb); (try clear hb2); (try clear hk); (try clear hi); obtain ⟨hcz25_0, hcz25_1, hfz25_0, hfz25_1⟩ := blk_cells2 BK276.out))
     go_meet
     case rel => exact ⟨_, (!t290), (!a0_0), (t288), (t289), (by first | rfl | (simp; done) | (simp [*]; done)), H', ⟨by first | omega | exact Nat.le_refl _⟩, ⟨by (with_reducible repeat (first | apply b1 | apply b2 | apply b3)); refine blk_far ?_ NB275_276.out _; (with_reducible repeat (first | apply b1 | apply b2 | apply b3)); refine blk_far ?_ NB275_276.out _; (with_reducible repeat (first | apply b1 | apply b2 | apply b3)); exact BK275.out⟩, ⟨by (with_reducible repeat (first | apply b1 | apply b2 | apply b3)); refine blk_put (cs := #[.int .u64 t288, .int .u64 0]) ?_ 1 _ rfl; (with_reducible repeat (first | apply b1 | apply b2 | apply b3)); refine blk_put (cs := #[.int .u64 0, .int .u64 0]) ?_ 0 _ rfl; (with_reducible repeat (first | apply b1 | apply b2 | apply b3)); exact BK276.out⟩, ⟨by repeat (first | (with_reducible first | exact HB.out | apply l1 | apply l2 | apply l3 | refine below_set ?_ GE275.out | refine below_set ?_ GE276.out) | exact HB.out)⟩⟩
    ·rw [if_neg c20] at H
     have c20b0 : (a1 == 3) = false := beq_eq_false_iff_ne.mpr c20
     have c20b1 : (a1 != 3) = true := bne_iff_ne.mpr c20
     simp only [Option.some.injEq, Prod.mk.injEq] at H
     obtain ⟨rfl, rfl⟩ := H
     go_wp2
     go_ret2
     exact ⟨by first | rfl | (simp [errW_none, errW_some] <;> rfl) | (simp [*, errW_none, errW_some] <;> rfl), by repeat (first | (with_reducible first | exact HB.out | apply l1 | apply l2 | apply l3 | refine below_set ?_ GE275.out | refine below_set ?_ GE276.out) | exact HB.out)⟩
 case rest =>
  clear HC3
  try clear c1
  try clear c2
  try clear p2
  try clear c5
  try clear c6
  try clear c6b0
  try clear c6b1
  try clear c8
  try clear c12
  try clear c12b0
  try clear c12b1
  try clear c15
  try clear c20
  try clear c20b0
  try clear c20b1
  try clear c22
  try clear hcz11_0
  try clear hcz11_1
  try clear hcz16_0
  try clear hcz16_1
  try clear hcz16_2
  try clear hcz16_3
  try clear hcz16_4
  try clear hcz19_0
  try clear hcz19_1
  try clear hcz23_0
  try clear hcz23_1
  try clear hcz23_2
  try clear hcz23_3
  try clear hcz23_4
  try clear hcz25_0
  try clear hcz25_1
  try clear hcz9_0
  try clear hcz9_1
  try clear hcz9_2
  try clear hcz9_3
  try clear hcz9_4
  try clear hfz11_0
  try clear hfz11_1
  try clear hfz16_0
  try clear hfz16_1
  try clear hfz16_2
  try clear hfz16_3
  try clear hfz16_4
  try clear hfz19_0
  try clear hfz19_1
  try clear hfz23_0
  try clear hfz23_1
  try clear hfz23_2
  try clear hfz23_3
  try clear hfz23_4
  try clear hfz25_0
  try clear hfz25_1
  try clear hfz9_0
  try clear hfz9_1
  try clear hfz9_2
  try clear hfz9_3
  try clear hfz9_4
  obtain ⟨kq, x7_2, x276000_2, x277000_2, x277001_2, rfl, HA, HJ2, BK275, BK276, HB⟩ := hcut
  cases kq with
  | zero => exact absurd HA.out (by simp [ratio_frac_whole.j0])
  | succ kj2 =>
   have H := HA.out
   clear HA
   simp only [ratio_frac_whole.j0] at H
   replace H := Option.bind_eq_some_iff.mp H
   obtain ⟨⟨t291, t292⟩, A260, H⟩ := H
   (try dsimp only at H)
   have A26 := Aside0.mk A260
   clear A260
   replace H := Option.bind_eq_some_iff.mp H
   obtain ⟨t293, A270, H⟩ := H
   (try dsimp only at H)
   have A27 := Aside0.mk A270
   clear A270
   by_cases c28 : t293 > 0 <;> first
   |(rw [if_pos c28] at H
     have c28b0 : decide (0 < t293) = true := decide_eq_true c28
     clear c28
     simp only [Option.some.injEq, Prod.mk.injEq] at H
     obtain ⟨rfl, rfl⟩ := H
     have z123 := trivial)
   |(rw [if_neg c28] at H
     have c28b0 : decide (0 < t293) = false := decide_eq_false c28
     clear c28
     by_cases c32 : x7_2 = true <;> first
     |(subst c32
       have H1 : (some (wrap64 (-(wrap64 (x277001_2))), 0)) = some (r1, r2) := by rw [if_pos rfl] at H; exact H
       clear H
       have H := H1
       clear H1
       simp only [Option.some.injEq, Prod.mk.injEq] at H
       obtain ⟨rfl, rfl⟩ := H
       have z124 := trivial)
     |(replace c32 := Bool.eq_false_iff.mpr c32
       subst c32
       have H1 : (some (wrap64 (x277001_2), 0)) = some (r1, r2) := by rw [if_neg (show ¬ (false = true) by decide)] at H; exact H
       clear H
       have H := H1
       clear H1
       simp only [Option.some.injEq, Prod.mk.injEq] at H
       obtain ⟨rfl, rfl⟩ := H
       have z125 := trivial))
   all_goals
    try go_wp2
    replace BK275 := Aside0.mk (blk_drew BK275.out)
    replace BK276 := Aside0.mk (blk_drew BK276.out)
    replace HB := Aside0.mk (below_drew1 HB.out)
    refine start_ (n := 5) (S := fun w' => w'.cell? ⟨gb276, 0, none⟩ = some (.int .u64 x277000_2) ∧ w'.cell? ⟨gb276, 1, none⟩ = some (.int .u64 x277001_2)) (ds := []) #[false, false, false, false, false] (by kernel_rfl) rfl rfl ⟨(blk_cell BK276.out 0).trans rfl, (blk_cell BK276.out 1).trans rfl⟩ (fun hHeld => ?_)
    generalize wc.drew = w33 at BK275 BK276 HB hHeld ⊢
    refine take_ (i := 0) (N := some 38) (v := ?_) (a' := ?_) #[true, false, false, false, false] rfl rfl (by kernel_rfl) (fun _ _ _ h => h) (Or.inl ⟨by rfl, ?_⟩) hHeld ?_ ?_
    rotate_left
    ·rintro w' ⟨s0, s1⟩
     go_simp
     with_reducible rfl
    rotate_left
    ·simp only [Act.put, List.setIfInBounds_toArray, List.set_cons_zero, List.set_cons_succ, i64_w, i32_w]
     rfl
    refine one_ (i := 1) (N := some 39) #[true, true, false, false, false] rfl rfl (by kernel_rfl) (by decide) (fun K hK => ?_)
    refine goes_ Try.func52 (by kernel_rfl) rfl #[.int .u64 4611686018427387904] (by rfl) rfl rfl (by (try simp only [List.map_toArray, List.map_cons, List.map_nil]); first | done | rfl | (simp only [List.length_drop, List.length_take]; rfl)) ?_
    with_reducible refine (ratio_small.calls 4611686018427387904 t291 t292 _ A26.out).mono ?_
    rintro e w34 ⟨rfl, hb⟩
    refine ⟨_, rfl, ?_⟩
    replace BK275 := Aside0.mk (bB BK275.out hb)
    replace BK276 := Aside0.mk (bB BK276.out hb)
    replace HB := Aside0.mk (below_step (by repeat (first | (with_reducible first | exact HB.out | apply l1 | apply l2 | apply l3 | refine below_set ?_ GE275.out | refine below_set ?_ GE276.out) | exact HB.out)) hb)
    (try clear hb)
    (try clear hb2)
    (try clear hk)
    (try clear hi)
    refine hK.out _ _ ⟨(blk_cell BK276.out 0).trans rfl, (blk_cell BK276.out 1).trans rfl⟩ (fun hHeld => ?_)
    clear hK K
    refine norm_ (a' := ?_) ?_ ?_
    rotate_left
    ·show Act.put _ (some 39) _ = _
     simp only [Act.put, List.setIfInBounds_toArray, List.set_cons_zero, List.set_cons_succ, i64_w, i32_w]
     rfl
    refine one_ (i := 2) (N := some 40) #[true, true, true, false, false] rfl rfl (by kernel_rfl) (by decide) (fun K hK => ?_)
    refine goes_ Try.func45 (by kernel_rfl) rfl #[.agg #[.int .u64 x277000_2, .int .u64 x277001_2], .agg #[.int .u64 t291, .int .u64 t292]] (by rfl) rfl rfl (by (try simp only [List.map_toArray, List.map_cons, List.map_nil]); first | done | rfl | (simp only [List.length_drop, List.length_take]; rfl)) ?_
    with_reducible refine (ratio_wide_cmp.calls x277000_2 x277001_2 t291 t292 t293 _ A27.out).mono ?_
    rintro e w35 ⟨rfl, hb⟩
    refine ⟨_, rfl, ?_⟩
    replace BK275 := Aside0.mk (bB BK275.out hb)
    replace BK276 := Aside0.mk (bB BK276.out hb)
    replace HB := Aside0.mk (below_step (by repeat (first | (with_reducible first | exact HB.out | apply l1 | apply l2 | apply l3 | refine below_set ?_ GE275.out | refine below_set ?_ GE276.out) | exact HB.out)) hb)
    (try clear hb)
    (try clear hb2)
    (try clear hk)
    (try clear hi)
    refine hK.out _ _ ⟨(blk_cell BK276.out 0).trans rfl, (blk_cell BK276.out 1).trans rfl⟩ (fun hHeld => ?_)
    clear hK K
    refine norm_ (a' := ?_) ?_ ?_
    rotate_left
    ·show Act.put _ (some 40) _ = _
     simp only [Act.put, List.setIfInBounds_toArray, List.set_cons_zero, List.set_cons_succ, i64_w, i32_w]
     rfl
    refine sched [(3, some 41), (4, some 37)] ?_
    iterate 2
     refine pureS (v := ?_) (a' := ?_) rfl rfl (by kernel_rfl) (fun _ _ _ h => h) (Or.inl ⟨by rfl, ?_⟩) ?_ ?_
     rotate_left
     ·intro w'
      go_simp
      with_reducible rfl
     rotate_left
     ·simp only [Act.put, List.setIfInBounds_toArray, List.set_cons_zero, List.set_cons_succ, i64_w, i32_w]
      rfl
    refine unsched ?_
    refine done_ (by kernel_rfl) ?_
    first
    |((first | (revert z124; intro z124) | (revert z125; intro z125))
      have hnb36 := NB276_275.out
      have hnc36 := NB275_276.out
      obtain ⟨hcz37_0, hcz37_1, hfz37_0, hfz37_1⟩ := blk_cells2 BK276.out
      try go_wp2
      go_ret2
      exact ⟨by first | rfl | (simp [errW_none, errW_some] <;> rfl) | (simp [*, errW_none, errW_some] <;> rfl), by repeat (first | (with_reducible first | exact HB.out | apply l1 | apply l2 | apply l3 | refine below_set ?_ GE275.out | refine below_set ?_ GE276.out) | exact HB.out)⟩)
    |((revert z123; intro z123)
      try go_wp2
      go_ret2
      exact ⟨by first | rfl | (simp [errW_none, errW_some] <;> rfl) | (simp [*, errW_none, errW_some] <;> rfl), by repeat (first | (with_reducible first | exact HB.out | apply l1 | apply l2 | apply l3 | refine below_set ?_ GE275.out | refine below_set ?_ GE276.out) | exact HB.out)⟩)
end Go.Proofs.Ytlbicmdfdpcdiaa.PDa
