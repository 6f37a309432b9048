-- Written by programs of this session's (wip/printer) out of the translation and of the print's words; Lean checks it.
import Derived.Test.YthgifhnfbblklaaSpPSpx0
import Derived.Test.YthgifhnfbblklaaSpPSpx7
import Derived.Test.YthgifhnfbblklaaSpPSpx9
namespace Go.Proofs.Ythgifhnfbblklaa.PSp
open Go.RowKit Go.Proofs.YthgifhnfbblklaaW.PrintWords Go.Proofs.YthgifhnfbblklaaW.PrintLast Go.Proofs.YthgifhnfbblklaaW.PrintMore
attribute [local go_sem] max2_int min2_int max_two min_two max_three min_three max_four min_four   -- for this text's walks alone
set_option linter.unusedVariables false
set_option linter.unusedSimpArgs false
def ratio_frac_fit.j0 : Nat → Bool → Bool → Int → Int → Int → Int → Int → Int → Int → Int → Option (Int × Int × Int)
 | 0, _, _, _, _, _, _, _, _, _, _ => none
 | k + 1, x38, x150000, x150001, x150002, x150003, x150004, x159000, x159001, x165000, x165001 => if x38 = true then (some (0, 0, 12)) else (if x150000 = true then (some (wrap64 (-(wrap64 (x159001))), wrap64 (x165001), 0)) else (some (wrap64 (x159001), wrap64 (x165001), 0)))
def ratio_frac_fit.f (k : Nat) (a0_0 : Bool) (a0_1 : Int) (a0_2 : Int) (a0_3 : Int) (a0_4 : Int) : Option (Int × Int × Int) := (ratio_common.f k a0_1 a0_2 a0_3 a0_4).bind fun bt151 => ((ratio_wide_over.f k a0_1 a0_2 bt151.1 bt151.2).bind fun bt154 => ((ratio_wide_over.f k a0_3 a0_4 bt151.1 bt151.2).bind fun bt160 => ((ratio_small.f 4611686018427387904).bind fun bt166 => ((ratio_wide_cmp.f bt154.1 bt154.2.1 bt166.1 bt166.2).bind fun t168 => (if t168 > 0 then (ratio_frac_fit.j0 k true a0_0 a0_1 a0_2 a0_3 a0_4 bt154.1 bt154.2.1 bt160.1 bt160.2.1) else ((ratio_small.f 2147483648).bind fun bt169 => ((ratio_wide_cmp.f bt160.1 bt160.2.1 bt169.1 bt169.2).bind fun t171 => (ratio_frac_fit.j0 k (decide (t171 > 0)) a0_0 a0_1 a0_2 a0_3 a0_4 bt154.1 bt154.2.1 bt160.1 bt160.2.1))))))))
def ratio_frac_fit.T4 : Bool × List (List Nat × List Nat) := (true, [([], []), ([], []), ([0, 1, 1], [0, 1]), ([2], [2]), ([3, 2], [3]), ([4], [4]), ([4, 4], [4]), ([5, 6, 6, 4], [4, 5, 6]), ([7, 4], [4, 7]), ([4, 8], [4, 8])])
def ratio_frac_fit.B4 : List Nat := [0, 0, 3, 7, 15, 31, 31, 127, 255, 511]
theorem ratio_frac_fit.tab4 : rtab .any (opsOf Try.f85 4) = ratio_frac_fit.T4 := by kernel_rfl
theorem ratio_frac_fit.bits4 : waitsOk ratio_frac_fit.T4.2 ratio_frac_fit.B4 = true := by kernel_rfl
set_option maxHeartbeats 8000000 in
set_option maxRecDepth 100000 in
theorem ratio_frac_fit.calls (k : Nat) (a0_0 : Bool) (a0_1 : Int) (a0_2 : Int) (a0_3 : Int) (a0_4 : Int) (r1 : Int) (r2 : Int) (r3 : Int) (w : World) (h : ratio_frac_fit.f k a0_0 a0_1 a0_2 a0_3 a0_4 = some (r1, r2, r3)) :
  Calls Try.prog 85 #[.agg #[.bool a0_0, .int .u64 a0_1, .int .u64 a0_2, .int .u64 a0_3, .int .u64 a0_4]] w fun e w' => e = .returned (.tuple #[.agg #[.int .i64 r1, .int .i64 r2], .int .i64 r3]) ∧ Below w.heap.size w w' := by
 have hu131 := Try.underlying131
 have hu32 := Try.underlying32
 have hu127 := Try.underlying127
 have HB := Aside0.mk (Below.refl w.heap.size w)
 have H : ((ratio_common.f k a0_1 a0_2 a0_3 a0_4).bind fun bt151 => ((ratio_wide_over.f k a0_1 a0_2 bt151.1 bt151.2).bind fun bt154 => ((ratio_wide_over.f k a0_3 a0_4 bt151.1 bt151.2).bind fun bt160 => ((ratio_small.f 4611686018427387904).bind fun bt166 => ((ratio_wide_cmp.f bt154.1 bt154.2.1 bt166.1 bt166.2).bind fun t168 => (if t168 > 0 then (ratio_frac_fit.j0 k true a0_0 a0_1 a0_2 a0_3 a0_4 bt154.1 bt154.2.1 bt160.1 bt160.2.1) else ((ratio_small.f 2147483648).bind fun bt169 => ((ratio_wide_cmp.f bt160.1 bt160.2.1 bt169.1 bt169.2).bind fun t171 => (ratio_frac_fit.j0 k (decide (t171 > 0)) a0_0 a0_1 a0_2 a0_3 a0_4 bt154.1 bt154.2.1 bt160.1 bt160.2.1))))))))) = some (r1, r2, r3) := h
 clear h
 replace H := Option.bind_eq_some_iff.mp H
 obtain ⟨⟨t151, t152⟩, A20, H⟩ := H
 (try dsimp only at H)
 have A2 := Aside0.mk A20
 clear A20
 replace H := Option.bind_eq_some_iff.mp H
 obtain ⟨⟨t154, t155, t156, t157⟩, A30, H⟩ := H
 (try dsimp only at H)
 have A3 := Aside0.mk A30
 clear A30
 replace H := Option.bind_eq_some_iff.mp H
 obtain ⟨⟨t160, t161, t162, t163⟩, A40, H⟩ := H
 (try dsimp only at H)
 have A4 := Aside0.mk A40
 clear A40
 have HC5 := Aside0.mk H
 clear H
 go_enter Try.func85, Try.ntmps85
 go_upto_region 4 with (first | ((with_reducible refine gate_dst (N := 1) rfl ?_); refine box_event (by rfl) (N := 1) (by rfl) (cs := #[.bool a0_0, .int .u64 a0_1, .int .u64 a0_2, .int .u64 a0_3, .int .u64 a0_4]) (t := 131) (by first | (go_simp; done) | (go_simp; rfl)) ?_; intro gb149 hg w6 hbox hb; obtain ⟨hb_, hw_⟩ := box_facts (by repeat (first | (with_reducible first | exact HB.out | apply l1 | apply l2 | apply l3) | exact HB.out)) hg hb; have n0_ := Aside0.mk (hb_); have n1_ := Aside0.mk (hbox); have n2_ := Aside0.mk (hw_); have n3_ := Aside0.mk (hw_); clear HB; have HB := n0_; have BK149 := n1_; have GW149 := n2_; have GE149 := n3_; clear n0_ n1_ n2_ n3_; clear hb hbox hg hb_ hw_) | ((with_reducible refine gate_dst (N := 2) rfl ?_); refine box_event (by rfl) (N := 2) (by rfl) (cs := #[.int .i64 0, .int .i64 0]) (t := 32) (by first | (go_simp; done) | (go_simp; rfl)) ?_; intro gb150 hg w7 hbox hb; obtain ⟨hb_, hw_⟩ := box_facts (by repeat (first | (with_reducible first | exact HB.out | apply l1 | apply l2 | apply l3 | refine below_set ?_ GE149.out) | exact HB.out)) hg hb; have n0_ := Aside0.mk (blk_below (by (with_reducible repeat (first | apply b1 | apply b2 | apply b3)); exact BK149.out) hb); have n1_ := Aside0.mk (hb_); have n2_ := Aside0.mk (hbox); have n3_ := Aside0.mk (hw_); have n4_ := Aside0.mk (hw_); have n5_ := Aside0.mk ((by rw [hg]; exact Nat.ne_of_lt (blk_lt (by (with_reducible repeat (first | apply b1 | apply b2 | apply b3)); exact BK149.out)) : gb149 ≠ gb150)); have n6_ := Aside0.mk ((by rw [hg]; exact Nat.ne_of_gt (blk_lt (by (with_reducible repeat (first | apply b1 | apply b2 | apply b3)); exact BK149.out)) : gb150 ≠ gb149)); clear BK149; clear HB; have BK149 := n0_; have HB := n1_; have BK150 := n2_; have GW150 := n3_; have GE150 := n4_; have NB149_150 := n5_; have NB150_149 := n6_; clear n0_ n1_ n2_ n3_ n4_ n5_ n6_; clear hb hbox hg hb_ hw_; have hnb8 := NB149_150.out; have hnc8 := NB150_149.out; obtain ⟨hcz9_0, hcz9_1, hcz9_2, hcz9_3, hcz9_4, hfz9_0, hfz9_1, hfz9_2, hfz9_3, hfz9_4⟩ := blk_cells5 BK149.out) | ((with_reducible refine gate_callee (f := 96) rfl ?_); refine goesL_ (some 14) rfl rfl Try.func96 (by kernel_rfl) rfl #[.agg #[.int .u64 a0_1, .int .u64 a0_2], .agg #[.int .u64 a0_3, .int .u64 a0_4]] rfl (by (try simp only [List.map_toArray, List.map_cons, List.map_nil]); first | done | rfl | (simp only [List.length_drop, List.length_take]; rfl)) ?_; (with_reducible refine (ratio_common.calls k a0_1 a0_2 a0_3 a0_4 t151 t152 _ A2.out).mono ?_); rintro e w10 ⟨rfl, hb⟩; refine ⟨_, rfl, ?_⟩; have n0_ := Aside0.mk (blk_below (by (with_reducible repeat (first | apply b1 | apply b2 | apply b3)); exact BK149.out) hb); have n1_ := Aside0.mk (blk_below (by (with_reducible repeat (first | apply b1 | apply b2 | apply b3)); exact BK150.out) hb); have n2_ := Aside0.mk (below_step (by repeat (first | (with_reducible first | exact HB.out | apply l1 | apply l2 | apply l3 | refine below_set ?_ GE149.out | refine below_set ?_ GE150.out) | exact HB.out)) hb); clear BK149; clear BK150; clear HB; have BK149 := n0_; have BK150 := n1_; have HB := n2_; clear n0_ n1_ n2_; (try clear hb); (try clear hb2); (try clear hk); (try clear hi)) | ((with_reducible refine gate_dst (N := 4) rfl ?_); refine box_event (by rfl) (N := 4) (by rfl) (cs := #[.int .u64 0, .int .u64 0]) (t := 127) (by first | (go_simp; done) | (go_simp; rfl)) ?_; intro gb153 hg w11 hbox hb; obtain ⟨hb_, hw_⟩ := box_facts (by repeat (first | (with_reducible first | exact HB.out | apply l1 | apply l2 | apply l3 | refine below_set ?_ GE149.out | refine below_set ?_ GE150.out) | exact HB.out)) hg hb; have n0_ := Aside0.mk (blk_below (by (with_reducible repeat (first | apply b1 | apply b2 | apply b3)); exact BK149.out) hb); have n1_ := Aside0.mk (blk_below (by (with_reducible repeat (first | apply b1 | apply b2 | apply b3)); exact BK150.out) hb); have n2_ := Aside0.mk (hb_); have n3_ := Aside0.mk (hbox); have n4_ := Aside0.mk (hw_); have n5_ := Aside0.mk (hw_); have n6_ := Aside0.mk ((by rw [hg]; exact Nat.ne_of_lt (blk_lt (by (with_reducible repeat (first | apply b1 | apply b2 | apply b3)); exact BK149.out)) : gb149 ≠ gb153)); have n7_ := Aside0.mk ((by rw [hg]; exact Nat.ne_of_gt (blk_lt (by (with_reducible repeat (first | apply b1 | apply b2 | apply b3)); exact BK149.out)) : gb153 ≠ gb149)); have n8_ := Aside0.mk ((by rw [hg]; exact Nat.ne_of_lt (blk_lt (by (with_reducible repeat (first | apply b1 | apply b2 | apply b3)); exact BK150.out)) : gb150 ≠ gb153)); have n9_ := Aside0.mk ((by rw [hg]; exact Nat.ne_of_gt (blk_lt (by (with_reducible repeat (first | apply b1 | apply b2 | apply b3)); exact BK150.out)) : gb153 ≠ gb150)); clear BK149; clear BK150; clear HB; have BK149 := n0_; have BK150 := n1_; have HB := n2_; have BK153 := n3_; have GW153 := n4_; have GE153 := n5_; have NB149_153 := n6_; have NB153_149 := n7_; have NB150_153 := n8_; have NB153_150 := n9_; clear n0_ n1_ n2_ n3_ n4_ n5_ n6_ n7_ n8_ n9_; clear hb hbox hg hb_ hw_; have hnb12 := NB153_149.out; have hnc12 := NB149_153.out; have hnb13 := NB153_150.out; have hnc13 := NB150_153.out; obtain ⟨hcz14_0, hcz14_1, hfz14_0, hfz14_1⟩ := blk_cells2 BK153.out; obtain ⟨hcz15_0, hcz15_1, hcz15_2, hcz15_3, hcz15_4, hfz15_0, hfz15_1, hfz15_2, hfz15_3, hfz15_4⟩ := blk_cells5 BK149.out) | ((with_reducible refine gate_callee (f := 97) rfl ?_); refine goesL_ (some 19) rfl rfl Try.func97 (by kernel_rfl) rfl #[.agg #[.int .u64 a0_1, .int .u64 a0_2], .agg #[.int .u64 t151, .int .u64 t152]] rfl (by (try simp only [List.map_toArray, List.map_cons, List.map_nil]); first | done | rfl | (simp only [List.length_drop, List.length_take]; rfl)) ?_; (with_reducible refine (ratio_wide_over.calls k a0_1 a0_2 t151 t152 t154 t155 t156 t157 _ A3.out).mono ?_); rintro e w16 ⟨rfl, hb⟩; refine ⟨_, rfl, ?_⟩; have n0_ := Aside0.mk (blk_below (g := gb149) (o := .cells #[.bool a0_0, .int .u64 a0_1, .int .u64 a0_2, .int .u64 a0_3, .int .u64 a0_4] 131 (0, 0)) (by (with_reducible repeat (first | apply b1 | apply b2 | apply b3)); refine blk_far ?_ NB149_153.out _; (with_reducible repeat (first | apply b1 | apply b2 | apply b3)); refine blk_far ?_ NB149_153.out _; (with_reducible repeat (first | apply b1 | apply b2 | apply b3)); exact BK149.out) hb); have n1_ := Aside0.mk (blk_below (g := gb150) (o := .cells #[.int .i64 0, .int .i64 0] 32 (0, 0)) (by (with_reducible repeat (first | apply b1 | apply b2 | apply b3)); refine blk_far ?_ NB150_153.out _; (with_reducible repeat (first | apply b1 | apply b2 | apply b3)); refine blk_far ?_ NB150_153.out _; (with_reducible repeat (first | apply b1 | apply b2 | apply b3)); exact BK150.out) hb); have n2_ := Aside0.mk (blk_below (g := gb153) (o := .cells #[.int .u64 t151, .int .u64 t152] 127 (0, 0)) (by (with_reducible repeat (first | apply b1 | apply b2 | apply b3)); refine blk_put (cs := #[.int .u64 t151, .int .u64 0]) ?_ 1 _ rfl; (with_reducible repeat (first | apply b1 | apply b2 | apply b3)); refine blk_put (cs := #[.int .u64 0, .int .u64 0]) ?_ 0 _ rfl; (with_reducible repeat (first | apply b1 | apply b2 | apply b3)); exact BK153.out) hb); have n3_ := Aside0.mk (below_step (by repeat (first | (with_reducible first | exact HB.out | apply l1 | apply l2 | apply l3 | refine below_set ?_ GE149.out | refine below_set ?_ GE150.out | refine below_set ?_ GE153.out) | exact HB.out)) hb); clear BK149; clear BK150; clear BK153; clear HB; have BK149 := n0_; have BK150 := n1_; have BK153 := n2_; have HB := n3_; clear n0_ n1_ n2_ n3_; (try clear hb); (try clear hb2); (try clear hk); (try clear hi)) | ((with_reducible refine gate_dst (N := 5) rfl ?_); refine box_event (by rfl) (N := 5) (by rfl) (cs := #[.int .u64 0, .int .u64 0]) (t := 127) (by first | (go_simp; done) | (go_simp; rfl)) ?_; intro gb158 hg w17 hbox hb; obtain ⟨hb_, hw_⟩ := box_facts (by repeat (first | (with_reducible first | exact HB.out | apply l1 | apply l2 | apply l3 | refine below_set ?_ GE149.out | refine below_set ?_ GE150.out | refine below_set ?_ GE153.out) | exact HB.out)) hg hb; have n0_ := Aside0.mk (blk_below (by (with_reducible repeat (first | apply b1 | apply b2 | apply b3)); exact BK149.out) hb); have n1_ := Aside0.mk (blk_below (by (with_reducible repeat (first | apply b1 | apply b2 | apply b3)); exact BK150.out) hb); have n2_ := Aside0.mk (blk_below (by (with_reducible repeat (first | apply b1 | apply b2 | apply b3)); exact BK153.out) hb); have n3_ := Aside0.mk (hb_); have n4_ := Aside0.mk (hbox); have n5_ := Aside0.mk (hw_); have n6_ := Aside0.mk (hw_); have n7_ := Aside0.mk ((by rw [hg]; exact Nat.ne_of_lt (blk_lt (by (with_reducible repeat (first | apply b1 | apply b2 | apply b3)); exact BK149.out)) : gb149 ≠ gb158)); have n8_ := Aside0.mk ((by rw [hg]; exact Nat.ne_of_gt (blk_lt (by (with_reducible repeat (first | apply b1 | apply b2 | apply b3)); exact BK149.out)) : gb158 ≠ gb149)); have n9_ := Aside0.mk ((by rw [hg]; exact Nat.ne_of_lt (blk_lt (by (with_reducible repeat (first | apply b1 | apply b2 | apply b3)); exact BK150.out)) : gb150 ≠ gb158)); have n10_ := Aside0.mk ((by rw [hg]; exact Nat.ne_of_gt (blk_lt (by (with_reducible repeat (first | apply b1 | apply b2 | apply b3)); exact BK150.out)) : gb158 ≠ gb150)); have n11_ := Aside0.mk ((by rw [hg]; exact Nat.ne_of_lt (blk_lt (by (with_reducible repeat (first | apply b1 | apply b2 | apply b3)); exact BK153.out)) : gb153 ≠ gb158)); have n12_ := Aside0.mk ((by rw [hg]; exact Nat.ne_of_gt (blk_lt (by (with_reducible repeat (first | apply b1 | apply b2 | apply b3)); exact BK153.out)) : gb158 ≠ gb153)); clear BK149; clear BK150; clear BK153; clear HB; have BK149 := n0_; have BK150 := n1_; have BK153 := n2_; have HB := n3_; have BK158 := n4_; have GW158 := n5_; have GE158 := n6_; have NB149_158 := n7_; have NB158_149 := n8_; have NB150_158 := n9_; have NB158_150 := n10_; have NB153_158 := n11_; have NB158_153 := n12_; clear n0_ n1_ n2_ n3_ n4_ n5_ n6_ n7_ n8_ n9_ n10_ n11_ n12_; clear hb hbox hg hb_ hw_) | ((with_reducible refine gate_dst (N := 6) rfl ?_); refine box_event (by rfl) (N := 6) (by rfl) (cs := #[.int .u64 0, .int .u64 0]) (t := 127) (by first | (go_simp; done) | (go_simp; rfl)) ?_; intro gb159 hg w18 hbox hb; obtain ⟨hb_, hw_⟩ := box_facts (by repeat (first | (with_reducible first | exact HB.out | apply l1 | apply l2 | apply l3 | refine below_set ?_ GE149.out | refine below_set ?_ GE150.out | refine below_set ?_ GE153.out | refine below_set ?_ GE158.out) | exact HB.out)) hg hb; have n0_ := Aside0.mk (blk_below (by (with_reducible repeat (first | apply b1 | apply b2 | apply b3)); exact BK149.out) hb); have n1_ := Aside0.mk (blk_below (by (with_reducible repeat (first | apply b1 | apply b2 | apply b3)); exact BK150.out) hb); have n2_ := Aside0.mk (blk_below (by (with_reducible repeat (first | apply b1 | apply b2 | apply b3)); exact BK153.out) hb); have n3_ := Aside0.mk (blk_below (by (with_reducible repeat (first | apply b1 | apply b2 | apply b3)); exact BK158.out) hb); have n4_ := Aside0.mk (hb_); have n5_ := Aside0.mk (hbox); have n6_ := Aside0.mk (hw_); have n7_ := Aside0.mk (hw_); have n8_ := Aside0.mk ((by rw [hg]; exact Nat.ne_of_lt (blk_lt (by (with_reducible repeat (first | apply b1 | apply b2 | apply b3)); exact BK149.out)) : gb149 ≠ gb159)); have n9_ := Aside0.mk ((by rw [hg]; exact Nat.ne_of_gt (blk_lt (by (with_reducible repeat (first | apply b1 | apply b2 | apply b3)); exact BK149.out)) : gb159 ≠ gb149)); have n10_ := Aside0.mk ((by rw [hg]; exact Nat.ne_of_lt (blk_lt (by (with_reducible repeat (first | apply b1 | apply b2 | apply b3)); exact BK150.out)) : gb150 ≠ gb159)); have n11_ := Aside0.mk ((by rw [hg]; exact Nat.ne_of_gt (blk_lt (by (with_reducible repeat (first | apply b1 | apply b2 | apply b3)); exact BK150.out)) : gb159 ≠ gb150)); have n12_ := Aside0.mk ((by rw [hg]; exact Nat.ne_of_lt (blk_lt (by (with_reducible repeat (first | apply b1 | apply b2 | apply b3)); exact BK153.out)) : gb153 ≠ gb159)); have n13_ := Aside0.mk ((by rw [hg]; exact Nat.ne_of_gt (blk_lt (by (with_reducible repeat (first | apply b1 | apply b2 | apply b3)); exact BK153.out)) : gb159 ≠ gb153)); have n14_ := Aside0.mk ((by rw [hg]; exact Nat.ne_of_lt (blk_lt (by (with_reducible repeat (first | apply b1 | apply b2 | apply b3)); exact BK158.out)) : gb158 ≠ gb159)); have n15_ := Aside0.mk ((by rw [hg]; exact Nat.ne_of_gt (blk_lt (by (with_reducible repeat (first | apply b1 | apply b2 | apply b3)); exact BK158.out)) : gb159 ≠ gb158)); clear BK149; clear BK150; clear BK153; clear BK158; clear HB; have BK149 := n0_; have BK150 := n1_; have BK153 := n2_; have BK158 := n3_; have HB := n4_; have BK159 := n5_; have GW159 := n6_; have GE159 := n7_; have NB149_159 := n8_; have NB159_149 := n9_; have NB150_159 := n10_; have NB159_150 := n11_; have NB153_159 := n12_; have NB159_153 := n13_; have NB158_159 := n14_; have NB159_158 := n15_; clear n0_ n1_ n2_ n3_ n4_ n5_ n6_ n7_ n8_ n9_ n10_ n11_ n12_ n13_ n14_ n15_; clear hb hbox hg hb_ hw_; have hnb19 := NB158_149.out; have hnc19 := NB149_158.out; have hnb20 := NB158_150.out; have hnc20 := NB150_158.out; have hnb21 := NB158_153.out; have hnc21 := NB153_158.out; have hnb22 := NB158_159.out; have hnc22 := NB159_158.out; obtain ⟨hcz23_0, hcz23_1, hfz23_0, hfz23_1⟩ := blk_cells2 BK158.out; have hnb24 := NB159_149.out; have hnc24 := NB149_159.out; have hnb25 := NB159_150.out; have hnc25 := NB150_159.out; have hnb26 := NB159_153.out; have hnc26 := NB153_159.out; obtain ⟨hcz27_0, hcz27_1, hfz27_0, hfz27_1⟩ := blk_cells2 BK159.out; obtain ⟨hcz28_0, hcz28_1, hcz28_2, hcz28_3, hcz28_4, hfz28_0, hfz28_1, hfz28_2, hfz28_3, hfz28_4⟩ := blk_cells5 BK149.out; obtain ⟨hcz29_0, hcz29_1, hfz29_0, hfz29_1⟩ := blk_cells2 BK153.out) | ((with_reducible refine gate_callee (f := 97) rfl ?_); refine goesL_ (some 26) rfl rfl Try.func97 (by kernel_rfl) rfl #[.agg #[.int .u64 a0_3, .int .u64 a0_4], .agg #[.int .u64 t151, .int .u64 t152]] rfl (by (try simp only [List.map_toArray, List.map_cons, List.map_nil]); first | done | rfl | (simp only [List.length_drop, List.length_take]; rfl)) ?_; (with_reducible refine (ratio_wide_over.calls k a0_3 a0_4 t151 t152 t160 t161 t162 t163 _ A4.out).mono ?_); rintro e w30 ⟨rfl, hb⟩; refine ⟨_, rfl, ?_⟩; have n0_ := Aside0.mk (blk_below (g := gb149) (o := .cells #[.bool a0_0, .int .u64 a0_1, .int .u64 a0_2, .int .u64 a0_3, .int .u64 a0_4] 131 (0, 0)) (by (with_reducible repeat (first | apply b1 | apply b2 | apply b3)); refine blk_far ?_ NB149_159.out _; (with_reducible repeat (first | apply b1 | apply b2 | apply b3)); refine blk_far ?_ NB149_159.out _; (with_reducible repeat (first | apply b1 | apply b2 | apply b3)); refine blk_far ?_ NB149_158.out _; (with_reducible repeat (first | apply b1 | apply b2 | apply b3)); refine blk_far ?_ NB149_158.out _; (with_reducible repeat (first | apply b1 | apply b2 | apply b3)); exact BK149.out) hb); have n1_ := Aside0.mk (blk_below (g := gb150) (o := .cells #[.int .i64 0, .int .i64 0] 32 (0, 0)) (by (with_reducible repeat (first | apply b1 | apply b2 | apply b3)); refine blk_far ?_ NB150_159.out _; (with_reducible repeat (first | apply b1 | apply b2 | apply b3)); refine blk_far ?_ NB150_159.out _; (with_reducible repeat (first | apply b1 | apply b2 | apply b3)); refine blk_far ?_ NB150_158.out _; (with_reducible repeat (first | apply b1 | apply b2 | apply b3)); refine blk_far ?_ NB150_158.out _; (with_reducible repeat (first | apply b1 | apply b2 | apply b3)); exact BK150.out) hb); have n2_ := Aside0.mk (blk_below (g := gb153) (o := .cells #[.int .u64 t151, .int .u64 t152] 127 (0, 0)) (by (with_reducible repeat (first | apply b1 | apply b2 | apply b3)); refine blk_far ?_ NB153_159.out _; (with_reducible repeat (first | apply b1 | apply b2 | apply b3)); refine blk_far ?_ NB153_159.out _; (with_reducible repeat (first | apply b1 | apply b2 | apply b3)); refine blk_far ?_ NB153_158.out _; (with_reducible repeat (first | apply b1 | apply b2 | apply b3)); refine blk_far ?_ NB153_158.out _; (with_reducible repeat (first | apply b1 | apply b2 | apply b3)); exact BK153.out) hb); have n3_ := Aside0.mk (blk_below (g := gb158) (o := .cells #[.int .u64 t154, .int .u64 t155] 127 (0, 0)) (by (with_reducible repeat (first | apply b1 | apply b2 | apply b3)); refine blk_far ?_ NB158_159.out _; (with_reducible repeat (first | apply b1 | apply b2 | apply b3)); refine blk_far ?_ NB158_159.out _; (with_reducible repeat (first | apply b1 | apply b2 | apply b3)); refine blk_put (cs := #[.int .u64 t154, .int .u64 0]) ?_ 1 _ rfl; (with_reducible repeat (first | apply b1 | apply b2 | apply b3)); refine blk_put (cs := #[.int .u64 0, .int .u64 0]) ?_ 0 _ rfl; (with_reducible repeat (first | apply b1 | apply b2 | apply b3)); exact BK158.out) hb); have n4_ := Aside0.mk (blk_below (g := gb159) (o := .cells #[.int .u64 t156, .int .u64 t157] 127 (0, 0)) (by (with_reducible repeat (first | apply b1 | apply b2 | apply b3)); refine blk_put (cs := #[.int .u64 t156, .int .u64 0]) ?_ 1 _ rfl; (with_reducible repeat (first | apply b1 | apply b2 | apply b3)); refine blk_put (cs := #[.int .u64 0, .int .u64 0]) ?_ 0 _ rfl; (with_reducible repeat (first | apply b1 | apply b2 | apply b3)); refine blk_far ?_ NB159_158.out _; (with_reducible repeat (first | apply b1 | apply b2 | apply b3)); refine blk_far ?_ NB159_158.out _; (with_reducible repeat (first | apply b1 | apply b2 | apply b3)); exact BK159.out) hb); have n5_ := Aside0.mk (below_step (by repeat (first | (with_reducible first | exact HB.out | apply l1 | apply l2 | apply l3 | refine below_set ?_ GE149.out | refine below_set ?_ GE150.out | refine below_set ?_ GE153.out | refine below_set ?_ GE158.out | refine below_set ?_ GE159.out) | exact HB.out)) hb); clear BK149; clear BK150; clear BK153; clear BK158; clear BK159; clear HB; have BK149 := n0_; have BK150 := n1_; have BK153 := n2_; have BK158 := n3_; have BK159 := n4_; have HB := n5_; clear n0_ n1_ n2_ n3_ n4_ n5_; (try clear hb); (try clear hb2); (try clear hk); (try clear hi)) | ((with_reducible refine gate_dst (N := 7) rfl ?_); refine box_event (by rfl) (N := 7) (by rfl) (cs := #[.int .u64 0, .int .u64 0]) (t := 127) (by first | (go_simp; done) | (go_simp; rfl)) ?_; intro gb164 hg w31 hbox hb; obtain ⟨hb_, hw_⟩ := box_facts (by repeat (first | (with_reducible first | exact HB.out | apply l1 | apply l2 | apply l3 | refine below_set ?_ GE149.out | refine below_set ?_ GE150.out | refine below_set ?_ GE153.out | refine below_set ?_ GE158.out | refine below_set ?_ GE159.out) | exact HB.out)) hg hb; have n0_ := Aside0.mk (blk_below (by (with_reducible repeat (first | apply b1 | apply b2 | apply b3)); exact BK149.out) hb); have n1_ := Aside0.mk (blk_below (by (with_reducible repeat (first | apply b1 | apply b2 | apply b3)); exact BK150.out) hb); have n2_ := Aside0.mk (blk_below (by (with_reducible repeat (first | apply b1 | apply b2 | apply b3)); exact BK153.out) hb); have n3_ := Aside0.mk (blk_below (by (with_reducible repeat (first | apply b1 | apply b2 | apply b3)); exact BK158.out) hb); have n4_ := Aside0.mk (blk_below (by (with_reducible repeat (first | apply b1 | apply b2 | apply b3)); exact BK159.out) hb); have n5_ := Aside0.mk (hb_); have n6_ := Aside0.mk (hbox); have n7_ := Aside0.mk (hw_); have n8_ := Aside0.mk (hw_); have n9_ := Aside0.mk ((by rw [hg]; exact Nat.ne_of_lt (blk_lt (by (with_reducible repeat (first | apply b1 | apply b2 | apply b3)); exact BK149.out)) : gb149 ≠ gb164)); have n10_ := Aside0.mk ((by rw [hg]; exact Nat.ne_of_gt (blk_lt (by (with_reducible repeat (first | apply b1 | apply b2 | apply b3)); exact BK149.out)) : gb164 ≠ gb149)); have n11_ := Aside0.mk ((by rw [hg]; exact Nat.ne_of_lt (blk_lt (by (with_reducible repeat (first | apply b1 | apply b2 | apply b3)); exact BK150.out)) : gb150 ≠ gb164)); have n12_ := Aside0.mk ((by rw [hg]; exact Nat.ne_of_gt (blk_lt (by (with_reducible repeat (first | apply b1 | apply b2 | apply b3)); exact BK150.out)) : gb164 ≠ gb150)); have n13_ := Aside0.mk ((by rw [hg]; exact Nat.ne_of_lt (blk_lt (by (with_reducible repeat (first | apply b1 | apply b2 | apply b3)); exact BK153.out)) : gb153 ≠ gb164)); have n14_ := Aside0.mk ((by rw [hg]; exact Nat.ne_of_gt (blk_lt (by (with_reducible repeat (first | apply b1 | apply b2 | apply b3)); exact BK153.out)) : gb164 ≠ gb153)); have n15_ := Aside0.mk ((by rw [hg]; exact Nat.ne_of_lt (blk_lt (by (with_reducible repeat (first | apply b1 | apply b2 | apply b3)); exact BK158.out)) : gb158 ≠ gb164)); have n16_ := Aside0.mk ((by rw [hg]; exact Nat.ne_of_gt (blk_lt (by (with_reducible repeat (first | apply b1 | apply b2 | apply b3)); exact BK158.out)) : gb164 ≠ gb158)); have n17_ := Aside0.mk ((by rw [hg]; exact Nat.ne_of_lt (blk_lt (by (with_reducible repeat (first | apply b1 | apply b2 | apply b3)); exact BK159.out)) : gb159 ≠ gb164)); have n18_ := Aside0.mk ((by rw [hg]; exact Nat.ne_of_gt (blk_lt (by (with_reducible repeat (first | apply b1 | apply b2 | apply b3)); exact BK159.out)) : gb164 ≠ gb159)); clear BK149; clear BK150; clear BK153; clear BK158; clear BK159; clear HB; have BK149 := n0_; have BK150 := n1_; have BK153 := n2_; have BK158 := n3_; have BK159 := n4_; have HB := n5_; have BK164 := n6_; have GW164 := n7_; have GE164 := n8_; have NB149_164 := n9_; have NB164_149 := n10_; have NB150_164 := n11_; have NB164_150 := n12_; have NB153_164 := n13_; have NB164_153 := n14_; have NB158_164 := n15_; have NB164_158 := n16_; have NB159_164 := n17_; have NB164_159 := n18_; clear n0_ n1_ n2_ n3_ n4_ n5_ n6_ n7_ n8_ n9_ n10_ n11_ n12_ n13_ n14_ n15_ n16_ n17_ n18_; clear hb hbox hg hb_ hw_) | ((with_reducible refine gate_dst (N := 8) rfl ?_); refine box_event (by rfl) (N := 8) (by rfl) (cs := #[.int .u64 0, .int .u64 0]) (t := 127) (by first | (go_simp; done) | (go_simp; rfl)) ?_; intro gb165 hg w32 hbox hb; obtain ⟨hb_, hw_⟩ := box_facts (by repeat (first | (with_reducible first | exact HB.out | apply l1 | apply l2 | apply l3 | refine below_set ?_ GE149.out | refine below_set ?_ GE150.out | refine below_set ?_ GE153.out | refine below_set ?_ GE158.out | refine below_set ?_ GE159.out | refine below_set ?_ GE164.out) | exact HB.out)) hg hb; have n0_ := Aside0.mk (blk_below (by (with_reducible repeat (first | apply b1 | apply b2 | apply b3)); exact BK149.out) hb); have n1_ := Aside0.mk (blk_below (by (with_reducible repeat (first | apply b1 | apply b2 | apply b3)); exact BK150.out) hb); have n2_ := Aside0.mk (blk_below (by (with_reducible repeat (first | apply b1 | apply b2 | apply b3)); exact BK153.out) hb); have n3_ := Aside0.mk (blk_below (by (with_reducible repeat (first | apply b1 | apply b2 | apply b3)); exact BK158.out) hb); have n4_ := Aside0.mk (blk_below (by (with_reducible repeat (first | apply b1 | apply b2 | apply b3)); exact BK159.out) hb); have n5_ := Aside0.mk (blk_below (by (with_reducible repeat (first | apply b1 | apply b2 | apply b3)); exact BK164.out) hb); have n6_ := Aside0.mk (hb_); have n7_ := Aside0.mk (hbox); have n8_ := Aside0.mk (hw_); have n9_ := Aside0.mk (hw_); have n10_ := Aside0.mk ((by rw [hg]; exact Nat.ne_of_lt (blk_lt (by (with_reducible repeat (first | apply b1 | apply b2 | apply b3)); exact BK149.out)) : gb149 ≠ gb165)); have n11_ := Aside0.mk ((by rw [hg]; exact Nat.ne_of_gt (blk_lt (by (with_reducible repeat (first | apply b1 | apply b2 | apply b3)); exact BK149.out)) : gb165 ≠ gb149)); have n12_ := Aside0.mk ((by rw [hg]; exact Nat.ne_of_lt (blk_lt (by (with_reducible repeat (first | apply b1 | apply b2 | apply b3)); exact BK150.out)) : gb150 ≠ gb165)); have n13_ := Aside0.mk ((by rw [hg]; exact Nat.ne_of_gt (blk_lt (by (with_reducible repeat (first | apply b1 | apply b2 | apply b3)); exact BK150.out)) : gb165 ≠ gb150)); have n14_ := Aside0.mk ((by rw [hg]; exact Nat.ne_of_lt (blk_lt (by (with_reducible repeat (first | apply b1 | apply b2 | apply b3)); exact BK153.out)) : gb153 ≠ gb165)); have n15_ := Aside0.mk ((by rw [hg]; exact Nat.ne_of_gt (blk_lt (by (with_reducible repeat (first | apply b1 | apply b2 | apply b3)); exact BK153.out)) : gb165 ≠ gb153)); have n16_ := Aside0.mk ((by rw [hg]; exact Nat.ne_of_lt (blk_lt (by (with_reducible repeat (first | apply b1 | apply b2 | apply b3)); exact BK158.out)) : gb158 ≠ gb165)); have n17_ := Aside0.mk ((by rw [hg]; exact Nat.ne_of_gt (blk_lt (by (with_reducible repeat (first | apply b1 | apply b2 | apply b3)); exact BK158.out)) : gb165 ≠ gb158)); have n18_ := Aside0.mk ((by rw [hg]; exact Nat.ne_of_lt (blk_lt (by (with_reducible repeat (first | apply b1 | apply b2 | apply b3)); exact BK159.out)) : gb159 ≠ gb165)); have n19_ := Aside0.mk ((by rw [hg]; exact Nat.ne_of_gt (blk_lt (by (with_reducible repeat (first | apply b1 | apply b2 | apply b3)); exact BK159.out)) : gb165 ≠ gb159)); have n20_ := Aside0.mk ((by rw [hg]; exact Nat.ne_of_lt (blk_lt (by (with_reducible repeat (first | apply b1 | apply b2 | apply b3)); exact BK164.out)) : gb164 ≠ gb165)); have n21_ := Aside0.mk ((by rw [hg]; exact Nat.ne_of_gt (blk_lt (by (with_reducible repeat (first | apply b1 | apply b2 | apply b3)); exact BK164.out)) : gb165 ≠ gb164)); clear BK149; clear BK150; clear BK153; clear BK158; clear BK159; clear BK164; clear HB; have BK149 := n0_; have BK150 := n1_; have BK153 := n2_; have BK158 := n3_; have BK159 := n4_; have BK164 := n5_; have HB := n6_; have BK165 := n7_; have GW165 := n8_; have GE165 := n9_; have NB149_165 := n10_; have NB165_149 := n11_; have NB150_165 := n12_; have NB165_150 := n13_; have NB153_165 := n14_; have NB165_153 := n15_; have NB158_165 := n16_; have NB165_158 := n17_; have NB159_165 := n18_; have NB165_159 := n19_; have NB164_165 := n20_; have NB165_164 := n21_; clear n0_ n1_ n2_ n3_ n4_ n5_ n6_ n7_ n8_ n9_ n10_ n11_ n12_ n13_ n14_ n15_ n16_ n17_ n18_ n19_ n20_ n21_; clear hb hbox hg hb_ hw_; have hnb33 := NB164_149.out; have hnc33 := NB149_164.out; have hnb34 := NB164_150.out; have hnc34 := NB150_164.out; have hnb35 := NB164_153.out; have hnc35 := NB153_164.out; have hnb36 := NB164_158.out; have hnc36 := NB158_164.out; have hnb37 := NB164_159.out; have hnc37 := NB159_164.out; have hnb38 := NB164_165.out; have hnc38 := NB165_164.out; obtain ⟨hcz39_0, hcz39_1, hfz39_0, hfz39_1⟩ := blk_cells2 BK164.out; have hnb40 := NB165_149.out; have hnc40 := NB149_165.out; have hnb41 := NB165_150.out; have hnc41 := NB150_165.out; have hnb42 := NB165_153.out; have hnc42 := NB153_165.out; have hnb43 := NB165_158.out; have hnc43 := NB158_165.out; have hnb44 := NB165_159.out; have hnc44 := NB159_165.out; obtain ⟨hcz45_0, hcz45_1, hfz45_0, hfz45_1⟩ := blk_cells2 BK165.out))
 (try simp only [Act.put, List.setIfInBounds_toArray, List.set_cons_zero, List.set_cons_succ])
 go_cut [38] (fun v38 wc => ∃ (kq : Nat) (x38_4 : Bool), v38 = .bool x38_4 ∧ Aside0 (ratio_frac_fit.j0 kq x38_4 a0_0 a0_1 a0_2 a0_3 a0_4 t154 t155 t160 t161 = some (r1, r2, r3)) ∧ Aside0 (kq ≤ k) ∧ Aside0 (wc.heap[gb149]? = some (.cells #[.bool a0_0, .int .u64 a0_1, .int .u64 a0_2, .int .u64 a0_3, .int .u64 a0_4] 131 (0, 0))) ∧ Aside0 (wc.heap[gb150]? = some (.cells #[.int .i64 0, .int .i64 0] 32 (0, 0))) ∧ Aside0 (wc.heap[gb153]? = some (.cells #[.int .u64 t151, .int .u64 t152] 127 (0, 0))) ∧ Aside0 (wc.heap[gb158]? = some (.cells #[.int .u64 t154, .int .u64 t155] 127 (0, 0))) ∧ Aside0 (wc.heap[gb159]? = some (.cells #[.int .u64 t156, .int .u64 t157] 127 (0, 0))) ∧ Aside0 (wc.heap[gb164]? = some (.cells #[.int .u64 t160, .int .u64 t161] 127 (0, 0))) ∧ Aside0 (wc.heap[gb165]? = some (.cells #[.int .u64 t162, .int .u64 t163] 127 (0, 0))) ∧ Aside0 (Below w.heap.size w wc))
 case first =>
  have H := HC5.out
  clear HC5
  replace H := Option.bind_eq_some_iff.mp H
  obtain ⟨⟨t166, t167⟩, A460, H⟩ := H
  (try dsimp only at H)
  have A46 := Aside0.mk A460
  clear A460
  replace H := Option.bind_eq_some_iff.mp H
  obtain ⟨t168, A470, H⟩ := H
  (try dsimp only at H)
  have A47 := Aside0.mk A470
  clear A470
  by_cases c48 : t168 > 0
  ·rw [if_pos c48] at H
   have c48b0 : decide (0 < t168) = true := decide_eq_true c48
   clear c48
   (first | rw [c48b0] | (simp only [i64_w, i32_w]; rw [c48b0]) | skip)
   have H' := Aside0.mk H
   clear H
   try go_wp2
   have n0_ : Aside0 (((((w32.setCell ⟨gb164, 0, none⟩ (.int .u64 t160)).setCell ⟨gb164, 1, none⟩ (.int .u64 t161)).setCell ⟨gb165, 0, none⟩ (.int .u64 t162)).setCell ⟨gb165, 1, none⟩ (.int .u64 t163)).heap[gb149]? = some (.cells #[.bool a0_0, .int .u64 a0_1, .int .u64 a0_2, .int .u64 a0_3, .int .u64 a0_4] 131 (0, 0))) := ⟨by (with_reducible repeat (first | apply b1 | apply b2 | apply b3)); refine blk_far ?_ NB149_165.out _; (with_reducible repeat (first | apply b1 | apply b2 | apply b3)); refine blk_far ?_ NB149_165.out _; (with_reducible repeat (first | apply b1 | apply b2 | apply b3)); refine blk_far ?_ NB149_164.out _; (with_reducible repeat (first | apply b1 | apply b2 | apply b3)); refine blk_far ?_ NB149_164.out _; (with_reducible repeat (first | apply b1 | apply b2 | apply b3)); exact BK149.out⟩
   have n1_ : Aside0 (((((w32.setCell ⟨gb164, 0, none⟩ (.int .u64 t160)).setCell ⟨gb164, 1, none⟩ (.int .u64 t161)).setCell ⟨gb165, 0, none⟩ (.int .u64 t162)).setCell ⟨gb165, 1, none⟩ (.int .u64 t163)).heap[gb150]? = some (.cells #[.int .i64 0, .int .i64 0] 32 (0, 0))) := ⟨by (with_reducible repeat (first | apply b1 | apply b2 | apply b3)); refine blk_far ?_ NB150_165.out _; (with_reducible repeat (first | apply b1 | apply b2 | apply b3)); refine blk_far ?_ NB150_165.out _; (with_reducible repeat (first | apply b1 | apply b2 | apply b3)); refine blk_far ?_ NB150_164.out _; (with_reducible repeat (first | apply b1 | apply b2 | apply b3)); refine blk_far ?_ NB150_164.out _; (with_reducible repeat (first | apply b1 | apply b2 | apply b3)); exact BK150.out⟩
   have n2_ : Aside0 (((((w32.setCell ⟨gb164, 0, none⟩ (.int .u64 t160)).setCell ⟨gb164, 1, none⟩ (.int .u64 t161)).setCell ⟨gb165, 0, none⟩ (.int .u64 t162)).setCell ⟨gb165, 1, none⟩ (.int .u64 t163)).heap[gb153]? = some (.cells #[.int .u64 t151, .int .u64 t152] 127 (0, 0))) := ⟨by (with_reducible repeat (first | apply b1 | apply b2 | apply b3)); refine blk_far ?_ NB153_165.out _; (with_reducible repeat (first | apply b1 | apply b2 | apply b3)); refine blk_far ?_ NB153_165.out _; (with_reducible repeat (first | apply b1 | apply b2 | apply b3)); refine blk_far ?_ NB153_164.out _; (with_reducible repeat (first | apply b1 | apply b2 | apply b3)); refine blk_far ?_ NB153_164.out _; (with_reducible repeat (first | apply b1 | apply b2 | apply b3)); exact BK153.out⟩
   have n3_ : Aside0 (((((w32.setCell ⟨gb164, 0, none⟩ (.int .u64 t160)).setCell ⟨gb164, 1, none⟩ (.int .u64 t161)).setCell ⟨gb165, 0, none⟩ (.int .u64 t162)).setCell ⟨gb165, 1, none⟩ (.int .u64 t163)).heap[gb158]? = some (.cells #[.int .u64 t154, .int .u64 t155] 127 (0, 0))) := ⟨by (with_reducible repeat (first | apply b1 | apply b2 | apply b3)); refine blk_far ?_ NB158_165.out _; (with_reducible repeat (first | apply b1 | apply b2 | apply b3)); refine blk_far ?_ NB158_165.out _; (with_reducible repeat (first | apply b1 | apply b2 | apply b3)); refine blk_far ?_ NB158_164.out _; (with_reducible repeat (first | apply b1 | apply b2 | apply b3)); refine blk_far ?_ NB158_164.out _; (with_reducible repeat (first | apply b1 | apply b2 | apply b3)); exact BK158.out⟩
   have n4_ : Aside0 (((((w32.setCell ⟨gb164, 0, none⟩ (.int .u64 t160)).setCell ⟨gb164, 1, none⟩ (.int .u64 t161)).setCell ⟨gb165, 0, none⟩ (.int .u64 t162)).setCell ⟨gb165, 1, none⟩ (.int .u64 t163)).heap[gb159]? = some (.cells #[.int .u64 t156, .int .u64 t157] 127 (0, 0))) := ⟨by (with_reducible repeat (first | apply b1 | apply b2 | apply b3)); refine blk_far ?_ NB159_165.out _; (with_reducible repeat (first | apply b1 | apply b2 | apply b3)); refine blk_far ?_ NB159_165.out _; (with_reducible repeat (first | apply b1 | apply b2 | apply b3)); refine blk_far ?_ NB159_164.out _; (with_reducible repeat (first | apply b1 | apply b2 | apply b3)); refine blk_far ?_ NB159_164.out _; (with_reducible repeat (first | apply b1 | apply b2 | apply b3)); exact BK159.out⟩
   have n5_ : Aside0 (((((w32.setCell ⟨gb164, 0, none⟩ (.int .u64 t160)).setCell ⟨gb164, 1, none⟩ (.int .u64 t161)).setCell ⟨gb165, 0, none⟩ (.int .u64 t162)).setCell ⟨gb165, 1, none⟩ (.int .u64 t163)).heap[gb164]? = some (.cells #[.int .u64 t160, .int .u64 t161] 127 (0, 0))) := ⟨by (with_reducible repeat (first | apply b1 | apply b2 | apply b3)); refine blk_far ?_ NB164_165.out _; (with_reducible repeat (first | apply b1 | apply b2 | apply b3)); refine blk_far ?_ NB164_165.out _; (with_reducible repeat (first | apply b1 | apply b2 | apply b3)); refine blk_put (cs := #[.int .u64 t160, .int .u64 0]) ?_ 1 _ rfl; (with_reducible repeat (first | apply b1 | apply b2 | apply b3)); refine blk_put (cs := #[.int .u64 0, .int .u64 0]) ?_ 0 _ rfl; (with_reducible repeat (first | apply b1 | apply b2 | apply b3)); exact BK164.out⟩
   have n6_ : Aside0 (((((w32.setCell ⟨gb164, 0, none⟩ (.int .u64 t160)).setCell ⟨gb164, 1, none⟩ (.int .u64 t161)).setCell ⟨gb165, 0, none⟩ (.int .u64 t162)).setCell ⟨gb165, 1, none⟩ (.int .u64 t163)).heap[gb165]? = some (.cells #[.int .u64 t162, .int .u64 t163] 127 (0, 0))) := ⟨by (with_reducible repeat (first | apply b1 | apply b2 | apply b3)); refine blk_put (cs := #[.int .u64 t162, .int .u64 0]) ?_ 1 _ rfl; (with_reducible repeat (first | apply b1 | apply b2 | apply b3)); refine blk_put (cs := #[.int .u64 0, .int .u64 0]) ?_ 0 _ rfl; (with_reducible repeat (first | apply b1 | apply b2 | apply b3)); refine blk_far ?_ NB165_164.out _; (with_reducible repeat (first | apply b1 | apply b2 | apply b3)); refine blk_far ?_ NB165_164.out _; (with_reducible repeat (first | apply b1 | apply b2 | apply b3)); exact BK165.out⟩
   have n7_ : Aside0 (Below w.heap.size w ((((w32.setCell ⟨gb164, 0, none⟩ (.int .u64 t160)).setCell ⟨gb164, 1, none⟩ (.int .u64 t161)).setCell ⟨gb165, 0, none⟩ (.int .u64 t162)).setCell ⟨gb165, 1, none⟩ (.int .u64 t163))) := ⟨by repeat (first | (with_reducible first | exact HB.out | apply l1 | apply l2 | apply l3 | refine below_set ?_ GE149.out | refine below_set ?_ GE150.out | refine below_set ?_ GE153.out | refine below_set ?_ GE158.out | refine below_set ?_ GE159.out | refine below_set ?_ GE164.out | refine below_set ?_ GE165.out) | exact HB.out)⟩
   (try clear BK149)
   (try clear BK150)
   (try clear BK153)
   (try clear BK158)
   (try clear BK159)
   (try clear BK164)
   (try clear BK165)
   (try clear HB)
   generalize ((((w32.setCell ⟨gb164, 0, none⟩ (.int .u64 t160)).setCell ⟨gb164, 1, none⟩ (.int .u64 t161)).setCell ⟨gb165, 0, none⟩ (.int .u64 t162)).setCell ⟨gb165, 1, none⟩ (.int .u64 t163)) = w49 at n0_ n1_ n2_ n3_ n4_ n5_ n6_ n7_ ⊢
   have BK149 := n0_
   have BK150 := n1_
   have BK153 := n2_
   have BK158 := n3_
   have BK159 := n4_
   have BK164 := n5_
   have BK165 := n6_
   have HB := n7_
   clear n0_ n1_ n2_ n3_ n4_ n5_ n6_ n7_
   have n0_ := Aside0.mk (blk_drew BK149.out)
   have n1_ := Aside0.mk (blk_drew BK150.out)
   have n2_ := Aside0.mk (blk_drew BK153.out)
   have n3_ := Aside0.mk (blk_drew BK158.out)
   have n4_ := Aside0.mk (blk_drew BK159.out)
   have n5_ := Aside0.mk (blk_drew BK164.out)
   have n6_ := Aside0.mk (blk_drew BK165.out)
   have n7_ := Aside0.mk (below_drew1 HB.out)
   clear BK149
   clear BK150
   clear BK153
   clear BK158
   clear BK159
   clear BK164
   clear BK165
   clear HB
   have BK149 := n0_
   have BK150 := n1_
   have BK153 := n2_
   have BK158 := n3_
   have BK159 := n4_
   have BK164 := n5_
   have BK165 := n6_
   have HB := n7_
   clear n0_ n1_ n2_ n3_ n4_ n5_ n6_ n7_
   refine start_ (n := 10) (S := fun w' => w'.cell? ⟨gb158, 0, none⟩ = some (.int .u64 t154) ∧ w'.cell? ⟨gb158, 1, none⟩ = some (.int .u64 t155)) (ds := []) #[false, false, false, false, false, false, false, false, false, false] (by kernel_rfl) rfl rfl ⟨(blk_cell BK158.out 0).trans rfl, (blk_cell BK158.out 1).trans rfl⟩ (fun hHeld => ?_); refine with_tabW ratio_frac_fit.tab4 ratio_frac_fit.bits4 (fun HT_ HW_ => ?_)
   generalize w49.drew = w50 at BK149 BK150 BK153 BK158 BK159 BK164 BK165 HB hHeld ⊢
   refine take_ (i := 0) (N := some 29) (v := ?_) (a' := ?_) #[true, false, false, false, false, false, false, false, false, false] rfl rfl (take_ofW HT_.out HW_.out (by kernel_rfl)) (fun _ _ _ h => h) (Or.inl ⟨by rfl, ?_⟩) hHeld ?_ ?_
   rotate_left
   ·rintro w' ⟨s0, s1⟩
    go_simp
    with_reducible rfl
   rotate_left
   ·simp only [Act.put, List.setIfInBounds_toArray, List.set_cons_zero, List.set_cons_succ, i64_w, i32_w]
    rfl
   refine one_ (i := 1) (N := some 30) #[true, true, false, false, false, false, false, false, false, false] rfl rfl (one_of HT_.out (by kernel_rfl)) (by decide) (fun K hK => ?_)
   refine goes_ Try.func98 (by kernel_rfl) rfl #[.int .u64 4611686018427387904] (by rfl) rfl rfl (by (try simp only [List.map_toArray, List.map_cons, List.map_nil]); first | done | rfl | (simp only [List.length_drop, List.length_take]; rfl)) ?_
   with_reducible refine (ratio_small.calls 4611686018427387904 t166 t167 _ A46.out).mono ?_
   rintro e w51 ⟨rfl, hb⟩
   refine ⟨_, rfl, ?_⟩
   have n0_ := Aside0.mk (blk_below (g := gb149) (o := .cells #[.bool a0_0, .int .u64 a0_1, .int .u64 a0_2, .int .u64 a0_3, .int .u64 a0_4] 131 (0, 0)) (by (with_reducible repeat (first | apply b1 | apply b2 | apply b3)); exact BK149.out) hb)
   have n1_ := Aside0.mk (blk_below (g := gb150) (o := .cells #[.int .i64 0, .int .i64 0] 32 (0, 0)) (by (with_reducible repeat (first | apply b1 | apply b2 | apply b3)); exact BK150.out) hb)
   have n2_ := Aside0.mk (blk_below (g := gb153) (o := .cells #[.int .u64 t151, .int .u64 t152] 127 (0, 0)) (by (with_reducible repeat (first | apply b1 | apply b2 | apply b3)); exact BK153.out) hb)
   have n3_ := Aside0.mk (blk_below (g := gb158) (o := .cells #[.int .u64 t154, .int .u64 t155] 127 (0, 0)) (by (with_reducible repeat (first | apply b1 | apply b2 | apply b3)); exact BK158.out) hb)
   have n4_ := Aside0.mk (blk_below (g := gb159) (o := .cells #[.int .u64 t156, .int .u64 t157] 127 (0, 0)) (by (with_reducible repeat (first | apply b1 | apply b2 | apply b3)); exact BK159.out) hb)
   have n5_ := Aside0.mk (blk_below (g := gb164) (o := .cells #[.int .u64 t160, .int .u64 t161] 127 (0, 0)) (by (with_reducible repeat (first | apply b1 | apply b2 | apply b3)); exact BK164.out) hb)
   have n6_ := Aside0.mk (blk_below (g := gb165) (o := .cells #[.int .u64 t162, .int .u64 t163] 127 (0, 0)) (by (with_reducible repeat (first | apply b1 | apply b2 | apply b3)); exact BK165.out) hb)
   have n7_ := Aside0.mk (below_step (by repeat (first | (with_reducible first | exact HB.out | apply l1 | apply l2 | apply l3 | refine below_set ?_ GE149.out | refine below_set ?_ GE150.out | refine below_set ?_ GE153.out | refine below_set ?_ GE158.out | refine below_set ?_ GE159.out | refine below_set ?_ GE164.out | refine below_set ?_ GE165.out) | exact HB.out)) hb)
   clear BK149
   clear BK150
   clear BK153
   clear BK158
   clear BK159
   clear BK164
   clear BK165
   clear HB
   have BK149 := n0_
   have BK150 := n1_
   have BK153 := n2_
   have BK158 := n3_
   have BK159 := n4_
   have BK164 := n5_
   have BK165 := n6_
   have HB := n7_
   clear n0_ n1_ n2_ n3_ n4_ n5_ n6_ n7_
   (try clear hb)
   (try clear hb2)
   (try clear hk)
   (try clear hi)
   refine hK.out _ _ ⟨(blk_cell BK158.out 0).trans rfl, (blk_cell BK158.out 1).trans rfl⟩ (fun hHeld => ?_)
   clear hK K
   refine norm_ (a' := ?_) ?_ ?_
   rotate_left
   ·show Act.put _ (some 30) _ = _
    simp only [Act.put, List.setIfInBounds_toArray, List.set_cons_zero, List.set_cons_succ, i64_w, i32_w]
    rfl
   refine one_ (i := 2) (N := some 31) #[true, true, true, false, false, false, false, false, false, false] rfl rfl (one_of HT_.out (by kernel_rfl)) (by decide) (fun K hK => ?_)
   refine goes_ Try.func83 (by kernel_rfl) rfl #[.agg #[.int .u64 t154, .int .u64 t155], .agg #[.int .u64 t166, .int .u64 t167]] (by rfl) rfl rfl (by (try simp only [List.map_toArray, List.map_cons, List.map_nil]); first | done | rfl | (simp only [List.length_drop, List.length_take]; rfl)) ?_
   with_reducible refine (ratio_wide_cmp.calls t154 t155 t166 t167 t168 _ A47.out).mono ?_
   rintro e w52 ⟨rfl, hb⟩
   refine ⟨_, rfl, ?_⟩
   have n0_ := Aside0.mk (blk_below (g := gb149) (o := .cells #[.bool a0_0, .int .u64 a0_1, .int .u64 a0_2, .int .u64 a0_3, .int .u64 a0_4] 131 (0, 0)) (by (with_reducible repeat (first | apply b1 | apply b2 | apply b3)); exact BK149.out) hb)
   have n1_ := Aside0.mk (blk_below (g := gb150) (o := .cells #[.int .i64 0, .int .i64 0] 32 (0, 0)) (by (with_reducible repeat (first | apply b1 | apply b2 | apply b3)); exact BK150.out) hb)
   have n2_ := Aside0.mk (blk_below (g := gb153) (o := .cells #[.int .u64 t151, .int .u64 t152] 127 (0, 0)) (by (with_reducible repeat (first | apply b1 | apply b2 | apply b3)); exact BK153.out) hb)
   have n3_ := Aside0.mk (blk_below (g := gb158) (o := .cells #[.int .u64 t154, .int .u64 t155] 127 (0, 0)) (by (with_reducible repeat (first | apply b1 | apply b2 | apply b3)); exact BK158.out) hb)
   have n4_ := Aside0.mk (blk_below (g := gb159) (o := .cells #[.int .u64 t156, .int .u64 t157] 127 (0, 0)) (by (with_reducible repeat (first | apply b1 | apply b2 | apply b3)); exact BK159.out) hb)
   have n5_ := Aside0.mk (blk_below (g := gb164) (o := .cells #[.int .u64 t160, .int .u64 t161] 127 (0, 0)) (by (with_reducible repeat (first | apply b1 | apply b2 | apply b3)); exact BK164.out) hb)
   have n6_ := Aside0.mk (blk_below (g := gb165) (o := .cells #[.int .u64 t162, .int .u64 t163] 127 (0, 0)) (by (with_reducible repeat (first | apply b1 | apply b2 | apply b3)); exact BK165.out) hb)
   have n7_ := Aside0.mk (below_step (by repeat (first | (with_reducible first | exact HB.out | apply l1 | apply l2 | apply l3 | refine below_set ?_ GE149.out | refine below_set ?_ GE150.out | refine below_set ?_ GE153.out | refine below_set ?_ GE158.out | refine below_set ?_ GE159.out | refine below_set ?_ GE164.out | refine below_set ?_ GE165.out) | exact HB.out)) hb)
   clear BK149
   clear BK150
   clear BK153
   clear BK158
   clear BK159
   clear BK164
   clear BK165
   clear HB
   have BK149 := n0_
   have BK150 := n1_
   have BK153 := n2_
   have BK158 := n3_
   have BK159 := n4_
   have BK164 := n5_
   have BK165 := n6_
   have HB := n7_
   clear n0_ n1_ n2_ n3_ n4_ n5_ n6_ n7_
   (try clear hb)
   (try clear hb2)
   (try clear hk)
   (try clear hi)
   refine hK.out _ _ ⟨(blk_cell BK158.out 0).trans rfl, (blk_cell BK158.out 1).trans rfl⟩ (fun hHeld => ?_)
   clear hK K
   refine norm_ (a' := ?_) ?_ ?_
   rotate_left
   ·show Act.put _ (some 31) _ = _
    simp only [Act.put, List.setIfInBounds_toArray, List.set_cons_zero, List.set_cons_succ, i64_w, i32_w]
    rfl
   refine pure_ (i := 3) (N := some 32) (v := ?_) (a' := ?_) #[true, true, true, true, false, false, false, false, false, false] rfl rfl (any_of HT_.out (by kernel_rfl)) (fun _ _ _ h => h) (Or.inl ⟨by rfl, ?_⟩) ?_ ?_
   rotate_left
   ·intro w'
    go_simp
    with_reducible rfl
   rotate_left
   ·simp only [Act.put, List.setIfInBounds_toArray, List.set_cons_zero, List.set_cons_succ, i64_w, i32_w]
    rfl
   refine pure_ (i := 4) (N := some 33) (v := ?_) (a' := ?_) #[true, true, true, true, true, false, false, false, false, false] rfl rfl (any_of HT_.out (by kernel_rfl)) (fun _ _ _ h => h) (Or.inl ⟨by rfl, ?_⟩) ?_ ?_
   rotate_left
   ·intro w'
    go_simp
    with_reducible rfl
   rotate_left
   ·simp only [Act.put, List.setIfInBounds_toArray, List.set_cons_zero, List.set_cons_succ, i64_w, i32_w]
    rfl
   refine pure_ (i := 5) (N := some 34) (v := undef) (a' := ?_) #[true, true, true, true, true, true, false, false, false, false] rfl rfl (any_of HT_.out (by kernel_rfl)) (fun _ _ _ h => h) (Or.inr ⟨by rfl, rfl⟩) ?_ ?_
   rotate_left
   ·simp only [Act.put, List.setIfInBounds_toArray, List.set_cons_zero, List.set_cons_succ, i64_w, i32_w]
    rfl
   refine pure_ (i := 6) (N := some 35) (v := undef) (a' := ?_) #[true, true, true, true, true, true, true, false, false, false] rfl rfl (any_of HT_.out (by kernel_rfl)) (fun _ _ _ h => h) (Or.inr ⟨by rfl, rfl⟩) ?_ ?_
   rotate_left
   ·simp only [Act.put, List.setIfInBounds_toArray, List.set_cons_zero, List.set_cons_succ, i64_w, i32_w]
    rfl
   refine pure_ (i := 7) (N := some 36) (v := undef) (a' := ?_) #[true, true, true, true, true, true, true, true, false, false] rfl rfl (any_of HT_.out (by kernel_rfl)) (fun _ _ _ h => h) (Or.inr ⟨by rfl, rfl⟩) ?_ ?_
   rotate_left
   ·simp only [Act.put, List.setIfInBounds_toArray, List.set_cons_zero, List.set_cons_succ, i64_w, i32_w]
    rfl
   refine pure_ (i := 8) (N := some 37) (v := undef) (a' := ?_) #[true, true, true, true, true, true, true, true, true, false] rfl rfl (any_of HT_.out (by kernel_rfl)) (fun _ _ _ h => h) (Or.inr ⟨by rfl, rfl⟩) ?_ ?_
   rotate_left
   ·simp only [Act.put, List.setIfInBounds_toArray, List.set_cons_zero, List.set_cons_succ, i64_w, i32_w]
    rfl
   refine pure_ (i := 9) (N := some 38) (v := ?_) (a' := ?_) #[true, true, true, true, true, true, true, true, true, true] rfl rfl (any_of HT_.out (by kernel_rfl)) (fun _ _ _ h => h) (Or.inl ⟨by rfl, ?_⟩) ?_ ?_
   rotate_left
   ·intro w'
    go_simp
    with_reducible rfl
   rotate_left
   ·simp only [Act.put, List.setIfInBounds_toArray, List.set_cons_zero, List.set_cons_succ, i64_w, i32_w]
    rfl
   refine done_ (done_of HT_.out (by kernel_rfl)) ?_
   try go_wp2
   go_meet
   case rel => exact ⟨_, (true), (by first | rfl | (simp; done) | (simp [*]; done)), H', ⟨by first | omega | exact Nat.le_refl _⟩, ⟨by (with_reducible repeat (first | apply b1 | apply b2 | apply b3)); exact BK149.out⟩, ⟨by (with_reducible repeat (first | apply b1 | apply b2 | apply b3)); exact BK150.out⟩, ⟨by (with_reducible repeat (first | apply b1 | apply b2 | apply b3)); exact BK153.out⟩, ⟨by (with_reducible repeat (first | apply b1 | apply b2 | apply b3)); exact BK158.out⟩, ⟨by (with_reducible repeat (first | apply b1 | apply b2 | apply b3)); exact BK159.out⟩, ⟨by (with_reducible repeat (first | apply b1 | apply b2 | apply b3)); exact BK164.out⟩, ⟨by (with_reducible repeat (first | apply b1 | apply b2 | apply b3)); exact BK165.out⟩, ⟨by repeat (first | (with_reducible first | exact HB.out | apply l1 | apply l2 | apply l3 | refine below_set ?_ GE149.out | refine below_set ?_ GE150.out | refine below_set ?_ GE153.out | refine below_set ?_ GE158.out | refine below_set ?_ GE159.out | refine below_set ?_ GE164.out | refine below_set ?_ GE165.out) | exact HB.out)⟩⟩
  ·rw [if_neg c48] at H
   have c48b0 : decide (0 < t168) = false := decide_eq_false c48
   clear c48
   (first | rw [c48b0] | (simp only [i64_w, i32_w]; rw [c48b0]) | skip)
   replace H := Option.bind_eq_some_iff.mp H
   obtain ⟨⟨t169, t170⟩, A530, H⟩ := H
   (try dsimp only at H)
   have A53 := Aside0.mk A530
   clear A530
   replace H := Option.bind_eq_some_iff.mp H
   obtain ⟨t171, A540, H⟩ := H
   (try dsimp only at H)
   have A54 := Aside0.mk A540
   clear A540
   have H' := Aside0.mk H
   clear H
   try go_wp2
   have n0_ : Aside0 (((((w32.setCell ⟨gb164, 0, none⟩ (.int .u64 t160)).setCell ⟨gb164, 1, none⟩ (.int .u64 t161)).setCell ⟨gb165, 0, none⟩ (.int .u64 t162)).setCell ⟨gb165, 1, none⟩ (.int .u64 t163)).heap[gb149]? = some (.cells #[.bool a0_0, .int .u64 a0_1, .int .u64 a0_2, .int .u64 a0_3, .int .u64 a0_4] 131 (0, 0))) := ⟨by (with_reducible repeat (first | apply b1 | apply b2 | apply b3)); refine blk_far ?_ NB149_165.out _; (with_reducible repeat (first | apply b1 | apply b2 | apply b3)); refine blk_far ?_ NB149_165.out _; (with_reducible repeat (first | apply b1 | apply b2 | apply b3)); refine blk_far ?_ NB149_164.out _; (with_reducible repeat (first | apply b1 | apply b2 | apply b3)); refine blk_far ?_ NB149_164.out _; (with_reducible repeat (first | apply b1 | apply b2 | apply b3)); exact BK149.out⟩
   have n1_ : Aside0 (((((w32.setCell ⟨gb164, 0, none⟩ (.int .u64 t160)).setCell ⟨gb164, 1, none⟩ (.int .u64 t161)).setCell ⟨gb165, 0, none⟩ (.int .u64 t162)).setCell ⟨gb165, 1, none⟩ (.int .u64 t163)).heap[gb150]? = some (.cells #[.int .i64 0, .int .i64 0] 32 (0, 0))) := ⟨by (with_reducible repeat (first | apply b1 | apply b2 | apply b3)); refine blk_far ?_ NB150_165.out _; (with_reducible repeat (first | apply b1 | apply b2 | apply b3)); refine blk_far ?_ NB150_165.out _; (with_reducible repeat (first | apply b1 | apply b2 | apply b3)); refine blk_far ?_ NB150_164.out _; (with_reducible repeat (first | apply b1 | apply b2 | apply b3)); refine blk_far ?_ NB150_164.out _; (with_reducible repeat (first | apply b1 | apply b2 | apply b3)); exact BK150.out⟩
   have n2_ : Aside0 (((((w32.setCell ⟨gb164, 0, none⟩ (.int .u64 t160)).setCell ⟨gb164, 1, none⟩ (.int .u64 t161)).setCell ⟨gb165, 0, none⟩ (.int .u64 t162)).setCell ⟨gb165, 1, none⟩ (.int .u64 t163)).heap[gb153]? = some (.cells #[.int .u64 t151, .int .u64 t152] 127 (0, 0))) := ⟨by (with_reducible repeat (first | apply b1 | apply b2 | apply b3)); refine blk_far ?_ NB153_165.out _; (with_reducible repeat (first | apply b1 | apply b2 | apply b3)); refine blk_far ?_ NB153_165.out _; (with_reducible repeat (first | apply b1 | apply b2 | apply b3)); refine blk_far ?_ NB153_164.out _; (with_reducible repeat (first | apply b1 | apply b2 | apply b3)); refine blk_far ?_ NB153_164.out _; (with_reducible repeat (first | apply b1 | apply b2 | apply b3)); exact BK153.out⟩
   have n3_ : Aside0 (((((w32.setCell ⟨gb164, 0, none⟩ (.int .u64 t160)).setCell ⟨gb164, 1, none⟩ (.int .u64 t161)).setCell ⟨gb165, 0, none⟩ (.int .u64 t162)).setCell ⟨gb165, 1, none⟩ (.int .u64 t163)).heap[gb158]? = some (.cells #[.int .u64 t154, .int .u64 t155] 127 (0, 0))) := ⟨by (with_reducible repeat (first | apply b1 | apply b2 | apply b3)); refine blk_far ?_ NB158_165.out _; (with_reducible repeat (first | apply b1 | apply b2 | apply b3)); refine blk_far ?_ NB158_165.out _; (with_reducible repeat (first | apply b1 | apply b2 | apply b3)); refine blk_far ?_ NB158_164.out _; (with_reducible repeat (first | apply b1 | apply b2 | apply b3)); refine blk_far ?_ NB158_164.out _; (with_reducible repeat (first | apply b1 | apply b2 | apply b3)); exact BK158.out⟩
   have n4_ : Aside0 (((((w32.setCell ⟨gb164, 0, none⟩ (.int .u64 t160)).setCell ⟨gb164, 1, none⟩ (.int .u64 t161)).setCell ⟨gb165, 0, none⟩ (.int .u64 t162)).setCell ⟨gb165, 1, none⟩ (.int .u64 t163)).heap[gb159]? = some (.cells #[.int .u64 t156, .int .u64 t157] 127 (0, 0))) := ⟨by (with_reducible repeat (first | apply b1 | apply b2 | apply b3)); refine blk_far ?_ NB159_165.out _; (with_reducible repeat (first | apply b1 | apply b2 | apply b3)); refine blk_far ?_ NB159_165.out _; (with_reducible repeat (first | apply b1 | apply b2 | apply b3)); refine blk_far ?_ NB159_164.out _; (with_reducible repeat (first | apply b1 | apply b2 | apply b3)); refine blk_far ?_ NB159_164.out _; (with_reducible repeat (first | apply b1 | apply b2 | apply b3)); exact BK159.out⟩
   have n5_ : Aside0 (((((w32.setCell ⟨gb164, 0, none⟩ (.int .u64 t160)).setCell ⟨gb164, 1, none⟩ (.int .u64 t161)).setCell ⟨gb165, 0, none⟩ (.int .u64 t162)).setCell ⟨gb165, 1, none⟩ (.int .u64 t163)).heap[gb164]? = some (.cells #[.int .u64 t160, .int .u64 t161] 127 (0, 0))) := ⟨by (with_reducible repeat (first | apply b1 | apply b2 | apply b3)); refine blk_far ?_ NB164_165.out _; (with_reducible repeat (first | apply b1 | apply b2 | apply b3)); refine blk_far ?_ NB164_165.out _; (with_reducible repeat (first | apply b1 | apply b2 | apply b3)); refine blk_put (cs := #[.int .u64 t160, .int .u64 0]) ?_ 1 _ rfl; (with_reducible repeat (first | apply b1 | apply b2 | apply b3)); refine blk_put (cs := #[.int .u64 0, .int .u64 0]) ?_ 0 _ rfl; (with_reducible repeat (first | apply b1 | apply b2 | apply b3)); exact BK164.out⟩
   have n6_ : Aside0 (((((w32.setCell ⟨gb164, 0, none⟩ (.int .u64 t160)).setCell ⟨gb164, 1, none⟩ (.int .u64 t161)).setCell ⟨gb165, 0, none⟩ (.int .u64 t162)).setCell ⟨gb165, 1, none⟩ (.int .u64 t163)).heap[gb165]? = some (.cells #[.int .u64 t162, .int .u64 t163] 127 (0, 0))) := ⟨by (with_reducible repeat (first | apply b1 | apply b2 | apply b3)); refine blk_put (cs := #[.int .u64 t162, .int .u64 0]) ?_ 1 _ rfl; (with_reducible repeat (first | apply b1 | apply b2 | apply b3)); refine blk_put (cs := #[.int .u64 0, .int .u64 0]) ?_ 0 _ rfl; (with_reducible repeat (first | apply b1 | apply b2 | apply b3)); refine blk_far ?_ NB165_164.out _; (with_reducible repeat (first | apply b1 | apply b2 | apply b3)); refine blk_far ?_ NB165_164.out _; (with_reducible repeat (first | apply b1 | apply b2 | apply b3)); exact BK165.out⟩
   have n7_ : Aside0 (Below w.heap.size w ((((w32.setCell ⟨gb164, 0, none⟩ (.int .u64 t160)).setCell ⟨gb164, 1, none⟩ (.int .u64 t161)).setCell ⟨gb165, 0, none⟩ (.int .u64 t162)).setCell ⟨gb165, 1, none⟩ (.int .u64 t163))) := ⟨by repeat (first | (with_reducible first | exact HB.out | apply l1 | apply l2 | apply l3 | refine below_set ?_ GE149.out | refine below_set ?_ GE150.out | refine below_set ?_ GE153.out | refine below_set ?_ GE158.out | refine below_set ?_ GE159.out | refine below_set ?_ GE164.out | refine below_set ?_ GE165.out) | exact HB.out)⟩
   (try clear BK149)
   (try clear BK150)
   (try clear BK153)
   (try clear BK158)
   (try clear BK159)
   (try clear BK164)
   (try clear BK165)
   (try clear HB)
   generalize ((((w32.setCell ⟨gb164, 0, none⟩ (.int .u64 t160)).setCell ⟨gb164, 1, none⟩ (.int .u64 t161)).setCell ⟨gb165, 0, none⟩ (.int .u64 t162)).setCell ⟨gb165, 1, none⟩ (.int .u64 t163)) = w55 at n0_ n1_ n2_ n3_ n4_ n5_ n6_ n7_ ⊢
   have BK149 := n0_
   have BK150 := n1_
   have BK153 := n2_
   have BK158 := n3_
   have BK159 := n4_
   have BK164 := n5_
   have BK165 := n6_
   have HB := n7_
   clear n0_ n1_ n2_ n3_ n4_ n5_ n6_ n7_
   have n0_ := Aside0.mk (blk_drew BK149.out)
   have n1_ := Aside0.mk (blk_drew BK150.out)
   have n2_ := Aside0.mk (blk_drew BK153.out)
   have n3_ := Aside0.mk (blk_drew BK158.out)
   have n4_ := Aside0.mk (blk_drew BK159.out)
   have n5_ := Aside0.mk (blk_drew BK164.out)
   have n6_ := Aside0.mk (blk_drew BK165.out)
   have n7_ := Aside0.mk (below_drew1 HB.out)
   clear BK149
   clear BK150
   clear BK153
   clear BK158
   clear BK159
   clear BK164
   clear BK165
   clear HB
   have BK149 := n0_
   have BK150 := n1_
   have BK153 := n2_
   have BK158 := n3_
   have BK159 := n4_
   have BK164 := n5_
   have BK165 := n6_
   have HB := n7_
   clear n0_ n1_ n2_ n3_ n4_ n5_ n6_ n7_
   refine start_ (n := 10) (S := fun w' => w'.cell? ⟨gb158, 0, none⟩ = some (.int .u64 t154) ∧ w'.cell? ⟨gb158, 1, none⟩ = some (.int .u64 t155) ∧ w'.cell? ⟨gb164, 0, none⟩ = some (.int .u64 t160) ∧ w'.cell? ⟨gb164, 1, none⟩ = some (.int .u64 t161)) (ds := []) #[false, false, false, false, false, false, false, false, false, false] (by kernel_rfl) rfl rfl ⟨(blk_cell BK158.out 0).trans rfl, (blk_cell BK158.out 1).trans rfl, (blk_cell BK164.out 0).trans rfl, (blk_cell BK164.out 1).trans rfl⟩ (fun hHeld => ?_); refine with_tabW ratio_frac_fit.tab4 ratio_frac_fit.bits4 (fun HT_ HW_ => ?_)
   generalize w55.drew = w56 at BK149 BK150 BK153 BK158 BK159 BK164 BK165 HB hHeld ⊢
   refine take_ (i := 0) (N := some 29) (v := ?_) (a' := ?_) #[true, false, false, false, false, false, false, false, false, false] rfl rfl (take_ofW HT_.out HW_.out (by kernel_rfl)) (fun _ _ _ h => h) (Or.inl ⟨by rfl, ?_⟩) hHeld ?_ ?_
   rotate_left
   ·rintro w' ⟨s0, s1, s2, s3⟩
    go_simp
    with_reducible rfl
   rotate_left
   ·simp only [Act.put, List.setIfInBounds_toArray, List.set_cons_zero, List.set_cons_succ, i64_w, i32_w]
    rfl
   refine one_ (i := 1) (N := some 30) #[true, true, false, false, false, false, false, false, false, false] rfl rfl (one_of HT_.out (by kernel_rfl)) (by decide) (fun K hK => ?_)
   refine goes_ Try.func98 (by kernel_rfl) rfl #[.int .u64 4611686018427387904] (by rfl) rfl rfl (by (try simp only [List.map_toArray, List.map_cons, List.map_nil]); first | done | rfl | (simp only [List.length_drop, List.length_take]; rfl)) ?_
   with_reducible refine (ratio_small.calls 4611686018427387904 t166 t167 _ A46.out).mono ?_
   rintro e w57 ⟨rfl, hb⟩
   refine ⟨_, rfl, ?_⟩
   have n0_ := Aside0.mk (blk_below (g := gb149) (o := .cells #[.bool a0_0, .int .u64 a0_1, .int .u64 a0_2, .int .u64 a0_3, .int .u64 a0_4] 131 (0, 0)) (by (with_reducible repeat (first | apply b1 | apply b2 | apply b3)); exact BK149.out) hb)
   have n1_ := Aside0.mk (blk_below (g := gb150) (o := .cells #[.int .i64 0, .int .i64 0] 32 (0, 0)) (by (with_reducible repeat (first | apply b1 | apply b2 | apply b3)); exact BK150.out) hb)
   have n2_ := Aside0.mk (blk_below (g := gb153) (o := .cells #[.int .u64 t151, .int .u64 t152] 127 (0, 0)) (by (with_reducible repeat (first | apply b1 | apply b2 | apply b3)); exact BK153.out) hb)
   have n3_ := Aside0.mk (blk_below (g := gb158) (o := .cells #[.int .u64 t154, .int .u64 t155] 127 (0, 0)) (by (with_reducible repeat (first | apply b1 | apply b2 | apply b3)); exact BK158.out) hb)
   have n4_ := Aside0.mk (blk_below (g := gb159) (o := .cells #[.int .u64 t156, .int .u64 t157] 127 (0, 0)) (by (with_reducible repeat (first | apply b1 | apply b2 | apply b3)); exact BK159.out) hb)
   have n5_ := Aside0.mk (blk_below (g := gb164) (o := .cells #[.int .u64 t160, .int .u64 t161] 127 (0, 0)) (by (with_reducible repeat (first | apply b1 | apply b2 | apply b3)); exact BK164.out) hb)
   have n6_ := Aside0.mk (blk_below (g := gb165) (o := .cells #[.int .u64 t162, .int .u64 t163] 127 (0, 0)) (by (with_reducible repeat (first | apply b1 | apply b2 | apply b3)); exact BK165.out) hb)
   have n7_ := Aside0.mk (below_step (by repeat (first | (with_reducible first | exact HB.out | apply l1 | apply l2 | apply l3 | refine below_set ?_ GE149.out | refine below_set ?_ GE150.out | refine below_set ?_ GE153.out | refine below_set ?_ GE158.out | refine below_set ?_ GE159.out | refine below_set ?_ GE164.out | refine below_set ?_ GE165.out) | exact HB.out)) hb)
   clear BK149
   clear BK150
   clear BK153
   clear BK158
   clear BK159
   clear BK164
   clear BK165
   clear HB
   have BK149 := n0_
   have BK150 := n1_
   have BK153 := n2_
   have BK158 := n3_
   have BK159 := n4_
   have BK164 := n5_
   have BK165 := n6_
   have HB := n7_
   clear n0_ n1_ n2_ n3_ n4_ n5_ n6_ n7_
   (try clear hb)
   (try clear hb2)
   (try clear hk)
   (try clear hi)
   refine hK.out _ _ ⟨(blk_cell BK158.out 0).trans rfl, (blk_cell BK158.out 1).trans rfl, (blk_cell BK164.out 0).trans rfl, (blk_cell BK164.out 1).trans rfl⟩ (fun hHeld => ?_)
   clear hK K
   refine norm_ (a' := ?_) ?_ ?_
   rotate_left
   ·show Act.put _ (some 30) _ = _
    simp only [Act.put, List.setIfInBounds_toArray, List.set_cons_zero, List.set_cons_succ, i64_w, i32_w]
    rfl
   refine one_ (i := 2) (N := some 31) #[true, true, true, false, false, false, false, false, false, false] rfl rfl (one_of HT_.out (by kernel_rfl)) (by decide) (fun K hK => ?_)
   refine goes_ Try.func83 (by kernel_rfl) rfl #[.agg #[.int .u64 t154, .int .u64 t155], .agg #[.int .u64 t166, .int .u64 t167]] (by rfl) rfl rfl (by (try simp only [List.map_toArray, List.map_cons, List.map_nil]); first | done | rfl | (simp only [List.length_drop, List.length_take]; rfl)) ?_
   with_reducible refine (ratio_wide_cmp.calls t154 t155 t166 t167 t168 _ A47.out).mono ?_
   rintro e w58 ⟨rfl, hb⟩
   refine ⟨_, rfl, ?_⟩
   have n0_ := Aside0.mk (blk_below (g := gb149) (o := .cells #[.bool a0_0, .int .u64 a0_1, .int .u64 a0_2, .int .u64 a0_3, .int .u64 a0_4] 131 (0, 0)) (by (with_reducible repeat (first | apply b1 | apply b2 | apply b3)); exact BK149.out) hb)
   have n1_ := Aside0.mk (blk_below (g := gb150) (o := .cells #[.int .i64 0, .int .i64 0] 32 (0, 0)) (by (with_reducible repeat (first | apply b1 | apply b2 | apply b3)); exact BK150.out) hb)
   have n2_ := Aside0.mk (blk_below (g := gb153) (o := .cells #[.int .u64 t151, .int .u64 t152] 127 (0, 0)) (by (with_reducible repeat (first | apply b1 | apply b2 | apply b3)); exact BK153.out) hb)
   have n3_ := Aside0.mk (blk_below (g := gb158) (o := .cells #[.int .u64 t154, .int .u64 t155] 127 (0, 0)) (by (with_reducible repeat (first | apply b1 | apply b2 | apply b3)); exact BK158.out) hb)
   have n4_ := Aside0.mk (blk_below (g := gb159) (o := .cells #[.int .u64 t156, .int .u64 t157] 127 (0, 0)) (by (with_reducible repeat (first | apply b1 | apply b2 | apply b3)); exact BK159.out) hb)
   have n5_ := Aside0.mk (blk_below (g := gb164) (o := .cells #[.int .u64 t160, .int .u64 t161] 127 (0, 0)) (by (with_reducible repeat (first | apply b1 | apply b2 | apply b3)); exact BK164.out) hb)
   have n6_ := Aside0.mk (blk_below (g := gb165) (o := .cells #[.int .u64 t162, .int .u64 t163] 127 (0, 0)) (by (with_reducible repeat (first | apply b1 | apply b2 | apply b3)); exact BK165.out) hb)
   have n7_ := Aside0.mk (below_step (by repeat (first | (with_reducible first | exact HB.out | apply l1 | apply l2 | apply l3 | refine below_set ?_ GE149.out | refine below_set ?_ GE150.out | refine below_set ?_ GE153.out | refine below_set ?_ GE158.out | refine below_set ?_ GE159.out | refine below_set ?_ GE164.out | refine below_set ?_ GE165.out) | exact HB.out)) hb)
   clear BK149
   clear BK150
   clear BK153
   clear BK158
   clear BK159
   clear BK164
   clear BK165
   clear HB
   have BK149 := n0_
   have BK150 := n1_
   have BK153 := n2_
   have BK158 := n3_
   have BK159 := n4_
   have BK164 := n5_
   have BK165 := n6_
   have HB := n7_
   clear n0_ n1_ n2_ n3_ n4_ n5_ n6_ n7_
   (try clear hb)
   (try clear hb2)
   (try clear hk)
   (try clear hi)
   refine hK.out _ _ ⟨(blk_cell BK158.out 0).trans rfl, (blk_cell BK158.out 1).trans rfl, (blk_cell BK164.out 0).trans rfl, (blk_cell BK164.out 1).trans rfl⟩ (fun hHeld => ?_)
   clear hK K
   refine norm_ (a' := ?_) ?_ ?_
   rotate_left
   ·show Act.put _ (some 31) _ = _
    simp only [Act.put, List.setIfInBounds_toArray, List.set_cons_zero, List.set_cons_succ, i64_w, i32_w]
    rfl
   refine pure_ (i := 3) (N := some 32) (v := ?_) (a' := ?_) #[true, true, true, true, false, false, false, false, false, false] rfl rfl (any_of HT_.out (by kernel_rfl)) (fun _ _ _ h => h) (Or.inl ⟨by rfl, ?_⟩) ?_ ?_
   rotate_left
   ·intro w'
    go_simp
    with_reducible rfl
   rotate_left
   ·simp only [Act.put, List.setIfInBounds_toArray, List.set_cons_zero, List.set_cons_succ, i64_w, i32_w]
    rfl
   refine pure_ (i := 4) (N := some 33) (v := ?_) (a' := ?_) #[true, true, true, true, true, false, false, false, false, false] rfl rfl (any_of HT_.out (by kernel_rfl)) (fun _ _ _ h => h) (Or.inl ⟨by rfl, ?_⟩) ?_ ?_
   rotate_left
   ·intro w'
    go_simp
    with_reducible rfl
   rotate_left
   ·simp only [Act.put, List.setIfInBounds_toArray, List.set_cons_zero, List.set_cons_succ, i64_w, i32_w]
    rfl
   refine take_ (i := 5) (N := some 34) (v := ?_) (a' := ?_) #[true, true, true, true, true, true, false, false, false, false] rfl rfl (take_ofW HT_.out HW_.out (by kernel_rfl)) (fun _ _ _ h => h) (Or.inl ⟨by rfl, ?_⟩) hHeld ?_ ?_
   rotate_left
   ·rintro w' ⟨s0, s1, s2, s3⟩
    go_simp
    with_reducible rfl
   rotate_left
   ·simp only [Act.put, List.setIfInBounds_toArray, List.set_cons_zero, List.set_cons_succ, i64_w, i32_w]
    rfl
   refine one_ (i := 6) (N := some 35) #[true, true, true, true, true, true, true, false, false, false] rfl rfl (one_of HT_.out (by kernel_rfl)) (by decide) (fun K hK => ?_)
   refine goes_ Try.func98 (by kernel_rfl) rfl #[.int .u64 2147483648] (by rfl) rfl rfl (by (try simp only [List.map_toArray, List.map_cons, List.map_nil]); first | done | rfl | (simp only [List.length_drop, List.length_take]; rfl)) ?_
   with_reducible refine (ratio_small.calls 2147483648 t169 t170 _ A53.out).mono ?_
   rintro e w59 ⟨rfl, hb⟩
   refine ⟨_, rfl, ?_⟩
   have n0_ := Aside0.mk (blk_below (g := gb149) (o := .cells #[.bool a0_0, .int .u64 a0_1, .int .u64 a0_2, .int .u64 a0_3, .int .u64 a0_4] 131 (0, 0)) (by (with_reducible repeat (first | apply b1 | apply b2 | apply b3)); exact BK149.out) hb)
   have n1_ := Aside0.mk (blk_below (g := gb150) (o := .cells #[.int .i64 0, .int .i64 0] 32 (0, 0)) (by (with_reducible repeat (first | apply b1 | apply b2 | apply b3)); exact BK150.out) hb)
   have n2_ := Aside0.mk (blk_below (g := gb153) (o := .cells #[.int .u64 t151, .int .u64 t152] 127 (0, 0)) (by (with_reducible repeat (first | apply b1 | apply b2 | apply b3)); exact BK153.out) hb)
   have n3_ := Aside0.mk (blk_below (g := gb158) (o := .cells #[.int .u64 t154, .int .u64 t155] 127 (0, 0)) (by (with_reducible repeat (first | apply b1 | apply b2 | apply b3)); exact BK158.out) hb)
   have n4_ := Aside0.mk (blk_below (g := gb159) (o := .cells #[.int .u64 t156, .int .u64 t157] 127 (0, 0)) (by (with_reducible repeat (first | apply b1 | apply b2 | apply b3)); exact BK159.out) hb)
   have n5_ := Aside0.mk (blk_below (g := gb164) (o := .cells #[.int .u64 t160, .int .u64 t161] 127 (0, 0)) (by (with_reducible repeat (first | apply b1 | apply b2 | apply b3)); exact BK164.out) hb)
   have n6_ := Aside0.mk (blk_below (g := gb165) (o := .cells #[.int .u64 t162, .int .u64 t163] 127 (0, 0)) (by (with_reducible repeat (first | apply b1 | apply b2 | apply b3)); exact BK165.out) hb)
   have n7_ := Aside0.mk (below_step (by repeat (first | (with_reducible first | exact HB.out | apply l1 | apply l2 | apply l3 | refine below_set ?_ GE149.out | refine below_set ?_ GE150.out | refine below_set ?_ GE153.out | refine below_set ?_ GE158.out | refine below_set ?_ GE159.out | refine below_set ?_ GE164.out | refine below_set ?_ GE165.out) | exact HB.out)) hb)
   clear BK149
   clear BK150
   clear BK153
   clear BK158
   clear BK159
   clear BK164
   clear BK165
   clear HB
   have BK149 := n0_
   have BK150 := n1_
   have BK153 := n2_
   have BK158 := n3_
   have BK159 := n4_
   have BK164 := n5_
   have BK165 := n6_
   have HB := n7_
   clear n0_ n1_ n2_ n3_ n4_ n5_ n6_ n7_
   (try clear hb)
   (try clear hb2)
   (try clear hk)
   (try clear hi)
   refine hK.out _ _ ⟨(blk_cell BK158.out 0).trans rfl, (blk_cell BK158.out 1).trans rfl, (blk_cell BK164.out 0).trans rfl, (blk_cell BK164.out 1).trans rfl⟩ (fun hHeld => ?_)
   clear hK K
   refine norm_ (a' := ?_) ?_ ?_
   rotate_left
   ·show Act.put _ (some 35) _ = _
    simp only [Act.put, List.setIfInBounds_toArray, List.set_cons_zero, List.set_cons_succ, i64_w, i32_w]
    rfl
   refine one_ (i := 7) (N := some 36) #[true, true, true, true, true, true, true, true, false, false] rfl rfl (one_of HT_.out (by kernel_rfl)) (by decide) (fun K hK => ?_)
   refine goes_ Try.func83 (by kernel_rfl) rfl #[.agg #[.int .u64 t160, .int .u64 t161], .agg #[.int .u64 t169, .int .u64 t170]] (by rfl) rfl rfl (by (try simp only [List.map_toArray, List.map_cons, List.map_nil]); first | done | rfl | (simp only [List.length_drop, List.length_take]; rfl)) ?_
   with_reducible refine (ratio_wide_cmp.calls t160 t161 t169 t170 t171 _ A54.out).mono ?_
   rintro e w60 ⟨rfl, hb⟩
   refine ⟨_, rfl, ?_⟩
   have n0_ := Aside0.mk (blk_below (g := gb149) (o := .cells #[.bool a0_0, .int .u64 a0_1, .int .u64 a0_2, .int .u64 a0_3, .int .u64 a0_4] 131 (0, 0)) (by (with_reducible repeat (first | apply b1 | apply b2 | apply b3)); exact BK149.out) hb)
   have n1_ := Aside0.mk (blk_below (g := gb150) (o := .cells #[.int .i64 0, .int .i64 0] 32 (0, 0)) (by (with_reducible repeat (first | apply b1 | apply b2 | apply b3)); exact BK150.out) hb)
   have n2_ := Aside0.mk (blk_below (g := gb153) (o := .cells #[.int .u64 t151, .int .u64 t152] 127 (0, 0)) (by (with_reducible repeat (first | apply b1 | apply b2 | apply b3)); exact BK153.out) hb)
   have n3_ := Aside0.mk (blk_below (g := gb158) (o := .cells #[.int .u64 t154, .int .u64 t155] 127 (0, 0)) (by (with_reducible repeat (first | apply b1 | apply b2 | apply b3)); exact BK158.out) hb)
   have n4_ := Aside0.mk (blk_below (g := gb159) (o := .cells #[.int .u64 t156, .int .u64 t157] 127 (0, 0)) (by (with_reducible repeat (first | apply b1 | apply b2 | apply b3)); exact BK159.out) hb)
   have n5_ := Aside0.mk (blk_below (g := gb164) (o := .cells #[.int .u64 t160, .int .u64 t161] 127 (0, 0)) (by (with_reducible repeat (first | apply b1 | apply b2 | apply b3)); exact BK164.out) hb)
   have n6_ := Aside0.mk (blk_below (g := gb165) (o := .cells #[.int .u64 t162, .int .u64 t163] 127 (0, 0)) (by (with_reducible repeat (first | apply b1 | apply b2 | apply b3)); exact BK165.out) hb)
   have n7_ := Aside0.mk (below_step (by repeat (first | (with_reducible first | exact HB.out | apply l1 | apply l2 | apply l3 | refine below_set ?_ GE149.out | refine below_set ?_ GE150.out | refine below_set ?_ GE153.out | refine below_set ?_ GE158.out | refine below_set ?_ GE159.out | refine below_set ?_ GE164.out | refine below_set ?_ GE165.out) | exact HB.out)) hb)
   clear BK149
   clear BK150
   clear BK153
   clear BK158
   clear BK159
   clear BK164
   clear BK165
   clear HB
   have BK149 := n0_
   have BK150 := n1_
   have BK153 := n2_
   have BK158 := n3_
   have BK159 := n4_
   have BK164 := n5_
   have BK165 := n6_
   have HB := n7_
   clear n0_ n1_ n2_ n3_ n4_ n5_ n6_ n7_
   (try clear hb)
   (try clear hb2)
   (try clear hk)
   (try clear hi)
   refine hK.out _ _ ⟨(blk_cell BK158.out 0).trans rfl, (blk_cell BK158.out 1).trans rfl, (blk_cell BK164.out 0).trans rfl, (blk_cell BK164.out 1).trans rfl⟩ (fun hHeld => ?_)
   clear hK K
   refine norm_ (a' := ?_) ?_ ?_
   rotate_left
   ·show Act.put _ (some 36) _ = _
    simp only [Act.put, List.setIfInBounds_toArray, List.set_cons_zero, List.set_cons_succ, i64_w, i32_w]
    rfl
   refine pure_ (i := 8) (N := some 37) (v := ?_) (a' := ?_) #[true, true, true, true, true, true, true, true, true, false] rfl rfl (any_of HT_.out (by kernel_rfl)) (fun _ _ _ h => h) (Or.inl ⟨by rfl, ?_⟩) ?_ ?_
   rotate_left
   ·intro w'
    go_simp
    with_reducible rfl
   rotate_left
   ·simp only [Act.put, List.setIfInBounds_toArray, List.set_cons_zero, List.set_cons_succ, i64_w, i32_w]
    rfl
   refine pure_ (i := 9) (N := some 38) (v := ?_) (a' := ?_) #[true, true, true, true, true, true, true, true, true, true] rfl rfl (any_of HT_.out (by kernel_rfl)) (fun _ _ _ h => h) (Or.inl ⟨by rfl, ?_⟩) ?_ ?_
   rotate_left
   ·intro w'
    go_simp
    with_reducible rfl
   rotate_left
   ·simp only [Act.put, List.setIfInBounds_toArray, List.set_cons_zero, List.set_cons_succ, i64_w, i32_w]
    rfl
   refine done_ (done_of HT_.out (by kernel_rfl)) ?_
   try go_wp2
   go_meet
   case rel => exact ⟨_, (decide (t171 > 0)), (by first | rfl | (simp; done) | (simp [*]; done)), H', ⟨by first | omega | exact Nat.le_refl _⟩, ⟨by (with_reducible repeat (first | apply b1 | apply b2 | apply b3)); exact BK149.out⟩, ⟨by (with_reducible repeat (first | apply b1 | apply b2 | apply b3)); exact BK150.out⟩, ⟨by (with_reducible repeat (first | apply b1 | apply b2 | apply b3)); exact BK153.out⟩, ⟨by (with_reducible repeat (first | apply b1 | apply b2 | apply b3)); exact BK158.out⟩, ⟨by (with_reducible repeat (first | apply b1 | apply b2 | apply b3)); exact BK159.out⟩, ⟨by (with_reducible repeat (first | apply b1 | apply b2 | apply b3)); exact BK164.out⟩, ⟨by (with_reducible repeat (first | apply b1 | apply b2 | apply b3)); exact BK165.out⟩, ⟨by repeat (first | (with_reducible first | exact HB.out | apply l1 | apply l2 | apply l3 | refine below_set ?_ GE149.out | refine below_set ?_ GE150.out | refine below_set ?_ GE153.out | refine below_set ?_ GE158.out | refine below_set ?_ GE159.out | refine below_set ?_ GE164.out | refine below_set ?_ GE165.out) | exact HB.out)⟩⟩
 case rest =>
  clear HC5
  try clear c1
  try clear c2
  try clear p2
  try clear c3
  try clear c4
  try clear c8
  try clear c9
  try clear c12
  try clear c13
  try clear c19
  try clear c20
  try clear c21
  try clear c22
  try clear c24
  try clear c25
  try clear c26
  try clear c33
  try clear c34
  try clear c35
  try clear c36
  try clear c37
  try clear c38
  try clear c40
  try clear c41
  try clear c42
  try clear c43
  try clear c44
  try clear c48
  try clear c48b0
  try clear hcz14_0
  try clear hcz14_1
  try clear hcz15_0
  try clear hcz15_1
  try clear hcz15_2
  try clear hcz15_3
  try clear hcz15_4
  try clear hcz23_0
  try clear hcz23_1
  try clear hcz27_0
  try clear hcz27_1
  try clear hcz28_0
  try clear hcz28_1
  try clear hcz28_2
  try clear hcz28_3
  try clear hcz28_4
  try clear hcz29_0
  try clear hcz29_1
  try clear hcz39_0
  try clear hcz39_1
  try clear hcz45_0
  try clear hcz45_1
  try clear hcz9_0
  try clear hcz9_1
  try clear hcz9_2
  try clear hcz9_3
  try clear hcz9_4
  try clear hfz14_0
  try clear hfz14_1
  try clear hfz15_0
  try clear hfz15_1
  try clear hfz15_2
  try clear hfz15_3
  try clear hfz15_4
  try clear hfz23_0
  try clear hfz23_1
  try clear hfz27_0
  try clear hfz27_1
  try clear hfz28_0
  try clear hfz28_1
  try clear hfz28_2
  try clear hfz28_3
  try clear hfz28_4
  try clear hfz29_0
  try clear hfz29_1
  try clear hfz39_0
  try clear hfz39_1
  try clear hfz45_0
  try clear hfz45_1
  try clear hfz9_0
  try clear hfz9_1
  try clear hfz9_2
  try clear hfz9_3
  try clear hfz9_4
  obtain ⟨kq, x38_4, rfl, HA, HJ4, BK149, BK150, BK153, BK158, BK159, BK164, BK165, HB⟩ := hcut
  cases kq with
  | zero => exact absurd HA.out (by simp [ratio_frac_fit.j0])
  | succ kj4 =>
   have H := HA.out
   clear HA
   simp only [ratio_frac_fit.j0] at H
   by_cases c61 : x38_4 = true
   ·subst c61
    have H1 : (some (0, 0, 12)) = some (r1, r2, r3) := by rw [if_pos rfl] at H; exact H
    clear H
    have H := H1
    clear H1
    simp only [Option.some.injEq, Prod.mk.injEq] at H
    obtain ⟨rfl, rfl, rfl⟩ := H
    have hnb62 := NB150_149.out
    have hnc62 := NB149_150.out
    have hnb63 := NB150_153.out
    have hnc63 := NB153_150.out
    have hnb64 := NB150_158.out
    have hnc64 := NB158_150.out
    have hnb65 := NB150_159.out
    have hnc65 := NB159_150.out
    have hnb66 := NB150_164.out
    have hnc66 := NB164_150.out
    have hnb67 := NB150_165.out
    have hnc67 := NB165_150.out
    obtain ⟨hcz68_0, hcz68_1, hfz68_0, hfz68_1⟩ := blk_cells2 BK150.out
    go_wp2
    refine bodyPost_ret (results_ct rfl _ _ gb150 32 #[.int .i64 0, .int .i64 0] (0, 0) _ rfl (by (with_reducible repeat (first | apply b1 | apply b2 | apply b3)); refine blk_put (cs := #[.int .i64 0, .int .i64 0]) ?_ 1 _ rfl; (with_reducible repeat (first | apply b1 | apply b2 | apply b3)); refine blk_put (cs := #[.int .i64 0, .int .i64 0]) ?_ 0 _ rfl; (with_reducible repeat (first | apply b1 | apply b2 | apply b3)); exact BK150.out) Try.underlying32 rfl (by kernel_rfl)) rfl ?_
    exact ⟨by first | rfl | (simp [errW_none, errW_some] <;> rfl) | (simp [*, errW_none, errW_some] <;> rfl), by repeat (first | (with_reducible first | exact HB.out | apply l1 | apply l2 | apply l3 | refine below_set ?_ GE149.out | refine below_set ?_ GE150.out | refine below_set ?_ GE153.out | refine below_set ?_ GE158.out | refine below_set ?_ GE159.out | refine below_set ?_ GE164.out | refine below_set ?_ GE165.out) | exact HB.out)⟩
   ·replace c61 := Bool.eq_false_iff.mpr c61
    subst c61
    have H1 : (if a0_0 = true then (some (wrap64 (-(wrap64 (t155))), wrap64 (t161), 0)) else (some (wrap64 (t155), wrap64 (t161), 0))) = some (r1, r2, r3) := by rw [if_neg (show ¬ (false = true) by decide)] at H; exact H
    clear H
    have H := H1
    clear H1
    by_cases c69 : a0_0 = true
    ·subst c69
     have H1 : (some (wrap64 (-(wrap64 (t155))), wrap64 (t161), 0)) = some (r1, r2, r3) := by rw [if_pos rfl] at H; exact H
     clear H
     have H := H1
     clear H1
     simp only [Option.some.injEq, Prod.mk.injEq] at H
     obtain ⟨rfl, rfl, rfl⟩ := H
     have hnb70 := NB158_149.out
     have hnc70 := NB149_158.out
     have hnb71 := NB158_150.out
     have hnc71 := NB150_158.out
     have hnb72 := NB158_153.out
     have hnc72 := NB153_158.out
     have hnb73 := NB158_159.out
     have hnc73 := NB159_158.out
     have hnb74 := NB158_164.out
     have hnc74 := NB164_158.out
     have hnb75 := NB158_165.out
     have hnc75 := NB165_158.out
     obtain ⟨hcz76_0, hcz76_1, hfz76_0, hfz76_1⟩ := blk_cells2 BK158.out
     have hnb77 := NB164_149.out
     have hnc77 := NB149_164.out
     have hnb78 := NB164_150.out
     have hnc78 := NB150_164.out
     have hnb79 := NB164_153.out
     have hnc79 := NB153_164.out
     have hnb80 := NB164_159.out
     have hnc80 := NB159_164.out
     have hnb81 := NB164_165.out
     have hnc81 := NB165_164.out
     obtain ⟨hcz82_0, hcz82_1, hfz82_0, hfz82_1⟩ := blk_cells2 BK164.out
     go_wp2_with (first | ((with_reducible refine gate_dst (N := 9) rfl ?_); refine box_event (by rfl) (N := 9) (by rfl) (cs := #[.int .i64 0, .int .i64 0]) (t := 32) (by first | (go_simp; done) | (go_simp; rfl)) ?_; intro gb172 hg w83 hbox hb; obtain ⟨hb_, hw_⟩ := box_facts (by repeat (first | (with_reducible first | exact HB.out | apply l1 | apply l2 | apply l3 | refine below_set ?_ GE149.out | refine below_set ?_ GE150.out | refine below_set ?_ GE153.out | refine below_set ?_ GE158.out | refine below_set ?_ GE159.out | refine below_set ?_ GE164.out | refine below_set ?_ GE165.out) | exact HB.out)) hg hb; have n0_ := Aside0.mk (blk_below (by (with_reducible repeat (first | apply b1 | apply b2 | apply b3)); exact BK149.out) hb); have n1_ := Aside0.mk (blk_below (by (with_reducible repeat (first | apply b1 | apply b2 | apply b3)); exact BK150.out) hb); have n2_ := Aside0.mk (blk_below (by (with_reducible repeat (first | apply b1 | apply b2 | apply b3)); exact BK153.out) hb); have n3_ := Aside0.mk (blk_below (by (with_reducible repeat (first | apply b1 | apply b2 | apply b3)); exact BK158.out) hb); have n4_ := Aside0.mk (blk_below (by (with_reducible repeat (first | apply b1 | apply b2 | apply b3)); exact BK159.out) hb); have n5_ := Aside0.mk (blk_below (by (with_reducible repeat (first | apply b1 | apply b2 | apply b3)); exact BK164.out) hb); have n6_ := Aside0.mk (blk_below (by (with_reducible repeat (first | apply b1 | apply b2 | apply b3)); exact BK165.out) hb); have n7_ := Aside0.mk (hb_); have n8_ := Aside0.mk (hbox); have n9_ := Aside0.mk (hw_); have n10_ := Aside0.mk (hw_); have n11_ := Aside0.mk ((by rw [hg]; exact Nat.ne_of_lt (blk_lt (by (with_reducible repeat (first | apply b1 | apply b2 | apply b3)); exact BK149.out)) : gb149 ≠ gb172)); have n12_ := Aside0.mk ((by rw [hg]; exact Nat.ne_of_gt (blk_lt (by (with_reducible repeat (first | apply b1 | apply b2 | apply b3)); exact BK149.out)) : gb172 ≠ gb149)); have n13_ := Aside0.mk ((by rw [hg]; exact Nat.ne_of_lt (blk_lt (by (with_reducible repeat (first | apply b1 | apply b2 | apply b3)); exact BK150.out)) : gb150 ≠ gb172)); have n14_ := Aside0.mk ((by rw [hg]; exact Nat.ne_of_gt (blk_lt (by (with_reducible repeat (first | apply b1 | apply b2 | apply b3)); exact BK150.out)) : gb172 ≠ gb150)); have n15_ := Aside0.mk ((by rw [hg]; exact Nat.ne_of_lt (blk_lt (by (with_reducible repeat (first | apply b1 | apply b2 | apply b3)); exact BK153.out)) : gb153 ≠ gb172)); have n16_ := Aside0.mk ((by rw [hg]; exact Nat.ne_of_gt (blk_lt (by (with_reducible repeat (first | apply b1 | apply b2 | apply b3)); exact BK153.out)) : gb172 ≠ gb153)); have n17_ := Aside0.mk ((by rw [hg]; exact Nat.ne_of_lt (blk_lt (by (with_reducible repeat (first | apply b1 | apply b2 | apply b3)); exact BK158.out)) : gb158 ≠ gb172)); have n18_ := Aside0.mk ((by rw [hg]; exact Nat.ne_of_gt (blk_lt (by (with_reducible repeat (first | apply b1 | apply b2 | apply b3)); exact BK158.out)) : gb172 ≠ gb158)); have n19_ := Aside0.mk ((by rw [hg]; exact Nat.ne_of_lt (blk_lt (by (with_reducible repeat (first | apply b1 | apply b2 | apply b3)); exact BK159.out)) : gb159 ≠ gb172)); have n20_ := Aside0.mk ((by rw [hg]; exact Nat.ne_of_gt (blk_lt (by (with_reducible repeat (first | apply b1 | apply b2 | apply b3)); exact BK159.out)) : gb172 ≠ gb159)); have n21_ := Aside0.mk ((by rw [hg]; exact Nat.ne_of_lt (blk_lt (by (with_reducible repeat (first | apply b1 | apply b2 | apply b3)); exact BK164.out)) : gb164 ≠ gb172)); have n22_ := Aside0.mk ((by rw [hg]; exact Nat.ne_of_gt (blk_lt (by (with_reducible repeat (first | apply b1 | apply b2 | apply b3)); exact BK164.out)) : gb172 ≠ gb164)); have n23_ := Aside0.mk ((by rw [hg]; exact Nat.ne_of_lt (blk_lt (by (with_reducible repeat (first | apply b1 | apply b2 | apply b3)); exact BK165.out)) : gb165 ≠ gb172)); have n24_ := Aside0.mk ((by rw [hg]; exact Nat.ne_of_gt (blk_lt (by (with_reducible repeat (first | apply b1 | apply b2 | apply b3)); exact BK165.out)) : gb172 ≠ gb165)); clear BK149; clear BK150; clear BK153; clear BK158; clear BK159; clear BK164; clear BK165; clear HB; have BK149 := n0_; have BK150 := n1_; have BK153 := n2_; have BK158 := n3_; have BK159 := n4_; have BK164 := n5_; have BK165 := n6_; have HB := n7_; have BK172 := n8_; have GW172 := n9_; have GE172 := n10_; have NB149_172 := n11_; have NB172_149 := n12_; have NB150_172 := n13_; have NB172_150 := n14_; have NB153_172 := n15_; have NB172_153 := n16_; have NB158_172 := n17_; have NB172_158 := n18_; have NB159_172 := n19_; have NB172_159 := n20_; have NB164_172 := n21_; have NB172_164 := n22_; have NB165_172 := n23_; have NB172_165 := n24_; clear n0_ n1_ n2_ n3_ n4_ n5_ n6_ n7_ n8_ n9_ n10_ n11_ n12_ n13_ n14_ n15_ n16_ n17_ n18_ n19_ n20_ n21_ n22_ n23_ n24_; clear hb hbox hg hb_ hw_; have hnb84 := NB172_149.out; have hnc84 := NB149_172.out; have hnb85 := NB172_150.out; have hnc85 := NB150_172.out; have hnb86 := NB172_153.out; have hnc86 := NB153_172.out; have hnb87 := NB172_158.out; have hnc87 := NB158_172.out; have hnb88 := NB172_159.out; have hnc88 := NB159_172.out; have hnb89 := NB172_164.out; have hnc89 := NB164_172.out; have hnb90 := NB172_165.out; have hnc90 := NB165_172.out; obtain ⟨hcz91_0, hcz91_1, hfz91_0, hfz91_1⟩ := blk_cells2 BK172.out; have hnb92 := NB149_150.out; have hnc92 := NB150_149.out; have hnb93 := NB149_153.out; have hnc93 := NB153_149.out; have hnb94 := NB149_159.out; have hnc94 := NB159_149.out; have hnb95 := NB149_165.out; have hnc95 := NB165_149.out; obtain ⟨hcz96_0, hcz96_1, hcz96_2, hcz96_3, hcz96_4, hfz96_0, hfz96_1, hfz96_2, hfz96_3, hfz96_4⟩ := blk_cells5 BK149.out; have hnb97 := NB150_153.out; have hnc97 := NB153_150.out; have hnb98 := NB150_159.out; have hnc98 := NB159_150.out; have hnb99 := NB150_165.out; have hnc99 := NB165_150.out; obtain ⟨hcz100_0, hcz100_1, hfz100_0, hfz100_1⟩ := blk_cells2 BK150.out))
     refine bodyPost_ret (results_ct rfl _ _ gb150 32 #[.int .i64 (wrap64 (-(wrap64 (t155)))), .int .i64 (wrap64 (t161))] (0, 0) _ rfl (by (with_reducible repeat (first | apply b1 | apply b2 | apply b3)); refine blk_put (cs := #[.int .i64 (wrap64 (-(wrap64 (t155)))), .int .i64 0]) ?_ 1 _ rfl; (with_reducible repeat (first | apply b1 | apply b2 | apply b3)); refine blk_put (cs := #[.int .i64 0, .int .i64 0]) ?_ 0 _ rfl; (with_reducible repeat (first | apply b1 | apply b2 | apply b3)); refine blk_far ?_ NB150_172.out _; (with_reducible repeat (first | apply b1 | apply b2 | apply b3)); refine blk_far ?_ NB150_172.out _; (with_reducible repeat (first | apply b1 | apply b2 | apply b3)); refine blk_far ?_ NB150_172.out _; (with_reducible repeat (first | apply b1 | apply b2 | apply b3)); exact BK150.out) Try.underlying32 rfl (by kernel_rfl)) rfl ?_
     exact ⟨by first | rfl | (simp [errW_none, errW_some] <;> rfl) | (simp [*, errW_none, errW_some] <;> rfl), by repeat (first | (with_reducible first | exact HB.out | apply l1 | apply l2 | apply l3 | refine below_set ?_ GE149.out | refine below_set ?_ GE150.out | refine below_set ?_ GE153.out | refine below_set ?_ GE158.out | refine below_set ?_ GE159.out | refine below_set ?_ GE164.out | refine below_set ?_ GE165.out | refine below_set ?_ GE172.out) | exact HB.out)⟩
    ·replace c69 := Bool.eq_false_iff.mpr c69
     subst c69
     have H1 : (some (wrap64 (t155), wrap64 (t161), 0)) = some (r1, r2, r3) := by rw [if_neg (show ¬ (false = true) by decide)] at H; exact H
     clear H
     have H := H1
     clear H1
     simp only [Option.some.injEq, Prod.mk.injEq] at H
     obtain ⟨rfl, rfl, rfl⟩ := H
     have hnb101 := NB158_149.out
     have hnc101 := NB149_158.out
     have hnb102 := NB158_150.out
     have hnc102 := NB150_158.out
     have hnb103 := NB158_153.out
     have hnc103 := NB153_158.out
     have hnb104 := NB158_159.out
     have hnc104 := NB159_158.out
     have hnb105 := NB158_164.out
     have hnc105 := NB164_158.out
     have hnb106 := NB158_165.out
     have hnc106 := NB165_158.out
     obtain ⟨hcz107_0, hcz107_1, hfz107_0, hfz107_1⟩ := blk_cells2 BK158.out
     have hnb108 := NB164_149.out
     have hnc108 := NB149_164.out
     have hnb109 := NB164_150.out
     have hnc109 := NB150_164.out
     have hnb110 := NB164_153.out
     have hnc110 := NB153_164.out
     have hnb111 := NB164_159.out
     have hnc111 := NB159_164.out
     have hnb112 := NB164_165.out
     have hnc112 := NB165_164.out
     obtain ⟨hcz113_0, hcz113_1, hfz113_0, hfz113_1⟩ := blk_cells2 BK164.out
     go_wp2_with (first | ((with_reducible refine gate_dst (N := 9) rfl ?_); refine box_event (by rfl) (N := 9) (by rfl) (cs := #[.int .i64 0, .int .i64 0]) (t := 32) (by first | (go_simp; done) | (go_simp; rfl)) ?_; intro gb172 hg w114 hbox hb; obtain ⟨hb_, hw_⟩ := box_facts (by repeat (first | (with_reducible first | exact HB.out | apply l1 | apply l2 | apply l3 | refine below_set ?_ GE149.out | refine below_set ?_ GE150.out | refine below_set ?_ GE153.out | refine below_set ?_ GE158.out | refine below_set ?_ GE159.out | refine below_set ?_ GE164.out | refine below_set ?_ GE165.out) | exact HB.out)) hg hb; have n0_ := Aside0.mk (blk_below (by (with_reducible repeat (first | apply b1 | apply b2 | apply b3)); exact BK149.out) hb); have n1_ := Aside0.mk (blk_below (by (with_reducible repeat (first | apply b1 | apply b2 | apply b3)); exact BK150.out) hb); have n2_ := Aside0.mk (blk_below (by (with_reducible repeat (first | apply b1 | apply b2 | apply b3)); exact BK153.out) hb); have n3_ := Aside0.mk (blk_below (by (with_reducible repeat (first | apply b1 | apply b2 | apply b3)); exact BK158.out) hb); have n4_ := Aside0.mk (blk_below (by (with_reducible repeat (first | apply b1 | apply b2 | apply b3)); exact BK159.out) hb); have n5_ := Aside0.mk (blk_below (by (with_reducible repeat (first | apply b1 | apply b2 | apply b3)); exact BK164.out) hb); have n6_ := Aside0.mk (blk_below (by (with_reducible repeat (first | apply b1 | apply b2 | apply b3)); exact BK165.out) hb); have n7_ := Aside0.mk (hb_); have n8_ := Aside0.mk (hbox); have n9_ := Aside0.mk (hw_); have n10_ := Aside0.mk (hw_); have n11_ := Aside0.mk ((by rw [hg]; exact Nat.ne_of_lt (blk_lt (by (with_reducible repeat (first | apply b1 | apply b2 | apply b3)); exact BK149.out)) : gb149 ≠ gb172)); have n12_ := Aside0.mk ((by rw [hg]; exact Nat.ne_of_gt (blk_lt (by (with_reducible repeat (first | apply b1 | apply b2 | apply b3)); exact BK149.out)) : gb172 ≠ gb149)); have n13_ := Aside0.mk ((by rw [hg]; exact Nat.ne_of_lt (blk_lt (by (with_reducible repeat (first | apply b1 | apply b2 | apply b3)); exact BK150.out)) : gb150 ≠ gb172)); have n14_ := Aside0.mk ((by rw [hg]; exact Nat.ne_of_gt (blk_lt (by (with_reducible repeat (first | apply b1 | apply b2 | apply b3)); exact BK150.out)) : gb172 ≠ gb150)); have n15_ := Aside0.mk ((by rw [hg]; exact Nat.ne_of_lt (blk_lt (by (with_reducible repeat (first | apply b1 | apply b2 | apply b3)); exact BK153.out)) : gb153 ≠ gb172)); have n16_ := Aside0.mk ((by rw [hg]; exact Nat.ne_of_gt (blk_lt (by (with_reducible repeat (first | apply b1 | apply b2 | apply b3)); exact BK153.out)) : gb172 ≠ gb153)); have n17_ := Aside0.mk ((by rw [hg]; exact Nat.ne_of_lt (blk_lt (by (with_reducible repeat (first | apply b1 | apply b2 | apply b3)); exact BK158.out)) : gb158 ≠ gb172)); have n18_ := Aside0.mk ((by rw [hg]; exact Nat.ne_of_gt (blk_lt (by (with_reducible repeat (first | apply b1 | apply b2 | apply b3)); exact BK158.out)) : gb172 ≠ gb158)); have n19_ := Aside0.mk ((by rw [hg]; exact Nat.ne_of_lt (blk_lt (by (with_reducible repeat (first | apply b1 | apply b2 | apply b3)); exact BK159.out)) : gb159 ≠ gb172)); have n20_ := Aside0.mk ((by rw [hg]; exact Nat.ne_of_gt (blk_lt (by (with_reducible repeat (first | apply b1 | apply b2 | apply b3)); exact BK159.out)) : gb172 ≠ gb159)); have n21_ := Aside0.mk ((by rw [hg]; exact Nat.ne_of_lt (blk_lt (by (with_reducible repeat (first | apply b1 | apply b2 | apply b3)); exact BK164.out)) : gb164 ≠ gb172)); have n22_ := Aside0.mk ((by rw [hg]; exact Nat.ne_of_gt (blk_lt (by (with_reducible repeat (first | apply b1 | apply b2 | apply b3)); exact BK164.out)) : gb172 ≠ gb164)); have n23_ := Aside0.mk ((by rw [hg]; exact Nat.ne_of_lt (blk_lt (by (with_reducible repeat (first | apply b1 | apply b2 | apply b3)); exact BK165.out)) : gb165 ≠ gb172)); have n24_ := Aside0.mk ((by rw [hg]; exact Nat.ne_of_gt (blk_lt (by (with_reducible repeat (first | apply b1 | apply b2 | apply b3)); exact BK165.out)) : gb172 ≠ gb165)); clear BK149; clear BK150; clear BK153; clear BK158; clear BK159; clear BK164; clear BK165; clear HB; have BK149 := n0_; have BK150 := n1_; have BK153 := n2_; have BK158 := n3_; have BK159 := n4_; have BK164 := n5_; have BK165 := n6_; have HB := n7_; have BK172 := n8_; have GW172 := n9_; have GE172 := n10_; have NB149_172 := n11_; have NB172_149 := n12_; have NB150_172 := n13_; have NB172_150 := n14_; have NB153_172 := n15_; have NB172_153 := n16_; have NB158_172 := n17_; have NB172_158 := n18_; have NB159_172 := n19_; have NB172_159 := n20_; have NB164_172 := n21_; have NB172_164 := n22_; have NB165_172 := n23_; have NB172_165 := n24_; clear n0_ n1_ n2_ n3_ n4_ n5_ n6_ n7_ n8_ n9_ n10_ n11_ n12_ n13_ n14_ n15_ n16_ n17_ n18_ n19_ n20_ n21_ n22_ n23_ n24_; clear hb hbox hg hb_ hw_; have hnb115 := NB172_149.out; have hnc115 := NB149_172.out; have hnb116 := NB172_150.out; have hnc116 := NB150_172.out; have hnb117 := NB172_153.out; have hnc117 := NB153_172.out; have hnb118 := NB172_158.out; have hnc118 := NB158_172.out; have hnb119 := NB172_159.out; have hnc119 := NB159_172.out; have hnb120 := NB172_164.out; have hnc120 := NB164_172.out; have hnb121 := NB172_165.out; have hnc121 := NB165_172.out; obtain ⟨hcz122_0, hcz122_1, hfz122_0, hfz122_1⟩ := blk_cells2 BK172.out; have hnb123 := NB149_150.out; have hnc123 := NB150_149.out; have hnb124 := NB149_153.out; have hnc124 := NB153_149.out; have hnb125 := NB149_159.out; have hnc125 := NB159_149.out; have hnb126 := NB149_165.out; have hnc126 := NB165_149.out; obtain ⟨hcz127_0, hcz127_1, hcz127_2, hcz127_3, hcz127_4, hfz127_0, hfz127_1, hfz127_2, hfz127_3, hfz127_4⟩ := blk_cells5 BK149.out; have hnb128 := NB150_153.out; have hnc128 := NB153_150.out; have hnb129 := NB150_159.out; have hnc129 := NB159_150.out; have hnb130 := NB150_165.out; have hnc130 := NB165_150.out; obtain ⟨hcz131_0, hcz131_1, hfz131_0, hfz131_1⟩ := blk_cells2 BK150.out))
     refine bodyPost_ret (results_ct rfl _ _ gb150 32 #[.int .i64 (wrap64 (t155)), .int .i64 (wrap64 (t161))] (0, 0) _ rfl (by (with_reducible repeat (first | apply b1 | apply b2 | apply b3)); refine blk_put (cs := #[.int .i64 (wrap64 (t155)), .int .i64 0]) ?_ 1 _ rfl; (with_reducible repeat (first | apply b1 | apply b2 | apply b3)); refine blk_put (cs := #[.int .i64 0, .int .i64 0]) ?_ 0 _ rfl; (with_reducible repeat (first | apply b1 | apply b2 | apply b3)); refine blk_far ?_ NB150_172.out _; (with_reducible repeat (first | apply b1 | apply b2 | apply b3)); refine blk_far ?_ NB150_172.out _; (with_reducible repeat (first | apply b1 | apply b2 | apply b3)); exact BK150.out) Try.underlying32 rfl (by kernel_rfl)) rfl ?_
     exact ⟨by first | rfl | (simp [errW_none, errW_some] <;> rfl) | (simp [*, errW_none, errW_some] <;> rfl), by repeat (first | (with_reducible first | exact HB.out | apply l1 | apply l2 | apply l3 | refine below_set ?_ GE149.out | refine below_set ?_ GE150.out | refine below_set ?_ GE153.out | refine below_set ?_ GE158.out | refine below_set ?_ GE159.out | refine below_set ?_ GE164.out | refine below_set ?_ GE165.out | refine below_set ?_ GE172.out) | exact HB.out)⟩
def ratio_New.f (k : Nat) (a0 : Int) (a1 : Int) : Option (Int × Int × Int) := if a1 = 0 then (some (0, 0, 11)) else (if a0 < 0 then ((ratio_size.f a0).bind fun t174 => ((ratio_small.f t174).bind fun bt175 => ((ratio_size.f a1).bind fun t177 => ((ratio_small.f t177).bind fun bt178 => ((ratio_frac_fit.f k (!(decide (a1 < 0))) bt175.1 bt175.2 bt178.1 bt178.2).bind fun bt180 => (some (bt180.1, bt180.2.1, bt180.2.2))))))) else ((ratio_size.f a0).bind fun t183 => ((ratio_small.f t183).bind fun bt184 => ((ratio_size.f a1).bind fun t186 => ((ratio_small.f t186).bind fun bt187 => ((ratio_frac_fit.f k (decide (a1 < 0)) bt184.1 bt184.2 bt187.1 bt187.2).bind fun bt189 => (some (bt189.1, bt189.2.1, bt189.2.2))))))))
set_option maxHeartbeats 8000000 in
set_option maxRecDepth 100000 in
theorem ratio_New.calls (k : Nat) (a0 : Int) (a1 : Int) (r1 : Int) (r2 : Int) (r3 : Int) (w : World) (h : ratio_New.f k a0 a1 = some (r1, r2, r3)) :
  Calls Try.prog 90 #[.int .i64 a0, .int .i64 a1] w fun e w' => e = .returned (.tuple #[.agg #[.int .i64 r1, .int .i64 r2], .int .i64 r3]) ∧ Below w.heap.size w w' := by
 have hu32 := Try.underlying32
 have hu131 := Try.underlying131
 have HB := Aside0.mk (Below.refl w.heap.size w)
 have H : (if a1 = 0 then (some (0, 0, 11)) else (if a0 < 0 then ((ratio_size.f a0).bind fun t174 => ((ratio_small.f t174).bind fun bt175 => ((ratio_size.f a1).bind fun t177 => ((ratio_small.f t177).bind fun bt178 => ((ratio_frac_fit.f k (!(decide (a1 < 0))) bt175.1 bt175.2 bt178.1 bt178.2).bind fun bt180 => (some (bt180.1, bt180.2.1, bt180.2.2))))))) else ((ratio_size.f a0).bind fun t183 => ((ratio_small.f t183).bind fun bt184 => ((ratio_size.f a1).bind fun t186 => ((ratio_small.f t186).bind fun bt187 => ((ratio_frac_fit.f k (decide (a1 < 0)) bt184.1 bt184.2 bt187.1 bt187.2).bind fun bt189 => (some (bt189.1, bt189.2.1, bt189.2.2))))))))) = some (r1, r2, r3) := h
 clear h
 by_cases c3 : a1 = 0
 ·rw [if_pos c3] at H
  have c3b0 : (a1 == 0) = true := beq_iff_eq.mpr c3
  have c3b1 : (a1 != 0) = false := bne_eq_false_iff_eq.mpr c3
  clear c3
  simp only [Option.some.injEq, Prod.mk.injEq] at H
  obtain ⟨rfl, rfl, rfl⟩ := H
  go_enter Try.func90, Try.ntmps90
  go_wp2_with (first | ((with_reducible refine gate_dst (N := 4) rfl ?_); refine box_event (by rfl) (N := 4) (by rfl) (cs := #[.int .i64 0, .int .i64 0]) (t := 32) (by first | (go_simp; done) | (go_simp; rfl)) ?_; intro gb173 hg w4 hbox hb; obtain ⟨hb_, hw_⟩ := box_facts (by repeat (first | (with_reducible first | exact HB.out | apply l1 | apply l2 | apply l3) | exact HB.out)) hg hb; have n0_ := Aside0.mk (hb_); have n1_ := Aside0.mk (hbox); have n2_ := Aside0.mk (hw_); have n3_ := Aside0.mk (hw_); clear HB; have HB := n0_; have BK173 := n1_; have GW173 := n2_; have GE173 := n3_; clear n0_ n1_ n2_ n3_; clear hb hbox hg hb_ hw_; obtain ⟨hcz5_0, hcz5_1, hfz5_0, hfz5_1⟩ := blk_cells2 BK173.out))
  refine bodyPost_ret (results_ct rfl _ _ gb173 32 #[.int .i64 0, .int .i64 0] (0, 0) _ rfl (by (with_reducible repeat (first | apply b1 | apply b2 | apply b3)); refine blk_put (cs := #[.int .i64 0, .int .i64 0]) ?_ 1 _ rfl; (with_reducible repeat (first | apply b1 | apply b2 | apply b3)); refine blk_put (cs := #[.int .i64 0, .int .i64 0]) ?_ 0 _ rfl; (with_reducible repeat (first | apply b1 | apply b2 | apply b3)); exact BK173.out) Try.underlying32 rfl (by kernel_rfl)) rfl ?_
  exact ⟨by first | rfl | (simp [errW_none, errW_some] <;> rfl) | (simp [*, errW_none, errW_some] <;> rfl), by repeat (first | (with_reducible first | exact HB.out | apply l1 | apply l2 | apply l3 | refine below_set ?_ GE173.out) | exact HB.out)⟩
 ·rw [if_neg c3] at H
  have c3b0 : (a1 == 0) = false := beq_eq_false_iff_ne.mpr c3
  have c3b1 : (a1 != 0) = true := bne_iff_ne.mpr c3
  by_cases c6 : a0 < 0
  ·rw [if_pos c6] at H
   have c6b0 : decide (a0 < 0) = true := decide_eq_true c6
   clear c6
   replace H := Option.bind_eq_some_iff.mp H
   obtain ⟨t174, A70, H⟩ := H
   (try dsimp only at H)
   have A7 := Aside0.mk A70
   clear A70
   replace H := Option.bind_eq_some_iff.mp H
   obtain ⟨⟨t175, t176⟩, A80, H⟩ := H
   (try dsimp only at H)
   have A8 := Aside0.mk A80
   clear A80
   replace H := Option.bind_eq_some_iff.mp H
   obtain ⟨t177, A90, H⟩ := H
   (try dsimp only at H)
   have A9 := Aside0.mk A90
   clear A90
   replace H := Option.bind_eq_some_iff.mp H
   obtain ⟨⟨t178, t179⟩, A100, H⟩ := H
   (try dsimp only at H)
   have A10 := Aside0.mk A100
   clear A100
   replace H := Option.bind_eq_some_iff.mp H
   obtain ⟨⟨t180, t181, t182⟩, A110, H⟩ := H
   (try dsimp only at H)
   have A11 := Aside0.mk A110
   clear A110
   simp only [Option.some.injEq, Prod.mk.injEq] at H
   obtain ⟨rfl, rfl, rfl⟩ := H
   go_enter Try.func90, Try.ntmps90
   go_wp2_with (first | ((with_reducible refine gate_dst (N := 4) rfl ?_); refine box_event (by rfl) (N := 4) (by rfl) (cs := #[.int .i64 0, .int .i64 0]) (t := 32) (by first | (go_simp; done) | (go_simp; rfl)) ?_; intro gb173 hg w12 hbox hb; obtain ⟨hb_, hw_⟩ := box_facts (by repeat (first | (with_reducible first | exact HB.out | apply l1 | apply l2 | apply l3) | exact HB.out)) hg hb; have n0_ := Aside0.mk (hb_); have n1_ := Aside0.mk (hbox); have n2_ := Aside0.mk (hw_); have n3_ := Aside0.mk (hw_); clear HB; have HB := n0_; have BK173 := n1_; have GW173 := n2_; have GE173 := n3_; clear n0_ n1_ n2_ n3_; clear hb hbox hg hb_ hw_) | ((with_reducible refine gate_callee (f := 81) rfl ?_); refine goesL_ (some 15) rfl rfl Try.func81 (by kernel_rfl) rfl #[.int .i64 a0] rfl (by (try simp only [List.map_toArray, List.map_cons, List.map_nil]); first | done | rfl | (simp only [List.length_drop, List.length_take]; rfl)) ?_; (with_reducible refine (ratio_size.calls a0 t174 _ A7.out).mono ?_); rintro e w' ⟨rfl, ⟨nd, rfl⟩⟩; refine ⟨_, rfl, ?_⟩; (try (rw [drewN_self w12]; generalize hq_ : World.drewN w12 _ = w12; have n0_ : Aside0 (w12.heap[gb173]? = some (.cells #[.int .i64 0, .int .i64 0] 32 (0, 0))) := ⟨by rw [← hq_]; exact (by (with_reducible repeat (first | apply b1 | apply b2 | apply b3)); exact BK173.out)⟩; have n1_ : Aside0 (Below w.heap.size w w12) := ⟨by rw [← hq_]; exact (by repeat (first | (with_reducible first | exact HB.out | apply l1 | apply l2 | apply l3 | refine below_set ?_ GE173.out) | exact HB.out))⟩; clear BK173 HB hq_; have BK173 := n0_; have HB := n1_; clear n0_ n1_))) | ((with_reducible refine gate_callee (f := 98) rfl ?_); refine goesL_ (some 16) rfl rfl Try.func98 (by kernel_rfl) rfl #[.int .u64 t174] rfl (by (try simp only [List.map_toArray, List.map_cons, List.map_nil]); first | done | rfl | (simp only [List.length_drop, List.length_take]; rfl)) ?_; (with_reducible refine (ratio_small.calls t174 t175 t176 _ A8.out).mono ?_); rintro e w13 ⟨rfl, hb⟩; refine ⟨_, rfl, ?_⟩; have n0_ := Aside0.mk (blk_below (by (with_reducible repeat (first | apply b1 | apply b2 | apply b3)); exact BK173.out) hb); have n1_ := Aside0.mk (below_step (by repeat (first | (with_reducible first | exact HB.out | apply l1 | apply l2 | apply l3 | refine below_set ?_ GE173.out) | exact HB.out)) hb); clear BK173; clear HB; have BK173 := n0_; have HB := n1_; clear n0_ n1_; (try clear hb); (try clear hb2); (try clear hk); (try clear hi)) | ((with_reducible refine gate_callee (f := 81) rfl ?_); refine goesL_ (some 18) rfl rfl Try.func81 (by kernel_rfl) rfl #[.int .i64 a1] rfl (by (try simp only [List.map_toArray, List.map_cons, List.map_nil]); first | done | rfl | (simp only [List.length_drop, List.length_take]; rfl)) ?_; (with_reducible refine (ratio_size.calls a1 t177 _ A9.out).mono ?_); rintro e w' ⟨rfl, ⟨nd, rfl⟩⟩; refine ⟨_, rfl, ?_⟩; (try (rw [drewN_self w13]; generalize hq_ : World.drewN w13 _ = w13; have n0_ : Aside0 (w13.heap[gb173]? = some (.cells #[.int .i64 0, .int .i64 0] 32 (0, 0))) := ⟨by rw [← hq_]; exact (by (with_reducible repeat (first | apply b1 | apply b2 | apply b3)); exact BK173.out)⟩; have n1_ : Aside0 (Below w.heap.size w w13) := ⟨by rw [← hq_]; exact (by repeat (first | (with_reducible first | exact HB.out | apply l1 | apply l2 | apply l3 | refine below_set ?_ GE173.out) | exact HB.out))⟩; clear BK173 HB hq_; have BK173 := n0_; have HB := n1_; clear n0_ n1_))) | ((with_reducible refine gate_callee (f := 98) rfl ?_); refine goesL_ (some 19) rfl rfl Try.func98 (by kernel_rfl) rfl #[.int .u64 t177] rfl (by (try simp only [List.map_toArray, List.map_cons, List.map_nil]); first | done | rfl | (simp only [List.length_drop, List.length_take]; rfl)) ?_; (with_reducible refine (ratio_small.calls t177 t178 t179 _ A10.out).mono ?_); rintro e w14 ⟨rfl, hb⟩; refine ⟨_, rfl, ?_⟩; have n0_ := Aside0.mk (blk_below (by (with_reducible repeat (first | apply b1 | apply b2 | apply b3)); exact BK173.out) hb); have n1_ := Aside0.mk (below_step (by repeat (first | (with_reducible first | exact HB.out | apply l1 | apply l2 | apply l3 | refine below_set ?_ GE173.out) | exact HB.out)) hb); clear BK173; clear HB; have BK173 := n0_; have HB := n1_; clear n0_ n1_; (try clear hb); (try clear hb2); (try clear hk); (try clear hi)) | ((with_reducible refine gate_callee (f := 85) rfl ?_); refine goesL_ (some 21) rfl rfl Try.func85 (by kernel_rfl) rfl #[.agg #[.bool (!(decide (a1 < 0))), .int .u64 t175, .int .u64 t176, .int .u64 t178, .int .u64 t179]] rfl (by (try simp only [List.map_toArray, List.map_cons, List.map_nil]); first | done | rfl | (simp only [List.length_drop, List.length_take]; rfl)) ?_; (with_reducible refine (ratio_frac_fit.calls k (!(decide (a1 < 0))) t175 t176 t178 t179 t180 t181 t182 _ A11.out).mono ?_); rintro e w15 ⟨rfl, hb⟩; refine ⟨_, rfl, ?_⟩; have n0_ := Aside0.mk (blk_below (by (with_reducible repeat (first | apply b1 | apply b2 | apply b3)); exact BK173.out) hb); have n1_ := Aside0.mk (below_step (by repeat (first | (with_reducible first | exact HB.out | apply l1 | apply l2 | apply l3 | refine below_set ?_ GE173.out) | exact HB.out)) hb); clear BK173; clear HB; have BK173 := n0_; have HB := n1_; clear n0_ n1_; (try clear hb); (try clear hb2); (try clear hk); (try clear hi); obtain ⟨hcz16_0, hcz16_1, hfz16_0, hfz16_1⟩ := blk_cells2 BK173.out))
   refine bodyPost_ret (results_ct rfl _ _ gb173 32 #[.int .i64 t180, .int .i64 t181] (0, 0) _ rfl (by (with_reducible repeat (first | apply b1 | apply b2 | apply b3)); refine blk_put (cs := #[.int .i64 t180, .int .i64 0]) ?_ 1 _ rfl; (with_reducible repeat (first | apply b1 | apply b2 | apply b3)); refine blk_put (cs := #[.int .i64 0, .int .i64 0]) ?_ 0 _ rfl; (with_reducible repeat (first | apply b1 | apply b2 | apply b3)); exact BK173.out) Try.underlying32 rfl (by kernel_rfl)) rfl ?_
   exact ⟨by first | rfl | (simp [errW_none, errW_some] <;> rfl) | (simp [*, errW_none, errW_some] <;> rfl), by repeat (first | (with_reducible first | exact HB.out | apply l1 | apply l2 | apply l3 | refine below_set ?_ GE173.out) | exact HB.out)⟩
  ·rw [if_neg c6] at H
   have c6b0 : decide (a0 < 0) = false := decide_eq_false c6
   clear c6
   replace H := Option.bind_eq_some_iff.mp H
   obtain ⟨t183, A170, H⟩ := H
   (try dsimp only at H)
   have A17 := Aside0.mk A170
   clear A170
   replace H := Option.bind_eq_some_iff.mp H
   obtain ⟨⟨t184, t185⟩, A180, H⟩ := H
   (try dsimp only at H)
   have A18 := Aside0.mk A180
   clear A180
   replace H := Option.bind_eq_some_iff.mp H
   obtain ⟨t186, A190, H⟩ := H
   (try dsimp only at H)
   have A19 := Aside0.mk A190
   clear A190
   replace H := Option.bind_eq_some_iff.mp H
   obtain ⟨⟨t187, t188⟩, A200, H⟩ := H
   (try dsimp only at H)
   have A20 := Aside0.mk A200
   clear A200
   replace H := Option.bind_eq_some_iff.mp H
   obtain ⟨⟨t189, t190, t191⟩, A210, H⟩ := H
   (try dsimp only at H)
   have A21 := Aside0.mk A210
   clear A210
   simp only [Option.some.injEq, Prod.mk.injEq] at H
   obtain ⟨rfl, rfl, rfl⟩ := H
   go_enter Try.func90, Try.ntmps90
   go_wp2_with (first | ((with_reducible refine gate_dst (N := 4) rfl ?_); refine box_event (by rfl) (N := 4) (by rfl) (cs := #[.int .i64 0, .int .i64 0]) (t := 32) (by first | (go_simp; done) | (go_simp; rfl)) ?_; intro gb173 hg w22 hbox hb; obtain ⟨hb_, hw_⟩ := box_facts (by repeat (first | (with_reducible first | exact HB.out | apply l1 | apply l2 | apply l3) | exact HB.out)) hg hb; have n0_ := Aside0.mk (hb_); have n1_ := Aside0.mk (hbox); have n2_ := Aside0.mk (hw_); have n3_ := Aside0.mk (hw_); clear HB; have HB := n0_; have BK173 := n1_; have GW173 := n2_; have GE173 := n3_; clear n0_ n1_ n2_ n3_; clear hb hbox hg hb_ hw_) | ((with_reducible refine gate_callee (f := 81) rfl ?_); refine goesL_ (some 15) rfl rfl Try.func81 (by kernel_rfl) rfl #[.int .i64 a0] rfl (by (try simp only [List.map_toArray, List.map_cons, List.map_nil]); first | done | rfl | (simp only [List.length_drop, List.length_take]; rfl)) ?_; (with_reducible refine (ratio_size.calls a0 t183 _ A17.out).mono ?_); rintro e w' ⟨rfl, ⟨nd, rfl⟩⟩; refine ⟨_, rfl, ?_⟩; (try (rw [drewN_self w22]; generalize hq_ : World.drewN w22 _ = w22; have n0_ : Aside0 (w22.heap[gb173]? = some (.cells #[.int .i64 0, .int .i64 0] 32 (0, 0))) := ⟨by rw [← hq_]; exact (by (with_reducible repeat (first | apply b1 | apply b2 | apply b3)); exact BK173.out)⟩; have n1_ : Aside0 (Below w.heap.size w w22) := ⟨by rw [← hq_]; exact (by repeat (first | (with_reducible first | exact HB.out | apply l1 | apply l2 | apply l3 | refine below_set ?_ GE173.out) | exact HB.out))⟩; clear BK173 HB hq_; have BK173 := n0_; have HB := n1_; clear n0_ n1_))) | ((with_reducible refine gate_callee (f := 98) rfl ?_); refine goesL_ (some 16) rfl rfl Try.func98 (by kernel_rfl) rfl #[.int .u64 t183] rfl (by (try simp only [List.map_toArray, List.map_cons, List.map_nil]); first | done | rfl | (simp only [List.length_drop, List.length_take]; rfl)) ?_; (with_reducible refine (ratio_small.calls t183 t184 t185 _ A18.out).mono ?_); rintro e w23 ⟨rfl, hb⟩; refine ⟨_, rfl, ?_⟩; have n0_ := Aside0.mk (blk_below (by (with_reducible repeat (first | apply b1 | apply b2 | apply b3)); exact BK173.out) hb); have n1_ := Aside0.mk (below_step (by repeat (first | (with_reducible first | exact HB.out | apply l1 | apply l2 | apply l3 | refine below_set ?_ GE173.out) | exact HB.out)) hb); clear BK173; clear HB; have BK173 := n0_; have HB := n1_; clear n0_ n1_; (try clear hb); (try clear hb2); (try clear hk); (try clear hi)) | ((with_reducible refine gate_callee (f := 81) rfl ?_); refine goesL_ (some 18) rfl rfl Try.func81 (by kernel_rfl) rfl #[.int .i64 a1] rfl (by (try simp only [List.map_toArray, List.map_cons, List.map_nil]); first | done | rfl | (simp only [List.length_drop, List.length_take]; rfl)) ?_; (with_reducible refine (ratio_size.calls a1 t186 _ A19.out).mono ?_); rintro e w' ⟨rfl, ⟨nd, rfl⟩⟩; refine ⟨_, rfl, ?_⟩; (try (rw [drewN_self w23]; generalize hq_ : World.drewN w23 _ = w23; have n0_ : Aside0 (w23.heap[gb173]? = some (.cells #[.int .i64 0, .int .i64 0] 32 (0, 0))) := ⟨by rw [← hq_]; exact (by (with_reducible repeat (first | apply b1 | apply b2 | apply b3)); exact BK173.out)⟩; have n1_ : Aside0 (Below w.heap.size w w23) := ⟨by rw [← hq_]; exact (by repeat (first | (with_reducible first | exact HB.out | apply l1 | apply l2 | apply l3 | refine below_set ?_ GE173.out) | exact HB.out))⟩; clear BK173 HB hq_; have BK173 := n0_; have HB := n1_; clear n0_ n1_))) | ((with_reducible refine gate_callee (f := 98) rfl ?_); refine goesL_ (some 19) rfl rfl Try.func98 (by kernel_rfl) rfl #[.int .u64 t186] rfl (by (try simp only [List.map_toArray, List.map_cons, List.map_nil]); first | done | rfl | (simp only [List.length_drop, List.length_take]; rfl)) ?_; (with_reducible refine (ratio_small.calls t186 t187 t188 _ A20.out).mono ?_); rintro e w24 ⟨rfl, hb⟩; refine ⟨_, rfl, ?_⟩; have n0_ := Aside0.mk (blk_below (by (with_reducible repeat (first | apply b1 | apply b2 | apply b3)); exact BK173.out) hb); have n1_ := Aside0.mk (below_step (by repeat (first | (with_reducible first | exact HB.out | apply l1 | apply l2 | apply l3 | refine below_set ?_ GE173.out) | exact HB.out)) hb); clear BK173; clear HB; have BK173 := n0_; have HB := n1_; clear n0_ n1_; (try clear hb); (try clear hb2); (try clear hk); (try clear hi)) | ((with_reducible refine gate_callee (f := 85) rfl ?_); refine goesL_ (some 21) rfl rfl Try.func85 (by kernel_rfl) rfl #[.agg #[.bool (decide (a1 < 0)), .int .u64 t184, .int .u64 t185, .int .u64 t187, .int .u64 t188]] rfl (by (try simp only [List.map_toArray, List.map_cons, List.map_nil]); first | done | rfl | (simp only [List.length_drop, List.length_take]; rfl)) ?_; (with_reducible refine (ratio_frac_fit.calls k (decide (a1 < 0)) t184 t185 t187 t188 t189 t190 t191 _ A21.out).mono ?_); rintro e w25 ⟨rfl, hb⟩; refine ⟨_, rfl, ?_⟩; have n0_ := Aside0.mk (blk_below (by (with_reducible repeat (first | apply b1 | apply b2 | apply b3)); exact BK173.out) hb); have n1_ := Aside0.mk (below_step (by repeat (first | (with_reducible first | exact HB.out | apply l1 | apply l2 | apply l3 | refine below_set ?_ GE173.out) | exact HB.out)) hb); clear BK173; clear HB; have BK173 := n0_; have HB := n1_; clear n0_ n1_; (try clear hb); (try clear hb2); (try clear hk); (try clear hi); obtain ⟨hcz26_0, hcz26_1, hfz26_0, hfz26_1⟩ := blk_cells2 BK173.out))
   refine bodyPost_ret (results_ct rfl _ _ gb173 32 #[.int .i64 t189, .int .i64 t190] (0, 0) _ rfl (by (with_reducible repeat (first | apply b1 | apply b2 | apply b3)); refine blk_put (cs := #[.int .i64 t189, .int .i64 0]) ?_ 1 _ rfl; (with_reducible repeat (first | apply b1 | apply b2 | apply b3)); refine blk_put (cs := #[.int .i64 0, .int .i64 0]) ?_ 0 _ rfl; (with_reducible repeat (first | apply b1 | apply b2 | apply b3)); exact BK173.out) Try.underlying32 rfl (by kernel_rfl)) rfl ?_
   exact ⟨by first | rfl | (simp [errW_none, errW_some] <;> rfl) | (simp [*, errW_none, errW_some] <;> rfl), by repeat (first | (with_reducible first | exact HB.out | apply l1 | apply l2 | apply l3 | refine below_set ?_ GE173.out) | exact HB.out)⟩
end Go.Proofs.Ythgifhnfbblklaa.PSp
