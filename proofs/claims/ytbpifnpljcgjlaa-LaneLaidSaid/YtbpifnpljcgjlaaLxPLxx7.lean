-- Written by programs of this session's (wip/printer) out of the translation and of the print's words; Lean checks it.
import Derived.Test.YtbpifnpljcgjlaaLxPLxx0
import Derived.Test.YtbpifnpljcgjlaaLxPLxx4
import Derived.Test.YtbpifnpljcgjlaaLxPLxx6
namespace Go.Proofs.Ytbpifnpljcgjlaa.PLx
open Go.RowKit Go.Proofs.YtbpifnpljcgjlaaW.PrintWords Go.Proofs.YtbpifnpljcgjlaaW.PrintLast Go.Proofs.YtbpifnpljcgjlaaW.PrintMore
attribute [local go_sem] max2_int min2_int max_two min_two max_three min_three max_four min_four   -- for this text's walks alone
set_option linter.unusedVariables false
set_option linter.unusedSimpArgs false
def ratio_frac_fit.j0 : Nat → Bool → Bool → Int → Int → Int → Int → Int → Int → Int → Int → Option (Int × Int × Int)
 | 0, _, _, _, _, _, _, _, _, _, _ => none
 | k + 1, x38, x145000, x145001, x145002, x145003, x145004, x154000, x154001, x160000, x160001 => if x38 = true then (some (0, 0, 12)) else (if x145000 = true then (some (wrap64 (-(wrap64 (x154001))), wrap64 (x160001), 0)) else (some (wrap64 (x154001), wrap64 (x160001), 0)))
def ratio_frac_fit.f (k : Nat) (a0_0 : Bool) (a0_1 : Int) (a0_2 : Int) (a0_3 : Int) (a0_4 : Int) : Option (Int × Int × Int) := (ratio_common.f k a0_1 a0_2 a0_3 a0_4).bind fun bt146 => ((ratio_wide_over.f k a0_1 a0_2 bt146.1 bt146.2).bind fun bt149 => ((ratio_wide_over.f k a0_3 a0_4 bt146.1 bt146.2).bind fun bt155 => ((ratio_small.f 4611686018427387904).bind fun bt161 => ((ratio_wide_cmp.f bt149.1 bt149.2.1 bt161.1 bt161.2).bind fun t163 => (if t163 > 0 then (ratio_frac_fit.j0 k true a0_0 a0_1 a0_2 a0_3 a0_4 bt149.1 bt149.2.1 bt155.1 bt155.2.1) else ((ratio_small.f 2147483648).bind fun bt164 => ((ratio_wide_cmp.f bt155.1 bt155.2.1 bt164.1 bt164.2).bind fun t166 => (ratio_frac_fit.j0 k (decide (t166 > 0)) a0_0 a0_1 a0_2 a0_3 a0_4 bt149.1 bt149.2.1 bt155.1 bt155.2.1))))))))
theorem ratio_frac_fit.mono_l : ∀ k, (∀ y0 y1 y2 y3 y4 y5 y6 y7 y8 y9, LeO (ratio_frac_fit.j0 k y0 y1 y2 y3 y4 y5 y6 y7 y8 y9) (ratio_frac_fit.j0 (k + 1) y0 y1 y2 y3 y4 y5 y6 y7 y8 y9))
 | 0 => fun _ _ _ _ _ _ _ _ _ _ r h => by simp [ratio_frac_fit.j0] at h
 | k + 1 => by
  have ih0 := ratio_frac_fit.mono_l k
  ·intro y0 y1 y2 y3 y4 y5 y6 y7 y8 y9
   unfold ratio_frac_fit.j0
   repeat' first
   | (with_reducible exact ih0 _ _ _ _ _ _ _ _ _ _)
   | (with_reducible exact ratio_common.mono _ _ _ _ _)
   | (with_reducible exact ratio_wide_over.mono _ _ _ _ _)
   | (with_reducible exact LeO.refl _)
   | (with_reducible exact LeO.none _)
   | (with_reducible refine LeO.ite ?_ ?_)
   | (with_reducible refine LeO.bind ?_ (fun _ => ?_))
   | exact ih0 _ _ _ _ _ _ _ _ _ _
   | exact ratio_common.mono _ _ _ _ _
   | exact ratio_wide_over.mono _ _ _ _ _
   | exact LeO.none _
   | refine LeO.ite ?_ ?_
   | refine LeO.bind ?_ (fun _ => ?_)
theorem ratio_frac_fit.mono : ∀ a0 a1 a2 a3 a4 k, LeO (ratio_frac_fit.f k a0 a1 a2 a3 a4) (ratio_frac_fit.f (k + 1) a0 a1 a2 a3 a4) := by
 intro a0 a1 a2 a3 a4 k
 have ih0 := ratio_frac_fit.mono_l k
 unfold ratio_frac_fit.f
 repeat' first
   | (with_reducible exact ih0 _ _ _ _ _ _ _ _ _ _)
   | (with_reducible exact ratio_common.mono _ _ _ _ _)
   | (with_reducible exact ratio_wide_over.mono _ _ _ _ _)
   | (with_reducible exact LeO.refl _)
   | (with_reducible exact LeO.none _)
   | (with_reducible refine LeO.ite ?_ ?_)
   | (with_reducible refine LeO.bind ?_ (fun _ => ?_))
   | exact ih0 _ _ _ _ _ _ _ _ _ _
   | exact ratio_common.mono _ _ _ _ _
   | exact ratio_wide_over.mono _ _ _ _ _
   | exact LeO.none _
   | refine LeO.ite ?_ ?_
   | refine LeO.bind ?_ (fun _ => ?_)
def ratio_frac_fit.T4 : Bool × List (List Nat × List Nat) := (true, [([], []), ([], []), ([0, 1, 1], [0, 1]), ([2], [2]), ([3, 2], [3]), ([4], [4]), ([4, 4], [4]), ([5, 6, 6, 4], [4, 5, 6]), ([7, 4], [4, 7]), ([4, 8], [4, 8])])
def ratio_frac_fit.B4 : List Nat := [0, 0, 3, 7, 15, 31, 31, 127, 255, 511]
theorem ratio_frac_fit.tab4 : rtab .any (opsOf Try.f87 4) = ratio_frac_fit.T4 := by kernel_rfl
theorem ratio_frac_fit.bits4 : waitsOk ratio_frac_fit.T4.2 ratio_frac_fit.B4 = true := by kernel_rfl
set_option maxHeartbeats 8000000 in
set_option maxRecDepth 100000 in
theorem ratio_frac_fit.calls (k : Nat) (a0_0 : Bool) (a0_1 : Int) (a0_2 : Int) (a0_3 : Int) (a0_4 : Int) (r1 : Int) (r2 : Int) (r3 : Int) (w : World) (h : ratio_frac_fit.f k a0_0 a0_1 a0_2 a0_3 a0_4 = some (r1, r2, r3)) :
  Calls Try.prog 87 #[.agg #[.bool a0_0, .int .u64 a0_1, .int .u64 a0_2, .int .u64 a0_3, .int .u64 a0_4]] w fun e w' => e = .returned (.tuple #[.agg #[.int .i64 r1, .int .i64 r2], .int .i64 r3]) ∧ Below w.heap.size w w' := by
 have hu165 := Try.underlying165
 have hu36 := Try.underlying36
 have hu103 := Try.underlying103
 have HB := Aside0.mk (Below.refl w.heap.size w)
 have H : ((ratio_common.f k a0_1 a0_2 a0_3 a0_4).bind fun bt146 => ((ratio_wide_over.f k a0_1 a0_2 bt146.1 bt146.2).bind fun bt149 => ((ratio_wide_over.f k a0_3 a0_4 bt146.1 bt146.2).bind fun bt155 => ((ratio_small.f 4611686018427387904).bind fun bt161 => ((ratio_wide_cmp.f bt149.1 bt149.2.1 bt161.1 bt161.2).bind fun t163 => (if t163 > 0 then (ratio_frac_fit.j0 k true a0_0 a0_1 a0_2 a0_3 a0_4 bt149.1 bt149.2.1 bt155.1 bt155.2.1) else ((ratio_small.f 2147483648).bind fun bt164 => ((ratio_wide_cmp.f bt155.1 bt155.2.1 bt164.1 bt164.2).bind fun t166 => (ratio_frac_fit.j0 k (decide (t166 > 0)) a0_0 a0_1 a0_2 a0_3 a0_4 bt149.1 bt149.2.1 bt155.1 bt155.2.1))))))))) = some (r1, r2, r3) := h
 clear h
 replace H := Option.bind_eq_some_iff.mp H
 obtain ⟨⟨t146, t147⟩, A20, H⟩ := H
 (try dsimp only at H)
 have A2 := Aside0.mk A20
 clear A20
 replace H := Option.bind_eq_some_iff.mp H
 obtain ⟨⟨t149, t150, t151, t152⟩, A30, H⟩ := H
 (try dsimp only at H)
 have A3 := Aside0.mk A30
 clear A30
 replace H := Option.bind_eq_some_iff.mp H
 obtain ⟨⟨t155, t156, t157, t158⟩, A40, H⟩ := H
 (try dsimp only at H)
 have A4 := Aside0.mk A40
 clear A40
 have HC5 := Aside0.mk H
 clear H
 go_enter Try.func87, Try.ntmps87
 go_upto_region 4 with (first | ((with_reducible refine gate_dst (N := 1) rfl ?_); refine box_event (by rfl) (N := 1) (by rfl) (cs := #[.bool a0_0, .int .u64 a0_1, .int .u64 a0_2, .int .u64 a0_3, .int .u64 a0_4]) (t := 165) (by first | (go_simp; done) | (go_simp; rfl)) ?_; intro gb144 hg w6 hbox hb; obtain ⟨hb_, hw_⟩ := box_facts (by repeat (first | (with_reducible first | exact HB.out | apply l1 | apply l2 | apply l3) | exact HB.out)) hg hb; have n0_ := Aside0.mk (hb_); have n1_ := Aside0.mk (hbox); have n2_ := Aside0.mk (hw_); have n3_ := Aside0.mk (hw_); clear HB; have HB := n0_; have BK144 := n1_; have GW144 := n2_; have GE144 := n3_; clear n0_ n1_ n2_ n3_; clear hb hbox hg hb_ hw_) | ((with_reducible refine gate_dst (N := 2) rfl ?_); refine box_event (by rfl) (N := 2) (by rfl) (cs := #[.int .i64 0, .int .i64 0]) (t := 36) (by first | (go_simp; done) | (go_simp; rfl)) ?_; intro gb145 hg w7 hbox hb; obtain ⟨hb_, hw_⟩ := box_facts (by repeat (first | (with_reducible first | exact HB.out | apply l1 | apply l2 | apply l3 | refine below_set ?_ GE144.out) | exact HB.out)) hg hb; have n0_ := Aside0.mk (blk_below (by (with_reducible repeat (first | apply b1 | apply b2 | apply b3)); exact BK144.out) hb); have n1_ := Aside0.mk (hb_); have n2_ := Aside0.mk (hbox); have n3_ := Aside0.mk (hw_); have n4_ := Aside0.mk (hw_); have n5_ := Aside0.mk ((by rw [hg]; exact Nat.ne_of_lt (blk_lt (by (with_reducible repeat (first | apply b1 | apply b2 | apply b3)); exact BK144.out)) : gb144 ≠ gb145)); have n6_ := Aside0.mk ((by rw [hg]; exact Nat.ne_of_gt (blk_lt (by (with_reducible repeat (first | apply b1 | apply b2 | apply b3)); exact BK144.out)) : gb145 ≠ gb144)); clear BK144; clear HB; have BK144 := n0_; have HB := n1_; have BK145 := n2_; have GW145 := n3_; have GE145 := n4_; have NB144_145 := n5_; have NB145_144 := n6_; clear n0_ n1_ n2_ n3_ n4_ n5_ n6_; clear hb hbox hg hb_ hw_; have hnb8 := NB144_145.out; have hnc8 := NB145_144.out; obtain ⟨hcz9_0, hcz9_1, hcz9_2, hcz9_3, hcz9_4, hfz9_0, hfz9_1, hfz9_2, hfz9_3, hfz9_4⟩ := blk_cells5 BK144.out) | ((with_reducible refine gate_callee (f := 91) rfl ?_); refine goesL_ (some 14) rfl rfl Try.func91 (by kernel_rfl) rfl #[.agg #[.int .u64 a0_1, .int .u64 a0_2], .agg #[.int .u64 a0_3, .int .u64 a0_4]] rfl (by (try simp only [List.map_toArray, List.map_cons, List.map_nil]); first | done | rfl | (simp only [List.length_drop, List.length_take]; rfl)) ?_; (with_reducible refine (ratio_common.calls k a0_1 a0_2 a0_3 a0_4 t146 t147 _ A2.out).mono ?_); rintro e w10 ⟨rfl, hb⟩; refine ⟨_, rfl, ?_⟩; have n0_ := Aside0.mk (blk_below (by (with_reducible repeat (first | apply b1 | apply b2 | apply b3)); exact BK144.out) hb); have n1_ := Aside0.mk (blk_below (by (with_reducible repeat (first | apply b1 | apply b2 | apply b3)); exact BK145.out) hb); have n2_ := Aside0.mk (below_step (by repeat (first | (with_reducible first | exact HB.out | apply l1 | apply l2 | apply l3 | refine below_set ?_ GE144.out | refine below_set ?_ GE145.out) | exact HB.out)) hb); clear BK144; clear BK145; clear HB; have BK144 := n0_; have BK145 := n1_; have HB := n2_; clear n0_ n1_ n2_; (try clear hb); (try clear hb2); (try clear hk); (try clear hi)) | ((with_reducible refine gate_dst (N := 4) rfl ?_); refine box_event (by rfl) (N := 4) (by rfl) (cs := #[.int .u64 0, .int .u64 0]) (t := 103) (by first | (go_simp; done) | (go_simp; rfl)) ?_; intro gb148 hg w11 hbox hb; obtain ⟨hb_, hw_⟩ := box_facts (by repeat (first | (with_reducible first | exact HB.out | apply l1 | apply l2 | apply l3 | refine below_set ?_ GE144.out | refine below_set ?_ GE145.out) | exact HB.out)) hg hb; have n0_ := Aside0.mk (blk_below (by (with_reducible repeat (first | apply b1 | apply b2 | apply b3)); exact BK144.out) hb); have n1_ := Aside0.mk (blk_below (by (with_reducible repeat (first | apply b1 | apply b2 | apply b3)); exact BK145.out) hb); have n2_ := Aside0.mk (hb_); have n3_ := Aside0.mk (hbox); have n4_ := Aside0.mk (hw_); have n5_ := Aside0.mk (hw_); have n6_ := Aside0.mk ((by rw [hg]; exact Nat.ne_of_lt (blk_lt (by (with_reducible repeat (first | apply b1 | apply b2 | apply b3)); exact BK144.out)) : gb144 ≠ gb148)); have n7_ := Aside0.mk ((by rw [hg]; exact Nat.ne_of_gt (blk_lt (by (with_reducible repeat (first | apply b1 | apply b2 | apply b3)); exact BK144.out)) : gb148 ≠ gb144)); have n8_ := Aside0.mk ((by rw [hg]; exact Nat.ne_of_lt (blk_lt (by (with_reducible repeat (first | apply b1 | apply b2 | apply b3)); exact BK145.out)) : gb145 ≠ gb148)); have n9_ := Aside0.mk ((by rw [hg]; exact Nat.ne_of_gt (blk_lt (by (with_reducible repeat (first | apply b1 | apply b2 | apply b3)); exact BK145.out)) : gb148 ≠ gb145)); clear BK144; clear BK145; clear HB; have BK144 := n0_; have BK145 := n1_; have HB := n2_; have BK148 := n3_; have GW148 := n4_; have GE148 := n5_; have NB144_148 := n6_; have NB148_144 := n7_; have NB145_148 := n8_; have NB148_145 := n9_; clear n0_ n1_ n2_ n3_ n4_ n5_ n6_ n7_ n8_ n9_; clear hb hbox hg hb_ hw_; have hnb12 := NB148_144.out; have hnc12 := NB144_148.out; have hnb13 := NB148_145.out; have hnc13 := NB145_148.out; obtain ⟨hcz14_0, hcz14_1, hfz14_0, hfz14_1⟩ := blk_cells2 BK148.out; obtain ⟨hcz15_0, hcz15_1, hcz15_2, hcz15_3, hcz15_4, hfz15_0, hfz15_1, hfz15_2, hfz15_3, hfz15_4⟩ := blk_cells5 BK144.out) | ((with_reducible refine gate_callee (f := 92) rfl ?_); refine goesL_ (some 19) rfl rfl Try.func92 (by kernel_rfl) rfl #[.agg #[.int .u64 a0_1, .int .u64 a0_2], .agg #[.int .u64 t146, .int .u64 t147]] rfl (by (try simp only [List.map_toArray, List.map_cons, List.map_nil]); first | done | rfl | (simp only [List.length_drop, List.length_take]; rfl)) ?_; (with_reducible refine (ratio_wide_over.calls k a0_1 a0_2 t146 t147 t149 t150 t151 t152 _ A3.out).mono ?_); rintro e w16 ⟨rfl, hb⟩; refine ⟨_, rfl, ?_⟩; have n0_ := Aside0.mk (blk_below (g := gb144) (o := .cells #[.bool a0_0, .int .u64 a0_1, .int .u64 a0_2, .int .u64 a0_3, .int .u64 a0_4] 165 (0, 0)) (by (with_reducible repeat (first | apply b1 | apply b2 | apply b3)); refine blk_far ?_ NB144_148.out _; (with_reducible repeat (first | apply b1 | apply b2 | apply b3)); refine blk_far ?_ NB144_148.out _; (with_reducible repeat (first | apply b1 | apply b2 | apply b3)); exact BK144.out) hb); have n1_ := Aside0.mk (blk_below (g := gb145) (o := .cells #[.int .i64 0, .int .i64 0] 36 (0, 0)) (by (with_reducible repeat (first | apply b1 | apply b2 | apply b3)); refine blk_far ?_ NB145_148.out _; (with_reducible repeat (first | apply b1 | apply b2 | apply b3)); refine blk_far ?_ NB145_148.out _; (with_reducible repeat (first | apply b1 | apply b2 | apply b3)); exact BK145.out) hb); have n2_ := Aside0.mk (blk_below (g := gb148) (o := .cells #[.int .u64 t146, .int .u64 t147] 103 (0, 0)) (by (with_reducible repeat (first | apply b1 | apply b2 | apply b3)); refine blk_put (cs := #[.int .u64 t146, .int .u64 0]) ?_ 1 _ rfl; (with_reducible repeat (first | apply b1 | apply b2 | apply b3)); refine blk_put (cs := #[.int .u64 0, .int .u64 0]) ?_ 0 _ rfl; (with_reducible repeat (first | apply b1 | apply b2 | apply b3)); exact BK148.out) hb); have n3_ := Aside0.mk (below_step (by repeat (first | (with_reducible first | exact HB.out | apply l1 | apply l2 | apply l3 | refine below_set ?_ GE144.out | refine below_set ?_ GE145.out | refine below_set ?_ GE148.out) | exact HB.out)) hb); clear BK144; clear BK145; clear BK148; clear HB; have BK144 := n0_; have BK145 := n1_; have BK148 := n2_; have HB := n3_; clear n0_ n1_ n2_ n3_; (try clear hb); (try clear hb2); (try clear hk); (try clear hi)) | ((with_reducible refine gate_dst (N := 5) rfl ?_); refine box_event (by rfl) (N := 5) (by rfl) (cs := #[.int .u64 0, .int .u64 0]) (t := 103) (by first | (go_simp; done) | (go_simp; rfl)) ?_; intro gb153 hg w17 hbox hb; obtain ⟨hb_, hw_⟩ := box_facts (by repeat (first | (with_reducible first | exact HB.out | apply l1 | apply l2 | apply l3 | refine below_set ?_ GE144.out | refine below_set ?_ GE145.out | refine below_set ?_ GE148.out) | exact HB.out)) hg hb; have n0_ := Aside0.mk (blk_below (by (with_reducible repeat (first | apply b1 | apply b2 | apply b3)); exact BK144.out) hb); have n1_ := Aside0.mk (blk_below (by (with_reducible repeat (first | apply b1 | apply b2 | apply b3)); exact BK145.out) hb); have n2_ := Aside0.mk (blk_below (by (with_reducible repeat (first | apply b1 | apply b2 | apply b3)); exact BK148.out) hb); have n3_ := Aside0.mk (hb_); have n4_ := Aside0.mk (hbox); have n5_ := Aside0.mk (hw_); have n6_ := Aside0.mk (hw_); have n7_ := Aside0.mk ((by rw [hg]; exact Nat.ne_of_lt (blk_lt (by (with_reducible repeat (first | apply b1 | apply b2 | apply b3)); exact BK144.out)) : gb144 ≠ gb153)); have n8_ := Aside0.mk ((by rw [hg]; exact Nat.ne_of_gt (blk_lt (by (with_reducible repeat (first | apply b1 | apply b2 | apply b3)); exact BK144.out)) : gb153 ≠ gb144)); have n9_ := Aside0.mk ((by rw [hg]; exact Nat.ne_of_lt (blk_lt (by (with_reducible repeat (first | apply b1 | apply b2 | apply b3)); exact BK145.out)) : gb145 ≠ gb153)); have n10_ := Aside0.mk ((by rw [hg]; exact Nat.ne_of_gt (blk_lt (by (with_reducible repeat (first | apply b1 | apply b2 | apply b3)); exact BK145.out)) : gb153 ≠ gb145)); have n11_ := Aside0.mk ((by rw [hg]; exact Nat.ne_of_lt (blk_lt (by (with_reducible repeat (first | apply b1 | apply b2 | apply b3)); exact BK148.out)) : gb148 ≠ gb153)); have n12_ := Aside0.mk ((by rw [hg]; exact Nat.ne_of_gt (blk_lt (by (with_reducible repeat (first | apply b1 | apply b2 | apply b3)); exact BK148.out)) : gb153 ≠ gb148)); clear BK144; clear BK145; clear BK148; clear HB; have BK144 := n0_; have BK145 := n1_; have BK148 := n2_; have HB := n3_; have BK153 := n4_; have GW153 := n5_; have GE153 := n6_; have NB144_153 := n7_; have NB153_144 := n8_; have NB145_153 := n9_; have NB153_145 := n10_; have NB148_153 := n11_; have NB153_148 := n12_; clear n0_ n1_ n2_ n3_ n4_ n5_ n6_ n7_ n8_ n9_ n10_ n11_ n12_; clear hb hbox hg hb_ hw_) | ((with_reducible refine gate_dst (N := 6) rfl ?_); refine box_event (by rfl) (N := 6) (by rfl) (cs := #[.int .u64 0, .int .u64 0]) (t := 103) (by first | (go_simp; done) | (go_simp; rfl)) ?_; intro gb154 hg w18 hbox hb; obtain ⟨hb_, hw_⟩ := box_facts (by repeat (first | (with_reducible first | exact HB.out | apply l1 | apply l2 | apply l3 | refine below_set ?_ GE144.out | refine below_set ?_ GE145.out | refine below_set ?_ GE148.out | refine below_set ?_ GE153.out) | exact HB.out)) hg hb; have n0_ := Aside0.mk (blk_below (by (with_reducible repeat (first | apply b1 | apply b2 | apply b3)); exact BK144.out) hb); have n1_ := Aside0.mk (blk_below (by (with_reducible repeat (first | apply b1 | apply b2 | apply b3)); exact BK145.out) hb); have n2_ := Aside0.mk (blk_below (by (with_reducible repeat (first | apply b1 | apply b2 | apply b3)); exact BK148.out) hb); have n3_ := Aside0.mk (blk_below (by (with_reducible repeat (first | apply b1 | apply b2 | apply b3)); exact BK153.out) hb); have n4_ := Aside0.mk (hb_); have n5_ := Aside0.mk (hbox); have n6_ := Aside0.mk (hw_); have n7_ := Aside0.mk (hw_); have n8_ := Aside0.mk ((by rw [hg]; exact Nat.ne_of_lt (blk_lt (by (with_reducible repeat (first | apply b1 | apply b2 | apply b3)); exact BK144.out)) : gb144 ≠ gb154)); have n9_ := Aside0.mk ((by rw [hg]; exact Nat.ne_of_gt (blk_lt (by (with_reducible repeat (first | apply b1 | apply b2 | apply b3)); exact BK144.out)) : gb154 ≠ gb144)); have n10_ := Aside0.mk ((by rw [hg]; exact Nat.ne_of_lt (blk_lt (by (with_reducible repeat (first | apply b1 | apply b2 | apply b3)); exact BK145.out)) : gb145 ≠ gb154)); have n11_ := Aside0.mk ((by rw [hg]; exact Nat.ne_of_gt (blk_lt (by (with_reducible repeat (first | apply b1 | apply b2 | apply b3)); exact BK145.out)) : gb154 ≠ gb145)); have n12_ := Aside0.mk ((by rw [hg]; exact Nat.ne_of_lt (blk_lt (by (with_reducible repeat (first | apply b1 | apply b2 | apply b3)); exact BK148.out)) : gb148 ≠ gb154)); have n13_ := Aside0.mk ((by rw [hg]; exact Nat.ne_of_gt (blk_lt (by (with_reducible repeat (first | apply b1 | apply b2 | apply b3)); exact BK148.out)) : gb154 ≠ gb148)); have n14_ := Aside0.mk ((by rw [hg]; exact Nat.ne_of_lt (blk_lt (by (with_reducible repeat (first | apply b1 | apply b2 | apply b3)); exact BK153.out)) : gb153 ≠ gb154)); have n15_ := Aside0.mk ((by rw [hg]; exact Nat.ne_of_gt (blk_lt (by (with_reducible repeat (first | apply b1 | apply b2 | apply b3)); exact BK153.out)) : gb154 ≠ gb153)); clear BK144; clear BK145; clear BK148; clear BK153; clear HB; have BK144 := n0_; have BK145 := n1_; have BK148 := n2_; have BK153 := n3_; have HB := n4_; have BK154 := n5_; have GW154 := n6_; have GE154 := n7_; have NB144_154 := n8_; have NB154_144 := n9_; have NB145_154 := n10_; have NB154_145 := n11_; have NB148_154 := n12_; have NB154_148 := n13_; have NB153_154 := n14_; have NB154_153 := n15_; clear n0_ n1_ n2_ n3_ n4_ n5_ n6_ n7_ n8_ n9_ n10_ n11_ n12_ n13_ n14_ n15_; clear hb hbox hg hb_ hw_; have hnb19 := NB153_144.out; have hnc19 := NB144_153.out; have hnb20 := NB153_145.out; have hnc20 := NB145_153.out; have hnb21 := NB153_148.out; have hnc21 := NB148_153.out; have hnb22 := NB153_154.out; have hnc22 := NB154_153.out; obtain ⟨hcz23_0, hcz23_1, hfz23_0, hfz23_1⟩ := blk_cells2 BK153.out; have hnb24 := NB154_144.out; have hnc24 := NB144_154.out; have hnb25 := NB154_145.out; have hnc25 := NB145_154.out; have hnb26 := NB154_148.out; have hnc26 := NB148_154.out; obtain ⟨hcz27_0, hcz27_1, hfz27_0, hfz27_1⟩ := blk_cells2 BK154.out; obtain ⟨hcz28_0, hcz28_1, hcz28_2, hcz28_3, hcz28_4, hfz28_0, hfz28_1, hfz28_2, hfz28_3, hfz28_4⟩ := blk_cells5 BK144.out; obtain ⟨hcz29_0, hcz29_1, hfz29_0, hfz29_1⟩ := blk_cells2 BK148.out) | ((with_reducible refine gate_callee (f := 92) rfl ?_); refine goesL_ (some 26) rfl rfl Try.func92 (by kernel_rfl) rfl #[.agg #[.int .u64 a0_3, .int .u64 a0_4], .agg #[.int .u64 t146, .int .u64 t147]] rfl (by (try simp only [List.map_toArray, List.map_cons, List.map_nil]); first | done | rfl | (simp only [List.length_drop, List.length_take]; rfl)) ?_; (with_reducible refine (ratio_wide_over.calls k a0_3 a0_4 t146 t147 t155 t156 t157 t158 _ A4.out).mono ?_); rintro e w30 ⟨rfl, hb⟩; refine ⟨_, rfl, ?_⟩; have n0_ := Aside0.mk (blk_below (g := gb144) (o := .cells #[.bool a0_0, .int .u64 a0_1, .int .u64 a0_2, .int .u64 a0_3, .int .u64 a0_4] 165 (0, 0)) (by (with_reducible repeat (first | apply b1 | apply b2 | apply b3)); refine blk_far ?_ NB144_154.out _; (with_reducible repeat (first | apply b1 | apply b2 | apply b3)); refine blk_far ?_ NB144_154.out _; (with_reducible repeat (first | apply b1 | apply b2 | apply b3)); refine blk_far ?_ NB144_153.out _; (with_reducible repeat (first | apply b1 | apply b2 | apply b3)); refine blk_far ?_ NB144_153.out _; (with_reducible repeat (first | apply b1 | apply b2 | apply b3)); exact BK144.out) hb); have n1_ := Aside0.mk (blk_below (g := gb145) (o := .cells #[.int .i64 0, .int .i64 0] 36 (0, 0)) (by (with_reducible repeat (first | apply b1 | apply b2 | apply b3)); refine blk_far ?_ NB145_154.out _; (with_reducible repeat (first | apply b1 | apply b2 | apply b3)); refine blk_far ?_ NB145_154.out _; (with_reducible repeat (first | apply b1 | apply b2 | apply b3)); refine blk_far ?_ NB145_153.out _; (with_reducible repeat (first | apply b1 | apply b2 | apply b3)); refine blk_far ?_ NB145_153.out _; (with_reducible repeat (first | apply b1 | apply b2 | apply b3)); exact BK145.out) hb); have n2_ := Aside0.mk (blk_below (g := gb148) (o := .cells #[.int .u64 t146, .int .u64 t147] 103 (0, 0)) (by (with_reducible repeat (first | apply b1 | apply b2 | apply b3)); refine blk_far ?_ NB148_154.out _; (with_reducible repeat (first | apply b1 | apply b2 | apply b3)); refine blk_far ?_ NB148_154.out _; (with_reducible repeat (first | apply b1 | apply b2 | apply b3)); refine blk_far ?_ NB148_153.out _; (with_reducible repeat (first | apply b1 | apply b2 | apply b3)); refine blk_far ?_ NB148_153.out _; (with_reducible repeat (first | apply b1 | apply b2 | apply b3)); exact BK148.out) hb); have n3_ := Aside0.mk (blk_below (g := gb153) (o := .cells #[.int .u64 t149, .int .u64 t150] 103 (0, 0)) (by (with_reducible repeat (first | apply b1 | apply b2 | apply b3)); refine blk_far ?_ NB153_154.out _; (with_reducible repeat (first | apply b1 | apply b2 | apply b3)); refine blk_far ?_ NB153_154.out _; (with_reducible repeat (first | apply b1 | apply b2 | apply b3)); refine blk_put (cs := #[.int .u64 t149, .int .u64 0]) ?_ 1 _ rfl; (with_reducible repeat (first | apply b1 | apply b2 | apply b3)); refine blk_put (cs := #[.int .u64 0, .int .u64 0]) ?_ 0 _ rfl; (with_reducible repeat (first | apply b1 | apply b2 | apply b3)); exact BK153.out) hb); have n4_ := Aside0.mk (blk_below (g := gb154) (o := .cells #[.int .u64 t151, .int .u64 t152] 103 (0, 0)) (by (with_reducible repeat (first | apply b1 | apply b2 | apply b3)); refine blk_put (cs := #[.int .u64 t151, .int .u64 0]) ?_ 1 _ rfl; (with_reducible repeat (first | apply b1 | apply b2 | apply b3)); refine blk_put (cs := #[.int .u64 0, .int .u64 0]) ?_ 0 _ rfl; (with_reducible repeat (first | apply b1 | apply b2 | apply b3)); refine blk_far ?_ NB154_153.out _; (with_reducible repeat (first | apply b1 | apply b2 | apply b3)); refine blk_far ?_ NB154_153.out _; (with_reducible repeat (first | apply b1 | apply b2 | apply b3)); exact BK154.out) hb); have n5_ := Aside0.mk (below_step (by repeat (first | (with_reducible first | exact HB.out | apply l1 | apply l2 | apply l3 | refine below_set ?_ GE144.out | refine below_set ?_ GE145.out | refine below_set ?_ GE148.out | refine below_set ?_ GE153.out | refine below_set ?_ GE154.out) | exact HB.out)) hb); clear BK144; clear BK145; clear BK148; clear BK153; clear BK154; clear HB; have BK144 := n0_; have BK145 := n1_; have BK148 := n2_; have BK153 := n3_; have BK154 := n4_; have HB := n5_; clear n0_ n1_ n2_ n3_ n4_ n5_; (try clear hb); (try clear hb2); (try clear hk); (try clear hi)) | ((with_reducible refine gate_dst (N := 7) rfl ?_); refine box_event (by rfl) (N := 7) (by rfl) (cs := #[.int .u64 0, .int .u64 0]) (t := 103) (by first | (go_simp; done) | (go_simp; rfl)) ?_; intro gb159 hg w31 hbox hb; obtain ⟨hb_, hw_⟩ := box_facts (by repeat (first | (with_reducible first | exact HB.out | apply l1 | apply l2 | apply l3 | refine below_set ?_ GE144.out | refine below_set ?_ GE145.out | refine below_set ?_ GE148.out | refine below_set ?_ GE153.out | refine below_set ?_ GE154.out) | exact HB.out)) hg hb; have n0_ := Aside0.mk (blk_below (by (with_reducible repeat (first | apply b1 | apply b2 | apply b3)); exact BK144.out) hb); have n1_ := Aside0.mk (blk_below (by (with_reducible repeat (first | apply b1 | apply b2 | apply b3)); exact BK145.out) hb); have n2_ := Aside0.mk (blk_below (by (with_reducible repeat (first | apply b1 | apply b2 | apply b3)); exact BK148.out) hb); have n3_ := Aside0.mk (blk_below (by (with_reducible repeat (first | apply b1 | apply b2 | apply b3)); exact BK153.out) hb); have n4_ := Aside0.mk (blk_below (by (with_reducible repeat (first | apply b1 | apply b2 | apply b3)); exact BK154.out) hb); have n5_ := Aside0.mk (hb_); have n6_ := Aside0.mk (hbox); have n7_ := Aside0.mk (hw_); have n8_ := Aside0.mk (hw_); have n9_ := Aside0.mk ((by rw [hg]; exact Nat.ne_of_lt (blk_lt (by (with_reducible repeat (first | apply b1 | apply b2 | apply b3)); exact BK144.out)) : gb144 ≠ gb159)); have n10_ := Aside0.mk ((by rw [hg]; exact Nat.ne_of_gt (blk_lt (by (with_reducible repeat (first | apply b1 | apply b2 | apply b3)); exact BK144.out)) : gb159 ≠ gb144)); have n11_ := Aside0.mk ((by rw [hg]; exact Nat.ne_of_lt (blk_lt (by (with_reducible repeat (first | apply b1 | apply b2 | apply b3)); exact BK145.out)) : gb145 ≠ gb159)); have n12_ := Aside0.mk ((by rw [hg]; exact Nat.ne_of_gt (blk_lt (by (with_reducible repeat (first | apply b1 | apply b2 | apply b3)); exact BK145.out)) : gb159 ≠ gb145)); have n13_ := Aside0.mk ((by rw [hg]; exact Nat.ne_of_lt (blk_lt (by (with_reducible repeat (first | apply b1 | apply b2 | apply b3)); exact BK148.out)) : gb148 ≠ gb159)); have n14_ := Aside0.mk ((by rw [hg]; exact Nat.ne_of_gt (blk_lt (by (with_reducible repeat (first | apply b1 | apply b2 | apply b3)); exact BK148.out)) : gb159 ≠ gb148)); have n15_ := Aside0.mk ((by rw [hg]; exact Nat.ne_of_lt (blk_lt (by (with_reducible repeat (first | apply b1 | apply b2 | apply b3)); exact BK153.out)) : gb153 ≠ gb159)); have n16_ := Aside0.mk ((by rw [hg]; exact Nat.ne_of_gt (blk_lt (by (with_reducible repeat (first | apply b1 | apply b2 | apply b3)); exact BK153.out)) : gb159 ≠ gb153)); have n17_ := Aside0.mk ((by rw [hg]; exact Nat.ne_of_lt (blk_lt (by (with_reducible repeat (first | apply b1 | apply b2 | apply b3)); exact BK154.out)) : gb154 ≠ gb159)); have n18_ := Aside0.mk ((by rw [hg]; exact Nat.ne_of_gt (blk_lt (by (with_reducible repeat (first | apply b1 | apply b2 | apply b3)); exact BK154.out)) : gb159 ≠ gb154)); clear BK144; clear BK145; clear BK148; clear BK153; clear BK154; clear HB; have BK144 := n0_; have BK145 := n1_; have BK148 := n2_; have BK153 := n3_; have BK154 := n4_; have HB := n5_; have BK159 := n6_; have GW159 := n7_; have GE159 := n8_; have NB144_159 := n9_; have NB159_144 := n10_; have NB145_159 := n11_; have NB159_145 := n12_; have NB148_159 := n13_; have NB159_148 := n14_; have NB153_159 := n15_; have NB159_153 := n16_; have NB154_159 := n17_; have NB159_154 := n18_; clear n0_ n1_ n2_ n3_ n4_ n5_ n6_ n7_ n8_ n9_ n10_ n11_ n12_ n13_ n14_ n15_ n16_ n17_ n18_; clear hb hbox hg hb_ hw_) | ((with_reducible refine gate_dst (N := 8) rfl ?_); refine box_event (by rfl) (N := 8) (by rfl) (cs := #[.int .u64 0, .int .u64 0]) (t := 103) (by first | (go_simp; done) | (go_simp; rfl)) ?_; intro gb160 hg w32 hbox hb; obtain ⟨hb_, hw_⟩ := box_facts (by repeat (first | (with_reducible first | exact HB.out | apply l1 | apply l2 | apply l3 | refine below_set ?_ GE144.out | refine below_set ?_ GE145.out | refine below_set ?_ GE148.out | refine below_set ?_ GE153.out | refine below_set ?_ GE154.out | refine below_set ?_ GE159.out) | exact HB.out)) hg hb; have n0_ := Aside0.mk (blk_below (by (with_reducible repeat (first | apply b1 | apply b2 | apply b3)); exact BK144.out) hb); have n1_ := Aside0.mk (blk_below (by (with_reducible repeat (first | apply b1 | apply b2 | apply b3)); exact BK145.out) hb); have n2_ := Aside0.mk (blk_below (by (with_reducible repeat (first | apply b1 | apply b2 | apply b3)); exact BK148.out) hb); have n3_ := Aside0.mk (blk_below (by (with_reducible repeat (first | apply b1 | apply b2 | apply b3)); exact BK153.out) hb); have n4_ := Aside0.mk (blk_below (by (with_reducible repeat (first | apply b1 | apply b2 | apply b3)); exact BK154.out) hb); have n5_ := Aside0.mk (blk_below (by (with_reducible repeat (first | apply b1 | apply b2 | apply b3)); exact BK159.out) hb); have n6_ := Aside0.mk (hb_); have n7_ := Aside0.mk (hbox); have n8_ := Aside0.mk (hw_); have n9_ := Aside0.mk (hw_); have n10_ := Aside0.mk ((by rw [hg]; exact Nat.ne_of_lt (blk_lt (by (with_reducible repeat (first | apply b1 | apply b2 | apply b3)); exact BK144.out)) : gb144 ≠ gb160)); have n11_ := Aside0.mk ((by rw [hg]; exact Nat.ne_of_gt (blk_lt (by (with_reducible repeat (first | apply b1 | apply b2 | apply b3)); exact BK144.out)) : gb160 ≠ gb144)); have n12_ := Aside0.mk ((by rw [hg]; exact Nat.ne_of_lt (blk_lt (by (with_reducible repeat (first | apply b1 | apply b2 | apply b3)); exact BK145.out)) : gb145 ≠ gb160)); have n13_ := Aside0.mk ((by rw [hg]; exact Nat.ne_of_gt (blk_lt (by (with_reducible repeat (first | apply b1 | apply b2 | apply b3)); exact BK145.out)) : gb160 ≠ gb145)); have n14_ := Aside0.mk ((by rw [hg]; exact Nat.ne_of_lt (blk_lt (by (with_reducible repeat (first | apply b1 | apply b2 | apply b3)); exact BK148.out)) : gb148 ≠ gb160)); have n15_ := Aside0.mk ((by rw [hg]; exact Nat.ne_of_gt (blk_lt (by (with_reducible repeat (first | apply b1 | apply b2 | apply b3)); exact BK148.out)) : gb160 ≠ gb148)); have n16_ := Aside0.mk ((by rw [hg]; exact Nat.ne_of_lt (blk_lt (by (with_reducible repeat (first | apply b1 | apply b2 | apply b3)); exact BK153.out)) : gb153 ≠ gb160)); have n17_ := Aside0.mk ((by rw [hg]; exact Nat.ne_of_gt (blk_lt (by (with_reducible repeat (first | apply b1 | apply b2 | apply b3)); exact BK153.out)) : gb160 ≠ gb153)); have n18_ := Aside0.mk ((by rw [hg]; exact Nat.ne_of_lt (blk_lt (by (with_reducible repeat (first | apply b1 | apply b2 | apply b3)); exact BK154.out)) : gb154 ≠ gb160)); have n19_ := Aside0.mk ((by rw [hg]; exact Nat.ne_of_gt (blk_lt (by (with_reducible repeat (first | apply b1 | apply b2 | apply b3)); exact BK154.out)) : gb160 ≠ gb154)); have n20_ := Aside0.mk ((by rw [hg]; exact Nat.ne_of_lt (blk_lt (by (with_reducible repeat (first | apply b1 | apply b2 | apply b3)); exact BK159.out)) : gb159 ≠ gb160)); have n21_ := Aside0.mk ((by rw [hg]; exact Nat.ne_of_gt (blk_lt (by (with_reducible repeat (first | apply b1 | apply b2 | apply b3)); exact BK159.out)) : gb160 ≠ gb159)); clear BK144; clear BK145; clear BK148; clear BK153; clear BK154; clear BK159; clear HB; have BK144 := n0_; have BK145 := n1_; have BK148 := n2_; have BK153 := n3_; have BK154 := n4_; have BK159 := n5_; have HB := n6_; have BK160 := n7_; have GW160 := n8_; have GE160 := n9_; have NB144_160 := n10_; have NB160_144 := n11_; have NB145_160 := n12_; have NB160_145 := n13_; have NB148_160 := n14_; have NB160_148 := n15_; have NB153_160 := n16_; have NB160_153 := n17_; have NB154_160 := n18_; have NB160_154 := n19_; have NB159_160 := n20_; have NB160_159 := n21_; clear n0_ n1_ n2_ n3_ n4_ n5_ n6_ n7_ n8_ n9_ n10_ n11_ n12_ n13_ n14_ n15_ n16_ n17_ n18_ n19_ n20_ n21_; clear hb hbox hg hb_ hw_; have hnb33 := NB159_144.out; have hnc33 := NB144_159.out; have hnb34 := NB159_145.out; have hnc34 := NB145_159.out; have hnb35 := NB159_148.out; have hnc35 := NB148_159.out; have hnb36 := NB159_153.out; have hnc36 := NB153_159.out; have hnb37 := NB159_154.out; have hnc37 := NB154_159.out; have hnb38 := NB159_160.out; have hnc38 := NB160_159.out; obtain ⟨hcz39_0, hcz39_1, hfz39_0, hfz39_1⟩ := blk_cells2 BK159.out; have hnb40 := NB160_144.out; have hnc40 := NB144_160.out; have hnb41 := NB160_145.out; have hnc41 := NB145_160.out; have hnb42 := NB160_148.out; have hnc42 := NB148_160.out; have hnb43 := NB160_153.out; have hnc43 := NB153_160.out; have hnb44 := NB160_154.out; have hnc44 := NB154_160.out; obtain ⟨hcz45_0, hcz45_1, hfz45_0, hfz45_1⟩ := blk_cells2 BK160.out))
 (try simp only [Act.put, List.setIfInBounds_toArray, List.set_cons_zero, List.set_cons_succ])
 go_cut [38] (fun v38 wc => ∃ (kq : Nat) (x38_4 : Bool), v38 = .bool x38_4 ∧ Aside0 (ratio_frac_fit.j0 kq x38_4 a0_0 a0_1 a0_2 a0_3 a0_4 t149 t150 t155 t156 = some (r1, r2, r3)) ∧ Aside0 (kq ≤ k) ∧ Aside0 (wc.heap[gb144]? = some (.cells #[.bool a0_0, .int .u64 a0_1, .int .u64 a0_2, .int .u64 a0_3, .int .u64 a0_4] 165 (0, 0))) ∧ Aside0 (wc.heap[gb145]? = some (.cells #[.int .i64 0, .int .i64 0] 36 (0, 0))) ∧ Aside0 (wc.heap[gb148]? = some (.cells #[.int .u64 t146, .int .u64 t147] 103 (0, 0))) ∧ Aside0 (wc.heap[gb153]? = some (.cells #[.int .u64 t149, .int .u64 t150] 103 (0, 0))) ∧ Aside0 (wc.heap[gb154]? = some (.cells #[.int .u64 t151, .int .u64 t152] 103 (0, 0))) ∧ Aside0 (wc.heap[gb159]? = some (.cells #[.int .u64 t155, .int .u64 t156] 103 (0, 0))) ∧ Aside0 (wc.heap[gb160]? = some (.cells #[.int .u64 t157, .int .u64 t158] 103 (0, 0))) ∧ Aside0 (Below w.heap.size w wc))
 case first =>
  have H := HC5.out
  clear HC5
  replace H := Option.bind_eq_some_iff.mp H
  obtain ⟨⟨t161, t162⟩, A460, H⟩ := H
  (try dsimp only at H)
  have A46 := Aside0.mk A460
  clear A460
  replace H := Option.bind_eq_some_iff.mp H
  obtain ⟨t163, A470, H⟩ := H
  (try dsimp only at H)
  have A47 := Aside0.mk A470
  clear A470
  by_cases c48 : t163 > 0
  ·rw [if_pos c48] at H
   have c48b0 : decide (0 < t163) = true := decide_eq_true c48
   clear c48
   (first | rw [c48b0] | (simp only [i64_w, i32_w]; rw [c48b0]) | skip)
   have H' := Aside0.mk H
   clear H
   try go_wp2
   have n0_ : Aside0 (((((w32.setCell ⟨gb159, 0, none⟩ (.int .u64 t155)).setCell ⟨gb159, 1, none⟩ (.int .u64 t156)).setCell ⟨gb160, 0, none⟩ (.int .u64 t157)).setCell ⟨gb160, 1, none⟩ (.int .u64 t158)).heap[gb144]? = some (.cells #[.bool a0_0, .int .u64 a0_1, .int .u64 a0_2, .int .u64 a0_3, .int .u64 a0_4] 165 (0, 0))) := ⟨by (with_reducible repeat (first | apply b1 | apply b2 | apply b3)); refine blk_far ?_ NB144_160.out _; (with_reducible repeat (first | apply b1 | apply b2 | apply b3)); refine blk_far ?_ NB144_160.out _; (with_reducible repeat (first | apply b1 | apply b2 | apply b3)); refine blk_far ?_ NB144_159.out _; (with_reducible repeat (first | apply b1 | apply b2 | apply b3)); refine blk_far ?_ NB144_159.out _; (with_reducible repeat (first | apply b1 | apply b2 | apply b3)); exact BK144.out⟩
   have n1_ : Aside0 (((((w32.setCell ⟨gb159, 0, none⟩ (.int .u64 t155)).setCell ⟨gb159, 1, none⟩ (.int .u64 t156)).setCell ⟨gb160, 0, none⟩ (.int .u64 t157)).setCell ⟨gb160, 1, none⟩ (.int .u64 t158)).heap[gb145]? = some (.cells #[.int .i64 0, .int .i64 0] 36 (0, 0))) := ⟨by (with_reducible repeat (first | apply b1 | apply b2 | apply b3)); refine blk_far ?_ NB145_160.out _; (with_reducible repeat (first | apply b1 | apply b2 | apply b3)); refine blk_far ?_ NB145_160.out _; (with_reducible repeat (first | apply b1 | apply b2 | apply b3)); refine blk_far ?_ NB145_159.out _; (with_reducible repeat (first | apply b1 | apply b2 | apply b3)); refine blk_far ?_ NB145_159.out _; (with_reducible repeat (first | apply b1 | apply b2 | apply b3)); exact BK145.out⟩
   have n2_ : Aside0 (((((w32.setCell ⟨gb159, 0, none⟩ (.int .u64 t155)).setCell ⟨gb159, 1, none⟩ (.int .u64 t156)).setCell ⟨gb160, 0, none⟩ (.int .u64 t157)).setCell ⟨gb160, 1, none⟩ (.int .u64 t158)).heap[gb148]? = some (.cells #[.int .u64 t146, .int .u64 t147] 103 (0, 0))) := ⟨by (with_reducible repeat (first | apply b1 | apply b2 | apply b3)); refine blk_far ?_ NB148_160.out _; (with_reducible repeat (first | apply b1 | apply b2 | apply b3)); refine blk_far ?_ NB148_160.out _; (with_reducible repeat (first | apply b1 | apply b2 | apply b3)); refine blk_far ?_ NB148_159.out _; (with_reducible repeat (first | apply b1 | apply b2 | apply b3)); refine blk_far ?_ NB148_159.out _; (with_reducible repeat (first | apply b1 | apply b2 | apply b3)); exact BK148.out⟩
   have n3_ : Aside0 (((((w32.setCell ⟨gb159, 0, none⟩ (.int .u64 t155)).setCell ⟨gb159, 1, none⟩ (.int .u64 t156)).setCell ⟨gb160, 0, none⟩ (.int .u64 t157)).setCell ⟨gb160, 1, none⟩ (.int .u64 t158)).heap[gb153]? = some (.cells #[.int .u64 t149, .int .u64 t150] 103 (0, 0))) := ⟨by (with_reducible repeat (first | apply b1 | apply b2 | apply b3)); refine blk_far ?_ NB153_160.out _; (with_reducible repeat (first | apply b1 | apply b2 | apply b3)); refine blk_far ?_ NB153_160.out _; (with_reducible repeat (first | apply b1 | apply b2 | apply b3)); refine blk_far ?_ NB153_159.out _; (with_reducible repeat (first | apply b1 | apply b2 | apply b3)); refine blk_far ?_ NB153_159.out _; (with_reducible repeat (first | apply b1 | apply b2 | apply b3)); exact BK153.out⟩
   have n4_ : Aside0 (((((w32.setCell ⟨gb159, 0, none⟩ (.int .u64 t155)).setCell ⟨gb159, 1, none⟩ (.int .u64 t156)).setCell ⟨gb160, 0, none⟩ (.int .u64 t157)).setCell ⟨gb160, 1, none⟩ (.int .u64 t158)).heap[gb154]? = some (.cells #[.int .u64 t151, .int .u64 t152] 103 (0, 0))) := ⟨by (with_reducible repeat (first | apply b1 | apply b2 | apply b3)); refine blk_far ?_ NB154_160.out _; (with_reducible repeat (first | apply b1 | apply b2 | apply b3)); refine blk_far ?_ NB154_160.out _; (with_reducible repeat (first | apply b1 | apply b2 | apply b3)); refine blk_far ?_ NB154_159.out _; (with_reducible repeat (first | apply b1 | apply b2 | apply b3)); refine blk_far ?_ NB154_159.out _; (with_reducible repeat (first | apply b1 | apply b2 | apply b3)); exact BK154.out⟩
   have n5_ : Aside0 (((((w32.setCell ⟨gb159, 0, none⟩ (.int .u64 t155)).setCell ⟨gb159, 1, none⟩ (.int .u64 t156)).setCell ⟨gb160, 0, none⟩ (.int .u64 t157)).setCell ⟨gb160, 1, none⟩ (.int .u64 t158)).heap[gb159]? = some (.cells #[.int .u64 t155, .int .u64 t156] 103 (0, 0))) := ⟨by (with_reducible repeat (first | apply b1 | apply b2 | apply b3)); refine blk_far ?_ NB159_160.out _; (with_reducible repeat (first | apply b1 | apply b2 | apply b3)); refine blk_far ?_ NB159_160.out _; (with_reducible repeat (first | apply b1 | apply b2 | apply b3)); refine blk_put (cs := #[.int .u64 t155, .int .u64 0]) ?_ 1 _ rfl; (with_reducible repeat (first | apply b1 | apply b2 | apply b3)); refine blk_put (cs := #[.int .u64 0, .int .u64 0]) ?_ 0 _ rfl; (with_reducible repeat (first | apply b1 | apply b2 | apply b3)); exact BK159.out⟩
   have n6_ : Aside0 (((((w32.setCell ⟨gb159, 0, none⟩ (.int .u64 t155)).setCell ⟨gb159, 1, none⟩ (.int .u64 t156)).setCell ⟨gb160, 0, none⟩ (.int .u64 t157)).setCell ⟨gb160, 1, none⟩ (.int .u64 t158)).heap[gb160]? = some (.cells #[.int .u64 t157, .int .u64 t158] 103 (0, 0))) := ⟨by (with_reducible repeat (first | apply b1 | apply b2 | apply b3)); refine blk_put (cs := #[.int .u64 t157, .int .u64 0]) ?_ 1 _ rfl; (with_reducible repeat (first | apply b1 | apply b2 | apply b3)); refine blk_put (cs := #[.int .u64 0, .int .u64 0]) ?_ 0 _ rfl; (with_reducible repeat (first | apply b1 | apply b2 | apply b3)); refine blk_far ?_ NB160_159.out _; (with_reducible repeat (first | apply b1 | apply b2 | apply b3)); refine blk_far ?_ NB160_159.out _; (with_reducible repeat (first | apply b1 | apply b2 | apply b3)); exact BK160.out⟩
   have n7_ : Aside0 (Below w.heap.size w ((((w32.setCell ⟨gb159, 0, none⟩ (.int .u64 t155)).setCell ⟨gb159, 1, none⟩ (.int .u64 t156)).setCell ⟨gb160, 0, none⟩ (.int .u64 t157)).setCell ⟨gb160, 1, none⟩ (.int .u64 t158))) := ⟨by repeat (first | (with_reducible first | exact HB.out | apply l1 | apply l2 | apply l3 | refine below_set ?_ GE144.out | refine below_set ?_ GE145.out | refine below_set ?_ GE148.out | refine below_set ?_ GE153.out | refine below_set ?_ GE154.out | refine below_set ?_ GE159.out | refine below_set ?_ GE160.out) | exact HB.out)⟩
   (try clear BK144)
   (try clear BK145)
   (try clear BK148)
   (try clear BK153)
   (try clear BK154)
   (try clear BK159)
   (try clear BK160)
   (try clear HB)
   generalize ((((w32.setCell ⟨gb159, 0, none⟩ (.int .u64 t155)).setCell ⟨gb159, 1, none⟩ (.int .u64 t156)).setCell ⟨gb160, 0, none⟩ (.int .u64 t157)).setCell ⟨gb160, 1, none⟩ (.int .u64 t158)) = w49 at n0_ n1_ n2_ n3_ n4_ n5_ n6_ n7_ ⊢
   have BK144 := n0_
   have BK145 := n1_
   have BK148 := n2_
   have BK153 := n3_
   have BK154 := n4_
   have BK159 := n5_
   have BK160 := n6_
   have HB := n7_
   clear n0_ n1_ n2_ n3_ n4_ n5_ n6_ n7_
   have n0_ := Aside0.mk (blk_drew BK144.out)
   have n1_ := Aside0.mk (blk_drew BK145.out)
   have n2_ := Aside0.mk (blk_drew BK148.out)
   have n3_ := Aside0.mk (blk_drew BK153.out)
   have n4_ := Aside0.mk (blk_drew BK154.out)
   have n5_ := Aside0.mk (blk_drew BK159.out)
   have n6_ := Aside0.mk (blk_drew BK160.out)
   have n7_ := Aside0.mk (below_drew1 HB.out)
   clear BK144
   clear BK145
   clear BK148
   clear BK153
   clear BK154
   clear BK159
   clear BK160
   clear HB
   have BK144 := n0_
   have BK145 := n1_
   have BK148 := n2_
   have BK153 := n3_
   have BK154 := n4_
   have BK159 := n5_
   have BK160 := n6_
   have HB := n7_
   clear n0_ n1_ n2_ n3_ n4_ n5_ n6_ n7_
   refine start_ (n := 10) (S := fun w' => w'.cell? ⟨gb153, 0, none⟩ = some (.int .u64 t149) ∧ w'.cell? ⟨gb153, 1, none⟩ = some (.int .u64 t150)) (ds := []) #[false, false, false, false, false, false, false, false, false, false] (by kernel_rfl) rfl rfl ⟨(blk_cell BK153.out 0).trans rfl, (blk_cell BK153.out 1).trans rfl⟩ (fun hHeld => ?_); refine with_tabW ratio_frac_fit.tab4 ratio_frac_fit.bits4 (fun HT_ HW_ => ?_)
   generalize w49.drew = w50 at BK144 BK145 BK148 BK153 BK154 BK159 BK160 HB hHeld ⊢
   refine take_ (i := 0) (N := some 29) (v := ?_) (a' := ?_) #[true, false, false, false, false, false, false, false, false, false] rfl rfl (take_ofW HT_.out HW_.out (by kernel_rfl)) (fun _ _ _ h => h) (Or.inl ⟨by rfl, ?_⟩) hHeld ?_ ?_
   rotate_left
   ·rintro w' ⟨s0, s1⟩
    go_simp
    with_reducible rfl
   rotate_left
   ·simp only [Act.put, List.setIfInBounds_toArray, List.set_cons_zero, List.set_cons_succ, i64_w, i32_w]
    rfl
   refine one_ (i := 1) (N := some 30) #[true, true, false, false, false, false, false, false, false, false] rfl rfl (one_of HT_.out (by kernel_rfl)) (by decide) (fun K hK => ?_)
   refine goes_ Try.func86 (by kernel_rfl) rfl #[.int .u64 4611686018427387904] (by rfl) rfl rfl (by (try simp only [List.map_toArray, List.map_cons, List.map_nil]); first | done | rfl | (simp only [List.length_drop, List.length_take]; rfl)) ?_
   with_reducible refine (ratio_small.calls 4611686018427387904 t161 t162 _ A46.out).mono ?_
   rintro e w51 ⟨rfl, hb⟩
   refine ⟨_, rfl, ?_⟩
   have n0_ := Aside0.mk (blk_below (g := gb144) (o := .cells #[.bool a0_0, .int .u64 a0_1, .int .u64 a0_2, .int .u64 a0_3, .int .u64 a0_4] 165 (0, 0)) (by (with_reducible repeat (first | apply b1 | apply b2 | apply b3)); exact BK144.out) hb)
   have n1_ := Aside0.mk (blk_below (g := gb145) (o := .cells #[.int .i64 0, .int .i64 0] 36 (0, 0)) (by (with_reducible repeat (first | apply b1 | apply b2 | apply b3)); exact BK145.out) hb)
   have n2_ := Aside0.mk (blk_below (g := gb148) (o := .cells #[.int .u64 t146, .int .u64 t147] 103 (0, 0)) (by (with_reducible repeat (first | apply b1 | apply b2 | apply b3)); exact BK148.out) hb)
   have n3_ := Aside0.mk (blk_below (g := gb153) (o := .cells #[.int .u64 t149, .int .u64 t150] 103 (0, 0)) (by (with_reducible repeat (first | apply b1 | apply b2 | apply b3)); exact BK153.out) hb)
   have n4_ := Aside0.mk (blk_below (g := gb154) (o := .cells #[.int .u64 t151, .int .u64 t152] 103 (0, 0)) (by (with_reducible repeat (first | apply b1 | apply b2 | apply b3)); exact BK154.out) hb)
   have n5_ := Aside0.mk (blk_below (g := gb159) (o := .cells #[.int .u64 t155, .int .u64 t156] 103 (0, 0)) (by (with_reducible repeat (first | apply b1 | apply b2 | apply b3)); exact BK159.out) hb)
   have n6_ := Aside0.mk (blk_below (g := gb160) (o := .cells #[.int .u64 t157, .int .u64 t158] 103 (0, 0)) (by (with_reducible repeat (first | apply b1 | apply b2 | apply b3)); exact BK160.out) hb)
   have n7_ := Aside0.mk (below_step (by repeat (first | (with_reducible first | exact HB.out | apply l1 | apply l2 | apply l3 | refine below_set ?_ GE144.out | refine below_set ?_ GE145.out | refine below_set ?_ GE148.out | refine below_set ?_ GE153.out | refine below_set ?_ GE154.out | refine below_set ?_ GE159.out | refine below_set ?_ GE160.out) | exact HB.out)) hb)
   clear BK144
   clear BK145
   clear BK148
   clear BK153
   clear BK154
   clear BK159
   clear BK160
   clear HB
   have BK144 := n0_
   have BK145 := n1_
   have BK148 := n2_
   have BK153 := n3_
   have BK154 := n4_
   have BK159 := n5_
   have BK160 := n6_
   have HB := n7_
   clear n0_ n1_ n2_ n3_ n4_ n5_ n6_ n7_
   (try clear hb)
   (try clear hb2)
   (try clear hk)
   (try clear hi)
   refine hK.out _ _ ⟨(blk_cell BK153.out 0).trans rfl, (blk_cell BK153.out 1).trans rfl⟩ (fun hHeld => ?_)
   clear hK K
   refine norm_ (a' := ?_) ?_ ?_
   rotate_left
   ·show Act.put _ (some 30) _ = _
    simp only [Act.put, List.setIfInBounds_toArray, List.set_cons_zero, List.set_cons_succ, i64_w, i32_w]
    rfl
   refine one_ (i := 2) (N := some 31) #[true, true, true, false, false, false, false, false, false, false] rfl rfl (one_of HT_.out (by kernel_rfl)) (by decide) (fun K hK => ?_)
   refine goes_ Try.func48 (by kernel_rfl) rfl #[.agg #[.int .u64 t149, .int .u64 t150], .agg #[.int .u64 t161, .int .u64 t162]] (by rfl) rfl rfl (by (try simp only [List.map_toArray, List.map_cons, List.map_nil]); first | done | rfl | (simp only [List.length_drop, List.length_take]; rfl)) ?_
   with_reducible refine (ratio_wide_cmp.calls t149 t150 t161 t162 t163 _ A47.out).mono ?_
   rintro e w52 ⟨rfl, hb⟩
   refine ⟨_, rfl, ?_⟩
   have n0_ := Aside0.mk (blk_below (g := gb144) (o := .cells #[.bool a0_0, .int .u64 a0_1, .int .u64 a0_2, .int .u64 a0_3, .int .u64 a0_4] 165 (0, 0)) (by (with_reducible repeat (first | apply b1 | apply b2 | apply b3)); exact BK144.out) hb)
   have n1_ := Aside0.mk (blk_below (g := gb145) (o := .cells #[.int .i64 0, .int .i64 0] 36 (0, 0)) (by (with_reducible repeat (first | apply b1 | apply b2 | apply b3)); exact BK145.out) hb)
   have n2_ := Aside0.mk (blk_below (g := gb148) (o := .cells #[.int .u64 t146, .int .u64 t147] 103 (0, 0)) (by (with_reducible repeat (first | apply b1 | apply b2 | apply b3)); exact BK148.out) hb)
   have n3_ := Aside0.mk (blk_below (g := gb153) (o := .cells #[.int .u64 t149, .int .u64 t150] 103 (0, 0)) (by (with_reducible repeat (first | apply b1 | apply b2 | apply b3)); exact BK153.out) hb)
   have n4_ := Aside0.mk (blk_below (g := gb154) (o := .cells #[.int .u64 t151, .int .u64 t152] 103 (0, 0)) (by (with_reducible repeat (first | apply b1 | apply b2 | apply b3)); exact BK154.out) hb)
   have n5_ := Aside0.mk (blk_below (g := gb159) (o := .cells #[.int .u64 t155, .int .u64 t156] 103 (0, 0)) (by (with_reducible repeat (first | apply b1 | apply b2 | apply b3)); exact BK159.out) hb)
   have n6_ := Aside0.mk (blk_below (g := gb160) (o := .cells #[.int .u64 t157, .int .u64 t158] 103 (0, 0)) (by (with_reducible repeat (first | apply b1 | apply b2 | apply b3)); exact BK160.out) hb)
   have n7_ := Aside0.mk (below_step (by repeat (first | (with_reducible first | exact HB.out | apply l1 | apply l2 | apply l3 | refine below_set ?_ GE144.out | refine below_set ?_ GE145.out | refine below_set ?_ GE148.out | refine below_set ?_ GE153.out | refine below_set ?_ GE154.out | refine below_set ?_ GE159.out | refine below_set ?_ GE160.out) | exact HB.out)) hb)
   clear BK144
   clear BK145
   clear BK148
   clear BK153
   clear BK154
   clear BK159
   clear BK160
   clear HB
   have BK144 := n0_
   have BK145 := n1_
   have BK148 := n2_
   have BK153 := n3_
   have BK154 := n4_
   have BK159 := n5_
   have BK160 := n6_
   have HB := n7_
   clear n0_ n1_ n2_ n3_ n4_ n5_ n6_ n7_
   (try clear hb)
   (try clear hb2)
   (try clear hk)
   (try clear hi)
   refine hK.out _ _ ⟨(blk_cell BK153.out 0).trans rfl, (blk_cell BK153.out 1).trans rfl⟩ (fun hHeld => ?_)
   clear hK K
   refine norm_ (a' := ?_) ?_ ?_
   rotate_left
   ·show Act.put _ (some 31) _ = _
    simp only [Act.put, List.setIfInBounds_toArray, List.set_cons_zero, List.set_cons_succ, i64_w, i32_w]
    rfl
   refine pure_ (i := 3) (N := some 32) (v := ?_) (a' := ?_) #[true, true, true, true, false, false, false, false, false, false] rfl rfl (any_of HT_.out (by kernel_rfl)) (fun _ _ _ h => h) (Or.inl ⟨by rfl, ?_⟩) ?_ ?_
   rotate_left
   ·intro w'
    go_simp
    with_reducible rfl
   rotate_left
   ·simp only [Act.put, List.setIfInBounds_toArray, List.set_cons_zero, List.set_cons_succ, i64_w, i32_w]
    rfl
   refine pure_ (i := 4) (N := some 33) (v := ?_) (a' := ?_) #[true, true, true, true, true, false, false, false, false, false] rfl rfl (any_of HT_.out (by kernel_rfl)) (fun _ _ _ h => h) (Or.inl ⟨by rfl, ?_⟩) ?_ ?_
   rotate_left
   ·intro w'
    go_simp
    with_reducible rfl
   rotate_left
   ·simp only [Act.put, List.setIfInBounds_toArray, List.set_cons_zero, List.set_cons_succ, i64_w, i32_w]
    rfl
   refine pure_ (i := 5) (N := some 34) (v := undef) (a' := ?_) #[true, true, true, true, true, true, false, false, false, false] rfl rfl (any_of HT_.out (by kernel_rfl)) (fun _ _ _ h => h) (Or.inr ⟨by rfl, rfl⟩) ?_ ?_
   rotate_left
   ·simp only [Act.put, List.setIfInBounds_toArray, List.set_cons_zero, List.set_cons_succ, i64_w, i32_w]
    rfl
   refine pure_ (i := 6) (N := some 35) (v := undef) (a' := ?_) #[true, true, true, true, true, true, true, false, false, false] rfl rfl (any_of HT_.out (by kernel_rfl)) (fun _ _ _ h => h) (Or.inr ⟨by rfl, rfl⟩) ?_ ?_
   rotate_left
   ·simp only [Act.put, List.setIfInBounds_toArray, List.set_cons_zero, List.set_cons_succ, i64_w, i32_w]
    rfl
   refine pure_ (i := 7) (N := some 36) (v := undef) (a' := ?_) #[true, true, true, true, true, true, true, true, false, false] rfl rfl (any_of HT_.out (by kernel_rfl)) (fun _ _ _ h => h) (Or.inr ⟨by rfl, rfl⟩) ?_ ?_
   rotate_left
   ·simp only [Act.put, List.setIfInBounds_toArray, List.set_cons_zero, List.set_cons_succ, i64_w, i32_w]
    rfl
   refine pure_ (i := 8) (N := some 37) (v := undef) (a' := ?_) #[true, true, true, true, true, true, true, true, true, false] rfl rfl (any_of HT_.out (by kernel_rfl)) (fun _ _ _ h => h) (Or.inr ⟨by rfl, rfl⟩) ?_ ?_
   rotate_left
   ·simp only [Act.put, List.setIfInBounds_toArray, List.set_cons_zero, List.set_cons_succ, i64_w, i32_w]
    rfl
   refine pure_ (i := 9) (N := some 38) (v := ?_) (a' := ?_) #[true, true, true, true, true, true, true, true, true, true] rfl rfl (any_of HT_.out (by kernel_rfl)) (fun _ _ _ h => h) (Or.inl ⟨by rfl, ?_⟩) ?_ ?_
   rotate_left
   ·intro w'
    go_simp
    with_reducible rfl
   rotate_left
   ·simp only [Act.put, List.setIfInBounds_toArray, List.set_cons_zero, List.set_cons_succ, i64_w, i32_w]
    rfl
   refine done_ (done_of HT_.out (by kernel_rfl)) ?_
   try go_wp2
   go_meet
   case rel => exact ⟨_, (true), (by first | rfl | (simp; done) | (simp [*]; done)), H', ⟨by first | omega | exact Nat.le_refl _⟩, ⟨by (with_reducible repeat (first | apply b1 | apply b2 | apply b3)); exact BK144.out⟩, ⟨by (with_reducible repeat (first | apply b1 | apply b2 | apply b3)); exact BK145.out⟩, ⟨by (with_reducible repeat (first | apply b1 | apply b2 | apply b3)); exact BK148.out⟩, ⟨by (with_reducible repeat (first | apply b1 | apply b2 | apply b3)); exact BK153.out⟩, ⟨by (with_reducible repeat (first | apply b1 | apply b2 | apply b3)); exact BK154.out⟩, ⟨by (with_reducible repeat (first | apply b1 | apply b2 | apply b3)); exact BK159.out⟩, ⟨by (with_reducible repeat (first | apply b1 | apply b2 | apply b3)); exact BK160.out⟩, ⟨by repeat (first | (with_reducible first | exact HB.out | apply l1 | apply l2 | apply l3 | refine below_set ?_ GE144.out | refine below_set ?_ GE145.out | refine below_set ?_ GE148.out | refine below_set ?_ GE153.out | refine below_set ?_ GE154.out | refine below_set ?_ GE159.out | refine below_set ?_ GE160.out) | exact HB.out)⟩⟩
  ·rw [if_neg c48] at H
   have c48b0 : decide (0 < t163) = false := decide_eq_false c48
   clear c48
   (first | rw [c48b0] | (simp only [i64_w, i32_w]; rw [c48b0]) | skip)
   replace H := Option.bind_eq_some_iff.mp H
   obtain ⟨⟨t164, t165⟩, A530, H⟩ := H
   (try dsimp only at H)
   have A53 := Aside0.mk A530
   clear A530
   replace H := Option.bind_eq_some_iff.mp H
   obtain ⟨t166, A540, H⟩ := H
   (try dsimp only at H)
   have A54 := Aside0.mk A540
   clear A540
   have H' := Aside0.mk H
   clear H
   try go_wp2
   have n0_ : Aside0 (((((w32.setCell ⟨gb159, 0, none⟩ (.int .u64 t155)).setCell ⟨gb159, 1, none⟩ (.int .u64 t156)).setCell ⟨gb160, 0, none⟩ (.int .u64 t157)).setCell ⟨gb160, 1, none⟩ (.int .u64 t158)).heap[gb144]? = some (.cells #[.bool a0_0, .int .u64 a0_1, .int .u64 a0_2, .int .u64 a0_3, .int .u64 a0_4] 165 (0, 0))) := ⟨by (with_reducible repeat (first | apply b1 | apply b2 | apply b3)); refine blk_far ?_ NB144_160.out _; (with_reducible repeat (first | apply b1 | apply b2 | apply b3)); refine blk_far ?_ NB144_160.out _; (with_reducible repeat (first | apply b1 | apply b2 | apply b3)); refine blk_far ?_ NB144_159.out _; (with_reducible repeat (first | apply b1 | apply b2 | apply b3)); refine blk_far ?_ NB144_159.out _; (with_reducible repeat (first | apply b1 | apply b2 | apply b3)); exact BK144.out⟩
   have n1_ : Aside0 (((((w32.setCell ⟨gb159, 0, none⟩ (.int .u64 t155)).setCell ⟨gb159, 1, none⟩ (.int .u64 t156)).setCell ⟨gb160, 0, none⟩ (.int .u64 t157)).setCell ⟨gb160, 1, none⟩ (.int .u64 t158)).heap[gb145]? = some (.cells #[.int .i64 0, .int .i64 0] 36 (0, 0))) := ⟨by (with_reducible repeat (first | apply b1 | apply b2 | apply b3)); refine blk_far ?_ NB145_160.out _; (with_reducible repeat (first | apply b1 | apply b2 | apply b3)); refine blk_far ?_ NB145_160.out _; (with_reducible repeat (first | apply b1 | apply b2 | apply b3)); refine blk_far ?_ NB145_159.out _; (with_reducible repeat (first | apply b1 | apply b2 | apply b3)); refine blk_far ?_ NB145_159.out _; (with_reducible repeat (first | apply b1 | apply b2 | apply b3)); exact BK145.out⟩
   have n2_ : Aside0 (((((w32.setCell ⟨gb159, 0, none⟩ (.int .u64 t155)).setCell ⟨gb159, 1, none⟩ (.int .u64 t156)).setCell ⟨gb160, 0, none⟩ (.int .u64 t157)).setCell ⟨gb160, 1, none⟩ (.int .u64 t158)).heap[gb148]? = some (.cells #[.int .u64 t146, .int .u64 t147] 103 (0, 0))) := ⟨by (with_reducible repeat (first | apply b1 | apply b2 | apply b3)); refine blk_far ?_ NB148_160.out _; (with_reducible repeat (first | apply b1 | apply b2 | apply b3)); refine blk_far ?_ NB148_160.out _; (with_reducible repeat (first | apply b1 | apply b2 | apply b3)); refine blk_far ?_ NB148_159.out _; (with_reducible repeat (first | apply b1 | apply b2 | apply b3)); refine blk_far ?_ NB148_159.out _; (with_reducible repeat (first | apply b1 | apply b2 | apply b3)); exact BK148.out⟩
   have n3_ : Aside0 (((((w32.setCell ⟨gb159, 0, none⟩ (.int .u64 t155)).setCell ⟨gb159, 1, none⟩ (.int .u64 t156)).setCell ⟨gb160, 0, none⟩ (.int .u64 t157)).setCell ⟨gb160, 1, none⟩ (.int .u64 t158)).heap[gb153]? = some (.cells #[.int .u64 t149, .int .u64 t150] 103 (0, 0))) := ⟨by (with_reducible repeat (first | apply b1 | apply b2 | apply b3)); refine blk_far ?_ NB153_160.out _; (with_reducible repeat (first | apply b1 | apply b2 | apply b3)); refine blk_far ?_ NB153_160.out _; (with_reducible repeat (first | apply b1 | apply b2 | apply b3)); refine blk_far ?_ NB153_159.out _; (with_reducible repeat (first | apply b1 | apply b2 | apply b3)); refine blk_far ?_ NB153_159.out _; (with_reducible repeat (first | apply b1 | apply b2 | apply b3)); exact BK153.out⟩
   have n4_ : Aside0 (((((w32.setCell ⟨gb159, 0, none⟩ (.int .u64 t155)).setCell ⟨gb159, 1, none⟩ (.int .u64 t156)).setCell ⟨gb160, 0, none⟩ (.int .u64 t157)).setCell ⟨gb160, 1, none⟩ (.int .u64 t158)).heap[gb154]? = some (.cells #[.int .u64 t151, .int .u64 t152] 103 (0, 0))) := ⟨by (with_reducible repeat (first | apply b1 | apply b2 | apply b3)); refine blk_far ?_ NB154_160.out _; (with_reducible repeat (first | apply b1 | apply b2 | apply b3)); refine blk_far ?_ NB154_160.out _; (with_reducible repeat (first | apply b1 | apply b2 | apply b3)); refine blk_far ?_ NB154_159.out _; (with_reducible repeat (first | apply b1 | apply b2 | apply b3)); refine blk_far ?_ NB154_159.out _; (with_reducible repeat (first | apply b1 | apply b2 | apply b3)); exact BK154.out⟩
   have n5_ : Aside0 (((((w32.setCell ⟨gb159, 0, none⟩ (.int .u64 t155)).setCell ⟨gb159, 1, none⟩ (.int .u64 t156)).setCell ⟨gb160, 0, none⟩ (.int .u64 t157)).setCell ⟨gb160, 1, none⟩ (.int .u64 t158)).heap[gb159]? = some (.cells #[.int .u64 t155, .int .u64 t156] 103 (0, 0))) := ⟨by (with_reducible repeat (first | apply b1 | apply b2 | apply b3)); refine blk_far ?_ NB159_160.out _; (with_reducible repeat (first | apply b1 | apply b2 | apply b3)); refine blk_far ?_ NB159_160.out _; (with_reducible repeat (first | apply b1 | apply b2 | apply b3)); refine blk_put (cs := #[.int .u64 t155, .int .u64 0]) ?_ 1 _ rfl; (with_reducible repeat (first | apply b1 | apply b2 | apply b3)); refine blk_put (cs := #[.int .u64 0, .int .u64 0]) ?_ 0 _ rfl; (with_reducible repeat (first | apply b1 | apply b2 | apply b3)); exact BK159.out⟩
   have n6_ : Aside0 (((((w32.setCell ⟨gb159, 0, none⟩ (.int .u64 t155)).setCell ⟨gb159, 1, none⟩ (.int .u64 t156)).setCell ⟨gb160, 0, none⟩ (.int .u64 t157)).setCell ⟨gb160, 1, none⟩ (.int .u64 t158)).heap[gb160]? = some (.cells #[.int .u64 t157, .int .u64 t158] 103 (0, 0))) := ⟨by (with_reducible repeat (first | apply b1 | apply b2 | apply b3)); refine blk_put (cs := #[.int .u64 t157, .int .u64 0]) ?_ 1 _ rfl; (with_reducible repeat (first | apply b1 | apply b2 | apply b3)); refine blk_put (cs := #[.int .u64 0, .int .u64 0]) ?_ 0 _ rfl; (with_reducible repeat (first | apply b1 | apply b2 | apply b3)); refine blk_far ?_ NB160_159.out _; (with_reducible repeat (first | apply b1 | apply b2 | apply b3)); refine blk_far ?_ NB160_159.out _; (with_reducible repeat (first | apply b1 | apply b2 | apply b3)); exact BK160.out⟩
   have n7_ : Aside0 (Below w.heap.size w ((((w32.setCell ⟨gb159, 0, none⟩ (.int .u64 t155)).setCell ⟨gb159, 1, none⟩ (.int .u64 t156)).setCell ⟨gb160, 0, none⟩ (.int .u64 t157)).setCell ⟨gb160, 1, none⟩ (.int .u64 t158))) := ⟨by repeat (first | (with_reducible first | exact HB.out | apply l1 | apply l2 | apply l3 | refine below_set ?_ GE144.out | refine below_set ?_ GE145.out | refine below_set ?_ GE148.out | refine below_set ?_ GE153.out | refine below_set ?_ GE154.out | refine below_set ?_ GE159.out | refine below_set ?_ GE160.out) | exact HB.out)⟩
   (try clear BK144)
   (try clear BK145)
   (try clear BK148)
   (try clear BK153)
   (try clear BK154)
   (try clear BK159)
   (try clear BK160)
   (try clear HB)
   generalize ((((w32.setCell ⟨gb159, 0, none⟩ (.int .u64 t155)).setCell ⟨gb159, 1, none⟩ (.int .u64 t156)).setCell ⟨gb160, 0, none⟩ (.int .u64 t157)).setCell ⟨gb160, 1, none⟩ (.int .u64 t158)) = w55 at n0_ n1_ n2_ n3_ n4_ n5_ n6_ n7_ ⊢
   have BK144 := n0_
   have BK145 := n1_
   have BK148 := n2_
   have BK153 := n3_
   have BK154 := n4_
   have BK159 := n5_
   have BK160 := n6_
   have HB := n7_
   clear n0_ n1_ n2_ n3_ n4_ n5_ n6_ n7_
   have n0_ := Aside0.mk (blk_drew BK144.out)
   have n1_ := Aside0.mk (blk_drew BK145.out)
   have n2_ := Aside0.mk (blk_drew BK148.out)
   have n3_ := Aside0.mk (blk_drew BK153.out)
   have n4_ := Aside0.mk (blk_drew BK154.out)
   have n5_ := Aside0.mk (blk_drew BK159.out)
   have n6_ := Aside0.mk (blk_drew BK160.out)
   have n7_ := Aside0.mk (below_drew1 HB.out)
   clear BK144
   clear BK145
   clear BK148
   clear BK153
   clear BK154
   clear BK159
   clear BK160
   clear HB
   have BK144 := n0_
   have BK145 := n1_
   have BK148 := n2_
   have BK153 := n3_
   have BK154 := n4_
   have BK159 := n5_
   have BK160 := n6_
   have HB := n7_
   clear n0_ n1_ n2_ n3_ n4_ n5_ n6_ n7_
   refine start_ (n := 10) (S := fun w' => w'.cell? ⟨gb153, 0, none⟩ = some (.int .u64 t149) ∧ w'.cell? ⟨gb153, 1, none⟩ = some (.int .u64 t150) ∧ w'.cell? ⟨gb159, 0, none⟩ = some (.int .u64 t155) ∧ w'.cell? ⟨gb159, 1, none⟩ = some (.int .u64 t156)) (ds := []) #[false, false, false, false, false, false, false, false, false, false] (by kernel_rfl) rfl rfl ⟨(blk_cell BK153.out 0).trans rfl, (blk_cell BK153.out 1).trans rfl, (blk_cell BK159.out 0).trans rfl, (blk_cell BK159.out 1).trans rfl⟩ (fun hHeld => ?_); refine with_tabW ratio_frac_fit.tab4 ratio_frac_fit.bits4 (fun HT_ HW_ => ?_)
   generalize w55.drew = w56 at BK144 BK145 BK148 BK153 BK154 BK159 BK160 HB hHeld ⊢
   refine take_ (i := 0) (N := some 29) (v := ?_) (a' := ?_) #[true, false, false, false, false, false, false, false, false, false] rfl rfl (take_ofW HT_.out HW_.out (by kernel_rfl)) (fun _ _ _ h => h) (Or.inl ⟨by rfl, ?_⟩) hHeld ?_ ?_
   rotate_left
   ·rintro w' ⟨s0, s1, s2, s3⟩
    go_simp
    with_reducible rfl
   rotate_left
   ·simp only [Act.put, List.setIfInBounds_toArray, List.set_cons_zero, List.set_cons_succ, i64_w, i32_w]
    rfl
   refine one_ (i := 1) (N := some 30) #[true, true, false, false, false, false, false, false, false, false] rfl rfl (one_of HT_.out (by kernel_rfl)) (by decide) (fun K hK => ?_)
   refine goes_ Try.func86 (by kernel_rfl) rfl #[.int .u64 4611686018427387904] (by rfl) rfl rfl (by (try simp only [List.map_toArray, List.map_cons, List.map_nil]); first | done | rfl | (simp only [List.length_drop, List.length_take]; rfl)) ?_
   with_reducible refine (ratio_small.calls 4611686018427387904 t161 t162 _ A46.out).mono ?_
   rintro e w57 ⟨rfl, hb⟩
   refine ⟨_, rfl, ?_⟩
   have n0_ := Aside0.mk (blk_below (g := gb144) (o := .cells #[.bool a0_0, .int .u64 a0_1, .int .u64 a0_2, .int .u64 a0_3, .int .u64 a0_4] 165 (0, 0)) (by (with_reducible repeat (first | apply b1 | apply b2 | apply b3)); exact BK144.out) hb)
   have n1_ := Aside0.mk (blk_below (g := gb145) (o := .cells #[.int .i64 0, .int .i64 0] 36 (0, 0)) (by (with_reducible repeat (first | apply b1 | apply b2 | apply b3)); exact BK145.out) hb)
   have n2_ := Aside0.mk (blk_below (g := gb148) (o := .cells #[.int .u64 t146, .int .u64 t147] 103 (0, 0)) (by (with_reducible repeat (first | apply b1 | apply b2 | apply b3)); exact BK148.out) hb)
   have n3_ := Aside0.mk (blk_below (g := gb153) (o := .cells #[.int .u64 t149, .int .u64 t150] 103 (0, 0)) (by (with_reducible repeat (first | apply b1 | apply b2 | apply b3)); exact BK153.out) hb)
   have n4_ := Aside0.mk (blk_below (g := gb154) (o := .cells #[.int .u64 t151, .int .u64 t152] 103 (0, 0)) (by (with_reducible repeat (first | apply b1 | apply b2 | apply b3)); exact BK154.out) hb)
   have n5_ := Aside0.mk (blk_below (g := gb159) (o := .cells #[.int .u64 t155, .int .u64 t156] 103 (0, 0)) (by (with_reducible repeat (first | apply b1 | apply b2 | apply b3)); exact BK159.out) hb)
   have n6_ := Aside0.mk (blk_below (g := gb160) (o := .cells #[.int .u64 t157, .int .u64 t158] 103 (0, 0)) (by (with_reducible repeat (first | apply b1 | apply b2 | apply b3)); exact BK160.out) hb)
   have n7_ := Aside0.mk (below_step (by repeat (first | (with_reducible first | exact HB.out | apply l1 | apply l2 | apply l3 | refine below_set ?_ GE144.out | refine below_set ?_ GE145.out | refine below_set ?_ GE148.out | refine below_set ?_ GE153.out | refine below_set ?_ GE154.out | refine below_set ?_ GE159.out | refine below_set ?_ GE160.out) | exact HB.out)) hb)
   clear BK144
   clear BK145
   clear BK148
   clear BK153
   clear BK154
   clear BK159
   clear BK160
   clear HB
   have BK144 := n0_
   have BK145 := n1_
   have BK148 := n2_
   have BK153 := n3_
   have BK154 := n4_
   have BK159 := n5_
   have BK160 := n6_
   have HB := n7_
   clear n0_ n1_ n2_ n3_ n4_ n5_ n6_ n7_
   (try clear hb)
   (try clear hb2)
   (try clear hk)
   (try clear hi)
   refine hK.out _ _ ⟨(blk_cell BK153.out 0).trans rfl, (blk_cell BK153.out 1).trans rfl, (blk_cell BK159.out 0).trans rfl, (blk_cell BK159.out 1).trans rfl⟩ (fun hHeld => ?_)
   clear hK K
   refine norm_ (a' := ?_) ?_ ?_
   rotate_left
   ·show Act.put _ (some 30) _ = _
    simp only [Act.put, List.setIfInBounds_toArray, List.set_cons_zero, List.set_cons_succ, i64_w, i32_w]
    rfl
   refine one_ (i := 2) (N := some 31) #[true, true, true, false, false, false, false, false, false, false] rfl rfl (one_of HT_.out (by kernel_rfl)) (by decide) (fun K hK => ?_)
   refine goes_ Try.func48 (by kernel_rfl) rfl #[.agg #[.int .u64 t149, .int .u64 t150], .agg #[.int .u64 t161, .int .u64 t162]] (by rfl) rfl rfl (by (try simp only [List.map_toArray, List.map_cons, List.map_nil]); first | done | rfl | (simp only [List.length_drop, List.length_take]; rfl)) ?_
   with_reducible refine (ratio_wide_cmp.calls t149 t150 t161 t162 t163 _ A47.out).mono ?_
   rintro e w58 ⟨rfl, hb⟩
   refine ⟨_, rfl, ?_⟩
   have n0_ := Aside0.mk (blk_below (g := gb144) (o := .cells #[.bool a0_0, .int .u64 a0_1, .int .u64 a0_2, .int .u64 a0_3, .int .u64 a0_4] 165 (0, 0)) (by (with_reducible repeat (first | apply b1 | apply b2 | apply b3)); exact BK144.out) hb)
   have n1_ := Aside0.mk (blk_below (g := gb145) (o := .cells #[.int .i64 0, .int .i64 0] 36 (0, 0)) (by (with_reducible repeat (first | apply b1 | apply b2 | apply b3)); exact BK145.out) hb)
   have n2_ := Aside0.mk (blk_below (g := gb148) (o := .cells #[.int .u64 t146, .int .u64 t147] 103 (0, 0)) (by (with_reducible repeat (first | apply b1 | apply b2 | apply b3)); exact BK148.out) hb)
   have n3_ := Aside0.mk (blk_below (g := gb153) (o := .cells #[.int .u64 t149, .int .u64 t150] 103 (0, 0)) (by (with_reducible repeat (first | apply b1 | apply b2 | apply b3)); exact BK153.out) hb)
   have n4_ := Aside0.mk (blk_below (g := gb154) (o := .cells #[.int .u64 t151, .int .u64 t152] 103 (0, 0)) (by (with_reducible repeat (first | apply b1 | apply b2 | apply b3)); exact BK154.out) hb)
   have n5_ := Aside0.mk (blk_below (g := gb159) (o := .cells #[.int .u64 t155, .int .u64 t156] 103 (0, 0)) (by (with_reducible repeat (first | apply b1 | apply b2 | apply b3)); exact BK159.out) hb)
   have n6_ := Aside0.mk (blk_below (g := gb160) (o := .cells #[.int .u64 t157, .int .u64 t158] 103 (0, 0)) (by (with_reducible repeat (first | apply b1 | apply b2 | apply b3)); exact BK160.out) hb)
   have n7_ := Aside0.mk (below_step (by repeat (first | (with_reducible first | exact HB.out | apply l1 | apply l2 | apply l3 | refine below_set ?_ GE144.out | refine below_set ?_ GE145.out | refine below_set ?_ GE148.out | refine below_set ?_ GE153.out | refine below_set ?_ GE154.out | refine below_set ?_ GE159.out | refine below_set ?_ GE160.out) | exact HB.out)) hb)
   clear BK144
   clear BK145
   clear BK148
   clear BK153
   clear BK154
   clear BK159
   clear BK160
   clear HB
   have BK144 := n0_
   have BK145 := n1_
   have BK148 := n2_
   have BK153 := n3_
   have BK154 := n4_
   have BK159 := n5_
   have BK160 := n6_
   have HB := n7_
   clear n0_ n1_ n2_ n3_ n4_ n5_ n6_ n7_
   (try clear hb)
   (try clear hb2)
   (try clear hk)
   (try clear hi)
   refine hK.out _ _ ⟨(blk_cell BK153.out 0).trans rfl, (blk_cell BK153.out 1).trans rfl, (blk_cell BK159.out 0).trans rfl, (blk_cell BK159.out 1).trans rfl⟩ (fun hHeld => ?_)
   clear hK K
   refine norm_ (a' := ?_) ?_ ?_
   rotate_left
   ·show Act.put _ (some 31) _ = _
    simp only [Act.put, List.setIfInBounds_toArray, List.set_cons_zero, List.set_cons_succ, i64_w, i32_w]
    rfl
   refine pure_ (i := 3) (N := some 32) (v := ?_) (a' := ?_) #[true, true, true, true, false, false, false, false, false, false] rfl rfl (any_of HT_.out (by kernel_rfl)) (fun _ _ _ h => h) (Or.inl ⟨by rfl, ?_⟩) ?_ ?_
   rotate_left
   ·intro w'
    go_simp
    with_reducible rfl
   rotate_left
   ·simp only [Act.put, List.setIfInBounds_toArray, List.set_cons_zero, List.set_cons_succ, i64_w, i32_w]
    rfl
   refine pure_ (i := 4) (N := some 33) (v := ?_) (a' := ?_) #[true, true, true, true, true, false, false, false, false, false] rfl rfl (any_of HT_.out (by kernel_rfl)) (fun _ _ _ h => h) (Or.inl ⟨by rfl, ?_⟩) ?_ ?_
   rotate_left
   ·intro w'
    go_simp
    with_reducible rfl
   rotate_left
   ·simp only [Act.put, List.setIfInBounds_toArray, List.set_cons_zero, List.set_cons_succ, i64_w, i32_w]
    rfl
   refine take_ (i := 5) (N := some 34) (v := ?_) (a' := ?_) #[true, true, true, true, true, true, false, false, false, false] rfl rfl (take_ofW HT_.out HW_.out (by kernel_rfl)) (fun _ _ _ h => h) (Or.inl ⟨by rfl, ?_⟩) hHeld ?_ ?_
   rotate_left
   ·rintro w' ⟨s0, s1, s2, s3⟩
    go_simp
    with_reducible rfl
   rotate_left
   ·simp only [Act.put, List.setIfInBounds_toArray, List.set_cons_zero, List.set_cons_succ, i64_w, i32_w]
    rfl
   refine one_ (i := 6) (N := some 35) #[true, true, true, true, true, true, true, false, false, false] rfl rfl (one_of HT_.out (by kernel_rfl)) (by decide) (fun K hK => ?_)
   refine goes_ Try.func86 (by kernel_rfl) rfl #[.int .u64 2147483648] (by rfl) rfl rfl (by (try simp only [List.map_toArray, List.map_cons, List.map_nil]); first | done | rfl | (simp only [List.length_drop, List.length_take]; rfl)) ?_
   with_reducible refine (ratio_small.calls 2147483648 t164 t165 _ A53.out).mono ?_
   rintro e w59 ⟨rfl, hb⟩
   refine ⟨_, rfl, ?_⟩
   have n0_ := Aside0.mk (blk_below (g := gb144) (o := .cells #[.bool a0_0, .int .u64 a0_1, .int .u64 a0_2, .int .u64 a0_3, .int .u64 a0_4] 165 (0, 0)) (by (with_reducible repeat (first | apply b1 | apply b2 | apply b3)); exact BK144.out) hb)
   have n1_ := Aside0.mk (blk_below (g := gb145) (o := .cells #[.int .i64 0, .int .i64 0] 36 (0, 0)) (by (with_reducible repeat (first | apply b1 | apply b2 | apply b3)); exact BK145.out) hb)
   have n2_ := Aside0.mk (blk_below (g := gb148) (o := .cells #[.int .u64 t146, .int .u64 t147] 103 (0, 0)) (by (with_reducible repeat (first | apply b1 | apply b2 | apply b3)); exact BK148.out) hb)
   have n3_ := Aside0.mk (blk_below (g := gb153) (o := .cells #[.int .u64 t149, .int .u64 t150] 103 (0, 0)) (by (with_reducible repeat (first | apply b1 | apply b2 | apply b3)); exact BK153.out) hb)
   have n4_ := Aside0.mk (blk_below (g := gb154) (o := .cells #[.int .u64 t151, .int .u64 t152] 103 (0, 0)) (by (with_reducible repeat (first | apply b1 | apply b2 | apply b3)); exact BK154.out) hb)
   have n5_ := Aside0.mk (blk_below (g := gb159) (o := .cells #[.int .u64 t155, .int .u64 t156] 103 (0, 0)) (by (with_reducible repeat (first | apply b1 | apply b2 | apply b3)); exact BK159.out) hb)
   have n6_ := Aside0.mk (blk_below (g := gb160) (o := .cells #[.int .u64 t157, .int .u64 t158] 103 (0, 0)) (by (with_reducible repeat (first | apply b1 | apply b2 | apply b3)); exact BK160.out) hb)
   have n7_ := Aside0.mk (below_step (by repeat (first | (with_reducible first | exact HB.out | apply l1 | apply l2 | apply l3 | refine below_set ?_ GE144.out | refine below_set ?_ GE145.out | refine below_set ?_ GE148.out | refine below_set ?_ GE153.out | refine below_set ?_ GE154.out | refine below_set ?_ GE159.out | refine below_set ?_ GE160.out) | exact HB.out)) hb)
   clear BK144
   clear BK145
   clear BK148
   clear BK153
   clear BK154
   clear BK159
   clear BK160
   clear HB
   have BK144 := n0_
   have BK145 := n1_
   have BK148 := n2_
   have BK153 := n3_
   have BK154 := n4_
   have BK159 := n5_
   have BK160 := n6_
   have HB := n7_
   clear n0_ n1_ n2_ n3_ n4_ n5_ n6_ n7_
   (try clear hb)
   (try clear hb2)
   (try clear hk)
   (try clear hi)
   refine hK.out _ _ ⟨(blk_cell BK153.out 0).trans rfl, (blk_cell BK153.out 1).trans rfl, (blk_cell BK159.out 0).trans rfl, (blk_cell BK159.out 1).trans rfl⟩ (fun hHeld => ?_)
   clear hK K
   refine norm_ (a' := ?_) ?_ ?_
   rotate_left
   ·show Act.put _ (some 35) _ = _
    simp only [Act.put, List.setIfInBounds_toArray, List.set_cons_zero, List.set_cons_succ, i64_w, i32_w]
    rfl
   refine one_ (i := 7) (N := some 36) #[true, true, true, true, true, true, true, true, false, false] rfl rfl (one_of HT_.out (by kernel_rfl)) (by decide) (fun K hK => ?_)
   refine goes_ Try.func48 (by kernel_rfl) rfl #[.agg #[.int .u64 t155, .int .u64 t156], .agg #[.int .u64 t164, .int .u64 t165]] (by rfl) rfl rfl (by (try simp only [List.map_toArray, List.map_cons, List.map_nil]); first | done | rfl | (simp only [List.length_drop, List.length_take]; rfl)) ?_
   with_reducible refine (ratio_wide_cmp.calls t155 t156 t164 t165 t166 _ A54.out).mono ?_
   rintro e w60 ⟨rfl, hb⟩
   refine ⟨_, rfl, ?_⟩
   have n0_ := Aside0.mk (blk_below (g := gb144) (o := .cells #[.bool a0_0, .int .u64 a0_1, .int .u64 a0_2, .int .u64 a0_3, .int .u64 a0_4] 165 (0, 0)) (by (with_reducible repeat (first | apply b1 | apply b2 | apply b3)); exact BK144.out) hb)
   have n1_ := Aside0.mk (blk_below (g := gb145) (o := .cells #[.int .i64 0, .int .i64 0] 36 (0, 0)) (by (with_reducible repeat (first | apply b1 | apply b2 | apply b3)); exact BK145.out) hb)
   have n2_ := Aside0.mk (blk_below (g := gb148) (o := .cells #[.int .u64 t146, .int .u64 t147] 103 (0, 0)) (by (with_reducible repeat (first | apply b1 | apply b2 | apply b3)); exact BK148.out) hb)
   have n3_ := Aside0.mk (blk_below (g := gb153) (o := .cells #[.int .u64 t149, .int .u64 t150] 103 (0, 0)) (by (with_reducible repeat (first | apply b1 | apply b2 | apply b3)); exact BK153.out) hb)
   have n4_ := Aside0.mk (blk_below (g := gb154) (o := .cells #[.int .u64 t151, .int .u64 t152] 103 (0, 0)) (by (with_reducible repeat (first | apply b1 | apply b2 | apply b3)); exact BK154.out) hb)
   have n5_ := Aside0.mk (blk_below (g := gb159) (o := .cells #[.int .u64 t155, .int .u64 t156] 103 (0, 0)) (by (with_reducible repeat (first | apply b1 | apply b2 | apply b3)); exact BK159.out) hb)
   have n6_ := Aside0.mk (blk_below (g := gb160) (o := .cells #[.int .u64 t157, .int .u64 t158] 103 (0, 0)) (by (with_reducible repeat (first | apply b1 | apply b2 | apply b3)); exact BK160.out) hb)
   have n7_ := Aside0.mk (below_step (by repeat (first | (with_reducible first | exact HB.out | apply l1 | apply l2 | apply l3 | refine below_set ?_ GE144.out | refine below_set ?_ GE145.out | refine below_set ?_ GE148.out | refine below_set ?_ GE153.out | refine below_set ?_ GE154.out | refine below_set ?_ GE159.out | refine below_set ?_ GE160.out) | exact HB.out)) hb)
   clear BK144
   clear BK145
   clear BK148
   clear BK153
   clear BK154
   clear BK159
   clear BK160
   clear HB
   have BK144 := n0_
   have BK145 := n1_
   have BK148 := n2_
   have BK153 := n3_
   have BK154 := n4_
   have BK159 := n5_
   have BK160 := n6_
   have HB := n7_
   clear n0_ n1_ n2_ n3_ n4_ n5_ n6_ n7_
   (try clear hb)
   (try clear hb2)
   (try clear hk)
   (try clear hi)
   refine hK.out _ _ ⟨(blk_cell BK153.out 0).trans rfl, (blk_cell BK153.out 1).trans rfl, (blk_cell BK159.out 0).trans rfl, (blk_cell BK159.out 1).trans rfl⟩ (fun hHeld => ?_)
   clear hK K
   refine norm_ (a' := ?_) ?_ ?_
   rotate_left
   ·show Act.put _ (some 36) _ = _
    simp only [Act.put, List.setIfInBounds_toArray, List.set_cons_zero, List.set_cons_succ, i64_w, i32_w]
    rfl
   refine pure_ (i := 8) (N := some 37) (v := ?_) (a' := ?_) #[true, true, true, true, true, true, true, true, true, false] rfl rfl (any_of HT_.out (by kernel_rfl)) (fun _ _ _ h => h) (Or.inl ⟨by rfl, ?_⟩) ?_ ?_
   rotate_left
   ·intro w'
    go_simp
    with_reducible rfl
   rotate_left
   ·simp only [Act.put, List.setIfInBounds_toArray, List.set_cons_zero, List.set_cons_succ, i64_w, i32_w]
    rfl
   refine pure_ (i := 9) (N := some 38) (v := ?_) (a' := ?_) #[true, true, true, true, true, true, true, true, true, true] rfl rfl (any_of HT_.out (by kernel_rfl)) (fun _ _ _ h => h) (Or.inl ⟨by rfl, ?_⟩) ?_ ?_
   rotate_left
   ·intro w'
    go_simp
    with_reducible rfl
   rotate_left
   ·simp only [Act.put, List.setIfInBounds_toArray, List.set_cons_zero, List.set_cons_succ, i64_w, i32_w]
    rfl
   refine done_ (done_of HT_.out (by kernel_rfl)) ?_
   try go_wp2
   go_meet
   case rel => exact ⟨_, (decide (t166 > 0)), (by first | rfl | (simp; done) | (simp [*]; done)), H', ⟨by first | omega | exact Nat.le_refl _⟩, ⟨by (with_reducible repeat (first | apply b1 | apply b2 | apply b3)); exact BK144.out⟩, ⟨by (with_reducible repeat (first | apply b1 | apply b2 | apply b3)); exact BK145.out⟩, ⟨by (with_reducible repeat (first | apply b1 | apply b2 | apply b3)); exact BK148.out⟩, ⟨by (with_reducible repeat (first | apply b1 | apply b2 | apply b3)); exact BK153.out⟩, ⟨by (with_reducible repeat (first | apply b1 | apply b2 | apply b3)); exact BK154.out⟩, ⟨by (with_reducible repeat (first | apply b1 | apply b2 | apply b3)); exact BK159.out⟩, ⟨by (with_reducible repeat (first | apply b1 | apply b2 | apply b3)); exact BK160.out⟩, ⟨by repeat (first | (with_reducible first | exact HB.out | apply l1 | apply l2 | apply l3 | refine below_set ?_ GE144.out | refine below_set ?_ GE145.out | refine below_set ?_ GE148.out | refine below_set ?_ GE153.out | refine below_set ?_ GE154.out | refine below_set ?_ GE159.out | refine below_set ?_ GE160.out) | exact HB.out)⟩⟩
 case rest =>
  clear HC5
  try clear c1
  try clear c2
  try clear p2
  try clear c3
  try clear c4
  try clear c8
  try clear c9
  try clear c12
  try clear c13
  try clear c19
  try clear c20
  try clear c21
  try clear c22
  try clear c24
  try clear c25
  try clear c26
  try clear c33
  try clear c34
  try clear c35
  try clear c36
  try clear c37
  try clear c38
  try clear c40
  try clear c41
  try clear c42
  try clear c43
  try clear c44
  try clear c48
  try clear c48b0
  try clear hcz14_0
  try clear hcz14_1
  try clear hcz15_0
  try clear hcz15_1
  try clear hcz15_2
  try clear hcz15_3
  try clear hcz15_4
  try clear hcz23_0
  try clear hcz23_1
  try clear hcz27_0
  try clear hcz27_1
  try clear hcz28_0
  try clear hcz28_1
  try clear hcz28_2
  try clear hcz28_3
  try clear hcz28_4
  try clear hcz29_0
  try clear hcz29_1
  try clear hcz39_0
  try clear hcz39_1
  try clear hcz45_0
  try clear hcz45_1
  try clear hcz9_0
  try clear hcz9_1
  try clear hcz9_2
  try clear hcz9_3
  try clear hcz9_4
  try clear hfz14_0
  try clear hfz14_1
  try clear hfz15_0
  try clear hfz15_1
  try clear hfz15_2
  try clear hfz15_3
  try clear hfz15_4
  try clear hfz23_0
  try clear hfz23_1
  try clear hfz27_0
  try clear hfz27_1
  try clear hfz28_0
  try clear hfz28_1
  try clear hfz28_2
  try clear hfz28_3
  try clear hfz28_4
  try clear hfz29_0
  try clear hfz29_1
  try clear hfz39_0
  try clear hfz39_1
  try clear hfz45_0
  try clear hfz45_1
  try clear hfz9_0
  try clear hfz9_1
  try clear hfz9_2
  try clear hfz9_3
  try clear hfz9_4
  obtain ⟨kq, x38_4, rfl, HA, HJ4, BK144, BK145, BK148, BK153, BK154, BK159, BK160, HB⟩ := hcut
  cases kq with
  | zero => exact absurd HA.out (by simp [ratio_frac_fit.j0])
  | succ kj4 =>
   have H := HA.out
   clear HA
   simp only [ratio_frac_fit.j0] at H
   by_cases c61 : x38_4 = true
   ·subst c61
    have H1 : (some (0, 0, 12)) = some (r1, r2, r3) := by rw [if_pos rfl] at H; exact H
    clear H
    have H := H1
    clear H1
    simp only [Option.some.injEq, Prod.mk.injEq] at H
    obtain ⟨rfl, rfl, rfl⟩ := H
    have hnb62 := NB145_144.out
    have hnc62 := NB144_145.out
    have hnb63 := NB145_148.out
    have hnc63 := NB148_145.out
    have hnb64 := NB145_153.out
    have hnc64 := NB153_145.out
    have hnb65 := NB145_154.out
    have hnc65 := NB154_145.out
    have hnb66 := NB145_159.out
    have hnc66 := NB159_145.out
    have hnb67 := NB145_160.out
    have hnc67 := NB160_145.out
    obtain ⟨hcz68_0, hcz68_1, hfz68_0, hfz68_1⟩ := blk_cells2 BK145.out
    go_wp2
    refine bodyPost_ret (results_ct rfl _ _ gb145 36 #[.int .i64 0, .int .i64 0] (0, 0) _ rfl (by (with_reducible repeat (first | apply b1 | apply b2 | apply b3)); refine blk_put (cs := #[.int .i64 0, .int .i64 0]) ?_ 1 _ rfl; (with_reducible repeat (first | apply b1 | apply b2 | apply b3)); refine blk_put (cs := #[.int .i64 0, .int .i64 0]) ?_ 0 _ rfl; (with_reducible repeat (first | apply b1 | apply b2 | apply b3)); exact BK145.out) Try.underlying36 rfl (by kernel_rfl)) rfl ?_
    exact ⟨by first | rfl | (simp [errW_none, errW_some] <;> rfl) | (simp [*, errW_none, errW_some] <;> rfl), by repeat (first | (with_reducible first | exact HB.out | apply l1 | apply l2 | apply l3 | refine below_set ?_ GE144.out | refine below_set ?_ GE145.out | refine below_set ?_ GE148.out | refine below_set ?_ GE153.out | refine below_set ?_ GE154.out | refine below_set ?_ GE159.out | refine below_set ?_ GE160.out) | exact HB.out)⟩
   ·replace c61 := Bool.eq_false_iff.mpr c61
    subst c61
    have H1 : (if a0_0 = true then (some (wrap64 (-(wrap64 (t150))), wrap64 (t156), 0)) else (some (wrap64 (t150), wrap64 (t156), 0))) = some (r1, r2, r3) := by rw [if_neg (show ¬ (false = true) by decide)] at H; exact H
    clear H
    have H := H1
    clear H1
    by_cases c69 : a0_0 = true
    ·subst c69
     have H1 : (some (wrap64 (-(wrap64 (t150))), wrap64 (t156), 0)) = some (r1, r2, r3) := by rw [if_pos rfl] at H; exact H
     clear H
     have H := H1
     clear H1
     simp only [Option.some.injEq, Prod.mk.injEq] at H
     obtain ⟨rfl, rfl, rfl⟩ := H
     have hnb70 := NB153_144.out
     have hnc70 := NB144_153.out
     have hnb71 := NB153_145.out
     have hnc71 := NB145_153.out
     have hnb72 := NB153_148.out
     have hnc72 := NB148_153.out
     have hnb73 := NB153_154.out
     have hnc73 := NB154_153.out
     have hnb74 := NB153_159.out
     have hnc74 := NB159_153.out
     have hnb75 := NB153_160.out
     have hnc75 := NB160_153.out
     obtain ⟨hcz76_0, hcz76_1, hfz76_0, hfz76_1⟩ := blk_cells2 BK153.out
     have hnb77 := NB159_144.out
     have hnc77 := NB144_159.out
     have hnb78 := NB159_145.out
     have hnc78 := NB145_159.out
     have hnb79 := NB159_148.out
     have hnc79 := NB148_159.out
     have hnb80 := NB159_154.out
     have hnc80 := NB154_159.out
     have hnb81 := NB159_160.out
     have hnc81 := NB160_159.out
     obtain ⟨hcz82_0, hcz82_1, hfz82_0, hfz82_1⟩ := blk_cells2 BK159.out
     go_wp2_with (first | ((with_reducible refine gate_dst (N := 9) rfl ?_); refine box_event (by rfl) (N := 9) (by rfl) (cs := #[.int .i64 0, .int .i64 0]) (t := 36) (by first | (go_simp; done) | (go_simp; rfl)) ?_; intro gb167 hg w83 hbox hb; obtain ⟨hb_, hw_⟩ := box_facts (by repeat (first | (with_reducible first | exact HB.out | apply l1 | apply l2 | apply l3 | refine below_set ?_ GE144.out | refine below_set ?_ GE145.out | refine below_set ?_ GE148.out | refine below_set ?_ GE153.out | refine below_set ?_ GE154.out | refine below_set ?_ GE159.out | refine below_set ?_ GE160.out) | exact HB.out)) hg hb; have n0_ := Aside0.mk (blk_below (by (with_reducible repeat (first | apply b1 | apply b2 | apply b3)); exact BK144.out) hb); have n1_ := Aside0.mk (blk_below (by (with_reducible repeat (first | apply b1 | apply b2 | apply b3)); exact BK145.out) hb); have n2_ := Aside0.mk (blk_below (by (with_reducible repeat (first | apply b1 | apply b2 | apply b3)); exact BK148.out) hb); have n3_ := Aside0.mk (blk_below (by (with_reducible repeat (first | apply b1 | apply b2 | apply b3)); exact BK153.out) hb); have n4_ := Aside0.mk (blk_below (by (with_reducible repeat (first | apply b1 | apply b2 | apply b3)); exact BK154.out) hb); have n5_ := Aside0.mk (blk_below (by (with_reducible repeat (first | apply b1 | apply b2 | apply b3)); exact BK159.out) hb); have n6_ := Aside0.mk (blk_below (by (with_reducible repeat (first | apply b1 | apply b2 | apply b3)); exact BK160.out) hb); have n7_ := Aside0.mk (hb_); have n8_ := Aside0.mk (hbox); have n9_ := Aside0.mk (hw_); have n10_ := Aside0.mk (hw_); have n11_ := Aside0.mk ((by rw [hg]; exact Nat.ne_of_lt (blk_lt (by (with_reducible repeat (first | apply b1 | apply b2 | apply b3)); exact BK144.out)) : gb144 ≠ gb167)); have n12_ := Aside0.mk ((by rw [hg]; exact Nat.ne_of_gt (blk_lt (by (with_reducible repeat (first | apply b1 | apply b2 | apply b3)); exact BK144.out)) : gb167 ≠ gb144)); have n13_ := Aside0.mk ((by rw [hg]; exact Nat.ne_of_lt (blk_lt (by (with_reducible repeat (first | apply b1 | apply b2 | apply b3)); exact BK145.out)) : gb145 ≠ gb167)); have n14_ := Aside0.mk ((by rw [hg]; exact Nat.ne_of_gt (blk_lt (by (with_reducible repeat (first | apply b1 | apply b2 | apply b3)); exact BK145.out)) : gb167 ≠ gb145)); have n15_ := Aside0.mk ((by rw [hg]; exact Nat.ne_of_lt (blk_lt (by (with_reducible repeat (first | apply b1 | apply b2 | apply b3)); exact BK148.out)) : gb148 ≠ gb167)); have n16_ := Aside0.mk ((by rw [hg]; exact Nat.ne_of_gt (blk_lt (by (with_reducible repeat (first | apply b1 | apply b2 | apply b3)); exact BK148.out)) : gb167 ≠ gb148)); have n17_ := Aside0.mk ((by rw [hg]; exact Nat.ne_of_lt (blk_lt (by (with_reducible repeat (first | apply b1 | apply b2 | apply b3)); exact BK153.out)) : gb153 ≠ gb167)); have n18_ := Aside0.mk ((by rw [hg]; exact Nat.ne_of_gt (blk_lt (by (with_reducible repeat (first | apply b1 | apply b2 | apply b3)); exact BK153.out)) : gb167 ≠ gb153)); have n19_ := Aside0.mk ((by rw [hg]; exact Nat.ne_of_lt (blk_lt (by (with_reducible repeat (first | apply b1 | apply b2 | apply b3)); exact BK154.out)) : gb154 ≠ gb167)); have n20_ := Aside0.mk ((by rw [hg]; exact Nat.ne_of_gt (blk_lt (by (with_reducible repeat (first | apply b1 | apply b2 | apply b3)); exact BK154.out)) : gb167 ≠ gb154)); have n21_ := Aside0.mk ((by rw [hg]; exact Nat.ne_of_lt (blk_lt (by (with_reducible repeat (first | apply b1 | apply b2 | apply b3)); exact BK159.out)) : gb159 ≠ gb167)); have n22_ := Aside0.mk ((by rw [hg]; exact Nat.ne_of_gt (blk_lt (by (with_reducible repeat (first | apply b1 | apply b2 | apply b3)); exact BK159.out)) : gb167 ≠ gb159)); have n23_ := Aside0.mk ((by rw [hg]; exact Nat.ne_of_lt (blk_lt (by (with_reducible repeat (first | apply b1 | apply b2 | apply b3)); exact BK160.out)) : gb160 ≠ gb167)); have n24_ := Aside0.mk ((by rw [hg]; exact Nat.ne_of_gt (blk_lt (by (with_reducible repeat (first | apply b1 | apply b2 | apply b3)); exact BK160.out)) : gb167 ≠ gb160)); clear BK144; clear BK145; clear BK148; clear BK153; clear BK154; clear BK159; clear BK160; clear HB; have BK144 := n0_; have BK145 := n1_; have BK148 := n2_; have BK153 := n3_; have BK154 := n4_; have BK159 := n5_; have BK160 := n6_; have HB := n7_; have BK167 := n8_; have GW167 := n9_; have GE167 := n10_; have NB144_167 := n11_; have NB167_144 := n12_; have NB145_167 := n13_; have NB167_145 := n14_; have NB148_167 := n15_; have NB167_148 := n16_; have NB153_167 := n17_; have NB167_153 := n18_; have NB154_167 := n19_; have NB167_154 := n20_; have NB159_167 := n21_; have NB167_159 := n22_; have NB160_167 := n23_; have NB167_160 := n24_; clear n0_ n1_ n2_ n3_ n4_ n5_ n6_ n7_ n8_ n9_ n10_ n11_ n12_ n13_ n14_ n15_ n16_ n17_ n18_ n19_ n20_ n21_ n22_ n23_ n24_; clear hb hbox hg hb_ hw_; have hnb84 := NB167_144.out; have hnc84 := NB144_167.out; have hnb85 := NB167_145.out; have hnc85 := NB145_167.out; have hnb86 := NB167_148.out; have hnc86 := NB148_167.out; have hnb87 := NB167_153.out; have hnc87 := NB153_167.out; have hnb88 := NB167_154.out; have hnc88 := NB154_167.out; have hnb89 := NB167_159.out; have hnc89 := NB159_167.out; have hnb90 := NB167_160.out; have hnc90 := NB160_167.out; obtain ⟨hcz91_0, hcz91_1, hfz91_0, hfz91_1⟩ := blk_cells2 BK167.out; have hnb92 := NB144_145.out; have hnc92 := NB145_144.out; have hnb93 := NB144_148.out; have hnc93 := NB148_144.out; have hnb94 := NB144_154.out; have hnc94 := NB154_144.out; have hnb95 := NB144_160.out; have hnc95 := NB160_144.out; obtain ⟨hcz96_0, hcz96_1, hcz96_2, hcz96_3, hcz96_4, hfz96_0, hfz96_1, hfz96_2, hfz96_3, hfz96_4⟩ := blk_cells5 BK144.out; have hnb97 := NB145_148.out; have hnc97 := NB148_145.out; have hnb98 := NB145_154.out; have hnc98 := NB154_145.out; have hnb99 := NB145_160.out; have hnc99 := NB160_145.out; obtain ⟨hcz100_0, hcz100_1, hfz100_0, hfz100_1⟩ := blk_cells2 BK145.out))
     refine bodyPost_ret (results_ct rfl _ _ gb145 36 #[.int .i64 (wrap64 (-(wrap64 (t150)))), .int .i64 (wrap64 (t156))] (0, 0) _ rfl (by (with_reducible repeat (first | apply b1 | apply b2 | apply b3)); refine blk_put (cs := #[.int .i64 (wrap64 (-(wrap64 (t150)))), .int .i64 0]) ?_ 1 _ rfl; (with_reducible repeat (first | apply b1 | apply b2 | apply b3)); refine blk_put (cs := #[.int .i64 0, .int .i64 0]) ?_ 0 _ rfl; (with_reducible repeat (first | apply b1 | apply b2 | apply b3)); refine blk_far ?_ NB145_167.out _; (with_reducible repeat (first | apply b1 | apply b2 | apply b3)); refine blk_far ?_ NB145_167.out _; (with_reducible repeat (first | apply b1 | apply b2 | apply b3)); refine blk_far ?_ NB145_167.out _; (with_reducible repeat (first | apply b1 | apply b2 | apply b3)); exact BK145.out) Try.underlying36 rfl (by kernel_rfl)) rfl ?_
     exact ⟨by first | rfl | (simp [errW_none, errW_some] <;> rfl) | (simp [*, errW_none, errW_some] <;> rfl), by repeat (first | (with_reducible first | exact HB.out | apply l1 | apply l2 | apply l3 | refine below_set ?_ GE144.out | refine below_set ?_ GE145.out | refine below_set ?_ GE148.out | refine below_set ?_ GE153.out | refine below_set ?_ GE154.out | refine below_set ?_ GE159.out | refine below_set ?_ GE160.out | refine below_set ?_ GE167.out) | exact HB.out)⟩
    ·replace c69 := Bool.eq_false_iff.mpr c69
     subst c69
     have H1 : (some (wrap64 (t150), wrap64 (t156), 0)) = some (r1, r2, r3) := by rw [if_neg (show ¬ (false = true) by decide)] at H; exact H
     clear H
     have H := H1
     clear H1
     simp only [Option.some.injEq, Prod.mk.injEq] at H
     obtain ⟨rfl, rfl, rfl⟩ := H
     have hnb101 := NB153_144.out
     have hnc101 := NB144_153.out
     have hnb102 := NB153_145.out
     have hnc102 := NB145_153.out
     have hnb103 := NB153_148.out
     have hnc103 := NB148_153.out
     have hnb104 := NB153_154.out
     have hnc104 := NB154_153.out
     have hnb105 := NB153_159.out
     have hnc105 := NB159_153.out
     have hnb106 := NB153_160.out
     have hnc106 := NB160_153.out
     obtain ⟨hcz107_0, hcz107_1, hfz107_0, hfz107_1⟩ := blk_cells2 BK153.out
     have hnb108 := NB159_144.out
     have hnc108 := NB144_159.out
     have hnb109 := NB159_145.out
     have hnc109 := NB145_159.out
     have hnb110 := NB159_148.out
     have hnc110 := NB148_159.out
     have hnb111 := NB159_154.out
     have hnc111 := NB154_159.out
     have hnb112 := NB159_160.out
     have hnc112 := NB160_159.out
     obtain ⟨hcz113_0, hcz113_1, hfz113_0, hfz113_1⟩ := blk_cells2 BK159.out
     go_wp2_with (first | ((with_reducible refine gate_dst (N := 9) rfl ?_); refine box_event (by rfl) (N := 9) (by rfl) (cs := #[.int .i64 0, .int .i64 0]) (t := 36) (by first | (go_simp; done) | (go_simp; rfl)) ?_; intro gb167 hg w114 hbox hb; obtain ⟨hb_, hw_⟩ := box_facts (by repeat (first | (with_reducible first | exact HB.out | apply l1 | apply l2 | apply l3 | refine below_set ?_ GE144.out | refine below_set ?_ GE145.out | refine below_set ?_ GE148.out | refine below_set ?_ GE153.out | refine below_set ?_ GE154.out | refine below_set ?_ GE159.out | refine below_set ?_ GE160.out) | exact HB.out)) hg hb; have n0_ := Aside0.mk (blk_below (by (with_reducible repeat (first | apply b1 | apply b2 | apply b3)); exact BK144.out) hb); have n1_ := Aside0.mk (blk_below (by (with_reducible repeat (first | apply b1 | apply b2 | apply b3)); exact BK145.out) hb); have n2_ := Aside0.mk (blk_below (by (with_reducible repeat (first | apply b1 | apply b2 | apply b3)); exact BK148.out) hb); have n3_ := Aside0.mk (blk_below (by (with_reducible repeat (first | apply b1 | apply b2 | apply b3)); exact BK153.out) hb); have n4_ := Aside0.mk (blk_below (by (with_reducible repeat (first | apply b1 | apply b2 | apply b3)); exact BK154.out) hb); have n5_ := Aside0.mk (blk_below (by (with_reducible repeat (first | apply b1 | apply b2 | apply b3)); exact BK159.out) hb); have n6_ := Aside0.mk (blk_below (by (with_reducible repeat (first | apply b1 | apply b2 | apply b3)); exact BK160.out) hb); have n7_ := Aside0.mk (hb_); have n8_ := Aside0.mk (hbox); have n9_ := Aside0.mk (hw_); have n10_ := Aside0.mk (hw_); have n11_ := Aside0.mk ((by rw [hg]; exact Nat.ne_of_lt (blk_lt (by (with_reducible repeat (first | apply b1 | apply b2 | apply b3)); exact BK144.out)) : gb144 ≠ gb167)); have n12_ := Aside0.mk ((by rw [hg]; exact Nat.ne_of_gt (blk_lt (by (with_reducible repeat (first | apply b1 | apply b2 | apply b3)); exact BK144.out)) : gb167 ≠ gb144)); have n13_ := Aside0.mk ((by rw [hg]; exact Nat.ne_of_lt (blk_lt (by (with_reducible repeat (first | apply b1 | apply b2 | apply b3)); exact BK145.out)) : gb145 ≠ gb167)); have n14_ := Aside0.mk ((by rw [hg]; exact Nat.ne_of_gt (blk_lt (by (with_reducible repeat (first | apply b1 | apply b2 | apply b3)); exact BK145.out)) : gb167 ≠ gb145)); have n15_ := Aside0.mk ((by rw [hg]; exact Nat.ne_of_lt (blk_lt (by (with_reducible repeat (first | apply b1 | apply b2 | apply b3)); exact BK148.out)) : gb148 ≠ gb167)); have n16_ := Aside0.mk ((by rw [hg]; exact Nat.ne_of_gt (blk_lt (by (with_reducible repeat (first | apply b1 | apply b2 | apply b3)); exact BK148.out)) : gb167 ≠ gb148)); have n17_ := Aside0.mk ((by rw [hg]; exact Nat.ne_of_lt (blk_lt (by (with_reducible repeat (first | apply b1 | apply b2 | apply b3)); exact BK153.out)) : gb153 ≠ gb167)); have n18_ := Aside0.mk ((by rw [hg]; exact Nat.ne_of_gt (blk_lt (by (with_reducible repeat (first | apply b1 | apply b2 | apply b3)); exact BK153.out)) : gb167 ≠ gb153)); have n19_ := Aside0.mk ((by rw [hg]; exact Nat.ne_of_lt (blk_lt (by (with_reducible repeat (first | apply b1 | apply b2 | apply b3)); exact BK154.out)) : gb154 ≠ gb167)); have n20_ := Aside0.mk ((by rw [hg]; exact Nat.ne_of_gt (blk_lt (by (with_reducible repeat (first | apply b1 | apply b2 | apply b3)); exact BK154.out)) : gb167 ≠ gb154)); have n21_ := Aside0.mk ((by rw [hg]; exact Nat.ne_of_lt (blk_lt (by (with_reducible repeat (first | apply b1 | apply b2 | apply b3)); exact BK159.out)) : gb159 ≠ gb167)); have n22_ := Aside0.mk ((by rw [hg]; exact Nat.ne_of_gt (blk_lt (by (with_reducible repeat (first | apply b1 | apply b2 | apply b3)); exact BK159.out)) : gb167 ≠ gb159)); have n23_ := Aside0.mk ((by rw [hg]; exact Nat.ne_of_lt (blk_lt (by (with_reducible repeat (first | apply b1 | apply b2 | apply b3)); exact BK160.out)) : gb160 ≠ gb167)); have n24_ := Aside0.mk ((by rw [hg]; exact Nat.ne_of_gt (blk_lt (by (with_reducible repeat (first | apply b1 | apply b2 | apply b3)); exact BK160.out)) : gb167 ≠ gb160)); clear BK144; clear BK145; clear BK148; clear BK153; clear BK154; clear BK159; clear BK160; clear HB; have BK144 := n0_; have BK145 := n1_; have BK148 := n2_; have BK153 := n3_; have BK154 := n4_; have BK159 := n5_; have BK160 := n6_; have HB := n7_; have BK167 := n8_; have GW167 := n9_; have GE167 := n10_; have NB144_167 := n11_; have NB167_144 := n12_; have NB145_167 := n13_; have NB167_145 := n14_; have NB148_167 := n15_; have NB167_148 := n16_; have NB153_167 := n17_; have NB167_153 := n18_; have NB154_167 := n19_; have NB167_154 := n20_; have NB159_167 := n21_; have NB167_159 := n22_; have NB160_167 := n23_; have NB167_160 := n24_; clear n0_ n1_ n2_ n3_ n4_ n5_ n6_ n7_ n8_ n9_ n10_ n11_ n12_ n13_ n14_ n15_ n16_ n17_ n18_ n19_ n20_ n21_ n22_ n23_ n24_; clear hb hbox hg hb_ hw_; have hnb115 := NB167_144.out; have hnc115 := NB144_167.out; have hnb116 := NB167_145.out; have hnc116 := NB145_167.out; have hnb117 := NB167_148.out; have hnc117 := NB148_167.out; have hnb118 := NB167_153.out; have hnc118 := NB153_167.out; have hnb119 := NB167_154.out; have hnc119 := NB154_167.out; have hnb120 := NB167_159.out; have hnc120 := NB159_167.out; have hnb121 := NB167_160.out; have hnc121 := NB160_167.out; obtain ⟨hcz122_0, hcz122_1, hfz122_0, hfz122_1⟩ := blk_cells2 BK167.out; have hnb123 := NB144_145.out; have hnc123 := NB145_144.out; have hnb124 := NB144_148.out; have hnc124 := NB148_144.out; have hnb125 := NB144_154.out; have hnc125 := NB154_144.out; have hnb126 := NB144_160.out; have hnc126 := NB160_144.out; obtain ⟨hcz127_0, hcz127_1, hcz127_2, hcz127_3, hcz127_4, hfz127_0, hfz127_1, hfz127_2, hfz127_3, hfz127_4⟩ := blk_cells5 BK144.out; have hnb128 := NB145_148.out; have hnc128 := NB148_145.out; have hnb129 := NB145_154.out; have hnc129 := NB154_145.out; have hnb130 := NB145_160.out; have hnc130 := NB160_145.out; obtain ⟨hcz131_0, hcz131_1, hfz131_0, hfz131_1⟩ := blk_cells2 BK145.out))
     refine bodyPost_ret (results_ct rfl _ _ gb145 36 #[.int .i64 (wrap64 (t150)), .int .i64 (wrap64 (t156))] (0, 0) _ rfl (by (with_reducible repeat (first | apply b1 | apply b2 | apply b3)); refine blk_put (cs := #[.int .i64 (wrap64 (t150)), .int .i64 0]) ?_ 1 _ rfl; (with_reducible repeat (first | apply b1 | apply b2 | apply b3)); refine blk_put (cs := #[.int .i64 0, .int .i64 0]) ?_ 0 _ rfl; (with_reducible repeat (first | apply b1 | apply b2 | apply b3)); refine blk_far ?_ NB145_167.out _; (with_reducible repeat (first | apply b1 | apply b2 | apply b3)); refine blk_far ?_ NB145_167.out _; (with_reducible repeat (first | apply b1 | apply b2 | apply b3)); exact BK145.out) Try.underlying36 rfl (by kernel_rfl)) rfl ?_
     exact ⟨by first | rfl | (simp [errW_none, errW_some] <;> rfl) | (simp [*, errW_none, errW_some] <;> rfl), by repeat (first | (with_reducible first | exact HB.out | apply l1 | apply l2 | apply l3 | refine below_set ?_ GE144.out | refine below_set ?_ GE145.out | refine below_set ?_ GE148.out | refine below_set ?_ GE153.out | refine below_set ?_ GE154.out | refine below_set ?_ GE159.out | refine below_set ?_ GE160.out | refine below_set ?_ GE167.out) | exact HB.out)⟩
def ratio_New.f (k : Nat) (a0 : Int) (a1 : Int) : Option (Int × Int × Int) := if a1 = 0 then (some (0, 0, 11)) else (if a0 < 0 then ((ratio_size.f a0).bind fun t169 => ((ratio_small.f t169).bind fun bt170 => ((ratio_size.f a1).bind fun t172 => ((ratio_small.f t172).bind fun bt173 => ((ratio_frac_fit.f k (!(decide (a1 < 0))) bt170.1 bt170.2 bt173.1 bt173.2).bind fun bt175 => (some (bt175.1, bt175.2.1, bt175.2.2))))))) else ((ratio_size.f a0).bind fun t178 => ((ratio_small.f t178).bind fun bt179 => ((ratio_size.f a1).bind fun t181 => ((ratio_small.f t181).bind fun bt182 => ((ratio_frac_fit.f k (decide (a1 < 0)) bt179.1 bt179.2 bt182.1 bt182.2).bind fun bt184 => (some (bt184.1, bt184.2.1, bt184.2.2))))))))
theorem ratio_New.mono : ∀ a0 a1 k, LeO (ratio_New.f k a0 a1) (ratio_New.f (k + 1) a0 a1) := by
 intro a0 a1 k
 unfold ratio_New.f
 repeat' first
   | (with_reducible exact ratio_frac_fit.mono _ _ _ _ _ _)
   | (with_reducible exact LeO.refl _)
   | (with_reducible exact LeO.none _)
   | (with_reducible refine LeO.ite ?_ ?_)
   | (with_reducible refine LeO.bind ?_ (fun _ => ?_))
   | exact ratio_frac_fit.mono _ _ _ _ _ _
   | exact LeO.none _
   | refine LeO.ite ?_ ?_
   | refine LeO.bind ?_ (fun _ => ?_)
set_option maxHeartbeats 8000000 in
set_option maxRecDepth 100000 in
theorem ratio_New.calls (k : Nat) (a0 : Int) (a1 : Int) (r1 : Int) (r2 : Int) (r3 : Int) (w : World) (h : ratio_New.f k a0 a1 = some (r1, r2, r3)) :
  Calls Try.prog 75 #[.int .i64 a0, .int .i64 a1] w fun e w' => e = .returned (.tuple #[.agg #[.int .i64 r1, .int .i64 r2], .int .i64 r3]) ∧ Below w.heap.size w w' := by
 have hu36 := Try.underlying36
 have hu165 := Try.underlying165
 have HB := Aside0.mk (Below.refl w.heap.size w)
 have H : (if a1 = 0 then (some (0, 0, 11)) else (if a0 < 0 then ((ratio_size.f a0).bind fun t169 => ((ratio_small.f t169).bind fun bt170 => ((ratio_size.f a1).bind fun t172 => ((ratio_small.f t172).bind fun bt173 => ((ratio_frac_fit.f k (!(decide (a1 < 0))) bt170.1 bt170.2 bt173.1 bt173.2).bind fun bt175 => (some (bt175.1, bt175.2.1, bt175.2.2))))))) else ((ratio_size.f a0).bind fun t178 => ((ratio_small.f t178).bind fun bt179 => ((ratio_size.f a1).bind fun t181 => ((ratio_small.f t181).bind fun bt182 => ((ratio_frac_fit.f k (decide (a1 < 0)) bt179.1 bt179.2 bt182.1 bt182.2).bind fun bt184 => (some (bt184.1, bt184.2.1, bt184.2.2))))))))) = some (r1, r2, r3) := h
 clear h
 by_cases c3 : a1 = 0
 ·rw [if_pos c3] at H
  have c3b0 : (a1 == 0) = true := beq_iff_eq.mpr c3
  have c3b1 : (a1 != 0) = false := bne_eq_false_iff_eq.mpr c3
  clear c3
  simp only [Option.some.injEq, Prod.mk.injEq] at H
  obtain ⟨rfl, rfl, rfl⟩ := H
  go_enter Try.func75, Try.ntmps75
  go_wp2_with (first | ((with_reducible refine gate_dst (N := 4) rfl ?_); refine box_event (by rfl) (N := 4) (by rfl) (cs := #[.int .i64 0, .int .i64 0]) (t := 36) (by first | (go_simp; done) | (go_simp; rfl)) ?_; intro gb168 hg w4 hbox hb; obtain ⟨hb_, hw_⟩ := box_facts (by repeat (first | (with_reducible first | exact HB.out | apply l1 | apply l2 | apply l3) | exact HB.out)) hg hb; have n0_ := Aside0.mk (hb_); have n1_ := Aside0.mk (hbox); have n2_ := Aside0.mk (hw_); have n3_ := Aside0.mk (hw_); clear HB; have HB := n0_; have BK168 := n1_; have GW168 := n2_; have GE168 := n3_; clear n0_ n1_ n2_ n3_; clear hb hbox hg hb_ hw_; obtain ⟨hcz5_0, hcz5_1, hfz5_0, hfz5_1⟩ := blk_cells2 BK168.out))
  refine bodyPost_ret (results_ct rfl _ _ gb168 36 #[.int .i64 0, .int .i64 0] (0, 0) _ rfl (by (with_reducible repeat (first | apply b1 | apply b2 | apply b3)); refine blk_put (cs := #[.int .i64 0, .int .i64 0]) ?_ 1 _ rfl; (with_reducible repeat (first | apply b1 | apply b2 | apply b3)); refine blk_put (cs := #[.int .i64 0, .int .i64 0]) ?_ 0 _ rfl; (with_reducible repeat (first | apply b1 | apply b2 | apply b3)); exact BK168.out) Try.underlying36 rfl (by kernel_rfl)) rfl ?_
  exact ⟨by first | rfl | (simp [errW_none, errW_some] <;> rfl) | (simp [*, errW_none, errW_some] <;> rfl), by repeat (first | (with_reducible first | exact HB.out | apply l1 | apply l2 | apply l3 | refine below_set ?_ GE168.out) | exact HB.out)⟩
 ·rw [if_neg c3] at H
  have c3b0 : (a1 == 0) = false := beq_eq_false_iff_ne.mpr c3
  have c3b1 : (a1 != 0) = true := bne_iff_ne.mpr c3
  by_cases c6 : a0 < 0
  ·rw [if_pos c6] at H
   have c6b0 : decide (a0 < 0) = true := decide_eq_true c6
   clear c6
   replace H := Option.bind_eq_some_iff.mp H
   obtain ⟨t169, A70, H⟩ := H
   (try dsimp only at H)
   have A7 := Aside0.mk A70
   clear A70
   replace H := Option.bind_eq_some_iff.mp H
   obtain ⟨⟨t170, t171⟩, A80, H⟩ := H
   (try dsimp only at H)
   have A8 := Aside0.mk A80
   clear A80
   replace H := Option.bind_eq_some_iff.mp H
   obtain ⟨t172, A90, H⟩ := H
   (try dsimp only at H)
   have A9 := Aside0.mk A90
   clear A90
   replace H := Option.bind_eq_some_iff.mp H
   obtain ⟨⟨t173, t174⟩, A100, H⟩ := H
   (try dsimp only at H)
   have A10 := Aside0.mk A100
   clear A100
   replace H := Option.bind_eq_some_iff.mp H
   obtain ⟨⟨t175, t176, t177⟩, A110, H⟩ := H
   (try dsimp only at H)
   have A11 := Aside0.mk A110
   clear A110
   simp only [Option.some.injEq, Prod.mk.injEq] at H
   obtain ⟨rfl, rfl, rfl⟩ := H
   go_enter Try.func75, Try.ntmps75
   go_wp2_with (first | ((with_reducible refine gate_dst (N := 4) rfl ?_); refine box_event (by rfl) (N := 4) (by rfl) (cs := #[.int .i64 0, .int .i64 0]) (t := 36) (by first | (go_simp; done) | (go_simp; rfl)) ?_; intro gb168 hg w12 hbox hb; obtain ⟨hb_, hw_⟩ := box_facts (by repeat (first | (with_reducible first | exact HB.out | apply l1 | apply l2 | apply l3) | exact HB.out)) hg hb; have n0_ := Aside0.mk (hb_); have n1_ := Aside0.mk (hbox); have n2_ := Aside0.mk (hw_); have n3_ := Aside0.mk (hw_); clear HB; have HB := n0_; have BK168 := n1_; have GW168 := n2_; have GE168 := n3_; clear n0_ n1_ n2_ n3_; clear hb hbox hg hb_ hw_) | ((with_reducible refine gate_callee (f := 47) rfl ?_); refine goesL_ (some 15) rfl rfl Try.func47 (by kernel_rfl) rfl #[.int .i64 a0] rfl (by (try simp only [List.map_toArray, List.map_cons, List.map_nil]); first | done | rfl | (simp only [List.length_drop, List.length_take]; rfl)) ?_; (with_reducible refine (ratio_size.calls a0 t169 _ A7.out).mono ?_); rintro e w' ⟨rfl, ⟨nd, rfl⟩⟩; refine ⟨_, rfl, ?_⟩; (try (rw [drewN_self w12]; generalize hq_ : World.drewN w12 _ = w12; have n0_ : Aside0 (w12.heap[gb168]? = some (.cells #[.int .i64 0, .int .i64 0] 36 (0, 0))) := ⟨by rw [← hq_]; exact (by (with_reducible repeat (first | apply b1 | apply b2 | apply b3)); exact BK168.out)⟩; have n1_ : Aside0 (Below w.heap.size w w12) := ⟨by rw [← hq_]; exact (by repeat (first | (with_reducible first | exact HB.out | apply l1 | apply l2 | apply l3 | refine below_set ?_ GE168.out) | exact HB.out))⟩; clear BK168 HB hq_; have BK168 := n0_; have HB := n1_; clear n0_ n1_))) | ((with_reducible refine gate_callee (f := 86) rfl ?_); refine goesL_ (some 16) rfl rfl Try.func86 (by kernel_rfl) rfl #[.int .u64 t169] rfl (by (try simp only [List.map_toArray, List.map_cons, List.map_nil]); first | done | rfl | (simp only [List.length_drop, List.length_take]; rfl)) ?_; (with_reducible refine (ratio_small.calls t169 t170 t171 _ A8.out).mono ?_); rintro e w13 ⟨rfl, hb⟩; refine ⟨_, rfl, ?_⟩; have n0_ := Aside0.mk (blk_below (by (with_reducible repeat (first | apply b1 | apply b2 | apply b3)); exact BK168.out) hb); have n1_ := Aside0.mk (below_step (by repeat (first | (with_reducible first | exact HB.out | apply l1 | apply l2 | apply l3 | refine below_set ?_ GE168.out) | exact HB.out)) hb); clear BK168; clear HB; have BK168 := n0_; have HB := n1_; clear n0_ n1_; (try clear hb); (try clear hb2); (try clear hk); (try clear hi)) | ((with_reducible refine gate_callee (f := 47) rfl ?_); refine goesL_ (some 18) rfl rfl Try.func47 (by kernel_rfl) rfl #[.int .i64 a1] rfl (by (try simp only [List.map_toArray, List.map_cons, List.map_nil]); first | done | rfl | (simp only [List.length_drop, List.length_take]; rfl)) ?_; (with_reducible refine (ratio_size.calls a1 t172 _ A9.out).mono ?_); rintro e w' ⟨rfl, ⟨nd, rfl⟩⟩; refine ⟨_, rfl, ?_⟩; (try (rw [drewN_self w13]; generalize hq_ : World.drewN w13 _ = w13; have n0_ : Aside0 (w13.heap[gb168]? = some (.cells #[.int .i64 0, .int .i64 0] 36 (0, 0))) := ⟨by rw [← hq_]; exact (by (with_reducible repeat (first | apply b1 | apply b2 | apply b3)); exact BK168.out)⟩; have n1_ : Aside0 (Below w.heap.size w w13) := ⟨by rw [← hq_]; exact (by repeat (first | (with_reducible first | exact HB.out | apply l1 | apply l2 | apply l3 | refine below_set ?_ GE168.out) | exact HB.out))⟩; clear BK168 HB hq_; have BK168 := n0_; have HB := n1_; clear n0_ n1_))) | ((with_reducible refine gate_callee (f := 86) rfl ?_); refine goesL_ (some 19) rfl rfl Try.func86 (by kernel_rfl) rfl #[.int .u64 t172] rfl (by (try simp only [List.map_toArray, List.map_cons, List.map_nil]); first | done | rfl | (simp only [List.length_drop, List.length_take]; rfl)) ?_; (with_reducible refine (ratio_small.calls t172 t173 t174 _ A10.out).mono ?_); rintro e w14 ⟨rfl, hb⟩; refine ⟨_, rfl, ?_⟩; have n0_ := Aside0.mk (blk_below (by (with_reducible repeat (first | apply b1 | apply b2 | apply b3)); exact BK168.out) hb); have n1_ := Aside0.mk (below_step (by repeat (first | (with_reducible first | exact HB.out | apply l1 | apply l2 | apply l3 | refine below_set ?_ GE168.out) | exact HB.out)) hb); clear BK168; clear HB; have BK168 := n0_; have HB := n1_; clear n0_ n1_; (try clear hb); (try clear hb2); (try clear hk); (try clear hi)) | ((with_reducible refine gate_callee (f := 87) rfl ?_); refine goesL_ (some 21) rfl rfl Try.func87 (by kernel_rfl) rfl #[.agg #[.bool (!(decide (a1 < 0))), .int .u64 t170, .int .u64 t171, .int .u64 t173, .int .u64 t174]] rfl (by (try simp only [List.map_toArray, List.map_cons, List.map_nil]); first | done | rfl | (simp only [List.length_drop, List.length_take]; rfl)) ?_; (with_reducible refine (ratio_frac_fit.calls k (!(decide (a1 < 0))) t170 t171 t173 t174 t175 t176 t177 _ A11.out).mono ?_); rintro e w15 ⟨rfl, hb⟩; refine ⟨_, rfl, ?_⟩; have n0_ := Aside0.mk (blk_below (by (with_reducible repeat (first | apply b1 | apply b2 | apply b3)); exact BK168.out) hb); have n1_ := Aside0.mk (below_step (by repeat (first | (with_reducible first | exact HB.out | apply l1 | apply l2 | apply l3 | refine below_set ?_ GE168.out) | exact HB.out)) hb); clear BK168; clear HB; have BK168 := n0_; have HB := n1_; clear n0_ n1_; (try clear hb); (try clear hb2); (try clear hk); (try clear hi); obtain ⟨hcz16_0, hcz16_1, hfz16_0, hfz16_1⟩ := blk_cells2 BK168.out))
   refine bodyPost_ret (results_ct rfl _ _ gb168 36 #[.int .i64 t175, .int .i64 t176] (0, 0) _ rfl (by (with_reducible repeat (first | apply b1 | apply b2 | apply b3)); refine blk_put (cs := #[.int .i64 t175, .int .i64 0]) ?_ 1 _ rfl; (with_reducible repeat (first | apply b1 | apply b2 | apply b3)); refine blk_put (cs := #[.int .i64 0, .int .i64 0]) ?_ 0 _ rfl; (with_reducible repeat (first | apply b1 | apply b2 | apply b3)); exact BK168.out) Try.underlying36 rfl (by kernel_rfl)) rfl ?_
   exact ⟨by first | rfl | (simp [errW_none, errW_some] <;> rfl) | (simp [*, errW_none, errW_some] <;> rfl), by repeat (first | (with_reducible first | exact HB.out | apply l1 | apply l2 | apply l3 | refine below_set ?_ GE168.out) | exact HB.out)⟩
  ·rw [if_neg c6] at H
   have c6b0 : decide (a0 < 0) = false := decide_eq_false c6
   clear c6
   replace H := Option.bind_eq_some_iff.mp H
   obtain ⟨t178, A170, H⟩ := H
   (try dsimp only at H)
   have A17 := Aside0.mk A170
   clear A170
   replace H := Option.bind_eq_some_iff.mp H
   obtain ⟨⟨t179, t180⟩, A180, H⟩ := H
   (try dsimp only at H)
   have A18 := Aside0.mk A180
   clear A180
   replace H := Option.bind_eq_some_iff.mp H
   obtain ⟨t181, A190, H⟩ := H
   (try dsimp only at H)
   have A19 := Aside0.mk A190
   clear A190
   replace H := Option.bind_eq_some_iff.mp H
   obtain ⟨⟨t182, t183⟩, A200, H⟩ := H
   (try dsimp only at H)
   have A20 := Aside0.mk A200
   clear A200
   replace H := Option.bind_eq_some_iff.mp H
   obtain ⟨⟨t184, t185, t186⟩, A210, H⟩ := H
   (try dsimp only at H)
   have A21 := Aside0.mk A210
   clear A210
   simp only [Option.some.injEq, Prod.mk.injEq] at H
   obtain ⟨rfl, rfl, rfl⟩ := H
   go_enter Try.func75, Try.ntmps75
   go_wp2_with (first | ((with_reducible refine gate_dst (N := 4) rfl ?_); refine box_event (by rfl) (N := 4) (by rfl) (cs := #[.int .i64 0, .int .i64 0]) (t := 36) (by first | (go_simp; done) | (go_simp; rfl)) ?_; intro gb168 hg w22 hbox hb; obtain ⟨hb_, hw_⟩ := box_facts (by repeat (first | (with_reducible first | exact HB.out | apply l1 | apply l2 | apply l3) | exact HB.out)) hg hb; have n0_ := Aside0.mk (hb_); have n1_ := Aside0.mk (hbox); have n2_ := Aside0.mk (hw_); have n3_ := Aside0.mk (hw_); clear HB; have HB := n0_; have BK168 := n1_; have GW168 := n2_; have GE168 := n3_; clear n0_ n1_ n2_ n3_; clear hb hbox hg hb_ hw_) | ((with_reducible refine gate_callee (f := 47) rfl ?_); refine goesL_ (some 15) rfl rfl Try.func47 (by kernel_rfl) rfl #[.int .i64 a0] rfl (by (try simp only [List.map_toArray, List.map_cons, List.map_nil]); first | done | rfl | (simp only [List.length_drop, List.length_take]; rfl)) ?_; (with_reducible refine (ratio_size.calls a0 t178 _ A17.out).mono ?_); rintro e w' ⟨rfl, ⟨nd, rfl⟩⟩; refine ⟨_, rfl, ?_⟩; (try (rw [drewN_self w22]; generalize hq_ : World.drewN w22 _ = w22; have n0_ : Aside0 (w22.heap[gb168]? = some (.cells #[.int .i64 0, .int .i64 0] 36 (0, 0))) := ⟨by rw [← hq_]; exact (by (with_reducible repeat (first | apply b1 | apply b2 | apply b3)); exact BK168.out)⟩; have n1_ : Aside0 (Below w.heap.size w w22) := ⟨by rw [← hq_]; exact (by repeat (first | (with_reducible first | exact HB.out | apply l1 | apply l2 | apply l3 | refine below_set ?_ GE168.out) | exact HB.out))⟩; clear BK168 HB hq_; have BK168 := n0_; have HB := n1_; clear n0_ n1_))) | ((with_reducible refine gate_callee (f := 86) rfl ?_); refine goesL_ (some 16) rfl rfl Try.func86 (by kernel_rfl) rfl #[.int .u64 t178] rfl (by (try simp only [List.map_toArray, List.map_cons, List.map_nil]); first | done | rfl | (simp only [List.length_drop, List.length_take]; rfl)) ?_; (with_reducible refine (ratio_small.calls t178 t179 t180 _ A18.out).mono ?_); rintro e w23 ⟨rfl, hb⟩; refine ⟨_, rfl, ?_⟩; have n0_ := Aside0.mk (blk_below (by (with_reducible repeat (first | apply b1 | apply b2 | apply b3)); exact BK168.out) hb); have n1_ := Aside0.mk (below_step (by repeat (first | (with_reducible first | exact HB.out | apply l1 | apply l2 | apply l3 | refine below_set ?_ GE168.out) | exact HB.out)) hb); clear BK168; clear HB; have BK168 := n0_; have HB := n1_; clear n0_ n1_; (try clear hb); (try clear hb2); (try clear hk); (try clear hi)) | ((with_reducible refine gate_callee (f := 47) rfl ?_); refine goesL_ (some 18) rfl rfl Try.func47 (by kernel_rfl) rfl #[.int .i64 a1] rfl (by (try simp only [List.map_toArray, List.map_cons, List.map_nil]); first | done | rfl | (simp only [List.length_drop, List.length_take]; rfl)) ?_; (with_reducible refine (ratio_size.calls a1 t181 _ A19.out).mono ?_); rintro e w' ⟨rfl, ⟨nd, rfl⟩⟩; refine ⟨_, rfl, ?_⟩; (try (rw [drewN_self w23]; generalize hq_ : World.drewN w23 _ = w23; have n0_ : Aside0 (w23.heap[gb168]? = some (.cells #[.int .i64 0, .int .i64 0] 36 (0, 0))) := ⟨by rw [← hq_]; exact (by (with_reducible repeat (first | apply b1 | apply b2 | apply b3)); exact BK168.out)⟩; have n1_ : Aside0 (Below w.heap.size w w23) := ⟨by rw [← hq_]; exact (by repeat (first | (with_reducible first | exact HB.out | apply l1 | apply l2 | apply l3 | refine below_set ?_ GE168.out) | exact HB.out))⟩; clear BK168 HB hq_; have BK168 := n0_; have HB := n1_; clear n0_ n1_))) | ((with_reducible refine gate_callee (f := 86) rfl ?_); refine goesL_ (some 19) rfl rfl Try.func86 (by kernel_rfl) rfl #[.int .u64 t181] rfl (by (try simp only [List.map_toArray, List.map_cons, List.map_nil]); first | done | rfl | (simp only [List.length_drop, List.length_take]; rfl)) ?_; (with_reducible refine (ratio_small.calls t181 t182 t183 _ A20.out).mono ?_); rintro e w24 ⟨rfl, hb⟩; refine ⟨_, rfl, ?_⟩; have n0_ := Aside0.mk (blk_below (by (with_reducible repeat (first | apply b1 | apply b2 | apply b3)); exact BK168.out) hb); have n1_ := Aside0.mk (below_step (by repeat (first | (with_reducible first | exact HB.out | apply l1 | apply l2 | apply l3 | refine below_set ?_ GE168.out) | exact HB.out)) hb); clear BK168; clear HB; have BK168 := n0_; have HB := n1_; clear n0_ n1_; (try clear hb); (try clear hb2); (try clear hk); (try clear hi)) | ((with_reducible refine gate_callee (f := 87) rfl ?_); refine goesL_ (some 21) rfl rfl Try.func87 (by kernel_rfl) rfl #[.agg #[.bool (decide (a1 < 0)), .int .u64 t179, .int .u64 t180, .int .u64 t182, .int .u64 t183]] rfl (by (try simp only [List.map_toArray, List.map_cons, List.map_nil]); first | done | rfl | (simp only [List.length_drop, List.length_take]; rfl)) ?_; (with_reducible refine (ratio_frac_fit.calls k (decide (a1 < 0)) t179 t180 t182 t183 t184 t185 t186 _ A21.out).mono ?_); rintro e w25 ⟨rfl, hb⟩; refine ⟨_, rfl, ?_⟩; have n0_ := Aside0.mk (blk_below (by (with_reducible repeat (first | apply b1 | apply b2 | apply b3)); exact BK168.out) hb); have n1_ := Aside0.mk (below_step (by repeat (first | (with_reducible first | exact HB.out | apply l1 | apply l2 | apply l3 | refine below_set ?_ GE168.out) | exact HB.out)) hb); clear BK168; clear HB; have BK168 := n0_; have HB := n1_; clear n0_ n1_; (try clear hb); (try clear hb2); (try clear hk); (try clear hi); obtain ⟨hcz26_0, hcz26_1, hfz26_0, hfz26_1⟩ := blk_cells2 BK168.out))
   refine bodyPost_ret (results_ct rfl _ _ gb168 36 #[.int .i64 t184, .int .i64 t185] (0, 0) _ rfl (by (with_reducible repeat (first | apply b1 | apply b2 | apply b3)); refine blk_put (cs := #[.int .i64 t184, .int .i64 0]) ?_ 1 _ rfl; (with_reducible repeat (first | apply b1 | apply b2 | apply b3)); refine blk_put (cs := #[.int .i64 0, .int .i64 0]) ?_ 0 _ rfl; (with_reducible repeat (first | apply b1 | apply b2 | apply b3)); exact BK168.out) Try.underlying36 rfl (by kernel_rfl)) rfl ?_
   exact ⟨by first | rfl | (simp [errW_none, errW_some] <;> rfl) | (simp [*, errW_none, errW_some] <;> rfl), by repeat (first | (with_reducible first | exact HB.out | apply l1 | apply l2 | apply l3 | refine below_set ?_ GE168.out) | exact HB.out)⟩
end Go.Proofs.Ytbpifnpljcgjlaa.PLx
