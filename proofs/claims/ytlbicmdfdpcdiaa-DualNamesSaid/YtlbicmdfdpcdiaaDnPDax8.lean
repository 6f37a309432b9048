-- printed
import Derived.Test.YtlbicmdfdpcdiaaDnPDax0
import Derived.Test.YtlbicmdfdpcdiaaDnPDax5
import Derived.Test.YtlbicmdfdpcdiaaDnPDax7
namespace Go.Proofs.Ytlbicmdfdpcdiaa.PDa
open Go.RowKit Go.Proofs.YtlbicmdfdpcdiaaW.PrintWords Go.Proofs.YtlbicmdfdpcdiaaW.PrintLast Go.Proofs.YtlbicmdfdpcdiaaW.PrintMore
attribute [local go_sem] max2_int min2_int max_two min_two max_three min_three max_four min_four
set_option linter.unusedVariables false
set_option linter.unusedSimpArgs false
def ratio_frac_fit.j0 : Nat → Bool → Bool → Int → Int → Int → Int → Int → Int → Int → Int → Option (Int × Int × Int)
 | 0, _, _, _, _, _, _, _, _, _, _ => none
 | k + 1, x38, x149000, x149001, x149002, x149003, x149004, x158000, x158001, x164000, x164001 => if x38 = true then (some (0, 0, 12)) else (if x149000 = true then (some (wrap64 (-(wrap64 (x158001))), wrap64 (x164001), 0)) else (some (wrap64 (x158001), wrap64 (x164001), 0)))
def ratio_frac_fit.f (k : Nat) (a0_0 : Bool) (a0_1 : Int) (a0_2 : Int) (a0_3 : Int) (a0_4 : Int) : Option (Int × Int × Int) := (ratio_common.f k a0_1 a0_2 a0_3 a0_4).bind fun bt150 => ((ratio_wide_over.f k a0_1 a0_2 bt150.1 bt150.2).bind fun bt153 => ((ratio_wide_over.f k a0_3 a0_4 bt150.1 bt150.2).bind fun bt159 => ((ratio_small.f 4611686018427387904).bind fun bt165 => ((ratio_wide_cmp.f bt153.1 bt153.2.1 bt165.1 bt165.2).bind fun t167 => (if t167 > 0 then (ratio_frac_fit.j0 k true a0_0 a0_1 a0_2 a0_3 a0_4 bt153.1 bt153.2.1 bt159.1 bt159.2.1) else ((ratio_small.f 2147483648).bind fun bt168 => ((ratio_wide_cmp.f bt159.1 bt159.2.1 bt168.1 bt168.2).bind fun t170 => (ratio_frac_fit.j0 k (decide (t170 > 0)) a0_0 a0_1 a0_2 a0_3 a0_4 bt153.1 bt153.2.1 bt159.1 bt159.2.1))))))))
def ratio_frac_fit.T4 : Bool × List (List Nat × List Nat) := (true, [([], []), ([], []), ([0, 1, 1], [0, 1]), ([2], [2]), ([3, 2], [3]), ([4], [4]), ([4, 4], [4]), ([5, 6, 6, 4], [4, 5, 6]), ([7, 4], [4, 7]), ([4, 8], [4, 8])])
def ratio_frac_fit.B4 : List Nat := [0, 0, 3, 7, 15, 31, 31, 127, 255, 511]
theorem ratio_frac_fit.tab4 : rtab .any (opsOf Try.f73 4) = ratio_frac_fit.T4 := by kernel_rfl
theorem ratio_frac_fit.bits4 : waitsOk ratio_frac_fit.T4.2 ratio_frac_fit.B4 = true := by kernel_rfl
set_option maxHeartbeats 8000000 in
set_option maxRecDepth 100000 in
theorem ratio_frac_fit.calls (k : Nat) (a0_0 : Bool) (a0_1 : Int) (a0_2 : Int) (a0_3 : Int) (a0_4 : Int) (r1 : Int) (r2 : Int) (r3 : Int) (w : World) (h : ratio_frac_fit.f k a0_0 a0_1 a0_2 a0_3 a0_4 = some (r1, r2, r3)) :
  Calls Try.prog 73 #[.agg #[.bool a0_0, .int .u64 a0_1, .int .u64 a0_2, .int .u64 a0_3, .int .u64 a0_4]] w fun e w' => e = .returned (.tuple #[.agg #[.int .i64 r1, .int .i64 r2], .int .i64 r3]) ∧ Below w.heap.size w w' := by
 have hu101 := Try.underlying101
 have hu33 := Try.underlying33
 have hu88 := Try.underlying88
 have HB := Aside0.mk (Below.refl w.heap.size w)
 have H : ((ratio_common.f k a0_1 a0_2 a0_3 a0_4).bind fun bt150 => ((ratio_wide_over.f k a0_1 a0_2 bt150.1 bt150.2).bind fun bt153 => ((ratio_wide_over.f k a0_3 a0_4 bt150.1 bt150.2).bind fun bt159 => ((ratio_small.f 4611686018427387904).bind fun bt165 => ((ratio_wide_cmp.f bt153.1 bt153.2.1 bt165.1 bt165.2).bind fun t167 => (if t167 > 0 then (ratio_frac_fit.j0 k true a0_0 a0_1 a0_2 a0_3 a0_4 bt153.1 bt153.2.1 bt159.1 bt159.2.1) else ((ratio_small.f 2147483648).bind fun bt168 => ((ratio_wide_cmp.f bt159.1 bt159.2.1 bt168.1 bt168.2).bind fun t170 => (ratio_frac_fit.j0 k (decide (t170 > 0)) a0_0 a0_1 a0_2 a0_3 a0_4 bt153.1 bt153.2.1 bt159.1 bt159.2.1))))))))) = some (r1, r2, r3) := h
 clear h
 replace H := Option.bind_eq_some_iff.mp H
 obtain ⟨⟨t150, t151⟩, A20, H⟩ := H
 (try dsimp only at H)
 have A2 := Aside0.mk A20
 clear A20
 replace H := Option.bind_eq_some_iff.mp H
 obtain ⟨⟨t153, t154, t155, t156⟩, A30, H⟩ := H
 (try dsimp only at H)
 have A3 := Aside0.mk A30
 clear A30
 replace H := Option.bind_eq_some_iff.mp H
 obtain ⟨⟨t159, t160, t161, t162⟩, A40, H⟩ := H
 (try dsimp only at H)
 have A4 := Aside0.mk A40
 clear A40
 have HC5 := Aside0.mk H
 clear H
 go_enter Try.func73, Try.ntmps73
 go_upto_region 4 with (first | ((with_reducible refine gate_dst (N := 1) rfl ?_); refine box_event (by rfl) (N := 1) (by rfl) (cs := #[.bool a0_0, .int .u64 a0_1, .int .u64 a0_2, .int .u64 a0_3, .int .u64 a0_4]) (t := 101) (by first | (go_simp; done) | (go_simp; rfl)) ?_; intro gb148 hg w6 hbox hb; obtain ⟨hb_, hw_⟩ := box_facts (lA HB.out) hg hb; replace HB := Aside0.mk (hb_); have BK148 := Aside0.mk (hbox); have GW148 := Aside0.mk (hw_); have GE148 := Aside0.mk (hw_); clear hb hbox hg hb_ hw_) | ((with_reducible refine gate_dst (N := 2) rfl ?_); refine box_event (by rfl) (N := 2) (by rfl) (cs := #[.int .i64 0, .int .i64 0]) (t := 33) (by first | (go_simp; done) | (go_simp; rfl)) ?_; intro gb149 hg w7 hbox hb; obtain ⟨hb_, hw_⟩ := box_facts (by repeat (first | (with_reducible first | exact HB.out | apply l1 | apply l2 | apply l3 | refine below_set ?_ GE148.out) | exact HB.out)) hg hb; replace HB := Aside0.mk (hb_); have BK149 := Aside0.mk (hbox); have GW149 := Aside0.mk (hw_); have GE149 := Aside0.mk (hw_); have NB148_149 := Aside0.mk ((nL hg BK148.out)); have NB149_148 := Aside0.mk ((nG hg BK148.out)); replace BK148 := Aside0.mk (bB BK148.out hb); clear hb hbox hg hb_ hw_; have hnb8 := NB148_149.out; have hnc8 := NB149_148.out; obtain ⟨hcz9_0, hcz9_1, hcz9_2, hcz9_3, hcz9_4, hfz9_0, hfz9_1, hfz9_2, hfz9_3, hfz9_4⟩ := blk_cells5 BK148.out) | ((with_reducible refine gate_callee (f := 79) rfl ?_); refine goesL_ (some 14) rfl rfl Try.func79 (by kernel_rfl) rfl #[.agg #[.int .u64 a0_1, .int .u64 a0_2], .agg #[.int .u64 a0_3, .int .u64 a0_4]] rfl (by (try simp only [List.map_toArray, List.map_cons, List.map_nil]); first | done | rfl | (simp only [List.length_drop, List.length_take]; rfl)) ?_; (with_reducible refine (ratio_common.calls k a0_1 a0_2 a0_3 a0_4 t150 t151 _ A2.out).mono ?_); rintro e w10 ⟨rfl, hb⟩; refine ⟨_, rfl, ?_⟩; replace BK148 := Aside0.mk (bB BK148.out hb); replace BK149 := Aside0.mk (bB BK149.out hb); replace HB := Aside0.mk (below_step (by repeat (first | (with_reducible first | exact HB.out | apply l1 | apply l2 | apply l3 | refine below_set ?_ GE148.out | refine below_set ?_ GE149.out) | exact HB.out)) hb); (try clear hb); (try clear hb2); (try clear hk); (try clear hi)) | ((with_reducible refine gate_dst (N := 4) rfl ?_); refine box_event (by rfl) (N := 4) (by rfl) (cs := #[.int .u64 0, .int .u64 0]) (t := 88) (by first | (go_simp; done) | (go_simp; rfl)) ?_; intro gb152 hg w11 hbox hb; obtain ⟨hb_, hw_⟩ := box_facts (by repeat (first | (with_reducible first | exact HB.out | apply l1 | apply l2 | apply l3 | refine below_set ?_ GE148.out | refine below_set ?_ GE149.out) | exact HB.out)) hg hb; replace HB := Aside0.mk (hb_); have BK152 := Aside0.mk (hbox); have GW152 := Aside0.mk (hw_); have GE152 := Aside0.mk (hw_); have NB148_152 := Aside0.mk ((nL hg BK148.out)); have NB152_148 := Aside0.mk ((nG hg BK148.out)); replace BK148 := Aside0.mk (bB BK148.out hb); have NB149_152 := Aside0.mk ((nL hg BK149.out)); have NB152_149 := Aside0.mk ((nG hg BK149.out)); replace BK149 := Aside0.mk (bB BK149.out hb); clear hb hbox hg hb_ hw_; have hnb12 := NB152_148.out; have hnc12 := NB148_152.out; have hnb13 := NB152_149.out; have hnc13 := NB149_152.out; obtain ⟨hcz14_0, hcz14_1, hfz14_0, hfz14_1⟩ := blk_cells2 BK152.out; obtain ⟨hcz15_0, hcz15_1, hcz15_2, hcz15_3, hcz15_4, hfz15_0, hfz15_1, hfz15_2, hfz15_3, hfz15_4⟩ := blk_cells5 BK148.out) | ((with_reducible refine gate_callee (f := 74) rfl ?_); refine goesL_ (some 19) rfl rfl Try.func74 (by kernel_rfl) rfl #[.agg #[.int .u64 a0_1, .int .u64 a0_2], .agg #[.int .u64 t150, .int .u64 t151]] rfl (by (try simp only [List.map_toArray, List.map_cons, List.map_nil]); first | done | rfl | (simp only [List.length_drop, List.length_take]; rfl)) ?_; (with_reducible refine (ratio_wide_over.calls k a0_1 a0_2 t150 t151 t153 t154 t155 t156 _ A3.out).mono ?_); rintro e w16 ⟨rfl, hb⟩; refine ⟨_, rfl, ?_⟩; replace BK148 := Aside0.mk (blk_below (g := gb148) (o := .cells #[.bool a0_0, .int .u64 a0_1, .int .u64 a0_2, .int .u64 a0_3, .int .u64 a0_4] 101 (0, 0)) (by (with_reducible repeat (first | apply b1 | apply b2 | apply b3)); refine blk_far ?_ NB148_152.out _; (with_reducible repeat (first | apply b1 | apply b2 | apply b3)); refine blk_far ?_ NB148_152.out _; (with_reducible repeat (first | apply b1 | apply b2 | apply b3)); exact BK148.out) hb); replace BK149 := Aside0.mk (blk_below (g := gb149) (o := .cells #[.int .i64 0, .int .i64 0] 33 (0, 0)) (by (with_reducible repeat (first | apply b1 | apply b2 | apply b3)); refine blk_far ?_ NB149_152.out _; (with_reducible repeat (first | apply b1 | apply b2 | apply b3)); refine blk_far ?_ NB149_152.out _; (with_reducible repeat (first | apply b1 | apply b2 | apply b3)); exact BK149.out) hb); replace BK152 := Aside0.mk (blk_below (g := gb152) (o := .cells #[.int .u64 t150, .int .u64 t151] 88 (0, 0)) (by (with_reducible repeat (first | apply b1 | apply b2 | apply b3)); refine blk_put (cs := #[.int .u64 t150, .int .u64 0]) ?_ 1 _ rfl; (with_reducible repeat (first | apply b1 | apply b2 | apply b3)); refine blk_put (cs := #[.int .u64 0, .int .u64 0]) ?_ 0 _ rfl; (with_reducible repeat (first | apply b1 | apply b2 | apply b3)); exact BK152.out) hb); replace HB := Aside0.mk (below_step (by repeat (first | (with_reducible first | exact HB.out | apply l1 | apply l2 | apply l3 | refine below_set ?_ GE148.out | refine below_set ?_ GE149.out | refine below_set ?_ GE152.out) | exact HB.out)) hb); (try clear hb); (try clear hb2); (try clear hk); (try clear hi)) | ((with_reducible refine gate_dst (N := 5) rfl ?_); refine box_event (by rfl) (N := 5) (by rfl) (cs := #[.int .u64 0, .int .u64 0]) (t := 88) (by first | (go_simp; done) | (go_simp; rfl)) ?_; intro gb157 hg w17 hbox hb; obtain ⟨hb_, hw_⟩ := box_facts (by repeat (first | (with_reducible first | exact HB.out | apply l1 | apply l2 | apply l3 | refine below_set ?_ GE148.out | refine below_set ?_ GE149.out | refine below_set ?_ GE152.out) | exact HB.out)) hg hb; replace HB := Aside0.mk (hb_); have BK157 := Aside0.mk (hbox); have GW157 := Aside0.mk (hw_); have GE157 := Aside0.mk (hw_); have NB148_157 := Aside0.mk ((nL hg BK148.out)); have NB157_148 := Aside0.mk ((nG hg BK148.out)); replace BK148 := Aside0.mk (bB BK148.out hb); have NB149_157 := Aside0.mk ((nL hg BK149.out)); have NB157_149 := Aside0.mk ((nG hg BK149.out)); replace BK149 := Aside0.mk (bB BK149.out hb); have NB152_157 := Aside0.mk ((nL hg BK152.out)); have NB157_152 := Aside0.mk ((nG hg BK152.out)); replace BK152 := Aside0.mk (bB BK152.out hb); clear hb hbox hg hb_ hw_) | ((with_reducible refine gate_dst (N := 6) rfl ?_); refine box_event (by rfl) (N := 6) (by rfl) (cs := #[.int .u64 0, .int .u64 0]) (t := 88) (by first | (go_simp; done) | (go_simp; rfl)) ?_; intro gb158 hg w18 hbox hb; obtain ⟨hb_, hw_⟩ := box_facts (by repeat (first | (with_reducible first | exact HB.out | apply l1 | apply l2 | apply l3 | refine below_set ?_ GE148.out | refine below_set ?_ GE149.out | refine below_set ?_ GE152.out | refine below_set ?_ GE157.out) | exact HB.out)) hg hb; replace HB := Aside0.mk (hb_); have BK158 := Aside0.mk (hbox); have GW158 := Aside0.mk (hw_); have GE158 := Aside0.mk (hw_); have NB148_158 := Aside0.mk ((nL hg BK148.out)); have NB158_148 := Aside0.mk ((nG hg BK148.out)); replace BK148 := Aside0.mk (bB BK148.out hb); have NB149_158 := Aside0.mk ((nL hg BK149.out)); have NB158_149 := Aside0.mk ((nG hg BK149.out)); replace BK149 := Aside0.mk (bB BK149.out hb); have NB152_158 := Aside0.mk ((nL hg BK152.out)); have NB158_152 := Aside0.mk ((nG hg BK152.out)); replace BK152 := Aside0.mk (bB BK152.out hb); have NB157_158 := Aside0.mk ((nL hg BK157.out)); have NB158_157 := Aside0.mk ((nG hg BK157.out)); replace BK157 := Aside0.mk (bB BK157.out hb); clear hb hbox hg hb_ hw_; have hnb19 := NB157_148.out; have hnc19 := NB148_157.out; have hnb20 := NB157_149.out; have hnc20 := NB149_157.out; have hnb21 := NB157_152.out; have hnc21 := NB152_157.out; have hnb22 := NB157_158.out; have hnc22 := NB158_157.out; obtain ⟨hcz23_0, hcz23_1, hfz23_0, hfz23_1⟩ := blk_cells2 BK157.out; have hnb24 := NB158_148.out; have hnc24 := NB148_158.out; have hnb25 := NB158_149.out; have hnc25 := NB149_158.out; have hnb26 := NB158_152.out; have hnc26 := NB152_158.out; obtain ⟨hcz27_0, hcz27_1, hfz27_0, hfz27_1⟩ := blk_cells2 BK158.out; obtain ⟨hcz28_0, hcz28_1, hcz28_2, hcz28_3, hcz28_4, hfz28_0, hfz28_1, hfz28_2, hfz28_3, hfz28_4⟩ := blk_cells5 BK148.out; obtain ⟨hcz29_0, hcz29_1, hfz29_0, hfz29_1⟩ := blk_cells2 BK152.out) | ((with_reducible refine gate_callee (f := 74) rfl ?_); refine goesL_ (some 26) rfl rfl Try.func74 (by kernel_rfl) rfl #[.agg #[.int .u64 a0_3, .int .u64 a0_4], .agg #[.int .u64 t150, .int .u64 t151]] rfl (by (try simp only [List.map_toArray, List.map_cons, List.map_nil]); first | done | rfl | (simp only [List.length_drop, List.length_take]; rfl)) ?_; (with_reducible refine (ratio_wide_over.calls k a0_3 a0_4 t150 t151 t159 t160 t161 t162 _ A4.out).mono ?_); rintro e w30 ⟨rfl, hb⟩; refine ⟨_, rfl, ?_⟩; replace BK148 := Aside0.mk (blk_below (g := gb148) (o := .cells #[.bool a0_0, .int .u64 a0_1, .int .u64 a0_2, .int .u64 a0_3, .int .u64 a0_4] 101 (0, 0)) (by (with_reducible repeat (first | apply b1 | apply b2 | apply b3)); refine blk_far ?_ NB148_158.out _; (with_reducible repeat (first | apply b1 | apply b2 | apply b3)); refine blk_far ?_ NB148_158.out _; (with_reducible repeat (first | apply b1 | apply b2 | apply b3)); refine blk_far ?_ NB148_157.out _; (with_reducible repeat (first | apply b1 | apply b2 | apply b3)); refine blk_far ?_ NB148_157.out _; (with_reducible repeat (first | apply b1 | apply b2 | apply b3)); exact BK148.out) hb); replace BK149 := Aside0.mk (blk_below (g := gb149) (o := .cells #[.int .i64 0, .int .i64 0] 33 (0, 0)) (by (with_reducible repeat (first | apply b1 | apply b2 | apply b3)); refine blk_far ?_ NB149_158.out _; (with_reducible repeat (first | apply b1 | apply b2 | apply b3)); refine blk_far ?_ NB149_158.out _; (with_reducible repeat (first | apply b1 | apply b2 | apply b3)); refine blk_far ?_ NB149_157.out _; (with_reducible repeat (first | apply b1 | apply b2 | apply b3)); refine blk_far ?_ NB149_157.out _; (with_reducible repeat (first | apply b1 | apply b2 | apply b3)); exact BK149.out) hb); replace BK152 := Aside0.mk (blk_below (g := gb152) (o := .cells #[.int .u64 t150, .int .u64 t151] 88 (0, 0)) (by (with_reducible repeat (first | apply b1 | apply b2 | apply b3)); refine blk_far ?_ NB152_158.out _; (with_reducible repeat (first | apply b1 | apply b2 | apply b3)); refine blk_far ?_ NB152_158.out _; (with_reducible repeat (first | apply b1 | apply b2 | apply b3)); refine blk_far ?_ NB152_157.out _; (with_reducible repeat (first | apply b1 | apply b2 | apply b3)); refine blk_far ?_ NB152_157.out _; (with_reducible repeat (first | apply b1 | apply b2 | apply b3)); exact BK152.out) hb); replace BK157 := Aside0.mk (blk_below (g := gb157) (o := .cells #[.int .u64 t153, .int .u64 t154] 88 (0, 0)) (by (with_reducible repeat (first | apply b1 | apply b2 | apply b3)); refine blk_far ?_ NB157_158.out _; (with_reducible repeat (first | apply b1 | apply b2 | apply b3)); refine blk_far ?_ NB157_158.out _; (with_reducible repeat (first | apply b1 | apply b2 | apply b3)); refine blk_put (cs := #[.int .u64 t153, .int .u64 0]) ?_ 1 _ rfl; (with_reducible repeat (first | apply b1 | apply b2 | apply b3)); refine blk_put (cs := #[.int .u64 0, .int .u64 0]) ?_ 0 _ rfl; (with_reducible repeat (first | apply b1 | apply b2 | apply b3)); exact BK157.out) hb); replace BK158 := Aside0.mk (blk_below (g := gb158) (o := .cells #[.int .u64 t155, .int .u64 t156] 88 (0, 0)) (by (with_reducible repeat (first | apply b1 | apply b2 | apply b3)); refine blk_put (cs := #[.int .u64 t155, .int .u64 0]) ?_ 1 _ rfl; (with_reducible repeat (first | apply b1 | apply b2 | apply b3)); refine blk_put (cs := #[.int .u64 0, .int .u64 0]) ?_ 0 _ rfl; (with_reducible repeat (first | apply b1 | apply b2 | apply b3)); refine blk_far ?_ NB158_157.out _; (with_reducible repeat (first | apply b1 | apply b2 | apply b3)); refine blk_far ?_ NB158_157.out _; (with_reducible repeat (first | apply b1 | apply b2 | apply b3)); exact BK158.out) hb); replace HB := Aside0.mk (below_step (by repeat (first | (with_reducible first | exact HB.out | apply l1 | apply l2 | apply l3 | refine below_set ?_ GE148.out | refine below_set ?_ GE149.out | refine below_set ?_ GE152.out | refine below_set ?_ GE157.out | refine below_set ?_ GE158.out) | exact HB.out)) hb); (try clear hb); (try clear hb2); (try clear hk); (try clear hi)) | ((with_reducible refine gate_dst (N := 7) rfl ?_); refine box_event (by rfl) (N := 7) (by rfl) (cs := #[.int .u64 0, .int .u64 0]) (t := 88) (by first | (go_simp; done) | (go_simp; rfl)) ?_; intro gb163 hg w31 hbox hb; obtain ⟨hb_, hw_⟩ := box_facts (by repeat (first | (with_reducible first | exact HB.out | apply l1 | apply l2 | apply l3 | refine below_set ?_ GE148.out | refine below_set ?_ GE149.out | refine below_set ?_ GE152.out | refine below_set ?_ GE157.out | refine below_set ?_ GE158.out) | exact HB.out)) hg hb; replace HB := Aside0.mk (hb_); have BK163 := Aside0.mk (hbox); have GW163 := Aside0.mk (hw_); have GE163 := Aside0.mk (hw_); have NB148_163 := Aside0.mk ((nL hg BK148.out)); have NB163_148 := Aside0.mk ((nG hg BK148.out)); replace BK148 := Aside0.mk (bB BK148.out hb); have NB149_163 := Aside0.mk ((nL hg BK149.out)); have NB163_149 := Aside0.mk ((nG hg BK149.out)); replace BK149 := Aside0.mk (bB BK149.out hb); have NB152_163 := Aside0.mk ((nL hg BK152.out)); have NB163_152 := Aside0.mk ((nG hg BK152.out)); replace BK152 := Aside0.mk (bB BK152.out hb); have NB157_163 := Aside0.mk ((nL hg BK157.out)); have NB163_157 := Aside0.mk ((nG hg BK157.out)); replace BK157 := Aside0.mk (bB BK157.out hb); have NB158_163 := Aside0.mk ((nL hg BK158.out)); have NB163_158 := Aside0.mk ((nG hg BK158.out)); replace BK158 := Aside0.mk (bB BK158.out hb); clear hb hbox hg hb_ hw_) | ((with_reducible refine gate_dst (N := 8) rfl ?_); refine box_event (by rfl) (N := 8) (by rfl) (cs := #[.int .u64 0, .int .u64 0]) (t := 88) (by first | (go_simp; done) | (go_simp; rfl)) ?_; intro gb164 hg w32 hbox hb; obtain ⟨hb_, hw_⟩ := box_facts (by repeat (first | (with_reducible first | exact HB.out | apply l1 | apply l2 | apply l3 | refine below_set ?_ GE148.out | refine below_set ?_ GE149.out | refine below_set ?_ GE152.out | refine below_set ?_ GE157.out | refine below_set ?_ GE158.out | refine below_set ?_ GE163.out) | exact HB.out)) hg hb; replace HB := Aside0.mk (hb_); have BK164 := Aside0.mk (hbox); have GW164 := Aside0.mk (hw_); have GE164 := Aside0.mk (hw_); have NB148_164 := Aside0.mk ((nL hg BK148.out)); have NB164_148 := Aside0.mk ((nG hg BK148.out)); replace BK148 := Aside0.mk (bB BK148.out hb); have NB149_164 := Aside0.mk ((nL hg BK149.out)); have NB164_149 := Aside0.mk ((nG hg BK149.out)); replace BK149 := Aside0.mk (bB BK149.out hb); have NB152_164 := Aside0.mk ((nL hg BK152.out)); have NB164_152 := Aside0.mk ((nG hg BK152.out)); replace BK152 := Aside0.mk (bB BK152.out hb); have NB157_164 := Aside0.mk ((nL hg BK157.out)); have NB164_157 := Aside0.mk ((nG hg BK157.out)); replace BK157 := Aside0.mk (bB BK157.out hb); have NB158_164 := Aside0.mk ((nL hg BK158.out)); have NB164_158 := Aside0.mk ((nG hg BK158.out)); replace BK158 := Aside0.mk (bB BK158.out hb); have NB163_164 := Aside0.mk ((nL hg BK163.out)); have NB164_163 := Aside0.mk ((nG hg BK163.out)); replace BK163 := Aside0.mk (bB BK163.out hb); clear hb hbox hg hb_ hw_; have hnb33 := NB163_148.out; have hnc33 := NB148_163.out; have hnb34 := NB163_149.out; have hnc34 := NB149_163.out; have hnb35 := NB163_152.out; have hnc35 := NB152_163.out; have hnb36 := NB163_157.out; have hnc36 := NB157_163.out; have hnb37 := NB163_158.out; have hnc37 := NB158_163.out; have hnb38 := NB163_164.out; have hnc38 := NB164_163.out; obtain ⟨hcz39_0, hcz39_1, hfz39_0, hfz39_1⟩ := blk_cells2 BK163.out; have hnb40 := NB164_148.out; have hnc40 := NB148_164.out; have hnb41 := NB164_149.out; have hnc41 := NB149_164.out; have hnb42 := NB164_152.out; have hnc42 := NB152_164.out; have hnb43 := NB164_157.out; have hnc43 := NB157_164.out; have hnb44 := NB164_158.out; have hnc44 := NB158_164.out; obtain ⟨hcz45_0, hcz45_1, hfz45_0, hfz45_1⟩ := blk_cells2 BK164.out))
 (try simp only [Act.put, List.setIfInBounds_toArray, List.set_cons_zero, List.set_cons_succ])
 go_cut [38] (fun v38 wc => ∃ (kq : Nat) (x38_4 : Bool), v38 = .bool x38_4 ∧ Aside0 (ratio_frac_fit.j0 kq x38_4 a0_0 a0_1 a0_2 a0_3 a0_4 t153 t154 t159 t160 = some (r1, r2, r3)) ∧ Aside0 (kq ≤ k) ∧ Aside0 (wc.heap[gb148]? = some (.cells #[.bool a0_0, .int .u64 a0_1, .int .u64 a0_2, .int .u64 a0_3, .int .u64 a0_4] 101 (0, 0))) ∧ Aside0 (wc.heap[gb149]? = some (.cells #[.int .i64 0, .int .i64 0] 33 (0, 0))) ∧ Aside0 (wc.heap[gb152]? = some (.cells #[.int .u64 t150, .int .u64 t151] 88 (0, 0))) ∧ Aside0 (wc.heap[gb157]? = some (.cells #[.int .u64 t153, .int .u64 t154] 88 (0, 0))) ∧ Aside0 (wc.heap[gb158]? = some (.cells #[.int .u64 t155, .int .u64 t156] 88 (0, 0))) ∧ Aside0 (wc.heap[gb163]? = some (.cells #[.int .u64 t159, .int .u64 t160] 88 (0, 0))) ∧ Aside0 (wc.heap[gb164]? = some (.cells #[.int .u64 t161, .int .u64 t162] 88 (0, 0))) ∧ Aside0 (Below w.heap.size w wc))
 case first =>
  have H := HC5.out
  clear HC5
  replace H := Option.bind_eq_some_iff.mp H
  obtain ⟨⟨t165, t166⟩, A460, H⟩ := H
  (try dsimp only at H)
  have A46 := Aside0.mk A460
  clear A460
  replace H := Option.bind_eq_some_iff.mp H
  obtain ⟨t167, A470, H⟩ := H
  (try dsimp only at H)
  have A47 := Aside0.mk A470
  clear A470
  by_cases c48 : t167 > 0 <;> first
  |(rw [if_pos c48] at H
    have c48b0 : decide (0 < t167) = true := decide_eq_true c48
    clear c48
    (first | rw [c48b0] | (simp only [i64_w, i32_w]; rw [c48b0]) | skip)
    have H' := Aside0.mk H
    clear H
    have z19 := trivial)
  |(rw [if_neg c48] at H
    have c48b0 : decide (0 < t167) = false := decide_eq_false c48
    clear c48
    (first | rw [c48b0] | (simp only [i64_w, i32_w]; rw [c48b0]) | skip)
    replace H := Option.bind_eq_some_iff.mp H
    obtain ⟨⟨t168, t169⟩, A530, H⟩ := H
    (try dsimp only at H)
    have A53 := Aside0.mk A530
    clear A530
    replace H := Option.bind_eq_some_iff.mp H
    obtain ⟨t170, A540, H⟩ := H
    (try dsimp only at H)
    have A54 := Aside0.mk A540
    clear A540
    have H' := Aside0.mk H
    clear H
    have z20 := trivial)
  all_goals
   try go_wp2
   have n0_ : Aside0 (((((w32.setCell ⟨gb163, 0, none⟩ (.int .u64 t159)).setCell ⟨gb163, 1, none⟩ (.int .u64 t160)).setCell ⟨gb164, 0, none⟩ (.int .u64 t161)).setCell ⟨gb164, 1, none⟩ (.int .u64 t162)).heap[gb148]? = some (.cells #[.bool a0_0, .int .u64 a0_1, .int .u64 a0_2, .int .u64 a0_3, .int .u64 a0_4] 101 (0, 0))) := ⟨by (with_reducible repeat (first | apply b1 | apply b2 | apply b3)); refine blk_far ?_ NB148_164.out _; (with_reducible repeat (first | apply b1 | apply b2 | apply b3)); refine blk_far ?_ NB148_164.out _; (with_reducible repeat (first | apply b1 | apply b2 | apply b3)); refine blk_far ?_ NB148_163.out _; (with_reducible repeat (first | apply b1 | apply b2 | apply b3)); refine blk_far ?_ NB148_163.out _; (with_reducible repeat (first | apply b1 | apply b2 | apply b3)); exact BK148.out⟩
   have n1_ : Aside0 (((((w32.setCell ⟨gb163, 0, none⟩ (.int .u64 t159)).setCell ⟨gb163, 1, none⟩ (.int .u64 t160)).setCell ⟨gb164, 0, none⟩ (.int .u64 t161)).setCell ⟨gb164, 1, none⟩ (.int .u64 t162)).heap[gb149]? = some (.cells #[.int .i64 0, .int .i64 0] 33 (0, 0))) := ⟨by (with_reducible repeat (first | apply b1 | apply b2 | apply b3)); refine blk_far ?_ NB149_164.out _; (with_reducible repeat (first | apply b1 | apply b2 | apply b3)); refine blk_far ?_ NB149_164.out _; (with_reducible repeat (first | apply b1 | apply b2 | apply b3)); refine blk_far ?_ NB149_163.out _; (with_reducible repeat (first | apply b1 | apply b2 | apply b3)); refine blk_far ?_ NB149_163.out _; (with_reducible repeat (first | apply b1 | apply b2 | apply b3)); exact BK149.out⟩
   have n2_ : Aside0 (((((w32.setCell ⟨gb163, 0, none⟩ (.int .u64 t159)).setCell ⟨gb163, 1, none⟩ (.int .u64 t160)).setCell ⟨gb164, 0, none⟩ (.int .u64 t161)).setCell ⟨gb164, 1, none⟩ (.int .u64 t162)).heap[gb152]? = some (.cells #[.int .u64 t150, .int .u64 t151] 88 (0, 0))) := ⟨by (with_reducible repeat (first | apply b1 | apply b2 | apply b3)); refine blk_far ?_ NB152_164.out _; (with_reducible repeat (first | apply b1 | apply b2 | apply b3)); refine blk_far ?_ NB152_164.out _; (with_reducible repeat (first | apply b1 | apply b2 | apply b3)); refine blk_far ?_ NB152_163.out _; (with_reducible repeat (first | apply b1 | apply b2 | apply b3)); refine blk_far ?_ NB152_163.out _; (with_reducible repeat (first | apply b1 | apply b2 | apply b3)); exact BK152.out⟩
   have n3_ : Aside0 (((((w32.setCell ⟨gb163, 0, none⟩ (.int .u64 t159)).setCell ⟨gb163, 1, none⟩ (.int .u64 t160)).setCell ⟨gb164, 0, none⟩ (.int .u64 t161)).setCell ⟨gb164, 1, none⟩ (.int .u64 t162)).heap[gb157]? = some (.cells #[.int .u64 t153, .int .u64 t154] 88 (0, 0))) := ⟨by (with_reducible repeat (first | apply b1 | apply b2 | apply b3)); refine blk_far ?_ NB157_164.out _; (with_reducible repeat (first | apply b1 | apply b2 | apply b3)); refine blk_far ?_ NB157_164.out _; (with_reducible repeat (first | apply b1 | apply b2 | apply b3)); refine blk_far ?_ NB157_163.out _; (with_reducible repeat (first | apply b1 | apply b2 | apply b3)); refine blk_far ?_ NB157_163.out _; (with_reducible repeat (first | apply b1 | apply b2 | apply b3)); exact BK157.out⟩
   have n4_ : Aside0 (((((w32.setCell ⟨gb163, 0, none⟩ (.int .u64 t159)).setCell ⟨gb163, 1, none⟩ (.int .u64 t160)).setCell ⟨gb164, 0, none⟩ (.int .u64 t161)).setCell ⟨gb164, 1, none⟩ (.int .u64 t162)).heap[gb158]? = some (.cells #[.int .u64 t155, .int .u64 t156] 88 (0, 0))) := ⟨by (with_reducible repeat (first | apply b1 | apply b2 | apply b3)); refine blk_far ?_ NB158_164.out _; (with_reducible repeat (first | apply b1 | apply b2 | apply b3)); refine blk_far ?_ NB158_164.out _; (with_reducible repeat (first | apply b1 | apply b2 | apply b3)); refine blk_far ?_ NB158_163.out _; (with_reducible repeat (first | apply b1 | apply b2 | apply b3)); refine blk_far ?_ NB158_163.out _; (with_reducible repeat (first | apply b1 | apply b2 | apply b3)); exact BK158.out⟩
   have n5_ : Aside0 (((((w32.setCell ⟨gb163, 0, none⟩ (.int .u64 t159)).setCell ⟨gb163, 1, none⟩ (.int .u64 t160)).setCell ⟨gb164, 0, none⟩ (.int .u64 t161)).setCell ⟨gb164, 1, none⟩ (.int .u64 t162)).heap[gb163]? = some (.cells #[.int .u64 t159, .int .u64 t160] 88 (0, 0))) := ⟨by (with_reducible repeat (first | apply b1 | apply b2 | apply b3)); refine blk_far ?_ NB163_164.out _; (with_reducible repeat (first | apply b1 | apply b2 | apply b3)); refine blk_far ?_ NB163_164.out _; (with_reducible repeat (first | apply b1 | apply b2 | apply b3)); refine blk_put (cs := #[.int .u64 t159, .int .u64 0]) ?_ 1 _ rfl; (with_reducible repeat (first | apply b1 | apply b2 | apply b3)); refine blk_put (cs := #[.int .u64 0, .int .u64 0]) ?_ 0 _ rfl; (with_reducible repeat (first | apply b1 | apply b2 | apply b3)); exact BK163.out⟩
   have n6_ : Aside0 (((((w32.setCell ⟨gb163, 0, none⟩ (.int .u64 t159)).setCell ⟨gb163, 1, none⟩ (.int .u64 t160)).setCell ⟨gb164, 0, none⟩ (.int .u64 t161)).setCell ⟨gb164, 1, none⟩ (.int .u64 t162)).heap[gb164]? = some (.cells #[.int .u64 t161, .int .u64 t162] 88 (0, 0))) := ⟨by (with_reducible repeat (first | apply b1 | apply b2 | apply b3)); refine blk_put (cs := #[.int .u64 t161, .int .u64 0]) ?_ 1 _ rfl; (with_reducible repeat (first | apply b1 | apply b2 | apply b3)); refine blk_put (cs := #[.int .u64 0, .int .u64 0]) ?_ 0 _ rfl; (with_reducible repeat (first | apply b1 | apply b2 | apply b3)); refine blk_far ?_ NB164_163.out _; (with_reducible repeat (first | apply b1 | apply b2 | apply b3)); refine blk_far ?_ NB164_163.out _; (with_reducible repeat (first | apply b1 | apply b2 | apply b3)); exact BK164.out⟩
   have n7_ : Aside0 (Below w.heap.size w ((((w32.setCell ⟨gb163, 0, none⟩ (.int .u64 t159)).setCell ⟨gb163, 1, none⟩ (.int .u64 t160)).setCell ⟨gb164, 0, none⟩ (.int .u64 t161)).setCell ⟨gb164, 1, none⟩ (.int .u64 t162))) := ⟨by repeat (first | (with_reducible first | exact HB.out | apply l1 | apply l2 | apply l3 | refine below_set ?_ GE148.out | refine below_set ?_ GE149.out | refine below_set ?_ GE152.out | refine below_set ?_ GE157.out | refine below_set ?_ GE158.out | refine below_set ?_ GE163.out | refine below_set ?_ GE164.out) | exact HB.out)⟩
   (try clear BK148)
   (try clear BK149)
   (try clear BK152)
   (try clear BK157)
   (try clear BK158)
   (try clear BK163)
   (try clear BK164)
   (try clear HB)
   generalize ((((w32.setCell ⟨gb163, 0, none⟩ (.int .u64 t159)).setCell ⟨gb163, 1, none⟩ (.int .u64 t160)).setCell ⟨gb164, 0, none⟩ (.int .u64 t161)).setCell ⟨gb164, 1, none⟩ (.int .u64 t162)) = w55 at n0_ n1_ n2_ n3_ n4_ n5_ n6_ n7_ ⊢
   have BK148 := n0_
   have BK149 := n1_
   have BK152 := n2_
   have BK157 := n3_
   have BK158 := n4_
   have BK163 := n5_
   have BK164 := n6_
   have HB := n7_
   clear n0_ n1_ n2_ n3_ n4_ n5_ n6_ n7_
   replace BK148 := Aside0.mk (blk_drew BK148.out)
   replace BK149 := Aside0.mk (blk_drew BK149.out)
   replace BK152 := Aside0.mk (blk_drew BK152.out)
   replace BK157 := Aside0.mk (blk_drew BK157.out)
   replace BK158 := Aside0.mk (blk_drew BK158.out)
   replace BK163 := Aside0.mk (blk_drew BK163.out)
   replace BK164 := Aside0.mk (blk_drew BK164.out)
   replace HB := Aside0.mk (below_drew1 HB.out)
   first
   |((revert z20; intro z20)
     refine start_ (n := 10) (S := fun w' => w'.cell? ⟨gb157, 0, none⟩ = some (.int .u64 t153) ∧ w'.cell? ⟨gb157, 1, none⟩ = some (.int .u64 t154) ∧ w'.cell? ⟨gb163, 0, none⟩ = some (.int .u64 t159) ∧ w'.cell? ⟨gb163, 1, none⟩ = some (.int .u64 t160)) (ds := []) #[false, false, false, false, false, false, false, false, false, false] (by kernel_rfl) rfl rfl ⟨(blk_cell BK157.out 0).trans rfl, (blk_cell BK157.out 1).trans rfl, (blk_cell BK163.out 0).trans rfl, (blk_cell BK163.out 1).trans rfl⟩ (fun hHeld => ?_); refine with_tabW ratio_frac_fit.tab4 ratio_frac_fit.bits4 (fun HT_ HW_ => ?_)
     generalize w55.drew = w56 at BK148 BK149 BK152 BK157 BK158 BK163 BK164 HB hHeld ⊢
     refine take_ (i := 0) (N := some 29) (v := ?_) (a' := ?_) #[true, false, false, false, false, false, false, false, false, false] rfl rfl (take_ofW HT_.out HW_.out (by kernel_rfl)) (fun _ _ _ h => h) (Or.inl ⟨by rfl, ?_⟩) hHeld ?_ ?_
     rotate_left
     ·rintro w' ⟨s0, s1, s2, s3⟩
      go_simp
      with_reducible rfl
     rotate_left
     ·simp only [Act.put, List.setIfInBounds_toArray, List.set_cons_zero, List.set_cons_succ, i64_w, i32_w]
      rfl
     refine one_ (i := 1) (N := some 30) #[true, true, false, false, false, false, false, false, false, false] rfl rfl (one_of HT_.out (by kernel_rfl)) (by decide) (fun K hK => ?_)
     refine goes_ Try.func52 (by kernel_rfl) rfl #[.int .u64 4611686018427387904] (by rfl) rfl rfl (by (try simp only [List.map_toArray, List.map_cons, List.map_nil]); first | done | rfl | (simp only [List.length_drop, List.length_take]; rfl)) ?_
     with_reducible refine (ratio_small.calls 4611686018427387904 t165 t166 _ A46.out).mono ?_
     rintro e w57 ⟨rfl, hb⟩
     refine ⟨_, rfl, ?_⟩
     replace BK148 := Aside0.mk (bB BK148.out hb)
     replace BK149 := Aside0.mk (bB BK149.out hb)
     replace BK152 := Aside0.mk (bB BK152.out hb)
     replace BK157 := Aside0.mk (bB BK157.out hb)
     replace BK158 := Aside0.mk (bB BK158.out hb)
     replace BK163 := Aside0.mk (bB BK163.out hb)
     replace BK164 := Aside0.mk (bB BK164.out hb)
     replace HB := Aside0.mk (below_step (by repeat (first | (with_reducible first | exact HB.out | apply l1 | apply l2 | apply l3 | refine below_set ?_ GE148.out | refine below_set ?_ GE149.out | refine below_set ?_ GE152.out | refine below_set ?_ GE157.out | refine below_set ?_ GE158.out | refine below_set ?_ GE163.out | refine below_set ?_ GE164.out) | exact HB.out)) hb)
     (try clear hb)
     (try clear hb2)
     (try clear hk)
     (try clear hi)
     refine hK.out _ _ ⟨(blk_cell BK157.out 0).trans rfl, (blk_cell BK157.out 1).trans rfl, (blk_cell BK163.out 0).trans rfl, (blk_cell BK163.out 1).trans rfl⟩ (fun hHeld => ?_)
     clear hK K
     refine norm_ (a' := ?_) ?_ ?_
     rotate_left
     ·show Act.put _ (some 30) _ = _
      simp only [Act.put, List.setIfInBounds_toArray, List.set_cons_zero, List.set_cons_succ, i64_w, i32_w]
      rfl
     refine one_ (i := 2) (N := some 31) #[true, true, true, false, false, false, false, false, false, false] rfl rfl (one_of HT_.out (by kernel_rfl)) (by decide) (fun K hK => ?_)
     refine goes_ Try.func45 (by kernel_rfl) rfl #[.agg #[.int .u64 t153, .int .u64 t154], .agg #[.int .u64 t165, .int .u64 t166]] (by rfl) rfl rfl (by (try simp only [List.map_toArray, List.map_cons, List.map_nil]); first | done | rfl | (simp only [List.length_drop, List.length_take]; rfl)) ?_
     with_reducible refine (ratio_wide_cmp.calls t153 t154 t165 t166 t167 _ A47.out).mono ?_
     rintro e w58 ⟨rfl, hb⟩
     refine ⟨_, rfl, ?_⟩
     replace BK148 := Aside0.mk (bB BK148.out hb)
     replace BK149 := Aside0.mk (bB BK149.out hb)
     replace BK152 := Aside0.mk (bB BK152.out hb)
     replace BK157 := Aside0.mk (bB BK157.out hb)
     replace BK158 := Aside0.mk (bB BK158.out hb)
     replace BK163 := Aside0.mk (bB BK163.out hb)
     replace BK164 := Aside0.mk (bB BK164.out hb)
     replace HB := Aside0.mk (below_step (by repeat (first | (with_reducible first | exact HB.out | apply l1 | apply l2 | apply l3 | refine below_set ?_ GE148.out | refine below_set ?_ GE149.out | refine below_set ?_ GE152.out | refine below_set ?_ GE157.out | refine below_set ?_ GE158.out | refine below_set ?_ GE163.out | refine below_set ?_ GE164.out) | exact HB.out)) hb)
     (try clear hb)
     (try clear hb2)
     (try clear hk)
     (try clear hi)
     refine hK.out _ _ ⟨(blk_cell BK157.out 0).trans rfl, (blk_cell BK157.out 1).trans rfl, (blk_cell BK163.out 0).trans rfl, (blk_cell BK163.out 1).trans rfl⟩ (fun hHeld => ?_)
     clear hK K
     refine norm_ (a' := ?_) ?_ ?_
     rotate_left
     ·show Act.put _ (some 31) _ = _
      simp only [Act.put, List.setIfInBounds_toArray, List.set_cons_zero, List.set_cons_succ, i64_w, i32_w]
      rfl
     refine sched [(3, some 32), (4, some 33), (5, some 34)] ?_
     iterate 3 first
      |(refine pureS (v := ?_) (a' := ?_) rfl rfl (any_of HT_.out (by kernel_rfl)) (fun _ _ _ h => h) (Or.inl ⟨by rfl, ?_⟩) ?_ ?_
        rotate_left
        ·intro w'
         go_simp
         with_reducible rfl
        rotate_left
        ·simp only [Act.put, List.setIfInBounds_toArray, List.set_cons_zero, List.set_cons_succ, i64_w, i32_w]
         rfl)
      |(refine takeS (v := ?_) (a' := ?_) rfl rfl (take_ofW HT_.out HW_.out (by kernel_rfl)) (fun _ _ _ h => h) (Or.inl ⟨by rfl, ?_⟩) hHeld ?_ ?_
        rotate_left
        ·rintro w' ⟨s0, s1, s2, s3⟩
         go_simp
         with_reducible rfl
        rotate_left
        ·simp only [Act.put, List.setIfInBounds_toArray, List.set_cons_zero, List.set_cons_succ, i64_w, i32_w]
         rfl)
     refine unsched ?_
     refine one_ (i := 6) (N := some 35) #[true, true, true, true, true, true, true, false, false, false] rfl rfl (one_of HT_.out (by kernel_rfl)) (by decide) (fun K hK => ?_)
     refine goes_ Try.func52 (by kernel_rfl) rfl #[.int .u64 2147483648] (by rfl) rfl rfl (by (try simp only [List.map_toArray, List.map_cons, List.map_nil]); first | done | rfl | (simp only [List.length_drop, List.length_take]; rfl)) ?_
     with_reducible refine (ratio_small.calls 2147483648 t168 t169 _ A53.out).mono ?_
     rintro e w59 ⟨rfl, hb⟩
     refine ⟨_, rfl, ?_⟩
     replace BK148 := Aside0.mk (bB BK148.out hb)
     replace BK149 := Aside0.mk (bB BK149.out hb)
     replace BK152 := Aside0.mk (bB BK152.out hb)
     replace BK157 := Aside0.mk (bB BK157.out hb)
     replace BK158 := Aside0.mk (bB BK158.out hb)
     replace BK163 := Aside0.mk (bB BK163.out hb)
     replace BK164 := Aside0.mk (bB BK164.out hb)
     replace HB := Aside0.mk (below_step (by repeat (first | (with_reducible first | exact HB.out | apply l1 | apply l2 | apply l3 | refine below_set ?_ GE148.out | refine below_set ?_ GE149.out | refine below_set ?_ GE152.out | refine below_set ?_ GE157.out | refine below_set ?_ GE158.out | refine below_set ?_ GE163.out | refine below_set ?_ GE164.out) | exact HB.out)) hb)
     (try clear hb)
     (try clear hb2)
     (try clear hk)
     (try clear hi)
     refine hK.out _ _ ⟨(blk_cell BK157.out 0).trans rfl, (blk_cell BK157.out 1).trans rfl, (blk_cell BK163.out 0).trans rfl, (blk_cell BK163.out 1).trans rfl⟩ (fun hHeld => ?_)
     clear hK K
     refine norm_ (a' := ?_) ?_ ?_
     rotate_left
     ·show Act.put _ (some 35) _ = _
      simp only [Act.put, List.setIfInBounds_toArray, List.set_cons_zero, List.set_cons_succ, i64_w, i32_w]
      rfl
     refine one_ (i := 7) (N := some 36) #[true, true, true, true, true, true, true, true, false, false] rfl rfl (one_of HT_.out (by kernel_rfl)) (by decide) (fun K hK => ?_)
     refine goes_ Try.func45 (by kernel_rfl) rfl #[.agg #[.int .u64 t159, .int .u64 t160], .agg #[.int .u64 t168, .int .u64 t169]] (by rfl) rfl rfl (by (try simp only [List.map_toArray, List.map_cons, List.map_nil]); first | done | rfl | (simp only [List.length_drop, List.length_take]; rfl)) ?_
     with_reducible refine (ratio_wide_cmp.calls t159 t160 t168 t169 t170 _ A54.out).mono ?_
     rintro e w60 ⟨rfl, hb⟩
     refine ⟨_, rfl, ?_⟩
     replace BK148 := Aside0.mk (bB BK148.out hb)
     replace BK149 := Aside0.mk (bB BK149.out hb)
     replace BK152 := Aside0.mk (bB BK152.out hb)
     replace BK157 := Aside0.mk (bB BK157.out hb)
     replace BK158 := Aside0.mk (bB BK158.out hb)
     replace BK163 := Aside0.mk (bB BK163.out hb)
     replace BK164 := Aside0.mk (bB BK164.out hb)
     replace HB := Aside0.mk (below_step (by repeat (first | (with_reducible first | exact HB.out | apply l1 | apply l2 | apply l3 | refine below_set ?_ GE148.out | refine below_set ?_ GE149.out | refine below_set ?_ GE152.out | refine below_set ?_ GE157.out | refine below_set ?_ GE158.out | refine below_set ?_ GE163.out | refine below_set ?_ GE164.out) | exact HB.out)) hb)
     (try clear hb)
     (try clear hb2)
     (try clear hk)
     (try clear hi)
     refine hK.out _ _ ⟨(blk_cell BK157.out 0).trans rfl, (blk_cell BK157.out 1).trans rfl, (blk_cell BK163.out 0).trans rfl, (blk_cell BK163.out 1).trans rfl⟩ (fun hHeld => ?_)
     clear hK K
     refine norm_ (a' := ?_) ?_ ?_
     rotate_left
     ·show Act.put _ (some 36) _ = _
      simp only [Act.put, List.setIfInBounds_toArray, List.set_cons_zero, List.set_cons_succ, i64_w, i32_w]
      rfl
     refine sched [(8, some 37), (9, some 38)] ?_
     iterate 2
      refine pureS (v := ?_) (a' := ?_) rfl rfl (any_of HT_.out (by kernel_rfl)) (fun _ _ _ h => h) (Or.inl ⟨by rfl, ?_⟩) ?_ ?_
      rotate_left
      ·intro w'
       go_simp
       with_reducible rfl
      rotate_left
      ·simp only [Act.put, List.setIfInBounds_toArray, List.set_cons_zero, List.set_cons_succ, i64_w, i32_w]
       rfl
     refine unsched ?_
     refine done_ (done_of HT_.out (by kernel_rfl)) ?_
     try go_wp2
     go_meet
     case rel => exact ⟨_, (decide (t170 > 0)), (by first | rfl | (simp; done) | (simp [*]; done)), H', ⟨by first | omega | exact Nat.le_refl _⟩, ⟨by (with_reducible repeat (first | apply b1 | apply b2 | apply b3)); exact BK148.out⟩, ⟨by (with_reducible repeat (first | apply b1 | apply b2 | apply b3)); exact BK149.out⟩, ⟨by (with_reducible repeat (first | apply b1 | apply b2 | apply b3)); exact BK152.out⟩, ⟨by (with_reducible repeat (first | apply b1 | apply b2 | apply b3)); exact BK157.out⟩, ⟨by (with_reducible repeat (first | apply b1 | apply b2 | apply b3)); exact BK158.out⟩, ⟨by (with_reducible repeat (first | apply b1 | apply b2 | apply b3)); exact BK163.out⟩, ⟨by (with_reducible repeat (first | apply b1 | apply b2 | apply b3)); exact BK164.out⟩, ⟨by repeat (first | (with_reducible first | exact HB.out | apply l1 | apply l2 | apply l3 | refine below_set ?_ GE148.out | refine below_set ?_ GE149.out | refine below_set ?_ GE152.out | refine below_set ?_ GE157.out | refine below_set ?_ GE158.out | refine below_set ?_ GE163.out | refine below_set ?_ GE164.out) | exact HB.out)⟩⟩)
   |((revert z19; intro z19)
     refine start_ (n := 10) (S := fun w' => w'.cell? ⟨gb157, 0, none⟩ = some (.int .u64 t153) ∧ w'.cell? ⟨gb157, 1, none⟩ = some (.int .u64 t154)) (ds := []) #[false, false, false, false, false, false, false, false, false, false] (by kernel_rfl) rfl rfl ⟨(blk_cell BK157.out 0).trans rfl, (blk_cell BK157.out 1).trans rfl⟩ (fun hHeld => ?_); refine with_tabW ratio_frac_fit.tab4 ratio_frac_fit.bits4 (fun HT_ HW_ => ?_)
     generalize w55.drew = w50 at BK148 BK149 BK152 BK157 BK158 BK163 BK164 HB hHeld ⊢
     refine take_ (i := 0) (N := some 29) (v := ?_) (a' := ?_) #[true, false, false, false, false, false, false, false, false, false] rfl rfl (take_ofW HT_.out HW_.out (by kernel_rfl)) (fun _ _ _ h => h) (Or.inl ⟨by rfl, ?_⟩) hHeld ?_ ?_
     rotate_left
     ·rintro w' ⟨s0, s1⟩
      go_simp
      with_reducible rfl
     rotate_left
     ·simp only [Act.put, List.setIfInBounds_toArray, List.set_cons_zero, List.set_cons_succ, i64_w, i32_w]
      rfl
     refine one_ (i := 1) (N := some 30) #[true, true, false, false, false, false, false, false, false, false] rfl rfl (one_of HT_.out (by kernel_rfl)) (by decide) (fun K hK => ?_)
     refine goes_ Try.func52 (by kernel_rfl) rfl #[.int .u64 4611686018427387904] (by rfl) rfl rfl (by (try simp only [List.map_toArray, List.map_cons, List.map_nil]); first | done | rfl | (simp only [List.length_drop, List.length_take]; rfl)) ?_
     with_reducible refine (ratio_small.calls 4611686018427387904 t165 t166 _ A46.out).mono ?_
     rintro e w51 ⟨rfl, hb⟩
     refine ⟨_, rfl, ?_⟩
     replace BK148 := Aside0.mk (bB BK148.out hb)
     replace BK149 := Aside0.mk (bB BK149.out hb)
     replace BK152 := Aside0.mk (bB BK152.out hb)
     replace BK157 := Aside0.mk (bB BK157.out hb)
     replace BK158 := Aside0.mk (bB BK158.out hb)
     replace BK163 := Aside0.mk (bB BK163.out hb)
     replace BK164 := Aside0.mk (bB BK164.out hb)
     replace HB := Aside0.mk (below_step (by repeat (first | (with_reducible first | exact HB.out | apply l1 | apply l2 | apply l3 | refine below_set ?_ GE148.out | refine below_set ?_ GE149.out | refine below_set ?_ GE152.out | refine below_set ?_ GE157.out | refine below_set ?_ GE158.out | refine below_set ?_ GE163.out | refine below_set ?_ GE164.out) | exact HB.out)) hb)
     (try clear hb)
     (try clear hb2)
     (try clear hk)
     (try clear hi)
     refine hK.out _ _ ⟨(blk_cell BK157.out 0).trans rfl, (blk_cell BK157.out 1).trans rfl⟩ (fun hHeld => ?_)
     clear hK K
     refine norm_ (a' := ?_) ?_ ?_
     rotate_left
     ·show Act.put _ (some 30) _ = _
      simp only [Act.put, List.setIfInBounds_toArray, List.set_cons_zero, List.set_cons_succ, i64_w, i32_w]
      rfl
     refine one_ (i := 2) (N := some 31) #[true, true, true, false, false, false, false, false, false, false] rfl rfl (one_of HT_.out (by kernel_rfl)) (by decide) (fun K hK => ?_)
     refine goes_ Try.func45 (by kernel_rfl) rfl #[.agg #[.int .u64 t153, .int .u64 t154], .agg #[.int .u64 t165, .int .u64 t166]] (by rfl) rfl rfl (by (try simp only [List.map_toArray, List.map_cons, List.map_nil]); first | done | rfl | (simp only [List.length_drop, List.length_take]; rfl)) ?_
     with_reducible refine (ratio_wide_cmp.calls t153 t154 t165 t166 t167 _ A47.out).mono ?_
     rintro e w52 ⟨rfl, hb⟩
     refine ⟨_, rfl, ?_⟩
     replace BK148 := Aside0.mk (bB BK148.out hb)
     replace BK149 := Aside0.mk (bB BK149.out hb)
     replace BK152 := Aside0.mk (bB BK152.out hb)
     replace BK157 := Aside0.mk (bB BK157.out hb)
     replace BK158 := Aside0.mk (bB BK158.out hb)
     replace BK163 := Aside0.mk (bB BK163.out hb)
     replace BK164 := Aside0.mk (bB BK164.out hb)
     replace HB := Aside0.mk (below_step (by repeat (first | (with_reducible first | exact HB.out | apply l1 | apply l2 | apply l3 | refine below_set ?_ GE148.out | refine below_set ?_ GE149.out | refine below_set ?_ GE152.out | refine below_set ?_ GE157.out | refine below_set ?_ GE158.out | refine below_set ?_ GE163.out | refine below_set ?_ GE164.out) | exact HB.out)) hb)
     (try clear hb)
     (try clear hb2)
     (try clear hk)
     (try clear hi)
     refine hK.out _ _ ⟨(blk_cell BK157.out 0).trans rfl, (blk_cell BK157.out 1).trans rfl⟩ (fun hHeld => ?_)
     clear hK K
     refine norm_ (a' := ?_) ?_ ?_
     rotate_left
     ·show Act.put _ (some 31) _ = _
      simp only [Act.put, List.setIfInBounds_toArray, List.set_cons_zero, List.set_cons_succ, i64_w, i32_w]
      rfl
     refine sched [(3, some 32), (4, some 33), (5, some 34), (6, some 35), (7, some 36), (8, some 37), (9, some 38)] ?_
     iterate 2
      refine pureS (v := ?_) (a' := ?_) rfl rfl (any_of HT_.out (by kernel_rfl)) (fun _ _ _ h => h) (Or.inl ⟨by rfl, ?_⟩) ?_ ?_
      rotate_left
      ·intro w'
       go_simp
       with_reducible rfl
      rotate_left
      ·simp only [Act.put, List.setIfInBounds_toArray, List.set_cons_zero, List.set_cons_succ, i64_w, i32_w]
       rfl
     iterate 4
      refine pureS (v := undef) (a' := ?_) rfl rfl (any_of HT_.out (by kernel_rfl)) (fun _ _ _ h => h) (Or.inr ⟨by rfl, rfl⟩) ?_ ?_
      rotate_left
      ·simp only [Act.put, List.setIfInBounds_toArray, List.set_cons_zero, List.set_cons_succ, i64_w, i32_w]
       rfl
     refine pureS (v := ?_) (a' := ?_) rfl rfl (any_of HT_.out (by kernel_rfl)) (fun _ _ _ h => h) (Or.inl ⟨by rfl, ?_⟩) ?_ ?_
     rotate_left
     ·intro w'
      go_simp
      with_reducible rfl
     rotate_left
     ·simp only [Act.put, List.setIfInBounds_toArray, List.set_cons_zero, List.set_cons_succ, i64_w, i32_w]
      rfl
     refine unsched ?_
     refine done_ (done_of HT_.out (by kernel_rfl)) ?_
     try go_wp2
     go_meet
     case rel => exact ⟨_, (true), (by first | rfl | (simp; done) | (simp [*]; done)), H', ⟨by first | omega | exact Nat.le_refl _⟩, ⟨by (with_reducible repeat (first | apply b1 | apply b2 | apply b3)); exact BK148.out⟩, ⟨by (with_reducible repeat (first | apply b1 | apply b2 | apply b3)); exact BK149.out⟩, ⟨by (with_reducible repeat (first | apply b1 | apply b2 | apply b3)); exact BK152.out⟩, ⟨by (with_reducible repeat (first | apply b1 | apply b2 | apply b3)); exact BK157.out⟩, ⟨by (with_reducible repeat (first | apply b1 | apply b2 | apply b3)); exact BK158.out⟩, ⟨by (with_reducible repeat (first | apply b1 | apply b2 | apply b3)); exact BK163.out⟩, ⟨by (with_reducible repeat (first | apply b1 | apply b2 | apply b3)); exact BK164.out⟩, ⟨by repeat (first | (with_reducible first | exact HB.out | apply l1 | apply l2 | apply l3 | refine below_set ?_ GE148.out | refine below_set ?_ GE149.out | refine below_set ?_ GE152.out | refine below_set ?_ GE157.out | refine below_set ?_ GE158.out | refine below_set ?_ GE163.out | refine below_set ?_ GE164.out) | exact HB.out)⟩⟩)
 case rest =>
  clear HC5
  try clear c1
  try clear c2
  try clear p2
  try clear c3
  try clear c4
  try clear c5
  try clear c7
  try clear c8
  try clear c12
  try clear c13
  try clear c19
  try clear c20
  try clear c21
  try clear c22
  try clear c24
  try clear c25
  try clear c26
  try clear c33
  try clear c34
  try clear c35
  try clear c36
  try clear c37
  try clear c38
  try clear c40
  try clear c41
  try clear c42
  try clear c43
  try clear c44
  try clear c45
  try clear c48
  try clear c48b0
  try clear c52
  try clear hcz14_0
  try clear hcz14_1
  try clear hcz15_0
  try clear hcz15_1
  try clear hcz15_2
  try clear hcz15_3
  try clear hcz15_4
  try clear hcz23_0
  try clear hcz23_1
  try clear hcz27_0
  try clear hcz27_1
  try clear hcz28_0
  try clear hcz28_1
  try clear hcz28_2
  try clear hcz28_3
  try clear hcz28_4
  try clear hcz29_0
  try clear hcz29_1
  try clear hcz39_0
  try clear hcz39_1
  try clear hcz45_0
  try clear hcz45_1
  try clear hcz9_0
  try clear hcz9_1
  try clear hcz9_2
  try clear hcz9_3
  try clear hcz9_4
  try clear hfz14_0
  try clear hfz14_1
  try clear hfz15_0
  try clear hfz15_1
  try clear hfz15_2
  try clear hfz15_3
  try clear hfz15_4
  try clear hfz23_0
  try clear hfz23_1
  try clear hfz27_0
  try clear hfz27_1
  try clear hfz28_0
  try clear hfz28_1
  try clear hfz28_2
  try clear hfz28_3
  try clear hfz28_4
  try clear hfz29_0
  try clear hfz29_1
  try clear hfz39_0
  try clear hfz39_1
  try clear hfz45_0
  try clear hfz45_1
  try clear hfz9_0
  try clear hfz9_1
  try clear hfz9_2
  try clear hfz9_3
  try clear hfz9_4
  obtain ⟨kq, x38_4, rfl, HA, HJ4, BK148, BK149, BK152, BK157, BK158, BK163, BK164, HB⟩ := hcut
  cases kq with
  | zero => exact absurd HA.out (by simp [ratio_frac_fit.j0])
  | succ kj4 =>
   have H := HA.out
   clear HA
   simp only [ratio_frac_fit.j0] at H
   by_cases c61 : x38_4 = true <;> first
   |(subst c61
     have H1 : (some (0, 0, 12)) = some (r1, r2, r3) := by rw [if_pos rfl] at H; exact H
     clear H
     have H := H1
     clear H1
     simp only [Option.some.injEq, Prod.mk.injEq] at H
     obtain ⟨rfl, rfl, rfl⟩ := H
     have hnb62 := NB149_148.out
     have hnc62 := NB148_149.out
     have hnb63 := NB149_152.out
     have hnc63 := NB152_149.out
     have hnb64 := NB149_157.out
     have hnc64 := NB157_149.out
     have hnb65 := NB149_158.out
     have hnc65 := NB158_149.out
     have hnb66 := NB149_163.out
     have hnc66 := NB163_149.out
     have hnb67 := NB149_164.out
     have hnc67 := NB164_149.out
     obtain ⟨hcz68_0, hcz68_1, hfz68_0, hfz68_1⟩ := blk_cells2 BK149.out
     have z23 := trivial)
   |(replace c61 := Bool.eq_false_iff.mpr c61
     subst c61
     have H1 : (if a0_0 = true then (some (wrap64 (-(wrap64 (t154))), wrap64 (t160), 0)) else (some (wrap64 (t154), wrap64 (t160), 0))) = some (r1, r2, r3) := by rw [if_neg (show ¬ (false = true) by decide)] at H; exact H
     clear H
     have H := H1
     clear H1
     by_cases c69 : a0_0 = true <;> first
     |(subst c69
       have H1 : (some (wrap64 (-(wrap64 (t154))), wrap64 (t160), 0)) = some (r1, r2, r3) := by rw [if_pos rfl] at H; exact H
       clear H
       have H := H1
       clear H1
       simp only [Option.some.injEq, Prod.mk.injEq] at H
       obtain ⟨rfl, rfl, rfl⟩ := H
       have hnb70 := NB157_148.out
       have hnc70 := NB148_157.out
       have hnb71 := NB157_149.out
       have hnc71 := NB149_157.out
       have hnb72 := NB157_152.out
       have hnc72 := NB152_157.out
       have hnb73 := NB157_158.out
       have hnc73 := NB158_157.out
       have hnb74 := NB157_163.out
       have hnc74 := NB163_157.out
       have hnb75 := NB157_164.out
       have hnc75 := NB164_157.out
       obtain ⟨hcz76_0, hcz76_1, hfz76_0, hfz76_1⟩ := blk_cells2 BK157.out
       have hnb77 := NB163_148.out
       have hnc77 := NB148_163.out
       have hnb78 := NB163_149.out
       have hnc78 := NB149_163.out
       have hnb79 := NB163_152.out
       have hnc79 := NB152_163.out
       have hnb80 := NB163_158.out
       have hnc80 := NB158_163.out
       have hnb81 := NB163_164.out
       have hnc81 := NB164_163.out
       obtain ⟨hcz82_0, hcz82_1, hfz82_0, hfz82_1⟩ := blk_cells2 BK163.out
       have z24 := trivial)
     |(replace c69 := Bool.eq_false_iff.mpr c69
       subst c69
       have H1 : (some (wrap64 (t154), wrap64 (t160), 0)) = some (r1, r2, r3) := by rw [if_neg (show ¬ (false = true) by decide)] at H; exact H
       clear H
       have H := H1
       clear H1
       simp only [Option.some.injEq, Prod.mk.injEq] at H
       obtain ⟨rfl, rfl, rfl⟩ := H
       have hnb101 := NB157_148.out
       have hnc101 := NB148_157.out
       have hnb102 := NB157_149.out
       have hnc102 := NB149_157.out
       have hnb103 := NB157_152.out
       have hnc103 := NB152_157.out
       have hnb104 := NB157_158.out
       have hnc104 := NB158_157.out
       have hnb105 := NB157_163.out
       have hnc105 := NB163_157.out
       have hnb106 := NB157_164.out
       have hnc106 := NB164_157.out
       obtain ⟨hcz107_0, hcz107_1, hfz107_0, hfz107_1⟩ := blk_cells2 BK157.out
       have hnb108 := NB163_148.out
       have hnc108 := NB148_163.out
       have hnb109 := NB163_149.out
       have hnc109 := NB149_163.out
       have hnb110 := NB163_152.out
       have hnc110 := NB152_163.out
       have hnb111 := NB163_158.out
       have hnc111 := NB158_163.out
       have hnb112 := NB163_164.out
       have hnc112 := NB164_163.out
       obtain ⟨hcz113_0, hcz113_1, hfz113_0, hfz113_1⟩ := blk_cells2 BK163.out
       have z25 := trivial))
   all_goals
    go_wp2_with (first | ((with_reducible refine gate_dst (N := 9) rfl ?_); refine box_event (by rfl) (N := 9) (by rfl) (cs := #[.int .i64 0, .int .i64 0]) (t := 33) (by first | (go_simp; done) | (go_simp; rfl)) ?_; intro gb171 hg w83 hbox hb; obtain ⟨hb_, hw_⟩ := box_facts (by repeat (first | (with_reducible first | exact HB.out | apply l1 | apply l2 | apply l3 | refine below_set ?_ GE148.out | refine below_set ?_ GE149.out | refine below_set ?_ GE152.out | refine below_set ?_ GE157.out | refine below_set ?_ GE158.out | refine below_set ?_ GE163.out | refine below_set ?_ GE164.out) | exact HB.out)) hg hb; replace HB := Aside0.mk (hb_); have BK171 := Aside0.mk (hbox); have GW171 := Aside0.mk (hw_); have GE171 := Aside0.mk (hw_); have NB148_171 := Aside0.mk ((nL hg BK148.out)); have NB171_148 := Aside0.mk ((nG hg BK148.out)); replace BK148 := Aside0.mk (bB BK148.out hb); have NB149_171 := Aside0.mk ((nL hg BK149.out)); have NB171_149 := Aside0.mk ((nG hg BK149.out)); replace BK149 := Aside0.mk (bB BK149.out hb); have NB152_171 := Aside0.mk ((nL hg BK152.out)); have NB171_152 := Aside0.mk ((nG hg BK152.out)); replace BK152 := Aside0.mk (bB BK152.out hb); have NB157_171 := Aside0.mk ((nL hg BK157.out)); have NB171_157 := Aside0.mk ((nG hg BK157.out)); replace BK157 := Aside0.mk (bB BK157.out hb); have NB158_171 := Aside0.mk ((nL hg BK158.out)); have NB171_158 := Aside0.mk ((nG hg BK158.out)); replace BK158 := Aside0.mk (bB BK158.out hb); have NB163_171 := Aside0.mk ((nL hg BK163.out)); have NB171_163 := Aside0.mk ((nG hg BK163.out)); replace BK163 := Aside0.mk (bB BK163.out hb); have NB164_171 := Aside0.mk ((nL hg BK164.out)); have NB171_164 := Aside0.mk ((nG hg BK164.out)); replace BK164 := Aside0.mk (bB BK164.out hb); clear hb hbox hg hb_ hw_; have hnb84 := NB171_148.out; have hnc84 := NB148_171.out; have hnb85 := NB171_149.out; have hnc85 := NB149_171.out; have hnb86 := NB171_152.out; have hnc86 := NB152_171.out; have hnb87 := NB171_157.out; have hnc87 := NB157_171.out; have hnb88 := NB171_158.out; have hnc88 := NB158_171.out; have hnb89 := NB171_163.out; have hnc89 := NB163_171.out; have hnb90 := NB171_164.out; have hnc90 := NB164_171.out; obtain ⟨hcz91_0, hcz91_1, hfz91_0, hfz91_1⟩ := blk_cells2 BK171.out; have hnb92 := NB148_149.out; have hnc92 := NB149_148.out; have hnb93 := NB148_152.out; have hnc93 := NB152_148.out; have hnb94 := NB148_158.out; have hnc94 := NB158_148.out; have hnb95 := NB148_164.out; have hnc95 := NB164_148.out; obtain ⟨hcz96_0, hcz96_1, hcz96_2, hcz96_3, hcz96_4, hfz96_0, hfz96_1, hfz96_2, hfz96_3, hfz96_4⟩ := blk_cells5 BK148.out; have hnb97 := NB149_152.out; have hnc97 := NB152_149.out; have hnb98 := NB149_158.out; have hnc98 := NB158_149.out; have hnb99 := NB149_164.out; have hnc99 := NB164_149.out; obtain ⟨hcz100_0, hcz100_1, hfz100_0, hfz100_1⟩ := blk_cells2 BK149.out))
    first
    |((revert z24; intro z24)
      refine bodyPost_ret (results_ct rfl _ _ gb149 33 #[.int .i64 (wrap64 (-(wrap64 (t154)))), .int .i64 (wrap64 (t160))] (0, 0) _ rfl (by (with_reducible repeat (first | apply b1 | apply b2 | apply b3)); refine blk_put (cs := #[.int .i64 (wrap64 (-(wrap64 (t154)))), .int .i64 0]) ?_ 1 _ rfl; (with_reducible repeat (first | apply b1 | apply b2 | apply b3)); refine blk_put (cs := #[.int .i64 0, .int .i64 0]) ?_ 0 _ rfl; (with_reducible repeat (first | apply b1 | apply b2 | apply b3)); refine blk_far ?_ NB149_171.out _; (with_reducible repeat (first | apply b1 | apply b2 | apply b3)); refine blk_far ?_ NB149_171.out _; (with_reducible repeat (first | apply b1 | apply b2 | apply b3)); refine blk_far ?_ NB149_171.out _; (with_reducible repeat (first | apply b1 | apply b2 | apply b3)); exact BK149.out) Try.underlying33 rfl (by kernel_rfl)) rfl ?_
      exact ⟨by first | rfl | (simp [errW_none, errW_some] <;> rfl) | (simp [*, errW_none, errW_some] <;> rfl), by repeat (first | (with_reducible first | exact HB.out | apply l1 | apply l2 | apply l3 | refine below_set ?_ GE148.out | refine below_set ?_ GE149.out | refine below_set ?_ GE152.out | refine below_set ?_ GE157.out | refine below_set ?_ GE158.out | refine below_set ?_ GE163.out | refine below_set ?_ GE164.out | refine below_set ?_ GE171.out) | exact HB.out)⟩)
    |((revert z25; intro z25)
      refine bodyPost_ret (results_ct rfl _ _ gb149 33 #[.int .i64 (wrap64 (t154)), .int .i64 (wrap64 (t160))] (0, 0) _ rfl (by (with_reducible repeat (first | apply b1 | apply b2 | apply b3)); refine blk_put (cs := #[.int .i64 (wrap64 (t154)), .int .i64 0]) ?_ 1 _ rfl; (with_reducible repeat (first | apply b1 | apply b2 | apply b3)); refine blk_put (cs := #[.int .i64 0, .int .i64 0]) ?_ 0 _ rfl; (with_reducible repeat (first | apply b1 | apply b2 | apply b3)); refine blk_far ?_ NB149_171.out _; (with_reducible repeat (first | apply b1 | apply b2 | apply b3)); refine blk_far ?_ NB149_171.out _; (with_reducible repeat (first | apply b1 | apply b2 | apply b3)); exact BK149.out) Try.underlying33 rfl (by kernel_rfl)) rfl ?_
      exact ⟨by first | rfl | (simp [errW_none, errW_some] <;> rfl) | (simp [*, errW_none, errW_some] <;> rfl), by repeat (first | (with_reducible first | exact HB.out | apply l1 | apply l2 | apply l3 | refine below_set ?_ GE148.out | refine below_set ?_ GE149.out | refine below_set ?_ GE152.out | refine below_set ?_ GE157.out | refine below_set ?_ GE158.out | refine below_set ?_ GE163.out | refine below_set ?_ GE164.out | refine below_set ?_ GE171.out) | exact HB.out)⟩)
    |((revert z23; intro z23)
      refine bodyPost_ret (results_ct rfl _ _ gb149 33 #[.int .i64 0, .int .i64 0] (0, 0) _ rfl (by (with_reducible repeat (first | apply b1 | apply b2 | apply b3)); refine blk_put (cs := #[.int .i64 0, .int .i64 0]) ?_ 1 _ rfl; (with_reducible repeat (first | apply b1 | apply b2 | apply b3)); refine blk_put (cs := #[.int .i64 0, .int .i64 0]) ?_ 0 _ rfl; (with_reducible repeat (first | apply b1 | apply b2 | apply b3)); exact BK149.out) Try.underlying33 rfl (by kernel_rfl)) rfl ?_
      exact ⟨by first | rfl | (simp [errW_none, errW_some] <;> rfl) | (simp [*, errW_none, errW_some] <;> rfl), by repeat (first | (with_reducible first | exact HB.out | apply l1 | apply l2 | apply l3 | refine below_set ?_ GE148.out | refine below_set ?_ GE149.out | refine below_set ?_ GE152.out | refine below_set ?_ GE157.out | refine below_set ?_ GE158.out | refine below_set ?_ GE163.out | refine below_set ?_ GE164.out) | exact HB.out)⟩)
def ratio_New.f (k : Nat) (a0 : Int) (a1 : Int) : Option (Int × Int × Int) := if a1 = 0 then (some (0, 0, 11)) else (if a0 < 0 then ((ratio_size.f a0).bind fun t173 => ((ratio_small.f t173).bind fun bt174 => ((ratio_size.f a1).bind fun t176 => ((ratio_small.f t176).bind fun bt177 => ((ratio_frac_fit.f k (!(decide (a1 < 0))) bt174.1 bt174.2 bt177.1 bt177.2).bind fun bt179 => (some (bt179.1, bt179.2.1, bt179.2.2))))))) else ((ratio_size.f a0).bind fun t182 => ((ratio_small.f t182).bind fun bt183 => ((ratio_size.f a1).bind fun t185 => ((ratio_small.f t185).bind fun bt186 => ((ratio_frac_fit.f k (decide (a1 < 0)) bt183.1 bt183.2 bt186.1 bt186.2).bind fun bt188 => (some (bt188.1, bt188.2.1, bt188.2.2))))))))
set_option maxHeartbeats 8000000 in
set_option maxRecDepth 100000 in
theorem ratio_New.calls (k : Nat) (a0 : Int) (a1 : Int) (r1 : Int) (r2 : Int) (r3 : Int) (w : World) (h : ratio_New.f k a0 a1 = some (r1, r2, r3)) :
  Calls Try.prog 63 #[.int .i64 a0, .int .i64 a1] w fun e w' => e = .returned (.tuple #[.agg #[.int .i64 r1, .int .i64 r2], .int .i64 r3]) ∧ Below w.heap.size w w' := by
 have hu33 := Try.underlying33
 have hu101 := Try.underlying101
 have HB := Aside0.mk (Below.refl w.heap.size w)
 have H : (if a1 = 0 then (some (0, 0, 11)) else (if a0 < 0 then ((ratio_size.f a0).bind fun t173 => ((ratio_small.f t173).bind fun bt174 => ((ratio_size.f a1).bind fun t176 => ((ratio_small.f t176).bind fun bt177 => ((ratio_frac_fit.f k (!(decide (a1 < 0))) bt174.1 bt174.2 bt177.1 bt177.2).bind fun bt179 => (some (bt179.1, bt179.2.1, bt179.2.2))))))) else ((ratio_size.f a0).bind fun t182 => ((ratio_small.f t182).bind fun bt183 => ((ratio_size.f a1).bind fun t185 => ((ratio_small.f t185).bind fun bt186 => ((ratio_frac_fit.f k (decide (a1 < 0)) bt183.1 bt183.2 bt186.1 bt186.2).bind fun bt188 => (some (bt188.1, bt188.2.1, bt188.2.2))))))))) = some (r1, r2, r3) := h
 clear h
 by_cases c3 : a1 = 0
 ·rw [if_pos c3] at H
  have c3b0 : (a1 == 0) = true := beq_iff_eq.mpr c3
  have c3b1 : (a1 != 0) = false := bne_eq_false_iff_eq.mpr c3
  clear c3
  simp only [Option.some.injEq, Prod.mk.injEq] at H
  obtain ⟨rfl, rfl, rfl⟩ := H
  go_enter Try.func63, Try.ntmps63
  go_wp2_with (first | ((with_reducible refine gate_dst (N := 4) rfl ?_); refine box_event (by rfl) (N := 4) (by rfl) (cs := #[.int .i64 0, .int .i64 0]) (t := 33) (by first | (go_simp; done) | (go_simp; rfl)) ?_; intro gb172 hg w4 hbox hb; obtain ⟨hb_, hw_⟩ := box_facts (lA HB.out) hg hb; replace HB := Aside0.mk (hb_); have BK172 := Aside0.mk (hbox); have GW172 := Aside0.mk (hw_); have GE172 := Aside0.mk (hw_); clear hb hbox hg hb_ hw_; obtain ⟨hcz5_0, hcz5_1, hfz5_0, hfz5_1⟩ := blk_cells2 BK172.out))
  refine bodyPost_ret (results_ct rfl _ _ gb172 33 #[.int .i64 0, .int .i64 0] (0, 0) _ rfl (by (with_reducible repeat (first | apply b1 | apply b2 | apply b3)); refine blk_put (cs := #[.int .i64 0, .int .i64 0]) ?_ 1 _ rfl; (with_reducible repeat (first | apply b1 | apply b2 | apply b3)); refine blk_put (cs := #[.int .i64 0, .int .i64 0]) ?_ 0 _ rfl; (with_reducible repeat (first | apply b1 | apply b2 | apply b3)); exact BK172.out) Try.underlying33 rfl (by kernel_rfl)) rfl ?_
  exact ⟨by first | rfl | (simp [errW_none, errW_some] <;> rfl) | (simp [*, errW_none, errW_some] <;> rfl), by repeat (first | (with_reducible first | exact HB.out | apply l1 | apply l2 | apply l3 | refine below_set ?_ GE172.out) | exact HB.out)⟩
 ·rw [if_neg c3] at H
  have c3b0 : (a1 == 0) = false := beq_eq_false_iff_ne.mpr c3
  have c3b1 : (a1 != 0) = true := bne_iff_ne.mpr c3
  by_cases c6 : a0 < 0
  ·rw [if_pos c6] at H
   have c6b0 : decide (a0 < 0) = true := decide_eq_true c6
   clear c6
   replace H := Option.bind_eq_some_iff.mp H
   obtain ⟨t173, A70, H⟩ := H
   (try dsimp only at H)
   have A7 := Aside0.mk A70
   clear A70
   replace H := Option.bind_eq_some_iff.mp H
   obtain ⟨⟨t174, t175⟩, A80, H⟩ := H
   (try dsimp only at H)
   have A8 := Aside0.mk A80
   clear A80
   replace H := Option.bind_eq_some_iff.mp H
   obtain ⟨t176, A90, H⟩ := H
   (try dsimp only at H)
   have A9 := Aside0.mk A90
   clear A90
   replace H := Option.bind_eq_some_iff.mp H
   obtain ⟨⟨t177, t178⟩, A100, H⟩ := H
   (try dsimp only at H)
   have A10 := Aside0.mk A100
   clear A100
   replace H := Option.bind_eq_some_iff.mp H
   obtain ⟨⟨t179, t180, t181⟩, A110, H⟩ := H
   (try dsimp only at H)
   have A11 := Aside0.mk A110
   clear A110
   simp only [Option.some.injEq, Prod.mk.injEq] at H
   obtain ⟨rfl, rfl, rfl⟩ := H
   go_enter Try.func63, Try.ntmps63
   go_wp2_with (first | ((with_reducible refine gate_dst (N := 4) rfl ?_); refine box_event (by rfl) (N := 4) (by rfl) (cs := #[.int .i64 0, .int .i64 0]) (t := 33) (by first | (go_simp; done) | (go_simp; rfl)) ?_; intro gb172 hg w12 hbox hb; obtain ⟨hb_, hw_⟩ := box_facts (lA HB.out) hg hb; replace HB := Aside0.mk (hb_); have BK172 := Aside0.mk (hbox); have GW172 := Aside0.mk (hw_); have GE172 := Aside0.mk (hw_); clear hb hbox hg hb_ hw_) | ((with_reducible refine gate_callee (f := 44) rfl ?_); refine goesL_ (some 15) rfl rfl Try.func44 (by kernel_rfl) rfl #[.int .i64 a0] rfl (by (try simp only [List.map_toArray, List.map_cons, List.map_nil]); first | done | rfl | (simp only [List.length_drop, List.length_take]; rfl)) ?_; (with_reducible refine (ratio_size.calls a0 t173 _ A7.out).mono ?_); rintro e w' ⟨rfl, ⟨nd, rfl⟩⟩; refine ⟨_, rfl, ?_⟩; (try (rw [drewN_self w12]; generalize hq_ : World.drewN w12 _ = w12; have n0_ : Aside0 (w12.heap[gb172]? = some (.cells #[.int .i64 0, .int .i64 0] 33 (0, 0))) := ⟨by rw [← hq_]; exact (bA BK172.out)⟩; have n1_ : Aside0 (Below w.heap.size w w12) := ⟨by rw [← hq_]; exact (by repeat (first | (with_reducible first | exact HB.out | apply l1 | apply l2 | apply l3 | refine below_set ?_ GE172.out) | exact HB.out))⟩; clear BK172 HB hq_; have BK172 := n0_; have HB := n1_; clear n0_ n1_))) | ((with_reducible refine gate_callee (f := 52) rfl ?_); refine goesL_ (some 16) rfl rfl Try.func52 (by kernel_rfl) rfl #[.int .u64 t173] rfl (by (try simp only [List.map_toArray, List.map_cons, List.map_nil]); first | done | rfl | (simp only [List.length_drop, List.length_take]; rfl)) ?_; (with_reducible refine (ratio_small.calls t173 t174 t175 _ A8.out).mono ?_); rintro e w13 ⟨rfl, hb⟩; refine ⟨_, rfl, ?_⟩; replace BK172 := Aside0.mk (bB BK172.out hb); replace HB := Aside0.mk (below_step (by repeat (first | (with_reducible first | exact HB.out | apply l1 | apply l2 | apply l3 | refine below_set ?_ GE172.out) | exact HB.out)) hb); (try clear hb); (try clear hb2); (try clear hk); (try clear hi)) | ((with_reducible refine gate_callee (f := 44) rfl ?_); refine goesL_ (some 18) rfl rfl Try.func44 (by kernel_rfl) rfl #[.int .i64 a1] rfl (by (try simp only [List.map_toArray, List.map_cons, List.map_nil]); first | done | rfl | (simp only [List.length_drop, List.length_take]; rfl)) ?_; (with_reducible refine (ratio_size.calls a1 t176 _ A9.out).mono ?_); rintro e w' ⟨rfl, ⟨nd, rfl⟩⟩; refine ⟨_, rfl, ?_⟩; (try (rw [drewN_self w13]; generalize hq_ : World.drewN w13 _ = w13; have n0_ : Aside0 (w13.heap[gb172]? = some (.cells #[.int .i64 0, .int .i64 0] 33 (0, 0))) := ⟨by rw [← hq_]; exact (bA BK172.out)⟩; have n1_ : Aside0 (Below w.heap.size w w13) := ⟨by rw [← hq_]; exact (by repeat (first | (with_reducible first | exact HB.out | apply l1 | apply l2 | apply l3 | refine below_set ?_ GE172.out) | exact HB.out))⟩; clear BK172 HB hq_; have BK172 := n0_; have HB := n1_; clear n0_ n1_))) | ((with_reducible refine gate_callee (f := 52) rfl ?_); refine goesL_ (some 19) rfl rfl Try.func52 (by kernel_rfl) rfl #[.int .u64 t176] rfl (by (try simp only [List.map_toArray, List.map_cons, List.map_nil]); first | done | rfl | (simp only [List.length_drop, List.length_take]; rfl)) ?_; (with_reducible refine (ratio_small.calls t176 t177 t178 _ A10.out).mono ?_); rintro e w14 ⟨rfl, hb⟩; refine ⟨_, rfl, ?_⟩; replace BK172 := Aside0.mk (bB BK172.out hb); replace HB := Aside0.mk (below_step (by repeat (first | (with_reducible first | exact HB.out | apply l1 | apply l2 | apply l3 | refine below_set ?_ GE172.out) | exact HB.out)) hb); (try clear hb); (try clear hb2); (try clear hk); (try clear hi)) | ((with_reducible refine gate_callee (f := 73) rfl ?_); refine goesL_ (some 21) rfl rfl Try.func73 (by kernel_rfl) rfl #[.agg #[.bool (!(decide (a1 < 0))), .int .u64 t174, .int .u64 t175, .int .u64 t177, .int .u64 t178]] rfl (by (try simp only [List.map_toArray, List.map_cons, List.map_nil]); first | done | rfl | (simp only [List.length_drop, List.length_take]; rfl)) ?_; (with_reducible refine (ratio_frac_fit.calls k (!(decide (a1 < 0))) t174 t175 t177 t178 t179 t180 t181 _ A11.out).mono ?_); rintro e w15 ⟨rfl, hb⟩; refine ⟨_, rfl, ?_⟩; replace BK172 := Aside0.mk (bB BK172.out hb); replace HB := Aside0.mk (below_step (by repeat (first | (with_reducible first | exact HB.out | apply l1 | apply l2 | apply l3 | refine below_set ?_ GE172.out) | exact HB.out)) hb); (try clear hb); (try clear hb2); (try clear hk); (try clear hi); obtain ⟨hcz16_0, hcz16_1, hfz16_0, hfz16_1⟩ := blk_cells2 BK172.out))
   refine bodyPost_ret (results_ct rfl _ _ gb172 33 #[.int .i64 t179, .int .i64 t180] (0, 0) _ rfl (by (with_reducible repeat (first | apply b1 | apply b2 | apply b3)); refine blk_put (cs := #[.int .i64 t179, .int .i64 0]) ?_ 1 _ rfl; (with_reducible repeat (first | apply b1 | apply b2 | apply b3)); refine blk_put (cs := #[.int .i64 0, .int .i64 0]) ?_ 0 _ rfl; (with_reducible repeat (first | apply b1 | apply b2 | apply b3)); exact BK172.out) Try.underlying33 rfl (by kernel_rfl)) rfl ?_
   exact ⟨by first | rfl | (simp [errW_none, errW_some] <;> rfl) | (simp [*, errW_none, errW_some] <;> rfl), by repeat (first | (with_reducible first | exact HB.out | apply l1 | apply l2 | apply l3 | refine below_set ?_ GE172.out) | exact HB.out)⟩
  ·rw [if_neg c6] at H
   have c6b0 : decide (a0 < 0) = false := decide_eq_false c6
   clear c6
   replace H := Option.bind_eq_some_iff.mp H
   obtain ⟨t182, A170, H⟩ := H
   (try dsimp only at H)
   have A17 := Aside0.mk A170
   clear A170
   replace H := Option.bind_eq_some_iff.mp H
   obtain ⟨⟨t183, t184⟩, A180, H⟩ := H
   (try dsimp only at H)
   have A18 := Aside0.mk A180
   clear A180
   replace H := Option.bind_eq_some_iff.mp H
   obtain ⟨t185, A190, H⟩ := H
   (try dsimp only at H)
   have A19 := Aside0.mk A190
   clear A190
   replace H := Option.bind_eq_some_iff.mp H
   obtain ⟨⟨t186, t187⟩, A200, H⟩ := H
   (try dsimp only at H)
   have A20 := Aside0.mk A200
   clear A200
   replace H := Option.bind_eq_some_iff.mp H
   obtain ⟨⟨t188, t189, t190⟩, A210, H⟩ := H
   (try dsimp only at H)
   have A21 := Aside0.mk A210
   clear A210
   simp only [Option.some.injEq, Prod.mk.injEq] at H
   obtain ⟨rfl, rfl, rfl⟩ := H
   go_enter Try.func63, Try.ntmps63
   go_wp2_with (first | ((with_reducible refine gate_dst (N := 4) rfl ?_); refine box_event (by rfl) (N := 4) (by rfl) (cs := #[.int .i64 0, .int .i64 0]) (t := 33) (by first | (go_simp; done) | (go_simp; rfl)) ?_; intro gb172 hg w22 hbox hb; obtain ⟨hb_, hw_⟩ := box_facts (lA HB.out) hg hb; replace HB := Aside0.mk (hb_); have BK172 := Aside0.mk (hbox); have GW172 := Aside0.mk (hw_); have GE172 := Aside0.mk (hw_); clear hb hbox hg hb_ hw_) | ((with_reducible refine gate_callee (f := 44) rfl ?_); refine goesL_ (some 15) rfl rfl Try.func44 (by kernel_rfl) rfl #[.int .i64 a0] rfl (by (try simp only [List.map_toArray, List.map_cons, List.map_nil]); first | done | rfl | (simp only [List.length_drop, List.length_take]; rfl)) ?_; (with_reducible refine (ratio_size.calls a0 t182 _ A17.out).mono ?_); rintro e w' ⟨rfl, ⟨nd, rfl⟩⟩; refine ⟨_, rfl, ?_⟩; (try (rw [drewN_self w22]; generalize hq_ : World.drewN w22 _ = w22; have n0_ : Aside0 (w22.heap[gb172]? = some (.cells #[.int .i64 0, .int .i64 0] 33 (0, 0))) := ⟨by rw [← hq_]; exact (bA BK172.out)⟩; have n1_ : Aside0 (Below w.heap.size w w22) := ⟨by rw [← hq_]; exact (by repeat (first | (with_reducible first | exact HB.out | apply l1 | apply l2 | apply l3 | refine below_set ?_ GE172.out) | exact HB.out))⟩; clear BK172 HB hq_; have BK172 := n0_; have HB := n1_; clear n0_ n1_))) | ((with_reducible refine gate_callee (f := 52) rfl ?_); refine goesL_ (some 16) rfl rfl Try.func52 (by kernel_rfl) rfl #[.int .u64 t182] rfl (by (try simp only [List.map_toArray, List.map_cons, List.map_nil]); first | done | rfl | (simp only [List.length_drop, List.length_take]; rfl)) ?_; (with_reducible refine (ratio_small.calls t182 t183 t184 _ A18.out).mono ?_); rintro e w23 ⟨rfl, hb⟩; refine ⟨_, rfl, ?_⟩; replace BK172 := Aside0.mk (bB BK172.out hb); replace HB := Aside0.mk (below_step (by repeat (first | (with_reducible first | exact HB.out | apply l1 | apply l2 | apply l3 | refine below_set ?_ GE172.out) | exact HB.out)) hb); (try clear hb); (try clear hb2); (try clear hk); (try clear hi)) | ((with_reducible refine gate_callee (f := 44) rfl ?_); refine goesL_ (some 18) rfl rfl Try.func44 (by kernel_rfl) rfl #[.int .i64 a1] rfl (by (try simp only [List.map_toArray, List.map_cons, List.map_nil]); first | done | rfl | (simp only [List.length_drop, List.length_take]; rfl)) ?_; (with_reducible refine (ratio_size.calls a1 t185 _ A19.out).mono ?_); rintro e w' ⟨rfl, ⟨nd, rfl⟩⟩; refine ⟨_, rfl, ?_⟩; (try (rw [drewN_self w23]; generalize hq_ : World.drewN w23 _ = w23; have n0_ : Aside0 (w23.heap[gb172]? = some (.cells #[.int .i64 0, .int .i64 0] 33 (0, 0))) := ⟨by rw [← hq_]; exact (bA BK172.out)⟩; have n1_ : Aside0 (Below w.heap.size w w23) := ⟨by rw [← hq_]; exact (by repeat (first | (with_reducible first | exact HB.out | apply l1 | apply l2 | apply l3 | refine below_set ?_ GE172.out) | exact HB.out))⟩; clear BK172 HB hq_; have BK172 := n0_; have HB := n1_; clear n0_ n1_))) | ((with_reducible refine gate_callee (f := 52) rfl ?_); refine goesL_ (some 19) rfl rfl Try.func52 (by kernel_rfl) rfl #[.int .u64 t185] rfl (by (try simp only [List.map_toArray, List.map_cons, List.map_nil]); first | done | rfl | (simp only [List.length_drop, List.length_take]; rfl)) ?_; (with_reducible refine (ratio_small.calls t185 t186 t187 _ A20.out).mono ?_); rintro e w24 ⟨rfl, hb⟩; refine ⟨_, rfl, ?_⟩; replace BK172 := Aside0.mk (bB BK172.out hb); replace HB := Aside0.mk (below_step (by repeat (first | (with_reducible first | exact HB.out | apply l1 | apply l2 | apply l3 | refine below_set ?_ GE172.out) | exact HB.out)) hb); (try clear hb); (try clear hb2); (try clear hk); (try clear hi)) | ((with_reducible refine gate_callee (f := 73) rfl ?_); refine goesL_ (some 21) rfl rfl Try.func73 (by kernel_rfl) rfl #[.agg #[.bool (decide (a1 < 0)), .int .u64 t183, .int .u64 t184, .int .u64 t186, .int .u64 t187]] rfl (by (try simp only [List.map_toArray, List.map_cons, List.map_nil]); first | done | rfl | (simp only [List.length_drop, List.length_take]; rfl)) ?_; (with_reducible refine (ratio_frac_fit.calls k (decide (a1 < 0)) t183 t184 t186 t187 t188 t189 t190 _ A21.out).mono ?_); rintro e w25 ⟨rfl, hb⟩; refine ⟨_, rfl, ?_⟩; replace BK172 := Aside0.mk (bB BK172.out hb); replace HB := Aside0.mk (below_step (by repeat (first | (with_reducible first | exact HB.out | apply l1 | apply l2 | apply l3 | refine below_set ?_ GE172.out) | exact HB.out)) hb); (try clear hb); (try clear hb2); (try clear hk); (try clear hi); obtain ⟨hcz26_0, hcz26_1, hfz26_0, hfz26_1⟩ := blk_cells2 BK172.out))
   refine bodyPost_ret (results_ct rfl _ _ gb172 33 #[.int .i64 t188, .int .i64 t189] (0, 0) _ rfl (by (with_reducible repeat (first | apply b1 | apply b2 | apply b3)); refine blk_put (cs := #[.int .i64 t188, .int .i64 0]) ?_ 1 _ rfl; (with_reducible repeat (first | apply b1 | apply b2 | apply b3)); refine blk_put (cs := #[.int .i64 0, .int .i64 0]) ?_ 0 _ rfl; (with_reducible repeat (first | apply b1 | apply b2 | apply b3)); exact BK172.out) Try.underlying33 rfl (by kernel_rfl)) rfl ?_
   exact ⟨by first | rfl | (simp [errW_none, errW_some] <;> rfl) | (simp [*, errW_none, errW_some] <;> rfl), by repeat (first | (with_reducible first | exact HB.out | apply l1 | apply l2 | apply l3 | refine below_set ?_ GE172.out) | exact HB.out)⟩
end Go.Proofs.Ytlbicmdfdpcdiaa.PDa
