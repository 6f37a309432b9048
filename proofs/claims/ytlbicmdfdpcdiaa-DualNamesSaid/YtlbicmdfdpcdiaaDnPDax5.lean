-- printed
import Derived.Test.YtlbicmdfdpcdiaaDnPDax0
import Derived.Test.YtlbicmdfdpcdiaaDnPDax4
namespace Go.Proofs.Ytlbicmdfdpcdiaa.PDa
open Go.RowKit Go.Proofs.YtlbicmdfdpcdiaaW.PrintWords Go.Proofs.YtlbicmdfdpcdiaaW.PrintLast Go.Proofs.YtlbicmdfdpcdiaaW.PrintMore
attribute [local go_sem] max2_int min2_int max_two min_two max_three min_three max_four min_four
set_option linter.unusedVariables false
set_option linter.unusedSimpArgs false
attribute [local go_sem high] eqA88
def bits_Mul64.f (a0 : Int) (a1 : Int) : Option (Int × Int) := some (IntKind.u64.wrap ((IntKind.u64.wrap ((IntKind.u64.wrap ((a0 / 4294967296) * (a1 / 4294967296))) + ((IntKind.u64.wrap ((IntKind.u64.wrap ((a0 / 4294967296) * (Go.bits .and .u64 a1 4294967295))) + ((IntKind.u64.wrap ((Go.bits .and .u64 a0 4294967295) * (Go.bits .and .u64 a1 4294967295))) / 4294967296))) / 4294967296))) + ((IntKind.u64.wrap ((Go.bits .and .u64 (IntKind.u64.wrap ((IntKind.u64.wrap ((a0 / 4294967296) * (Go.bits .and .u64 a1 4294967295))) + ((IntKind.u64.wrap ((Go.bits .and .u64 a0 4294967295) * (Go.bits .and .u64 a1 4294967295))) / 4294967296))) 4294967295) + (IntKind.u64.wrap ((Go.bits .and .u64 a0 4294967295) * (a1 / 4294967296))))) / 4294967296)), IntKind.u64.wrap (a0 * a1))
set_option maxHeartbeats 8000000 in
set_option maxRecDepth 100000 in
theorem bits_Mul64.calls (a0 : Int) (a1 : Int) (r1 : Int) (r2 : Int) (w : World) (h : bits_Mul64.f a0 a1 = some (r1, r2)) :
  Calls Try.prog 56 #[.int .u64 a0, .int .u64 a1] w fun e w' => e = .returned (.tuple #[.int .u64 r1, .int .u64 r2]) ∧ Drawn0 w w' := by
 have H : (some (IntKind.u64.wrap ((IntKind.u64.wrap ((IntKind.u64.wrap ((a0 / 4294967296) * (a1 / 4294967296))) + ((IntKind.u64.wrap ((IntKind.u64.wrap ((a0 / 4294967296) * (Go.bits .and .u64 a1 4294967295))) + ((IntKind.u64.wrap ((Go.bits .and .u64 a0 4294967295) * (Go.bits .and .u64 a1 4294967295))) / 4294967296))) / 4294967296))) + ((IntKind.u64.wrap ((Go.bits .and .u64 (IntKind.u64.wrap ((IntKind.u64.wrap ((a0 / 4294967296) * (Go.bits .and .u64 a1 4294967295))) + ((IntKind.u64.wrap ((Go.bits .and .u64 a0 4294967295) * (Go.bits .and .u64 a1 4294967295))) / 4294967296))) 4294967295) + (IntKind.u64.wrap ((Go.bits .and .u64 a0 4294967295) * (a1 / 4294967296))))) / 4294967296)), IntKind.u64.wrap (a0 * a1))) = some (r1, r2) := h
 clear h
 simp only [Option.some.injEq, Prod.mk.injEq] at H
 obtain ⟨rfl, rfl⟩ := H
 go_enter Try.func56, Try.ntmps56
 go_wp2
 go_ret2
 exact ⟨by first | rfl | (simp; done) | (simp [*]; done), by repeat (first | exact Drawn0.refl _ | apply Drawn0.step)⟩
def ratio_mul.f (a0 : Int) (a1 : Int) : Option (Int × Int) := (bits_Mul64.f a0 a1).bind fun bt102 => (some (bt102.1, bt102.2))
set_option maxHeartbeats 8000000 in
set_option maxRecDepth 100000 in
theorem ratio_mul.calls (a0 : Int) (a1 : Int) (r1 : Int) (r2 : Int) (w : World) (h : ratio_mul.f a0 a1 = some (r1, r2)) :
  Calls Try.prog 43 #[.int .u64 a0, .int .u64 a1] w fun e w' => e = .returned (.agg #[.int .u64 r1, .int .u64 r2]) ∧ Below w.heap.size w w' := by
 have hu88 := Try.underlying88
 have HB := Aside0.mk (Below.refl w.heap.size w)
 have H : ((bits_Mul64.f a0 a1).bind fun bt102 => (some (bt102.1, bt102.2))) = some (r1, r2) := h
 clear h
 replace H := Option.bind_eq_some_iff.mp H
 obtain ⟨⟨t102, t103⟩, A30, H⟩ := H
 (try dsimp only at H)
 have A3 := Aside0.mk A30
 clear A30
 simp only [Option.some.injEq, Prod.mk.injEq] at H
 obtain ⟨rfl, rfl⟩ := H
 go_enter Try.func43, Try.ntmps43
 go_wp2_with (first | ((with_reducible refine gate_dst (N := 4) rfl ?_); refine box_event (by rfl) (N := 4) (by rfl) (cs := #[.int .u64 0, .int .u64 0]) (t := 88) (by first | (go_simp; done) | (go_simp; rfl)) ?_; intro gb101 hg w4 hbox hb; obtain ⟨hb_, hw_⟩ := box_facts (lA HB.out) hg hb; replace HB := Aside0.mk (hb_); have BK101 := Aside0.mk (hbox); have GW101 := Aside0.mk (hw_); have GE101 := Aside0.mk (hw_); clear hb hbox hg hb_ hw_) | ((with_reducible refine gate_callee (f := 56) rfl ?_); refine goesL_ (some 10) rfl rfl Try.func56 (by kernel_rfl) rfl #[.int .u64 a0, .int .u64 a1] rfl (by (try simp only [List.map_toArray, List.map_cons, List.map_nil]); first | done | rfl | (simp only [List.length_drop, List.length_take]; rfl)) ?_; (with_reducible refine (bits_Mul64.calls a0 a1 t102 t103 _ A3.out).mono ?_); rintro e w' ⟨rfl, ⟨nd, rfl⟩⟩; refine ⟨_, rfl, ?_⟩; (try (rw [drewN_self w4]; generalize hq_ : World.drewN w4 _ = w4; have n0_ : Aside0 (w4.heap[gb101]? = some (.cells #[.int .u64 0, .int .u64 0] 88 (0, 0))) := ⟨by rw [← hq_]; exact (bA BK101.out)⟩; have n1_ : Aside0 (Below w.heap.size w w4) := ⟨by rw [← hq_]; exact (by repeat (first | (with_reducible first | exact HB.out | apply l1 | apply l2 | apply l3 | refine below_set ?_ GE101.out) | exact HB.out))⟩; clear BK101 HB hq_; have BK101 := n0_; have HB := n1_; clear n0_ n1_)); obtain ⟨hcz5_0, hcz5_1, hfz5_0, hfz5_1⟩ := blk_cells2 BK101.out))
 refine bodyPost_ret (results_cell_row rfl _ _ gb101 88 #[.int .u64 t102, .int .u64 t103] (0, 0) _ rfl (by (with_reducible repeat (first | apply b1 | apply b2 | apply b3)); refine blk_put (cs := #[.int .u64 t102, .int .u64 0]) ?_ 1 _ rfl; (with_reducible repeat (first | apply b1 | apply b2 | apply b3)); refine blk_put (cs := #[.int .u64 0, .int .u64 0]) ?_ 0 _ rfl; (with_reducible repeat (first | apply b1 | apply b2 | apply b3)); exact BK101.out) Try.underlying88 rfl (by kernel_rfl)) rfl ?_
 exact ⟨by first | rfl | (simp [errW_none, errW_some] <;> rfl) | (simp [*, errW_none, errW_some] <;> rfl), by repeat (first | (with_reducible first | exact HB.out | apply l1 | apply l2 | apply l3 | refine below_set ?_ GE101.out) | exact HB.out)⟩
def ratio_size.f (a0 : Int) : Option (Int) := if a0 < 0 then (some (IntKind.u64.wrap ((IntKind.u64.wrap (wrap64 (-(wrap64 (a0 + 1))))) + 1))) else (some (IntKind.u64.wrap (a0)))
set_option maxHeartbeats 8000000 in
set_option maxRecDepth 100000 in
theorem ratio_size.calls (a0 : Int) (r : Int) (w : World) (h : ratio_size.f a0 = some r) :
  Calls Try.prog 44 #[.int .i64 a0] w fun e w' => e = .returned (.int .u64 r) ∧ Drawn0 w w' := by
 have H : (if a0 < 0 then (some (IntKind.u64.wrap ((IntKind.u64.wrap (wrap64 (-(wrap64 (a0 + 1))))) + 1))) else (some (IntKind.u64.wrap (a0)))) = some r := h
 clear h
 by_cases c2 : a0 < 0
 ·rw [if_pos c2] at H
  have c2b0 : decide (a0 < 0) = true := decide_eq_true c2
  clear c2
  obtain rfl := Option.some.inj H
  go_enter Try.func44, Try.ntmps44
  go_wp2
  go_ret
  exact ⟨by first | rfl | (simp; done) | (simp [*]; done), by repeat (first | exact Drawn0.refl _ | apply Drawn0.step)⟩
 ·rw [if_neg c2] at H
  have c2b0 : decide (a0 < 0) = false := decide_eq_false c2
  clear c2
  obtain rfl := Option.some.inj H
  go_enter Try.func44, Try.ntmps44
  go_wp2
  go_ret
  exact ⟨by first | rfl | (simp; done) | (simp [*]; done), by repeat (first | exact Drawn0.refl _ | apply Drawn0.step)⟩
def ratio_wide_cmp.f (a0_0 : Int) (a0_1 : Int) (a1_0 : Int) (a1_1 : Int) : Option (Int) := if (a0_0 == a1_0 && (a0_1 == a1_1)) = true then (some 0) else (if a0_0 < a1_0 then (some (-1)) else (if a0_0 = a1_0 then (if a0_1 < a1_1 then (some (-1)) else (some 1)) else (some 1)))
set_option maxHeartbeats 8000000 in
set_option maxRecDepth 100000 in
theorem ratio_wide_cmp.calls (a0_0 : Int) (a0_1 : Int) (a1_0 : Int) (a1_1 : Int) (r : Int) (w : World) (h : ratio_wide_cmp.f a0_0 a0_1 a1_0 a1_1 = some r) :
  Calls Try.prog 45 #[.agg #[.int .u64 a0_0, .int .u64 a0_1], .agg #[.int .u64 a1_0, .int .u64 a1_1]] w fun e w' => e = .returned (.int .i64 r) ∧ Below w.heap.size w w' := by
 have hu88 := Try.underlying88
 have HB := Aside0.mk (Below.refl w.heap.size w)
 have H : (if (a0_0 == a1_0 && (a0_1 == a1_1)) = true then (some 0) else (if a0_0 < a1_0 then (some (-1)) else (if a0_0 = a1_0 then (if a0_1 < a1_1 then (some (-1)) else (some 1)) else (some 1)))) = some r := h
 clear h
 by_cases c3 : (a0_0 == a1_0 && (a0_1 == a1_1)) = true <;> first
 |(rw [if_pos c3] at H
   have c3b0 : (a0_0 == a1_0 && (a0_1 == a1_1)) = true := c3
   (try (have c3b1 : decide (a0_0 = a1_0 && (a0_1 == a1_1)) = true := by simpa using c3))
   (try (have c3b2 : (a0_0 == a1_0 && (a0_1 == a1_1)) = true := by simpa using c3))
   clear c3
   obtain rfl := Option.some.inj H)
 |(rw [if_neg c3] at H
   have c3b0 : (a0_0 == a1_0 && (a0_1 == a1_1)) = false := by simpa using c3
   (try (have c3b1 : decide (a0_0 = a1_0 && (a0_1 == a1_1)) = false := by simpa using c3))
   (try (have c3b2 : (a0_0 == a1_0 && (a0_1 == a1_1)) = false := by simpa using c3))
   (try (have c3b3 : ¬ (a0_0 = a1_0 && (a0_1 == a1_1)) := by simpa using c3))
   clear c3
   by_cases c9 : a0_0 < a1_0 <;> first
   |(rw [if_pos c9] at H
     have c9b0 : decide (a0_0 < a1_0) = true := decide_eq_true c9
     clear c9
     obtain rfl := Option.some.inj H)
   |(rw [if_neg c9] at H
     have c9b0 : decide (a0_0 < a1_0) = false := decide_eq_false c9
     clear c9
     by_cases c15 : a0_0 = a1_0 <;> first
     |(rw [if_pos c15] at H
       have c15k : (a0_1 == a1_1) = false := by simpa [c15] using c3b0
       have c15b0 : (a0_0 == a1_0) = true := beq_iff_eq.mpr c15
       have c15b1 : (a0_0 != a1_0) = false := bne_eq_false_iff_eq.mpr c15
       clear c15
       by_cases c16 : a0_1 < a1_1 <;> first
       |(rw [if_pos c16] at H
         have c16b0 : decide (a0_1 < a1_1) = true := decide_eq_true c16
         clear c16
         obtain rfl := Option.some.inj H)
       |(rw [if_neg c16] at H
         have c16b0 : decide (a0_1 < a1_1) = false := decide_eq_false c16
         clear c16
         obtain rfl := Option.some.inj H))
     |(rw [if_neg c15] at H
       have c15b0 : (a0_0 == a1_0) = false := beq_eq_false_iff_ne.mpr c15
       have c15b1 : (a0_0 != a1_0) = true := bne_iff_ne.mpr c15
       obtain rfl := Option.some.inj H)))
 all_goals
  go_enter Try.func45, Try.ntmps45
  go_wp2_with (first | ((with_reducible refine gate_dst (N := 2) rfl ?_); refine box_event (by rfl) (N := 2) (by rfl) (cs := #[.int .u64 a0_0, .int .u64 a0_1]) (t := 88) (by first | (go_simp; done) | (go_simp; rfl)) ?_; intro gb104 hg w10 hbox hb; obtain ⟨hb_, hw_⟩ := box_facts (lA HB.out) hg hb; replace HB := Aside0.mk (hb_); have BK104 := Aside0.mk (hbox); have GW104 := Aside0.mk (hw_); have GE104 := Aside0.mk (hw_); clear hb hbox hg hb_ hw_) | ((with_reducible refine gate_dst (N := 3) rfl ?_); refine box_event (by rfl) (N := 3) (by rfl) (cs := #[.int .u64 a1_0, .int .u64 a1_1]) (t := 88) (by first | (go_simp; done) | (go_simp; rfl)) ?_; intro gb105 hg w11 hbox hb; obtain ⟨hb_, hw_⟩ := box_facts (by repeat (first | (with_reducible first | exact HB.out | apply l1 | apply l2 | apply l3 | refine below_set ?_ GE104.out) | exact HB.out)) hg hb; replace HB := Aside0.mk (hb_); have BK105 := Aside0.mk (hbox); have GW105 := Aside0.mk (hw_); have GE105 := Aside0.mk (hw_); have NB104_105 := Aside0.mk ((nL hg BK104.out)); have NB105_104 := Aside0.mk ((nG hg BK104.out)); replace BK104 := Aside0.mk (bB BK104.out hb); clear hb hbox hg hb_ hw_; have hnb12 := NB104_105.out; have hnc12 := NB105_104.out; obtain ⟨hcz13_0, hcz13_1, hfz13_0, hfz13_1⟩ := blk_cells2 BK104.out; obtain ⟨hcz14_0, hcz14_1, hfz14_0, hfz14_1⟩ := blk_cells2 BK105.out))
  go_ret
  exact ⟨by first | rfl | (simp [errW_none, errW_some] <;> rfl) | (simp [*, errW_none, errW_some] <;> rfl), by repeat (first | (with_reducible first | exact HB.out | apply l1 | apply l2 | apply l3 | refine below_set ?_ GE104.out | refine below_set ?_ GE105.out) | exact HB.out)⟩
def ratio_Cmp.f (a0_0 : Int) (a0_1 : Int) (a1_0 : Int) (a1_1 : Int) : Option (Int) := if a0_0 < 0 then (if a1_0 < 0 then ((ratio_size.f a0_0).bind fun t108 => ((ratio_mul.f t108 (IntKind.u64.wrap (a1_1))).bind fun bt109 => ((ratio_size.f a1_0).bind fun t111 => ((ratio_mul.f t111 (IntKind.u64.wrap (a0_1))).bind fun bt112 => ((ratio_wide_cmp.f bt109.1 bt109.2 bt112.1 bt112.2).bind fun t114 => (some (wrap64 (-t114)))))))) else (some (-1))) else (if a1_0 < 0 then (some 1) else ((ratio_size.f a0_0).bind fun t115 => ((ratio_mul.f t115 (IntKind.u64.wrap (a1_1))).bind fun bt116 => ((ratio_size.f a1_0).bind fun t118 => ((ratio_mul.f t118 (IntKind.u64.wrap (a0_1))).bind fun bt119 => ((ratio_wide_cmp.f bt116.1 bt116.2 bt119.1 bt119.2).bind fun t121 => (some t121)))))))
def ratio_Cmp.T5 : Bool × List (List Nat × List Nat) := (true, [([], []), ([0], [0]), ([1], [1]), ([], []), ([3], [3]), ([4], [4]), ([2, 5, 2], [2, 5]), ([], []), ([7], [7]), ([8, 6], [8]), ([], []), ([10], [10]), ([11], [11]), ([9, 12, 9], [9, 12]), ([6, 13, 13], [6, 13]), ([14, 14, 0, 1, 2, 3, 4, 5, 6, 7, 8, 9, 10, 11, 12, 13, 14], [14])])
def ratio_Cmp.B5 : List Nat := [0, 1, 3, 0, 8, 24, 63, 0, 128, 511, 0, 1024, 3072, 8191, 16383, 32767]
theorem ratio_Cmp.tab5 : rtab .any (opsOf Try.f29 5) = ratio_Cmp.T5 := by kernel_rfl
theorem ratio_Cmp.bits5 : waitsOk ratio_Cmp.T5.2 ratio_Cmp.B5 = true := by kernel_rfl
set_option maxHeartbeats 8000000 in
set_option maxRecDepth 100000 in
theorem ratio_Cmp.calls (a0_0 : Int) (a0_1 : Int) (a1_0 : Int) (a1_1 : Int) (r : Int) (w : World) (h : ratio_Cmp.f a0_0 a0_1 a1_0 a1_1 = some r) :
  Calls Try.prog 29 #[.agg #[.int .i64 a0_0, .int .i64 a0_1], .agg #[.int .i64 a1_0, .int .i64 a1_1]] w fun e w' => e = .returned (.int .i64 r) ∧ Below w.heap.size w w' := by
 have hu33 := Try.underlying33
 have HB := Aside0.mk (Below.refl w.heap.size w)
 have H : (if a0_0 < 0 then (if a1_0 < 0 then ((ratio_size.f a0_0).bind fun t108 => ((ratio_mul.f t108 (IntKind.u64.wrap (a1_1))).bind fun bt109 => ((ratio_size.f a1_0).bind fun t111 => ((ratio_mul.f t111 (IntKind.u64.wrap (a0_1))).bind fun bt112 => ((ratio_wide_cmp.f bt109.1 bt109.2 bt112.1 bt112.2).bind fun t114 => (some (wrap64 (-t114)))))))) else (some (-1))) else (if a1_0 < 0 then (some 1) else ((ratio_size.f a0_0).bind fun t115 => ((ratio_mul.f t115 (IntKind.u64.wrap (a1_1))).bind fun bt116 => ((ratio_size.f a1_0).bind fun t118 => ((ratio_mul.f t118 (IntKind.u64.wrap (a0_1))).bind fun bt119 => ((ratio_wide_cmp.f bt116.1 bt116.2 bt119.1 bt119.2).bind fun t121 => (some t121)))))))) = some r := h
 clear h
 by_cases c3 : a0_0 < 0
 ·rw [if_pos c3] at H
  have c3b0 : decide (a0_0 < 0) = true := decide_eq_true c3
  clear c3
  by_cases c4 : a1_0 < 0
  ·rw [if_pos c4] at H
   have c4b0 : decide (a1_0 < 0) = true := decide_eq_true c4
   clear c4
   replace H := Option.bind_eq_some_iff.mp H
   obtain ⟨t108, A50, H⟩ := H
   (try dsimp only at H)
   have A5 := Aside0.mk A50
   clear A50
   replace H := Option.bind_eq_some_iff.mp H
   obtain ⟨⟨t109, t110⟩, A60, H⟩ := H
   (try dsimp only at H)
   have A6 := Aside0.mk A60
   clear A60
   replace H := Option.bind_eq_some_iff.mp H
   obtain ⟨t111, A70, H⟩ := H
   (try dsimp only at H)
   have A7 := Aside0.mk A70
   clear A70
   replace H := Option.bind_eq_some_iff.mp H
   obtain ⟨⟨t112, t113⟩, A80, H⟩ := H
   (try dsimp only at H)
   have A8 := Aside0.mk A80
   clear A80
   replace H := Option.bind_eq_some_iff.mp H
   obtain ⟨t114, A90, H⟩ := H
   (try dsimp only at H)
   have A9 := Aside0.mk A90
   clear A90
   obtain rfl := Option.some.inj H
   go_enter Try.func29, Try.ntmps29
   try go_wp2_with (first | ((with_reducible refine gate_dst (N := 2) rfl ?_); refine box_event (by rfl) (N := 2) (by rfl) (cs := #[.int .i64 a0_0, .int .i64 a0_1]) (t := 33) (by first | (go_simp; done) | (go_simp; rfl)) ?_; intro gb106 hg w10 hbox hb; obtain ⟨hb_, hw_⟩ := box_facts (lA HB.out) hg hb; replace HB := Aside0.mk (hb_); have BK106 := Aside0.mk (hbox); have GW106 := Aside0.mk (hw_); have GE106 := Aside0.mk (hw_); clear hb hbox hg hb_ hw_) | ((with_reducible refine gate_dst (N := 3) rfl ?_); refine box_event (by rfl) (N := 3) (by rfl) (cs := #[.int .i64 a1_0, .int .i64 a1_1]) (t := 33) (by first | (go_simp; done) | (go_simp; rfl)) ?_; intro gb107 hg w11 hbox hb; obtain ⟨hb_, hw_⟩ := box_facts (by repeat (first | (with_reducible first | exact HB.out | apply l1 | apply l2 | apply l3 | refine below_set ?_ GE106.out) | exact HB.out)) hg hb; replace HB := Aside0.mk (hb_); have BK107 := Aside0.mk (hbox); have GW107 := Aside0.mk (hw_); have GE107 := Aside0.mk (hw_); have NB106_107 := Aside0.mk ((nL hg BK106.out)); have NB107_106 := Aside0.mk ((nG hg BK106.out)); replace BK106 := Aside0.mk (bB BK106.out hb); clear hb hbox hg hb_ hw_; have hnb12 := NB106_107.out; have hnc12 := NB107_106.out; obtain ⟨hcz13_0, hcz13_1, hfz13_0, hfz13_1⟩ := blk_cells2 BK106.out; obtain ⟨hcz14_0, hcz14_1, hfz14_0, hfz14_1⟩ := blk_cells2 BK107.out))
   replace BK106 := Aside0.mk (blk_drew BK106.out)
   replace BK107 := Aside0.mk (blk_drew BK107.out)
   replace HB := Aside0.mk (below_drew1 HB.out)
   refine start_ (n := 16) (S := fun w' => w'.cell? ⟨gb106, 0, none⟩ = some (.int .i64 a0_0) ∧ w'.cell? ⟨gb106, 1, none⟩ = some (.int .i64 a0_1) ∧ w'.cell? ⟨gb107, 0, none⟩ = some (.int .i64 a1_0) ∧ w'.cell? ⟨gb107, 1, none⟩ = some (.int .i64 a1_1)) (ds := []) #[false, false, false, false, false, false, false, false, false, false, false, false, false, false, false, false] (by kernel_rfl) rfl rfl ⟨(blk_cell BK106.out 0).trans rfl, (blk_cell BK106.out 1).trans rfl, (blk_cell BK107.out 0).trans rfl, (blk_cell BK107.out 1).trans rfl⟩ (fun hHeld => ?_); refine with_tabW ratio_Cmp.tab5 ratio_Cmp.bits5 (fun HT_ HW_ => ?_)
   generalize w11.drew = w15 at BK106 BK107 HB hHeld ⊢
   refine sched [(0, some 16), (3, some 19), (7, some 23), (10, some 26), (1, some 17), (4, some 20), (5, some 21), (8, some 24), (11, some 27), (12, some 28)] ?_
   iterate 10 first
    |(refine pureS (v := ?_) (a' := ?_) rfl rfl (any_of HT_.out (by kernel_rfl)) (fun _ _ _ h => h) (Or.inl ⟨by rfl, ?_⟩) ?_ ?_
      rotate_left
      ·intro w'
       go_simp
       with_reducible rfl
      rotate_left
      ·simp only [Act.put, List.setIfInBounds_toArray, List.set_cons_zero, List.set_cons_succ, i64_w, i32_w]
       rfl)
    |(refine takeS (v := ?_) (a' := ?_) rfl rfl (take_ofW HT_.out HW_.out (by kernel_rfl)) (fun _ _ _ h => h) (Or.inl ⟨by rfl, ?_⟩) hHeld ?_ ?_
      rotate_left
      ·rintro w' ⟨s0, s1, s2, s3⟩
       go_simp
       with_reducible rfl
      rotate_left
      ·simp only [Act.put, List.setIfInBounds_toArray, List.set_cons_zero, List.set_cons_succ, i64_w, i32_w]
       rfl)
   refine unsched ?_
   refine one_ (i := 2) (N := some 18) #[true, true, true, true, true, true, false, true, true, false, true, true, true, false, false, false] rfl rfl (one_of HT_.out (by kernel_rfl)) (by decide) (fun K hK => ?_)
   refine goes_ Try.func44 (by kernel_rfl) rfl #[.int .i64 a0_0] (by rfl) rfl rfl (by (try simp only [List.map_toArray, List.map_cons, List.map_nil]); first | done | rfl | (simp only [List.length_drop, List.length_take]; rfl)) ?_
   with_reducible refine (ratio_size.calls a0_0 t108 _ A5.out).mono ?_
   rintro e w' ⟨rfl, ⟨nd, rfl⟩⟩
   refine ⟨_, rfl, ?_⟩
   refine hK.out _ _ ⟨(blk_cell BK106.out 0).trans rfl, (blk_cell BK106.out 1).trans rfl, (blk_cell BK107.out 0).trans rfl, (blk_cell BK107.out 1).trans rfl⟩ (fun hHeld => ?_)
   clear hK K
   refine norm_ (a' := ?_) ?_ ?_
   rotate_left
   ·show Act.put _ (some 18) _ = _
    simp only [Act.put, List.setIfInBounds_toArray, List.set_cons_zero, List.set_cons_succ, i64_w, i32_w]
    rfl
   refine one_ (i := 6) (N := some 22) #[true, true, true, true, true, true, true, true, true, false, true, true, true, false, false, false] rfl rfl (one_of HT_.out (by kernel_rfl)) (by decide) (fun K hK => ?_)
   refine goes_ Try.func43 (by kernel_rfl) rfl #[.int .u64 t108, .int .u64 (IntKind.u64.wrap (a1_1))] (by rfl) rfl rfl (by (try simp only [List.map_toArray, List.map_cons, List.map_nil]); first | done | rfl | (simp only [List.length_drop, List.length_take]; rfl)) ?_
   with_reducible refine (ratio_mul.calls t108 (IntKind.u64.wrap (a1_1)) t109 t110 _ A6.out).mono ?_
   rintro e w16 ⟨rfl, hb⟩
   refine ⟨_, rfl, ?_⟩
   replace BK106 := Aside0.mk (bB BK106.out hb)
   replace BK107 := Aside0.mk (bB BK107.out hb)
   replace HB := Aside0.mk (below_step (by repeat (first | (with_reducible first | exact HB.out | apply l1 | apply l2 | apply l3 | refine below_set ?_ GE106.out | refine below_set ?_ GE107.out) | exact HB.out)) hb)
   (try clear hb)
   (try clear hb2)
   (try clear hk)
   (try clear hi)
   refine hK.out _ _ ⟨(blk_cell BK106.out 0).trans rfl, (blk_cell BK106.out 1).trans rfl, (blk_cell BK107.out 0).trans rfl, (blk_cell BK107.out 1).trans rfl⟩ (fun hHeld => ?_)
   clear hK K
   refine norm_ (a' := ?_) ?_ ?_
   rotate_left
   ·show Act.put _ (some 22) _ = _
    simp only [Act.put, List.setIfInBounds_toArray, List.set_cons_zero, List.set_cons_succ, i64_w, i32_w]
    rfl
   refine one_ (i := 9) (N := some 25) #[true, true, true, true, true, true, true, true, true, true, true, true, true, false, false, false] rfl rfl (one_of HT_.out (by kernel_rfl)) (by decide) (fun K hK => ?_)
   refine goes_ Try.func44 (by kernel_rfl) rfl #[.int .i64 a1_0] (by rfl) rfl rfl (by (try simp only [List.map_toArray, List.map_cons, List.map_nil]); first | done | rfl | (simp only [List.length_drop, List.length_take]; rfl)) ?_
   with_reducible refine (ratio_size.calls a1_0 t111 _ A7.out).mono ?_
   rintro e w' ⟨rfl, ⟨nd, rfl⟩⟩
   refine ⟨_, rfl, ?_⟩
   refine hK.out _ _ ⟨(blk_cell BK106.out 0).trans rfl, (blk_cell BK106.out 1).trans rfl, (blk_cell BK107.out 0).trans rfl, (blk_cell BK107.out 1).trans rfl⟩ (fun hHeld => ?_)
   clear hK K
   refine norm_ (a' := ?_) ?_ ?_
   rotate_left
   ·show Act.put _ (some 25) _ = _
    simp only [Act.put, List.setIfInBounds_toArray, List.set_cons_zero, List.set_cons_succ, i64_w, i32_w]
    rfl
   refine one_ (i := 13) (N := some 29) #[true, true, true, true, true, true, true, true, true, true, true, true, true, true, false, false] rfl rfl (one_of HT_.out (by kernel_rfl)) (by decide) (fun K hK => ?_)
   refine goes_ Try.func43 (by kernel_rfl) rfl #[.int .u64 t111, .int .u64 (IntKind.u64.wrap (a0_1))] (by rfl) rfl rfl (by (try simp only [List.map_toArray, List.map_cons, List.map_nil]); first | done | rfl | (simp only [List.length_drop, List.length_take]; rfl)) ?_
   with_reducible refine (ratio_mul.calls t111 (IntKind.u64.wrap (a0_1)) t112 t113 _ A8.out).mono ?_
   rintro e w17 ⟨rfl, hb⟩
   refine ⟨_, rfl, ?_⟩
   replace BK106 := Aside0.mk (bB BK106.out hb)
   replace BK107 := Aside0.mk (bB BK107.out hb)
   replace HB := Aside0.mk (below_step (by repeat (first | (with_reducible first | exact HB.out | apply l1 | apply l2 | apply l3 | refine below_set ?_ GE106.out | refine below_set ?_ GE107.out) | exact HB.out)) hb)
   (try clear hb)
   (try clear hb2)
   (try clear hk)
   (try clear hi)
   refine hK.out _ _ ⟨(blk_cell BK106.out 0).trans rfl, (blk_cell BK106.out 1).trans rfl, (blk_cell BK107.out 0).trans rfl, (blk_cell BK107.out 1).trans rfl⟩ (fun hHeld => ?_)
   clear hK K
   refine norm_ (a' := ?_) ?_ ?_
   rotate_left
   ·show Act.put _ (some 29) _ = _
    simp only [Act.put, List.setIfInBounds_toArray, List.set_cons_zero, List.set_cons_succ, i64_w, i32_w]
    rfl
   refine one_ (i := 14) (N := some 30) #[true, true, true, true, true, true, true, true, true, true, true, true, true, true, true, false] rfl rfl (one_of HT_.out (by kernel_rfl)) (by decide) (fun K hK => ?_)
   refine goes_ Try.func45 (by kernel_rfl) rfl #[.agg #[.int .u64 t109, .int .u64 t110], .agg #[.int .u64 t112, .int .u64 t113]] (by rfl) rfl rfl (by (try simp only [List.map_toArray, List.map_cons, List.map_nil]); first | done | rfl | (simp only [List.length_drop, List.length_take]; rfl)) ?_
   with_reducible refine (ratio_wide_cmp.calls t109 t110 t112 t113 t114 _ A9.out).mono ?_
   rintro e w18 ⟨rfl, hb⟩
   refine ⟨_, rfl, ?_⟩
   replace BK106 := Aside0.mk (bB BK106.out hb)
   replace BK107 := Aside0.mk (bB BK107.out hb)
   replace HB := Aside0.mk (below_step (by repeat (first | (with_reducible first | exact HB.out | apply l1 | apply l2 | apply l3 | refine below_set ?_ GE106.out | refine below_set ?_ GE107.out) | exact HB.out)) hb)
   (try clear hb)
   (try clear hb2)
   (try clear hk)
   (try clear hi)
   refine hK.out _ _ ⟨(blk_cell BK106.out 0).trans rfl, (blk_cell BK106.out 1).trans rfl, (blk_cell BK107.out 0).trans rfl, (blk_cell BK107.out 1).trans rfl⟩ (fun hHeld => ?_)
   clear hK K
   refine norm_ (a' := ?_) ?_ ?_
   rotate_left
   ·show Act.put _ (some 30) _ = _
    simp only [Act.put, List.setIfInBounds_toArray, List.set_cons_zero, List.set_cons_succ, i64_w, i32_w]
    rfl
   refine pure_ (i := 15) (N := some 5) (v := ?_) (a' := ?_) #[true, true, true, true, true, true, true, true, true, true, true, true, true, true, true, true] rfl rfl (any_of HT_.out (by kernel_rfl)) (fun _ _ _ h => h) (Or.inl ⟨by rfl, ?_⟩) ?_ ?_
   rotate_left
   ·intro w'
    go_simp
    with_reducible rfl
   rotate_left
   ·simp only [Act.put, List.setIfInBounds_toArray, List.set_cons_zero, List.set_cons_succ, i64_w, i32_w]
    rfl
   refine done_ (done_of HT_.out (by kernel_rfl)) ?_
   obtain ⟨hcz19_0, hcz19_1, hfz19_0, hfz19_1⟩ := blk_cells2 BK106.out
   try go_wp2
   go_ret
   exact ⟨by first | rfl | (simp [errW_none, errW_some] <;> rfl) | (simp [*, errW_none, errW_some] <;> rfl), by repeat (first | (with_reducible first | exact HB.out | apply l1 | apply l2 | apply l3 | refine below_set ?_ GE106.out | refine below_set ?_ GE107.out) | exact HB.out)⟩
  ·rw [if_neg c4] at H
   have c4b0 : decide (a1_0 < 0) = false := decide_eq_false c4
   clear c4
   obtain rfl := Option.some.inj H
   go_enter Try.func29, Try.ntmps29
   go_wp2_with (first | ((with_reducible refine gate_dst (N := 2) rfl ?_); refine box_event (by rfl) (N := 2) (by rfl) (cs := #[.int .i64 a0_0, .int .i64 a0_1]) (t := 33) (by first | (go_simp; done) | (go_simp; rfl)) ?_; intro gb106 hg w20 hbox hb; obtain ⟨hb_, hw_⟩ := box_facts (lA HB.out) hg hb; replace HB := Aside0.mk (hb_); have BK106 := Aside0.mk (hbox); have GW106 := Aside0.mk (hw_); have GE106 := Aside0.mk (hw_); clear hb hbox hg hb_ hw_) | ((with_reducible refine gate_dst (N := 3) rfl ?_); refine box_event (by rfl) (N := 3) (by rfl) (cs := #[.int .i64 a1_0, .int .i64 a1_1]) (t := 33) (by first | (go_simp; done) | (go_simp; rfl)) ?_; intro gb107 hg w21 hbox hb; obtain ⟨hb_, hw_⟩ := box_facts (by repeat (first | (with_reducible first | exact HB.out | apply l1 | apply l2 | apply l3 | refine below_set ?_ GE106.out) | exact HB.out)) hg hb; replace HB := Aside0.mk (hb_); have BK107 := Aside0.mk (hbox); have GW107 := Aside0.mk (hw_); have GE107 := Aside0.mk (hw_); have NB106_107 := Aside0.mk ((nL hg BK106.out)); have NB107_106 := Aside0.mk ((nG hg BK106.out)); replace BK106 := Aside0.mk (bB BK106.out hb); clear hb hbox hg hb_ hw_; have hnb22 := NB106_107.out; have hnc22 := NB107_106.out; obtain ⟨hcz23_0, hcz23_1, hfz23_0, hfz23_1⟩ := blk_cells2 BK106.out; obtain ⟨hcz24_0, hcz24_1, hfz24_0, hfz24_1⟩ := blk_cells2 BK107.out))
   go_ret
   exact ⟨by first | rfl | (simp [errW_none, errW_some] <;> rfl) | (simp [*, errW_none, errW_some] <;> rfl), by repeat (first | (with_reducible first | exact HB.out | apply l1 | apply l2 | apply l3 | refine below_set ?_ GE106.out | refine below_set ?_ GE107.out) | exact HB.out)⟩
 ·rw [if_neg c3] at H
  have c3b0 : decide (a0_0 < 0) = false := decide_eq_false c3
  clear c3
  by_cases c25 : a1_0 < 0
  ·rw [if_pos c25] at H
   have c25b0 : decide (a1_0 < 0) = true := decide_eq_true c25
   clear c25
   obtain rfl := Option.some.inj H
   go_enter Try.func29, Try.ntmps29
   go_wp2_with (first | ((with_reducible refine gate_dst (N := 2) rfl ?_); refine box_event (by rfl) (N := 2) (by rfl) (cs := #[.int .i64 a0_0, .int .i64 a0_1]) (t := 33) (by first | (go_simp; done) | (go_simp; rfl)) ?_; intro gb106 hg w26 hbox hb; obtain ⟨hb_, hw_⟩ := box_facts (lA HB.out) hg hb; replace HB := Aside0.mk (hb_); have BK106 := Aside0.mk (hbox); have GW106 := Aside0.mk (hw_); have GE106 := Aside0.mk (hw_); clear hb hbox hg hb_ hw_) | ((with_reducible refine gate_dst (N := 3) rfl ?_); refine box_event (by rfl) (N := 3) (by rfl) (cs := #[.int .i64 a1_0, .int .i64 a1_1]) (t := 33) (by first | (go_simp; done) | (go_simp; rfl)) ?_; intro gb107 hg w27 hbox hb; obtain ⟨hb_, hw_⟩ := box_facts (by repeat (first | (with_reducible first | exact HB.out | apply l1 | apply l2 | apply l3 | refine below_set ?_ GE106.out) | exact HB.out)) hg hb; replace HB := Aside0.mk (hb_); have BK107 := Aside0.mk (hbox); have GW107 := Aside0.mk (hw_); have GE107 := Aside0.mk (hw_); have NB106_107 := Aside0.mk ((nL hg BK106.out)); have NB107_106 := Aside0.mk ((nG hg BK106.out)); replace BK106 := Aside0.mk (bB BK106.out hb); clear hb hbox hg hb_ hw_; have hnb28 := NB106_107.out; have hnc28 := NB107_106.out; obtain ⟨hcz29_0, hcz29_1, hfz29_0, hfz29_1⟩ := blk_cells2 BK106.out; obtain ⟨hcz30_0, hcz30_1, hfz30_0, hfz30_1⟩ := blk_cells2 BK107.out))
   go_ret
   exact ⟨by first | rfl | (simp [errW_none, errW_some] <;> rfl) | (simp [*, errW_none, errW_some] <;> rfl), by repeat (first | (with_reducible first | exact HB.out | apply l1 | apply l2 | apply l3 | refine below_set ?_ GE106.out | refine below_set ?_ GE107.out) | exact HB.out)⟩
  ·rw [if_neg c25] at H
   have c25b0 : decide (a1_0 < 0) = false := decide_eq_false c25
   clear c25
   replace H := Option.bind_eq_some_iff.mp H
   obtain ⟨t115, A310, H⟩ := H
   (try dsimp only at H)
   have A31 := Aside0.mk A310
   clear A310
   replace H := Option.bind_eq_some_iff.mp H
   obtain ⟨⟨t116, t117⟩, A320, H⟩ := H
   (try dsimp only at H)
   have A32 := Aside0.mk A320
   clear A320
   replace H := Option.bind_eq_some_iff.mp H
   obtain ⟨t118, A330, H⟩ := H
   (try dsimp only at H)
   have A33 := Aside0.mk A330
   clear A330
   replace H := Option.bind_eq_some_iff.mp H
   obtain ⟨⟨t119, t120⟩, A340, H⟩ := H
   (try dsimp only at H)
   have A34 := Aside0.mk A340
   clear A340
   replace H := Option.bind_eq_some_iff.mp H
   obtain ⟨t121, A350, H⟩ := H
   (try dsimp only at H)
   have A35 := Aside0.mk A350
   clear A350
   obtain rfl := Option.some.inj H
   go_enter Try.func29, Try.ntmps29
   try go_wp2_with (first | ((with_reducible refine gate_dst (N := 2) rfl ?_); refine box_event (by rfl) (N := 2) (by rfl) (cs := #[.int .i64 a0_0, .int .i64 a0_1]) (t := 33) (by first | (go_simp; done) | (go_simp; rfl)) ?_; intro gb106 hg w36 hbox hb; obtain ⟨hb_, hw_⟩ := box_facts (lA HB.out) hg hb; replace HB := Aside0.mk (hb_); have BK106 := Aside0.mk (hbox); have GW106 := Aside0.mk (hw_); have GE106 := Aside0.mk (hw_); clear hb hbox hg hb_ hw_) | ((with_reducible refine gate_dst (N := 3) rfl ?_); refine box_event (by rfl) (N := 3) (by rfl) (cs := #[.int .i64 a1_0, .int .i64 a1_1]) (t := 33) (by first | (go_simp; done) | (go_simp; rfl)) ?_; intro gb107 hg w37 hbox hb; obtain ⟨hb_, hw_⟩ := box_facts (by repeat (first | (with_reducible first | exact HB.out | apply l1 | apply l2 | apply l3 | refine below_set ?_ GE106.out) | exact HB.out)) hg hb; replace HB := Aside0.mk (hb_); have BK107 := Aside0.mk (hbox); have GW107 := Aside0.mk (hw_); have GE107 := Aside0.mk (hw_); have NB106_107 := Aside0.mk ((nL hg BK106.out)); have NB107_106 := Aside0.mk ((nG hg BK106.out)); replace BK106 := Aside0.mk (bB BK106.out hb); clear hb hbox hg hb_ hw_; have hnb38 := NB106_107.out; have hnc38 := NB107_106.out; obtain ⟨hcz39_0, hcz39_1, hfz39_0, hfz39_1⟩ := blk_cells2 BK106.out; obtain ⟨hcz40_0, hcz40_1, hfz40_0, hfz40_1⟩ := blk_cells2 BK107.out))
   replace BK106 := Aside0.mk (blk_drew BK106.out)
   replace BK107 := Aside0.mk (blk_drew BK107.out)
   replace HB := Aside0.mk (below_drew1 HB.out)
   refine start_ (n := 16) (S := fun w' => w'.cell? ⟨gb106, 0, none⟩ = some (.int .i64 a0_0) ∧ w'.cell? ⟨gb106, 1, none⟩ = some (.int .i64 a0_1) ∧ w'.cell? ⟨gb107, 0, none⟩ = some (.int .i64 a1_0) ∧ w'.cell? ⟨gb107, 1, none⟩ = some (.int .i64 a1_1)) (ds := []) #[false, false, false, false, false, false, false, false, false, false, false, false, false, false, false, false] (by kernel_rfl) rfl rfl ⟨(blk_cell BK106.out 0).trans rfl, (blk_cell BK106.out 1).trans rfl, (blk_cell BK107.out 0).trans rfl, (blk_cell BK107.out 1).trans rfl⟩ (fun hHeld => ?_); refine with_tabW ratio_Cmp.tab5 ratio_Cmp.bits5 (fun HT_ HW_ => ?_)
   generalize w37.drew = w41 at BK106 BK107 HB hHeld ⊢
   refine sched [(0, some 16), (3, some 19), (7, some 23), (10, some 26), (1, some 17), (4, some 20), (5, some 21), (8, some 24), (11, some 27), (12, some 28)] ?_
   iterate 10 first
    |(refine pureS (v := ?_) (a' := ?_) rfl rfl (any_of HT_.out (by kernel_rfl)) (fun _ _ _ h => h) (Or.inl ⟨by rfl, ?_⟩) ?_ ?_
      rotate_left
      ·intro w'
       go_simp
       with_reducible rfl
      rotate_left
      ·simp only [Act.put, List.setIfInBounds_toArray, List.set_cons_zero, List.set_cons_succ, i64_w, i32_w]
       rfl)
    |(refine takeS (v := ?_) (a' := ?_) rfl rfl (take_ofW HT_.out HW_.out (by kernel_rfl)) (fun _ _ _ h => h) (Or.inl ⟨by rfl, ?_⟩) hHeld ?_ ?_
      rotate_left
      ·rintro w' ⟨s0, s1, s2, s3⟩
       go_simp
       with_reducible rfl
      rotate_left
      ·simp only [Act.put, List.setIfInBounds_toArray, List.set_cons_zero, List.set_cons_succ, i64_w, i32_w]
       rfl)
   refine unsched ?_
   refine one_ (i := 2) (N := some 18) #[true, true, true, true, true, true, false, true, true, false, true, true, true, false, false, false] rfl rfl (one_of HT_.out (by kernel_rfl)) (by decide) (fun K hK => ?_)
   refine goes_ Try.func44 (by kernel_rfl) rfl #[.int .i64 a0_0] (by rfl) rfl rfl (by (try simp only [List.map_toArray, List.map_cons, List.map_nil]); first | done | rfl | (simp only [List.length_drop, List.length_take]; rfl)) ?_
   with_reducible refine (ratio_size.calls a0_0 t115 _ A31.out).mono ?_
   rintro e w' ⟨rfl, ⟨nd, rfl⟩⟩
   refine ⟨_, rfl, ?_⟩
   refine hK.out _ _ ⟨(blk_cell BK106.out 0).trans rfl, (blk_cell BK106.out 1).trans rfl, (blk_cell BK107.out 0).trans rfl, (blk_cell BK107.out 1).trans rfl⟩ (fun hHeld => ?_)
   clear hK K
   refine norm_ (a' := ?_) ?_ ?_
   rotate_left
   ·show Act.put _ (some 18) _ = _
    simp only [Act.put, List.setIfInBounds_toArray, List.set_cons_zero, List.set_cons_succ, i64_w, i32_w]
    rfl
   refine one_ (i := 6) (N := some 22) #[true, true, true, true, true, true, true, true, true, false, true, true, true, false, false, false] rfl rfl (one_of HT_.out (by kernel_rfl)) (by decide) (fun K hK => ?_)
   refine goes_ Try.func43 (by kernel_rfl) rfl #[.int .u64 t115, .int .u64 (IntKind.u64.wrap (a1_1))] (by rfl) rfl rfl (by (try simp only [List.map_toArray, List.map_cons, List.map_nil]); first | done | rfl | (simp only [List.length_drop, List.length_take]; rfl)) ?_
   with_reducible refine (ratio_mul.calls t115 (IntKind.u64.wrap (a1_1)) t116 t117 _ A32.out).mono ?_
   rintro e w42 ⟨rfl, hb⟩
   refine ⟨_, rfl, ?_⟩
   replace BK106 := Aside0.mk (bB BK106.out hb)
   replace BK107 := Aside0.mk (bB BK107.out hb)
   replace HB := Aside0.mk (below_step (by repeat (first | (with_reducible first | exact HB.out | apply l1 | apply l2 | apply l3 | refine below_set ?_ GE106.out | refine below_set ?_ GE107.out) | exact HB.out)) hb)
   (try clear hb)
   (try clear hb2)
   (try clear hk)
   (try clear hi)
   refine hK.out _ _ ⟨(blk_cell BK106.out 0).trans rfl, (blk_cell BK106.out 1).trans rfl, (blk_cell BK107.out 0).trans rfl, (blk_cell BK107.out 1).trans rfl⟩ (fun hHeld => ?_)
   clear hK K
   refine norm_ (a' := ?_) ?_ ?_
   rotate_left
   ·show Act.put _ (some 22) _ = _
    simp only [Act.put, List.setIfInBounds_toArray, List.set_cons_zero, List.set_cons_succ, i64_w, i32_w]
    rfl
   refine one_ (i := 9) (N := some 25) #[true, true, true, true, true, true, true, true, true, true, true, true, true, false, false, false] rfl rfl (one_of HT_.out (by kernel_rfl)) (by decide) (fun K hK => ?_)
   refine goes_ Try.func44 (by kernel_rfl) rfl #[.int .i64 a1_0] (by rfl) rfl rfl (by (try simp only [List.map_toArray, List.map_cons, List.map_nil]); first | done | rfl | (simp only [List.length_drop, List.length_take]; rfl)) ?_
   with_reducible refine (ratio_size.calls a1_0 t118 _ A33.out).mono ?_
   rintro e w' ⟨rfl, ⟨nd, rfl⟩⟩
   refine ⟨_, rfl, ?_⟩
   refine hK.out _ _ ⟨(blk_cell BK106.out 0).trans rfl, (blk_cell BK106.out 1).trans rfl, (blk_cell BK107.out 0).trans rfl, (blk_cell BK107.out 1).trans rfl⟩ (fun hHeld => ?_)
   clear hK K
   refine norm_ (a' := ?_) ?_ ?_
   rotate_left
   ·show Act.put _ (some 25) _ = _
    simp only [Act.put, List.setIfInBounds_toArray, List.set_cons_zero, List.set_cons_succ, i64_w, i32_w]
    rfl
   refine one_ (i := 13) (N := some 29) #[true, true, true, true, true, true, true, true, true, true, true, true, true, true, false, false] rfl rfl (one_of HT_.out (by kernel_rfl)) (by decide) (fun K hK => ?_)
   refine goes_ Try.func43 (by kernel_rfl) rfl #[.int .u64 t118, .int .u64 (IntKind.u64.wrap (a0_1))] (by rfl) rfl rfl (by (try simp only [List.map_toArray, List.map_cons, List.map_nil]); first | done | rfl | (simp only [List.length_drop, List.length_take]; rfl)) ?_
   with_reducible refine (ratio_mul.calls t118 (IntKind.u64.wrap (a0_1)) t119 t120 _ A34.out).mono ?_
   rintro e w43 ⟨rfl, hb⟩
   refine ⟨_, rfl, ?_⟩
   replace BK106 := Aside0.mk (bB BK106.out hb)
   replace BK107 := Aside0.mk (bB BK107.out hb)
   replace HB := Aside0.mk (below_step (by repeat (first | (with_reducible first | exact HB.out | apply l1 | apply l2 | apply l3 | refine below_set ?_ GE106.out | refine below_set ?_ GE107.out) | exact HB.out)) hb)
   (try clear hb)
   (try clear hb2)
   (try clear hk)
   (try clear hi)
   refine hK.out _ _ ⟨(blk_cell BK106.out 0).trans rfl, (blk_cell BK106.out 1).trans rfl, (blk_cell BK107.out 0).trans rfl, (blk_cell BK107.out 1).trans rfl⟩ (fun hHeld => ?_)
   clear hK K
   refine norm_ (a' := ?_) ?_ ?_
   rotate_left
   ·show Act.put _ (some 29) _ = _
    simp only [Act.put, List.setIfInBounds_toArray, List.set_cons_zero, List.set_cons_succ, i64_w, i32_w]
    rfl
   refine one_ (i := 14) (N := some 30) #[true, true, true, true, true, true, true, true, true, true, true, true, true, true, true, false] rfl rfl (one_of HT_.out (by kernel_rfl)) (by decide) (fun K hK => ?_)
   refine goes_ Try.func45 (by kernel_rfl) rfl #[.agg #[.int .u64 t116, .int .u64 t117], .agg #[.int .u64 t119, .int .u64 t120]] (by rfl) rfl rfl (by (try simp only [List.map_toArray, List.map_cons, List.map_nil]); first | done | rfl | (simp only [List.length_drop, List.length_take]; rfl)) ?_
   with_reducible refine (ratio_wide_cmp.calls t116 t117 t119 t120 t121 _ A35.out).mono ?_
   rintro e w44 ⟨rfl, hb⟩
   refine ⟨_, rfl, ?_⟩
   replace BK106 := Aside0.mk (bB BK106.out hb)
   replace BK107 := Aside0.mk (bB BK107.out hb)
   replace HB := Aside0.mk (below_step (by repeat (first | (with_reducible first | exact HB.out | apply l1 | apply l2 | apply l3 | refine below_set ?_ GE106.out | refine below_set ?_ GE107.out) | exact HB.out)) hb)
   (try clear hb)
   (try clear hb2)
   (try clear hk)
   (try clear hi)
   refine hK.out _ _ ⟨(blk_cell BK106.out 0).trans rfl, (blk_cell BK106.out 1).trans rfl, (blk_cell BK107.out 0).trans rfl, (blk_cell BK107.out 1).trans rfl⟩ (fun hHeld => ?_)
   clear hK K
   refine norm_ (a' := ?_) ?_ ?_
   rotate_left
   ·show Act.put _ (some 30) _ = _
    simp only [Act.put, List.setIfInBounds_toArray, List.set_cons_zero, List.set_cons_succ, i64_w, i32_w]
    rfl
   refine pure_ (i := 15) (N := some 5) (v := ?_) (a' := ?_) #[true, true, true, true, true, true, true, true, true, true, true, true, true, true, true, true] rfl rfl (any_of HT_.out (by kernel_rfl)) (fun _ _ _ h => h) (Or.inl ⟨by rfl, ?_⟩) ?_ ?_
   rotate_left
   ·intro w'
    go_simp
    with_reducible rfl
   rotate_left
   ·simp only [Act.put, List.setIfInBounds_toArray, List.set_cons_zero, List.set_cons_succ, i64_w, i32_w]
    rfl
   refine done_ (done_of HT_.out (by kernel_rfl)) ?_
   obtain ⟨hcz45_0, hcz45_1, hfz45_0, hfz45_1⟩ := blk_cells2 BK106.out
   try go_wp2
   go_ret
   exact ⟨by first | rfl | (simp [errW_none, errW_some] <;> rfl) | (simp [*, errW_none, errW_some] <;> rfl), by repeat (first | (with_reducible first | exact HB.out | apply l1 | apply l2 | apply l3 | refine below_set ?_ GE106.out | refine below_set ?_ GE107.out) | exact HB.out)⟩
def cue_Compare.f (a0_0 : Int) (a0_1 : Int) (a0_2 : Int) (a0_3 : Int) (a0_4 : Int) (a0_5 : Int) (a0_6 : ByteArray) (a0_7 : ByteArray) (l0_8 : List (S79)) (a1_0 : Int) (a1_1 : Int) (a1_2 : Int) (a1_3 : Int) (a1_4 : Int) (a1_5 : Int) (a1_6 : ByteArray) (a1_7 : ByteArray) (l1_8 : List (S79)) : Option (Int) := (ratio_Cmp.f a0_0 a0_1 a1_0 a1_1).bind fun t124 => (if t124 = 0 then ((ratio_Cmp.f a0_2 a0_3 a1_2 a1_3).bind fun t125 => (some t125)) else (some t124))
set_option maxHeartbeats 8000000 in
set_option maxRecDepth 100000 in
theorem cue_Compare.calls (a0_0 : Int) (a0_1 : Int) (a0_2 : Int) (a0_3 : Int) (a0_4 : Int) (a0_5 : Int) (a0_6 : ByteArray) (a0_7 : ByteArray) (A0_8 : Option Addr) (c0_8 : Nat) (l0_8 : List (S79)) (a1_0 : Int) (a1_1 : Int) (a1_2 : Int) (a1_3 : Int) (a1_4 : Int) (a1_5 : Int) (a1_6 : ByteArray) (a1_7 : ByteArray) (A1_8 : Option Addr) (c1_8 : Nat) (l1_8 : List (S79)) (r : Int) (w : World) (hr0_8 : Kd.C k79 w A0_8 l0_8.length l0_8) (hc0_8 : l0_8.length ≤ c0_8) (hr1_8 : Kd.C k79 w A1_8 l1_8.length l1_8) (hc1_8 : l1_8.length ≤ c1_8) (h : cue_Compare.f a0_0 a0_1 a0_2 a0_3 a0_4 a0_5 a0_6 a0_7 l0_8 a1_0 a1_1 a1_2 a1_3 a1_4 a1_5 a1_6 a1_7 l1_8 = some r) :
  Calls Try.prog 15 #[.agg #[.int .i64 a0_0, .int .i64 a0_1, .int .i64 a0_2, .int .i64 a0_3, .int .i64 a0_4, .int .i64 a0_5, .string a0_6, .string a0_7, .slice A0_8 l0_8.length c0_8], .agg #[.int .i64 a1_0, .int .i64 a1_1, .int .i64 a1_2, .int .i64 a1_3, .int .i64 a1_4, .int .i64 a1_5, .string a1_6, .string a1_7, .slice A1_8 l1_8.length c1_8]] w fun e w' => e = .returned (.int .i64 r) ∧ Below w.heap.size w w' := by
 have hu38 := Try.underlying38
 have hu33 := Try.underlying33
 have HR0_8 := Aside0.mk hr0_8
 have HC0_8 := Aside0.mk hc0_8
 clear hr0_8 hc0_8
 have HR1_8 := Aside0.mk hr1_8
 have HC1_8 := Aside0.mk hc1_8
 clear hr1_8 hc1_8
 have HB := Aside0.mk (Below.refl w.heap.size w)
 have H : ((ratio_Cmp.f a0_0 a0_1 a1_0 a1_1).bind fun t124 => (if t124 = 0 then ((ratio_Cmp.f a0_2 a0_3 a1_2 a1_3).bind fun t125 => (some t125)) else (some t124))) = some r := h
 clear h
 replace H := Option.bind_eq_some_iff.mp H
 obtain ⟨t124, A30, H⟩ := H
 (try dsimp only at H)
 have A3 := Aside0.mk A30
 clear A30
 by_cases c4 : t124 = 0 <;> first
 |(rw [if_pos c4] at H
   have c4b0 : (t124 == 0) = true := beq_iff_eq.mpr c4
   have c4b1 : (t124 != 0) = false := bne_eq_false_iff_eq.mpr c4
   clear c4
   replace H := Option.bind_eq_some_iff.mp H
   obtain ⟨t125, A50, H⟩ := H
   (try dsimp only at H)
   have A5 := Aside0.mk A50
   clear A50
   obtain rfl := Option.some.inj H
   have z15 := trivial)
 |(rw [if_neg c4] at H
   have c4b0 : (t124 == 0) = false := beq_eq_false_iff_ne.mpr c4
   have c4b1 : (t124 != 0) = true := bne_iff_ne.mpr c4
   obtain rfl := Option.some.inj H
   have z16 := trivial)
 all_goals
  go_enter Try.func15, Try.ntmps15
  go_wp2_with (first | ((with_reducible refine gate_dst (N := 2) rfl ?_); refine box_event (by rfl) (N := 2) (by rfl) (cs := #[.int .i64 a0_0, .int .i64 a0_1, .int .i64 a0_2, .int .i64 a0_3, .int .i64 a0_4, .int .i64 a0_5, .string a0_6, .string a0_7, .slice A0_8 l0_8.length c0_8]) (t := 38) (by first | (go_simp; done) | (go_simp; rfl)) ?_; intro gb122 hg w6 hbox hb; obtain ⟨hb_, hw_⟩ := box_facts (lA HB.out) hg hb; replace HB := Aside0.mk (hb_); have BK122 := Aside0.mk (hbox); have GW122 := Aside0.mk (hw_); have GE122 := Aside0.mk (hw_); clear hb hbox hg hb_ hw_) | ((with_reducible refine gate_dst (N := 3) rfl ?_); refine box_event (by rfl) (N := 3) (by rfl) (cs := #[.int .i64 a1_0, .int .i64 a1_1, .int .i64 a1_2, .int .i64 a1_3, .int .i64 a1_4, .int .i64 a1_5, .string a1_6, .string a1_7, .slice A1_8 l1_8.length c1_8]) (t := 38) (by first | (go_simp; done) | (go_simp; rfl)) ?_; intro gb123 hg w7 hbox hb; obtain ⟨hb_, hw_⟩ := box_facts (by repeat (first | (with_reducible first | exact HB.out | apply l1 | apply l2 | apply l3 | refine below_set ?_ GE122.out) | exact HB.out)) hg hb; replace HB := Aside0.mk (hb_); have BK123 := Aside0.mk (hbox); have GW123 := Aside0.mk (hw_); have GE123 := Aside0.mk (hw_); have NB122_123 := Aside0.mk ((nL hg BK122.out)); have NB123_122 := Aside0.mk ((nG hg BK122.out)); replace BK122 := Aside0.mk (bB BK122.out hb); clear hb hbox hg hb_ hw_; have hnb8 := NB122_123.out; have hnc8 := NB123_122.out; obtain ⟨hcz9_0, hcz9_1, hcz9_2, hcz9_3, hcz9_4, hcz9_5, hcz9_6, hcz9_7, hcz9_8, hfz9_0, hfz9_1, hfz9_2, hfz9_3, hfz9_4, hfz9_5, hfz9_6, hfz9_7, hfz9_8⟩ := blk_cells9 BK122.out; obtain ⟨hcz10_0, hcz10_1, hcz10_2, hcz10_3, hcz10_4, hcz10_5, hcz10_6, hcz10_7, hcz10_8, hfz10_0, hfz10_1, hfz10_2, hfz10_3, hfz10_4, hfz10_5, hfz10_6, hfz10_7, hfz10_8⟩ := blk_cells9 BK123.out) | ((revert z16; intro z16); ((with_reducible refine gate_callee (f := 29) rfl ?_); refine goesL_ (some 10) rfl rfl Try.func29 (by kernel_rfl) rfl #[.agg #[.int .i64 a0_0, .int .i64 a0_1], .agg #[.int .i64 a1_0, .int .i64 a1_1]] rfl (by (try simp only [List.map_toArray, List.map_cons, List.map_nil]); first | done | rfl | (simp only [List.length_drop, List.length_take]; rfl)) ?_; (with_reducible refine (ratio_Cmp.calls a0_0 a0_1 a1_0 a1_1 t124 _ A3.out).mono ?_); rintro e w20 ⟨rfl, hb⟩; refine ⟨_, rfl, ?_⟩; replace BK122 := Aside0.mk (bB BK122.out hb); replace BK123 := Aside0.mk (bB BK123.out hb); replace HB := Aside0.mk (below_step (by repeat (first | (with_reducible first | exact HB.out | apply l1 | apply l2 | apply l3 | refine below_set ?_ GE122.out | refine below_set ?_ GE123.out) | exact HB.out)) hb); (try clear hb); (try clear hb2); (try clear hk); (try clear hi))) | ((revert z15; intro z15); ((with_reducible refine gate_callee (f := 29) rfl ?_); refine goesL_ (some 10) rfl rfl Try.func29 (by kernel_rfl) rfl #[.agg #[.int .i64 a0_0, .int .i64 a0_1], .agg #[.int .i64 a1_0, .int .i64 a1_1]] rfl (by (try simp only [List.map_toArray, List.map_cons, List.map_nil]); first | done | rfl | (simp only [List.length_drop, List.length_take]; rfl)) ?_; (with_reducible refine (ratio_Cmp.calls a0_0 a0_1 a1_0 a1_1 t124 _ A3.out).mono ?_); rintro e w11 ⟨rfl, hb⟩; refine ⟨_, rfl, ?_⟩; replace BK122 := Aside0.mk (bB BK122.out hb); replace BK123 := Aside0.mk (bB BK123.out hb); replace HB := Aside0.mk (below_step (by repeat (first | (with_reducible first | exact HB.out | apply l1 | apply l2 | apply l3 | refine below_set ?_ GE122.out | refine below_set ?_ GE123.out) | exact HB.out)) hb); (try clear hb); (try clear hb2); (try clear hk); (try clear hi); obtain ⟨hcz12_0, hcz12_1, hcz12_2, hcz12_3, hcz12_4, hcz12_5, hcz12_6, hcz12_7, hcz12_8, hfz12_0, hfz12_1, hfz12_2, hfz12_3, hfz12_4, hfz12_5, hfz12_6, hfz12_7, hfz12_8⟩ := blk_cells9 BK122.out; obtain ⟨hcz13_0, hcz13_1, hcz13_2, hcz13_3, hcz13_4, hcz13_5, hcz13_6, hcz13_7, hcz13_8, hfz13_0, hfz13_1, hfz13_2, hfz13_3, hfz13_4, hfz13_5, hfz13_6, hfz13_7, hfz13_8⟩ := blk_cells9 BK123.out)) | ((revert z15; intro z15); ((with_reducible refine gate_callee (f := 29) rfl ?_); refine goesL_ (some 18) rfl rfl Try.func29 (by kernel_rfl) rfl #[.agg #[.int .i64 a0_2, .int .i64 a0_3], .agg #[.int .i64 a1_2, .int .i64 a1_3]] rfl (by (try simp only [List.map_toArray, List.map_cons, List.map_nil]); first | done | rfl | (simp only [List.length_drop, List.length_take]; rfl)) ?_; (with_reducible refine (ratio_Cmp.calls a0_2 a0_3 a1_2 a1_3 t125 _ A5.out).mono ?_); rintro e w14 ⟨rfl, hb⟩; refine ⟨_, rfl, ?_⟩; replace BK122 := Aside0.mk (bB BK122.out hb); replace BK123 := Aside0.mk (bB BK123.out hb); replace HB := Aside0.mk (below_step (by repeat (first | (with_reducible first | exact HB.out | apply l1 | apply l2 | apply l3 | refine below_set ?_ GE122.out | refine below_set ?_ GE123.out) | exact HB.out)) hb); (try clear hb); (try clear hb2); (try clear hk); (try clear hi))))
  go_ret
  exact ⟨by first | rfl | (simp [errW_none, errW_some] <;> rfl) | (simp [*, errW_none, errW_some] <;> rfl), by repeat (first | (with_reducible first | exact HB.out | apply l1 | apply l2 | apply l3 | refine below_set ?_ GE122.out | refine below_set ?_ GE123.out) | exact HB.out)⟩
set_option maxHeartbeats 8000000 in
set_option maxRecDepth 100000 in
theorem cue_Compare.callsV (a0_0 : Int) (a0_1 : Int) (a0_2 : Int) (a0_3 : Int) (a0_4 : Int) (a0_5 : Int) (a0_6 : ByteArray) (a0_7 : ByteArray) (A0_8 : Option Addr) (c0_8 : Nat) (n0_8 : Nat) (a1_0 : Int) (a1_1 : Int) (a1_2 : Int) (a1_3 : Int) (a1_4 : Int) (a1_5 : Int) (a1_6 : ByteArray) (a1_7 : ByteArray) (A1_8 : Option Addr) (c1_8 : Nat) (n1_8 : Nat) (r : Int) (w : World) (h : cue_Compare.f a0_0 a0_1 a0_2 a0_3 a0_4 a0_5 a0_6 a0_7 [] a1_0 a1_1 a1_2 a1_3 a1_4 a1_5 a1_6 a1_7 [] = some r) :
  Calls Try.prog 15 #[.agg #[.int .i64 a0_0, .int .i64 a0_1, .int .i64 a0_2, .int .i64 a0_3, .int .i64 a0_4, .int .i64 a0_5, .string a0_6, .string a0_7, .slice A0_8 n0_8 c0_8], .agg #[.int .i64 a1_0, .int .i64 a1_1, .int .i64 a1_2, .int .i64 a1_3, .int .i64 a1_4, .int .i64 a1_5, .string a1_6, .string a1_7, .slice A1_8 n1_8 c1_8]] w fun e w' => e = .returned (.int .i64 r) ∧ Below w.heap.size w w' := by
 have hu38 := Try.underlying38
 have hu33 := Try.underlying33
 have HB := Aside0.mk (Below.refl w.heap.size w)
 have H : ((ratio_Cmp.f a0_0 a0_1 a1_0 a1_1).bind fun t124 => (if t124 = 0 then ((ratio_Cmp.f a0_2 a0_3 a1_2 a1_3).bind fun t125 => (some t125)) else (some t124))) = some r := h
 clear h
 replace H := Option.bind_eq_some_iff.mp H
 obtain ⟨t124, A30, H⟩ := H
 (try dsimp only at H)
 have A3 := Aside0.mk A30
 clear A30
 by_cases c4 : t124 = 0 <;> first
 |(rw [if_pos c4] at H
   have c4b0 : (t124 == 0) = true := beq_iff_eq.mpr c4
   have c4b1 : (t124 != 0) = false := bne_eq_false_iff_eq.mpr c4
   clear c4
   replace H := Option.bind_eq_some_iff.mp H
   obtain ⟨t125, A50, H⟩ := H
   (try dsimp only at H)
   have A5 := Aside0.mk A50
   clear A50
   obtain rfl := Option.some.inj H
   have z17 := trivial)
 |(rw [if_neg c4] at H
   have c4b0 : (t124 == 0) = false := beq_eq_false_iff_ne.mpr c4
   have c4b1 : (t124 != 0) = true := bne_iff_ne.mpr c4
   obtain rfl := Option.some.inj H
   have z18 := trivial)
 all_goals
  go_enter Try.func15, Try.ntmps15
  go_wp2_with (first | ((with_reducible refine gate_dst (N := 2) rfl ?_); refine box_event (by rfl) (N := 2) (by rfl) (cs := #[.int .i64 a0_0, .int .i64 a0_1, .int .i64 a0_2, .int .i64 a0_3, .int .i64 a0_4, .int .i64 a0_5, .string a0_6, .string a0_7, .slice A0_8 n0_8 c0_8]) (t := 38) (by first | (go_simp; done) | (go_simp; rfl)) ?_; intro gb122 hg w6 hbox hb; obtain ⟨hb_, hw_⟩ := box_facts (lA HB.out) hg hb; replace HB := Aside0.mk (hb_); have BK122 := Aside0.mk (hbox); have GW122 := Aside0.mk (hw_); have GE122 := Aside0.mk (hw_); clear hb hbox hg hb_ hw_) | ((with_reducible refine gate_dst (N := 3) rfl ?_); refine box_event (by rfl) (N := 3) (by rfl) (cs := #[.int .i64 a1_0, .int .i64 a1_1, .int .i64 a1_2, .int .i64 a1_3, .int .i64 a1_4, .int .i64 a1_5, .string a1_6, .string a1_7, .slice A1_8 n1_8 c1_8]) (t := 38) (by first | (go_simp; done) | (go_simp; rfl)) ?_; intro gb123 hg w7 hbox hb; obtain ⟨hb_, hw_⟩ := box_facts (by repeat (first | (with_reducible first | exact HB.out | apply l1 | apply l2 | apply l3 | refine below_set ?_ GE122.out) | exact HB.out)) hg hb; replace HB := Aside0.mk (hb_); have BK123 := Aside0.mk (hbox); have GW123 := Aside0.mk (hw_); have GE123 := Aside0.mk (hw_); have NB122_123 := Aside0.mk ((nL hg BK122.out)); have NB123_122 := Aside0.mk ((nG hg BK122.out)); replace BK122 := Aside0.mk (bB BK122.out hb); clear hb hbox hg hb_ hw_; have hnb8 := NB122_123.out; have hnc8 := NB123_122.out; obtain ⟨hcz9_0, hcz9_1, hcz9_2, hcz9_3, hcz9_4, hcz9_5, hcz9_6, hcz9_7, hcz9_8, hfz9_0, hfz9_1, hfz9_2, hfz9_3, hfz9_4, hfz9_5, hfz9_6, hfz9_7, hfz9_8⟩ := blk_cells9 BK122.out; obtain ⟨hcz10_0, hcz10_1, hcz10_2, hcz10_3, hcz10_4, hcz10_5, hcz10_6, hcz10_7, hcz10_8, hfz10_0, hfz10_1, hfz10_2, hfz10_3, hfz10_4, hfz10_5, hfz10_6, hfz10_7, hfz10_8⟩ := blk_cells9 BK123.out) | ((revert z18; intro z18); ((with_reducible refine gate_callee (f := 29) rfl ?_); refine goesL_ (some 10) rfl rfl Try.func29 (by kernel_rfl) rfl #[.agg #[.int .i64 a0_0, .int .i64 a0_1], .agg #[.int .i64 a1_0, .int .i64 a1_1]] rfl (by (try simp only [List.map_toArray, List.map_cons, List.map_nil]); first | done | rfl | (simp only [List.length_drop, List.length_take]; rfl)) ?_; (with_reducible refine (ratio_Cmp.calls a0_0 a0_1 a1_0 a1_1 t124 _ A3.out).mono ?_); rintro e w20 ⟨rfl, hb⟩; refine ⟨_, rfl, ?_⟩; replace BK122 := Aside0.mk (bB BK122.out hb); replace BK123 := Aside0.mk (bB BK123.out hb); replace HB := Aside0.mk (below_step (by repeat (first | (with_reducible first | exact HB.out | apply l1 | apply l2 | apply l3 | refine below_set ?_ GE122.out | refine below_set ?_ GE123.out) | exact HB.out)) hb); (try clear hb); (try clear hb2); (try clear hk); (try clear hi))) | ((revert z17; intro z17); ((with_reducible refine gate_callee (f := 29) rfl ?_); refine goesL_ (some 10) rfl rfl Try.func29 (by kernel_rfl) rfl #[.agg #[.int .i64 a0_0, .int .i64 a0_1], .agg #[.int .i64 a1_0, .int .i64 a1_1]] rfl (by (try simp only [List.map_toArray, List.map_cons, List.map_nil]); first | done | rfl | (simp only [List.length_drop, List.length_take]; rfl)) ?_; (with_reducible refine (ratio_Cmp.calls a0_0 a0_1 a1_0 a1_1 t124 _ A3.out).mono ?_); rintro e w11 ⟨rfl, hb⟩; refine ⟨_, rfl, ?_⟩; replace BK122 := Aside0.mk (bB BK122.out hb); replace BK123 := Aside0.mk (bB BK123.out hb); replace HB := Aside0.mk (below_step (by repeat (first | (with_reducible first | exact HB.out | apply l1 | apply l2 | apply l3 | refine below_set ?_ GE122.out | refine below_set ?_ GE123.out) | exact HB.out)) hb); (try clear hb); (try clear hb2); (try clear hk); (try clear hi); obtain ⟨hcz12_0, hcz12_1, hcz12_2, hcz12_3, hcz12_4, hcz12_5, hcz12_6, hcz12_7, hcz12_8, hfz12_0, hfz12_1, hfz12_2, hfz12_3, hfz12_4, hfz12_5, hfz12_6, hfz12_7, hfz12_8⟩ := blk_cells9 BK122.out; obtain ⟨hcz13_0, hcz13_1, hcz13_2, hcz13_3, hcz13_4, hcz13_5, hcz13_6, hcz13_7, hcz13_8, hfz13_0, hfz13_1, hfz13_2, hfz13_3, hfz13_4, hfz13_5, hfz13_6, hfz13_7, hfz13_8⟩ := blk_cells9 BK123.out)) | ((revert z17; intro z17); ((with_reducible refine gate_callee (f := 29) rfl ?_); refine goesL_ (some 18) rfl rfl Try.func29 (by kernel_rfl) rfl #[.agg #[.int .i64 a0_2, .int .i64 a0_3], .agg #[.int .i64 a1_2, .int .i64 a1_3]] rfl (by (try simp only [List.map_toArray, List.map_cons, List.map_nil]); first | done | rfl | (simp only [List.length_drop, List.length_take]; rfl)) ?_; (with_reducible refine (ratio_Cmp.calls a0_2 a0_3 a1_2 a1_3 t125 _ A5.out).mono ?_); rintro e w14 ⟨rfl, hb⟩; refine ⟨_, rfl, ?_⟩; replace BK122 := Aside0.mk (bB BK122.out hb); replace BK123 := Aside0.mk (bB BK123.out hb); replace HB := Aside0.mk (below_step (by repeat (first | (with_reducible first | exact HB.out | apply l1 | apply l2 | apply l3 | refine below_set ?_ GE122.out | refine below_set ?_ GE123.out) | exact HB.out)) hb); (try clear hb); (try clear hb2); (try clear hk); (try clear hi))))
  go_ret
  exact ⟨by first | rfl | (simp [errW_none, errW_some] <;> rfl) | (simp [*, errW_none, errW_some] <;> rfl), by repeat (first | (with_reducible first | exact HB.out | apply l1 | apply l2 | apply l3 | refine below_set ?_ GE122.out | refine below_set ?_ GE123.out) | exact HB.out)⟩
def cue_wrong.f (a0 : Int) (a1 : Int) : Option (Option (Int × Int)) := if a1 = 0 then (some none) else (some (some (a0, a1)))
set_option maxHeartbeats 8000000 in
set_option maxRecDepth 100000 in
theorem cue_wrong.calls (a0 : Int) (a1 : Int) (r : Option (Int × Int)) (w : World) (h : cue_wrong.f a0 a1 = some r) :
  Calls Try.prog 35 #[.int .i64 a0, .int .i64 a1] w fun e w' => ∃ v0_ : Value, e = .returned (v0_) ∧ EV v0_ r ∧ Below w.heap.size w w' := by
 have hu61 := Try.underlying61
 have hu27 := Try.underlying27
 have hu58 := Try.underlying58
 have HB := Aside0.mk (Below.refl w.heap.size w)
 have H : (if a1 = 0 then (some none) else (some (some (a0, a1)))) = some r := h
 clear h
 by_cases c3 : a1 = 0
 ·rw [if_pos c3] at H
  have c3b0 : (a1 == 0) = true := beq_iff_eq.mpr c3
  have c3b1 : (a1 != 0) = false := bne_eq_false_iff_eq.mpr c3
  clear c3
  obtain rfl := Option.some.inj H
  go_enter Try.func35, Try.ntmps35
  go_wp2
  go_ret
  exact ⟨.nilIface, by first | rfl | (simp [errW_none, errW_some] <;> rfl) | (simp [*, errW_none, errW_some] <;> rfl), EV_nil, by repeat (first | (with_reducible first | exact HB.out | apply l1 | apply l2 | apply l3) | exact HB.out)⟩
 ·rw [if_neg c3] at H
  have c3b0 : (a1 == 0) = false := beq_eq_false_iff_ne.mpr c3
  have c3b1 : (a1 != 0) = true := bne_iff_ne.mpr c3
  obtain rfl := Option.some.inj H
  go_enter Try.func35, Try.ntmps35
  go_wp2_with (first | ((with_reducible refine gate_dst (N := 10) rfl ?_); refine box_event (by rfl) (N := 10) (by rfl) (cs := #[.int .i64 a0, .int .i64 a1]) (t := 61) (by first | (go_simp; done) | (go_simp; rfl)) ?_; intro gb126 hg w4 hbox hb; obtain ⟨hb_, hw_⟩ := box_facts (lA HB.out) hg hb; replace HB := Aside0.mk (hb_); have BK126 := Aside0.mk (hbox); have GW126 := Aside0.mk (hw_); have GE126 := Aside0.mk (hw_); clear hb hbox hg hb_ hw_))
  go_ret
  exact ⟨(.iface 58 (.pointer (some ⟨gb126, 0, none⟩))), by first | rfl | (simp [errW_none, errW_some] <;> rfl) | (simp [*, errW_none, errW_some] <;> rfl), EV_mk _ _, by repeat (first | (with_reducible first | exact HB.out | apply l1 | apply l2 | apply l3 | refine below_set ?_ GE126.out) | exact HB.out)⟩
def ratio_small.f (a0 : Int) : Option (Int × Int) := some (0, a0)
set_option maxHeartbeats 8000000 in
set_option maxRecDepth 100000 in
theorem ratio_small.calls (a0 : Int) (r1 : Int) (r2 : Int) (w : World) (h : ratio_small.f a0 = some (r1, r2)) :
  Calls Try.prog 52 #[.int .u64 a0] w fun e w' => e = .returned (.agg #[.int .u64 r1, .int .u64 r2]) ∧ Below w.heap.size w w' := by
 have hu88 := Try.underlying88
 have HB := Aside0.mk (Below.refl w.heap.size w)
 have H : (some (0, a0)) = some (r1, r2) := h
 clear h
 simp only [Option.some.injEq, Prod.mk.injEq] at H
 obtain ⟨rfl, rfl⟩ := H
 go_enter Try.func52, Try.ntmps52
 go_wp2_with (first | ((with_reducible refine gate_dst (N := 2) rfl ?_); refine box_event (by rfl) (N := 2) (by rfl) (cs := #[.int .u64 0, .int .u64 0]) (t := 88) (by first | (go_simp; done) | (go_simp; rfl)) ?_; intro gb127 hg w2 hbox hb; obtain ⟨hb_, hw_⟩ := box_facts (lA HB.out) hg hb; replace HB := Aside0.mk (hb_); have BK127 := Aside0.mk (hbox); have GW127 := Aside0.mk (hw_); have GE127 := Aside0.mk (hw_); clear hb hbox hg hb_ hw_; obtain ⟨hcz3_0, hcz3_1, hfz3_0, hfz3_1⟩ := blk_cells2 BK127.out))
 refine bodyPost_ret (results_cell_row rfl _ _ gb127 88 #[.int .u64 0, .int .u64 a0] (0, 0) _ rfl (by (with_reducible repeat (first | apply b1 | apply b2 | apply b3)); refine blk_put (cs := #[.int .u64 0, .int .u64 0]) ?_ 1 _ rfl; (with_reducible repeat (first | apply b1 | apply b2 | apply b3)); refine blk_put (cs := #[.int .u64 0, .int .u64 0]) ?_ 0 _ rfl; (with_reducible repeat (first | apply b1 | apply b2 | apply b3)); exact BK127.out) Try.underlying88 rfl (by kernel_rfl)) rfl ?_
 exact ⟨by first | rfl | (simp [errW_none, errW_some] <;> rfl) | (simp [*, errW_none, errW_some] <;> rfl), by repeat (first | (with_reducible first | exact HB.out | apply l1 | apply l2 | apply l3 | refine below_set ?_ GE127.out) | exact HB.out)⟩
theorem sub64_run (x y b : Nat) (hb : b ≤ 1) (w : World) :
  (callFunc 82 #[.int .u64 x, .int .u64 y, .int .u64 b]).run Try.prog w =
   .ok (.value (.tuple #[.int .u64 (((x + 18446744073709551616 - y - b) % 18446744073709551616 : Nat) : Int), .int .u64 ((if x < y + b then 1 else 0 : Nat) : Int)])) w := by
 rw [run_callFunc_extern Try.func82 (by kernel_rfl) (by kernel_rfl) (by kernel_rfl) (e := sub64Entry) (by kernel_rfl), run_sub64 x y b hb]
 rfl
def M64 : Int := 18446744073709551616
theorem sub64_ex (x y b : Int) (hx : 0 ≤ x) (hy : 0 ≤ y) (hym : y < M64) (hb : b = 0 ∨ b = 1) :
  ∃ d c : Int, Aside0 (d = (x + M64 - y - b) % M64 ∧ c = if x < y + b then 1 else 0) ∧ (∀ w, (callFunc 82 #[.int .u64 x, .int .u64 y, .int .u64 b]).run Try.prog w = .ok (.value (.tuple #[.int .u64 d, .int .u64 c])) w) := by
 obtain ⟨x, rfl⟩ := Int.eq_ofNat_of_zero_le hx
 obtain ⟨y, rfl⟩ := Int.eq_ofNat_of_zero_le hy
 unfold M64 at *
 rcases hb with rfl | rfl
 ·exact ⟨_, _, ⟨by omega, by split <;> split <;> omega⟩, fun w => sub64_run x y 0 (by omega) w⟩
 ·exact ⟨_, _, ⟨by omega, by split <;> split <;> omega⟩, fun w => sub64_run x y 1 (by omega) w⟩
def ratio_wide_minus.f (x0 x1 y0 y1 : Int) : Option (Int × Int) :=
 if 0 ≤ x0 ∧ 0 ≤ x1 ∧ 0 ≤ y0 ∧ 0 ≤ y1 ∧ y0 < M64 ∧ y1 < M64 then
  some ((x0 + M64 - y0 - (if x1 < y1 then 1 else 0)) % M64, (x1 + M64 - y1) % M64)
 else none
set_option maxHeartbeats 8000000 in
set_option maxRecDepth 100000 in
theorem ratio_wide_minus.calls (a0_0 : Int) (a0_1 : Int) (a1_0 : Int) (a1_1 : Int) (r1 : Int) (r2 : Int) (w : World) (h : ratio_wide_minus.f a0_0 a0_1 a1_0 a1_1 = some (r1, r2)) :
  Calls Try.prog 76 #[.agg #[.int .u64 a0_0, .int .u64 a0_1], .agg #[.int .u64 a1_0, .int .u64 a1_1]] w fun e w' => e = .returned (.agg #[.int .u64 r1, .int .u64 r2]) ∧ Below w.heap.size w w' := by
 unfold ratio_wide_minus.f at h
 split at h
 case isFalse => exact absurd h (by simp)
 case isTrue hc =>
 obtain ⟨h0, h1, h2, h3, h4, h5⟩ := hc
 simp only [Option.some.injEq, Prod.mk.injEq] at h
 obtain ⟨d1, c1, H1, q1⟩ := sub64_ex a0_1 a1_1 0 h1 h3 h5 (.inl rfl)
 obtain ⟨d2, c2, H2, q2⟩ := sub64_ex a0_0 a1_0 c1 h0 h2 h4 (by have := H1.out.2; split at this <;> simp [this])
 have E : d2 = r1 ∧ d1 = r2 := by
  obtain ⟨k1, k2⟩ := H1.out
  obtain ⟨k3, k4⟩ := H2.out
  rw [← h.1, ← h.2, k3, k1, k2]
  simp
 obtain ⟨rfl, rfl⟩ := E
 clear h H1 H2 h0 h1 h2 h3 h4 h5
 have hu88 := Try.underlying88
 go_enter Try.func76, Try.ntmps76
 go_wp2
 exact bodyPost_ret (v := .agg #[.int .u64 d2, .int .u64 d1]) (by simp [results, Try.results76, go_sem]) rfl ⟨rfl, (((Below.refl _ w).alloc (Nat.le_refl _) _).alloc (by simp) _).alloc (by simp; omega) _⟩
end Go.Proofs.Ytlbicmdfdpcdiaa.PDa
