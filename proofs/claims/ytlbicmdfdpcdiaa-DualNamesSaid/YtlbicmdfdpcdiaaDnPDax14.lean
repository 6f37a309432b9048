-- printed
import Derived.Test.YtlbicmdfdpcdiaaDnPDax0
import Derived.Test.YtlbicmdfdpcdiaaDnPDax5
import Derived.Test.YtlbicmdfdpcdiaaDnPDax12
namespace Go.Proofs.Ytlbicmdfdpcdiaa.PDa
open Go.RowKit Go.Proofs.YtlbicmdfdpcdiaaW.PrintWords Go.Proofs.YtlbicmdfdpcdiaaW.PrintLast Go.Proofs.YtlbicmdfdpcdiaaW.PrintMore
attribute [local go_sem] max2_int min2_int max_two min_two max_three min_three max_four min_four
set_option linter.unusedVariables false
set_option linter.unusedSimpArgs false
def ratio_frac_half.j0 : Nat → Bool → Bool → Int → Int → Int → Int → Int → Int → Bool → Int → Int → Int → Int → Option (Bool × Int × Int × Int × Int)
 | 0, _, _, _, _, _, _, _, _, _, _, _, _, _ => none
 | k + 1, x22, x261000, x261001, x261002, x261003, x261004, x265000, x265001, x270000, x270001, x270002, x270003, x270004 => if x22 = true then ((ratio_wide_minus.f x265000 x265001 x261003 x261004).bind fun bt271 => (some (x270000, bt271.1, bt271.2, x270003, x270004))) else (if x261000 = true then ((ratio_wide_minus.f x261003 x261004 x265000 x265001).bind fun bt273 => (some (false, bt273.1, bt273.2, x270003, x270004))) else (some (x270000, x270001, x270002, x270003, x270004)))
def ratio_frac_half.f (k : Nat) (a0_0 : Bool) (a0_1 : Int) (a0_2 : Int) (a0_3 : Int) (a0_4 : Int) : Option (Bool × Int × Int × Int × Int) := (ratio_wide_plus.f a0_1 a0_2 a0_1 a0_2).bind fun bt262 => ((ratio_wide_plus.f bt262.1 bt262.2 a0_3 a0_4).bind fun bt265 => ((ratio_wide_plus.f a0_3 a0_4 a0_3 a0_4).bind fun bt267 => (if a0_0 = true then ((ratio_wide_cmp.f bt262.1 bt262.2 a0_3 a0_4).bind fun t270 => (ratio_frac_half.j0 k (decide (t270 > 0)) a0_0 a0_1 a0_2 a0_3 a0_4 bt262.1 bt262.2 a0_0 bt265.1 bt265.2 bt267.1 bt267.2)) else (ratio_frac_half.j0 k false a0_0 a0_1 a0_2 a0_3 a0_4 bt262.1 bt262.2 a0_0 bt265.1 bt265.2 bt267.1 bt267.2))))
def ratio_frac_half.T2 : Bool × List (List Nat × List Nat) := (true, [([], []), ([0], [0]), ([], []), ([], []), ([3], [3]), ([2, 4], [2, 4]), ([], []), ([6], [6]), ([], []), ([8], [8]), ([7, 9, 5], [7, 9]), ([1, 5, 10], [1, 5, 10]), ([], []), ([12, 11, 10, 0, 1, 2, 3, 4, 5, 6, 7, 8, 9, 10, 11, 12], [11, 12])])
def ratio_frac_half.B2 : List Nat := [0, 1, 0, 0, 8, 28, 0, 64, 0, 256, 1020, 2047, 0, 8191]
theorem ratio_frac_half.tab2 : rtab .any (opsOf Try.f65 2) = ratio_frac_half.T2 := by kernel_rfl
theorem ratio_frac_half.bits2 : waitsOk ratio_frac_half.T2.2 ratio_frac_half.B2 = true := by kernel_rfl
set_option maxHeartbeats 8000000 in
set_option maxRecDepth 100000 in
theorem ratio_frac_half.calls (k : Nat) (a0_0 : Bool) (a0_1 : Int) (a0_2 : Int) (a0_3 : Int) (a0_4 : Int) (r1 : Bool) (r2 : Int) (r3 : Int) (r4 : Int) (r5 : Int) (w : World) (h : ratio_frac_half.f k a0_0 a0_1 a0_2 a0_3 a0_4 = some (r1, r2, r3, r4, r5)) :
  Calls Try.prog 65 #[.agg #[.bool a0_0, .int .u64 a0_1, .int .u64 a0_2, .int .u64 a0_3, .int .u64 a0_4]] w fun e w' => e = .returned (.agg #[.bool r1, .int .u64 r2, .int .u64 r3, .int .u64 r4, .int .u64 r5]) ∧ Below w.heap.size w w' := by
 have hu101 := Try.underlying101
 have hu88 := Try.underlying88
 have HB := Aside0.mk (Below.refl w.heap.size w)
 have H : ((ratio_wide_plus.f a0_1 a0_2 a0_1 a0_2).bind fun bt262 => ((ratio_wide_plus.f bt262.1 bt262.2 a0_3 a0_4).bind fun bt265 => ((ratio_wide_plus.f a0_3 a0_4 a0_3 a0_4).bind fun bt267 => (if a0_0 = true then ((ratio_wide_cmp.f bt262.1 bt262.2 a0_3 a0_4).bind fun t270 => (ratio_frac_half.j0 k (decide (t270 > 0)) a0_0 a0_1 a0_2 a0_3 a0_4 bt262.1 bt262.2 a0_0 bt265.1 bt265.2 bt267.1 bt267.2)) else (ratio_frac_half.j0 k false a0_0 a0_1 a0_2 a0_3 a0_4 bt262.1 bt262.2 a0_0 bt265.1 bt265.2 bt267.1 bt267.2))))) = some (r1, r2, r3, r4, r5) := h
 clear h
 replace H := Option.bind_eq_some_iff.mp H
 obtain ⟨⟨t262, t263⟩, A20, H⟩ := H
 (try dsimp only at H)
 have A2 := Aside0.mk A20
 clear A20
 replace H := Option.bind_eq_some_iff.mp H
 obtain ⟨⟨t265, t266⟩, A30, H⟩ := H
 (try dsimp only at H)
 have A3 := Aside0.mk A30
 clear A30
 replace H := Option.bind_eq_some_iff.mp H
 obtain ⟨⟨t267, t268⟩, A40, H⟩ := H
 (try dsimp only at H)
 have A4 := Aside0.mk A40
 clear A40
 have HC5 := Aside0.mk H
 clear H
 go_enter Try.func65, Try.ntmps65
 try go_wp2_with (first | ((with_reducible refine gate_dst (N := 1) rfl ?_); refine box_event (by rfl) (N := 1) (by rfl) (cs := #[.bool a0_0, .int .u64 a0_1, .int .u64 a0_2, .int .u64 a0_3, .int .u64 a0_4]) (t := 101) (by first | (go_simp; done) | (go_simp; rfl)) ?_; intro gb260 hg w6 hbox hb; obtain ⟨hb_, hw_⟩ := box_facts (lA HB.out) hg hb; replace HB := Aside0.mk (hb_); have BK260 := Aside0.mk (hbox); have GW260 := Aside0.mk (hw_); have GE260 := Aside0.mk (hw_); clear hb hbox hg hb_ hw_) | ((with_reducible refine gate_dst (N := 2) rfl ?_); refine box_event (by rfl) (N := 2) (by rfl) (cs := #[.bool false, .int .u64 0, .int .u64 0, .int .u64 0, .int .u64 0]) (t := 101) (by first | (go_simp; done) | (go_simp; rfl)) ?_; intro gb261 hg w7 hbox hb; obtain ⟨hb_, hw_⟩ := box_facts (by repeat (first | (with_reducible first | exact HB.out | apply l1 | apply l2 | apply l3 | refine below_set ?_ GE260.out) | exact HB.out)) hg hb; replace HB := Aside0.mk (hb_); have BK261 := Aside0.mk (hbox); have GW261 := Aside0.mk (hw_); have GE261 := Aside0.mk (hw_); have NB260_261 := Aside0.mk ((nL hg BK260.out)); have NB261_260 := Aside0.mk ((nG hg BK260.out)); replace BK260 := Aside0.mk (bB BK260.out hb); clear hb hbox hg hb_ hw_; have hnb8 := NB260_261.out; have hnc8 := NB261_260.out; obtain ⟨hcz9_0, hcz9_1, hcz9_2, hcz9_3, hcz9_4, hfz9_0, hfz9_1, hfz9_2, hfz9_3, hfz9_4⟩ := blk_cells5 BK260.out) | ((with_reducible refine gate_callee (f := 75) rfl ?_); refine goesL_ (some 9) rfl rfl Try.func75 (by kernel_rfl) rfl #[.agg #[.int .u64 a0_1, .int .u64 a0_2], .agg #[.int .u64 a0_1, .int .u64 a0_2]] rfl (by (try simp only [List.map_toArray, List.map_cons, List.map_nil]); first | done | rfl | (simp only [List.length_drop, List.length_take]; rfl)) ?_; (with_reducible refine (ratio_wide_plus.calls a0_1 a0_2 a0_1 a0_2 t262 t263 _ A2.out).mono ?_); rintro e w10 ⟨rfl, hb⟩; refine ⟨_, rfl, ?_⟩; replace BK260 := Aside0.mk (bB BK260.out hb); replace BK261 := Aside0.mk (bB BK261.out hb); replace HB := Aside0.mk (below_step (by repeat (first | (with_reducible first | exact HB.out | apply l1 | apply l2 | apply l3 | refine below_set ?_ GE260.out | refine below_set ?_ GE261.out) | exact HB.out)) hb); (try clear hb); (try clear hb2); (try clear hk); (try clear hi)) | ((with_reducible refine gate_dst (N := 3) rfl ?_); refine box_event (by rfl) (N := 3) (by rfl) (cs := #[.int .u64 0, .int .u64 0]) (t := 88) (by first | (go_simp; done) | (go_simp; rfl)) ?_; intro gb264 hg w11 hbox hb; obtain ⟨hb_, hw_⟩ := box_facts (by repeat (first | (with_reducible first | exact HB.out | apply l1 | apply l2 | apply l3 | refine below_set ?_ GE260.out | refine below_set ?_ GE261.out) | exact HB.out)) hg hb; replace HB := Aside0.mk (hb_); have BK264 := Aside0.mk (hbox); have GW264 := Aside0.mk (hw_); have GE264 := Aside0.mk (hw_); have NB260_264 := Aside0.mk ((nL hg BK260.out)); have NB264_260 := Aside0.mk ((nG hg BK260.out)); replace BK260 := Aside0.mk (bB BK260.out hb); have NB261_264 := Aside0.mk ((nL hg BK261.out)); have NB264_261 := Aside0.mk ((nG hg BK261.out)); replace BK261 := Aside0.mk (bB BK261.out hb); clear hb hbox hg hb_ hw_; have hnb12 := NB264_260.out; have hnc12 := NB260_264.out; have hnb13 := NB264_261.out; have hnc13 := NB261_264.out; obtain ⟨hcz14_0, hcz14_1, hfz14_0, hfz14_1⟩ := blk_cells2 BK264.out))
 have n0_ : Aside0 (((w11.setCell ⟨gb264, 0, none⟩ (.int .u64 t262)).setCell ⟨gb264, 1, none⟩ (.int .u64 t263)).heap[gb260]? = some (.cells #[.bool a0_0, .int .u64 a0_1, .int .u64 a0_2, .int .u64 a0_3, .int .u64 a0_4] 101 (0, 0))) := ⟨by (with_reducible repeat (first | apply b1 | apply b2 | apply b3)); refine blk_far ?_ NB260_264.out _; (with_reducible repeat (first | apply b1 | apply b2 | apply b3)); refine blk_far ?_ NB260_264.out _; (with_reducible repeat (first | apply b1 | apply b2 | apply b3)); exact BK260.out⟩
 have n1_ : Aside0 (((w11.setCell ⟨gb264, 0, none⟩ (.int .u64 t262)).setCell ⟨gb264, 1, none⟩ (.int .u64 t263)).heap[gb261]? = some (.cells #[.bool false, .int .u64 0, .int .u64 0, .int .u64 0, .int .u64 0] 101 (0, 0))) := ⟨by (with_reducible repeat (first | apply b1 | apply b2 | apply b3)); refine blk_far ?_ NB261_264.out _; (with_reducible repeat (first | apply b1 | apply b2 | apply b3)); refine blk_far ?_ NB261_264.out _; (with_reducible repeat (first | apply b1 | apply b2 | apply b3)); exact BK261.out⟩
 have n2_ : Aside0 (((w11.setCell ⟨gb264, 0, none⟩ (.int .u64 t262)).setCell ⟨gb264, 1, none⟩ (.int .u64 t263)).heap[gb264]? = some (.cells #[.int .u64 t262, .int .u64 t263] 88 (0, 0))) := ⟨by (with_reducible repeat (first | apply b1 | apply b2 | apply b3)); refine blk_put (cs := #[.int .u64 t262, .int .u64 0]) ?_ 1 _ rfl; (with_reducible repeat (first | apply b1 | apply b2 | apply b3)); refine blk_put (cs := #[.int .u64 0, .int .u64 0]) ?_ 0 _ rfl; (with_reducible repeat (first | apply b1 | apply b2 | apply b3)); exact BK264.out⟩
 have n3_ : Aside0 (Below w.heap.size w ((w11.setCell ⟨gb264, 0, none⟩ (.int .u64 t262)).setCell ⟨gb264, 1, none⟩ (.int .u64 t263))) := ⟨by repeat (first | (with_reducible first | exact HB.out | apply l1 | apply l2 | apply l3 | refine below_set ?_ GE260.out | refine below_set ?_ GE261.out | refine below_set ?_ GE264.out) | exact HB.out)⟩
 (try clear BK260)
 (try clear BK261)
 (try clear BK264)
 (try clear HB)
 generalize ((w11.setCell ⟨gb264, 0, none⟩ (.int .u64 t262)).setCell ⟨gb264, 1, none⟩ (.int .u64 t263)) = w15 at n0_ n1_ n2_ n3_ ⊢
 have BK260 := n0_
 have BK261 := n1_
 have BK264 := n2_
 have HB := n3_
 clear n0_ n1_ n2_ n3_
 replace BK260 := Aside0.mk (blk_drew BK260.out)
 replace BK261 := Aside0.mk (blk_drew BK261.out)
 replace BK264 := Aside0.mk (blk_drew BK264.out)
 replace HB := Aside0.mk (below_drew1 HB.out)
 refine start_ (n := 14) (S := fun w' => w'.cell? ⟨gb260, 0, none⟩ = some (.bool a0_0) ∧ w'.cell? ⟨gb260, 1, none⟩ = some (.int .u64 a0_1) ∧ w'.cell? ⟨gb260, 2, none⟩ = some (.int .u64 a0_2) ∧ w'.cell? ⟨gb260, 3, none⟩ = some (.int .u64 a0_3) ∧ w'.cell? ⟨gb260, 4, none⟩ = some (.int .u64 a0_4) ∧ w'.cell? ⟨gb264, 0, none⟩ = some (.int .u64 t262) ∧ w'.cell? ⟨gb264, 1, none⟩ = some (.int .u64 t263)) (ds := []) #[false, false, false, false, false, false, false, false, false, false, false, false, false, false] (by kernel_rfl) rfl rfl ⟨(blk_cell BK260.out 0).trans rfl, (blk_cell BK260.out 1).trans rfl, (blk_cell BK260.out 2).trans rfl, (blk_cell BK260.out 3).trans rfl, (blk_cell BK260.out 4).trans rfl, (blk_cell BK264.out 0).trans rfl, (blk_cell BK264.out 1).trans rfl⟩ (fun hHeld => ?_); refine with_tabW ratio_frac_half.tab2 ratio_frac_half.bits2 (fun HT_ HW_ => ?_)
 generalize w15.drew = w16 at BK260 BK261 BK264 HB hHeld ⊢
 refine sched [(0, some 10), (3, some 13), (6, some 16), (8, some 18), (1, some 11), (2, some 12), (4, some 14), (7, some 17), (9, some 19)] ?_
 iterate 9 first
  |(refine pureS (v := ?_) (a' := ?_) rfl rfl (any_of HT_.out (by kernel_rfl)) (fun _ _ _ h => h) (Or.inl ⟨by rfl, ?_⟩) ?_ ?_
    rotate_left
    ·intro w'
     go_simp
     with_reducible rfl
    rotate_left
    ·simp only [Act.put, List.setIfInBounds_toArray, List.set_cons_zero, List.set_cons_succ, i64_w, i32_w]
     rfl)
  |(refine takeS (v := ?_) (a' := ?_) rfl rfl (take_ofW HT_.out HW_.out (by kernel_rfl)) (fun _ _ _ h => h) (Or.inl ⟨by rfl, ?_⟩) hHeld ?_ ?_
    rotate_left
    ·rintro w' ⟨s0, s1, s2, s3, s4, s5, s6⟩
     go_simp
     with_reducible rfl
    rotate_left
    ·simp only [Act.put, List.setIfInBounds_toArray, List.set_cons_zero, List.set_cons_succ, i64_w, i32_w]
     rfl)
 refine unsched ?_
 refine join_ (σ := Nat) 1 #[true, true, true, true, true, true, true, true, true, true, true, true, true, false] (fun s_ => [(15, .agg #[.int .u64 t265, .int .u64 t266]), (20, .agg #[.int .u64 t267, .int .u64 t268]), (4, .pointer (some ⟨s_, 0, none⟩)), (21, .agg #[.bool a0_0, .int .u64 t265, .int .u64 t266, .int .u64 t267, .int .u64 t268])]) (fun s_ w' => (w'.cell? ⟨gb260, 0, none⟩ = some (.bool a0_0) ∧ w'.cell? ⟨gb260, 1, none⟩ = some (.int .u64 a0_1) ∧ w'.cell? ⟨gb260, 2, none⟩ = some (.int .u64 a0_2) ∧ w'.cell? ⟨gb260, 3, none⟩ = some (.int .u64 a0_3) ∧ w'.cell? ⟨gb260, 4, none⟩ = some (.int .u64 a0_4) ∧ w'.cell? ⟨gb264, 0, none⟩ = some (.int .u64 t262) ∧ w'.cell? ⟨gb264, 1, none⟩ = some (.int .u64 t263)) ∧ (w'.heap[gb260]? = some (.cells #[.bool a0_0, .int .u64 a0_1, .int .u64 a0_2, .int .u64 a0_3, .int .u64 a0_4] 101 (0, 0))) ∧ (w'.heap[gb261]? = some (.cells #[.bool false, .int .u64 0, .int .u64 0, .int .u64 0, .int .u64 0] 101 (0, 0))) ∧ (w'.heap[gb264]? = some (.cells #[.int .u64 t262, .int .u64 t263] 88 (0, 0))) ∧ (w'.heap[s_]? = some (.cells #[.bool false, .int .u64 0, .int .u64 0, .int .u64 0, .int .u64 0] 101 (0, 0))) ∧ (w.heap.size ≤ s_) ∧ (w.heap.size ≤ s_) ∧ (gb260 ≠ s_) ∧ (s_ ≠ gb260) ∧ (gb261 ≠ s_) ∧ (s_ ≠ gb261) ∧ (gb264 ≠ s_) ∧ (s_ ≠ gb264) ∧ (Below w.heap.size w w')) ?_ ?_
 rotate_left
 ·intro hCont
  refine two_ (i := 5) (j := 12) (Ni := some 15) (Nj := some 4) #[true, true, true, true, true, true, true, true, true, true, false, false, false, false] #[true, true, true, true, true, false, true, true, true, true, false, false, true, false] rfl rfl rfl rfl (two_of HT_.out (by kernel_rfl)) (by decide) (by decide) (fun K hK => ?_) (fun K hK => ?_)
  ·skip
   refine goes_ Try.func75 (by kernel_rfl) rfl #[.agg #[.int .u64 t262, .int .u64 t263], .agg #[.int .u64 a0_3, .int .u64 a0_4]] (by rfl) rfl rfl (by (try simp only [List.map_toArray, List.map_cons, List.map_nil]); first | done | rfl | (simp only [List.length_drop, List.length_take]; rfl)) ?_
   with_reducible refine (ratio_wide_plus.calls t262 t263 a0_3 a0_4 t265 t266 _ A3.out).mono ?_
   rintro e w17 ⟨rfl, hb⟩
   refine ⟨_, rfl, ?_⟩
   replace BK260 := Aside0.mk (bB BK260.out hb)
   replace BK261 := Aside0.mk (bB BK261.out hb)
   replace BK264 := Aside0.mk (bB BK264.out hb)
   replace HB := Aside0.mk (below_step (by repeat (first | (with_reducible first | exact HB.out | apply l1 | apply l2 | apply l3 | refine below_set ?_ GE260.out | refine below_set ?_ GE261.out | refine below_set ?_ GE264.out) | exact HB.out)) hb)
   (try clear hb)
   (try clear hb2)
   (try clear hk)
   (try clear hi)
   refine hK.out _ _ ⟨(blk_cell BK260.out 0).trans rfl, (blk_cell BK260.out 1).trans rfl, (blk_cell BK260.out 2).trans rfl, (blk_cell BK260.out 3).trans rfl, (blk_cell BK260.out 4).trans rfl, (blk_cell BK264.out 0).trans rfl, (blk_cell BK264.out 1).trans rfl⟩ (fun hHeld => ?_)
   clear hK K
   refine norm_ (a' := ?_) ?_ ?_
   rotate_left
   ·show Act.put _ (some 15) _ = _
    simp only [Act.put, List.setIfInBounds_toArray, List.set_cons_zero, List.set_cons_succ, i64_w, i32_w]
    rfl
   refine two_ (i := 10) (j := 12) (Ni := some 20) (Nj := some 4) #[true, true, true, true, true, true, true, true, true, true, true, false, false, false] #[true, true, true, true, true, true, true, true, true, true, false, false, true, false] rfl rfl rfl rfl (two_of HT_.out (by kernel_rfl)) (by decide) (by decide) (fun K hK => ?_) (fun K hK => ?_)
   ·skip
    refine goes_ Try.func75 (by kernel_rfl) rfl #[.agg #[.int .u64 a0_3, .int .u64 a0_4], .agg #[.int .u64 a0_3, .int .u64 a0_4]] (by rfl) rfl rfl (by (try simp only [List.map_toArray, List.map_cons, List.map_nil]); first | done | rfl | (simp only [List.length_drop, List.length_take]; rfl)) ?_
    with_reducible refine (ratio_wide_plus.calls a0_3 a0_4 a0_3 a0_4 t267 t268 _ A4.out).mono ?_
    rintro e w18 ⟨rfl, hb⟩
    refine ⟨_, rfl, ?_⟩
    replace BK260 := Aside0.mk (bB BK260.out hb)
    replace BK261 := Aside0.mk (bB BK261.out hb)
    replace BK264 := Aside0.mk (bB BK264.out hb)
    replace HB := Aside0.mk (below_step (by repeat (first | (with_reducible first | exact HB.out | apply l1 | apply l2 | apply l3 | refine below_set ?_ GE260.out | refine below_set ?_ GE261.out | refine below_set ?_ GE264.out) | exact HB.out)) hb)
    (try clear hb)
    (try clear hb2)
    (try clear hk)
    (try clear hi)
    refine hK.out _ _ ⟨(blk_cell BK260.out 0).trans rfl, (blk_cell BK260.out 1).trans rfl, (blk_cell BK260.out 2).trans rfl, (blk_cell BK260.out 3).trans rfl, (blk_cell BK260.out 4).trans rfl, (blk_cell BK264.out 0).trans rfl, (blk_cell BK264.out 1).trans rfl⟩ (fun hHeld => ?_)
    clear hK K
    refine norm_ (a' := ?_) ?_ ?_
    rotate_left
    ·show Act.put _ (some 20) _ = _
     simp only [Act.put, List.setIfInBounds_toArray, List.set_cons_zero, List.set_cons_succ, i64_w, i32_w]
     rfl
    refine pure_ (i := 11) (N := some 21) (v := ?_) (a' := ?_) #[true, true, true, true, true, true, true, true, true, true, true, true, false, false] rfl rfl (any_of HT_.out (by kernel_rfl)) (fun _ _ _ h => h) (Or.inl ⟨by rfl, ?_⟩) ?_ ?_
    rotate_left
    ·intro w'
     go_simp
     with_reducible rfl
    rotate_left
    ·simp only [Act.put, List.setIfInBounds_toArray, List.set_cons_zero, List.set_cons_succ, i64_w, i32_w]
     rfl
    refine one_ (i := 12) (N := some 4) #[true, true, true, true, true, true, true, true, true, true, true, true, true, false] rfl rfl (one_of HT_.out (by kernel_rfl)) (by decide) (fun K hK => ?_)
    refine box_step (by rfl) (N := 4) (by rfl) (cs := #[.bool false, .int .u64 0, .int .u64 0, .int .u64 0, .int .u64 0]) (t := 101) (by first | (go_simp; done) | (go_simp; rfl)) ?_
    intro gb269 hg w19 hbox hb
    obtain ⟨hb_, hw_⟩ := box_facts (by repeat (first | (with_reducible first | exact HB.out | apply l1 | apply l2 | apply l3 | refine below_set ?_ GE260.out | refine below_set ?_ GE261.out | refine below_set ?_ GE264.out) | exact HB.out)) hg hb
    replace HB := Aside0.mk (hb_)
    have BK269 := Aside0.mk (hbox)
    have GW269 := Aside0.mk (hw_)
    have GE269 := Aside0.mk (hw_)
    have NB260_269 := Aside0.mk ((nL hg BK260.out))
    have NB269_260 := Aside0.mk ((nG hg BK260.out))
    replace BK260 := Aside0.mk (bB BK260.out hb)
    have NB261_269 := Aside0.mk ((nL hg BK261.out))
    have NB269_261 := Aside0.mk ((nG hg BK261.out))
    replace BK261 := Aside0.mk (bB BK261.out hb)
    have NB264_269 := Aside0.mk ((nL hg BK264.out))
    have NB269_264 := Aside0.mk ((nG hg BK264.out))
    replace BK264 := Aside0.mk (bB BK264.out hb)
    clear hb hbox hg hb_ hw_
    refine hK.out _ _ ⟨(blk_cell BK260.out 0).trans rfl, (blk_cell BK260.out 1).trans rfl, (blk_cell BK260.out 2).trans rfl, (blk_cell BK260.out 3).trans rfl, (blk_cell BK260.out 4).trans rfl, (blk_cell BK264.out 0).trans rfl, (blk_cell BK264.out 1).trans rfl⟩ (fun hHeld => ?_)
    clear hK K
    refine norm_ (a' := ?_) ?_ ?_
    rotate_left
    ·show Act.put _ (some 4) _ = _
     simp only [Act.put, List.setIfInBounds_toArray, List.set_cons_zero, List.set_cons_succ, i64_w, i32_w]
     rfl
    exact norm_ (by simp only [putAll, Act.put, List.setIfInBounds_toArray, List.set_cons_zero, List.set_cons_succ]) (hCont (gb269) _ ⟨hHeld, (bA BK260.out), (bA BK261.out), (bA BK264.out), (bA BK269.out), GW269.out, GE269.out, NB260_269.out, NB269_260.out, NB261_269.out, NB269_261.out, NB264_269.out, NB269_264.out, (by repeat (first | (with_reducible first | exact HB.out | apply l1 | apply l2 | apply l3 | refine below_set ?_ GE260.out | refine below_set ?_ GE261.out | refine below_set ?_ GE264.out | refine below_set ?_ GE269.out) | exact HB.out))⟩)
   ·skip
    refine box_step (by rfl) (N := 4) (by rfl) (cs := #[.bool false, .int .u64 0, .int .u64 0, .int .u64 0, .int .u64 0]) (t := 101) (by first | (go_simp; done) | (go_simp; rfl)) ?_
    intro gb269 hg w18 hbox hb
    obtain ⟨hb_, hw_⟩ := box_facts (by repeat (first | (with_reducible first | exact HB.out | apply l1 | apply l2 | apply l3 | refine below_set ?_ GE260.out | refine below_set ?_ GE261.out | refine below_set ?_ GE264.out) | exact HB.out)) hg hb
    replace HB := Aside0.mk (hb_)
    have BK269 := Aside0.mk (hbox)
    have GW269 := Aside0.mk (hw_)
    have GE269 := Aside0.mk (hw_)
    have NB260_269 := Aside0.mk ((nL hg BK260.out))
    have NB269_260 := Aside0.mk ((nG hg BK260.out))
    replace BK260 := Aside0.mk (bB BK260.out hb)
    have NB261_269 := Aside0.mk ((nL hg BK261.out))
    have NB269_261 := Aside0.mk ((nG hg BK261.out))
    replace BK261 := Aside0.mk (bB BK261.out hb)
    have NB264_269 := Aside0.mk ((nL hg BK264.out))
    have NB269_264 := Aside0.mk ((nG hg BK264.out))
    replace BK264 := Aside0.mk (bB BK264.out hb)
    clear hb hbox hg hb_ hw_
    refine hK.out _ _ ⟨(blk_cell BK260.out 0).trans rfl, (blk_cell BK260.out 1).trans rfl, (blk_cell BK260.out 2).trans rfl, (blk_cell BK260.out 3).trans rfl, (blk_cell BK260.out 4).trans rfl, (blk_cell BK264.out 0).trans rfl, (blk_cell BK264.out 1).trans rfl⟩ (fun hHeld => ?_)
    clear hK K
    refine norm_ (a' := ?_) ?_ ?_
    rotate_left
    ·show Act.put _ (some 4) _ = _
     simp only [Act.put, List.setIfInBounds_toArray, List.set_cons_zero, List.set_cons_succ, i64_w, i32_w]
     rfl
    refine one_ (i := 10) (N := some 20) #[true, true, true, true, true, true, true, true, true, true, true, false, true, false] rfl rfl (one_of HT_.out (by kernel_rfl)) (by decide) (fun K hK => ?_)
    refine goes_ Try.func75 (by kernel_rfl) rfl #[.agg #[.int .u64 a0_3, .int .u64 a0_4], .agg #[.int .u64 a0_3, .int .u64 a0_4]] (by rfl) rfl rfl (by (try simp only [List.map_toArray, List.map_cons, List.map_nil]); first | done | rfl | (simp only [List.length_drop, List.length_take]; rfl)) ?_
    with_reducible refine (ratio_wide_plus.calls a0_3 a0_4 a0_3 a0_4 t267 t268 _ A4.out).mono ?_
    rintro e w19 ⟨rfl, hb⟩
    refine ⟨_, rfl, ?_⟩
    replace BK260 := Aside0.mk (bB BK260.out hb)
    replace BK261 := Aside0.mk (bB BK261.out hb)
    replace BK264 := Aside0.mk (bB BK264.out hb)
    replace BK269 := Aside0.mk (bB BK269.out hb)
    replace HB := Aside0.mk (below_step (by repeat (first | (with_reducible first | exact HB.out | apply l1 | apply l2 | apply l3 | refine below_set ?_ GE260.out | refine below_set ?_ GE261.out | refine below_set ?_ GE264.out | refine below_set ?_ GE269.out) | exact HB.out)) hb)
    (try clear hb)
    (try clear hb2)
    (try clear hk)
    (try clear hi)
    refine hK.out _ _ ⟨(blk_cell BK260.out 0).trans rfl, (blk_cell BK260.out 1).trans rfl, (blk_cell BK260.out 2).trans rfl, (blk_cell BK260.out 3).trans rfl, (blk_cell BK260.out 4).trans rfl, (blk_cell BK264.out 0).trans rfl, (blk_cell BK264.out 1).trans rfl⟩ (fun hHeld => ?_)
    clear hK K
    refine norm_ (a' := ?_) ?_ ?_
    rotate_left
    ·show Act.put _ (some 20) _ = _
     simp only [Act.put, List.setIfInBounds_toArray, List.set_cons_zero, List.set_cons_succ, i64_w, i32_w]
     rfl
    refine pure_ (i := 11) (N := some 21) (v := ?_) (a' := ?_) #[true, true, true, true, true, true, true, true, true, true, true, true, true, false] rfl rfl (any_of HT_.out (by kernel_rfl)) (fun _ _ _ h => h) (Or.inl ⟨by rfl, ?_⟩) ?_ ?_
    rotate_left
    ·intro w'
     go_simp
     with_reducible rfl
    rotate_left
    ·simp only [Act.put, List.setIfInBounds_toArray, List.set_cons_zero, List.set_cons_succ, i64_w, i32_w]
     rfl
    exact norm_ (by simp only [putAll, Act.put, List.setIfInBounds_toArray, List.set_cons_zero, List.set_cons_succ]) (hCont (gb269) _ ⟨hHeld, (bA BK260.out), (bA BK261.out), (bA BK264.out), (bA BK269.out), GW269.out, GE269.out, NB260_269.out, NB269_260.out, NB261_269.out, NB269_261.out, NB264_269.out, NB269_264.out, (by repeat (first | (with_reducible first | exact HB.out | apply l1 | apply l2 | apply l3 | refine below_set ?_ GE260.out | refine below_set ?_ GE261.out | refine below_set ?_ GE264.out | refine below_set ?_ GE269.out) | exact HB.out))⟩)
  ·skip
   refine box_step (by rfl) (N := 4) (by rfl) (cs := #[.bool false, .int .u64 0, .int .u64 0, .int .u64 0, .int .u64 0]) (t := 101) (by first | (go_simp; done) | (go_simp; rfl)) ?_
   intro gb269 hg w17 hbox hb
   obtain ⟨hb_, hw_⟩ := box_facts (by repeat (first | (with_reducible first | exact HB.out | apply l1 | apply l2 | apply l3 | refine below_set ?_ GE260.out | refine below_set ?_ GE261.out | refine below_set ?_ GE264.out) | exact HB.out)) hg hb
   replace HB := Aside0.mk (hb_)
   have BK269 := Aside0.mk (hbox)
   have GW269 := Aside0.mk (hw_)
   have GE269 := Aside0.mk (hw_)
   have NB260_269 := Aside0.mk ((nL hg BK260.out))
   have NB269_260 := Aside0.mk ((nG hg BK260.out))
   replace BK260 := Aside0.mk (bB BK260.out hb)
   have NB261_269 := Aside0.mk ((nL hg BK261.out))
   have NB269_261 := Aside0.mk ((nG hg BK261.out))
   replace BK261 := Aside0.mk (bB BK261.out hb)
   have NB264_269 := Aside0.mk ((nL hg BK264.out))
   have NB269_264 := Aside0.mk ((nG hg BK264.out))
   replace BK264 := Aside0.mk (bB BK264.out hb)
   clear hb hbox hg hb_ hw_
   refine hK.out _ _ ⟨(blk_cell BK260.out 0).trans rfl, (blk_cell BK260.out 1).trans rfl, (blk_cell BK260.out 2).trans rfl, (blk_cell BK260.out 3).trans rfl, (blk_cell BK260.out 4).trans rfl, (blk_cell BK264.out 0).trans rfl, (blk_cell BK264.out 1).trans rfl⟩ (fun hHeld => ?_)
   clear hK K
   refine norm_ (a' := ?_) ?_ ?_
   rotate_left
   ·show Act.put _ (some 4) _ = _
    simp only [Act.put, List.setIfInBounds_toArray, List.set_cons_zero, List.set_cons_succ, i64_w, i32_w]
    rfl
   refine one_ (i := 5) (N := some 15) #[true, true, true, true, true, true, true, true, true, true, false, false, true, false] rfl rfl (one_of HT_.out (by kernel_rfl)) (by decide) (fun K hK => ?_)
   refine goes_ Try.func75 (by kernel_rfl) rfl #[.agg #[.int .u64 t262, .int .u64 t263], .agg #[.int .u64 a0_3, .int .u64 a0_4]] (by rfl) rfl rfl (by (try simp only [List.map_toArray, List.map_cons, List.map_nil]); first | done | rfl | (simp only [List.length_drop, List.length_take]; rfl)) ?_
   with_reducible refine (ratio_wide_plus.calls t262 t263 a0_3 a0_4 t265 t266 _ A3.out).mono ?_
   rintro e w18 ⟨rfl, hb⟩
   refine ⟨_, rfl, ?_⟩
   replace BK260 := Aside0.mk (bB BK260.out hb)
   replace BK261 := Aside0.mk (bB BK261.out hb)
   replace BK264 := Aside0.mk (bB BK264.out hb)
   replace BK269 := Aside0.mk (bB BK269.out hb)
   replace HB := Aside0.mk (below_step (by repeat (first | (with_reducible first | exact HB.out | apply l1 | apply l2 | apply l3 | refine below_set ?_ GE260.out | refine below_set ?_ GE261.out | refine below_set ?_ GE264.out | refine below_set ?_ GE269.out) | exact HB.out)) hb)
   (try clear hb)
   (try clear hb2)
   (try clear hk)
   (try clear hi)
   refine hK.out _ _ ⟨(blk_cell BK260.out 0).trans rfl, (blk_cell BK260.out 1).trans rfl, (blk_cell BK260.out 2).trans rfl, (blk_cell BK260.out 3).trans rfl, (blk_cell BK260.out 4).trans rfl, (blk_cell BK264.out 0).trans rfl, (blk_cell BK264.out 1).trans rfl⟩ (fun hHeld => ?_)
   clear hK K
   refine norm_ (a' := ?_) ?_ ?_
   rotate_left
   ·show Act.put _ (some 15) _ = _
    simp only [Act.put, List.setIfInBounds_toArray, List.set_cons_zero, List.set_cons_succ, i64_w, i32_w]
    rfl
   refine one_ (i := 10) (N := some 20) #[true, true, true, true, true, true, true, true, true, true, true, false, true, false] rfl rfl (one_of HT_.out (by kernel_rfl)) (by decide) (fun K hK => ?_)
   refine goes_ Try.func75 (by kernel_rfl) rfl #[.agg #[.int .u64 a0_3, .int .u64 a0_4], .agg #[.int .u64 a0_3, .int .u64 a0_4]] (by rfl) rfl rfl (by (try simp only [List.map_toArray, List.map_cons, List.map_nil]); first | done | rfl | (simp only [List.length_drop, List.length_take]; rfl)) ?_
   with_reducible refine (ratio_wide_plus.calls a0_3 a0_4 a0_3 a0_4 t267 t268 _ A4.out).mono ?_
   rintro e w19 ⟨rfl, hb⟩
   refine ⟨_, rfl, ?_⟩
   replace BK260 := Aside0.mk (bB BK260.out hb)
   replace BK261 := Aside0.mk (bB BK261.out hb)
   replace BK264 := Aside0.mk (bB BK264.out hb)
   replace BK269 := Aside0.mk (bB BK269.out hb)
   replace HB := Aside0.mk (below_step (by repeat (first | (with_reducible first | exact HB.out | apply l1 | apply l2 | apply l3 | refine below_set ?_ GE260.out | refine below_set ?_ GE261.out | refine below_set ?_ GE264.out | refine below_set ?_ GE269.out) | exact HB.out)) hb)
   (try clear hb)
   (try clear hb2)
   (try clear hk)
   (try clear hi)
   refine hK.out _ _ ⟨(blk_cell BK260.out 0).trans rfl, (blk_cell BK260.out 1).trans rfl, (blk_cell BK260.out 2).trans rfl, (blk_cell BK260.out 3).trans rfl, (blk_cell BK260.out 4).trans rfl, (blk_cell BK264.out 0).trans rfl, (blk_cell BK264.out 1).trans rfl⟩ (fun hHeld => ?_)
   clear hK K
   refine norm_ (a' := ?_) ?_ ?_
   rotate_left
   ·show Act.put _ (some 20) _ = _
    simp only [Act.put, List.setIfInBounds_toArray, List.set_cons_zero, List.set_cons_succ, i64_w, i32_w]
    rfl
   refine pure_ (i := 11) (N := some 21) (v := ?_) (a' := ?_) #[true, true, true, true, true, true, true, true, true, true, true, true, true, false] rfl rfl (any_of HT_.out (by kernel_rfl)) (fun _ _ _ h => h) (Or.inl ⟨by rfl, ?_⟩) ?_ ?_
   rotate_left
   ·intro w'
    go_simp
    with_reducible rfl
   rotate_left
   ·simp only [Act.put, List.setIfInBounds_toArray, List.set_cons_zero, List.set_cons_succ, i64_w, i32_w]
    rfl
   exact norm_ (by simp only [putAll, Act.put, List.setIfInBounds_toArray, List.set_cons_zero, List.set_cons_succ]) (hCont (gb269) _ ⟨hHeld, (bA BK260.out), (bA BK261.out), (bA BK264.out), (bA BK269.out), GW269.out, GE269.out, NB260_269.out, NB269_260.out, NB261_269.out, NB269_261.out, NB264_269.out, NB269_264.out, (by repeat (first | (with_reducible first | exact HB.out | apply l1 | apply l2 | apply l3 | refine below_set ?_ GE260.out | refine below_set ?_ GE261.out | refine below_set ?_ GE264.out | refine below_set ?_ GE269.out) | exact HB.out))⟩)
 rintro gb269 w20 ⟨hS_, h0_, h1_, h2_, h3_, h4_, h5_, h6_, h7_, h8_, h9_, h10_, h11_, h12_⟩
 replace BK260 : Aside0 (w20.heap[gb260]? = some (.cells #[.bool a0_0, .int .u64 a0_1, .int .u64 a0_2, .int .u64 a0_3, .int .u64 a0_4] 101 (0, 0))) := ⟨h0_⟩
 replace BK261 : Aside0 (w20.heap[gb261]? = some (.cells #[.bool false, .int .u64 0, .int .u64 0, .int .u64 0, .int .u64 0] 101 (0, 0))) := ⟨h1_⟩
 replace BK264 : Aside0 (w20.heap[gb264]? = some (.cells #[.int .u64 t262, .int .u64 t263] 88 (0, 0))) := ⟨h2_⟩
 have BK269 : Aside0 (w20.heap[gb269]? = some (.cells #[.bool false, .int .u64 0, .int .u64 0, .int .u64 0, .int .u64 0] 101 (0, 0))) := ⟨h3_⟩
 have GW269 : Aside0 (w.heap.size ≤ gb269) := ⟨h4_⟩
 have GE269 : Aside0 (w.heap.size ≤ gb269) := ⟨h5_⟩
 have NB260_269 : Aside0 (gb260 ≠ gb269) := ⟨h6_⟩
 have NB269_260 : Aside0 (gb269 ≠ gb260) := ⟨h7_⟩
 have NB261_269 : Aside0 (gb261 ≠ gb269) := ⟨h8_⟩
 have NB269_261 : Aside0 (gb269 ≠ gb261) := ⟨h9_⟩
 have NB264_269 : Aside0 (gb264 ≠ gb269) := ⟨h10_⟩
 have NB269_264 : Aside0 (gb269 ≠ gb264) := ⟨h11_⟩
 replace HB : Aside0 (Below w.heap.size w w20) := ⟨h12_⟩
 clear h0_ h1_ h2_ h3_ h4_ h5_ h6_ h7_ h8_ h9_ h10_ h11_ h12_
 have hHeld : w20.cell? ⟨gb260, 0, none⟩ = some (.bool a0_0) ∧ w20.cell? ⟨gb260, 1, none⟩ = some (.int .u64 a0_1) ∧ w20.cell? ⟨gb260, 2, none⟩ = some (.int .u64 a0_2) ∧ w20.cell? ⟨gb260, 3, none⟩ = some (.int .u64 a0_3) ∧ w20.cell? ⟨gb260, 4, none⟩ = some (.int .u64 a0_4) ∧ w20.cell? ⟨gb264, 0, none⟩ = some (.int .u64 t262) ∧ w20.cell? ⟨gb264, 1, none⟩ = some (.int .u64 t263) := hS_
 refine norm_ (a' := ?_) ?_ ?_
 rotate_left
 ·simp only [putAll, Act.put, List.setIfInBounds_toArray, List.set_cons_zero, List.set_cons_succ]
  rfl
 refine one_ (i := 13) (N := none) #[true, true, true, true, true, true, true, true, true, true, true, true, true, true] rfl rfl (one_of HT_.out (by kernel_rfl)) (by decide) (fun K hK => ?_)
 have hs21 : w20.cell? ⟨gb269, 0, none⟩ = some (.bool false) := (blk_cell BK269.out 0).trans rfl
 have hfs21 := blk_frozen BK269.out 0
 have hns21_0 := NB260_269.out
 have hns21_1 := NB261_269.out
 have hns21_2 := NB264_269.out
 have hms21_0 := NB269_260.out
 have hms21_1 := NB269_261.out
 have hms21_2 := NB269_264.out
 have hs22 : w20.cell? ⟨gb269, 1, none⟩ = some (.int .u64 0) := (blk_cell BK269.out 1).trans rfl
 have hfs22 := blk_frozen BK269.out 1
 have hns22_0 := NB260_269.out
 have hns22_1 := NB261_269.out
 have hns22_2 := NB264_269.out
 have hms22_0 := NB269_260.out
 have hms22_1 := NB269_261.out
 have hms22_2 := NB269_264.out
 have hs23 : w20.cell? ⟨gb269, 2, none⟩ = some (.int .u64 0) := (blk_cell BK269.out 2).trans rfl
 have hfs23 := blk_frozen BK269.out 2
 have hns23_0 := NB260_269.out
 have hns23_1 := NB261_269.out
 have hns23_2 := NB264_269.out
 have hms23_0 := NB269_260.out
 have hms23_1 := NB269_261.out
 have hms23_2 := NB269_264.out
 have hs24 : w20.cell? ⟨gb269, 3, none⟩ = some (.int .u64 0) := (blk_cell BK269.out 3).trans rfl
 have hfs24 := blk_frozen BK269.out 3
 have hns24_0 := NB260_269.out
 have hns24_1 := NB261_269.out
 have hns24_2 := NB264_269.out
 have hms24_0 := NB269_260.out
 have hms24_1 := NB269_261.out
 have hms24_2 := NB269_264.out
 have hs25 : w20.cell? ⟨gb269, 4, none⟩ = some (.int .u64 0) := (blk_cell BK269.out 4).trans rfl
 have hfs25 := blk_frozen BK269.out 4
 have hns25_0 := NB260_269.out
 have hns25_1 := NB261_269.out
 have hns25_2 := NB264_269.out
 have hms25_0 := NB269_260.out
 have hms25_1 := NB269_261.out
 have hms25_2 := NB269_264.out
 refine skip_ (w1 := ?_) (by rfl) rfl ?_ ?_
 rotate_left
 ·go_simp
  rfl
 refine hK.out _ _ ⟨((cell_far (p := ⟨gb269, _, none⟩) NB260_269.out _).trans (((cell_far (p := ⟨gb269, _, none⟩) NB260_269.out _).trans (((cell_far (p := ⟨gb269, _, none⟩) NB260_269.out _).trans (((cell_far (p := ⟨gb269, _, none⟩) NB260_269.out _).trans (((cell_far (p := ⟨gb269, _, none⟩) NB260_269.out _).trans (hHeld.1)))))))))), ((cell_far (p := ⟨gb269, _, none⟩) NB260_269.out _).trans (((cell_far (p := ⟨gb269, _, none⟩) NB260_269.out _).trans (((cell_far (p := ⟨gb269, _, none⟩) NB260_269.out _).trans (((cell_far (p := ⟨gb269, _, none⟩) NB260_269.out _).trans (((cell_far (p := ⟨gb269, _, none⟩) NB260_269.out _).trans (hHeld.2.1)))))))))), ((cell_far (p := ⟨gb269, _, none⟩) NB260_269.out _).trans (((cell_far (p := ⟨gb269, _, none⟩) NB260_269.out _).trans (((cell_far (p := ⟨gb269, _, none⟩) NB260_269.out _).trans (((cell_far (p := ⟨gb269, _, none⟩) NB260_269.out _).trans (((cell_far (p := ⟨gb269, _, none⟩) NB260_269.out _).trans (hHeld.2.2.1)))))))))), ((cell_far (p := ⟨gb269, _, none⟩) NB260_269.out _).trans (((cell_far (p := ⟨gb269, _, none⟩) NB260_269.out _).trans (((cell_far (p := ⟨gb269, _, none⟩) NB260_269.out _).trans (((cell_far (p := ⟨gb269, _, none⟩) NB260_269.out _).trans (((cell_far (p := ⟨gb269, _, none⟩) NB260_269.out _).trans (hHeld.2.2.2.1)))))))))), ((cell_far (p := ⟨gb269, _, none⟩) NB260_269.out _).trans (((cell_far (p := ⟨gb269, _, none⟩) NB260_269.out _).trans (((cell_far (p := ⟨gb269, _, none⟩) NB260_269.out _).trans (((cell_far (p := ⟨gb269, _, none⟩) NB260_269.out _).trans (((cell_far (p := ⟨gb269, _, none⟩) NB260_269.out _).trans (hHeld.2.2.2.2.1)))))))))), ((cell_far (p := ⟨gb269, _, none⟩) NB264_269.out _).trans (((cell_far (p := ⟨gb269, _, none⟩) NB264_269.out _).trans (((cell_far (p := ⟨gb269, _, none⟩) NB264_269.out _).trans (((cell_far (p := ⟨gb269, _, none⟩) NB264_269.out _).trans (((cell_far (p := ⟨gb269, _, none⟩) NB264_269.out _).trans (hHeld.2.2.2.2.2.1)))))))))), ((cell_far (p := ⟨gb269, _, none⟩) NB264_269.out _).trans (((cell_far (p := ⟨gb269, _, none⟩) NB264_269.out _).trans (((cell_far (p := ⟨gb269, _, none⟩) NB264_269.out _).trans (((cell_far (p := ⟨gb269, _, none⟩) NB264_269.out _).trans (((cell_far (p := ⟨gb269, _, none⟩) NB264_269.out _).trans (hHeld.2.2.2.2.2.2))))))))))⟩ (fun hHeld => ?_)
 clear hK K
 refine done_ (done_of HT_.out (by kernel_rfl)) ?_
 go_upto_region 3 with (fail)
 go_cut [22] (fun v22 wc => ∃ (kq : Nat) (x22_4 : Bool), v22 = .bool x22_4 ∧ Aside0 (ratio_frac_half.j0 kq x22_4 a0_0 a0_1 a0_2 a0_3 a0_4 t262 t263 a0_0 t265 t266 t267 t268 = some (r1, r2, r3, r4, r5)) ∧ Aside0 (kq ≤ k) ∧ Aside0 (wc.heap[gb260]? = some (.cells #[.bool a0_0, .int .u64 a0_1, .int .u64 a0_2, .int .u64 a0_3, .int .u64 a0_4] 101 (0, 0))) ∧ Aside0 (wc.heap[gb261]? = some (.cells #[.bool false, .int .u64 0, .int .u64 0, .int .u64 0, .int .u64 0] 101 (0, 0))) ∧ Aside0 (wc.heap[gb264]? = some (.cells #[.int .u64 t262, .int .u64 t263] 88 (0, 0))) ∧ Aside0 (wc.heap[gb269]? = some (.cells #[.bool a0_0, .int .u64 t265, .int .u64 t266, .int .u64 t267, .int .u64 t268] 101 (0, 0))) ∧ Aside0 (Below w.heap.size w wc))
 case first =>
  have H := HC5.out
  clear HC5
  by_cases c26 : a0_0 = true
  ·subst c26
   have H1 : ((ratio_wide_cmp.f t262 t263 a0_3 a0_4).bind fun t270 => (ratio_frac_half.j0 k (decide (t270 > 0)) true a0_1 a0_2 a0_3 a0_4 t262 t263 true t265 t266 t267 t268)) = some (r1, r2, r3, r4, r5) := by rw [if_pos rfl] at H; exact H
   clear H
   have H := H1
   clear H1
   replace H := Option.bind_eq_some_iff.mp H
   obtain ⟨t270, A270, H⟩ := H
   (try dsimp only at H)
   have A27 := Aside0.mk A270
   clear A270
   have H' := Aside0.mk H
   clear H
   have hnb28 := NB260_261.out
   have hnc28 := NB261_260.out
   have hnb29 := NB260_264.out
   have hnc29 := NB264_260.out
   have hnb30 := NB260_269.out
   have hnc30 := NB269_260.out
   obtain ⟨hcz31_0, hcz31_1, hcz31_2, hcz31_3, hcz31_4, hfz31_0, hfz31_1, hfz31_2, hfz31_3, hfz31_4⟩ := blk_cells5 BK260.out
   have hnb32 := NB264_261.out
   have hnc32 := NB261_264.out
   have hnb33 := NB264_269.out
   have hnc33 := NB269_264.out
   obtain ⟨hcz34_0, hcz34_1, hfz34_0, hfz34_1⟩ := blk_cells2 BK264.out
   go_wp2_with (first | (go_at_call 45; (with_reducible refine (ratio_wide_cmp.calls t262 t263 a0_3 a0_4 t270 _ A27.out).mono ?_); rintro e w35 ⟨rfl, hb⟩; replace BK260 := Aside0.mk (blk_below (g := gb260) (o := .cells #[.bool true, .int .u64 a0_1, .int .u64 a0_2, .int .u64 a0_3, .int .u64 a0_4] 101 (0, 0)) (by (with_reducible repeat (first | apply b1 | apply b2 | apply b3)); refine blk_far ?_ NB260_269.out _; (with_reducible repeat (first | apply b1 | apply b2 | apply b3)); refine blk_far ?_ NB260_269.out _; (with_reducible repeat (first | apply b1 | apply b2 | apply b3)); refine blk_far ?_ NB260_269.out _; (with_reducible repeat (first | apply b1 | apply b2 | apply b3)); refine blk_far ?_ NB260_269.out _; (with_reducible repeat (first | apply b1 | apply b2 | apply b3)); refine blk_far ?_ NB260_269.out _; (with_reducible repeat (first | apply b1 | apply b2 | apply b3)); exact BK260.out) hb); replace BK261 := Aside0.mk (blk_below (g := gb261) (o := .cells #[.bool false, .int .u64 0, .int .u64 0, .int .u64 0, .int .u64 0] 101 (0, 0)) (by (with_reducible repeat (first | apply b1 | apply b2 | apply b3)); refine blk_far ?_ NB261_269.out _; (with_reducible repeat (first | apply b1 | apply b2 | apply b3)); refine blk_far ?_ NB261_269.out _; (with_reducible repeat (first | apply b1 | apply b2 | apply b3)); refine blk_far ?_ NB261_269.out _; (with_reducible repeat (first | apply b1 | apply b2 | apply b3)); refine blk_far ?_ NB261_269.out _; (with_reducible repeat (first | apply b1 | apply b2 | apply b3)); refine blk_far ?_ NB261_269.out _; (with_reducible repeat (first | apply b1 | apply b2 | apply b3)); exact BK261.out) hb); replace BK264 := Aside0.mk (blk_below (g := gb264) (o := .cells #[.int .u64 t262, .int .u64 t263] 88 (0, 0)) (by (with_reducible repeat (first | apply b1 | apply b2 | apply b3)); refine blk_far ?_ NB264_269.out _; (with_reducible repeat (first | apply b1 | apply b2 | apply b3)); refine blk_far ?_ NB264_269.out _; (with_reducible repeat (first | apply b1 | apply b2 | apply b3)); refine blk_far ?_ NB264_269.out _; (with_reducible repeat (first | apply b1 | apply b2 | apply b3)); refine blk_far ?_ NB264_269.out _; (with_reducible repeat (first | apply b1 | apply b2 | apply b3)); refine blk_far ?_ NB264_269.out _; (with_reducible repeat (first | apply b1 | apply b2 | apply b3)); exact BK264.out) hb); replace BK269 := Aside0.mk (blk_below (g := gb269) (o := .cells #[.bool true, .int .u64 t265, .int .u64 t266, .int .u64 t267, .int .u64 t268] 101 (0, 0)) (by (with_reducible repeat (first | apply b1 | apply b2 | apply b3)); refine blk_put (cs := #[.bool true, .int .u64 t265, .int .u64 t266, .int .u64 t267, .int .u64 0]) ?_ 4 _ rfl; (with_reducible repeat (first | apply b1 | apply b2 | apply b3)); refine blk_put (cs := #[.bool true, .int .u64 t265, .int .u64 t266, .int .u64 0, .int .u64 0]) ?_ 3 _ rfl; (with_reducible repeat (first | apply b1 | apply b2 | apply b3)); refine blk_put (cs := #[.bool true, .int .u64 t265, .int .u64 0, .int .u64 0, .int .u64 0]) ?_ 2 _ rfl; (with_reducible repeat (first | apply b1 | apply b2 | apply b3)); refine blk_put (cs := #[.bool true, .int .u64 0, .int .u64 0, .int .u64 0, .int .u64 0]) ?_ 1 _ rfl; (with_reducible repeat (first | apply b1 | apply b2 | apply b3)); refine blk_put (cs := #[.bool false, .int .u64 0, .int .u64 0, .int .u64 0, .int .u64 0]) ?_ 0 _ rfl; (with_reducible repeat (first | apply b1 | apply b2 | apply b3)); exact BK269.out) hb); replace HB := Aside0.mk (below_step (by repeat (first | (with_reducible first | exact HB.out | apply l1 | apply l2 | apply l3 | refine below_set ?_ GE260.out | refine below_set ?_ GE261.out | refine below_set ?_ GE264.out | refine below_set ?_ GE269.out) | exact HB.out)) hb); (try clear hb); (try clear hb2); (try clear hk); (try clear hi)))
   go_meet
   case rel => exact ⟨_, (decide (t270 > 0)), (by first | rfl | (simp; done) | (simp [*]; done)), H', ⟨by first | omega | exact Nat.le_refl _⟩, ⟨by (with_reducible repeat (first | apply b1 | apply b2 | apply b3)); exact BK260.out⟩, ⟨by (with_reducible repeat (first | apply b1 | apply b2 | apply b3)); exact BK261.out⟩, ⟨by (with_reducible repeat (first | apply b1 | apply b2 | apply b3)); exact BK264.out⟩, ⟨by (with_reducible repeat (first | apply b1 | apply b2 | apply b3)); exact BK269.out⟩, ⟨by repeat (first | (with_reducible first | exact HB.out | apply l1 | apply l2 | apply l3 | refine below_set ?_ GE260.out | refine below_set ?_ GE261.out | refine below_set ?_ GE264.out | refine below_set ?_ GE269.out) | exact HB.out)⟩⟩
  ·replace c26 := Bool.eq_false_iff.mpr c26
   subst c26
   have H1 : (ratio_frac_half.j0 k false false a0_1 a0_2 a0_3 a0_4 t262 t263 false t265 t266 t267 t268) = some (r1, r2, r3, r4, r5) := by rw [if_neg (show ¬ (false = true) by decide)] at H; exact H
   clear H
   have H := H1
   clear H1
   have H' := Aside0.mk H
   clear H
   have hnb36 := NB260_261.out
   have hnc36 := NB261_260.out
   have hnb37 := NB260_264.out
   have hnc37 := NB264_260.out
   have hnb38 := NB260_269.out
   have hnc38 := NB269_260.out
   obtain ⟨hcz39_0, hcz39_1, hcz39_2, hcz39_3, hcz39_4, hfz39_0, hfz39_1, hfz39_2, hfz39_3, hfz39_4⟩ := blk_cells5 BK260.out
   go_wp2
   go_meet
   case rel => exact ⟨_, (false), (by first | rfl | (simp; done) | (simp [*]; done)), H', ⟨by first | omega | exact Nat.le_refl _⟩, ⟨by (with_reducible repeat (first | apply b1 | apply b2 | apply b3)); refine blk_far ?_ NB260_269.out _; (with_reducible repeat (first | apply b1 | apply b2 | apply b3)); refine blk_far ?_ NB260_269.out _; (with_reducible repeat (first | apply b1 | apply b2 | apply b3)); refine blk_far ?_ NB260_269.out _; (with_reducible repeat (first | apply b1 | apply b2 | apply b3)); refine blk_far ?_ NB260_269.out _; (with_reducible repeat (first | apply b1 | apply b2 | apply b3)); refine blk_far ?_ NB260_269.out _; (with_reducible repeat (first | apply b1 | apply b2 | apply b3)); exact BK260.out⟩, ⟨by (with_reducible repeat (first | apply b1 | apply b2 | apply b3)); refine blk_far ?_ NB261_269.out _; (with_reducible repeat (first | apply b1 | apply b2 | apply b3)); refine blk_far ?_ NB261_269.out _; (with_reducible repeat (first | apply b1 | apply b2 | apply b3)); refine blk_far ?_ NB261_269.out _; (with_reducible repeat (first | apply b1 | apply b2 | apply b3)); refine blk_far ?_ NB261_269.out _; (with_reducible repeat (first | apply b1 | apply b2 | apply b3)); refine blk_far ?_ NB261_269.out _; (with_reducible repeat (first | apply b1 | apply b2 | apply b3)); exact BK261.out⟩, ⟨by (with_reducible repeat (first | apply b1 | apply b2 | apply b3)); refine blk_far ?_ NB264_269.out _; (with_reducible repeat (first | apply b1 | apply b2 | apply b3)); refine blk_far ?_ NB264_269.out _; (with_reducible repeat (first | apply b1 | apply b2 | apply b3)); refine blk_far ?_ NB264_269.out _; (with_reducible repeat (first | apply b1 | apply b2 | apply b3)); refine blk_far ?_ NB264_269.out _; (with_reducible repeat (first | apply b1 | apply b2 | apply b3)); refine blk_far ?_ NB264_269.out _; (with_reducible repeat (first | apply b1 | apply b2 | apply b3)); exact BK264.out⟩, ⟨by (with_reducible repeat (first | apply b1 | apply b2 | apply b3)); refine blk_put (cs := #[.bool false, .int .u64 t265, .int .u64 t266, .int .u64 t267, .int .u64 0]) ?_ 4 _ rfl; (with_reducible repeat (first | apply b1 | apply b2 | apply b3)); refine blk_put (cs := #[.bool false, .int .u64 t265, .int .u64 t266, .int .u64 0, .int .u64 0]) ?_ 3 _ rfl; (with_reducible repeat (first | apply b1 | apply b2 | apply b3)); refine blk_put (cs := #[.bool false, .int .u64 t265, .int .u64 0, .int .u64 0, .int .u64 0]) ?_ 2 _ rfl; (with_reducible repeat (first | apply b1 | apply b2 | apply b3)); refine blk_put (cs := #[.bool false, .int .u64 0, .int .u64 0, .int .u64 0, .int .u64 0]) ?_ 1 _ rfl; (with_reducible repeat (first | apply b1 | apply b2 | apply b3)); refine blk_put (cs := #[.bool false, .int .u64 0, .int .u64 0, .int .u64 0, .int .u64 0]) ?_ 0 _ rfl; (with_reducible repeat (first | apply b1 | apply b2 | apply b3)); exact BK269.out⟩, ⟨by repeat (first | (with_reducible first | exact HB.out | apply l1 | apply l2 | apply l3 | refine below_set ?_ GE260.out | refine below_set ?_ GE261.out | refine below_set ?_ GE264.out | refine below_set ?_ GE269.out) | exact HB.out)⟩⟩
 case rest =>
  clear HC5
  try clear c1
  try clear c2
  try clear p2
  try clear c3
  try clear c6
  try clear c7
  try clear c8
  try clear c12
  try clear c13
  try clear c26
  try clear c28
  try clear c29
  try clear c30
  try clear c32
  try clear c33
  try clear c36
  try clear c37
  try clear c38
  try clear hcz14_0
  try clear hcz14_1
  try clear hcz31_0
  try clear hcz31_1
  try clear hcz31_2
  try clear hcz31_3
  try clear hcz31_4
  try clear hcz34_0
  try clear hcz34_1
  try clear hcz39_0
  try clear hcz39_1
  try clear hcz39_2
  try clear hcz39_3
  try clear hcz39_4
  try clear hcz9_0
  try clear hcz9_1
  try clear hcz9_2
  try clear hcz9_3
  try clear hcz9_4
  try clear hfz14_0
  try clear hfz14_1
  try clear hfz31_0
  try clear hfz31_1
  try clear hfz31_2
  try clear hfz31_3
  try clear hfz31_4
  try clear hfz34_0
  try clear hfz34_1
  try clear hfz39_0
  try clear hfz39_1
  try clear hfz39_2
  try clear hfz39_3
  try clear hfz39_4
  try clear hfz9_0
  try clear hfz9_1
  try clear hfz9_2
  try clear hfz9_3
  try clear hfz9_4
  obtain ⟨kq, x22_4, rfl, HA, HJ4, BK260, BK261, BK264, BK269, HB⟩ := hcut
  cases kq with
  | zero => exact absurd HA.out (by simp [ratio_frac_half.j0])
  | succ kj4 =>
   have H := HA.out
   clear HA
   simp only [ratio_frac_half.j0] at H
   by_cases c40 : x22_4 = true
   ·subst c40
    have H1 : ((ratio_wide_minus.f t262 t263 a0_3 a0_4).bind fun bt271 => (some (a0_0, bt271.1, bt271.2, t267, t268))) = some (r1, r2, r3, r4, r5) := by rw [if_pos rfl] at H; exact H
    clear H
    have H := H1
    clear H1
    replace H := Option.bind_eq_some_iff.mp H
    obtain ⟨⟨t271, t272⟩, A410, H⟩ := H
    (try dsimp only at H)
    have A41 := Aside0.mk A410
    clear A410
    simp only [Option.some.injEq, Prod.mk.injEq] at H
    obtain ⟨rfl, rfl, rfl, rfl, rfl⟩ := H
    have hnb42 := NB264_260.out
    have hnc42 := NB260_264.out
    have hnb43 := NB264_261.out
    have hnc43 := NB261_264.out
    have hnb44 := NB264_269.out
    have hnc44 := NB269_264.out
    obtain ⟨hcz45_0, hcz45_1, hfz45_0, hfz45_1⟩ := blk_cells2 BK264.out
    have hnb46 := NB260_261.out
    have hnc46 := NB261_260.out
    have hnb47 := NB260_269.out
    have hnc47 := NB269_260.out
    obtain ⟨hcz48_0, hcz48_1, hcz48_2, hcz48_3, hcz48_4, hfz48_0, hfz48_1, hfz48_2, hfz48_3, hfz48_4⟩ := blk_cells5 BK260.out
    go_wp2_with (first | ((with_reducible refine gate_callee (f := 76) rfl ?_); refine goesL_ (some 35) rfl rfl Try.func76 (by kernel_rfl) rfl #[.agg #[.int .u64 t262, .int .u64 t263], .agg #[.int .u64 a0_3, .int .u64 a0_4]] rfl (by (try simp only [List.map_toArray, List.map_cons, List.map_nil]); first | done | rfl | (simp only [List.length_drop, List.length_take]; rfl)) ?_; (with_reducible refine (ratio_wide_minus.calls t262 t263 a0_3 a0_4 t271 t272 _ A41.out).mono ?_); rintro e w49 ⟨rfl, hb⟩; refine ⟨_, rfl, ?_⟩; replace BK260 := Aside0.mk (bB BK260.out hb); replace BK261 := Aside0.mk (bB BK261.out hb); replace BK264 := Aside0.mk (bB BK264.out hb); replace BK269 := Aside0.mk (bB BK269.out hb); replace HB := Aside0.mk (below_step (by repeat (first | (with_reducible first | exact HB.out | apply l1 | apply l2 | apply l3 | refine below_set ?_ GE260.out | refine below_set ?_ GE261.out | refine below_set ?_ GE264.out | refine below_set ?_ GE269.out) | exact HB.out)) hb); (try clear hb); (try clear hb2); (try clear hk); (try clear hi); have hnb50 := NB269_261.out; have hnc50 := NB261_269.out; obtain ⟨hcz51_0, hcz51_1, hcz51_2, hcz51_3, hcz51_4, hfz51_0, hfz51_1, hfz51_2, hfz51_3, hfz51_4⟩ := blk_cells5 BK269.out; obtain ⟨hcz52_0, hcz52_1, hcz52_2, hcz52_3, hcz52_4, hfz52_0, hfz52_1, hfz52_2, hfz52_3, hfz52_4⟩ := blk_cells5 BK261.out))
    refine bodyPost_ret (results_cell_row rfl _ _ gb261 101 #[.bool a0_0, .int .u64 t271, .int .u64 t272, .int .u64 t267, .int .u64 t268] (0, 0) _ rfl (by (with_reducible repeat (first | apply b1 | apply b2 | apply b3)); refine blk_put (cs := #[.bool a0_0, .int .u64 t271, .int .u64 t272, .int .u64 t267, .int .u64 0]) ?_ 4 _ rfl; (with_reducible repeat (first | apply b1 | apply b2 | apply b3)); refine blk_put (cs := #[.bool a0_0, .int .u64 t271, .int .u64 t272, .int .u64 0, .int .u64 0]) ?_ 3 _ rfl; (with_reducible repeat (first | apply b1 | apply b2 | apply b3)); refine blk_put (cs := #[.bool a0_0, .int .u64 t271, .int .u64 0, .int .u64 0, .int .u64 0]) ?_ 2 _ rfl; (with_reducible repeat (first | apply b1 | apply b2 | apply b3)); refine blk_put (cs := #[.bool a0_0, .int .u64 0, .int .u64 0, .int .u64 0, .int .u64 0]) ?_ 1 _ rfl; (with_reducible repeat (first | apply b1 | apply b2 | apply b3)); refine blk_put (cs := #[.bool false, .int .u64 0, .int .u64 0, .int .u64 0, .int .u64 0]) ?_ 0 _ rfl; (with_reducible repeat (first | apply b1 | apply b2 | apply b3)); refine blk_far ?_ NB261_269.out _; (with_reducible repeat (first | apply b1 | apply b2 | apply b3)); refine blk_far ?_ NB261_269.out _; (with_reducible repeat (first | apply b1 | apply b2 | apply b3)); exact BK261.out) Try.underlying101 rfl (by kernel_rfl)) rfl ?_
    exact ⟨by first | rfl | (simp [errW_none, errW_some] <;> rfl) | (simp [*, errW_none, errW_some] <;> rfl), by repeat (first | (with_reducible first | exact HB.out | apply l1 | apply l2 | apply l3 | refine below_set ?_ GE260.out | refine below_set ?_ GE261.out | refine below_set ?_ GE264.out | refine below_set ?_ GE269.out) | exact HB.out)⟩
   ·replace c40 := Bool.eq_false_iff.mpr c40
    subst c40
    have H1 : (if a0_0 = true then ((ratio_wide_minus.f a0_3 a0_4 t262 t263).bind fun bt273 => (some (false, bt273.1, bt273.2, t267, t268))) else (some (a0_0, t265, t266, t267, t268))) = some (r1, r2, r3, r4, r5) := by rw [if_neg (show ¬ (false = true) by decide)] at H; exact H
    clear H
    have H := H1
    clear H1
    by_cases c53 : a0_0 = true
    ·subst c53
     have H1 : ((ratio_wide_minus.f a0_3 a0_4 t262 t263).bind fun bt273 => (some (false, bt273.1, bt273.2, t267, t268))) = some (r1, r2, r3, r4, r5) := by rw [if_pos rfl] at H; exact H
     clear H
     have H := H1
     clear H1
     replace H := Option.bind_eq_some_iff.mp H
     obtain ⟨⟨t273, t274⟩, A540, H⟩ := H
     (try dsimp only at H)
     have A54 := Aside0.mk A540
     clear A540
     simp only [Option.some.injEq, Prod.mk.injEq] at H
     obtain ⟨rfl, rfl, rfl, rfl, rfl⟩ := H
     have hnb55 := NB260_261.out
     have hnc55 := NB261_260.out
     have hnb56 := NB260_264.out
     have hnc56 := NB264_260.out
     have hnb57 := NB260_269.out
     have hnc57 := NB269_260.out
     obtain ⟨hcz58_0, hcz58_1, hcz58_2, hcz58_3, hcz58_4, hfz58_0, hfz58_1, hfz58_2, hfz58_3, hfz58_4⟩ := blk_cells5 BK260.out
     have hnb59 := NB264_261.out
     have hnc59 := NB261_264.out
     have hnb60 := NB264_269.out
     have hnc60 := NB269_264.out
     obtain ⟨hcz61_0, hcz61_1, hfz61_0, hfz61_1⟩ := blk_cells2 BK264.out
     go_wp2_with (first | ((with_reducible refine gate_callee (f := 76) rfl ?_); refine goesL_ (some 43) rfl rfl Try.func76 (by kernel_rfl) rfl #[.agg #[.int .u64 a0_3, .int .u64 a0_4], .agg #[.int .u64 t262, .int .u64 t263]] rfl (by (try simp only [List.map_toArray, List.map_cons, List.map_nil]); first | done | rfl | (simp only [List.length_drop, List.length_take]; rfl)) ?_; (with_reducible refine (ratio_wide_minus.calls a0_3 a0_4 t262 t263 t273 t274 _ A54.out).mono ?_); rintro e w62 ⟨rfl, hb⟩; refine ⟨_, rfl, ?_⟩; replace BK260 := Aside0.mk (bB BK260.out hb); replace BK261 := Aside0.mk (bB BK261.out hb); replace BK264 := Aside0.mk (bB BK264.out hb); replace BK269 := Aside0.mk (bB BK269.out hb); replace HB := Aside0.mk (below_step (by repeat (first | (with_reducible first | exact HB.out | apply l1 | apply l2 | apply l3 | refine below_set ?_ GE260.out | refine below_set ?_ GE261.out | refine below_set ?_ GE264.out | refine below_set ?_ GE269.out) | exact HB.out)) hb); (try clear hb); (try clear hb2); (try clear hk); (try clear hi); have hnb63 := NB269_261.out; have hnc63 := NB261_269.out; obtain ⟨hcz64_0, hcz64_1, hcz64_2, hcz64_3, hcz64_4, hfz64_0, hfz64_1, hfz64_2, hfz64_3, hfz64_4⟩ := blk_cells5 BK269.out; obtain ⟨hcz65_0, hcz65_1, hcz65_2, hcz65_3, hcz65_4, hfz65_0, hfz65_1, hfz65_2, hfz65_3, hfz65_4⟩ := blk_cells5 BK261.out))
     refine bodyPost_ret (results_cell_row rfl _ _ gb261 101 #[.bool false, .int .u64 t273, .int .u64 t274, .int .u64 t267, .int .u64 t268] (0, 0) _ rfl (by (with_reducible repeat (first | apply b1 | apply b2 | apply b3)); refine blk_put (cs := #[.bool false, .int .u64 t273, .int .u64 t274, .int .u64 t267, .int .u64 0]) ?_ 4 _ rfl; (with_reducible repeat (first | apply b1 | apply b2 | apply b3)); refine blk_put (cs := #[.bool false, .int .u64 t273, .int .u64 t274, .int .u64 0, .int .u64 0]) ?_ 3 _ rfl; (with_reducible repeat (first | apply b1 | apply b2 | apply b3)); refine blk_put (cs := #[.bool false, .int .u64 t273, .int .u64 0, .int .u64 0, .int .u64 0]) ?_ 2 _ rfl; (with_reducible repeat (first | apply b1 | apply b2 | apply b3)); refine blk_put (cs := #[.bool false, .int .u64 0, .int .u64 0, .int .u64 0, .int .u64 0]) ?_ 1 _ rfl; (with_reducible repeat (first | apply b1 | apply b2 | apply b3)); refine blk_put (cs := #[.bool false, .int .u64 0, .int .u64 0, .int .u64 0, .int .u64 0]) ?_ 0 _ rfl; (with_reducible repeat (first | apply b1 | apply b2 | apply b3)); refine blk_far ?_ NB261_269.out _; (with_reducible repeat (first | apply b1 | apply b2 | apply b3)); refine blk_far ?_ NB261_269.out _; (with_reducible repeat (first | apply b1 | apply b2 | apply b3)); refine blk_far ?_ NB261_269.out _; (with_reducible repeat (first | apply b1 | apply b2 | apply b3)); exact BK261.out) Try.underlying101 rfl (by kernel_rfl)) rfl ?_
     exact ⟨by first | rfl | (simp [errW_none, errW_some] <;> rfl) | (simp [*, errW_none, errW_some] <;> rfl), by repeat (first | (with_reducible first | exact HB.out | apply l1 | apply l2 | apply l3 | refine below_set ?_ GE260.out | refine below_set ?_ GE261.out | refine below_set ?_ GE264.out | refine below_set ?_ GE269.out) | exact HB.out)⟩
    ·replace c53 := Bool.eq_false_iff.mpr c53
     subst c53
     have H1 : (some (false, t265, t266, t267, t268)) = some (r1, r2, r3, r4, r5) := by rw [if_neg (show ¬ (false = true) by decide)] at H; exact H
     clear H
     have H := H1
     clear H1
     simp only [Option.some.injEq, Prod.mk.injEq] at H
     obtain ⟨rfl, rfl, rfl, rfl, rfl⟩ := H
     have hnb66 := NB260_261.out
     have hnc66 := NB261_260.out
     have hnb67 := NB260_264.out
     have hnc67 := NB264_260.out
     have hnb68 := NB260_269.out
     have hnc68 := NB269_260.out
     obtain ⟨hcz69_0, hcz69_1, hcz69_2, hcz69_3, hcz69_4, hfz69_0, hfz69_1, hfz69_2, hfz69_3, hfz69_4⟩ := blk_cells5 BK260.out
     have hnb70 := NB269_261.out
     have hnc70 := NB261_269.out
     have hnb71 := NB269_264.out
     have hnc71 := NB264_269.out
     obtain ⟨hcz72_0, hcz72_1, hcz72_2, hcz72_3, hcz72_4, hfz72_0, hfz72_1, hfz72_2, hfz72_3, hfz72_4⟩ := blk_cells5 BK269.out
     have hnb73 := NB261_264.out
     have hnc73 := NB264_261.out
     obtain ⟨hcz74_0, hcz74_1, hcz74_2, hcz74_3, hcz74_4, hfz74_0, hfz74_1, hfz74_2, hfz74_3, hfz74_4⟩ := blk_cells5 BK261.out
     go_wp2
     refine bodyPost_ret (results_cell_row rfl _ _ gb261 101 #[.bool false, .int .u64 t265, .int .u64 t266, .int .u64 t267, .int .u64 t268] (0, 0) _ rfl (by (with_reducible repeat (first | apply b1 | apply b2 | apply b3)); refine blk_put (cs := #[.bool false, .int .u64 t265, .int .u64 t266, .int .u64 t267, .int .u64 0]) ?_ 4 _ rfl; (with_reducible repeat (first | apply b1 | apply b2 | apply b3)); refine blk_put (cs := #[.bool false, .int .u64 t265, .int .u64 t266, .int .u64 0, .int .u64 0]) ?_ 3 _ rfl; (with_reducible repeat (first | apply b1 | apply b2 | apply b3)); refine blk_put (cs := #[.bool false, .int .u64 t265, .int .u64 0, .int .u64 0, .int .u64 0]) ?_ 2 _ rfl; (with_reducible repeat (first | apply b1 | apply b2 | apply b3)); refine blk_put (cs := #[.bool false, .int .u64 0, .int .u64 0, .int .u64 0, .int .u64 0]) ?_ 1 _ rfl; (with_reducible repeat (first | apply b1 | apply b2 | apply b3)); refine blk_put (cs := #[.bool false, .int .u64 0, .int .u64 0, .int .u64 0, .int .u64 0]) ?_ 0 _ rfl; (with_reducible repeat (first | apply b1 | apply b2 | apply b3)); exact BK261.out) Try.underlying101 rfl (by kernel_rfl)) rfl ?_
     exact ⟨by first | rfl | (simp [errW_none, errW_some] <;> rfl) | (simp [*, errW_none, errW_some] <;> rfl), by repeat (first | (with_reducible first | exact HB.out | apply l1 | apply l2 | apply l3 | refine below_set ?_ GE260.out | refine below_set ?_ GE261.out | refine below_set ?_ GE264.out | refine below_set ?_ GE269.out) | exact HB.out)⟩
end Go.Proofs.Ytlbicmdfdpcdiaa.PDa
