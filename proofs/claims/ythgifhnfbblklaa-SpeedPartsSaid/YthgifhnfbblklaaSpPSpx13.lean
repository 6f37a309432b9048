-- Written by programs of this session's (wip/printer) out of the translation and of the print's words; Lean checks it.
import Derived.Test.YthgifhnfbblklaaSpPSpx0
import Derived.Test.YthgifhnfbblklaaSpPSpx6
import Derived.Test.YthgifhnfbblklaaSpPSpx7
import Derived.Test.YthgifhnfbblklaaSpPSpx11
import Derived.Test.YthgifhnfbblklaaSpPSpx12
namespace Go.Proofs.Ythgifhnfbblklaa.PSp
open Go.RowKit Go.Proofs.YthgifhnfbblklaaW.PrintWords Go.Proofs.YthgifhnfbblklaaW.PrintLast Go.Proofs.YthgifhnfbblklaaW.PrintMore
attribute [local go_sem] max2_int min2_int max_two min_two max_three min_three max_four min_four   -- for this text's walks alone
set_option linter.unusedVariables false
set_option linter.unusedSimpArgs false
mutual
def speed_Rules_wants.j0 : Nat → Int → Bool → Int → Int → Int → Int → Int → Int → Int → Int → Option (Int × Int × Int)
 | 0, _, _, _, _, _, _, _, _, _, _ => none
 | k + 1, x7, x24, x257000, x257001, x257002, x257003, x257004, x257005, x264000, x264001 => if x24 = true then (speed_Rules_wants.j1 k 12 x257000 x257001 x257002 x257003 x257004 x257005 x264000 x264001) else (speed_Rules_wants.j1 k x7 x257000 x257001 x257002 x257003 x257004 x257005 x264000 x264001)
def speed_Rules_wants.j1 : Nat → Int → Int → Int → Int → Int → Int → Int → Int → Int → Option (Int × Int × Int)
 | 0, _, _, _, _, _, _, _, _, _ => none
 | k + 1, x7, x257000, x257001, x257002, x257003, x257004, x257005, x264000, x264001 => if x7 = 0 then ((ratio_Cmp.f x264000 x264001 x257002 x257003).bind fun t264 => (if t264 < 0 then (some (x257002, x257003, 0)) else ((ratio_Time.f k x264000 x264001).bind fun t265 => (if t265 = 0 then (some (x264000, x264001, 0)) else (some (0, 0, t265)))))) else (some (0, 0, x7))
end
def speed_Rules_wants.f (k : Nat) (a0_0 : Int) (a0_1 : Int) (a0_2 : Int) (a0_3 : Int) (a0_4 : Int) (a0_5 : Int) (a1_0 : ByteArray) (l1_1 : List (S63)) : Option (Int × Int × Int) := (speed_Count.f k a1_0 l1_1).bind fun t259 => ((ratio_Div.f k t259 1 a0_0 a0_1).bind fun bt260 => (if bt260.2.2 = 0 then (speed_Rules_wants.j0 k bt260.2.2 (decide (bt260.2.1 > 1048576)) a0_0 a0_1 a0_2 a0_3 a0_4 a0_5 bt260.1 bt260.2.1) else (speed_Rules_wants.j0 k bt260.2.2 false a0_0 a0_1 a0_2 a0_3 a0_4 a0_5 bt260.1 bt260.2.1)))
def speed_Rules_wants.T1 : Bool × List (List Nat × List Nat) := (true, [([], []), ([0], [0]), ([1], [1]), ([], []), ([3], [3]), ([2, 4, 1], [2, 4]), ([5], [5]), ([6], [6]), ([6], [6]), ([], []), ([9, 7, 5, 0, 1, 2, 3, 4, 5, 6, 7, 9], [7, 9]), ([8, 10, 0, 1, 2, 3, 4, 5, 6, 7, 8, 9, 10], [8])])
def speed_Rules_wants.B1 : List Nat := [0, 1, 3, 0, 8, 31, 63, 127, 127, 0, 767, 2047]
theorem speed_Rules_wants.tab1 : rtab .any (opsOf Try.f38 1) = speed_Rules_wants.T1 := by kernel_rfl
theorem speed_Rules_wants.bits1 : waitsOk speed_Rules_wants.T1.2 speed_Rules_wants.B1 = true := by kernel_rfl
set_option maxHeartbeats 8000000 in
set_option maxRecDepth 100000 in
theorem speed_Rules_wants.calls (k : Nat) (a0_0 : Int) (a0_1 : Int) (a0_2 : Int) (a0_3 : Int) (a0_4 : Int) (a0_5 : Int) (a1_0 : ByteArray) (A1_1 : Option Addr) (c1_1 : Nat) (l1_1 : List (S63)) (r1 : Int) (r2 : Int) (r3 : Int) (w : World) (hr1_1 : Kd.C k63 w A1_1 l1_1.length l1_1) (hc1_1 : l1_1.length ≤ c1_1) (h : speed_Rules_wants.f k a0_0 a0_1 a0_2 a0_3 a0_4 a0_5 a1_0 l1_1 = some (r1, r2, r3)) :
  Calls Try.prog 38 #[.agg #[.int .i64 a0_0, .int .i64 a0_1, .int .i64 a0_2, .int .i64 a0_3, .int .i64 a0_4, .int .i64 a0_5], .agg #[.string a1_0, .slice A1_1 l1_1.length c1_1]] w fun e w' => e = .returned (.tuple #[.agg #[.int .i64 r1, .int .i64 r2], .int .i64 r3]) ∧ Below w.heap.size w w' := by
 have hu41 := Try.underlying41
 have hu26 := Try.underlying26
 have hu32 := Try.underlying32
 have HR1_1 := Aside0.mk hr1_1
 have HC1_1 := Aside0.mk hc1_1
 clear hr1_1 hc1_1
 have HB := Aside0.mk (Below.refl w.heap.size w)
 have H : ((speed_Count.f k a1_0 l1_1).bind fun t259 => ((ratio_Div.f k t259 1 a0_0 a0_1).bind fun bt260 => (if bt260.2.2 = 0 then (speed_Rules_wants.j0 k bt260.2.2 (decide (bt260.2.1 > 1048576)) a0_0 a0_1 a0_2 a0_3 a0_4 a0_5 bt260.1 bt260.2.1) else (speed_Rules_wants.j0 k bt260.2.2 false a0_0 a0_1 a0_2 a0_3 a0_4 a0_5 bt260.1 bt260.2.1)))) = some (r1, r2, r3) := h
 clear h
 replace H := Option.bind_eq_some_iff.mp H
 obtain ⟨t259, A30, H⟩ := H
 (try dsimp only at H)
 have A3 := Aside0.mk A30
 clear A30
 replace H := Option.bind_eq_some_iff.mp H
 obtain ⟨⟨t260, t261, t262⟩, A40, H⟩ := H
 (try dsimp only at H)
 have A4 := Aside0.mk A40
 clear A40
 have HC5 := Aside0.mk H
 clear H
 go_enter Try.func38, Try.ntmps38
 try go_wp2_with (first | ((with_reducible refine gate_dst (N := 2) rfl ?_); refine box_event (by rfl) (N := 2) (by rfl) (cs := #[.int .i64 a0_0, .int .i64 a0_1, .int .i64 a0_2, .int .i64 a0_3, .int .i64 a0_4, .int .i64 a0_5]) (t := 41) (by first | (go_simp; done) | (go_simp; rfl)) ?_; intro gb256 hg w6 hbox hb; obtain ⟨hb_, hw_⟩ := box_facts (by repeat (first | (with_reducible first | exact HB.out | apply l1 | apply l2 | apply l3) | exact HB.out)) hg hb; have n0_ := Aside0.mk (hb_); have n1_ := Aside0.mk (hbox); have n2_ := Aside0.mk (hw_); have n3_ := Aside0.mk (hw_); clear HB; have HB := n0_; have BK256 := n1_; have GW256 := n2_; have GE256 := n3_; clear n0_ n1_ n2_ n3_; clear hb hbox hg hb_ hw_) | ((with_reducible refine gate_dst (N := 3) rfl ?_); refine box_event (by rfl) (N := 3) (by rfl) (cs := #[.string a1_0, .slice A1_1 l1_1.length c1_1]) (t := 26) (by first | (go_simp; done) | (go_simp; rfl)) ?_; intro gb257 hg w7 hbox hb; obtain ⟨hb_, hw_⟩ := box_facts (by repeat (first | (with_reducible first | exact HB.out | apply l1 | apply l2 | apply l3 | refine below_set ?_ GE256.out) | exact HB.out)) hg hb; have n0_ := Aside0.mk (blk_below (by (with_reducible repeat (first | apply b1 | apply b2 | apply b3)); exact BK256.out) hb); have n1_ := Aside0.mk (hb_); have n2_ := Aside0.mk (hbox); have n3_ := Aside0.mk (hw_); have n4_ := Aside0.mk (hw_); have n5_ := Aside0.mk ((by rw [hg]; exact Nat.ne_of_lt (blk_lt (by (with_reducible repeat (first | apply b1 | apply b2 | apply b3)); exact BK256.out)) : gb256 ≠ gb257)); have n6_ := Aside0.mk ((by rw [hg]; exact Nat.ne_of_gt (blk_lt (by (with_reducible repeat (first | apply b1 | apply b2 | apply b3)); exact BK256.out)) : gb257 ≠ gb256)); clear BK256; clear HB; have BK256 := n0_; have HB := n1_; have BK257 := n2_; have GW257 := n3_; have GE257 := n4_; have NB256_257 := n5_; have NB257_256 := n6_; clear n0_ n1_ n2_ n3_ n4_ n5_ n6_; clear hb hbox hg hb_ hw_) | ((with_reducible refine gate_dst (N := 4) rfl ?_); refine box_event (by rfl) (N := 4) (by rfl) (cs := #[.int .i64 0, .int .i64 0]) (t := 32) (by first | (go_simp; done) | (go_simp; rfl)) ?_; intro gb258 hg w8 hbox hb; obtain ⟨hb_, hw_⟩ := box_facts (by repeat (first | (with_reducible first | exact HB.out | apply l1 | apply l2 | apply l3 | refine below_set ?_ GE256.out | refine below_set ?_ GE257.out) | exact HB.out)) hg hb; have n0_ := Aside0.mk (blk_below (by (with_reducible repeat (first | apply b1 | apply b2 | apply b3)); exact BK256.out) hb); have n1_ := Aside0.mk (blk_below (by (with_reducible repeat (first | apply b1 | apply b2 | apply b3)); exact BK257.out) hb); have n2_ := Aside0.mk (hb_); have n3_ := Aside0.mk (hbox); have n4_ := Aside0.mk (hw_); have n5_ := Aside0.mk (hw_); have n6_ := Aside0.mk ((by rw [hg]; exact Nat.ne_of_lt (blk_lt (by (with_reducible repeat (first | apply b1 | apply b2 | apply b3)); exact BK256.out)) : gb256 ≠ gb258)); have n7_ := Aside0.mk ((by rw [hg]; exact Nat.ne_of_gt (blk_lt (by (with_reducible repeat (first | apply b1 | apply b2 | apply b3)); exact BK256.out)) : gb258 ≠ gb256)); have n8_ := Aside0.mk ((by rw [hg]; exact Nat.ne_of_lt (blk_lt (by (with_reducible repeat (first | apply b1 | apply b2 | apply b3)); exact BK257.out)) : gb257 ≠ gb258)); have n9_ := Aside0.mk ((by rw [hg]; exact Nat.ne_of_gt (blk_lt (by (with_reducible repeat (first | apply b1 | apply b2 | apply b3)); exact BK257.out)) : gb258 ≠ gb257)); clear BK256; clear BK257; clear HB; have BK256 := n0_; have BK257 := n1_; have HB := n2_; have BK258 := n3_; have GW258 := n4_; have GE258 := n5_; have NB256_258 := n6_; have NB258_256 := n7_; have NB257_258 := n8_; have NB258_257 := n9_; clear n0_ n1_ n2_ n3_ n4_ n5_ n6_ n7_ n8_ n9_; clear hb hbox hg hb_ hw_))
 have n0_ := Aside0.mk (blk_drew BK256.out)
 have n1_ := Aside0.mk (blk_drew BK257.out)
 have n2_ := Aside0.mk (blk_drew BK258.out)
 have n3_ := Aside0.mk (below_drew1 HB.out)
 clear BK256
 clear BK257
 clear BK258
 clear HB
 have BK256 := n0_
 have BK257 := n1_
 have BK258 := n2_
 have HB := n3_
 clear n0_ n1_ n2_ n3_
 refine start_ (n := 12) (S := fun w' => w'.cell? ⟨gb257, 0, none⟩ = some (.string a1_0) ∧ w'.cell? ⟨gb257, 1, none⟩ = some (.slice A1_1 l1_1.length c1_1) ∧ w'.cell? ⟨gb256, 0, none⟩ = some (.int .i64 a0_0) ∧ w'.cell? ⟨gb256, 1, none⟩ = some (.int .i64 a0_1) ∧ w'.cell? ⟨gb256, 2, none⟩ = some (.int .i64 a0_2) ∧ w'.cell? ⟨gb256, 3, none⟩ = some (.int .i64 a0_3) ∧ w'.cell? ⟨gb256, 4, none⟩ = some (.int .i64 a0_4) ∧ w'.cell? ⟨gb256, 5, none⟩ = some (.int .i64 a0_5)) (ds := []) #[false, false, false, false, false, false, false, false, false, false, false, false] (by kernel_rfl) rfl rfl ⟨(blk_cell BK257.out 0).trans rfl, (blk_cell BK257.out 1).trans rfl, (blk_cell BK256.out 0).trans rfl, (blk_cell BK256.out 1).trans rfl, (blk_cell BK256.out 2).trans rfl, (blk_cell BK256.out 3).trans rfl, (blk_cell BK256.out 4).trans rfl, (blk_cell BK256.out 5).trans rfl⟩ (fun hHeld => ?_); refine with_tabW speed_Rules_wants.tab1 speed_Rules_wants.bits1 (fun HT_ HW_ => ?_)
 generalize w8.drew = w9 at BK256 BK257 BK258 HB hHeld ⊢
 refine pure_ (i := 3) (N := some 13) (v := ?_) (a' := ?_) #[false, false, false, true, false, false, false, false, false, false, false, false] rfl rfl (any_of HT_.out (by kernel_rfl)) (fun _ _ _ h => h) (Or.inl ⟨by rfl, ?_⟩) ?_ ?_
 rotate_left
 ·intro w'
  go_simp
  with_reducible rfl
 rotate_left
 ·simp only [Act.put, List.setIfInBounds_toArray, List.set_cons_zero, List.set_cons_succ, i64_w, i32_w]
  rfl
 refine take_ (i := 0) (N := some 10) (v := ?_) (a' := ?_) #[true, false, false, true, false, false, false, false, false, false, false, false] rfl rfl (take_ofW HT_.out HW_.out (by kernel_rfl)) (fun _ _ _ h => h) (Or.inl ⟨by rfl, ?_⟩) hHeld ?_ ?_
 rotate_left
 ·rintro w' ⟨s0, s1, s2, s3, s4, s5, s6, s7⟩
  go_simp
  with_reducible rfl
 rotate_left
 ·simp only [Act.put, List.setIfInBounds_toArray, List.set_cons_zero, List.set_cons_succ, i64_w, i32_w]
  rfl
 refine take_ (i := 4) (N := some 14) (v := ?_) (a' := ?_) #[true, false, false, true, true, false, false, false, false, false, false, false] rfl rfl (take_ofW HT_.out HW_.out (by kernel_rfl)) (fun _ _ _ h => h) (Or.inl ⟨by rfl, ?_⟩) hHeld ?_ ?_
 rotate_left
 ·rintro w' ⟨s0, s1, s2, s3, s4, s5, s6, s7⟩
  go_simp
  with_reducible rfl
 rotate_left
 ·simp only [Act.put, List.setIfInBounds_toArray, List.set_cons_zero, List.set_cons_succ, i64_w, i32_w]
  rfl
 refine join_ (σ := Nat) 2 #[true, true, true, true, true, true, true, true, true, true, false, false] (fun s_ => [(11, .int .i64 t259), (15, .tuple #[.agg #[.int .i64 t260, .int .i64 t261], .int .i64 t262]), (6, .pointer (some ⟨s_, 0, none⟩)), (12, .agg #[.int .i64 t259, .int .i64 1]), (9, .tuple #[.agg #[.int .i64 t260, .int .i64 t261], .int .i64 t262]), (16, .agg #[.int .i64 t260, .int .i64 t261]), (17, .int .i64 t262)]) (fun s_ w' => (w'.cell? ⟨gb257, 0, none⟩ = some (.string a1_0) ∧ w'.cell? ⟨gb257, 1, none⟩ = some (.slice A1_1 l1_1.length c1_1) ∧ w'.cell? ⟨gb256, 0, none⟩ = some (.int .i64 a0_0) ∧ w'.cell? ⟨gb256, 1, none⟩ = some (.int .i64 a0_1) ∧ w'.cell? ⟨gb256, 2, none⟩ = some (.int .i64 a0_2) ∧ w'.cell? ⟨gb256, 3, none⟩ = some (.int .i64 a0_3) ∧ w'.cell? ⟨gb256, 4, none⟩ = some (.int .i64 a0_4) ∧ w'.cell? ⟨gb256, 5, none⟩ = some (.int .i64 a0_5)) ∧ (w'.heap[gb256]? = some (.cells #[.int .i64 a0_0, .int .i64 a0_1, .int .i64 a0_2, .int .i64 a0_3, .int .i64 a0_4, .int .i64 a0_5] 41 (0, 0))) ∧ (w'.heap[gb257]? = some (.cells #[.string a1_0, .slice A1_1 l1_1.length c1_1] 26 (0, 0))) ∧ (w'.heap[gb258]? = some (.cells #[.int .i64 0, .int .i64 0] 32 (0, 0))) ∧ (w'.heap[s_]? = some (.cells #[.int .i64 0, .int .i64 0] 32 (0, 0))) ∧ (w.heap.size ≤ s_) ∧ (w.heap.size ≤ s_) ∧ (gb256 ≠ s_) ∧ (s_ ≠ gb256) ∧ (gb257 ≠ s_) ∧ (s_ ≠ gb257) ∧ (gb258 ≠ s_) ∧ (s_ ≠ gb258) ∧ (Below w.heap.size w w')) ?_ ?_
 rotate_left
 ·intro hCont
  refine two_ (i := 1) (j := 9) (Ni := some 11) (Nj := some 6) #[true, true, false, true, true, false, false, false, false, false, false, false] #[true, false, false, true, true, false, false, false, false, true, false, false] rfl rfl rfl rfl (two_of HT_.out (by kernel_rfl)) (by decide) (by decide) (fun K hK => ?_) (fun K hK => ?_)
  ·skip
   refine goes_ Try.func9 (by kernel_rfl) rfl #[.agg #[.string a1_0, .slice A1_1 l1_1.length c1_1]] (by rfl) rfl rfl (by (try simp only [List.map_toArray, List.map_cons, List.map_nil]); first | done | rfl | (simp only [List.length_drop, List.length_take]; rfl)) ?_
   with_reducible refine (speed_Count.calls k a1_0 _ _ l1_1 t259 _ ?side1 ?side2 A3.out).mono ?_
   (case side1 => repeat (first | exact (Kd.C_below HR1_1.out HB.out) | (with_reducible refine Kd.C_alloc ?_ _) | (with_reducible refine Kd.C_drewN ?_ _) | (with_reducible refine Kd.C_drew ?_)))
   (case side2 => exact HC1_1.out)
   rintro e w10 ⟨rfl, hb⟩
   refine ⟨_, rfl, ?_⟩
   have n0_ := Aside0.mk (blk_below (g := gb256) (o := .cells #[.int .i64 a0_0, .int .i64 a0_1, .int .i64 a0_2, .int .i64 a0_3, .int .i64 a0_4, .int .i64 a0_5] 41 (0, 0)) (by (with_reducible repeat (first | apply b1 | apply b2 | apply b3)); exact BK256.out) hb)
   have n1_ := Aside0.mk (blk_below (g := gb257) (o := .cells #[.string a1_0, .slice A1_1 l1_1.length c1_1] 26 (0, 0)) (by (with_reducible repeat (first | apply b1 | apply b2 | apply b3)); exact BK257.out) hb)
   have n2_ := Aside0.mk (blk_below (g := gb258) (o := .cells #[.int .i64 0, .int .i64 0] 32 (0, 0)) (by (with_reducible repeat (first | apply b1 | apply b2 | apply b3)); exact BK258.out) hb)
   have n3_ := Aside0.mk (below_step (by repeat (first | (with_reducible first | exact HB.out | apply l1 | apply l2 | apply l3 | refine below_set ?_ GE256.out | refine below_set ?_ GE257.out | refine below_set ?_ GE258.out) | exact HB.out)) hb)
   clear BK256
   clear BK257
   clear BK258
   clear HB
   have BK256 := n0_
   have BK257 := n1_
   have BK258 := n2_
   have HB := n3_
   clear n0_ n1_ n2_ n3_
   (try clear hb)
   (try clear hb2)
   (try clear hk)
   (try clear hi)
   refine hK.out _ _ ⟨(blk_cell BK257.out 0).trans rfl, (blk_cell BK257.out 1).trans rfl, (blk_cell BK256.out 0).trans rfl, (blk_cell BK256.out 1).trans rfl, (blk_cell BK256.out 2).trans rfl, (blk_cell BK256.out 3).trans rfl, (blk_cell BK256.out 4).trans rfl, (blk_cell BK256.out 5).trans rfl⟩ (fun hHeld => ?_)
   clear hK K
   refine norm_ (a' := ?_) ?_ ?_
   rotate_left
   ·show Act.put _ (some 11) _ = _
    simp only [Act.put, List.setIfInBounds_toArray, List.set_cons_zero, List.set_cons_succ, i64_w, i32_w]
    rfl
   refine pure_ (i := 2) (N := some 12) (v := ?_) (a' := ?_) #[true, true, true, true, true, false, false, false, false, false, false, false] rfl rfl (any_of HT_.out (by kernel_rfl)) (fun _ _ _ h => h) (Or.inl ⟨by rfl, ?_⟩) ?_ ?_
   rotate_left
   ·intro w'
    go_simp
    with_reducible rfl
   rotate_left
   ·simp only [Act.put, List.setIfInBounds_toArray, List.set_cons_zero, List.set_cons_succ, i64_w, i32_w]
    rfl
   refine two_ (i := 5) (j := 9) (Ni := some 15) (Nj := some 6) #[true, true, true, true, true, true, false, false, false, false, false, false] #[true, true, true, true, true, false, false, false, false, true, false, false] rfl rfl rfl rfl (two_of HT_.out (by kernel_rfl)) (by decide) (by decide) (fun K hK => ?_) (fun K hK => ?_)
   ·skip
    refine goes_ Try.func70 (by kernel_rfl) rfl #[.agg #[.int .i64 t259, .int .i64 1], .agg #[.int .i64 a0_0, .int .i64 a0_1]] (by rfl) rfl rfl (by (try simp only [List.map_toArray, List.map_cons, List.map_nil]); first | done | rfl | (simp only [List.length_drop, List.length_take]; rfl)) ?_
    with_reducible refine (ratio_Div.calls k t259 1 a0_0 a0_1 t260 t261 t262 _ A4.out).mono ?_
    rintro e w11 ⟨rfl, hb⟩
    refine ⟨_, rfl, ?_⟩
    have n0_ := Aside0.mk (blk_below (g := gb256) (o := .cells #[.int .i64 a0_0, .int .i64 a0_1, .int .i64 a0_2, .int .i64 a0_3, .int .i64 a0_4, .int .i64 a0_5] 41 (0, 0)) (by (with_reducible repeat (first | apply b1 | apply b2 | apply b3)); exact BK256.out) hb)
    have n1_ := Aside0.mk (blk_below (g := gb257) (o := .cells #[.string a1_0, .slice A1_1 l1_1.length c1_1] 26 (0, 0)) (by (with_reducible repeat (first | apply b1 | apply b2 | apply b3)); exact BK257.out) hb)
    have n2_ := Aside0.mk (blk_below (g := gb258) (o := .cells #[.int .i64 0, .int .i64 0] 32 (0, 0)) (by (with_reducible repeat (first | apply b1 | apply b2 | apply b3)); exact BK258.out) hb)
    have n3_ := Aside0.mk (below_step (by repeat (first | (with_reducible first | exact HB.out | apply l1 | apply l2 | apply l3 | refine below_set ?_ GE256.out | refine below_set ?_ GE257.out | refine below_set ?_ GE258.out) | exact HB.out)) hb)
    clear BK256
    clear BK257
    clear BK258
    clear HB
    have BK256 := n0_
    have BK257 := n1_
    have BK258 := n2_
    have HB := n3_
    clear n0_ n1_ n2_ n3_
    (try clear hb)
    (try clear hb2)
    (try clear hk)
    (try clear hi)
    refine hK.out _ _ ⟨(blk_cell BK257.out 0).trans rfl, (blk_cell BK257.out 1).trans rfl, (blk_cell BK256.out 0).trans rfl, (blk_cell BK256.out 1).trans rfl, (blk_cell BK256.out 2).trans rfl, (blk_cell BK256.out 3).trans rfl, (blk_cell BK256.out 4).trans rfl, (blk_cell BK256.out 5).trans rfl⟩ (fun hHeld => ?_)
    clear hK K
    refine norm_ (a' := ?_) ?_ ?_
    rotate_left
    ·show Act.put _ (some 15) _ = _
     simp only [Act.put, List.setIfInBounds_toArray, List.set_cons_zero, List.set_cons_succ, i64_w, i32_w]
     rfl
    refine pure_ (i := 6) (N := some 9) (v := ?_) (a' := ?_) #[true, true, true, true, true, true, true, false, false, false, false, false] rfl rfl (any_of HT_.out (by kernel_rfl)) (fun _ _ _ h => h) (Or.inl ⟨by rfl, ?_⟩) ?_ ?_
    rotate_left
    ·intro w'
     go_simp
     with_reducible rfl
    rotate_left
    ·simp only [Act.put, List.setIfInBounds_toArray, List.set_cons_zero, List.set_cons_succ, i64_w, i32_w]
     rfl
    refine pure_ (i := 7) (N := some 16) (v := ?_) (a' := ?_) #[true, true, true, true, true, true, true, true, false, false, false, false] rfl rfl (any_of HT_.out (by kernel_rfl)) (fun _ _ _ h => h) (Or.inl ⟨by rfl, ?_⟩) ?_ ?_
    rotate_left
    ·intro w'
     go_simp
     with_reducible rfl
    rotate_left
    ·simp only [Act.put, List.setIfInBounds_toArray, List.set_cons_zero, List.set_cons_succ, i64_w, i32_w]
     rfl
    refine pure_ (i := 8) (N := some 17) (v := ?_) (a' := ?_) #[true, true, true, true, true, true, true, true, true, false, false, false] rfl rfl (any_of HT_.out (by kernel_rfl)) (fun _ _ _ h => h) (Or.inl ⟨by rfl, ?_⟩) ?_ ?_
    rotate_left
    ·intro w'
     go_simp
     with_reducible rfl
    rotate_left
    ·simp only [Act.put, List.setIfInBounds_toArray, List.set_cons_zero, List.set_cons_succ, i64_w, i32_w]
     rfl
    refine one_ (i := 9) (N := some 6) #[true, true, true, true, true, true, true, true, true, true, false, false] rfl rfl (one_of HT_.out (by kernel_rfl)) (by decide) (fun K hK => ?_)
    refine box_step (by rfl) (N := 6) (by rfl) (cs := #[.int .i64 0, .int .i64 0]) (t := 32) (by first | (go_simp; done) | (go_simp; rfl)) ?_
    intro gb263 hg w12 hbox hb
    obtain ⟨hb_, hw_⟩ := box_facts (by repeat (first | (with_reducible first | exact HB.out | apply l1 | apply l2 | apply l3 | refine below_set ?_ GE256.out | refine below_set ?_ GE257.out | refine below_set ?_ GE258.out) | exact HB.out)) hg hb
    have n0_ := Aside0.mk (blk_below (g := gb256) (o := .cells #[.int .i64 a0_0, .int .i64 a0_1, .int .i64 a0_2, .int .i64 a0_3, .int .i64 a0_4, .int .i64 a0_5] 41 (0, 0)) (by (with_reducible repeat (first | apply b1 | apply b2 | apply b3)); exact BK256.out) hb)
    have n1_ := Aside0.mk (blk_below (g := gb257) (o := .cells #[.string a1_0, .slice A1_1 l1_1.length c1_1] 26 (0, 0)) (by (with_reducible repeat (first | apply b1 | apply b2 | apply b3)); exact BK257.out) hb)
    have n2_ := Aside0.mk (blk_below (g := gb258) (o := .cells #[.int .i64 0, .int .i64 0] 32 (0, 0)) (by (with_reducible repeat (first | apply b1 | apply b2 | apply b3)); exact BK258.out) hb)
    have n3_ := Aside0.mk (hb_)
    have n4_ := Aside0.mk (hbox)
    have n5_ := Aside0.mk (hw_)
    have n6_ := Aside0.mk (hw_)
    have n7_ := Aside0.mk ((by rw [hg]; exact Nat.ne_of_lt (blk_lt (g := gb256) (o := .cells #[.int .i64 a0_0, .int .i64 a0_1, .int .i64 a0_2, .int .i64 a0_3, .int .i64 a0_4, .int .i64 a0_5] 41 (0, 0)) (by (with_reducible repeat (first | apply b1 | apply b2 | apply b3)); exact BK256.out)) : gb256 ≠ gb263))
    have n8_ := Aside0.mk ((by rw [hg]; exact Nat.ne_of_gt (blk_lt (g := gb256) (o := .cells #[.int .i64 a0_0, .int .i64 a0_1, .int .i64 a0_2, .int .i64 a0_3, .int .i64 a0_4, .int .i64 a0_5] 41 (0, 0)) (by (with_reducible repeat (first | apply b1 | apply b2 | apply b3)); exact BK256.out)) : gb263 ≠ gb256))
    have n9_ := Aside0.mk ((by rw [hg]; exact Nat.ne_of_lt (blk_lt (g := gb257) (o := .cells #[.string a1_0, .slice A1_1 l1_1.length c1_1] 26 (0, 0)) (by (with_reducible repeat (first | apply b1 | apply b2 | apply b3)); exact BK257.out)) : gb257 ≠ gb263))
    have n10_ := Aside0.mk ((by rw [hg]; exact Nat.ne_of_gt (blk_lt (g := gb257) (o := .cells #[.string a1_0, .slice A1_1 l1_1.length c1_1] 26 (0, 0)) (by (with_reducible repeat (first | apply b1 | apply b2 | apply b3)); exact BK257.out)) : gb263 ≠ gb257))
    have n11_ := Aside0.mk ((by rw [hg]; exact Nat.ne_of_lt (blk_lt (g := gb258) (o := .cells #[.int .i64 0, .int .i64 0] 32 (0, 0)) (by (with_reducible repeat (first | apply b1 | apply b2 | apply b3)); exact BK258.out)) : gb258 ≠ gb263))
    have n12_ := Aside0.mk ((by rw [hg]; exact Nat.ne_of_gt (blk_lt (g := gb258) (o := .cells #[.int .i64 0, .int .i64 0] 32 (0, 0)) (by (with_reducible repeat (first | apply b1 | apply b2 | apply b3)); exact BK258.out)) : gb263 ≠ gb258))
    clear BK256
    clear BK257
    clear BK258
    clear HB
    have BK256 := n0_
    have BK257 := n1_
    have BK258 := n2_
    have HB := n3_
    have BK263 := n4_
    have GW263 := n5_
    have GE263 := n6_
    have NB256_263 := n7_
    have NB263_256 := n8_
    have NB257_263 := n9_
    have NB263_257 := n10_
    have NB258_263 := n11_
    have NB263_258 := n12_
    clear n0_ n1_ n2_ n3_ n4_ n5_ n6_ n7_ n8_ n9_ n10_ n11_ n12_
    clear hb hbox hg hb_ hw_
    refine hK.out _ _ ⟨(blk_cell BK257.out 0).trans rfl, (blk_cell BK257.out 1).trans rfl, (blk_cell BK256.out 0).trans rfl, (blk_cell BK256.out 1).trans rfl, (blk_cell BK256.out 2).trans rfl, (blk_cell BK256.out 3).trans rfl, (blk_cell BK256.out 4).trans rfl, (blk_cell BK256.out 5).trans rfl⟩ (fun hHeld => ?_)
    clear hK K
    refine norm_ (a' := ?_) ?_ ?_
    rotate_left
    ·show Act.put _ (some 6) _ = _
     simp only [Act.put, List.setIfInBounds_toArray, List.set_cons_zero, List.set_cons_succ, i64_w, i32_w]
     rfl
    exact norm_ (by simp only [putAll, Act.put, List.setIfInBounds_toArray, List.set_cons_zero, List.set_cons_succ]) (hCont (gb263) _ ⟨hHeld, (by (with_reducible repeat (first | apply b1 | apply b2 | apply b3)); exact BK256.out), (by (with_reducible repeat (first | apply b1 | apply b2 | apply b3)); exact BK257.out), (by (with_reducible repeat (first | apply b1 | apply b2 | apply b3)); exact BK258.out), (by (with_reducible repeat (first | apply b1 | apply b2 | apply b3)); exact BK263.out), GW263.out, GE263.out, NB256_263.out, NB263_256.out, NB257_263.out, NB263_257.out, NB258_263.out, NB263_258.out, (by repeat (first | (with_reducible first | exact HB.out | apply l1 | apply l2 | apply l3 | refine below_set ?_ GE256.out | refine below_set ?_ GE257.out | refine below_set ?_ GE258.out | refine below_set ?_ GE263.out) | exact HB.out))⟩)
   ·skip
    refine box_step (by rfl) (N := 6) (by rfl) (cs := #[.int .i64 0, .int .i64 0]) (t := 32) (by first | (go_simp; done) | (go_simp; rfl)) ?_
    intro gb263 hg w11 hbox hb
    obtain ⟨hb_, hw_⟩ := box_facts (by repeat (first | (with_reducible first | exact HB.out | apply l1 | apply l2 | apply l3 | refine below_set ?_ GE256.out | refine below_set ?_ GE257.out | refine below_set ?_ GE258.out) | exact HB.out)) hg hb
    have n0_ := Aside0.mk (blk_below (g := gb256) (o := .cells #[.int .i64 a0_0, .int .i64 a0_1, .int .i64 a0_2, .int .i64 a0_3, .int .i64 a0_4, .int .i64 a0_5] 41 (0, 0)) (by (with_reducible repeat (first | apply b1 | apply b2 | apply b3)); exact BK256.out) hb)
    have n1_ := Aside0.mk (blk_below (g := gb257) (o := .cells #[.string a1_0, .slice A1_1 l1_1.length c1_1] 26 (0, 0)) (by (with_reducible repeat (first | apply b1 | apply b2 | apply b3)); exact BK257.out) hb)
    have n2_ := Aside0.mk (blk_below (g := gb258) (o := .cells #[.int .i64 0, .int .i64 0] 32 (0, 0)) (by (with_reducible repeat (first | apply b1 | apply b2 | apply b3)); exact BK258.out) hb)
    have n3_ := Aside0.mk (hb_)
    have n4_ := Aside0.mk (hbox)
    have n5_ := Aside0.mk (hw_)
    have n6_ := Aside0.mk (hw_)
    have n7_ := Aside0.mk ((by rw [hg]; exact Nat.ne_of_lt (blk_lt (g := gb256) (o := .cells #[.int .i64 a0_0, .int .i64 a0_1, .int .i64 a0_2, .int .i64 a0_3, .int .i64 a0_4, .int .i64 a0_5] 41 (0, 0)) (by (with_reducible repeat (first | apply b1 | apply b2 | apply b3)); exact BK256.out)) : gb256 ≠ gb263))
    have n8_ := Aside0.mk ((by rw [hg]; exact Nat.ne_of_gt (blk_lt (g := gb256) (o := .cells #[.int .i64 a0_0, .int .i64 a0_1, .int .i64 a0_2, .int .i64 a0_3, .int .i64 a0_4, .int .i64 a0_5] 41 (0, 0)) (by (with_reducible repeat (first | apply b1 | apply b2 | apply b3)); exact BK256.out)) : gb263 ≠ gb256))
    have n9_ := Aside0.mk ((by rw [hg]; exact Nat.ne_of_lt (blk_lt (g := gb257) (o := .cells #[.string a1_0, .slice A1_1 l1_1.length c1_1] 26 (0, 0)) (by (with_reducible repeat (first | apply b1 | apply b2 | apply b3)); exact BK257.out)) : gb257 ≠ gb263))
    have n10_ := Aside0.mk ((by rw [hg]; exact Nat.ne_of_gt (blk_lt (g := gb257) (o := .cells #[.string a1_0, .slice A1_1 l1_1.length c1_1] 26 (0, 0)) (by (with_reducible repeat (first | apply b1 | apply b2 | apply b3)); exact BK257.out)) : gb263 ≠ gb257))
    have n11_ := Aside0.mk ((by rw [hg]; exact Nat.ne_of_lt (blk_lt (g := gb258) (o := .cells #[.int .i64 0, .int .i64 0] 32 (0, 0)) (by (with_reducible repeat (first | apply b1 | apply b2 | apply b3)); exact BK258.out)) : gb258 ≠ gb263))
    have n12_ := Aside0.mk ((by rw [hg]; exact Nat.ne_of_gt (blk_lt (g := gb258) (o := .cells #[.int .i64 0, .int .i64 0] 32 (0, 0)) (by (with_reducible repeat (first | apply b1 | apply b2 | apply b3)); exact BK258.out)) : gb263 ≠ gb258))
    clear BK256
    clear BK257
    clear BK258
    clear HB
    have BK256 := n0_
    have BK257 := n1_
    have BK258 := n2_
    have HB := n3_
    have BK263 := n4_
    have GW263 := n5_
    have GE263 := n6_
    have NB256_263 := n7_
    have NB263_256 := n8_
    have NB257_263 := n9_
    have NB263_257 := n10_
    have NB258_263 := n11_
    have NB263_258 := n12_
    clear n0_ n1_ n2_ n3_ n4_ n5_ n6_ n7_ n8_ n9_ n10_ n11_ n12_
    clear hb hbox hg hb_ hw_
    refine hK.out _ _ ⟨(blk_cell BK257.out 0).trans rfl, (blk_cell BK257.out 1).trans rfl, (blk_cell BK256.out 0).trans rfl, (blk_cell BK256.out 1).trans rfl, (blk_cell BK256.out 2).trans rfl, (blk_cell BK256.out 3).trans rfl, (blk_cell BK256.out 4).trans rfl, (blk_cell BK256.out 5).trans rfl⟩ (fun hHeld => ?_)
    clear hK K
    refine norm_ (a' := ?_) ?_ ?_
    rotate_left
    ·show Act.put _ (some 6) _ = _
     simp only [Act.put, List.setIfInBounds_toArray, List.set_cons_zero, List.set_cons_succ, i64_w, i32_w]
     rfl
    refine one_ (i := 5) (N := some 15) #[true, true, true, true, true, true, false, false, false, true, false, false] rfl rfl (one_of HT_.out (by kernel_rfl)) (by decide) (fun K hK => ?_)
    refine goes_ Try.func70 (by kernel_rfl) rfl #[.agg #[.int .i64 t259, .int .i64 1], .agg #[.int .i64 a0_0, .int .i64 a0_1]] (by rfl) rfl rfl (by (try simp only [List.map_toArray, List.map_cons, List.map_nil]); first | done | rfl | (simp only [List.length_drop, List.length_take]; rfl)) ?_
    with_reducible refine (ratio_Div.calls k t259 1 a0_0 a0_1 t260 t261 t262 _ A4.out).mono ?_
    rintro e w12 ⟨rfl, hb⟩
    refine ⟨_, rfl, ?_⟩
    have n0_ := Aside0.mk (blk_below (g := gb256) (o := .cells #[.int .i64 a0_0, .int .i64 a0_1, .int .i64 a0_2, .int .i64 a0_3, .int .i64 a0_4, .int .i64 a0_5] 41 (0, 0)) (by (with_reducible repeat (first | apply b1 | apply b2 | apply b3)); exact BK256.out) hb)
    have n1_ := Aside0.mk (blk_below (g := gb257) (o := .cells #[.string a1_0, .slice A1_1 l1_1.length c1_1] 26 (0, 0)) (by (with_reducible repeat (first | apply b1 | apply b2 | apply b3)); exact BK257.out) hb)
    have n2_ := Aside0.mk (blk_below (g := gb258) (o := .cells #[.int .i64 0, .int .i64 0] 32 (0, 0)) (by (with_reducible repeat (first | apply b1 | apply b2 | apply b3)); exact BK258.out) hb)
    have n3_ := Aside0.mk (blk_below (g := gb263) (o := .cells #[.int .i64 0, .int .i64 0] 32 (0, 0)) (by (with_reducible repeat (first | apply b1 | apply b2 | apply b3)); exact BK263.out) hb)
    have n4_ := Aside0.mk (below_step (by repeat (first | (with_reducible first | exact HB.out | apply l1 | apply l2 | apply l3 | refine below_set ?_ GE256.out | refine below_set ?_ GE257.out | refine below_set ?_ GE258.out | refine below_set ?_ GE263.out) | exact HB.out)) hb)
    clear BK256
    clear BK257
    clear BK258
    clear BK263
    clear HB
    have BK256 := n0_
    have BK257 := n1_
    have BK258 := n2_
    have BK263 := n3_
    have HB := n4_
    clear n0_ n1_ n2_ n3_ n4_
    (try clear hb)
    (try clear hb2)
    (try clear hk)
    (try clear hi)
    refine hK.out _ _ ⟨(blk_cell BK257.out 0).trans rfl, (blk_cell BK257.out 1).trans rfl, (blk_cell BK256.out 0).trans rfl, (blk_cell BK256.out 1).trans rfl, (blk_cell BK256.out 2).trans rfl, (blk_cell BK256.out 3).trans rfl, (blk_cell BK256.out 4).trans rfl, (blk_cell BK256.out 5).trans rfl⟩ (fun hHeld => ?_)
    clear hK K
    refine norm_ (a' := ?_) ?_ ?_
    rotate_left
    ·show Act.put _ (some 15) _ = _
     simp only [Act.put, List.setIfInBounds_toArray, List.set_cons_zero, List.set_cons_succ, i64_w, i32_w]
     rfl
    refine pure_ (i := 6) (N := some 9) (v := ?_) (a' := ?_) #[true, true, true, true, true, true, true, false, false, true, false, false] rfl rfl (any_of HT_.out (by kernel_rfl)) (fun _ _ _ h => h) (Or.inl ⟨by rfl, ?_⟩) ?_ ?_
    rotate_left
    ·intro w'
     go_simp
     with_reducible rfl
    rotate_left
    ·simp only [Act.put, List.setIfInBounds_toArray, List.set_cons_zero, List.set_cons_succ, i64_w, i32_w]
     rfl
    refine pure_ (i := 7) (N := some 16) (v := ?_) (a' := ?_) #[true, true, true, true, true, true, true, true, false, true, false, false] rfl rfl (any_of HT_.out (by kernel_rfl)) (fun _ _ _ h => h) (Or.inl ⟨by rfl, ?_⟩) ?_ ?_
    rotate_left
    ·intro w'
     go_simp
     with_reducible rfl
    rotate_left
    ·simp only [Act.put, List.setIfInBounds_toArray, List.set_cons_zero, List.set_cons_succ, i64_w, i32_w]
     rfl
    refine pure_ (i := 8) (N := some 17) (v := ?_) (a' := ?_) #[true, true, true, true, true, true, true, true, true, true, false, false] rfl rfl (any_of HT_.out (by kernel_rfl)) (fun _ _ _ h => h) (Or.inl ⟨by rfl, ?_⟩) ?_ ?_
    rotate_left
    ·intro w'
     go_simp
     with_reducible rfl
    rotate_left
    ·simp only [Act.put, List.setIfInBounds_toArray, List.set_cons_zero, List.set_cons_succ, i64_w, i32_w]
     rfl
    exact norm_ (by simp only [putAll, Act.put, List.setIfInBounds_toArray, List.set_cons_zero, List.set_cons_succ]) (hCont (gb263) _ ⟨hHeld, (by (with_reducible repeat (first | apply b1 | apply b2 | apply b3)); exact BK256.out), (by (with_reducible repeat (first | apply b1 | apply b2 | apply b3)); exact BK257.out), (by (with_reducible repeat (first | apply b1 | apply b2 | apply b3)); exact BK258.out), (by (with_reducible repeat (first | apply b1 | apply b2 | apply b3)); exact BK263.out), GW263.out, GE263.out, NB256_263.out, NB263_256.out, NB257_263.out, NB263_257.out, NB258_263.out, NB263_258.out, (by repeat (first | (with_reducible first | exact HB.out | apply l1 | apply l2 | apply l3 | refine below_set ?_ GE256.out | refine below_set ?_ GE257.out | refine below_set ?_ GE258.out | refine below_set ?_ GE263.out) | exact HB.out))⟩)
  ·skip
   refine box_step (by rfl) (N := 6) (by rfl) (cs := #[.int .i64 0, .int .i64 0]) (t := 32) (by first | (go_simp; done) | (go_simp; rfl)) ?_
   intro gb263 hg w10 hbox hb
   obtain ⟨hb_, hw_⟩ := box_facts (by repeat (first | (with_reducible first | exact HB.out | apply l1 | apply l2 | apply l3 | refine below_set ?_ GE256.out | refine below_set ?_ GE257.out | refine below_set ?_ GE258.out) | exact HB.out)) hg hb
   have n0_ := Aside0.mk (blk_below (g := gb256) (o := .cells #[.int .i64 a0_0, .int .i64 a0_1, .int .i64 a0_2, .int .i64 a0_3, .int .i64 a0_4, .int .i64 a0_5] 41 (0, 0)) (by (with_reducible repeat (first | apply b1 | apply b2 | apply b3)); exact BK256.out) hb)
   have n1_ := Aside0.mk (blk_below (g := gb257) (o := .cells #[.string a1_0, .slice A1_1 l1_1.length c1_1] 26 (0, 0)) (by (with_reducible repeat (first | apply b1 | apply b2 | apply b3)); exact BK257.out) hb)
   have n2_ := Aside0.mk (blk_below (g := gb258) (o := .cells #[.int .i64 0, .int .i64 0] 32 (0, 0)) (by (with_reducible repeat (first | apply b1 | apply b2 | apply b3)); exact BK258.out) hb)
   have n3_ := Aside0.mk (hb_)
   have n4_ := Aside0.mk (hbox)
   have n5_ := Aside0.mk (hw_)
   have n6_ := Aside0.mk (hw_)
   have n7_ := Aside0.mk ((by rw [hg]; exact Nat.ne_of_lt (blk_lt (g := gb256) (o := .cells #[.int .i64 a0_0, .int .i64 a0_1, .int .i64 a0_2, .int .i64 a0_3, .int .i64 a0_4, .int .i64 a0_5] 41 (0, 0)) (by (with_reducible repeat (first | apply b1 | apply b2 | apply b3)); exact BK256.out)) : gb256 ≠ gb263))
   have n8_ := Aside0.mk ((by rw [hg]; exact Nat.ne_of_gt (blk_lt (g := gb256) (o := .cells #[.int .i64 a0_0, .int .i64 a0_1, .int .i64 a0_2, .int .i64 a0_3, .int .i64 a0_4, .int .i64 a0_5] 41 (0, 0)) (by (with_reducible repeat (first | apply b1 | apply b2 | apply b3)); exact BK256.out)) : gb263 ≠ gb256))
   have n9_ := Aside0.mk ((by rw [hg]; exact Nat.ne_of_lt (blk_lt (g := gb257) (o := .cells #[.string a1_0, .slice A1_1 l1_1.length c1_1] 26 (0, 0)) (by (with_reducible repeat (first | apply b1 | apply b2 | apply b3)); exact BK257.out)) : gb257 ≠ gb263))
   have n10_ := Aside0.mk ((by rw [hg]; exact Nat.ne_of_gt (blk_lt (g := gb257) (o := .cells #[.string a1_0, .slice A1_1 l1_1.length c1_1] 26 (0, 0)) (by (with_reducible repeat (first | apply b1 | apply b2 | apply b3)); exact BK257.out)) : gb263 ≠ gb257))
   have n11_ := Aside0.mk ((by rw [hg]; exact Nat.ne_of_lt (blk_lt (g := gb258) (o := .cells #[.int .i64 0, .int .i64 0] 32 (0, 0)) (by (with_reducible repeat (first | apply b1 | apply b2 | apply b3)); exact BK258.out)) : gb258 ≠ gb263))
   have n12_ := Aside0.mk ((by rw [hg]; exact Nat.ne_of_gt (blk_lt (g := gb258) (o := .cells #[.int .i64 0, .int .i64 0] 32 (0, 0)) (by (with_reducible repeat (first | apply b1 | apply b2 | apply b3)); exact BK258.out)) : gb263 ≠ gb258))
   clear BK256
   clear BK257
   clear BK258
   clear HB
   have BK256 := n0_
   have BK257 := n1_
   have BK258 := n2_
   have HB := n3_
   have BK263 := n4_
   have GW263 := n5_
   have GE263 := n6_
   have NB256_263 := n7_
   have NB263_256 := n8_
   have NB257_263 := n9_
   have NB263_257 := n10_
   have NB258_263 := n11_
   have NB263_258 := n12_
   clear n0_ n1_ n2_ n3_ n4_ n5_ n6_ n7_ n8_ n9_ n10_ n11_ n12_
   clear hb hbox hg hb_ hw_
   refine hK.out _ _ ⟨(blk_cell BK257.out 0).trans rfl, (blk_cell BK257.out 1).trans rfl, (blk_cell BK256.out 0).trans rfl, (blk_cell BK256.out 1).trans rfl, (blk_cell BK256.out 2).trans rfl, (blk_cell BK256.out 3).trans rfl, (blk_cell BK256.out 4).trans rfl, (blk_cell BK256.out 5).trans rfl⟩ (fun hHeld => ?_)
   clear hK K
   refine norm_ (a' := ?_) ?_ ?_
   rotate_left
   ·show Act.put _ (some 6) _ = _
    simp only [Act.put, List.setIfInBounds_toArray, List.set_cons_zero, List.set_cons_succ, i64_w, i32_w]
    rfl
   refine one_ (i := 1) (N := some 11) #[true, true, false, true, true, false, false, false, false, true, false, false] rfl rfl (one_of HT_.out (by kernel_rfl)) (by decide) (fun K hK => ?_)
   refine goes_ Try.func9 (by kernel_rfl) rfl #[.agg #[.string a1_0, .slice A1_1 l1_1.length c1_1]] (by rfl) rfl rfl (by (try simp only [List.map_toArray, List.map_cons, List.map_nil]); first | done | rfl | (simp only [List.length_drop, List.length_take]; rfl)) ?_
   with_reducible refine (speed_Count.calls k a1_0 _ _ l1_1 t259 _ ?side1 ?side2 A3.out).mono ?_
   (case side1 => repeat (first | exact (Kd.C_below HR1_1.out HB.out) | (with_reducible refine Kd.C_alloc ?_ _) | (with_reducible refine Kd.C_drewN ?_ _) | (with_reducible refine Kd.C_drew ?_)))
   (case side2 => exact HC1_1.out)
   rintro e w11 ⟨rfl, hb⟩
   refine ⟨_, rfl, ?_⟩
   have n0_ := Aside0.mk (blk_below (g := gb256) (o := .cells #[.int .i64 a0_0, .int .i64 a0_1, .int .i64 a0_2, .int .i64 a0_3, .int .i64 a0_4, .int .i64 a0_5] 41 (0, 0)) (by (with_reducible repeat (first | apply b1 | apply b2 | apply b3)); exact BK256.out) hb)
   have n1_ := Aside0.mk (blk_below (g := gb257) (o := .cells #[.string a1_0, .slice A1_1 l1_1.length c1_1] 26 (0, 0)) (by (with_reducible repeat (first | apply b1 | apply b2 | apply b3)); exact BK257.out) hb)
   have n2_ := Aside0.mk (blk_below (g := gb258) (o := .cells #[.int .i64 0, .int .i64 0] 32 (0, 0)) (by (with_reducible repeat (first | apply b1 | apply b2 | apply b3)); exact BK258.out) hb)
   have n3_ := Aside0.mk (blk_below (g := gb263) (o := .cells #[.int .i64 0, .int .i64 0] 32 (0, 0)) (by (with_reducible repeat (first | apply b1 | apply b2 | apply b3)); exact BK263.out) hb)
   have n4_ := Aside0.mk (below_step (by repeat (first | (with_reducible first | exact HB.out | apply l1 | apply l2 | apply l3 | refine below_set ?_ GE256.out | refine below_set ?_ GE257.out | refine below_set ?_ GE258.out | refine below_set ?_ GE263.out) | exact HB.out)) hb)
   clear BK256
   clear BK257
   clear BK258
   clear BK263
   clear HB
   have BK256 := n0_
   have BK257 := n1_
   have BK258 := n2_
   have BK263 := n3_
   have HB := n4_
   clear n0_ n1_ n2_ n3_ n4_
   (try clear hb)
   (try clear hb2)
   (try clear hk)
   (try clear hi)
   refine hK.out _ _ ⟨(blk_cell BK257.out 0).trans rfl, (blk_cell BK257.out 1).trans rfl, (blk_cell BK256.out 0).trans rfl, (blk_cell BK256.out 1).trans rfl, (blk_cell BK256.out 2).trans rfl, (blk_cell BK256.out 3).trans rfl, (blk_cell BK256.out 4).trans rfl, (blk_cell BK256.out 5).trans rfl⟩ (fun hHeld => ?_)
   clear hK K
   refine norm_ (a' := ?_) ?_ ?_
   rotate_left
   ·show Act.put _ (some 11) _ = _
    simp only [Act.put, List.setIfInBounds_toArray, List.set_cons_zero, List.set_cons_succ, i64_w, i32_w]
    rfl
   refine pure_ (i := 2) (N := some 12) (v := ?_) (a' := ?_) #[true, true, true, true, true, false, false, false, false, true, false, false] rfl rfl (any_of HT_.out (by kernel_rfl)) (fun _ _ _ h => h) (Or.inl ⟨by rfl, ?_⟩) ?_ ?_
   rotate_left
   ·intro w'
    go_simp
    with_reducible rfl
   rotate_left
   ·simp only [Act.put, List.setIfInBounds_toArray, List.set_cons_zero, List.set_cons_succ, i64_w, i32_w]
    rfl
   refine one_ (i := 5) (N := some 15) #[true, true, true, true, true, true, false, false, false, true, false, false] rfl rfl (one_of HT_.out (by kernel_rfl)) (by decide) (fun K hK => ?_)
   refine goes_ Try.func70 (by kernel_rfl) rfl #[.agg #[.int .i64 t259, .int .i64 1], .agg #[.int .i64 a0_0, .int .i64 a0_1]] (by rfl) rfl rfl (by (try simp only [List.map_toArray, List.map_cons, List.map_nil]); first | done | rfl | (simp only [List.length_drop, List.length_take]; rfl)) ?_
   with_reducible refine (ratio_Div.calls k t259 1 a0_0 a0_1 t260 t261 t262 _ A4.out).mono ?_
   rintro e w12 ⟨rfl, hb⟩
   refine ⟨_, rfl, ?_⟩
   have n0_ := Aside0.mk (blk_below (g := gb256) (o := .cells #[.int .i64 a0_0, .int .i64 a0_1, .int .i64 a0_2, .int .i64 a0_3, .int .i64 a0_4, .int .i64 a0_5] 41 (0, 0)) (by (with_reducible repeat (first | apply b1 | apply b2 | apply b3)); exact BK256.out) hb)
   have n1_ := Aside0.mk (blk_below (g := gb257) (o := .cells #[.string a1_0, .slice A1_1 l1_1.length c1_1] 26 (0, 0)) (by (with_reducible repeat (first | apply b1 | apply b2 | apply b3)); exact BK257.out) hb)
   have n2_ := Aside0.mk (blk_below (g := gb258) (o := .cells #[.int .i64 0, .int .i64 0] 32 (0, 0)) (by (with_reducible repeat (first | apply b1 | apply b2 | apply b3)); exact BK258.out) hb)
   have n3_ := Aside0.mk (blk_below (g := gb263) (o := .cells #[.int .i64 0, .int .i64 0] 32 (0, 0)) (by (with_reducible repeat (first | apply b1 | apply b2 | apply b3)); exact BK263.out) hb)
   have n4_ := Aside0.mk (below_step (by repeat (first | (with_reducible first | exact HB.out | apply l1 | apply l2 | apply l3 | refine below_set ?_ GE256.out | refine below_set ?_ GE257.out | refine below_set ?_ GE258.out | refine below_set ?_ GE263.out) | exact HB.out)) hb)
   clear BK256
   clear BK257
   clear BK258
   clear BK263
   clear HB
   have BK256 := n0_
   have BK257 := n1_
   have BK258 := n2_
   have BK263 := n3_
   have HB := n4_
   clear n0_ n1_ n2_ n3_ n4_
   (try clear hb)
   (try clear hb2)
   (try clear hk)
   (try clear hi)
   refine hK.out _ _ ⟨(blk_cell BK257.out 0).trans rfl, (blk_cell BK257.out 1).trans rfl, (blk_cell BK256.out 0).trans rfl, (blk_cell BK256.out 1).trans rfl, (blk_cell BK256.out 2).trans rfl, (blk_cell BK256.out 3).trans rfl, (blk_cell BK256.out 4).trans rfl, (blk_cell BK256.out 5).trans rfl⟩ (fun hHeld => ?_)
   clear hK K
   refine norm_ (a' := ?_) ?_ ?_
   rotate_left
   ·show Act.put _ (some 15) _ = _
    simp only [Act.put, List.setIfInBounds_toArray, List.set_cons_zero, List.set_cons_succ, i64_w, i32_w]
    rfl
   refine pure_ (i := 6) (N := some 9) (v := ?_) (a' := ?_) #[true, true, true, true, true, true, true, false, false, true, false, false] rfl rfl (any_of HT_.out (by kernel_rfl)) (fun _ _ _ h => h) (Or.inl ⟨by rfl, ?_⟩) ?_ ?_
   rotate_left
   ·intro w'
    go_simp
    with_reducible rfl
   rotate_left
   ·simp only [Act.put, List.setIfInBounds_toArray, List.set_cons_zero, List.set_cons_succ, i64_w, i32_w]
    rfl
   refine pure_ (i := 7) (N := some 16) (v := ?_) (a' := ?_) #[true, true, true, true, true, true, true, true, false, true, false, false] rfl rfl (any_of HT_.out (by kernel_rfl)) (fun _ _ _ h => h) (Or.inl ⟨by rfl, ?_⟩) ?_ ?_
   rotate_left
   ·intro w'
    go_simp
    with_reducible rfl
   rotate_left
   ·simp only [Act.put, List.setIfInBounds_toArray, List.set_cons_zero, List.set_cons_succ, i64_w, i32_w]
    rfl
   refine pure_ (i := 8) (N := some 17) (v := ?_) (a' := ?_) #[true, true, true, true, true, true, true, true, true, true, false, false] rfl rfl (any_of HT_.out (by kernel_rfl)) (fun _ _ _ h => h) (Or.inl ⟨by rfl, ?_⟩) ?_ ?_
   rotate_left
   ·intro w'
    go_simp
    with_reducible rfl
   rotate_left
   ·simp only [Act.put, List.setIfInBounds_toArray, List.set_cons_zero, List.set_cons_succ, i64_w, i32_w]
    rfl
   exact norm_ (by simp only [putAll, Act.put, List.setIfInBounds_toArray, List.set_cons_zero, List.set_cons_succ]) (hCont (gb263) _ ⟨hHeld, (by (with_reducible repeat (first | apply b1 | apply b2 | apply b3)); exact BK256.out), (by (with_reducible repeat (first | apply b1 | apply b2 | apply b3)); exact BK257.out), (by (with_reducible repeat (first | apply b1 | apply b2 | apply b3)); exact BK258.out), (by (with_reducible repeat (first | apply b1 | apply b2 | apply b3)); exact BK263.out), GW263.out, GE263.out, NB256_263.out, NB263_256.out, NB257_263.out, NB263_257.out, NB258_263.out, NB263_258.out, (by repeat (first | (with_reducible first | exact HB.out | apply l1 | apply l2 | apply l3 | refine below_set ?_ GE256.out | refine below_set ?_ GE257.out | refine below_set ?_ GE258.out | refine below_set ?_ GE263.out) | exact HB.out))⟩)
 rintro gb263 w13 ⟨hS_, h0_, h1_, h2_, h3_, h4_, h5_, h6_, h7_, h8_, h9_, h10_, h11_, h12_⟩
 have n0_ : Aside0 (w13.heap[gb256]? = some (.cells #[.int .i64 a0_0, .int .i64 a0_1, .int .i64 a0_2, .int .i64 a0_3, .int .i64 a0_4, .int .i64 a0_5] 41 (0, 0))) := ⟨h0_⟩
 have n1_ : Aside0 (w13.heap[gb257]? = some (.cells #[.string a1_0, .slice A1_1 l1_1.length c1_1] 26 (0, 0))) := ⟨h1_⟩
 have n2_ : Aside0 (w13.heap[gb258]? = some (.cells #[.int .i64 0, .int .i64 0] 32 (0, 0))) := ⟨h2_⟩
 have n3_ : Aside0 (w13.heap[gb263]? = some (.cells #[.int .i64 0, .int .i64 0] 32 (0, 0))) := ⟨h3_⟩
 have n4_ : Aside0 (w.heap.size ≤ gb263) := ⟨h4_⟩
 have n5_ : Aside0 (w.heap.size ≤ gb263) := ⟨h5_⟩
 have n6_ : Aside0 (gb256 ≠ gb263) := ⟨h6_⟩
 have n7_ : Aside0 (gb263 ≠ gb256) := ⟨h7_⟩
 have n8_ : Aside0 (gb257 ≠ gb263) := ⟨h8_⟩
 have n9_ : Aside0 (gb263 ≠ gb257) := ⟨h9_⟩
 have n10_ : Aside0 (gb258 ≠ gb263) := ⟨h10_⟩
 have n11_ : Aside0 (gb263 ≠ gb258) := ⟨h11_⟩
 have n12_ : Aside0 (Below w.heap.size w w13) := ⟨h12_⟩
 clear BK256
 clear BK257
 clear BK258
 clear HB
 clear h0_ h1_ h2_ h3_ h4_ h5_ h6_ h7_ h8_ h9_ h10_ h11_ h12_
 have BK256 := n0_
 have BK257 := n1_
 have BK258 := n2_
 have BK263 := n3_
 have GW263 := n4_
 have GE263 := n5_
 have NB256_263 := n6_
 have NB263_256 := n7_
 have NB257_263 := n8_
 have NB263_257 := n9_
 have NB258_263 := n10_
 have NB263_258 := n11_
 have HB := n12_
 clear n0_ n1_ n2_ n3_ n4_ n5_ n6_ n7_ n8_ n9_ n10_ n11_ n12_
 have hHeld : w13.cell? ⟨gb257, 0, none⟩ = some (.string a1_0) ∧ w13.cell? ⟨gb257, 1, none⟩ = some (.slice A1_1 l1_1.length c1_1) ∧ w13.cell? ⟨gb256, 0, none⟩ = some (.int .i64 a0_0) ∧ w13.cell? ⟨gb256, 1, none⟩ = some (.int .i64 a0_1) ∧ w13.cell? ⟨gb256, 2, none⟩ = some (.int .i64 a0_2) ∧ w13.cell? ⟨gb256, 3, none⟩ = some (.int .i64 a0_3) ∧ w13.cell? ⟨gb256, 4, none⟩ = some (.int .i64 a0_4) ∧ w13.cell? ⟨gb256, 5, none⟩ = some (.int .i64 a0_5) := hS_
 refine norm_ (a' := ?_) ?_ ?_
 rotate_left
 ·simp only [putAll, Act.put, List.setIfInBounds_toArray, List.set_cons_zero, List.set_cons_succ]
  rfl
 refine one_ (i := 10) (N := none) #[true, true, true, true, true, true, true, true, true, true, true, false] rfl rfl (one_of HT_.out (by kernel_rfl)) (by decide) (fun K hK => ?_)
 have hs14 : w13.cell? ⟨gb263, 0, none⟩ = some (.int .i64 0) := (blk_cell BK263.out 0).trans rfl
 have hfs14 := blk_frozen BK263.out 0
 have hns14_0 := NB256_263.out
 have hns14_1 := NB257_263.out
 have hns14_2 := NB258_263.out
 have hms14_0 := NB263_256.out
 have hms14_1 := NB263_257.out
 have hms14_2 := NB263_258.out
 have hs15 : w13.cell? ⟨gb263, 1, none⟩ = some (.int .i64 0) := (blk_cell BK263.out 1).trans rfl
 have hfs15 := blk_frozen BK263.out 1
 have hns15_0 := NB256_263.out
 have hns15_1 := NB257_263.out
 have hns15_2 := NB258_263.out
 have hms15_0 := NB263_256.out
 have hms15_1 := NB263_257.out
 have hms15_2 := NB263_258.out
 refine skip_ (w1 := ?_) (by rfl) rfl ?_ ?_
 rotate_left
 ·go_simp
  rfl
 refine hK.out _ _ ⟨((cell_far (p := ⟨gb263, _, none⟩) NB257_263.out _).trans (((cell_far (p := ⟨gb263, _, none⟩) NB257_263.out _).trans (hHeld.1)))), ((cell_far (p := ⟨gb263, _, none⟩) NB257_263.out _).trans (((cell_far (p := ⟨gb263, _, none⟩) NB257_263.out _).trans (hHeld.2.1)))), ((cell_far (p := ⟨gb263, _, none⟩) NB256_263.out _).trans (((cell_far (p := ⟨gb263, _, none⟩) NB256_263.out _).trans (hHeld.2.2.1)))), ((cell_far (p := ⟨gb263, _, none⟩) NB256_263.out _).trans (((cell_far (p := ⟨gb263, _, none⟩) NB256_263.out _).trans (hHeld.2.2.2.1)))), ((cell_far (p := ⟨gb263, _, none⟩) NB256_263.out _).trans (((cell_far (p := ⟨gb263, _, none⟩) NB256_263.out _).trans (hHeld.2.2.2.2.1)))), ((cell_far (p := ⟨gb263, _, none⟩) NB256_263.out _).trans (((cell_far (p := ⟨gb263, _, none⟩) NB256_263.out _).trans (hHeld.2.2.2.2.2.1)))), ((cell_far (p := ⟨gb263, _, none⟩) NB256_263.out _).trans (((cell_far (p := ⟨gb263, _, none⟩) NB256_263.out _).trans (hHeld.2.2.2.2.2.2.1)))), ((cell_far (p := ⟨gb263, _, none⟩) NB256_263.out _).trans (((cell_far (p := ⟨gb263, _, none⟩) NB256_263.out _).trans (hHeld.2.2.2.2.2.2.2))))⟩ (fun hHeld => ?_)
 clear hK K
 refine pure_ (i := 11) (N := some 7) (v := ?_) (a' := ?_) #[true, true, true, true, true, true, true, true, true, true, true, true] rfl rfl (any_of HT_.out (by kernel_rfl)) (fun _ _ _ h => h) (Or.inl ⟨by rfl, ?_⟩) ?_ ?_
 rotate_left
 ·intro w'
  go_simp
  with_reducible rfl
 rotate_left
 ·simp only [Act.put, List.setIfInBounds_toArray, List.set_cons_zero, List.set_cons_succ, i64_w, i32_w]
  rfl
 refine done_ (done_of HT_.out (by kernel_rfl)) ?_
 go_upto_region 2 with (fail)
 go_cut [24] (fun v24 wc => ∃ (kq : Nat) (x24_4 : Bool), v24 = .bool x24_4 ∧ Aside0 (speed_Rules_wants.j0 kq t262 x24_4 a0_0 a0_1 a0_2 a0_3 a0_4 a0_5 t260 t261 = some (r1, r2, r3)) ∧ Aside0 (kq ≤ k) ∧ Aside0 (wc.heap[gb256]? = some (.cells #[.int .i64 a0_0, .int .i64 a0_1, .int .i64 a0_2, .int .i64 a0_3, .int .i64 a0_4, .int .i64 a0_5] 41 (0, 0))) ∧ Aside0 (wc.heap[gb257]? = some (.cells #[.string a1_0, (.slice A1_1 l1_1.length c1_1)] 26 (0, 0))) ∧ Aside0 (wc.heap[gb258]? = some (.cells #[.int .i64 0, .int .i64 0] 32 (0, 0))) ∧ Aside0 (wc.heap[gb263]? = some (.cells #[.int .i64 t260, .int .i64 t261] 32 (0, 0))) ∧ Aside0 (Below w.heap.size w wc))
 case first =>
  have H := HC5.out
  clear HC5
  by_cases c16 : t262 = 0
  ·rw [if_pos c16] at H
   have c16b0 : (t262 == 0) = true := beq_iff_eq.mpr c16
   have c16b1 : (t262 != 0) = false := bne_eq_false_iff_eq.mpr c16
   clear c16
   (first | rw [c16b0] | (simp only [i64_w, i32_w]; rw [c16b0]) | skip)
   have H' := Aside0.mk H
   clear H
   have hnb17 := NB263_256.out
   have hnc17 := NB256_263.out
   have hnb18 := NB263_257.out
   have hnc18 := NB257_263.out
   have hnb19 := NB263_258.out
   have hnc19 := NB258_263.out
   obtain ⟨hcz20_0, hcz20_1, hfz20_0, hfz20_1⟩ := blk_cells2 BK263.out
   go_wp2
   go_meet
   case rel => exact ⟨_, (decide (t261 > 1048576)), (by first | rfl | (simp; done) | (simp [*]; done)), H', ⟨by first | omega | exact Nat.le_refl _⟩, ⟨by (with_reducible repeat (first | apply b1 | apply b2 | apply b3)); refine blk_far ?_ NB256_263.out _; (with_reducible repeat (first | apply b1 | apply b2 | apply b3)); refine blk_far ?_ NB256_263.out _; (with_reducible repeat (first | apply b1 | apply b2 | apply b3)); exact BK256.out⟩, ⟨by (with_reducible repeat (first | apply b1 | apply b2 | apply b3)); refine blk_far ?_ NB257_263.out _; (with_reducible repeat (first | apply b1 | apply b2 | apply b3)); refine blk_far ?_ NB257_263.out _; (with_reducible repeat (first | apply b1 | apply b2 | apply b3)); exact BK257.out⟩, ⟨by (with_reducible repeat (first | apply b1 | apply b2 | apply b3)); refine blk_far ?_ NB258_263.out _; (with_reducible repeat (first | apply b1 | apply b2 | apply b3)); refine blk_far ?_ NB258_263.out _; (with_reducible repeat (first | apply b1 | apply b2 | apply b3)); exact BK258.out⟩, ⟨by (with_reducible repeat (first | apply b1 | apply b2 | apply b3)); refine blk_put (cs := #[.int .i64 t260, .int .i64 0]) ?_ 1 _ rfl; (with_reducible repeat (first | apply b1 | apply b2 | apply b3)); refine blk_put (cs := #[.int .i64 0, .int .i64 0]) ?_ 0 _ rfl; (with_reducible repeat (first | apply b1 | apply b2 | apply b3)); exact BK263.out⟩, ⟨by repeat (first | (with_reducible first | exact HB.out | apply l1 | apply l2 | apply l3 | refine below_set ?_ GE256.out | refine below_set ?_ GE257.out | refine below_set ?_ GE258.out | refine below_set ?_ GE263.out) | exact HB.out)⟩⟩
  ·rw [if_neg c16] at H
   have c16b0 : (t262 == 0) = false := beq_eq_false_iff_ne.mpr c16
   have c16b1 : (t262 != 0) = true := bne_iff_ne.mpr c16
   (first | rw [c16b0] | (simp only [i64_w, i32_w]; rw [c16b0]) | skip)
   have H' := Aside0.mk H
   clear H
   go_wp2
   go_meet
   case rel => exact ⟨_, (false), (by first | rfl | (simp; done) | (simp [*]; done)), H', ⟨by first | omega | exact Nat.le_refl _⟩, ⟨by (with_reducible repeat (first | apply b1 | apply b2 | apply b3)); refine blk_far ?_ NB256_263.out _; (with_reducible repeat (first | apply b1 | apply b2 | apply b3)); refine blk_far ?_ NB256_263.out _; (with_reducible repeat (first | apply b1 | apply b2 | apply b3)); exact BK256.out⟩, ⟨by (with_reducible repeat (first | apply b1 | apply b2 | apply b3)); refine blk_far ?_ NB257_263.out _; (with_reducible repeat (first | apply b1 | apply b2 | apply b3)); refine blk_far ?_ NB257_263.out _; (with_reducible repeat (first | apply b1 | apply b2 | apply b3)); exact BK257.out⟩, ⟨by (with_reducible repeat (first | apply b1 | apply b2 | apply b3)); refine blk_far ?_ NB258_263.out _; (with_reducible repeat (first | apply b1 | apply b2 | apply b3)); refine blk_far ?_ NB258_263.out _; (with_reducible repeat (first | apply b1 | apply b2 | apply b3)); exact BK258.out⟩, ⟨by (with_reducible repeat (first | apply b1 | apply b2 | apply b3)); refine blk_put (cs := #[.int .i64 t260, .int .i64 0]) ?_ 1 _ rfl; (with_reducible repeat (first | apply b1 | apply b2 | apply b3)); refine blk_put (cs := #[.int .i64 0, .int .i64 0]) ?_ 0 _ rfl; (with_reducible repeat (first | apply b1 | apply b2 | apply b3)); exact BK263.out⟩, ⟨by repeat (first | (with_reducible first | exact HB.out | apply l1 | apply l2 | apply l3 | refine below_set ?_ GE256.out | refine below_set ?_ GE257.out | refine below_set ?_ GE258.out | refine below_set ?_ GE263.out) | exact HB.out)⟩⟩
 case rest =>
  clear HC5
  try clear c1
  try clear p2
  try clear c3
  try clear c7
  try clear c9
  try clear c16
  try clear c16b0
  try clear c16b1
  try clear c17
  try clear c18
  try clear c19
  try clear hcz20_0
  try clear hcz20_1
  try clear hfz20_0
  try clear hfz20_1
  obtain ⟨kq, x24_4, rfl, HA, HJ4, BK256, BK257, BK258, BK263, HB⟩ := hcut
  cases kq with
  | zero => exact absurd HA.out (by simp [speed_Rules_wants.j0])
  | succ kj4 =>
   have H := HA.out
   clear HA
   simp only [speed_Rules_wants.j0] at H
   have HC21 := Aside0.mk H
   clear H
   go_upto_if 24 with (fail)
   go_cut [7] (fun v7 wc => ∃ (kq : Nat) (x7_20 : Int), v7 = .int .i64 x7_20 ∧ Aside0 (speed_Rules_wants.j1 kq x7_20 a0_0 a0_1 a0_2 a0_3 a0_4 a0_5 t260 t261 = some (r1, r2, r3)) ∧ Aside0 (kq ≤ kj4) ∧ Aside0 (wc.heap[gb256]? = some (.cells #[.int .i64 a0_0, .int .i64 a0_1, .int .i64 a0_2, .int .i64 a0_3, .int .i64 a0_4, .int .i64 a0_5] 41 (0, 0))) ∧ Aside0 (wc.heap[gb257]? = some (.cells #[.string a1_0, (.slice A1_1 l1_1.length c1_1)] 26 (0, 0))) ∧ Aside0 (wc.heap[gb258]? = some (.cells #[.int .i64 0, .int .i64 0] 32 (0, 0))) ∧ Aside0 (wc.heap[gb263]? = some (.cells #[.int .i64 t260, .int .i64 t261] 32 (0, 0))) ∧ Aside0 (Below w.heap.size w wc))
   case first =>
    have H := HC21.out
    clear HC21
    by_cases c22 : x24_4 = true
    ·subst c22
     have H1 : (speed_Rules_wants.j1 kj4 12 a0_0 a0_1 a0_2 a0_3 a0_4 a0_5 t260 t261) = some (r1, r2, r3) := by rw [if_pos rfl] at H; exact H
     clear H
     have H := H1
     clear H1
     have H' := Aside0.mk H
     clear H
     go_wp2
     go_meet
     case rel => exact ⟨_, (12), (by first | rfl | (simp; done) | (simp [*]; done)), H', ⟨by have := HJ4.out; first | omega | exact Nat.le_refl _⟩, ⟨by (with_reducible repeat (first | apply b1 | apply b2 | apply b3)); exact BK256.out⟩, ⟨by (with_reducible repeat (first | apply b1 | apply b2 | apply b3)); exact BK257.out⟩, ⟨by (with_reducible repeat (first | apply b1 | apply b2 | apply b3)); exact BK258.out⟩, ⟨by (with_reducible repeat (first | apply b1 | apply b2 | apply b3)); exact BK263.out⟩, ⟨by repeat (first | (with_reducible first | exact HB.out | apply l1 | apply l2 | apply l3 | refine below_set ?_ GE256.out | refine below_set ?_ GE257.out | refine below_set ?_ GE258.out | refine below_set ?_ GE263.out) | exact HB.out)⟩⟩
    ·replace c22 := Bool.eq_false_iff.mpr c22
     subst c22
     have H1 : (speed_Rules_wants.j1 kj4 t262 a0_0 a0_1 a0_2 a0_3 a0_4 a0_5 t260 t261) = some (r1, r2, r3) := by rw [if_neg (show ¬ (false = true) by decide)] at H; exact H
     clear H
     have H := H1
     clear H1
     have H' := Aside0.mk H
     clear H
     go_wp2
     go_meet
     case rel => exact ⟨_, (t262), (by first | rfl | (simp; done) | (simp [*]; done)), H', ⟨by have := HJ4.out; first | omega | exact Nat.le_refl _⟩, ⟨by (with_reducible repeat (first | apply b1 | apply b2 | apply b3)); exact BK256.out⟩, ⟨by (with_reducible repeat (first | apply b1 | apply b2 | apply b3)); exact BK257.out⟩, ⟨by (with_reducible repeat (first | apply b1 | apply b2 | apply b3)); exact BK258.out⟩, ⟨by (with_reducible repeat (first | apply b1 | apply b2 | apply b3)); exact BK263.out⟩, ⟨by repeat (first | (with_reducible first | exact HB.out | apply l1 | apply l2 | apply l3 | refine below_set ?_ GE256.out | refine below_set ?_ GE257.out | refine below_set ?_ GE258.out | refine below_set ?_ GE263.out) | exact HB.out)⟩⟩
   case rest =>
    clear HC21
    try clear c1
    try clear c2
    try clear p2
    try clear c3
    try clear c7
    try clear c9
    try clear c16
    try clear c16b0
    try clear c16b1
    try clear c17
    try clear c18
    try clear c19
    try clear c22
    try clear hcz20_0
    try clear hcz20_1
    try clear hfz20_0
    try clear hfz20_1
    try clear p2
    obtain ⟨kq, x7_20, rfl, HA, HJ20, BK256, BK257, BK258, BK263, HB⟩ := hcut
    cases kq with
    | zero => exact absurd HA.out (by simp [speed_Rules_wants.j1])
    | succ kj20 =>
     have H := HA.out
     clear HA
     simp only [speed_Rules_wants.j1] at H
     by_cases c23 : x7_20 = 0
     ·rw [if_pos c23] at H
      have c23b0 : (x7_20 == 0) = true := beq_iff_eq.mpr c23
      have c23b1 : (x7_20 != 0) = false := bne_eq_false_iff_eq.mpr c23
      clear c23
      replace H := Option.bind_eq_some_iff.mp H
      obtain ⟨t264, A240, H⟩ := H
      (try dsimp only at H)
      have A24 := Aside0.mk A240
      clear A240
      by_cases c25 : t264 < 0
      ·rw [if_pos c25] at H
       have c25b0 : decide (t264 < 0) = true := decide_eq_true c25
       clear c25
       simp only [Option.some.injEq, Prod.mk.injEq] at H
       obtain ⟨rfl, rfl, rfl⟩ := H
       have hnb26 := NB263_256.out
       have hnc26 := NB256_263.out
       have hnb27 := NB263_257.out
       have hnc27 := NB257_263.out
       have hnb28 := NB263_258.out
       have hnc28 := NB258_263.out
       obtain ⟨hcz29_0, hcz29_1, hfz29_0, hfz29_1⟩ := blk_cells2 BK263.out
       have hnb30 := NB256_257.out
       have hnc30 := NB257_256.out
       have hnb31 := NB256_258.out
       have hnc31 := NB258_256.out
       obtain ⟨hcz32_0, hcz32_1, hcz32_2, hcz32_3, hcz32_4, hcz32_5, hfz32_0, hfz32_1, hfz32_2, hfz32_3, hfz32_4, hfz32_5⟩ := blk_cells6 BK256.out
       go_wp2_with (first | ((with_reducible refine gate_callee (f := 57) rfl ?_); refine goesL_ (some 32) rfl rfl Try.func57 (by kernel_rfl) rfl #[.agg #[.int .i64 t260, .int .i64 t261], .agg #[.int .i64 a0_2, .int .i64 a0_3]] rfl (by (try simp only [List.map_toArray, List.map_cons, List.map_nil]); first | done | rfl | (simp only [List.length_drop, List.length_take]; rfl)) ?_; (with_reducible refine (ratio_Cmp.calls t260 t261 a0_2 a0_3 t264 _ A24.out).mono ?_); rintro e w33 ⟨rfl, hb⟩; refine ⟨_, rfl, ?_⟩; have n0_ := Aside0.mk (blk_below (by (with_reducible repeat (first | apply b1 | apply b2 | apply b3)); exact BK256.out) hb); have n1_ := Aside0.mk (blk_below (by (with_reducible repeat (first | apply b1 | apply b2 | apply b3)); exact BK257.out) hb); have n2_ := Aside0.mk (blk_below (by (with_reducible repeat (first | apply b1 | apply b2 | apply b3)); exact BK258.out) hb); have n3_ := Aside0.mk (blk_below (by (with_reducible repeat (first | apply b1 | apply b2 | apply b3)); exact BK263.out) hb); have n4_ := Aside0.mk (below_step (by repeat (first | (with_reducible first | exact HB.out | apply l1 | apply l2 | apply l3 | refine below_set ?_ GE256.out | refine below_set ?_ GE257.out | refine below_set ?_ GE258.out | refine below_set ?_ GE263.out) | exact HB.out)) hb); clear BK256; clear BK257; clear BK258; clear BK263; clear HB; have BK256 := n0_; have BK257 := n1_; have BK258 := n2_; have BK263 := n3_; have HB := n4_; clear n0_ n1_ n2_ n3_ n4_; (try clear hb); (try clear hb2); (try clear hk); (try clear hi); obtain ⟨hcz34_0, hcz34_1, hcz34_2, hcz34_3, hcz34_4, hcz34_5, hfz34_0, hfz34_1, hfz34_2, hfz34_3, hfz34_4, hfz34_5⟩ := blk_cells6 BK256.out; have hnb35 := NB258_257.out; have hnc35 := NB257_258.out; obtain ⟨hcz36_0, hcz36_1, hfz36_0, hfz36_1⟩ := blk_cells2 BK258.out))
       refine bodyPost_ret (results_ct rfl _ _ gb258 32 #[.int .i64 a0_2, .int .i64 a0_3] (0, 0) _ rfl (by (with_reducible repeat (first | apply b1 | apply b2 | apply b3)); refine blk_put (cs := #[.int .i64 a0_2, .int .i64 0]) ?_ 1 _ rfl; (with_reducible repeat (first | apply b1 | apply b2 | apply b3)); refine blk_put (cs := #[.int .i64 0, .int .i64 0]) ?_ 0 _ rfl; (with_reducible repeat (first | apply b1 | apply b2 | apply b3)); exact BK258.out) Try.underlying32 rfl (by kernel_rfl)) rfl ?_
       exact ⟨by first | rfl | (simp [errW_none, errW_some] <;> rfl) | (simp [*, errW_none, errW_some] <;> rfl), by repeat (first | (with_reducible first | exact HB.out | apply l1 | apply l2 | apply l3 | refine below_set ?_ GE256.out | refine below_set ?_ GE257.out | refine below_set ?_ GE258.out | refine below_set ?_ GE263.out) | exact HB.out)⟩
      ·rw [if_neg c25] at H
       have c25b0 : decide (t264 < 0) = false := decide_eq_false c25
       clear c25
       replace H := Option.bind_eq_some_iff.mp H
       obtain ⟨t265, A370, H⟩ := H
       (try dsimp only at H)
       have A37 := Aside0.mk A370
       clear A370
       by_cases c38 : t265 = 0
       ·rw [if_pos c38] at H
        have c38b0 : (t265 == 0) = true := beq_iff_eq.mpr c38
        have c38b1 : (t265 != 0) = false := bne_eq_false_iff_eq.mpr c38
        clear c38
        simp only [Option.some.injEq, Prod.mk.injEq] at H
        obtain ⟨rfl, rfl, rfl⟩ := H
        have hnb39 := NB263_256.out
        have hnc39 := NB256_263.out
        have hnb40 := NB263_257.out
        have hnc40 := NB257_263.out
        have hnb41 := NB263_258.out
        have hnc41 := NB258_263.out
        obtain ⟨hcz42_0, hcz42_1, hfz42_0, hfz42_1⟩ := blk_cells2 BK263.out
        have hnb43 := NB256_257.out
        have hnc43 := NB257_256.out
        have hnb44 := NB256_258.out
        have hnc44 := NB258_256.out
        obtain ⟨hcz45_0, hcz45_1, hcz45_2, hcz45_3, hcz45_4, hcz45_5, hfz45_0, hfz45_1, hfz45_2, hfz45_3, hfz45_4, hfz45_5⟩ := blk_cells6 BK256.out
        go_wp2_with (first | ((with_reducible refine gate_callee (f := 57) rfl ?_); refine goesL_ (some 32) rfl rfl Try.func57 (by kernel_rfl) rfl #[.agg #[.int .i64 t260, .int .i64 t261], .agg #[.int .i64 a0_2, .int .i64 a0_3]] rfl (by (try simp only [List.map_toArray, List.map_cons, List.map_nil]); first | done | rfl | (simp only [List.length_drop, List.length_take]; rfl)) ?_; (with_reducible refine (ratio_Cmp.calls t260 t261 a0_2 a0_3 t264 _ A24.out).mono ?_); rintro e w46 ⟨rfl, hb⟩; refine ⟨_, rfl, ?_⟩; have n0_ := Aside0.mk (blk_below (by (with_reducible repeat (first | apply b1 | apply b2 | apply b3)); exact BK256.out) hb); have n1_ := Aside0.mk (blk_below (by (with_reducible repeat (first | apply b1 | apply b2 | apply b3)); exact BK257.out) hb); have n2_ := Aside0.mk (blk_below (by (with_reducible repeat (first | apply b1 | apply b2 | apply b3)); exact BK258.out) hb); have n3_ := Aside0.mk (blk_below (by (with_reducible repeat (first | apply b1 | apply b2 | apply b3)); exact BK263.out) hb); have n4_ := Aside0.mk (below_step (by repeat (first | (with_reducible first | exact HB.out | apply l1 | apply l2 | apply l3 | refine below_set ?_ GE256.out | refine below_set ?_ GE257.out | refine below_set ?_ GE258.out | refine below_set ?_ GE263.out) | exact HB.out)) hb); clear BK256; clear BK257; clear BK258; clear BK263; clear HB; have BK256 := n0_; have BK257 := n1_; have BK258 := n2_; have BK263 := n3_; have HB := n4_; clear n0_ n1_ n2_ n3_ n4_; (try clear hb); (try clear hb2); (try clear hk); (try clear hi); obtain ⟨hcz47_0, hcz47_1, hfz47_0, hfz47_1⟩ := blk_cells2 BK263.out) | ((with_reducible refine gate_callee (f := 69) rfl ?_); refine goesL_ (some 37) rfl rfl Try.func69 (by kernel_rfl) rfl #[.agg #[.int .i64 t260, .int .i64 t261]] rfl (by (try simp only [List.map_toArray, List.map_cons, List.map_nil]); first | done | rfl | (simp only [List.length_drop, List.length_take]; rfl)) ?_; (with_reducible refine (ratio_Time.calls kj20 t260 t261 t265 _ A37.out).mono ?_); rintro e w48 ⟨rfl, hb⟩; refine ⟨_, rfl, ?_⟩; have n0_ := Aside0.mk (blk_below (by (with_reducible repeat (first | apply b1 | apply b2 | apply b3)); exact BK256.out) hb); have n1_ := Aside0.mk (blk_below (by (with_reducible repeat (first | apply b1 | apply b2 | apply b3)); exact BK257.out) hb); have n2_ := Aside0.mk (blk_below (by (with_reducible repeat (first | apply b1 | apply b2 | apply b3)); exact BK258.out) hb); have n3_ := Aside0.mk (blk_below (by (with_reducible repeat (first | apply b1 | apply b2 | apply b3)); exact BK263.out) hb); have n4_ := Aside0.mk (below_step (by repeat (first | (with_reducible first | exact HB.out | apply l1 | apply l2 | apply l3 | refine below_set ?_ GE256.out | refine below_set ?_ GE257.out | refine below_set ?_ GE258.out | refine below_set ?_ GE263.out) | exact HB.out)) hb); clear BK256; clear BK257; clear BK258; clear BK263; clear HB; have BK256 := n0_; have BK257 := n1_; have BK258 := n2_; have BK263 := n3_; have HB := n4_; clear n0_ n1_ n2_ n3_ n4_; (try clear hb); (try clear hb2); (try clear hk); (try clear hi); obtain ⟨hcz49_0, hcz49_1, hfz49_0, hfz49_1⟩ := blk_cells2 BK263.out; have hnb50 := NB258_257.out; have hnc50 := NB257_258.out; obtain ⟨hcz51_0, hcz51_1, hfz51_0, hfz51_1⟩ := blk_cells2 BK258.out))
        refine bodyPost_ret (results_ct rfl _ _ gb258 32 #[.int .i64 t260, .int .i64 t261] (0, 0) _ rfl (by (with_reducible repeat (first | apply b1 | apply b2 | apply b3)); refine blk_put (cs := #[.int .i64 t260, .int .i64 0]) ?_ 1 _ rfl; (with_reducible repeat (first | apply b1 | apply b2 | apply b3)); refine blk_put (cs := #[.int .i64 0, .int .i64 0]) ?_ 0 _ rfl; (with_reducible repeat (first | apply b1 | apply b2 | apply b3)); exact BK258.out) Try.underlying32 rfl (by kernel_rfl)) rfl ?_
        exact ⟨by first | rfl | (simp [errW_none, errW_some] <;> rfl) | (simp [*, errW_none, errW_some] <;> rfl), by repeat (first | (with_reducible first | exact HB.out | apply l1 | apply l2 | apply l3 | refine below_set ?_ GE256.out | refine below_set ?_ GE257.out | refine below_set ?_ GE258.out | refine below_set ?_ GE263.out) | exact HB.out)⟩
       ·rw [if_neg c38] at H
        have c38b0 : (t265 == 0) = false := beq_eq_false_iff_ne.mpr c38
        have c38b1 : (t265 != 0) = true := bne_iff_ne.mpr c38
        simp only [Option.some.injEq, Prod.mk.injEq] at H
        obtain ⟨rfl, rfl, rfl⟩ := H
        have hnb52 := NB263_256.out
        have hnc52 := NB256_263.out
        have hnb53 := NB263_257.out
        have hnc53 := NB257_263.out
        have hnb54 := NB263_258.out
        have hnc54 := NB258_263.out
        obtain ⟨hcz55_0, hcz55_1, hfz55_0, hfz55_1⟩ := blk_cells2 BK263.out
        have hnb56 := NB256_257.out
        have hnc56 := NB257_256.out
        have hnb57 := NB256_258.out
        have hnc57 := NB258_256.out
        obtain ⟨hcz58_0, hcz58_1, hcz58_2, hcz58_3, hcz58_4, hcz58_5, hfz58_0, hfz58_1, hfz58_2, hfz58_3, hfz58_4, hfz58_5⟩ := blk_cells6 BK256.out
        go_wp2_with (first | ((with_reducible refine gate_callee (f := 57) rfl ?_); refine goesL_ (some 32) rfl rfl Try.func57 (by kernel_rfl) rfl #[.agg #[.int .i64 t260, .int .i64 t261], .agg #[.int .i64 a0_2, .int .i64 a0_3]] rfl (by (try simp only [List.map_toArray, List.map_cons, List.map_nil]); first | done | rfl | (simp only [List.length_drop, List.length_take]; rfl)) ?_; (with_reducible refine (ratio_Cmp.calls t260 t261 a0_2 a0_3 t264 _ A24.out).mono ?_); rintro e w59 ⟨rfl, hb⟩; refine ⟨_, rfl, ?_⟩; have n0_ := Aside0.mk (blk_below (by (with_reducible repeat (first | apply b1 | apply b2 | apply b3)); exact BK256.out) hb); have n1_ := Aside0.mk (blk_below (by (with_reducible repeat (first | apply b1 | apply b2 | apply b3)); exact BK257.out) hb); have n2_ := Aside0.mk (blk_below (by (with_reducible repeat (first | apply b1 | apply b2 | apply b3)); exact BK258.out) hb); have n3_ := Aside0.mk (blk_below (by (with_reducible repeat (first | apply b1 | apply b2 | apply b3)); exact BK263.out) hb); have n4_ := Aside0.mk (below_step (by repeat (first | (with_reducible first | exact HB.out | apply l1 | apply l2 | apply l3 | refine below_set ?_ GE256.out | refine below_set ?_ GE257.out | refine below_set ?_ GE258.out | refine below_set ?_ GE263.out) | exact HB.out)) hb); clear BK256; clear BK257; clear BK258; clear BK263; clear HB; have BK256 := n0_; have BK257 := n1_; have BK258 := n2_; have BK263 := n3_; have HB := n4_; clear n0_ n1_ n2_ n3_ n4_; (try clear hb); (try clear hb2); (try clear hk); (try clear hi); obtain ⟨hcz60_0, hcz60_1, hfz60_0, hfz60_1⟩ := blk_cells2 BK263.out) | ((with_reducible refine gate_callee (f := 69) rfl ?_); refine goesL_ (some 37) rfl rfl Try.func69 (by kernel_rfl) rfl #[.agg #[.int .i64 t260, .int .i64 t261]] rfl (by (try simp only [List.map_toArray, List.map_cons, List.map_nil]); first | done | rfl | (simp only [List.length_drop, List.length_take]; rfl)) ?_; (with_reducible refine (ratio_Time.calls kj20 t260 t261 t265 _ A37.out).mono ?_); rintro e w61 ⟨rfl, hb⟩; refine ⟨_, rfl, ?_⟩; have n0_ := Aside0.mk (blk_below (by (with_reducible repeat (first | apply b1 | apply b2 | apply b3)); exact BK256.out) hb); have n1_ := Aside0.mk (blk_below (by (with_reducible repeat (first | apply b1 | apply b2 | apply b3)); exact BK257.out) hb); have n2_ := Aside0.mk (blk_below (by (with_reducible repeat (first | apply b1 | apply b2 | apply b3)); exact BK258.out) hb); have n3_ := Aside0.mk (blk_below (by (with_reducible repeat (first | apply b1 | apply b2 | apply b3)); exact BK263.out) hb); have n4_ := Aside0.mk (below_step (by repeat (first | (with_reducible first | exact HB.out | apply l1 | apply l2 | apply l3 | refine below_set ?_ GE256.out | refine below_set ?_ GE257.out | refine below_set ?_ GE258.out | refine below_set ?_ GE263.out) | exact HB.out)) hb); clear BK256; clear BK257; clear BK258; clear BK263; clear HB; have BK256 := n0_; have BK257 := n1_; have BK258 := n2_; have BK263 := n3_; have HB := n4_; clear n0_ n1_ n2_ n3_ n4_; (try clear hb); (try clear hb2); (try clear hk); (try clear hi); have hnb62 := NB258_257.out; have hnc62 := NB257_258.out; obtain ⟨hcz63_0, hcz63_1, hfz63_0, hfz63_1⟩ := blk_cells2 BK258.out))
        refine bodyPost_ret (results_ct rfl _ _ gb258 32 #[.int .i64 0, .int .i64 0] (0, 0) _ rfl (by (with_reducible repeat (first | apply b1 | apply b2 | apply b3)); refine blk_put (cs := #[.int .i64 0, .int .i64 0]) ?_ 1 _ rfl; (with_reducible repeat (first | apply b1 | apply b2 | apply b3)); refine blk_put (cs := #[.int .i64 0, .int .i64 0]) ?_ 0 _ rfl; (with_reducible repeat (first | apply b1 | apply b2 | apply b3)); exact BK258.out) Try.underlying32 rfl (by kernel_rfl)) rfl ?_
        exact ⟨by first | rfl | (simp [errW_none, errW_some] <;> rfl) | (simp [*, errW_none, errW_some] <;> rfl), by repeat (first | (with_reducible first | exact HB.out | apply l1 | apply l2 | apply l3 | refine below_set ?_ GE256.out | refine below_set ?_ GE257.out | refine below_set ?_ GE258.out | refine below_set ?_ GE263.out) | exact HB.out)⟩
     ·rw [if_neg c23] at H
      have c23b0 : (x7_20 == 0) = false := beq_eq_false_iff_ne.mpr c23
      have c23b1 : (x7_20 != 0) = true := bne_iff_ne.mpr c23
      simp only [Option.some.injEq, Prod.mk.injEq] at H
      obtain ⟨rfl, rfl, rfl⟩ := H
      have hnb64 := NB258_256.out
      have hnc64 := NB256_258.out
      have hnb65 := NB258_257.out
      have hnc65 := NB257_258.out
      have hnb66 := NB258_263.out
      have hnc66 := NB263_258.out
      obtain ⟨hcz67_0, hcz67_1, hfz67_0, hfz67_1⟩ := blk_cells2 BK258.out
      go_wp2
      refine bodyPost_ret (results_ct rfl _ _ gb258 32 #[.int .i64 0, .int .i64 0] (0, 0) _ rfl (by (with_reducible repeat (first | apply b1 | apply b2 | apply b3)); refine blk_put (cs := #[.int .i64 0, .int .i64 0]) ?_ 1 _ rfl; (with_reducible repeat (first | apply b1 | apply b2 | apply b3)); refine blk_put (cs := #[.int .i64 0, .int .i64 0]) ?_ 0 _ rfl; (with_reducible repeat (first | apply b1 | apply b2 | apply b3)); exact BK258.out) Try.underlying32 rfl (by kernel_rfl)) rfl ?_
      exact ⟨by first | rfl | (simp [errW_none, errW_some] <;> rfl) | (simp [*, errW_none, errW_some] <;> rfl), by repeat (first | (with_reducible first | exact HB.out | apply l1 | apply l2 | apply l3 | refine below_set ?_ GE256.out | refine below_set ?_ GE257.out | refine below_set ?_ GE258.out | refine below_set ?_ GE263.out) | exact HB.out)⟩
def speed_Wants.f (k : Nat) (a0_0 : ByteArray) (l0_1 : List (S63)) (a1_0 : Int) (a1_1 : Int) (a1_2 : Int) (a1_3 : Int) (a1_4 : Int) (a1_5 : Int) : Option (Int × Int × Int) := (style_Check.f k a0_0 l0_1).bind fun t269 => (if t269 = 0 then ((speed_Rules_check.f k a1_0 a1_1 a1_2 a1_3 a1_4 a1_5).bind fun t270 => (if t270 = 0 then ((speed_Rules_wants.f k a1_0 a1_1 a1_2 a1_3 a1_4 a1_5 a0_0 l0_1).bind fun bt271 => (some (bt271.1, bt271.2.1, bt271.2.2))) else (some (0, 0, t270)))) else (some (0, 0, t269)))
set_option maxHeartbeats 8000000 in
set_option maxRecDepth 100000 in
theorem speed_Wants.calls (k : Nat) (a0_0 : ByteArray) (A0_1 : Option Addr) (c0_1 : Nat) (l0_1 : List (S63)) (a1_0 : Int) (a1_1 : Int) (a1_2 : Int) (a1_3 : Int) (a1_4 : Int) (a1_5 : Int) (r1 : Int) (r2 : Int) (r3 : Int) (w : World) (hr0_1 : Kd.C k63 w A0_1 l0_1.length l0_1) (hc0_1 : l0_1.length ≤ c0_1) (h : speed_Wants.f k a0_0 l0_1 a1_0 a1_1 a1_2 a1_3 a1_4 a1_5 = some (r1, r2, r3)) :
  Calls Try.prog 17 #[.agg #[.string a0_0, .slice A0_1 l0_1.length c0_1], .agg #[.int .i64 a1_0, .int .i64 a1_1, .int .i64 a1_2, .int .i64 a1_3, .int .i64 a1_4, .int .i64 a1_5]] w fun e w' => e = .returned (.tuple #[.agg #[.int .i64 r1, .int .i64 r2], .int .i64 r3]) ∧ Below w.heap.size w w' := by
 have hu26 := Try.underlying26
 have hu41 := Try.underlying41
 have hu32 := Try.underlying32
 have HR0_1 := Aside0.mk hr0_1
 have HC0_1 := Aside0.mk hc0_1
 clear hr0_1 hc0_1
 have HB := Aside0.mk (Below.refl w.heap.size w)
 have H : ((style_Check.f k a0_0 l0_1).bind fun t269 => (if t269 = 0 then ((speed_Rules_check.f k a1_0 a1_1 a1_2 a1_3 a1_4 a1_5).bind fun t270 => (if t270 = 0 then ((speed_Rules_wants.f k a1_0 a1_1 a1_2 a1_3 a1_4 a1_5 a0_0 l0_1).bind fun bt271 => (some (bt271.1, bt271.2.1, bt271.2.2))) else (some (0, 0, t270)))) else (some (0, 0, t269)))) = some (r1, r2, r3) := h
 clear h
 replace H := Option.bind_eq_some_iff.mp H
 obtain ⟨t269, A30, H⟩ := H
 (try dsimp only at H)
 have A3 := Aside0.mk A30
 clear A30
 by_cases c4 : t269 = 0
 ·rw [if_pos c4] at H
  have c4b0 : (t269 == 0) = true := beq_iff_eq.mpr c4
  have c4b1 : (t269 != 0) = false := bne_eq_false_iff_eq.mpr c4
  clear c4
  replace H := Option.bind_eq_some_iff.mp H
  obtain ⟨t270, A50, H⟩ := H
  (try dsimp only at H)
  have A5 := Aside0.mk A50
  clear A50
  by_cases c6 : t270 = 0
  ·rw [if_pos c6] at H
   have c6b0 : (t270 == 0) = true := beq_iff_eq.mpr c6
   have c6b1 : (t270 != 0) = false := bne_eq_false_iff_eq.mpr c6
   clear c6
   replace H := Option.bind_eq_some_iff.mp H
   obtain ⟨⟨t271, t272, t273⟩, A70, H⟩ := H
   (try dsimp only at H)
   have A7 := Aside0.mk A70
   clear A70
   simp only [Option.some.injEq, Prod.mk.injEq] at H
   obtain ⟨rfl, rfl, rfl⟩ := H
   go_enter Try.func17, Try.ntmps17
   go_wp2_with (first | ((with_reducible refine gate_dst (N := 2) rfl ?_); refine box_event (by rfl) (N := 2) (by rfl) (cs := #[.string a0_0, .slice A0_1 l0_1.length c0_1]) (t := 26) (by first | (go_simp; done) | (go_simp; rfl)) ?_; intro gb266 hg w8 hbox hb; obtain ⟨hb_, hw_⟩ := box_facts (by repeat (first | (with_reducible first | exact HB.out | apply l1 | apply l2 | apply l3) | exact HB.out)) hg hb; have n0_ := Aside0.mk (hb_); have n1_ := Aside0.mk (hbox); have n2_ := Aside0.mk (hw_); have n3_ := Aside0.mk (hw_); clear HB; have HB := n0_; have BK266 := n1_; have GW266 := n2_; have GE266 := n3_; clear n0_ n1_ n2_ n3_; clear hb hbox hg hb_ hw_) | ((with_reducible refine gate_dst (N := 3) rfl ?_); refine box_event (by rfl) (N := 3) (by rfl) (cs := #[.int .i64 a1_0, .int .i64 a1_1, .int .i64 a1_2, .int .i64 a1_3, .int .i64 a1_4, .int .i64 a1_5]) (t := 41) (by first | (go_simp; done) | (go_simp; rfl)) ?_; intro gb267 hg w9 hbox hb; obtain ⟨hb_, hw_⟩ := box_facts (by repeat (first | (with_reducible first | exact HB.out | apply l1 | apply l2 | apply l3 | refine below_set ?_ GE266.out) | exact HB.out)) hg hb; have n0_ := Aside0.mk (blk_below (by (with_reducible repeat (first | apply b1 | apply b2 | apply b3)); exact BK266.out) hb); have n1_ := Aside0.mk (hb_); have n2_ := Aside0.mk (hbox); have n3_ := Aside0.mk (hw_); have n4_ := Aside0.mk (hw_); have n5_ := Aside0.mk ((by rw [hg]; exact Nat.ne_of_lt (blk_lt (by (with_reducible repeat (first | apply b1 | apply b2 | apply b3)); exact BK266.out)) : gb266 ≠ gb267)); have n6_ := Aside0.mk ((by rw [hg]; exact Nat.ne_of_gt (blk_lt (by (with_reducible repeat (first | apply b1 | apply b2 | apply b3)); exact BK266.out)) : gb267 ≠ gb266)); clear BK266; clear HB; have BK266 := n0_; have HB := n1_; have BK267 := n2_; have GW267 := n3_; have GE267 := n4_; have NB266_267 := n5_; have NB267_266 := n6_; clear n0_ n1_ n2_ n3_ n4_ n5_ n6_; clear hb hbox hg hb_ hw_) | ((with_reducible refine gate_dst (N := 4) rfl ?_); refine box_event (by rfl) (N := 4) (by rfl) (cs := #[.int .i64 0, .int .i64 0]) (t := 32) (by first | (go_simp; done) | (go_simp; rfl)) ?_; intro gb268 hg w10 hbox hb; obtain ⟨hb_, hw_⟩ := box_facts (by repeat (first | (with_reducible first | exact HB.out | apply l1 | apply l2 | apply l3 | refine below_set ?_ GE266.out | refine below_set ?_ GE267.out) | exact HB.out)) hg hb; have n0_ := Aside0.mk (blk_below (by (with_reducible repeat (first | apply b1 | apply b2 | apply b3)); exact BK266.out) hb); have n1_ := Aside0.mk (blk_below (by (with_reducible repeat (first | apply b1 | apply b2 | apply b3)); exact BK267.out) hb); have n2_ := Aside0.mk (hb_); have n3_ := Aside0.mk (hbox); have n4_ := Aside0.mk (hw_); have n5_ := Aside0.mk (hw_); have n6_ := Aside0.mk ((by rw [hg]; exact Nat.ne_of_lt (blk_lt (by (with_reducible repeat (first | apply b1 | apply b2 | apply b3)); exact BK266.out)) : gb266 ≠ gb268)); have n7_ := Aside0.mk ((by rw [hg]; exact Nat.ne_of_gt (blk_lt (by (with_reducible repeat (first | apply b1 | apply b2 | apply b3)); exact BK266.out)) : gb268 ≠ gb266)); have n8_ := Aside0.mk ((by rw [hg]; exact Nat.ne_of_lt (blk_lt (by (with_reducible repeat (first | apply b1 | apply b2 | apply b3)); exact BK267.out)) : gb267 ≠ gb268)); have n9_ := Aside0.mk ((by rw [hg]; exact Nat.ne_of_gt (blk_lt (by (with_reducible repeat (first | apply b1 | apply b2 | apply b3)); exact BK267.out)) : gb268 ≠ gb267)); clear BK266; clear BK267; clear HB; have BK266 := n0_; have BK267 := n1_; have HB := n2_; have BK268 := n3_; have GW268 := n4_; have GE268 := n5_; have NB266_268 := n6_; have NB268_266 := n7_; have NB267_268 := n8_; have NB268_267 := n9_; clear n0_ n1_ n2_ n3_ n4_ n5_ n6_ n7_ n8_ n9_; clear hb hbox hg hb_ hw_; have hnb11 := NB266_267.out; have hnc11 := NB267_266.out; have hnb12 := NB266_268.out; have hnc12 := NB268_266.out; obtain ⟨hcz13_0, hcz13_1, hfz13_0, hfz13_1⟩ := blk_cells2 BK266.out) | ((with_reducible refine gate_callee (f := 36) rfl ?_); refine goesL_ (some 9) rfl rfl Try.func36 (by kernel_rfl) rfl #[.agg #[.string a0_0, .slice A0_1 l0_1.length c0_1]] rfl (by (try simp only [List.map_toArray, List.map_cons, List.map_nil]); first | done | rfl | (simp only [List.length_drop, List.length_take]; rfl)) ?_; (with_reducible refine (style_Check.calls k a0_0 _ _ l0_1 t269 _ ?side1 ?side2 A3.out).mono ?_); (case side1 => repeat (first | exact (Kd.C_below HR0_1.out HB.out) | (with_reducible refine Kd.C_alloc ?_ _) | (with_reducible refine Kd.C_drewN ?_ _) | (with_reducible refine Kd.C_drew ?_))); (case side2 => exact HC0_1.out); rintro e w14 ⟨rfl, hb⟩; refine ⟨_, rfl, ?_⟩; have n0_ := Aside0.mk (blk_below (by (with_reducible repeat (first | apply b1 | apply b2 | apply b3)); exact BK266.out) hb); have n1_ := Aside0.mk (blk_below (by (with_reducible repeat (first | apply b1 | apply b2 | apply b3)); exact BK267.out) hb); have n2_ := Aside0.mk (blk_below (by (with_reducible repeat (first | apply b1 | apply b2 | apply b3)); exact BK268.out) hb); have n3_ := Aside0.mk (below_step (by repeat (first | (with_reducible first | exact HB.out | apply l1 | apply l2 | apply l3 | refine below_set ?_ GE266.out | refine below_set ?_ GE267.out | refine below_set ?_ GE268.out) | exact HB.out)) hb); clear BK266; clear BK267; clear BK268; clear HB; have BK266 := n0_; have BK267 := n1_; have BK268 := n2_; have HB := n3_; clear n0_ n1_ n2_ n3_; (try clear hb); (try clear hb2); (try clear hk); (try clear hi); have hnb15 := NB267_268.out; have hnc15 := NB268_267.out; obtain ⟨hcz16_0, hcz16_1, hcz16_2, hcz16_3, hcz16_4, hcz16_5, hfz16_0, hfz16_1, hfz16_2, hfz16_3, hfz16_4, hfz16_5⟩ := blk_cells6 BK267.out) | ((with_reducible refine gate_callee (f := 37) rfl ?_); refine goesL_ (some 15) rfl rfl Try.func37 (by kernel_rfl) rfl #[.agg #[.int .i64 a1_0, .int .i64 a1_1, .int .i64 a1_2, .int .i64 a1_3, .int .i64 a1_4, .int .i64 a1_5]] rfl (by (try simp only [List.map_toArray, List.map_cons, List.map_nil]); first | done | rfl | (simp only [List.length_drop, List.length_take]; rfl)) ?_; (with_reducible refine (speed_Rules_check.calls k a1_0 a1_1 a1_2 a1_3 a1_4 a1_5 t270 _ A5.out).mono ?_); rintro e w17 ⟨rfl, hb⟩; refine ⟨_, rfl, ?_⟩; have n0_ := Aside0.mk (blk_below (by (with_reducible repeat (first | apply b1 | apply b2 | apply b3)); exact BK266.out) hb); have n1_ := Aside0.mk (blk_below (by (with_reducible repeat (first | apply b1 | apply b2 | apply b3)); exact BK267.out) hb); have n2_ := Aside0.mk (blk_below (by (with_reducible repeat (first | apply b1 | apply b2 | apply b3)); exact BK268.out) hb); have n3_ := Aside0.mk (below_step (by repeat (first | (with_reducible first | exact HB.out | apply l1 | apply l2 | apply l3 | refine below_set ?_ GE266.out | refine below_set ?_ GE267.out | refine below_set ?_ GE268.out) | exact HB.out)) hb); clear BK266; clear BK267; clear BK268; clear HB; have BK266 := n0_; have BK267 := n1_; have BK268 := n2_; have HB := n3_; clear n0_ n1_ n2_ n3_; (try clear hb); (try clear hb2); (try clear hk); (try clear hi); obtain ⟨hcz18_0, hcz18_1, hcz18_2, hcz18_3, hcz18_4, hcz18_5, hfz18_0, hfz18_1, hfz18_2, hfz18_3, hfz18_4, hfz18_5⟩ := blk_cells6 BK267.out; obtain ⟨hcz19_0, hcz19_1, hfz19_0, hfz19_1⟩ := blk_cells2 BK266.out) | ((with_reducible refine gate_callee (f := 38) rfl ?_); refine goesL_ (some 22) rfl rfl Try.func38 (by kernel_rfl) rfl #[.agg #[.int .i64 a1_0, .int .i64 a1_1, .int .i64 a1_2, .int .i64 a1_3, .int .i64 a1_4, .int .i64 a1_5], .agg #[.string a0_0, .slice A0_1 l0_1.length c0_1]] rfl (by (try simp only [List.map_toArray, List.map_cons, List.map_nil]); first | done | rfl | (simp only [List.length_drop, List.length_take]; rfl)) ?_; (with_reducible refine (speed_Rules_wants.calls k a1_0 a1_1 a1_2 a1_3 a1_4 a1_5 a0_0 _ _ l0_1 t271 t272 t273 _ ?side1 ?side2 A7.out).mono ?_); (case side1 => repeat (first | exact (Kd.C_below HR0_1.out HB.out) | (with_reducible refine Kd.C_alloc ?_ _) | (with_reducible refine Kd.C_drewN ?_ _) | (with_reducible refine Kd.C_drew ?_))); (case side2 => exact HC0_1.out); rintro e w20 ⟨rfl, hb⟩; refine ⟨_, rfl, ?_⟩; have n0_ := Aside0.mk (blk_below (by (with_reducible repeat (first | apply b1 | apply b2 | apply b3)); exact BK266.out) hb); have n1_ := Aside0.mk (blk_below (by (with_reducible repeat (first | apply b1 | apply b2 | apply b3)); exact BK267.out) hb); have n2_ := Aside0.mk (blk_below (by (with_reducible repeat (first | apply b1 | apply b2 | apply b3)); exact BK268.out) hb); have n3_ := Aside0.mk (below_step (by repeat (first | (with_reducible first | exact HB.out | apply l1 | apply l2 | apply l3 | refine below_set ?_ GE266.out | refine below_set ?_ GE267.out | refine below_set ?_ GE268.out) | exact HB.out)) hb); clear BK266; clear BK267; clear BK268; clear HB; have BK266 := n0_; have BK267 := n1_; have BK268 := n2_; have HB := n3_; clear n0_ n1_ n2_ n3_; (try clear hb); (try clear hb2); (try clear hk); (try clear hi); obtain ⟨hcz21_0, hcz21_1, hfz21_0, hfz21_1⟩ := blk_cells2 BK268.out))
   refine bodyPost_ret (results_ct rfl _ _ gb268 32 #[.int .i64 t271, .int .i64 t272] (0, 0) _ rfl (by (with_reducible repeat (first | apply b1 | apply b2 | apply b3)); refine blk_put (cs := #[.int .i64 t271, .int .i64 0]) ?_ 1 _ rfl; (with_reducible repeat (first | apply b1 | apply b2 | apply b3)); refine blk_put (cs := #[.int .i64 0, .int .i64 0]) ?_ 0 _ rfl; (with_reducible repeat (first | apply b1 | apply b2 | apply b3)); exact BK268.out) Try.underlying32 rfl (by kernel_rfl)) rfl ?_
   exact ⟨by first | rfl | (simp [errW_none, errW_some] <;> rfl) | (simp [*, errW_none, errW_some] <;> rfl), by repeat (first | (with_reducible first | exact HB.out | apply l1 | apply l2 | apply l3 | refine below_set ?_ GE266.out | refine below_set ?_ GE267.out | refine below_set ?_ GE268.out) | exact HB.out)⟩
  ·rw [if_neg c6] at H
   have c6b0 : (t270 == 0) = false := beq_eq_false_iff_ne.mpr c6
   have c6b1 : (t270 != 0) = true := bne_iff_ne.mpr c6
   simp only [Option.some.injEq, Prod.mk.injEq] at H
   obtain ⟨rfl, rfl, rfl⟩ := H
   go_enter Try.func17, Try.ntmps17
   go_wp2_with (first | ((with_reducible refine gate_dst (N := 2) rfl ?_); refine box_event (by rfl) (N := 2) (by rfl) (cs := #[.string a0_0, .slice A0_1 l0_1.length c0_1]) (t := 26) (by first | (go_simp; done) | (go_simp; rfl)) ?_; intro gb266 hg w22 hbox hb; obtain ⟨hb_, hw_⟩ := box_facts (by repeat (first | (with_reducible first | exact HB.out | apply l1 | apply l2 | apply l3) | exact HB.out)) hg hb; have n0_ := Aside0.mk (hb_); have n1_ := Aside0.mk (hbox); have n2_ := Aside0.mk (hw_); have n3_ := Aside0.mk (hw_); clear HB; have HB := n0_; have BK266 := n1_; have GW266 := n2_; have GE266 := n3_; clear n0_ n1_ n2_ n3_; clear hb hbox hg hb_ hw_) | ((with_reducible refine gate_dst (N := 3) rfl ?_); refine box_event (by rfl) (N := 3) (by rfl) (cs := #[.int .i64 a1_0, .int .i64 a1_1, .int .i64 a1_2, .int .i64 a1_3, .int .i64 a1_4, .int .i64 a1_5]) (t := 41) (by first | (go_simp; done) | (go_simp; rfl)) ?_; intro gb267 hg w23 hbox hb; obtain ⟨hb_, hw_⟩ := box_facts (by repeat (first | (with_reducible first | exact HB.out | apply l1 | apply l2 | apply l3 | refine below_set ?_ GE266.out) | exact HB.out)) hg hb; have n0_ := Aside0.mk (blk_below (by (with_reducible repeat (first | apply b1 | apply b2 | apply b3)); exact BK266.out) hb); have n1_ := Aside0.mk (hb_); have n2_ := Aside0.mk (hbox); have n3_ := Aside0.mk (hw_); have n4_ := Aside0.mk (hw_); have n5_ := Aside0.mk ((by rw [hg]; exact Nat.ne_of_lt (blk_lt (by (with_reducible repeat (first | apply b1 | apply b2 | apply b3)); exact BK266.out)) : gb266 ≠ gb267)); have n6_ := Aside0.mk ((by rw [hg]; exact Nat.ne_of_gt (blk_lt (by (with_reducible repeat (first | apply b1 | apply b2 | apply b3)); exact BK266.out)) : gb267 ≠ gb266)); clear BK266; clear HB; have BK266 := n0_; have HB := n1_; have BK267 := n2_; have GW267 := n3_; have GE267 := n4_; have NB266_267 := n5_; have NB267_266 := n6_; clear n0_ n1_ n2_ n3_ n4_ n5_ n6_; clear hb hbox hg hb_ hw_) | ((with_reducible refine gate_dst (N := 4) rfl ?_); refine box_event (by rfl) (N := 4) (by rfl) (cs := #[.int .i64 0, .int .i64 0]) (t := 32) (by first | (go_simp; done) | (go_simp; rfl)) ?_; intro gb268 hg w24 hbox hb; obtain ⟨hb_, hw_⟩ := box_facts (by repeat (first | (with_reducible first | exact HB.out | apply l1 | apply l2 | apply l3 | refine below_set ?_ GE266.out | refine below_set ?_ GE267.out) | exact HB.out)) hg hb; have n0_ := Aside0.mk (blk_below (by (with_reducible repeat (first | apply b1 | apply b2 | apply b3)); exact BK266.out) hb); have n1_ := Aside0.mk (blk_below (by (with_reducible repeat (first | apply b1 | apply b2 | apply b3)); exact BK267.out) hb); have n2_ := Aside0.mk (hb_); have n3_ := Aside0.mk (hbox); have n4_ := Aside0.mk (hw_); have n5_ := Aside0.mk (hw_); have n6_ := Aside0.mk ((by rw [hg]; exact Nat.ne_of_lt (blk_lt (by (with_reducible repeat (first | apply b1 | apply b2 | apply b3)); exact BK266.out)) : gb266 ≠ gb268)); have n7_ := Aside0.mk ((by rw [hg]; exact Nat.ne_of_gt (blk_lt (by (with_reducible repeat (first | apply b1 | apply b2 | apply b3)); exact BK266.out)) : gb268 ≠ gb266)); have n8_ := Aside0.mk ((by rw [hg]; exact Nat.ne_of_lt (blk_lt (by (with_reducible repeat (first | apply b1 | apply b2 | apply b3)); exact BK267.out)) : gb267 ≠ gb268)); have n9_ := Aside0.mk ((by rw [hg]; exact Nat.ne_of_gt (blk_lt (by (with_reducible repeat (first | apply b1 | apply b2 | apply b3)); exact BK267.out)) : gb268 ≠ gb267)); clear BK266; clear BK267; clear HB; have BK266 := n0_; have BK267 := n1_; have HB := n2_; have BK268 := n3_; have GW268 := n4_; have GE268 := n5_; have NB266_268 := n6_; have NB268_266 := n7_; have NB267_268 := n8_; have NB268_267 := n9_; clear n0_ n1_ n2_ n3_ n4_ n5_ n6_ n7_ n8_ n9_; clear hb hbox hg hb_ hw_; have hnb25 := NB266_267.out; have hnc25 := NB267_266.out; have hnb26 := NB266_268.out; have hnc26 := NB268_266.out; obtain ⟨hcz27_0, hcz27_1, hfz27_0, hfz27_1⟩ := blk_cells2 BK266.out) | ((with_reducible refine gate_callee (f := 36) rfl ?_); refine goesL_ (some 9) rfl rfl Try.func36 (by kernel_rfl) rfl #[.agg #[.string a0_0, .slice A0_1 l0_1.length c0_1]] rfl (by (try simp only [List.map_toArray, List.map_cons, List.map_nil]); first | done | rfl | (simp only [List.length_drop, List.length_take]; rfl)) ?_; (with_reducible refine (style_Check.calls k a0_0 _ _ l0_1 t269 _ ?side1 ?side2 A3.out).mono ?_); (case side1 => repeat (first | exact (Kd.C_below HR0_1.out HB.out) | (with_reducible refine Kd.C_alloc ?_ _) | (with_reducible refine Kd.C_drewN ?_ _) | (with_reducible refine Kd.C_drew ?_))); (case side2 => exact HC0_1.out); rintro e w28 ⟨rfl, hb⟩; refine ⟨_, rfl, ?_⟩; have n0_ := Aside0.mk (blk_below (by (with_reducible repeat (first | apply b1 | apply b2 | apply b3)); exact BK266.out) hb); have n1_ := Aside0.mk (blk_below (by (with_reducible repeat (first | apply b1 | apply b2 | apply b3)); exact BK267.out) hb); have n2_ := Aside0.mk (blk_below (by (with_reducible repeat (first | apply b1 | apply b2 | apply b3)); exact BK268.out) hb); have n3_ := Aside0.mk (below_step (by repeat (first | (with_reducible first | exact HB.out | apply l1 | apply l2 | apply l3 | refine below_set ?_ GE266.out | refine below_set ?_ GE267.out | refine below_set ?_ GE268.out) | exact HB.out)) hb); clear BK266; clear BK267; clear BK268; clear HB; have BK266 := n0_; have BK267 := n1_; have BK268 := n2_; have HB := n3_; clear n0_ n1_ n2_ n3_; (try clear hb); (try clear hb2); (try clear hk); (try clear hi); have hnb29 := NB267_268.out; have hnc29 := NB268_267.out; obtain ⟨hcz30_0, hcz30_1, hcz30_2, hcz30_3, hcz30_4, hcz30_5, hfz30_0, hfz30_1, hfz30_2, hfz30_3, hfz30_4, hfz30_5⟩ := blk_cells6 BK267.out) | ((with_reducible refine gate_callee (f := 37) rfl ?_); refine goesL_ (some 15) rfl rfl Try.func37 (by kernel_rfl) rfl #[.agg #[.int .i64 a1_0, .int .i64 a1_1, .int .i64 a1_2, .int .i64 a1_3, .int .i64 a1_4, .int .i64 a1_5]] rfl (by (try simp only [List.map_toArray, List.map_cons, List.map_nil]); first | done | rfl | (simp only [List.length_drop, List.length_take]; rfl)) ?_; (with_reducible refine (speed_Rules_check.calls k a1_0 a1_1 a1_2 a1_3 a1_4 a1_5 t270 _ A5.out).mono ?_); rintro e w31 ⟨rfl, hb⟩; refine ⟨_, rfl, ?_⟩; have n0_ := Aside0.mk (blk_below (by (with_reducible repeat (first | apply b1 | apply b2 | apply b3)); exact BK266.out) hb); have n1_ := Aside0.mk (blk_below (by (with_reducible repeat (first | apply b1 | apply b2 | apply b3)); exact BK267.out) hb); have n2_ := Aside0.mk (blk_below (by (with_reducible repeat (first | apply b1 | apply b2 | apply b3)); exact BK268.out) hb); have n3_ := Aside0.mk (below_step (by repeat (first | (with_reducible first | exact HB.out | apply l1 | apply l2 | apply l3 | refine below_set ?_ GE266.out | refine below_set ?_ GE267.out | refine below_set ?_ GE268.out) | exact HB.out)) hb); clear BK266; clear BK267; clear BK268; clear HB; have BK266 := n0_; have BK267 := n1_; have BK268 := n2_; have HB := n3_; clear n0_ n1_ n2_ n3_; (try clear hb); (try clear hb2); (try clear hk); (try clear hi); obtain ⟨hcz32_0, hcz32_1, hfz32_0, hfz32_1⟩ := blk_cells2 BK268.out))
   refine bodyPost_ret (results_ct rfl _ _ gb268 32 #[.int .i64 0, .int .i64 0] (0, 0) _ rfl (by (with_reducible repeat (first | apply b1 | apply b2 | apply b3)); refine blk_put (cs := #[.int .i64 0, .int .i64 0]) ?_ 1 _ rfl; (with_reducible repeat (first | apply b1 | apply b2 | apply b3)); refine blk_put (cs := #[.int .i64 0, .int .i64 0]) ?_ 0 _ rfl; (with_reducible repeat (first | apply b1 | apply b2 | apply b3)); exact BK268.out) Try.underlying32 rfl (by kernel_rfl)) rfl ?_
   exact ⟨by first | rfl | (simp [errW_none, errW_some] <;> rfl) | (simp [*, errW_none, errW_some] <;> rfl), by repeat (first | (with_reducible first | exact HB.out | apply l1 | apply l2 | apply l3 | refine below_set ?_ GE266.out | refine below_set ?_ GE267.out | refine below_set ?_ GE268.out) | exact HB.out)⟩
 ·rw [if_neg c4] at H
  have c4b0 : (t269 == 0) = false := beq_eq_false_iff_ne.mpr c4
  have c4b1 : (t269 != 0) = true := bne_iff_ne.mpr c4
  simp only [Option.some.injEq, Prod.mk.injEq] at H
  obtain ⟨rfl, rfl, rfl⟩ := H
  go_enter Try.func17, Try.ntmps17
  go_wp2_with (first | ((with_reducible refine gate_dst (N := 2) rfl ?_); refine box_event (by rfl) (N := 2) (by rfl) (cs := #[.string a0_0, .slice A0_1 l0_1.length c0_1]) (t := 26) (by first | (go_simp; done) | (go_simp; rfl)) ?_; intro gb266 hg w33 hbox hb; obtain ⟨hb_, hw_⟩ := box_facts (by repeat (first | (with_reducible first | exact HB.out | apply l1 | apply l2 | apply l3) | exact HB.out)) hg hb; have n0_ := Aside0.mk (hb_); have n1_ := Aside0.mk (hbox); have n2_ := Aside0.mk (hw_); have n3_ := Aside0.mk (hw_); clear HB; have HB := n0_; have BK266 := n1_; have GW266 := n2_; have GE266 := n3_; clear n0_ n1_ n2_ n3_; clear hb hbox hg hb_ hw_) | ((with_reducible refine gate_dst (N := 3) rfl ?_); refine box_event (by rfl) (N := 3) (by rfl) (cs := #[.int .i64 a1_0, .int .i64 a1_1, .int .i64 a1_2, .int .i64 a1_3, .int .i64 a1_4, .int .i64 a1_5]) (t := 41) (by first | (go_simp; done) | (go_simp; rfl)) ?_; intro gb267 hg w34 hbox hb; obtain ⟨hb_, hw_⟩ := box_facts (by repeat (first | (with_reducible first | exact HB.out | apply l1 | apply l2 | apply l3 | refine below_set ?_ GE266.out) | exact HB.out)) hg hb; have n0_ := Aside0.mk (blk_below (by (with_reducible repeat (first | apply b1 | apply b2 | apply b3)); exact BK266.out) hb); have n1_ := Aside0.mk (hb_); have n2_ := Aside0.mk (hbox); have n3_ := Aside0.mk (hw_); have n4_ := Aside0.mk (hw_); have n5_ := Aside0.mk ((by rw [hg]; exact Nat.ne_of_lt (blk_lt (by (with_reducible repeat (first | apply b1 | apply b2 | apply b3)); exact BK266.out)) : gb266 ≠ gb267)); have n6_ := Aside0.mk ((by rw [hg]; exact Nat.ne_of_gt (blk_lt (by (with_reducible repeat (first | apply b1 | apply b2 | apply b3)); exact BK266.out)) : gb267 ≠ gb266)); clear BK266; clear HB; have BK266 := n0_; have HB := n1_; have BK267 := n2_; have GW267 := n3_; have GE267 := n4_; have NB266_267 := n5_; have NB267_266 := n6_; clear n0_ n1_ n2_ n3_ n4_ n5_ n6_; clear hb hbox hg hb_ hw_) | ((with_reducible refine gate_dst (N := 4) rfl ?_); refine box_event (by rfl) (N := 4) (by rfl) (cs := #[.int .i64 0, .int .i64 0]) (t := 32) (by first | (go_simp; done) | (go_simp; rfl)) ?_; intro gb268 hg w35 hbox hb; obtain ⟨hb_, hw_⟩ := box_facts (by repeat (first | (with_reducible first | exact HB.out | apply l1 | apply l2 | apply l3 | refine below_set ?_ GE266.out | refine below_set ?_ GE267.out) | exact HB.out)) hg hb; have n0_ := Aside0.mk (blk_below (by (with_reducible repeat (first | apply b1 | apply b2 | apply b3)); exact BK266.out) hb); have n1_ := Aside0.mk (blk_below (by (with_reducible repeat (first | apply b1 | apply b2 | apply b3)); exact BK267.out) hb); have n2_ := Aside0.mk (hb_); have n3_ := Aside0.mk (hbox); have n4_ := Aside0.mk (hw_); have n5_ := Aside0.mk (hw_); have n6_ := Aside0.mk ((by rw [hg]; exact Nat.ne_of_lt (blk_lt (by (with_reducible repeat (first | apply b1 | apply b2 | apply b3)); exact BK266.out)) : gb266 ≠ gb268)); have n7_ := Aside0.mk ((by rw [hg]; exact Nat.ne_of_gt (blk_lt (by (with_reducible repeat (first | apply b1 | apply b2 | apply b3)); exact BK266.out)) : gb268 ≠ gb266)); have n8_ := Aside0.mk ((by rw [hg]; exact Nat.ne_of_lt (blk_lt (by (with_reducible repeat (first | apply b1 | apply b2 | apply b3)); exact BK267.out)) : gb267 ≠ gb268)); have n9_ := Aside0.mk ((by rw [hg]; exact Nat.ne_of_gt (blk_lt (by (with_reducible repeat (first | apply b1 | apply b2 | apply b3)); exact BK267.out)) : gb268 ≠ gb267)); clear BK266; clear BK267; clear HB; have BK266 := n0_; have BK267 := n1_; have HB := n2_; have BK268 := n3_; have GW268 := n4_; have GE268 := n5_; have NB266_268 := n6_; have NB268_266 := n7_; have NB267_268 := n8_; have NB268_267 := n9_; clear n0_ n1_ n2_ n3_ n4_ n5_ n6_ n7_ n8_ n9_; clear hb hbox hg hb_ hw_; have hnb36 := NB266_267.out; have hnc36 := NB267_266.out; have hnb37 := NB266_268.out; have hnc37 := NB268_266.out; obtain ⟨hcz38_0, hcz38_1, hfz38_0, hfz38_1⟩ := blk_cells2 BK266.out) | ((with_reducible refine gate_callee (f := 36) rfl ?_); refine goesL_ (some 9) rfl rfl Try.func36 (by kernel_rfl) rfl #[.agg #[.string a0_0, .slice A0_1 l0_1.length c0_1]] rfl (by (try simp only [List.map_toArray, List.map_cons, List.map_nil]); first | done | rfl | (simp only [List.length_drop, List.length_take]; rfl)) ?_; (with_reducible refine (style_Check.calls k a0_0 _ _ l0_1 t269 _ ?side1 ?side2 A3.out).mono ?_); (case side1 => repeat (first | exact (Kd.C_below HR0_1.out HB.out) | (with_reducible refine Kd.C_alloc ?_ _) | (with_reducible refine Kd.C_drewN ?_ _) | (with_reducible refine Kd.C_drew ?_))); (case side2 => exact HC0_1.out); rintro e w39 ⟨rfl, hb⟩; refine ⟨_, rfl, ?_⟩; have n0_ := Aside0.mk (blk_below (by (with_reducible repeat (first | apply b1 | apply b2 | apply b3)); exact BK266.out) hb); have n1_ := Aside0.mk (blk_below (by (with_reducible repeat (first | apply b1 | apply b2 | apply b3)); exact BK267.out) hb); have n2_ := Aside0.mk (blk_below (by (with_reducible repeat (first | apply b1 | apply b2 | apply b3)); exact BK268.out) hb); have n3_ := Aside0.mk (below_step (by repeat (first | (with_reducible first | exact HB.out | apply l1 | apply l2 | apply l3 | refine below_set ?_ GE266.out | refine below_set ?_ GE267.out | refine below_set ?_ GE268.out) | exact HB.out)) hb); clear BK266; clear BK267; clear BK268; clear HB; have BK266 := n0_; have BK267 := n1_; have BK268 := n2_; have HB := n3_; clear n0_ n1_ n2_ n3_; (try clear hb); (try clear hb2); (try clear hk); (try clear hi); have hnb40 := NB268_267.out; have hnc40 := NB267_268.out; obtain ⟨hcz41_0, hcz41_1, hfz41_0, hfz41_1⟩ := blk_cells2 BK268.out))
  refine bodyPost_ret (results_ct rfl _ _ gb268 32 #[.int .i64 0, .int .i64 0] (0, 0) _ rfl (by (with_reducible repeat (first | apply b1 | apply b2 | apply b3)); refine blk_put (cs := #[.int .i64 0, .int .i64 0]) ?_ 1 _ rfl; (with_reducible repeat (first | apply b1 | apply b2 | apply b3)); refine blk_put (cs := #[.int .i64 0, .int .i64 0]) ?_ 0 _ rfl; (with_reducible repeat (first | apply b1 | apply b2 | apply b3)); exact BK268.out) Try.underlying32 rfl (by kernel_rfl)) rfl ?_
  exact ⟨by first | rfl | (simp [errW_none, errW_some] <;> rfl) | (simp [*, errW_none, errW_some] <;> rfl), by repeat (first | (with_reducible first | exact HB.out | apply l1 | apply l2 | apply l3 | refine below_set ?_ GE266.out | refine below_set ?_ GE267.out | refine below_set ?_ GE268.out) | exact HB.out)⟩
end Go.Proofs.Ythgifhnfbblklaa.PSp
