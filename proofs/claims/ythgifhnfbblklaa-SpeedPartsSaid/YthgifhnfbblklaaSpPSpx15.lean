-- Written by programs of this session's (wip/printer) out of the translation and of the print's words; Lean checks it.
import Derived.Test.YthgifhnfbblklaaSpPSpx0
import Derived.Test.YthgifhnfbblklaaSpPSpx1
import Derived.Test.YthgifhnfbblklaaSpPSpx6
import Derived.Test.YthgifhnfbblklaaSpPSpx13
import Derived.Test.YthgifhnfbblklaaSpPSpx14
namespace Go.Proofs.Ythgifhnfbblklaa.PSp
open Go.RowKit Go.Proofs.YthgifhnfbblklaaW.PrintWords Go.Proofs.YthgifhnfbblklaaW.PrintLast Go.Proofs.YthgifhnfbblklaaW.PrintMore
attribute [local go_sem] max2_int min2_int max_two min_two max_three min_three max_four min_four   -- for this text's walks alone
set_option linter.unusedVariables false
set_option linter.unusedSimpArgs false
attribute [local go_sem high] eqA32
def surtitlelaw11_known.f (k : Nat)  : Option (Bool) := (surtitlelaw11_whole.f 10).bind fun bt276 => ((surtitlelaw11_whole.f 0).bind fun bt278 => ((speed_Wants.f k (⟨#[97, 32, 98, 204, 129, 228, 184, 173, 255]⟩ : ByteArray) ([] : List (S63)) bt276.1 bt276.2 1 5 bt278.1 bt278.2).bind fun bt280 => ((speed_Count.f k (⟨#[97, 32, 98, 204, 129, 228, 184, 173, 255]⟩ : ByteArray) ([] : List (S63))).bind fun t284 => (if t284 = 4 then (if bt280.2.2 = 0 then (some (bt280.1 == 2 && (bt280.2.1 == 5))) else (some false)) else (some false)))))
def surtitlelaw11_known.T2 : Bool × List (List Nat × List Nat) := (true, [([], []), ([], []), ([], []), ([1], []), ([1, 2, 3], [1, 2, 3]), ([0, 4, 3], [0, 4]), ([5], [5]), ([6], [6]), ([6], [6]), ([], []), ([9, 7, 5, 0, 1, 2, 3, 4, 5, 6, 7, 9], [7, 9]), ([8, 10, 0, 1, 2, 3, 4, 5, 6, 7, 8, 9, 10], [8])])
def surtitlelaw11_known.B2 : List Nat := [0, 0, 0, 2, 14, 31, 63, 127, 127, 0, 767, 2047]
theorem surtitlelaw11_known.tab2 : rtab .any (opsOf Try.f8 2) = surtitlelaw11_known.T2 := by kernel_rfl
theorem surtitlelaw11_known.bits2 : waitsOk surtitlelaw11_known.T2.2 surtitlelaw11_known.B2 = true := by kernel_rfl
set_option maxHeartbeats 8000000 in
set_option maxRecDepth 100000 in
theorem surtitlelaw11_known.calls (k : Nat)  (r : Bool) (w : World) (h : surtitlelaw11_known.f k  = some r) :
  Calls Try.prog 8 #[] w fun e w' => e = .returned (.bool r) ∧ Below w.heap.size w w' := by
 have hu26 := Try.underlying26
 have hu32 := Try.underlying32
 have hu41 := Try.underlying41
 have HB := Aside0.mk (Below.refl w.heap.size w)
 have H : ((surtitlelaw11_whole.f 10).bind fun bt276 => ((surtitlelaw11_whole.f 0).bind fun bt278 => ((speed_Wants.f k (⟨#[97, 32, 98, 204, 129, 228, 184, 173, 255]⟩ : ByteArray) ([] : List (S63)) bt276.1 bt276.2 1 5 bt278.1 bt278.2).bind fun bt280 => ((speed_Count.f k (⟨#[97, 32, 98, 204, 129, 228, 184, 173, 255]⟩ : ByteArray) ([] : List (S63))).bind fun t284 => (if t284 = 4 then (if bt280.2.2 = 0 then (some (bt280.1 == 2 && (bt280.2.1 == 5))) else (some false)) else (some false)))))) = some r := h
 clear h
 replace H := Option.bind_eq_some_iff.mp H
 obtain ⟨⟨t276, t277⟩, A10, H⟩ := H
 (try dsimp only at H)
 have A1 := Aside0.mk A10
 clear A10
 replace H := Option.bind_eq_some_iff.mp H
 obtain ⟨⟨t278, t279⟩, A20, H⟩ := H
 (try dsimp only at H)
 have A2 := Aside0.mk A20
 clear A20
 replace H := Option.bind_eq_some_iff.mp H
 obtain ⟨⟨t280, t281, t282⟩, A30, H⟩ := H
 (try dsimp only at H)
 have A3 := Aside0.mk A30
 clear A30
 replace H := Option.bind_eq_some_iff.mp H
 obtain ⟨t284, A40, H⟩ := H
 (try dsimp only at H)
 have A4 := Aside0.mk A40
 clear A40
 by_cases c5 : t284 = 4
 ·rw [if_pos c5] at H
  have c5b0 : (t284 == 4) = true := beq_iff_eq.mpr c5
  have c5b1 : (t284 != 4) = false := bne_eq_false_iff_eq.mpr c5
  clear c5
  by_cases c6 : t282 = 0
  ·rw [if_pos c6] at H
   have c6b0 : (t282 == 0) = true := beq_iff_eq.mpr c6
   have c6b1 : (t282 != 0) = false := bne_eq_false_iff_eq.mpr c6
   clear c6
   obtain rfl := Option.some.inj H
   go_enter Try.func8, Try.ntmps8
   try go_wp2_with (first | ((with_reducible refine gate_dst (N := 1) rfl ?_); refine box_event (by rfl) (N := 1) (by rfl) (cs := #[.string (⟨#[]⟩ : ByteArray), .slice none 0 0]) (t := 26) (by first | (go_simp; done) | (go_simp; rfl)) ?_; intro gb275 hg w7 hbox hb; obtain ⟨hb_, hw_⟩ := box_facts (by repeat (first | (with_reducible first | exact HB.out | apply l1 | apply l2 | apply l3) | exact HB.out)) hg hb; have n0_ := Aside0.mk (hb_); have n1_ := Aside0.mk (hbox); have n2_ := Aside0.mk (hw_); have n3_ := Aside0.mk (hw_); clear HB; have HB := n0_; have BK275 := n1_; have GW275 := n2_; have GE275 := n3_; clear n0_ n1_ n2_ n3_; clear hb hbox hg hb_ hw_; obtain ⟨hcz8_0, hcz8_1, hfz8_0, hfz8_1⟩ := blk_cells2 BK275.out))
   have n0_ : Aside0 (((w7.setCell ⟨gb275, 0, none⟩ (.string (⟨#[97, 32, 98, 204, 129, 228, 184, 173, 255]⟩ : ByteArray))).setCell ⟨gb275, 1, none⟩ (.slice none 0 0)).heap[gb275]? = some (.cells #[.string (⟨#[97, 32, 98, 204, 129, 228, 184, 173, 255]⟩ : ByteArray), .slice none 0 0] 26 (0, 0))) := ⟨by (with_reducible repeat (first | apply b1 | apply b2 | apply b3)); refine blk_put (cs := #[.string (⟨#[97, 32, 98, 204, 129, 228, 184, 173, 255]⟩ : ByteArray), .slice none 0 0]) ?_ 1 _ rfl; (with_reducible repeat (first | apply b1 | apply b2 | apply b3)); refine blk_put (cs := #[.string (⟨#[]⟩ : ByteArray), .slice none 0 0]) ?_ 0 _ rfl; (with_reducible repeat (first | apply b1 | apply b2 | apply b3)); exact BK275.out⟩
   have n1_ : Aside0 (Below w.heap.size w ((w7.setCell ⟨gb275, 0, none⟩ (.string (⟨#[97, 32, 98, 204, 129, 228, 184, 173, 255]⟩ : ByteArray))).setCell ⟨gb275, 1, none⟩ (.slice none 0 0))) := ⟨by repeat (first | (with_reducible first | exact HB.out | apply l1 | apply l2 | apply l3 | refine below_set ?_ GE275.out) | exact HB.out)⟩
   (try clear BK275)
   (try clear HB)
   generalize ((w7.setCell ⟨gb275, 0, none⟩ (.string (⟨#[97, 32, 98, 204, 129, 228, 184, 173, 255]⟩ : ByteArray))).setCell ⟨gb275, 1, none⟩ (.slice none 0 0)) = w9 at n0_ n1_ ⊢
   have BK275 := n0_
   have HB := n1_
   clear n0_ n1_
   have n0_ := Aside0.mk (blk_drew BK275.out)
   have n1_ := Aside0.mk (below_drew1 HB.out)
   clear BK275
   clear HB
   have BK275 := n0_
   have HB := n1_
   clear n0_ n1_
   refine start_ (n := 12) (S := fun w' => w'.cell? ⟨gb275, 0, none⟩ = some (.string (⟨#[97, 32, 98, 204, 129, 228, 184, 173, 255]⟩ : ByteArray)) ∧ w'.cell? ⟨gb275, 1, none⟩ = some (.slice none 0 0)) (ds := []) #[false, false, false, false, false, false, false, false, false, false, false, false] (by kernel_rfl) rfl rfl ⟨(blk_cell BK275.out 0).trans rfl, (blk_cell BK275.out 1).trans rfl⟩ (fun hHeld => ?_); refine with_tabW surtitlelaw11_known.tab2 surtitlelaw11_known.bits2 (fun HT_ HW_ => ?_)
   generalize w9.drew = w10 at BK275 HB hHeld ⊢
   refine pure_ (i := 2) (N := some 8) (v := ?_) (a' := ?_) #[false, false, true, false, false, false, false, false, false, false, false, false] rfl rfl (any_of HT_.out (by kernel_rfl)) (fun _ _ _ h => h) (Or.inl ⟨by rfl, ?_⟩) ?_ ?_
   rotate_left
   ·intro w'
    go_simp
    with_reducible rfl
   rotate_left
   ·simp only [Act.put, List.setIfInBounds_toArray, List.set_cons_zero, List.set_cons_succ, i64_w, i32_w]
    rfl
   refine take_ (i := 0) (N := some 6) (v := ?_) (a' := ?_) #[true, false, true, false, false, false, false, false, false, false, false, false] rfl rfl (take_ofW HT_.out HW_.out (by kernel_rfl)) (fun _ _ _ h => h) (Or.inl ⟨by rfl, ?_⟩) hHeld ?_ ?_
   rotate_left
   ·rintro w' ⟨s0, s1⟩
    go_simp
    with_reducible rfl
   rotate_left
   ·simp only [Act.put, List.setIfInBounds_toArray, List.set_cons_zero, List.set_cons_succ, i64_w, i32_w]
    rfl
   refine join_ (σ := Nat) 2 #[true, true, true, true, true, true, true, true, true, true, false, false] (fun s_ => [(7, .agg #[.int .i64 t276, .int .i64 t277]), (9, .agg #[.int .i64 t278, .int .i64 t279]), (11, .tuple #[.agg #[.int .i64 t280, .int .i64 t281], .int .i64 t282]), (2, .pointer (some ⟨s_, 0, none⟩)), (10, .agg #[.int .i64 t276, .int .i64 t277, .int .i64 1, .int .i64 5, .int .i64 t278, .int .i64 t279]), (5, .tuple #[.agg #[.int .i64 t280, .int .i64 t281], .int .i64 t282]), (12, .agg #[.int .i64 t280, .int .i64 t281]), (13, .int .i64 t282)]) (fun s_ w' => (w'.cell? ⟨gb275, 0, none⟩ = some (.string (⟨#[97, 32, 98, 204, 129, 228, 184, 173, 255]⟩ : ByteArray)) ∧ w'.cell? ⟨gb275, 1, none⟩ = some (.slice none 0 0)) ∧ (w'.heap[gb275]? = some (.cells #[.string (⟨#[97, 32, 98, 204, 129, 228, 184, 173, 255]⟩ : ByteArray), .slice none 0 0] 26 (0, 0))) ∧ (w'.heap[s_]? = some (.cells #[.int .i64 0, .int .i64 0] 32 (0, 0))) ∧ (w.heap.size ≤ s_) ∧ (w.heap.size ≤ s_) ∧ (gb275 ≠ s_) ∧ (s_ ≠ gb275) ∧ (Below w.heap.size w w')) ?_ ?_
   rotate_left
   ·intro hCont
    refine two_ (i := 1) (j := 9) (Ni := some 7) (Nj := some 2) #[true, true, true, false, false, false, false, false, false, false, false, false] #[true, false, true, false, false, false, false, false, false, true, false, false] rfl rfl rfl rfl (two_of HT_.out (by kernel_rfl)) (by decide) (by decide) (fun K hK => ?_) (fun K hK => ?_)
    ·skip
     refine goes_ Try.func20 (by kernel_rfl) rfl #[.int .i64 10] (by rfl) rfl rfl (by (try simp only [List.map_toArray, List.map_cons, List.map_nil]); first | done | rfl | (simp only [List.length_drop, List.length_take]; rfl)) ?_
     with_reducible refine (surtitlelaw11_whole.calls 10 t276 t277 _ A1.out).mono ?_
     rintro e w11 ⟨rfl, hb⟩
     refine ⟨_, rfl, ?_⟩
     have n0_ := Aside0.mk (blk_below (g := gb275) (o := .cells #[.string (⟨#[97, 32, 98, 204, 129, 228, 184, 173, 255]⟩ : ByteArray), .slice none 0 0] 26 (0, 0)) (by (with_reducible repeat (first | apply b1 | apply b2 | apply b3)); exact BK275.out) hb)
     have n1_ := Aside0.mk (below_step (by repeat (first | (with_reducible first | exact HB.out | apply l1 | apply l2 | apply l3 | refine below_set ?_ GE275.out) | exact HB.out)) hb)
     clear BK275
     clear HB
     have BK275 := n0_
     have HB := n1_
     clear n0_ n1_
     (try clear hb)
     (try clear hb2)
     (try clear hk)
     (try clear hi)
     refine hK.out _ _ ⟨(blk_cell BK275.out 0).trans rfl, (blk_cell BK275.out 1).trans rfl⟩ (fun hHeld => ?_)
     clear hK K
     refine norm_ (a' := ?_) ?_ ?_
     rotate_left
     ·show Act.put _ (some 7) _ = _
      simp only [Act.put, List.setIfInBounds_toArray, List.set_cons_zero, List.set_cons_succ, i64_w, i32_w]
      rfl
     refine two_ (i := 3) (j := 9) (Ni := some 9) (Nj := some 2) #[true, true, true, true, false, false, false, false, false, false, false, false] #[true, true, true, false, false, false, false, false, false, true, false, false] rfl rfl rfl rfl (two_of HT_.out (by kernel_rfl)) (by decide) (by decide) (fun K hK => ?_) (fun K hK => ?_)
     ·skip
      refine goes_ Try.func20 (by kernel_rfl) rfl #[.int .i64 0] (by rfl) rfl rfl (by (try simp only [List.map_toArray, List.map_cons, List.map_nil]); first | done | rfl | (simp only [List.length_drop, List.length_take]; rfl)) ?_
      with_reducible refine (surtitlelaw11_whole.calls 0 t278 t279 _ A2.out).mono ?_
      rintro e w12 ⟨rfl, hb⟩
      refine ⟨_, rfl, ?_⟩
      have n0_ := Aside0.mk (blk_below (g := gb275) (o := .cells #[.string (⟨#[97, 32, 98, 204, 129, 228, 184, 173, 255]⟩ : ByteArray), .slice none 0 0] 26 (0, 0)) (by (with_reducible repeat (first | apply b1 | apply b2 | apply b3)); exact BK275.out) hb)
      have n1_ := Aside0.mk (below_step (by repeat (first | (with_reducible first | exact HB.out | apply l1 | apply l2 | apply l3 | refine below_set ?_ GE275.out) | exact HB.out)) hb)
      clear BK275
      clear HB
      have BK275 := n0_
      have HB := n1_
      clear n0_ n1_
      (try clear hb)
      (try clear hb2)
      (try clear hk)
      (try clear hi)
      refine hK.out _ _ ⟨(blk_cell BK275.out 0).trans rfl, (blk_cell BK275.out 1).trans rfl⟩ (fun hHeld => ?_)
      clear hK K
      refine norm_ (a' := ?_) ?_ ?_
      rotate_left
      ·show Act.put _ (some 9) _ = _
       simp only [Act.put, List.setIfInBounds_toArray, List.set_cons_zero, List.set_cons_succ, i64_w, i32_w]
       rfl
      refine pure_ (i := 4) (N := some 10) (v := ?_) (a' := ?_) #[true, true, true, true, true, false, false, false, false, false, false, false] rfl rfl (any_of HT_.out (by kernel_rfl)) (fun _ _ _ h => h) (Or.inl ⟨by rfl, ?_⟩) ?_ ?_
      rotate_left
      ·intro w'
       go_simp
       with_reducible rfl
      rotate_left
      ·simp only [Act.put, List.setIfInBounds_toArray, List.set_cons_zero, List.set_cons_succ, i64_w, i32_w]
       rfl
      refine two_ (i := 5) (j := 9) (Ni := some 11) (Nj := some 2) #[true, true, true, true, true, true, false, false, false, false, false, false] #[true, true, true, true, true, false, false, false, false, true, false, false] rfl rfl rfl rfl (two_of HT_.out (by kernel_rfl)) (by decide) (by decide) (fun K hK => ?_) (fun K hK => ?_)
      ·skip
       refine goes_ Try.func17 (by kernel_rfl) rfl #[.agg #[.string (⟨#[97, 32, 98, 204, 129, 228, 184, 173, 255]⟩ : ByteArray), .slice none 0 0], .agg #[.int .i64 t276, .int .i64 t277, .int .i64 1, .int .i64 5, .int .i64 t278, .int .i64 t279]] (by rfl) rfl rfl (by (try simp only [List.map_toArray, List.map_cons, List.map_nil]); first | done | rfl | (simp only [List.length_drop, List.length_take]; rfl)) ?_
       refine (speed_Wants.calls k (⟨#[97, 32, 98, 204, 129, 228, 184, 173, 255]⟩ : ByteArray) _ _ ([] : List (S63)) t276 t277 1 5 t278 t279 t280 t281 t282 _ ?side1 ?side2 A3.out).mono ?_
       (case side1 => exact Kd.C_nil _ _)
       (case side2 => exact Nat.le_refl _)
       rintro e w13 ⟨rfl, hb⟩
       refine ⟨_, rfl, ?_⟩
       have n0_ := Aside0.mk (blk_below (g := gb275) (o := .cells #[.string (⟨#[97, 32, 98, 204, 129, 228, 184, 173, 255]⟩ : ByteArray), .slice none 0 0] 26 (0, 0)) (by (with_reducible repeat (first | apply b1 | apply b2 | apply b3)); exact BK275.out) hb)
       have n1_ := Aside0.mk (below_step (by repeat (first | (with_reducible first | exact HB.out | apply l1 | apply l2 | apply l3 | refine below_set ?_ GE275.out) | exact HB.out)) hb)
       clear BK275
       clear HB
       have BK275 := n0_
       have HB := n1_
       clear n0_ n1_
       (try clear hb)
       (try clear hb2)
       (try clear hk)
       (try clear hi)
       refine hK.out _ _ ⟨(blk_cell BK275.out 0).trans rfl, (blk_cell BK275.out 1).trans rfl⟩ (fun hHeld => ?_)
       clear hK K
       refine norm_ (a' := ?_) ?_ ?_
       rotate_left
       ·show Act.put _ (some 11) _ = _
        simp only [Act.put, List.setIfInBounds_toArray, List.set_cons_zero, List.set_cons_succ, i64_w, i32_w]
        rfl
       refine pure_ (i := 6) (N := some 5) (v := ?_) (a' := ?_) #[true, true, true, true, true, true, true, false, false, false, false, false] rfl rfl (any_of HT_.out (by kernel_rfl)) (fun _ _ _ h => h) (Or.inl ⟨by rfl, ?_⟩) ?_ ?_
       rotate_left
       ·intro w'
        go_simp
        with_reducible rfl
       rotate_left
       ·simp only [Act.put, List.setIfInBounds_toArray, List.set_cons_zero, List.set_cons_succ, i64_w, i32_w]
        rfl
       refine pure_ (i := 7) (N := some 12) (v := ?_) (a' := ?_) #[true, true, true, true, true, true, true, true, false, false, false, false] rfl rfl (any_of HT_.out (by kernel_rfl)) (fun _ _ _ h => h) (Or.inl ⟨by rfl, ?_⟩) ?_ ?_
       rotate_left
       ·intro w'
        go_simp
        with_reducible rfl
       rotate_left
       ·simp only [Act.put, List.setIfInBounds_toArray, List.set_cons_zero, List.set_cons_succ, i64_w, i32_w]
        rfl
       refine pure_ (i := 8) (N := some 13) (v := ?_) (a' := ?_) #[true, true, true, true, true, true, true, true, true, false, false, false] rfl rfl (any_of HT_.out (by kernel_rfl)) (fun _ _ _ h => h) (Or.inl ⟨by rfl, ?_⟩) ?_ ?_
       rotate_left
       ·intro w'
        go_simp
        with_reducible rfl
       rotate_left
       ·simp only [Act.put, List.setIfInBounds_toArray, List.set_cons_zero, List.set_cons_succ, i64_w, i32_w]
        rfl
       refine one_ (i := 9) (N := some 2) #[true, true, true, true, true, true, true, true, true, true, false, false] rfl rfl (one_of HT_.out (by kernel_rfl)) (by decide) (fun K hK => ?_)
       refine box_step (by rfl) (N := 2) (by rfl) (cs := #[.int .i64 0, .int .i64 0]) (t := 32) (by first | (go_simp; done) | (go_simp; rfl)) ?_
       intro gb283 hg w14 hbox hb
       obtain ⟨hb_, hw_⟩ := box_facts (by repeat (first | (with_reducible first | exact HB.out | apply l1 | apply l2 | apply l3 | refine below_set ?_ GE275.out) | exact HB.out)) hg hb
       have n0_ := Aside0.mk (blk_below (g := gb275) (o := .cells #[.string (⟨#[97, 32, 98, 204, 129, 228, 184, 173, 255]⟩ : ByteArray), .slice none 0 0] 26 (0, 0)) (by (with_reducible repeat (first | apply b1 | apply b2 | apply b3)); exact BK275.out) hb)
       have n1_ := Aside0.mk (hb_)
       have n2_ := Aside0.mk (hbox)
       have n3_ := Aside0.mk (hw_)
       have n4_ := Aside0.mk (hw_)
       have n5_ := Aside0.mk ((by rw [hg]; exact Nat.ne_of_lt (blk_lt (g := gb275) (o := .cells #[.string (⟨#[97, 32, 98, 204, 129, 228, 184, 173, 255]⟩ : ByteArray), .slice none 0 0] 26 (0, 0)) (by (with_reducible repeat (first | apply b1 | apply b2 | apply b3)); exact BK275.out)) : gb275 ≠ gb283))
       have n6_ := Aside0.mk ((by rw [hg]; exact Nat.ne_of_gt (blk_lt (g := gb275) (o := .cells #[.string (⟨#[97, 32, 98, 204, 129, 228, 184, 173, 255]⟩ : ByteArray), .slice none 0 0] 26 (0, 0)) (by (with_reducible repeat (first | apply b1 | apply b2 | apply b3)); exact BK275.out)) : gb283 ≠ gb275))
       clear BK275
       clear HB
       have BK275 := n0_
       have HB := n1_
       have BK283 := n2_
       have GW283 := n3_
       have GE283 := n4_
       have NB275_283 := n5_
       have NB283_275 := n6_
       clear n0_ n1_ n2_ n3_ n4_ n5_ n6_
       clear hb hbox hg hb_ hw_
       refine hK.out _ _ ⟨(blk_cell BK275.out 0).trans rfl, (blk_cell BK275.out 1).trans rfl⟩ (fun hHeld => ?_)
       clear hK K
       refine norm_ (a' := ?_) ?_ ?_
       rotate_left
       ·show Act.put _ (some 2) _ = _
        simp only [Act.put, List.setIfInBounds_toArray, List.set_cons_zero, List.set_cons_succ, i64_w, i32_w]
        rfl
       exact norm_ (by simp only [putAll, Act.put, List.setIfInBounds_toArray, List.set_cons_zero, List.set_cons_succ]) (hCont (gb283) _ ⟨hHeld, (by (with_reducible repeat (first | apply b1 | apply b2 | apply b3)); exact BK275.out), (by (with_reducible repeat (first | apply b1 | apply b2 | apply b3)); exact BK283.out), GW283.out, GE283.out, NB275_283.out, NB283_275.out, (by repeat (first | (with_reducible first | exact HB.out | apply l1 | apply l2 | apply l3 | refine below_set ?_ GE275.out | refine below_set ?_ GE283.out) | exact HB.out))⟩)
      ·skip
       refine box_step (by rfl) (N := 2) (by rfl) (cs := #[.int .i64 0, .int .i64 0]) (t := 32) (by first | (go_simp; done) | (go_simp; rfl)) ?_
       intro gb283 hg w13 hbox hb
       obtain ⟨hb_, hw_⟩ := box_facts (by repeat (first | (with_reducible first | exact HB.out | apply l1 | apply l2 | apply l3 | refine below_set ?_ GE275.out) | exact HB.out)) hg hb
       have n0_ := Aside0.mk (blk_below (g := gb275) (o := .cells #[.string (⟨#[97, 32, 98, 204, 129, 228, 184, 173, 255]⟩ : ByteArray), .slice none 0 0] 26 (0, 0)) (by (with_reducible repeat (first | apply b1 | apply b2 | apply b3)); exact BK275.out) hb)
       have n1_ := Aside0.mk (hb_)
       have n2_ := Aside0.mk (hbox)
       have n3_ := Aside0.mk (hw_)
       have n4_ := Aside0.mk (hw_)
       have n5_ := Aside0.mk ((by rw [hg]; exact Nat.ne_of_lt (blk_lt (g := gb275) (o := .cells #[.string (⟨#[97, 32, 98, 204, 129, 228, 184, 173, 255]⟩ : ByteArray), .slice none 0 0] 26 (0, 0)) (by (with_reducible repeat (first | apply b1 | apply b2 | apply b3)); exact BK275.out)) : gb275 ≠ gb283))
       have n6_ := Aside0.mk ((by rw [hg]; exact Nat.ne_of_gt (blk_lt (g := gb275) (o := .cells #[.string (⟨#[97, 32, 98, 204, 129, 228, 184, 173, 255]⟩ : ByteArray), .slice none 0 0] 26 (0, 0)) (by (with_reducible repeat (first | apply b1 | apply b2 | apply b3)); exact BK275.out)) : gb283 ≠ gb275))
       clear BK275
       clear HB
       have BK275 := n0_
       have HB := n1_
       have BK283 := n2_
       have GW283 := n3_
       have GE283 := n4_
       have NB275_283 := n5_
       have NB283_275 := n6_
       clear n0_ n1_ n2_ n3_ n4_ n5_ n6_
       clear hb hbox hg hb_ hw_
       refine hK.out _ _ ⟨(blk_cell BK275.out 0).trans rfl, (blk_cell BK275.out 1).trans rfl⟩ (fun hHeld => ?_)
       clear hK K
       refine norm_ (a' := ?_) ?_ ?_
       rotate_left
       ·show Act.put _ (some 2) _ = _
        simp only [Act.put, List.setIfInBounds_toArray, List.set_cons_zero, List.set_cons_succ, i64_w, i32_w]
        rfl
       refine one_ (i := 5) (N := some 11) #[true, true, true, true, true, true, false, false, false, true, false, false] rfl rfl (one_of HT_.out (by kernel_rfl)) (by decide) (fun K hK => ?_)
       refine goes_ Try.func17 (by kernel_rfl) rfl #[.agg #[.string (⟨#[97, 32, 98, 204, 129, 228, 184, 173, 255]⟩ : ByteArray), .slice none 0 0], .agg #[.int .i64 t276, .int .i64 t277, .int .i64 1, .int .i64 5, .int .i64 t278, .int .i64 t279]] (by rfl) rfl rfl (by (try simp only [List.map_toArray, List.map_cons, List.map_nil]); first | done | rfl | (simp only [List.length_drop, List.length_take]; rfl)) ?_
       refine (speed_Wants.calls k (⟨#[97, 32, 98, 204, 129, 228, 184, 173, 255]⟩ : ByteArray) _ _ ([] : List (S63)) t276 t277 1 5 t278 t279 t280 t281 t282 _ ?side1 ?side2 A3.out).mono ?_
       (case side1 => exact Kd.C_nil _ _)
       (case side2 => exact Nat.le_refl _)
       rintro e w14 ⟨rfl, hb⟩
       refine ⟨_, rfl, ?_⟩
       have n0_ := Aside0.mk (blk_below (g := gb275) (o := .cells #[.string (⟨#[97, 32, 98, 204, 129, 228, 184, 173, 255]⟩ : ByteArray), .slice none 0 0] 26 (0, 0)) (by (with_reducible repeat (first | apply b1 | apply b2 | apply b3)); exact BK275.out) hb)
       have n1_ := Aside0.mk (blk_below (g := gb283) (o := .cells #[.int .i64 0, .int .i64 0] 32 (0, 0)) (by (with_reducible repeat (first | apply b1 | apply b2 | apply b3)); exact BK283.out) hb)
       have n2_ := Aside0.mk (below_step (by repeat (first | (with_reducible first | exact HB.out | apply l1 | apply l2 | apply l3 | refine below_set ?_ GE275.out | refine below_set ?_ GE283.out) | exact HB.out)) hb)
       clear BK275
       clear BK283
       clear HB
       have BK275 := n0_
       have BK283 := n1_
       have HB := n2_
       clear n0_ n1_ n2_
       (try clear hb)
       (try clear hb2)
       (try clear hk)
       (try clear hi)
       refine hK.out _ _ ⟨(blk_cell BK275.out 0).trans rfl, (blk_cell BK275.out 1).trans rfl⟩ (fun hHeld => ?_)
       clear hK K
       refine norm_ (a' := ?_) ?_ ?_
       rotate_left
       ·show Act.put _ (some 11) _ = _
        simp only [Act.put, List.setIfInBounds_toArray, List.set_cons_zero, List.set_cons_succ, i64_w, i32_w]
        rfl
       refine pure_ (i := 6) (N := some 5) (v := ?_) (a' := ?_) #[true, true, true, true, true, true, true, false, false, true, false, false] rfl rfl (any_of HT_.out (by kernel_rfl)) (fun _ _ _ h => h) (Or.inl ⟨by rfl, ?_⟩) ?_ ?_
       rotate_left
       ·intro w'
        go_simp
        with_reducible rfl
       rotate_left
       ·simp only [Act.put, List.setIfInBounds_toArray, List.set_cons_zero, List.set_cons_succ, i64_w, i32_w]
        rfl
       refine pure_ (i := 7) (N := some 12) (v := ?_) (a' := ?_) #[true, true, true, true, true, true, true, true, false, true, false, false] rfl rfl (any_of HT_.out (by kernel_rfl)) (fun _ _ _ h => h) (Or.inl ⟨by rfl, ?_⟩) ?_ ?_
       rotate_left
       ·intro w'
        go_simp
        with_reducible rfl
       rotate_left
       ·simp only [Act.put, List.setIfInBounds_toArray, List.set_cons_zero, List.set_cons_succ, i64_w, i32_w]
        rfl
       refine pure_ (i := 8) (N := some 13) (v := ?_) (a' := ?_) #[true, true, true, true, true, true, true, true, true, true, false, false] rfl rfl (any_of HT_.out (by kernel_rfl)) (fun _ _ _ h => h) (Or.inl ⟨by rfl, ?_⟩) ?_ ?_
       rotate_left
       ·intro w'
        go_simp
        with_reducible rfl
       rotate_left
       ·simp only [Act.put, List.setIfInBounds_toArray, List.set_cons_zero, List.set_cons_succ, i64_w, i32_w]
        rfl
       exact norm_ (by simp only [putAll, Act.put, List.setIfInBounds_toArray, List.set_cons_zero, List.set_cons_succ]) (hCont (gb283) _ ⟨hHeld, (by (with_reducible repeat (first | apply b1 | apply b2 | apply b3)); exact BK275.out), (by (with_reducible repeat (first | apply b1 | apply b2 | apply b3)); exact BK283.out), GW283.out, GE283.out, NB275_283.out, NB283_275.out, (by repeat (first | (with_reducible first | exact HB.out | apply l1 | apply l2 | apply l3 | refine below_set ?_ GE275.out | refine below_set ?_ GE283.out) | exact HB.out))⟩)
     ·skip
      refine box_step (by rfl) (N := 2) (by rfl) (cs := #[.int .i64 0, .int .i64 0]) (t := 32) (by first | (go_simp; done) | (go_simp; rfl)) ?_
      intro gb283 hg w12 hbox hb
      obtain ⟨hb_, hw_⟩ := box_facts (by repeat (first | (with_reducible first | exact HB.out | apply l1 | apply l2 | apply l3 | refine below_set ?_ GE275.out) | exact HB.out)) hg hb
      have n0_ := Aside0.mk (blk_below (g := gb275) (o := .cells #[.string (⟨#[97, 32, 98, 204, 129, 228, 184, 173, 255]⟩ : ByteArray), .slice none 0 0] 26 (0, 0)) (by (with_reducible repeat (first | apply b1 | apply b2 | apply b3)); exact BK275.out) hb)
      have n1_ := Aside0.mk (hb_)
      have n2_ := Aside0.mk (hbox)
      have n3_ := Aside0.mk (hw_)
      have n4_ := Aside0.mk (hw_)
      have n5_ := Aside0.mk ((by rw [hg]; exact Nat.ne_of_lt (blk_lt (g := gb275) (o := .cells #[.string (⟨#[97, 32, 98, 204, 129, 228, 184, 173, 255]⟩ : ByteArray), .slice none 0 0] 26 (0, 0)) (by (with_reducible repeat (first | apply b1 | apply b2 | apply b3)); exact BK275.out)) : gb275 ≠ gb283))
      have n6_ := Aside0.mk ((by rw [hg]; exact Nat.ne_of_gt (blk_lt (g := gb275) (o := .cells #[.string (⟨#[97, 32, 98, 204, 129, 228, 184, 173, 255]⟩ : ByteArray), .slice none 0 0] 26 (0, 0)) (by (with_reducible repeat (first | apply b1 | apply b2 | apply b3)); exact BK275.out)) : gb283 ≠ gb275))
      clear BK275
      clear HB
      have BK275 := n0_
      have HB := n1_
      have BK283 := n2_
      have GW283 := n3_
      have GE283 := n4_
      have NB275_283 := n5_
      have NB283_275 := n6_
      clear n0_ n1_ n2_ n3_ n4_ n5_ n6_
      clear hb hbox hg hb_ hw_
      refine hK.out _ _ ⟨(blk_cell BK275.out 0).trans rfl, (blk_cell BK275.out 1).trans rfl⟩ (fun hHeld => ?_)
      clear hK K
      refine norm_ (a' := ?_) ?_ ?_
      rotate_left
      ·show Act.put _ (some 2) _ = _
       simp only [Act.put, List.setIfInBounds_toArray, List.set_cons_zero, List.set_cons_succ, i64_w, i32_w]
       rfl
      refine one_ (i := 3) (N := some 9) #[true, true, true, true, false, false, false, false, false, true, false, false] rfl rfl (one_of HT_.out (by kernel_rfl)) (by decide) (fun K hK => ?_)
      refine goes_ Try.func20 (by kernel_rfl) rfl #[.int .i64 0] (by rfl) rfl rfl (by (try simp only [List.map_toArray, List.map_cons, List.map_nil]); first | done | rfl | (simp only [List.length_drop, List.length_take]; rfl)) ?_
      with_reducible refine (surtitlelaw11_whole.calls 0 t278 t279 _ A2.out).mono ?_
      rintro e w13 ⟨rfl, hb⟩
      refine ⟨_, rfl, ?_⟩
      have n0_ := Aside0.mk (blk_below (g := gb275) (o := .cells #[.string (⟨#[97, 32, 98, 204, 129, 228, 184, 173, 255]⟩ : ByteArray), .slice none 0 0] 26 (0, 0)) (by (with_reducible repeat (first | apply b1 | apply b2 | apply b3)); exact BK275.out) hb)
      have n1_ := Aside0.mk (blk_below (g := gb283) (o := .cells #[.int .i64 0, .int .i64 0] 32 (0, 0)) (by (with_reducible repeat (first | apply b1 | apply b2 | apply b3)); exact BK283.out) hb)
      have n2_ := Aside0.mk (below_step (by repeat (first | (with_reducible first | exact HB.out | apply l1 | apply l2 | apply l3 | refine below_set ?_ GE275.out | refine below_set ?_ GE283.out) | exact HB.out)) hb)
      clear BK275
      clear BK283
      clear HB
      have BK275 := n0_
      have BK283 := n1_
      have HB := n2_
      clear n0_ n1_ n2_
      (try clear hb)
      (try clear hb2)
      (try clear hk)
      (try clear hi)
      refine hK.out _ _ ⟨(blk_cell BK275.out 0).trans rfl, (blk_cell BK275.out 1).trans rfl⟩ (fun hHeld => ?_)
      clear hK K
      refine norm_ (a' := ?_) ?_ ?_
      rotate_left
      ·show Act.put _ (some 9) _ = _
       simp only [Act.put, List.setIfInBounds_toArray, List.set_cons_zero, List.set_cons_succ, i64_w, i32_w]
       rfl
      refine pure_ (i := 4) (N := some 10) (v := ?_) (a' := ?_) #[true, true, true, true, true, false, false, false, false, true, false, false] rfl rfl (any_of HT_.out (by kernel_rfl)) (fun _ _ _ h => h) (Or.inl ⟨by rfl, ?_⟩) ?_ ?_
      rotate_left
      ·intro w'
       go_simp
       with_reducible rfl
      rotate_left
      ·simp only [Act.put, List.setIfInBounds_toArray, List.set_cons_zero, List.set_cons_succ, i64_w, i32_w]
       rfl
      refine one_ (i := 5) (N := some 11) #[true, true, true, true, true, true, false, false, false, true, false, false] rfl rfl (one_of HT_.out (by kernel_rfl)) (by decide) (fun K hK => ?_)
      refine goes_ Try.func17 (by kernel_rfl) rfl #[.agg #[.string (⟨#[97, 32, 98, 204, 129, 228, 184, 173, 255]⟩ : ByteArray), .slice none 0 0], .agg #[.int .i64 t276, .int .i64 t277, .int .i64 1, .int .i64 5, .int .i64 t278, .int .i64 t279]] (by rfl) rfl rfl (by (try simp only [List.map_toArray, List.map_cons, List.map_nil]); first | done | rfl | (simp only [List.length_drop, List.length_take]; rfl)) ?_
      refine (speed_Wants.calls k (⟨#[97, 32, 98, 204, 129, 228, 184, 173, 255]⟩ : ByteArray) _ _ ([] : List (S63)) t276 t277 1 5 t278 t279 t280 t281 t282 _ ?side1 ?side2 A3.out).mono ?_
      (case side1 => exact Kd.C_nil _ _)
      (case side2 => exact Nat.le_refl _)
      rintro e w14 ⟨rfl, hb⟩
      refine ⟨_, rfl, ?_⟩
      have n0_ := Aside0.mk (blk_below (g := gb275) (o := .cells #[.string (⟨#[97, 32, 98, 204, 129, 228, 184, 173, 255]⟩ : ByteArray), .slice none 0 0] 26 (0, 0)) (by (with_reducible repeat (first | apply b1 | apply b2 | apply b3)); exact BK275.out) hb)
      have n1_ := Aside0.mk (blk_below (g := gb283) (o := .cells #[.int .i64 0, .int .i64 0] 32 (0, 0)) (by (with_reducible repeat (first | apply b1 | apply b2 | apply b3)); exact BK283.out) hb)
      have n2_ := Aside0.mk (below_step (by repeat (first | (with_reducible first | exact HB.out | apply l1 | apply l2 | apply l3 | refine below_set ?_ GE275.out | refine below_set ?_ GE283.out) | exact HB.out)) hb)
      clear BK275
      clear BK283
      clear HB
      have BK275 := n0_
      have BK283 := n1_
      have HB := n2_
      clear n0_ n1_ n2_
      (try clear hb)
      (try clear hb2)
      (try clear hk)
      (try clear hi)
      refine hK.out _ _ ⟨(blk_cell BK275.out 0).trans rfl, (blk_cell BK275.out 1).trans rfl⟩ (fun hHeld => ?_)
      clear hK K
      refine norm_ (a' := ?_) ?_ ?_
      rotate_left
      ·show Act.put _ (some 11) _ = _
       simp only [Act.put, List.setIfInBounds_toArray, List.set_cons_zero, List.set_cons_succ, i64_w, i32_w]
       rfl
      refine pure_ (i := 6) (N := some 5) (v := ?_) (a' := ?_) #[true, true, true, true, true, true, true, false, false, true, false, false] rfl rfl (any_of HT_.out (by kernel_rfl)) (fun _ _ _ h => h) (Or.inl ⟨by rfl, ?_⟩) ?_ ?_
      rotate_left
      ·intro w'
       go_simp
       with_reducible rfl
      rotate_left
      ·simp only [Act.put, List.setIfInBounds_toArray, List.set_cons_zero, List.set_cons_succ, i64_w, i32_w]
       rfl
      refine pure_ (i := 7) (N := some 12) (v := ?_) (a' := ?_) #[true, true, true, true, true, true, true, true, false, true, false, false] rfl rfl (any_of HT_.out (by kernel_rfl)) (fun _ _ _ h => h) (Or.inl ⟨by rfl, ?_⟩) ?_ ?_
      rotate_left
      ·intro w'
       go_simp
       with_reducible rfl
      rotate_left
      ·simp only [Act.put, List.setIfInBounds_toArray, List.set_cons_zero, List.set_cons_succ, i64_w, i32_w]
       rfl
      refine pure_ (i := 8) (N := some 13) (v := ?_) (a' := ?_) #[true, true, true, true, true, true, true, true, true, true, false, false] rfl rfl (any_of HT_.out (by kernel_rfl)) (fun _ _ _ h => h) (Or.inl ⟨by rfl, ?_⟩) ?_ ?_
      rotate_left
      ·intro w'
       go_simp
       with_reducible rfl
      rotate_left
      ·simp only [Act.put, List.setIfInBounds_toArray, List.set_cons_zero, List.set_cons_succ, i64_w, i32_w]
       rfl
      exact norm_ (by simp only [putAll, Act.put, List.setIfInBounds_toArray, List.set_cons_zero, List.set_cons_succ]) (hCont (gb283) _ ⟨hHeld, (by (with_reducible repeat (first | apply b1 | apply b2 | apply b3)); exact BK275.out), (by (with_reducible repeat (first | apply b1 | apply b2 | apply b3)); exact BK283.out), GW283.out, GE283.out, NB275_283.out, NB283_275.out, (by repeat (first | (with_reducible first | exact HB.out | apply l1 | apply l2 | apply l3 | refine below_set ?_ GE275.out | refine below_set ?_ GE283.out) | exact HB.out))⟩)
    ·skip
     refine box_step (by rfl) (N := 2) (by rfl) (cs := #[.int .i64 0, .int .i64 0]) (t := 32) (by first | (go_simp; done) | (go_simp; rfl)) ?_
     intro gb283 hg w11 hbox hb
     obtain ⟨hb_, hw_⟩ := box_facts (by repeat (first | (with_reducible first | exact HB.out | apply l1 | apply l2 | apply l3 | refine below_set ?_ GE275.out) | exact HB.out)) hg hb
     have n0_ := Aside0.mk (blk_below (g := gb275) (o := .cells #[.string (⟨#[97, 32, 98, 204, 129, 228, 184, 173, 255]⟩ : ByteArray), .slice none 0 0] 26 (0, 0)) (by (with_reducible repeat (first | apply b1 | apply b2 | apply b3)); exact BK275.out) hb)
     have n1_ := Aside0.mk (hb_)
     have n2_ := Aside0.mk (hbox)
     have n3_ := Aside0.mk (hw_)
     have n4_ := Aside0.mk (hw_)
     have n5_ := Aside0.mk ((by rw [hg]; exact Nat.ne_of_lt (blk_lt (g := gb275) (o := .cells #[.string (⟨#[97, 32, 98, 204, 129, 228, 184, 173, 255]⟩ : ByteArray), .slice none 0 0] 26 (0, 0)) (by (with_reducible repeat (first | apply b1 | apply b2 | apply b3)); exact BK275.out)) : gb275 ≠ gb283))
     have n6_ := Aside0.mk ((by rw [hg]; exact Nat.ne_of_gt (blk_lt (g := gb275) (o := .cells #[.string (⟨#[97, 32, 98, 204, 129, 228, 184, 173, 255]⟩ : ByteArray), .slice none 0 0] 26 (0, 0)) (by (with_reducible repeat (first | apply b1 | apply b2 | apply b3)); exact BK275.out)) : gb283 ≠ gb275))
     clear BK275
     clear HB
     have BK275 := n0_
     have HB := n1_
     have BK283 := n2_
     have GW283 := n3_
     have GE283 := n4_
     have NB275_283 := n5_
     have NB283_275 := n6_
     clear n0_ n1_ n2_ n3_ n4_ n5_ n6_
     clear hb hbox hg hb_ hw_
     refine hK.out _ _ ⟨(blk_cell BK275.out 0).trans rfl, (blk_cell BK275.out 1).trans rfl⟩ (fun hHeld => ?_)
     clear hK K
     refine norm_ (a' := ?_) ?_ ?_
     rotate_left
     ·show Act.put _ (some 2) _ = _
      simp only [Act.put, List.setIfInBounds_toArray, List.set_cons_zero, List.set_cons_succ, i64_w, i32_w]
      rfl
     refine one_ (i := 1) (N := some 7) #[true, true, true, false, false, false, false, false, false, true, false, false] rfl rfl (one_of HT_.out (by kernel_rfl)) (by decide) (fun K hK => ?_)
     refine goes_ Try.func20 (by kernel_rfl) rfl #[.int .i64 10] (by rfl) rfl rfl (by (try simp only [List.map_toArray, List.map_cons, List.map_nil]); first | done | rfl | (simp only [List.length_drop, List.length_take]; rfl)) ?_
     with_reducible refine (surtitlelaw11_whole.calls 10 t276 t277 _ A1.out).mono ?_
     rintro e w12 ⟨rfl, hb⟩
     refine ⟨_, rfl, ?_⟩
     have n0_ := Aside0.mk (blk_below (g := gb275) (o := .cells #[.string (⟨#[97, 32, 98, 204, 129, 228, 184, 173, 255]⟩ : ByteArray), .slice none 0 0] 26 (0, 0)) (by (with_reducible repeat (first | apply b1 | apply b2 | apply b3)); exact BK275.out) hb)
     have n1_ := Aside0.mk (blk_below (g := gb283) (o := .cells #[.int .i64 0, .int .i64 0] 32 (0, 0)) (by (with_reducible repeat (first | apply b1 | apply b2 | apply b3)); exact BK283.out) hb)
     have n2_ := Aside0.mk (below_step (by repeat (first | (with_reducible first | exact HB.out | apply l1 | apply l2 | apply l3 | refine below_set ?_ GE275.out | refine below_set ?_ GE283.out) | exact HB.out)) hb)
     clear BK275
     clear BK283
     clear HB
     have BK275 := n0_
     have BK283 := n1_
     have HB := n2_
     clear n0_ n1_ n2_
     (try clear hb)
     (try clear hb2)
     (try clear hk)
     (try clear hi)
     refine hK.out _ _ ⟨(blk_cell BK275.out 0).trans rfl, (blk_cell BK275.out 1).trans rfl⟩ (fun hHeld => ?_)
     clear hK K
     refine norm_ (a' := ?_) ?_ ?_
     rotate_left
     ·show Act.put _ (some 7) _ = _
      simp only [Act.put, List.setIfInBounds_toArray, List.set_cons_zero, List.set_cons_succ, i64_w, i32_w]
      rfl
     refine one_ (i := 3) (N := some 9) #[true, true, true, true, false, false, false, false, false, true, false, false] rfl rfl (one_of HT_.out (by kernel_rfl)) (by decide) (fun K hK => ?_)
     refine goes_ Try.func20 (by kernel_rfl) rfl #[.int .i64 0] (by rfl) rfl rfl (by (try simp only [List.map_toArray, List.map_cons, List.map_nil]); first | done | rfl | (simp only [List.length_drop, List.length_take]; rfl)) ?_
     with_reducible refine (surtitlelaw11_whole.calls 0 t278 t279 _ A2.out).mono ?_
     rintro e w13 ⟨rfl, hb⟩
     refine ⟨_, rfl, ?_⟩
     have n0_ := Aside0.mk (blk_below (g := gb275) (o := .cells #[.string (⟨#[97, 32, 98, 204, 129, 228, 184, 173, 255]⟩ : ByteArray), .slice none 0 0] 26 (0, 0)) (by (with_reducible repeat (first | apply b1 | apply b2 | apply b3)); exact BK275.out) hb)
     have n1_ := Aside0.mk (blk_below (g := gb283) (o := .cells #[.int .i64 0, .int .i64 0] 32 (0, 0)) (by (with_reducible repeat (first | apply b1 | apply b2 | apply b3)); exact BK283.out) hb)
     have n2_ := Aside0.mk (below_step (by repeat (first | (with_reducible first | exact HB.out | apply l1 | apply l2 | apply l3 | refine below_set ?_ GE275.out | refine below_set ?_ GE283.out) | exact HB.out)) hb)
     clear BK275
     clear BK283
     clear HB
     have BK275 := n0_
     have BK283 := n1_
     have HB := n2_
     clear n0_ n1_ n2_
     (try clear hb)
     (try clear hb2)
     (try clear hk)
     (try clear hi)
     refine hK.out _ _ ⟨(blk_cell BK275.out 0).trans rfl, (blk_cell BK275.out 1).trans rfl⟩ (fun hHeld => ?_)
     clear hK K
     refine norm_ (a' := ?_) ?_ ?_
     rotate_left
     ·show Act.put _ (some 9) _ = _
      simp only [Act.put, List.setIfInBounds_toArray, List.set_cons_zero, List.set_cons_succ, i64_w, i32_w]
      rfl
     refine pure_ (i := 4) (N := some 10) (v := ?_) (a' := ?_) #[true, true, true, true, true, false, false, false, false, true, false, false] rfl rfl (any_of HT_.out (by kernel_rfl)) (fun _ _ _ h => h) (Or.inl ⟨by rfl, ?_⟩) ?_ ?_
     rotate_left
     ·intro w'
      go_simp
      with_reducible rfl
     rotate_left
     ·simp only [Act.put, List.setIfInBounds_toArray, List.set_cons_zero, List.set_cons_succ, i64_w, i32_w]
      rfl
     refine one_ (i := 5) (N := some 11) #[true, true, true, true, true, true, false, false, false, true, false, false] rfl rfl (one_of HT_.out (by kernel_rfl)) (by decide) (fun K hK => ?_)
     refine goes_ Try.func17 (by kernel_rfl) rfl #[.agg #[.string (⟨#[97, 32, 98, 204, 129, 228, 184, 173, 255]⟩ : ByteArray), .slice none 0 0], .agg #[.int .i64 t276, .int .i64 t277, .int .i64 1, .int .i64 5, .int .i64 t278, .int .i64 t279]] (by rfl) rfl rfl (by (try simp only [List.map_toArray, List.map_cons, List.map_nil]); first | done | rfl | (simp only [List.length_drop, List.length_take]; rfl)) ?_
     refine (speed_Wants.calls k (⟨#[97, 32, 98, 204, 129, 228, 184, 173, 255]⟩ : ByteArray) _ _ ([] : List (S63)) t276 t277 1 5 t278 t279 t280 t281 t282 _ ?side1 ?side2 A3.out).mono ?_
     (case side1 => exact Kd.C_nil _ _)
     (case side2 => exact Nat.le_refl _)
     rintro e w14 ⟨rfl, hb⟩
     refine ⟨_, rfl, ?_⟩
     have n0_ := Aside0.mk (blk_below (g := gb275) (o := .cells #[.string (⟨#[97, 32, 98, 204, 129, 228, 184, 173, 255]⟩ : ByteArray), .slice none 0 0] 26 (0, 0)) (by (with_reducible repeat (first | apply b1 | apply b2 | apply b3)); exact BK275.out) hb)
     have n1_ := Aside0.mk (blk_below (g := gb283) (o := .cells #[.int .i64 0, .int .i64 0] 32 (0, 0)) (by (with_reducible repeat (first | apply b1 | apply b2 | apply b3)); exact BK283.out) hb)
     have n2_ := Aside0.mk (below_step (by repeat (first | (with_reducible first | exact HB.out | apply l1 | apply l2 | apply l3 | refine below_set ?_ GE275.out | refine below_set ?_ GE283.out) | exact HB.out)) hb)
     clear BK275
     clear BK283
     clear HB
     have BK275 := n0_
     have BK283 := n1_
     have HB := n2_
     clear n0_ n1_ n2_
     (try clear hb)
     (try clear hb2)
     (try clear hk)
     (try clear hi)
     refine hK.out _ _ ⟨(blk_cell BK275.out 0).trans rfl, (blk_cell BK275.out 1).trans rfl⟩ (fun hHeld => ?_)
     clear hK K
     refine norm_ (a' := ?_) ?_ ?_
     rotate_left
     ·show Act.put _ (some 11) _ = _
      simp only [Act.put, List.setIfInBounds_toArray, List.set_cons_zero, List.set_cons_succ, i64_w, i32_w]
      rfl
     refine pure_ (i := 6) (N := some 5) (v := ?_) (a' := ?_) #[true, true, true, true, true, true, true, false, false, true, false, false] rfl rfl (any_of HT_.out (by kernel_rfl)) (fun _ _ _ h => h) (Or.inl ⟨by rfl, ?_⟩) ?_ ?_
     rotate_left
     ·intro w'
      go_simp
      with_reducible rfl
     rotate_left
     ·simp only [Act.put, List.setIfInBounds_toArray, List.set_cons_zero, List.set_cons_succ, i64_w, i32_w]
      rfl
     refine pure_ (i := 7) (N := some 12) (v := ?_) (a' := ?_) #[true, true, true, true, true, true, true, true, false, true, false, false] rfl rfl (any_of HT_.out (by kernel_rfl)) (fun _ _ _ h => h) (Or.inl ⟨by rfl, ?_⟩) ?_ ?_
     rotate_left
     ·intro w'
      go_simp
      with_reducible rfl
     rotate_left
     ·simp only [Act.put, List.setIfInBounds_toArray, List.set_cons_zero, List.set_cons_succ, i64_w, i32_w]
      rfl
     refine pure_ (i := 8) (N := some 13) (v := ?_) (a' := ?_) #[true, true, true, true, true, true, true, true, true, true, false, false] rfl rfl (any_of HT_.out (by kernel_rfl)) (fun _ _ _ h => h) (Or.inl ⟨by rfl, ?_⟩) ?_ ?_
     rotate_left
     ·intro w'
      go_simp
      with_reducible rfl
     rotate_left
     ·simp only [Act.put, List.setIfInBounds_toArray, List.set_cons_zero, List.set_cons_succ, i64_w, i32_w]
      rfl
     exact norm_ (by simp only [putAll, Act.put, List.setIfInBounds_toArray, List.set_cons_zero, List.set_cons_succ]) (hCont (gb283) _ ⟨hHeld, (by (with_reducible repeat (first | apply b1 | apply b2 | apply b3)); exact BK275.out), (by (with_reducible repeat (first | apply b1 | apply b2 | apply b3)); exact BK283.out), GW283.out, GE283.out, NB275_283.out, NB283_275.out, (by repeat (first | (with_reducible first | exact HB.out | apply l1 | apply l2 | apply l3 | refine below_set ?_ GE275.out | refine below_set ?_ GE283.out) | exact HB.out))⟩)
   rintro gb283 w15 ⟨hS_, h0_, h1_, h2_, h3_, h4_, h5_, h6_⟩
   have n0_ : Aside0 (w15.heap[gb275]? = some (.cells #[.string (⟨#[97, 32, 98, 204, 129, 228, 184, 173, 255]⟩ : ByteArray), .slice none 0 0] 26 (0, 0))) := ⟨h0_⟩
   have n1_ : Aside0 (w15.heap[gb283]? = some (.cells #[.int .i64 0, .int .i64 0] 32 (0, 0))) := ⟨h1_⟩
   have n2_ : Aside0 (w.heap.size ≤ gb283) := ⟨h2_⟩
   have n3_ : Aside0 (w.heap.size ≤ gb283) := ⟨h3_⟩
   have n4_ : Aside0 (gb275 ≠ gb283) := ⟨h4_⟩
   have n5_ : Aside0 (gb283 ≠ gb275) := ⟨h5_⟩
   have n6_ : Aside0 (Below w.heap.size w w15) := ⟨h6_⟩
   clear BK275
   clear HB
   clear h0_ h1_ h2_ h3_ h4_ h5_ h6_
   have BK275 := n0_
   have BK283 := n1_
   have GW283 := n2_
   have GE283 := n3_
   have NB275_283 := n4_
   have NB283_275 := n5_
   have HB := n6_
   clear n0_ n1_ n2_ n3_ n4_ n5_ n6_
   have hHeld : w15.cell? ⟨gb275, 0, none⟩ = some (.string (⟨#[97, 32, 98, 204, 129, 228, 184, 173, 255]⟩ : ByteArray)) ∧ w15.cell? ⟨gb275, 1, none⟩ = some (.slice none 0 0) := hS_
   refine norm_ (a' := ?_) ?_ ?_
   rotate_left
   ·simp only [putAll, Act.put, List.setIfInBounds_toArray, List.set_cons_zero, List.set_cons_succ]
    rfl
   refine one_ (i := 10) (N := none) #[true, true, true, true, true, true, true, true, true, true, true, false] rfl rfl (one_of HT_.out (by kernel_rfl)) (by decide) (fun K hK => ?_)
   have hs16 : w15.cell? ⟨gb283, 0, none⟩ = some (.int .i64 0) := (blk_cell BK283.out 0).trans rfl
   have hfs16 := blk_frozen BK283.out 0
   have hns16_0 := NB275_283.out
   have hms16_0 := NB283_275.out
   have hs17 : w15.cell? ⟨gb283, 1, none⟩ = some (.int .i64 0) := (blk_cell BK283.out 1).trans rfl
   have hfs17 := blk_frozen BK283.out 1
   have hns17_0 := NB275_283.out
   have hms17_0 := NB283_275.out
   refine skip_ (w1 := ?_) (by rfl) rfl ?_ ?_
   rotate_left
   ·go_simp
    rfl
   refine hK.out _ _ ⟨((cell_far (p := ⟨gb283, _, none⟩) NB275_283.out _).trans (((cell_far (p := ⟨gb283, _, none⟩) NB275_283.out _).trans (hHeld.1)))), ((cell_far (p := ⟨gb283, _, none⟩) NB275_283.out _).trans (((cell_far (p := ⟨gb283, _, none⟩) NB275_283.out _).trans (hHeld.2))))⟩ (fun hHeld => ?_)
   clear hK K
   refine pure_ (i := 11) (N := some 3) (v := ?_) (a' := ?_) #[true, true, true, true, true, true, true, true, true, true, true, true] rfl rfl (any_of HT_.out (by kernel_rfl)) (fun _ _ _ h => h) (Or.inl ⟨by rfl, ?_⟩) ?_ ?_
   rotate_left
   ·intro w'
    go_simp
    with_reducible rfl
   rotate_left
   ·simp only [Act.put, List.setIfInBounds_toArray, List.set_cons_zero, List.set_cons_succ, i64_w, i32_w]
    rfl
   refine done_ (done_of HT_.out (by kernel_rfl)) ?_
   have hnb18 := NB275_283.out
   have hnc18 := NB283_275.out
   obtain ⟨hcz19_0, hcz19_1, hfz19_0, hfz19_1⟩ := blk_cells2 BK275.out
   try go_wp2_with (first | ((with_reducible refine gate_callee (f := 9) rfl ?_); refine goesL_ (some 15) rfl rfl Try.func9 (by kernel_rfl) rfl #[.agg #[.string (⟨#[97, 32, 98, 204, 129, 228, 184, 173, 255]⟩ : ByteArray), .slice none 0 0]] rfl (by (try simp only [List.map_toArray, List.map_cons, List.map_nil]); first | done | rfl | (simp only [List.length_drop, List.length_take]; rfl)) ?_; (refine (speed_Count.calls k (⟨#[97, 32, 98, 204, 129, 228, 184, 173, 255]⟩ : ByteArray) _ _ ([] : List (S63)) t284 _ ?side1 ?side2 A4.out).mono ?_); (case side1 => exact Kd.C_nil _ _); (case side2 => exact Nat.le_refl _); rintro e w20 ⟨rfl, hb⟩; refine ⟨_, rfl, ?_⟩; have n0_ := Aside0.mk (blk_below (g := gb275) (o := .cells #[.string (⟨#[97, 32, 98, 204, 129, 228, 184, 173, 255]⟩ : ByteArray), .slice none 0 0] 26 (0, 0)) (by (with_reducible repeat (first | apply b1 | apply b2 | apply b3)); refine blk_far ?_ NB275_283.out _; (with_reducible repeat (first | apply b1 | apply b2 | apply b3)); refine blk_far ?_ NB275_283.out _; (with_reducible repeat (first | apply b1 | apply b2 | apply b3)); exact BK275.out) hb); have n1_ := Aside0.mk (blk_below (g := gb283) (o := .cells #[.int .i64 t280, .int .i64 t281] 32 (0, 0)) (by (with_reducible repeat (first | apply b1 | apply b2 | apply b3)); refine blk_put (cs := #[.int .i64 t280, .int .i64 0]) ?_ 1 _ rfl; (with_reducible repeat (first | apply b1 | apply b2 | apply b3)); refine blk_put (cs := #[.int .i64 0, .int .i64 0]) ?_ 0 _ rfl; (with_reducible repeat (first | apply b1 | apply b2 | apply b3)); exact BK283.out) hb); have n2_ := Aside0.mk (below_step (by repeat (first | (with_reducible first | exact HB.out | apply l1 | apply l2 | apply l3 | refine below_set ?_ GE275.out | refine below_set ?_ GE283.out) | exact HB.out)) hb); clear BK275; clear BK283; clear HB; have BK275 := n0_; have BK283 := n1_; have HB := n2_; clear n0_ n1_ n2_; (try clear hb); (try clear hb2); (try clear hk); (try clear hi); obtain ⟨hcz21_0, hcz21_1, hfz21_0, hfz21_1⟩ := blk_cells2 BK283.out))
   go_ret
   exact ⟨by first | rfl | (simp [errW_none, errW_some] <;> rfl) | (simp [*, errW_none, errW_some] <;> rfl), by repeat (first | (with_reducible first | exact HB.out | apply l1 | apply l2 | apply l3 | refine below_set ?_ GE275.out | refine below_set ?_ GE283.out) | exact HB.out)⟩
  ·rw [if_neg c6] at H
   have c6b0 : (t282 == 0) = false := beq_eq_false_iff_ne.mpr c6
   have c6b1 : (t282 != 0) = true := bne_iff_ne.mpr c6
   obtain rfl := Option.some.inj H
   go_enter Try.func8, Try.ntmps8
   try go_wp2_with (first | ((with_reducible refine gate_dst (N := 1) rfl ?_); refine box_event (by rfl) (N := 1) (by rfl) (cs := #[.string (⟨#[]⟩ : ByteArray), .slice none 0 0]) (t := 26) (by first | (go_simp; done) | (go_simp; rfl)) ?_; intro gb275 hg w22 hbox hb; obtain ⟨hb_, hw_⟩ := box_facts (by repeat (first | (with_reducible first | exact HB.out | apply l1 | apply l2 | apply l3) | exact HB.out)) hg hb; have n0_ := Aside0.mk (hb_); have n1_ := Aside0.mk (hbox); have n2_ := Aside0.mk (hw_); have n3_ := Aside0.mk (hw_); clear HB; have HB := n0_; have BK275 := n1_; have GW275 := n2_; have GE275 := n3_; clear n0_ n1_ n2_ n3_; clear hb hbox hg hb_ hw_; obtain ⟨hcz23_0, hcz23_1, hfz23_0, hfz23_1⟩ := blk_cells2 BK275.out))
   have n0_ : Aside0 (((w22.setCell ⟨gb275, 0, none⟩ (.string (⟨#[97, 32, 98, 204, 129, 228, 184, 173, 255]⟩ : ByteArray))).setCell ⟨gb275, 1, none⟩ (.slice none 0 0)).heap[gb275]? = some (.cells #[.string (⟨#[97, 32, 98, 204, 129, 228, 184, 173, 255]⟩ : ByteArray), .slice none 0 0] 26 (0, 0))) := ⟨by (with_reducible repeat (first | apply b1 | apply b2 | apply b3)); refine blk_put (cs := #[.string (⟨#[97, 32, 98, 204, 129, 228, 184, 173, 255]⟩ : ByteArray), .slice none 0 0]) ?_ 1 _ rfl; (with_reducible repeat (first | apply b1 | apply b2 | apply b3)); refine blk_put (cs := #[.string (⟨#[]⟩ : ByteArray), .slice none 0 0]) ?_ 0 _ rfl; (with_reducible repeat (first | apply b1 | apply b2 | apply b3)); exact BK275.out⟩
   have n1_ : Aside0 (Below w.heap.size w ((w22.setCell ⟨gb275, 0, none⟩ (.string (⟨#[97, 32, 98, 204, 129, 228, 184, 173, 255]⟩ : ByteArray))).setCell ⟨gb275, 1, none⟩ (.slice none 0 0))) := ⟨by repeat (first | (with_reducible first | exact HB.out | apply l1 | apply l2 | apply l3 | refine below_set ?_ GE275.out) | exact HB.out)⟩
   (try clear BK275)
   (try clear HB)
   generalize ((w22.setCell ⟨gb275, 0, none⟩ (.string (⟨#[97, 32, 98, 204, 129, 228, 184, 173, 255]⟩ : ByteArray))).setCell ⟨gb275, 1, none⟩ (.slice none 0 0)) = w24 at n0_ n1_ ⊢
   have BK275 := n0_
   have HB := n1_
   clear n0_ n1_
   have n0_ := Aside0.mk (blk_drew BK275.out)
   have n1_ := Aside0.mk (below_drew1 HB.out)
   clear BK275
   clear HB
   have BK275 := n0_
   have HB := n1_
   clear n0_ n1_
   refine start_ (n := 12) (S := fun w' => w'.cell? ⟨gb275, 0, none⟩ = some (.string (⟨#[97, 32, 98, 204, 129, 228, 184, 173, 255]⟩ : ByteArray)) ∧ w'.cell? ⟨gb275, 1, none⟩ = some (.slice none 0 0)) (ds := []) #[false, false, false, false, false, false, false, false, false, false, false, false] (by kernel_rfl) rfl rfl ⟨(blk_cell BK275.out 0).trans rfl, (blk_cell BK275.out 1).trans rfl⟩ (fun hHeld => ?_); refine with_tabW surtitlelaw11_known.tab2 surtitlelaw11_known.bits2 (fun HT_ HW_ => ?_)
   generalize w24.drew = w25 at BK275 HB hHeld ⊢
   refine pure_ (i := 2) (N := some 8) (v := ?_) (a' := ?_) #[false, false, true, false, false, false, false, false, false, false, false, false] rfl rfl (any_of HT_.out (by kernel_rfl)) (fun _ _ _ h => h) (Or.inl ⟨by rfl, ?_⟩) ?_ ?_
   rotate_left
   ·intro w'
    go_simp
    with_reducible rfl
   rotate_left
   ·simp only [Act.put, List.setIfInBounds_toArray, List.set_cons_zero, List.set_cons_succ, i64_w, i32_w]
    rfl
   refine take_ (i := 0) (N := some 6) (v := ?_) (a' := ?_) #[true, false, true, false, false, false, false, false, false, false, false, false] rfl rfl (take_ofW HT_.out HW_.out (by kernel_rfl)) (fun _ _ _ h => h) (Or.inl ⟨by rfl, ?_⟩) hHeld ?_ ?_
   rotate_left
   ·rintro w' ⟨s0, s1⟩
    go_simp
    with_reducible rfl
   rotate_left
   ·simp only [Act.put, List.setIfInBounds_toArray, List.set_cons_zero, List.set_cons_succ, i64_w, i32_w]
    rfl
   refine join_ (σ := Nat) 2 #[true, true, true, true, true, true, true, true, true, true, false, false] (fun s_ => [(7, .agg #[.int .i64 t276, .int .i64 t277]), (9, .agg #[.int .i64 t278, .int .i64 t279]), (11, .tuple #[.agg #[.int .i64 t280, .int .i64 t281], .int .i64 t282]), (2, .pointer (some ⟨s_, 0, none⟩)), (10, .agg #[.int .i64 t276, .int .i64 t277, .int .i64 1, .int .i64 5, .int .i64 t278, .int .i64 t279]), (5, .tuple #[.agg #[.int .i64 t280, .int .i64 t281], .int .i64 t282]), (12, .agg #[.int .i64 t280, .int .i64 t281]), (13, .int .i64 t282)]) (fun s_ w' => (w'.cell? ⟨gb275, 0, none⟩ = some (.string (⟨#[97, 32, 98, 204, 129, 228, 184, 173, 255]⟩ : ByteArray)) ∧ w'.cell? ⟨gb275, 1, none⟩ = some (.slice none 0 0)) ∧ (w'.heap[gb275]? = some (.cells #[.string (⟨#[97, 32, 98, 204, 129, 228, 184, 173, 255]⟩ : ByteArray), .slice none 0 0] 26 (0, 0))) ∧ (w'.heap[s_]? = some (.cells #[.int .i64 0, .int .i64 0] 32 (0, 0))) ∧ (w.heap.size ≤ s_) ∧ (w.heap.size ≤ s_) ∧ (gb275 ≠ s_) ∧ (s_ ≠ gb275) ∧ (Below w.heap.size w w')) ?_ ?_
   rotate_left
   ·intro hCont
    refine two_ (i := 1) (j := 9) (Ni := some 7) (Nj := some 2) #[true, true, true, false, false, false, false, false, false, false, false, false] #[true, false, true, false, false, false, false, false, false, true, false, false] rfl rfl rfl rfl (two_of HT_.out (by kernel_rfl)) (by decide) (by decide) (fun K hK => ?_) (fun K hK => ?_)
    ·skip
     refine goes_ Try.func20 (by kernel_rfl) rfl #[.int .i64 10] (by rfl) rfl rfl (by (try simp only [List.map_toArray, List.map_cons, List.map_nil]); first | done | rfl | (simp only [List.length_drop, List.length_take]; rfl)) ?_
     with_reducible refine (surtitlelaw11_whole.calls 10 t276 t277 _ A1.out).mono ?_
     rintro e w26 ⟨rfl, hb⟩
     refine ⟨_, rfl, ?_⟩
     have n0_ := Aside0.mk (blk_below (g := gb275) (o := .cells #[.string (⟨#[97, 32, 98, 204, 129, 228, 184, 173, 255]⟩ : ByteArray), .slice none 0 0] 26 (0, 0)) (by (with_reducible repeat (first | apply b1 | apply b2 | apply b3)); exact BK275.out) hb)
     have n1_ := Aside0.mk (below_step (by repeat (first | (with_reducible first | exact HB.out | apply l1 | apply l2 | apply l3 | refine below_set ?_ GE275.out) | exact HB.out)) hb)
     clear BK275
     clear HB
     have BK275 := n0_
     have HB := n1_
     clear n0_ n1_
     (try clear hb)
     (try clear hb2)
     (try clear hk)
     (try clear hi)
     refine hK.out _ _ ⟨(blk_cell BK275.out 0).trans rfl, (blk_cell BK275.out 1).trans rfl⟩ (fun hHeld => ?_)
     clear hK K
     refine norm_ (a' := ?_) ?_ ?_
     rotate_left
     ·show Act.put _ (some 7) _ = _
      simp only [Act.put, List.setIfInBounds_toArray, List.set_cons_zero, List.set_cons_succ, i64_w, i32_w]
      rfl
     refine two_ (i := 3) (j := 9) (Ni := some 9) (Nj := some 2) #[true, true, true, true, false, false, false, false, false, false, false, false] #[true, true, true, false, false, false, false, false, false, true, false, false] rfl rfl rfl rfl (two_of HT_.out (by kernel_rfl)) (by decide) (by decide) (fun K hK => ?_) (fun K hK => ?_)
     ·skip
      refine goes_ Try.func20 (by kernel_rfl) rfl #[.int .i64 0] (by rfl) rfl rfl (by (try simp only [List.map_toArray, List.map_cons, List.map_nil]); first | done | rfl | (simp only [List.length_drop, List.length_take]; rfl)) ?_
      with_reducible refine (surtitlelaw11_whole.calls 0 t278 t279 _ A2.out).mono ?_
      rintro e w27 ⟨rfl, hb⟩
      refine ⟨_, rfl, ?_⟩
      have n0_ := Aside0.mk (blk_below (g := gb275) (o := .cells #[.string (⟨#[97, 32, 98, 204, 129, 228, 184, 173, 255]⟩ : ByteArray), .slice none 0 0] 26 (0, 0)) (by (with_reducible repeat (first | apply b1 | apply b2 | apply b3)); exact BK275.out) hb)
      have n1_ := Aside0.mk (below_step (by repeat (first | (with_reducible first | exact HB.out | apply l1 | apply l2 | apply l3 | refine below_set ?_ GE275.out) | exact HB.out)) hb)
      clear BK275
      clear HB
      have BK275 := n0_
      have HB := n1_
      clear n0_ n1_
      (try clear hb)
      (try clear hb2)
      (try clear hk)
      (try clear hi)
      refine hK.out _ _ ⟨(blk_cell BK275.out 0).trans rfl, (blk_cell BK275.out 1).trans rfl⟩ (fun hHeld => ?_)
      clear hK K
      refine norm_ (a' := ?_) ?_ ?_
      rotate_left
      ·show Act.put _ (some 9) _ = _
       simp only [Act.put, List.setIfInBounds_toArray, List.set_cons_zero, List.set_cons_succ, i64_w, i32_w]
       rfl
      refine pure_ (i := 4) (N := some 10) (v := ?_) (a' := ?_) #[true, true, true, true, true, false, false, false, false, false, false, false] rfl rfl (any_of HT_.out (by kernel_rfl)) (fun _ _ _ h => h) (Or.inl ⟨by rfl, ?_⟩) ?_ ?_
      rotate_left
      ·intro w'
       go_simp
       with_reducible rfl
      rotate_left
      ·simp only [Act.put, List.setIfInBounds_toArray, List.set_cons_zero, List.set_cons_succ, i64_w, i32_w]
       rfl
      refine two_ (i := 5) (j := 9) (Ni := some 11) (Nj := some 2) #[true, true, true, true, true, true, false, false, false, false, false, false] #[true, true, true, true, true, false, false, false, false, true, false, false] rfl rfl rfl rfl (two_of HT_.out (by kernel_rfl)) (by decide) (by decide) (fun K hK => ?_) (fun K hK => ?_)
      ·skip
       refine goes_ Try.func17 (by kernel_rfl) rfl #[.agg #[.string (⟨#[97, 32, 98, 204, 129, 228, 184, 173, 255]⟩ : ByteArray), .slice none 0 0], .agg #[.int .i64 t276, .int .i64 t277, .int .i64 1, .int .i64 5, .int .i64 t278, .int .i64 t279]] (by rfl) rfl rfl (by (try simp only [List.map_toArray, List.map_cons, List.map_nil]); first | done | rfl | (simp only [List.length_drop, List.length_take]; rfl)) ?_
       refine (speed_Wants.calls k (⟨#[97, 32, 98, 204, 129, 228, 184, 173, 255]⟩ : ByteArray) _ _ ([] : List (S63)) t276 t277 1 5 t278 t279 t280 t281 t282 _ ?side1 ?side2 A3.out).mono ?_
       (case side1 => exact Kd.C_nil _ _)
       (case side2 => exact Nat.le_refl _)
       rintro e w28 ⟨rfl, hb⟩
       refine ⟨_, rfl, ?_⟩
       have n0_ := Aside0.mk (blk_below (g := gb275) (o := .cells #[.string (⟨#[97, 32, 98, 204, 129, 228, 184, 173, 255]⟩ : ByteArray), .slice none 0 0] 26 (0, 0)) (by (with_reducible repeat (first | apply b1 | apply b2 | apply b3)); exact BK275.out) hb)
       have n1_ := Aside0.mk (below_step (by repeat (first | (with_reducible first | exact HB.out | apply l1 | apply l2 | apply l3 | refine below_set ?_ GE275.out) | exact HB.out)) hb)
       clear BK275
       clear HB
       have BK275 := n0_
       have HB := n1_
       clear n0_ n1_
       (try clear hb)
       (try clear hb2)
       (try clear hk)
       (try clear hi)
       refine hK.out _ _ ⟨(blk_cell BK275.out 0).trans rfl, (blk_cell BK275.out 1).trans rfl⟩ (fun hHeld => ?_)
       clear hK K
       refine norm_ (a' := ?_) ?_ ?_
       rotate_left
       ·show Act.put _ (some 11) _ = _
        simp only [Act.put, List.setIfInBounds_toArray, List.set_cons_zero, List.set_cons_succ, i64_w, i32_w]
        rfl
       refine pure_ (i := 6) (N := some 5) (v := ?_) (a' := ?_) #[true, true, true, true, true, true, true, false, false, false, false, false] rfl rfl (any_of HT_.out (by kernel_rfl)) (fun _ _ _ h => h) (Or.inl ⟨by rfl, ?_⟩) ?_ ?_
       rotate_left
       ·intro w'
        go_simp
        with_reducible rfl
       rotate_left
       ·simp only [Act.put, List.setIfInBounds_toArray, List.set_cons_zero, List.set_cons_succ, i64_w, i32_w]
        rfl
       refine pure_ (i := 7) (N := some 12) (v := ?_) (a' := ?_) #[true, true, true, true, true, true, true, true, false, false, false, false] rfl rfl (any_of HT_.out (by kernel_rfl)) (fun _ _ _ h => h) (Or.inl ⟨by rfl, ?_⟩) ?_ ?_
       rotate_left
       ·intro w'
        go_simp
        with_reducible rfl
       rotate_left
       ·simp only [Act.put, List.setIfInBounds_toArray, List.set_cons_zero, List.set_cons_succ, i64_w, i32_w]
        rfl
       refine pure_ (i := 8) (N := some 13) (v := ?_) (a' := ?_) #[true, true, true, true, true, true, true, true, true, false, false, false] rfl rfl (any_of HT_.out (by kernel_rfl)) (fun _ _ _ h => h) (Or.inl ⟨by rfl, ?_⟩) ?_ ?_
       rotate_left
       ·intro w'
        go_simp
        with_reducible rfl
       rotate_left
       ·simp only [Act.put, List.setIfInBounds_toArray, List.set_cons_zero, List.set_cons_succ, i64_w, i32_w]
        rfl
       refine one_ (i := 9) (N := some 2) #[true, true, true, true, true, true, true, true, true, true, false, false] rfl rfl (one_of HT_.out (by kernel_rfl)) (by decide) (fun K hK => ?_)
       refine box_step (by rfl) (N := 2) (by rfl) (cs := #[.int .i64 0, .int .i64 0]) (t := 32) (by first | (go_simp; done) | (go_simp; rfl)) ?_
       intro gb283 hg w29 hbox hb
       obtain ⟨hb_, hw_⟩ := box_facts (by repeat (first | (with_reducible first | exact HB.out | apply l1 | apply l2 | apply l3 | refine below_set ?_ GE275.out) | exact HB.out)) hg hb
       have n0_ := Aside0.mk (blk_below (g := gb275) (o := .cells #[.string (⟨#[97, 32, 98, 204, 129, 228, 184, 173, 255]⟩ : ByteArray), .slice none 0 0] 26 (0, 0)) (by (with_reducible repeat (first | apply b1 | apply b2 | apply b3)); exact BK275.out) hb)
       have n1_ := Aside0.mk (hb_)
       have n2_ := Aside0.mk (hbox)
       have n3_ := Aside0.mk (hw_)
       have n4_ := Aside0.mk (hw_)
       have n5_ := Aside0.mk ((by rw [hg]; exact Nat.ne_of_lt (blk_lt (g := gb275) (o := .cells #[.string (⟨#[97, 32, 98, 204, 129, 228, 184, 173, 255]⟩ : ByteArray), .slice none 0 0] 26 (0, 0)) (by (with_reducible repeat (first | apply b1 | apply b2 | apply b3)); exact BK275.out)) : gb275 ≠ gb283))
       have n6_ := Aside0.mk ((by rw [hg]; exact Nat.ne_of_gt (blk_lt (g := gb275) (o := .cells #[.string (⟨#[97, 32, 98, 204, 129, 228, 184, 173, 255]⟩ : ByteArray), .slice none 0 0] 26 (0, 0)) (by (with_reducible repeat (first | apply b1 | apply b2 | apply b3)); exact BK275.out)) : gb283 ≠ gb275))
       clear BK275
       clear HB
       have BK275 := n0_
       have HB := n1_
       have BK283 := n2_
       have GW283 := n3_
       have GE283 := n4_
       have NB275_283 := n5_
       have NB283_275 := n6_
       clear n0_ n1_ n2_ n3_ n4_ n5_ n6_
       clear hb hbox hg hb_ hw_
       refine hK.out _ _ ⟨(blk_cell BK275.out 0).trans rfl, (blk_cell BK275.out 1).trans rfl⟩ (fun hHeld => ?_)
       clear hK K
       refine norm_ (a' := ?_) ?_ ?_
       rotate_left
       ·show Act.put _ (some 2) _ = _
        simp only [Act.put, List.setIfInBounds_toArray, List.set_cons_zero, List.set_cons_succ, i64_w, i32_w]
        rfl
       exact norm_ (by simp only [putAll, Act.put, List.setIfInBounds_toArray, List.set_cons_zero, List.set_cons_succ]) (hCont (gb283) _ ⟨hHeld, (by (with_reducible repeat (first | apply b1 | apply b2 | apply b3)); exact BK275.out), (by (with_reducible repeat (first | apply b1 | apply b2 | apply b3)); exact BK283.out), GW283.out, GE283.out, NB275_283.out, NB283_275.out, (by repeat (first | (with_reducible first | exact HB.out | apply l1 | apply l2 | apply l3 | refine below_set ?_ GE275.out | refine below_set ?_ GE283.out) | exact HB.out))⟩)
      ·skip
       refine box_step (by rfl) (N := 2) (by rfl) (cs := #[.int .i64 0, .int .i64 0]) (t := 32) (by first | (go_simp; done) | (go_simp; rfl)) ?_
       intro gb283 hg w28 hbox hb
       obtain ⟨hb_, hw_⟩ := box_facts (by repeat (first | (with_reducible first | exact HB.out | apply l1 | apply l2 | apply l3 | refine below_set ?_ GE275.out) | exact HB.out)) hg hb
       have n0_ := Aside0.mk (blk_below (g := gb275) (o := .cells #[.string (⟨#[97, 32, 98, 204, 129, 228, 184, 173, 255]⟩ : ByteArray), .slice none 0 0] 26 (0, 0)) (by (with_reducible repeat (first | apply b1 | apply b2 | apply b3)); exact BK275.out) hb)
       have n1_ := Aside0.mk (hb_)
       have n2_ := Aside0.mk (hbox)
       have n3_ := Aside0.mk (hw_)
       have n4_ := Aside0.mk (hw_)
       have n5_ := Aside0.mk ((by rw [hg]; exact Nat.ne_of_lt (blk_lt (g := gb275) (o := .cells #[.string (⟨#[97, 32, 98, 204, 129, 228, 184, 173, 255]⟩ : ByteArray), .slice none 0 0] 26 (0, 0)) (by (with_reducible repeat (first | apply b1 | apply b2 | apply b3)); exact BK275.out)) : gb275 ≠ gb283))
       have n6_ := Aside0.mk ((by rw [hg]; exact Nat.ne_of_gt (blk_lt (g := gb275) (o := .cells #[.string (⟨#[97, 32, 98, 204, 129, 228, 184, 173, 255]⟩ : ByteArray), .slice none 0 0] 26 (0, 0)) (by (with_reducible repeat (first | apply b1 | apply b2 | apply b3)); exact BK275.out)) : gb283 ≠ gb275))
       clear BK275
       clear HB
       have BK275 := n0_
       have HB := n1_
       have BK283 := n2_
       have GW283 := n3_
       have GE283 := n4_
       have NB275_283 := n5_
       have NB283_275 := n6_
       clear n0_ n1_ n2_ n3_ n4_ n5_ n6_
       clear hb hbox hg hb_ hw_
       refine hK.out _ _ ⟨(blk_cell BK275.out 0).trans rfl, (blk_cell BK275.out 1).trans rfl⟩ (fun hHeld => ?_)
       clear hK K
       refine norm_ (a' := ?_) ?_ ?_
       rotate_left
       ·show Act.put _ (some 2) _ = _
        simp only [Act.put, List.setIfInBounds_toArray, List.set_cons_zero, List.set_cons_succ, i64_w, i32_w]
        rfl
       refine one_ (i := 5) (N := some 11) #[true, true, true, true, true, true, false, false, false, true, false, false] rfl rfl (one_of HT_.out (by kernel_rfl)) (by decide) (fun K hK => ?_)
       refine goes_ Try.func17 (by kernel_rfl) rfl #[.agg #[.string (⟨#[97, 32, 98, 204, 129, 228, 184, 173, 255]⟩ : ByteArray), .slice none 0 0], .agg #[.int .i64 t276, .int .i64 t277, .int .i64 1, .int .i64 5, .int .i64 t278, .int .i64 t279]] (by rfl) rfl rfl (by (try simp only [List.map_toArray, List.map_cons, List.map_nil]); first | done | rfl | (simp only [List.length_drop, List.length_take]; rfl)) ?_
       refine (speed_Wants.calls k (⟨#[97, 32, 98, 204, 129, 228, 184, 173, 255]⟩ : ByteArray) _ _ ([] : List (S63)) t276 t277 1 5 t278 t279 t280 t281 t282 _ ?side1 ?side2 A3.out).mono ?_
       (case side1 => exact Kd.C_nil _ _)
       (case side2 => exact Nat.le_refl _)
       rintro e w29 ⟨rfl, hb⟩
       refine ⟨_, rfl, ?_⟩
       have n0_ := Aside0.mk (blk_below (g := gb275) (o := .cells #[.string (⟨#[97, 32, 98, 204, 129, 228, 184, 173, 255]⟩ : ByteArray), .slice none 0 0] 26 (0, 0)) (by (with_reducible repeat (first | apply b1 | apply b2 | apply b3)); exact BK275.out) hb)
       have n1_ := Aside0.mk (blk_below (g := gb283) (o := .cells #[.int .i64 0, .int .i64 0] 32 (0, 0)) (by (with_reducible repeat (first | apply b1 | apply b2 | apply b3)); exact BK283.out) hb)
       have n2_ := Aside0.mk (below_step (by repeat (first | (with_reducible first | exact HB.out | apply l1 | apply l2 | apply l3 | refine below_set ?_ GE275.out | refine below_set ?_ GE283.out) | exact HB.out)) hb)
       clear BK275
       clear BK283
       clear HB
       have BK275 := n0_
       have BK283 := n1_
       have HB := n2_
       clear n0_ n1_ n2_
       (try clear hb)
       (try clear hb2)
       (try clear hk)
       (try clear hi)
       refine hK.out _ _ ⟨(blk_cell BK275.out 0).trans rfl, (blk_cell BK275.out 1).trans rfl⟩ (fun hHeld => ?_)
       clear hK K
       refine norm_ (a' := ?_) ?_ ?_
       rotate_left
       ·show Act.put _ (some 11) _ = _
        simp only [Act.put, List.setIfInBounds_toArray, List.set_cons_zero, List.set_cons_succ, i64_w, i32_w]
        rfl
       refine pure_ (i := 6) (N := some 5) (v := ?_) (a' := ?_) #[true, true, true, true, true, true, true, false, false, true, false, false] rfl rfl (any_of HT_.out (by kernel_rfl)) (fun _ _ _ h => h) (Or.inl ⟨by rfl, ?_⟩) ?_ ?_
       rotate_left
       ·intro w'
        go_simp
        with_reducible rfl
       rotate_left
       ·simp only [Act.put, List.setIfInBounds_toArray, List.set_cons_zero, List.set_cons_succ, i64_w, i32_w]
        rfl
       refine pure_ (i := 7) (N := some 12) (v := ?_) (a' := ?_) #[true, true, true, true, true, true, true, true, false, true, false, false] rfl rfl (any_of HT_.out (by kernel_rfl)) (fun _ _ _ h => h) (Or.inl ⟨by rfl, ?_⟩) ?_ ?_
       rotate_left
       ·intro w'
        go_simp
        with_reducible rfl
       rotate_left
       ·simp only [Act.put, List.setIfInBounds_toArray, List.set_cons_zero, List.set_cons_succ, i64_w, i32_w]
        rfl
       refine pure_ (i := 8) (N := some 13) (v := ?_) (a' := ?_) #[true, true, true, true, true, true, true, true, true, true, false, false] rfl rfl (any_of HT_.out (by kernel_rfl)) (fun _ _ _ h => h) (Or.inl ⟨by rfl, ?_⟩) ?_ ?_
       rotate_left
       ·intro w'
        go_simp
        with_reducible rfl
       rotate_left
       ·simp only [Act.put, List.setIfInBounds_toArray, List.set_cons_zero, List.set_cons_succ, i64_w, i32_w]
        rfl
       exact norm_ (by simp only [putAll, Act.put, List.setIfInBounds_toArray, List.set_cons_zero, List.set_cons_succ]) (hCont (gb283) _ ⟨hHeld, (by (with_reducible repeat (first | apply b1 | apply b2 | apply b3)); exact BK275.out), (by (with_reducible repeat (first | apply b1 | apply b2 | apply b3)); exact BK283.out), GW283.out, GE283.out, NB275_283.out, NB283_275.out, (by repeat (first | (with_reducible first | exact HB.out | apply l1 | apply l2 | apply l3 | refine below_set ?_ GE275.out | refine below_set ?_ GE283.out) | exact HB.out))⟩)
     ·skip
      refine box_step (by rfl) (N := 2) (by rfl) (cs := #[.int .i64 0, .int .i64 0]) (t := 32) (by first | (go_simp; done) | (go_simp; rfl)) ?_
      intro gb283 hg w27 hbox hb
      obtain ⟨hb_, hw_⟩ := box_facts (by repeat (first | (with_reducible first | exact HB.out | apply l1 | apply l2 | apply l3 | refine below_set ?_ GE275.out) | exact HB.out)) hg hb
      have n0_ := Aside0.mk (blk_below (g := gb275) (o := .cells #[.string (⟨#[97, 32, 98, 204, 129, 228, 184, 173, 255]⟩ : ByteArray), .slice none 0 0] 26 (0, 0)) (by (with_reducible repeat (first | apply b1 | apply b2 | apply b3)); exact BK275.out) hb)
      have n1_ := Aside0.mk (hb_)
      have n2_ := Aside0.mk (hbox)
      have n3_ := Aside0.mk (hw_)
      have n4_ := Aside0.mk (hw_)
      have n5_ := Aside0.mk ((by rw [hg]; exact Nat.ne_of_lt (blk_lt (g := gb275) (o := .cells #[.string (⟨#[97, 32, 98, 204, 129, 228, 184, 173, 255]⟩ : ByteArray), .slice none 0 0] 26 (0, 0)) (by (with_reducible repeat (first | apply b1 | apply b2 | apply b3)); exact BK275.out)) : gb275 ≠ gb283))
      have n6_ := Aside0.mk ((by rw [hg]; exact Nat.ne_of_gt (blk_lt (g := gb275) (o := .cells #[.string (⟨#[97, 32, 98, 204, 129, 228, 184, 173, 255]⟩ : ByteArray), .slice none 0 0] 26 (0, 0)) (by (with_reducible repeat (first | apply b1 | apply b2 | apply b3)); exact BK275.out)) : gb283 ≠ gb275))
      clear BK275
      clear HB
      have BK275 := n0_
      have HB := n1_
      have BK283 := n2_
      have GW283 := n3_
      have GE283 := n4_
      have NB275_283 := n5_
      have NB283_275 := n6_
      clear n0_ n1_ n2_ n3_ n4_ n5_ n6_
      clear hb hbox hg hb_ hw_
      refine hK.out _ _ ⟨(blk_cell BK275.out 0).trans rfl, (blk_cell BK275.out 1).trans rfl⟩ (fun hHeld => ?_)
      clear hK K
      refine norm_ (a' := ?_) ?_ ?_
      rotate_left
      ·show Act.put _ (some 2) _ = _
       simp only [Act.put, List.setIfInBounds_toArray, List.set_cons_zero, List.set_cons_succ, i64_w, i32_w]
       rfl
      refine one_ (i := 3) (N := some 9) #[true, true, true, true, false, false, false, false, false, true, false, false] rfl rfl (one_of HT_.out (by kernel_rfl)) (by decide) (fun K hK => ?_)
      refine goes_ Try.func20 (by kernel_rfl) rfl #[.int .i64 0] (by rfl) rfl rfl (by (try simp only [List.map_toArray, List.map_cons, List.map_nil]); first | done | rfl | (simp only [List.length_drop, List.length_take]; rfl)) ?_
      with_reducible refine (surtitlelaw11_whole.calls 0 t278 t279 _ A2.out).mono ?_
      rintro e w28 ⟨rfl, hb⟩
      refine ⟨_, rfl, ?_⟩
      have n0_ := Aside0.mk (blk_below (g := gb275) (o := .cells #[.string (⟨#[97, 32, 98, 204, 129, 228, 184, 173, 255]⟩ : ByteArray), .slice none 0 0] 26 (0, 0)) (by (with_reducible repeat (first | apply b1 | apply b2 | apply b3)); exact BK275.out) hb)
      have n1_ := Aside0.mk (blk_below (g := gb283) (o := .cells #[.int .i64 0, .int .i64 0] 32 (0, 0)) (by (with_reducible repeat (first | apply b1 | apply b2 | apply b3)); exact BK283.out) hb)
      have n2_ := Aside0.mk (below_step (by repeat (first | (with_reducible first | exact HB.out | apply l1 | apply l2 | apply l3 | refine below_set ?_ GE275.out | refine below_set ?_ GE283.out) | exact HB.out)) hb)
      clear BK275
      clear BK283
      clear HB
      have BK275 := n0_
      have BK283 := n1_
      have HB := n2_
      clear n0_ n1_ n2_
      (try clear hb)
      (try clear hb2)
      (try clear hk)
      (try clear hi)
      refine hK.out _ _ ⟨(blk_cell BK275.out 0).trans rfl, (blk_cell BK275.out 1).trans rfl⟩ (fun hHeld => ?_)
      clear hK K
      refine norm_ (a' := ?_) ?_ ?_
      rotate_left
      ·show Act.put _ (some 9) _ = _
       simp only [Act.put, List.setIfInBounds_toArray, List.set_cons_zero, List.set_cons_succ, i64_w, i32_w]
       rfl
      refine pure_ (i := 4) (N := some 10) (v := ?_) (a' := ?_) #[true, true, true, true, true, false, false, false, false, true, false, false] rfl rfl (any_of HT_.out (by kernel_rfl)) (fun _ _ _ h => h) (Or.inl ⟨by rfl, ?_⟩) ?_ ?_
      rotate_left
      ·intro w'
       go_simp
       with_reducible rfl
      rotate_left
      ·simp only [Act.put, List.setIfInBounds_toArray, List.set_cons_zero, List.set_cons_succ, i64_w, i32_w]
       rfl
      refine one_ (i := 5) (N := some 11) #[true, true, true, true, true, true, false, false, false, true, false, false] rfl rfl (one_of HT_.out (by kernel_rfl)) (by decide) (fun K hK => ?_)
      refine goes_ Try.func17 (by kernel_rfl) rfl #[.agg #[.string (⟨#[97, 32, 98, 204, 129, 228, 184, 173, 255]⟩ : ByteArray), .slice none 0 0], .agg #[.int .i64 t276, .int .i64 t277, .int .i64 1, .int .i64 5, .int .i64 t278, .int .i64 t279]] (by rfl) rfl rfl (by (try simp only [List.map_toArray, List.map_cons, List.map_nil]); first | done | rfl | (simp only [List.length_drop, List.length_take]; rfl)) ?_
      refine (speed_Wants.calls k (⟨#[97, 32, 98, 204, 129, 228, 184, 173, 255]⟩ : ByteArray) _ _ ([] : List (S63)) t276 t277 1 5 t278 t279 t280 t281 t282 _ ?side1 ?side2 A3.out).mono ?_
      (case side1 => exact Kd.C_nil _ _)
      (case side2 => exact Nat.le_refl _)
      rintro e w29 ⟨rfl, hb⟩
      refine ⟨_, rfl, ?_⟩
      have n0_ := Aside0.mk (blk_below (g := gb275) (o := .cells #[.string (⟨#[97, 32, 98, 204, 129, 228, 184, 173, 255]⟩ : ByteArray), .slice none 0 0] 26 (0, 0)) (by (with_reducible repeat (first | apply b1 | apply b2 | apply b3)); exact BK275.out) hb)
      have n1_ := Aside0.mk (blk_below (g := gb283) (o := .cells #[.int .i64 0, .int .i64 0] 32 (0, 0)) (by (with_reducible repeat (first | apply b1 | apply b2 | apply b3)); exact BK283.out) hb)
      have n2_ := Aside0.mk (below_step (by repeat (first | (with_reducible first | exact HB.out | apply l1 | apply l2 | apply l3 | refine below_set ?_ GE275.out | refine below_set ?_ GE283.out) | exact HB.out)) hb)
      clear BK275
      clear BK283
      clear HB
      have BK275 := n0_
      have BK283 := n1_
      have HB := n2_
      clear n0_ n1_ n2_
      (try clear hb)
      (try clear hb2)
      (try clear hk)
      (try clear hi)
      refine hK.out _ _ ⟨(blk_cell BK275.out 0).trans rfl, (blk_cell BK275.out 1).trans rfl⟩ (fun hHeld => ?_)
      clear hK K
      refine norm_ (a' := ?_) ?_ ?_
      rotate_left
      ·show Act.put _ (some 11) _ = _
       simp only [Act.put, List.setIfInBounds_toArray, List.set_cons_zero, List.set_cons_succ, i64_w, i32_w]
       rfl
      refine pure_ (i := 6) (N := some 5) (v := ?_) (a' := ?_) #[true, true, true, true, true, true, true, false, false, true, false, false] rfl rfl (any_of HT_.out (by kernel_rfl)) (fun _ _ _ h => h) (Or.inl ⟨by rfl, ?_⟩) ?_ ?_
      rotate_left
      ·intro w'
       go_simp
       with_reducible rfl
      rotate_left
      ·simp only [Act.put, List.setIfInBounds_toArray, List.set_cons_zero, List.set_cons_succ, i64_w, i32_w]
       rfl
      refine pure_ (i := 7) (N := some 12) (v := ?_) (a' := ?_) #[true, true, true, true, true, true, true, true, false, true, false, false] rfl rfl (any_of HT_.out (by kernel_rfl)) (fun _ _ _ h => h) (Or.inl ⟨by rfl, ?_⟩) ?_ ?_
      rotate_left
      ·intro w'
       go_simp
       with_reducible rfl
      rotate_left
      ·simp only [Act.put, List.setIfInBounds_toArray, List.set_cons_zero, List.set_cons_succ, i64_w, i32_w]
       rfl
      refine pure_ (i := 8) (N := some 13) (v := ?_) (a' := ?_) #[true, true, true, true, true, true, true, true, true, true, false, false] rfl rfl (any_of HT_.out (by kernel_rfl)) (fun _ _ _ h => h) (Or.inl ⟨by rfl, ?_⟩) ?_ ?_
      rotate_left
      ·intro w'
       go_simp
       with_reducible rfl
      rotate_left
      ·simp only [Act.put, List.setIfInBounds_toArray, List.set_cons_zero, List.set_cons_succ, i64_w, i32_w]
       rfl
      exact norm_ (by simp only [putAll, Act.put, List.setIfInBounds_toArray, List.set_cons_zero, List.set_cons_succ]) (hCont (gb283) _ ⟨hHeld, (by (with_reducible repeat (first | apply b1 | apply b2 | apply b3)); exact BK275.out), (by (with_reducible repeat (first | apply b1 | apply b2 | apply b3)); exact BK283.out), GW283.out, GE283.out, NB275_283.out, NB283_275.out, (by repeat (first | (with_reducible first | exact HB.out | apply l1 | apply l2 | apply l3 | refine below_set ?_ GE275.out | refine below_set ?_ GE283.out) | exact HB.out))⟩)
    ·skip
     refine box_step (by rfl) (N := 2) (by rfl) (cs := #[.int .i64 0, .int .i64 0]) (t := 32) (by first | (go_simp; done) | (go_simp; rfl)) ?_
     intro gb283 hg w26 hbox hb
     obtain ⟨hb_, hw_⟩ := box_facts (by repeat (first | (with_reducible first | exact HB.out | apply l1 | apply l2 | apply l3 | refine below_set ?_ GE275.out) | exact HB.out)) hg hb
     have n0_ := Aside0.mk (blk_below (g := gb275) (o := .cells #[.string (⟨#[97, 32, 98, 204, 129, 228, 184, 173, 255]⟩ : ByteArray), .slice none 0 0] 26 (0, 0)) (by (with_reducible repeat (first | apply b1 | apply b2 | apply b3)); exact BK275.out) hb)
     have n1_ := Aside0.mk (hb_)
     have n2_ := Aside0.mk (hbox)
     have n3_ := Aside0.mk (hw_)
     have n4_ := Aside0.mk (hw_)
     have n5_ := Aside0.mk ((by rw [hg]; exact Nat.ne_of_lt (blk_lt (g := gb275) (o := .cells #[.string (⟨#[97, 32, 98, 204, 129, 228, 184, 173, 255]⟩ : ByteArray), .slice none 0 0] 26 (0, 0)) (by (with_reducible repeat (first | apply b1 | apply b2 | apply b3)); exact BK275.out)) : gb275 ≠ gb283))
     have n6_ := Aside0.mk ((by rw [hg]; exact Nat.ne_of_gt (blk_lt (g := gb275) (o := .cells #[.string (⟨#[97, 32, 98, 204, 129, 228, 184, 173, 255]⟩ : ByteArray), .slice none 0 0] 26 (0, 0)) (by (with_reducible repeat (first | apply b1 | apply b2 | apply b3)); exact BK275.out)) : gb283 ≠ gb275))
     clear BK275
     clear HB
     have BK275 := n0_
     have HB := n1_
     have BK283 := n2_
     have GW283 := n3_
     have GE283 := n4_
     have NB275_283 := n5_
     have NB283_275 := n6_
     clear n0_ n1_ n2_ n3_ n4_ n5_ n6_
     clear hb hbox hg hb_ hw_
     refine hK.out _ _ ⟨(blk_cell BK275.out 0).trans rfl, (blk_cell BK275.out 1).trans rfl⟩ (fun hHeld => ?_)
     clear hK K
     refine norm_ (a' := ?_) ?_ ?_
     rotate_left
     ·show Act.put _ (some 2) _ = _
      simp only [Act.put, List.setIfInBounds_toArray, List.set_cons_zero, List.set_cons_succ, i64_w, i32_w]
      rfl
     refine one_ (i := 1) (N := some 7) #[true, true, true, false, false, false, false, false, false, true, false, false] rfl rfl (one_of HT_.out (by kernel_rfl)) (by decide) (fun K hK => ?_)
     refine goes_ Try.func20 (by kernel_rfl) rfl #[.int .i64 10] (by rfl) rfl rfl (by (try simp only [List.map_toArray, List.map_cons, List.map_nil]); first | done | rfl | (simp only [List.length_drop, List.length_take]; rfl)) ?_
     with_reducible refine (surtitlelaw11_whole.calls 10 t276 t277 _ A1.out).mono ?_
     rintro e w27 ⟨rfl, hb⟩
     refine ⟨_, rfl, ?_⟩
     have n0_ := Aside0.mk (blk_below (g := gb275) (o := .cells #[.string (⟨#[97, 32, 98, 204, 129, 228, 184, 173, 255]⟩ : ByteArray), .slice none 0 0] 26 (0, 0)) (by (with_reducible repeat (first | apply b1 | apply b2 | apply b3)); exact BK275.out) hb)
     have n1_ := Aside0.mk (blk_below (g := gb283) (o := .cells #[.int .i64 0, .int .i64 0] 32 (0, 0)) (by (with_reducible repeat (first | apply b1 | apply b2 | apply b3)); exact BK283.out) hb)
     have n2_ := Aside0.mk (below_step (by repeat (first | (with_reducible first | exact HB.out | apply l1 | apply l2 | apply l3 | refine below_set ?_ GE275.out | refine below_set ?_ GE283.out) | exact HB.out)) hb)
     clear BK275
     clear BK283
     clear HB
     have BK275 := n0_
     have BK283 := n1_
     have HB := n2_
     clear n0_ n1_ n2_
     (try clear hb)
     (try clear hb2)
     (try clear hk)
     (try clear hi)
     refine hK.out _ _ ⟨(blk_cell BK275.out 0).trans rfl, (blk_cell BK275.out 1).trans rfl⟩ (fun hHeld => ?_)
     clear hK K
     refine norm_ (a' := ?_) ?_ ?_
     rotate_left
     ·show Act.put _ (some 7) _ = _
      simp only [Act.put, List.setIfInBounds_toArray, List.set_cons_zero, List.set_cons_succ, i64_w, i32_w]
      rfl
     refine one_ (i := 3) (N := some 9) #[true, true, true, true, false, false, false, false, false, true, false, false] rfl rfl (one_of HT_.out (by kernel_rfl)) (by decide) (fun K hK => ?_)
     refine goes_ Try.func20 (by kernel_rfl) rfl #[.int .i64 0] (by rfl) rfl rfl (by (try simp only [List.map_toArray, List.map_cons, List.map_nil]); first | done | rfl | (simp only [List.length_drop, List.length_take]; rfl)) ?_
     with_reducible refine (surtitlelaw11_whole.calls 0 t278 t279 _ A2.out).mono ?_
     rintro e w28 ⟨rfl, hb⟩
     refine ⟨_, rfl, ?_⟩
     have n0_ := Aside0.mk (blk_below (g := gb275) (o := .cells #[.string (⟨#[97, 32, 98, 204, 129, 228, 184, 173, 255]⟩ : ByteArray), .slice none 0 0] 26 (0, 0)) (by (with_reducible repeat (first | apply b1 | apply b2 | apply b3)); exact BK275.out) hb)
     have n1_ := Aside0.mk (blk_below (g := gb283) (o := .cells #[.int .i64 0, .int .i64 0] 32 (0, 0)) (by (with_reducible repeat (first | apply b1 | apply b2 | apply b3)); exact BK283.out) hb)
     have n2_ := Aside0.mk (below_step (by repeat (first | (with_reducible first | exact HB.out | apply l1 | apply l2 | apply l3 | refine below_set ?_ GE275.out | refine below_set ?_ GE283.out) | exact HB.out)) hb)
     clear BK275
     clear BK283
     clear HB
     have BK275 := n0_
     have BK283 := n1_
     have HB := n2_
     clear n0_ n1_ n2_
     (try clear hb)
     (try clear hb2)
     (try clear hk)
     (try clear hi)
     refine hK.out _ _ ⟨(blk_cell BK275.out 0).trans rfl, (blk_cell BK275.out 1).trans rfl⟩ (fun hHeld => ?_)
     clear hK K
     refine norm_ (a' := ?_) ?_ ?_
     rotate_left
     ·show Act.put _ (some 9) _ = _
      simp only [Act.put, List.setIfInBounds_toArray, List.set_cons_zero, List.set_cons_succ, i64_w, i32_w]
      rfl
     refine pure_ (i := 4) (N := some 10) (v := ?_) (a' := ?_) #[true, true, true, true, true, false, false, false, false, true, false, false] rfl rfl (any_of HT_.out (by kernel_rfl)) (fun _ _ _ h => h) (Or.inl ⟨by rfl, ?_⟩) ?_ ?_
     rotate_left
     ·intro w'
      go_simp
      with_reducible rfl
     rotate_left
     ·simp only [Act.put, List.setIfInBounds_toArray, List.set_cons_zero, List.set_cons_succ, i64_w, i32_w]
      rfl
     refine one_ (i := 5) (N := some 11) #[true, true, true, true, true, true, false, false, false, true, false, false] rfl rfl (one_of HT_.out (by kernel_rfl)) (by decide) (fun K hK => ?_)
     refine goes_ Try.func17 (by kernel_rfl) rfl #[.agg #[.string (⟨#[97, 32, 98, 204, 129, 228, 184, 173, 255]⟩ : ByteArray), .slice none 0 0], .agg #[.int .i64 t276, .int .i64 t277, .int .i64 1, .int .i64 5, .int .i64 t278, .int .i64 t279]] (by rfl) rfl rfl (by (try simp only [List.map_toArray, List.map_cons, List.map_nil]); first | done | rfl | (simp only [List.length_drop, List.length_take]; rfl)) ?_
     refine (speed_Wants.calls k (⟨#[97, 32, 98, 204, 129, 228, 184, 173, 255]⟩ : ByteArray) _ _ ([] : List (S63)) t276 t277 1 5 t278 t279 t280 t281 t282 _ ?side1 ?side2 A3.out).mono ?_
     (case side1 => exact Kd.C_nil _ _)
     (case side2 => exact Nat.le_refl _)
     rintro e w29 ⟨rfl, hb⟩
     refine ⟨_, rfl, ?_⟩
     have n0_ := Aside0.mk (blk_below (g := gb275) (o := .cells #[.string (⟨#[97, 32, 98, 204, 129, 228, 184, 173, 255]⟩ : ByteArray), .slice none 0 0] 26 (0, 0)) (by (with_reducible repeat (first | apply b1 | apply b2 | apply b3)); exact BK275.out) hb)
     have n1_ := Aside0.mk (blk_below (g := gb283) (o := .cells #[.int .i64 0, .int .i64 0] 32 (0, 0)) (by (with_reducible repeat (first | apply b1 | apply b2 | apply b3)); exact BK283.out) hb)
     have n2_ := Aside0.mk (below_step (by repeat (first | (with_reducible first | exact HB.out | apply l1 | apply l2 | apply l3 | refine below_set ?_ GE275.out | refine below_set ?_ GE283.out) | exact HB.out)) hb)
     clear BK275
     clear BK283
     clear HB
     have BK275 := n0_
     have BK283 := n1_
     have HB := n2_
     clear n0_ n1_ n2_
     (try clear hb)
     (try clear hb2)
     (try clear hk)
     (try clear hi)
     refine hK.out _ _ ⟨(blk_cell BK275.out 0).trans rfl, (blk_cell BK275.out 1).trans rfl⟩ (fun hHeld => ?_)
     clear hK K
     refine norm_ (a' := ?_) ?_ ?_
     rotate_left
     ·show Act.put _ (some 11) _ = _
      simp only [Act.put, List.setIfInBounds_toArray, List.set_cons_zero, List.set_cons_succ, i64_w, i32_w]
      rfl
     refine pure_ (i := 6) (N := some 5) (v := ?_) (a' := ?_) #[true, true, true, true, true, true, true, false, false, true, false, false] rfl rfl (any_of HT_.out (by kernel_rfl)) (fun _ _ _ h => h) (Or.inl ⟨by rfl, ?_⟩) ?_ ?_
     rotate_left
     ·intro w'
      go_simp
      with_reducible rfl
     rotate_left
     ·simp only [Act.put, List.setIfInBounds_toArray, List.set_cons_zero, List.set_cons_succ, i64_w, i32_w]
      rfl
     refine pure_ (i := 7) (N := some 12) (v := ?_) (a' := ?_) #[true, true, true, true, true, true, true, true, false, true, false, false] rfl rfl (any_of HT_.out (by kernel_rfl)) (fun _ _ _ h => h) (Or.inl ⟨by rfl, ?_⟩) ?_ ?_
     rotate_left
     ·intro w'
      go_simp
      with_reducible rfl
     rotate_left
     ·simp only [Act.put, List.setIfInBounds_toArray, List.set_cons_zero, List.set_cons_succ, i64_w, i32_w]
      rfl
     refine pure_ (i := 8) (N := some 13) (v := ?_) (a' := ?_) #[true, true, true, true, true, true, true, true, true, true, false, false] rfl rfl (any_of HT_.out (by kernel_rfl)) (fun _ _ _ h => h) (Or.inl ⟨by rfl, ?_⟩) ?_ ?_
     rotate_left
     ·intro w'
      go_simp
      with_reducible rfl
     rotate_left
     ·simp only [Act.put, List.setIfInBounds_toArray, List.set_cons_zero, List.set_cons_succ, i64_w, i32_w]
      rfl
     exact norm_ (by simp only [putAll, Act.put, List.setIfInBounds_toArray, List.set_cons_zero, List.set_cons_succ]) (hCont (gb283) _ ⟨hHeld, (by (with_reducible repeat (first | apply b1 | apply b2 | apply b3)); exact BK275.out), (by (with_reducible repeat (first | apply b1 | apply b2 | apply b3)); exact BK283.out), GW283.out, GE283.out, NB275_283.out, NB283_275.out, (by repeat (first | (with_reducible first | exact HB.out | apply l1 | apply l2 | apply l3 | refine below_set ?_ GE275.out | refine below_set ?_ GE283.out) | exact HB.out))⟩)
   rintro gb283 w30 ⟨hS_, h0_, h1_, h2_, h3_, h4_, h5_, h6_⟩
   have n0_ : Aside0 (w30.heap[gb275]? = some (.cells #[.string (⟨#[97, 32, 98, 204, 129, 228, 184, 173, 255]⟩ : ByteArray), .slice none 0 0] 26 (0, 0))) := ⟨h0_⟩
   have n1_ : Aside0 (w30.heap[gb283]? = some (.cells #[.int .i64 0, .int .i64 0] 32 (0, 0))) := ⟨h1_⟩
   have n2_ : Aside0 (w.heap.size ≤ gb283) := ⟨h2_⟩
   have n3_ : Aside0 (w.heap.size ≤ gb283) := ⟨h3_⟩
   have n4_ : Aside0 (gb275 ≠ gb283) := ⟨h4_⟩
   have n5_ : Aside0 (gb283 ≠ gb275) := ⟨h5_⟩
   have n6_ : Aside0 (Below w.heap.size w w30) := ⟨h6_⟩
   clear BK275
   clear HB
   clear h0_ h1_ h2_ h3_ h4_ h5_ h6_
   have BK275 := n0_
   have BK283 := n1_
   have GW283 := n2_
   have GE283 := n3_
   have NB275_283 := n4_
   have NB283_275 := n5_
   have HB := n6_
   clear n0_ n1_ n2_ n3_ n4_ n5_ n6_
   have hHeld : w30.cell? ⟨gb275, 0, none⟩ = some (.string (⟨#[97, 32, 98, 204, 129, 228, 184, 173, 255]⟩ : ByteArray)) ∧ w30.cell? ⟨gb275, 1, none⟩ = some (.slice none 0 0) := hS_
   refine norm_ (a' := ?_) ?_ ?_
   rotate_left
   ·simp only [putAll, Act.put, List.setIfInBounds_toArray, List.set_cons_zero, List.set_cons_succ]
    rfl
   refine one_ (i := 10) (N := none) #[true, true, true, true, true, true, true, true, true, true, true, false] rfl rfl (one_of HT_.out (by kernel_rfl)) (by decide) (fun K hK => ?_)
   have hs31 : w30.cell? ⟨gb283, 0, none⟩ = some (.int .i64 0) := (blk_cell BK283.out 0).trans rfl
   have hfs31 := blk_frozen BK283.out 0
   have hns31_0 := NB275_283.out
   have hms31_0 := NB283_275.out
   have hs32 : w30.cell? ⟨gb283, 1, none⟩ = some (.int .i64 0) := (blk_cell BK283.out 1).trans rfl
   have hfs32 := blk_frozen BK283.out 1
   have hns32_0 := NB275_283.out
   have hms32_0 := NB283_275.out
   refine skip_ (w1 := ?_) (by rfl) rfl ?_ ?_
   rotate_left
   ·go_simp
    rfl
   refine hK.out _ _ ⟨((cell_far (p := ⟨gb283, _, none⟩) NB275_283.out _).trans (((cell_far (p := ⟨gb283, _, none⟩) NB275_283.out _).trans (hHeld.1)))), ((cell_far (p := ⟨gb283, _, none⟩) NB275_283.out _).trans (((cell_far (p := ⟨gb283, _, none⟩) NB275_283.out _).trans (hHeld.2))))⟩ (fun hHeld => ?_)
   clear hK K
   refine pure_ (i := 11) (N := some 3) (v := ?_) (a' := ?_) #[true, true, true, true, true, true, true, true, true, true, true, true] rfl rfl (any_of HT_.out (by kernel_rfl)) (fun _ _ _ h => h) (Or.inl ⟨by rfl, ?_⟩) ?_ ?_
   rotate_left
   ·intro w'
    go_simp
    with_reducible rfl
   rotate_left
   ·simp only [Act.put, List.setIfInBounds_toArray, List.set_cons_zero, List.set_cons_succ, i64_w, i32_w]
    rfl
   refine done_ (done_of HT_.out (by kernel_rfl)) ?_
   have hnb33 := NB275_283.out
   have hnc33 := NB283_275.out
   obtain ⟨hcz34_0, hcz34_1, hfz34_0, hfz34_1⟩ := blk_cells2 BK275.out
   try go_wp2_with (first | ((with_reducible refine gate_callee (f := 9) rfl ?_); refine goesL_ (some 15) rfl rfl Try.func9 (by kernel_rfl) rfl #[.agg #[.string (⟨#[97, 32, 98, 204, 129, 228, 184, 173, 255]⟩ : ByteArray), .slice none 0 0]] rfl (by (try simp only [List.map_toArray, List.map_cons, List.map_nil]); first | done | rfl | (simp only [List.length_drop, List.length_take]; rfl)) ?_; (refine (speed_Count.calls k (⟨#[97, 32, 98, 204, 129, 228, 184, 173, 255]⟩ : ByteArray) _ _ ([] : List (S63)) t284 _ ?side1 ?side2 A4.out).mono ?_); (case side1 => exact Kd.C_nil _ _); (case side2 => exact Nat.le_refl _); rintro e w35 ⟨rfl, hb⟩; refine ⟨_, rfl, ?_⟩; have n0_ := Aside0.mk (blk_below (g := gb275) (o := .cells #[.string (⟨#[97, 32, 98, 204, 129, 228, 184, 173, 255]⟩ : ByteArray), .slice none 0 0] 26 (0, 0)) (by (with_reducible repeat (first | apply b1 | apply b2 | apply b3)); refine blk_far ?_ NB275_283.out _; (with_reducible repeat (first | apply b1 | apply b2 | apply b3)); refine blk_far ?_ NB275_283.out _; (with_reducible repeat (first | apply b1 | apply b2 | apply b3)); exact BK275.out) hb); have n1_ := Aside0.mk (blk_below (g := gb283) (o := .cells #[.int .i64 t280, .int .i64 t281] 32 (0, 0)) (by (with_reducible repeat (first | apply b1 | apply b2 | apply b3)); refine blk_put (cs := #[.int .i64 t280, .int .i64 0]) ?_ 1 _ rfl; (with_reducible repeat (first | apply b1 | apply b2 | apply b3)); refine blk_put (cs := #[.int .i64 0, .int .i64 0]) ?_ 0 _ rfl; (with_reducible repeat (first | apply b1 | apply b2 | apply b3)); exact BK283.out) hb); have n2_ := Aside0.mk (below_step (by repeat (first | (with_reducible first | exact HB.out | apply l1 | apply l2 | apply l3 | refine below_set ?_ GE275.out | refine below_set ?_ GE283.out) | exact HB.out)) hb); clear BK275; clear BK283; clear HB; have BK275 := n0_; have BK283 := n1_; have HB := n2_; clear n0_ n1_ n2_; (try clear hb); (try clear hb2); (try clear hk); (try clear hi)))
   go_ret
   exact ⟨by first | rfl | (simp [errW_none, errW_some] <;> rfl) | (simp [*, errW_none, errW_some] <;> rfl), by repeat (first | (with_reducible first | exact HB.out | apply l1 | apply l2 | apply l3 | refine below_set ?_ GE275.out | refine below_set ?_ GE283.out) | exact HB.out)⟩
 ·rw [if_neg c5] at H
  have c5b0 : (t284 == 4) = false := beq_eq_false_iff_ne.mpr c5
  have c5b1 : (t284 != 4) = true := bne_iff_ne.mpr c5
  obtain rfl := Option.some.inj H
  go_enter Try.func8, Try.ntmps8
  try go_wp2_with (first | ((with_reducible refine gate_dst (N := 1) rfl ?_); refine box_event (by rfl) (N := 1) (by rfl) (cs := #[.string (⟨#[]⟩ : ByteArray), .slice none 0 0]) (t := 26) (by first | (go_simp; done) | (go_simp; rfl)) ?_; intro gb275 hg w36 hbox hb; obtain ⟨hb_, hw_⟩ := box_facts (by repeat (first | (with_reducible first | exact HB.out | apply l1 | apply l2 | apply l3) | exact HB.out)) hg hb; have n0_ := Aside0.mk (hb_); have n1_ := Aside0.mk (hbox); have n2_ := Aside0.mk (hw_); have n3_ := Aside0.mk (hw_); clear HB; have HB := n0_; have BK275 := n1_; have GW275 := n2_; have GE275 := n3_; clear n0_ n1_ n2_ n3_; clear hb hbox hg hb_ hw_; obtain ⟨hcz37_0, hcz37_1, hfz37_0, hfz37_1⟩ := blk_cells2 BK275.out))
  have n0_ : Aside0 (((w36.setCell ⟨gb275, 0, none⟩ (.string (⟨#[97, 32, 98, 204, 129, 228, 184, 173, 255]⟩ : ByteArray))).setCell ⟨gb275, 1, none⟩ (.slice none 0 0)).heap[gb275]? = some (.cells #[.string (⟨#[97, 32, 98, 204, 129, 228, 184, 173, 255]⟩ : ByteArray), .slice none 0 0] 26 (0, 0))) := ⟨by (with_reducible repeat (first | apply b1 | apply b2 | apply b3)); refine blk_put (cs := #[.string (⟨#[97, 32, 98, 204, 129, 228, 184, 173, 255]⟩ : ByteArray), .slice none 0 0]) ?_ 1 _ rfl; (with_reducible repeat (first | apply b1 | apply b2 | apply b3)); refine blk_put (cs := #[.string (⟨#[]⟩ : ByteArray), .slice none 0 0]) ?_ 0 _ rfl; (with_reducible repeat (first | apply b1 | apply b2 | apply b3)); exact BK275.out⟩
  have n1_ : Aside0 (Below w.heap.size w ((w36.setCell ⟨gb275, 0, none⟩ (.string (⟨#[97, 32, 98, 204, 129, 228, 184, 173, 255]⟩ : ByteArray))).setCell ⟨gb275, 1, none⟩ (.slice none 0 0))) := ⟨by repeat (first | (with_reducible first | exact HB.out | apply l1 | apply l2 | apply l3 | refine below_set ?_ GE275.out) | exact HB.out)⟩
  (try clear BK275)
  (try clear HB)
  generalize ((w36.setCell ⟨gb275, 0, none⟩ (.string (⟨#[97, 32, 98, 204, 129, 228, 184, 173, 255]⟩ : ByteArray))).setCell ⟨gb275, 1, none⟩ (.slice none 0 0)) = w38 at n0_ n1_ ⊢
  have BK275 := n0_
  have HB := n1_
  clear n0_ n1_
  have n0_ := Aside0.mk (blk_drew BK275.out)
  have n1_ := Aside0.mk (below_drew1 HB.out)
  clear BK275
  clear HB
  have BK275 := n0_
  have HB := n1_
  clear n0_ n1_
  refine start_ (n := 12) (S := fun w' => w'.cell? ⟨gb275, 0, none⟩ = some (.string (⟨#[97, 32, 98, 204, 129, 228, 184, 173, 255]⟩ : ByteArray)) ∧ w'.cell? ⟨gb275, 1, none⟩ = some (.slice none 0 0)) (ds := []) #[false, false, false, false, false, false, false, false, false, false, false, false] (by kernel_rfl) rfl rfl ⟨(blk_cell BK275.out 0).trans rfl, (blk_cell BK275.out 1).trans rfl⟩ (fun hHeld => ?_); refine with_tabW surtitlelaw11_known.tab2 surtitlelaw11_known.bits2 (fun HT_ HW_ => ?_)
  generalize w38.drew = w39 at BK275 HB hHeld ⊢
  refine pure_ (i := 2) (N := some 8) (v := ?_) (a' := ?_) #[false, false, true, false, false, false, false, false, false, false, false, false] rfl rfl (any_of HT_.out (by kernel_rfl)) (fun _ _ _ h => h) (Or.inl ⟨by rfl, ?_⟩) ?_ ?_
  rotate_left
  ·intro w'
   go_simp
   with_reducible rfl
  rotate_left
  ·simp only [Act.put, List.setIfInBounds_toArray, List.set_cons_zero, List.set_cons_succ, i64_w, i32_w]
   rfl
  refine take_ (i := 0) (N := some 6) (v := ?_) (a' := ?_) #[true, false, true, false, false, false, false, false, false, false, false, false] rfl rfl (take_ofW HT_.out HW_.out (by kernel_rfl)) (fun _ _ _ h => h) (Or.inl ⟨by rfl, ?_⟩) hHeld ?_ ?_
  rotate_left
  ·rintro w' ⟨s0, s1⟩
   go_simp
   with_reducible rfl
  rotate_left
  ·simp only [Act.put, List.setIfInBounds_toArray, List.set_cons_zero, List.set_cons_succ, i64_w, i32_w]
   rfl
  refine join_ (σ := Nat) 2 #[true, true, true, true, true, true, true, true, true, true, false, false] (fun s_ => [(7, .agg #[.int .i64 t276, .int .i64 t277]), (9, .agg #[.int .i64 t278, .int .i64 t279]), (11, .tuple #[.agg #[.int .i64 t280, .int .i64 t281], .int .i64 t282]), (2, .pointer (some ⟨s_, 0, none⟩)), (10, .agg #[.int .i64 t276, .int .i64 t277, .int .i64 1, .int .i64 5, .int .i64 t278, .int .i64 t279]), (5, .tuple #[.agg #[.int .i64 t280, .int .i64 t281], .int .i64 t282]), (12, .agg #[.int .i64 t280, .int .i64 t281]), (13, .int .i64 t282)]) (fun s_ w' => (w'.cell? ⟨gb275, 0, none⟩ = some (.string (⟨#[97, 32, 98, 204, 129, 228, 184, 173, 255]⟩ : ByteArray)) ∧ w'.cell? ⟨gb275, 1, none⟩ = some (.slice none 0 0)) ∧ (w'.heap[gb275]? = some (.cells #[.string (⟨#[97, 32, 98, 204, 129, 228, 184, 173, 255]⟩ : ByteArray), .slice none 0 0] 26 (0, 0))) ∧ (w'.heap[s_]? = some (.cells #[.int .i64 0, .int .i64 0] 32 (0, 0))) ∧ (w.heap.size ≤ s_) ∧ (w.heap.size ≤ s_) ∧ (gb275 ≠ s_) ∧ (s_ ≠ gb275) ∧ (Below w.heap.size w w')) ?_ ?_
  rotate_left
  ·intro hCont
   refine two_ (i := 1) (j := 9) (Ni := some 7) (Nj := some 2) #[true, true, true, false, false, false, false, false, false, false, false, false] #[true, false, true, false, false, false, false, false, false, true, false, false] rfl rfl rfl rfl (two_of HT_.out (by kernel_rfl)) (by decide) (by decide) (fun K hK => ?_) (fun K hK => ?_)
   ·skip
    refine goes_ Try.func20 (by kernel_rfl) rfl #[.int .i64 10] (by rfl) rfl rfl (by (try simp only [List.map_toArray, List.map_cons, List.map_nil]); first | done | rfl | (simp only [List.length_drop, List.length_take]; rfl)) ?_
    with_reducible refine (surtitlelaw11_whole.calls 10 t276 t277 _ A1.out).mono ?_
    rintro e w40 ⟨rfl, hb⟩
    refine ⟨_, rfl, ?_⟩
    have n0_ := Aside0.mk (blk_below (g := gb275) (o := .cells #[.string (⟨#[97, 32, 98, 204, 129, 228, 184, 173, 255]⟩ : ByteArray), .slice none 0 0] 26 (0, 0)) (by (with_reducible repeat (first | apply b1 | apply b2 | apply b3)); exact BK275.out) hb)
    have n1_ := Aside0.mk (below_step (by repeat (first | (with_reducible first | exact HB.out | apply l1 | apply l2 | apply l3 | refine below_set ?_ GE275.out) | exact HB.out)) hb)
    clear BK275
    clear HB
    have BK275 := n0_
    have HB := n1_
    clear n0_ n1_
    (try clear hb)
    (try clear hb2)
    (try clear hk)
    (try clear hi)
    refine hK.out _ _ ⟨(blk_cell BK275.out 0).trans rfl, (blk_cell BK275.out 1).trans rfl⟩ (fun hHeld => ?_)
    clear hK K
    refine norm_ (a' := ?_) ?_ ?_
    rotate_left
    ·show Act.put _ (some 7) _ = _
     simp only [Act.put, List.setIfInBounds_toArray, List.set_cons_zero, List.set_cons_succ, i64_w, i32_w]
     rfl
    refine two_ (i := 3) (j := 9) (Ni := some 9) (Nj := some 2) #[true, true, true, true, false, false, false, false, false, false, false, false] #[true, true, true, false, false, false, false, false, false, true, false, false] rfl rfl rfl rfl (two_of HT_.out (by kernel_rfl)) (by decide) (by decide) (fun K hK => ?_) (fun K hK => ?_)
    ·skip
     refine goes_ Try.func20 (by kernel_rfl) rfl #[.int .i64 0] (by rfl) rfl rfl (by (try simp only [List.map_toArray, List.map_cons, List.map_nil]); first | done | rfl | (simp only [List.length_drop, List.length_take]; rfl)) ?_
     with_reducible refine (surtitlelaw11_whole.calls 0 t278 t279 _ A2.out).mono ?_
     rintro e w41 ⟨rfl, hb⟩
     refine ⟨_, rfl, ?_⟩
     have n0_ := Aside0.mk (blk_below (g := gb275) (o := .cells #[.string (⟨#[97, 32, 98, 204, 129, 228, 184, 173, 255]⟩ : ByteArray), .slice none 0 0] 26 (0, 0)) (by (with_reducible repeat (first | apply b1 | apply b2 | apply b3)); exact BK275.out) hb)
     have n1_ := Aside0.mk (below_step (by repeat (first | (with_reducible first | exact HB.out | apply l1 | apply l2 | apply l3 | refine below_set ?_ GE275.out) | exact HB.out)) hb)
     clear BK275
     clear HB
     have BK275 := n0_
     have HB := n1_
     clear n0_ n1_
     (try clear hb)
     (try clear hb2)
     (try clear hk)
     (try clear hi)
     refine hK.out _ _ ⟨(blk_cell BK275.out 0).trans rfl, (blk_cell BK275.out 1).trans rfl⟩ (fun hHeld => ?_)
     clear hK K
     refine norm_ (a' := ?_) ?_ ?_
     rotate_left
     ·show Act.put _ (some 9) _ = _
      simp only [Act.put, List.setIfInBounds_toArray, List.set_cons_zero, List.set_cons_succ, i64_w, i32_w]
      rfl
     refine pure_ (i := 4) (N := some 10) (v := ?_) (a' := ?_) #[true, true, true, true, true, false, false, false, false, false, false, false] rfl rfl (any_of HT_.out (by kernel_rfl)) (fun _ _ _ h => h) (Or.inl ⟨by rfl, ?_⟩) ?_ ?_
     rotate_left
     ·intro w'
      go_simp
      with_reducible rfl
     rotate_left
     ·simp only [Act.put, List.setIfInBounds_toArray, List.set_cons_zero, List.set_cons_succ, i64_w, i32_w]
      rfl
     refine two_ (i := 5) (j := 9) (Ni := some 11) (Nj := some 2) #[true, true, true, true, true, true, false, false, false, false, false, false] #[true, true, true, true, true, false, false, false, false, true, false, false] rfl rfl rfl rfl (two_of HT_.out (by kernel_rfl)) (by decide) (by decide) (fun K hK => ?_) (fun K hK => ?_)
     ·skip
      refine goes_ Try.func17 (by kernel_rfl) rfl #[.agg #[.string (⟨#[97, 32, 98, 204, 129, 228, 184, 173, 255]⟩ : ByteArray), .slice none 0 0], .agg #[.int .i64 t276, .int .i64 t277, .int .i64 1, .int .i64 5, .int .i64 t278, .int .i64 t279]] (by rfl) rfl rfl (by (try simp only [List.map_toArray, List.map_cons, List.map_nil]); first | done | rfl | (simp only [List.length_drop, List.length_take]; rfl)) ?_
      refine (speed_Wants.calls k (⟨#[97, 32, 98, 204, 129, 228, 184, 173, 255]⟩ : ByteArray) _ _ ([] : List (S63)) t276 t277 1 5 t278 t279 t280 t281 t282 _ ?side1 ?side2 A3.out).mono ?_
      (case side1 => exact Kd.C_nil _ _)
      (case side2 => exact Nat.le_refl _)
      rintro e w42 ⟨rfl, hb⟩
      refine ⟨_, rfl, ?_⟩
      have n0_ := Aside0.mk (blk_below (g := gb275) (o := .cells #[.string (⟨#[97, 32, 98, 204, 129, 228, 184, 173, 255]⟩ : ByteArray), .slice none 0 0] 26 (0, 0)) (by (with_reducible repeat (first | apply b1 | apply b2 | apply b3)); exact BK275.out) hb)
      have n1_ := Aside0.mk (below_step (by repeat (first | (with_reducible first | exact HB.out | apply l1 | apply l2 | apply l3 | refine below_set ?_ GE275.out) | exact HB.out)) hb)
      clear BK275
      clear HB
      have BK275 := n0_
      have HB := n1_
      clear n0_ n1_
      (try clear hb)
      (try clear hb2)
      (try clear hk)
      (try clear hi)
      refine hK.out _ _ ⟨(blk_cell BK275.out 0).trans rfl, (blk_cell BK275.out 1).trans rfl⟩ (fun hHeld => ?_)
      clear hK K
      refine norm_ (a' := ?_) ?_ ?_
      rotate_left
      ·show Act.put _ (some 11) _ = _
       simp only [Act.put, List.setIfInBounds_toArray, List.set_cons_zero, List.set_cons_succ, i64_w, i32_w]
       rfl
      refine pure_ (i := 6) (N := some 5) (v := ?_) (a' := ?_) #[true, true, true, true, true, true, true, false, false, false, false, false] rfl rfl (any_of HT_.out (by kernel_rfl)) (fun _ _ _ h => h) (Or.inl ⟨by rfl, ?_⟩) ?_ ?_
      rotate_left
      ·intro w'
       go_simp
       with_reducible rfl
      rotate_left
      ·simp only [Act.put, List.setIfInBounds_toArray, List.set_cons_zero, List.set_cons_succ, i64_w, i32_w]
       rfl
      refine pure_ (i := 7) (N := some 12) (v := ?_) (a' := ?_) #[true, true, true, true, true, true, true, true, false, false, false, false] rfl rfl (any_of HT_.out (by kernel_rfl)) (fun _ _ _ h => h) (Or.inl ⟨by rfl, ?_⟩) ?_ ?_
      rotate_left
      ·intro w'
       go_simp
       with_reducible rfl
      rotate_left
      ·simp only [Act.put, List.setIfInBounds_toArray, List.set_cons_zero, List.set_cons_succ, i64_w, i32_w]
       rfl
      refine pure_ (i := 8) (N := some 13) (v := ?_) (a' := ?_) #[true, true, true, true, true, true, true, true, true, false, false, false] rfl rfl (any_of HT_.out (by kernel_rfl)) (fun _ _ _ h => h) (Or.inl ⟨by rfl, ?_⟩) ?_ ?_
      rotate_left
      ·intro w'
       go_simp
       with_reducible rfl
      rotate_left
      ·simp only [Act.put, List.setIfInBounds_toArray, List.set_cons_zero, List.set_cons_succ, i64_w, i32_w]
       rfl
      refine one_ (i := 9) (N := some 2) #[true, true, true, true, true, true, true, true, true, true, false, false] rfl rfl (one_of HT_.out (by kernel_rfl)) (by decide) (fun K hK => ?_)
      refine box_step (by rfl) (N := 2) (by rfl) (cs := #[.int .i64 0, .int .i64 0]) (t := 32) (by first | (go_simp; done) | (go_simp; rfl)) ?_
      intro gb283 hg w43 hbox hb
      obtain ⟨hb_, hw_⟩ := box_facts (by repeat (first | (with_reducible first | exact HB.out | apply l1 | apply l2 | apply l3 | refine below_set ?_ GE275.out) | exact HB.out)) hg hb
      have n0_ := Aside0.mk (blk_below (g := gb275) (o := .cells #[.string (⟨#[97, 32, 98, 204, 129, 228, 184, 173, 255]⟩ : ByteArray), .slice none 0 0] 26 (0, 0)) (by (with_reducible repeat (first | apply b1 | apply b2 | apply b3)); exact BK275.out) hb)
      have n1_ := Aside0.mk (hb_)
      have n2_ := Aside0.mk (hbox)
      have n3_ := Aside0.mk (hw_)
      have n4_ := Aside0.mk (hw_)
      have n5_ := Aside0.mk ((by rw [hg]; exact Nat.ne_of_lt (blk_lt (g := gb275) (o := .cells #[.string (⟨#[97, 32, 98, 204, 129, 228, 184, 173, 255]⟩ : ByteArray), .slice none 0 0] 26 (0, 0)) (by (with_reducible repeat (first | apply b1 | apply b2 | apply b3)); exact BK275.out)) : gb275 ≠ gb283))
      have n6_ := Aside0.mk ((by rw [hg]; exact Nat.ne_of_gt (blk_lt (g := gb275) (o := .cells #[.string (⟨#[97, 32, 98, 204, 129, 228, 184, 173, 255]⟩ : ByteArray), .slice none 0 0] 26 (0, 0)) (by (with_reducible repeat (first | apply b1 | apply b2 | apply b3)); exact BK275.out)) : gb283 ≠ gb275))
      clear BK275
      clear HB
      have BK275 := n0_
      have HB := n1_
      have BK283 := n2_
      have GW283 := n3_
      have GE283 := n4_
      have NB275_283 := n5_
      have NB283_275 := n6_
      clear n0_ n1_ n2_ n3_ n4_ n5_ n6_
      clear hb hbox hg hb_ hw_
      refine hK.out _ _ ⟨(blk_cell BK275.out 0).trans rfl, (blk_cell BK275.out 1).trans rfl⟩ (fun hHeld => ?_)
      clear hK K
      refine norm_ (a' := ?_) ?_ ?_
      rotate_left
      ·show Act.put _ (some 2) _ = _
       simp only [Act.put, List.setIfInBounds_toArray, List.set_cons_zero, List.set_cons_succ, i64_w, i32_w]
       rfl
      exact norm_ (by simp only [putAll, Act.put, List.setIfInBounds_toArray, List.set_cons_zero, List.set_cons_succ]) (hCont (gb283) _ ⟨hHeld, (by (with_reducible repeat (first | apply b1 | apply b2 | apply b3)); exact BK275.out), (by (with_reducible repeat (first | apply b1 | apply b2 | apply b3)); exact BK283.out), GW283.out, GE283.out, NB275_283.out, NB283_275.out, (by repeat (first | (with_reducible first | exact HB.out | apply l1 | apply l2 | apply l3 | refine below_set ?_ GE275.out | refine below_set ?_ GE283.out) | exact HB.out))⟩)
     ·skip
      refine box_step (by rfl) (N := 2) (by rfl) (cs := #[.int .i64 0, .int .i64 0]) (t := 32) (by first | (go_simp; done) | (go_simp; rfl)) ?_
      intro gb283 hg w42 hbox hb
      obtain ⟨hb_, hw_⟩ := box_facts (by repeat (first | (with_reducible first | exact HB.out | apply l1 | apply l2 | apply l3 | refine below_set ?_ GE275.out) | exact HB.out)) hg hb
      have n0_ := Aside0.mk (blk_below (g := gb275) (o := .cells #[.string (⟨#[97, 32, 98, 204, 129, 228, 184, 173, 255]⟩ : ByteArray), .slice none 0 0] 26 (0, 0)) (by (with_reducible repeat (first | apply b1 | apply b2 | apply b3)); exact BK275.out) hb)
      have n1_ := Aside0.mk (hb_)
      have n2_ := Aside0.mk (hbox)
      have n3_ := Aside0.mk (hw_)
      have n4_ := Aside0.mk (hw_)
      have n5_ := Aside0.mk ((by rw [hg]; exact Nat.ne_of_lt (blk_lt (g := gb275) (o := .cells #[.string (⟨#[97, 32, 98, 204, 129, 228, 184, 173, 255]⟩ : ByteArray), .slice none 0 0] 26 (0, 0)) (by (with_reducible repeat (first | apply b1 | apply b2 | apply b3)); exact BK275.out)) : gb275 ≠ gb283))
      have n6_ := Aside0.mk ((by rw [hg]; exact Nat.ne_of_gt (blk_lt (g := gb275) (o := .cells #[.string (⟨#[97, 32, 98, 204, 129, 228, 184, 173, 255]⟩ : ByteArray), .slice none 0 0] 26 (0, 0)) (by (with_reducible repeat (first | apply b1 | apply b2 | apply b3)); exact BK275.out)) : gb283 ≠ gb275))
      clear BK275
      clear HB
      have BK275 := n0_
      have HB := n1_
      have BK283 := n2_
      have GW283 := n3_
      have GE283 := n4_
      have NB275_283 := n5_
      have NB283_275 := n6_
      clear n0_ n1_ n2_ n3_ n4_ n5_ n6_
      clear hb hbox hg hb_ hw_
      refine hK.out _ _ ⟨(blk_cell BK275.out 0).trans rfl, (blk_cell BK275.out 1).trans rfl⟩ (fun hHeld => ?_)
      clear hK K
      refine norm_ (a' := ?_) ?_ ?_
      rotate_left
      ·show Act.put _ (some 2) _ = _
       simp only [Act.put, List.setIfInBounds_toArray, List.set_cons_zero, List.set_cons_succ, i64_w, i32_w]
       rfl
      refine one_ (i := 5) (N := some 11) #[true, true, true, true, true, true, false, false, false, true, false, false] rfl rfl (one_of HT_.out (by kernel_rfl)) (by decide) (fun K hK => ?_)
      refine goes_ Try.func17 (by kernel_rfl) rfl #[.agg #[.string (⟨#[97, 32, 98, 204, 129, 228, 184, 173, 255]⟩ : ByteArray), .slice none 0 0], .agg #[.int .i64 t276, .int .i64 t277, .int .i64 1, .int .i64 5, .int .i64 t278, .int .i64 t279]] (by rfl) rfl rfl (by (try simp only [List.map_toArray, List.map_cons, List.map_nil]); first | done | rfl | (simp only [List.length_drop, List.length_take]; rfl)) ?_
      refine (speed_Wants.calls k (⟨#[97, 32, 98, 204, 129, 228, 184, 173, 255]⟩ : ByteArray) _ _ ([] : List (S63)) t276 t277 1 5 t278 t279 t280 t281 t282 _ ?side1 ?side2 A3.out).mono ?_
      (case side1 => exact Kd.C_nil _ _)
      (case side2 => exact Nat.le_refl _)
      rintro e w43 ⟨rfl, hb⟩
      refine ⟨_, rfl, ?_⟩
      have n0_ := Aside0.mk (blk_below (g := gb275) (o := .cells #[.string (⟨#[97, 32, 98, 204, 129, 228, 184, 173, 255]⟩ : ByteArray), .slice none 0 0] 26 (0, 0)) (by (with_reducible repeat (first | apply b1 | apply b2 | apply b3)); exact BK275.out) hb)
      have n1_ := Aside0.mk (blk_below (g := gb283) (o := .cells #[.int .i64 0, .int .i64 0] 32 (0, 0)) (by (with_reducible repeat (first | apply b1 | apply b2 | apply b3)); exact BK283.out) hb)
      have n2_ := Aside0.mk (below_step (by repeat (first | (with_reducible first | exact HB.out | apply l1 | apply l2 | apply l3 | refine below_set ?_ GE275.out | refine below_set ?_ GE283.out) | exact HB.out)) hb)
      clear BK275
      clear BK283
      clear HB
      have BK275 := n0_
      have BK283 := n1_
      have HB := n2_
      clear n0_ n1_ n2_
      (try clear hb)
      (try clear hb2)
      (try clear hk)
      (try clear hi)
      refine hK.out _ _ ⟨(blk_cell BK275.out 0).trans rfl, (blk_cell BK275.out 1).trans rfl⟩ (fun hHeld => ?_)
      clear hK K
      refine norm_ (a' := ?_) ?_ ?_
      rotate_left
      ·show Act.put _ (some 11) _ = _
       simp only [Act.put, List.setIfInBounds_toArray, List.set_cons_zero, List.set_cons_succ, i64_w, i32_w]
       rfl
      refine pure_ (i := 6) (N := some 5) (v := ?_) (a' := ?_) #[true, true, true, true, true, true, true, false, false, true, false, false] rfl rfl (any_of HT_.out (by kernel_rfl)) (fun _ _ _ h => h) (Or.inl ⟨by rfl, ?_⟩) ?_ ?_
      rotate_left
      ·intro w'
       go_simp
       with_reducible rfl
      rotate_left
      ·simp only [Act.put, List.setIfInBounds_toArray, List.set_cons_zero, List.set_cons_succ, i64_w, i32_w]
       rfl
      refine pure_ (i := 7) (N := some 12) (v := ?_) (a' := ?_) #[true, true, true, true, true, true, true, true, false, true, false, false] rfl rfl (any_of HT_.out (by kernel_rfl)) (fun _ _ _ h => h) (Or.inl ⟨by rfl, ?_⟩) ?_ ?_
      rotate_left
      ·intro w'
       go_simp
       with_reducible rfl
      rotate_left
      ·simp only [Act.put, List.setIfInBounds_toArray, List.set_cons_zero, List.set_cons_succ, i64_w, i32_w]
       rfl
      refine pure_ (i := 8) (N := some 13) (v := ?_) (a' := ?_) #[true, true, true, true, true, true, true, true, true, true, false, false] rfl rfl (any_of HT_.out (by kernel_rfl)) (fun _ _ _ h => h) (Or.inl ⟨by rfl, ?_⟩) ?_ ?_
      rotate_left
      ·intro w'
       go_simp
       with_reducible rfl
      rotate_left
      ·simp only [Act.put, List.setIfInBounds_toArray, List.set_cons_zero, List.set_cons_succ, i64_w, i32_w]
       rfl
      exact norm_ (by simp only [putAll, Act.put, List.setIfInBounds_toArray, List.set_cons_zero, List.set_cons_succ]) (hCont (gb283) _ ⟨hHeld, (by (with_reducible repeat (first | apply b1 | apply b2 | apply b3)); exact BK275.out), (by (with_reducible repeat (first | apply b1 | apply b2 | apply b3)); exact BK283.out), GW283.out, GE283.out, NB275_283.out, NB283_275.out, (by repeat (first | (with_reducible first | exact HB.out | apply l1 | apply l2 | apply l3 | refine below_set ?_ GE275.out | refine below_set ?_ GE283.out) | exact HB.out))⟩)
    ·skip
     refine box_step (by rfl) (N := 2) (by rfl) (cs := #[.int .i64 0, .int .i64 0]) (t := 32) (by first | (go_simp; done) | (go_simp; rfl)) ?_
     intro gb283 hg w41 hbox hb
     obtain ⟨hb_, hw_⟩ := box_facts (by repeat (first | (with_reducible first | exact HB.out | apply l1 | apply l2 | apply l3 | refine below_set ?_ GE275.out) | exact HB.out)) hg hb
     have n0_ := Aside0.mk (blk_below (g := gb275) (o := .cells #[.string (⟨#[97, 32, 98, 204, 129, 228, 184, 173, 255]⟩ : ByteArray), .slice none 0 0] 26 (0, 0)) (by (with_reducible repeat (first | apply b1 | apply b2 | apply b3)); exact BK275.out) hb)
     have n1_ := Aside0.mk (hb_)
     have n2_ := Aside0.mk (hbox)
     have n3_ := Aside0.mk (hw_)
     have n4_ := Aside0.mk (hw_)
     have n5_ := Aside0.mk ((by rw [hg]; exact Nat.ne_of_lt (blk_lt (g := gb275) (o := .cells #[.string (⟨#[97, 32, 98, 204, 129, 228, 184, 173, 255]⟩ : ByteArray), .slice none 0 0] 26 (0, 0)) (by (with_reducible repeat (first | apply b1 | apply b2 | apply b3)); exact BK275.out)) : gb275 ≠ gb283))
     have n6_ := Aside0.mk ((by rw [hg]; exact Nat.ne_of_gt (blk_lt (g := gb275) (o := .cells #[.string (⟨#[97, 32, 98, 204, 129, 228, 184, 173, 255]⟩ : ByteArray), .slice none 0 0] 26 (0, 0)) (by (with_reducible repeat (first | apply b1 | apply b2 | apply b3)); exact BK275.out)) : gb283 ≠ gb275))
     clear BK275
     clear HB
     have BK275 := n0_
     have HB := n1_
     have BK283 := n2_
     have GW283 := n3_
     have GE283 := n4_
     have NB275_283 := n5_
     have NB283_275 := n6_
     clear n0_ n1_ n2_ n3_ n4_ n5_ n6_
     clear hb hbox hg hb_ hw_
     refine hK.out _ _ ⟨(blk_cell BK275.out 0).trans rfl, (blk_cell BK275.out 1).trans rfl⟩ (fun hHeld => ?_)
     clear hK K
     refine norm_ (a' := ?_) ?_ ?_
     rotate_left
     ·show Act.put _ (some 2) _ = _
      simp only [Act.put, List.setIfInBounds_toArray, List.set_cons_zero, List.set_cons_succ, i64_w, i32_w]
      rfl
     refine one_ (i := 3) (N := some 9) #[true, true, true, true, false, false, false, false, false, true, false, false] rfl rfl (one_of HT_.out (by kernel_rfl)) (by decide) (fun K hK => ?_)
     refine goes_ Try.func20 (by kernel_rfl) rfl #[.int .i64 0] (by rfl) rfl rfl (by (try simp only [List.map_toArray, List.map_cons, List.map_nil]); first | done | rfl | (simp only [List.length_drop, List.length_take]; rfl)) ?_
     with_reducible refine (surtitlelaw11_whole.calls 0 t278 t279 _ A2.out).mono ?_
     rintro e w42 ⟨rfl, hb⟩
     refine ⟨_, rfl, ?_⟩
     have n0_ := Aside0.mk (blk_below (g := gb275) (o := .cells #[.string (⟨#[97, 32, 98, 204, 129, 228, 184, 173, 255]⟩ : ByteArray), .slice none 0 0] 26 (0, 0)) (by (with_reducible repeat (first | apply b1 | apply b2 | apply b3)); exact BK275.out) hb)
     have n1_ := Aside0.mk (blk_below (g := gb283) (o := .cells #[.int .i64 0, .int .i64 0] 32 (0, 0)) (by (with_reducible repeat (first | apply b1 | apply b2 | apply b3)); exact BK283.out) hb)
     have n2_ := Aside0.mk (below_step (by repeat (first | (with_reducible first | exact HB.out | apply l1 | apply l2 | apply l3 | refine below_set ?_ GE275.out | refine below_set ?_ GE283.out) | exact HB.out)) hb)
     clear BK275
     clear BK283
     clear HB
     have BK275 := n0_
     have BK283 := n1_
     have HB := n2_
     clear n0_ n1_ n2_
     (try clear hb)
     (try clear hb2)
     (try clear hk)
     (try clear hi)
     refine hK.out _ _ ⟨(blk_cell BK275.out 0).trans rfl, (blk_cell BK275.out 1).trans rfl⟩ (fun hHeld => ?_)
     clear hK K
     refine norm_ (a' := ?_) ?_ ?_
     rotate_left
     ·show Act.put _ (some 9) _ = _
      simp only [Act.put, List.setIfInBounds_toArray, List.set_cons_zero, List.set_cons_succ, i64_w, i32_w]
      rfl
     refine pure_ (i := 4) (N := some 10) (v := ?_) (a' := ?_) #[true, true, true, true, true, false, false, false, false, true, false, false] rfl rfl (any_of HT_.out (by kernel_rfl)) (fun _ _ _ h => h) (Or.inl ⟨by rfl, ?_⟩) ?_ ?_
     rotate_left
     ·intro w'
      go_simp
      with_reducible rfl
     rotate_left
     ·simp only [Act.put, List.setIfInBounds_toArray, List.set_cons_zero, List.set_cons_succ, i64_w, i32_w]
      rfl
     refine one_ (i := 5) (N := some 11) #[true, true, true, true, true, true, false, false, false, true, false, false] rfl rfl (one_of HT_.out (by kernel_rfl)) (by decide) (fun K hK => ?_)
     refine goes_ Try.func17 (by kernel_rfl) rfl #[.agg #[.string (⟨#[97, 32, 98, 204, 129, 228, 184, 173, 255]⟩ : ByteArray), .slice none 0 0], .agg #[.int .i64 t276, .int .i64 t277, .int .i64 1, .int .i64 5, .int .i64 t278, .int .i64 t279]] (by rfl) rfl rfl (by (try simp only [List.map_toArray, List.map_cons, List.map_nil]); first | done | rfl | (simp only [List.length_drop, List.length_take]; rfl)) ?_
     refine (speed_Wants.calls k (⟨#[97, 32, 98, 204, 129, 228, 184, 173, 255]⟩ : ByteArray) _ _ ([] : List (S63)) t276 t277 1 5 t278 t279 t280 t281 t282 _ ?side1 ?side2 A3.out).mono ?_
     (case side1 => exact Kd.C_nil _ _)
     (case side2 => exact Nat.le_refl _)
     rintro e w43 ⟨rfl, hb⟩
     refine ⟨_, rfl, ?_⟩
     have n0_ := Aside0.mk (blk_below (g := gb275) (o := .cells #[.string (⟨#[97, 32, 98, 204, 129, 228, 184, 173, 255]⟩ : ByteArray), .slice none 0 0] 26 (0, 0)) (by (with_reducible repeat (first | apply b1 | apply b2 | apply b3)); exact BK275.out) hb)
     have n1_ := Aside0.mk (blk_below (g := gb283) (o := .cells #[.int .i64 0, .int .i64 0] 32 (0, 0)) (by (with_reducible repeat (first | apply b1 | apply b2 | apply b3)); exact BK283.out) hb)
     have n2_ := Aside0.mk (below_step (by repeat (first | (with_reducible first | exact HB.out | apply l1 | apply l2 | apply l3 | refine below_set ?_ GE275.out | refine below_set ?_ GE283.out) | exact HB.out)) hb)
     clear BK275
     clear BK283
     clear HB
     have BK275 := n0_
     have BK283 := n1_
     have HB := n2_
     clear n0_ n1_ n2_
     (try clear hb)
     (try clear hb2)
     (try clear hk)
     (try clear hi)
     refine hK.out _ _ ⟨(blk_cell BK275.out 0).trans rfl, (blk_cell BK275.out 1).trans rfl⟩ (fun hHeld => ?_)
     clear hK K
     refine norm_ (a' := ?_) ?_ ?_
     rotate_left
     ·show Act.put _ (some 11) _ = _
      simp only [Act.put, List.setIfInBounds_toArray, List.set_cons_zero, List.set_cons_succ, i64_w, i32_w]
      rfl
     refine pure_ (i := 6) (N := some 5) (v := ?_) (a' := ?_) #[true, true, true, true, true, true, true, false, false, true, false, false] rfl rfl (any_of HT_.out (by kernel_rfl)) (fun _ _ _ h => h) (Or.inl ⟨by rfl, ?_⟩) ?_ ?_
     rotate_left
     ·intro w'
      go_simp
      with_reducible rfl
     rotate_left
     ·simp only [Act.put, List.setIfInBounds_toArray, List.set_cons_zero, List.set_cons_succ, i64_w, i32_w]
      rfl
     refine pure_ (i := 7) (N := some 12) (v := ?_) (a' := ?_) #[true, true, true, true, true, true, true, true, false, true, false, false] rfl rfl (any_of HT_.out (by kernel_rfl)) (fun _ _ _ h => h) (Or.inl ⟨by rfl, ?_⟩) ?_ ?_
     rotate_left
     ·intro w'
      go_simp
      with_reducible rfl
     rotate_left
     ·simp only [Act.put, List.setIfInBounds_toArray, List.set_cons_zero, List.set_cons_succ, i64_w, i32_w]
      rfl
     refine pure_ (i := 8) (N := some 13) (v := ?_) (a' := ?_) #[true, true, true, true, true, true, true, true, true, true, false, false] rfl rfl (any_of HT_.out (by kernel_rfl)) (fun _ _ _ h => h) (Or.inl ⟨by rfl, ?_⟩) ?_ ?_
     rotate_left
     ·intro w'
      go_simp
      with_reducible rfl
     rotate_left
     ·simp only [Act.put, List.setIfInBounds_toArray, List.set_cons_zero, List.set_cons_succ, i64_w, i32_w]
      rfl
     exact norm_ (by simp only [putAll, Act.put, List.setIfInBounds_toArray, List.set_cons_zero, List.set_cons_succ]) (hCont (gb283) _ ⟨hHeld, (by (with_reducible repeat (first | apply b1 | apply b2 | apply b3)); exact BK275.out), (by (with_reducible repeat (first | apply b1 | apply b2 | apply b3)); exact BK283.out), GW283.out, GE283.out, NB275_283.out, NB283_275.out, (by repeat (first | (with_reducible first | exact HB.out | apply l1 | apply l2 | apply l3 | refine below_set ?_ GE275.out | refine below_set ?_ GE283.out) | exact HB.out))⟩)
   ·skip
    refine box_step (by rfl) (N := 2) (by rfl) (cs := #[.int .i64 0, .int .i64 0]) (t := 32) (by first | (go_simp; done) | (go_simp; rfl)) ?_
    intro gb283 hg w40 hbox hb
    obtain ⟨hb_, hw_⟩ := box_facts (by repeat (first | (with_reducible first | exact HB.out | apply l1 | apply l2 | apply l3 | refine below_set ?_ GE275.out) | exact HB.out)) hg hb
    have n0_ := Aside0.mk (blk_below (g := gb275) (o := .cells #[.string (⟨#[97, 32, 98, 204, 129, 228, 184, 173, 255]⟩ : ByteArray), .slice none 0 0] 26 (0, 0)) (by (with_reducible repeat (first | apply b1 | apply b2 | apply b3)); exact BK275.out) hb)
    have n1_ := Aside0.mk (hb_)
    have n2_ := Aside0.mk (hbox)
    have n3_ := Aside0.mk (hw_)
    have n4_ := Aside0.mk (hw_)
    have n5_ := Aside0.mk ((by rw [hg]; exact Nat.ne_of_lt (blk_lt (g := gb275) (o := .cells #[.string (⟨#[97, 32, 98, 204, 129, 228, 184, 173, 255]⟩ : ByteArray), .slice none 0 0] 26 (0, 0)) (by (with_reducible repeat (first | apply b1 | apply b2 | apply b3)); exact BK275.out)) : gb275 ≠ gb283))
    have n6_ := Aside0.mk ((by rw [hg]; exact Nat.ne_of_gt (blk_lt (g := gb275) (o := .cells #[.string (⟨#[97, 32, 98, 204, 129, 228, 184, 173, 255]⟩ : ByteArray), .slice none 0 0] 26 (0, 0)) (by (with_reducible repeat (first | apply b1 | apply b2 | apply b3)); exact BK275.out)) : gb283 ≠ gb275))
    clear BK275
    clear HB
    have BK275 := n0_
    have HB := n1_
    have BK283 := n2_
    have GW283 := n3_
    have GE283 := n4_
    have NB275_283 := n5_
    have NB283_275 := n6_
    clear n0_ n1_ n2_ n3_ n4_ n5_ n6_
    clear hb hbox hg hb_ hw_
    refine hK.out _ _ ⟨(blk_cell BK275.out 0).trans rfl, (blk_cell BK275.out 1).trans rfl⟩ (fun hHeld => ?_)
    clear hK K
    refine norm_ (a' := ?_) ?_ ?_
    rotate_left
    ·show Act.put _ (some 2) _ = _
     simp only [Act.put, List.setIfInBounds_toArray, List.set_cons_zero, List.set_cons_succ, i64_w, i32_w]
     rfl
    refine one_ (i := 1) (N := some 7) #[true, true, true, false, false, false, false, false, false, true, false, false] rfl rfl (one_of HT_.out (by kernel_rfl)) (by decide) (fun K hK => ?_)
    refine goes_ Try.func20 (by kernel_rfl) rfl #[.int .i64 10] (by rfl) rfl rfl (by (try simp only [List.map_toArray, List.map_cons, List.map_nil]); first | done | rfl | (simp only [List.length_drop, List.length_take]; rfl)) ?_
    with_reducible refine (surtitlelaw11_whole.calls 10 t276 t277 _ A1.out).mono ?_
    rintro e w41 ⟨rfl, hb⟩
    refine ⟨_, rfl, ?_⟩
    have n0_ := Aside0.mk (blk_below (g := gb275) (o := .cells #[.string (⟨#[97, 32, 98, 204, 129, 228, 184, 173, 255]⟩ : ByteArray), .slice none 0 0] 26 (0, 0)) (by (with_reducible repeat (first | apply b1 | apply b2 | apply b3)); exact BK275.out) hb)
    have n1_ := Aside0.mk (blk_below (g := gb283) (o := .cells #[.int .i64 0, .int .i64 0] 32 (0, 0)) (by (with_reducible repeat (first | apply b1 | apply b2 | apply b3)); exact BK283.out) hb)
    have n2_ := Aside0.mk (below_step (by repeat (first | (with_reducible first | exact HB.out | apply l1 | apply l2 | apply l3 | refine below_set ?_ GE275.out | refine below_set ?_ GE283.out) | exact HB.out)) hb)
    clear BK275
    clear BK283
    clear HB
    have BK275 := n0_
    have BK283 := n1_
    have HB := n2_
    clear n0_ n1_ n2_
    (try clear hb)
    (try clear hb2)
    (try clear hk)
    (try clear hi)
    refine hK.out _ _ ⟨(blk_cell BK275.out 0).trans rfl, (blk_cell BK275.out 1).trans rfl⟩ (fun hHeld => ?_)
    clear hK K
    refine norm_ (a' := ?_) ?_ ?_
    rotate_left
    ·show Act.put _ (some 7) _ = _
     simp only [Act.put, List.setIfInBounds_toArray, List.set_cons_zero, List.set_cons_succ, i64_w, i32_w]
     rfl
    refine one_ (i := 3) (N := some 9) #[true, true, true, true, false, false, false, false, false, true, false, false] rfl rfl (one_of HT_.out (by kernel_rfl)) (by decide) (fun K hK => ?_)
    refine goes_ Try.func20 (by kernel_rfl) rfl #[.int .i64 0] (by rfl) rfl rfl (by (try simp only [List.map_toArray, List.map_cons, List.map_nil]); first | done | rfl | (simp only [List.length_drop, List.length_take]; rfl)) ?_
    with_reducible refine (surtitlelaw11_whole.calls 0 t278 t279 _ A2.out).mono ?_
    rintro e w42 ⟨rfl, hb⟩
    refine ⟨_, rfl, ?_⟩
    have n0_ := Aside0.mk (blk_below (g := gb275) (o := .cells #[.string (⟨#[97, 32, 98, 204, 129, 228, 184, 173, 255]⟩ : ByteArray), .slice none 0 0] 26 (0, 0)) (by (with_reducible repeat (first | apply b1 | apply b2 | apply b3)); exact BK275.out) hb)
    have n1_ := Aside0.mk (blk_below (g := gb283) (o := .cells #[.int .i64 0, .int .i64 0] 32 (0, 0)) (by (with_reducible repeat (first | apply b1 | apply b2 | apply b3)); exact BK283.out) hb)
    have n2_ := Aside0.mk (below_step (by repeat (first | (with_reducible first | exact HB.out | apply l1 | apply l2 | apply l3 | refine below_set ?_ GE275.out | refine below_set ?_ GE283.out) | exact HB.out)) hb)
    clear BK275
    clear BK283
    clear HB
    have BK275 := n0_
    have BK283 := n1_
    have HB := n2_
    clear n0_ n1_ n2_
    (try clear hb)
    (try clear hb2)
    (try clear hk)
    (try clear hi)
    refine hK.out _ _ ⟨(blk_cell BK275.out 0).trans rfl, (blk_cell BK275.out 1).trans rfl⟩ (fun hHeld => ?_)
    clear hK K
    refine norm_ (a' := ?_) ?_ ?_
    rotate_left
    ·show Act.put _ (some 9) _ = _
     simp only [Act.put, List.setIfInBounds_toArray, List.set_cons_zero, List.set_cons_succ, i64_w, i32_w]
     rfl
    refine pure_ (i := 4) (N := some 10) (v := ?_) (a' := ?_) #[true, true, true, true, true, false, false, false, false, true, false, false] rfl rfl (any_of HT_.out (by kernel_rfl)) (fun _ _ _ h => h) (Or.inl ⟨by rfl, ?_⟩) ?_ ?_
    rotate_left
    ·intro w'
     go_simp
     with_reducible rfl
    rotate_left
    ·simp only [Act.put, List.setIfInBounds_toArray, List.set_cons_zero, List.set_cons_succ, i64_w, i32_w]
     rfl
    refine one_ (i := 5) (N := some 11) #[true, true, true, true, true, true, false, false, false, true, false, false] rfl rfl (one_of HT_.out (by kernel_rfl)) (by decide) (fun K hK => ?_)
    refine goes_ Try.func17 (by kernel_rfl) rfl #[.agg #[.string (⟨#[97, 32, 98, 204, 129, 228, 184, 173, 255]⟩ : ByteArray), .slice none 0 0], .agg #[.int .i64 t276, .int .i64 t277, .int .i64 1, .int .i64 5, .int .i64 t278, .int .i64 t279]] (by rfl) rfl rfl (by (try simp only [List.map_toArray, List.map_cons, List.map_nil]); first | done | rfl | (simp only [List.length_drop, List.length_take]; rfl)) ?_
    refine (speed_Wants.calls k (⟨#[97, 32, 98, 204, 129, 228, 184, 173, 255]⟩ : ByteArray) _ _ ([] : List (S63)) t276 t277 1 5 t278 t279 t280 t281 t282 _ ?side1 ?side2 A3.out).mono ?_
    (case side1 => exact Kd.C_nil _ _)
    (case side2 => exact Nat.le_refl _)
    rintro e w43 ⟨rfl, hb⟩
    refine ⟨_, rfl, ?_⟩
    have n0_ := Aside0.mk (blk_below (g := gb275) (o := .cells #[.string (⟨#[97, 32, 98, 204, 129, 228, 184, 173, 255]⟩ : ByteArray), .slice none 0 0] 26 (0, 0)) (by (with_reducible repeat (first | apply b1 | apply b2 | apply b3)); exact BK275.out) hb)
    have n1_ := Aside0.mk (blk_below (g := gb283) (o := .cells #[.int .i64 0, .int .i64 0] 32 (0, 0)) (by (with_reducible repeat (first | apply b1 | apply b2 | apply b3)); exact BK283.out) hb)
    have n2_ := Aside0.mk (below_step (by repeat (first | (with_reducible first | exact HB.out | apply l1 | apply l2 | apply l3 | refine below_set ?_ GE275.out | refine below_set ?_ GE283.out) | exact HB.out)) hb)
    clear BK275
    clear BK283
    clear HB
    have BK275 := n0_
    have BK283 := n1_
    have HB := n2_
    clear n0_ n1_ n2_
    (try clear hb)
    (try clear hb2)
    (try clear hk)
    (try clear hi)
    refine hK.out _ _ ⟨(blk_cell BK275.out 0).trans rfl, (blk_cell BK275.out 1).trans rfl⟩ (fun hHeld => ?_)
    clear hK K
    refine norm_ (a' := ?_) ?_ ?_
    rotate_left
    ·show Act.put _ (some 11) _ = _
     simp only [Act.put, List.setIfInBounds_toArray, List.set_cons_zero, List.set_cons_succ, i64_w, i32_w]
     rfl
    refine pure_ (i := 6) (N := some 5) (v := ?_) (a' := ?_) #[true, true, true, true, true, true, true, false, false, true, false, false] rfl rfl (any_of HT_.out (by kernel_rfl)) (fun _ _ _ h => h) (Or.inl ⟨by rfl, ?_⟩) ?_ ?_
    rotate_left
    ·intro w'
     go_simp
     with_reducible rfl
    rotate_left
    ·simp only [Act.put, List.setIfInBounds_toArray, List.set_cons_zero, List.set_cons_succ, i64_w, i32_w]
     rfl
    refine pure_ (i := 7) (N := some 12) (v := ?_) (a' := ?_) #[true, true, true, true, true, true, true, true, false, true, false, false] rfl rfl (any_of HT_.out (by kernel_rfl)) (fun _ _ _ h => h) (Or.inl ⟨by rfl, ?_⟩) ?_ ?_
    rotate_left
    ·intro w'
     go_simp
     with_reducible rfl
    rotate_left
    ·simp only [Act.put, List.setIfInBounds_toArray, List.set_cons_zero, List.set_cons_succ, i64_w, i32_w]
     rfl
    refine pure_ (i := 8) (N := some 13) (v := ?_) (a' := ?_) #[true, true, true, true, true, true, true, true, true, true, false, false] rfl rfl (any_of HT_.out (by kernel_rfl)) (fun _ _ _ h => h) (Or.inl ⟨by rfl, ?_⟩) ?_ ?_
    rotate_left
    ·intro w'
     go_simp
     with_reducible rfl
    rotate_left
    ·simp only [Act.put, List.setIfInBounds_toArray, List.set_cons_zero, List.set_cons_succ, i64_w, i32_w]
     rfl
    exact norm_ (by simp only [putAll, Act.put, List.setIfInBounds_toArray, List.set_cons_zero, List.set_cons_succ]) (hCont (gb283) _ ⟨hHeld, (by (with_reducible repeat (first | apply b1 | apply b2 | apply b3)); exact BK275.out), (by (with_reducible repeat (first | apply b1 | apply b2 | apply b3)); exact BK283.out), GW283.out, GE283.out, NB275_283.out, NB283_275.out, (by repeat (first | (with_reducible first | exact HB.out | apply l1 | apply l2 | apply l3 | refine below_set ?_ GE275.out | refine below_set ?_ GE283.out) | exact HB.out))⟩)
  rintro gb283 w44 ⟨hS_, h0_, h1_, h2_, h3_, h4_, h5_, h6_⟩
  have n0_ : Aside0 (w44.heap[gb275]? = some (.cells #[.string (⟨#[97, 32, 98, 204, 129, 228, 184, 173, 255]⟩ : ByteArray), .slice none 0 0] 26 (0, 0))) := ⟨h0_⟩
  have n1_ : Aside0 (w44.heap[gb283]? = some (.cells #[.int .i64 0, .int .i64 0] 32 (0, 0))) := ⟨h1_⟩
  have n2_ : Aside0 (w.heap.size ≤ gb283) := ⟨h2_⟩
  have n3_ : Aside0 (w.heap.size ≤ gb283) := ⟨h3_⟩
  have n4_ : Aside0 (gb275 ≠ gb283) := ⟨h4_⟩
  have n5_ : Aside0 (gb283 ≠ gb275) := ⟨h5_⟩
  have n6_ : Aside0 (Below w.heap.size w w44) := ⟨h6_⟩
  clear BK275
  clear HB
  clear h0_ h1_ h2_ h3_ h4_ h5_ h6_
  have BK275 := n0_
  have BK283 := n1_
  have GW283 := n2_
  have GE283 := n3_
  have NB275_283 := n4_
  have NB283_275 := n5_
  have HB := n6_
  clear n0_ n1_ n2_ n3_ n4_ n5_ n6_
  have hHeld : w44.cell? ⟨gb275, 0, none⟩ = some (.string (⟨#[97, 32, 98, 204, 129, 228, 184, 173, 255]⟩ : ByteArray)) ∧ w44.cell? ⟨gb275, 1, none⟩ = some (.slice none 0 0) := hS_
  refine norm_ (a' := ?_) ?_ ?_
  rotate_left
  ·simp only [putAll, Act.put, List.setIfInBounds_toArray, List.set_cons_zero, List.set_cons_succ]
   rfl
  refine one_ (i := 10) (N := none) #[true, true, true, true, true, true, true, true, true, true, true, false] rfl rfl (one_of HT_.out (by kernel_rfl)) (by decide) (fun K hK => ?_)
  have hs45 : w44.cell? ⟨gb283, 0, none⟩ = some (.int .i64 0) := (blk_cell BK283.out 0).trans rfl
  have hfs45 := blk_frozen BK283.out 0
  have hns45_0 := NB275_283.out
  have hms45_0 := NB283_275.out
  have hs46 : w44.cell? ⟨gb283, 1, none⟩ = some (.int .i64 0) := (blk_cell BK283.out 1).trans rfl
  have hfs46 := blk_frozen BK283.out 1
  have hns46_0 := NB275_283.out
  have hms46_0 := NB283_275.out
  refine skip_ (w1 := ?_) (by rfl) rfl ?_ ?_
  rotate_left
  ·go_simp
   rfl
  refine hK.out _ _ ⟨((cell_far (p := ⟨gb283, _, none⟩) NB275_283.out _).trans (((cell_far (p := ⟨gb283, _, none⟩) NB275_283.out _).trans (hHeld.1)))), ((cell_far (p := ⟨gb283, _, none⟩) NB275_283.out _).trans (((cell_far (p := ⟨gb283, _, none⟩) NB275_283.out _).trans (hHeld.2))))⟩ (fun hHeld => ?_)
  clear hK K
  refine pure_ (i := 11) (N := some 3) (v := ?_) (a' := ?_) #[true, true, true, true, true, true, true, true, true, true, true, true] rfl rfl (any_of HT_.out (by kernel_rfl)) (fun _ _ _ h => h) (Or.inl ⟨by rfl, ?_⟩) ?_ ?_
  rotate_left
  ·intro w'
   go_simp
   with_reducible rfl
  rotate_left
  ·simp only [Act.put, List.setIfInBounds_toArray, List.set_cons_zero, List.set_cons_succ, i64_w, i32_w]
   rfl
  refine done_ (done_of HT_.out (by kernel_rfl)) ?_
  have hnb47 := NB275_283.out
  have hnc47 := NB283_275.out
  obtain ⟨hcz48_0, hcz48_1, hfz48_0, hfz48_1⟩ := blk_cells2 BK275.out
  try go_wp2_with (first | ((with_reducible refine gate_callee (f := 9) rfl ?_); refine goesL_ (some 15) rfl rfl Try.func9 (by kernel_rfl) rfl #[.agg #[.string (⟨#[97, 32, 98, 204, 129, 228, 184, 173, 255]⟩ : ByteArray), .slice none 0 0]] rfl (by (try simp only [List.map_toArray, List.map_cons, List.map_nil]); first | done | rfl | (simp only [List.length_drop, List.length_take]; rfl)) ?_; (refine (speed_Count.calls k (⟨#[97, 32, 98, 204, 129, 228, 184, 173, 255]⟩ : ByteArray) _ _ ([] : List (S63)) t284 _ ?side1 ?side2 A4.out).mono ?_); (case side1 => exact Kd.C_nil _ _); (case side2 => exact Nat.le_refl _); rintro e w49 ⟨rfl, hb⟩; refine ⟨_, rfl, ?_⟩; have n0_ := Aside0.mk (blk_below (g := gb275) (o := .cells #[.string (⟨#[97, 32, 98, 204, 129, 228, 184, 173, 255]⟩ : ByteArray), .slice none 0 0] 26 (0, 0)) (by (with_reducible repeat (first | apply b1 | apply b2 | apply b3)); refine blk_far ?_ NB275_283.out _; (with_reducible repeat (first | apply b1 | apply b2 | apply b3)); refine blk_far ?_ NB275_283.out _; (with_reducible repeat (first | apply b1 | apply b2 | apply b3)); exact BK275.out) hb); have n1_ := Aside0.mk (blk_below (g := gb283) (o := .cells #[.int .i64 t280, .int .i64 t281] 32 (0, 0)) (by (with_reducible repeat (first | apply b1 | apply b2 | apply b3)); refine blk_put (cs := #[.int .i64 t280, .int .i64 0]) ?_ 1 _ rfl; (with_reducible repeat (first | apply b1 | apply b2 | apply b3)); refine blk_put (cs := #[.int .i64 0, .int .i64 0]) ?_ 0 _ rfl; (with_reducible repeat (first | apply b1 | apply b2 | apply b3)); exact BK283.out) hb); have n2_ := Aside0.mk (below_step (by repeat (first | (with_reducible first | exact HB.out | apply l1 | apply l2 | apply l3 | refine below_set ?_ GE275.out | refine below_set ?_ GE283.out) | exact HB.out)) hb); clear BK275; clear BK283; clear HB; have BK275 := n0_; have BK283 := n1_; have HB := n2_; clear n0_ n1_ n2_; (try clear hb); (try clear hb2); (try clear hk); (try clear hi)))
  go_ret
  exact ⟨by first | rfl | (simp [errW_none, errW_some] <;> rfl) | (simp [*, errW_none, errW_some] <;> rfl), by repeat (first | (with_reducible first | exact HB.out | apply l1 | apply l2 | apply l3 | refine below_set ?_ GE275.out | refine below_set ?_ GE283.out) | exact HB.out)⟩
end Go.Proofs.Ythgifhnfbblklaa.PSp
