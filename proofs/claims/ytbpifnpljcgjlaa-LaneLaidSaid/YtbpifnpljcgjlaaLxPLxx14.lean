-- Written by programs of this session's (wip/printer) out of the translation and of the print's words; Lean checks it.
import Derived.Test.YtbpifnpljcgjlaaLxPLxx0
import Derived.Test.YtbpifnpljcgjlaaLxPLxx13
namespace Go.Proofs.Ytbpifnpljcgjlaa.PLx
open Go.RowKit Go.Proofs.YtbpifnpljcgjlaaW.PrintWords Go.Proofs.YtbpifnpljcgjlaaW.PrintLast Go.Proofs.YtbpifnpljcgjlaaW.PrintMore
attribute [local go_sem] max2_int min2_int max_two min_two max_three min_three max_four min_four   -- for this text's walks alone
set_option linter.unusedVariables false
set_option linter.unusedSimpArgs false
def surtitlelaw13_SameDoc.l0 : Nat → Int → List (S41) → List (S41) → Option (Bool)
 | 0, _, _, _ => none
 | k + 1, x5, x354000, x355000 => if x5 < (x354000.length : Int) then (if 0 ≤ x5 then (if x5 < (x355000.length : Int) then ((surtitlelaw13_SameCue.f k ((rd_T41 x354000 x5).f0.f0) ((rd_T41 x354000 x5).f0.f1) ((rd_T41 x354000 x5).f1.f0) ((rd_T41 x354000 x5).f1.f1) ((rd_T41 x354000 x5).f2) ((rd_T41 x354000 x5).f3) ((rd_T41 x354000 x5).f4) ((rd_T41 x354000 x5).f5.f0) ((rd_T41 x354000 x5).f5.f1) ((rd_T41 x355000 x5).f0.f0) ((rd_T41 x355000 x5).f0.f1) ((rd_T41 x355000 x5).f1.f0) ((rd_T41 x355000 x5).f1.f1) ((rd_T41 x355000 x5).f2) ((rd_T41 x355000 x5).f3) ((rd_T41 x355000 x5).f4) ((rd_T41 x355000 x5).f5.f0) ((rd_T41 x355000 x5).f5.f1)).bind fun t357 => (if t357 = true then (surtitlelaw13_SameDoc.l0 k (wrap64 (x5 + 1)) x354000 x355000) else (some false))) else (none)) else (none)) else (some true)
def surtitlelaw13_SameDoc.f (k : Nat) (l0_0 : List (S41)) (l1_0 : List (S41)) : Option (Bool) := if (l0_0.length : Int) = (l1_0.length : Int) then (surtitlelaw13_SameDoc.l0 k 0 l0_0 l1_0) else (some false)
def surtitlelaw13_SameDoc.T6 : Bool × List (List Nat × List Nat) := (true, [([], []), ([0], [0]), ([], []), ([1, 2], [1, 2]), ([3], [3]), ([], []), ([5], [5]), ([], []), ([6, 7], [6, 7]), ([8], [8]), ([4, 9], [4, 9]), ([10], [10])])
def surtitlelaw13_SameDoc.B6 : List Nat := [0, 1, 0, 7, 15, 0, 32, 0, 224, 480, 1023, 2047]
theorem surtitlelaw13_SameDoc.tab6 : rtab .any (opsOf Try.f12 6) = surtitlelaw13_SameDoc.T6 := by kernel_rfl
theorem surtitlelaw13_SameDoc.bits6 : waitsOk surtitlelaw13_SameDoc.T6.2 surtitlelaw13_SameDoc.B6 = true := by kernel_rfl
set_option maxHeartbeats 8000000 in
set_option maxRecDepth 100000 in
theorem surtitlelaw13_SameDoc.calls (k : Nat) (A0_0 : Option Addr) (c0_0 : Nat) (l0_0 : List (S41)) (A1_0 : Option Addr) (c1_0 : Nat) (l1_0 : List (S41)) (r : Bool) (w : World) (hr0_0 : Kd.C k41 w A0_0 l0_0.length l0_0) (hc0_0 : l0_0.length ≤ c0_0) (hr1_0 : Kd.C k41 w A1_0 l1_0.length l1_0) (hc1_0 : l1_0.length ≤ c1_0) (h : surtitlelaw13_SameDoc.f k l0_0 l1_0 = some r) :
  Calls Try.prog 12 #[.agg #[.slice A0_0 l0_0.length c0_0], .agg #[.slice A1_0 l1_0.length c1_0]] w fun e w' => e = .returned (.bool r) ∧ Below w.heap.size w w' := by
 have hu24 := Try.underlying24
 have hu41 := Try.underlying41
 have HR0_0 := Aside0.mk hr0_0
 have HC0_0 := Aside0.mk hc0_0
 clear hr0_0 hc0_0
 have HR1_0 := Aside0.mk hr1_0
 have HC1_0 := Aside0.mk hc1_0
 clear hr1_0 hc1_0
 have HB := Aside0.mk (Below.refl w.heap.size w)
 have H : (if (l0_0.length : Int) = (l1_0.length : Int) then (surtitlelaw13_SameDoc.l0 k 0 l0_0 l1_0) else (some false)) = some r := h
 clear h
 by_cases c3 : (l0_0.length : Int) = (l1_0.length : Int)
 ·rw [if_pos c3] at H
  have c3b0 : ((l0_0.length : Int) == (l1_0.length : Int)) = true := beq_iff_eq.mpr c3
  have c3b1 : ((l0_0.length : Int) != (l1_0.length : Int)) = false := bne_eq_false_iff_eq.mpr c3
  have c3b2 : (l0_0.length == l1_0.length) = true := by first | simpa using c3 | (simp at c3 ⊢; omega)
  clear c3
  have H' := Aside0.mk H
  clear H
  go_enter Try.func12, Try.ntmps12
  go_wp2_with (first | ((with_reducible refine gate_dst (N := 2) rfl ?_); refine box_event (by rfl) (N := 2) (by rfl) (cs := #[.slice A0_0 l0_0.length c0_0]) (t := 24) (by first | (go_simp; done) | (go_simp; rfl)) ?_; intro gb353 hg w4 hbox hb; obtain ⟨hb_, hw_⟩ := box_facts (by repeat (first | (with_reducible first | exact HB.out | apply l1 | apply l2 | apply l3) | exact HB.out)) hg hb; have n0_ := Aside0.mk (hb_); have n1_ := Aside0.mk (hbox); have n2_ := Aside0.mk (hw_); have n3_ := Aside0.mk (hw_); clear HB; have HB := n0_; have BK353 := n1_; have GW353 := n2_; have GE353 := n3_; clear n0_ n1_ n2_ n3_; clear hb hbox hg hb_ hw_) | ((with_reducible refine gate_dst (N := 3) rfl ?_); refine box_event (by rfl) (N := 3) (by rfl) (cs := #[.slice A1_0 l1_0.length c1_0]) (t := 24) (by first | (go_simp; done) | (go_simp; rfl)) ?_; intro gb354 hg w5 hbox hb; obtain ⟨hb_, hw_⟩ := box_facts (by repeat (first | (with_reducible first | exact HB.out | apply l1 | apply l2 | apply l3 | refine below_set ?_ GE353.out) | exact HB.out)) hg hb; have n0_ := Aside0.mk (blk_below (by (with_reducible repeat (first | apply b1 | apply b2 | apply b3)); exact BK353.out) hb); have n1_ := Aside0.mk (hb_); have n2_ := Aside0.mk (hbox); have n3_ := Aside0.mk (hw_); have n4_ := Aside0.mk (hw_); have n5_ := Aside0.mk ((by rw [hg]; exact Nat.ne_of_lt (blk_lt (by (with_reducible repeat (first | apply b1 | apply b2 | apply b3)); exact BK353.out)) : gb353 ≠ gb354)); have n6_ := Aside0.mk ((by rw [hg]; exact Nat.ne_of_gt (blk_lt (by (with_reducible repeat (first | apply b1 | apply b2 | apply b3)); exact BK353.out)) : gb354 ≠ gb353)); clear BK353; clear HB; have BK353 := n0_; have HB := n1_; have BK354 := n2_; have GW354 := n3_; have GE354 := n4_; have NB353_354 := n5_; have NB354_353 := n6_; clear n0_ n1_ n2_ n3_ n4_ n5_ n6_; clear hb hbox hg hb_ hw_; have hnb6 := NB353_354.out; have hnc6 := NB354_353.out; obtain ⟨hcz7_0, hfz7_0⟩ := blk_cells1 BK353.out; obtain ⟨hcz8_0, hfz8_0⟩ := blk_cells1 BK354.out))
  (try simp only [Act.put, List.setIfInBounds_toArray, List.set_cons_zero, List.set_cons_succ])
  go_loopg [5] k (fun kq v5 w' => ∃ (x5_1 : Int), v5 = .int .i64 x5_1 ∧ Aside0 (surtitlelaw13_SameDoc.l0 kq x5_1 l0_0 l1_0 = some r) ∧ Aside0 (kq ≤ k) ∧ Aside0 (w'.heap[gb353]? = some (.cells #[(.slice A0_0 l0_0.length c0_0)] 24 (0, 0))) ∧ Aside0 (w'.heap[gb354]? = some (.cells #[(.slice A1_0 l1_0.length c1_0)] 24 (0, 0))) ∧ Aside0 (Below w.heap.size w w'))
  case atStart => exact ⟨(0), (by first | rfl | (simp; done) | (simp [*]; done)), H', ⟨Nat.le_refl _⟩, ⟨by (with_reducible repeat (first | apply b1 | apply b2 | apply b3)); exact BK353.out⟩, ⟨by (with_reducible repeat (first | apply b1 | apply b2 | apply b3)); exact BK354.out⟩, ⟨by repeat (first | (with_reducible first | exact HB.out | apply l1 | apply l2 | apply l3 | refine below_set ?_ GE353.out | refine below_set ?_ GE354.out) | exact HB.out)⟩⟩
  case round =>
   clear H'
   try clear c1
   try clear p2
   try clear c3
   try clear c3b0
   try clear c3b1
   try clear c3b2
   try clear c6
   try clear hcz7_0
   try clear hcz8_0
   try clear hfz7_0
   try clear hfz8_0
   obtain ⟨x5_1, rfl, HA, HK1, BK353, BK354, HB⟩ := hrel
   cases gk with
   | zero => exact absurd HA.out (by simp [surtitlelaw13_SameDoc.l0])
   | succ k1 =>
    have H := HA.out
    clear HA
    simp only [surtitlelaw13_SameDoc.l0] at H
    by_cases c9 : x5_1 < (l0_0.length : Int)
    ·rw [if_pos c9] at H
     have c9b0 : decide (x5_1 < (l0_0.length : Int)) = true := decide_eq_true c9
     clear c9
     by_cases c10 : 0 ≤ x5_1
     ·rw [if_pos c10] at H
      have c10b0 : decide (0 ≤ x5_1) = true := decide_eq_true c10
      clear c10
      by_cases c11 : x5_1 < (l1_0.length : Int)
      ·rw [if_pos c11] at H
       have c11b0 : decide (x5_1 < (l1_0.length : Int)) = true := decide_eq_true c11
       clear c11
       replace H := Option.bind_eq_some_iff.mp H
       obtain ⟨t357, A120, H⟩ := H
       (try dsimp only at H)
       have A12 := Aside0.mk A120
       clear A120
       by_cases c13 : t357 = true
       ·subst c13
        have H1 : (surtitlelaw13_SameDoc.l0 k1 (wrap64 (x5_1 + 1)) l0_0 l1_0) = some r := by rw [if_pos rfl] at H; exact H
        clear H
        have H := H1
        clear H1
        have H' := Aside0.mk H
        clear H
        have hnb14 := NB353_354.out
        have hnc14 := NB354_353.out
        obtain ⟨hcz15_0, hfz15_0⟩ := blk_cells1 BK353.out
        try go_wp2
        have n0_ := Aside0.mk (blk_drew BK353.out)
        have n1_ := Aside0.mk (blk_drew BK354.out)
        have n2_ := Aside0.mk (below_drew1 HB.out)
        clear BK353
        clear BK354
        clear HB
        have BK353 := n0_
        have BK354 := n1_
        have HB := n2_
        clear n0_ n1_ n2_
        have p355 : 0 ≤ (x5_1 : Int) := of_decide_eq_true (by first | (with_reducible assumption) | assumption)
        have q355 : x5_1 < (l0_0.length : Int) := of_decide_eq_true (by first | (with_reducible assumption) | assumption)
        obtain ⟨ad355, A355_8, c355_8, e355, hx355_0, hx355_1, hx355_2, hx355_3, hx355_4, hx355_5, hx355_6, hx355_7, hx355_8, hl355_8, hi355_8⟩ := at_T41 HR0_0.out x5_1 p355 q355
        have hw355_8 := hx355_8
        have hw355_7 := hx355_7
        have hw355_6 := hx355_6
        have hw355_5 := hx355_5
        have hw355_4 := hx355_4
        have hw355_3 := hx355_3
        have hw355_2 := hx355_2
        have hw355_1 := hx355_1
        have hw355_0 := hx355_0
        cases e355
        replace hx355_0 := (HB.out.cell (World.block_lt_of_cell? w _ hx355_0)).trans hx355_0
        replace hx355_1 := (HB.out.cell (World.block_lt_of_cell? w _ hx355_1)).trans hx355_1
        replace hx355_2 := (HB.out.cell (World.block_lt_of_cell? w _ hx355_2)).trans hx355_2
        replace hx355_3 := (HB.out.cell (World.block_lt_of_cell? w _ hx355_3)).trans hx355_3
        replace hx355_4 := (HB.out.cell (World.block_lt_of_cell? w _ hx355_4)).trans hx355_4
        replace hx355_5 := (HB.out.cell (World.block_lt_of_cell? w _ hx355_5)).trans hx355_5
        replace hx355_6 := (HB.out.cell (World.block_lt_of_cell? w _ hx355_6)).trans hx355_6
        replace hx355_7 := (HB.out.cell (World.block_lt_of_cell? w _ hx355_7)).trans hx355_7
        replace hx355_8 := (HB.out.cell (World.block_lt_of_cell? w _ hx355_8)).trans hx355_8
        have HR355_8 := Aside0.mk hi355_8
        have HC355_8 := Aside0.mk hl355_8
        clear hi355_8 hl355_8
        replace p355 := eq_true p355
        replace q355 := eq_true q355
        have p356 : 0 ≤ (x5_1 : Int) := of_decide_eq_true (by first | (with_reducible assumption) | assumption)
        have q356 : x5_1 < (l1_0.length : Int) := of_decide_eq_true (by first | (with_reducible assumption) | assumption)
        obtain ⟨ad356, A356_8, c356_8, e356, hx356_0, hx356_1, hx356_2, hx356_3, hx356_4, hx356_5, hx356_6, hx356_7, hx356_8, hl356_8, hi356_8⟩ := at_T41 HR1_0.out x5_1 p356 q356
        have hw356_8 := hx356_8
        have hw356_7 := hx356_7
        have hw356_6 := hx356_6
        have hw356_5 := hx356_5
        have hw356_4 := hx356_4
        have hw356_3 := hx356_3
        have hw356_2 := hx356_2
        have hw356_1 := hx356_1
        have hw356_0 := hx356_0
        cases e356
        replace hx356_0 := (HB.out.cell (World.block_lt_of_cell? w _ hx356_0)).trans hx356_0
        replace hx356_1 := (HB.out.cell (World.block_lt_of_cell? w _ hx356_1)).trans hx356_1
        replace hx356_2 := (HB.out.cell (World.block_lt_of_cell? w _ hx356_2)).trans hx356_2
        replace hx356_3 := (HB.out.cell (World.block_lt_of_cell? w _ hx356_3)).trans hx356_3
        replace hx356_4 := (HB.out.cell (World.block_lt_of_cell? w _ hx356_4)).trans hx356_4
        replace hx356_5 := (HB.out.cell (World.block_lt_of_cell? w _ hx356_5)).trans hx356_5
        replace hx356_6 := (HB.out.cell (World.block_lt_of_cell? w _ hx356_6)).trans hx356_6
        replace hx356_7 := (HB.out.cell (World.block_lt_of_cell? w _ hx356_7)).trans hx356_7
        replace hx356_8 := (HB.out.cell (World.block_lt_of_cell? w _ hx356_8)).trans hx356_8
        have HR356_8 := Aside0.mk hi356_8
        have HC356_8 := Aside0.mk hl356_8
        clear hi356_8 hl356_8
        replace p356 := eq_true p356
        replace q356 := eq_true q356
        refine start_ (n := 12) (S := fun w' => w'.cell? ⟨gb353, 0, none⟩ = some (.slice (some ad355) l0_0.length c0_0) ∧ w'.cell? ⟨gb354, 0, none⟩ = some (.slice (some ad356) l1_0.length c1_0) ∧ w'.cell? (ad355.add ((x5_1).toNat * 9)) = some (.int .i64 ((rd_T41 l0_0 x5_1).f0.f0)) ∧ w'.cell? ⟨(ad355.add ((x5_1).toNat * 9)).block, (ad355.add ((x5_1).toNat * 9)).off + 1, none⟩ = some (.int .i64 ((rd_T41 l0_0 x5_1).f0.f1)) ∧ w'.cell? ⟨(ad355.add ((x5_1).toNat * 9)).block, (ad355.add ((x5_1).toNat * 9)).off + 2, none⟩ = some (.int .i64 ((rd_T41 l0_0 x5_1).f1.f0)) ∧ w'.cell? ⟨(ad355.add ((x5_1).toNat * 9)).block, (ad355.add ((x5_1).toNat * 9)).off + 3, none⟩ = some (.int .i64 ((rd_T41 l0_0 x5_1).f1.f1)) ∧ w'.cell? ⟨(ad355.add ((x5_1).toNat * 9)).block, (ad355.add ((x5_1).toNat * 9)).off + 4, none⟩ = some (.int .i64 ((rd_T41 l0_0 x5_1).f2)) ∧ w'.cell? ⟨(ad355.add ((x5_1).toNat * 9)).block, (ad355.add ((x5_1).toNat * 9)).off + 5, none⟩ = some (.int .i64 ((rd_T41 l0_0 x5_1).f3)) ∧ w'.cell? ⟨(ad355.add ((x5_1).toNat * 9)).block, (ad355.add ((x5_1).toNat * 9)).off + 6, none⟩ = some (.string ((rd_T41 l0_0 x5_1).f4)) ∧ w'.cell? ⟨(ad355.add ((x5_1).toNat * 9)).block, (ad355.add ((x5_1).toNat * 9)).off + 7, none⟩ = some (.string ((rd_T41 l0_0 x5_1).f5.f0)) ∧ w'.cell? ⟨(ad355.add ((x5_1).toNat * 9)).block, (ad355.add ((x5_1).toNat * 9)).off + 8, none⟩ = some (.slice A355_8 ((rd_T41 l0_0 x5_1).f5.f1).length c355_8) ∧ w'.cell? (ad356.add ((x5_1).toNat * 9)) = some (.int .i64 ((rd_T41 l1_0 x5_1).f0.f0)) ∧ w'.cell? ⟨(ad356.add ((x5_1).toNat * 9)).block, (ad356.add ((x5_1).toNat * 9)).off + 1, none⟩ = some (.int .i64 ((rd_T41 l1_0 x5_1).f0.f1)) ∧ w'.cell? ⟨(ad356.add ((x5_1).toNat * 9)).block, (ad356.add ((x5_1).toNat * 9)).off + 2, none⟩ = some (.int .i64 ((rd_T41 l1_0 x5_1).f1.f0)) ∧ w'.cell? ⟨(ad356.add ((x5_1).toNat * 9)).block, (ad356.add ((x5_1).toNat * 9)).off + 3, none⟩ = some (.int .i64 ((rd_T41 l1_0 x5_1).f1.f1)) ∧ w'.cell? ⟨(ad356.add ((x5_1).toNat * 9)).block, (ad356.add ((x5_1).toNat * 9)).off + 4, none⟩ = some (.int .i64 ((rd_T41 l1_0 x5_1).f2)) ∧ w'.cell? ⟨(ad356.add ((x5_1).toNat * 9)).block, (ad356.add ((x5_1).toNat * 9)).off + 5, none⟩ = some (.int .i64 ((rd_T41 l1_0 x5_1).f3)) ∧ w'.cell? ⟨(ad356.add ((x5_1).toNat * 9)).block, (ad356.add ((x5_1).toNat * 9)).off + 6, none⟩ = some (.string ((rd_T41 l1_0 x5_1).f4)) ∧ w'.cell? ⟨(ad356.add ((x5_1).toNat * 9)).block, (ad356.add ((x5_1).toNat * 9)).off + 7, none⟩ = some (.string ((rd_T41 l1_0 x5_1).f5.f0)) ∧ w'.cell? ⟨(ad356.add ((x5_1).toNat * 9)).block, (ad356.add ((x5_1).toNat * 9)).off + 8, none⟩ = some (.slice A356_8 ((rd_T41 l1_0 x5_1).f5.f1).length c356_8)) (ds := []) #[false, false, false, false, false, false, false, false, false, false, false, false] (by kernel_rfl) rfl rfl ⟨(blk_cell BK353.out 0).trans rfl, (blk_cell BK354.out 0).trans rfl, ((HB.out.cell (World.block_lt_of_cell? w _ hw355_0)).trans hw355_0), ((HB.out.cell (World.block_lt_of_cell? w _ hw355_1)).trans hw355_1), ((HB.out.cell (World.block_lt_of_cell? w _ hw355_2)).trans hw355_2), ((HB.out.cell (World.block_lt_of_cell? w _ hw355_3)).trans hw355_3), ((HB.out.cell (World.block_lt_of_cell? w _ hw355_4)).trans hw355_4), ((HB.out.cell (World.block_lt_of_cell? w _ hw355_5)).trans hw355_5), ((HB.out.cell (World.block_lt_of_cell? w _ hw355_6)).trans hw355_6), ((HB.out.cell (World.block_lt_of_cell? w _ hw355_7)).trans hw355_7), ((HB.out.cell (World.block_lt_of_cell? w _ hw355_8)).trans hw355_8), ((HB.out.cell (World.block_lt_of_cell? w _ hw356_0)).trans hw356_0), ((HB.out.cell (World.block_lt_of_cell? w _ hw356_1)).trans hw356_1), ((HB.out.cell (World.block_lt_of_cell? w _ hw356_2)).trans hw356_2), ((HB.out.cell (World.block_lt_of_cell? w _ hw356_3)).trans hw356_3), ((HB.out.cell (World.block_lt_of_cell? w _ hw356_4)).trans hw356_4), ((HB.out.cell (World.block_lt_of_cell? w _ hw356_5)).trans hw356_5), ((HB.out.cell (World.block_lt_of_cell? w _ hw356_6)).trans hw356_6), ((HB.out.cell (World.block_lt_of_cell? w _ hw356_7)).trans hw356_7), ((HB.out.cell (World.block_lt_of_cell? w _ hw356_8)).trans hw356_8)⟩ (fun hHeld => ?_); refine with_tabW surtitlelaw13_SameDoc.tab6 surtitlelaw13_SameDoc.bits6 (fun HT_ HW_ => ?_)
        generalize wr.drew = w16 at BK353 BK354 HB HR355_8 HR356_8 hx355_0 hx355_1 hx355_2 hx355_3 hx355_4 hx355_5 hx355_6 hx355_7 hx355_8 hx356_0 hx356_1 hx356_2 hx356_3 hx356_4 hx356_5 hx356_6 hx356_7 hx356_8 hHeld ⊢
        refine pure_ (i := 0) (N := some 20) (v := ?_) (a' := ?_) #[true, false, false, false, false, false, false, false, false, false, false, false] rfl rfl (any_of HT_.out (by kernel_rfl)) (fun _ _ _ h => h) (Or.inl ⟨by rfl, ?_⟩) ?_ ?_
        rotate_left
        ·intro w'
         go_simp
         with_reducible rfl
        rotate_left
        ·simp only [Act.put, List.setIfInBounds_toArray, List.set_cons_zero, List.set_cons_succ, i64_w, i32_w]
         rfl
        refine pure_ (i := 2) (N := some 22) (v := ?_) (a' := ?_) #[true, false, true, false, false, false, false, false, false, false, false, false] rfl rfl (any_of HT_.out (by kernel_rfl)) (fun _ _ _ h => h) (Or.inl ⟨by rfl, ?_⟩) ?_ ?_
        rotate_left
        ·intro w'
         go_simp
         with_reducible rfl
        rotate_left
        ·simp only [Act.put, List.setIfInBounds_toArray, List.set_cons_zero, List.set_cons_succ, i64_w, i32_w]
         rfl
        refine pure_ (i := 5) (N := some 25) (v := ?_) (a' := ?_) #[true, false, true, false, false, true, false, false, false, false, false, false] rfl rfl (any_of HT_.out (by kernel_rfl)) (fun _ _ _ h => h) (Or.inl ⟨by rfl, ?_⟩) ?_ ?_
        rotate_left
        ·intro w'
         go_simp
         with_reducible rfl
        rotate_left
        ·simp only [Act.put, List.setIfInBounds_toArray, List.set_cons_zero, List.set_cons_succ, i64_w, i32_w]
         rfl
        refine pure_ (i := 7) (N := some 27) (v := ?_) (a' := ?_) #[true, false, true, false, false, true, false, true, false, false, false, false] rfl rfl (any_of HT_.out (by kernel_rfl)) (fun _ _ _ h => h) (Or.inl ⟨by rfl, ?_⟩) ?_ ?_
        rotate_left
        ·intro w'
         go_simp
         with_reducible rfl
        rotate_left
        ·simp only [Act.put, List.setIfInBounds_toArray, List.set_cons_zero, List.set_cons_succ, i64_w, i32_w]
         rfl
        refine take_ (i := 1) (N := some 21) (v := ?_) (a' := ?_) #[true, true, true, false, false, true, false, true, false, false, false, false] rfl rfl (take_ofW HT_.out HW_.out (by kernel_rfl)) (fun _ _ _ h => h) (Or.inl ⟨by rfl, ?_⟩) hHeld ?_ ?_
        rotate_left
        ·rintro w' ⟨s0, s1, s2, s3, s4, s5, s6, s7, s8, s9, s10, s11, s12, s13, s14, s15, s16, s17, s18, s19⟩
         go_simp
         with_reducible rfl
        rotate_left
        ·simp only [Act.put, List.setIfInBounds_toArray, List.set_cons_zero, List.set_cons_succ, i64_w, i32_w]
         rfl
        refine pure_ (i := 3) (N := some 23) (v := ?_) (a' := ?_) #[true, true, true, true, false, true, false, true, false, false, false, false] rfl rfl (any_of HT_.out (by kernel_rfl)) (fun _ _ _ h => h) (Or.inl ⟨by rfl, ?_⟩) ?_ ?_
        rotate_left
        ·intro w'
         go_simp
         with_reducible rfl
        rotate_left
        ·simp only [Act.put, List.setIfInBounds_toArray, List.set_cons_zero, List.set_cons_succ, i64_w, i32_w]
         rfl
        refine take_ (i := 4) (N := some 24) (v := ?_) (a' := ?_) #[true, true, true, true, true, true, false, true, false, false, false, false] rfl rfl (take_ofW HT_.out HW_.out (by kernel_rfl)) (fun _ _ _ h => h) (Or.inl ⟨by rfl, ?_⟩) hHeld ?_ ?_
        rotate_left
        ·rintro w' ⟨s0, s1, s2, s3, s4, s5, s6, s7, s8, s9, s10, s11, s12, s13, s14, s15, s16, s17, s18, s19⟩
         go_simp
         with_reducible rfl
        rotate_left
        ·simp only [Act.put, List.setIfInBounds_toArray, List.set_cons_zero, List.set_cons_succ, i64_w, i32_w]
         rfl
        refine take_ (i := 6) (N := some 26) (v := ?_) (a' := ?_) #[true, true, true, true, true, true, true, true, false, false, false, false] rfl rfl (take_ofW HT_.out HW_.out (by kernel_rfl)) (fun _ _ _ h => h) (Or.inl ⟨by rfl, ?_⟩) hHeld ?_ ?_
        rotate_left
        ·rintro w' ⟨s0, s1, s2, s3, s4, s5, s6, s7, s8, s9, s10, s11, s12, s13, s14, s15, s16, s17, s18, s19⟩
         go_simp
         with_reducible rfl
        rotate_left
        ·simp only [Act.put, List.setIfInBounds_toArray, List.set_cons_zero, List.set_cons_succ, i64_w, i32_w]
         rfl
        refine pure_ (i := 8) (N := some 28) (v := ?_) (a' := ?_) #[true, true, true, true, true, true, true, true, true, false, false, false] rfl rfl (any_of HT_.out (by kernel_rfl)) (fun _ _ _ h => h) (Or.inl ⟨by rfl, ?_⟩) ?_ ?_
        rotate_left
        ·intro w'
         go_simp
         with_reducible rfl
        rotate_left
        ·simp only [Act.put, List.setIfInBounds_toArray, List.set_cons_zero, List.set_cons_succ, i64_w, i32_w]
         rfl
        refine take_ (i := 9) (N := some 29) (v := ?_) (a' := ?_) #[true, true, true, true, true, true, true, true, true, true, false, false] rfl rfl (take_ofW HT_.out HW_.out (by kernel_rfl)) (fun _ _ _ h => h) (Or.inl ⟨by rfl, ?_⟩) hHeld ?_ ?_
        rotate_left
        ·rintro w' ⟨s0, s1, s2, s3, s4, s5, s6, s7, s8, s9, s10, s11, s12, s13, s14, s15, s16, s17, s18, s19⟩
         go_simp
         with_reducible rfl
        rotate_left
        ·simp only [Act.put, List.setIfInBounds_toArray, List.set_cons_zero, List.set_cons_succ, i64_w, i32_w]
         rfl
        refine one_ (i := 10) (N := some 30) #[true, true, true, true, true, true, true, true, true, true, true, false] rfl rfl (one_of HT_.out (by kernel_rfl)) (by decide) (fun K hK => ?_)
        refine goes_ Try.func14 (by kernel_rfl) rfl #[.agg #[.int .i64 ((rd_T41 l0_0 x5_1).f0.f0), .int .i64 ((rd_T41 l0_0 x5_1).f0.f1), .int .i64 ((rd_T41 l0_0 x5_1).f1.f0), .int .i64 ((rd_T41 l0_0 x5_1).f1.f1), .int .i64 ((rd_T41 l0_0 x5_1).f2), .int .i64 ((rd_T41 l0_0 x5_1).f3), .string ((rd_T41 l0_0 x5_1).f4), .string ((rd_T41 l0_0 x5_1).f5.f0), .slice A355_8 ((rd_T41 l0_0 x5_1).f5.f1).length c355_8], .agg #[.int .i64 ((rd_T41 l1_0 x5_1).f0.f0), .int .i64 ((rd_T41 l1_0 x5_1).f0.f1), .int .i64 ((rd_T41 l1_0 x5_1).f1.f0), .int .i64 ((rd_T41 l1_0 x5_1).f1.f1), .int .i64 ((rd_T41 l1_0 x5_1).f2), .int .i64 ((rd_T41 l1_0 x5_1).f3), .string ((rd_T41 l1_0 x5_1).f4), .string ((rd_T41 l1_0 x5_1).f5.f0), .slice A356_8 ((rd_T41 l1_0 x5_1).f5.f1).length c356_8]] (by rfl) rfl rfl (by (try simp only [List.map_toArray, List.map_cons, List.map_nil]); first | done | rfl | (simp only [List.length_drop, List.length_take]; rfl)) ?_
        with_reducible refine (surtitlelaw13_SameCue.calls k1 ((rd_T41 l0_0 x5_1).f0.f0) ((rd_T41 l0_0 x5_1).f0.f1) ((rd_T41 l0_0 x5_1).f1.f0) ((rd_T41 l0_0 x5_1).f1.f1) ((rd_T41 l0_0 x5_1).f2) ((rd_T41 l0_0 x5_1).f3) ((rd_T41 l0_0 x5_1).f4) ((rd_T41 l0_0 x5_1).f5.f0) _ _ ((rd_T41 l0_0 x5_1).f5.f1) ((rd_T41 l1_0 x5_1).f0.f0) ((rd_T41 l1_0 x5_1).f0.f1) ((rd_T41 l1_0 x5_1).f1.f0) ((rd_T41 l1_0 x5_1).f1.f1) ((rd_T41 l1_0 x5_1).f2) ((rd_T41 l1_0 x5_1).f3) ((rd_T41 l1_0 x5_1).f4) ((rd_T41 l1_0 x5_1).f5.f0) _ _ ((rd_T41 l1_0 x5_1).f5.f1) true _ ?side1 ?side2 ?side3 ?side4 A12.out).mono ?_
        (case side1 => repeat (first | exact (Kd.C_below HR355_8.out HB.out) | (with_reducible refine Kd.C_alloc ?_ _) | (with_reducible refine Kd.C_drewN ?_ _) | (with_reducible refine Kd.C_drew ?_)))
        (case side2 => exact HC355_8.out)
        (case side3 => repeat (first | exact (Kd.C_below HR356_8.out HB.out) | (with_reducible refine Kd.C_alloc ?_ _) | (with_reducible refine Kd.C_drewN ?_ _) | (with_reducible refine Kd.C_drew ?_)))
        (case side4 => exact HC356_8.out)
        rintro e w17 ⟨rfl, hb⟩
        refine ⟨_, rfl, ?_⟩
        have n0_ := Aside0.mk (blk_below (g := gb353) (o := .cells #[.slice (some ad355) l0_0.length c0_0] 24 (0, 0)) (by (with_reducible repeat (first | apply b1 | apply b2 | apply b3)); exact BK353.out) hb)
        have n1_ := Aside0.mk (blk_below (g := gb354) (o := .cells #[.slice (some ad356) l1_0.length c1_0] 24 (0, 0)) (by (with_reducible repeat (first | apply b1 | apply b2 | apply b3)); exact BK354.out) hb)
        have n2_ := Aside0.mk (below_step (by repeat (first | (with_reducible first | exact HB.out | apply l1 | apply l2 | apply l3 | refine below_set ?_ GE353.out | refine below_set ?_ GE354.out) | exact HB.out)) hb)
        clear BK353
        clear BK354
        clear HB
        have BK353 := n0_
        have BK354 := n1_
        have HB := n2_
        clear n0_ n1_ n2_
        (try clear hb)
        (try clear hb2)
        (try clear hk)
        (try clear hi)
        refine hK.out _ _ ⟨(blk_cell BK353.out 0).trans rfl, (blk_cell BK354.out 0).trans rfl, ((HB.out.cell (World.block_lt_of_cell? w _ hw355_0)).trans hw355_0), ((HB.out.cell (World.block_lt_of_cell? w _ hw355_1)).trans hw355_1), ((HB.out.cell (World.block_lt_of_cell? w _ hw355_2)).trans hw355_2), ((HB.out.cell (World.block_lt_of_cell? w _ hw355_3)).trans hw355_3), ((HB.out.cell (World.block_lt_of_cell? w _ hw355_4)).trans hw355_4), ((HB.out.cell (World.block_lt_of_cell? w _ hw355_5)).trans hw355_5), ((HB.out.cell (World.block_lt_of_cell? w _ hw355_6)).trans hw355_6), ((HB.out.cell (World.block_lt_of_cell? w _ hw355_7)).trans hw355_7), ((HB.out.cell (World.block_lt_of_cell? w _ hw355_8)).trans hw355_8), ((HB.out.cell (World.block_lt_of_cell? w _ hw356_0)).trans hw356_0), ((HB.out.cell (World.block_lt_of_cell? w _ hw356_1)).trans hw356_1), ((HB.out.cell (World.block_lt_of_cell? w _ hw356_2)).trans hw356_2), ((HB.out.cell (World.block_lt_of_cell? w _ hw356_3)).trans hw356_3), ((HB.out.cell (World.block_lt_of_cell? w _ hw356_4)).trans hw356_4), ((HB.out.cell (World.block_lt_of_cell? w _ hw356_5)).trans hw356_5), ((HB.out.cell (World.block_lt_of_cell? w _ hw356_6)).trans hw356_6), ((HB.out.cell (World.block_lt_of_cell? w _ hw356_7)).trans hw356_7), ((HB.out.cell (World.block_lt_of_cell? w _ hw356_8)).trans hw356_8)⟩ (fun hHeld => ?_)
        clear hK K
        refine norm_ (a' := ?_) ?_ ?_
        rotate_left
        ·show Act.put _ (some 30) _ = _
         simp only [Act.put, List.setIfInBounds_toArray, List.set_cons_zero, List.set_cons_succ, i64_w, i32_w]
         rfl
        refine pure_ (i := 11) (N := some 31) (v := ?_) (a' := ?_) #[true, true, true, true, true, true, true, true, true, true, true, true] rfl rfl (any_of HT_.out (by kernel_rfl)) (fun _ _ _ h => h) (Or.inl ⟨by rfl, ?_⟩) ?_ ?_
        rotate_left
        ·intro w'
         go_simp
         with_reducible rfl
        rotate_left
        ·simp only [Act.put, List.setIfInBounds_toArray, List.set_cons_zero, List.set_cons_succ, i64_w, i32_w]
         rfl
        refine done_ (done_of HT_.out (by kernel_rfl)) ?_
        try go_wp2
        go_roundg k1
        case measure => have := HK1.out; omega
        case rel => exact ⟨(wrap64 (x5_1 + 1)), (by first | rfl | (simp; done) | (simp [*]; done)), H', ⟨by have := HK1.out; omega⟩, ⟨by (with_reducible repeat (first | apply b1 | apply b2 | apply b3)); exact BK353.out⟩, ⟨by (with_reducible repeat (first | apply b1 | apply b2 | apply b3)); exact BK354.out⟩, ⟨by repeat (first | (with_reducible first | exact HB.out | apply l1 | apply l2 | apply l3 | refine below_set ?_ GE353.out | refine below_set ?_ GE354.out) | exact HB.out)⟩⟩
       ·replace c13 := Bool.eq_false_iff.mpr c13
        subst c13
        have H1 : (some false) = some r := by rw [if_neg (show ¬ (false = true) by decide)] at H; exact H
        clear H
        have H := H1
        clear H1
        obtain rfl := Option.some.inj H
        have hnb18 := NB353_354.out
        have hnc18 := NB354_353.out
        obtain ⟨hcz19_0, hfz19_0⟩ := blk_cells1 BK353.out
        try go_wp2
        have n0_ := Aside0.mk (blk_drew BK353.out)
        have n1_ := Aside0.mk (blk_drew BK354.out)
        have n2_ := Aside0.mk (below_drew1 HB.out)
        clear BK353
        clear BK354
        clear HB
        have BK353 := n0_
        have BK354 := n1_
        have HB := n2_
        clear n0_ n1_ n2_
        have p355 : 0 ≤ (x5_1 : Int) := of_decide_eq_true (by first | (with_reducible assumption) | assumption)
        have q355 : x5_1 < (l0_0.length : Int) := of_decide_eq_true (by first | (with_reducible assumption) | assumption)
        obtain ⟨ad355, A355_8, c355_8, e355, hx355_0, hx355_1, hx355_2, hx355_3, hx355_4, hx355_5, hx355_6, hx355_7, hx355_8, hl355_8, hi355_8⟩ := at_T41 HR0_0.out x5_1 p355 q355
        have hw355_8 := hx355_8
        have hw355_7 := hx355_7
        have hw355_6 := hx355_6
        have hw355_5 := hx355_5
        have hw355_4 := hx355_4
        have hw355_3 := hx355_3
        have hw355_2 := hx355_2
        have hw355_1 := hx355_1
        have hw355_0 := hx355_0
        cases e355
        replace hx355_0 := (HB.out.cell (World.block_lt_of_cell? w _ hx355_0)).trans hx355_0
        replace hx355_1 := (HB.out.cell (World.block_lt_of_cell? w _ hx355_1)).trans hx355_1
        replace hx355_2 := (HB.out.cell (World.block_lt_of_cell? w _ hx355_2)).trans hx355_2
        replace hx355_3 := (HB.out.cell (World.block_lt_of_cell? w _ hx355_3)).trans hx355_3
        replace hx355_4 := (HB.out.cell (World.block_lt_of_cell? w _ hx355_4)).trans hx355_4
        replace hx355_5 := (HB.out.cell (World.block_lt_of_cell? w _ hx355_5)).trans hx355_5
        replace hx355_6 := (HB.out.cell (World.block_lt_of_cell? w _ hx355_6)).trans hx355_6
        replace hx355_7 := (HB.out.cell (World.block_lt_of_cell? w _ hx355_7)).trans hx355_7
        replace hx355_8 := (HB.out.cell (World.block_lt_of_cell? w _ hx355_8)).trans hx355_8
        have HR355_8 := Aside0.mk hi355_8
        have HC355_8 := Aside0.mk hl355_8
        clear hi355_8 hl355_8
        replace p355 := eq_true p355
        replace q355 := eq_true q355
        have p356 : 0 ≤ (x5_1 : Int) := of_decide_eq_true (by first | (with_reducible assumption) | assumption)
        have q356 : x5_1 < (l1_0.length : Int) := of_decide_eq_true (by first | (with_reducible assumption) | assumption)
        obtain ⟨ad356, A356_8, c356_8, e356, hx356_0, hx356_1, hx356_2, hx356_3, hx356_4, hx356_5, hx356_6, hx356_7, hx356_8, hl356_8, hi356_8⟩ := at_T41 HR1_0.out x5_1 p356 q356
        have hw356_8 := hx356_8
        have hw356_7 := hx356_7
        have hw356_6 := hx356_6
        have hw356_5 := hx356_5
        have hw356_4 := hx356_4
        have hw356_3 := hx356_3
        have hw356_2 := hx356_2
        have hw356_1 := hx356_1
        have hw356_0 := hx356_0
        cases e356
        replace hx356_0 := (HB.out.cell (World.block_lt_of_cell? w _ hx356_0)).trans hx356_0
        replace hx356_1 := (HB.out.cell (World.block_lt_of_cell? w _ hx356_1)).trans hx356_1
        replace hx356_2 := (HB.out.cell (World.block_lt_of_cell? w _ hx356_2)).trans hx356_2
        replace hx356_3 := (HB.out.cell (World.block_lt_of_cell? w _ hx356_3)).trans hx356_3
        replace hx356_4 := (HB.out.cell (World.block_lt_of_cell? w _ hx356_4)).trans hx356_4
        replace hx356_5 := (HB.out.cell (World.block_lt_of_cell? w _ hx356_5)).trans hx356_5
        replace hx356_6 := (HB.out.cell (World.block_lt_of_cell? w _ hx356_6)).trans hx356_6
        replace hx356_7 := (HB.out.cell (World.block_lt_of_cell? w _ hx356_7)).trans hx356_7
        replace hx356_8 := (HB.out.cell (World.block_lt_of_cell? w _ hx356_8)).trans hx356_8
        have HR356_8 := Aside0.mk hi356_8
        have HC356_8 := Aside0.mk hl356_8
        clear hi356_8 hl356_8
        replace p356 := eq_true p356
        replace q356 := eq_true q356
        refine start_ (n := 12) (S := fun w' => w'.cell? ⟨gb353, 0, none⟩ = some (.slice (some ad355) l0_0.length c0_0) ∧ w'.cell? ⟨gb354, 0, none⟩ = some (.slice (some ad356) l1_0.length c1_0) ∧ w'.cell? (ad355.add ((x5_1).toNat * 9)) = some (.int .i64 ((rd_T41 l0_0 x5_1).f0.f0)) ∧ w'.cell? ⟨(ad355.add ((x5_1).toNat * 9)).block, (ad355.add ((x5_1).toNat * 9)).off + 1, none⟩ = some (.int .i64 ((rd_T41 l0_0 x5_1).f0.f1)) ∧ w'.cell? ⟨(ad355.add ((x5_1).toNat * 9)).block, (ad355.add ((x5_1).toNat * 9)).off + 2, none⟩ = some (.int .i64 ((rd_T41 l0_0 x5_1).f1.f0)) ∧ w'.cell? ⟨(ad355.add ((x5_1).toNat * 9)).block, (ad355.add ((x5_1).toNat * 9)).off + 3, none⟩ = some (.int .i64 ((rd_T41 l0_0 x5_1).f1.f1)) ∧ w'.cell? ⟨(ad355.add ((x5_1).toNat * 9)).block, (ad355.add ((x5_1).toNat * 9)).off + 4, none⟩ = some (.int .i64 ((rd_T41 l0_0 x5_1).f2)) ∧ w'.cell? ⟨(ad355.add ((x5_1).toNat * 9)).block, (ad355.add ((x5_1).toNat * 9)).off + 5, none⟩ = some (.int .i64 ((rd_T41 l0_0 x5_1).f3)) ∧ w'.cell? ⟨(ad355.add ((x5_1).toNat * 9)).block, (ad355.add ((x5_1).toNat * 9)).off + 6, none⟩ = some (.string ((rd_T41 l0_0 x5_1).f4)) ∧ w'.cell? ⟨(ad355.add ((x5_1).toNat * 9)).block, (ad355.add ((x5_1).toNat * 9)).off + 7, none⟩ = some (.string ((rd_T41 l0_0 x5_1).f5.f0)) ∧ w'.cell? ⟨(ad355.add ((x5_1).toNat * 9)).block, (ad355.add ((x5_1).toNat * 9)).off + 8, none⟩ = some (.slice A355_8 ((rd_T41 l0_0 x5_1).f5.f1).length c355_8) ∧ w'.cell? (ad356.add ((x5_1).toNat * 9)) = some (.int .i64 ((rd_T41 l1_0 x5_1).f0.f0)) ∧ w'.cell? ⟨(ad356.add ((x5_1).toNat * 9)).block, (ad356.add ((x5_1).toNat * 9)).off + 1, none⟩ = some (.int .i64 ((rd_T41 l1_0 x5_1).f0.f1)) ∧ w'.cell? ⟨(ad356.add ((x5_1).toNat * 9)).block, (ad356.add ((x5_1).toNat * 9)).off + 2, none⟩ = some (.int .i64 ((rd_T41 l1_0 x5_1).f1.f0)) ∧ w'.cell? ⟨(ad356.add ((x5_1).toNat * 9)).block, (ad356.add ((x5_1).toNat * 9)).off + 3, none⟩ = some (.int .i64 ((rd_T41 l1_0 x5_1).f1.f1)) ∧ w'.cell? ⟨(ad356.add ((x5_1).toNat * 9)).block, (ad356.add ((x5_1).toNat * 9)).off + 4, none⟩ = some (.int .i64 ((rd_T41 l1_0 x5_1).f2)) ∧ w'.cell? ⟨(ad356.add ((x5_1).toNat * 9)).block, (ad356.add ((x5_1).toNat * 9)).off + 5, none⟩ = some (.int .i64 ((rd_T41 l1_0 x5_1).f3)) ∧ w'.cell? ⟨(ad356.add ((x5_1).toNat * 9)).block, (ad356.add ((x5_1).toNat * 9)).off + 6, none⟩ = some (.string ((rd_T41 l1_0 x5_1).f4)) ∧ w'.cell? ⟨(ad356.add ((x5_1).toNat * 9)).block, (ad356.add ((x5_1).toNat * 9)).off + 7, none⟩ = some (.string ((rd_T41 l1_0 x5_1).f5.f0)) ∧ w'.cell? ⟨(ad356.add ((x5_1).toNat * 9)).block, (ad356.add ((x5_1).toNat * 9)).off + 8, none⟩ = some (.slice A356_8 ((rd_T41 l1_0 x5_1).f5.f1).length c356_8)) (ds := []) #[false, false, false, false, false, false, false, false, false, false, false, false] (by kernel_rfl) rfl rfl ⟨(blk_cell BK353.out 0).trans rfl, (blk_cell BK354.out 0).trans rfl, ((HB.out.cell (World.block_lt_of_cell? w _ hw355_0)).trans hw355_0), ((HB.out.cell (World.block_lt_of_cell? w _ hw355_1)).trans hw355_1), ((HB.out.cell (World.block_lt_of_cell? w _ hw355_2)).trans hw355_2), ((HB.out.cell (World.block_lt_of_cell? w _ hw355_3)).trans hw355_3), ((HB.out.cell (World.block_lt_of_cell? w _ hw355_4)).trans hw355_4), ((HB.out.cell (World.block_lt_of_cell? w _ hw355_5)).trans hw355_5), ((HB.out.cell (World.block_lt_of_cell? w _ hw355_6)).trans hw355_6), ((HB.out.cell (World.block_lt_of_cell? w _ hw355_7)).trans hw355_7), ((HB.out.cell (World.block_lt_of_cell? w _ hw355_8)).trans hw355_8), ((HB.out.cell (World.block_lt_of_cell? w _ hw356_0)).trans hw356_0), ((HB.out.cell (World.block_lt_of_cell? w _ hw356_1)).trans hw356_1), ((HB.out.cell (World.block_lt_of_cell? w _ hw356_2)).trans hw356_2), ((HB.out.cell (World.block_lt_of_cell? w _ hw356_3)).trans hw356_3), ((HB.out.cell (World.block_lt_of_cell? w _ hw356_4)).trans hw356_4), ((HB.out.cell (World.block_lt_of_cell? w _ hw356_5)).trans hw356_5), ((HB.out.cell (World.block_lt_of_cell? w _ hw356_6)).trans hw356_6), ((HB.out.cell (World.block_lt_of_cell? w _ hw356_7)).trans hw356_7), ((HB.out.cell (World.block_lt_of_cell? w _ hw356_8)).trans hw356_8)⟩ (fun hHeld => ?_); refine with_tabW surtitlelaw13_SameDoc.tab6 surtitlelaw13_SameDoc.bits6 (fun HT_ HW_ => ?_)
        generalize wr.drew = w20 at BK353 BK354 HB HR355_8 HR356_8 hx355_0 hx355_1 hx355_2 hx355_3 hx355_4 hx355_5 hx355_6 hx355_7 hx355_8 hx356_0 hx356_1 hx356_2 hx356_3 hx356_4 hx356_5 hx356_6 hx356_7 hx356_8 hHeld ⊢
        refine pure_ (i := 0) (N := some 20) (v := ?_) (a' := ?_) #[true, false, false, false, false, false, false, false, false, false, false, false] rfl rfl (any_of HT_.out (by kernel_rfl)) (fun _ _ _ h => h) (Or.inl ⟨by rfl, ?_⟩) ?_ ?_
        rotate_left
        ·intro w'
         go_simp
         with_reducible rfl
        rotate_left
        ·simp only [Act.put, List.setIfInBounds_toArray, List.set_cons_zero, List.set_cons_succ, i64_w, i32_w]
         rfl
        refine pure_ (i := 2) (N := some 22) (v := ?_) (a' := ?_) #[true, false, true, false, false, false, false, false, false, false, false, false] rfl rfl (any_of HT_.out (by kernel_rfl)) (fun _ _ _ h => h) (Or.inl ⟨by rfl, ?_⟩) ?_ ?_
        rotate_left
        ·intro w'
         go_simp
         with_reducible rfl
        rotate_left
        ·simp only [Act.put, List.setIfInBounds_toArray, List.set_cons_zero, List.set_cons_succ, i64_w, i32_w]
         rfl
        refine pure_ (i := 5) (N := some 25) (v := ?_) (a' := ?_) #[true, false, true, false, false, true, false, false, false, false, false, false] rfl rfl (any_of HT_.out (by kernel_rfl)) (fun _ _ _ h => h) (Or.inl ⟨by rfl, ?_⟩) ?_ ?_
        rotate_left
        ·intro w'
         go_simp
         with_reducible rfl
        rotate_left
        ·simp only [Act.put, List.setIfInBounds_toArray, List.set_cons_zero, List.set_cons_succ, i64_w, i32_w]
         rfl
        refine pure_ (i := 7) (N := some 27) (v := ?_) (a' := ?_) #[true, false, true, false, false, true, false, true, false, false, false, false] rfl rfl (any_of HT_.out (by kernel_rfl)) (fun _ _ _ h => h) (Or.inl ⟨by rfl, ?_⟩) ?_ ?_
        rotate_left
        ·intro w'
         go_simp
         with_reducible rfl
        rotate_left
        ·simp only [Act.put, List.setIfInBounds_toArray, List.set_cons_zero, List.set_cons_succ, i64_w, i32_w]
         rfl
        refine take_ (i := 1) (N := some 21) (v := ?_) (a' := ?_) #[true, true, true, false, false, true, false, true, false, false, false, false] rfl rfl (take_ofW HT_.out HW_.out (by kernel_rfl)) (fun _ _ _ h => h) (Or.inl ⟨by rfl, ?_⟩) hHeld ?_ ?_
        rotate_left
        ·rintro w' ⟨s0, s1, s2, s3, s4, s5, s6, s7, s8, s9, s10, s11, s12, s13, s14, s15, s16, s17, s18, s19⟩
         go_simp
         with_reducible rfl
        rotate_left
        ·simp only [Act.put, List.setIfInBounds_toArray, List.set_cons_zero, List.set_cons_succ, i64_w, i32_w]
         rfl
        refine pure_ (i := 3) (N := some 23) (v := ?_) (a' := ?_) #[true, true, true, true, false, true, false, true, false, false, false, false] rfl rfl (any_of HT_.out (by kernel_rfl)) (fun _ _ _ h => h) (Or.inl ⟨by rfl, ?_⟩) ?_ ?_
        rotate_left
        ·intro w'
         go_simp
         with_reducible rfl
        rotate_left
        ·simp only [Act.put, List.setIfInBounds_toArray, List.set_cons_zero, List.set_cons_succ, i64_w, i32_w]
         rfl
        refine take_ (i := 4) (N := some 24) (v := ?_) (a' := ?_) #[true, true, true, true, true, true, false, true, false, false, false, false] rfl rfl (take_ofW HT_.out HW_.out (by kernel_rfl)) (fun _ _ _ h => h) (Or.inl ⟨by rfl, ?_⟩) hHeld ?_ ?_
        rotate_left
        ·rintro w' ⟨s0, s1, s2, s3, s4, s5, s6, s7, s8, s9, s10, s11, s12, s13, s14, s15, s16, s17, s18, s19⟩
         go_simp
         with_reducible rfl
        rotate_left
        ·simp only [Act.put, List.setIfInBounds_toArray, List.set_cons_zero, List.set_cons_succ, i64_w, i32_w]
         rfl
        refine take_ (i := 6) (N := some 26) (v := ?_) (a' := ?_) #[true, true, true, true, true, true, true, true, false, false, false, false] rfl rfl (take_ofW HT_.out HW_.out (by kernel_rfl)) (fun _ _ _ h => h) (Or.inl ⟨by rfl, ?_⟩) hHeld ?_ ?_
        rotate_left
        ·rintro w' ⟨s0, s1, s2, s3, s4, s5, s6, s7, s8, s9, s10, s11, s12, s13, s14, s15, s16, s17, s18, s19⟩
         go_simp
         with_reducible rfl
        rotate_left
        ·simp only [Act.put, List.setIfInBounds_toArray, List.set_cons_zero, List.set_cons_succ, i64_w, i32_w]
         rfl
        refine pure_ (i := 8) (N := some 28) (v := ?_) (a' := ?_) #[true, true, true, true, true, true, true, true, true, false, false, false] rfl rfl (any_of HT_.out (by kernel_rfl)) (fun _ _ _ h => h) (Or.inl ⟨by rfl, ?_⟩) ?_ ?_
        rotate_left
        ·intro w'
         go_simp
         with_reducible rfl
        rotate_left
        ·simp only [Act.put, List.setIfInBounds_toArray, List.set_cons_zero, List.set_cons_succ, i64_w, i32_w]
         rfl
        refine take_ (i := 9) (N := some 29) (v := ?_) (a' := ?_) #[true, true, true, true, true, true, true, true, true, true, false, false] rfl rfl (take_ofW HT_.out HW_.out (by kernel_rfl)) (fun _ _ _ h => h) (Or.inl ⟨by rfl, ?_⟩) hHeld ?_ ?_
        rotate_left
        ·rintro w' ⟨s0, s1, s2, s3, s4, s5, s6, s7, s8, s9, s10, s11, s12, s13, s14, s15, s16, s17, s18, s19⟩
         go_simp
         with_reducible rfl
        rotate_left
        ·simp only [Act.put, List.setIfInBounds_toArray, List.set_cons_zero, List.set_cons_succ, i64_w, i32_w]
         rfl
        refine one_ (i := 10) (N := some 30) #[true, true, true, true, true, true, true, true, true, true, true, false] rfl rfl (one_of HT_.out (by kernel_rfl)) (by decide) (fun K hK => ?_)
        refine goes_ Try.func14 (by kernel_rfl) rfl #[.agg #[.int .i64 ((rd_T41 l0_0 x5_1).f0.f0), .int .i64 ((rd_T41 l0_0 x5_1).f0.f1), .int .i64 ((rd_T41 l0_0 x5_1).f1.f0), .int .i64 ((rd_T41 l0_0 x5_1).f1.f1), .int .i64 ((rd_T41 l0_0 x5_1).f2), .int .i64 ((rd_T41 l0_0 x5_1).f3), .string ((rd_T41 l0_0 x5_1).f4), .string ((rd_T41 l0_0 x5_1).f5.f0), .slice A355_8 ((rd_T41 l0_0 x5_1).f5.f1).length c355_8], .agg #[.int .i64 ((rd_T41 l1_0 x5_1).f0.f0), .int .i64 ((rd_T41 l1_0 x5_1).f0.f1), .int .i64 ((rd_T41 l1_0 x5_1).f1.f0), .int .i64 ((rd_T41 l1_0 x5_1).f1.f1), .int .i64 ((rd_T41 l1_0 x5_1).f2), .int .i64 ((rd_T41 l1_0 x5_1).f3), .string ((rd_T41 l1_0 x5_1).f4), .string ((rd_T41 l1_0 x5_1).f5.f0), .slice A356_8 ((rd_T41 l1_0 x5_1).f5.f1).length c356_8]] (by rfl) rfl rfl (by (try simp only [List.map_toArray, List.map_cons, List.map_nil]); first | done | rfl | (simp only [List.length_drop, List.length_take]; rfl)) ?_
        with_reducible refine (surtitlelaw13_SameCue.calls k1 ((rd_T41 l0_0 x5_1).f0.f0) ((rd_T41 l0_0 x5_1).f0.f1) ((rd_T41 l0_0 x5_1).f1.f0) ((rd_T41 l0_0 x5_1).f1.f1) ((rd_T41 l0_0 x5_1).f2) ((rd_T41 l0_0 x5_1).f3) ((rd_T41 l0_0 x5_1).f4) ((rd_T41 l0_0 x5_1).f5.f0) _ _ ((rd_T41 l0_0 x5_1).f5.f1) ((rd_T41 l1_0 x5_1).f0.f0) ((rd_T41 l1_0 x5_1).f0.f1) ((rd_T41 l1_0 x5_1).f1.f0) ((rd_T41 l1_0 x5_1).f1.f1) ((rd_T41 l1_0 x5_1).f2) ((rd_T41 l1_0 x5_1).f3) ((rd_T41 l1_0 x5_1).f4) ((rd_T41 l1_0 x5_1).f5.f0) _ _ ((rd_T41 l1_0 x5_1).f5.f1) false _ ?side1 ?side2 ?side3 ?side4 A12.out).mono ?_
        (case side1 => repeat (first | exact (Kd.C_below HR355_8.out HB.out) | (with_reducible refine Kd.C_alloc ?_ _) | (with_reducible refine Kd.C_drewN ?_ _) | (with_reducible refine Kd.C_drew ?_)))
        (case side2 => exact HC355_8.out)
        (case side3 => repeat (first | exact (Kd.C_below HR356_8.out HB.out) | (with_reducible refine Kd.C_alloc ?_ _) | (with_reducible refine Kd.C_drewN ?_ _) | (with_reducible refine Kd.C_drew ?_)))
        (case side4 => exact HC356_8.out)
        rintro e w21 ⟨rfl, hb⟩
        refine ⟨_, rfl, ?_⟩
        have n0_ := Aside0.mk (blk_below (g := gb353) (o := .cells #[.slice (some ad355) l0_0.length c0_0] 24 (0, 0)) (by (with_reducible repeat (first | apply b1 | apply b2 | apply b3)); exact BK353.out) hb)
        have n1_ := Aside0.mk (blk_below (g := gb354) (o := .cells #[.slice (some ad356) l1_0.length c1_0] 24 (0, 0)) (by (with_reducible repeat (first | apply b1 | apply b2 | apply b3)); exact BK354.out) hb)
        have n2_ := Aside0.mk (below_step (by repeat (first | (with_reducible first | exact HB.out | apply l1 | apply l2 | apply l3 | refine below_set ?_ GE353.out | refine below_set ?_ GE354.out) | exact HB.out)) hb)
        clear BK353
        clear BK354
        clear HB
        have BK353 := n0_
        have BK354 := n1_
        have HB := n2_
        clear n0_ n1_ n2_
        (try clear hb)
        (try clear hb2)
        (try clear hk)
        (try clear hi)
        refine hK.out _ _ ⟨(blk_cell BK353.out 0).trans rfl, (blk_cell BK354.out 0).trans rfl, ((HB.out.cell (World.block_lt_of_cell? w _ hw355_0)).trans hw355_0), ((HB.out.cell (World.block_lt_of_cell? w _ hw355_1)).trans hw355_1), ((HB.out.cell (World.block_lt_of_cell? w _ hw355_2)).trans hw355_2), ((HB.out.cell (World.block_lt_of_cell? w _ hw355_3)).trans hw355_3), ((HB.out.cell (World.block_lt_of_cell? w _ hw355_4)).trans hw355_4), ((HB.out.cell (World.block_lt_of_cell? w _ hw355_5)).trans hw355_5), ((HB.out.cell (World.block_lt_of_cell? w _ hw355_6)).trans hw355_6), ((HB.out.cell (World.block_lt_of_cell? w _ hw355_7)).trans hw355_7), ((HB.out.cell (World.block_lt_of_cell? w _ hw355_8)).trans hw355_8), ((HB.out.cell (World.block_lt_of_cell? w _ hw356_0)).trans hw356_0), ((HB.out.cell (World.block_lt_of_cell? w _ hw356_1)).trans hw356_1), ((HB.out.cell (World.block_lt_of_cell? w _ hw356_2)).trans hw356_2), ((HB.out.cell (World.block_lt_of_cell? w _ hw356_3)).trans hw356_3), ((HB.out.cell (World.block_lt_of_cell? w _ hw356_4)).trans hw356_4), ((HB.out.cell (World.block_lt_of_cell? w _ hw356_5)).trans hw356_5), ((HB.out.cell (World.block_lt_of_cell? w _ hw356_6)).trans hw356_6), ((HB.out.cell (World.block_lt_of_cell? w _ hw356_7)).trans hw356_7), ((HB.out.cell (World.block_lt_of_cell? w _ hw356_8)).trans hw356_8)⟩ (fun hHeld => ?_)
        clear hK K
        refine norm_ (a' := ?_) ?_ ?_
        rotate_left
        ·show Act.put _ (some 30) _ = _
         simp only [Act.put, List.setIfInBounds_toArray, List.set_cons_zero, List.set_cons_succ, i64_w, i32_w]
         rfl
        refine pure_ (i := 11) (N := some 31) (v := ?_) (a' := ?_) #[true, true, true, true, true, true, true, true, true, true, true, true] rfl rfl (any_of HT_.out (by kernel_rfl)) (fun _ _ _ h => h) (Or.inl ⟨by rfl, ?_⟩) ?_ ?_
        rotate_left
        ·intro w'
         go_simp
         with_reducible rfl
        rotate_left
        ·simp only [Act.put, List.setIfInBounds_toArray, List.set_cons_zero, List.set_cons_succ, i64_w, i32_w]
         rfl
        refine done_ (done_of HT_.out (by kernel_rfl)) ?_
        try go_wp2
        go_ret
        exact ⟨by first | rfl | (simp [errW_none, errW_some] <;> rfl) | (simp [*, errW_none, errW_some] <;> rfl), by repeat (first | (with_reducible first | exact HB.out | apply l1 | apply l2 | apply l3 | refine below_set ?_ GE353.out | refine below_set ?_ GE354.out) | exact HB.out)⟩
      ·rw [if_neg c11] at H
       exact absurd H (by simp)
     ·rw [if_neg c10] at H
      exact absurd H (by simp)
    ·rw [if_neg c9] at H
     have c9b0 : decide (x5_1 < (l0_0.length : Int)) = false := decide_eq_false c9
     clear c9
     obtain rfl := Option.some.inj H
     have hnb22 := NB353_354.out
     have hnc22 := NB354_353.out
     obtain ⟨hcz23_0, hfz23_0⟩ := blk_cells1 BK353.out
     go_wp2
     go_ret
     exact ⟨by first | rfl | (simp [errW_none, errW_some] <;> rfl) | (simp [*, errW_none, errW_some] <;> rfl), by repeat (first | (with_reducible first | exact HB.out | apply l1 | apply l2 | apply l3 | refine below_set ?_ GE353.out | refine below_set ?_ GE354.out) | exact HB.out)⟩
 ·rw [if_neg c3] at H
  have c3b0 : ((l0_0.length : Int) == (l1_0.length : Int)) = false := beq_eq_false_iff_ne.mpr c3
  have c3b1 : ((l0_0.length : Int) != (l1_0.length : Int)) = true := bne_iff_ne.mpr c3
  have c3b2 : (l0_0.length == l1_0.length) = false := by first | simpa using c3 | (simp at c3 ⊢; omega)
  obtain rfl := Option.some.inj H
  go_enter Try.func12, Try.ntmps12
  go_wp2_with (first | ((with_reducible refine gate_dst (N := 2) rfl ?_); refine box_event (by rfl) (N := 2) (by rfl) (cs := #[.slice A0_0 l0_0.length c0_0]) (t := 24) (by first | (go_simp; done) | (go_simp; rfl)) ?_; intro gb353 hg w24 hbox hb; obtain ⟨hb_, hw_⟩ := box_facts (by repeat (first | (with_reducible first | exact HB.out | apply l1 | apply l2 | apply l3) | exact HB.out)) hg hb; have n0_ := Aside0.mk (hb_); have n1_ := Aside0.mk (hbox); have n2_ := Aside0.mk (hw_); have n3_ := Aside0.mk (hw_); clear HB; have HB := n0_; have BK353 := n1_; have GW353 := n2_; have GE353 := n3_; clear n0_ n1_ n2_ n3_; clear hb hbox hg hb_ hw_) | ((with_reducible refine gate_dst (N := 3) rfl ?_); refine box_event (by rfl) (N := 3) (by rfl) (cs := #[.slice A1_0 l1_0.length c1_0]) (t := 24) (by first | (go_simp; done) | (go_simp; rfl)) ?_; intro gb354 hg w25 hbox hb; obtain ⟨hb_, hw_⟩ := box_facts (by repeat (first | (with_reducible first | exact HB.out | apply l1 | apply l2 | apply l3 | refine below_set ?_ GE353.out) | exact HB.out)) hg hb; have n0_ := Aside0.mk (blk_below (by (with_reducible repeat (first | apply b1 | apply b2 | apply b3)); exact BK353.out) hb); have n1_ := Aside0.mk (hb_); have n2_ := Aside0.mk (hbox); have n3_ := Aside0.mk (hw_); have n4_ := Aside0.mk (hw_); have n5_ := Aside0.mk ((by rw [hg]; exact Nat.ne_of_lt (blk_lt (by (with_reducible repeat (first | apply b1 | apply b2 | apply b3)); exact BK353.out)) : gb353 ≠ gb354)); have n6_ := Aside0.mk ((by rw [hg]; exact Nat.ne_of_gt (blk_lt (by (with_reducible repeat (first | apply b1 | apply b2 | apply b3)); exact BK353.out)) : gb354 ≠ gb353)); clear BK353; clear HB; have BK353 := n0_; have HB := n1_; have BK354 := n2_; have GW354 := n3_; have GE354 := n4_; have NB353_354 := n5_; have NB354_353 := n6_; clear n0_ n1_ n2_ n3_ n4_ n5_ n6_; clear hb hbox hg hb_ hw_; have hnb26 := NB353_354.out; have hnc26 := NB354_353.out; obtain ⟨hcz27_0, hfz27_0⟩ := blk_cells1 BK353.out; obtain ⟨hcz28_0, hfz28_0⟩ := blk_cells1 BK354.out))
  go_ret
  exact ⟨by first | rfl | (simp [errW_none, errW_some] <;> rfl) | (simp [*, errW_none, errW_some] <;> rfl), by repeat (first | (with_reducible first | exact HB.out | apply l1 | apply l2 | apply l3 | refine below_set ?_ GE353.out | refine below_set ?_ GE354.out) | exact HB.out)⟩
end Go.Proofs.Ytbpifnpljcgjlaa.PLx
