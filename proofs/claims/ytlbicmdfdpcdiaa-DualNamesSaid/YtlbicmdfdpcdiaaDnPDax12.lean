-- printed
import Derived.Test.YtlbicmdfdpcdiaaDnPDax0
import Derived.Test.YtlbicmdfdpcdiaaDnPDax5
import Derived.Test.YtlbicmdfdpcdiaaDnPDax11
namespace Go.Proofs.Ytlbicmdfdpcdiaa.PDa
open Go.RowKit Go.Proofs.YtlbicmdfdpcdiaaW.PrintWords Go.Proofs.YtlbicmdfdpcdiaaW.PrintLast Go.Proofs.YtlbicmdfdpcdiaaW.PrintMore
attribute [local go_sem] max2_int min2_int max_two min_two max_three min_three max_four min_four
set_option linter.unusedVariables false
set_option linter.unusedSimpArgs false
mutual
def cue_CheckDoc.l0 : Nat → List (S38) → Int → Int → List (S38) → Option (Option (Int × Int))
 | 0, _, _, _, _ => none
 | k + 1, x13, x14, x15, x233000 => if x15 < x14 then (if 0 ≤ x15 then (if x15 < (x13.length : Int) then ((cue_Check.f k ((rd_T38 x13 x15).f0.f0) ((rd_T38 x13 x15).f0.f1) ((rd_T38 x13 x15).f1.f0) ((rd_T38 x13 x15).f1.f1) ((rd_T38 x13 x15).f2) ((rd_T38 x13 x15).f3) ((rd_T38 x13 x15).f4) ((rd_T38 x13 x15).f5.f0) ((rd_T38 x13 x15).f5.f1)).bind fun t238 => (if t238 = 0 then (cue_CheckDoc.l0 k x13 x14 (wrap64 (x15 + 1)) x233000) else ((cue_wrong.f x15 t238).bind fun t239 => (some t239)))) else (none)) else (none)) else (cue_CheckDoc.l1 k 1 x233000)
def cue_CheckDoc.l1 : Nat → Int → List (S38) → Option (Option (Int × Int))
 | 0, _, _ => none
 | k + 1, x6, x233000 => if x6 < (x233000.length : Int) then (if 0 ≤ (wrap64 (x6 - 1)) then (if (wrap64 (x6 - 1)) < (x233000.length : Int) then (if 0 ≤ x6 then ((cue_Compare.f ((rd_T38 x233000 (wrap64 (x6 - 1))).f0.f0) ((rd_T38 x233000 (wrap64 (x6 - 1))).f0.f1) ((rd_T38 x233000 (wrap64 (x6 - 1))).f1.f0) ((rd_T38 x233000 (wrap64 (x6 - 1))).f1.f1) ((rd_T38 x233000 (wrap64 (x6 - 1))).f2) ((rd_T38 x233000 (wrap64 (x6 - 1))).f3) ((rd_T38 x233000 (wrap64 (x6 - 1))).f4) ((rd_T38 x233000 (wrap64 (x6 - 1))).f5.f0) ((rd_T38 x233000 (wrap64 (x6 - 1))).f5.f1) ((rd_T38 x233000 x6).f0.f0) ((rd_T38 x233000 x6).f0.f1) ((rd_T38 x233000 x6).f1.f0) ((rd_T38 x233000 x6).f1.f1) ((rd_T38 x233000 x6).f2) ((rd_T38 x233000 x6).f3) ((rd_T38 x233000 x6).f4) ((rd_T38 x233000 x6).f5.f0) ((rd_T38 x233000 x6).f5.f1)).bind fun t244 => (if t244 > 0 then ((cue_wrong.f x6 33).bind fun t245 => (some t245)) else (cue_CheckDoc.l1 k (wrap64 (x6 + 1)) x233000))) else (none)) else (none)) else (none)) else (some none)
end
def cue_CheckDoc.f (k : Nat) (l0_0 : List (S38)) : Option (Option (Int × Int)) := if (l0_0.length : Int) > 4096 then ((cue_wrong.f 0 2).bind fun t233 => (some t233)) else (cue_CheckDoc.l0 k l0_0 (l0_0.length : Int) 0 l0_0)
def cue_CheckDoc.T13 : Bool × List (List Nat × List Nat) := (true, [([], []), ([0], [0]), ([], []), ([2], [2]), ([1, 3], [1, 3]), ([4], [4]), ([], []), ([6], [6]), ([], []), ([7, 8], [7, 8]), ([9], [9]), ([5, 10], [5, 10]), ([11], [11])])
def cue_CheckDoc.B13 : List Nat := [0, 1, 0, 4, 15, 31, 0, 64, 0, 448, 960, 2047, 4095]
theorem cue_CheckDoc.tab13 : rtab .any (opsOf Try.f18 13) = cue_CheckDoc.T13 := by kernel_rfl
theorem cue_CheckDoc.bits13 : waitsOk cue_CheckDoc.T13.2 cue_CheckDoc.B13 = true := by kernel_rfl
set_option maxHeartbeats 8000000 in
set_option maxRecDepth 100000 in
theorem cue_CheckDoc.calls (k : Nat) (A0_0 : Option Addr) (c0_0 : Nat) (l0_0 : List (S38)) (r : Option (Int × Int)) (w : World) (hr0_0 : Kd.C k38 w A0_0 l0_0.length l0_0) (hc0_0 : l0_0.length ≤ c0_0) (h : cue_CheckDoc.f k l0_0 = some r) :
  Calls Try.prog 18 #[.agg #[.slice A0_0 l0_0.length c0_0]] w fun e w' => ∃ v0_ : Value, e = .returned (v0_) ∧ EV v0_ r ∧ Below w.heap.size w w' := by
 have hu25 := Try.underlying25
 have hu38 := Try.underlying38
 have HR0_0 := Aside0.mk hr0_0
 have HC0_0 := Aside0.mk hc0_0
 clear hr0_0 hc0_0
 have HB := Aside0.mk (Below.refl w.heap.size w)
 have H : (if (l0_0.length : Int) > 4096 then ((cue_wrong.f 0 2).bind fun t233 => (some t233)) else (cue_CheckDoc.l0 k l0_0 (l0_0.length : Int) 0 l0_0)) = some r := h
 clear h
 by_cases c2 : (l0_0.length : Int) > 4096
 ·rw [if_pos c2] at H
  have c2b0 : decide (4096 < (l0_0.length : Int)) = true := decide_eq_true c2
  have c2b1 : decide (4096 < l0_0.length) = true := decide_eq_true (by omega)
  clear c2
  replace H := Option.bind_eq_some_iff.mp H
  obtain ⟨t233, A30, H⟩ := H
  (try dsimp only at H)
  have A3 := Aside0.mk A30
  clear A30
  obtain rfl := Option.some.inj H
  go_enter Try.func18, Try.ntmps18
  go_wp2_with (first | ((with_reducible refine gate_dst (N := 1) rfl ?_); refine box_event (by rfl) (N := 1) (by rfl) (cs := #[.slice A0_0 l0_0.length c0_0]) (t := 25) (by first | (go_simp; done) | (go_simp; rfl)) ?_; intro gb232 hg w4 hbox hb; obtain ⟨hb_, hw_⟩ := box_facts (lA HB.out) hg hb; replace HB := Aside0.mk (hb_); have BK232 := Aside0.mk (hbox); have GW232 := Aside0.mk (hw_); have GE232 := Aside0.mk (hw_); clear hb hbox hg hb_ hw_; obtain ⟨hcz5_0, hfz5_0⟩ := blk_cells1 BK232.out) | ((with_reducible refine gate_callee (f := 35) rfl ?_); refine goesL_ (some 11) rfl rfl Try.func35 (by kernel_rfl) rfl #[.int .i64 0, .int .i64 2] rfl (by (try simp only [List.map_toArray, List.map_cons, List.map_nil]); first | done | rfl | (simp only [List.length_drop, List.length_take]; rfl)) ?_; (with_reducible refine (cue_wrong.calls 0 2 t233 _ A3.out).mono ?_); rintro e w6 ⟨v234, rfl, he0, hb⟩; refine ⟨_, rfl, ?_⟩; have HE235 := Aside0.mk he0; clear he0; replace BK232 := Aside0.mk (bB BK232.out hb); replace HB := Aside0.mk (below_step (by repeat (first | (with_reducible first | exact HB.out | apply l1 | apply l2 | apply l3 | refine below_set ?_ GE232.out) | exact HB.out)) hb); (try clear hb); (try clear hb2); (try clear hk); (try clear hi)))
  go_ret
  exact ⟨v234, by first | rfl | (simp [errW_none, errW_some] <;> rfl) | (simp [*, errW_none, errW_some] <;> rfl), HE235.out, by repeat (first | (with_reducible first | exact HB.out | apply l1 | apply l2 | apply l3 | refine below_set ?_ GE232.out) | exact HB.out)⟩
 ·rw [if_neg c2] at H
  have c2b0 : decide (4096 < (l0_0.length : Int)) = false := decide_eq_false c2
  have c2b1 : decide (4096 < l0_0.length) = false := decide_eq_false (by omega)
  clear c2
  have H' := Aside0.mk H
  clear H
  go_enter Try.func18, Try.ntmps18
  go_wp2_with (first | ((with_reducible refine gate_dst (N := 1) rfl ?_); refine box_event (by rfl) (N := 1) (by rfl) (cs := #[.slice A0_0 l0_0.length c0_0]) (t := 25) (by first | (go_simp; done) | (go_simp; rfl)) ?_; intro gb232 hg w7 hbox hb; obtain ⟨hb_, hw_⟩ := box_facts (lA HB.out) hg hb; replace HB := Aside0.mk (hb_); have BK232 := Aside0.mk (hbox); have GW232 := Aside0.mk (hw_); have GE232 := Aside0.mk (hw_); clear hb hbox hg hb_ hw_; obtain ⟨hcz8_0, hfz8_0⟩ := blk_cells1 BK232.out))
  (try simp only [Act.put, List.setIfInBounds_toArray, List.set_cons_zero, List.set_cons_succ])
  go_loopg [15] k (fun kq v15 w' => ∃ (x15_1 : Int), v15 = .int .i64 x15_1 ∧ Aside0 (cue_CheckDoc.l0 kq l0_0 (l0_0.length : Int) x15_1 l0_0 = some r) ∧ Aside0 (kq ≤ k) ∧ Aside0 (w'.heap[gb232]? = some (.cells #[(.slice A0_0 l0_0.length c0_0)] 25 (0, 0))) ∧ Aside0 (Below w.heap.size w w'))
  case atStart => exact ⟨(0), (by first | rfl | (simp; done) | (simp [*]; done)), H', ⟨Nat.le_refl _⟩, ⟨by (with_reducible repeat (first | apply b1 | apply b2 | apply b3)); exact BK232.out⟩, ⟨by repeat (first | (with_reducible first | exact HB.out | apply l1 | apply l2 | apply l3 | refine below_set ?_ GE232.out) | exact HB.out)⟩⟩
  case round =>
   clear H'
   try clear c1
   try clear c2
   try clear c2b0
   try clear c2b1
   try clear p2
   try clear c3
   try clear hcz5_0
   try clear hcz8_0
   try clear hfz5_0
   try clear hfz8_0
   obtain ⟨x15_1, rfl, HA, HK1, BK232, HB⟩ := hrel
   cases gk with
   | zero => exact absurd HA.out (by simp [cue_CheckDoc.l0])
   | succ k1 =>
    have H := HA.out
    clear HA
    simp only [cue_CheckDoc.l0] at H
    by_cases c9 : x15_1 < (l0_0.length : Int)
    ·rw [if_pos c9] at H
     have c9b0 : decide (x15_1 < (l0_0.length : Int)) = true := decide_eq_true c9
     clear c9
     by_cases c10 : 0 ≤ x15_1 <;> first
     |(rw [if_pos c10] at H
       have c10b0 : decide (0 ≤ x15_1) = true := decide_eq_true c10
       clear c10
       by_cases c11 : x15_1 < (l0_0.length : Int) <;> first
       |(rw [if_pos c11] at H
         have c11b0 : decide (x15_1 < (l0_0.length : Int)) = true := decide_eq_true c11
         clear c11
         replace H := Option.bind_eq_some_iff.mp H
         obtain ⟨t238, A120, H⟩ := H
         (try dsimp only at H)
         have A12 := Aside0.mk A120
         clear A120
         by_cases c13 : t238 = 0 <;> first
         |(rw [if_pos c13] at H
           have c13b0 : (t238 == 0) = true := beq_iff_eq.mpr c13
           have c13b1 : (t238 != 0) = false := bne_eq_false_iff_eq.mpr c13
           clear c13
           have H' := Aside0.mk H
           clear H
           have p236 : 0 ≤ (x15_1 : Int) := of_decide_eq_true (by first | (with_reducible assumption) | assumption)
           have q236 : x15_1 < (l0_0.length : Int) := of_decide_eq_true (by first | (with_reducible assumption) | assumption)
           obtain ⟨ad236, A236_8, c236_8, e236, hx236_0, hx236_1, hx236_2, hx236_3, hx236_4, hx236_5, hx236_6, hx236_7, hx236_8, hl236_8, hi236_8⟩ := at_T38 HR0_0.out x15_1 p236 q236
           cases e236
           replace hx236_0 := (HB.out.cell (World.block_lt_of_cell? w _ hx236_0)).trans hx236_0
           replace hx236_1 := (HB.out.cell (World.block_lt_of_cell? w _ hx236_1)).trans hx236_1
           replace hx236_2 := (HB.out.cell (World.block_lt_of_cell? w _ hx236_2)).trans hx236_2
           replace hx236_3 := (HB.out.cell (World.block_lt_of_cell? w _ hx236_3)).trans hx236_3
           replace hx236_4 := (HB.out.cell (World.block_lt_of_cell? w _ hx236_4)).trans hx236_4
           replace hx236_5 := (HB.out.cell (World.block_lt_of_cell? w _ hx236_5)).trans hx236_5
           replace hx236_6 := (HB.out.cell (World.block_lt_of_cell? w _ hx236_6)).trans hx236_6
           replace hx236_7 := (HB.out.cell (World.block_lt_of_cell? w _ hx236_7)).trans hx236_7
           replace hx236_8 := (HB.out.cell (World.block_lt_of_cell? w _ hx236_8)).trans hx236_8
           have HR236_8 := Aside0.mk hi236_8
           have HC236_8 := Aside0.mk hl236_8
           clear hi236_8 hl236_8
           replace p236 := eq_true p236
           replace q236 := eq_true q236
           have z103 := trivial)
         |(rw [if_neg c13] at H
           have c13b0 : (t238 == 0) = false := beq_eq_false_iff_ne.mpr c13
           have c13b1 : (t238 != 0) = true := bne_iff_ne.mpr c13
           replace H := Option.bind_eq_some_iff.mp H
           obtain ⟨t239, A180, H⟩ := H
           (try dsimp only at H)
           have A18 := Aside0.mk A180
           clear A180
           obtain rfl := Option.some.inj H
           have p236 : 0 ≤ (x15_1 : Int) := of_decide_eq_true (by first | (with_reducible assumption) | assumption)
           have q236 : x15_1 < (l0_0.length : Int) := of_decide_eq_true (by first | (with_reducible assumption) | assumption)
           obtain ⟨ad236, A236_8, c236_8, e236, hx236_0, hx236_1, hx236_2, hx236_3, hx236_4, hx236_5, hx236_6, hx236_7, hx236_8, hl236_8, hi236_8⟩ := at_T38 HR0_0.out x15_1 p236 q236
           cases e236
           replace hx236_0 := (HB.out.cell (World.block_lt_of_cell? w _ hx236_0)).trans hx236_0
           replace hx236_1 := (HB.out.cell (World.block_lt_of_cell? w _ hx236_1)).trans hx236_1
           replace hx236_2 := (HB.out.cell (World.block_lt_of_cell? w _ hx236_2)).trans hx236_2
           replace hx236_3 := (HB.out.cell (World.block_lt_of_cell? w _ hx236_3)).trans hx236_3
           replace hx236_4 := (HB.out.cell (World.block_lt_of_cell? w _ hx236_4)).trans hx236_4
           replace hx236_5 := (HB.out.cell (World.block_lt_of_cell? w _ hx236_5)).trans hx236_5
           replace hx236_6 := (HB.out.cell (World.block_lt_of_cell? w _ hx236_6)).trans hx236_6
           replace hx236_7 := (HB.out.cell (World.block_lt_of_cell? w _ hx236_7)).trans hx236_7
           replace hx236_8 := (HB.out.cell (World.block_lt_of_cell? w _ hx236_8)).trans hx236_8
           have HR236_8 := Aside0.mk hi236_8
           have HC236_8 := Aside0.mk hl236_8
           clear hi236_8 hl236_8
           replace p236 := eq_true p236
           replace q236 := eq_true q236
           have z104 := trivial))
       |(rw [if_neg c11] at H
         exact absurd H (by simp)))
     |(rw [if_neg c10] at H
       exact absurd H (by simp))
     all_goals
      go_wp2_with (first | ((with_reducible refine gate_dst (N := 4) rfl ?_); refine box_event (by rfl) (N := 4) (by rfl) (cs := #[.int .i64 0, .int .i64 0, .int .i64 0, .int .i64 0, .int .i64 0, .int .i64 0, .string (⟨#[]⟩ : ByteArray), .string (⟨#[]⟩ : ByteArray), .slice none 0 0]) (t := 38) (by first | (go_simp; done) | (go_simp; rfl)) ?_; intro gb237 hg w19 hbox hb; obtain ⟨hb_, hw_⟩ := box_facts (by repeat (first | (with_reducible first | exact HB.out | apply l1 | apply l2 | apply l3 | refine below_set ?_ GE232.out) | exact HB.out)) hg hb; replace HB := Aside0.mk (hb_); have BK237 := Aside0.mk (hbox); have GW237 := Aside0.mk (hw_); have GE237 := Aside0.mk (hw_); have NB232_237 := Aside0.mk ((nL hg BK232.out)); have NB237_232 := Aside0.mk ((nG hg BK232.out)); replace BK232 := Aside0.mk (bB BK232.out hb); clear hb hbox hg hb_ hw_; have hnb20 := NB237_232.out; have hnc20 := NB232_237.out; obtain ⟨hcz21_0, hcz21_1, hcz21_2, hcz21_3, hcz21_4, hcz21_5, hcz21_6, hcz21_7, hcz21_8, hfz21_0, hfz21_1, hfz21_2, hfz21_3, hfz21_4, hfz21_5, hfz21_6, hfz21_7, hfz21_8⟩ := blk_cells9 BK237.out) | ((with_reducible refine gate_callee (f := 36) rfl ?_); refine goesL_ (some 21) rfl rfl Try.func36 (by kernel_rfl) rfl #[.agg #[.int .i64 ((rd_T38 l0_0 x15_1).f0.f0), .int .i64 ((rd_T38 l0_0 x15_1).f0.f1), .int .i64 ((rd_T38 l0_0 x15_1).f1.f0), .int .i64 ((rd_T38 l0_0 x15_1).f1.f1), .int .i64 ((rd_T38 l0_0 x15_1).f2), .int .i64 ((rd_T38 l0_0 x15_1).f3), .string ((rd_T38 l0_0 x15_1).f4), .string ((rd_T38 l0_0 x15_1).f5.f0), .slice A236_8 ((rd_T38 l0_0 x15_1).f5.f1).length c236_8]] rfl (by (try simp only [List.map_toArray, List.map_cons, List.map_nil]); first | done | rfl | (simp only [List.length_drop, List.length_take]; rfl)) ?_; (with_reducible refine (cue_Check.calls k1 ((rd_T38 l0_0 x15_1).f0.f0) ((rd_T38 l0_0 x15_1).f0.f1) ((rd_T38 l0_0 x15_1).f1.f0) ((rd_T38 l0_0 x15_1).f1.f1) ((rd_T38 l0_0 x15_1).f2) ((rd_T38 l0_0 x15_1).f3) ((rd_T38 l0_0 x15_1).f4) ((rd_T38 l0_0 x15_1).f5.f0) _ _ ((rd_T38 l0_0 x15_1).f5.f1) t238 _ ?side1 ?side2 A12.out).mono ?_); (case side1 => exact Kd.C_below HR236_8.out (by repeat (first | (with_reducible first | exact HB.out | apply l1 | apply l2 | apply l3 | refine below_set ?_ GE232.out | refine below_set ?_ GE237.out) | exact HB.out))); (case side2 => exact HC236_8.out); rintro e w22 ⟨rfl, hb⟩; refine ⟨_, rfl, ?_⟩; replace BK232 := Aside0.mk (blk_below (g := gb232) (o := .cells #[.slice (some ad236) l0_0.length c0_0] 25 (0, 0)) (by (with_reducible repeat (first | apply b1 | apply b2 | apply b3)); refine blk_far ?_ NB232_237.out _; (with_reducible repeat (first | apply b1 | apply b2 | apply b3)); refine blk_far ?_ NB232_237.out _; (with_reducible repeat (first | apply b1 | apply b2 | apply b3)); refine blk_far ?_ NB232_237.out _; (with_reducible repeat (first | apply b1 | apply b2 | apply b3)); refine blk_far ?_ NB232_237.out _; (with_reducible repeat (first | apply b1 | apply b2 | apply b3)); refine blk_far ?_ NB232_237.out _; (with_reducible repeat (first | apply b1 | apply b2 | apply b3)); refine blk_far ?_ NB232_237.out _; (with_reducible repeat (first | apply b1 | apply b2 | apply b3)); refine blk_far ?_ NB232_237.out _; (with_reducible repeat (first | apply b1 | apply b2 | apply b3)); refine blk_far ?_ NB232_237.out _; (with_reducible repeat (first | apply b1 | apply b2 | apply b3)); refine blk_far ?_ NB232_237.out _; (with_reducible repeat (first | apply b1 | apply b2 | apply b3)); exact BK232.out) hb); replace BK237 := Aside0.mk (blk_below (g := gb237) (o := .cells #[.int .i64 ((rd_T38 l0_0 x15_1).f0.f0), .int .i64 ((rd_T38 l0_0 x15_1).f0.f1), .int .i64 ((rd_T38 l0_0 x15_1).f1.f0), .int .i64 ((rd_T38 l0_0 x15_1).f1.f1), .int .i64 ((rd_T38 l0_0 x15_1).f2), .int .i64 ((rd_T38 l0_0 x15_1).f3), .string ((rd_T38 l0_0 x15_1).f4), .string ((rd_T38 l0_0 x15_1).f5.f0), .slice A236_8 ((rd_T38 l0_0 x15_1).f5.f1).length c236_8] 38 (0, 0)) (by (with_reducible repeat (first | apply b1 | apply b2 | apply b3)); refine blk_put (cs := #[.int .i64 ((rd_T38 l0_0 x15_1).f0.f0), .int .i64 ((rd_T38 l0_0 x15_1).f0.f1), .int .i64 ((rd_T38 l0_0 x15_1).f1.f0), .int .i64 ((rd_T38 l0_0 x15_1).f1.f1), .int .i64 ((rd_T38 l0_0 x15_1).f2), .int .i64 ((rd_T38 l0_0 x15_1).f3), .string ((rd_T38 l0_0 x15_1).f4), .string ((rd_T38 l0_0 x15_1).f5.f0), .slice none 0 0]) ?_ 8 _ rfl; (with_reducible repeat (first | apply b1 | apply b2 | apply b3)); refine blk_put (cs := #[.int .i64 ((rd_T38 l0_0 x15_1).f0.f0), .int .i64 ((rd_T38 l0_0 x15_1).f0.f1), .int .i64 ((rd_T38 l0_0 x15_1).f1.f0), .int .i64 ((rd_T38 l0_0 x15_1).f1.f1), .int .i64 ((rd_T38 l0_0 x15_1).f2), .int .i64 ((rd_T38 l0_0 x15_1).f3), .string ((rd_T38 l0_0 x15_1).f4), .string (⟨#[]⟩ : ByteArray), .slice none 0 0]) ?_ 7 _ rfl; (with_reducible repeat (first | apply b1 | apply b2 | apply b3)); refine blk_put (cs := #[.int .i64 ((rd_T38 l0_0 x15_1).f0.f0), .int .i64 ((rd_T38 l0_0 x15_1).f0.f1), .int .i64 ((rd_T38 l0_0 x15_1).f1.f0), .int .i64 ((rd_T38 l0_0 x15_1).f1.f1), .int .i64 ((rd_T38 l0_0 x15_1).f2), .int .i64 ((rd_T38 l0_0 x15_1).f3), .string (⟨#[]⟩ : ByteArray), .string (⟨#[]⟩ : ByteArray), .slice none 0 0]) ?_ 6 _ rfl; (with_reducible repeat (first | apply b1 | apply b2 | apply b3)); refine blk_put (cs := #[.int .i64 ((rd_T38 l0_0 x15_1).f0.f0), .int .i64 ((rd_T38 l0_0 x15_1).f0.f1), .int .i64 ((rd_T38 l0_0 x15_1).f1.f0), .int .i64 ((rd_T38 l0_0 x15_1).f1.f1), .int .i64 ((rd_T38 l0_0 x15_1).f2), .int .i64 0, .string (⟨#[]⟩ : ByteArray), .string (⟨#[]⟩ : ByteArray), .slice none 0 0]) ?_ 5 _ rfl; (with_reducible repeat (first | apply b1 | apply b2 | apply b3)); refine blk_put (cs := #[.int .i64 ((rd_T38 l0_0 x15_1).f0.f0), .int .i64 ((rd_T38 l0_0 x15_1).f0.f1), .int .i64 ((rd_T38 l0_0 x15_1).f1.f0), .int .i64 ((rd_T38 l0_0 x15_1).f1.f1), .int .i64 0, .int .i64 0, .string (⟨#[]⟩ : ByteArray), .string (⟨#[]⟩ : ByteArray), .slice none 0 0]) ?_ 4 _ rfl; (with_reducible repeat (first | apply b1 | apply b2 | apply b3)); refine blk_put (cs := #[.int .i64 ((rd_T38 l0_0 x15_1).f0.f0), .int .i64 ((rd_T38 l0_0 x15_1).f0.f1), .int .i64 ((rd_T38 l0_0 x15_1).f1.f0), .int .i64 0, .int .i64 0, .int .i64 0, .string (⟨#[]⟩ : ByteArray), .string (⟨#[]⟩ : ByteArray), .slice none 0 0]) ?_ 3 _ rfl; (with_reducible repeat (first | apply b1 | apply b2 | apply b3)); refine blk_put (cs := #[.int .i64 ((rd_T38 l0_0 x15_1).f0.f0), .int .i64 ((rd_T38 l0_0 x15_1).f0.f1), .int .i64 0, .int .i64 0, .int .i64 0, .int .i64 0, .string (⟨#[]⟩ : ByteArray), .string (⟨#[]⟩ : ByteArray), .slice none 0 0]) ?_ 2 _ rfl; (with_reducible repeat (first | apply b1 | apply b2 | apply b3)); refine blk_put (cs := #[.int .i64 ((rd_T38 l0_0 x15_1).f0.f0), .int .i64 0, .int .i64 0, .int .i64 0, .int .i64 0, .int .i64 0, .string (⟨#[]⟩ : ByteArray), .string (⟨#[]⟩ : ByteArray), .slice none 0 0]) ?_ 1 _ rfl; (with_reducible repeat (first | apply b1 | apply b2 | apply b3)); refine blk_put (cs := #[.int .i64 0, .int .i64 0, .int .i64 0, .int .i64 0, .int .i64 0, .int .i64 0, .string (⟨#[]⟩ : ByteArray), .string (⟨#[]⟩ : ByteArray), .slice none 0 0]) ?_ 0 _ rfl; (with_reducible repeat (first | apply b1 | apply b2 | apply b3)); exact BK237.out) hb); replace HB := Aside0.mk (below_step (by repeat (first | (with_reducible first | exact HB.out | apply l1 | apply l2 | apply l3 | refine below_set ?_ GE232.out | refine below_set ?_ GE237.out) | exact HB.out)) hb); (try clear hb); (try clear hb2); (try clear hk); (try clear hi)) | ((revert z104; intro z104); ((with_reducible refine gate_callee (f := 35) rfl ?_); refine goesL_ (some 26) rfl rfl Try.func35 (by kernel_rfl) rfl #[.int .i64 x15_1, .int .i64 t238] rfl (by (try simp only [List.map_toArray, List.map_cons, List.map_nil]); first | done | rfl | (simp only [List.length_drop, List.length_take]; rfl)) ?_; (with_reducible refine (cue_wrong.calls x15_1 t238 t239 _ A18.out).mono ?_); rintro e w23 ⟨v240, rfl, he0, hb⟩; refine ⟨_, rfl, ?_⟩; have HE241 := Aside0.mk he0; clear he0; replace BK232 := Aside0.mk (bB BK232.out hb); replace BK237 := Aside0.mk (bB BK237.out hb); replace HB := Aside0.mk (below_step (by repeat (first | (with_reducible first | exact HB.out | apply l1 | apply l2 | apply l3 | refine below_set ?_ GE232.out | refine below_set ?_ GE237.out) | exact HB.out)) hb); (try clear hb); (try clear hb2); (try clear hk); (try clear hi))))
      first
      |((revert z104; intro z104)
        go_ret
        exact ⟨v240, by first | rfl | (simp [errW_none, errW_some] <;> rfl) | (simp [*, errW_none, errW_some] <;> rfl), HE241.out, by repeat (first | (with_reducible first | exact HB.out | apply l1 | apply l2 | apply l3 | refine below_set ?_ GE232.out | refine below_set ?_ GE237.out) | exact HB.out)⟩)
      |((revert z103; intro z103)
        go_roundg k1
        case measure => have := HK1.out; omega
        case rel => exact ⟨(wrap64 (x15_1 + 1)), (by first | rfl | (simp; done) | (simp [*]; done)), H', ⟨by have := HK1.out; omega⟩, ⟨by (with_reducible repeat (first | apply b1 | apply b2 | apply b3)); exact BK232.out⟩, ⟨by repeat (first | (with_reducible first | exact HB.out | apply l1 | apply l2 | apply l3 | refine below_set ?_ GE232.out | refine below_set ?_ GE237.out) | exact HB.out)⟩⟩)
    ·rw [if_neg c9] at H
     have c9b0 : decide (x15_1 < (l0_0.length : Int)) = false := decide_eq_false c9
     clear c9
     have H' := Aside0.mk H
     clear H
     go_wp2
     (try simp only [Act.put, List.setIfInBounds_toArray, List.set_cons_zero, List.set_cons_succ])
     go_loopg [6] k1 (fun kq v6 w' => ∃ (x6_2 : Int), v6 = .int .i64 x6_2 ∧ Aside0 (cue_CheckDoc.l1 kq x6_2 l0_0 = some r) ∧ Aside0 (kq ≤ k1) ∧ Aside0 (w'.heap[gb232]? = some (.cells #[(.slice A0_0 l0_0.length c0_0)] 25 (0, 0))) ∧ Aside0 (Below w.heap.size w w'))
     case atStart => exact ⟨(1), (by first | rfl | (simp; done) | (simp [*]; done)), H', ⟨Nat.le_refl _⟩, ⟨by (with_reducible repeat (first | apply b1 | apply b2 | apply b3)); exact BK232.out⟩, ⟨by repeat (first | (with_reducible first | exact HB.out | apply l1 | apply l2 | apply l3 | refine below_set ?_ GE232.out) | exact HB.out)⟩⟩
     case round =>
      clear H'
      try clear c1
      try clear c2
      try clear c2b0
      try clear c2b1
      try clear p2
      try clear q2
      try clear hx2
      try clear c3
      try clear p6
      try clear c9
      try clear c9b0
      try clear c10
      try clear c10b0
      try clear c11
      try clear c11b0
      try clear c13
      try clear c13b0
      try clear c13b1
      try clear c15
      try clear c18
      try clear c20
      try clear c23
      try clear p23
      try clear q23
      try clear hx23
      try clear hcz16_0
      try clear hcz16_1
      try clear hcz16_2
      try clear hcz16_3
      try clear hcz16_4
      try clear hcz16_5
      try clear hcz16_6
      try clear hcz16_7
      try clear hcz16_8
      try clear hcz21_0
      try clear hcz21_1
      try clear hcz21_2
      try clear hcz21_3
      try clear hcz21_4
      try clear hcz21_5
      try clear hcz21_6
      try clear hcz21_7
      try clear hcz21_8
      try clear hcz5_0
      try clear hcz8_0
      try clear hfz16_0
      try clear hfz16_1
      try clear hfz16_2
      try clear hfz16_3
      try clear hfz16_4
      try clear hfz16_5
      try clear hfz16_6
      try clear hfz16_7
      try clear hfz16_8
      try clear hfz21_0
      try clear hfz21_1
      try clear hfz21_2
      try clear hfz21_3
      try clear hfz21_4
      try clear hfz21_5
      try clear hfz21_6
      try clear hfz21_7
      try clear hfz21_8
      try clear hfz5_0
      try clear hfz8_0
      try clear hx236_0
      try clear hx236_1
      try clear hx236_2
      try clear hx236_3
      try clear hx236_4
      try clear hx236_5
      try clear hx236_6
      try clear hx236_7
      try clear hx236_8
      try clear p2
      try clear p236
      try clear q236
      obtain ⟨x6_2, rfl, HA, HK2, BK232, HB⟩ := hrel
      cases gk with
      | zero => exact absurd HA.out (by simp [cue_CheckDoc.l1])
      | succ k2 =>
       have H := HA.out
       clear HA
       simp only [cue_CheckDoc.l1] at H
       by_cases c24 : x6_2 < (l0_0.length : Int)
       ·rw [if_pos c24] at H
        have c24b0 : decide (x6_2 < (l0_0.length : Int)) = true := decide_eq_true c24
        clear c24
        obtain ⟨ji25, hji25⟩ : ∃ j_ : Int, (wrap64 (x6_2 - 1)) = j_ := ⟨_, rfl⟩
        replace H : (if 0 ≤ (ji25) then (if (ji25) < (l0_0.length : Int) then (if 0 ≤ x6_2 then ((cue_Compare.f ((rd_T38 l0_0 (ji25)).f0.f0) ((rd_T38 l0_0 (ji25)).f0.f1) ((rd_T38 l0_0 (ji25)).f1.f0) ((rd_T38 l0_0 (ji25)).f1.f1) ((rd_T38 l0_0 (ji25)).f2) ((rd_T38 l0_0 (ji25)).f3) ((rd_T38 l0_0 (ji25)).f4) ((rd_T38 l0_0 (ji25)).f5.f0) ((rd_T38 l0_0 (ji25)).f5.f1) ((rd_T38 l0_0 x6_2).f0.f0) ((rd_T38 l0_0 x6_2).f0.f1) ((rd_T38 l0_0 x6_2).f1.f0) ((rd_T38 l0_0 x6_2).f1.f1) ((rd_T38 l0_0 x6_2).f2) ((rd_T38 l0_0 x6_2).f3) ((rd_T38 l0_0 x6_2).f4) ((rd_T38 l0_0 x6_2).f5.f0) ((rd_T38 l0_0 x6_2).f5.f1)).bind fun t244 => (if t244 > 0 then ((cue_wrong.f x6_2 33).bind fun t245 => (some t245)) else (cue_CheckDoc.l1 k2 (wrap64 (x6_2 + 1)) l0_0))) else (none)) else (none)) else (none)) = some r := by first | (rw [hji25] at H; exact H) | (simp only [hji25] at H ⊢; exact H)
        have hji25w : (IntKind.i64.wrap (x6_2 - 1)) = ji25 := (i64_w _).trans hji25
        by_cases c26 : 0 ≤ (ji25)
        ·rw [if_pos c26] at H
         have c26b0 : decide (0 ≤ (ji25)) = true := decide_eq_true c26
         clear c26
         by_cases c27 : (ji25) < (l0_0.length : Int)
         ·rw [if_pos c27] at H
          have c27b0 : decide ((ji25) < (l0_0.length : Int)) = true := decide_eq_true c27
          clear c27
          by_cases c28 : 0 ≤ x6_2 <;> first
          |(rw [if_pos c28] at H
            have c28b0 : decide (0 ≤ x6_2) = true := decide_eq_true c28
            clear c28
            replace H := Option.bind_eq_some_iff.mp H
            obtain ⟨t244, A290, H⟩ := H
            (try dsimp only at H)
            have A29 := Aside0.mk A290
            clear A290
            by_cases c30 : t244 > 0 <;> first
            |(rw [if_pos c30] at H
              have c30b0 : decide (0 < t244) = true := decide_eq_true c30
              clear c30
              replace H := Option.bind_eq_some_iff.mp H
              obtain ⟨t245, A310, H⟩ := H
              (try dsimp only at H)
              have A31 := Aside0.mk A310
              clear A310
              obtain rfl := Option.some.inj H
              obtain ⟨hcz32_0, hfz32_0⟩ := blk_cells1 BK232.out
              have z119 := trivial)
            |(rw [if_neg c30] at H
              have c30b0 : decide (0 < t244) = false := decide_eq_false c30
              clear c30
              have H' := Aside0.mk H
              clear H
              obtain ⟨hcz36_0, hfz36_0⟩ := blk_cells1 BK232.out
              have z120 := trivial))
          |(rw [if_neg c28] at H
            exact absurd H (by simp))
          all_goals
           try go_wp2
           replace BK232 := Aside0.mk (blk_drew BK232.out)
           replace HB := Aside0.mk (below_drew1 HB.out)
           have p242 : 0 ≤ ((ji25) : Int) := of_decide_eq_true (by first | (with_reducible assumption) | assumption)
           have q242 : (ji25) < (l0_0.length : Int) := of_decide_eq_true (by first | (with_reducible assumption) | assumption)
           obtain ⟨ad242, A242_8, c242_8, e242, hx242_0, hx242_1, hx242_2, hx242_3, hx242_4, hx242_5, hx242_6, hx242_7, hx242_8, hl242_8, hi242_8⟩ := at_T38 HR0_0.out (ji25) p242 q242
           have hw242_8 := hx242_8
           have hw242_7 := hx242_7
           have hw242_6 := hx242_6
           have hw242_5 := hx242_5
           have hw242_4 := hx242_4
           have hw242_3 := hx242_3
           have hw242_2 := hx242_2
           have hw242_1 := hx242_1
           have hw242_0 := hx242_0
           cases e242
           replace hx242_0 := (HB.out.cell (World.block_lt_of_cell? w _ hx242_0)).trans hx242_0
           replace hx242_1 := (HB.out.cell (World.block_lt_of_cell? w _ hx242_1)).trans hx242_1
           replace hx242_2 := (HB.out.cell (World.block_lt_of_cell? w _ hx242_2)).trans hx242_2
           replace hx242_3 := (HB.out.cell (World.block_lt_of_cell? w _ hx242_3)).trans hx242_3
           replace hx242_4 := (HB.out.cell (World.block_lt_of_cell? w _ hx242_4)).trans hx242_4
           replace hx242_5 := (HB.out.cell (World.block_lt_of_cell? w _ hx242_5)).trans hx242_5
           replace hx242_6 := (HB.out.cell (World.block_lt_of_cell? w _ hx242_6)).trans hx242_6
           replace hx242_7 := (HB.out.cell (World.block_lt_of_cell? w _ hx242_7)).trans hx242_7
           replace hx242_8 := (HB.out.cell (World.block_lt_of_cell? w _ hx242_8)).trans hx242_8
           have HR242_8 := Aside0.mk hi242_8
           have HC242_8 := Aside0.mk hl242_8
           clear hi242_8 hl242_8
           replace p242 := eq_true p242
           replace q242 := eq_true q242
           have p243 : 0 ≤ (x6_2 : Int) := of_decide_eq_true (by first | (with_reducible assumption) | assumption)
           have q243 : x6_2 < (l0_0.length : Int) := of_decide_eq_true (by first | (with_reducible assumption) | assumption)
           obtain ⟨ad243, A243_8, c243_8, e243, hx243_0, hx243_1, hx243_2, hx243_3, hx243_4, hx243_5, hx243_6, hx243_7, hx243_8, hl243_8, hi243_8⟩ := at_T38 HR0_0.out x6_2 p243 q243
           have hw243_8 := hx243_8
           have hw243_7 := hx243_7
           have hw243_6 := hx243_6
           have hw243_5 := hx243_5
           have hw243_4 := hx243_4
           have hw243_3 := hx243_3
           have hw243_2 := hx243_2
           have hw243_1 := hx243_1
           have hw243_0 := hx243_0
           obtain rfl : ad242 = ad243 := (by injection e243)
           replace hx243_0 := (HB.out.cell (World.block_lt_of_cell? w _ hx243_0)).trans hx243_0
           replace hx243_1 := (HB.out.cell (World.block_lt_of_cell? w _ hx243_1)).trans hx243_1
           replace hx243_2 := (HB.out.cell (World.block_lt_of_cell? w _ hx243_2)).trans hx243_2
           replace hx243_3 := (HB.out.cell (World.block_lt_of_cell? w _ hx243_3)).trans hx243_3
           replace hx243_4 := (HB.out.cell (World.block_lt_of_cell? w _ hx243_4)).trans hx243_4
           replace hx243_5 := (HB.out.cell (World.block_lt_of_cell? w _ hx243_5)).trans hx243_5
           replace hx243_6 := (HB.out.cell (World.block_lt_of_cell? w _ hx243_6)).trans hx243_6
           replace hx243_7 := (HB.out.cell (World.block_lt_of_cell? w _ hx243_7)).trans hx243_7
           replace hx243_8 := (HB.out.cell (World.block_lt_of_cell? w _ hx243_8)).trans hx243_8
           have HR243_8 := Aside0.mk hi243_8
           have HC243_8 := Aside0.mk hl243_8
           clear hi243_8 hl243_8
           replace p243 := eq_true p243
           replace q243 := eq_true q243
           refine start_ (n := 13) (S := fun w' => w'.cell? ⟨gb232, 0, none⟩ = some (.slice (some ad242) l0_0.length c0_0) ∧ w'.cell? (ad242.add (((ji25)).toNat * 9)) = some (.int .i64 ((rd_T38 l0_0 (ji25)).f0.f0)) ∧ w'.cell? ⟨(ad242.add (((ji25)).toNat * 9)).block, (ad242.add (((ji25)).toNat * 9)).off + 1, none⟩ = some (.int .i64 ((rd_T38 l0_0 (ji25)).f0.f1)) ∧ w'.cell? ⟨(ad242.add (((ji25)).toNat * 9)).block, (ad242.add (((ji25)).toNat * 9)).off + 2, none⟩ = some (.int .i64 ((rd_T38 l0_0 (ji25)).f1.f0)) ∧ w'.cell? ⟨(ad242.add (((ji25)).toNat * 9)).block, (ad242.add (((ji25)).toNat * 9)).off + 3, none⟩ = some (.int .i64 ((rd_T38 l0_0 (ji25)).f1.f1)) ∧ w'.cell? ⟨(ad242.add (((ji25)).toNat * 9)).block, (ad242.add (((ji25)).toNat * 9)).off + 4, none⟩ = some (.int .i64 ((rd_T38 l0_0 (ji25)).f2)) ∧ w'.cell? ⟨(ad242.add (((ji25)).toNat * 9)).block, (ad242.add (((ji25)).toNat * 9)).off + 5, none⟩ = some (.int .i64 ((rd_T38 l0_0 (ji25)).f3)) ∧ w'.cell? ⟨(ad242.add (((ji25)).toNat * 9)).block, (ad242.add (((ji25)).toNat * 9)).off + 6, none⟩ = some (.string ((rd_T38 l0_0 (ji25)).f4)) ∧ w'.cell? ⟨(ad242.add (((ji25)).toNat * 9)).block, (ad242.add (((ji25)).toNat * 9)).off + 7, none⟩ = some (.string ((rd_T38 l0_0 (ji25)).f5.f0)) ∧ w'.cell? ⟨(ad242.add (((ji25)).toNat * 9)).block, (ad242.add (((ji25)).toNat * 9)).off + 8, none⟩ = some (.slice A242_8 ((rd_T38 l0_0 (ji25)).f5.f1).length c242_8) ∧ w'.cell? (ad242.add ((x6_2).toNat * 9)) = some (.int .i64 ((rd_T38 l0_0 x6_2).f0.f0)) ∧ w'.cell? ⟨(ad242.add ((x6_2).toNat * 9)).block, (ad242.add ((x6_2).toNat * 9)).off + 1, none⟩ = some (.int .i64 ((rd_T38 l0_0 x6_2).f0.f1)) ∧ w'.cell? ⟨(ad242.add ((x6_2).toNat * 9)).block, (ad242.add ((x6_2).toNat * 9)).off + 2, none⟩ = some (.int .i64 ((rd_T38 l0_0 x6_2).f1.f0)) ∧ w'.cell? ⟨(ad242.add ((x6_2).toNat * 9)).block, (ad242.add ((x6_2).toNat * 9)).off + 3, none⟩ = some (.int .i64 ((rd_T38 l0_0 x6_2).f1.f1)) ∧ w'.cell? ⟨(ad242.add ((x6_2).toNat * 9)).block, (ad242.add ((x6_2).toNat * 9)).off + 4, none⟩ = some (.int .i64 ((rd_T38 l0_0 x6_2).f2)) ∧ w'.cell? ⟨(ad242.add ((x6_2).toNat * 9)).block, (ad242.add ((x6_2).toNat * 9)).off + 5, none⟩ = some (.int .i64 ((rd_T38 l0_0 x6_2).f3)) ∧ w'.cell? ⟨(ad242.add ((x6_2).toNat * 9)).block, (ad242.add ((x6_2).toNat * 9)).off + 6, none⟩ = some (.string ((rd_T38 l0_0 x6_2).f4)) ∧ w'.cell? ⟨(ad242.add ((x6_2).toNat * 9)).block, (ad242.add ((x6_2).toNat * 9)).off + 7, none⟩ = some (.string ((rd_T38 l0_0 x6_2).f5.f0)) ∧ w'.cell? ⟨(ad242.add ((x6_2).toNat * 9)).block, (ad242.add ((x6_2).toNat * 9)).off + 8, none⟩ = some (.slice A243_8 ((rd_T38 l0_0 x6_2).f5.f1).length c243_8)) (ds := []) #[false, false, false, false, false, false, false, false, false, false, false, false, false] (by kernel_rfl) rfl rfl ⟨(blk_cell BK232.out 0).trans rfl, ((HB.out.cell (World.block_lt_of_cell? w _ hw242_0)).trans hw242_0), ((HB.out.cell (World.block_lt_of_cell? w _ hw242_1)).trans hw242_1), ((HB.out.cell (World.block_lt_of_cell? w _ hw242_2)).trans hw242_2), ((HB.out.cell (World.block_lt_of_cell? w _ hw242_3)).trans hw242_3), ((HB.out.cell (World.block_lt_of_cell? w _ hw242_4)).trans hw242_4), ((HB.out.cell (World.block_lt_of_cell? w _ hw242_5)).trans hw242_5), ((HB.out.cell (World.block_lt_of_cell? w _ hw242_6)).trans hw242_6), ((HB.out.cell (World.block_lt_of_cell? w _ hw242_7)).trans hw242_7), ((HB.out.cell (World.block_lt_of_cell? w _ hw242_8)).trans hw242_8), ((HB.out.cell (World.block_lt_of_cell? w _ hw243_0)).trans hw243_0), ((HB.out.cell (World.block_lt_of_cell? w _ hw243_1)).trans hw243_1), ((HB.out.cell (World.block_lt_of_cell? w _ hw243_2)).trans hw243_2), ((HB.out.cell (World.block_lt_of_cell? w _ hw243_3)).trans hw243_3), ((HB.out.cell (World.block_lt_of_cell? w _ hw243_4)).trans hw243_4), ((HB.out.cell (World.block_lt_of_cell? w _ hw243_5)).trans hw243_5), ((HB.out.cell (World.block_lt_of_cell? w _ hw243_6)).trans hw243_6), ((HB.out.cell (World.block_lt_of_cell? w _ hw243_7)).trans hw243_7), ((HB.out.cell (World.block_lt_of_cell? w _ hw243_8)).trans hw243_8)⟩ (fun hHeld => ?_); refine with_tabW cue_CheckDoc.tab13 cue_CheckDoc.bits13 (fun HT_ HW_ => ?_)
           generalize wr.drew = w33 at BK232 HB HR242_8 HR243_8 hx242_0 hx242_1 hx242_2 hx242_3 hx242_4 hx242_5 hx242_6 hx242_7 hx242_8 hx243_0 hx243_1 hx243_2 hx243_3 hx243_4 hx243_5 hx243_6 hx243_7 hx243_8 hHeld ⊢
           refine sched [(0, some 35), (2, some 37), (3, some 38), (6, some 41), (8, some 43), (1, some 36), (4, some 39), (5, some 40), (7, some 42), (9, some 44), (10, some 45)] ?_
           iterate 11 first
            |(refine pureS (v := ?_) (a' := ?_) rfl rfl (any_of HT_.out (by kernel_rfl)) (fun _ _ _ h => h) (Or.inl ⟨by rfl, ?_⟩) ?_ ?_
              rotate_left
              ·intro w'
               go_simp
               with_reducible rfl
              rotate_left
              ·simp only [Act.put, List.setIfInBounds_toArray, List.set_cons_zero, List.set_cons_succ, i64_w, i32_w]
               rfl)
            |(refine takeS (v := ?_) (a' := ?_) rfl rfl (take_ofW HT_.out HW_.out (by kernel_rfl)) (fun _ _ _ h => h) (Or.inl ⟨by rfl, ?_⟩) hHeld ?_ ?_
              rotate_left
              ·rintro w' ⟨s0, s1, s2, s3, s4, s5, s6, s7, s8, s9, s10, s11, s12, s13, s14, s15, s16, s17, s18⟩
               go_simp
               with_reducible rfl
              rotate_left
              ·simp only [Act.put, List.setIfInBounds_toArray, List.set_cons_zero, List.set_cons_succ, i64_w, i32_w]
               rfl)
           refine unsched ?_
           refine one_ (i := 11) (N := some 46) #[true, true, true, true, true, true, true, true, true, true, true, true, false] rfl rfl (one_of HT_.out (by kernel_rfl)) (by decide) (fun K hK => ?_)
           refine goes_ Try.func15 (by kernel_rfl) rfl #[.agg #[.int .i64 ((rd_T38 l0_0 (ji25)).f0.f0), .int .i64 ((rd_T38 l0_0 (ji25)).f0.f1), .int .i64 ((rd_T38 l0_0 (ji25)).f1.f0), .int .i64 ((rd_T38 l0_0 (ji25)).f1.f1), .int .i64 ((rd_T38 l0_0 (ji25)).f2), .int .i64 ((rd_T38 l0_0 (ji25)).f3), .string ((rd_T38 l0_0 (ji25)).f4), .string ((rd_T38 l0_0 (ji25)).f5.f0), .slice A242_8 ((rd_T38 l0_0 (ji25)).f5.f1).length c242_8], .agg #[.int .i64 ((rd_T38 l0_0 x6_2).f0.f0), .int .i64 ((rd_T38 l0_0 x6_2).f0.f1), .int .i64 ((rd_T38 l0_0 x6_2).f1.f0), .int .i64 ((rd_T38 l0_0 x6_2).f1.f1), .int .i64 ((rd_T38 l0_0 x6_2).f2), .int .i64 ((rd_T38 l0_0 x6_2).f3), .string ((rd_T38 l0_0 x6_2).f4), .string ((rd_T38 l0_0 x6_2).f5.f0), .slice A243_8 ((rd_T38 l0_0 x6_2).f5.f1).length c243_8]] (by rfl) rfl rfl (by (try simp only [List.map_toArray, List.map_cons, List.map_nil]); first | done | (simp only [hji25]; rfl) | rfl | (simp only [List.length_drop, List.length_take]; rfl)) ?_
           with_reducible refine (cue_Compare.calls ((rd_T38 l0_0 (ji25)).f0.f0) ((rd_T38 l0_0 (ji25)).f0.f1) ((rd_T38 l0_0 (ji25)).f1.f0) ((rd_T38 l0_0 (ji25)).f1.f1) ((rd_T38 l0_0 (ji25)).f2) ((rd_T38 l0_0 (ji25)).f3) ((rd_T38 l0_0 (ji25)).f4) ((rd_T38 l0_0 (ji25)).f5.f0) _ _ ((rd_T38 l0_0 (ji25)).f5.f1) ((rd_T38 l0_0 x6_2).f0.f0) ((rd_T38 l0_0 x6_2).f0.f1) ((rd_T38 l0_0 x6_2).f1.f0) ((rd_T38 l0_0 x6_2).f1.f1) ((rd_T38 l0_0 x6_2).f2) ((rd_T38 l0_0 x6_2).f3) ((rd_T38 l0_0 x6_2).f4) ((rd_T38 l0_0 x6_2).f5.f0) _ _ ((rd_T38 l0_0 x6_2).f5.f1) t244 _ ?side1 ?side2 ?side3 ?side4 A29.out).mono ?_
           (case side1 => repeat (first | exact (Kd.C_below HR242_8.out HB.out) | (with_reducible refine Kd.C_alloc ?_ _) | (with_reducible refine Kd.C_drewN ?_ _) | (with_reducible refine Kd.C_drew ?_)))
           (case side2 => exact HC242_8.out)
           (case side3 => repeat (first | exact (Kd.C_below HR243_8.out HB.out) | (with_reducible refine Kd.C_alloc ?_ _) | (with_reducible refine Kd.C_drewN ?_ _) | (with_reducible refine Kd.C_drew ?_)))
           (case side4 => exact HC243_8.out)
           rintro e w34 ⟨rfl, hb⟩
           refine ⟨_, rfl, ?_⟩
           replace BK232 := Aside0.mk (bB BK232.out hb)
           replace HB := Aside0.mk (below_step (by repeat (first | (with_reducible first | exact HB.out | apply l1 | apply l2 | apply l3 | refine below_set ?_ GE232.out) | exact HB.out)) hb)
           (try clear hb)
           (try clear hb2)
           (try clear hk)
           (try clear hi)
           refine hK.out _ _ ⟨(blk_cell BK232.out 0).trans rfl, ((HB.out.cell (World.block_lt_of_cell? w _ hw242_0)).trans hw242_0), ((HB.out.cell (World.block_lt_of_cell? w _ hw242_1)).trans hw242_1), ((HB.out.cell (World.block_lt_of_cell? w _ hw242_2)).trans hw242_2), ((HB.out.cell (World.block_lt_of_cell? w _ hw242_3)).trans hw242_3), ((HB.out.cell (World.block_lt_of_cell? w _ hw242_4)).trans hw242_4), ((HB.out.cell (World.block_lt_of_cell? w _ hw242_5)).trans hw242_5), ((HB.out.cell (World.block_lt_of_cell? w _ hw242_6)).trans hw242_6), ((HB.out.cell (World.block_lt_of_cell? w _ hw242_7)).trans hw242_7), ((HB.out.cell (World.block_lt_of_cell? w _ hw242_8)).trans hw242_8), ((HB.out.cell (World.block_lt_of_cell? w _ hw243_0)).trans hw243_0), ((HB.out.cell (World.block_lt_of_cell? w _ hw243_1)).trans hw243_1), ((HB.out.cell (World.block_lt_of_cell? w _ hw243_2)).trans hw243_2), ((HB.out.cell (World.block_lt_of_cell? w _ hw243_3)).trans hw243_3), ((HB.out.cell (World.block_lt_of_cell? w _ hw243_4)).trans hw243_4), ((HB.out.cell (World.block_lt_of_cell? w _ hw243_5)).trans hw243_5), ((HB.out.cell (World.block_lt_of_cell? w _ hw243_6)).trans hw243_6), ((HB.out.cell (World.block_lt_of_cell? w _ hw243_7)).trans hw243_7), ((HB.out.cell (World.block_lt_of_cell? w _ hw243_8)).trans hw243_8)⟩ (fun hHeld => ?_)
           clear hK K
           refine norm_ (a' := ?_) ?_ ?_
           rotate_left
           ·show Act.put _ (some 46) _ = _
            simp only [Act.put, List.setIfInBounds_toArray, List.set_cons_zero, List.set_cons_succ, i64_w, i32_w]
            rfl
           refine pure_ (i := 12) (N := some 47) (v := ?_) (a' := ?_) #[true, true, true, true, true, true, true, true, true, true, true, true, true] rfl rfl (any_of HT_.out (by kernel_rfl)) (fun _ _ _ h => h) (Or.inl ⟨by rfl, ?_⟩) ?_ ?_
           rotate_left
           ·intro w'
            go_simp
            with_reducible rfl
           rotate_left
           ·simp only [Act.put, List.setIfInBounds_toArray, List.set_cons_zero, List.set_cons_succ, i64_w, i32_w]
            rfl
           refine done_ (done_of HT_.out (by kernel_rfl)) ?_
           try go_wp2_with (first | ((with_reducible refine gate_callee (f := 35) rfl ?_); refine goesL_ (some 49) rfl rfl Try.func35 (by kernel_rfl) rfl #[.int .i64 x6_2, .int .i64 33] rfl (by (try simp only [List.map_toArray, List.map_cons, List.map_nil]); first | done | rfl | (simp only [List.length_drop, List.length_take]; rfl)) ?_; (with_reducible refine (cue_wrong.calls x6_2 33 t245 _ A31.out).mono ?_); rintro e w35 ⟨v246, rfl, he0, hb⟩; refine ⟨_, rfl, ?_⟩; have HE247 := Aside0.mk he0; clear he0; replace BK232 := Aside0.mk (bB BK232.out hb); replace HB := Aside0.mk (below_step (by repeat (first | (with_reducible first | exact HB.out | apply l1 | apply l2 | apply l3 | refine below_set ?_ GE232.out) | exact HB.out)) hb); (try clear hb); (try clear hb2); (try clear hk); (try clear hi)))
           first
           |((revert z119; intro z119)
             go_ret
             exact ⟨v246, by first | rfl | (simp [errW_none, errW_some] <;> rfl) | (simp only [← hji25]; first | rfl | (simp [errW_none, errW_some] <;> rfl)) | (simp [*, errW_none, errW_some] <;> rfl), HE247.out, by repeat (first | (with_reducible first | exact HB.out | apply l1 | apply l2 | apply l3 | refine below_set ?_ GE232.out) | exact HB.out)⟩)
           |((revert z120; intro z120)
             go_roundg k2
             case measure => have := HK1.out; have := HK2.out; omega
             case rel => exact ⟨(wrap64 (x6_2 + 1)), (by first | rfl | (simp; done) | (simp [*]; done)), H', ⟨by have := HK1.out; have := HK2.out; omega⟩, ⟨by (with_reducible repeat (first | apply b1 | apply b2 | apply b3)); exact BK232.out⟩, ⟨by repeat (first | (with_reducible first | exact HB.out | apply l1 | apply l2 | apply l3 | refine below_set ?_ GE232.out) | exact HB.out)⟩⟩)
         ·rw [if_neg c27] at H
          exact absurd H (by simp)
        ·rw [if_neg c26] at H
         exact absurd H (by simp)
       ·rw [if_neg c24] at H
        have c24b0 : decide (x6_2 < (l0_0.length : Int)) = false := decide_eq_false c24
        clear c24
        obtain rfl := Option.some.inj H
        obtain ⟨hcz39_0, hfz39_0⟩ := blk_cells1 BK232.out
        go_wp2
        go_ret
        exact ⟨.nilIface, by first | rfl | (simp [errW_none, errW_some] <;> rfl) | (simp [*, errW_none, errW_some] <;> rfl), EV_nil, by repeat (first | (with_reducible first | exact HB.out | apply l1 | apply l2 | apply l3 | refine below_set ?_ GE232.out) | exact HB.out)⟩
theorem add64_run (x y b : Nat) (hb : b ≤ 1) (w : World) :
  (callFunc 81 #[.int .u64 x, .int .u64 y, .int .u64 b]).run Try.prog w =
   .ok (.value (.tuple #[.int .u64 (((x + y + b) % 18446744073709551616 : Nat) : Int), .int .u64 (((x + y + b) / 18446744073709551616 : Nat) : Int)])) w := by
 rw [run_callFunc_extern Try.func81 (by kernel_rfl) (by kernel_rfl) (by kernel_rfl) (e := add64Entry) (by kernel_rfl), run_add64 x y b (by omega) (by omega) (by omega) (by omega)]
 simp only [Result.andThen]
 congr 5 <;> omega
def M64' : Int := 18446744073709551616
theorem add64_ex (x y b : Int) (hx : 0 ≤ x) (hy : 0 ≤ y) (hb : b = 0 ∨ b = 1) :
  ∃ d c : Int, Aside0 (d = (x + y + b) % M64' ∧ c = (x + y + b) / M64') ∧ (∀ w, (callFunc 81 #[.int .u64 x, .int .u64 y, .int .u64 b]).run Try.prog w = .ok (.value (.tuple #[.int .u64 d, .int .u64 c])) w) := by
 obtain ⟨x, rfl⟩ := Int.eq_ofNat_of_zero_le hx
 obtain ⟨y, rfl⟩ := Int.eq_ofNat_of_zero_le hy
 unfold M64' at *
 rcases hb with rfl | rfl
 ·exact ⟨_, _, ⟨by omega, by omega⟩, fun w => add64_run x y 0 (by omega) w⟩
 ·exact ⟨_, _, ⟨by omega, by omega⟩, fun w => add64_run x y 1 (by omega) w⟩
def ratio_wide_plus.f (x0 x1 y0 y1 : Int) : Option (Int × Int) :=
 if 0 ≤ x0 ∧ 0 ≤ x1 ∧ 0 ≤ y0 ∧ 0 ≤ y1 ∧ x1 < M64' ∧ y1 < M64' then
  some ((x0 + y0 + (x1 + y1) / M64') % M64', (x1 + y1) % M64')
 else none
set_option maxHeartbeats 8000000 in
set_option maxRecDepth 100000 in
theorem ratio_wide_plus.calls (a0_0 : Int) (a0_1 : Int) (a1_0 : Int) (a1_1 : Int) (r1 : Int) (r2 : Int) (w : World) (h : ratio_wide_plus.f a0_0 a0_1 a1_0 a1_1 = some (r1, r2)) :
  Calls Try.prog 75 #[.agg #[.int .u64 a0_0, .int .u64 a0_1], .agg #[.int .u64 a1_0, .int .u64 a1_1]] w fun e w' => e = .returned (.agg #[.int .u64 r1, .int .u64 r2]) ∧ Below w.heap.size w w' := by
 unfold ratio_wide_plus.f at h
 split at h
 case isFalse => exact absurd h (by simp)
 case isTrue hc =>
 obtain ⟨h0, h1, h2, h3, h4, h5⟩ := hc
 simp only [Option.some.injEq, Prod.mk.injEq] at h
 obtain ⟨d1, c1, H1, q1⟩ := add64_ex a0_1 a1_1 0 h1 h3 (.inl rfl)
 obtain ⟨d2, c2, H2, q2⟩ := add64_ex a0_0 a1_0 c1 h0 h2 (by have := H1.out.2; unfold M64' at *; omega)
 have E : d2 = r1 ∧ d1 = r2 := by
  obtain ⟨k1, k2⟩ := H1.out
  obtain ⟨k3, k4⟩ := H2.out
  rw [← h.1, ← h.2, k3, k1, k2]
  simp
 obtain ⟨rfl, rfl⟩ := E
 clear h H1 H2 h0 h1 h2 h3 h4 h5
 have hu88 := Try.underlying88
 go_enter Try.func75, Try.ntmps75
 go_wp2
 exact bodyPost_ret (v := .agg #[.int .u64 d2, .int .u64 d1]) (by simp [results, Try.results75, go_sem]) rfl ⟨rfl, (((Below.refl _ w).alloc (Nat.le_refl _) _).alloc (by simp) _).alloc (by simp; omega) _⟩
end Go.Proofs.Ytlbicmdfdpcdiaa.PDa
