-- Written by programs of this session's (wip/printer) out of the translation and of the print's words; Lean checks it.
import Derived.Test.YtbpifnpljcgjlaaLxPLxx0
import Derived.Test.YtbpifnpljcgjlaaLxPLxx11
import Derived.Test.YtbpifnpljcgjlaaLxPLxx12
import Derived.Test.YtbpifnpljcgjlaaLxPLxx13
import Derived.Test.YtbpifnpljcgjlaaLxPLxx14
namespace Go.Proofs.Ytbpifnpljcgjlaa.PLx
open Go.RowKit Go.Proofs.YtbpifnpljcgjlaaW.PrintWords Go.Proofs.YtbpifnpljcgjlaaW.PrintLast Go.Proofs.YtbpifnpljcgjlaaW.PrintMore
attribute [local go_sem] max2_int min2_int max_two min_two max_three min_three max_four min_four   -- for this text's walks alone
set_option linter.unusedVariables false
set_option linter.unusedSimpArgs false
mutual
def surtitlelaw13_LaneLaid.j0 : Nat → List Int → Option (Int × Int) → Bool → List (S41) → List (S41) → Option (Bool)
 | 0, _, _, _, _, _ => none
 | k + 1, x3, x7, x28, x359000, x373000 => if x28 = true then (if x7.isNone = true then (some false) else (if (x373000.length : Int) = 0 then ((surtitlelaw13_head.f k).bind fun t375 => (some t375)) else (some false))) else ((lane_Lay.f k x373000).bind fun bt376 => (if x7.isNone = true then (if bt376.2.isNone = true then ((surtitlelaw13_SameDoc.f k x373000 bt376.1).bind fun t385 => (if t385 = true then ((cue_CheckDoc.f k x373000).bind fun t386 => (if t386.isNone = true then (surtitlelaw13_LaneLaid.j1 k x3 ((x373000.length : Int) != (x359000.length : Int)) x359000 x373000) else (surtitlelaw13_LaneLaid.j1 k x3 true x359000 x373000))) else (surtitlelaw13_LaneLaid.j1 k x3 true x359000 x373000))) else (surtitlelaw13_LaneLaid.j1 k x3 true x359000 x373000)) else (surtitlelaw13_LaneLaid.j1 k x3 true x359000 x373000)))
def surtitlelaw13_LaneLaid.j1 : Nat → List Int → Bool → List (S41) → List (S41) → Option (Bool)
 | 0, _, _, _, _ => none
 | k + 1, x3, x70, x359000, x373000 => if x70 = true then (some false) else (surtitlelaw13_LaneLaid.l0 k x3 0 x359000 x373000)
def surtitlelaw13_LaneLaid.l0 : Nat → List Int → Int → List (S41) → List (S41) → Option (Bool)
 | 0, _, _, _, _ => none
 | k + 1, x3, x10, x359000, x373000 => if x10 < (x3.length : Int) then (if 0 ≤ x10 then (if x10 < (x373000.length : Int) then (if ((rd_T41 x373000 x10).f2) = (rd x3 x10) then (if x10 < (x359000.length : Int) then ((surtitlelaw13_SameCue.f k ((rd_T41 x373000 x10).f0.f0) ((rd_T41 x373000 x10).f0.f1) ((rd_T41 x373000 x10).f1.f0) ((rd_T41 x373000 x10).f1.f1) ((rd_T41 x359000 x10).f2) ((rd_T41 x373000 x10).f3) ((rd_T41 x373000 x10).f4) ((rd_T41 x373000 x10).f5.f0) ((rd_T41 x373000 x10).f5.f1) ((rd_T41 x359000 x10).f0.f0) ((rd_T41 x359000 x10).f0.f1) ((rd_T41 x359000 x10).f1.f0) ((rd_T41 x359000 x10).f1.f1) ((rd_T41 x359000 x10).f2) ((rd_T41 x359000 x10).f3) ((rd_T41 x359000 x10).f4) ((rd_T41 x359000 x10).f5.f0) ((rd_T41 x359000 x10).f5.f1)).bind fun t396 => (if t396 = true then (surtitlelaw13_LaneLaid.l0 k x3 (wrap64 (x10 + 1)) x359000 x373000) else (some false))) else (none)) else (some false)) else (none)) else (none)) else ((surtitlelaw13_head.f k).bind fun t390 => (some t390))
end
def surtitlelaw13_LaneLaid.f (k : Nat) (l0_0 : List (S41)) : Option (Bool) := (lane_Lanes.f k l0_0).bind fun bt359 => ((lane_Lay.f k l0_0).bind fun bt366 => (if bt359.2.2.isNone = true then (surtitlelaw13_LaneLaid.j0 k bt359.1 bt366.2 (decide (bt359.2.1 > 8)) l0_0 bt366.1) else (surtitlelaw13_LaneLaid.j0 k bt359.1 bt366.2 true l0_0 bt366.1)))
def surtitlelaw13_LaneLaid.T15 : Bool × List (List Nat × List Nat) := (true, [([], []), ([], []), ([1], [1]), ([], []), ([2, 3], [2, 3]), ([4], [4]), ([0, 5], [0, 5]), ([6], [6])])
def surtitlelaw13_LaneLaid.B15 : List Nat := [0, 0, 2, 0, 14, 30, 63, 127]
theorem surtitlelaw13_LaneLaid.tab15 : rtab .any (opsOf Try.f3 15) = surtitlelaw13_LaneLaid.T15 := by kernel_rfl
theorem surtitlelaw13_LaneLaid.bits15 : waitsOk surtitlelaw13_LaneLaid.T15.2 surtitlelaw13_LaneLaid.B15 = true := by kernel_rfl
set_option maxHeartbeats 8000000 in
set_option maxRecDepth 100000 in
theorem surtitlelaw13_LaneLaid.calls (k : Nat) (A0_0 : Option Addr) (c0_0 : Nat) (l0_0 : List (S41)) (r : Bool) (w : World) (hr0_0 : Kd.C k41 w A0_0 l0_0.length l0_0) (hc0_0 : l0_0.length ≤ c0_0) (h : surtitlelaw13_LaneLaid.f k l0_0 = some r) :
  Calls Try.prog 3 #[.agg #[.slice A0_0 l0_0.length c0_0]] w fun e w' => e = .returned (.bool r) ∧ Below w.heap.size w w' := by
 have hu24 := Try.underlying24
 have hu41 := Try.underlying41
 have hu27 := Try.underlying27
 have hu69 := Try.underlying69
 have HR0_0 := Aside0.mk hr0_0
 have HC0_0 := Aside0.mk hc0_0
 clear hr0_0 hc0_0
 have HB := Aside0.mk (Below.refl w.heap.size w)
 have H : ((lane_Lanes.f k l0_0).bind fun bt359 => ((lane_Lay.f k l0_0).bind fun bt366 => (if bt359.2.2.isNone = true then (surtitlelaw13_LaneLaid.j0 k bt359.1 bt366.2 (decide (bt359.2.1 > 8)) l0_0 bt366.1) else (surtitlelaw13_LaneLaid.j0 k bt359.1 bt366.2 true l0_0 bt366.1)))) = some r := h
 clear h
 replace H := Option.bind_eq_some_iff.mp H
 obtain ⟨⟨t359, t362, t363⟩, A20, H⟩ := H
 (try dsimp only at H)
 have A2 := Aside0.mk A20
 clear A20
 replace H := Option.bind_eq_some_iff.mp H
 obtain ⟨⟨t366, t369⟩, A30, H⟩ := H
 (try dsimp only at H)
 have A3 := Aside0.mk A30
 clear A30
 have HC4 := Aside0.mk H
 clear H
 go_enter Try.func3, Try.ntmps3
 go_upto_region 3 with (first | ((with_reducible refine gate_dst (N := 1) rfl ?_); (try (refine gate_guard (by rfl) ?_; dsimp only)); refine box_event (by rfl) (N := 1) (by rfl) (cs := #[.slice A0_0 l0_0.length c0_0]) (t := 24) (by first | (go_simp; done) | (go_simp; rfl)) ?_; intro gb358 hg w5 hbox hb; obtain ⟨hb_, hw_⟩ := box_facts (by repeat (first | (with_reducible first | exact HB.out | apply l1 | apply l2 | apply l3) | exact HB.out)) hg hb; have n0_ := Aside0.mk (hb_); have n1_ := Aside0.mk (hbox); have n2_ := Aside0.mk (hw_); have n3_ := Aside0.mk (hw_); clear HB; have HB := n0_; have BK358 := n1_; have GW358 := n2_; have GE358 := n3_; clear n0_ n1_ n2_ n3_; clear hb hbox hg hb_ hw_; obtain ⟨hcz6_0, hfz6_0⟩ := blk_cells1 BK358.out) | ((with_reducible refine gate_callee (f := 9) rfl ?_); refine goesL_ (some 14) rfl rfl Try.func9 (by kernel_rfl) rfl #[.agg #[.slice A0_0 l0_0.length c0_0]] rfl (by (try simp only [List.map_toArray, List.map_cons, List.map_nil]); first | done | rfl | (simp only [List.length_drop, List.length_take]; rfl)) ?_; (with_reducible refine (lane_Lanes.calls k _ _ l0_0 t359 t362 t363 _ ?side1 ?side2 A2.out).mono ?_); (case side1 => repeat (first | exact (Kd.C_below HR0_0.out HB.out) | (with_reducible refine Kd.C_alloc ?_ _) | (with_reducible refine Kd.C_drewN ?_ _) | (with_reducible refine Kd.C_drew ?_))); (case side2 => exact HC0_0.out); rintro e w7 ⟨v360, v364, rfl, ho0, he0, hb⟩; refine ⟨_, rfl, ?_⟩; have HE365 := Aside0.mk he0; clear he0; have n0_ := Aside0.mk (Kd.R_lower ho0 (below_size (by repeat (first | (with_reducible first | exact HB.out | apply l1 | apply l2 | apply l3 | refine below_set ?_ GE358.out) | exact HB.out)))); have n1_ := Aside0.mk (blk_below (by (with_reducible repeat (first | apply b1 | apply b2 | apply b3)); exact BK358.out) hb); have n2_ := Aside0.mk (below_step (by repeat (first | (with_reducible first | exact HB.out | apply l1 | apply l2 | apply l3 | refine below_set ?_ GE358.out) | exact HB.out)) hb); clear BK358; clear HB; have HO361 := n0_; have BK358 := n1_; have HB := n2_; clear n0_ n1_ n2_; (try clear hb); (try clear hb2); (try clear hk); (try clear hi); (try clear ho0); obtain ⟨hcz8_0, hfz8_0⟩ := blk_cells1 BK358.out) | ((with_reducible refine gate_callee (f := 10) rfl ?_); refine goesL_ (some 20) rfl rfl Try.func10 (by kernel_rfl) rfl #[.agg #[.slice A0_0 l0_0.length c0_0]] rfl (by (try simp only [List.map_toArray, List.map_cons, List.map_nil]); first | done | rfl | (simp only [List.length_drop, List.length_take]; rfl)) ?_; (with_reducible refine (lane_Lay.calls k _ _ l0_0 t366 t369 _ ?side1 ?side2 A3.out).mono ?_); (case side1 => repeat (first | exact (Kd.C_below HR0_0.out HB.out) | (with_reducible refine Kd.C_alloc ?_ _) | (with_reducible refine Kd.C_drewN ?_ _) | (with_reducible refine Kd.C_drew ?_))); (case side2 => exact HC0_0.out); rintro e w9 ⟨v367, v370, rfl, ho0, he0, hb⟩; refine ⟨_, rfl, ?_⟩; have HE371 := Aside0.mk he0; clear he0; have n0_ := Aside0.mk (Kd.R_below (by (with_reducible repeat (first | apply Kd.R_alloc | apply Kd.R_drewN | apply Kd.R_drew)); exact HO361.out) hb); have n1_ := Aside0.mk (Kd.S_lower ho0 (below_size (by repeat (first | (with_reducible first | exact HB.out | apply l1 | apply l2 | apply l3 | refine below_set ?_ GE358.out) | exact HB.out)))); have n2_ := Aside0.mk (blk_below (by (with_reducible repeat (first | apply b1 | apply b2 | apply b3)); exact BK358.out) hb); have n3_ := Aside0.mk (below_step (by repeat (first | (with_reducible first | exact HB.out | apply l1 | apply l2 | apply l3 | refine below_set ?_ GE358.out) | exact HB.out)) hb); clear HO361; clear BK358; clear HB; have HO361 := n0_; have HO368 := n1_; have BK358 := n2_; have HB := n3_; clear n0_ n1_ n2_ n3_; (try clear hb); (try clear hb2); (try clear hk); (try clear hi); (try clear ho0)) | ((with_reducible refine gate_dst (N := 6) rfl ?_); (try (refine gate_guard (by rfl) ?_; dsimp only)); refine box_event (by rfl) (N := 6) (by rfl) (cs := #[.slice none 0 0]) (t := 24) (by first | (go_simp; done) | (go_simp; rfl)) ?_; intro gb372 hg w10 hbox hb; obtain ⟨hb_, hw_⟩ := box_facts (by repeat (first | (with_reducible first | exact HB.out | apply l1 | apply l2 | apply l3 | refine below_set ?_ GE358.out) | exact HB.out)) hg hb; have n0_ := Aside0.mk (Kd.R_below (by (with_reducible repeat (first | apply Kd.R_alloc | apply Kd.R_drewN | apply Kd.R_drew)); exact HO361.out) hb); have n1_ := Aside0.mk (Kd.S_below (by (with_reducible repeat (first | apply Kd.S_alloc | apply Kd.S_drewN | apply Kd.S_drew)); exact HO368.out) hb); have n2_ := Aside0.mk (blk_below (by (with_reducible repeat (first | apply b1 | apply b2 | apply b3)); exact BK358.out) hb); have n3_ := Aside0.mk (hb_); have n4_ := Aside0.mk (hbox); have n5_ := Aside0.mk (hw_); have n6_ := Aside0.mk (hw_); have n7_ := Aside0.mk ((by rw [hg]; exact Nat.ne_of_lt (blk_lt (by (with_reducible repeat (first | apply b1 | apply b2 | apply b3)); exact BK358.out)) : gb358 ≠ gb372)); have n8_ := Aside0.mk ((by rw [hg]; exact Nat.ne_of_gt (blk_lt (by (with_reducible repeat (first | apply b1 | apply b2 | apply b3)); exact BK358.out)) : gb372 ≠ gb358)); clear HO361; clear HO368; clear BK358; clear HB; have HO361 := n0_; have HO368 := n1_; have BK358 := n2_; have HB := n3_; have BK372 := n4_; have GW372 := n5_; have GE372 := n6_; have NB358_372 := n7_; have NB372_358 := n8_; clear n0_ n1_ n2_ n3_ n4_ n5_ n6_ n7_ n8_; clear hb hbox hg hb_ hw_; obtain ⟨Ao11, co11, eo11⟩ := Kd.S_slice HO368.out; subst eo11; have hnb12 := NB372_358.out; have hnc12 := NB358_372.out; obtain ⟨hcz13_0, hfz13_0⟩ := blk_cells1 BK372.out))
 (try simp only [Act.put, List.setIfInBounds_toArray, List.set_cons_zero, List.set_cons_succ])
 go_cut [28] (fun v28 wc => ∃ (kq : Nat) (x28_3 : Bool), v28 = .bool x28_3 ∧ Aside0 (surtitlelaw13_LaneLaid.j0 kq t359 t369 x28_3 l0_0 t366 = some r) ∧ Aside0 (kq ≤ k) ∧ Aside0 (Kd.R (Kd.int .i64) 3 wc w.heap.size (fun _ => True) v360 t359) ∧ Aside0 (Kd.S k41 41 wc w.heap.size (fun _ => True) (.slice Ao11 t366.length co11) t366) ∧ Aside0 (wc.heap[gb358]? = some (.cells #[(.slice A0_0 l0_0.length c0_0)] 24 (0, 0))) ∧ Aside0 (wc.heap[gb372]? = some (.cells #[(.slice Ao11 t366.length co11)] 24 (0, 0))) ∧ Aside0 (Below w.heap.size w wc))
 case first =>
  have H := HC4.out
  clear HC4
  rcases t363 with _ | q373
  ·rw [if_pos (show (none : Option (Int × Int)).isNone = true by rfl)] at H
   (try dsimp only [Option.getD] at H)
   (try (obtain rfl := EV_none HE365.out))
   have H' := Aside0.mk H
   clear H
   go_wp2
   go_meet
   case rel => exact ⟨_, (decide (t362 > 8)), (by first | rfl | (simp; done) | (simp [*]; done)), H', ⟨by first | omega | exact Nat.le_refl _⟩, ⟨by (with_reducible repeat (first | apply Kd.R_alloc | apply Kd.R_drewN | apply Kd.R_drew)); exact Kd.R_mono (Kd.R_far (p := ⟨gb372, 0, none⟩) (Kd.R_types HO361.out BK372.out (by decide)) (fun _ hk => hk.2) (.slice Ao11 t366.length co11)) (fun _ hk => trivial)⟩, ⟨by (with_reducible repeat (first | apply Kd.S_alloc | apply Kd.S_drewN | apply Kd.S_drew)); exact Kd.S_mono (Kd.S_far (p := ⟨gb372, 0, none⟩) (Kd.S_types HO368.out BK372.out (by decide)) (fun _ hk => hk.2) (.slice Ao11 t366.length co11)) (fun _ hk => trivial)⟩, ⟨by (with_reducible repeat (first | apply b1 | apply b2 | apply b3)); refine blk_far ?_ NB358_372.out _; (with_reducible repeat (first | apply b1 | apply b2 | apply b3)); exact BK358.out⟩, ⟨by (with_reducible repeat (first | apply b1 | apply b2 | apply b3)); refine blk_put (cs := #[.slice none 0 0]) ?_ 0 _ rfl; (with_reducible repeat (first | apply b1 | apply b2 | apply b3)); exact BK372.out⟩, ⟨by repeat (first | (with_reducible first | exact HB.out | apply l1 | apply l2 | apply l3 | refine below_set ?_ GE358.out | refine below_set ?_ GE372.out) | exact HB.out)⟩⟩
  ·rw [if_neg (show ¬ (some q373).isNone = true by simp)] at H
   (try dsimp only [Option.getD] at H)
   (try (obtain ⟨ev364, rfl⟩ := EV_some HE365.out))
   have H' := Aside0.mk H
   clear H
   go_wp2
   go_meet
   case rel => exact ⟨_, (true), (by first | rfl | (simp; done) | (simp [*]; done)), H', ⟨by first | omega | exact Nat.le_refl _⟩, ⟨by (with_reducible repeat (first | apply Kd.R_alloc | apply Kd.R_drewN | apply Kd.R_drew)); exact Kd.R_mono (Kd.R_far (p := ⟨gb372, 0, none⟩) (Kd.R_types HO361.out BK372.out (by decide)) (fun _ hk => hk.2) (.slice Ao11 t366.length co11)) (fun _ hk => trivial)⟩, ⟨by (with_reducible repeat (first | apply Kd.S_alloc | apply Kd.S_drewN | apply Kd.S_drew)); exact Kd.S_mono (Kd.S_far (p := ⟨gb372, 0, none⟩) (Kd.S_types HO368.out BK372.out (by decide)) (fun _ hk => hk.2) (.slice Ao11 t366.length co11)) (fun _ hk => trivial)⟩, ⟨by (with_reducible repeat (first | apply b1 | apply b2 | apply b3)); refine blk_far ?_ NB358_372.out _; (with_reducible repeat (first | apply b1 | apply b2 | apply b3)); exact BK358.out⟩, ⟨by (with_reducible repeat (first | apply b1 | apply b2 | apply b3)); refine blk_put (cs := #[.slice none 0 0]) ?_ 0 _ rfl; (with_reducible repeat (first | apply b1 | apply b2 | apply b3)); exact BK372.out⟩, ⟨by repeat (first | (with_reducible first | exact HB.out | apply l1 | apply l2 | apply l3 | refine below_set ?_ GE358.out | refine below_set ?_ GE372.out) | exact HB.out)⟩⟩
 case rest =>
  clear HC4
  try clear c1
  try clear p2
  try clear c3
  try clear q3
  try clear c9
  try clear c10
  try clear c12
  try clear hcz13_0
  try clear hcz6_0
  try clear hcz8_0
  try clear hfz13_0
  try clear hfz6_0
  try clear hfz8_0
  try clear q373
  obtain ⟨kq, x28_3, rfl, HA, HJ3, HO_3, HO_373000, BK358, BK372, HB⟩ := hcut
  cases kq with
  | zero => exact absurd HA.out (by simp [surtitlelaw13_LaneLaid.j0])
  | succ kj3 =>
   have H := HA.out
   clear HA
   simp only [surtitlelaw13_LaneLaid.j0] at H
   by_cases c14 : x28_3 = true
   ·subst c14
    have H1 : (if t369.isNone = true then (some false) else (if (t366.length : Int) = 0 then ((surtitlelaw13_head.f kj3).bind fun t375 => (some t375)) else (some false))) = some r := by rw [if_pos rfl] at H; exact H
    clear H
    have H := H1
    clear H1
    rcases t369 with _ | q374
    ·rw [if_pos (show (none : Option (Int × Int)).isNone = true by rfl)] at H
     (try dsimp only [Option.getD] at H)
     (try (obtain rfl := EV_none HE371.out))
     obtain rfl := Option.some.inj H
     go_wp2
     go_ret
     exact ⟨by first | rfl | (simp [errW_none, errW_some] <;> rfl) | (simp [*, errW_none, errW_some] <;> rfl), by repeat (first | (with_reducible first | exact HB.out | apply l1 | apply l2 | apply l3 | refine below_set ?_ GE358.out | refine below_set ?_ GE372.out) | exact HB.out)⟩
    ·rw [if_neg (show ¬ (some q374).isNone = true by simp)] at H
     (try dsimp only [Option.getD] at H)
     (try (obtain ⟨ev370, rfl⟩ := EV_some HE371.out))
     by_cases c15 : (t366.length : Int) = 0
     ·rw [if_pos c15] at H
      have c15b0 : ((t366.length : Int) == 0) = true := beq_iff_eq.mpr c15
      have c15b1 : ((t366.length : Int) != 0) = false := bne_eq_false_iff_eq.mpr c15
      clear c15
      replace H := Option.bind_eq_some_iff.mp H
      obtain ⟨t375, A160, H⟩ := H
      (try dsimp only at H)
      have A16 := Aside0.mk A160
      clear A160
      obtain rfl := Option.some.inj H
      have hnb17 := NB372_358.out
      have hnc17 := NB358_372.out
      obtain ⟨hcz18_0, hfz18_0⟩ := blk_cells1 BK372.out
      go_wp2_with (first | (go_at_call 11; (with_reducible refine (surtitlelaw13_head.calls kj3  t375 _ A16.out).mono ?_); rintro e w19 ⟨rfl, hb⟩; have n0_ := Aside0.mk (Kd.R_below (by (with_reducible repeat (first | apply Kd.R_alloc | apply Kd.R_drewN | apply Kd.R_drew)); exact HO_3.out) hb); have n1_ := Aside0.mk (Kd.S_below (by (with_reducible repeat (first | apply Kd.S_alloc | apply Kd.S_drewN | apply Kd.S_drew)); exact HO_373000.out) hb); have n2_ := Aside0.mk (blk_below (by (with_reducible repeat (first | apply b1 | apply b2 | apply b3)); exact BK358.out) hb); have n3_ := Aside0.mk (blk_below (by (with_reducible repeat (first | apply b1 | apply b2 | apply b3)); exact BK372.out) hb); have n4_ := Aside0.mk (below_step (by repeat (first | (with_reducible first | exact HB.out | apply l1 | apply l2 | apply l3 | refine below_set ?_ GE358.out | refine below_set ?_ GE372.out) | exact HB.out)) hb); clear HO_3; clear HO_373000; clear BK358; clear BK372; clear HB; have HO_3 := n0_; have HO_373000 := n1_; have BK358 := n2_; have BK372 := n3_; have HB := n4_; clear n0_ n1_ n2_ n3_ n4_; (try clear hb); (try clear hb2); (try clear hk); (try clear hi)))
      go_ret
      exact ⟨by first | rfl | (simp [errW_none, errW_some] <;> rfl) | (simp [*, errW_none, errW_some] <;> rfl), by repeat (first | (with_reducible first | exact HB.out | apply l1 | apply l2 | apply l3 | refine below_set ?_ GE358.out | refine below_set ?_ GE372.out) | exact HB.out)⟩
     ·rw [if_neg c15] at H
      have c15b0 : ((t366.length : Int) == 0) = false := beq_eq_false_iff_ne.mpr c15
      have c15b1 : ((t366.length : Int) != 0) = true := bne_iff_ne.mpr c15
      have c15b2 : ¬ (t366 = []) := fun h_ => c15 (by rw [h_]; rfl)
      obtain rfl := Option.some.inj H
      have hnb20 := NB372_358.out
      have hnc20 := NB358_372.out
      obtain ⟨hcz21_0, hfz21_0⟩ := blk_cells1 BK372.out
      go_wp2
      go_ret
      exact ⟨by first | rfl | (simp [errW_none, errW_some] <;> rfl) | (simp [*, errW_none, errW_some] <;> rfl), by repeat (first | (with_reducible first | exact HB.out | apply l1 | apply l2 | apply l3 | refine below_set ?_ GE358.out | refine below_set ?_ GE372.out) | exact HB.out)⟩
   ·replace c14 := Bool.eq_false_iff.mpr c14
    subst c14
    have H1 : ((lane_Lay.f kj3 t366).bind fun bt376 => (if t369.isNone = true then (if bt376.2.isNone = true then ((surtitlelaw13_SameDoc.f kj3 t366 bt376.1).bind fun t385 => (if t385 = true then ((cue_CheckDoc.f kj3 t366).bind fun t386 => (if t386.isNone = true then (surtitlelaw13_LaneLaid.j1 kj3 t359 ((t366.length : Int) != (l0_0.length : Int)) l0_0 t366) else (surtitlelaw13_LaneLaid.j1 kj3 t359 true l0_0 t366))) else (surtitlelaw13_LaneLaid.j1 kj3 t359 true l0_0 t366))) else (surtitlelaw13_LaneLaid.j1 kj3 t359 true l0_0 t366)) else (surtitlelaw13_LaneLaid.j1 kj3 t359 true l0_0 t366))) = some r := by rw [if_neg (show ¬ (false = true) by decide)] at H; exact H
    clear H
    have H := H1
    clear H1
    replace H := Option.bind_eq_some_iff.mp H
    obtain ⟨⟨t376, t379⟩, A220, H⟩ := H
    (try dsimp only at H)
    have A22 := Aside0.mk A220
    clear A220
    have HC23 := Aside0.mk H
    clear H
    have hnb24 := NB372_358.out
    have hnc24 := NB358_372.out
    obtain ⟨hcz25_0, hfz25_0⟩ := blk_cells1 BK372.out
    go_upto_region 6 with (first | ((with_reducible refine gate_callee (f := 10) rfl ?_); refine goesL_ (some 42) rfl rfl Try.func10 (by kernel_rfl) rfl #[.agg #[.slice Ao11 t366.length co11]] rfl (by (try simp only [List.map_toArray, List.map_cons, List.map_nil]); first | done | rfl | (simp only [List.length_drop, List.length_take]; rfl)) ?_; (with_reducible refine (lane_Lay.calls kj3 _ _ t366 t376 t379 _ ?side1 ?side2 A22.out).mono ?_); (case side1 => repeat (first | exact (Kd.S_reads' HO_373000.out).2.2 | (with_reducible refine Kd.C_alloc ?_ _) | (with_reducible refine Kd.C_drewN ?_ _) | (with_reducible refine Kd.C_drew ?_))); (case side2 => exact (Kd.S_reads' HO_373000.out).2.1); rintro e w26 ⟨v377, v380, rfl, ho0, he0, hb⟩; refine ⟨_, rfl, ?_⟩; have HE381 := Aside0.mk he0; clear he0; have n0_ := Aside0.mk (Kd.R_below (by (with_reducible repeat (first | apply Kd.R_alloc | apply Kd.R_drewN | apply Kd.R_drew)); exact HO_3.out) hb); have n1_ := Aside0.mk (Kd.S_elder' (by (with_reducible repeat (first | apply Kd.S_alloc | apply Kd.S_drewN | apply Kd.S_drew)); exact HO_373000.out) (Kd.S_base ho0) hb); have n2_ := Aside0.mk (Kd.S_lower (Kd.S_new' ho0 (Kd.S_lt (by (with_reducible repeat (first | apply Kd.S_alloc | apply Kd.S_drewN | apply Kd.S_drew)); exact HO_373000.out))) (below_size (by repeat (first | (with_reducible first | exact HB.out | apply l1 | apply l2 | apply l3 | refine below_set ?_ GE358.out | refine below_set ?_ GE372.out) | exact HB.out)))); have n3_ := Aside0.mk (blk_below (by (with_reducible repeat (first | apply b1 | apply b2 | apply b3)); exact BK358.out) hb); have n4_ := Aside0.mk (blk_below (by (with_reducible repeat (first | apply b1 | apply b2 | apply b3)); exact BK372.out) hb); have n5_ := Aside0.mk (below_step (by repeat (first | (with_reducible first | exact HB.out | apply l1 | apply l2 | apply l3 | refine below_set ?_ GE358.out | refine below_set ?_ GE372.out) | exact HB.out)) hb); clear HO_3; clear HO_373000; clear BK358; clear BK372; clear HB; have HO_3 := n0_; have HO_373000 := n1_; have HO378 := n2_; have BK358 := n3_; have BK372 := n4_; have HB := n5_; clear n0_ n1_ n2_ n3_ n4_ n5_; (try clear hb); (try clear hb2); (try clear hk); (try clear hi); (try clear ho0)) | ((with_reducible refine gate_dst (N := 8) rfl ?_); (try (refine gate_guard (by rfl) ?_; dsimp only)); refine box_event (by rfl) (N := 8) (by rfl) (cs := #[.slice none 0 0]) (t := 24) (by first | (go_simp; done) | (go_simp; rfl)) ?_; intro gb382 hg w27 hbox hb; obtain ⟨hb_, hw_⟩ := box_facts (by repeat (first | (with_reducible first | exact HB.out | apply l1 | apply l2 | apply l3 | refine below_set ?_ GE358.out | refine below_set ?_ GE372.out) | exact HB.out)) hg hb; have n0_ := Aside0.mk (Kd.R_below (by (with_reducible repeat (first | apply Kd.R_alloc | apply Kd.R_drewN | apply Kd.R_drew)); exact HO_3.out) hb); have n1_ := Aside0.mk (Kd.S_below (by (with_reducible repeat (first | apply Kd.S_alloc | apply Kd.S_drewN | apply Kd.S_drew)); exact HO_373000.out) hb); have n2_ := Aside0.mk (Kd.S_below (by (with_reducible repeat (first | apply Kd.S_alloc | apply Kd.S_drewN | apply Kd.S_drew)); exact HO378.out) hb); have n3_ := Aside0.mk (blk_below (by (with_reducible repeat (first | apply b1 | apply b2 | apply b3)); exact BK358.out) hb); have n4_ := Aside0.mk (blk_below (by (with_reducible repeat (first | apply b1 | apply b2 | apply b3)); exact BK372.out) hb); have n5_ := Aside0.mk (hb_); have n6_ := Aside0.mk (hbox); have n7_ := Aside0.mk (hw_); have n8_ := Aside0.mk (hw_); have n9_ := Aside0.mk ((by rw [hg]; exact Nat.ne_of_lt (blk_lt (by (with_reducible repeat (first | apply b1 | apply b2 | apply b3)); exact BK358.out)) : gb358 ≠ gb382)); have n10_ := Aside0.mk ((by rw [hg]; exact Nat.ne_of_gt (blk_lt (by (with_reducible repeat (first | apply b1 | apply b2 | apply b3)); exact BK358.out)) : gb382 ≠ gb358)); have n11_ := Aside0.mk ((by rw [hg]; exact Nat.ne_of_lt (blk_lt (by (with_reducible repeat (first | apply b1 | apply b2 | apply b3)); exact BK372.out)) : gb372 ≠ gb382)); have n12_ := Aside0.mk ((by rw [hg]; exact Nat.ne_of_gt (blk_lt (by (with_reducible repeat (first | apply b1 | apply b2 | apply b3)); exact BK372.out)) : gb382 ≠ gb372)); clear HO_3; clear HO_373000; clear HO378; clear BK358; clear BK372; clear HB; have HO_3 := n0_; have HO_373000 := n1_; have HO378 := n2_; have BK358 := n3_; have BK372 := n4_; have HB := n5_; have BK382 := n6_; have GW382 := n7_; have GE382 := n8_; have NB358_382 := n9_; have NB382_358 := n10_; have NB372_382 := n11_; have NB382_372 := n12_; clear n0_ n1_ n2_ n3_ n4_ n5_ n6_ n7_ n8_ n9_ n10_ n11_ n12_; clear hb hbox hg hb_ hw_; obtain ⟨Ao28, co28, eo28⟩ := Kd.S_slice HO378.out; subst eo28; have hnb29 := NB382_358.out; have hnc29 := NB358_382.out; have hnb30 := NB382_372.out; have hnc30 := NB372_382.out; obtain ⟨hcz31_0, hfz31_0⟩ := blk_cells1 BK382.out))
    (try simp only [Act.put, List.setIfInBounds_toArray, List.set_cons_zero, List.set_cons_succ])
    go_cut [70] (fun v70 wc => ∃ (kq : Nat) (x70_22 : Bool), v70 = .bool x70_22 ∧ Aside0 (surtitlelaw13_LaneLaid.j1 kq t359 x70_22 l0_0 t366 = some r) ∧ Aside0 (kq ≤ kj3) ∧ Aside0 (Kd.R (Kd.int .i64) 3 wc w.heap.size (fun _ => True) v360 t359) ∧ Aside0 (Kd.S k41 41 wc w.heap.size (fun k_ => some k_ ≠ ((.slice Ao28 t376.length co28) : Value).ownBlock) (.slice Ao11 t366.length co11) t366) ∧ Aside0 (Kd.S k41 41 wc w.heap.size (fun k_ => some k_ ≠ ((.slice Ao11 t366.length co11) : Value).ownBlock) (.slice Ao28 t376.length co28) t376) ∧ Aside0 (wc.heap[gb358]? = some (.cells #[(.slice A0_0 l0_0.length c0_0)] 24 (0, 0))) ∧ Aside0 (wc.heap[gb372]? = some (.cells #[(.slice Ao11 t366.length co11)] 24 (0, 0))) ∧ Aside0 (wc.heap[gb382]? = some (.cells #[(.slice Ao28 t376.length co28)] 24 (0, 0))) ∧ Aside0 (Below w.heap.size w wc))
    case first =>
     have H := HC23.out
     clear HC23
     rcases t369 with _ | q383
     ·rw [if_pos (show (none : Option (Int × Int)).isNone = true by rfl)] at H
      (try dsimp only [Option.getD] at H)
      (try (obtain rfl := EV_none HE371.out))
      rcases t379 with _ | q384
      ·rw [if_pos (show (none : Option (Int × Int)).isNone = true by rfl)] at H
       (try dsimp only [Option.getD] at H)
       (try (obtain rfl := EV_none HE381.out))
       replace H := Option.bind_eq_some_iff.mp H
       obtain ⟨t385, A320, H⟩ := H
       (try dsimp only at H)
       have A32 := Aside0.mk A320
       clear A320
       by_cases c33 : t385 = true
       ·subst c33
        have H1 : ((cue_CheckDoc.f kj3 t366).bind fun t386 => (if t386.isNone = true then (surtitlelaw13_LaneLaid.j1 kj3 t359 ((t366.length : Int) != (l0_0.length : Int)) l0_0 t366) else (surtitlelaw13_LaneLaid.j1 kj3 t359 true l0_0 t366))) = some r := by rw [if_pos rfl] at H; exact H
        clear H
        have H := H1
        clear H1
        replace H := Option.bind_eq_some_iff.mp H
        obtain ⟨t386, A340, H⟩ := H
        (try dsimp only at H)
        have A34 := Aside0.mk A340
        clear A340
        rcases t386 with _ | q389
        ·rw [if_pos (show (none : Option (Int × Int)).isNone = true by rfl)] at H
         (try dsimp only [Option.getD] at H)
         (try (obtain rfl := EV_none HE388.out))
         have H' := Aside0.mk H
         clear H
         have hnb35 := NB372_358.out
         have hnc35 := NB358_372.out
         have hnb36 := NB372_382.out
         have hnc36 := NB382_372.out
         obtain ⟨hcz37_0, hfz37_0⟩ := blk_cells1 BK372.out
         have hnb38 := NB382_358.out
         have hnc38 := NB358_382.out
         obtain ⟨hcz39_0, hfz39_0⟩ := blk_cells1 BK382.out
         go_wp2_with (first | (go_at_call 12; (with_reducible refine (surtitlelaw13_SameDoc.calls kj3 _ _ t366 _ _ t376 true _ ?side1 ?side2 ?side3 ?side4 A32.out).mono ?_); (case side1 => refine (Kd.S_reads' (e := 41) (base := w.heap.size) (ok := fun k_ => (True ∧ some k_ ≠ (.slice Ao28 t376.length co28 : Value).ownBlock)) (n := t366.length) (c := co11) ?_).2.2; exact (by (with_reducible repeat (first | apply Kd.S_alloc | apply Kd.S_drewN | apply Kd.S_drew)); exact (Kd.S_mono (Kd.S_far (p := ⟨gb382, 0, none⟩) (Kd.S_types HO_373000.out BK382.out (by decide)) (fun _ hk => hk.2) (.slice Ao28 t376.length co28)) (fun _ h_ => h_.1)))); (case side2 => exact (Kd.S_reads' HO_373000.out).2.1); (case side3 => refine (Kd.S_reads' (e := 41) (base := w.heap.size) (ok := fun k_ => (True ∧ some k_ ≠ (.slice Ao11 t366.length co11 : Value).ownBlock)) (n := t376.length) (c := co28) ?_).2.2; exact (by (with_reducible repeat (first | apply Kd.S_alloc | apply Kd.S_drewN | apply Kd.S_drew)); exact (Kd.S_mono (Kd.S_far (p := ⟨gb382, 0, none⟩) (Kd.S_types HO378.out BK382.out (by decide)) (fun _ hk => hk.2) (.slice Ao28 t376.length co28)) (fun _ h_ => h_.1)))); (case side4 => exact (Kd.S_reads' HO378.out).2.1); rintro e w40 ⟨rfl, hb⟩; have n0_ := Aside0.mk (Kd.R_below (by (with_reducible repeat (first | apply Kd.R_alloc | apply Kd.R_drewN | apply Kd.R_drew)); exact (Kd.R_mono (Kd.R_far (p := ⟨gb382, 0, none⟩) (Kd.R_types HO_3.out BK382.out (by decide)) (fun _ hk => hk.2) (.slice Ao28 t376.length co28)) (fun _ h_ => h_.1))) hb); have n1_ := Aside0.mk (Kd.S_below (by (with_reducible repeat (first | apply Kd.S_alloc | apply Kd.S_drewN | apply Kd.S_drew)); exact (Kd.S_mono (Kd.S_far (p := ⟨gb382, 0, none⟩) (Kd.S_types HO_373000.out BK382.out (by decide)) (fun _ hk => hk.2) (.slice Ao28 t376.length co28)) (fun _ h_ => h_.1))) hb); have n2_ := Aside0.mk (Kd.S_below (by (with_reducible repeat (first | apply Kd.S_alloc | apply Kd.S_drewN | apply Kd.S_drew)); exact (Kd.S_mono (Kd.S_far (p := ⟨gb382, 0, none⟩) (Kd.S_types HO378.out BK382.out (by decide)) (fun _ hk => hk.2) (.slice Ao28 t376.length co28)) (fun _ h_ => h_.1))) hb); have n3_ := Aside0.mk (blk_below (g := gb358) (o := .cells #[.slice A0_0 l0_0.length c0_0] 24 (0, 0)) (by (with_reducible repeat (first | apply b1 | apply b2 | apply b3)); refine blk_far ?_ NB358_382.out _; (with_reducible repeat (first | apply b1 | apply b2 | apply b3)); exact BK358.out) hb); have n4_ := Aside0.mk (blk_below (g := gb372) (o := .cells #[.slice Ao11 t366.length co11] 24 (0, 0)) (by (with_reducible repeat (first | apply b1 | apply b2 | apply b3)); refine blk_far ?_ NB372_382.out _; (with_reducible repeat (first | apply b1 | apply b2 | apply b3)); exact BK372.out) hb); have n5_ := Aside0.mk (blk_below (g := gb382) (o := .cells #[.slice Ao28 t376.length co28] 24 (0, 0)) (by (with_reducible repeat (first | apply b1 | apply b2 | apply b3)); refine blk_put (cs := #[.slice none 0 0]) ?_ 0 _ rfl; (with_reducible repeat (first | apply b1 | apply b2 | apply b3)); exact BK382.out) hb); have n6_ := Aside0.mk (below_step (by repeat (first | (with_reducible first | exact HB.out | apply l1 | apply l2 | apply l3 | refine below_set ?_ GE358.out | refine below_set ?_ GE372.out | refine below_set ?_ GE382.out) | exact HB.out)) hb); clear HO_3; clear HO_373000; clear HO378; clear BK358; clear BK372; clear BK382; clear HB; have HO_3 := n0_; have HO_373000 := n1_; have HO378 := n2_; have BK358 := n3_; have BK372 := n4_; have BK382 := n5_; have HB := n6_; clear n0_ n1_ n2_ n3_ n4_ n5_ n6_; (try clear hb); (try clear hb2); (try clear hk); (try clear hi); obtain ⟨hcz41_0, hfz41_0⟩ := blk_cells1 BK372.out) | (go_at_call 13; (with_reducible refine (cue_CheckDoc.calls kj3 _ _ t366 none _ ?side1 ?side2 A34.out).mono ?_); (case side1 => repeat (first | exact (Kd.S_reads' HO_373000.out).2.2 | (with_reducible refine Kd.C_alloc ?_ _) | (with_reducible refine Kd.C_drewN ?_ _) | (with_reducible refine Kd.C_drew ?_))); (case side2 => exact (Kd.S_reads' HO_373000.out).2.1); rintro e w42 ⟨v387, rfl, he0, hb⟩; obtain rfl := EV_none he0; have n0_ := Aside0.mk (Kd.R_below (by (with_reducible repeat (first | apply Kd.R_alloc | apply Kd.R_drewN | apply Kd.R_drew)); exact HO_3.out) hb); have n1_ := Aside0.mk (Kd.S_below (by (with_reducible repeat (first | apply Kd.S_alloc | apply Kd.S_drewN | apply Kd.S_drew)); exact HO_373000.out) hb); have n2_ := Aside0.mk (Kd.S_below (by (with_reducible repeat (first | apply Kd.S_alloc | apply Kd.S_drewN | apply Kd.S_drew)); exact HO378.out) hb); have n3_ := Aside0.mk (blk_below (by (with_reducible repeat (first | apply b1 | apply b2 | apply b3)); exact BK358.out) hb); have n4_ := Aside0.mk (blk_below (by (with_reducible repeat (first | apply b1 | apply b2 | apply b3)); exact BK372.out) hb); have n5_ := Aside0.mk (blk_below (by (with_reducible repeat (first | apply b1 | apply b2 | apply b3)); exact BK382.out) hb); have n6_ := Aside0.mk (below_step (by repeat (first | (with_reducible first | exact HB.out | apply l1 | apply l2 | apply l3 | refine below_set ?_ GE358.out | refine below_set ?_ GE372.out | refine below_set ?_ GE382.out) | exact HB.out)) hb); clear HO_3; clear HO_373000; clear HO378; clear BK358; clear BK372; clear BK382; clear HB; have HO_3 := n0_; have HO_373000 := n1_; have HO378 := n2_; have BK358 := n3_; have BK372 := n4_; have BK382 := n5_; have HB := n6_; clear n0_ n1_ n2_ n3_ n4_ n5_ n6_; (try clear hb); (try clear hb2); (try clear hk); (try clear hi); obtain ⟨hcz43_0, hfz43_0⟩ := blk_cells1 BK372.out; obtain ⟨hcz44_0, hfz44_0⟩ := blk_cells1 BK358.out))
         go_meet
         case rel => exact ⟨_, (((t366.length : Int) != (l0_0.length : Int))), (by first | rfl | (simp; done) | (simp [*]; done)), H', ⟨by have := HJ3.out; first | omega | exact Nat.le_refl _⟩, ⟨by (with_reducible repeat (first | apply Kd.R_alloc | apply Kd.R_drewN | apply Kd.R_drew)); exact HO_3.out⟩, ⟨by (with_reducible repeat (first | apply Kd.S_alloc | apply Kd.S_drewN | apply Kd.S_drew)); exact Kd.S_mono HO_373000.out (fun _ hk => hk.2)⟩, ⟨by (with_reducible repeat (first | apply Kd.S_alloc | apply Kd.S_drewN | apply Kd.S_drew)); exact Kd.S_mono HO378.out (fun _ hk => hk.2)⟩, ⟨by (with_reducible repeat (first | apply b1 | apply b2 | apply b3)); exact BK358.out⟩, ⟨by (with_reducible repeat (first | apply b1 | apply b2 | apply b3)); exact BK372.out⟩, ⟨by (with_reducible repeat (first | apply b1 | apply b2 | apply b3)); exact BK382.out⟩, ⟨by repeat (first | (with_reducible first | exact HB.out | apply l1 | apply l2 | apply l3 | refine below_set ?_ GE358.out | refine below_set ?_ GE372.out | refine below_set ?_ GE382.out) | exact HB.out)⟩⟩
        ·rw [if_neg (show ¬ (some q389).isNone = true by simp)] at H
         (try dsimp only [Option.getD] at H)
         (try (obtain ⟨ev387, rfl⟩ := EV_some HE388.out))
         have H' := Aside0.mk H
         clear H
         have hnb45 := NB372_358.out
         have hnc45 := NB358_372.out
         have hnb46 := NB372_382.out
         have hnc46 := NB382_372.out
         obtain ⟨hcz47_0, hfz47_0⟩ := blk_cells1 BK372.out
         have hnb48 := NB382_358.out
         have hnc48 := NB358_382.out
         obtain ⟨hcz49_0, hfz49_0⟩ := blk_cells1 BK382.out
         go_wp2_with (first | (go_at_call 12; (with_reducible refine (surtitlelaw13_SameDoc.calls kj3 _ _ t366 _ _ t376 true _ ?side1 ?side2 ?side3 ?side4 A32.out).mono ?_); (case side1 => refine (Kd.S_reads' (e := 41) (base := w.heap.size) (ok := fun k_ => (True ∧ some k_ ≠ (.slice Ao28 t376.length co28 : Value).ownBlock)) (n := t366.length) (c := co11) ?_).2.2; exact (by (with_reducible repeat (first | apply Kd.S_alloc | apply Kd.S_drewN | apply Kd.S_drew)); exact (Kd.S_mono (Kd.S_far (p := ⟨gb382, 0, none⟩) (Kd.S_types HO_373000.out BK382.out (by decide)) (fun _ hk => hk.2) (.slice Ao28 t376.length co28)) (fun _ h_ => h_.1)))); (case side2 => exact (Kd.S_reads' HO_373000.out).2.1); (case side3 => refine (Kd.S_reads' (e := 41) (base := w.heap.size) (ok := fun k_ => (True ∧ some k_ ≠ (.slice Ao11 t366.length co11 : Value).ownBlock)) (n := t376.length) (c := co28) ?_).2.2; exact (by (with_reducible repeat (first | apply Kd.S_alloc | apply Kd.S_drewN | apply Kd.S_drew)); exact (Kd.S_mono (Kd.S_far (p := ⟨gb382, 0, none⟩) (Kd.S_types HO378.out BK382.out (by decide)) (fun _ hk => hk.2) (.slice Ao28 t376.length co28)) (fun _ h_ => h_.1)))); (case side4 => exact (Kd.S_reads' HO378.out).2.1); rintro e w50 ⟨rfl, hb⟩; have n0_ := Aside0.mk (Kd.R_below (by (with_reducible repeat (first | apply Kd.R_alloc | apply Kd.R_drewN | apply Kd.R_drew)); exact (Kd.R_mono (Kd.R_far (p := ⟨gb382, 0, none⟩) (Kd.R_types HO_3.out BK382.out (by decide)) (fun _ hk => hk.2) (.slice Ao28 t376.length co28)) (fun _ h_ => h_.1))) hb); have n1_ := Aside0.mk (Kd.S_below (by (with_reducible repeat (first | apply Kd.S_alloc | apply Kd.S_drewN | apply Kd.S_drew)); exact (Kd.S_mono (Kd.S_far (p := ⟨gb382, 0, none⟩) (Kd.S_types HO_373000.out BK382.out (by decide)) (fun _ hk => hk.2) (.slice Ao28 t376.length co28)) (fun _ h_ => h_.1))) hb); have n2_ := Aside0.mk (Kd.S_below (by (with_reducible repeat (first | apply Kd.S_alloc | apply Kd.S_drewN | apply Kd.S_drew)); exact (Kd.S_mono (Kd.S_far (p := ⟨gb382, 0, none⟩) (Kd.S_types HO378.out BK382.out (by decide)) (fun _ hk => hk.2) (.slice Ao28 t376.length co28)) (fun _ h_ => h_.1))) hb); have n3_ := Aside0.mk (blk_below (g := gb358) (o := .cells #[.slice A0_0 l0_0.length c0_0] 24 (0, 0)) (by (with_reducible repeat (first | apply b1 | apply b2 | apply b3)); refine blk_far ?_ NB358_382.out _; (with_reducible repeat (first | apply b1 | apply b2 | apply b3)); exact BK358.out) hb); have n4_ := Aside0.mk (blk_below (g := gb372) (o := .cells #[.slice Ao11 t366.length co11] 24 (0, 0)) (by (with_reducible repeat (first | apply b1 | apply b2 | apply b3)); refine blk_far ?_ NB372_382.out _; (with_reducible repeat (first | apply b1 | apply b2 | apply b3)); exact BK372.out) hb); have n5_ := Aside0.mk (blk_below (g := gb382) (o := .cells #[.slice Ao28 t376.length co28] 24 (0, 0)) (by (with_reducible repeat (first | apply b1 | apply b2 | apply b3)); refine blk_put (cs := #[.slice none 0 0]) ?_ 0 _ rfl; (with_reducible repeat (first | apply b1 | apply b2 | apply b3)); exact BK382.out) hb); have n6_ := Aside0.mk (below_step (by repeat (first | (with_reducible first | exact HB.out | apply l1 | apply l2 | apply l3 | refine below_set ?_ GE358.out | refine below_set ?_ GE372.out | refine below_set ?_ GE382.out) | exact HB.out)) hb); clear HO_3; clear HO_373000; clear HO378; clear BK358; clear BK372; clear BK382; clear HB; have HO_3 := n0_; have HO_373000 := n1_; have HO378 := n2_; have BK358 := n3_; have BK372 := n4_; have BK382 := n5_; have HB := n6_; clear n0_ n1_ n2_ n3_ n4_ n5_ n6_; (try clear hb); (try clear hb2); (try clear hk); (try clear hi); obtain ⟨hcz51_0, hfz51_0⟩ := blk_cells1 BK372.out) | (go_at_call 13; (with_reducible refine (cue_CheckDoc.calls kj3 _ _ t366 (some q389) _ ?side1 ?side2 A34.out).mono ?_); (case side1 => repeat (first | exact (Kd.S_reads' HO_373000.out).2.2 | (with_reducible refine Kd.C_alloc ?_ _) | (with_reducible refine Kd.C_drewN ?_ _) | (with_reducible refine Kd.C_drew ?_))); (case side2 => exact (Kd.S_reads' HO_373000.out).2.1); rintro e w52 ⟨v387, rfl, he0, hb⟩; obtain ⟨ev387, rfl⟩ := EV_some he0; have n0_ := Aside0.mk (Kd.R_below (by (with_reducible repeat (first | apply Kd.R_alloc | apply Kd.R_drewN | apply Kd.R_drew)); exact HO_3.out) hb); have n1_ := Aside0.mk (Kd.S_below (by (with_reducible repeat (first | apply Kd.S_alloc | apply Kd.S_drewN | apply Kd.S_drew)); exact HO_373000.out) hb); have n2_ := Aside0.mk (Kd.S_below (by (with_reducible repeat (first | apply Kd.S_alloc | apply Kd.S_drewN | apply Kd.S_drew)); exact HO378.out) hb); have n3_ := Aside0.mk (blk_below (by (with_reducible repeat (first | apply b1 | apply b2 | apply b3)); exact BK358.out) hb); have n4_ := Aside0.mk (blk_below (by (with_reducible repeat (first | apply b1 | apply b2 | apply b3)); exact BK372.out) hb); have n5_ := Aside0.mk (blk_below (by (with_reducible repeat (first | apply b1 | apply b2 | apply b3)); exact BK382.out) hb); have n6_ := Aside0.mk (below_step (by repeat (first | (with_reducible first | exact HB.out | apply l1 | apply l2 | apply l3 | refine below_set ?_ GE358.out | refine below_set ?_ GE372.out | refine below_set ?_ GE382.out) | exact HB.out)) hb); clear HO_3; clear HO_373000; clear HO378; clear BK358; clear BK372; clear BK382; clear HB; have HO_3 := n0_; have HO_373000 := n1_; have HO378 := n2_; have BK358 := n3_; have BK372 := n4_; have BK382 := n5_; have HB := n6_; clear n0_ n1_ n2_ n3_ n4_ n5_ n6_; (try clear hb); (try clear hb2); (try clear hk); (try clear hi)))
         go_meet
         case rel => exact ⟨_, (true), (by first | rfl | (simp; done) | (simp [*]; done)), H', ⟨by have := HJ3.out; first | omega | exact Nat.le_refl _⟩, ⟨by (with_reducible repeat (first | apply Kd.R_alloc | apply Kd.R_drewN | apply Kd.R_drew)); exact HO_3.out⟩, ⟨by (with_reducible repeat (first | apply Kd.S_alloc | apply Kd.S_drewN | apply Kd.S_drew)); exact Kd.S_mono HO_373000.out (fun _ hk => hk.2)⟩, ⟨by (with_reducible repeat (first | apply Kd.S_alloc | apply Kd.S_drewN | apply Kd.S_drew)); exact Kd.S_mono HO378.out (fun _ hk => hk.2)⟩, ⟨by (with_reducible repeat (first | apply b1 | apply b2 | apply b3)); exact BK358.out⟩, ⟨by (with_reducible repeat (first | apply b1 | apply b2 | apply b3)); exact BK372.out⟩, ⟨by (with_reducible repeat (first | apply b1 | apply b2 | apply b3)); exact BK382.out⟩, ⟨by repeat (first | (with_reducible first | exact HB.out | apply l1 | apply l2 | apply l3 | refine below_set ?_ GE358.out | refine below_set ?_ GE372.out | refine below_set ?_ GE382.out) | exact HB.out)⟩⟩
       ·replace c33 := Bool.eq_false_iff.mpr c33
        subst c33
        have H1 : (surtitlelaw13_LaneLaid.j1 kj3 t359 true l0_0 t366) = some r := by rw [if_neg (show ¬ (false = true) by decide)] at H; exact H
        clear H
        have H := H1
        clear H1
        have H' := Aside0.mk H
        clear H
        have hnb53 := NB372_358.out
        have hnc53 := NB358_372.out
        have hnb54 := NB372_382.out
        have hnc54 := NB382_372.out
        obtain ⟨hcz55_0, hfz55_0⟩ := blk_cells1 BK372.out
        have hnb56 := NB382_358.out
        have hnc56 := NB358_382.out
        obtain ⟨hcz57_0, hfz57_0⟩ := blk_cells1 BK382.out
        go_wp2_with (first | (go_at_call 12; (with_reducible refine (surtitlelaw13_SameDoc.calls kj3 _ _ t366 _ _ t376 false _ ?side1 ?side2 ?side3 ?side4 A32.out).mono ?_); (case side1 => refine (Kd.S_reads' (e := 41) (base := w.heap.size) (ok := fun k_ => (True ∧ some k_ ≠ (.slice Ao28 t376.length co28 : Value).ownBlock)) (n := t366.length) (c := co11) ?_).2.2; exact (by (with_reducible repeat (first | apply Kd.S_alloc | apply Kd.S_drewN | apply Kd.S_drew)); exact (Kd.S_mono (Kd.S_far (p := ⟨gb382, 0, none⟩) (Kd.S_types HO_373000.out BK382.out (by decide)) (fun _ hk => hk.2) (.slice Ao28 t376.length co28)) (fun _ h_ => h_.1)))); (case side2 => exact (Kd.S_reads' HO_373000.out).2.1); (case side3 => refine (Kd.S_reads' (e := 41) (base := w.heap.size) (ok := fun k_ => (True ∧ some k_ ≠ (.slice Ao11 t366.length co11 : Value).ownBlock)) (n := t376.length) (c := co28) ?_).2.2; exact (by (with_reducible repeat (first | apply Kd.S_alloc | apply Kd.S_drewN | apply Kd.S_drew)); exact (Kd.S_mono (Kd.S_far (p := ⟨gb382, 0, none⟩) (Kd.S_types HO378.out BK382.out (by decide)) (fun _ hk => hk.2) (.slice Ao28 t376.length co28)) (fun _ h_ => h_.1)))); (case side4 => exact (Kd.S_reads' HO378.out).2.1); rintro e w58 ⟨rfl, hb⟩; have n0_ := Aside0.mk (Kd.R_below (by (with_reducible repeat (first | apply Kd.R_alloc | apply Kd.R_drewN | apply Kd.R_drew)); exact (Kd.R_mono (Kd.R_far (p := ⟨gb382, 0, none⟩) (Kd.R_types HO_3.out BK382.out (by decide)) (fun _ hk => hk.2) (.slice Ao28 t376.length co28)) (fun _ h_ => h_.1))) hb); have n1_ := Aside0.mk (Kd.S_below (by (with_reducible repeat (first | apply Kd.S_alloc | apply Kd.S_drewN | apply Kd.S_drew)); exact (Kd.S_mono (Kd.S_far (p := ⟨gb382, 0, none⟩) (Kd.S_types HO_373000.out BK382.out (by decide)) (fun _ hk => hk.2) (.slice Ao28 t376.length co28)) (fun _ h_ => h_.1))) hb); have n2_ := Aside0.mk (Kd.S_below (by (with_reducible repeat (first | apply Kd.S_alloc | apply Kd.S_drewN | apply Kd.S_drew)); exact (Kd.S_mono (Kd.S_far (p := ⟨gb382, 0, none⟩) (Kd.S_types HO378.out BK382.out (by decide)) (fun _ hk => hk.2) (.slice Ao28 t376.length co28)) (fun _ h_ => h_.1))) hb); have n3_ := Aside0.mk (blk_below (g := gb358) (o := .cells #[.slice A0_0 l0_0.length c0_0] 24 (0, 0)) (by (with_reducible repeat (first | apply b1 | apply b2 | apply b3)); refine blk_far ?_ NB358_382.out _; (with_reducible repeat (first | apply b1 | apply b2 | apply b3)); exact BK358.out) hb); have n4_ := Aside0.mk (blk_below (g := gb372) (o := .cells #[.slice Ao11 t366.length co11] 24 (0, 0)) (by (with_reducible repeat (first | apply b1 | apply b2 | apply b3)); refine blk_far ?_ NB372_382.out _; (with_reducible repeat (first | apply b1 | apply b2 | apply b3)); exact BK372.out) hb); have n5_ := Aside0.mk (blk_below (g := gb382) (o := .cells #[.slice Ao28 t376.length co28] 24 (0, 0)) (by (with_reducible repeat (first | apply b1 | apply b2 | apply b3)); refine blk_put (cs := #[.slice none 0 0]) ?_ 0 _ rfl; (with_reducible repeat (first | apply b1 | apply b2 | apply b3)); exact BK382.out) hb); have n6_ := Aside0.mk (below_step (by repeat (first | (with_reducible first | exact HB.out | apply l1 | apply l2 | apply l3 | refine below_set ?_ GE358.out | refine below_set ?_ GE372.out | refine below_set ?_ GE382.out) | exact HB.out)) hb); clear HO_3; clear HO_373000; clear HO378; clear BK358; clear BK372; clear BK382; clear HB; have HO_3 := n0_; have HO_373000 := n1_; have HO378 := n2_; have BK358 := n3_; have BK372 := n4_; have BK382 := n5_; have HB := n6_; clear n0_ n1_ n2_ n3_ n4_ n5_ n6_; (try clear hb); (try clear hb2); (try clear hk); (try clear hi)))
        go_meet
        case rel => exact ⟨_, (true), (by first | rfl | (simp; done) | (simp [*]; done)), H', ⟨by have := HJ3.out; first | omega | exact Nat.le_refl _⟩, ⟨by (with_reducible repeat (first | apply Kd.R_alloc | apply Kd.R_drewN | apply Kd.R_drew)); exact HO_3.out⟩, ⟨by (with_reducible repeat (first | apply Kd.S_alloc | apply Kd.S_drewN | apply Kd.S_drew)); exact Kd.S_mono HO_373000.out (fun _ hk => hk.2)⟩, ⟨by (with_reducible repeat (first | apply Kd.S_alloc | apply Kd.S_drewN | apply Kd.S_drew)); exact Kd.S_mono HO378.out (fun _ hk => hk.2)⟩, ⟨by (with_reducible repeat (first | apply b1 | apply b2 | apply b3)); exact BK358.out⟩, ⟨by (with_reducible repeat (first | apply b1 | apply b2 | apply b3)); exact BK372.out⟩, ⟨by (with_reducible repeat (first | apply b1 | apply b2 | apply b3)); exact BK382.out⟩, ⟨by repeat (first | (with_reducible first | exact HB.out | apply l1 | apply l2 | apply l3 | refine below_set ?_ GE358.out | refine below_set ?_ GE372.out | refine below_set ?_ GE382.out) | exact HB.out)⟩⟩
      ·rw [if_neg (show ¬ (some q384).isNone = true by simp)] at H
       (try dsimp only [Option.getD] at H)
       (try (obtain ⟨ev380, rfl⟩ := EV_some HE381.out))
       have H' := Aside0.mk H
       clear H
       go_wp2
       go_meet
       case rel => exact ⟨_, (true), (by first | rfl | (simp; done) | (simp [*]; done)), H', ⟨by have := HJ3.out; first | omega | exact Nat.le_refl _⟩, ⟨by (with_reducible repeat (first | apply Kd.R_alloc | apply Kd.R_drewN | apply Kd.R_drew)); exact Kd.R_mono (Kd.R_far (p := ⟨gb382, 0, none⟩) (Kd.R_types HO_3.out BK382.out (by decide)) (fun _ hk => hk.2) (.slice Ao28 t376.length co28)) (fun _ hk => trivial)⟩, ⟨by (with_reducible repeat (first | apply Kd.S_alloc | apply Kd.S_drewN | apply Kd.S_drew)); exact Kd.S_mono (Kd.S_far (p := ⟨gb382, 0, none⟩) (Kd.S_types HO_373000.out BK382.out (by decide)) (fun _ hk => hk.2) (.slice Ao28 t376.length co28)) (fun _ hk => hk.1.2)⟩, ⟨by (with_reducible repeat (first | apply Kd.S_alloc | apply Kd.S_drewN | apply Kd.S_drew)); exact Kd.S_mono (Kd.S_far (p := ⟨gb382, 0, none⟩) (Kd.S_types HO378.out BK382.out (by decide)) (fun _ hk => hk.2) (.slice Ao28 t376.length co28)) (fun _ hk => hk.1.2)⟩, ⟨by (with_reducible repeat (first | apply b1 | apply b2 | apply b3)); refine blk_far ?_ NB358_382.out _; (with_reducible repeat (first | apply b1 | apply b2 | apply b3)); exact BK358.out⟩, ⟨by (with_reducible repeat (first | apply b1 | apply b2 | apply b3)); refine blk_far ?_ NB372_382.out _; (with_reducible repeat (first | apply b1 | apply b2 | apply b3)); exact BK372.out⟩, ⟨by (with_reducible repeat (first | apply b1 | apply b2 | apply b3)); refine blk_put (cs := #[.slice none 0 0]) ?_ 0 _ rfl; (with_reducible repeat (first | apply b1 | apply b2 | apply b3)); exact BK382.out⟩, ⟨by repeat (first | (with_reducible first | exact HB.out | apply l1 | apply l2 | apply l3 | refine below_set ?_ GE358.out | refine below_set ?_ GE372.out | refine below_set ?_ GE382.out) | exact HB.out)⟩⟩
     ·rw [if_neg (show ¬ (some q383).isNone = true by simp)] at H
      (try dsimp only [Option.getD] at H)
      (try (obtain ⟨ev370, rfl⟩ := EV_some HE371.out))
      have H' := Aside0.mk H
      clear H
      go_wp2
      go_meet
      case rel => exact ⟨_, (true), (by first | rfl | (simp; done) | (simp [*]; done)), H', ⟨by have := HJ3.out; first | omega | exact Nat.le_refl _⟩, ⟨by (with_reducible repeat (first | apply Kd.R_alloc | apply Kd.R_drewN | apply Kd.R_drew)); exact Kd.R_mono (Kd.R_far (p := ⟨gb382, 0, none⟩) (Kd.R_types HO_3.out BK382.out (by decide)) (fun _ hk => hk.2) (.slice Ao28 t376.length co28)) (fun _ hk => trivial)⟩, ⟨by (with_reducible repeat (first | apply Kd.S_alloc | apply Kd.S_drewN | apply Kd.S_drew)); exact Kd.S_mono (Kd.S_far (p := ⟨gb382, 0, none⟩) (Kd.S_types HO_373000.out BK382.out (by decide)) (fun _ hk => hk.2) (.slice Ao28 t376.length co28)) (fun _ hk => hk.1.2)⟩, ⟨by (with_reducible repeat (first | apply Kd.S_alloc | apply Kd.S_drewN | apply Kd.S_drew)); exact Kd.S_mono (Kd.S_far (p := ⟨gb382, 0, none⟩) (Kd.S_types HO378.out BK382.out (by decide)) (fun _ hk => hk.2) (.slice Ao28 t376.length co28)) (fun _ hk => hk.1.2)⟩, ⟨by (with_reducible repeat (first | apply b1 | apply b2 | apply b3)); refine blk_far ?_ NB358_382.out _; (with_reducible repeat (first | apply b1 | apply b2 | apply b3)); exact BK358.out⟩, ⟨by (with_reducible repeat (first | apply b1 | apply b2 | apply b3)); refine blk_far ?_ NB372_382.out _; (with_reducible repeat (first | apply b1 | apply b2 | apply b3)); exact BK372.out⟩, ⟨by (with_reducible repeat (first | apply b1 | apply b2 | apply b3)); refine blk_put (cs := #[.slice none 0 0]) ?_ 0 _ rfl; (with_reducible repeat (first | apply b1 | apply b2 | apply b3)); exact BK382.out⟩, ⟨by repeat (first | (with_reducible first | exact HB.out | apply l1 | apply l2 | apply l3 | refine below_set ?_ GE358.out | refine below_set ?_ GE372.out | refine below_set ?_ GE382.out) | exact HB.out)⟩⟩
    case rest =>
     clear HC23
     try clear c1
     try clear c2
     try clear p2
     try clear c3
     try clear q3
     try clear c4
     try clear c5
     try clear c9
     try clear c10
     try clear c12
     try clear c14
     try clear c15
     try clear c15b0
     try clear c15b1
     try clear c15b2
     try clear c17
     try clear c20
     try clear c24
     try clear c29
     try clear c30
     try clear c33
     try clear c35
     try clear c36
     try clear q37
     try clear c38
     try clear q38
     try clear c45
     try clear c46
     try clear c48
     try clear c53
     try clear c54
     try clear c56
     try clear hcz13_0
     try clear hcz18_0
     try clear hcz21_0
     try clear hcz25_0
     try clear hcz31_0
     try clear hcz37_0
     try clear hcz39_0
     try clear hcz41_0
     try clear hcz43_0
     try clear hcz44_0
     try clear hcz47_0
     try clear hcz49_0
     try clear hcz51_0
     try clear hcz55_0
     try clear hcz57_0
     try clear hcz6_0
     try clear hcz8_0
     try clear hfz13_0
     try clear hfz18_0
     try clear hfz21_0
     try clear hfz25_0
     try clear hfz31_0
     try clear hfz37_0
     try clear hfz39_0
     try clear hfz41_0
     try clear hfz43_0
     try clear hfz44_0
     try clear hfz47_0
     try clear hfz49_0
     try clear hfz51_0
     try clear hfz55_0
     try clear hfz57_0
     try clear hfz6_0
     try clear hfz8_0
     try clear p2
     try clear q3
     try clear q373
     try clear q374
     try clear q383
     try clear q384
     try clear q389
     obtain ⟨kq, x70_22, rfl, HA, HJ22, HO_3, HO_373000, HO_383000, BK358, BK372, BK382, HB⟩ := hcut
     cases kq with
     | zero => exact absurd HA.out (by simp [surtitlelaw13_LaneLaid.j1])
     | succ kj22 =>
      have H := HA.out
      clear HA
      simp only [surtitlelaw13_LaneLaid.j1] at H
      by_cases c59 : x70_22 = true
      ·subst c59
       have H1 : (some false) = some r := by rw [if_pos rfl] at H; exact H
       clear H
       have H := H1
       clear H1
       obtain rfl := Option.some.inj H
       go_wp2
       go_ret
       exact ⟨by first | rfl | (simp [errW_none, errW_some] <;> rfl) | (simp [*, errW_none, errW_some] <;> rfl), by repeat (first | (with_reducible first | exact HB.out | apply l1 | apply l2 | apply l3 | refine below_set ?_ GE358.out | refine below_set ?_ GE372.out | refine below_set ?_ GE382.out) | exact HB.out)⟩
      ·replace c59 := Bool.eq_false_iff.mpr c59
       subst c59
       have H1 : (surtitlelaw13_LaneLaid.l0 kj22 t359 0 l0_0 t366) = some r := by rw [if_neg (show ¬ (false = true) by decide)] at H; exact H
       clear H
       have H := H1
       clear H1
       have H' := Aside0.mk H
       clear H
       go_wp2
       (try simp only [Act.put, List.setIfInBounds_toArray, List.set_cons_zero, List.set_cons_succ])
       go_loopg [10] kj22 (fun kq v10 w' => ∃ (x10_3 : Int), v10 = .int .i64 x10_3 ∧ Aside0 (surtitlelaw13_LaneLaid.l0 kq t359 x10_3 l0_0 t366 = some r) ∧ Aside0 (kq ≤ kj22) ∧ Aside0 (Kd.R (Kd.int .i64) 3 w' w.heap.size (fun _ => True) v360 t359) ∧ Aside0 (Kd.S k41 41 w' w.heap.size (fun k_ => some k_ ≠ ((.slice Ao28 t376.length co28) : Value).ownBlock) (.slice Ao11 t366.length co11) t366) ∧ Aside0 (Kd.S k41 41 w' w.heap.size (fun k_ => some k_ ≠ ((.slice Ao11 t366.length co11) : Value).ownBlock) (.slice Ao28 t376.length co28) t376) ∧ Aside0 (w'.heap[gb358]? = some (.cells #[(.slice A0_0 l0_0.length c0_0)] 24 (0, 0))) ∧ Aside0 (w'.heap[gb372]? = some (.cells #[(.slice Ao11 t366.length co11)] 24 (0, 0))) ∧ Aside0 (w'.heap[gb382]? = some (.cells #[(.slice Ao28 t376.length co28)] 24 (0, 0))) ∧ Aside0 (Below w.heap.size w w'))
       case atStart => exact ⟨(0), (by first | rfl | (simp; done) | (simp [*]; done)), H', ⟨Nat.le_refl _⟩, ⟨by (with_reducible repeat (first | apply Kd.R_alloc | apply Kd.R_drewN | apply Kd.R_drew)); exact HO_3.out⟩, ⟨by (with_reducible repeat (first | apply Kd.S_alloc | apply Kd.S_drewN | apply Kd.S_drew)); exact HO_373000.out⟩, ⟨by (with_reducible repeat (first | apply Kd.S_alloc | apply Kd.S_drewN | apply Kd.S_drew)); exact HO_383000.out⟩, ⟨by (with_reducible repeat (first | apply b1 | apply b2 | apply b3)); exact BK358.out⟩, ⟨by (with_reducible repeat (first | apply b1 | apply b2 | apply b3)); exact BK372.out⟩, ⟨by (with_reducible repeat (first | apply b1 | apply b2 | apply b3)); exact BK382.out⟩, ⟨by repeat (first | (with_reducible first | exact HB.out | apply l1 | apply l2 | apply l3 | refine below_set ?_ GE358.out | refine below_set ?_ GE372.out | refine below_set ?_ GE382.out) | exact HB.out)⟩⟩
       case round =>
        clear H'
        try clear c1
        try clear c2
        try clear p2
        try clear c3
        try clear q3
        try clear c4
        try clear c5
        try clear c9
        try clear c10
        try clear c12
        try clear c14
        try clear c15
        try clear c15b0
        try clear c15b1
        try clear c15b2
        try clear c17
        try clear c20
        try clear c24
        try clear c29
        try clear c30
        try clear c33
        try clear c35
        try clear c36
        try clear q37
        try clear c38
        try clear q38
        try clear c45
        try clear c46
        try clear c48
        try clear c53
        try clear c54
        try clear c56
        try clear c59
        try clear hcz13_0
        try clear hcz18_0
        try clear hcz21_0
        try clear hcz25_0
        try clear hcz31_0
        try clear hcz37_0
        try clear hcz39_0
        try clear hcz41_0
        try clear hcz43_0
        try clear hcz44_0
        try clear hcz47_0
        try clear hcz49_0
        try clear hcz51_0
        try clear hcz55_0
        try clear hcz57_0
        try clear hcz6_0
        try clear hcz8_0
        try clear hfz13_0
        try clear hfz18_0
        try clear hfz21_0
        try clear hfz25_0
        try clear hfz31_0
        try clear hfz37_0
        try clear hfz39_0
        try clear hfz41_0
        try clear hfz43_0
        try clear hfz44_0
        try clear hfz47_0
        try clear hfz49_0
        try clear hfz51_0
        try clear hfz55_0
        try clear hfz57_0
        try clear hfz6_0
        try clear hfz8_0
        try clear p2
        try clear q3
        try clear q37
        try clear q373
        try clear q374
        try clear q38
        try clear q383
        try clear q384
        try clear q389
        obtain ⟨x10_3, rfl, HA, HK3, HO_3, HO_373000, HO_383000, BK358, BK372, BK382, HB⟩ := hrel
        cases gk with
        | zero => exact absurd HA.out (by simp [surtitlelaw13_LaneLaid.l0])
        | succ k3 =>
         have H := HA.out
         clear HA
         simp only [surtitlelaw13_LaneLaid.l0] at H
         by_cases c60 : x10_3 < (t359.length : Int)
         ·rw [if_pos c60] at H
          have c60b0 : decide (x10_3 < (t359.length : Int)) = true := decide_eq_true c60
          clear c60
          by_cases c61 : 0 ≤ x10_3
          ·rw [if_pos c61] at H
           have c61b0 : decide (0 ≤ x10_3) = true := decide_eq_true c61
           clear c61
           by_cases c62 : x10_3 < (t366.length : Int)
           ·rw [if_pos c62] at H
            have c62b0 : decide (x10_3 < (t366.length : Int)) = true := decide_eq_true c62
            clear c62
            by_cases c63 : ((rd_T41 t366 x10_3).f2) = (rd t359 x10_3)
            ·rw [if_pos c63] at H
             have c63b0 : (((rd_T41 t366 x10_3).f2) == (rd t359 x10_3)) = true := beq_iff_eq.mpr c63
             have c63b1 : (((rd_T41 t366 x10_3).f2) != (rd t359 x10_3)) = false := bne_eq_false_iff_eq.mpr c63
             clear c63
             by_cases c64 : x10_3 < (l0_0.length : Int)
             ·rw [if_pos c64] at H
              have c64b0 : decide (x10_3 < (l0_0.length : Int)) = true := decide_eq_true c64
              clear c64
              replace H := Option.bind_eq_some_iff.mp H
              obtain ⟨t396, A650, H⟩ := H
              (try dsimp only at H)
              have A65 := Aside0.mk A650
              clear A650
              by_cases c66 : t396 = true
              ·subst c66
               have H1 : (surtitlelaw13_LaneLaid.l0 k3 t359 (wrap64 (x10_3 + 1)) l0_0 t366) = some r := by rw [if_pos rfl] at H; exact H
               clear H
               have H := H1
               clear H1
               have H' := Aside0.mk H
               clear H
               obtain ⟨Ao67, co67, eo67⟩ := Kd.R_slice HO_3.out
               subst eo67
               have hnb68 := NB372_358.out
               have hnc68 := NB358_372.out
               have hnb69 := NB372_382.out
               have hnc69 := NB382_372.out
               obtain ⟨hcz70_0, hfz70_0⟩ := blk_cells1 BK372.out
               have p391 : 0 ≤ (x10_3 : Int) := of_decide_eq_true (by first | (with_reducible assumption) | assumption)
               have q391 : x10_3 < (t366.length : Int) := of_decide_eq_true (by first | (with_reducible assumption) | assumption)
               obtain ⟨ad391, A391_8, c391_8, e391, hx391_0, hx391_1, hx391_2, hx391_3, hx391_4, hx391_5, hx391_6, hx391_7, hx391_8, hl391_8, hi391_8⟩ := at_T41 (Kd.S_reads' HO_373000.out).2.2 x10_3 p391 q391
               cases e391
               obtain ⟨ce391, hce391, hMe391, hcc391⟩ := Kd.S_get HO_373000.out z41 x10_3 p391 (by first | exact q391 | exact of_decide_eq_true (by first | (with_reducible assumption) | assumption) | (have e_ := (Kd.S_reads' HO_373000.out).1; omega))
               obtain ⟨ve391_8, rfl, ge391_8⟩ := k41_openM hMe391
               have hv391_8 := hcc391 8 _ rfl
               rw [add_field _ _ 8 (by omega)] at hv391_8
               replace hv391_8 := Option.some.inj (hv391_8.symm.trans hx391_8)
               rw [hv391_8] at ge391_8
               have HL391_8 := Aside0.mk (show Kd.R k62 62 _ _ _ _ ((rd_T41 t366 x10_3).f5.f1) from ge391_8)
               clear hv391_8 ge391_8
               clear hcc391 hce391
               have HR391_8 := Aside0.mk hi391_8
               have HC391_8 := Aside0.mk hl391_8
               clear hi391_8 hl391_8
               replace p391 := eq_true p391
               replace q391 := eq_true q391
               try go_wp2_with (first | ((with_reducible refine gate_dst (N := 11) rfl ?_); (try (refine gate_guard (by rfl) ?_; dsimp only)); refine box_event (by rfl) (N := 11) (by rfl) (cs := #[.int .i64 0, .int .i64 0, .int .i64 0, .int .i64 0, .int .i64 0, .int .i64 0, .string (⟨#[]⟩ : ByteArray), .string (⟨#[]⟩ : ByteArray), .slice none 0 0]) (t := 41) (by first | (go_simp; done) | (go_simp; rfl)) ?_; intro gb392 hg w71 hbox hb; obtain ⟨hb_, hw_⟩ := box_facts (by repeat (first | (with_reducible first | exact HB.out | apply l1 | apply l2 | apply l3 | refine below_set ?_ GE358.out | refine below_set ?_ GE372.out | refine below_set ?_ GE382.out) | exact HB.out)) hg hb; have n0_ := Aside0.mk (Kd.R_below (by (with_reducible repeat (first | apply Kd.R_alloc | apply Kd.R_drewN | apply Kd.R_drew)); exact HO_3.out) hb); have n1_ := Aside0.mk (Kd.S_below (Kd.S_elderB (by (with_reducible repeat (first | apply Kd.S_alloc | apply Kd.S_drewN | apply Kd.S_drew)); exact HO_373000.out) gb392 (Nat.le_of_eq hg.symm)) hb); have n2_ := Aside0.mk (Kd.S_below (Kd.S_elderB (by (with_reducible repeat (first | apply Kd.S_alloc | apply Kd.S_drewN | apply Kd.S_drew)); exact HO_383000.out) gb392 (Nat.le_of_eq hg.symm)) hb); have n3_ := Aside0.mk (Kd.R_below (by (with_reducible repeat (first | apply Kd.R_alloc | apply Kd.R_drewN | apply Kd.R_drew)); exact HL391_8.out) hb); have n4_ := Aside0.mk (blk_below (by (with_reducible repeat (first | apply b1 | apply b2 | apply b3)); exact BK358.out) hb); have n5_ := Aside0.mk (blk_below (by (with_reducible repeat (first | apply b1 | apply b2 | apply b3)); exact BK372.out) hb); have n6_ := Aside0.mk (blk_below (by (with_reducible repeat (first | apply b1 | apply b2 | apply b3)); exact BK382.out) hb); have n7_ := Aside0.mk (Kd.C_below (by repeat (first | (with_reducible exact HR391_8.out) | (with_reducible refine Kd.C_alloc ?_ _) | (with_reducible refine Kd.C_drewN ?_ _) | (with_reducible refine Kd.C_drew ?_) | exact HR391_8.out)) hb); have n8_ := Aside0.mk (hb_); have n9_ := Aside0.mk (hbox); have n10_ := Aside0.mk (hw_); have n11_ := Aside0.mk (hw_); have n12_ := Aside0.mk ((by rw [hg]; exact Nat.ne_of_lt (blk_lt (by (with_reducible repeat (first | apply b1 | apply b2 | apply b3)); exact BK358.out)) : gb358 ≠ gb392)); have n13_ := Aside0.mk ((by rw [hg]; exact Nat.ne_of_gt (blk_lt (by (with_reducible repeat (first | apply b1 | apply b2 | apply b3)); exact BK358.out)) : gb392 ≠ gb358)); have n14_ := Aside0.mk ((by rw [hg]; exact Nat.ne_of_lt (blk_lt (by (with_reducible repeat (first | apply b1 | apply b2 | apply b3)); exact BK372.out)) : gb372 ≠ gb392)); have n15_ := Aside0.mk ((by rw [hg]; exact Nat.ne_of_gt (blk_lt (by (with_reducible repeat (first | apply b1 | apply b2 | apply b3)); exact BK372.out)) : gb392 ≠ gb372)); have n16_ := Aside0.mk ((by rw [hg]; exact Nat.ne_of_lt (blk_lt (by (with_reducible repeat (first | apply b1 | apply b2 | apply b3)); exact BK382.out)) : gb382 ≠ gb392)); have n17_ := Aside0.mk ((by rw [hg]; exact Nat.ne_of_gt (blk_lt (by (with_reducible repeat (first | apply b1 | apply b2 | apply b3)); exact BK382.out)) : gb392 ≠ gb382)); clear HO_3; clear HO_373000; clear HO_383000; clear HL391_8; clear BK358; clear BK372; clear BK382; clear HR391_8; clear HB; have HO_3 := n0_; have HO_373000 := n1_; have HO_383000 := n2_; have HL391_8 := n3_; have BK358 := n4_; have BK372 := n5_; have BK382 := n6_; have HR391_8 := n7_; have HB := n8_; have BK392 := n9_; have GW392 := n10_; have GE392 := n11_; have NB358_392 := n12_; have NB392_358 := n13_; have NB372_392 := n14_; have NB392_372 := n15_; have NB382_392 := n16_; have NB392_382 := n17_; clear n0_ n1_ n2_ n3_ n4_ n5_ n6_ n7_ n8_ n9_ n10_ n11_ n12_ n13_ n14_ n15_ n16_ n17_; clear hb hbox hg hb_ hw_; have hnb72 := NB392_358.out; have hnc72 := NB358_392.out; have hnb73 := NB392_372.out; have hnc73 := NB372_392.out; have hnb74 := NB392_382.out; have hnc74 := NB382_392.out; obtain ⟨hcz75_0, hcz75_1, hcz75_2, hcz75_3, hcz75_4, hcz75_5, hcz75_6, hcz75_7, hcz75_8, hfz75_0, hfz75_1, hfz75_2, hfz75_3, hfz75_4, hfz75_5, hfz75_6, hfz75_7, hfz75_8⟩ := blk_cells9 BK392.out))
               have n0_ : Aside0 (Kd.R (Kd.int .i64) 3 (((((((((w71.setCell ⟨gb392, 0, none⟩ (.int .i64 ((rd_T41 t366 x10_3).f0.f0))).setCell ⟨gb392, 1, none⟩ (.int .i64 ((rd_T41 t366 x10_3).f0.f1))).setCell ⟨gb392, 2, none⟩ (.int .i64 ((rd_T41 t366 x10_3).f1.f0))).setCell ⟨gb392, 3, none⟩ (.int .i64 ((rd_T41 t366 x10_3).f1.f1))).setCell ⟨gb392, 4, none⟩ (.int .i64 ((rd_T41 t366 x10_3).f2))).setCell ⟨gb392, 5, none⟩ (.int .i64 ((rd_T41 t366 x10_3).f3))).setCell ⟨gb392, 6, none⟩ (.string ((rd_T41 t366 x10_3).f4))).setCell ⟨gb392, 7, none⟩ (.string ((rd_T41 t366 x10_3).f5.f0))).setCell ⟨gb392, 8, none⟩ (.slice A391_8 ((rd_T41 t366 x10_3).f5.f1).length c391_8)) w.heap.size (fun _ => True) (.slice Ao67 t359.length co67) t359) := ⟨by (with_reducible repeat (first | apply Kd.R_alloc | apply Kd.R_drewN | apply Kd.R_drew)); exact Kd.R_mono (Kd.R_far (p := ⟨gb392, 8, none⟩) (Kd.R_far (p := ⟨gb392, 7, none⟩) (Kd.R_far (p := ⟨gb392, 6, none⟩) (Kd.R_far (p := ⟨gb392, 5, none⟩) (Kd.R_far (p := ⟨gb392, 4, none⟩) (Kd.R_far (p := ⟨gb392, 3, none⟩) (Kd.R_far (p := ⟨gb392, 2, none⟩) (Kd.R_far (p := ⟨gb392, 1, none⟩) (Kd.R_far (p := ⟨gb392, 0, none⟩) (Kd.R_types HO_3.out BK392.out (by decide)) (fun _ hk => hk.2) (.int .i64 ((rd_T41 t366 x10_3).f0.f0))) (fun _ hk => hk.2) (.int .i64 ((rd_T41 t366 x10_3).f0.f1))) (fun _ hk => hk.2) (.int .i64 ((rd_T41 t366 x10_3).f1.f0))) (fun _ hk => hk.2) (.int .i64 ((rd_T41 t366 x10_3).f1.f1))) (fun _ hk => hk.2) (.int .i64 ((rd_T41 t366 x10_3).f2))) (fun _ hk => hk.2) (.int .i64 ((rd_T41 t366 x10_3).f3))) (fun _ hk => hk.2) (.string ((rd_T41 t366 x10_3).f4))) (fun _ hk => hk.2) (.string ((rd_T41 t366 x10_3).f5.f0))) (fun _ hk => hk.2) (.slice A391_8 ((rd_T41 t366 x10_3).f5.f1).length c391_8)) (fun _ hk => trivial)⟩
               have n1_ : Aside0 (Kd.S k41 41 (((((((((w71.setCell ⟨gb392, 0, none⟩ (.int .i64 ((rd_T41 t366 x10_3).f0.f0))).setCell ⟨gb392, 1, none⟩ (.int .i64 ((rd_T41 t366 x10_3).f0.f1))).setCell ⟨gb392, 2, none⟩ (.int .i64 ((rd_T41 t366 x10_3).f1.f0))).setCell ⟨gb392, 3, none⟩ (.int .i64 ((rd_T41 t366 x10_3).f1.f1))).setCell ⟨gb392, 4, none⟩ (.int .i64 ((rd_T41 t366 x10_3).f2))).setCell ⟨gb392, 5, none⟩ (.int .i64 ((rd_T41 t366 x10_3).f3))).setCell ⟨gb392, 6, none⟩ (.string ((rd_T41 t366 x10_3).f4))).setCell ⟨gb392, 7, none⟩ (.string ((rd_T41 t366 x10_3).f5.f0))).setCell ⟨gb392, 8, none⟩ (.slice A391_8 ((rd_T41 t366 x10_3).f5.f1).length c391_8)) w.heap.size (fun k_ => some k_ ≠ (.slice Ao28 t376.length co28 : Value).ownBlock ∧ k_ ≠ gb392) (.slice (some ad391) t366.length co11) t366) := ⟨by (with_reducible repeat (first | apply Kd.S_alloc | apply Kd.S_drewN | apply Kd.S_drew)); exact Kd.S_mono (Kd.S_far (p := ⟨gb392, 8, none⟩) (Kd.S_far (p := ⟨gb392, 7, none⟩) (Kd.S_far (p := ⟨gb392, 6, none⟩) (Kd.S_far (p := ⟨gb392, 5, none⟩) (Kd.S_far (p := ⟨gb392, 4, none⟩) (Kd.S_far (p := ⟨gb392, 3, none⟩) (Kd.S_far (p := ⟨gb392, 2, none⟩) (Kd.S_far (p := ⟨gb392, 1, none⟩) (Kd.S_far (p := ⟨gb392, 0, none⟩) (Kd.S_mono HO_373000.out (fun k_ hk => (⟨hk, hk.2⟩ : _ ∧ k_ ≠ gb392))) (fun _ hk => hk.2) (.int .i64 ((rd_T41 t366 x10_3).f0.f0))) (fun _ hk => hk.2) (.int .i64 ((rd_T41 t366 x10_3).f0.f1))) (fun _ hk => hk.2) (.int .i64 ((rd_T41 t366 x10_3).f1.f0))) (fun _ hk => hk.2) (.int .i64 ((rd_T41 t366 x10_3).f1.f1))) (fun _ hk => hk.2) (.int .i64 ((rd_T41 t366 x10_3).f2))) (fun _ hk => hk.2) (.int .i64 ((rd_T41 t366 x10_3).f3))) (fun _ hk => hk.2) (.string ((rd_T41 t366 x10_3).f4))) (fun _ hk => hk.2) (.string ((rd_T41 t366 x10_3).f5.f0))) (fun _ hk => hk.2) (.slice A391_8 ((rd_T41 t366 x10_3).f5.f1).length c391_8)) (fun _ hk => ⟨hk.1.1, hk.1.2⟩)⟩
               have n2_ : Aside0 (Kd.S k41 41 (((((((((w71.setCell ⟨gb392, 0, none⟩ (.int .i64 ((rd_T41 t366 x10_3).f0.f0))).setCell ⟨gb392, 1, none⟩ (.int .i64 ((rd_T41 t366 x10_3).f0.f1))).setCell ⟨gb392, 2, none⟩ (.int .i64 ((rd_T41 t366 x10_3).f1.f0))).setCell ⟨gb392, 3, none⟩ (.int .i64 ((rd_T41 t366 x10_3).f1.f1))).setCell ⟨gb392, 4, none⟩ (.int .i64 ((rd_T41 t366 x10_3).f2))).setCell ⟨gb392, 5, none⟩ (.int .i64 ((rd_T41 t366 x10_3).f3))).setCell ⟨gb392, 6, none⟩ (.string ((rd_T41 t366 x10_3).f4))).setCell ⟨gb392, 7, none⟩ (.string ((rd_T41 t366 x10_3).f5.f0))).setCell ⟨gb392, 8, none⟩ (.slice A391_8 ((rd_T41 t366 x10_3).f5.f1).length c391_8)) w.heap.size (fun k_ => some k_ ≠ (.slice (some ad391) t366.length co11 : Value).ownBlock ∧ k_ ≠ gb392) (.slice Ao28 t376.length co28) t376) := ⟨by (with_reducible repeat (first | apply Kd.S_alloc | apply Kd.S_drewN | apply Kd.S_drew)); exact Kd.S_mono (Kd.S_far (p := ⟨gb392, 8, none⟩) (Kd.S_far (p := ⟨gb392, 7, none⟩) (Kd.S_far (p := ⟨gb392, 6, none⟩) (Kd.S_far (p := ⟨gb392, 5, none⟩) (Kd.S_far (p := ⟨gb392, 4, none⟩) (Kd.S_far (p := ⟨gb392, 3, none⟩) (Kd.S_far (p := ⟨gb392, 2, none⟩) (Kd.S_far (p := ⟨gb392, 1, none⟩) (Kd.S_far (p := ⟨gb392, 0, none⟩) (Kd.S_mono HO_383000.out (fun k_ hk => (⟨hk, hk.2⟩ : _ ∧ k_ ≠ gb392))) (fun _ hk => hk.2) (.int .i64 ((rd_T41 t366 x10_3).f0.f0))) (fun _ hk => hk.2) (.int .i64 ((rd_T41 t366 x10_3).f0.f1))) (fun _ hk => hk.2) (.int .i64 ((rd_T41 t366 x10_3).f1.f0))) (fun _ hk => hk.2) (.int .i64 ((rd_T41 t366 x10_3).f1.f1))) (fun _ hk => hk.2) (.int .i64 ((rd_T41 t366 x10_3).f2))) (fun _ hk => hk.2) (.int .i64 ((rd_T41 t366 x10_3).f3))) (fun _ hk => hk.2) (.string ((rd_T41 t366 x10_3).f4))) (fun _ hk => hk.2) (.string ((rd_T41 t366 x10_3).f5.f0))) (fun _ hk => hk.2) (.slice A391_8 ((rd_T41 t366 x10_3).f5.f1).length c391_8)) (fun _ hk => ⟨hk.1.1, hk.1.2⟩)⟩
               have n3_ : Aside0 (Kd.R k62 62 (((((((((w71.setCell ⟨gb392, 0, none⟩ (.int .i64 ((rd_T41 t366 x10_3).f0.f0))).setCell ⟨gb392, 1, none⟩ (.int .i64 ((rd_T41 t366 x10_3).f0.f1))).setCell ⟨gb392, 2, none⟩ (.int .i64 ((rd_T41 t366 x10_3).f1.f0))).setCell ⟨gb392, 3, none⟩ (.int .i64 ((rd_T41 t366 x10_3).f1.f1))).setCell ⟨gb392, 4, none⟩ (.int .i64 ((rd_T41 t366 x10_3).f2))).setCell ⟨gb392, 5, none⟩ (.int .i64 ((rd_T41 t366 x10_3).f3))).setCell ⟨gb392, 6, none⟩ (.string ((rd_T41 t366 x10_3).f4))).setCell ⟨gb392, 7, none⟩ (.string ((rd_T41 t366 x10_3).f5.f0))).setCell ⟨gb392, 8, none⟩ (.slice A391_8 ((rd_T41 t366 x10_3).f5.f1).length c391_8)) w.heap.size (fun k_ => some k_ ≠ (.slice (some ad391) t366.length co11 : Value).ownBlock ∧ some k_ ≠ (.slice Ao28 t376.length co28 : Value).ownBlock) (.slice A391_8 ((rd_T41 t366 x10_3).f5.f1).length c391_8) ((rd_T41 t366 x10_3).f5.f1)) := ⟨by (with_reducible repeat (first | apply Kd.R_alloc | apply Kd.R_drewN | apply Kd.R_drew)); exact Kd.R_mono (Kd.R_far (p := ⟨gb392, 8, none⟩) (Kd.R_far (p := ⟨gb392, 7, none⟩) (Kd.R_far (p := ⟨gb392, 6, none⟩) (Kd.R_far (p := ⟨gb392, 5, none⟩) (Kd.R_far (p := ⟨gb392, 4, none⟩) (Kd.R_far (p := ⟨gb392, 3, none⟩) (Kd.R_far (p := ⟨gb392, 2, none⟩) (Kd.R_far (p := ⟨gb392, 1, none⟩) (Kd.R_far (p := ⟨gb392, 0, none⟩) (Kd.R_types HL391_8.out BK392.out (by decide)) (fun _ hk => hk.2) (.int .i64 ((rd_T41 t366 x10_3).f0.f0))) (fun _ hk => hk.2) (.int .i64 ((rd_T41 t366 x10_3).f0.f1))) (fun _ hk => hk.2) (.int .i64 ((rd_T41 t366 x10_3).f1.f0))) (fun _ hk => hk.2) (.int .i64 ((rd_T41 t366 x10_3).f1.f1))) (fun _ hk => hk.2) (.int .i64 ((rd_T41 t366 x10_3).f2))) (fun _ hk => hk.2) (.int .i64 ((rd_T41 t366 x10_3).f3))) (fun _ hk => hk.2) (.string ((rd_T41 t366 x10_3).f4))) (fun _ hk => hk.2) (.string ((rd_T41 t366 x10_3).f5.f0))) (fun _ hk => hk.2) (.slice A391_8 ((rd_T41 t366 x10_3).f5.f1).length c391_8)) (fun _ hk => ⟨hk.1.2, hk.1.1⟩)⟩
               have n4_ : Aside0 ((((((((((w71.setCell ⟨gb392, 0, none⟩ (.int .i64 ((rd_T41 t366 x10_3).f0.f0))).setCell ⟨gb392, 1, none⟩ (.int .i64 ((rd_T41 t366 x10_3).f0.f1))).setCell ⟨gb392, 2, none⟩ (.int .i64 ((rd_T41 t366 x10_3).f1.f0))).setCell ⟨gb392, 3, none⟩ (.int .i64 ((rd_T41 t366 x10_3).f1.f1))).setCell ⟨gb392, 4, none⟩ (.int .i64 ((rd_T41 t366 x10_3).f2))).setCell ⟨gb392, 5, none⟩ (.int .i64 ((rd_T41 t366 x10_3).f3))).setCell ⟨gb392, 6, none⟩ (.string ((rd_T41 t366 x10_3).f4))).setCell ⟨gb392, 7, none⟩ (.string ((rd_T41 t366 x10_3).f5.f0))).setCell ⟨gb392, 8, none⟩ (.slice A391_8 ((rd_T41 t366 x10_3).f5.f1).length c391_8)).heap[gb358]? = some (.cells #[.slice A0_0 l0_0.length c0_0] 24 (0, 0))) := ⟨by (with_reducible repeat (first | apply b1 | apply b2 | apply b3)); refine blk_far ?_ NB358_392.out _; (with_reducible repeat (first | apply b1 | apply b2 | apply b3)); refine blk_far ?_ NB358_392.out _; (with_reducible repeat (first | apply b1 | apply b2 | apply b3)); refine blk_far ?_ NB358_392.out _; (with_reducible repeat (first | apply b1 | apply b2 | apply b3)); refine blk_far ?_ NB358_392.out _; (with_reducible repeat (first | apply b1 | apply b2 | apply b3)); refine blk_far ?_ NB358_392.out _; (with_reducible repeat (first | apply b1 | apply b2 | apply b3)); refine blk_far ?_ NB358_392.out _; (with_reducible repeat (first | apply b1 | apply b2 | apply b3)); refine blk_far ?_ NB358_392.out _; (with_reducible repeat (first | apply b1 | apply b2 | apply b3)); refine blk_far ?_ NB358_392.out _; (with_reducible repeat (first | apply b1 | apply b2 | apply b3)); refine blk_far ?_ NB358_392.out _; (with_reducible repeat (first | apply b1 | apply b2 | apply b3)); exact BK358.out⟩
               have n5_ : Aside0 ((((((((((w71.setCell ⟨gb392, 0, none⟩ (.int .i64 ((rd_T41 t366 x10_3).f0.f0))).setCell ⟨gb392, 1, none⟩ (.int .i64 ((rd_T41 t366 x10_3).f0.f1))).setCell ⟨gb392, 2, none⟩ (.int .i64 ((rd_T41 t366 x10_3).f1.f0))).setCell ⟨gb392, 3, none⟩ (.int .i64 ((rd_T41 t366 x10_3).f1.f1))).setCell ⟨gb392, 4, none⟩ (.int .i64 ((rd_T41 t366 x10_3).f2))).setCell ⟨gb392, 5, none⟩ (.int .i64 ((rd_T41 t366 x10_3).f3))).setCell ⟨gb392, 6, none⟩ (.string ((rd_T41 t366 x10_3).f4))).setCell ⟨gb392, 7, none⟩ (.string ((rd_T41 t366 x10_3).f5.f0))).setCell ⟨gb392, 8, none⟩ (.slice A391_8 ((rd_T41 t366 x10_3).f5.f1).length c391_8)).heap[gb372]? = some (.cells #[.slice (some ad391) t366.length co11] 24 (0, 0))) := ⟨by (with_reducible repeat (first | apply b1 | apply b2 | apply b3)); refine blk_far ?_ NB372_392.out _; (with_reducible repeat (first | apply b1 | apply b2 | apply b3)); refine blk_far ?_ NB372_392.out _; (with_reducible repeat (first | apply b1 | apply b2 | apply b3)); refine blk_far ?_ NB372_392.out _; (with_reducible repeat (first | apply b1 | apply b2 | apply b3)); refine blk_far ?_ NB372_392.out _; (with_reducible repeat (first | apply b1 | apply b2 | apply b3)); refine blk_far ?_ NB372_392.out _; (with_reducible repeat (first | apply b1 | apply b2 | apply b3)); refine blk_far ?_ NB372_392.out _; (with_reducible repeat (first | apply b1 | apply b2 | apply b3)); refine blk_far ?_ NB372_392.out _; (with_reducible repeat (first | apply b1 | apply b2 | apply b3)); refine blk_far ?_ NB372_392.out _; (with_reducible repeat (first | apply b1 | apply b2 | apply b3)); refine blk_far ?_ NB372_392.out _; (with_reducible repeat (first | apply b1 | apply b2 | apply b3)); exact BK372.out⟩
               have n6_ : Aside0 ((((((((((w71.setCell ⟨gb392, 0, none⟩ (.int .i64 ((rd_T41 t366 x10_3).f0.f0))).setCell ⟨gb392, 1, none⟩ (.int .i64 ((rd_T41 t366 x10_3).f0.f1))).setCell ⟨gb392, 2, none⟩ (.int .i64 ((rd_T41 t366 x10_3).f1.f0))).setCell ⟨gb392, 3, none⟩ (.int .i64 ((rd_T41 t366 x10_3).f1.f1))).setCell ⟨gb392, 4, none⟩ (.int .i64 ((rd_T41 t366 x10_3).f2))).setCell ⟨gb392, 5, none⟩ (.int .i64 ((rd_T41 t366 x10_3).f3))).setCell ⟨gb392, 6, none⟩ (.string ((rd_T41 t366 x10_3).f4))).setCell ⟨gb392, 7, none⟩ (.string ((rd_T41 t366 x10_3).f5.f0))).setCell ⟨gb392, 8, none⟩ (.slice A391_8 ((rd_T41 t366 x10_3).f5.f1).length c391_8)).heap[gb382]? = some (.cells #[.slice Ao28 t376.length co28] 24 (0, 0))) := ⟨by (with_reducible repeat (first | apply b1 | apply b2 | apply b3)); refine blk_far ?_ NB382_392.out _; (with_reducible repeat (first | apply b1 | apply b2 | apply b3)); refine blk_far ?_ NB382_392.out _; (with_reducible repeat (first | apply b1 | apply b2 | apply b3)); refine blk_far ?_ NB382_392.out _; (with_reducible repeat (first | apply b1 | apply b2 | apply b3)); refine blk_far ?_ NB382_392.out _; (with_reducible repeat (first | apply b1 | apply b2 | apply b3)); refine blk_far ?_ NB382_392.out _; (with_reducible repeat (first | apply b1 | apply b2 | apply b3)); refine blk_far ?_ NB382_392.out _; (with_reducible repeat (first | apply b1 | apply b2 | apply b3)); refine blk_far ?_ NB382_392.out _; (with_reducible repeat (first | apply b1 | apply b2 | apply b3)); refine blk_far ?_ NB382_392.out _; (with_reducible repeat (first | apply b1 | apply b2 | apply b3)); refine blk_far ?_ NB382_392.out _; (with_reducible repeat (first | apply b1 | apply b2 | apply b3)); exact BK382.out⟩
               have n7_ : Aside0 ((((((((((w71.setCell ⟨gb392, 0, none⟩ (.int .i64 ((rd_T41 t366 x10_3).f0.f0))).setCell ⟨gb392, 1, none⟩ (.int .i64 ((rd_T41 t366 x10_3).f0.f1))).setCell ⟨gb392, 2, none⟩ (.int .i64 ((rd_T41 t366 x10_3).f1.f0))).setCell ⟨gb392, 3, none⟩ (.int .i64 ((rd_T41 t366 x10_3).f1.f1))).setCell ⟨gb392, 4, none⟩ (.int .i64 ((rd_T41 t366 x10_3).f2))).setCell ⟨gb392, 5, none⟩ (.int .i64 ((rd_T41 t366 x10_3).f3))).setCell ⟨gb392, 6, none⟩ (.string ((rd_T41 t366 x10_3).f4))).setCell ⟨gb392, 7, none⟩ (.string ((rd_T41 t366 x10_3).f5.f0))).setCell ⟨gb392, 8, none⟩ (.slice A391_8 ((rd_T41 t366 x10_3).f5.f1).length c391_8)).heap[gb392]? = some (.cells #[.int .i64 ((rd_T41 t366 x10_3).f0.f0), .int .i64 ((rd_T41 t366 x10_3).f0.f1), .int .i64 ((rd_T41 t366 x10_3).f1.f0), .int .i64 ((rd_T41 t366 x10_3).f1.f1), .int .i64 ((rd_T41 t366 x10_3).f2), .int .i64 ((rd_T41 t366 x10_3).f3), .string ((rd_T41 t366 x10_3).f4), .string ((rd_T41 t366 x10_3).f5.f0), .slice A391_8 ((rd_T41 t366 x10_3).f5.f1).length c391_8] 41 (0, 0))) := ⟨by (with_reducible repeat (first | apply b1 | apply b2 | apply b3)); refine blk_put (cs := #[.int .i64 ((rd_T41 t366 x10_3).f0.f0), .int .i64 ((rd_T41 t366 x10_3).f0.f1), .int .i64 ((rd_T41 t366 x10_3).f1.f0), .int .i64 ((rd_T41 t366 x10_3).f1.f1), .int .i64 ((rd_T41 t366 x10_3).f2), .int .i64 ((rd_T41 t366 x10_3).f3), .string ((rd_T41 t366 x10_3).f4), .string ((rd_T41 t366 x10_3).f5.f0), .slice none 0 0]) ?_ 8 _ rfl; (with_reducible repeat (first | apply b1 | apply b2 | apply b3)); refine blk_put (cs := #[.int .i64 ((rd_T41 t366 x10_3).f0.f0), .int .i64 ((rd_T41 t366 x10_3).f0.f1), .int .i64 ((rd_T41 t366 x10_3).f1.f0), .int .i64 ((rd_T41 t366 x10_3).f1.f1), .int .i64 ((rd_T41 t366 x10_3).f2), .int .i64 ((rd_T41 t366 x10_3).f3), .string ((rd_T41 t366 x10_3).f4), .string (⟨#[]⟩ : ByteArray), .slice none 0 0]) ?_ 7 _ rfl; (with_reducible repeat (first | apply b1 | apply b2 | apply b3)); refine blk_put (cs := #[.int .i64 ((rd_T41 t366 x10_3).f0.f0), .int .i64 ((rd_T41 t366 x10_3).f0.f1), .int .i64 ((rd_T41 t366 x10_3).f1.f0), .int .i64 ((rd_T41 t366 x10_3).f1.f1), .int .i64 ((rd_T41 t366 x10_3).f2), .int .i64 ((rd_T41 t366 x10_3).f3), .string (⟨#[]⟩ : ByteArray), .string (⟨#[]⟩ : ByteArray), .slice none 0 0]) ?_ 6 _ rfl; (with_reducible repeat (first | apply b1 | apply b2 | apply b3)); refine blk_put (cs := #[.int .i64 ((rd_T41 t366 x10_3).f0.f0), .int .i64 ((rd_T41 t366 x10_3).f0.f1), .int .i64 ((rd_T41 t366 x10_3).f1.f0), .int .i64 ((rd_T41 t366 x10_3).f1.f1), .int .i64 ((rd_T41 t366 x10_3).f2), .int .i64 0, .string (⟨#[]⟩ : ByteArray), .string (⟨#[]⟩ : ByteArray), .slice none 0 0]) ?_ 5 _ rfl; (with_reducible repeat (first | apply b1 | apply b2 | apply b3)); refine blk_put (cs := #[.int .i64 ((rd_T41 t366 x10_3).f0.f0), .int .i64 ((rd_T41 t366 x10_3).f0.f1), .int .i64 ((rd_T41 t366 x10_3).f1.f0), .int .i64 ((rd_T41 t366 x10_3).f1.f1), .int .i64 0, .int .i64 0, .string (⟨#[]⟩ : ByteArray), .string (⟨#[]⟩ : ByteArray), .slice none 0 0]) ?_ 4 _ rfl; (with_reducible repeat (first | apply b1 | apply b2 | apply b3)); refine blk_put (cs := #[.int .i64 ((rd_T41 t366 x10_3).f0.f0), .int .i64 ((rd_T41 t366 x10_3).f0.f1), .int .i64 ((rd_T41 t366 x10_3).f1.f0), .int .i64 0, .int .i64 0, .int .i64 0, .string (⟨#[]⟩ : ByteArray), .string (⟨#[]⟩ : ByteArray), .slice none 0 0]) ?_ 3 _ rfl; (with_reducible repeat (first | apply b1 | apply b2 | apply b3)); refine blk_put (cs := #[.int .i64 ((rd_T41 t366 x10_3).f0.f0), .int .i64 ((rd_T41 t366 x10_3).f0.f1), .int .i64 0, .int .i64 0, .int .i64 0, .int .i64 0, .string (⟨#[]⟩ : ByteArray), .string (⟨#[]⟩ : ByteArray), .slice none 0 0]) ?_ 2 _ rfl; (with_reducible repeat (first | apply b1 | apply b2 | apply b3)); refine blk_put (cs := #[.int .i64 ((rd_T41 t366 x10_3).f0.f0), .int .i64 0, .int .i64 0, .int .i64 0, .int .i64 0, .int .i64 0, .string (⟨#[]⟩ : ByteArray), .string (⟨#[]⟩ : ByteArray), .slice none 0 0]) ?_ 1 _ rfl; (with_reducible repeat (first | apply b1 | apply b2 | apply b3)); refine blk_put (cs := #[.int .i64 0, .int .i64 0, .int .i64 0, .int .i64 0, .int .i64 0, .int .i64 0, .string (⟨#[]⟩ : ByteArray), .string (⟨#[]⟩ : ByteArray), .slice none 0 0]) ?_ 0 _ rfl; (with_reducible repeat (first | apply b1 | apply b2 | apply b3)); exact BK392.out⟩
               have n8_ : Aside0 (Below w.heap.size w (((((((((w71.setCell ⟨gb392, 0, none⟩ (.int .i64 ((rd_T41 t366 x10_3).f0.f0))).setCell ⟨gb392, 1, none⟩ (.int .i64 ((rd_T41 t366 x10_3).f0.f1))).setCell ⟨gb392, 2, none⟩ (.int .i64 ((rd_T41 t366 x10_3).f1.f0))).setCell ⟨gb392, 3, none⟩ (.int .i64 ((rd_T41 t366 x10_3).f1.f1))).setCell ⟨gb392, 4, none⟩ (.int .i64 ((rd_T41 t366 x10_3).f2))).setCell ⟨gb392, 5, none⟩ (.int .i64 ((rd_T41 t366 x10_3).f3))).setCell ⟨gb392, 6, none⟩ (.string ((rd_T41 t366 x10_3).f4))).setCell ⟨gb392, 7, none⟩ (.string ((rd_T41 t366 x10_3).f5.f0))).setCell ⟨gb392, 8, none⟩ (.slice A391_8 ((rd_T41 t366 x10_3).f5.f1).length c391_8))) := ⟨by repeat (first | (with_reducible first | exact HB.out | apply l1 | apply l2 | apply l3 | refine below_set ?_ GE358.out | refine below_set ?_ GE372.out | refine below_set ?_ GE382.out | refine below_set ?_ GE392.out) | exact HB.out)⟩
               (try clear HO_3)
               (try clear HO_373000)
               (try clear HO_383000)
               (try clear HL391_8)
               (try clear BK358)
               (try clear BK372)
               (try clear BK382)
               (try clear BK392)
               (try clear HB)
               generalize (((((((((w71.setCell ⟨gb392, 0, none⟩ (.int .i64 ((rd_T41 t366 x10_3).f0.f0))).setCell ⟨gb392, 1, none⟩ (.int .i64 ((rd_T41 t366 x10_3).f0.f1))).setCell ⟨gb392, 2, none⟩ (.int .i64 ((rd_T41 t366 x10_3).f1.f0))).setCell ⟨gb392, 3, none⟩ (.int .i64 ((rd_T41 t366 x10_3).f1.f1))).setCell ⟨gb392, 4, none⟩ (.int .i64 ((rd_T41 t366 x10_3).f2))).setCell ⟨gb392, 5, none⟩ (.int .i64 ((rd_T41 t366 x10_3).f3))).setCell ⟨gb392, 6, none⟩ (.string ((rd_T41 t366 x10_3).f4))).setCell ⟨gb392, 7, none⟩ (.string ((rd_T41 t366 x10_3).f5.f0))).setCell ⟨gb392, 8, none⟩ (.slice A391_8 ((rd_T41 t366 x10_3).f5.f1).length c391_8)) = w76 at n0_ n1_ n2_ n3_ n4_ n5_ n6_ n7_ n8_ ⊢
               have HO_3 := n0_
               have HO_373000 := n1_
               have HO_383000 := n2_
               have HL391_8 := n3_
               have BK358 := n4_
               have BK372 := n5_
               have BK382 := n6_
               have BK392 := n7_
               have HB := n8_
               clear n0_ n1_ n2_ n3_ n4_ n5_ n6_ n7_ n8_
               have n0_ := Aside0.mk (Kd.R_drew HO_3.out)
               have n1_ := Aside0.mk (Kd.S_drew HO_373000.out)
               have n2_ := Aside0.mk (Kd.S_drew HO_383000.out)
               have n3_ := Aside0.mk (Kd.R_drew HL391_8.out)
               have n4_ := Aside0.mk (blk_drew BK358.out)
               have n5_ := Aside0.mk (blk_drew BK372.out)
               have n6_ := Aside0.mk (blk_drew BK382.out)
               have n7_ := Aside0.mk (blk_drew BK392.out)
               have n8_ := Aside0.mk (below_drew1 HB.out)
               clear HO_3
               clear HO_373000
               clear HO_383000
               clear HL391_8
               clear BK358
               clear BK372
               clear BK382
               clear BK392
               clear HB
               have HO_3 := n0_
               have HO_373000 := n1_
               have HO_383000 := n2_
               have HL391_8 := n3_
               have BK358 := n4_
               have BK372 := n5_
               have BK382 := n6_
               have BK392 := n7_
               have HB := n8_
               clear n0_ n1_ n2_ n3_ n4_ n5_ n6_ n7_ n8_
               have p393 : 0 ≤ (x10_3 : Int) := of_decide_eq_true (by first | (with_reducible assumption) | assumption)
               have q393 : x10_3 < (t359.length : Int) := of_decide_eq_true (by first | (with_reducible assumption) | assumption)
               obtain ⟨ad393, e393, hx393_0⟩ := Kd.at_int (Kd.R_reads' HO_3.out).2.2 x10_3 p393 q393
               cases e393
               replace p393 := eq_true p393
               replace q393 := eq_true q393
               refine start_ (n := 7) (S := fun w' => w'.cell? ⟨gb392, 0, none⟩ = some (.int .i64 ((rd_T41 t366 x10_3).f0.f0)) ∧ w'.cell? ⟨gb392, 1, none⟩ = some (.int .i64 ((rd_T41 t366 x10_3).f0.f1)) ∧ w'.cell? ⟨gb392, 2, none⟩ = some (.int .i64 ((rd_T41 t366 x10_3).f1.f0)) ∧ w'.cell? ⟨gb392, 3, none⟩ = some (.int .i64 ((rd_T41 t366 x10_3).f1.f1)) ∧ w'.cell? ⟨gb392, 4, none⟩ = some (.int .i64 ((rd_T41 t366 x10_3).f2)) ∧ w'.cell? ⟨gb392, 5, none⟩ = some (.int .i64 ((rd_T41 t366 x10_3).f3)) ∧ w'.cell? ⟨gb392, 6, none⟩ = some (.string ((rd_T41 t366 x10_3).f4)) ∧ w'.cell? ⟨gb392, 7, none⟩ = some (.string ((rd_T41 t366 x10_3).f5.f0)) ∧ w'.cell? ⟨gb392, 8, none⟩ = some (.slice A391_8 ((rd_T41 t366 x10_3).f5.f1).length c391_8) ∧ w'.cell? (ad393.add (x10_3).toNat) = some (.int .i64 (rd t359 x10_3))) (ds := []) #[false, false, false, false, false, false, false] (by kernel_rfl) rfl rfl ⟨(blk_cell BK392.out 0).trans rfl, (blk_cell BK392.out 1).trans rfl, (blk_cell BK392.out 2).trans rfl, (blk_cell BK392.out 3).trans rfl, (blk_cell BK392.out 4).trans rfl, (blk_cell BK392.out 5).trans rfl, (blk_cell BK392.out 6).trans rfl, (blk_cell BK392.out 7).trans rfl, (blk_cell BK392.out 8).trans rfl, hx393_0⟩ (fun hHeld => ?_)
               generalize w76.drew = w77 at HO_3 HO_373000 HO_383000 HL391_8 BK358 BK372 BK382 BK392 HB hx393_0 hHeld ⊢
               refine pure_ (i := 0) (N := some 82) (v := ?_) (a' := ?_) #[true, false, false, false, false, false, false] rfl rfl (by kernel_rfl) (fun _ _ _ h => h) (Or.inl ⟨by rfl, ?_⟩) ?_ ?_
               rotate_left
               ·intro w'
                go_simp
                with_reducible rfl
               rotate_left
               ·simp only [Act.put, List.setIfInBounds_toArray, List.set_cons_zero, List.set_cons_succ, i64_w, i32_w]
                rfl
               refine pure_ (i := 2) (N := some 84) (v := ?_) (a' := ?_) #[true, false, true, false, false, false, false] rfl rfl (by kernel_rfl) (fun _ _ _ h => h) (Or.inl ⟨by rfl, ?_⟩) ?_ ?_
               rotate_left
               ·intro w'
                go_simp
                with_reducible rfl
               rotate_left
               ·simp only [Act.put, List.setIfInBounds_toArray, List.set_cons_zero, List.set_cons_succ, i64_w, i32_w]
                rfl
               refine pure_ (i := 3) (N := some 85) (v := ?_) (a' := ?_) #[true, false, true, true, false, false, false] rfl rfl (by kernel_rfl) (fun _ _ _ h => h) (Or.inl ⟨by rfl, ?_⟩) ?_ ?_
               rotate_left
               ·intro w'
                go_simp
                with_reducible rfl
               rotate_left
               ·simp only [Act.put, List.setIfInBounds_toArray, List.set_cons_zero, List.set_cons_succ, i64_w, i32_w]
                rfl
               refine pure_ (i := 4) (N := some 86) (v := ?_) (a' := ?_) #[true, false, true, true, true, false, false] rfl rfl (by kernel_rfl) (fun _ _ _ h => h) (Or.inl ⟨by rfl, ?_⟩) ?_ ?_
               rotate_left
               ·intro w'
                go_simp
                with_reducible rfl
               rotate_left
               ·simp only [Act.put, List.setIfInBounds_toArray, List.set_cons_zero, List.set_cons_succ, i64_w, i32_w]
                rfl
               refine take_ (i := 1) (N := some 83) (v := ?_) (a' := ?_) #[true, true, true, true, true, false, false] rfl rfl (by kernel_rfl) (fun _ _ _ h => h) (Or.inl ⟨by rfl, ?_⟩) hHeld ?_ ?_
               rotate_left
               ·rintro w' ⟨s0, s1, s2, s3, s4, s5, s6, s7, s8, s9⟩
                go_simp
                with_reducible rfl
               rotate_left
               ·simp only [Act.put, List.setIfInBounds_toArray, List.set_cons_zero, List.set_cons_succ, i64_w, i32_w]
                rfl
               refine take_ (i := 5) (N := some 87) (v := ?_) (a' := ?_) #[true, true, true, true, true, true, false] rfl rfl (by kernel_rfl) (fun _ _ _ h => h) (Or.inl ⟨by rfl, ?_⟩) hHeld ?_ ?_
               rotate_left
               ·rintro w' ⟨s0, s1, s2, s3, s4, s5, s6, s7, s8, s9⟩
                go_simp
                with_reducible rfl
               rotate_left
               ·simp only [Act.put, List.setIfInBounds_toArray, List.set_cons_zero, List.set_cons_succ, i64_w, i32_w]
                rfl
               refine pure_ (i := 6) (N := some 88) (v := ?_) (a' := ?_) #[true, true, true, true, true, true, true] rfl rfl (by kernel_rfl) (fun _ _ _ h => h) (Or.inl ⟨by rfl, ?_⟩) ?_ ?_
               rotate_left
               ·intro w'
                go_simp
                with_reducible rfl
               rotate_left
               ·simp only [Act.put, List.setIfInBounds_toArray, List.set_cons_zero, List.set_cons_succ, i64_w, i32_w]
                rfl
               refine done_ (by kernel_rfl) ?_
               have hnb78 := NB358_382.out
               have hnc78 := NB382_358.out
               obtain ⟨hcz79_0, hfz79_0⟩ := blk_cells1 BK358.out
               have p394 : 0 ≤ (x10_3 : Int) := of_decide_eq_true (by first | (with_reducible assumption) | assumption)
               have q394 : x10_3 < (l0_0.length : Int) := of_decide_eq_true (by first | (with_reducible assumption) | assumption)
               obtain ⟨ad394, A394_8, c394_8, e394, hx394_0, hx394_1, hx394_2, hx394_3, hx394_4, hx394_5, hx394_6, hx394_7, hx394_8, hl394_8, hi394_8⟩ := at_T41 HR0_0.out x10_3 p394 q394
               cases e394
               replace hx394_0 := (HB.out.cell (World.block_lt_of_cell? w _ hx394_0)).trans hx394_0
               replace hx394_1 := (HB.out.cell (World.block_lt_of_cell? w _ hx394_1)).trans hx394_1
               replace hx394_2 := (HB.out.cell (World.block_lt_of_cell? w _ hx394_2)).trans hx394_2
               replace hx394_3 := (HB.out.cell (World.block_lt_of_cell? w _ hx394_3)).trans hx394_3
               replace hx394_4 := (HB.out.cell (World.block_lt_of_cell? w _ hx394_4)).trans hx394_4
               replace hx394_5 := (HB.out.cell (World.block_lt_of_cell? w _ hx394_5)).trans hx394_5
               replace hx394_6 := (HB.out.cell (World.block_lt_of_cell? w _ hx394_6)).trans hx394_6
               replace hx394_7 := (HB.out.cell (World.block_lt_of_cell? w _ hx394_7)).trans hx394_7
               replace hx394_8 := (HB.out.cell (World.block_lt_of_cell? w _ hx394_8)).trans hx394_8
               have HR394_8 := Aside0.mk hi394_8
               have HC394_8 := Aside0.mk hl394_8
               clear hi394_8 hl394_8
               replace p394 := eq_true p394
               replace q394 := eq_true q394
               obtain ⟨hcz80_0, hcz80_1, hcz80_2, hcz80_3, hcz80_4, hcz80_5, hcz80_6, hcz80_7, hcz80_8, hfz80_0, hfz80_1, hfz80_2, hfz80_3, hfz80_4, hfz80_5, hfz80_6, hfz80_7, hfz80_8⟩ := blk_cells9 BK392.out
               try go_wp2
               have n0_ : Aside0 (Kd.R (Kd.int .i64) 3 (w77.setCell ⟨gb392, 4, none⟩ (.int .i64 ((rd_T41 l0_0 x10_3).f2))) w.heap.size (fun _ => True) (.slice (some ad393) t359.length co67) t359) := ⟨by (with_reducible repeat (first | apply Kd.R_alloc | apply Kd.R_drewN | apply Kd.R_drew)); exact Kd.R_mono (Kd.R_far (p := ⟨gb392, 4, none⟩) (Kd.R_types HO_3.out BK392.out (by decide)) (fun _ hk => hk.2) (.int .i64 ((rd_T41 l0_0 x10_3).f2))) (fun _ hk => trivial)⟩
               have n1_ : Aside0 (Kd.S k41 41 (w77.setCell ⟨gb392, 4, none⟩ (.int .i64 ((rd_T41 l0_0 x10_3).f2))) w.heap.size (fun k_ => some k_ ≠ (.slice Ao28 t376.length co28 : Value).ownBlock ∧ k_ ≠ gb392) (.slice (some ad391) t366.length co11) t366) := ⟨by (with_reducible repeat (first | apply Kd.S_alloc | apply Kd.S_drewN | apply Kd.S_drew)); exact Kd.S_mono (Kd.S_far (p := ⟨gb392, 4, none⟩) (Kd.S_mono HO_373000.out (fun k_ hk => (⟨hk, hk.2⟩ : _ ∧ k_ ≠ gb392))) (fun _ hk => hk.2) (.int .i64 ((rd_T41 l0_0 x10_3).f2))) (fun _ hk => ⟨hk.1.1, hk.1.2⟩)⟩
               have n2_ : Aside0 (Kd.S k41 41 (w77.setCell ⟨gb392, 4, none⟩ (.int .i64 ((rd_T41 l0_0 x10_3).f2))) w.heap.size (fun k_ => some k_ ≠ (.slice (some ad391) t366.length co11 : Value).ownBlock ∧ k_ ≠ gb392) (.slice Ao28 t376.length co28) t376) := ⟨by (with_reducible repeat (first | apply Kd.S_alloc | apply Kd.S_drewN | apply Kd.S_drew)); exact Kd.S_mono (Kd.S_far (p := ⟨gb392, 4, none⟩) (Kd.S_mono HO_383000.out (fun k_ hk => (⟨hk, hk.2⟩ : _ ∧ k_ ≠ gb392))) (fun _ hk => hk.2) (.int .i64 ((rd_T41 l0_0 x10_3).f2))) (fun _ hk => ⟨hk.1.1, hk.1.2⟩)⟩
               have n3_ : Aside0 (Kd.R k62 62 (w77.setCell ⟨gb392, 4, none⟩ (.int .i64 ((rd_T41 l0_0 x10_3).f2))) w.heap.size (fun k_ => some k_ ≠ (.slice (some ad391) t366.length co11 : Value).ownBlock ∧ some k_ ≠ (.slice Ao28 t376.length co28 : Value).ownBlock) (.slice A391_8 ((rd_T41 t366 x10_3).f5.f1).length c391_8) ((rd_T41 t366 x10_3).f5.f1)) := ⟨by (with_reducible repeat (first | apply Kd.R_alloc | apply Kd.R_drewN | apply Kd.R_drew)); exact Kd.R_mono (Kd.R_far (p := ⟨gb392, 4, none⟩) (Kd.R_types HL391_8.out BK392.out (by decide)) (fun _ hk => hk.2) (.int .i64 ((rd_T41 l0_0 x10_3).f2))) (fun _ hk => ⟨hk.1.1, hk.1.2⟩)⟩
               have n4_ : Aside0 ((w77.setCell ⟨gb392, 4, none⟩ (.int .i64 ((rd_T41 l0_0 x10_3).f2))).heap[gb358]? = some (.cells #[.slice (some ad394) l0_0.length c0_0] 24 (0, 0))) := ⟨by (with_reducible repeat (first | apply b1 | apply b2 | apply b3)); refine blk_far ?_ NB358_392.out _; (with_reducible repeat (first | apply b1 | apply b2 | apply b3)); exact BK358.out⟩
               have n5_ : Aside0 ((w77.setCell ⟨gb392, 4, none⟩ (.int .i64 ((rd_T41 l0_0 x10_3).f2))).heap[gb372]? = some (.cells #[.slice (some ad391) t366.length co11] 24 (0, 0))) := ⟨by (with_reducible repeat (first | apply b1 | apply b2 | apply b3)); refine blk_far ?_ NB372_392.out _; (with_reducible repeat (first | apply b1 | apply b2 | apply b3)); exact BK372.out⟩
               have n6_ : Aside0 ((w77.setCell ⟨gb392, 4, none⟩ (.int .i64 ((rd_T41 l0_0 x10_3).f2))).heap[gb382]? = some (.cells #[.slice Ao28 t376.length co28] 24 (0, 0))) := ⟨by (with_reducible repeat (first | apply b1 | apply b2 | apply b3)); refine blk_far ?_ NB382_392.out _; (with_reducible repeat (first | apply b1 | apply b2 | apply b3)); exact BK382.out⟩
               have n7_ : Aside0 ((w77.setCell ⟨gb392, 4, none⟩ (.int .i64 ((rd_T41 l0_0 x10_3).f2))).heap[gb392]? = some (.cells #[.int .i64 ((rd_T41 t366 x10_3).f0.f0), .int .i64 ((rd_T41 t366 x10_3).f0.f1), .int .i64 ((rd_T41 t366 x10_3).f1.f0), .int .i64 ((rd_T41 t366 x10_3).f1.f1), .int .i64 ((rd_T41 l0_0 x10_3).f2), .int .i64 ((rd_T41 t366 x10_3).f3), .string ((rd_T41 t366 x10_3).f4), .string ((rd_T41 t366 x10_3).f5.f0), .slice A391_8 ((rd_T41 t366 x10_3).f5.f1).length c391_8] 41 (0, 0))) := ⟨by (with_reducible repeat (first | apply b1 | apply b2 | apply b3)); refine blk_put (cs := #[.int .i64 ((rd_T41 t366 x10_3).f0.f0), .int .i64 ((rd_T41 t366 x10_3).f0.f1), .int .i64 ((rd_T41 t366 x10_3).f1.f0), .int .i64 ((rd_T41 t366 x10_3).f1.f1), .int .i64 ((rd_T41 t366 x10_3).f2), .int .i64 ((rd_T41 t366 x10_3).f3), .string ((rd_T41 t366 x10_3).f4), .string ((rd_T41 t366 x10_3).f5.f0), .slice A391_8 ((rd_T41 t366 x10_3).f5.f1).length c391_8]) ?_ 4 _ rfl; (with_reducible repeat (first | apply b1 | apply b2 | apply b3)); exact BK392.out⟩
               have n8_ : Aside0 (Below w.heap.size w (w77.setCell ⟨gb392, 4, none⟩ (.int .i64 ((rd_T41 l0_0 x10_3).f2)))) := ⟨by repeat (first | (with_reducible first | exact HB.out | apply l1 | apply l2 | apply l3 | refine below_set ?_ GE358.out | refine below_set ?_ GE372.out | refine below_set ?_ GE382.out | refine below_set ?_ GE392.out) | exact HB.out)⟩
               (try clear HO_3)
               (try clear HO_373000)
               (try clear HO_383000)
               (try clear HL391_8)
               (try clear BK358)
               (try clear BK372)
               (try clear BK382)
               (try clear BK392)
               (try clear HB)
               generalize (w77.setCell ⟨gb392, 4, none⟩ (.int .i64 ((rd_T41 l0_0 x10_3).f2))) = w81 at n0_ n1_ n2_ n3_ n4_ n5_ n6_ n7_ n8_ ⊢
               have HO_3 := n0_
               have HO_373000 := n1_
               have HO_383000 := n2_
               have HL391_8 := n3_
               have BK358 := n4_
               have BK372 := n5_
               have BK382 := n6_
               have BK392 := n7_
               have HB := n8_
               clear n0_ n1_ n2_ n3_ n4_ n5_ n6_ n7_ n8_
               have n0_ := Aside0.mk (Kd.R_drew HO_3.out)
               have n1_ := Aside0.mk (Kd.S_drew HO_373000.out)
               have n2_ := Aside0.mk (Kd.S_drew HO_383000.out)
               have n3_ := Aside0.mk (Kd.R_drew HL391_8.out)
               have n4_ := Aside0.mk (blk_drew BK358.out)
               have n5_ := Aside0.mk (blk_drew BK372.out)
               have n6_ := Aside0.mk (blk_drew BK382.out)
               have n7_ := Aside0.mk (blk_drew BK392.out)
               have n8_ := Aside0.mk (below_drew1 HB.out)
               clear HO_3
               clear HO_373000
               clear HO_383000
               clear HL391_8
               clear BK358
               clear BK372
               clear BK382
               clear BK392
               clear HB
               have HO_3 := n0_
               have HO_373000 := n1_
               have HO_383000 := n2_
               have HL391_8 := n3_
               have BK358 := n4_
               have BK372 := n5_
               have BK382 := n6_
               have BK392 := n7_
               have HB := n8_
               clear n0_ n1_ n2_ n3_ n4_ n5_ n6_ n7_ n8_
               have p395 : 0 ≤ (x10_3 : Int) := of_decide_eq_true (by first | (with_reducible assumption) | assumption)
               have q395 : x10_3 < (l0_0.length : Int) := of_decide_eq_true (by first | (with_reducible assumption) | assumption)
               obtain ⟨ad395, A395_8, c395_8, e395, hx395_0, hx395_1, hx395_2, hx395_3, hx395_4, hx395_5, hx395_6, hx395_7, hx395_8, hl395_8, hi395_8⟩ := at_T41 HR0_0.out x10_3 p395 q395
               have hw395_8 := hx395_8
               have hw395_7 := hx395_7
               have hw395_6 := hx395_6
               have hw395_5 := hx395_5
               have hw395_4 := hx395_4
               have hw395_3 := hx395_3
               have hw395_2 := hx395_2
               have hw395_1 := hx395_1
               have hw395_0 := hx395_0
               obtain rfl : ad394 = ad395 := (by injection e395)
               replace hx395_0 := (HB.out.cell (World.block_lt_of_cell? w _ hx395_0)).trans hx395_0
               replace hx395_1 := (HB.out.cell (World.block_lt_of_cell? w _ hx395_1)).trans hx395_1
               replace hx395_2 := (HB.out.cell (World.block_lt_of_cell? w _ hx395_2)).trans hx395_2
               replace hx395_3 := (HB.out.cell (World.block_lt_of_cell? w _ hx395_3)).trans hx395_3
               replace hx395_4 := (HB.out.cell (World.block_lt_of_cell? w _ hx395_4)).trans hx395_4
               replace hx395_5 := (HB.out.cell (World.block_lt_of_cell? w _ hx395_5)).trans hx395_5
               replace hx395_6 := (HB.out.cell (World.block_lt_of_cell? w _ hx395_6)).trans hx395_6
               replace hx395_7 := (HB.out.cell (World.block_lt_of_cell? w _ hx395_7)).trans hx395_7
               replace hx395_8 := (HB.out.cell (World.block_lt_of_cell? w _ hx395_8)).trans hx395_8
               have HR395_8 := Aside0.mk hi395_8
               have HC395_8 := Aside0.mk hl395_8
               clear hi395_8 hl395_8
               replace p395 := eq_true p395
               replace q395 := eq_true q395
               refine start_ (n := 8) (S := fun w' => w'.cell? ⟨gb392, 0, none⟩ = some (.int .i64 ((rd_T41 t366 x10_3).f0.f0)) ∧ w'.cell? ⟨gb392, 1, none⟩ = some (.int .i64 ((rd_T41 t366 x10_3).f0.f1)) ∧ w'.cell? ⟨gb392, 2, none⟩ = some (.int .i64 ((rd_T41 t366 x10_3).f1.f0)) ∧ w'.cell? ⟨gb392, 3, none⟩ = some (.int .i64 ((rd_T41 t366 x10_3).f1.f1)) ∧ w'.cell? ⟨gb392, 4, none⟩ = some (.int .i64 ((rd_T41 l0_0 x10_3).f2)) ∧ w'.cell? ⟨gb392, 5, none⟩ = some (.int .i64 ((rd_T41 t366 x10_3).f3)) ∧ w'.cell? ⟨gb392, 6, none⟩ = some (.string ((rd_T41 t366 x10_3).f4)) ∧ w'.cell? ⟨gb392, 7, none⟩ = some (.string ((rd_T41 t366 x10_3).f5.f0)) ∧ w'.cell? ⟨gb392, 8, none⟩ = some (.slice A391_8 ((rd_T41 t366 x10_3).f5.f1).length c391_8) ∧ w'.cell? ⟨gb358, 0, none⟩ = some (.slice (some ad394) l0_0.length c0_0) ∧ w'.cell? (ad394.add ((x10_3).toNat * 9)) = some (.int .i64 ((rd_T41 l0_0 x10_3).f0.f0)) ∧ w'.cell? ⟨(ad394.add ((x10_3).toNat * 9)).block, (ad394.add ((x10_3).toNat * 9)).off + 1, none⟩ = some (.int .i64 ((rd_T41 l0_0 x10_3).f0.f1)) ∧ w'.cell? ⟨(ad394.add ((x10_3).toNat * 9)).block, (ad394.add ((x10_3).toNat * 9)).off + 2, none⟩ = some (.int .i64 ((rd_T41 l0_0 x10_3).f1.f0)) ∧ w'.cell? ⟨(ad394.add ((x10_3).toNat * 9)).block, (ad394.add ((x10_3).toNat * 9)).off + 3, none⟩ = some (.int .i64 ((rd_T41 l0_0 x10_3).f1.f1)) ∧ w'.cell? ⟨(ad394.add ((x10_3).toNat * 9)).block, (ad394.add ((x10_3).toNat * 9)).off + 4, none⟩ = some (.int .i64 ((rd_T41 l0_0 x10_3).f2)) ∧ w'.cell? ⟨(ad394.add ((x10_3).toNat * 9)).block, (ad394.add ((x10_3).toNat * 9)).off + 5, none⟩ = some (.int .i64 ((rd_T41 l0_0 x10_3).f3)) ∧ w'.cell? ⟨(ad394.add ((x10_3).toNat * 9)).block, (ad394.add ((x10_3).toNat * 9)).off + 6, none⟩ = some (.string ((rd_T41 l0_0 x10_3).f4)) ∧ w'.cell? ⟨(ad394.add ((x10_3).toNat * 9)).block, (ad394.add ((x10_3).toNat * 9)).off + 7, none⟩ = some (.string ((rd_T41 l0_0 x10_3).f5.f0)) ∧ w'.cell? ⟨(ad394.add ((x10_3).toNat * 9)).block, (ad394.add ((x10_3).toNat * 9)).off + 8, none⟩ = some (.slice A395_8 ((rd_T41 l0_0 x10_3).f5.f1).length c395_8)) (ds := []) #[false, false, false, false, false, false, false, false] (by kernel_rfl) rfl rfl ⟨(blk_cell BK392.out 0).trans rfl, (blk_cell BK392.out 1).trans rfl, (blk_cell BK392.out 2).trans rfl, (blk_cell BK392.out 3).trans rfl, (blk_cell BK392.out 4).trans rfl, (blk_cell BK392.out 5).trans rfl, (blk_cell BK392.out 6).trans rfl, (blk_cell BK392.out 7).trans rfl, (blk_cell BK392.out 8).trans rfl, (blk_cell BK358.out 0).trans rfl, ((HB.out.cell (World.block_lt_of_cell? w _ hw395_0)).trans hw395_0), ((HB.out.cell (World.block_lt_of_cell? w _ hw395_1)).trans hw395_1), ((HB.out.cell (World.block_lt_of_cell? w _ hw395_2)).trans hw395_2), ((HB.out.cell (World.block_lt_of_cell? w _ hw395_3)).trans hw395_3), ((HB.out.cell (World.block_lt_of_cell? w _ hw395_4)).trans hw395_4), ((HB.out.cell (World.block_lt_of_cell? w _ hw395_5)).trans hw395_5), ((HB.out.cell (World.block_lt_of_cell? w _ hw395_6)).trans hw395_6), ((HB.out.cell (World.block_lt_of_cell? w _ hw395_7)).trans hw395_7), ((HB.out.cell (World.block_lt_of_cell? w _ hw395_8)).trans hw395_8)⟩ (fun hHeld => ?_); refine with_tabW surtitlelaw13_LaneLaid.tab15 surtitlelaw13_LaneLaid.bits15 (fun HT_ HW_ => ?_)
               generalize w81.drew = w82 at HO_3 HO_373000 HO_383000 HL391_8 BK358 BK372 BK382 BK392 HB HR395_8 hx395_0 hx395_1 hx395_2 hx395_3 hx395_4 hx395_5 hx395_6 hx395_7 hx395_8 hHeld ⊢
               refine pure_ (i := 1) (N := some 97) (v := ?_) (a' := ?_) #[false, true, false, false, false, false, false, false] rfl rfl (any_of HT_.out (by kernel_rfl)) (fun _ _ _ h => h) (Or.inl ⟨by rfl, ?_⟩) ?_ ?_
               rotate_left
               ·intro w'
                go_simp
                with_reducible rfl
               rotate_left
               ·simp only [Act.put, List.setIfInBounds_toArray, List.set_cons_zero, List.set_cons_succ, i64_w, i32_w]
                rfl
               refine pure_ (i := 3) (N := some 99) (v := ?_) (a' := ?_) #[false, true, false, true, false, false, false, false] rfl rfl (any_of HT_.out (by kernel_rfl)) (fun _ _ _ h => h) (Or.inl ⟨by rfl, ?_⟩) ?_ ?_
               rotate_left
               ·intro w'
                go_simp
                with_reducible rfl
               rotate_left
               ·simp only [Act.put, List.setIfInBounds_toArray, List.set_cons_zero, List.set_cons_succ, i64_w, i32_w]
                rfl
               refine take_ (i := 0) (N := some 96) (v := ?_) (a' := ?_) #[true, true, false, true, false, false, false, false] rfl rfl (take_ofW HT_.out HW_.out (by kernel_rfl)) (fun _ _ _ h => h) (Or.inl ⟨by rfl, ?_⟩) hHeld ?_ ?_
               rotate_left
               ·rintro w' ⟨s0, s1, s2, s3, s4, s5, s6, s7, s8, s9, s10, s11, s12, s13, s14, s15, s16, s17, s18⟩
                go_simp
                with_reducible rfl
               rotate_left
               ·simp only [Act.put, List.setIfInBounds_toArray, List.set_cons_zero, List.set_cons_succ, i64_w, i32_w]
                rfl
               refine take_ (i := 2) (N := some 98) (v := ?_) (a' := ?_) #[true, true, true, true, false, false, false, false] rfl rfl (take_ofW HT_.out HW_.out (by kernel_rfl)) (fun _ _ _ h => h) (Or.inl ⟨by rfl, ?_⟩) hHeld ?_ ?_
               rotate_left
               ·rintro w' ⟨s0, s1, s2, s3, s4, s5, s6, s7, s8, s9, s10, s11, s12, s13, s14, s15, s16, s17, s18⟩
                go_simp
                with_reducible rfl
               rotate_left
               ·simp only [Act.put, List.setIfInBounds_toArray, List.set_cons_zero, List.set_cons_succ, i64_w, i32_w]
                rfl
               refine pure_ (i := 4) (N := some 100) (v := ?_) (a' := ?_) #[true, true, true, true, true, false, false, false] rfl rfl (any_of HT_.out (by kernel_rfl)) (fun _ _ _ h => h) (Or.inl ⟨by rfl, ?_⟩) ?_ ?_
               rotate_left
               ·intro w'
                go_simp
                with_reducible rfl
               rotate_left
               ·simp only [Act.put, List.setIfInBounds_toArray, List.set_cons_zero, List.set_cons_succ, i64_w, i32_w]
                rfl
               refine take_ (i := 5) (N := some 101) (v := ?_) (a' := ?_) #[true, true, true, true, true, true, false, false] rfl rfl (take_ofW HT_.out HW_.out (by kernel_rfl)) (fun _ _ _ h => h) (Or.inl ⟨by rfl, ?_⟩) hHeld ?_ ?_
               rotate_left
               ·rintro w' ⟨s0, s1, s2, s3, s4, s5, s6, s7, s8, s9, s10, s11, s12, s13, s14, s15, s16, s17, s18⟩
                go_simp
                with_reducible rfl
               rotate_left
               ·simp only [Act.put, List.setIfInBounds_toArray, List.set_cons_zero, List.set_cons_succ, i64_w, i32_w]
                rfl
               refine one_ (i := 6) (N := some 102) #[true, true, true, true, true, true, true, false] rfl rfl (one_of HT_.out (by kernel_rfl)) (by decide) (fun K hK => ?_)
               refine goes_ Try.func14 (by kernel_rfl) rfl #[.agg #[.int .i64 ((rd_T41 t366 x10_3).f0.f0), .int .i64 ((rd_T41 t366 x10_3).f0.f1), .int .i64 ((rd_T41 t366 x10_3).f1.f0), .int .i64 ((rd_T41 t366 x10_3).f1.f1), .int .i64 ((rd_T41 l0_0 x10_3).f2), .int .i64 ((rd_T41 t366 x10_3).f3), .string ((rd_T41 t366 x10_3).f4), .string ((rd_T41 t366 x10_3).f5.f0), .slice A391_8 ((rd_T41 t366 x10_3).f5.f1).length c391_8], .agg #[.int .i64 ((rd_T41 l0_0 x10_3).f0.f0), .int .i64 ((rd_T41 l0_0 x10_3).f0.f1), .int .i64 ((rd_T41 l0_0 x10_3).f1.f0), .int .i64 ((rd_T41 l0_0 x10_3).f1.f1), .int .i64 ((rd_T41 l0_0 x10_3).f2), .int .i64 ((rd_T41 l0_0 x10_3).f3), .string ((rd_T41 l0_0 x10_3).f4), .string ((rd_T41 l0_0 x10_3).f5.f0), .slice A395_8 ((rd_T41 l0_0 x10_3).f5.f1).length c395_8]] (by rfl) rfl rfl (by (try simp only [List.map_toArray, List.map_cons, List.map_nil]); first | done | rfl | (simp only [List.length_drop, List.length_take]; rfl)) ?_
               with_reducible refine (surtitlelaw13_SameCue.calls k3 ((rd_T41 t366 x10_3).f0.f0) ((rd_T41 t366 x10_3).f0.f1) ((rd_T41 t366 x10_3).f1.f0) ((rd_T41 t366 x10_3).f1.f1) ((rd_T41 l0_0 x10_3).f2) ((rd_T41 t366 x10_3).f3) ((rd_T41 t366 x10_3).f4) ((rd_T41 t366 x10_3).f5.f0) _ _ ((rd_T41 t366 x10_3).f5.f1) ((rd_T41 l0_0 x10_3).f0.f0) ((rd_T41 l0_0 x10_3).f0.f1) ((rd_T41 l0_0 x10_3).f1.f0) ((rd_T41 l0_0 x10_3).f1.f1) ((rd_T41 l0_0 x10_3).f2) ((rd_T41 l0_0 x10_3).f3) ((rd_T41 l0_0 x10_3).f4) ((rd_T41 l0_0 x10_3).f5.f0) _ _ ((rd_T41 l0_0 x10_3).f5.f1) true _ ?side1 ?side2 ?side3 ?side4 A65.out).mono ?_
               (case side1 => repeat (first | exact ((Kd.R_reads' (by (with_reducible repeat (first | apply Kd.R_alloc | apply Kd.R_drewN | apply Kd.R_drew)); exact HL391_8.out)).2.2) | (with_reducible refine Kd.C_alloc ?_ _) | (with_reducible refine Kd.C_drewN ?_ _) | (with_reducible refine Kd.C_drew ?_)))
               (case side2 => exact HC391_8.out)
               (case side3 => repeat (first | exact (Kd.C_below HR395_8.out HB.out) | (with_reducible refine Kd.C_alloc ?_ _) | (with_reducible refine Kd.C_drewN ?_ _) | (with_reducible refine Kd.C_drew ?_)))
               (case side4 => exact HC395_8.out)
               rintro e w83 ⟨rfl, hb⟩
               refine ⟨_, rfl, ?_⟩
               have n0_ := Aside0.mk (Kd.R_below (by (with_reducible repeat (first | apply Kd.R_alloc | apply Kd.R_drewN | apply Kd.R_drew)); exact HO_3.out) hb)
               have n1_ := Aside0.mk (Kd.S_below (by (with_reducible repeat (first | apply Kd.S_alloc | apply Kd.S_drewN | apply Kd.S_drew)); exact HO_373000.out) hb)
               have n2_ := Aside0.mk (Kd.S_below (by (with_reducible repeat (first | apply Kd.S_alloc | apply Kd.S_drewN | apply Kd.S_drew)); exact HO_383000.out) hb)
               have n3_ := Aside0.mk (Kd.R_below (by (with_reducible repeat (first | apply Kd.R_alloc | apply Kd.R_drewN | apply Kd.R_drew)); exact HL391_8.out) hb)
               have n4_ := Aside0.mk (blk_below (g := gb358) (o := .cells #[.slice (some ad394) l0_0.length c0_0] 24 (0, 0)) (by (with_reducible repeat (first | apply b1 | apply b2 | apply b3)); exact BK358.out) hb)
               have n5_ := Aside0.mk (blk_below (g := gb372) (o := .cells #[.slice (some ad391) t366.length co11] 24 (0, 0)) (by (with_reducible repeat (first | apply b1 | apply b2 | apply b3)); exact BK372.out) hb)
               have n6_ := Aside0.mk (blk_below (g := gb382) (o := .cells #[.slice Ao28 t376.length co28] 24 (0, 0)) (by (with_reducible repeat (first | apply b1 | apply b2 | apply b3)); exact BK382.out) hb)
               have n7_ := Aside0.mk (blk_below (g := gb392) (o := .cells #[.int .i64 ((rd_T41 t366 x10_3).f0.f0), .int .i64 ((rd_T41 t366 x10_3).f0.f1), .int .i64 ((rd_T41 t366 x10_3).f1.f0), .int .i64 ((rd_T41 t366 x10_3).f1.f1), .int .i64 ((rd_T41 l0_0 x10_3).f2), .int .i64 ((rd_T41 t366 x10_3).f3), .string ((rd_T41 t366 x10_3).f4), .string ((rd_T41 t366 x10_3).f5.f0), .slice A391_8 ((rd_T41 t366 x10_3).f5.f1).length c391_8] 41 (0, 0)) (by (with_reducible repeat (first | apply b1 | apply b2 | apply b3)); exact BK392.out) hb)
               have n8_ := Aside0.mk (below_step (by repeat (first | (with_reducible first | exact HB.out | apply l1 | apply l2 | apply l3 | refine below_set ?_ GE358.out | refine below_set ?_ GE372.out | refine below_set ?_ GE382.out | refine below_set ?_ GE392.out) | exact HB.out)) hb)
               clear HO_3
               clear HO_373000
               clear HO_383000
               clear HL391_8
               clear BK358
               clear BK372
               clear BK382
               clear BK392
               clear HB
               have HO_3 := n0_
               have HO_373000 := n1_
               have HO_383000 := n2_
               have HL391_8 := n3_
               have BK358 := n4_
               have BK372 := n5_
               have BK382 := n6_
               have BK392 := n7_
               have HB := n8_
               clear n0_ n1_ n2_ n3_ n4_ n5_ n6_ n7_ n8_
               (try clear hb)
               (try clear hb2)
               (try clear hk)
               (try clear hi)
               refine hK.out _ _ ⟨(blk_cell BK392.out 0).trans rfl, (blk_cell BK392.out 1).trans rfl, (blk_cell BK392.out 2).trans rfl, (blk_cell BK392.out 3).trans rfl, (blk_cell BK392.out 4).trans rfl, (blk_cell BK392.out 5).trans rfl, (blk_cell BK392.out 6).trans rfl, (blk_cell BK392.out 7).trans rfl, (blk_cell BK392.out 8).trans rfl, (blk_cell BK358.out 0).trans rfl, ((HB.out.cell (World.block_lt_of_cell? w _ hw395_0)).trans hw395_0), ((HB.out.cell (World.block_lt_of_cell? w _ hw395_1)).trans hw395_1), ((HB.out.cell (World.block_lt_of_cell? w _ hw395_2)).trans hw395_2), ((HB.out.cell (World.block_lt_of_cell? w _ hw395_3)).trans hw395_3), ((HB.out.cell (World.block_lt_of_cell? w _ hw395_4)).trans hw395_4), ((HB.out.cell (World.block_lt_of_cell? w _ hw395_5)).trans hw395_5), ((HB.out.cell (World.block_lt_of_cell? w _ hw395_6)).trans hw395_6), ((HB.out.cell (World.block_lt_of_cell? w _ hw395_7)).trans hw395_7), ((HB.out.cell (World.block_lt_of_cell? w _ hw395_8)).trans hw395_8)⟩ (fun hHeld => ?_)
               clear hK K
               refine norm_ (a' := ?_) ?_ ?_
               rotate_left
               ·show Act.put _ (some 102) _ = _
                simp only [Act.put, List.setIfInBounds_toArray, List.set_cons_zero, List.set_cons_succ, i64_w, i32_w]
                rfl
               refine pure_ (i := 7) (N := some 103) (v := ?_) (a' := ?_) #[true, true, true, true, true, true, true, true] rfl rfl (any_of HT_.out (by kernel_rfl)) (fun _ _ _ h => h) (Or.inl ⟨by rfl, ?_⟩) ?_ ?_
               rotate_left
               ·intro w'
                go_simp
                with_reducible rfl
               rotate_left
               ·simp only [Act.put, List.setIfInBounds_toArray, List.set_cons_zero, List.set_cons_succ, i64_w, i32_w]
                rfl
               refine done_ (done_of HT_.out (by kernel_rfl)) ?_
               try go_wp2
               go_roundg k3
               case measure => have := HJ3.out; have := HJ22.out; have := HK3.out; omega
               case rel => exact ⟨(wrap64 (x10_3 + 1)), (by first | rfl | (simp; done) | (simp [*]; done)), H', ⟨by have := HJ3.out; have := HJ22.out; have := HK3.out; omega⟩, ⟨by (with_reducible repeat (first | apply Kd.R_alloc | apply Kd.R_drewN | apply Kd.R_drew)); exact HO_3.out⟩, ⟨by (with_reducible repeat (first | apply Kd.S_alloc | apply Kd.S_drewN | apply Kd.S_drew)); exact Kd.S_mono HO_373000.out (fun _ hk => hk.1)⟩, ⟨by (with_reducible repeat (first | apply Kd.S_alloc | apply Kd.S_drewN | apply Kd.S_drew)); exact Kd.S_mono HO_383000.out (fun _ hk => hk.1)⟩, ⟨by (with_reducible repeat (first | apply b1 | apply b2 | apply b3)); exact BK358.out⟩, ⟨by (with_reducible repeat (first | apply b1 | apply b2 | apply b3)); exact BK372.out⟩, ⟨by (with_reducible repeat (first | apply b1 | apply b2 | apply b3)); exact BK382.out⟩, ⟨by repeat (first | (with_reducible first | exact HB.out | apply l1 | apply l2 | apply l3 | refine below_set ?_ GE358.out | refine below_set ?_ GE372.out | refine below_set ?_ GE382.out | refine below_set ?_ GE392.out) | exact HB.out)⟩⟩
              ·replace c66 := Bool.eq_false_iff.mpr c66
               subst c66
               have H1 : (some false) = some r := by rw [if_neg (show ¬ (false = true) by decide)] at H; exact H
               clear H
               have H := H1
               clear H1
               obtain rfl := Option.some.inj H
               obtain ⟨Ao84, co84, eo84⟩ := Kd.R_slice HO_3.out
               subst eo84
               have hnb85 := NB372_358.out
               have hnc85 := NB358_372.out
               have hnb86 := NB372_382.out
               have hnc86 := NB382_372.out
               obtain ⟨hcz87_0, hfz87_0⟩ := blk_cells1 BK372.out
               have p391 : 0 ≤ (x10_3 : Int) := of_decide_eq_true (by first | (with_reducible assumption) | assumption)
               have q391 : x10_3 < (t366.length : Int) := of_decide_eq_true (by first | (with_reducible assumption) | assumption)
               obtain ⟨ad391, A391_8, c391_8, e391, hx391_0, hx391_1, hx391_2, hx391_3, hx391_4, hx391_5, hx391_6, hx391_7, hx391_8, hl391_8, hi391_8⟩ := at_T41 (Kd.S_reads' HO_373000.out).2.2 x10_3 p391 q391
               cases e391
               obtain ⟨ce391, hce391, hMe391, hcc391⟩ := Kd.S_get HO_373000.out z41 x10_3 p391 (by first | exact q391 | exact of_decide_eq_true (by first | (with_reducible assumption) | assumption) | (have e_ := (Kd.S_reads' HO_373000.out).1; omega))
               obtain ⟨ve391_8, rfl, ge391_8⟩ := k41_openM hMe391
               have hv391_8 := hcc391 8 _ rfl
               rw [add_field _ _ 8 (by omega)] at hv391_8
               replace hv391_8 := Option.some.inj (hv391_8.symm.trans hx391_8)
               rw [hv391_8] at ge391_8
               have HL391_8 := Aside0.mk (show Kd.R k62 62 _ _ _ _ ((rd_T41 t366 x10_3).f5.f1) from ge391_8)
               clear hv391_8 ge391_8
               clear hcc391 hce391
               have HR391_8 := Aside0.mk hi391_8
               have HC391_8 := Aside0.mk hl391_8
               clear hi391_8 hl391_8
               replace p391 := eq_true p391
               replace q391 := eq_true q391
               try go_wp2_with (first | ((with_reducible refine gate_dst (N := 11) rfl ?_); (try (refine gate_guard (by rfl) ?_; dsimp only)); refine box_event (by rfl) (N := 11) (by rfl) (cs := #[.int .i64 0, .int .i64 0, .int .i64 0, .int .i64 0, .int .i64 0, .int .i64 0, .string (⟨#[]⟩ : ByteArray), .string (⟨#[]⟩ : ByteArray), .slice none 0 0]) (t := 41) (by first | (go_simp; done) | (go_simp; rfl)) ?_; intro gb392 hg w88 hbox hb; obtain ⟨hb_, hw_⟩ := box_facts (by repeat (first | (with_reducible first | exact HB.out | apply l1 | apply l2 | apply l3 | refine below_set ?_ GE358.out | refine below_set ?_ GE372.out | refine below_set ?_ GE382.out) | exact HB.out)) hg hb; have n0_ := Aside0.mk (Kd.R_below (by (with_reducible repeat (first | apply Kd.R_alloc | apply Kd.R_drewN | apply Kd.R_drew)); exact HO_3.out) hb); have n1_ := Aside0.mk (Kd.S_below (Kd.S_elderB (by (with_reducible repeat (first | apply Kd.S_alloc | apply Kd.S_drewN | apply Kd.S_drew)); exact HO_373000.out) gb392 (Nat.le_of_eq hg.symm)) hb); have n2_ := Aside0.mk (Kd.S_below (Kd.S_elderB (by (with_reducible repeat (first | apply Kd.S_alloc | apply Kd.S_drewN | apply Kd.S_drew)); exact HO_383000.out) gb392 (Nat.le_of_eq hg.symm)) hb); have n3_ := Aside0.mk (Kd.R_below (by (with_reducible repeat (first | apply Kd.R_alloc | apply Kd.R_drewN | apply Kd.R_drew)); exact HL391_8.out) hb); have n4_ := Aside0.mk (blk_below (by (with_reducible repeat (first | apply b1 | apply b2 | apply b3)); exact BK358.out) hb); have n5_ := Aside0.mk (blk_below (by (with_reducible repeat (first | apply b1 | apply b2 | apply b3)); exact BK372.out) hb); have n6_ := Aside0.mk (blk_below (by (with_reducible repeat (first | apply b1 | apply b2 | apply b3)); exact BK382.out) hb); have n7_ := Aside0.mk (Kd.C_below (by repeat (first | (with_reducible exact HR391_8.out) | (with_reducible refine Kd.C_alloc ?_ _) | (with_reducible refine Kd.C_drewN ?_ _) | (with_reducible refine Kd.C_drew ?_) | exact HR391_8.out)) hb); have n8_ := Aside0.mk (hb_); have n9_ := Aside0.mk (hbox); have n10_ := Aside0.mk (hw_); have n11_ := Aside0.mk (hw_); have n12_ := Aside0.mk ((by rw [hg]; exact Nat.ne_of_lt (blk_lt (by (with_reducible repeat (first | apply b1 | apply b2 | apply b3)); exact BK358.out)) : gb358 ≠ gb392)); have n13_ := Aside0.mk ((by rw [hg]; exact Nat.ne_of_gt (blk_lt (by (with_reducible repeat (first | apply b1 | apply b2 | apply b3)); exact BK358.out)) : gb392 ≠ gb358)); have n14_ := Aside0.mk ((by rw [hg]; exact Nat.ne_of_lt (blk_lt (by (with_reducible repeat (first | apply b1 | apply b2 | apply b3)); exact BK372.out)) : gb372 ≠ gb392)); have n15_ := Aside0.mk ((by rw [hg]; exact Nat.ne_of_gt (blk_lt (by (with_reducible repeat (first | apply b1 | apply b2 | apply b3)); exact BK372.out)) : gb392 ≠ gb372)); have n16_ := Aside0.mk ((by rw [hg]; exact Nat.ne_of_lt (blk_lt (by (with_reducible repeat (first | apply b1 | apply b2 | apply b3)); exact BK382.out)) : gb382 ≠ gb392)); have n17_ := Aside0.mk ((by rw [hg]; exact Nat.ne_of_gt (blk_lt (by (with_reducible repeat (first | apply b1 | apply b2 | apply b3)); exact BK382.out)) : gb392 ≠ gb382)); clear HO_3; clear HO_373000; clear HO_383000; clear HL391_8; clear BK358; clear BK372; clear BK382; clear HR391_8; clear HB; have HO_3 := n0_; have HO_373000 := n1_; have HO_383000 := n2_; have HL391_8 := n3_; have BK358 := n4_; have BK372 := n5_; have BK382 := n6_; have HR391_8 := n7_; have HB := n8_; have BK392 := n9_; have GW392 := n10_; have GE392 := n11_; have NB358_392 := n12_; have NB392_358 := n13_; have NB372_392 := n14_; have NB392_372 := n15_; have NB382_392 := n16_; have NB392_382 := n17_; clear n0_ n1_ n2_ n3_ n4_ n5_ n6_ n7_ n8_ n9_ n10_ n11_ n12_ n13_ n14_ n15_ n16_ n17_; clear hb hbox hg hb_ hw_; have hnb89 := NB392_358.out; have hnc89 := NB358_392.out; have hnb90 := NB392_372.out; have hnc90 := NB372_392.out; have hnb91 := NB392_382.out; have hnc91 := NB382_392.out; obtain ⟨hcz92_0, hcz92_1, hcz92_2, hcz92_3, hcz92_4, hcz92_5, hcz92_6, hcz92_7, hcz92_8, hfz92_0, hfz92_1, hfz92_2, hfz92_3, hfz92_4, hfz92_5, hfz92_6, hfz92_7, hfz92_8⟩ := blk_cells9 BK392.out))
               have n0_ : Aside0 (Kd.R (Kd.int .i64) 3 (((((((((w88.setCell ⟨gb392, 0, none⟩ (.int .i64 ((rd_T41 t366 x10_3).f0.f0))).setCell ⟨gb392, 1, none⟩ (.int .i64 ((rd_T41 t366 x10_3).f0.f1))).setCell ⟨gb392, 2, none⟩ (.int .i64 ((rd_T41 t366 x10_3).f1.f0))).setCell ⟨gb392, 3, none⟩ (.int .i64 ((rd_T41 t366 x10_3).f1.f1))).setCell ⟨gb392, 4, none⟩ (.int .i64 ((rd_T41 t366 x10_3).f2))).setCell ⟨gb392, 5, none⟩ (.int .i64 ((rd_T41 t366 x10_3).f3))).setCell ⟨gb392, 6, none⟩ (.string ((rd_T41 t366 x10_3).f4))).setCell ⟨gb392, 7, none⟩ (.string ((rd_T41 t366 x10_3).f5.f0))).setCell ⟨gb392, 8, none⟩ (.slice A391_8 ((rd_T41 t366 x10_3).f5.f1).length c391_8)) w.heap.size (fun _ => True) (.slice Ao84 t359.length co84) t359) := ⟨by (with_reducible repeat (first | apply Kd.R_alloc | apply Kd.R_drewN | apply Kd.R_drew)); exact Kd.R_mono (Kd.R_far (p := ⟨gb392, 8, none⟩) (Kd.R_far (p := ⟨gb392, 7, none⟩) (Kd.R_far (p := ⟨gb392, 6, none⟩) (Kd.R_far (p := ⟨gb392, 5, none⟩) (Kd.R_far (p := ⟨gb392, 4, none⟩) (Kd.R_far (p := ⟨gb392, 3, none⟩) (Kd.R_far (p := ⟨gb392, 2, none⟩) (Kd.R_far (p := ⟨gb392, 1, none⟩) (Kd.R_far (p := ⟨gb392, 0, none⟩) (Kd.R_types HO_3.out BK392.out (by decide)) (fun _ hk => hk.2) (.int .i64 ((rd_T41 t366 x10_3).f0.f0))) (fun _ hk => hk.2) (.int .i64 ((rd_T41 t366 x10_3).f0.f1))) (fun _ hk => hk.2) (.int .i64 ((rd_T41 t366 x10_3).f1.f0))) (fun _ hk => hk.2) (.int .i64 ((rd_T41 t366 x10_3).f1.f1))) (fun _ hk => hk.2) (.int .i64 ((rd_T41 t366 x10_3).f2))) (fun _ hk => hk.2) (.int .i64 ((rd_T41 t366 x10_3).f3))) (fun _ hk => hk.2) (.string ((rd_T41 t366 x10_3).f4))) (fun _ hk => hk.2) (.string ((rd_T41 t366 x10_3).f5.f0))) (fun _ hk => hk.2) (.slice A391_8 ((rd_T41 t366 x10_3).f5.f1).length c391_8)) (fun _ hk => trivial)⟩
               have n1_ : Aside0 (Kd.S k41 41 (((((((((w88.setCell ⟨gb392, 0, none⟩ (.int .i64 ((rd_T41 t366 x10_3).f0.f0))).setCell ⟨gb392, 1, none⟩ (.int .i64 ((rd_T41 t366 x10_3).f0.f1))).setCell ⟨gb392, 2, none⟩ (.int .i64 ((rd_T41 t366 x10_3).f1.f0))).setCell ⟨gb392, 3, none⟩ (.int .i64 ((rd_T41 t366 x10_3).f1.f1))).setCell ⟨gb392, 4, none⟩ (.int .i64 ((rd_T41 t366 x10_3).f2))).setCell ⟨gb392, 5, none⟩ (.int .i64 ((rd_T41 t366 x10_3).f3))).setCell ⟨gb392, 6, none⟩ (.string ((rd_T41 t366 x10_3).f4))).setCell ⟨gb392, 7, none⟩ (.string ((rd_T41 t366 x10_3).f5.f0))).setCell ⟨gb392, 8, none⟩ (.slice A391_8 ((rd_T41 t366 x10_3).f5.f1).length c391_8)) w.heap.size (fun k_ => some k_ ≠ (.slice Ao28 t376.length co28 : Value).ownBlock ∧ k_ ≠ gb392) (.slice (some ad391) t366.length co11) t366) := ⟨by (with_reducible repeat (first | apply Kd.S_alloc | apply Kd.S_drewN | apply Kd.S_drew)); exact Kd.S_mono (Kd.S_far (p := ⟨gb392, 8, none⟩) (Kd.S_far (p := ⟨gb392, 7, none⟩) (Kd.S_far (p := ⟨gb392, 6, none⟩) (Kd.S_far (p := ⟨gb392, 5, none⟩) (Kd.S_far (p := ⟨gb392, 4, none⟩) (Kd.S_far (p := ⟨gb392, 3, none⟩) (Kd.S_far (p := ⟨gb392, 2, none⟩) (Kd.S_far (p := ⟨gb392, 1, none⟩) (Kd.S_far (p := ⟨gb392, 0, none⟩) (Kd.S_mono HO_373000.out (fun k_ hk => (⟨hk, hk.2⟩ : _ ∧ k_ ≠ gb392))) (fun _ hk => hk.2) (.int .i64 ((rd_T41 t366 x10_3).f0.f0))) (fun _ hk => hk.2) (.int .i64 ((rd_T41 t366 x10_3).f0.f1))) (fun _ hk => hk.2) (.int .i64 ((rd_T41 t366 x10_3).f1.f0))) (fun _ hk => hk.2) (.int .i64 ((rd_T41 t366 x10_3).f1.f1))) (fun _ hk => hk.2) (.int .i64 ((rd_T41 t366 x10_3).f2))) (fun _ hk => hk.2) (.int .i64 ((rd_T41 t366 x10_3).f3))) (fun _ hk => hk.2) (.string ((rd_T41 t366 x10_3).f4))) (fun _ hk => hk.2) (.string ((rd_T41 t366 x10_3).f5.f0))) (fun _ hk => hk.2) (.slice A391_8 ((rd_T41 t366 x10_3).f5.f1).length c391_8)) (fun _ hk => ⟨hk.1.1, hk.1.2⟩)⟩
               have n2_ : Aside0 (Kd.S k41 41 (((((((((w88.setCell ⟨gb392, 0, none⟩ (.int .i64 ((rd_T41 t366 x10_3).f0.f0))).setCell ⟨gb392, 1, none⟩ (.int .i64 ((rd_T41 t366 x10_3).f0.f1))).setCell ⟨gb392, 2, none⟩ (.int .i64 ((rd_T41 t366 x10_3).f1.f0))).setCell ⟨gb392, 3, none⟩ (.int .i64 ((rd_T41 t366 x10_3).f1.f1))).setCell ⟨gb392, 4, none⟩ (.int .i64 ((rd_T41 t366 x10_3).f2))).setCell ⟨gb392, 5, none⟩ (.int .i64 ((rd_T41 t366 x10_3).f3))).setCell ⟨gb392, 6, none⟩ (.string ((rd_T41 t366 x10_3).f4))).setCell ⟨gb392, 7, none⟩ (.string ((rd_T41 t366 x10_3).f5.f0))).setCell ⟨gb392, 8, none⟩ (.slice A391_8 ((rd_T41 t366 x10_3).f5.f1).length c391_8)) w.heap.size (fun k_ => some k_ ≠ (.slice (some ad391) t366.length co11 : Value).ownBlock ∧ k_ ≠ gb392) (.slice Ao28 t376.length co28) t376) := ⟨by (with_reducible repeat (first | apply Kd.S_alloc | apply Kd.S_drewN | apply Kd.S_drew)); exact Kd.S_mono (Kd.S_far (p := ⟨gb392, 8, none⟩) (Kd.S_far (p := ⟨gb392, 7, none⟩) (Kd.S_far (p := ⟨gb392, 6, none⟩) (Kd.S_far (p := ⟨gb392, 5, none⟩) (Kd.S_far (p := ⟨gb392, 4, none⟩) (Kd.S_far (p := ⟨gb392, 3, none⟩) (Kd.S_far (p := ⟨gb392, 2, none⟩) (Kd.S_far (p := ⟨gb392, 1, none⟩) (Kd.S_far (p := ⟨gb392, 0, none⟩) (Kd.S_mono HO_383000.out (fun k_ hk => (⟨hk, hk.2⟩ : _ ∧ k_ ≠ gb392))) (fun _ hk => hk.2) (.int .i64 ((rd_T41 t366 x10_3).f0.f0))) (fun _ hk => hk.2) (.int .i64 ((rd_T41 t366 x10_3).f0.f1))) (fun _ hk => hk.2) (.int .i64 ((rd_T41 t366 x10_3).f1.f0))) (fun _ hk => hk.2) (.int .i64 ((rd_T41 t366 x10_3).f1.f1))) (fun _ hk => hk.2) (.int .i64 ((rd_T41 t366 x10_3).f2))) (fun _ hk => hk.2) (.int .i64 ((rd_T41 t366 x10_3).f3))) (fun _ hk => hk.2) (.string ((rd_T41 t366 x10_3).f4))) (fun _ hk => hk.2) (.string ((rd_T41 t366 x10_3).f5.f0))) (fun _ hk => hk.2) (.slice A391_8 ((rd_T41 t366 x10_3).f5.f1).length c391_8)) (fun _ hk => ⟨hk.1.1, hk.1.2⟩)⟩
               have n3_ : Aside0 (Kd.R k62 62 (((((((((w88.setCell ⟨gb392, 0, none⟩ (.int .i64 ((rd_T41 t366 x10_3).f0.f0))).setCell ⟨gb392, 1, none⟩ (.int .i64 ((rd_T41 t366 x10_3).f0.f1))).setCell ⟨gb392, 2, none⟩ (.int .i64 ((rd_T41 t366 x10_3).f1.f0))).setCell ⟨gb392, 3, none⟩ (.int .i64 ((rd_T41 t366 x10_3).f1.f1))).setCell ⟨gb392, 4, none⟩ (.int .i64 ((rd_T41 t366 x10_3).f2))).setCell ⟨gb392, 5, none⟩ (.int .i64 ((rd_T41 t366 x10_3).f3))).setCell ⟨gb392, 6, none⟩ (.string ((rd_T41 t366 x10_3).f4))).setCell ⟨gb392, 7, none⟩ (.string ((rd_T41 t366 x10_3).f5.f0))).setCell ⟨gb392, 8, none⟩ (.slice A391_8 ((rd_T41 t366 x10_3).f5.f1).length c391_8)) w.heap.size (fun k_ => some k_ ≠ (.slice (some ad391) t366.length co11 : Value).ownBlock ∧ some k_ ≠ (.slice Ao28 t376.length co28 : Value).ownBlock) (.slice A391_8 ((rd_T41 t366 x10_3).f5.f1).length c391_8) ((rd_T41 t366 x10_3).f5.f1)) := ⟨by (with_reducible repeat (first | apply Kd.R_alloc | apply Kd.R_drewN | apply Kd.R_drew)); exact Kd.R_mono (Kd.R_far (p := ⟨gb392, 8, none⟩) (Kd.R_far (p := ⟨gb392, 7, none⟩) (Kd.R_far (p := ⟨gb392, 6, none⟩) (Kd.R_far (p := ⟨gb392, 5, none⟩) (Kd.R_far (p := ⟨gb392, 4, none⟩) (Kd.R_far (p := ⟨gb392, 3, none⟩) (Kd.R_far (p := ⟨gb392, 2, none⟩) (Kd.R_far (p := ⟨gb392, 1, none⟩) (Kd.R_far (p := ⟨gb392, 0, none⟩) (Kd.R_types HL391_8.out BK392.out (by decide)) (fun _ hk => hk.2) (.int .i64 ((rd_T41 t366 x10_3).f0.f0))) (fun _ hk => hk.2) (.int .i64 ((rd_T41 t366 x10_3).f0.f1))) (fun _ hk => hk.2) (.int .i64 ((rd_T41 t366 x10_3).f1.f0))) (fun _ hk => hk.2) (.int .i64 ((rd_T41 t366 x10_3).f1.f1))) (fun _ hk => hk.2) (.int .i64 ((rd_T41 t366 x10_3).f2))) (fun _ hk => hk.2) (.int .i64 ((rd_T41 t366 x10_3).f3))) (fun _ hk => hk.2) (.string ((rd_T41 t366 x10_3).f4))) (fun _ hk => hk.2) (.string ((rd_T41 t366 x10_3).f5.f0))) (fun _ hk => hk.2) (.slice A391_8 ((rd_T41 t366 x10_3).f5.f1).length c391_8)) (fun _ hk => ⟨hk.1.2, hk.1.1⟩)⟩
               have n4_ : Aside0 ((((((((((w88.setCell ⟨gb392, 0, none⟩ (.int .i64 ((rd_T41 t366 x10_3).f0.f0))).setCell ⟨gb392, 1, none⟩ (.int .i64 ((rd_T41 t366 x10_3).f0.f1))).setCell ⟨gb392, 2, none⟩ (.int .i64 ((rd_T41 t366 x10_3).f1.f0))).setCell ⟨gb392, 3, none⟩ (.int .i64 ((rd_T41 t366 x10_3).f1.f1))).setCell ⟨gb392, 4, none⟩ (.int .i64 ((rd_T41 t366 x10_3).f2))).setCell ⟨gb392, 5, none⟩ (.int .i64 ((rd_T41 t366 x10_3).f3))).setCell ⟨gb392, 6, none⟩ (.string ((rd_T41 t366 x10_3).f4))).setCell ⟨gb392, 7, none⟩ (.string ((rd_T41 t366 x10_3).f5.f0))).setCell ⟨gb392, 8, none⟩ (.slice A391_8 ((rd_T41 t366 x10_3).f5.f1).length c391_8)).heap[gb358]? = some (.cells #[.slice A0_0 l0_0.length c0_0] 24 (0, 0))) := ⟨by (with_reducible repeat (first | apply b1 | apply b2 | apply b3)); refine blk_far ?_ NB358_392.out _; (with_reducible repeat (first | apply b1 | apply b2 | apply b3)); refine blk_far ?_ NB358_392.out _; (with_reducible repeat (first | apply b1 | apply b2 | apply b3)); refine blk_far ?_ NB358_392.out _; (with_reducible repeat (first | apply b1 | apply b2 | apply b3)); refine blk_far ?_ NB358_392.out _; (with_reducible repeat (first | apply b1 | apply b2 | apply b3)); refine blk_far ?_ NB358_392.out _; (with_reducible repeat (first | apply b1 | apply b2 | apply b3)); refine blk_far ?_ NB358_392.out _; (with_reducible repeat (first | apply b1 | apply b2 | apply b3)); refine blk_far ?_ NB358_392.out _; (with_reducible repeat (first | apply b1 | apply b2 | apply b3)); refine blk_far ?_ NB358_392.out _; (with_reducible repeat (first | apply b1 | apply b2 | apply b3)); refine blk_far ?_ NB358_392.out _; (with_reducible repeat (first | apply b1 | apply b2 | apply b3)); exact BK358.out⟩
               have n5_ : Aside0 ((((((((((w88.setCell ⟨gb392, 0, none⟩ (.int .i64 ((rd_T41 t366 x10_3).f0.f0))).setCell ⟨gb392, 1, none⟩ (.int .i64 ((rd_T41 t366 x10_3).f0.f1))).setCell ⟨gb392, 2, none⟩ (.int .i64 ((rd_T41 t366 x10_3).f1.f0))).setCell ⟨gb392, 3, none⟩ (.int .i64 ((rd_T41 t366 x10_3).f1.f1))).setCell ⟨gb392, 4, none⟩ (.int .i64 ((rd_T41 t366 x10_3).f2))).setCell ⟨gb392, 5, none⟩ (.int .i64 ((rd_T41 t366 x10_3).f3))).setCell ⟨gb392, 6, none⟩ (.string ((rd_T41 t366 x10_3).f4))).setCell ⟨gb392, 7, none⟩ (.string ((rd_T41 t366 x10_3).f5.f0))).setCell ⟨gb392, 8, none⟩ (.slice A391_8 ((rd_T41 t366 x10_3).f5.f1).length c391_8)).heap[gb372]? = some (.cells #[.slice (some ad391) t366.length co11] 24 (0, 0))) := ⟨by (with_reducible repeat (first | apply b1 | apply b2 | apply b3)); refine blk_far ?_ NB372_392.out _; (with_reducible repeat (first | apply b1 | apply b2 | apply b3)); refine blk_far ?_ NB372_392.out _; (with_reducible repeat (first | apply b1 | apply b2 | apply b3)); refine blk_far ?_ NB372_392.out _; (with_reducible repeat (first | apply b1 | apply b2 | apply b3)); refine blk_far ?_ NB372_392.out _; (with_reducible repeat (first | apply b1 | apply b2 | apply b3)); refine blk_far ?_ NB372_392.out _; (with_reducible repeat (first | apply b1 | apply b2 | apply b3)); refine blk_far ?_ NB372_392.out _; (with_reducible repeat (first | apply b1 | apply b2 | apply b3)); refine blk_far ?_ NB372_392.out _; (with_reducible repeat (first | apply b1 | apply b2 | apply b3)); refine blk_far ?_ NB372_392.out _; (with_reducible repeat (first | apply b1 | apply b2 | apply b3)); refine blk_far ?_ NB372_392.out _; (with_reducible repeat (first | apply b1 | apply b2 | apply b3)); exact BK372.out⟩
               have n6_ : Aside0 ((((((((((w88.setCell ⟨gb392, 0, none⟩ (.int .i64 ((rd_T41 t366 x10_3).f0.f0))).setCell ⟨gb392, 1, none⟩ (.int .i64 ((rd_T41 t366 x10_3).f0.f1))).setCell ⟨gb392, 2, none⟩ (.int .i64 ((rd_T41 t366 x10_3).f1.f0))).setCell ⟨gb392, 3, none⟩ (.int .i64 ((rd_T41 t366 x10_3).f1.f1))).setCell ⟨gb392, 4, none⟩ (.int .i64 ((rd_T41 t366 x10_3).f2))).setCell ⟨gb392, 5, none⟩ (.int .i64 ((rd_T41 t366 x10_3).f3))).setCell ⟨gb392, 6, none⟩ (.string ((rd_T41 t366 x10_3).f4))).setCell ⟨gb392, 7, none⟩ (.string ((rd_T41 t366 x10_3).f5.f0))).setCell ⟨gb392, 8, none⟩ (.slice A391_8 ((rd_T41 t366 x10_3).f5.f1).length c391_8)).heap[gb382]? = some (.cells #[.slice Ao28 t376.length co28] 24 (0, 0))) := ⟨by (with_reducible repeat (first | apply b1 | apply b2 | apply b3)); refine blk_far ?_ NB382_392.out _; (with_reducible repeat (first | apply b1 | apply b2 | apply b3)); refine blk_far ?_ NB382_392.out _; (with_reducible repeat (first | apply b1 | apply b2 | apply b3)); refine blk_far ?_ NB382_392.out _; (with_reducible repeat (first | apply b1 | apply b2 | apply b3)); refine blk_far ?_ NB382_392.out _; (with_reducible repeat (first | apply b1 | apply b2 | apply b3)); refine blk_far ?_ NB382_392.out _; (with_reducible repeat (first | apply b1 | apply b2 | apply b3)); refine blk_far ?_ NB382_392.out _; (with_reducible repeat (first | apply b1 | apply b2 | apply b3)); refine blk_far ?_ NB382_392.out _; (with_reducible repeat (first | apply b1 | apply b2 | apply b3)); refine blk_far ?_ NB382_392.out _; (with_reducible repeat (first | apply b1 | apply b2 | apply b3)); refine blk_far ?_ NB382_392.out _; (with_reducible repeat (first | apply b1 | apply b2 | apply b3)); exact BK382.out⟩
               have n7_ : Aside0 ((((((((((w88.setCell ⟨gb392, 0, none⟩ (.int .i64 ((rd_T41 t366 x10_3).f0.f0))).setCell ⟨gb392, 1, none⟩ (.int .i64 ((rd_T41 t366 x10_3).f0.f1))).setCell ⟨gb392, 2, none⟩ (.int .i64 ((rd_T41 t366 x10_3).f1.f0))).setCell ⟨gb392, 3, none⟩ (.int .i64 ((rd_T41 t366 x10_3).f1.f1))).setCell ⟨gb392, 4, none⟩ (.int .i64 ((rd_T41 t366 x10_3).f2))).setCell ⟨gb392, 5, none⟩ (.int .i64 ((rd_T41 t366 x10_3).f3))).setCell ⟨gb392, 6, none⟩ (.string ((rd_T41 t366 x10_3).f4))).setCell ⟨gb392, 7, none⟩ (.string ((rd_T41 t366 x10_3).f5.f0))).setCell ⟨gb392, 8, none⟩ (.slice A391_8 ((rd_T41 t366 x10_3).f5.f1).length c391_8)).heap[gb392]? = some (.cells #[.int .i64 ((rd_T41 t366 x10_3).f0.f0), .int .i64 ((rd_T41 t366 x10_3).f0.f1), .int .i64 ((rd_T41 t366 x10_3).f1.f0), .int .i64 ((rd_T41 t366 x10_3).f1.f1), .int .i64 ((rd_T41 t366 x10_3).f2), .int .i64 ((rd_T41 t366 x10_3).f3), .string ((rd_T41 t366 x10_3).f4), .string ((rd_T41 t366 x10_3).f5.f0), .slice A391_8 ((rd_T41 t366 x10_3).f5.f1).length c391_8] 41 (0, 0))) := ⟨by (with_reducible repeat (first | apply b1 | apply b2 | apply b3)); refine blk_put (cs := #[.int .i64 ((rd_T41 t366 x10_3).f0.f0), .int .i64 ((rd_T41 t366 x10_3).f0.f1), .int .i64 ((rd_T41 t366 x10_3).f1.f0), .int .i64 ((rd_T41 t366 x10_3).f1.f1), .int .i64 ((rd_T41 t366 x10_3).f2), .int .i64 ((rd_T41 t366 x10_3).f3), .string ((rd_T41 t366 x10_3).f4), .string ((rd_T41 t366 x10_3).f5.f0), .slice none 0 0]) ?_ 8 _ rfl; (with_reducible repeat (first | apply b1 | apply b2 | apply b3)); refine blk_put (cs := #[.int .i64 ((rd_T41 t366 x10_3).f0.f0), .int .i64 ((rd_T41 t366 x10_3).f0.f1), .int .i64 ((rd_T41 t366 x10_3).f1.f0), .int .i64 ((rd_T41 t366 x10_3).f1.f1), .int .i64 ((rd_T41 t366 x10_3).f2), .int .i64 ((rd_T41 t366 x10_3).f3), .string ((rd_T41 t366 x10_3).f4), .string (⟨#[]⟩ : ByteArray), .slice none 0 0]) ?_ 7 _ rfl; (with_reducible repeat (first | apply b1 | apply b2 | apply b3)); refine blk_put (cs := #[.int .i64 ((rd_T41 t366 x10_3).f0.f0), .int .i64 ((rd_T41 t366 x10_3).f0.f1), .int .i64 ((rd_T41 t366 x10_3).f1.f0), .int .i64 ((rd_T41 t366 x10_3).f1.f1), .int .i64 ((rd_T41 t366 x10_3).f2), .int .i64 ((rd_T41 t366 x10_3).f3), .string (⟨#[]⟩ : ByteArray), .string (⟨#[]⟩ : ByteArray), .slice none 0 0]) ?_ 6 _ rfl; (with_reducible repeat (first | apply b1 | apply b2 | apply b3)); refine blk_put (cs := #[.int .i64 ((rd_T41 t366 x10_3).f0.f0), .int .i64 ((rd_T41 t366 x10_3).f0.f1), .int .i64 ((rd_T41 t366 x10_3).f1.f0), .int .i64 ((rd_T41 t366 x10_3).f1.f1), .int .i64 ((rd_T41 t366 x10_3).f2), .int .i64 0, .string (⟨#[]⟩ : ByteArray), .string (⟨#[]⟩ : ByteArray), .slice none 0 0]) ?_ 5 _ rfl; (with_reducible repeat (first | apply b1 | apply b2 | apply b3)); refine blk_put (cs := #[.int .i64 ((rd_T41 t366 x10_3).f0.f0), .int .i64 ((rd_T41 t366 x10_3).f0.f1), .int .i64 ((rd_T41 t366 x10_3).f1.f0), .int .i64 ((rd_T41 t366 x10_3).f1.f1), .int .i64 0, .int .i64 0, .string (⟨#[]⟩ : ByteArray), .string (⟨#[]⟩ : ByteArray), .slice none 0 0]) ?_ 4 _ rfl; (with_reducible repeat (first | apply b1 | apply b2 | apply b3)); refine blk_put (cs := #[.int .i64 ((rd_T41 t366 x10_3).f0.f0), .int .i64 ((rd_T41 t366 x10_3).f0.f1), .int .i64 ((rd_T41 t366 x10_3).f1.f0), .int .i64 0, .int .i64 0, .int .i64 0, .string (⟨#[]⟩ : ByteArray), .string (⟨#[]⟩ : ByteArray), .slice none 0 0]) ?_ 3 _ rfl; (with_reducible repeat (first | apply b1 | apply b2 | apply b3)); refine blk_put (cs := #[.int .i64 ((rd_T41 t366 x10_3).f0.f0), .int .i64 ((rd_T41 t366 x10_3).f0.f1), .int .i64 0, .int .i64 0, .int .i64 0, .int .i64 0, .string (⟨#[]⟩ : ByteArray), .string (⟨#[]⟩ : ByteArray), .slice none 0 0]) ?_ 2 _ rfl; (with_reducible repeat (first | apply b1 | apply b2 | apply b3)); refine blk_put (cs := #[.int .i64 ((rd_T41 t366 x10_3).f0.f0), .int .i64 0, .int .i64 0, .int .i64 0, .int .i64 0, .int .i64 0, .string (⟨#[]⟩ : ByteArray), .string (⟨#[]⟩ : ByteArray), .slice none 0 0]) ?_ 1 _ rfl; (with_reducible repeat (first | apply b1 | apply b2 | apply b3)); refine blk_put (cs := #[.int .i64 0, .int .i64 0, .int .i64 0, .int .i64 0, .int .i64 0, .int .i64 0, .string (⟨#[]⟩ : ByteArray), .string (⟨#[]⟩ : ByteArray), .slice none 0 0]) ?_ 0 _ rfl; (with_reducible repeat (first | apply b1 | apply b2 | apply b3)); exact BK392.out⟩
               have n8_ : Aside0 (Below w.heap.size w (((((((((w88.setCell ⟨gb392, 0, none⟩ (.int .i64 ((rd_T41 t366 x10_3).f0.f0))).setCell ⟨gb392, 1, none⟩ (.int .i64 ((rd_T41 t366 x10_3).f0.f1))).setCell ⟨gb392, 2, none⟩ (.int .i64 ((rd_T41 t366 x10_3).f1.f0))).setCell ⟨gb392, 3, none⟩ (.int .i64 ((rd_T41 t366 x10_3).f1.f1))).setCell ⟨gb392, 4, none⟩ (.int .i64 ((rd_T41 t366 x10_3).f2))).setCell ⟨gb392, 5, none⟩ (.int .i64 ((rd_T41 t366 x10_3).f3))).setCell ⟨gb392, 6, none⟩ (.string ((rd_T41 t366 x10_3).f4))).setCell ⟨gb392, 7, none⟩ (.string ((rd_T41 t366 x10_3).f5.f0))).setCell ⟨gb392, 8, none⟩ (.slice A391_8 ((rd_T41 t366 x10_3).f5.f1).length c391_8))) := ⟨by repeat (first | (with_reducible first | exact HB.out | apply l1 | apply l2 | apply l3 | refine below_set ?_ GE358.out | refine below_set ?_ GE372.out | refine below_set ?_ GE382.out | refine below_set ?_ GE392.out) | exact HB.out)⟩
               (try clear HO_3)
               (try clear HO_373000)
               (try clear HO_383000)
               (try clear HL391_8)
               (try clear BK358)
               (try clear BK372)
               (try clear BK382)
               (try clear BK392)
               (try clear HB)
               generalize (((((((((w88.setCell ⟨gb392, 0, none⟩ (.int .i64 ((rd_T41 t366 x10_3).f0.f0))).setCell ⟨gb392, 1, none⟩ (.int .i64 ((rd_T41 t366 x10_3).f0.f1))).setCell ⟨gb392, 2, none⟩ (.int .i64 ((rd_T41 t366 x10_3).f1.f0))).setCell ⟨gb392, 3, none⟩ (.int .i64 ((rd_T41 t366 x10_3).f1.f1))).setCell ⟨gb392, 4, none⟩ (.int .i64 ((rd_T41 t366 x10_3).f2))).setCell ⟨gb392, 5, none⟩ (.int .i64 ((rd_T41 t366 x10_3).f3))).setCell ⟨gb392, 6, none⟩ (.string ((rd_T41 t366 x10_3).f4))).setCell ⟨gb392, 7, none⟩ (.string ((rd_T41 t366 x10_3).f5.f0))).setCell ⟨gb392, 8, none⟩ (.slice A391_8 ((rd_T41 t366 x10_3).f5.f1).length c391_8)) = w93 at n0_ n1_ n2_ n3_ n4_ n5_ n6_ n7_ n8_ ⊢
               have HO_3 := n0_
               have HO_373000 := n1_
               have HO_383000 := n2_
               have HL391_8 := n3_
               have BK358 := n4_
               have BK372 := n5_
               have BK382 := n6_
               have BK392 := n7_
               have HB := n8_
               clear n0_ n1_ n2_ n3_ n4_ n5_ n6_ n7_ n8_
               have n0_ := Aside0.mk (Kd.R_drew HO_3.out)
               have n1_ := Aside0.mk (Kd.S_drew HO_373000.out)
               have n2_ := Aside0.mk (Kd.S_drew HO_383000.out)
               have n3_ := Aside0.mk (Kd.R_drew HL391_8.out)
               have n4_ := Aside0.mk (blk_drew BK358.out)
               have n5_ := Aside0.mk (blk_drew BK372.out)
               have n6_ := Aside0.mk (blk_drew BK382.out)
               have n7_ := Aside0.mk (blk_drew BK392.out)
               have n8_ := Aside0.mk (below_drew1 HB.out)
               clear HO_3
               clear HO_373000
               clear HO_383000
               clear HL391_8
               clear BK358
               clear BK372
               clear BK382
               clear BK392
               clear HB
               have HO_3 := n0_
               have HO_373000 := n1_
               have HO_383000 := n2_
               have HL391_8 := n3_
               have BK358 := n4_
               have BK372 := n5_
               have BK382 := n6_
               have BK392 := n7_
               have HB := n8_
               clear n0_ n1_ n2_ n3_ n4_ n5_ n6_ n7_ n8_
               have p393 : 0 ≤ (x10_3 : Int) := of_decide_eq_true (by first | (with_reducible assumption) | assumption)
               have q393 : x10_3 < (t359.length : Int) := of_decide_eq_true (by first | (with_reducible assumption) | assumption)
               obtain ⟨ad393, e393, hx393_0⟩ := Kd.at_int (Kd.R_reads' HO_3.out).2.2 x10_3 p393 q393
               cases e393
               replace p393 := eq_true p393
               replace q393 := eq_true q393
               refine start_ (n := 7) (S := fun w' => w'.cell? ⟨gb392, 0, none⟩ = some (.int .i64 ((rd_T41 t366 x10_3).f0.f0)) ∧ w'.cell? ⟨gb392, 1, none⟩ = some (.int .i64 ((rd_T41 t366 x10_3).f0.f1)) ∧ w'.cell? ⟨gb392, 2, none⟩ = some (.int .i64 ((rd_T41 t366 x10_3).f1.f0)) ∧ w'.cell? ⟨gb392, 3, none⟩ = some (.int .i64 ((rd_T41 t366 x10_3).f1.f1)) ∧ w'.cell? ⟨gb392, 4, none⟩ = some (.int .i64 ((rd_T41 t366 x10_3).f2)) ∧ w'.cell? ⟨gb392, 5, none⟩ = some (.int .i64 ((rd_T41 t366 x10_3).f3)) ∧ w'.cell? ⟨gb392, 6, none⟩ = some (.string ((rd_T41 t366 x10_3).f4)) ∧ w'.cell? ⟨gb392, 7, none⟩ = some (.string ((rd_T41 t366 x10_3).f5.f0)) ∧ w'.cell? ⟨gb392, 8, none⟩ = some (.slice A391_8 ((rd_T41 t366 x10_3).f5.f1).length c391_8) ∧ w'.cell? (ad393.add (x10_3).toNat) = some (.int .i64 (rd t359 x10_3))) (ds := []) #[false, false, false, false, false, false, false] (by kernel_rfl) rfl rfl ⟨(blk_cell BK392.out 0).trans rfl, (blk_cell BK392.out 1).trans rfl, (blk_cell BK392.out 2).trans rfl, (blk_cell BK392.out 3).trans rfl, (blk_cell BK392.out 4).trans rfl, (blk_cell BK392.out 5).trans rfl, (blk_cell BK392.out 6).trans rfl, (blk_cell BK392.out 7).trans rfl, (blk_cell BK392.out 8).trans rfl, hx393_0⟩ (fun hHeld => ?_)
               generalize w93.drew = w94 at HO_3 HO_373000 HO_383000 HL391_8 BK358 BK372 BK382 BK392 HB hx393_0 hHeld ⊢
               refine pure_ (i := 0) (N := some 82) (v := ?_) (a' := ?_) #[true, false, false, false, false, false, false] rfl rfl (by kernel_rfl) (fun _ _ _ h => h) (Or.inl ⟨by rfl, ?_⟩) ?_ ?_
               rotate_left
               ·intro w'
                go_simp
                with_reducible rfl
               rotate_left
               ·simp only [Act.put, List.setIfInBounds_toArray, List.set_cons_zero, List.set_cons_succ, i64_w, i32_w]
                rfl
               refine pure_ (i := 2) (N := some 84) (v := ?_) (a' := ?_) #[true, false, true, false, false, false, false] rfl rfl (by kernel_rfl) (fun _ _ _ h => h) (Or.inl ⟨by rfl, ?_⟩) ?_ ?_
               rotate_left
               ·intro w'
                go_simp
                with_reducible rfl
               rotate_left
               ·simp only [Act.put, List.setIfInBounds_toArray, List.set_cons_zero, List.set_cons_succ, i64_w, i32_w]
                rfl
               refine pure_ (i := 3) (N := some 85) (v := ?_) (a' := ?_) #[true, false, true, true, false, false, false] rfl rfl (by kernel_rfl) (fun _ _ _ h => h) (Or.inl ⟨by rfl, ?_⟩) ?_ ?_
               rotate_left
               ·intro w'
                go_simp
                with_reducible rfl
               rotate_left
               ·simp only [Act.put, List.setIfInBounds_toArray, List.set_cons_zero, List.set_cons_succ, i64_w, i32_w]
                rfl
               refine pure_ (i := 4) (N := some 86) (v := ?_) (a' := ?_) #[true, false, true, true, true, false, false] rfl rfl (by kernel_rfl) (fun _ _ _ h => h) (Or.inl ⟨by rfl, ?_⟩) ?_ ?_
               rotate_left
               ·intro w'
                go_simp
                with_reducible rfl
               rotate_left
               ·simp only [Act.put, List.setIfInBounds_toArray, List.set_cons_zero, List.set_cons_succ, i64_w, i32_w]
                rfl
               refine take_ (i := 1) (N := some 83) (v := ?_) (a' := ?_) #[true, true, true, true, true, false, false] rfl rfl (by kernel_rfl) (fun _ _ _ h => h) (Or.inl ⟨by rfl, ?_⟩) hHeld ?_ ?_
               rotate_left
               ·rintro w' ⟨s0, s1, s2, s3, s4, s5, s6, s7, s8, s9⟩
                go_simp
                with_reducible rfl
               rotate_left
               ·simp only [Act.put, List.setIfInBounds_toArray, List.set_cons_zero, List.set_cons_succ, i64_w, i32_w]
                rfl
               refine take_ (i := 5) (N := some 87) (v := ?_) (a' := ?_) #[true, true, true, true, true, true, false] rfl rfl (by kernel_rfl) (fun _ _ _ h => h) (Or.inl ⟨by rfl, ?_⟩) hHeld ?_ ?_
               rotate_left
               ·rintro w' ⟨s0, s1, s2, s3, s4, s5, s6, s7, s8, s9⟩
                go_simp
                with_reducible rfl
               rotate_left
               ·simp only [Act.put, List.setIfInBounds_toArray, List.set_cons_zero, List.set_cons_succ, i64_w, i32_w]
                rfl
               refine pure_ (i := 6) (N := some 88) (v := ?_) (a' := ?_) #[true, true, true, true, true, true, true] rfl rfl (by kernel_rfl) (fun _ _ _ h => h) (Or.inl ⟨by rfl, ?_⟩) ?_ ?_
               rotate_left
               ·intro w'
                go_simp
                with_reducible rfl
               rotate_left
               ·simp only [Act.put, List.setIfInBounds_toArray, List.set_cons_zero, List.set_cons_succ, i64_w, i32_w]
                rfl
               refine done_ (by kernel_rfl) ?_
               have hnb95 := NB358_382.out
               have hnc95 := NB382_358.out
               obtain ⟨hcz96_0, hfz96_0⟩ := blk_cells1 BK358.out
               have p394 : 0 ≤ (x10_3 : Int) := of_decide_eq_true (by first | (with_reducible assumption) | assumption)
               have q394 : x10_3 < (l0_0.length : Int) := of_decide_eq_true (by first | (with_reducible assumption) | assumption)
               obtain ⟨ad394, A394_8, c394_8, e394, hx394_0, hx394_1, hx394_2, hx394_3, hx394_4, hx394_5, hx394_6, hx394_7, hx394_8, hl394_8, hi394_8⟩ := at_T41 HR0_0.out x10_3 p394 q394
               cases e394
               replace hx394_0 := (HB.out.cell (World.block_lt_of_cell? w _ hx394_0)).trans hx394_0
               replace hx394_1 := (HB.out.cell (World.block_lt_of_cell? w _ hx394_1)).trans hx394_1
               replace hx394_2 := (HB.out.cell (World.block_lt_of_cell? w _ hx394_2)).trans hx394_2
               replace hx394_3 := (HB.out.cell (World.block_lt_of_cell? w _ hx394_3)).trans hx394_3
               replace hx394_4 := (HB.out.cell (World.block_lt_of_cell? w _ hx394_4)).trans hx394_4
               replace hx394_5 := (HB.out.cell (World.block_lt_of_cell? w _ hx394_5)).trans hx394_5
               replace hx394_6 := (HB.out.cell (World.block_lt_of_cell? w _ hx394_6)).trans hx394_6
               replace hx394_7 := (HB.out.cell (World.block_lt_of_cell? w _ hx394_7)).trans hx394_7
               replace hx394_8 := (HB.out.cell (World.block_lt_of_cell? w _ hx394_8)).trans hx394_8
               have HR394_8 := Aside0.mk hi394_8
               have HC394_8 := Aside0.mk hl394_8
               clear hi394_8 hl394_8
               replace p394 := eq_true p394
               replace q394 := eq_true q394
               obtain ⟨hcz97_0, hcz97_1, hcz97_2, hcz97_3, hcz97_4, hcz97_5, hcz97_6, hcz97_7, hcz97_8, hfz97_0, hfz97_1, hfz97_2, hfz97_3, hfz97_4, hfz97_5, hfz97_6, hfz97_7, hfz97_8⟩ := blk_cells9 BK392.out
               try go_wp2
               have n0_ : Aside0 (Kd.R (Kd.int .i64) 3 (w94.setCell ⟨gb392, 4, none⟩ (.int .i64 ((rd_T41 l0_0 x10_3).f2))) w.heap.size (fun _ => True) (.slice (some ad393) t359.length co84) t359) := ⟨by (with_reducible repeat (first | apply Kd.R_alloc | apply Kd.R_drewN | apply Kd.R_drew)); exact Kd.R_mono (Kd.R_far (p := ⟨gb392, 4, none⟩) (Kd.R_types HO_3.out BK392.out (by decide)) (fun _ hk => hk.2) (.int .i64 ((rd_T41 l0_0 x10_3).f2))) (fun _ hk => trivial)⟩
               have n1_ : Aside0 (Kd.S k41 41 (w94.setCell ⟨gb392, 4, none⟩ (.int .i64 ((rd_T41 l0_0 x10_3).f2))) w.heap.size (fun k_ => some k_ ≠ (.slice Ao28 t376.length co28 : Value).ownBlock ∧ k_ ≠ gb392) (.slice (some ad391) t366.length co11) t366) := ⟨by (with_reducible repeat (first | apply Kd.S_alloc | apply Kd.S_drewN | apply Kd.S_drew)); exact Kd.S_mono (Kd.S_far (p := ⟨gb392, 4, none⟩) (Kd.S_mono HO_373000.out (fun k_ hk => (⟨hk, hk.2⟩ : _ ∧ k_ ≠ gb392))) (fun _ hk => hk.2) (.int .i64 ((rd_T41 l0_0 x10_3).f2))) (fun _ hk => ⟨hk.1.1, hk.1.2⟩)⟩
               have n2_ : Aside0 (Kd.S k41 41 (w94.setCell ⟨gb392, 4, none⟩ (.int .i64 ((rd_T41 l0_0 x10_3).f2))) w.heap.size (fun k_ => some k_ ≠ (.slice (some ad391) t366.length co11 : Value).ownBlock ∧ k_ ≠ gb392) (.slice Ao28 t376.length co28) t376) := ⟨by (with_reducible repeat (first | apply Kd.S_alloc | apply Kd.S_drewN | apply Kd.S_drew)); exact Kd.S_mono (Kd.S_far (p := ⟨gb392, 4, none⟩) (Kd.S_mono HO_383000.out (fun k_ hk => (⟨hk, hk.2⟩ : _ ∧ k_ ≠ gb392))) (fun _ hk => hk.2) (.int .i64 ((rd_T41 l0_0 x10_3).f2))) (fun _ hk => ⟨hk.1.1, hk.1.2⟩)⟩
               have n3_ : Aside0 (Kd.R k62 62 (w94.setCell ⟨gb392, 4, none⟩ (.int .i64 ((rd_T41 l0_0 x10_3).f2))) w.heap.size (fun k_ => some k_ ≠ (.slice (some ad391) t366.length co11 : Value).ownBlock ∧ some k_ ≠ (.slice Ao28 t376.length co28 : Value).ownBlock) (.slice A391_8 ((rd_T41 t366 x10_3).f5.f1).length c391_8) ((rd_T41 t366 x10_3).f5.f1)) := ⟨by (with_reducible repeat (first | apply Kd.R_alloc | apply Kd.R_drewN | apply Kd.R_drew)); exact Kd.R_mono (Kd.R_far (p := ⟨gb392, 4, none⟩) (Kd.R_types HL391_8.out BK392.out (by decide)) (fun _ hk => hk.2) (.int .i64 ((rd_T41 l0_0 x10_3).f2))) (fun _ hk => ⟨hk.1.1, hk.1.2⟩)⟩
               have n4_ : Aside0 ((w94.setCell ⟨gb392, 4, none⟩ (.int .i64 ((rd_T41 l0_0 x10_3).f2))).heap[gb358]? = some (.cells #[.slice (some ad394) l0_0.length c0_0] 24 (0, 0))) := ⟨by (with_reducible repeat (first | apply b1 | apply b2 | apply b3)); refine blk_far ?_ NB358_392.out _; (with_reducible repeat (first | apply b1 | apply b2 | apply b3)); exact BK358.out⟩
               have n5_ : Aside0 ((w94.setCell ⟨gb392, 4, none⟩ (.int .i64 ((rd_T41 l0_0 x10_3).f2))).heap[gb372]? = some (.cells #[.slice (some ad391) t366.length co11] 24 (0, 0))) := ⟨by (with_reducible repeat (first | apply b1 | apply b2 | apply b3)); refine blk_far ?_ NB372_392.out _; (with_reducible repeat (first | apply b1 | apply b2 | apply b3)); exact BK372.out⟩
               have n6_ : Aside0 ((w94.setCell ⟨gb392, 4, none⟩ (.int .i64 ((rd_T41 l0_0 x10_3).f2))).heap[gb382]? = some (.cells #[.slice Ao28 t376.length co28] 24 (0, 0))) := ⟨by (with_reducible repeat (first | apply b1 | apply b2 | apply b3)); refine blk_far ?_ NB382_392.out _; (with_reducible repeat (first | apply b1 | apply b2 | apply b3)); exact BK382.out⟩
               have n7_ : Aside0 ((w94.setCell ⟨gb392, 4, none⟩ (.int .i64 ((rd_T41 l0_0 x10_3).f2))).heap[gb392]? = some (.cells #[.int .i64 ((rd_T41 t366 x10_3).f0.f0), .int .i64 ((rd_T41 t366 x10_3).f0.f1), .int .i64 ((rd_T41 t366 x10_3).f1.f0), .int .i64 ((rd_T41 t366 x10_3).f1.f1), .int .i64 ((rd_T41 l0_0 x10_3).f2), .int .i64 ((rd_T41 t366 x10_3).f3), .string ((rd_T41 t366 x10_3).f4), .string ((rd_T41 t366 x10_3).f5.f0), .slice A391_8 ((rd_T41 t366 x10_3).f5.f1).length c391_8] 41 (0, 0))) := ⟨by (with_reducible repeat (first | apply b1 | apply b2 | apply b3)); refine blk_put (cs := #[.int .i64 ((rd_T41 t366 x10_3).f0.f0), .int .i64 ((rd_T41 t366 x10_3).f0.f1), .int .i64 ((rd_T41 t366 x10_3).f1.f0), .int .i64 ((rd_T41 t366 x10_3).f1.f1), .int .i64 ((rd_T41 t366 x10_3).f2), .int .i64 ((rd_T41 t366 x10_3).f3), .string ((rd_T41 t366 x10_3).f4), .string ((rd_T41 t366 x10_3).f5.f0), .slice A391_8 ((rd_T41 t366 x10_3).f5.f1).length c391_8]) ?_ 4 _ rfl; (with_reducible repeat (first | apply b1 | apply b2 | apply b3)); exact BK392.out⟩
               have n8_ : Aside0 (Below w.heap.size w (w94.setCell ⟨gb392, 4, none⟩ (.int .i64 ((rd_T41 l0_0 x10_3).f2)))) := ⟨by repeat (first | (with_reducible first | exact HB.out | apply l1 | apply l2 | apply l3 | refine below_set ?_ GE358.out | refine below_set ?_ GE372.out | refine below_set ?_ GE382.out | refine below_set ?_ GE392.out) | exact HB.out)⟩
               (try clear HO_3)
               (try clear HO_373000)
               (try clear HO_383000)
               (try clear HL391_8)
               (try clear BK358)
               (try clear BK372)
               (try clear BK382)
               (try clear BK392)
               (try clear HB)
               generalize (w94.setCell ⟨gb392, 4, none⟩ (.int .i64 ((rd_T41 l0_0 x10_3).f2))) = w98 at n0_ n1_ n2_ n3_ n4_ n5_ n6_ n7_ n8_ ⊢
               have HO_3 := n0_
               have HO_373000 := n1_
               have HO_383000 := n2_
               have HL391_8 := n3_
               have BK358 := n4_
               have BK372 := n5_
               have BK382 := n6_
               have BK392 := n7_
               have HB := n8_
               clear n0_ n1_ n2_ n3_ n4_ n5_ n6_ n7_ n8_
               have n0_ := Aside0.mk (Kd.R_drew HO_3.out)
               have n1_ := Aside0.mk (Kd.S_drew HO_373000.out)
               have n2_ := Aside0.mk (Kd.S_drew HO_383000.out)
               have n3_ := Aside0.mk (Kd.R_drew HL391_8.out)
               have n4_ := Aside0.mk (blk_drew BK358.out)
               have n5_ := Aside0.mk (blk_drew BK372.out)
               have n6_ := Aside0.mk (blk_drew BK382.out)
               have n7_ := Aside0.mk (blk_drew BK392.out)
               have n8_ := Aside0.mk (below_drew1 HB.out)
               clear HO_3
               clear HO_373000
               clear HO_383000
               clear HL391_8
               clear BK358
               clear BK372
               clear BK382
               clear BK392
               clear HB
               have HO_3 := n0_
               have HO_373000 := n1_
               have HO_383000 := n2_
               have HL391_8 := n3_
               have BK358 := n4_
               have BK372 := n5_
               have BK382 := n6_
               have BK392 := n7_
               have HB := n8_
               clear n0_ n1_ n2_ n3_ n4_ n5_ n6_ n7_ n8_
               have p395 : 0 ≤ (x10_3 : Int) := of_decide_eq_true (by first | (with_reducible assumption) | assumption)
               have q395 : x10_3 < (l0_0.length : Int) := of_decide_eq_true (by first | (with_reducible assumption) | assumption)
               obtain ⟨ad395, A395_8, c395_8, e395, hx395_0, hx395_1, hx395_2, hx395_3, hx395_4, hx395_5, hx395_6, hx395_7, hx395_8, hl395_8, hi395_8⟩ := at_T41 HR0_0.out x10_3 p395 q395
               have hw395_8 := hx395_8
               have hw395_7 := hx395_7
               have hw395_6 := hx395_6
               have hw395_5 := hx395_5
               have hw395_4 := hx395_4
               have hw395_3 := hx395_3
               have hw395_2 := hx395_2
               have hw395_1 := hx395_1
               have hw395_0 := hx395_0
               obtain rfl : ad394 = ad395 := (by injection e395)
               replace hx395_0 := (HB.out.cell (World.block_lt_of_cell? w _ hx395_0)).trans hx395_0
               replace hx395_1 := (HB.out.cell (World.block_lt_of_cell? w _ hx395_1)).trans hx395_1
               replace hx395_2 := (HB.out.cell (World.block_lt_of_cell? w _ hx395_2)).trans hx395_2
               replace hx395_3 := (HB.out.cell (World.block_lt_of_cell? w _ hx395_3)).trans hx395_3
               replace hx395_4 := (HB.out.cell (World.block_lt_of_cell? w _ hx395_4)).trans hx395_4
               replace hx395_5 := (HB.out.cell (World.block_lt_of_cell? w _ hx395_5)).trans hx395_5
               replace hx395_6 := (HB.out.cell (World.block_lt_of_cell? w _ hx395_6)).trans hx395_6
               replace hx395_7 := (HB.out.cell (World.block_lt_of_cell? w _ hx395_7)).trans hx395_7
               replace hx395_8 := (HB.out.cell (World.block_lt_of_cell? w _ hx395_8)).trans hx395_8
               have HR395_8 := Aside0.mk hi395_8
               have HC395_8 := Aside0.mk hl395_8
               clear hi395_8 hl395_8
               replace p395 := eq_true p395
               replace q395 := eq_true q395
               refine start_ (n := 8) (S := fun w' => w'.cell? ⟨gb392, 0, none⟩ = some (.int .i64 ((rd_T41 t366 x10_3).f0.f0)) ∧ w'.cell? ⟨gb392, 1, none⟩ = some (.int .i64 ((rd_T41 t366 x10_3).f0.f1)) ∧ w'.cell? ⟨gb392, 2, none⟩ = some (.int .i64 ((rd_T41 t366 x10_3).f1.f0)) ∧ w'.cell? ⟨gb392, 3, none⟩ = some (.int .i64 ((rd_T41 t366 x10_3).f1.f1)) ∧ w'.cell? ⟨gb392, 4, none⟩ = some (.int .i64 ((rd_T41 l0_0 x10_3).f2)) ∧ w'.cell? ⟨gb392, 5, none⟩ = some (.int .i64 ((rd_T41 t366 x10_3).f3)) ∧ w'.cell? ⟨gb392, 6, none⟩ = some (.string ((rd_T41 t366 x10_3).f4)) ∧ w'.cell? ⟨gb392, 7, none⟩ = some (.string ((rd_T41 t366 x10_3).f5.f0)) ∧ w'.cell? ⟨gb392, 8, none⟩ = some (.slice A391_8 ((rd_T41 t366 x10_3).f5.f1).length c391_8) ∧ w'.cell? ⟨gb358, 0, none⟩ = some (.slice (some ad394) l0_0.length c0_0) ∧ w'.cell? (ad394.add ((x10_3).toNat * 9)) = some (.int .i64 ((rd_T41 l0_0 x10_3).f0.f0)) ∧ w'.cell? ⟨(ad394.add ((x10_3).toNat * 9)).block, (ad394.add ((x10_3).toNat * 9)).off + 1, none⟩ = some (.int .i64 ((rd_T41 l0_0 x10_3).f0.f1)) ∧ w'.cell? ⟨(ad394.add ((x10_3).toNat * 9)).block, (ad394.add ((x10_3).toNat * 9)).off + 2, none⟩ = some (.int .i64 ((rd_T41 l0_0 x10_3).f1.f0)) ∧ w'.cell? ⟨(ad394.add ((x10_3).toNat * 9)).block, (ad394.add ((x10_3).toNat * 9)).off + 3, none⟩ = some (.int .i64 ((rd_T41 l0_0 x10_3).f1.f1)) ∧ w'.cell? ⟨(ad394.add ((x10_3).toNat * 9)).block, (ad394.add ((x10_3).toNat * 9)).off + 4, none⟩ = some (.int .i64 ((rd_T41 l0_0 x10_3).f2)) ∧ w'.cell? ⟨(ad394.add ((x10_3).toNat * 9)).block, (ad394.add ((x10_3).toNat * 9)).off + 5, none⟩ = some (.int .i64 ((rd_T41 l0_0 x10_3).f3)) ∧ w'.cell? ⟨(ad394.add ((x10_3).toNat * 9)).block, (ad394.add ((x10_3).toNat * 9)).off + 6, none⟩ = some (.string ((rd_T41 l0_0 x10_3).f4)) ∧ w'.cell? ⟨(ad394.add ((x10_3).toNat * 9)).block, (ad394.add ((x10_3).toNat * 9)).off + 7, none⟩ = some (.string ((rd_T41 l0_0 x10_3).f5.f0)) ∧ w'.cell? ⟨(ad394.add ((x10_3).toNat * 9)).block, (ad394.add ((x10_3).toNat * 9)).off + 8, none⟩ = some (.slice A395_8 ((rd_T41 l0_0 x10_3).f5.f1).length c395_8)) (ds := []) #[false, false, false, false, false, false, false, false] (by kernel_rfl) rfl rfl ⟨(blk_cell BK392.out 0).trans rfl, (blk_cell BK392.out 1).trans rfl, (blk_cell BK392.out 2).trans rfl, (blk_cell BK392.out 3).trans rfl, (blk_cell BK392.out 4).trans rfl, (blk_cell BK392.out 5).trans rfl, (blk_cell BK392.out 6).trans rfl, (blk_cell BK392.out 7).trans rfl, (blk_cell BK392.out 8).trans rfl, (blk_cell BK358.out 0).trans rfl, ((HB.out.cell (World.block_lt_of_cell? w _ hw395_0)).trans hw395_0), ((HB.out.cell (World.block_lt_of_cell? w _ hw395_1)).trans hw395_1), ((HB.out.cell (World.block_lt_of_cell? w _ hw395_2)).trans hw395_2), ((HB.out.cell (World.block_lt_of_cell? w _ hw395_3)).trans hw395_3), ((HB.out.cell (World.block_lt_of_cell? w _ hw395_4)).trans hw395_4), ((HB.out.cell (World.block_lt_of_cell? w _ hw395_5)).trans hw395_5), ((HB.out.cell (World.block_lt_of_cell? w _ hw395_6)).trans hw395_6), ((HB.out.cell (World.block_lt_of_cell? w _ hw395_7)).trans hw395_7), ((HB.out.cell (World.block_lt_of_cell? w _ hw395_8)).trans hw395_8)⟩ (fun hHeld => ?_); refine with_tabW surtitlelaw13_LaneLaid.tab15 surtitlelaw13_LaneLaid.bits15 (fun HT_ HW_ => ?_)
               generalize w98.drew = w99 at HO_3 HO_373000 HO_383000 HL391_8 BK358 BK372 BK382 BK392 HB HR395_8 hx395_0 hx395_1 hx395_2 hx395_3 hx395_4 hx395_5 hx395_6 hx395_7 hx395_8 hHeld ⊢
               refine pure_ (i := 1) (N := some 97) (v := ?_) (a' := ?_) #[false, true, false, false, false, false, false, false] rfl rfl (any_of HT_.out (by kernel_rfl)) (fun _ _ _ h => h) (Or.inl ⟨by rfl, ?_⟩) ?_ ?_
               rotate_left
               ·intro w'
                go_simp
                with_reducible rfl
               rotate_left
               ·simp only [Act.put, List.setIfInBounds_toArray, List.set_cons_zero, List.set_cons_succ, i64_w, i32_w]
                rfl
               refine pure_ (i := 3) (N := some 99) (v := ?_) (a' := ?_) #[false, true, false, true, false, false, false, false] rfl rfl (any_of HT_.out (by kernel_rfl)) (fun _ _ _ h => h) (Or.inl ⟨by rfl, ?_⟩) ?_ ?_
               rotate_left
               ·intro w'
                go_simp
                with_reducible rfl
               rotate_left
               ·simp only [Act.put, List.setIfInBounds_toArray, List.set_cons_zero, List.set_cons_succ, i64_w, i32_w]
                rfl
               refine take_ (i := 0) (N := some 96) (v := ?_) (a' := ?_) #[true, true, false, true, false, false, false, false] rfl rfl (take_ofW HT_.out HW_.out (by kernel_rfl)) (fun _ _ _ h => h) (Or.inl ⟨by rfl, ?_⟩) hHeld ?_ ?_
               rotate_left
               ·rintro w' ⟨s0, s1, s2, s3, s4, s5, s6, s7, s8, s9, s10, s11, s12, s13, s14, s15, s16, s17, s18⟩
                go_simp
                with_reducible rfl
               rotate_left
               ·simp only [Act.put, List.setIfInBounds_toArray, List.set_cons_zero, List.set_cons_succ, i64_w, i32_w]
                rfl
               refine take_ (i := 2) (N := some 98) (v := ?_) (a' := ?_) #[true, true, true, true, false, false, false, false] rfl rfl (take_ofW HT_.out HW_.out (by kernel_rfl)) (fun _ _ _ h => h) (Or.inl ⟨by rfl, ?_⟩) hHeld ?_ ?_
               rotate_left
               ·rintro w' ⟨s0, s1, s2, s3, s4, s5, s6, s7, s8, s9, s10, s11, s12, s13, s14, s15, s16, s17, s18⟩
                go_simp
                with_reducible rfl
               rotate_left
               ·simp only [Act.put, List.setIfInBounds_toArray, List.set_cons_zero, List.set_cons_succ, i64_w, i32_w]
                rfl
               refine pure_ (i := 4) (N := some 100) (v := ?_) (a' := ?_) #[true, true, true, true, true, false, false, false] rfl rfl (any_of HT_.out (by kernel_rfl)) (fun _ _ _ h => h) (Or.inl ⟨by rfl, ?_⟩) ?_ ?_
               rotate_left
               ·intro w'
                go_simp
                with_reducible rfl
               rotate_left
               ·simp only [Act.put, List.setIfInBounds_toArray, List.set_cons_zero, List.set_cons_succ, i64_w, i32_w]
                rfl
               refine take_ (i := 5) (N := some 101) (v := ?_) (a' := ?_) #[true, true, true, true, true, true, false, false] rfl rfl (take_ofW HT_.out HW_.out (by kernel_rfl)) (fun _ _ _ h => h) (Or.inl ⟨by rfl, ?_⟩) hHeld ?_ ?_
               rotate_left
               ·rintro w' ⟨s0, s1, s2, s3, s4, s5, s6, s7, s8, s9, s10, s11, s12, s13, s14, s15, s16, s17, s18⟩
                go_simp
                with_reducible rfl
               rotate_left
               ·simp only [Act.put, List.setIfInBounds_toArray, List.set_cons_zero, List.set_cons_succ, i64_w, i32_w]
                rfl
               refine one_ (i := 6) (N := some 102) #[true, true, true, true, true, true, true, false] rfl rfl (one_of HT_.out (by kernel_rfl)) (by decide) (fun K hK => ?_)
               refine goes_ Try.func14 (by kernel_rfl) rfl #[.agg #[.int .i64 ((rd_T41 t366 x10_3).f0.f0), .int .i64 ((rd_T41 t366 x10_3).f0.f1), .int .i64 ((rd_T41 t366 x10_3).f1.f0), .int .i64 ((rd_T41 t366 x10_3).f1.f1), .int .i64 ((rd_T41 l0_0 x10_3).f2), .int .i64 ((rd_T41 t366 x10_3).f3), .string ((rd_T41 t366 x10_3).f4), .string ((rd_T41 t366 x10_3).f5.f0), .slice A391_8 ((rd_T41 t366 x10_3).f5.f1).length c391_8], .agg #[.int .i64 ((rd_T41 l0_0 x10_3).f0.f0), .int .i64 ((rd_T41 l0_0 x10_3).f0.f1), .int .i64 ((rd_T41 l0_0 x10_3).f1.f0), .int .i64 ((rd_T41 l0_0 x10_3).f1.f1), .int .i64 ((rd_T41 l0_0 x10_3).f2), .int .i64 ((rd_T41 l0_0 x10_3).f3), .string ((rd_T41 l0_0 x10_3).f4), .string ((rd_T41 l0_0 x10_3).f5.f0), .slice A395_8 ((rd_T41 l0_0 x10_3).f5.f1).length c395_8]] (by rfl) rfl rfl (by (try simp only [List.map_toArray, List.map_cons, List.map_nil]); first | done | rfl | (simp only [List.length_drop, List.length_take]; rfl)) ?_
               with_reducible refine (surtitlelaw13_SameCue.calls k3 ((rd_T41 t366 x10_3).f0.f0) ((rd_T41 t366 x10_3).f0.f1) ((rd_T41 t366 x10_3).f1.f0) ((rd_T41 t366 x10_3).f1.f1) ((rd_T41 l0_0 x10_3).f2) ((rd_T41 t366 x10_3).f3) ((rd_T41 t366 x10_3).f4) ((rd_T41 t366 x10_3).f5.f0) _ _ ((rd_T41 t366 x10_3).f5.f1) ((rd_T41 l0_0 x10_3).f0.f0) ((rd_T41 l0_0 x10_3).f0.f1) ((rd_T41 l0_0 x10_3).f1.f0) ((rd_T41 l0_0 x10_3).f1.f1) ((rd_T41 l0_0 x10_3).f2) ((rd_T41 l0_0 x10_3).f3) ((rd_T41 l0_0 x10_3).f4) ((rd_T41 l0_0 x10_3).f5.f0) _ _ ((rd_T41 l0_0 x10_3).f5.f1) false _ ?side1 ?side2 ?side3 ?side4 A65.out).mono ?_
               (case side1 => repeat (first | exact ((Kd.R_reads' (by (with_reducible repeat (first | apply Kd.R_alloc | apply Kd.R_drewN | apply Kd.R_drew)); exact HL391_8.out)).2.2) | (with_reducible refine Kd.C_alloc ?_ _) | (with_reducible refine Kd.C_drewN ?_ _) | (with_reducible refine Kd.C_drew ?_)))
               (case side2 => exact HC391_8.out)
               (case side3 => repeat (first | exact (Kd.C_below HR395_8.out HB.out) | (with_reducible refine Kd.C_alloc ?_ _) | (with_reducible refine Kd.C_drewN ?_ _) | (with_reducible refine Kd.C_drew ?_)))
               (case side4 => exact HC395_8.out)
               rintro e w100 ⟨rfl, hb⟩
               refine ⟨_, rfl, ?_⟩
               have n0_ := Aside0.mk (Kd.R_below (by (with_reducible repeat (first | apply Kd.R_alloc | apply Kd.R_drewN | apply Kd.R_drew)); exact HO_3.out) hb)
               have n1_ := Aside0.mk (Kd.S_below (by (with_reducible repeat (first | apply Kd.S_alloc | apply Kd.S_drewN | apply Kd.S_drew)); exact HO_373000.out) hb)
               have n2_ := Aside0.mk (Kd.S_below (by (with_reducible repeat (first | apply Kd.S_alloc | apply Kd.S_drewN | apply Kd.S_drew)); exact HO_383000.out) hb)
               have n3_ := Aside0.mk (Kd.R_below (by (with_reducible repeat (first | apply Kd.R_alloc | apply Kd.R_drewN | apply Kd.R_drew)); exact HL391_8.out) hb)
               have n4_ := Aside0.mk (blk_below (g := gb358) (o := .cells #[.slice (some ad394) l0_0.length c0_0] 24 (0, 0)) (by (with_reducible repeat (first | apply b1 | apply b2 | apply b3)); exact BK358.out) hb)
               have n5_ := Aside0.mk (blk_below (g := gb372) (o := .cells #[.slice (some ad391) t366.length co11] 24 (0, 0)) (by (with_reducible repeat (first | apply b1 | apply b2 | apply b3)); exact BK372.out) hb)
               have n6_ := Aside0.mk (blk_below (g := gb382) (o := .cells #[.slice Ao28 t376.length co28] 24 (0, 0)) (by (with_reducible repeat (first | apply b1 | apply b2 | apply b3)); exact BK382.out) hb)
               have n7_ := Aside0.mk (blk_below (g := gb392) (o := .cells #[.int .i64 ((rd_T41 t366 x10_3).f0.f0), .int .i64 ((rd_T41 t366 x10_3).f0.f1), .int .i64 ((rd_T41 t366 x10_3).f1.f0), .int .i64 ((rd_T41 t366 x10_3).f1.f1), .int .i64 ((rd_T41 l0_0 x10_3).f2), .int .i64 ((rd_T41 t366 x10_3).f3), .string ((rd_T41 t366 x10_3).f4), .string ((rd_T41 t366 x10_3).f5.f0), .slice A391_8 ((rd_T41 t366 x10_3).f5.f1).length c391_8] 41 (0, 0)) (by (with_reducible repeat (first | apply b1 | apply b2 | apply b3)); exact BK392.out) hb)
               have n8_ := Aside0.mk (below_step (by repeat (first | (with_reducible first | exact HB.out | apply l1 | apply l2 | apply l3 | refine below_set ?_ GE358.out | refine below_set ?_ GE372.out | refine below_set ?_ GE382.out | refine below_set ?_ GE392.out) | exact HB.out)) hb)
               clear HO_3
               clear HO_373000
               clear HO_383000
               clear HL391_8
               clear BK358
               clear BK372
               clear BK382
               clear BK392
               clear HB
               have HO_3 := n0_
               have HO_373000 := n1_
               have HO_383000 := n2_
               have HL391_8 := n3_
               have BK358 := n4_
               have BK372 := n5_
               have BK382 := n6_
               have BK392 := n7_
               have HB := n8_
               clear n0_ n1_ n2_ n3_ n4_ n5_ n6_ n7_ n8_
               (try clear hb)
               (try clear hb2)
               (try clear hk)
               (try clear hi)
               refine hK.out _ _ ⟨(blk_cell BK392.out 0).trans rfl, (blk_cell BK392.out 1).trans rfl, (blk_cell BK392.out 2).trans rfl, (blk_cell BK392.out 3).trans rfl, (blk_cell BK392.out 4).trans rfl, (blk_cell BK392.out 5).trans rfl, (blk_cell BK392.out 6).trans rfl, (blk_cell BK392.out 7).trans rfl, (blk_cell BK392.out 8).trans rfl, (blk_cell BK358.out 0).trans rfl, ((HB.out.cell (World.block_lt_of_cell? w _ hw395_0)).trans hw395_0), ((HB.out.cell (World.block_lt_of_cell? w _ hw395_1)).trans hw395_1), ((HB.out.cell (World.block_lt_of_cell? w _ hw395_2)).trans hw395_2), ((HB.out.cell (World.block_lt_of_cell? w _ hw395_3)).trans hw395_3), ((HB.out.cell (World.block_lt_of_cell? w _ hw395_4)).trans hw395_4), ((HB.out.cell (World.block_lt_of_cell? w _ hw395_5)).trans hw395_5), ((HB.out.cell (World.block_lt_of_cell? w _ hw395_6)).trans hw395_6), ((HB.out.cell (World.block_lt_of_cell? w _ hw395_7)).trans hw395_7), ((HB.out.cell (World.block_lt_of_cell? w _ hw395_8)).trans hw395_8)⟩ (fun hHeld => ?_)
               clear hK K
               refine norm_ (a' := ?_) ?_ ?_
               rotate_left
               ·show Act.put _ (some 102) _ = _
                simp only [Act.put, List.setIfInBounds_toArray, List.set_cons_zero, List.set_cons_succ, i64_w, i32_w]
                rfl
               refine pure_ (i := 7) (N := some 103) (v := ?_) (a' := ?_) #[true, true, true, true, true, true, true, true] rfl rfl (any_of HT_.out (by kernel_rfl)) (fun _ _ _ h => h) (Or.inl ⟨by rfl, ?_⟩) ?_ ?_
               rotate_left
               ·intro w'
                go_simp
                with_reducible rfl
               rotate_left
               ·simp only [Act.put, List.setIfInBounds_toArray, List.set_cons_zero, List.set_cons_succ, i64_w, i32_w]
                rfl
               refine done_ (done_of HT_.out (by kernel_rfl)) ?_
               try go_wp2
               go_ret
               exact ⟨by first | rfl | (simp [errW_none, errW_some] <;> rfl) | (simp [*, errW_none, errW_some] <;> rfl), by repeat (first | (with_reducible first | exact HB.out | apply l1 | apply l2 | apply l3 | refine below_set ?_ GE358.out | refine below_set ?_ GE372.out | refine below_set ?_ GE382.out | refine below_set ?_ GE392.out) | exact HB.out)⟩
             ·rw [if_neg c64] at H
              exact absurd H (by simp)
            ·rw [if_neg c63] at H
             have c63b0 : (((rd_T41 t366 x10_3).f2) == (rd t359 x10_3)) = false := beq_eq_false_iff_ne.mpr c63
             have c63b1 : (((rd_T41 t366 x10_3).f2) != (rd t359 x10_3)) = true := bne_iff_ne.mpr c63
             obtain rfl := Option.some.inj H
             obtain ⟨Ao101, co101, eo101⟩ := Kd.R_slice HO_3.out
             subst eo101
             have hnb102 := NB372_358.out
             have hnc102 := NB358_372.out
             have hnb103 := NB372_382.out
             have hnc103 := NB382_372.out
             obtain ⟨hcz104_0, hfz104_0⟩ := blk_cells1 BK372.out
             have p391 : 0 ≤ (x10_3 : Int) := of_decide_eq_true (by first | (with_reducible assumption) | assumption)
             have q391 : x10_3 < (t366.length : Int) := of_decide_eq_true (by first | (with_reducible assumption) | assumption)
             obtain ⟨ad391, A391_8, c391_8, e391, hx391_0, hx391_1, hx391_2, hx391_3, hx391_4, hx391_5, hx391_6, hx391_7, hx391_8, hl391_8, hi391_8⟩ := at_T41 (Kd.S_reads' HO_373000.out).2.2 x10_3 p391 q391
             cases e391
             obtain ⟨ce391, hce391, hMe391, hcc391⟩ := Kd.S_get HO_373000.out z41 x10_3 p391 (by first | exact q391 | exact of_decide_eq_true (by first | (with_reducible assumption) | assumption) | (have e_ := (Kd.S_reads' HO_373000.out).1; omega))
             obtain ⟨ve391_8, rfl, ge391_8⟩ := k41_openM hMe391
             have hv391_8 := hcc391 8 _ rfl
             rw [add_field _ _ 8 (by omega)] at hv391_8
             replace hv391_8 := Option.some.inj (hv391_8.symm.trans hx391_8)
             rw [hv391_8] at ge391_8
             have HL391_8 := Aside0.mk (show Kd.R k62 62 _ _ _ _ ((rd_T41 t366 x10_3).f5.f1) from ge391_8)
             clear hv391_8 ge391_8
             clear hcc391 hce391
             have HR391_8 := Aside0.mk hi391_8
             have HC391_8 := Aside0.mk hl391_8
             clear hi391_8 hl391_8
             replace p391 := eq_true p391
             replace q391 := eq_true q391
             try go_wp2_with (first | ((with_reducible refine gate_dst (N := 11) rfl ?_); (try (refine gate_guard (by rfl) ?_; dsimp only)); refine box_event (by rfl) (N := 11) (by rfl) (cs := #[.int .i64 0, .int .i64 0, .int .i64 0, .int .i64 0, .int .i64 0, .int .i64 0, .string (⟨#[]⟩ : ByteArray), .string (⟨#[]⟩ : ByteArray), .slice none 0 0]) (t := 41) (by first | (go_simp; done) | (go_simp; rfl)) ?_; intro gb392 hg w105 hbox hb; obtain ⟨hb_, hw_⟩ := box_facts (by repeat (first | (with_reducible first | exact HB.out | apply l1 | apply l2 | apply l3 | refine below_set ?_ GE358.out | refine below_set ?_ GE372.out | refine below_set ?_ GE382.out) | exact HB.out)) hg hb; have n0_ := Aside0.mk (Kd.R_below (by (with_reducible repeat (first | apply Kd.R_alloc | apply Kd.R_drewN | apply Kd.R_drew)); exact HO_3.out) hb); have n1_ := Aside0.mk (Kd.S_below (Kd.S_elderB (by (with_reducible repeat (first | apply Kd.S_alloc | apply Kd.S_drewN | apply Kd.S_drew)); exact HO_373000.out) gb392 (Nat.le_of_eq hg.symm)) hb); have n2_ := Aside0.mk (Kd.S_below (Kd.S_elderB (by (with_reducible repeat (first | apply Kd.S_alloc | apply Kd.S_drewN | apply Kd.S_drew)); exact HO_383000.out) gb392 (Nat.le_of_eq hg.symm)) hb); have n3_ := Aside0.mk (Kd.R_below (by (with_reducible repeat (first | apply Kd.R_alloc | apply Kd.R_drewN | apply Kd.R_drew)); exact HL391_8.out) hb); have n4_ := Aside0.mk (blk_below (by (with_reducible repeat (first | apply b1 | apply b2 | apply b3)); exact BK358.out) hb); have n5_ := Aside0.mk (blk_below (by (with_reducible repeat (first | apply b1 | apply b2 | apply b3)); exact BK372.out) hb); have n6_ := Aside0.mk (blk_below (by (with_reducible repeat (first | apply b1 | apply b2 | apply b3)); exact BK382.out) hb); have n7_ := Aside0.mk (Kd.C_below (by repeat (first | (with_reducible exact HR391_8.out) | (with_reducible refine Kd.C_alloc ?_ _) | (with_reducible refine Kd.C_drewN ?_ _) | (with_reducible refine Kd.C_drew ?_) | exact HR391_8.out)) hb); have n8_ := Aside0.mk (hb_); have n9_ := Aside0.mk (hbox); have n10_ := Aside0.mk (hw_); have n11_ := Aside0.mk (hw_); have n12_ := Aside0.mk ((by rw [hg]; exact Nat.ne_of_lt (blk_lt (by (with_reducible repeat (first | apply b1 | apply b2 | apply b3)); exact BK358.out)) : gb358 ≠ gb392)); have n13_ := Aside0.mk ((by rw [hg]; exact Nat.ne_of_gt (blk_lt (by (with_reducible repeat (first | apply b1 | apply b2 | apply b3)); exact BK358.out)) : gb392 ≠ gb358)); have n14_ := Aside0.mk ((by rw [hg]; exact Nat.ne_of_lt (blk_lt (by (with_reducible repeat (first | apply b1 | apply b2 | apply b3)); exact BK372.out)) : gb372 ≠ gb392)); have n15_ := Aside0.mk ((by rw [hg]; exact Nat.ne_of_gt (blk_lt (by (with_reducible repeat (first | apply b1 | apply b2 | apply b3)); exact BK372.out)) : gb392 ≠ gb372)); have n16_ := Aside0.mk ((by rw [hg]; exact Nat.ne_of_lt (blk_lt (by (with_reducible repeat (first | apply b1 | apply b2 | apply b3)); exact BK382.out)) : gb382 ≠ gb392)); have n17_ := Aside0.mk ((by rw [hg]; exact Nat.ne_of_gt (blk_lt (by (with_reducible repeat (first | apply b1 | apply b2 | apply b3)); exact BK382.out)) : gb392 ≠ gb382)); clear HO_3; clear HO_373000; clear HO_383000; clear HL391_8; clear BK358; clear BK372; clear BK382; clear HR391_8; clear HB; have HO_3 := n0_; have HO_373000 := n1_; have HO_383000 := n2_; have HL391_8 := n3_; have BK358 := n4_; have BK372 := n5_; have BK382 := n6_; have HR391_8 := n7_; have HB := n8_; have BK392 := n9_; have GW392 := n10_; have GE392 := n11_; have NB358_392 := n12_; have NB392_358 := n13_; have NB372_392 := n14_; have NB392_372 := n15_; have NB382_392 := n16_; have NB392_382 := n17_; clear n0_ n1_ n2_ n3_ n4_ n5_ n6_ n7_ n8_ n9_ n10_ n11_ n12_ n13_ n14_ n15_ n16_ n17_; clear hb hbox hg hb_ hw_; have hnb106 := NB392_358.out; have hnc106 := NB358_392.out; have hnb107 := NB392_372.out; have hnc107 := NB372_392.out; have hnb108 := NB392_382.out; have hnc108 := NB382_392.out; obtain ⟨hcz109_0, hcz109_1, hcz109_2, hcz109_3, hcz109_4, hcz109_5, hcz109_6, hcz109_7, hcz109_8, hfz109_0, hfz109_1, hfz109_2, hfz109_3, hfz109_4, hfz109_5, hfz109_6, hfz109_7, hfz109_8⟩ := blk_cells9 BK392.out))
             have n0_ : Aside0 (Kd.R (Kd.int .i64) 3 (((((((((w105.setCell ⟨gb392, 0, none⟩ (.int .i64 ((rd_T41 t366 x10_3).f0.f0))).setCell ⟨gb392, 1, none⟩ (.int .i64 ((rd_T41 t366 x10_3).f0.f1))).setCell ⟨gb392, 2, none⟩ (.int .i64 ((rd_T41 t366 x10_3).f1.f0))).setCell ⟨gb392, 3, none⟩ (.int .i64 ((rd_T41 t366 x10_3).f1.f1))).setCell ⟨gb392, 4, none⟩ (.int .i64 ((rd_T41 t366 x10_3).f2))).setCell ⟨gb392, 5, none⟩ (.int .i64 ((rd_T41 t366 x10_3).f3))).setCell ⟨gb392, 6, none⟩ (.string ((rd_T41 t366 x10_3).f4))).setCell ⟨gb392, 7, none⟩ (.string ((rd_T41 t366 x10_3).f5.f0))).setCell ⟨gb392, 8, none⟩ (.slice A391_8 ((rd_T41 t366 x10_3).f5.f1).length c391_8)) w.heap.size (fun _ => True) (.slice Ao101 t359.length co101) t359) := ⟨by (with_reducible repeat (first | apply Kd.R_alloc | apply Kd.R_drewN | apply Kd.R_drew)); exact Kd.R_mono (Kd.R_far (p := ⟨gb392, 8, none⟩) (Kd.R_far (p := ⟨gb392, 7, none⟩) (Kd.R_far (p := ⟨gb392, 6, none⟩) (Kd.R_far (p := ⟨gb392, 5, none⟩) (Kd.R_far (p := ⟨gb392, 4, none⟩) (Kd.R_far (p := ⟨gb392, 3, none⟩) (Kd.R_far (p := ⟨gb392, 2, none⟩) (Kd.R_far (p := ⟨gb392, 1, none⟩) (Kd.R_far (p := ⟨gb392, 0, none⟩) (Kd.R_types HO_3.out BK392.out (by decide)) (fun _ hk => hk.2) (.int .i64 ((rd_T41 t366 x10_3).f0.f0))) (fun _ hk => hk.2) (.int .i64 ((rd_T41 t366 x10_3).f0.f1))) (fun _ hk => hk.2) (.int .i64 ((rd_T41 t366 x10_3).f1.f0))) (fun _ hk => hk.2) (.int .i64 ((rd_T41 t366 x10_3).f1.f1))) (fun _ hk => hk.2) (.int .i64 ((rd_T41 t366 x10_3).f2))) (fun _ hk => hk.2) (.int .i64 ((rd_T41 t366 x10_3).f3))) (fun _ hk => hk.2) (.string ((rd_T41 t366 x10_3).f4))) (fun _ hk => hk.2) (.string ((rd_T41 t366 x10_3).f5.f0))) (fun _ hk => hk.2) (.slice A391_8 ((rd_T41 t366 x10_3).f5.f1).length c391_8)) (fun _ hk => trivial)⟩
             have n1_ : Aside0 (Kd.S k41 41 (((((((((w105.setCell ⟨gb392, 0, none⟩ (.int .i64 ((rd_T41 t366 x10_3).f0.f0))).setCell ⟨gb392, 1, none⟩ (.int .i64 ((rd_T41 t366 x10_3).f0.f1))).setCell ⟨gb392, 2, none⟩ (.int .i64 ((rd_T41 t366 x10_3).f1.f0))).setCell ⟨gb392, 3, none⟩ (.int .i64 ((rd_T41 t366 x10_3).f1.f1))).setCell ⟨gb392, 4, none⟩ (.int .i64 ((rd_T41 t366 x10_3).f2))).setCell ⟨gb392, 5, none⟩ (.int .i64 ((rd_T41 t366 x10_3).f3))).setCell ⟨gb392, 6, none⟩ (.string ((rd_T41 t366 x10_3).f4))).setCell ⟨gb392, 7, none⟩ (.string ((rd_T41 t366 x10_3).f5.f0))).setCell ⟨gb392, 8, none⟩ (.slice A391_8 ((rd_T41 t366 x10_3).f5.f1).length c391_8)) w.heap.size (fun k_ => some k_ ≠ (.slice Ao28 t376.length co28 : Value).ownBlock ∧ k_ ≠ gb392) (.slice (some ad391) t366.length co11) t366) := ⟨by (with_reducible repeat (first | apply Kd.S_alloc | apply Kd.S_drewN | apply Kd.S_drew)); exact Kd.S_mono (Kd.S_far (p := ⟨gb392, 8, none⟩) (Kd.S_far (p := ⟨gb392, 7, none⟩) (Kd.S_far (p := ⟨gb392, 6, none⟩) (Kd.S_far (p := ⟨gb392, 5, none⟩) (Kd.S_far (p := ⟨gb392, 4, none⟩) (Kd.S_far (p := ⟨gb392, 3, none⟩) (Kd.S_far (p := ⟨gb392, 2, none⟩) (Kd.S_far (p := ⟨gb392, 1, none⟩) (Kd.S_far (p := ⟨gb392, 0, none⟩) (Kd.S_mono HO_373000.out (fun k_ hk => (⟨hk, hk.2⟩ : _ ∧ k_ ≠ gb392))) (fun _ hk => hk.2) (.int .i64 ((rd_T41 t366 x10_3).f0.f0))) (fun _ hk => hk.2) (.int .i64 ((rd_T41 t366 x10_3).f0.f1))) (fun _ hk => hk.2) (.int .i64 ((rd_T41 t366 x10_3).f1.f0))) (fun _ hk => hk.2) (.int .i64 ((rd_T41 t366 x10_3).f1.f1))) (fun _ hk => hk.2) (.int .i64 ((rd_T41 t366 x10_3).f2))) (fun _ hk => hk.2) (.int .i64 ((rd_T41 t366 x10_3).f3))) (fun _ hk => hk.2) (.string ((rd_T41 t366 x10_3).f4))) (fun _ hk => hk.2) (.string ((rd_T41 t366 x10_3).f5.f0))) (fun _ hk => hk.2) (.slice A391_8 ((rd_T41 t366 x10_3).f5.f1).length c391_8)) (fun _ hk => ⟨hk.1.1, hk.1.2⟩)⟩
             have n2_ : Aside0 (Kd.S k41 41 (((((((((w105.setCell ⟨gb392, 0, none⟩ (.int .i64 ((rd_T41 t366 x10_3).f0.f0))).setCell ⟨gb392, 1, none⟩ (.int .i64 ((rd_T41 t366 x10_3).f0.f1))).setCell ⟨gb392, 2, none⟩ (.int .i64 ((rd_T41 t366 x10_3).f1.f0))).setCell ⟨gb392, 3, none⟩ (.int .i64 ((rd_T41 t366 x10_3).f1.f1))).setCell ⟨gb392, 4, none⟩ (.int .i64 ((rd_T41 t366 x10_3).f2))).setCell ⟨gb392, 5, none⟩ (.int .i64 ((rd_T41 t366 x10_3).f3))).setCell ⟨gb392, 6, none⟩ (.string ((rd_T41 t366 x10_3).f4))).setCell ⟨gb392, 7, none⟩ (.string ((rd_T41 t366 x10_3).f5.f0))).setCell ⟨gb392, 8, none⟩ (.slice A391_8 ((rd_T41 t366 x10_3).f5.f1).length c391_8)) w.heap.size (fun k_ => some k_ ≠ (.slice (some ad391) t366.length co11 : Value).ownBlock ∧ k_ ≠ gb392) (.slice Ao28 t376.length co28) t376) := ⟨by (with_reducible repeat (first | apply Kd.S_alloc | apply Kd.S_drewN | apply Kd.S_drew)); exact Kd.S_mono (Kd.S_far (p := ⟨gb392, 8, none⟩) (Kd.S_far (p := ⟨gb392, 7, none⟩) (Kd.S_far (p := ⟨gb392, 6, none⟩) (Kd.S_far (p := ⟨gb392, 5, none⟩) (Kd.S_far (p := ⟨gb392, 4, none⟩) (Kd.S_far (p := ⟨gb392, 3, none⟩) (Kd.S_far (p := ⟨gb392, 2, none⟩) (Kd.S_far (p := ⟨gb392, 1, none⟩) (Kd.S_far (p := ⟨gb392, 0, none⟩) (Kd.S_mono HO_383000.out (fun k_ hk => (⟨hk, hk.2⟩ : _ ∧ k_ ≠ gb392))) (fun _ hk => hk.2) (.int .i64 ((rd_T41 t366 x10_3).f0.f0))) (fun _ hk => hk.2) (.int .i64 ((rd_T41 t366 x10_3).f0.f1))) (fun _ hk => hk.2) (.int .i64 ((rd_T41 t366 x10_3).f1.f0))) (fun _ hk => hk.2) (.int .i64 ((rd_T41 t366 x10_3).f1.f1))) (fun _ hk => hk.2) (.int .i64 ((rd_T41 t366 x10_3).f2))) (fun _ hk => hk.2) (.int .i64 ((rd_T41 t366 x10_3).f3))) (fun _ hk => hk.2) (.string ((rd_T41 t366 x10_3).f4))) (fun _ hk => hk.2) (.string ((rd_T41 t366 x10_3).f5.f0))) (fun _ hk => hk.2) (.slice A391_8 ((rd_T41 t366 x10_3).f5.f1).length c391_8)) (fun _ hk => ⟨hk.1.1, hk.1.2⟩)⟩
             have n3_ : Aside0 (Kd.R k62 62 (((((((((w105.setCell ⟨gb392, 0, none⟩ (.int .i64 ((rd_T41 t366 x10_3).f0.f0))).setCell ⟨gb392, 1, none⟩ (.int .i64 ((rd_T41 t366 x10_3).f0.f1))).setCell ⟨gb392, 2, none⟩ (.int .i64 ((rd_T41 t366 x10_3).f1.f0))).setCell ⟨gb392, 3, none⟩ (.int .i64 ((rd_T41 t366 x10_3).f1.f1))).setCell ⟨gb392, 4, none⟩ (.int .i64 ((rd_T41 t366 x10_3).f2))).setCell ⟨gb392, 5, none⟩ (.int .i64 ((rd_T41 t366 x10_3).f3))).setCell ⟨gb392, 6, none⟩ (.string ((rd_T41 t366 x10_3).f4))).setCell ⟨gb392, 7, none⟩ (.string ((rd_T41 t366 x10_3).f5.f0))).setCell ⟨gb392, 8, none⟩ (.slice A391_8 ((rd_T41 t366 x10_3).f5.f1).length c391_8)) w.heap.size (fun k_ => some k_ ≠ (.slice (some ad391) t366.length co11 : Value).ownBlock ∧ some k_ ≠ (.slice Ao28 t376.length co28 : Value).ownBlock) (.slice A391_8 ((rd_T41 t366 x10_3).f5.f1).length c391_8) ((rd_T41 t366 x10_3).f5.f1)) := ⟨by (with_reducible repeat (first | apply Kd.R_alloc | apply Kd.R_drewN | apply Kd.R_drew)); exact Kd.R_mono (Kd.R_far (p := ⟨gb392, 8, none⟩) (Kd.R_far (p := ⟨gb392, 7, none⟩) (Kd.R_far (p := ⟨gb392, 6, none⟩) (Kd.R_far (p := ⟨gb392, 5, none⟩) (Kd.R_far (p := ⟨gb392, 4, none⟩) (Kd.R_far (p := ⟨gb392, 3, none⟩) (Kd.R_far (p := ⟨gb392, 2, none⟩) (Kd.R_far (p := ⟨gb392, 1, none⟩) (Kd.R_far (p := ⟨gb392, 0, none⟩) (Kd.R_types HL391_8.out BK392.out (by decide)) (fun _ hk => hk.2) (.int .i64 ((rd_T41 t366 x10_3).f0.f0))) (fun _ hk => hk.2) (.int .i64 ((rd_T41 t366 x10_3).f0.f1))) (fun _ hk => hk.2) (.int .i64 ((rd_T41 t366 x10_3).f1.f0))) (fun _ hk => hk.2) (.int .i64 ((rd_T41 t366 x10_3).f1.f1))) (fun _ hk => hk.2) (.int .i64 ((rd_T41 t366 x10_3).f2))) (fun _ hk => hk.2) (.int .i64 ((rd_T41 t366 x10_3).f3))) (fun _ hk => hk.2) (.string ((rd_T41 t366 x10_3).f4))) (fun _ hk => hk.2) (.string ((rd_T41 t366 x10_3).f5.f0))) (fun _ hk => hk.2) (.slice A391_8 ((rd_T41 t366 x10_3).f5.f1).length c391_8)) (fun _ hk => ⟨hk.1.2, hk.1.1⟩)⟩
             have n4_ : Aside0 ((((((((((w105.setCell ⟨gb392, 0, none⟩ (.int .i64 ((rd_T41 t366 x10_3).f0.f0))).setCell ⟨gb392, 1, none⟩ (.int .i64 ((rd_T41 t366 x10_3).f0.f1))).setCell ⟨gb392, 2, none⟩ (.int .i64 ((rd_T41 t366 x10_3).f1.f0))).setCell ⟨gb392, 3, none⟩ (.int .i64 ((rd_T41 t366 x10_3).f1.f1))).setCell ⟨gb392, 4, none⟩ (.int .i64 ((rd_T41 t366 x10_3).f2))).setCell ⟨gb392, 5, none⟩ (.int .i64 ((rd_T41 t366 x10_3).f3))).setCell ⟨gb392, 6, none⟩ (.string ((rd_T41 t366 x10_3).f4))).setCell ⟨gb392, 7, none⟩ (.string ((rd_T41 t366 x10_3).f5.f0))).setCell ⟨gb392, 8, none⟩ (.slice A391_8 ((rd_T41 t366 x10_3).f5.f1).length c391_8)).heap[gb358]? = some (.cells #[.slice A0_0 l0_0.length c0_0] 24 (0, 0))) := ⟨by (with_reducible repeat (first | apply b1 | apply b2 | apply b3)); refine blk_far ?_ NB358_392.out _; (with_reducible repeat (first | apply b1 | apply b2 | apply b3)); refine blk_far ?_ NB358_392.out _; (with_reducible repeat (first | apply b1 | apply b2 | apply b3)); refine blk_far ?_ NB358_392.out _; (with_reducible repeat (first | apply b1 | apply b2 | apply b3)); refine blk_far ?_ NB358_392.out _; (with_reducible repeat (first | apply b1 | apply b2 | apply b3)); refine blk_far ?_ NB358_392.out _; (with_reducible repeat (first | apply b1 | apply b2 | apply b3)); refine blk_far ?_ NB358_392.out _; (with_reducible repeat (first | apply b1 | apply b2 | apply b3)); refine blk_far ?_ NB358_392.out _; (with_reducible repeat (first | apply b1 | apply b2 | apply b3)); refine blk_far ?_ NB358_392.out _; (with_reducible repeat (first | apply b1 | apply b2 | apply b3)); refine blk_far ?_ NB358_392.out _; (with_reducible repeat (first | apply b1 | apply b2 | apply b3)); exact BK358.out⟩
             have n5_ : Aside0 ((((((((((w105.setCell ⟨gb392, 0, none⟩ (.int .i64 ((rd_T41 t366 x10_3).f0.f0))).setCell ⟨gb392, 1, none⟩ (.int .i64 ((rd_T41 t366 x10_3).f0.f1))).setCell ⟨gb392, 2, none⟩ (.int .i64 ((rd_T41 t366 x10_3).f1.f0))).setCell ⟨gb392, 3, none⟩ (.int .i64 ((rd_T41 t366 x10_3).f1.f1))).setCell ⟨gb392, 4, none⟩ (.int .i64 ((rd_T41 t366 x10_3).f2))).setCell ⟨gb392, 5, none⟩ (.int .i64 ((rd_T41 t366 x10_3).f3))).setCell ⟨gb392, 6, none⟩ (.string ((rd_T41 t366 x10_3).f4))).setCell ⟨gb392, 7, none⟩ (.string ((rd_T41 t366 x10_3).f5.f0))).setCell ⟨gb392, 8, none⟩ (.slice A391_8 ((rd_T41 t366 x10_3).f5.f1).length c391_8)).heap[gb372]? = some (.cells #[.slice (some ad391) t366.length co11] 24 (0, 0))) := ⟨by (with_reducible repeat (first | apply b1 | apply b2 | apply b3)); refine blk_far ?_ NB372_392.out _; (with_reducible repeat (first | apply b1 | apply b2 | apply b3)); refine blk_far ?_ NB372_392.out _; (with_reducible repeat (first | apply b1 | apply b2 | apply b3)); refine blk_far ?_ NB372_392.out _; (with_reducible repeat (first | apply b1 | apply b2 | apply b3)); refine blk_far ?_ NB372_392.out _; (with_reducible repeat (first | apply b1 | apply b2 | apply b3)); refine blk_far ?_ NB372_392.out _; (with_reducible repeat (first | apply b1 | apply b2 | apply b3)); refine blk_far ?_ NB372_392.out _; (with_reducible repeat (first | apply b1 | apply b2 | apply b3)); refine blk_far ?_ NB372_392.out _; (with_reducible repeat (first | apply b1 | apply b2 | apply b3)); refine blk_far ?_ NB372_392.out _; (with_reducible repeat (first | apply b1 | apply b2 | apply b3)); refine blk_far ?_ NB372_392.out _; (with_reducible repeat (first | apply b1 | apply b2 | apply b3)); exact BK372.out⟩
             have n6_ : Aside0 ((((((((((w105.setCell ⟨gb392, 0, none⟩ (.int .i64 ((rd_T41 t366 x10_3).f0.f0))).setCell ⟨gb392, 1, none⟩ (.int .i64 ((rd_T41 t366 x10_3).f0.f1))).setCell ⟨gb392, 2, none⟩ (.int .i64 ((rd_T41 t366 x10_3).f1.f0))).setCell ⟨gb392, 3, none⟩ (.int .i64 ((rd_T41 t366 x10_3).f1.f1))).setCell ⟨gb392, 4, none⟩ (.int .i64 ((rd_T41 t366 x10_3).f2))).setCell ⟨gb392, 5, none⟩ (.int .i64 ((rd_T41 t366 x10_3).f3))).setCell ⟨gb392, 6, none⟩ (.string ((rd_T41 t366 x10_3).f4))).setCell ⟨gb392, 7, none⟩ (.string ((rd_T41 t366 x10_3).f5.f0))).setCell ⟨gb392, 8, none⟩ (.slice A391_8 ((rd_T41 t366 x10_3).f5.f1).length c391_8)).heap[gb382]? = some (.cells #[.slice Ao28 t376.length co28] 24 (0, 0))) := ⟨by (with_reducible repeat (first | apply b1 | apply b2 | apply b3)); refine blk_far ?_ NB382_392.out _; (with_reducible repeat (first | apply b1 | apply b2 | apply b3)); refine blk_far ?_ NB382_392.out _; (with_reducible repeat (first | apply b1 | apply b2 | apply b3)); refine blk_far ?_ NB382_392.out _; (with_reducible repeat (first | apply b1 | apply b2 | apply b3)); refine blk_far ?_ NB382_392.out _; (with_reducible repeat (first | apply b1 | apply b2 | apply b3)); refine blk_far ?_ NB382_392.out _; (with_reducible repeat (first | apply b1 | apply b2 | apply b3)); refine blk_far ?_ NB382_392.out _; (with_reducible repeat (first | apply b1 | apply b2 | apply b3)); refine blk_far ?_ NB382_392.out _; (with_reducible repeat (first | apply b1 | apply b2 | apply b3)); refine blk_far ?_ NB382_392.out _; (with_reducible repeat (first | apply b1 | apply b2 | apply b3)); refine blk_far ?_ NB382_392.out _; (with_reducible repeat (first | apply b1 | apply b2 | apply b3)); exact BK382.out⟩
             have n7_ : Aside0 ((((((((((w105.setCell ⟨gb392, 0, none⟩ (.int .i64 ((rd_T41 t366 x10_3).f0.f0))).setCell ⟨gb392, 1, none⟩ (.int .i64 ((rd_T41 t366 x10_3).f0.f1))).setCell ⟨gb392, 2, none⟩ (.int .i64 ((rd_T41 t366 x10_3).f1.f0))).setCell ⟨gb392, 3, none⟩ (.int .i64 ((rd_T41 t366 x10_3).f1.f1))).setCell ⟨gb392, 4, none⟩ (.int .i64 ((rd_T41 t366 x10_3).f2))).setCell ⟨gb392, 5, none⟩ (.int .i64 ((rd_T41 t366 x10_3).f3))).setCell ⟨gb392, 6, none⟩ (.string ((rd_T41 t366 x10_3).f4))).setCell ⟨gb392, 7, none⟩ (.string ((rd_T41 t366 x10_3).f5.f0))).setCell ⟨gb392, 8, none⟩ (.slice A391_8 ((rd_T41 t366 x10_3).f5.f1).length c391_8)).heap[gb392]? = some (.cells #[.int .i64 ((rd_T41 t366 x10_3).f0.f0), .int .i64 ((rd_T41 t366 x10_3).f0.f1), .int .i64 ((rd_T41 t366 x10_3).f1.f0), .int .i64 ((rd_T41 t366 x10_3).f1.f1), .int .i64 ((rd_T41 t366 x10_3).f2), .int .i64 ((rd_T41 t366 x10_3).f3), .string ((rd_T41 t366 x10_3).f4), .string ((rd_T41 t366 x10_3).f5.f0), .slice A391_8 ((rd_T41 t366 x10_3).f5.f1).length c391_8] 41 (0, 0))) := ⟨by (with_reducible repeat (first | apply b1 | apply b2 | apply b3)); refine blk_put (cs := #[.int .i64 ((rd_T41 t366 x10_3).f0.f0), .int .i64 ((rd_T41 t366 x10_3).f0.f1), .int .i64 ((rd_T41 t366 x10_3).f1.f0), .int .i64 ((rd_T41 t366 x10_3).f1.f1), .int .i64 ((rd_T41 t366 x10_3).f2), .int .i64 ((rd_T41 t366 x10_3).f3), .string ((rd_T41 t366 x10_3).f4), .string ((rd_T41 t366 x10_3).f5.f0), .slice none 0 0]) ?_ 8 _ rfl; (with_reducible repeat (first | apply b1 | apply b2 | apply b3)); refine blk_put (cs := #[.int .i64 ((rd_T41 t366 x10_3).f0.f0), .int .i64 ((rd_T41 t366 x10_3).f0.f1), .int .i64 ((rd_T41 t366 x10_3).f1.f0), .int .i64 ((rd_T41 t366 x10_3).f1.f1), .int .i64 ((rd_T41 t366 x10_3).f2), .int .i64 ((rd_T41 t366 x10_3).f3), .string ((rd_T41 t366 x10_3).f4), .string (⟨#[]⟩ : ByteArray), .slice none 0 0]) ?_ 7 _ rfl; (with_reducible repeat (first | apply b1 | apply b2 | apply b3)); refine blk_put (cs := #[.int .i64 ((rd_T41 t366 x10_3).f0.f0), .int .i64 ((rd_T41 t366 x10_3).f0.f1), .int .i64 ((rd_T41 t366 x10_3).f1.f0), .int .i64 ((rd_T41 t366 x10_3).f1.f1), .int .i64 ((rd_T41 t366 x10_3).f2), .int .i64 ((rd_T41 t366 x10_3).f3), .string (⟨#[]⟩ : ByteArray), .string (⟨#[]⟩ : ByteArray), .slice none 0 0]) ?_ 6 _ rfl; (with_reducible repeat (first | apply b1 | apply b2 | apply b3)); refine blk_put (cs := #[.int .i64 ((rd_T41 t366 x10_3).f0.f0), .int .i64 ((rd_T41 t366 x10_3).f0.f1), .int .i64 ((rd_T41 t366 x10_3).f1.f0), .int .i64 ((rd_T41 t366 x10_3).f1.f1), .int .i64 ((rd_T41 t366 x10_3).f2), .int .i64 0, .string (⟨#[]⟩ : ByteArray), .string (⟨#[]⟩ : ByteArray), .slice none 0 0]) ?_ 5 _ rfl; (with_reducible repeat (first | apply b1 | apply b2 | apply b3)); refine blk_put (cs := #[.int .i64 ((rd_T41 t366 x10_3).f0.f0), .int .i64 ((rd_T41 t366 x10_3).f0.f1), .int .i64 ((rd_T41 t366 x10_3).f1.f0), .int .i64 ((rd_T41 t366 x10_3).f1.f1), .int .i64 0, .int .i64 0, .string (⟨#[]⟩ : ByteArray), .string (⟨#[]⟩ : ByteArray), .slice none 0 0]) ?_ 4 _ rfl; (with_reducible repeat (first | apply b1 | apply b2 | apply b3)); refine blk_put (cs := #[.int .i64 ((rd_T41 t366 x10_3).f0.f0), .int .i64 ((rd_T41 t366 x10_3).f0.f1), .int .i64 ((rd_T41 t366 x10_3).f1.f0), .int .i64 0, .int .i64 0, .int .i64 0, .string (⟨#[]⟩ : ByteArray), .string (⟨#[]⟩ : ByteArray), .slice none 0 0]) ?_ 3 _ rfl; (with_reducible repeat (first | apply b1 | apply b2 | apply b3)); refine blk_put (cs := #[.int .i64 ((rd_T41 t366 x10_3).f0.f0), .int .i64 ((rd_T41 t366 x10_3).f0.f1), .int .i64 0, .int .i64 0, .int .i64 0, .int .i64 0, .string (⟨#[]⟩ : ByteArray), .string (⟨#[]⟩ : ByteArray), .slice none 0 0]) ?_ 2 _ rfl; (with_reducible repeat (first | apply b1 | apply b2 | apply b3)); refine blk_put (cs := #[.int .i64 ((rd_T41 t366 x10_3).f0.f0), .int .i64 0, .int .i64 0, .int .i64 0, .int .i64 0, .int .i64 0, .string (⟨#[]⟩ : ByteArray), .string (⟨#[]⟩ : ByteArray), .slice none 0 0]) ?_ 1 _ rfl; (with_reducible repeat (first | apply b1 | apply b2 | apply b3)); refine blk_put (cs := #[.int .i64 0, .int .i64 0, .int .i64 0, .int .i64 0, .int .i64 0, .int .i64 0, .string (⟨#[]⟩ : ByteArray), .string (⟨#[]⟩ : ByteArray), .slice none 0 0]) ?_ 0 _ rfl; (with_reducible repeat (first | apply b1 | apply b2 | apply b3)); exact BK392.out⟩
             have n8_ : Aside0 (Below w.heap.size w (((((((((w105.setCell ⟨gb392, 0, none⟩ (.int .i64 ((rd_T41 t366 x10_3).f0.f0))).setCell ⟨gb392, 1, none⟩ (.int .i64 ((rd_T41 t366 x10_3).f0.f1))).setCell ⟨gb392, 2, none⟩ (.int .i64 ((rd_T41 t366 x10_3).f1.f0))).setCell ⟨gb392, 3, none⟩ (.int .i64 ((rd_T41 t366 x10_3).f1.f1))).setCell ⟨gb392, 4, none⟩ (.int .i64 ((rd_T41 t366 x10_3).f2))).setCell ⟨gb392, 5, none⟩ (.int .i64 ((rd_T41 t366 x10_3).f3))).setCell ⟨gb392, 6, none⟩ (.string ((rd_T41 t366 x10_3).f4))).setCell ⟨gb392, 7, none⟩ (.string ((rd_T41 t366 x10_3).f5.f0))).setCell ⟨gb392, 8, none⟩ (.slice A391_8 ((rd_T41 t366 x10_3).f5.f1).length c391_8))) := ⟨by repeat (first | (with_reducible first | exact HB.out | apply l1 | apply l2 | apply l3 | refine below_set ?_ GE358.out | refine below_set ?_ GE372.out | refine below_set ?_ GE382.out | refine below_set ?_ GE392.out) | exact HB.out)⟩
             (try clear HO_3)
             (try clear HO_373000)
             (try clear HO_383000)
             (try clear HL391_8)
             (try clear BK358)
             (try clear BK372)
             (try clear BK382)
             (try clear BK392)
             (try clear HB)
             generalize (((((((((w105.setCell ⟨gb392, 0, none⟩ (.int .i64 ((rd_T41 t366 x10_3).f0.f0))).setCell ⟨gb392, 1, none⟩ (.int .i64 ((rd_T41 t366 x10_3).f0.f1))).setCell ⟨gb392, 2, none⟩ (.int .i64 ((rd_T41 t366 x10_3).f1.f0))).setCell ⟨gb392, 3, none⟩ (.int .i64 ((rd_T41 t366 x10_3).f1.f1))).setCell ⟨gb392, 4, none⟩ (.int .i64 ((rd_T41 t366 x10_3).f2))).setCell ⟨gb392, 5, none⟩ (.int .i64 ((rd_T41 t366 x10_3).f3))).setCell ⟨gb392, 6, none⟩ (.string ((rd_T41 t366 x10_3).f4))).setCell ⟨gb392, 7, none⟩ (.string ((rd_T41 t366 x10_3).f5.f0))).setCell ⟨gb392, 8, none⟩ (.slice A391_8 ((rd_T41 t366 x10_3).f5.f1).length c391_8)) = w110 at n0_ n1_ n2_ n3_ n4_ n5_ n6_ n7_ n8_ ⊢
             have HO_3 := n0_
             have HO_373000 := n1_
             have HO_383000 := n2_
             have HL391_8 := n3_
             have BK358 := n4_
             have BK372 := n5_
             have BK382 := n6_
             have BK392 := n7_
             have HB := n8_
             clear n0_ n1_ n2_ n3_ n4_ n5_ n6_ n7_ n8_
             have n0_ := Aside0.mk (Kd.R_drew HO_3.out)
             have n1_ := Aside0.mk (Kd.S_drew HO_373000.out)
             have n2_ := Aside0.mk (Kd.S_drew HO_383000.out)
             have n3_ := Aside0.mk (Kd.R_drew HL391_8.out)
             have n4_ := Aside0.mk (blk_drew BK358.out)
             have n5_ := Aside0.mk (blk_drew BK372.out)
             have n6_ := Aside0.mk (blk_drew BK382.out)
             have n7_ := Aside0.mk (blk_drew BK392.out)
             have n8_ := Aside0.mk (below_drew1 HB.out)
             clear HO_3
             clear HO_373000
             clear HO_383000
             clear HL391_8
             clear BK358
             clear BK372
             clear BK382
             clear BK392
             clear HB
             have HO_3 := n0_
             have HO_373000 := n1_
             have HO_383000 := n2_
             have HL391_8 := n3_
             have BK358 := n4_
             have BK372 := n5_
             have BK382 := n6_
             have BK392 := n7_
             have HB := n8_
             clear n0_ n1_ n2_ n3_ n4_ n5_ n6_ n7_ n8_
             have p393 : 0 ≤ (x10_3 : Int) := of_decide_eq_true (by first | (with_reducible assumption) | assumption)
             have q393 : x10_3 < (t359.length : Int) := of_decide_eq_true (by first | (with_reducible assumption) | assumption)
             obtain ⟨ad393, e393, hx393_0⟩ := Kd.at_int (Kd.R_reads' HO_3.out).2.2 x10_3 p393 q393
             cases e393
             replace p393 := eq_true p393
             replace q393 := eq_true q393
             refine start_ (n := 7) (S := fun w' => w'.cell? ⟨gb392, 0, none⟩ = some (.int .i64 ((rd_T41 t366 x10_3).f0.f0)) ∧ w'.cell? ⟨gb392, 1, none⟩ = some (.int .i64 ((rd_T41 t366 x10_3).f0.f1)) ∧ w'.cell? ⟨gb392, 2, none⟩ = some (.int .i64 ((rd_T41 t366 x10_3).f1.f0)) ∧ w'.cell? ⟨gb392, 3, none⟩ = some (.int .i64 ((rd_T41 t366 x10_3).f1.f1)) ∧ w'.cell? ⟨gb392, 4, none⟩ = some (.int .i64 ((rd_T41 t366 x10_3).f2)) ∧ w'.cell? ⟨gb392, 5, none⟩ = some (.int .i64 ((rd_T41 t366 x10_3).f3)) ∧ w'.cell? ⟨gb392, 6, none⟩ = some (.string ((rd_T41 t366 x10_3).f4)) ∧ w'.cell? ⟨gb392, 7, none⟩ = some (.string ((rd_T41 t366 x10_3).f5.f0)) ∧ w'.cell? ⟨gb392, 8, none⟩ = some (.slice A391_8 ((rd_T41 t366 x10_3).f5.f1).length c391_8) ∧ w'.cell? (ad393.add (x10_3).toNat) = some (.int .i64 (rd t359 x10_3))) (ds := []) #[false, false, false, false, false, false, false] (by kernel_rfl) rfl rfl ⟨(blk_cell BK392.out 0).trans rfl, (blk_cell BK392.out 1).trans rfl, (blk_cell BK392.out 2).trans rfl, (blk_cell BK392.out 3).trans rfl, (blk_cell BK392.out 4).trans rfl, (blk_cell BK392.out 5).trans rfl, (blk_cell BK392.out 6).trans rfl, (blk_cell BK392.out 7).trans rfl, (blk_cell BK392.out 8).trans rfl, hx393_0⟩ (fun hHeld => ?_)
             generalize w110.drew = w111 at HO_3 HO_373000 HO_383000 HL391_8 BK358 BK372 BK382 BK392 HB hx393_0 hHeld ⊢
             refine pure_ (i := 0) (N := some 82) (v := ?_) (a' := ?_) #[true, false, false, false, false, false, false] rfl rfl (by kernel_rfl) (fun _ _ _ h => h) (Or.inl ⟨by rfl, ?_⟩) ?_ ?_
             rotate_left
             ·intro w'
              go_simp
              with_reducible rfl
             rotate_left
             ·simp only [Act.put, List.setIfInBounds_toArray, List.set_cons_zero, List.set_cons_succ, i64_w, i32_w]
              rfl
             refine pure_ (i := 2) (N := some 84) (v := ?_) (a' := ?_) #[true, false, true, false, false, false, false] rfl rfl (by kernel_rfl) (fun _ _ _ h => h) (Or.inl ⟨by rfl, ?_⟩) ?_ ?_
             rotate_left
             ·intro w'
              go_simp
              with_reducible rfl
             rotate_left
             ·simp only [Act.put, List.setIfInBounds_toArray, List.set_cons_zero, List.set_cons_succ, i64_w, i32_w]
              rfl
             refine pure_ (i := 3) (N := some 85) (v := ?_) (a' := ?_) #[true, false, true, true, false, false, false] rfl rfl (by kernel_rfl) (fun _ _ _ h => h) (Or.inl ⟨by rfl, ?_⟩) ?_ ?_
             rotate_left
             ·intro w'
              go_simp
              with_reducible rfl
             rotate_left
             ·simp only [Act.put, List.setIfInBounds_toArray, List.set_cons_zero, List.set_cons_succ, i64_w, i32_w]
              rfl
             refine pure_ (i := 4) (N := some 86) (v := ?_) (a' := ?_) #[true, false, true, true, true, false, false] rfl rfl (by kernel_rfl) (fun _ _ _ h => h) (Or.inl ⟨by rfl, ?_⟩) ?_ ?_
             rotate_left
             ·intro w'
              go_simp
              with_reducible rfl
             rotate_left
             ·simp only [Act.put, List.setIfInBounds_toArray, List.set_cons_zero, List.set_cons_succ, i64_w, i32_w]
              rfl
             refine take_ (i := 1) (N := some 83) (v := ?_) (a' := ?_) #[true, true, true, true, true, false, false] rfl rfl (by kernel_rfl) (fun _ _ _ h => h) (Or.inl ⟨by rfl, ?_⟩) hHeld ?_ ?_
             rotate_left
             ·rintro w' ⟨s0, s1, s2, s3, s4, s5, s6, s7, s8, s9⟩
              go_simp
              with_reducible rfl
             rotate_left
             ·simp only [Act.put, List.setIfInBounds_toArray, List.set_cons_zero, List.set_cons_succ, i64_w, i32_w]
              rfl
             refine take_ (i := 5) (N := some 87) (v := ?_) (a' := ?_) #[true, true, true, true, true, true, false] rfl rfl (by kernel_rfl) (fun _ _ _ h => h) (Or.inl ⟨by rfl, ?_⟩) hHeld ?_ ?_
             rotate_left
             ·rintro w' ⟨s0, s1, s2, s3, s4, s5, s6, s7, s8, s9⟩
              go_simp
              with_reducible rfl
             rotate_left
             ·simp only [Act.put, List.setIfInBounds_toArray, List.set_cons_zero, List.set_cons_succ, i64_w, i32_w]
              rfl
             refine pure_ (i := 6) (N := some 88) (v := ?_) (a' := ?_) #[true, true, true, true, true, true, true] rfl rfl (by kernel_rfl) (fun _ _ _ h => h) (Or.inl ⟨by rfl, ?_⟩) ?_ ?_
             rotate_left
             ·intro w'
              go_simp
              with_reducible rfl
             rotate_left
             ·simp only [Act.put, List.setIfInBounds_toArray, List.set_cons_zero, List.set_cons_succ, i64_w, i32_w]
              rfl
             refine done_ (by kernel_rfl) ?_
             try go_wp2
             go_ret
             exact ⟨by first | rfl | (simp [errW_none, errW_some] <;> rfl) | (simp [*, errW_none, errW_some] <;> rfl), by repeat (first | (with_reducible first | exact HB.out | apply l1 | apply l2 | apply l3 | refine below_set ?_ GE358.out | refine below_set ?_ GE372.out | refine below_set ?_ GE382.out | refine below_set ?_ GE392.out) | exact HB.out)⟩
           ·rw [if_neg c62] at H
            exact absurd H (by simp)
          ·rw [if_neg c61] at H
           exact absurd H (by simp)
         ·rw [if_neg c60] at H
          have c60b0 : decide (x10_3 < (t359.length : Int)) = false := decide_eq_false c60
          clear c60
          replace H := Option.bind_eq_some_iff.mp H
          obtain ⟨t390, A1120, H⟩ := H
          (try dsimp only at H)
          have A112 := Aside0.mk A1120
          clear A1120
          obtain rfl := Option.some.inj H
          obtain ⟨Ao113, co113, eo113⟩ := Kd.R_slice HO_3.out
          subst eo113
          go_wp2_with (first | ((with_reducible refine gate_callee (f := 11) rfl ?_); refine goesL_ (some 104) rfl rfl Try.func11 (by kernel_rfl) rfl #[] rfl (by (try simp only [List.map_toArray, List.map_cons, List.map_nil]); first | done | rfl | (simp only [List.length_drop, List.length_take]; rfl)) ?_; (with_reducible refine (surtitlelaw13_head.calls k3  t390 _ A112.out).mono ?_); rintro e w114 ⟨rfl, hb⟩; refine ⟨_, rfl, ?_⟩; have n0_ := Aside0.mk (Kd.R_below (by (with_reducible repeat (first | apply Kd.R_alloc | apply Kd.R_drewN | apply Kd.R_drew)); exact HO_3.out) hb); have n1_ := Aside0.mk (Kd.S_below (by (with_reducible repeat (first | apply Kd.S_alloc | apply Kd.S_drewN | apply Kd.S_drew)); exact HO_373000.out) hb); have n2_ := Aside0.mk (Kd.S_below (by (with_reducible repeat (first | apply Kd.S_alloc | apply Kd.S_drewN | apply Kd.S_drew)); exact HO_383000.out) hb); have n3_ := Aside0.mk (blk_below (by (with_reducible repeat (first | apply b1 | apply b2 | apply b3)); exact BK358.out) hb); have n4_ := Aside0.mk (blk_below (by (with_reducible repeat (first | apply b1 | apply b2 | apply b3)); exact BK372.out) hb); have n5_ := Aside0.mk (blk_below (by (with_reducible repeat (first | apply b1 | apply b2 | apply b3)); exact BK382.out) hb); have n6_ := Aside0.mk (below_step (by repeat (first | (with_reducible first | exact HB.out | apply l1 | apply l2 | apply l3 | refine below_set ?_ GE358.out | refine below_set ?_ GE372.out | refine below_set ?_ GE382.out) | exact HB.out)) hb); clear HO_3; clear HO_373000; clear HO_383000; clear BK358; clear BK372; clear BK382; clear HB; have HO_3 := n0_; have HO_373000 := n1_; have HO_383000 := n2_; have BK358 := n3_; have BK372 := n4_; have BK382 := n5_; have HB := n6_; clear n0_ n1_ n2_ n3_ n4_ n5_ n6_; (try clear hb); (try clear hb2); (try clear hk); (try clear hi)))
          go_ret
          exact ⟨by first | rfl | (simp [errW_none, errW_some] <;> rfl) | (simp [*, errW_none, errW_some] <;> rfl), by repeat (first | (with_reducible first | exact HB.out | apply l1 | apply l2 | apply l3 | refine below_set ?_ GE358.out | refine below_set ?_ GE372.out | refine below_set ?_ GE382.out) | exact HB.out)⟩
def surtitlelaw13_LaneLaid.Pure : Prop := ∀ (l0_0 : List (S41)), ((∀ a_ ∈ l0_0, G41 a_) ∧ l0_0.length ≤ maxLen) → ∃ k, surtitlelaw13_LaneLaid.f k l0_0 = some true
theorem surtitlelaw13_LaneLaid.walk (P : surtitlelaw13_LaneLaid.Pure) (A0_0 : Option Addr) (c0_0 : Nat) (l0_0 : List (S41)) (w : World) (hr0_0 : Kd.C k41 w A0_0 l0_0.length l0_0) (hc0_0 : l0_0.length ≤ c0_0) (hg0_0 : (∀ a_ ∈ l0_0, G41 a_) ∧ l0_0.length ≤ maxLen) :
  Calls Try.prog 3 #[.agg #[.slice A0_0 l0_0.length c0_0]] w fun e w' => e = .returned (.bool true) ∧ Below w.heap.size w w' := by
 obtain ⟨k, h⟩ := P l0_0 hg0_0
 refine (surtitlelaw13_LaneLaid.calls k _ _ l0_0 true w hr0_0 hc0_0 h).mono ?_
 rintro e w' ⟨rfl, hd⟩
 exact ⟨rfl, hd⟩
end Go.Proofs.Ytbpifnpljcgjlaa.PLx
