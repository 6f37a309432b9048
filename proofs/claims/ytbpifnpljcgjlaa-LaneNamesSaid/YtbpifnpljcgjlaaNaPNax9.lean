-- Written by programs of this session's (wip/printer) out of the translation and of the print's words; Lean checks it.
import Derived.Test.YtbpifnpljcgjlaaNaPNax0
import Derived.Test.YtbpifnpljcgjlaaNaPNax3
import Derived.Test.YtbpifnpljcgjlaaNaPNax7
import Derived.Test.YtbpifnpljcgjlaaNaPNax8
namespace Go.Proofs.Ytbpifnpljcgjlaa.PNa
open Go.RowKit Go.Proofs.YtbpifnpljcgjlaaW.PrintWords Go.Proofs.YtbpifnpljcgjlaaW.PrintLast Go.Proofs.YtbpifnpljcgjlaaW.PrintMore
attribute [local go_sem] max2_int min2_int max_two min_two max_three min_three max_four min_four   -- for this text's walks alone
set_option linter.unusedVariables false
set_option linter.unusedSimpArgs false
mutual
def cue_Check.l0 : Nat → List (S36) → Int → Int → Int → Int → Int → Int → Int → Int → ByteArray → ByteArray → List (S62) → Option (Int)
  | 0, _, _, _, _, _, _, _, _, _, _, _, _ => none
  | k + 1, x11, x12, x13, x219000, x219001, x219002, x219003, x219004, x219005, x219006, x219007, x219008 => if x13 < x12 then (if 0 ≤ x13 then (if x13 < (x11.length : Int) then ((ratio_Time.f k ((rd_T36 x11 x13).f0) ((rd_T36 x11 x13).f1)).bind fun t224 => (if t224 = 0 then (cue_Check.l0 k x11 x12 (wrap64 (x13 + 1)) x219000 x219001 x219002 x219003 x219004 x219005 x219006 x219007 x219008) else (some t224))) else (none)) else (none)) else ((ratio_Cmp.f x219000 x219001 x219002 x219003).bind fun t225 => (if t225 ≥ 0 then (some 32) else (if x219004 < 0 then (some 34) else (if x219004 ≥ 8 then (some 34) else (if x219005 = 0 then (cue_Check.j1 k x219000 x219001 x219002 x219003 x219004 x219005 x219006 x219007 x219008) else (if x219005 = 1 then (cue_Check.j1 k x219000 x219001 x219002 x219003 x219004 x219005 x219006 x219007 x219008) else (some 34)))))))
def cue_Check.j1 : Nat → Int → Int → Int → Int → Int → Int → ByteArray → ByteArray → List (S62) → Option (Int)
  | 0, _, _, _, _, _, _, _, _, _ => none
  | k + 1, x219000, x219001, x219002, x219003, x219004, x219005, x219006, x219007, x219008 => (cue_named.f x219006).bind fun t226 => (if t226 = 0 then ((style_Check.f k x219007 x219008).bind fun t227 => (some t227)) else (some t226))
end
def cue_Check.f (k : Nat) (a0_0 : Int) (a0_1 : Int) (a0_2 : Int) (a0_3 : Int) (a0_4 : Int) (a0_5 : Int) (a0_6 : ByteArray) (a0_7 : ByteArray) (l0_8 : List (S62)) : Option (Int) := (some (([(⟨a0_0, a0_1⟩ : S36), (⟨a0_2, a0_3⟩ : S36)] : List (S36)) : List (S36))).bind fun y219 => (cue_Check.l0 k y219 (y219.length : Int) 0 a0_0 a0_1 a0_2 a0_3 a0_4 a0_5 a0_6 a0_7 l0_8)
set_option maxHeartbeats 8000000 in
set_option maxRecDepth 100000 in
theorem cue_Check.calls (k : Nat) (a0_0 : Int) (a0_1 : Int) (a0_2 : Int) (a0_3 : Int) (a0_4 : Int) (a0_5 : Int) (a0_6 : ByteArray) (a0_7 : ByteArray) (A0_8 : Option Addr) (c0_8 : Nat) (l0_8 : List (S62)) (r : Int) (w : World) (hr0_8 : Kd.C k62 w A0_8 l0_8.length l0_8) (hc0_8 : l0_8.length ≤ c0_8) (h : cue_Check.f k a0_0 a0_1 a0_2 a0_3 a0_4 a0_5 a0_6 a0_7 l0_8 = some r) :
    Calls Try.prog 30 #[.agg #[.int .i64 a0_0, .int .i64 a0_1, .int .i64 a0_2, .int .i64 a0_3, .int .i64 a0_4, .int .i64 a0_5, .string a0_6, .string a0_7, .slice A0_8 l0_8.length c0_8]] w fun e w' => e = .returned (.int .i64 r) ∧ Below w.heap.size w w' := by
  have hu41 := Try.underlying41
  have hu36 := Try.underlying36
  have hu39 := Try.underlying39
  have HR0_8 := Aside0.mk hr0_8
  have HC0_8 := Aside0.mk hc0_8
  clear hr0_8 hc0_8
  have HB := Aside0.mk (Below.refl w.heap.size w)
  have H : ((some (([(⟨a0_0, a0_1⟩ : S36), (⟨a0_2, a0_3⟩ : S36)] : List (S36)) : List (S36))).bind fun y219 => (cue_Check.l0 k y219 (y219.length : Int) 0 a0_0 a0_1 a0_2 a0_3 a0_4 a0_5 a0_6 a0_7 l0_8)) = some r := h
  clear h
  obtain ⟨y219, hy219⟩ : ∃ y_ : List (S36), y_ = (([(⟨a0_0, a0_1⟩ : S36), (⟨a0_2, a0_3⟩ : S36)] : List (S36))) := ⟨_, rfl⟩
  replace H : (cue_Check.l0 k y219 (y219.length : Int) 0 a0_0 a0_1 a0_2 a0_3 a0_4 a0_5 a0_6 a0_7 l0_8) = some r := by first | (rw [hy219]; with_reducible exact H) | (have H2_ := (Option.bind_some _ _).symm.trans H; rw [hy219]; with_reducible exact H2_) | (have H2_ := (Option.bind_some _ _).symm.trans H; with_reducible exact H2_) | with_reducible exact H | (rw [hy219]; exact H) | exact H
  have Ny219 := Aside0.mk hy219
  clear hy219
  have H' := Aside0.mk H
  clear H
  go_enter Try.func30, Try.ntmps30
  go_wp2_with (first | ((with_reducible refine gate_dst (N := 1) rfl ?_); refine box_event ?hg (N := 1) ?hd (cs := #[.int .i64 a0_0, .int .i64 a0_1, .int .i64 a0_2, .int .i64 a0_3, .int .i64 a0_4, .int .i64 a0_5, .string a0_6, .string a0_7, .slice A0_8 l0_8.length c0_8]) (t := 41) ?hr ?_; (case hd => rfl); (case hg => rfl); (case hr => first | (go_simp; done) | (go_simp; rfl)); intro gb218 hg w2 hbox hb; have n0_ := Aside0.mk (below_step (by repeat (first | (with_reducible first | exact HB.out | apply below_alloc | apply pw_below_drewN | apply below_drew1) | exact HB.out)) hb); have n1_ := Aside0.mk (hbox); have n2_ := Aside0.mk ((by rw [hg]; exact (below_size (by repeat (first | (with_reducible first | exact HB.out | apply below_alloc | apply pw_below_drewN | apply below_drew1) | exact HB.out))) : w.heap.size ≤ gb218)); have n3_ := Aside0.mk ((by rw [hg]; exact (below_size (by repeat (first | (with_reducible first | exact HB.out | apply below_alloc | apply pw_below_drewN | apply below_drew1) | exact HB.out))) : w.heap.size ≤ gb218)); clear HB; have HB := n0_; have BK218 := n1_; have GW218 := n2_; have GE218 := n3_; clear n0_ n1_ n2_ n3_; clear hb hbox hg; have hcz3_0 : w2.cell? ⟨gb218, 0, none⟩ = some (.int .i64 a0_0) := (blk_cell BK218.out 0).trans rfl; have hcz3_1 : w2.cell? ⟨gb218, 1, none⟩ = some (.int .i64 a0_1) := (blk_cell BK218.out 1).trans rfl; have hcz3_2 : w2.cell? ⟨gb218, 2, none⟩ = some (.int .i64 a0_2) := (blk_cell BK218.out 2).trans rfl; have hcz3_3 : w2.cell? ⟨gb218, 3, none⟩ = some (.int .i64 a0_3) := (blk_cell BK218.out 3).trans rfl; have hcz3_4 : w2.cell? ⟨gb218, 4, none⟩ = some (.int .i64 a0_4) := (blk_cell BK218.out 4).trans rfl; have hcz3_5 : w2.cell? ⟨gb218, 5, none⟩ = some (.int .i64 a0_5) := (blk_cell BK218.out 5).trans rfl; have hcz3_6 : w2.cell? ⟨gb218, 6, none⟩ = some (.string a0_6) := (blk_cell BK218.out 6).trans rfl; have hcz3_7 : w2.cell? ⟨gb218, 7, none⟩ = some (.string a0_7) := (blk_cell BK218.out 7).trans rfl; have hcz3_8 : w2.cell? ⟨gb218, 8, none⟩ = some (.slice A0_8 l0_8.length c0_8) := (blk_cell BK218.out 8).trans rfl; have hfz3_0 := blk_frozen BK218.out 0; have hfz3_1 := blk_frozen BK218.out 1; have hfz3_2 := blk_frozen BK218.out 2; have hfz3_3 := blk_frozen BK218.out 3; have hfz3_4 := blk_frozen BK218.out 4; have hfz3_5 := blk_frozen BK218.out 5; have hfz3_6 := blk_frozen BK218.out 6; have hfz3_7 := blk_frozen BK218.out 7; have hfz3_8 := blk_frozen BK218.out 8) | ((with_reducible refine gate_dst (N := 11) rfl ?_); refine Kd.R_lit k36 _ 36 ?hg (N := 11) ?hd (xs := ([(⟨a0_0, a0_1⟩ : S36), (⟨a0_2, a0_3⟩ : S36)] : List (S36))) (inner := [.int .i64 a0_0, .int .i64 a0_1, .int .i64 a0_2, .int .i64 a0_3]) (ok := fun _ => True) (okp := fun _ => True) ?hr ?hp (fun _ hk => hk) trivial (Below.refl _ _) (Nat.le_refl _) (by simp) ?_; (case hd => rfl); (case hg => rfl); (case hr => first | (go_simp; done) | (go_simp; rfl)); (case hp => exact (Reps.c2 (show Kd.M k36 _ _ _ (⟨a0_0, a0_1⟩ : S36) [.int .i64 a0_0, .int .i64 a0_1] from (k36_mkM _ _ _ (⟨a0_0, a0_1⟩ : S36) )) (Reps.c2 (show Kd.M k36 _ _ _ (⟨a0_2, a0_3⟩ : S36) [.int .i64 a0_2, .int .i64 a0_3] from (k36_mkM _ _ _ (⟨a0_2, a0_3⟩ : S36) )) (Reps.none _ _)))); intro v220 w4 ho5 hb hg_ hnew_; clear hg_ hnew_; (first | rw [← Ny219.out] at ho5 | (simp only [Int.reduceToNat] at ho5; rw [← Ny219.out] at ho5)); have n0_ := Aside0.mk (Kd.R_lower ho5 (below_size (by repeat (first | (with_reducible first | exact HB.out | apply below_alloc | apply pw_below_drewN | apply below_drew1 | refine below_set ?_ GE218.out) | exact HB.out)))); have n1_ := Aside0.mk (blk_below (g := gb218) (o := .cells #[.int .i64 a0_0, .int .i64 a0_1, .int .i64 a0_2, .int .i64 a0_3, .int .i64 a0_4, .int .i64 a0_5, .string a0_6, .string a0_7, .slice A0_8 l0_8.length c0_8] 41 (0, 0)) (by (with_reducible repeat (first | refine blk_drewN ?_ _ | refine blk_drew ?_ | refine blk_alloc ?_ _)); exact BK218.out) hb); have n2_ := Aside0.mk (below_step (by repeat (first | (with_reducible first | exact HB.out | apply below_alloc | apply pw_below_drewN | apply below_drew1 | refine below_set ?_ GE218.out) | exact HB.out)) hb); clear BK218; clear HB; have HO221 := n0_; have BK218 := n1_; have HB := n2_; clear n0_ n1_ n2_; clear hb ho5; obtain ⟨Ao6, co6, eo6⟩ := Kd.R_slice HO221.out; subst eo6))
  (try simp only [Act.put, List.setIfInBounds_toArray, List.set_cons_zero, List.set_cons_succ])
  go_loopg [13] k (fun kq v13 w' => ∃ (x13_1 : Int), v13 = .int .i64 x13_1 ∧ Aside0 (cue_Check.l0 kq y219 (y219.length : Int) x13_1 a0_0 a0_1 a0_2 a0_3 a0_4 a0_5 a0_6 a0_7 l0_8 = some r) ∧ Aside0 (kq ≤ k) ∧ Aside0 (Kd.R k36 36 w' w.heap.size (fun _ => True) (.slice Ao6 y219.length co6) y219) ∧ Aside0 (w'.heap[gb218]? = some (.cells #[.int .i64 a0_0, .int .i64 a0_1, .int .i64 a0_2, .int .i64 a0_3, .int .i64 a0_4, .int .i64 a0_5, .string a0_6, .string a0_7, (.slice A0_8 l0_8.length c0_8)] 41 (0, 0))) ∧ Aside0 (Below w.heap.size w w'))
  case atStart => exact ⟨(0), (by first | rfl | (simp; done) | (simp [*]; done)), H', ⟨Nat.le_refl _⟩, ⟨by (with_reducible repeat (first | apply Kd.R_alloc | apply Kd.R_drewN | apply Kd.R_drew)); exact HO221.out⟩, ⟨by (with_reducible repeat (first | refine blk_drewN ?_ _ | refine blk_drew ?_ | refine blk_alloc ?_ _)); exact BK218.out⟩, ⟨by repeat (first | (with_reducible first | exact HB.out | apply below_alloc | apply pw_below_drewN | apply below_drew1 | refine below_set ?_ GE218.out) | exact HB.out)⟩⟩
  case round =>
    clear H'
    try clear c2
    try clear p2
    try clear c3
    try clear hcz3_0
    try clear hcz3_1
    try clear hcz3_2
    try clear hcz3_3
    try clear hcz3_4
    try clear hcz3_5
    try clear hcz3_6
    try clear hcz3_7
    try clear hcz3_8
    try clear hfz3_0
    try clear hfz3_1
    try clear hfz3_2
    try clear hfz3_3
    try clear hfz3_4
    try clear hfz3_5
    try clear hfz3_6
    try clear hfz3_7
    try clear hfz3_8
    obtain ⟨x13_1, rfl, HA, HK1, HO_11, BK218, HB⟩ := hrel
    cases gk with
    | zero => exact absurd HA.out (by simp [cue_Check.l0])
    | succ k1 =>
      have H := HA.out
      clear HA
      simp only [cue_Check.l0] at H
      by_cases c7 : x13_1 < (y219.length : Int)
      · rw [if_pos c7] at H
        have c7b0 : decide (x13_1 < (y219.length : Int)) = true := decide_eq_true c7
        clear c7
        by_cases c8 : 0 ≤ x13_1
        · rw [if_pos c8] at H
          have c8b0 : decide (0 ≤ x13_1) = true := decide_eq_true c8
          clear c8
          by_cases c9 : x13_1 < (y219.length : Int)
          · rw [if_pos c9] at H
            have c9b0 : decide (x13_1 < (y219.length : Int)) = true := decide_eq_true c9
            clear c9
            replace H := Option.bind_eq_some_iff.mp H
            obtain ⟨t224, A100, H⟩ := H
            (try dsimp only at H)
            have A10 := Aside0.mk A100
            clear A100
            by_cases c11 : t224 = 0
            · rw [if_pos c11] at H
              have c11b0 : (t224 == 0) = true := beq_iff_eq.mpr c11
              have c11b1 : (t224 != 0) = false := bne_eq_false_iff_eq.mpr c11
              clear c11
              have H' := Aside0.mk H
              clear H
              have p222 : 0 ≤ (x13_1 : Int) := of_decide_eq_true (by first | (with_reducible assumption) | assumption)
              have q222 : x13_1 < (y219.length : Int) := of_decide_eq_true (by first | (with_reducible assumption) | assumption)
              obtain ⟨ad222, e222, hx222_0, hx222_1⟩ := at_T36 (Kd.R_reads' HO_11.out).2.2 x13_1 p222 q222
              cases e222
              replace p222 := eq_true p222
              replace q222 := eq_true q222
              go_wp2_with (first | ((with_reducible refine gate_dst (N := 4) rfl ?_); refine box_event ?hg (N := 4) ?hd (cs := #[.int .i64 0, .int .i64 0]) (t := 36) ?hr ?_; (case hd => rfl); (case hg => rfl); (case hr => first | (go_simp; done) | (go_simp; rfl)); intro gb223 hg w12 hbox hb; have n0_ := Aside0.mk (Kd.R_below (Kd.R_elderB (by (with_reducible repeat (first | apply Kd.R_alloc | apply Kd.R_drewN | apply Kd.R_drew)); exact HO_11.out) gb223 (Nat.le_of_eq hg.symm)) hb); have n1_ := Aside0.mk (blk_below (g := gb218) (o := .cells #[.int .i64 a0_0, .int .i64 a0_1, .int .i64 a0_2, .int .i64 a0_3, .int .i64 a0_4, .int .i64 a0_5, .string a0_6, .string a0_7, .slice A0_8 l0_8.length c0_8] 41 (0, 0)) (by (with_reducible repeat (first | refine blk_drewN ?_ _ | refine blk_drew ?_ | refine blk_alloc ?_ _)); exact BK218.out) hb); have n2_ := Aside0.mk (below_step (by repeat (first | (with_reducible first | exact HB.out | apply below_alloc | apply pw_below_drewN | apply below_drew1 | refine below_set ?_ GE218.out) | exact HB.out)) hb); have n3_ := Aside0.mk (hbox); have n4_ := Aside0.mk ((by rw [hg]; exact (below_size (by repeat (first | (with_reducible first | exact HB.out | apply below_alloc | apply pw_below_drewN | apply below_drew1 | refine below_set ?_ GE218.out) | exact HB.out))) : w.heap.size ≤ gb223)); have n5_ := Aside0.mk ((by rw [hg]; exact (below_size (by repeat (first | (with_reducible first | exact HB.out | apply below_alloc | apply pw_below_drewN | apply below_drew1 | refine below_set ?_ GE218.out) | exact HB.out))) : w.heap.size ≤ gb223)); have n6_ := Aside0.mk ((by rw [hg]; exact Nat.ne_of_lt (blk_lt (g := gb218) (o := .cells #[.int .i64 a0_0, .int .i64 a0_1, .int .i64 a0_2, .int .i64 a0_3, .int .i64 a0_4, .int .i64 a0_5, .string a0_6, .string a0_7, .slice A0_8 l0_8.length c0_8] 41 (0, 0)) (by (with_reducible repeat (first | refine blk_drewN ?_ _ | refine blk_drew ?_ | refine blk_alloc ?_ _)); exact BK218.out)) : gb218 ≠ gb223)); have n7_ := Aside0.mk ((by rw [hg]; exact Nat.ne_of_gt (blk_lt (g := gb218) (o := .cells #[.int .i64 a0_0, .int .i64 a0_1, .int .i64 a0_2, .int .i64 a0_3, .int .i64 a0_4, .int .i64 a0_5, .string a0_6, .string a0_7, .slice A0_8 l0_8.length c0_8] 41 (0, 0)) (by (with_reducible repeat (first | refine blk_drewN ?_ _ | refine blk_drew ?_ | refine blk_alloc ?_ _)); exact BK218.out)) : gb223 ≠ gb218)); clear HO_11; clear BK218; clear HB; have HO_11 := n0_; have BK218 := n1_; have HB := n2_; have BK223 := n3_; have GW223 := n4_; have GE223 := n5_; have NB218_223 := n6_; have NB223_218 := n7_; clear n0_ n1_ n2_ n3_ n4_ n5_ n6_ n7_; clear hb hbox hg; have hnb13 := NB223_218.out; have hnc13 := NB218_223.out; have hcz14_0 : w12.cell? ⟨gb223, 0, none⟩ = some (.int .i64 0) := (blk_cell BK223.out 0).trans rfl; have hcz14_1 : w12.cell? ⟨gb223, 1, none⟩ = some (.int .i64 0) := (blk_cell BK223.out 1).trans rfl; have hfz14_0 := blk_frozen BK223.out 0; have hfz14_1 := blk_frozen BK223.out 1) | ((with_reducible refine gate_callee (f := 50) rfl ?_); refine goesL_ (some 18) rfl rfl Try.func50 (by kernel_rfl) rfl #[.agg #[.int .i64 ((rd_T36 y219 x13_1).f0), .int .i64 ((rd_T36 y219 x13_1).f1)]] rfl (by (try simp only [List.map_toArray, List.map_cons, List.map_nil]); first | done | rfl | (simp only [List.length_drop, List.length_take]; rfl)) ?_; (with_reducible refine (ratio_Time.calls k1 ((rd_T36 y219 x13_1).f0) ((rd_T36 y219 x13_1).f1) t224 _ A10.out).mono ?_); rintro e w15 ⟨rfl, hb⟩; refine ⟨_, rfl, ?_⟩; have n0_ := Aside0.mk (Kd.R_below (by (with_reducible repeat (first | apply Kd.R_alloc | apply Kd.R_drewN | apply Kd.R_drew)); exact (Kd.R_mono (Kd.R_far (p := ⟨gb223, 1, none⟩) (Kd.R_far (p := ⟨gb223, 0, none⟩) (Kd.R_mono HO_11.out (fun k_ hk => (⟨hk, hk.2⟩ : _ ∧ k_ ≠ gb223))) (fun _ hk => hk.2) (.int .i64 ((rd_T36 y219 x13_1).f0))) (fun _ hk => hk.2) (.int .i64 ((rd_T36 y219 x13_1).f1))) (fun _ h_ => h_.1))) hb); have n1_ := Aside0.mk (blk_below (g := gb218) (o := .cells #[.int .i64 a0_0, .int .i64 a0_1, .int .i64 a0_2, .int .i64 a0_3, .int .i64 a0_4, .int .i64 a0_5, .string a0_6, .string a0_7, .slice A0_8 l0_8.length c0_8] 41 (0, 0)) (by (with_reducible repeat (first | refine blk_drewN ?_ _ | refine blk_drew ?_ | refine blk_alloc ?_ _)); refine blk_far ?_ NB218_223.out _; (with_reducible repeat (first | refine blk_drewN ?_ _ | refine blk_drew ?_ | refine blk_alloc ?_ _)); refine blk_far ?_ NB218_223.out _; (with_reducible repeat (first | refine blk_drewN ?_ _ | refine blk_drew ?_ | refine blk_alloc ?_ _)); exact BK218.out) hb); have n2_ := Aside0.mk (blk_below (g := gb223) (o := .cells #[.int .i64 ((rd_T36 y219 x13_1).f0), .int .i64 ((rd_T36 y219 x13_1).f1)] 36 (0, 0)) (by (with_reducible repeat (first | refine blk_drewN ?_ _ | refine blk_drew ?_ | refine blk_alloc ?_ _)); refine blk_put (cs := #[.int .i64 ((rd_T36 y219 x13_1).f0), .int .i64 0]) ?_ 1 _ rfl; (with_reducible repeat (first | refine blk_drewN ?_ _ | refine blk_drew ?_ | refine blk_alloc ?_ _)); refine blk_put (cs := #[.int .i64 0, .int .i64 0]) ?_ 0 _ rfl; (with_reducible repeat (first | refine blk_drewN ?_ _ | refine blk_drew ?_ | refine blk_alloc ?_ _)); exact BK223.out) hb); have n3_ := Aside0.mk (below_step (by repeat (first | (with_reducible first | exact HB.out | apply below_alloc | apply pw_below_drewN | apply below_drew1 | refine below_set ?_ GE218.out | refine below_set ?_ GE223.out) | exact HB.out)) hb); clear HO_11; clear BK218; clear BK223; clear HB; have HO_11 := n0_; have BK218 := n1_; have BK223 := n2_; have HB := n3_; clear n0_ n1_ n2_ n3_; (try clear hb); (try clear hb2); (try clear hk); (try clear hi)))
              go_roundg k1
              case measure => have := HK1.out; omega
              case rel => exact ⟨(wrap64 (x13_1 + 1)), (by first | rfl | (simp; done) | (simp [*]; done)), H', ⟨by have := HK1.out; omega⟩, ⟨by (with_reducible repeat (first | apply Kd.R_alloc | apply Kd.R_drewN | apply Kd.R_drew)); exact Kd.R_mono HO_11.out (fun _ hk => trivial)⟩, ⟨by (with_reducible repeat (first | refine blk_drewN ?_ _ | refine blk_drew ?_ | refine blk_alloc ?_ _)); exact BK218.out⟩, ⟨by repeat (first | (with_reducible first | exact HB.out | apply below_alloc | apply pw_below_drewN | apply below_drew1 | refine below_set ?_ GE218.out | refine below_set ?_ GE223.out) | exact HB.out)⟩⟩
            · rw [if_neg c11] at H
              have c11b0 : (t224 == 0) = false := beq_eq_false_iff_ne.mpr c11
              have c11b1 : (t224 != 0) = true := bne_iff_ne.mpr c11
              obtain rfl := Option.some.inj H
              have p222 : 0 ≤ (x13_1 : Int) := of_decide_eq_true (by first | (with_reducible assumption) | assumption)
              have q222 : x13_1 < (y219.length : Int) := of_decide_eq_true (by first | (with_reducible assumption) | assumption)
              obtain ⟨ad222, e222, hx222_0, hx222_1⟩ := at_T36 (Kd.R_reads' HO_11.out).2.2 x13_1 p222 q222
              cases e222
              replace p222 := eq_true p222
              replace q222 := eq_true q222
              go_wp2_with (first | ((with_reducible refine gate_dst (N := 4) rfl ?_); refine box_event ?hg (N := 4) ?hd (cs := #[.int .i64 0, .int .i64 0]) (t := 36) ?hr ?_; (case hd => rfl); (case hg => rfl); (case hr => first | (go_simp; done) | (go_simp; rfl)); intro gb223 hg w16 hbox hb; have n0_ := Aside0.mk (Kd.R_below (Kd.R_elderB (by (with_reducible repeat (first | apply Kd.R_alloc | apply Kd.R_drewN | apply Kd.R_drew)); exact HO_11.out) gb223 (Nat.le_of_eq hg.symm)) hb); have n1_ := Aside0.mk (blk_below (g := gb218) (o := .cells #[.int .i64 a0_0, .int .i64 a0_1, .int .i64 a0_2, .int .i64 a0_3, .int .i64 a0_4, .int .i64 a0_5, .string a0_6, .string a0_7, .slice A0_8 l0_8.length c0_8] 41 (0, 0)) (by (with_reducible repeat (first | refine blk_drewN ?_ _ | refine blk_drew ?_ | refine blk_alloc ?_ _)); exact BK218.out) hb); have n2_ := Aside0.mk (below_step (by repeat (first | (with_reducible first | exact HB.out | apply below_alloc | apply pw_below_drewN | apply below_drew1 | refine below_set ?_ GE218.out) | exact HB.out)) hb); have n3_ := Aside0.mk (hbox); have n4_ := Aside0.mk ((by rw [hg]; exact (below_size (by repeat (first | (with_reducible first | exact HB.out | apply below_alloc | apply pw_below_drewN | apply below_drew1 | refine below_set ?_ GE218.out) | exact HB.out))) : w.heap.size ≤ gb223)); have n5_ := Aside0.mk ((by rw [hg]; exact (below_size (by repeat (first | (with_reducible first | exact HB.out | apply below_alloc | apply pw_below_drewN | apply below_drew1 | refine below_set ?_ GE218.out) | exact HB.out))) : w.heap.size ≤ gb223)); have n6_ := Aside0.mk ((by rw [hg]; exact Nat.ne_of_lt (blk_lt (g := gb218) (o := .cells #[.int .i64 a0_0, .int .i64 a0_1, .int .i64 a0_2, .int .i64 a0_3, .int .i64 a0_4, .int .i64 a0_5, .string a0_6, .string a0_7, .slice A0_8 l0_8.length c0_8] 41 (0, 0)) (by (with_reducible repeat (first | refine blk_drewN ?_ _ | refine blk_drew ?_ | refine blk_alloc ?_ _)); exact BK218.out)) : gb218 ≠ gb223)); have n7_ := Aside0.mk ((by rw [hg]; exact Nat.ne_of_gt (blk_lt (g := gb218) (o := .cells #[.int .i64 a0_0, .int .i64 a0_1, .int .i64 a0_2, .int .i64 a0_3, .int .i64 a0_4, .int .i64 a0_5, .string a0_6, .string a0_7, .slice A0_8 l0_8.length c0_8] 41 (0, 0)) (by (with_reducible repeat (first | refine blk_drewN ?_ _ | refine blk_drew ?_ | refine blk_alloc ?_ _)); exact BK218.out)) : gb223 ≠ gb218)); clear HO_11; clear BK218; clear HB; have HO_11 := n0_; have BK218 := n1_; have HB := n2_; have BK223 := n3_; have GW223 := n4_; have GE223 := n5_; have NB218_223 := n6_; have NB223_218 := n7_; clear n0_ n1_ n2_ n3_ n4_ n5_ n6_ n7_; clear hb hbox hg; have hnb17 := NB223_218.out; have hnc17 := NB218_223.out; have hcz18_0 : w16.cell? ⟨gb223, 0, none⟩ = some (.int .i64 0) := (blk_cell BK223.out 0).trans rfl; have hcz18_1 : w16.cell? ⟨gb223, 1, none⟩ = some (.int .i64 0) := (blk_cell BK223.out 1).trans rfl; have hfz18_0 := blk_frozen BK223.out 0; have hfz18_1 := blk_frozen BK223.out 1) | ((with_reducible refine gate_callee (f := 50) rfl ?_); refine goesL_ (some 18) rfl rfl Try.func50 (by kernel_rfl) rfl #[.agg #[.int .i64 ((rd_T36 y219 x13_1).f0), .int .i64 ((rd_T36 y219 x13_1).f1)]] rfl (by (try simp only [List.map_toArray, List.map_cons, List.map_nil]); first | done | rfl | (simp only [List.length_drop, List.length_take]; rfl)) ?_; (with_reducible refine (ratio_Time.calls k1 ((rd_T36 y219 x13_1).f0) ((rd_T36 y219 x13_1).f1) t224 _ A10.out).mono ?_); rintro e w19 ⟨rfl, hb⟩; refine ⟨_, rfl, ?_⟩; have n0_ := Aside0.mk (Kd.R_below (by (with_reducible repeat (first | apply Kd.R_alloc | apply Kd.R_drewN | apply Kd.R_drew)); exact (Kd.R_mono (Kd.R_far (p := ⟨gb223, 1, none⟩) (Kd.R_far (p := ⟨gb223, 0, none⟩) (Kd.R_mono HO_11.out (fun k_ hk => (⟨hk, hk.2⟩ : _ ∧ k_ ≠ gb223))) (fun _ hk => hk.2) (.int .i64 ((rd_T36 y219 x13_1).f0))) (fun _ hk => hk.2) (.int .i64 ((rd_T36 y219 x13_1).f1))) (fun _ h_ => h_.1))) hb); have n1_ := Aside0.mk (blk_below (g := gb218) (o := .cells #[.int .i64 a0_0, .int .i64 a0_1, .int .i64 a0_2, .int .i64 a0_3, .int .i64 a0_4, .int .i64 a0_5, .string a0_6, .string a0_7, .slice A0_8 l0_8.length c0_8] 41 (0, 0)) (by (with_reducible repeat (first | refine blk_drewN ?_ _ | refine blk_drew ?_ | refine blk_alloc ?_ _)); refine blk_far ?_ NB218_223.out _; (with_reducible repeat (first | refine blk_drewN ?_ _ | refine blk_drew ?_ | refine blk_alloc ?_ _)); refine blk_far ?_ NB218_223.out _; (with_reducible repeat (first | refine blk_drewN ?_ _ | refine blk_drew ?_ | refine blk_alloc ?_ _)); exact BK218.out) hb); have n2_ := Aside0.mk (blk_below (g := gb223) (o := .cells #[.int .i64 ((rd_T36 y219 x13_1).f0), .int .i64 ((rd_T36 y219 x13_1).f1)] 36 (0, 0)) (by (with_reducible repeat (first | refine blk_drewN ?_ _ | refine blk_drew ?_ | refine blk_alloc ?_ _)); refine blk_put (cs := #[.int .i64 ((rd_T36 y219 x13_1).f0), .int .i64 0]) ?_ 1 _ rfl; (with_reducible repeat (first | refine blk_drewN ?_ _ | refine blk_drew ?_ | refine blk_alloc ?_ _)); refine blk_put (cs := #[.int .i64 0, .int .i64 0]) ?_ 0 _ rfl; (with_reducible repeat (first | refine blk_drewN ?_ _ | refine blk_drew ?_ | refine blk_alloc ?_ _)); exact BK223.out) hb); have n3_ := Aside0.mk (below_step (by repeat (first | (with_reducible first | exact HB.out | apply below_alloc | apply pw_below_drewN | apply below_drew1 | refine below_set ?_ GE218.out | refine below_set ?_ GE223.out) | exact HB.out)) hb); clear HO_11; clear BK218; clear BK223; clear HB; have HO_11 := n0_; have BK218 := n1_; have BK223 := n2_; have HB := n3_; clear n0_ n1_ n2_ n3_; (try clear hb); (try clear hb2); (try clear hk); (try clear hi)))
              go_ret
              exact ⟨by first | rfl | (simp [errW_none, errW_some] <;> rfl) | (simp [*, errW_none, errW_some] <;> rfl), by repeat (first | (with_reducible first | exact HB.out | apply below_alloc | apply pw_below_drewN | apply below_drew1 | refine below_set ?_ GE218.out | refine below_set ?_ GE223.out) | exact HB.out)⟩
          · rw [if_neg c9] at H
            exact absurd H (by simp)
        · rw [if_neg c8] at H
          exact absurd H (by simp)
      · rw [if_neg c7] at H
        have c7b0 : decide (x13_1 < (y219.length : Int)) = false := decide_eq_false c7
        clear c7
        have HC20 := Aside0.mk H
        clear H
        go_upto_block 2 with (fail)
        go_cut [] (fun wc => ∃ (kq : Nat), Aside0 (cue_Check.j1 kq a0_0 a0_1 a0_2 a0_3 a0_4 a0_5 a0_6 a0_7 l0_8 = some r) ∧ Aside0 (kq ≤ k1) ∧ Aside0 (wc.heap[gb218]? = some (.cells #[.int .i64 a0_0, .int .i64 a0_1, .int .i64 a0_2, .int .i64 a0_3, .int .i64 a0_4, .int .i64 a0_5, .string a0_6, .string a0_7, (.slice A0_8 l0_8.length c0_8)] 41 (0, 0))) ∧ Aside0 (Below w.heap.size w wc))
        case first =>
          have H := HC20.out
          clear HC20
          replace H := Option.bind_eq_some_iff.mp H
          obtain ⟨t225, A210, H⟩ := H
          (try dsimp only at H)
          have A21 := Aside0.mk A210
          clear A210
          by_cases c22 : t225 ≥ 0
          · rw [if_pos c22] at H
            have c22b0 : decide (0 ≤ t225) = true := decide_eq_true c22
            clear c22
            (first | rw [c22b0] | (simp only [i64_w, i32_w]; rw [c22b0]) | skip)
            obtain rfl := Option.some.inj H
            have hcz23_0 : wr.cell? ⟨gb218, 0, none⟩ = some (.int .i64 a0_0) := (blk_cell BK218.out 0).trans rfl
            have hcz23_1 : wr.cell? ⟨gb218, 1, none⟩ = some (.int .i64 a0_1) := (blk_cell BK218.out 1).trans rfl
            have hcz23_2 : wr.cell? ⟨gb218, 2, none⟩ = some (.int .i64 a0_2) := (blk_cell BK218.out 2).trans rfl
            have hcz23_3 : wr.cell? ⟨gb218, 3, none⟩ = some (.int .i64 a0_3) := (blk_cell BK218.out 3).trans rfl
            have hcz23_4 : wr.cell? ⟨gb218, 4, none⟩ = some (.int .i64 a0_4) := (blk_cell BK218.out 4).trans rfl
            have hcz23_5 : wr.cell? ⟨gb218, 5, none⟩ = some (.int .i64 a0_5) := (blk_cell BK218.out 5).trans rfl
            have hcz23_6 : wr.cell? ⟨gb218, 6, none⟩ = some (.string a0_6) := (blk_cell BK218.out 6).trans rfl
            have hcz23_7 : wr.cell? ⟨gb218, 7, none⟩ = some (.string a0_7) := (blk_cell BK218.out 7).trans rfl
            have hcz23_8 : wr.cell? ⟨gb218, 8, none⟩ = some (.slice A0_8 l0_8.length c0_8) := (blk_cell BK218.out 8).trans rfl
            have hfz23_0 := blk_frozen BK218.out 0
            have hfz23_1 := blk_frozen BK218.out 1
            have hfz23_2 := blk_frozen BK218.out 2
            have hfz23_3 := blk_frozen BK218.out 3
            have hfz23_4 := blk_frozen BK218.out 4
            have hfz23_5 := blk_frozen BK218.out 5
            have hfz23_6 := blk_frozen BK218.out 6
            have hfz23_7 := blk_frozen BK218.out 7
            have hfz23_8 := blk_frozen BK218.out 8
            go_wp2_with (first | ((with_reducible refine gate_callee (f := 24) rfl ?_); refine goesL_ (some 28) rfl rfl Try.func24 (by kernel_rfl) rfl #[.agg #[.int .i64 a0_0, .int .i64 a0_1], .agg #[.int .i64 a0_2, .int .i64 a0_3]] rfl (by (try simp only [List.map_toArray, List.map_cons, List.map_nil]); first | done | rfl | (simp only [List.length_drop, List.length_take]; rfl)) ?_; (with_reducible refine (ratio_Cmp.calls a0_0 a0_1 a0_2 a0_3 t225 _ A21.out).mono ?_); rintro e w24 ⟨rfl, hb⟩; refine ⟨_, rfl, ?_⟩; have n0_ := Aside0.mk (Kd.R_below (by (with_reducible repeat (first | apply Kd.R_alloc | apply Kd.R_drewN | apply Kd.R_drew)); exact HO_11.out) hb); have n1_ := Aside0.mk (blk_below (g := gb218) (o := .cells #[.int .i64 a0_0, .int .i64 a0_1, .int .i64 a0_2, .int .i64 a0_3, .int .i64 a0_4, .int .i64 a0_5, .string a0_6, .string a0_7, .slice A0_8 l0_8.length c0_8] 41 (0, 0)) (by (with_reducible repeat (first | refine blk_drewN ?_ _ | refine blk_drew ?_ | refine blk_alloc ?_ _)); exact BK218.out) hb); have n2_ := Aside0.mk (below_step (by repeat (first | (with_reducible first | exact HB.out | apply below_alloc | apply pw_below_drewN | apply below_drew1 | refine below_set ?_ GE218.out) | exact HB.out)) hb); clear HO_11; clear BK218; clear HB; have HO_11 := n0_; have BK218 := n1_; have HB := n2_; clear n0_ n1_ n2_; (try clear hb); (try clear hb2); (try clear hk); (try clear hi)))
            go_ret
            exact ⟨by first | rfl | (simp [errW_none, errW_some] <;> rfl) | (simp [*, errW_none, errW_some] <;> rfl), by repeat (first | (with_reducible first | exact HB.out | apply below_alloc | apply pw_below_drewN | apply below_drew1 | refine below_set ?_ GE218.out) | exact HB.out)⟩
          · rw [if_neg c22] at H
            have c22b0 : decide (0 ≤ t225) = false := decide_eq_false c22
            clear c22
            (first | rw [c22b0] | (simp only [i64_w, i32_w]; rw [c22b0]) | skip)
            by_cases c25 : a0_4 < 0
            · rw [if_pos c25] at H
              have c25b0 : decide (a0_4 < 0) = true := decide_eq_true c25
              clear c25
              obtain rfl := Option.some.inj H
              have hcz26_0 : wr.cell? ⟨gb218, 0, none⟩ = some (.int .i64 a0_0) := (blk_cell BK218.out 0).trans rfl
              have hcz26_1 : wr.cell? ⟨gb218, 1, none⟩ = some (.int .i64 a0_1) := (blk_cell BK218.out 1).trans rfl
              have hcz26_2 : wr.cell? ⟨gb218, 2, none⟩ = some (.int .i64 a0_2) := (blk_cell BK218.out 2).trans rfl
              have hcz26_3 : wr.cell? ⟨gb218, 3, none⟩ = some (.int .i64 a0_3) := (blk_cell BK218.out 3).trans rfl
              have hcz26_4 : wr.cell? ⟨gb218, 4, none⟩ = some (.int .i64 a0_4) := (blk_cell BK218.out 4).trans rfl
              have hcz26_5 : wr.cell? ⟨gb218, 5, none⟩ = some (.int .i64 a0_5) := (blk_cell BK218.out 5).trans rfl
              have hcz26_6 : wr.cell? ⟨gb218, 6, none⟩ = some (.string a0_6) := (blk_cell BK218.out 6).trans rfl
              have hcz26_7 : wr.cell? ⟨gb218, 7, none⟩ = some (.string a0_7) := (blk_cell BK218.out 7).trans rfl
              have hcz26_8 : wr.cell? ⟨gb218, 8, none⟩ = some (.slice A0_8 l0_8.length c0_8) := (blk_cell BK218.out 8).trans rfl
              have hfz26_0 := blk_frozen BK218.out 0
              have hfz26_1 := blk_frozen BK218.out 1
              have hfz26_2 := blk_frozen BK218.out 2
              have hfz26_3 := blk_frozen BK218.out 3
              have hfz26_4 := blk_frozen BK218.out 4
              have hfz26_5 := blk_frozen BK218.out 5
              have hfz26_6 := blk_frozen BK218.out 6
              have hfz26_7 := blk_frozen BK218.out 7
              have hfz26_8 := blk_frozen BK218.out 8
              go_wp2_with (first | ((with_reducible refine gate_callee (f := 24) rfl ?_); refine goesL_ (some 28) rfl rfl Try.func24 (by kernel_rfl) rfl #[.agg #[.int .i64 a0_0, .int .i64 a0_1], .agg #[.int .i64 a0_2, .int .i64 a0_3]] rfl (by (try simp only [List.map_toArray, List.map_cons, List.map_nil]); first | done | rfl | (simp only [List.length_drop, List.length_take]; rfl)) ?_; (with_reducible refine (ratio_Cmp.calls a0_0 a0_1 a0_2 a0_3 t225 _ A21.out).mono ?_); rintro e w27 ⟨rfl, hb⟩; refine ⟨_, rfl, ?_⟩; have n0_ := Aside0.mk (Kd.R_below (by (with_reducible repeat (first | apply Kd.R_alloc | apply Kd.R_drewN | apply Kd.R_drew)); exact HO_11.out) hb); have n1_ := Aside0.mk (blk_below (g := gb218) (o := .cells #[.int .i64 a0_0, .int .i64 a0_1, .int .i64 a0_2, .int .i64 a0_3, .int .i64 a0_4, .int .i64 a0_5, .string a0_6, .string a0_7, .slice A0_8 l0_8.length c0_8] 41 (0, 0)) (by (with_reducible repeat (first | refine blk_drewN ?_ _ | refine blk_drew ?_ | refine blk_alloc ?_ _)); exact BK218.out) hb); have n2_ := Aside0.mk (below_step (by repeat (first | (with_reducible first | exact HB.out | apply below_alloc | apply pw_below_drewN | apply below_drew1 | refine below_set ?_ GE218.out) | exact HB.out)) hb); clear HO_11; clear BK218; clear HB; have HO_11 := n0_; have BK218 := n1_; have HB := n2_; clear n0_ n1_ n2_; (try clear hb); (try clear hb2); (try clear hk); (try clear hi); have hcz28_0 : w27.cell? ⟨gb218, 0, none⟩ = some (.int .i64 a0_0) := (blk_cell BK218.out 0).trans rfl; have hcz28_1 : w27.cell? ⟨gb218, 1, none⟩ = some (.int .i64 a0_1) := (blk_cell BK218.out 1).trans rfl; have hcz28_2 : w27.cell? ⟨gb218, 2, none⟩ = some (.int .i64 a0_2) := (blk_cell BK218.out 2).trans rfl; have hcz28_3 : w27.cell? ⟨gb218, 3, none⟩ = some (.int .i64 a0_3) := (blk_cell BK218.out 3).trans rfl; have hcz28_4 : w27.cell? ⟨gb218, 4, none⟩ = some (.int .i64 a0_4) := (blk_cell BK218.out 4).trans rfl; have hcz28_5 : w27.cell? ⟨gb218, 5, none⟩ = some (.int .i64 a0_5) := (blk_cell BK218.out 5).trans rfl; have hcz28_6 : w27.cell? ⟨gb218, 6, none⟩ = some (.string a0_6) := (blk_cell BK218.out 6).trans rfl; have hcz28_7 : w27.cell? ⟨gb218, 7, none⟩ = some (.string a0_7) := (blk_cell BK218.out 7).trans rfl; have hcz28_8 : w27.cell? ⟨gb218, 8, none⟩ = some (.slice A0_8 l0_8.length c0_8) := (blk_cell BK218.out 8).trans rfl; have hfz28_0 := blk_frozen BK218.out 0; have hfz28_1 := blk_frozen BK218.out 1; have hfz28_2 := blk_frozen BK218.out 2; have hfz28_3 := blk_frozen BK218.out 3; have hfz28_4 := blk_frozen BK218.out 4; have hfz28_5 := blk_frozen BK218.out 5; have hfz28_6 := blk_frozen BK218.out 6; have hfz28_7 := blk_frozen BK218.out 7; have hfz28_8 := blk_frozen BK218.out 8))
              go_ret
              exact ⟨by first | rfl | (simp [errW_none, errW_some] <;> rfl) | (simp [*, errW_none, errW_some] <;> rfl), by repeat (first | (with_reducible first | exact HB.out | apply below_alloc | apply pw_below_drewN | apply below_drew1 | refine below_set ?_ GE218.out) | exact HB.out)⟩
            · rw [if_neg c25] at H
              have c25b0 : decide (a0_4 < 0) = false := decide_eq_false c25
              clear c25
              by_cases c29 : a0_4 ≥ 8
              · rw [if_pos c29] at H
                have c29b0 : decide (8 ≤ a0_4) = true := decide_eq_true c29
                clear c29
                obtain rfl := Option.some.inj H
                have hcz30_0 : wr.cell? ⟨gb218, 0, none⟩ = some (.int .i64 a0_0) := (blk_cell BK218.out 0).trans rfl
                have hcz30_1 : wr.cell? ⟨gb218, 1, none⟩ = some (.int .i64 a0_1) := (blk_cell BK218.out 1).trans rfl
                have hcz30_2 : wr.cell? ⟨gb218, 2, none⟩ = some (.int .i64 a0_2) := (blk_cell BK218.out 2).trans rfl
                have hcz30_3 : wr.cell? ⟨gb218, 3, none⟩ = some (.int .i64 a0_3) := (blk_cell BK218.out 3).trans rfl
                have hcz30_4 : wr.cell? ⟨gb218, 4, none⟩ = some (.int .i64 a0_4) := (blk_cell BK218.out 4).trans rfl
                have hcz30_5 : wr.cell? ⟨gb218, 5, none⟩ = some (.int .i64 a0_5) := (blk_cell BK218.out 5).trans rfl
                have hcz30_6 : wr.cell? ⟨gb218, 6, none⟩ = some (.string a0_6) := (blk_cell BK218.out 6).trans rfl
                have hcz30_7 : wr.cell? ⟨gb218, 7, none⟩ = some (.string a0_7) := (blk_cell BK218.out 7).trans rfl
                have hcz30_8 : wr.cell? ⟨gb218, 8, none⟩ = some (.slice A0_8 l0_8.length c0_8) := (blk_cell BK218.out 8).trans rfl
                have hfz30_0 := blk_frozen BK218.out 0
                have hfz30_1 := blk_frozen BK218.out 1
                have hfz30_2 := blk_frozen BK218.out 2
                have hfz30_3 := blk_frozen BK218.out 3
                have hfz30_4 := blk_frozen BK218.out 4
                have hfz30_5 := blk_frozen BK218.out 5
                have hfz30_6 := blk_frozen BK218.out 6
                have hfz30_7 := blk_frozen BK218.out 7
                have hfz30_8 := blk_frozen BK218.out 8
                go_wp2_with (first | ((with_reducible refine gate_callee (f := 24) rfl ?_); refine goesL_ (some 28) rfl rfl Try.func24 (by kernel_rfl) rfl #[.agg #[.int .i64 a0_0, .int .i64 a0_1], .agg #[.int .i64 a0_2, .int .i64 a0_3]] rfl (by (try simp only [List.map_toArray, List.map_cons, List.map_nil]); first | done | rfl | (simp only [List.length_drop, List.length_take]; rfl)) ?_; (with_reducible refine (ratio_Cmp.calls a0_0 a0_1 a0_2 a0_3 t225 _ A21.out).mono ?_); rintro e w31 ⟨rfl, hb⟩; refine ⟨_, rfl, ?_⟩; have n0_ := Aside0.mk (Kd.R_below (by (with_reducible repeat (first | apply Kd.R_alloc | apply Kd.R_drewN | apply Kd.R_drew)); exact HO_11.out) hb); have n1_ := Aside0.mk (blk_below (g := gb218) (o := .cells #[.int .i64 a0_0, .int .i64 a0_1, .int .i64 a0_2, .int .i64 a0_3, .int .i64 a0_4, .int .i64 a0_5, .string a0_6, .string a0_7, .slice A0_8 l0_8.length c0_8] 41 (0, 0)) (by (with_reducible repeat (first | refine blk_drewN ?_ _ | refine blk_drew ?_ | refine blk_alloc ?_ _)); exact BK218.out) hb); have n2_ := Aside0.mk (below_step (by repeat (first | (with_reducible first | exact HB.out | apply below_alloc | apply pw_below_drewN | apply below_drew1 | refine below_set ?_ GE218.out) | exact HB.out)) hb); clear HO_11; clear BK218; clear HB; have HO_11 := n0_; have BK218 := n1_; have HB := n2_; clear n0_ n1_ n2_; (try clear hb); (try clear hb2); (try clear hk); (try clear hi); have hcz32_0 : w31.cell? ⟨gb218, 0, none⟩ = some (.int .i64 a0_0) := (blk_cell BK218.out 0).trans rfl; have hcz32_1 : w31.cell? ⟨gb218, 1, none⟩ = some (.int .i64 a0_1) := (blk_cell BK218.out 1).trans rfl; have hcz32_2 : w31.cell? ⟨gb218, 2, none⟩ = some (.int .i64 a0_2) := (blk_cell BK218.out 2).trans rfl; have hcz32_3 : w31.cell? ⟨gb218, 3, none⟩ = some (.int .i64 a0_3) := (blk_cell BK218.out 3).trans rfl; have hcz32_4 : w31.cell? ⟨gb218, 4, none⟩ = some (.int .i64 a0_4) := (blk_cell BK218.out 4).trans rfl; have hcz32_5 : w31.cell? ⟨gb218, 5, none⟩ = some (.int .i64 a0_5) := (blk_cell BK218.out 5).trans rfl; have hcz32_6 : w31.cell? ⟨gb218, 6, none⟩ = some (.string a0_6) := (blk_cell BK218.out 6).trans rfl; have hcz32_7 : w31.cell? ⟨gb218, 7, none⟩ = some (.string a0_7) := (blk_cell BK218.out 7).trans rfl; have hcz32_8 : w31.cell? ⟨gb218, 8, none⟩ = some (.slice A0_8 l0_8.length c0_8) := (blk_cell BK218.out 8).trans rfl; have hfz32_0 := blk_frozen BK218.out 0; have hfz32_1 := blk_frozen BK218.out 1; have hfz32_2 := blk_frozen BK218.out 2; have hfz32_3 := blk_frozen BK218.out 3; have hfz32_4 := blk_frozen BK218.out 4; have hfz32_5 := blk_frozen BK218.out 5; have hfz32_6 := blk_frozen BK218.out 6; have hfz32_7 := blk_frozen BK218.out 7; have hfz32_8 := blk_frozen BK218.out 8))
                go_ret
                exact ⟨by first | rfl | (simp [errW_none, errW_some] <;> rfl) | (simp [*, errW_none, errW_some] <;> rfl), by repeat (first | (with_reducible first | exact HB.out | apply below_alloc | apply pw_below_drewN | apply below_drew1 | refine below_set ?_ GE218.out) | exact HB.out)⟩
              · rw [if_neg c29] at H
                have c29b0 : decide (8 ≤ a0_4) = false := decide_eq_false c29
                clear c29
                by_cases c33 : a0_5 = 0
                · rw [if_pos c33] at H
                  have c33b0 : (a0_5 == 0) = true := beq_iff_eq.mpr c33
                  have c33b1 : (a0_5 != 0) = false := bne_eq_false_iff_eq.mpr c33
                  clear c33
                  have H' := Aside0.mk H
                  clear H
                  have hcz34_0 : wr.cell? ⟨gb218, 0, none⟩ = some (.int .i64 a0_0) := (blk_cell BK218.out 0).trans rfl
                  have hcz34_1 : wr.cell? ⟨gb218, 1, none⟩ = some (.int .i64 a0_1) := (blk_cell BK218.out 1).trans rfl
                  have hcz34_2 : wr.cell? ⟨gb218, 2, none⟩ = some (.int .i64 a0_2) := (blk_cell BK218.out 2).trans rfl
                  have hcz34_3 : wr.cell? ⟨gb218, 3, none⟩ = some (.int .i64 a0_3) := (blk_cell BK218.out 3).trans rfl
                  have hcz34_4 : wr.cell? ⟨gb218, 4, none⟩ = some (.int .i64 a0_4) := (blk_cell BK218.out 4).trans rfl
                  have hcz34_5 : wr.cell? ⟨gb218, 5, none⟩ = some (.int .i64 a0_5) := (blk_cell BK218.out 5).trans rfl
                  have hcz34_6 : wr.cell? ⟨gb218, 6, none⟩ = some (.string a0_6) := (blk_cell BK218.out 6).trans rfl
                  have hcz34_7 : wr.cell? ⟨gb218, 7, none⟩ = some (.string a0_7) := (blk_cell BK218.out 7).trans rfl
                  have hcz34_8 : wr.cell? ⟨gb218, 8, none⟩ = some (.slice A0_8 l0_8.length c0_8) := (blk_cell BK218.out 8).trans rfl
                  have hfz34_0 := blk_frozen BK218.out 0
                  have hfz34_1 := blk_frozen BK218.out 1
                  have hfz34_2 := blk_frozen BK218.out 2
                  have hfz34_3 := blk_frozen BK218.out 3
                  have hfz34_4 := blk_frozen BK218.out 4
                  have hfz34_5 := blk_frozen BK218.out 5
                  have hfz34_6 := blk_frozen BK218.out 6
                  have hfz34_7 := blk_frozen BK218.out 7
                  have hfz34_8 := blk_frozen BK218.out 8
                  go_wp2_with (first | ((with_reducible refine gate_callee (f := 24) rfl ?_); refine goesL_ (some 28) rfl rfl Try.func24 (by kernel_rfl) rfl #[.agg #[.int .i64 a0_0, .int .i64 a0_1], .agg #[.int .i64 a0_2, .int .i64 a0_3]] rfl (by (try simp only [List.map_toArray, List.map_cons, List.map_nil]); first | done | rfl | (simp only [List.length_drop, List.length_take]; rfl)) ?_; (with_reducible refine (ratio_Cmp.calls a0_0 a0_1 a0_2 a0_3 t225 _ A21.out).mono ?_); rintro e w35 ⟨rfl, hb⟩; refine ⟨_, rfl, ?_⟩; have n0_ := Aside0.mk (Kd.R_below (by (with_reducible repeat (first | apply Kd.R_alloc | apply Kd.R_drewN | apply Kd.R_drew)); exact HO_11.out) hb); have n1_ := Aside0.mk (blk_below (g := gb218) (o := .cells #[.int .i64 a0_0, .int .i64 a0_1, .int .i64 a0_2, .int .i64 a0_3, .int .i64 a0_4, .int .i64 a0_5, .string a0_6, .string a0_7, .slice A0_8 l0_8.length c0_8] 41 (0, 0)) (by (with_reducible repeat (first | refine blk_drewN ?_ _ | refine blk_drew ?_ | refine blk_alloc ?_ _)); exact BK218.out) hb); have n2_ := Aside0.mk (below_step (by repeat (first | (with_reducible first | exact HB.out | apply below_alloc | apply pw_below_drewN | apply below_drew1 | refine below_set ?_ GE218.out) | exact HB.out)) hb); clear HO_11; clear BK218; clear HB; have HO_11 := n0_; have BK218 := n1_; have HB := n2_; clear n0_ n1_ n2_; (try clear hb); (try clear hb2); (try clear hk); (try clear hi); have hcz36_0 : w35.cell? ⟨gb218, 0, none⟩ = some (.int .i64 a0_0) := (blk_cell BK218.out 0).trans rfl; have hcz36_1 : w35.cell? ⟨gb218, 1, none⟩ = some (.int .i64 a0_1) := (blk_cell BK218.out 1).trans rfl; have hcz36_2 : w35.cell? ⟨gb218, 2, none⟩ = some (.int .i64 a0_2) := (blk_cell BK218.out 2).trans rfl; have hcz36_3 : w35.cell? ⟨gb218, 3, none⟩ = some (.int .i64 a0_3) := (blk_cell BK218.out 3).trans rfl; have hcz36_4 : w35.cell? ⟨gb218, 4, none⟩ = some (.int .i64 a0_4) := (blk_cell BK218.out 4).trans rfl; have hcz36_5 : w35.cell? ⟨gb218, 5, none⟩ = some (.int .i64 a0_5) := (blk_cell BK218.out 5).trans rfl; have hcz36_6 : w35.cell? ⟨gb218, 6, none⟩ = some (.string a0_6) := (blk_cell BK218.out 6).trans rfl; have hcz36_7 : w35.cell? ⟨gb218, 7, none⟩ = some (.string a0_7) := (blk_cell BK218.out 7).trans rfl; have hcz36_8 : w35.cell? ⟨gb218, 8, none⟩ = some (.slice A0_8 l0_8.length c0_8) := (blk_cell BK218.out 8).trans rfl; have hfz36_0 := blk_frozen BK218.out 0; have hfz36_1 := blk_frozen BK218.out 1; have hfz36_2 := blk_frozen BK218.out 2; have hfz36_3 := blk_frozen BK218.out 3; have hfz36_4 := blk_frozen BK218.out 4; have hfz36_5 := blk_frozen BK218.out 5; have hfz36_6 := blk_frozen BK218.out 6; have hfz36_7 := blk_frozen BK218.out 7; have hfz36_8 := blk_frozen BK218.out 8))
                  go_meet
                  case rel => exact ⟨_, H', ⟨by have := HK1.out; first | omega | exact Nat.le_refl _⟩, ⟨by (with_reducible repeat (first | refine blk_drewN ?_ _ | refine blk_drew ?_ | refine blk_alloc ?_ _)); exact BK218.out⟩, ⟨by repeat (first | (with_reducible first | exact HB.out | apply below_alloc | apply pw_below_drewN | apply below_drew1 | refine below_set ?_ GE218.out) | exact HB.out)⟩⟩
                · rw [if_neg c33] at H
                  have c33b0 : (a0_5 == 0) = false := beq_eq_false_iff_ne.mpr c33
                  have c33b1 : (a0_5 != 0) = true := bne_iff_ne.mpr c33
                  by_cases c37 : a0_5 = 1
                  · rw [if_pos c37] at H
                    have c37b0 : (a0_5 == 1) = true := beq_iff_eq.mpr c37
                    have c37b1 : (a0_5 != 1) = false := bne_eq_false_iff_eq.mpr c37
                    clear c37
                    have H' := Aside0.mk H
                    clear H
                    have hcz38_0 : wr.cell? ⟨gb218, 0, none⟩ = some (.int .i64 a0_0) := (blk_cell BK218.out 0).trans rfl
                    have hcz38_1 : wr.cell? ⟨gb218, 1, none⟩ = some (.int .i64 a0_1) := (blk_cell BK218.out 1).trans rfl
                    have hcz38_2 : wr.cell? ⟨gb218, 2, none⟩ = some (.int .i64 a0_2) := (blk_cell BK218.out 2).trans rfl
                    have hcz38_3 : wr.cell? ⟨gb218, 3, none⟩ = some (.int .i64 a0_3) := (blk_cell BK218.out 3).trans rfl
                    have hcz38_4 : wr.cell? ⟨gb218, 4, none⟩ = some (.int .i64 a0_4) := (blk_cell BK218.out 4).trans rfl
                    have hcz38_5 : wr.cell? ⟨gb218, 5, none⟩ = some (.int .i64 a0_5) := (blk_cell BK218.out 5).trans rfl
                    have hcz38_6 : wr.cell? ⟨gb218, 6, none⟩ = some (.string a0_6) := (blk_cell BK218.out 6).trans rfl
                    have hcz38_7 : wr.cell? ⟨gb218, 7, none⟩ = some (.string a0_7) := (blk_cell BK218.out 7).trans rfl
                    have hcz38_8 : wr.cell? ⟨gb218, 8, none⟩ = some (.slice A0_8 l0_8.length c0_8) := (blk_cell BK218.out 8).trans rfl
                    have hfz38_0 := blk_frozen BK218.out 0
                    have hfz38_1 := blk_frozen BK218.out 1
                    have hfz38_2 := blk_frozen BK218.out 2
                    have hfz38_3 := blk_frozen BK218.out 3
                    have hfz38_4 := blk_frozen BK218.out 4
                    have hfz38_5 := blk_frozen BK218.out 5
                    have hfz38_6 := blk_frozen BK218.out 6
                    have hfz38_7 := blk_frozen BK218.out 7
                    have hfz38_8 := blk_frozen BK218.out 8
                    go_wp2_with (first | ((with_reducible refine gate_callee (f := 24) rfl ?_); refine goesL_ (some 28) rfl rfl Try.func24 (by kernel_rfl) rfl #[.agg #[.int .i64 a0_0, .int .i64 a0_1], .agg #[.int .i64 a0_2, .int .i64 a0_3]] rfl (by (try simp only [List.map_toArray, List.map_cons, List.map_nil]); first | done | rfl | (simp only [List.length_drop, List.length_take]; rfl)) ?_; (with_reducible refine (ratio_Cmp.calls a0_0 a0_1 a0_2 a0_3 t225 _ A21.out).mono ?_); rintro e w39 ⟨rfl, hb⟩; refine ⟨_, rfl, ?_⟩; have n0_ := Aside0.mk (Kd.R_below (by (with_reducible repeat (first | apply Kd.R_alloc | apply Kd.R_drewN | apply Kd.R_drew)); exact HO_11.out) hb); have n1_ := Aside0.mk (blk_below (g := gb218) (o := .cells #[.int .i64 a0_0, .int .i64 a0_1, .int .i64 a0_2, .int .i64 a0_3, .int .i64 a0_4, .int .i64 a0_5, .string a0_6, .string a0_7, .slice A0_8 l0_8.length c0_8] 41 (0, 0)) (by (with_reducible repeat (first | refine blk_drewN ?_ _ | refine blk_drew ?_ | refine blk_alloc ?_ _)); exact BK218.out) hb); have n2_ := Aside0.mk (below_step (by repeat (first | (with_reducible first | exact HB.out | apply below_alloc | apply pw_below_drewN | apply below_drew1 | refine below_set ?_ GE218.out) | exact HB.out)) hb); clear HO_11; clear BK218; clear HB; have HO_11 := n0_; have BK218 := n1_; have HB := n2_; clear n0_ n1_ n2_; (try clear hb); (try clear hb2); (try clear hk); (try clear hi); have hcz40_0 : w39.cell? ⟨gb218, 0, none⟩ = some (.int .i64 a0_0) := (blk_cell BK218.out 0).trans rfl; have hcz40_1 : w39.cell? ⟨gb218, 1, none⟩ = some (.int .i64 a0_1) := (blk_cell BK218.out 1).trans rfl; have hcz40_2 : w39.cell? ⟨gb218, 2, none⟩ = some (.int .i64 a0_2) := (blk_cell BK218.out 2).trans rfl; have hcz40_3 : w39.cell? ⟨gb218, 3, none⟩ = some (.int .i64 a0_3) := (blk_cell BK218.out 3).trans rfl; have hcz40_4 : w39.cell? ⟨gb218, 4, none⟩ = some (.int .i64 a0_4) := (blk_cell BK218.out 4).trans rfl; have hcz40_5 : w39.cell? ⟨gb218, 5, none⟩ = some (.int .i64 a0_5) := (blk_cell BK218.out 5).trans rfl; have hcz40_6 : w39.cell? ⟨gb218, 6, none⟩ = some (.string a0_6) := (blk_cell BK218.out 6).trans rfl; have hcz40_7 : w39.cell? ⟨gb218, 7, none⟩ = some (.string a0_7) := (blk_cell BK218.out 7).trans rfl; have hcz40_8 : w39.cell? ⟨gb218, 8, none⟩ = some (.slice A0_8 l0_8.length c0_8) := (blk_cell BK218.out 8).trans rfl; have hfz40_0 := blk_frozen BK218.out 0; have hfz40_1 := blk_frozen BK218.out 1; have hfz40_2 := blk_frozen BK218.out 2; have hfz40_3 := blk_frozen BK218.out 3; have hfz40_4 := blk_frozen BK218.out 4; have hfz40_5 := blk_frozen BK218.out 5; have hfz40_6 := blk_frozen BK218.out 6; have hfz40_7 := blk_frozen BK218.out 7; have hfz40_8 := blk_frozen BK218.out 8))
                    go_meet
                    case rel => exact ⟨_, H', ⟨by have := HK1.out; first | omega | exact Nat.le_refl _⟩, ⟨by (with_reducible repeat (first | refine blk_drewN ?_ _ | refine blk_drew ?_ | refine blk_alloc ?_ _)); exact BK218.out⟩, ⟨by repeat (first | (with_reducible first | exact HB.out | apply below_alloc | apply pw_below_drewN | apply below_drew1 | refine below_set ?_ GE218.out) | exact HB.out)⟩⟩
                  · rw [if_neg c37] at H
                    have c37b0 : (a0_5 == 1) = false := beq_eq_false_iff_ne.mpr c37
                    have c37b1 : (a0_5 != 1) = true := bne_iff_ne.mpr c37
                    obtain rfl := Option.some.inj H
                    have hcz41_0 : wr.cell? ⟨gb218, 0, none⟩ = some (.int .i64 a0_0) := (blk_cell BK218.out 0).trans rfl
                    have hcz41_1 : wr.cell? ⟨gb218, 1, none⟩ = some (.int .i64 a0_1) := (blk_cell BK218.out 1).trans rfl
                    have hcz41_2 : wr.cell? ⟨gb218, 2, none⟩ = some (.int .i64 a0_2) := (blk_cell BK218.out 2).trans rfl
                    have hcz41_3 : wr.cell? ⟨gb218, 3, none⟩ = some (.int .i64 a0_3) := (blk_cell BK218.out 3).trans rfl
                    have hcz41_4 : wr.cell? ⟨gb218, 4, none⟩ = some (.int .i64 a0_4) := (blk_cell BK218.out 4).trans rfl
                    have hcz41_5 : wr.cell? ⟨gb218, 5, none⟩ = some (.int .i64 a0_5) := (blk_cell BK218.out 5).trans rfl
                    have hcz41_6 : wr.cell? ⟨gb218, 6, none⟩ = some (.string a0_6) := (blk_cell BK218.out 6).trans rfl
                    have hcz41_7 : wr.cell? ⟨gb218, 7, none⟩ = some (.string a0_7) := (blk_cell BK218.out 7).trans rfl
                    have hcz41_8 : wr.cell? ⟨gb218, 8, none⟩ = some (.slice A0_8 l0_8.length c0_8) := (blk_cell BK218.out 8).trans rfl
                    have hfz41_0 := blk_frozen BK218.out 0
                    have hfz41_1 := blk_frozen BK218.out 1
                    have hfz41_2 := blk_frozen BK218.out 2
                    have hfz41_3 := blk_frozen BK218.out 3
                    have hfz41_4 := blk_frozen BK218.out 4
                    have hfz41_5 := blk_frozen BK218.out 5
                    have hfz41_6 := blk_frozen BK218.out 6
                    have hfz41_7 := blk_frozen BK218.out 7
                    have hfz41_8 := blk_frozen BK218.out 8
                    go_wp2_with (first | ((with_reducible refine gate_callee (f := 24) rfl ?_); refine goesL_ (some 28) rfl rfl Try.func24 (by kernel_rfl) rfl #[.agg #[.int .i64 a0_0, .int .i64 a0_1], .agg #[.int .i64 a0_2, .int .i64 a0_3]] rfl (by (try simp only [List.map_toArray, List.map_cons, List.map_nil]); first | done | rfl | (simp only [List.length_drop, List.length_take]; rfl)) ?_; (with_reducible refine (ratio_Cmp.calls a0_0 a0_1 a0_2 a0_3 t225 _ A21.out).mono ?_); rintro e w42 ⟨rfl, hb⟩; refine ⟨_, rfl, ?_⟩; have n0_ := Aside0.mk (Kd.R_below (by (with_reducible repeat (first | apply Kd.R_alloc | apply Kd.R_drewN | apply Kd.R_drew)); exact HO_11.out) hb); have n1_ := Aside0.mk (blk_below (g := gb218) (o := .cells #[.int .i64 a0_0, .int .i64 a0_1, .int .i64 a0_2, .int .i64 a0_3, .int .i64 a0_4, .int .i64 a0_5, .string a0_6, .string a0_7, .slice A0_8 l0_8.length c0_8] 41 (0, 0)) (by (with_reducible repeat (first | refine blk_drewN ?_ _ | refine blk_drew ?_ | refine blk_alloc ?_ _)); exact BK218.out) hb); have n2_ := Aside0.mk (below_step (by repeat (first | (with_reducible first | exact HB.out | apply below_alloc | apply pw_below_drewN | apply below_drew1 | refine below_set ?_ GE218.out) | exact HB.out)) hb); clear HO_11; clear BK218; clear HB; have HO_11 := n0_; have BK218 := n1_; have HB := n2_; clear n0_ n1_ n2_; (try clear hb); (try clear hb2); (try clear hk); (try clear hi); have hcz43_0 : w42.cell? ⟨gb218, 0, none⟩ = some (.int .i64 a0_0) := (blk_cell BK218.out 0).trans rfl; have hcz43_1 : w42.cell? ⟨gb218, 1, none⟩ = some (.int .i64 a0_1) := (blk_cell BK218.out 1).trans rfl; have hcz43_2 : w42.cell? ⟨gb218, 2, none⟩ = some (.int .i64 a0_2) := (blk_cell BK218.out 2).trans rfl; have hcz43_3 : w42.cell? ⟨gb218, 3, none⟩ = some (.int .i64 a0_3) := (blk_cell BK218.out 3).trans rfl; have hcz43_4 : w42.cell? ⟨gb218, 4, none⟩ = some (.int .i64 a0_4) := (blk_cell BK218.out 4).trans rfl; have hcz43_5 : w42.cell? ⟨gb218, 5, none⟩ = some (.int .i64 a0_5) := (blk_cell BK218.out 5).trans rfl; have hcz43_6 : w42.cell? ⟨gb218, 6, none⟩ = some (.string a0_6) := (blk_cell BK218.out 6).trans rfl; have hcz43_7 : w42.cell? ⟨gb218, 7, none⟩ = some (.string a0_7) := (blk_cell BK218.out 7).trans rfl; have hcz43_8 : w42.cell? ⟨gb218, 8, none⟩ = some (.slice A0_8 l0_8.length c0_8) := (blk_cell BK218.out 8).trans rfl; have hfz43_0 := blk_frozen BK218.out 0; have hfz43_1 := blk_frozen BK218.out 1; have hfz43_2 := blk_frozen BK218.out 2; have hfz43_3 := blk_frozen BK218.out 3; have hfz43_4 := blk_frozen BK218.out 4; have hfz43_5 := blk_frozen BK218.out 5; have hfz43_6 := blk_frozen BK218.out 6; have hfz43_7 := blk_frozen BK218.out 7; have hfz43_8 := blk_frozen BK218.out 8))
                    go_ret
                    exact ⟨by first | rfl | (simp [errW_none, errW_some] <;> rfl) | (simp [*, errW_none, errW_some] <;> rfl), by repeat (first | (with_reducible first | exact HB.out | apply below_alloc | apply pw_below_drewN | apply below_drew1 | refine below_set ?_ GE218.out) | exact HB.out)⟩
        case rest =>
          clear HC20
          try clear c1
          try clear c2
          try clear p2
          try clear q2
          try clear hx2
          try clear c3
          try clear c5
          try clear p6
          try clear c7
          try clear c7b0
          try clear c8
          try clear c8b0
          try clear c9
          try clear c9b0
          try clear c11
          try clear c11b0
          try clear c11b1
          try clear c13
          try clear c17
          try clear c22
          try clear c22b0
          try clear p22
          try clear q22
          try clear hx22
          try clear c24
          try clear c25
          try clear c25b0
          try clear c29
          try clear c29b0
          try clear c30
          try clear c33
          try clear c33b0
          try clear c33b1
          try clear c37
          try clear c37b0
          try clear c37b1
          try clear hcz14_0
          try clear hcz14_1
          try clear hcz18_0
          try clear hcz18_1
          try clear hcz23_0
          try clear hcz23_1
          try clear hcz23_2
          try clear hcz23_3
          try clear hcz23_4
          try clear hcz23_5
          try clear hcz23_6
          try clear hcz23_7
          try clear hcz23_8
          try clear hcz26_0
          try clear hcz26_1
          try clear hcz26_2
          try clear hcz26_3
          try clear hcz26_4
          try clear hcz26_5
          try clear hcz26_6
          try clear hcz26_7
          try clear hcz26_8
          try clear hcz28_0
          try clear hcz28_1
          try clear hcz28_2
          try clear hcz28_3
          try clear hcz28_4
          try clear hcz28_5
          try clear hcz28_6
          try clear hcz28_7
          try clear hcz28_8
          try clear hcz30_0
          try clear hcz30_1
          try clear hcz30_2
          try clear hcz30_3
          try clear hcz30_4
          try clear hcz30_5
          try clear hcz30_6
          try clear hcz30_7
          try clear hcz30_8
          try clear hcz32_0
          try clear hcz32_1
          try clear hcz32_2
          try clear hcz32_3
          try clear hcz32_4
          try clear hcz32_5
          try clear hcz32_6
          try clear hcz32_7
          try clear hcz32_8
          try clear hcz34_0
          try clear hcz34_1
          try clear hcz34_2
          try clear hcz34_3
          try clear hcz34_4
          try clear hcz34_5
          try clear hcz34_6
          try clear hcz34_7
          try clear hcz34_8
          try clear hcz36_0
          try clear hcz36_1
          try clear hcz36_2
          try clear hcz36_3
          try clear hcz36_4
          try clear hcz36_5
          try clear hcz36_6
          try clear hcz36_7
          try clear hcz36_8
          try clear hcz38_0
          try clear hcz38_1
          try clear hcz38_2
          try clear hcz38_3
          try clear hcz38_4
          try clear hcz38_5
          try clear hcz38_6
          try clear hcz38_7
          try clear hcz38_8
          try clear hcz3_0
          try clear hcz3_1
          try clear hcz3_2
          try clear hcz3_3
          try clear hcz3_4
          try clear hcz3_5
          try clear hcz3_6
          try clear hcz3_7
          try clear hcz3_8
          try clear hcz40_0
          try clear hcz40_1
          try clear hcz40_2
          try clear hcz40_3
          try clear hcz40_4
          try clear hcz40_5
          try clear hcz40_6
          try clear hcz40_7
          try clear hcz40_8
          try clear hcz41_0
          try clear hcz41_1
          try clear hcz41_2
          try clear hcz41_3
          try clear hcz41_4
          try clear hcz41_5
          try clear hcz41_6
          try clear hcz41_7
          try clear hcz41_8
          try clear hcz43_0
          try clear hcz43_1
          try clear hcz43_2
          try clear hcz43_3
          try clear hcz43_4
          try clear hcz43_5
          try clear hcz43_6
          try clear hcz43_7
          try clear hcz43_8
          try clear hfz14_0
          try clear hfz14_1
          try clear hfz18_0
          try clear hfz18_1
          try clear hfz23_0
          try clear hfz23_1
          try clear hfz23_2
          try clear hfz23_3
          try clear hfz23_4
          try clear hfz23_5
          try clear hfz23_6
          try clear hfz23_7
          try clear hfz23_8
          try clear hfz26_0
          try clear hfz26_1
          try clear hfz26_2
          try clear hfz26_3
          try clear hfz26_4
          try clear hfz26_5
          try clear hfz26_6
          try clear hfz26_7
          try clear hfz26_8
          try clear hfz28_0
          try clear hfz28_1
          try clear hfz28_2
          try clear hfz28_3
          try clear hfz28_4
          try clear hfz28_5
          try clear hfz28_6
          try clear hfz28_7
          try clear hfz28_8
          try clear hfz30_0
          try clear hfz30_1
          try clear hfz30_2
          try clear hfz30_3
          try clear hfz30_4
          try clear hfz30_5
          try clear hfz30_6
          try clear hfz30_7
          try clear hfz30_8
          try clear hfz32_0
          try clear hfz32_1
          try clear hfz32_2
          try clear hfz32_3
          try clear hfz32_4
          try clear hfz32_5
          try clear hfz32_6
          try clear hfz32_7
          try clear hfz32_8
          try clear hfz34_0
          try clear hfz34_1
          try clear hfz34_2
          try clear hfz34_3
          try clear hfz34_4
          try clear hfz34_5
          try clear hfz34_6
          try clear hfz34_7
          try clear hfz34_8
          try clear hfz36_0
          try clear hfz36_1
          try clear hfz36_2
          try clear hfz36_3
          try clear hfz36_4
          try clear hfz36_5
          try clear hfz36_6
          try clear hfz36_7
          try clear hfz36_8
          try clear hfz38_0
          try clear hfz38_1
          try clear hfz38_2
          try clear hfz38_3
          try clear hfz38_4
          try clear hfz38_5
          try clear hfz38_6
          try clear hfz38_7
          try clear hfz38_8
          try clear hfz3_0
          try clear hfz3_1
          try clear hfz3_2
          try clear hfz3_3
          try clear hfz3_4
          try clear hfz3_5
          try clear hfz3_6
          try clear hfz3_7
          try clear hfz3_8
          try clear hfz40_0
          try clear hfz40_1
          try clear hfz40_2
          try clear hfz40_3
          try clear hfz40_4
          try clear hfz40_5
          try clear hfz40_6
          try clear hfz40_7
          try clear hfz40_8
          try clear hfz41_0
          try clear hfz41_1
          try clear hfz41_2
          try clear hfz41_3
          try clear hfz41_4
          try clear hfz41_5
          try clear hfz41_6
          try clear hfz41_7
          try clear hfz41_8
          try clear hfz43_0
          try clear hfz43_1
          try clear hfz43_2
          try clear hfz43_3
          try clear hfz43_4
          try clear hfz43_5
          try clear hfz43_6
          try clear hfz43_7
          try clear hfz43_8
          try clear hx222_0
          try clear hx222_1
          try clear p2
          try clear p222
          try clear q222
          obtain ⟨kq, HA, HJ19, BK218, HB⟩ := hcut
          cases kq with
          | zero => exact absurd HA.out (by simp [cue_Check.j1])
          | succ kj19 =>
            have H := HA.out
            clear HA
            simp only [cue_Check.j1] at H
            replace H := Option.bind_eq_some_iff.mp H
            obtain ⟨t226, A440, H⟩ := H
            (try dsimp only at H)
            have A44 := Aside0.mk A440
            clear A440
            by_cases c45 : t226 = 0
            · rw [if_pos c45] at H
              have c45b0 : (t226 == 0) = true := beq_iff_eq.mpr c45
              have c45b1 : (t226 != 0) = false := bne_eq_false_iff_eq.mpr c45
              clear c45
              replace H := Option.bind_eq_some_iff.mp H
              obtain ⟨t227, A460, H⟩ := H
              (try dsimp only at H)
              have A46 := Aside0.mk A460
              clear A460
              obtain rfl := Option.some.inj H
              have hcz47_0 : wc.cell? ⟨gb218, 0, none⟩ = some (.int .i64 a0_0) := (blk_cell BK218.out 0).trans rfl
              have hcz47_1 : wc.cell? ⟨gb218, 1, none⟩ = some (.int .i64 a0_1) := (blk_cell BK218.out 1).trans rfl
              have hcz47_2 : wc.cell? ⟨gb218, 2, none⟩ = some (.int .i64 a0_2) := (blk_cell BK218.out 2).trans rfl
              have hcz47_3 : wc.cell? ⟨gb218, 3, none⟩ = some (.int .i64 a0_3) := (blk_cell BK218.out 3).trans rfl
              have hcz47_4 : wc.cell? ⟨gb218, 4, none⟩ = some (.int .i64 a0_4) := (blk_cell BK218.out 4).trans rfl
              have hcz47_5 : wc.cell? ⟨gb218, 5, none⟩ = some (.int .i64 a0_5) := (blk_cell BK218.out 5).trans rfl
              have hcz47_6 : wc.cell? ⟨gb218, 6, none⟩ = some (.string a0_6) := (blk_cell BK218.out 6).trans rfl
              have hcz47_7 : wc.cell? ⟨gb218, 7, none⟩ = some (.string a0_7) := (blk_cell BK218.out 7).trans rfl
              have hcz47_8 : wc.cell? ⟨gb218, 8, none⟩ = some (.slice A0_8 l0_8.length c0_8) := (blk_cell BK218.out 8).trans rfl
              have hfz47_0 := blk_frozen BK218.out 0
              have hfz47_1 := blk_frozen BK218.out 1
              have hfz47_2 := blk_frozen BK218.out 2
              have hfz47_3 := blk_frozen BK218.out 3
              have hfz47_4 := blk_frozen BK218.out 4
              have hfz47_5 := blk_frozen BK218.out 5
              have hfz47_6 := blk_frozen BK218.out 6
              have hfz47_7 := blk_frozen BK218.out 7
              have hfz47_8 := blk_frozen BK218.out 8
              go_wp2_with (first | ((with_reducible refine gate_callee (f := 51) rfl ?_); refine goesL_ (some 51) rfl rfl Try.func51 (by kernel_rfl) rfl #[.string a0_6] rfl (by (try simp only [List.map_toArray, List.map_cons, List.map_nil]); first | done | rfl | (simp only [List.length_drop, List.length_take]; rfl)) ?_; (with_reducible refine (cue_named.calls a0_6 t226 _ A44.out).mono ?_); rintro e w48 ⟨rfl, hb⟩; refine ⟨_, rfl, ?_⟩; have n0_ := Aside0.mk (blk_below (g := gb218) (o := .cells #[.int .i64 a0_0, .int .i64 a0_1, .int .i64 a0_2, .int .i64 a0_3, .int .i64 a0_4, .int .i64 a0_5, .string a0_6, .string a0_7, .slice A0_8 l0_8.length c0_8] 41 (0, 0)) (by (with_reducible repeat (first | refine blk_drewN ?_ _ | refine blk_drew ?_ | refine blk_alloc ?_ _)); exact BK218.out) hb); have n1_ := Aside0.mk (below_step (by repeat (first | (with_reducible first | exact HB.out | apply below_alloc | apply pw_below_drewN | apply below_drew1 | refine below_set ?_ GE218.out) | exact HB.out)) hb); clear BK218; clear HB; have BK218 := n0_; have HB := n1_; clear n0_ n1_; (try clear hb); (try clear hb2); (try clear hk); (try clear hi); have hcz49_0 : w48.cell? ⟨gb218, 0, none⟩ = some (.int .i64 a0_0) := (blk_cell BK218.out 0).trans rfl; have hcz49_1 : w48.cell? ⟨gb218, 1, none⟩ = some (.int .i64 a0_1) := (blk_cell BK218.out 1).trans rfl; have hcz49_2 : w48.cell? ⟨gb218, 2, none⟩ = some (.int .i64 a0_2) := (blk_cell BK218.out 2).trans rfl; have hcz49_3 : w48.cell? ⟨gb218, 3, none⟩ = some (.int .i64 a0_3) := (blk_cell BK218.out 3).trans rfl; have hcz49_4 : w48.cell? ⟨gb218, 4, none⟩ = some (.int .i64 a0_4) := (blk_cell BK218.out 4).trans rfl; have hcz49_5 : w48.cell? ⟨gb218, 5, none⟩ = some (.int .i64 a0_5) := (blk_cell BK218.out 5).trans rfl; have hcz49_6 : w48.cell? ⟨gb218, 6, none⟩ = some (.string a0_6) := (blk_cell BK218.out 6).trans rfl; have hcz49_7 : w48.cell? ⟨gb218, 7, none⟩ = some (.string a0_7) := (blk_cell BK218.out 7).trans rfl; have hcz49_8 : w48.cell? ⟨gb218, 8, none⟩ = some (.slice A0_8 l0_8.length c0_8) := (blk_cell BK218.out 8).trans rfl; have hfz49_0 := blk_frozen BK218.out 0; have hfz49_1 := blk_frozen BK218.out 1; have hfz49_2 := blk_frozen BK218.out 2; have hfz49_3 := blk_frozen BK218.out 3; have hfz49_4 := blk_frozen BK218.out 4; have hfz49_5 := blk_frozen BK218.out 5; have hfz49_6 := blk_frozen BK218.out 6; have hfz49_7 := blk_frozen BK218.out 7; have hfz49_8 := blk_frozen BK218.out 8) | ((with_reducible refine gate_callee (f := 52) rfl ?_); refine goesL_ (some 57) rfl rfl Try.func52 (by kernel_rfl) rfl #[.agg #[.string a0_7, .slice A0_8 l0_8.length c0_8]] rfl (by (try simp only [List.map_toArray, List.map_cons, List.map_nil]); first | done | rfl | (simp only [List.length_drop, List.length_take]; rfl)) ?_; (with_reducible refine (style_Check.calls kj19 a0_7 _ _ l0_8 t227 _ ?side1 ?side2 A46.out).mono ?_); (case side1 => repeat (first | exact (Kd.C_below HR0_8.out HB.out) | (with_reducible refine Kd.C_alloc ?_ _) | (with_reducible refine Kd.C_drewN ?_ _) | (with_reducible refine Kd.C_drew ?_))); (case side2 => exact HC0_8.out); rintro e w50 ⟨rfl, hb⟩; refine ⟨_, rfl, ?_⟩; have n0_ := Aside0.mk (blk_below (g := gb218) (o := .cells #[.int .i64 a0_0, .int .i64 a0_1, .int .i64 a0_2, .int .i64 a0_3, .int .i64 a0_4, .int .i64 a0_5, .string a0_6, .string a0_7, .slice A0_8 l0_8.length c0_8] 41 (0, 0)) (by (with_reducible repeat (first | refine blk_drewN ?_ _ | refine blk_drew ?_ | refine blk_alloc ?_ _)); exact BK218.out) hb); have n1_ := Aside0.mk (below_step (by repeat (first | (with_reducible first | exact HB.out | apply below_alloc | apply pw_below_drewN | apply below_drew1 | refine below_set ?_ GE218.out) | exact HB.out)) hb); clear BK218; clear HB; have BK218 := n0_; have HB := n1_; clear n0_ n1_; (try clear hb); (try clear hb2); (try clear hk); (try clear hi)))
              go_ret
              exact ⟨by first | rfl | (simp [errW_none, errW_some] <;> rfl) | (simp [*, errW_none, errW_some] <;> rfl), by repeat (first | (with_reducible first | exact HB.out | apply below_alloc | apply pw_below_drewN | apply below_drew1 | refine below_set ?_ GE218.out) | exact HB.out)⟩
            · rw [if_neg c45] at H
              have c45b0 : (t226 == 0) = false := beq_eq_false_iff_ne.mpr c45
              have c45b1 : (t226 != 0) = true := bne_iff_ne.mpr c45
              obtain rfl := Option.some.inj H
              have hcz51_0 : wc.cell? ⟨gb218, 0, none⟩ = some (.int .i64 a0_0) := (blk_cell BK218.out 0).trans rfl
              have hcz51_1 : wc.cell? ⟨gb218, 1, none⟩ = some (.int .i64 a0_1) := (blk_cell BK218.out 1).trans rfl
              have hcz51_2 : wc.cell? ⟨gb218, 2, none⟩ = some (.int .i64 a0_2) := (blk_cell BK218.out 2).trans rfl
              have hcz51_3 : wc.cell? ⟨gb218, 3, none⟩ = some (.int .i64 a0_3) := (blk_cell BK218.out 3).trans rfl
              have hcz51_4 : wc.cell? ⟨gb218, 4, none⟩ = some (.int .i64 a0_4) := (blk_cell BK218.out 4).trans rfl
              have hcz51_5 : wc.cell? ⟨gb218, 5, none⟩ = some (.int .i64 a0_5) := (blk_cell BK218.out 5).trans rfl
              have hcz51_6 : wc.cell? ⟨gb218, 6, none⟩ = some (.string a0_6) := (blk_cell BK218.out 6).trans rfl
              have hcz51_7 : wc.cell? ⟨gb218, 7, none⟩ = some (.string a0_7) := (blk_cell BK218.out 7).trans rfl
              have hcz51_8 : wc.cell? ⟨gb218, 8, none⟩ = some (.slice A0_8 l0_8.length c0_8) := (blk_cell BK218.out 8).trans rfl
              have hfz51_0 := blk_frozen BK218.out 0
              have hfz51_1 := blk_frozen BK218.out 1
              have hfz51_2 := blk_frozen BK218.out 2
              have hfz51_3 := blk_frozen BK218.out 3
              have hfz51_4 := blk_frozen BK218.out 4
              have hfz51_5 := blk_frozen BK218.out 5
              have hfz51_6 := blk_frozen BK218.out 6
              have hfz51_7 := blk_frozen BK218.out 7
              have hfz51_8 := blk_frozen BK218.out 8
              go_wp2_with (first | ((with_reducible refine gate_callee (f := 51) rfl ?_); refine goesL_ (some 51) rfl rfl Try.func51 (by kernel_rfl) rfl #[.string a0_6] rfl (by (try simp only [List.map_toArray, List.map_cons, List.map_nil]); first | done | rfl | (simp only [List.length_drop, List.length_take]; rfl)) ?_; (with_reducible refine (cue_named.calls a0_6 t226 _ A44.out).mono ?_); rintro e w52 ⟨rfl, hb⟩; refine ⟨_, rfl, ?_⟩; have n0_ := Aside0.mk (blk_below (g := gb218) (o := .cells #[.int .i64 a0_0, .int .i64 a0_1, .int .i64 a0_2, .int .i64 a0_3, .int .i64 a0_4, .int .i64 a0_5, .string a0_6, .string a0_7, .slice A0_8 l0_8.length c0_8] 41 (0, 0)) (by (with_reducible repeat (first | refine blk_drewN ?_ _ | refine blk_drew ?_ | refine blk_alloc ?_ _)); exact BK218.out) hb); have n1_ := Aside0.mk (below_step (by repeat (first | (with_reducible first | exact HB.out | apply below_alloc | apply pw_below_drewN | apply below_drew1 | refine below_set ?_ GE218.out) | exact HB.out)) hb); clear BK218; clear HB; have BK218 := n0_; have HB := n1_; clear n0_ n1_; (try clear hb); (try clear hb2); (try clear hk); (try clear hi)))
              go_ret
              exact ⟨by first | rfl | (simp [errW_none, errW_some] <;> rfl) | (simp [*, errW_none, errW_some] <;> rfl), by repeat (first | (with_reducible first | exact HB.out | apply below_alloc | apply pw_below_drewN | apply below_drew1 | refine below_set ?_ GE218.out) | exact HB.out)⟩
def cue_Compare.f (a0_0 : Int) (a0_1 : Int) (a0_2 : Int) (a0_3 : Int) (a0_4 : Int) (a0_5 : Int) (a0_6 : ByteArray) (a0_7 : ByteArray) (l0_8 : List (S62)) (a1_0 : Int) (a1_1 : Int) (a1_2 : Int) (a1_3 : Int) (a1_4 : Int) (a1_5 : Int) (a1_6 : ByteArray) (a1_7 : ByteArray) (l1_8 : List (S62)) : Option (Int) := (ratio_Cmp.f a0_0 a0_1 a1_0 a1_1).bind fun t230 => (if t230 = 0 then ((ratio_Cmp.f a0_2 a0_3 a1_2 a1_3).bind fun t231 => (some t231)) else (some t230))
set_option maxHeartbeats 8000000 in
set_option maxRecDepth 100000 in
theorem cue_Compare.calls (a0_0 : Int) (a0_1 : Int) (a0_2 : Int) (a0_3 : Int) (a0_4 : Int) (a0_5 : Int) (a0_6 : ByteArray) (a0_7 : ByteArray) (A0_8 : Option Addr) (c0_8 : Nat) (l0_8 : List (S62)) (a1_0 : Int) (a1_1 : Int) (a1_2 : Int) (a1_3 : Int) (a1_4 : Int) (a1_5 : Int) (a1_6 : ByteArray) (a1_7 : ByteArray) (A1_8 : Option Addr) (c1_8 : Nat) (l1_8 : List (S62)) (r : Int) (w : World) (hr0_8 : Kd.C k62 w A0_8 l0_8.length l0_8) (hc0_8 : l0_8.length ≤ c0_8) (hr1_8 : Kd.C k62 w A1_8 l1_8.length l1_8) (hc1_8 : l1_8.length ≤ c1_8) (h : cue_Compare.f a0_0 a0_1 a0_2 a0_3 a0_4 a0_5 a0_6 a0_7 l0_8 a1_0 a1_1 a1_2 a1_3 a1_4 a1_5 a1_6 a1_7 l1_8 = some r) :
    Calls Try.prog 31 #[.agg #[.int .i64 a0_0, .int .i64 a0_1, .int .i64 a0_2, .int .i64 a0_3, .int .i64 a0_4, .int .i64 a0_5, .string a0_6, .string a0_7, .slice A0_8 l0_8.length c0_8], .agg #[.int .i64 a1_0, .int .i64 a1_1, .int .i64 a1_2, .int .i64 a1_3, .int .i64 a1_4, .int .i64 a1_5, .string a1_6, .string a1_7, .slice A1_8 l1_8.length c1_8]] w fun e w' => e = .returned (.int .i64 r) ∧ Below w.heap.size w w' := by
  have hu41 := Try.underlying41
  have hu36 := Try.underlying36
  have HR0_8 := Aside0.mk hr0_8
  have HC0_8 := Aside0.mk hc0_8
  clear hr0_8 hc0_8
  have HR1_8 := Aside0.mk hr1_8
  have HC1_8 := Aside0.mk hc1_8
  clear hr1_8 hc1_8
  have HB := Aside0.mk (Below.refl w.heap.size w)
  have H : ((ratio_Cmp.f a0_0 a0_1 a1_0 a1_1).bind fun t230 => (if t230 = 0 then ((ratio_Cmp.f a0_2 a0_3 a1_2 a1_3).bind fun t231 => (some t231)) else (some t230))) = some r := h
  clear h
  replace H := Option.bind_eq_some_iff.mp H
  obtain ⟨t230, A30, H⟩ := H
  (try dsimp only at H)
  have A3 := Aside0.mk A30
  clear A30
  by_cases c4 : t230 = 0
  · rw [if_pos c4] at H
    have c4b0 : (t230 == 0) = true := beq_iff_eq.mpr c4
    have c4b1 : (t230 != 0) = false := bne_eq_false_iff_eq.mpr c4
    clear c4
    replace H := Option.bind_eq_some_iff.mp H
    obtain ⟨t231, A50, H⟩ := H
    (try dsimp only at H)
    have A5 := Aside0.mk A50
    clear A50
    obtain rfl := Option.some.inj H
    go_enter Try.func31, Try.ntmps31
    go_wp2_with (first | ((with_reducible refine gate_dst (N := 2) rfl ?_); refine box_event ?hg (N := 2) ?hd (cs := #[.int .i64 a0_0, .int .i64 a0_1, .int .i64 a0_2, .int .i64 a0_3, .int .i64 a0_4, .int .i64 a0_5, .string a0_6, .string a0_7, .slice A0_8 l0_8.length c0_8]) (t := 41) ?hr ?_; (case hd => rfl); (case hg => rfl); (case hr => first | (go_simp; done) | (go_simp; rfl)); intro gb228 hg w6 hbox hb; have n0_ := Aside0.mk (below_step (by repeat (first | (with_reducible first | exact HB.out | apply below_alloc | apply pw_below_drewN | apply below_drew1) | exact HB.out)) hb); have n1_ := Aside0.mk (hbox); have n2_ := Aside0.mk ((by rw [hg]; exact (below_size (by repeat (first | (with_reducible first | exact HB.out | apply below_alloc | apply pw_below_drewN | apply below_drew1) | exact HB.out))) : w.heap.size ≤ gb228)); have n3_ := Aside0.mk ((by rw [hg]; exact (below_size (by repeat (first | (with_reducible first | exact HB.out | apply below_alloc | apply pw_below_drewN | apply below_drew1) | exact HB.out))) : w.heap.size ≤ gb228)); clear HB; have HB := n0_; have BK228 := n1_; have GW228 := n2_; have GE228 := n3_; clear n0_ n1_ n2_ n3_; clear hb hbox hg) | ((with_reducible refine gate_dst (N := 3) rfl ?_); refine box_event ?hg (N := 3) ?hd (cs := #[.int .i64 a1_0, .int .i64 a1_1, .int .i64 a1_2, .int .i64 a1_3, .int .i64 a1_4, .int .i64 a1_5, .string a1_6, .string a1_7, .slice A1_8 l1_8.length c1_8]) (t := 41) ?hr ?_; (case hd => rfl); (case hg => rfl); (case hr => first | (go_simp; done) | (go_simp; rfl)); intro gb229 hg w7 hbox hb; have n0_ := Aside0.mk (blk_below (g := gb228) (o := .cells #[.int .i64 a0_0, .int .i64 a0_1, .int .i64 a0_2, .int .i64 a0_3, .int .i64 a0_4, .int .i64 a0_5, .string a0_6, .string a0_7, .slice A0_8 l0_8.length c0_8] 41 (0, 0)) (by (with_reducible repeat (first | refine blk_drewN ?_ _ | refine blk_drew ?_ | refine blk_alloc ?_ _)); exact BK228.out) hb); have n1_ := Aside0.mk (below_step (by repeat (first | (with_reducible first | exact HB.out | apply below_alloc | apply pw_below_drewN | apply below_drew1 | refine below_set ?_ GE228.out) | exact HB.out)) hb); have n2_ := Aside0.mk (hbox); have n3_ := Aside0.mk ((by rw [hg]; exact (below_size (by repeat (first | (with_reducible first | exact HB.out | apply below_alloc | apply pw_below_drewN | apply below_drew1 | refine below_set ?_ GE228.out) | exact HB.out))) : w.heap.size ≤ gb229)); have n4_ := Aside0.mk ((by rw [hg]; exact (below_size (by repeat (first | (with_reducible first | exact HB.out | apply below_alloc | apply pw_below_drewN | apply below_drew1 | refine below_set ?_ GE228.out) | exact HB.out))) : w.heap.size ≤ gb229)); have n5_ := Aside0.mk ((by rw [hg]; exact Nat.ne_of_lt (blk_lt (g := gb228) (o := .cells #[.int .i64 a0_0, .int .i64 a0_1, .int .i64 a0_2, .int .i64 a0_3, .int .i64 a0_4, .int .i64 a0_5, .string a0_6, .string a0_7, .slice A0_8 l0_8.length c0_8] 41 (0, 0)) (by (with_reducible repeat (first | refine blk_drewN ?_ _ | refine blk_drew ?_ | refine blk_alloc ?_ _)); exact BK228.out)) : gb228 ≠ gb229)); have n6_ := Aside0.mk ((by rw [hg]; exact Nat.ne_of_gt (blk_lt (g := gb228) (o := .cells #[.int .i64 a0_0, .int .i64 a0_1, .int .i64 a0_2, .int .i64 a0_3, .int .i64 a0_4, .int .i64 a0_5, .string a0_6, .string a0_7, .slice A0_8 l0_8.length c0_8] 41 (0, 0)) (by (with_reducible repeat (first | refine blk_drewN ?_ _ | refine blk_drew ?_ | refine blk_alloc ?_ _)); exact BK228.out)) : gb229 ≠ gb228)); clear BK228; clear HB; have BK228 := n0_; have HB := n1_; have BK229 := n2_; have GW229 := n3_; have GE229 := n4_; have NB228_229 := n5_; have NB229_228 := n6_; clear n0_ n1_ n2_ n3_ n4_ n5_ n6_; clear hb hbox hg; have hnb8 := NB228_229.out; have hnc8 := NB229_228.out; have hcz9_0 : w7.cell? ⟨gb228, 0, none⟩ = some (.int .i64 a0_0) := (blk_cell BK228.out 0).trans rfl; have hcz9_1 : w7.cell? ⟨gb228, 1, none⟩ = some (.int .i64 a0_1) := (blk_cell BK228.out 1).trans rfl; have hcz9_2 : w7.cell? ⟨gb228, 2, none⟩ = some (.int .i64 a0_2) := (blk_cell BK228.out 2).trans rfl; have hcz9_3 : w7.cell? ⟨gb228, 3, none⟩ = some (.int .i64 a0_3) := (blk_cell BK228.out 3).trans rfl; have hcz9_4 : w7.cell? ⟨gb228, 4, none⟩ = some (.int .i64 a0_4) := (blk_cell BK228.out 4).trans rfl; have hcz9_5 : w7.cell? ⟨gb228, 5, none⟩ = some (.int .i64 a0_5) := (blk_cell BK228.out 5).trans rfl; have hcz9_6 : w7.cell? ⟨gb228, 6, none⟩ = some (.string a0_6) := (blk_cell BK228.out 6).trans rfl; have hcz9_7 : w7.cell? ⟨gb228, 7, none⟩ = some (.string a0_7) := (blk_cell BK228.out 7).trans rfl; have hcz9_8 : w7.cell? ⟨gb228, 8, none⟩ = some (.slice A0_8 l0_8.length c0_8) := (blk_cell BK228.out 8).trans rfl; have hfz9_0 := blk_frozen BK228.out 0; have hfz9_1 := blk_frozen BK228.out 1; have hfz9_2 := blk_frozen BK228.out 2; have hfz9_3 := blk_frozen BK228.out 3; have hfz9_4 := blk_frozen BK228.out 4; have hfz9_5 := blk_frozen BK228.out 5; have hfz9_6 := blk_frozen BK228.out 6; have hfz9_7 := blk_frozen BK228.out 7; have hfz9_8 := blk_frozen BK228.out 8; have hcz10_0 : w7.cell? ⟨gb229, 0, none⟩ = some (.int .i64 a1_0) := (blk_cell BK229.out 0).trans rfl; have hcz10_1 : w7.cell? ⟨gb229, 1, none⟩ = some (.int .i64 a1_1) := (blk_cell BK229.out 1).trans rfl; have hcz10_2 : w7.cell? ⟨gb229, 2, none⟩ = some (.int .i64 a1_2) := (blk_cell BK229.out 2).trans rfl; have hcz10_3 : w7.cell? ⟨gb229, 3, none⟩ = some (.int .i64 a1_3) := (blk_cell BK229.out 3).trans rfl; have hcz10_4 : w7.cell? ⟨gb229, 4, none⟩ = some (.int .i64 a1_4) := (blk_cell BK229.out 4).trans rfl; have hcz10_5 : w7.cell? ⟨gb229, 5, none⟩ = some (.int .i64 a1_5) := (blk_cell BK229.out 5).trans rfl; have hcz10_6 : w7.cell? ⟨gb229, 6, none⟩ = some (.string a1_6) := (blk_cell BK229.out 6).trans rfl; have hcz10_7 : w7.cell? ⟨gb229, 7, none⟩ = some (.string a1_7) := (blk_cell BK229.out 7).trans rfl; have hcz10_8 : w7.cell? ⟨gb229, 8, none⟩ = some (.slice A1_8 l1_8.length c1_8) := (blk_cell BK229.out 8).trans rfl; have hfz10_0 := blk_frozen BK229.out 0; have hfz10_1 := blk_frozen BK229.out 1; have hfz10_2 := blk_frozen BK229.out 2; have hfz10_3 := blk_frozen BK229.out 3; have hfz10_4 := blk_frozen BK229.out 4; have hfz10_5 := blk_frozen BK229.out 5; have hfz10_6 := blk_frozen BK229.out 6; have hfz10_7 := blk_frozen BK229.out 7; have hfz10_8 := blk_frozen BK229.out 8) | ((with_reducible refine gate_callee (f := 24) rfl ?_); refine goesL_ (some 10) rfl rfl Try.func24 (by kernel_rfl) rfl #[.agg #[.int .i64 a0_0, .int .i64 a0_1], .agg #[.int .i64 a1_0, .int .i64 a1_1]] rfl (by (try simp only [List.map_toArray, List.map_cons, List.map_nil]); first | done | rfl | (simp only [List.length_drop, List.length_take]; rfl)) ?_; (with_reducible refine (ratio_Cmp.calls a0_0 a0_1 a1_0 a1_1 t230 _ A3.out).mono ?_); rintro e w11 ⟨rfl, hb⟩; refine ⟨_, rfl, ?_⟩; have n0_ := Aside0.mk (blk_below (g := gb228) (o := .cells #[.int .i64 a0_0, .int .i64 a0_1, .int .i64 a0_2, .int .i64 a0_3, .int .i64 a0_4, .int .i64 a0_5, .string a0_6, .string a0_7, .slice A0_8 l0_8.length c0_8] 41 (0, 0)) (by (with_reducible repeat (first | refine blk_drewN ?_ _ | refine blk_drew ?_ | refine blk_alloc ?_ _)); exact BK228.out) hb); have n1_ := Aside0.mk (blk_below (g := gb229) (o := .cells #[.int .i64 a1_0, .int .i64 a1_1, .int .i64 a1_2, .int .i64 a1_3, .int .i64 a1_4, .int .i64 a1_5, .string a1_6, .string a1_7, .slice A1_8 l1_8.length c1_8] 41 (0, 0)) (by (with_reducible repeat (first | refine blk_drewN ?_ _ | refine blk_drew ?_ | refine blk_alloc ?_ _)); exact BK229.out) hb); have n2_ := Aside0.mk (below_step (by repeat (first | (with_reducible first | exact HB.out | apply below_alloc | apply pw_below_drewN | apply below_drew1 | refine below_set ?_ GE228.out | refine below_set ?_ GE229.out) | exact HB.out)) hb); clear BK228; clear BK229; clear HB; have BK228 := n0_; have BK229 := n1_; have HB := n2_; clear n0_ n1_ n2_; (try clear hb); (try clear hb2); (try clear hk); (try clear hi); have hcz12_0 : w11.cell? ⟨gb228, 0, none⟩ = some (.int .i64 a0_0) := (blk_cell BK228.out 0).trans rfl; have hcz12_1 : w11.cell? ⟨gb228, 1, none⟩ = some (.int .i64 a0_1) := (blk_cell BK228.out 1).trans rfl; have hcz12_2 : w11.cell? ⟨gb228, 2, none⟩ = some (.int .i64 a0_2) := (blk_cell BK228.out 2).trans rfl; have hcz12_3 : w11.cell? ⟨gb228, 3, none⟩ = some (.int .i64 a0_3) := (blk_cell BK228.out 3).trans rfl; have hcz12_4 : w11.cell? ⟨gb228, 4, none⟩ = some (.int .i64 a0_4) := (blk_cell BK228.out 4).trans rfl; have hcz12_5 : w11.cell? ⟨gb228, 5, none⟩ = some (.int .i64 a0_5) := (blk_cell BK228.out 5).trans rfl; have hcz12_6 : w11.cell? ⟨gb228, 6, none⟩ = some (.string a0_6) := (blk_cell BK228.out 6).trans rfl; have hcz12_7 : w11.cell? ⟨gb228, 7, none⟩ = some (.string a0_7) := (blk_cell BK228.out 7).trans rfl; have hcz12_8 : w11.cell? ⟨gb228, 8, none⟩ = some (.slice A0_8 l0_8.length c0_8) := (blk_cell BK228.out 8).trans rfl; have hfz12_0 := blk_frozen BK228.out 0; have hfz12_1 := blk_frozen BK228.out 1; have hfz12_2 := blk_frozen BK228.out 2; have hfz12_3 := blk_frozen BK228.out 3; have hfz12_4 := blk_frozen BK228.out 4; have hfz12_5 := blk_frozen BK228.out 5; have hfz12_6 := blk_frozen BK228.out 6; have hfz12_7 := blk_frozen BK228.out 7; have hfz12_8 := blk_frozen BK228.out 8; have hcz13_0 : w11.cell? ⟨gb229, 0, none⟩ = some (.int .i64 a1_0) := (blk_cell BK229.out 0).trans rfl; have hcz13_1 : w11.cell? ⟨gb229, 1, none⟩ = some (.int .i64 a1_1) := (blk_cell BK229.out 1).trans rfl; have hcz13_2 : w11.cell? ⟨gb229, 2, none⟩ = some (.int .i64 a1_2) := (blk_cell BK229.out 2).trans rfl; have hcz13_3 : w11.cell? ⟨gb229, 3, none⟩ = some (.int .i64 a1_3) := (blk_cell BK229.out 3).trans rfl; have hcz13_4 : w11.cell? ⟨gb229, 4, none⟩ = some (.int .i64 a1_4) := (blk_cell BK229.out 4).trans rfl; have hcz13_5 : w11.cell? ⟨gb229, 5, none⟩ = some (.int .i64 a1_5) := (blk_cell BK229.out 5).trans rfl; have hcz13_6 : w11.cell? ⟨gb229, 6, none⟩ = some (.string a1_6) := (blk_cell BK229.out 6).trans rfl; have hcz13_7 : w11.cell? ⟨gb229, 7, none⟩ = some (.string a1_7) := (blk_cell BK229.out 7).trans rfl; have hcz13_8 : w11.cell? ⟨gb229, 8, none⟩ = some (.slice A1_8 l1_8.length c1_8) := (blk_cell BK229.out 8).trans rfl; have hfz13_0 := blk_frozen BK229.out 0; have hfz13_1 := blk_frozen BK229.out 1; have hfz13_2 := blk_frozen BK229.out 2; have hfz13_3 := blk_frozen BK229.out 3; have hfz13_4 := blk_frozen BK229.out 4; have hfz13_5 := blk_frozen BK229.out 5; have hfz13_6 := blk_frozen BK229.out 6; have hfz13_7 := blk_frozen BK229.out 7; have hfz13_8 := blk_frozen BK229.out 8) | ((with_reducible refine gate_callee (f := 24) rfl ?_); refine goesL_ (some 18) rfl rfl Try.func24 (by kernel_rfl) rfl #[.agg #[.int .i64 a0_2, .int .i64 a0_3], .agg #[.int .i64 a1_2, .int .i64 a1_3]] rfl (by (try simp only [List.map_toArray, List.map_cons, List.map_nil]); first | done | rfl | (simp only [List.length_drop, List.length_take]; rfl)) ?_; (with_reducible refine (ratio_Cmp.calls a0_2 a0_3 a1_2 a1_3 t231 _ A5.out).mono ?_); rintro e w14 ⟨rfl, hb⟩; refine ⟨_, rfl, ?_⟩; have n0_ := Aside0.mk (blk_below (g := gb228) (o := .cells #[.int .i64 a0_0, .int .i64 a0_1, .int .i64 a0_2, .int .i64 a0_3, .int .i64 a0_4, .int .i64 a0_5, .string a0_6, .string a0_7, .slice A0_8 l0_8.length c0_8] 41 (0, 0)) (by (with_reducible repeat (first | refine blk_drewN ?_ _ | refine blk_drew ?_ | refine blk_alloc ?_ _)); exact BK228.out) hb); have n1_ := Aside0.mk (blk_below (g := gb229) (o := .cells #[.int .i64 a1_0, .int .i64 a1_1, .int .i64 a1_2, .int .i64 a1_3, .int .i64 a1_4, .int .i64 a1_5, .string a1_6, .string a1_7, .slice A1_8 l1_8.length c1_8] 41 (0, 0)) (by (with_reducible repeat (first | refine blk_drewN ?_ _ | refine blk_drew ?_ | refine blk_alloc ?_ _)); exact BK229.out) hb); have n2_ := Aside0.mk (below_step (by repeat (first | (with_reducible first | exact HB.out | apply below_alloc | apply pw_below_drewN | apply below_drew1 | refine below_set ?_ GE228.out | refine below_set ?_ GE229.out) | exact HB.out)) hb); clear BK228; clear BK229; clear HB; have BK228 := n0_; have BK229 := n1_; have HB := n2_; clear n0_ n1_ n2_; (try clear hb); (try clear hb2); (try clear hk); (try clear hi)))
    go_ret
    exact ⟨by first | rfl | (simp [errW_none, errW_some] <;> rfl) | (simp [*, errW_none, errW_some] <;> rfl), by repeat (first | (with_reducible first | exact HB.out | apply below_alloc | apply pw_below_drewN | apply below_drew1 | refine below_set ?_ GE228.out | refine below_set ?_ GE229.out) | exact HB.out)⟩
  · rw [if_neg c4] at H
    have c4b0 : (t230 == 0) = false := beq_eq_false_iff_ne.mpr c4
    have c4b1 : (t230 != 0) = true := bne_iff_ne.mpr c4
    obtain rfl := Option.some.inj H
    go_enter Try.func31, Try.ntmps31
    go_wp2_with (first | ((with_reducible refine gate_dst (N := 2) rfl ?_); refine box_event ?hg (N := 2) ?hd (cs := #[.int .i64 a0_0, .int .i64 a0_1, .int .i64 a0_2, .int .i64 a0_3, .int .i64 a0_4, .int .i64 a0_5, .string a0_6, .string a0_7, .slice A0_8 l0_8.length c0_8]) (t := 41) ?hr ?_; (case hd => rfl); (case hg => rfl); (case hr => first | (go_simp; done) | (go_simp; rfl)); intro gb228 hg w15 hbox hb; have n0_ := Aside0.mk (below_step (by repeat (first | (with_reducible first | exact HB.out | apply below_alloc | apply pw_below_drewN | apply below_drew1) | exact HB.out)) hb); have n1_ := Aside0.mk (hbox); have n2_ := Aside0.mk ((by rw [hg]; exact (below_size (by repeat (first | (with_reducible first | exact HB.out | apply below_alloc | apply pw_below_drewN | apply below_drew1) | exact HB.out))) : w.heap.size ≤ gb228)); have n3_ := Aside0.mk ((by rw [hg]; exact (below_size (by repeat (first | (with_reducible first | exact HB.out | apply below_alloc | apply pw_below_drewN | apply below_drew1) | exact HB.out))) : w.heap.size ≤ gb228)); clear HB; have HB := n0_; have BK228 := n1_; have GW228 := n2_; have GE228 := n3_; clear n0_ n1_ n2_ n3_; clear hb hbox hg) | ((with_reducible refine gate_dst (N := 3) rfl ?_); refine box_event ?hg (N := 3) ?hd (cs := #[.int .i64 a1_0, .int .i64 a1_1, .int .i64 a1_2, .int .i64 a1_3, .int .i64 a1_4, .int .i64 a1_5, .string a1_6, .string a1_7, .slice A1_8 l1_8.length c1_8]) (t := 41) ?hr ?_; (case hd => rfl); (case hg => rfl); (case hr => first | (go_simp; done) | (go_simp; rfl)); intro gb229 hg w16 hbox hb; have n0_ := Aside0.mk (blk_below (g := gb228) (o := .cells #[.int .i64 a0_0, .int .i64 a0_1, .int .i64 a0_2, .int .i64 a0_3, .int .i64 a0_4, .int .i64 a0_5, .string a0_6, .string a0_7, .slice A0_8 l0_8.length c0_8] 41 (0, 0)) (by (with_reducible repeat (first | refine blk_drewN ?_ _ | refine blk_drew ?_ | refine blk_alloc ?_ _)); exact BK228.out) hb); have n1_ := Aside0.mk (below_step (by repeat (first | (with_reducible first | exact HB.out | apply below_alloc | apply pw_below_drewN | apply below_drew1 | refine below_set ?_ GE228.out) | exact HB.out)) hb); have n2_ := Aside0.mk (hbox); have n3_ := Aside0.mk ((by rw [hg]; exact (below_size (by repeat (first | (with_reducible first | exact HB.out | apply below_alloc | apply pw_below_drewN | apply below_drew1 | refine below_set ?_ GE228.out) | exact HB.out))) : w.heap.size ≤ gb229)); have n4_ := Aside0.mk ((by rw [hg]; exact (below_size (by repeat (first | (with_reducible first | exact HB.out | apply below_alloc | apply pw_below_drewN | apply below_drew1 | refine below_set ?_ GE228.out) | exact HB.out))) : w.heap.size ≤ gb229)); have n5_ := Aside0.mk ((by rw [hg]; exact Nat.ne_of_lt (blk_lt (g := gb228) (o := .cells #[.int .i64 a0_0, .int .i64 a0_1, .int .i64 a0_2, .int .i64 a0_3, .int .i64 a0_4, .int .i64 a0_5, .string a0_6, .string a0_7, .slice A0_8 l0_8.length c0_8] 41 (0, 0)) (by (with_reducible repeat (first | refine blk_drewN ?_ _ | refine blk_drew ?_ | refine blk_alloc ?_ _)); exact BK228.out)) : gb228 ≠ gb229)); have n6_ := Aside0.mk ((by rw [hg]; exact Nat.ne_of_gt (blk_lt (g := gb228) (o := .cells #[.int .i64 a0_0, .int .i64 a0_1, .int .i64 a0_2, .int .i64 a0_3, .int .i64 a0_4, .int .i64 a0_5, .string a0_6, .string a0_7, .slice A0_8 l0_8.length c0_8] 41 (0, 0)) (by (with_reducible repeat (first | refine blk_drewN ?_ _ | refine blk_drew ?_ | refine blk_alloc ?_ _)); exact BK228.out)) : gb229 ≠ gb228)); clear BK228; clear HB; have BK228 := n0_; have HB := n1_; have BK229 := n2_; have GW229 := n3_; have GE229 := n4_; have NB228_229 := n5_; have NB229_228 := n6_; clear n0_ n1_ n2_ n3_ n4_ n5_ n6_; clear hb hbox hg; have hnb17 := NB228_229.out; have hnc17 := NB229_228.out; have hcz18_0 : w16.cell? ⟨gb228, 0, none⟩ = some (.int .i64 a0_0) := (blk_cell BK228.out 0).trans rfl; have hcz18_1 : w16.cell? ⟨gb228, 1, none⟩ = some (.int .i64 a0_1) := (blk_cell BK228.out 1).trans rfl; have hcz18_2 : w16.cell? ⟨gb228, 2, none⟩ = some (.int .i64 a0_2) := (blk_cell BK228.out 2).trans rfl; have hcz18_3 : w16.cell? ⟨gb228, 3, none⟩ = some (.int .i64 a0_3) := (blk_cell BK228.out 3).trans rfl; have hcz18_4 : w16.cell? ⟨gb228, 4, none⟩ = some (.int .i64 a0_4) := (blk_cell BK228.out 4).trans rfl; have hcz18_5 : w16.cell? ⟨gb228, 5, none⟩ = some (.int .i64 a0_5) := (blk_cell BK228.out 5).trans rfl; have hcz18_6 : w16.cell? ⟨gb228, 6, none⟩ = some (.string a0_6) := (blk_cell BK228.out 6).trans rfl; have hcz18_7 : w16.cell? ⟨gb228, 7, none⟩ = some (.string a0_7) := (blk_cell BK228.out 7).trans rfl; have hcz18_8 : w16.cell? ⟨gb228, 8, none⟩ = some (.slice A0_8 l0_8.length c0_8) := (blk_cell BK228.out 8).trans rfl; have hfz18_0 := blk_frozen BK228.out 0; have hfz18_1 := blk_frozen BK228.out 1; have hfz18_2 := blk_frozen BK228.out 2; have hfz18_3 := blk_frozen BK228.out 3; have hfz18_4 := blk_frozen BK228.out 4; have hfz18_5 := blk_frozen BK228.out 5; have hfz18_6 := blk_frozen BK228.out 6; have hfz18_7 := blk_frozen BK228.out 7; have hfz18_8 := blk_frozen BK228.out 8; have hcz19_0 : w16.cell? ⟨gb229, 0, none⟩ = some (.int .i64 a1_0) := (blk_cell BK229.out 0).trans rfl; have hcz19_1 : w16.cell? ⟨gb229, 1, none⟩ = some (.int .i64 a1_1) := (blk_cell BK229.out 1).trans rfl; have hcz19_2 : w16.cell? ⟨gb229, 2, none⟩ = some (.int .i64 a1_2) := (blk_cell BK229.out 2).trans rfl; have hcz19_3 : w16.cell? ⟨gb229, 3, none⟩ = some (.int .i64 a1_3) := (blk_cell BK229.out 3).trans rfl; have hcz19_4 : w16.cell? ⟨gb229, 4, none⟩ = some (.int .i64 a1_4) := (blk_cell BK229.out 4).trans rfl; have hcz19_5 : w16.cell? ⟨gb229, 5, none⟩ = some (.int .i64 a1_5) := (blk_cell BK229.out 5).trans rfl; have hcz19_6 : w16.cell? ⟨gb229, 6, none⟩ = some (.string a1_6) := (blk_cell BK229.out 6).trans rfl; have hcz19_7 : w16.cell? ⟨gb229, 7, none⟩ = some (.string a1_7) := (blk_cell BK229.out 7).trans rfl; have hcz19_8 : w16.cell? ⟨gb229, 8, none⟩ = some (.slice A1_8 l1_8.length c1_8) := (blk_cell BK229.out 8).trans rfl; have hfz19_0 := blk_frozen BK229.out 0; have hfz19_1 := blk_frozen BK229.out 1; have hfz19_2 := blk_frozen BK229.out 2; have hfz19_3 := blk_frozen BK229.out 3; have hfz19_4 := blk_frozen BK229.out 4; have hfz19_5 := blk_frozen BK229.out 5; have hfz19_6 := blk_frozen BK229.out 6; have hfz19_7 := blk_frozen BK229.out 7; have hfz19_8 := blk_frozen BK229.out 8) | ((with_reducible refine gate_callee (f := 24) rfl ?_); refine goesL_ (some 10) rfl rfl Try.func24 (by kernel_rfl) rfl #[.agg #[.int .i64 a0_0, .int .i64 a0_1], .agg #[.int .i64 a1_0, .int .i64 a1_1]] rfl (by (try simp only [List.map_toArray, List.map_cons, List.map_nil]); first | done | rfl | (simp only [List.length_drop, List.length_take]; rfl)) ?_; (with_reducible refine (ratio_Cmp.calls a0_0 a0_1 a1_0 a1_1 t230 _ A3.out).mono ?_); rintro e w20 ⟨rfl, hb⟩; refine ⟨_, rfl, ?_⟩; have n0_ := Aside0.mk (blk_below (g := gb228) (o := .cells #[.int .i64 a0_0, .int .i64 a0_1, .int .i64 a0_2, .int .i64 a0_3, .int .i64 a0_4, .int .i64 a0_5, .string a0_6, .string a0_7, .slice A0_8 l0_8.length c0_8] 41 (0, 0)) (by (with_reducible repeat (first | refine blk_drewN ?_ _ | refine blk_drew ?_ | refine blk_alloc ?_ _)); exact BK228.out) hb); have n1_ := Aside0.mk (blk_below (g := gb229) (o := .cells #[.int .i64 a1_0, .int .i64 a1_1, .int .i64 a1_2, .int .i64 a1_3, .int .i64 a1_4, .int .i64 a1_5, .string a1_6, .string a1_7, .slice A1_8 l1_8.length c1_8] 41 (0, 0)) (by (with_reducible repeat (first | refine blk_drewN ?_ _ | refine blk_drew ?_ | refine blk_alloc ?_ _)); exact BK229.out) hb); have n2_ := Aside0.mk (below_step (by repeat (first | (with_reducible first | exact HB.out | apply below_alloc | apply pw_below_drewN | apply below_drew1 | refine below_set ?_ GE228.out | refine below_set ?_ GE229.out) | exact HB.out)) hb); clear BK228; clear BK229; clear HB; have BK228 := n0_; have BK229 := n1_; have HB := n2_; clear n0_ n1_ n2_; (try clear hb); (try clear hb2); (try clear hk); (try clear hi)))
    go_ret
    exact ⟨by first | rfl | (simp [errW_none, errW_some] <;> rfl) | (simp [*, errW_none, errW_some] <;> rfl), by repeat (first | (with_reducible first | exact HB.out | apply below_alloc | apply pw_below_drewN | apply below_drew1 | refine below_set ?_ GE228.out | refine below_set ?_ GE229.out) | exact HB.out)⟩
end Go.Proofs.Ytbpifnpljcgjlaa.PNa
