-- printed
import Derived.Test.YtlbicmdfdpcdiaaDnPDax0
import Derived.Test.YtlbicmdfdpcdiaaDnPDax16
namespace Go.Proofs.Ytlbicmdfdpcdiaa.PDa
open Go.RowKit Go.Proofs.YtlbicmdfdpcdiaaW.PrintWords Go.Proofs.YtlbicmdfdpcdiaaW.PrintLast Go.Proofs.YtlbicmdfdpcdiaaW.PrintMore
attribute [local go_sem] max2_int min2_int max_two min_two max_three min_three max_four min_four
set_option linter.unusedVariables false
set_option linter.unusedSimpArgs false
def dual_Pairs_1.l0 : Nat → List (S66) → List (S38) → Int → Int → Option ((List (S66)))
 | 0, _, _, _, _ => none
 | k + 1, x2, x6, x7, x8 => if x8 < x7 then (if 0 ≤ x8 then (if x8 < (x6.length : Int) then ((dual_thousandths.f k ((rd_T38 x6 x8).f0.f0) ((rd_T38 x6 x8).f0.f1)).bind fun t318 => ((dual_thousandths.f k ((rd_T38 x6 x8).f1.f0) ((rd_T38 x6 x8).f1.f1)).bind fun t319 => (if x2.length < 8796093022208 then (dual_Pairs_1.l0 k (x2 ++ [(⟨t318, t319⟩ : S66)]) x6 x7 (wrap64 (x8 + 1))) else (none)))) else (none)) else (none)) else (some x2)
def dual_Pairs_1.f (k : Nat) (l0_0 : List (S38)) : Option ((List (S66))) := dual_Pairs_1.l0 k ([] : List (S66)) l0_0 (l0_0.length : Int) 0
def dual_Pairs_1.T4 : Bool × List (List Nat × List Nat) := (true, [([], []), ([], []), ([1], [1]), ([2], [2]), ([], []), ([4], [4]), ([5, 3], [5]), ([3, 6], [3, 6]), ([7], [7]), ([0, 8, 6], [0, 8]), ([9, 9, 0, 1, 2, 3, 4, 5, 6, 7, 8, 9], [0, 9])])
def dual_Pairs_1.B4 : List Nat := [0, 0, 2, 6, 0, 16, 62, 126, 254, 511, 1023]
theorem dual_Pairs_1.tab4 : rtab .any (opsOf Try.f30 4) = dual_Pairs_1.T4 := by kernel_rfl
theorem dual_Pairs_1.bits4 : waitsOk dual_Pairs_1.T4.2 dual_Pairs_1.B4 = true := by kernel_rfl
set_option maxHeartbeats 8000000 in
set_option maxRecDepth 100000 in
theorem dual_Pairs_1.calls (k : Nat) (A0_0 : Option Addr) (c0_0 : Nat) (l0_0 : List (S38)) (r : List (S66)) (w : World) (hr0_0 : Kd.C k38 w A0_0 l0_0.length l0_0) (hc0_0 : l0_0.length ≤ c0_0) (h : dual_Pairs_1.f k l0_0 = some r) :
  Calls Try.prog 30 #[.agg #[.slice A0_0 l0_0.length c0_0]] w fun e w' => ∃ v0_ : Value, e = .returned (v0_) ∧ Kd.R k66 66 w' w.heap.size (fun _ => True) v0_ r ∧ Below w.heap.size w w' := by
 have hu25 := Try.underlying25
 have hu38 := Try.underlying38
 have hu33 := Try.underlying33
 have hu66 := Try.underlying66
 have HR0_0 := Aside0.mk hr0_0
 have HC0_0 := Aside0.mk hc0_0
 clear hr0_0 hc0_0
 have HB := Aside0.mk (Below.refl w.heap.size w)
 have H : (dual_Pairs_1.l0 k ([] : List (S66)) l0_0 (l0_0.length : Int) 0) = some r := h
 clear h
 have H' := Aside0.mk H
 clear H
 go_enter Try.func30, Try.ntmps30
 go_wp2_with (first | ((with_reducible refine gate_dst (N := 1) rfl ?_); refine box_event (by rfl) (N := 1) (by rfl) (cs := #[.slice A0_0 l0_0.length c0_0]) (t := 25) (by first | (go_simp; done) | (go_simp; rfl)) ?_; intro gb315 hg w2 hbox hb; obtain ⟨hb_, hw_⟩ := box_facts (lA HB.out) hg hb; replace HB := Aside0.mk (hb_); have BK315 := Aside0.mk (hbox); have GW315 := Aside0.mk (hw_); have GE315 := Aside0.mk (hw_); clear hb hbox hg hb_ hw_; obtain ⟨hcz3_0, hfz3_0⟩ := blk_cells1 BK315.out))
 (try simp only [Act.put, List.setIfInBounds_toArray, List.set_cons_zero, List.set_cons_succ])
 go_loopg [2, 8] k (fun kq v2 v8 w' => ∃ (x2_1 : List (S66)) (x8_1 : Int), v8 = .int .i64 x8_1 ∧ Aside0 (dual_Pairs_1.l0 kq x2_1 l0_0 (l0_0.length : Int) x8_1 = some r) ∧ Aside0 (kq ≤ k) ∧ Aside0 (Kd.R k66 66 w' w.heap.size (fun _ => True) v2 x2_1) ∧ Aside0 (w'.heap[gb315]? = some (.cells #[(.slice A0_0 l0_0.length c0_0)] 25 (0, 0))) ∧ Aside0 (Below w.heap.size w w'))
 case atStart => exact ⟨(([] : List (S66))), (0), (by first | rfl | (simp; done) | (simp [*]; done)), H', ⟨Nat.le_refl _⟩, ⟨by first | exact Kd.R_nil _ _ _ _ _ | exact Kd.N_nil _ _ _ _ _ | exact Kd.V_nil _ _ _ _ _ | exact Kd.Q_nil _ _ _ _ _ | exact Kd.S_nil _ _ _ _ _⟩, ⟨by (with_reducible repeat (first | apply b1 | apply b2 | apply b3)); exact BK315.out⟩, ⟨by repeat (first | (with_reducible first | exact HB.out | apply l1 | apply l2 | apply l3 | refine below_set ?_ GE315.out) | exact HB.out)⟩⟩
 case round =>
  clear H'
  try clear p2
  try clear c3
  try clear hcz3_0
  try clear hfz3_0
  obtain ⟨x2_1, x8_1, rfl, HA, HK1, HO_2, BK315, HB⟩ := hrel
  cases gk with
  | zero => exact absurd HA.out (by simp [dual_Pairs_1.l0])
  | succ k1 =>
   have H := HA.out
   clear HA
   simp only [dual_Pairs_1.l0] at H
   by_cases c4 : x8_1 < (l0_0.length : Int)
   ·rw [if_pos c4] at H
    have c4b0 : decide (x8_1 < (l0_0.length : Int)) = true := decide_eq_true c4
    clear c4
    by_cases c5 : 0 ≤ x8_1
    ·rw [if_pos c5] at H
     have c5b0 : decide (0 ≤ x8_1) = true := decide_eq_true c5
     clear c5
     by_cases c6 : x8_1 < (l0_0.length : Int)
     ·rw [if_pos c6] at H
      have c6b0 : decide (x8_1 < (l0_0.length : Int)) = true := decide_eq_true c6
      clear c6
      replace H := Option.bind_eq_some_iff.mp H
      obtain ⟨t318, A70, H⟩ := H
      (try dsimp only at H)
      have A7 := Aside0.mk A70
      clear A70
      replace H := Option.bind_eq_some_iff.mp H
      obtain ⟨t319, A80, H⟩ := H
      (try dsimp only at H)
      have A8 := Aside0.mk A80
      clear A80
      by_cases c9 : x2_1.length < 8796093022208
      ·rw [if_pos c9] at H
       have LMc9 := Aside0.mk c9
       clear c9
       obtain ⟨y320, hy320⟩ : ∃ y_ : List (S66), y_ = (x2_1 ++ [(⟨t318, t319⟩ : S66)]) := ⟨_, rfl⟩
       replace H : (dual_Pairs_1.l0 k1 y320 l0_0 (l0_0.length : Int) (wrap64 (x8_1 + 1))) = some r := by first | (rw [hy320]; with_reducible exact H) | (have H2_ := (Option.bind_some _ _).symm.trans H; rw [hy320]; with_reducible exact H2_) | (have H2_ := (Option.bind_some _ _).symm.trans H; with_reducible exact H2_) | with_reducible exact H | (rw [hy320]; exact H) | exact H
       have Ny320 := Aside0.mk hy320
       clear hy320
       have H' := Aside0.mk H
       clear H
       have p316 : 0 ≤ (x8_1 : Int) := of_decide_eq_true (by first | (with_reducible assumption) | assumption)
       have q316 : x8_1 < (l0_0.length : Int) := of_decide_eq_true (by first | (with_reducible assumption) | assumption)
       obtain ⟨ad316, A316_8, c316_8, e316, hx316_0, hx316_1, hx316_2, hx316_3, hx316_4, hx316_5, hx316_6, hx316_7, hx316_8, hl316_8, hi316_8⟩ := at_T38 HR0_0.out x8_1 p316 q316
       cases e316
       replace hx316_0 := (HB.out.cell (World.block_lt_of_cell? w _ hx316_0)).trans hx316_0
       replace hx316_1 := (HB.out.cell (World.block_lt_of_cell? w _ hx316_1)).trans hx316_1
       replace hx316_2 := (HB.out.cell (World.block_lt_of_cell? w _ hx316_2)).trans hx316_2
       replace hx316_3 := (HB.out.cell (World.block_lt_of_cell? w _ hx316_3)).trans hx316_3
       replace hx316_4 := (HB.out.cell (World.block_lt_of_cell? w _ hx316_4)).trans hx316_4
       replace hx316_5 := (HB.out.cell (World.block_lt_of_cell? w _ hx316_5)).trans hx316_5
       replace hx316_6 := (HB.out.cell (World.block_lt_of_cell? w _ hx316_6)).trans hx316_6
       replace hx316_7 := (HB.out.cell (World.block_lt_of_cell? w _ hx316_7)).trans hx316_7
       replace hx316_8 := (HB.out.cell (World.block_lt_of_cell? w _ hx316_8)).trans hx316_8
       have HR316_8 := Aside0.mk hi316_8
       have HC316_8 := Aside0.mk hl316_8
       clear hi316_8 hl316_8
       replace p316 := eq_true p316
       replace q316 := eq_true q316
       try go_wp2_with (first | ((with_reducible refine gate_dst (N := 4) rfl ?_); refine box_event (by rfl) (N := 4) (by rfl) (cs := #[.int .i64 0, .int .i64 0, .int .i64 0, .int .i64 0, .int .i64 0, .int .i64 0, .string (⟨#[]⟩ : ByteArray), .string (⟨#[]⟩ : ByteArray), .slice none 0 0]) (t := 38) (by first | (go_simp; done) | (go_simp; rfl)) ?_; intro gb317 hg w10 hbox hb; obtain ⟨hb_, hw_⟩ := box_facts (by repeat (first | (with_reducible first | exact HB.out | apply l1 | apply l2 | apply l3 | refine below_set ?_ GE315.out) | exact HB.out)) hg hb; replace HO_2 := Aside0.mk (Kd.R_below (rA HO_2.out) hb); replace HB := Aside0.mk (hb_); have BK317 := Aside0.mk (hbox); have GW317 := Aside0.mk (hw_); have GE317 := Aside0.mk (hw_); have NB315_317 := Aside0.mk ((nL hg BK315.out)); have NB317_315 := Aside0.mk ((nG hg BK315.out)); replace BK315 := Aside0.mk (bB BK315.out hb); clear hb hbox hg hb_ hw_; have hnb11 := NB317_315.out; have hnc11 := NB315_317.out; obtain ⟨hcz12_0, hcz12_1, hcz12_2, hcz12_3, hcz12_4, hcz12_5, hcz12_6, hcz12_7, hcz12_8, hfz12_0, hfz12_1, hfz12_2, hfz12_3, hfz12_4, hfz12_5, hfz12_6, hfz12_7, hfz12_8⟩ := blk_cells9 BK317.out))
       have n0_ : Aside0 (Kd.R k66 66 (((((((((w10.setCell ⟨gb317, 0, none⟩ (.int .i64 ((rd_T38 l0_0 x8_1).f0.f0))).setCell ⟨gb317, 1, none⟩ (.int .i64 ((rd_T38 l0_0 x8_1).f0.f1))).setCell ⟨gb317, 2, none⟩ (.int .i64 ((rd_T38 l0_0 x8_1).f1.f0))).setCell ⟨gb317, 3, none⟩ (.int .i64 ((rd_T38 l0_0 x8_1).f1.f1))).setCell ⟨gb317, 4, none⟩ (.int .i64 ((rd_T38 l0_0 x8_1).f2))).setCell ⟨gb317, 5, none⟩ (.int .i64 ((rd_T38 l0_0 x8_1).f3))).setCell ⟨gb317, 6, none⟩ (.string ((rd_T38 l0_0 x8_1).f4))).setCell ⟨gb317, 7, none⟩ (.string ((rd_T38 l0_0 x8_1).f5.f0))).setCell ⟨gb317, 8, none⟩ (.slice A316_8 ((rd_T38 l0_0 x8_1).f5.f1).length c316_8)) w.heap.size (fun _ => True) u2 x2_1) := ⟨by (with_reducible repeat (first | apply Kd.R_alloc | apply Kd.R_drewN | apply Kd.R_drew)); exact Kd.R_mono (Kd.R_far (p := ⟨gb317, 8, none⟩) (Kd.R_far (p := ⟨gb317, 7, none⟩) (Kd.R_far (p := ⟨gb317, 6, none⟩) (Kd.R_far (p := ⟨gb317, 5, none⟩) (Kd.R_far (p := ⟨gb317, 4, none⟩) (Kd.R_far (p := ⟨gb317, 3, none⟩) (Kd.R_far (p := ⟨gb317, 2, none⟩) (Kd.R_far (p := ⟨gb317, 1, none⟩) (Kd.R_far (p := ⟨gb317, 0, none⟩) (Kd.R_types HO_2.out BK317.out (by decide)) (fun _ hk => hk.2) (.int .i64 ((rd_T38 l0_0 x8_1).f0.f0))) (fun _ hk => hk.2) (.int .i64 ((rd_T38 l0_0 x8_1).f0.f1))) (fun _ hk => hk.2) (.int .i64 ((rd_T38 l0_0 x8_1).f1.f0))) (fun _ hk => hk.2) (.int .i64 ((rd_T38 l0_0 x8_1).f1.f1))) (fun _ hk => hk.2) (.int .i64 ((rd_T38 l0_0 x8_1).f2))) (fun _ hk => hk.2) (.int .i64 ((rd_T38 l0_0 x8_1).f3))) (fun _ hk => hk.2) (.string ((rd_T38 l0_0 x8_1).f4))) (fun _ hk => hk.2) (.string ((rd_T38 l0_0 x8_1).f5.f0))) (fun _ hk => hk.2) (.slice A316_8 ((rd_T38 l0_0 x8_1).f5.f1).length c316_8)) (fun _ hk => trivial)⟩
       have n1_ : Aside0 ((((((((((w10.setCell ⟨gb317, 0, none⟩ (.int .i64 ((rd_T38 l0_0 x8_1).f0.f0))).setCell ⟨gb317, 1, none⟩ (.int .i64 ((rd_T38 l0_0 x8_1).f0.f1))).setCell ⟨gb317, 2, none⟩ (.int .i64 ((rd_T38 l0_0 x8_1).f1.f0))).setCell ⟨gb317, 3, none⟩ (.int .i64 ((rd_T38 l0_0 x8_1).f1.f1))).setCell ⟨gb317, 4, none⟩ (.int .i64 ((rd_T38 l0_0 x8_1).f2))).setCell ⟨gb317, 5, none⟩ (.int .i64 ((rd_T38 l0_0 x8_1).f3))).setCell ⟨gb317, 6, none⟩ (.string ((rd_T38 l0_0 x8_1).f4))).setCell ⟨gb317, 7, none⟩ (.string ((rd_T38 l0_0 x8_1).f5.f0))).setCell ⟨gb317, 8, none⟩ (.slice A316_8 ((rd_T38 l0_0 x8_1).f5.f1).length c316_8)).heap[gb315]? = some (.cells #[.slice (some ad316) l0_0.length c0_0] 25 (0, 0))) := ⟨by (with_reducible repeat (first | apply b1 | apply b2 | apply b3)); refine blk_far ?_ NB315_317.out _; (with_reducible repeat (first | apply b1 | apply b2 | apply b3)); refine blk_far ?_ NB315_317.out _; (with_reducible repeat (first | apply b1 | apply b2 | apply b3)); refine blk_far ?_ NB315_317.out _; (with_reducible repeat (first | apply b1 | apply b2 | apply b3)); refine blk_far ?_ NB315_317.out _; (with_reducible repeat (first | apply b1 | apply b2 | apply b3)); refine blk_far ?_ NB315_317.out _; (with_reducible repeat (first | apply b1 | apply b2 | apply b3)); refine blk_far ?_ NB315_317.out _; (with_reducible repeat (first | apply b1 | apply b2 | apply b3)); refine blk_far ?_ NB315_317.out _; (with_reducible repeat (first | apply b1 | apply b2 | apply b3)); refine blk_far ?_ NB315_317.out _; (with_reducible repeat (first | apply b1 | apply b2 | apply b3)); refine blk_far ?_ NB315_317.out _; (with_reducible repeat (first | apply b1 | apply b2 | apply b3)); exact BK315.out⟩
       have n2_ : Aside0 ((((((((((w10.setCell ⟨gb317, 0, none⟩ (.int .i64 ((rd_T38 l0_0 x8_1).f0.f0))).setCell ⟨gb317, 1, none⟩ (.int .i64 ((rd_T38 l0_0 x8_1).f0.f1))).setCell ⟨gb317, 2, none⟩ (.int .i64 ((rd_T38 l0_0 x8_1).f1.f0))).setCell ⟨gb317, 3, none⟩ (.int .i64 ((rd_T38 l0_0 x8_1).f1.f1))).setCell ⟨gb317, 4, none⟩ (.int .i64 ((rd_T38 l0_0 x8_1).f2))).setCell ⟨gb317, 5, none⟩ (.int .i64 ((rd_T38 l0_0 x8_1).f3))).setCell ⟨gb317, 6, none⟩ (.string ((rd_T38 l0_0 x8_1).f4))).setCell ⟨gb317, 7, none⟩ (.string ((rd_T38 l0_0 x8_1).f5.f0))).setCell ⟨gb317, 8, none⟩ (.slice A316_8 ((rd_T38 l0_0 x8_1).f5.f1).length c316_8)).heap[gb317]? = some (.cells #[.int .i64 ((rd_T38 l0_0 x8_1).f0.f0), .int .i64 ((rd_T38 l0_0 x8_1).f0.f1), .int .i64 ((rd_T38 l0_0 x8_1).f1.f0), .int .i64 ((rd_T38 l0_0 x8_1).f1.f1), .int .i64 ((rd_T38 l0_0 x8_1).f2), .int .i64 ((rd_T38 l0_0 x8_1).f3), .string ((rd_T38 l0_0 x8_1).f4), .string ((rd_T38 l0_0 x8_1).f5.f0), .slice A316_8 ((rd_T38 l0_0 x8_1).f5.f1).length c316_8] 38 (0, 0))) := ⟨by (with_reducible repeat (first | apply b1 | apply b2 | apply b3)); refine blk_put (cs := #[.int .i64 ((rd_T38 l0_0 x8_1).f0.f0), .int .i64 ((rd_T38 l0_0 x8_1).f0.f1), .int .i64 ((rd_T38 l0_0 x8_1).f1.f0), .int .i64 ((rd_T38 l0_0 x8_1).f1.f1), .int .i64 ((rd_T38 l0_0 x8_1).f2), .int .i64 ((rd_T38 l0_0 x8_1).f3), .string ((rd_T38 l0_0 x8_1).f4), .string ((rd_T38 l0_0 x8_1).f5.f0), .slice none 0 0]) ?_ 8 _ rfl; (with_reducible repeat (first | apply b1 | apply b2 | apply b3)); refine blk_put (cs := #[.int .i64 ((rd_T38 l0_0 x8_1).f0.f0), .int .i64 ((rd_T38 l0_0 x8_1).f0.f1), .int .i64 ((rd_T38 l0_0 x8_1).f1.f0), .int .i64 ((rd_T38 l0_0 x8_1).f1.f1), .int .i64 ((rd_T38 l0_0 x8_1).f2), .int .i64 ((rd_T38 l0_0 x8_1).f3), .string ((rd_T38 l0_0 x8_1).f4), .string (⟨#[]⟩ : ByteArray), .slice none 0 0]) ?_ 7 _ rfl; (with_reducible repeat (first | apply b1 | apply b2 | apply b3)); refine blk_put (cs := #[.int .i64 ((rd_T38 l0_0 x8_1).f0.f0), .int .i64 ((rd_T38 l0_0 x8_1).f0.f1), .int .i64 ((rd_T38 l0_0 x8_1).f1.f0), .int .i64 ((rd_T38 l0_0 x8_1).f1.f1), .int .i64 ((rd_T38 l0_0 x8_1).f2), .int .i64 ((rd_T38 l0_0 x8_1).f3), .string (⟨#[]⟩ : ByteArray), .string (⟨#[]⟩ : ByteArray), .slice none 0 0]) ?_ 6 _ rfl; (with_reducible repeat (first | apply b1 | apply b2 | apply b3)); refine blk_put (cs := #[.int .i64 ((rd_T38 l0_0 x8_1).f0.f0), .int .i64 ((rd_T38 l0_0 x8_1).f0.f1), .int .i64 ((rd_T38 l0_0 x8_1).f1.f0), .int .i64 ((rd_T38 l0_0 x8_1).f1.f1), .int .i64 ((rd_T38 l0_0 x8_1).f2), .int .i64 0, .string (⟨#[]⟩ : ByteArray), .string (⟨#[]⟩ : ByteArray), .slice none 0 0]) ?_ 5 _ rfl; (with_reducible repeat (first | apply b1 | apply b2 | apply b3)); refine blk_put (cs := #[.int .i64 ((rd_T38 l0_0 x8_1).f0.f0), .int .i64 ((rd_T38 l0_0 x8_1).f0.f1), .int .i64 ((rd_T38 l0_0 x8_1).f1.f0), .int .i64 ((rd_T38 l0_0 x8_1).f1.f1), .int .i64 0, .int .i64 0, .string (⟨#[]⟩ : ByteArray), .string (⟨#[]⟩ : ByteArray), .slice none 0 0]) ?_ 4 _ rfl; (with_reducible repeat (first | apply b1 | apply b2 | apply b3)); refine blk_put (cs := #[.int .i64 ((rd_T38 l0_0 x8_1).f0.f0), .int .i64 ((rd_T38 l0_0 x8_1).f0.f1), .int .i64 ((rd_T38 l0_0 x8_1).f1.f0), .int .i64 0, .int .i64 0, .int .i64 0, .string (⟨#[]⟩ : ByteArray), .string (⟨#[]⟩ : ByteArray), .slice none 0 0]) ?_ 3 _ rfl; (with_reducible repeat (first | apply b1 | apply b2 | apply b3)); refine blk_put (cs := #[.int .i64 ((rd_T38 l0_0 x8_1).f0.f0), .int .i64 ((rd_T38 l0_0 x8_1).f0.f1), .int .i64 0, .int .i64 0, .int .i64 0, .int .i64 0, .string (⟨#[]⟩ : ByteArray), .string (⟨#[]⟩ : ByteArray), .slice none 0 0]) ?_ 2 _ rfl; (with_reducible repeat (first | apply b1 | apply b2 | apply b3)); refine blk_put (cs := #[.int .i64 ((rd_T38 l0_0 x8_1).f0.f0), .int .i64 0, .int .i64 0, .int .i64 0, .int .i64 0, .int .i64 0, .string (⟨#[]⟩ : ByteArray), .string (⟨#[]⟩ : ByteArray), .slice none 0 0]) ?_ 1 _ rfl; (with_reducible repeat (first | apply b1 | apply b2 | apply b3)); refine blk_put (cs := #[.int .i64 0, .int .i64 0, .int .i64 0, .int .i64 0, .int .i64 0, .int .i64 0, .string (⟨#[]⟩ : ByteArray), .string (⟨#[]⟩ : ByteArray), .slice none 0 0]) ?_ 0 _ rfl; (with_reducible repeat (first | apply b1 | apply b2 | apply b3)); exact BK317.out⟩
       have n3_ : Aside0 (Below w.heap.size w (((((((((w10.setCell ⟨gb317, 0, none⟩ (.int .i64 ((rd_T38 l0_0 x8_1).f0.f0))).setCell ⟨gb317, 1, none⟩ (.int .i64 ((rd_T38 l0_0 x8_1).f0.f1))).setCell ⟨gb317, 2, none⟩ (.int .i64 ((rd_T38 l0_0 x8_1).f1.f0))).setCell ⟨gb317, 3, none⟩ (.int .i64 ((rd_T38 l0_0 x8_1).f1.f1))).setCell ⟨gb317, 4, none⟩ (.int .i64 ((rd_T38 l0_0 x8_1).f2))).setCell ⟨gb317, 5, none⟩ (.int .i64 ((rd_T38 l0_0 x8_1).f3))).setCell ⟨gb317, 6, none⟩ (.string ((rd_T38 l0_0 x8_1).f4))).setCell ⟨gb317, 7, none⟩ (.string ((rd_T38 l0_0 x8_1).f5.f0))).setCell ⟨gb317, 8, none⟩ (.slice A316_8 ((rd_T38 l0_0 x8_1).f5.f1).length c316_8))) := ⟨by repeat (first | (with_reducible first | exact HB.out | apply l1 | apply l2 | apply l3 | refine below_set ?_ GE315.out | refine below_set ?_ GE317.out) | exact HB.out)⟩
       (try clear HO_2)
       (try clear BK315)
       (try clear BK317)
       (try clear HB)
       generalize (((((((((w10.setCell ⟨gb317, 0, none⟩ (.int .i64 ((rd_T38 l0_0 x8_1).f0.f0))).setCell ⟨gb317, 1, none⟩ (.int .i64 ((rd_T38 l0_0 x8_1).f0.f1))).setCell ⟨gb317, 2, none⟩ (.int .i64 ((rd_T38 l0_0 x8_1).f1.f0))).setCell ⟨gb317, 3, none⟩ (.int .i64 ((rd_T38 l0_0 x8_1).f1.f1))).setCell ⟨gb317, 4, none⟩ (.int .i64 ((rd_T38 l0_0 x8_1).f2))).setCell ⟨gb317, 5, none⟩ (.int .i64 ((rd_T38 l0_0 x8_1).f3))).setCell ⟨gb317, 6, none⟩ (.string ((rd_T38 l0_0 x8_1).f4))).setCell ⟨gb317, 7, none⟩ (.string ((rd_T38 l0_0 x8_1).f5.f0))).setCell ⟨gb317, 8, none⟩ (.slice A316_8 ((rd_T38 l0_0 x8_1).f5.f1).length c316_8)) = w13 at n0_ n1_ n2_ n3_ ⊢
       have HO_2 := n0_
       have BK315 := n1_
       have BK317 := n2_
       have HB := n3_
       clear n0_ n1_ n2_ n3_
       replace HO_2 := Aside0.mk (Kd.R_drew HO_2.out)
       replace BK315 := Aside0.mk (blk_drew BK315.out)
       replace BK317 := Aside0.mk (blk_drew BK317.out)
       replace HB := Aside0.mk (below_drew1 HB.out)
       refine start_ (n := 11) (S := fun w' => w'.cell? ⟨gb317, 0, none⟩ = some (.int .i64 ((rd_T38 l0_0 x8_1).f0.f0)) ∧ w'.cell? ⟨gb317, 1, none⟩ = some (.int .i64 ((rd_T38 l0_0 x8_1).f0.f1)) ∧ w'.cell? ⟨gb317, 2, none⟩ = some (.int .i64 ((rd_T38 l0_0 x8_1).f1.f0)) ∧ w'.cell? ⟨gb317, 3, none⟩ = some (.int .i64 ((rd_T38 l0_0 x8_1).f1.f1)) ∧ w'.cell? ⟨gb317, 4, none⟩ = some (.int .i64 ((rd_T38 l0_0 x8_1).f2)) ∧ w'.cell? ⟨gb317, 5, none⟩ = some (.int .i64 ((rd_T38 l0_0 x8_1).f3)) ∧ w'.cell? ⟨gb317, 6, none⟩ = some (.string ((rd_T38 l0_0 x8_1).f4)) ∧ w'.cell? ⟨gb317, 7, none⟩ = some (.string ((rd_T38 l0_0 x8_1).f5.f0)) ∧ w'.cell? ⟨gb317, 8, none⟩ = some (.slice A316_8 ((rd_T38 l0_0 x8_1).f5.f1).length c316_8)) (ds := []) #[false, false, false, false, false, false, false, false, false, false, false] (by kernel_rfl) rfl rfl ⟨(blk_cell BK317.out 0).trans rfl, (blk_cell BK317.out 1).trans rfl, (blk_cell BK317.out 2).trans rfl, (blk_cell BK317.out 3).trans rfl, (blk_cell BK317.out 4).trans rfl, (blk_cell BK317.out 5).trans rfl, (blk_cell BK317.out 6).trans rfl, (blk_cell BK317.out 7).trans rfl, (blk_cell BK317.out 8).trans rfl⟩ (fun hHeld => ?_); refine with_tabW dual_Pairs_1.tab4 dual_Pairs_1.bits4 (fun HT_ HW_ => ?_)
       generalize w13.drew = w14 at HO_2 BK315 BK317 HB hHeld ⊢
       refine sched [(0, some 12), (1, some 13), (4, some 16), (2, some 14), (5, some 17)] ?_
       iterate 5 first
        |(refine pureS (v := ?_) (a' := ?_) rfl rfl (any_of HT_.out (by kernel_rfl)) (fun _ _ _ h => h) (Or.inl ⟨by rfl, ?_⟩) ?_ ?_
          rotate_left
          ·intro w'
           go_simp
           with_reducible rfl
          rotate_left
          ·simp only [Act.put, List.setIfInBounds_toArray, List.set_cons_zero, List.set_cons_succ, i64_w, i32_w]
           rfl)
        |(refine takeS (v := ?_) (a' := ?_) rfl rfl (take_ofW HT_.out HW_.out (by kernel_rfl)) (fun _ _ _ h => h) (Or.inl ⟨by rfl, ?_⟩) hHeld ?_ ?_
          rotate_left
          ·rintro w' ⟨s0, s1, s2, s3, s4, s5, s6, s7, s8⟩
           go_simp
           with_reducible rfl
          rotate_left
          ·simp only [Act.put, List.setIfInBounds_toArray, List.set_cons_zero, List.set_cons_succ, i64_w, i32_w]
           rfl)
       refine unsched ?_
       refine one_ (i := 3) (N := some 15) #[true, true, true, true, true, true, false, false, false, false, false] rfl rfl (one_of HT_.out (by kernel_rfl)) (by decide) (fun K hK => ?_)
       refine goes_ Try.func31 (by kernel_rfl) rfl #[.agg #[.int .i64 ((rd_T38 l0_0 x8_1).f0.f0), .int .i64 ((rd_T38 l0_0 x8_1).f0.f1)]] (by rfl) rfl rfl (by (try simp only [List.map_toArray, List.map_cons, List.map_nil]); first | done | rfl | (simp only [List.length_drop, List.length_take]; rfl)) ?_
       with_reducible refine (dual_thousandths.calls k1 ((rd_T38 l0_0 x8_1).f0.f0) ((rd_T38 l0_0 x8_1).f0.f1) t318 _ A7.out).mono ?_
       rintro e w15 ⟨rfl, hb⟩
       refine ⟨_, rfl, ?_⟩
       replace HO_2 := Aside0.mk (Kd.R_below (rA HO_2.out) hb)
       replace BK315 := Aside0.mk (bB BK315.out hb)
       replace BK317 := Aside0.mk (bB BK317.out hb)
       replace HB := Aside0.mk (below_step (by repeat (first | (with_reducible first | exact HB.out | apply l1 | apply l2 | apply l3 | refine below_set ?_ GE315.out | refine below_set ?_ GE317.out) | exact HB.out)) hb)
       (try clear hb)
       (try clear hb2)
       (try clear hk)
       (try clear hi)
       refine hK.out _ _ ⟨(blk_cell BK317.out 0).trans rfl, (blk_cell BK317.out 1).trans rfl, (blk_cell BK317.out 2).trans rfl, (blk_cell BK317.out 3).trans rfl, (blk_cell BK317.out 4).trans rfl, (blk_cell BK317.out 5).trans rfl, (blk_cell BK317.out 6).trans rfl, (blk_cell BK317.out 7).trans rfl, (blk_cell BK317.out 8).trans rfl⟩ (fun hHeld => ?_)
       clear hK K
       refine norm_ (a' := ?_) ?_ ?_
       rotate_left
       ·show Act.put _ (some 15) _ = _
        simp only [Act.put, List.setIfInBounds_toArray, List.set_cons_zero, List.set_cons_succ, i64_w, i32_w]
        rfl
       refine one_ (i := 6) (N := some 18) #[true, true, true, true, true, true, true, false, false, false, false] rfl rfl (one_of HT_.out (by kernel_rfl)) (by decide) (fun K hK => ?_)
       refine goes_ Try.func31 (by kernel_rfl) rfl #[.agg #[.int .i64 ((rd_T38 l0_0 x8_1).f1.f0), .int .i64 ((rd_T38 l0_0 x8_1).f1.f1)]] (by rfl) rfl rfl (by (try simp only [List.map_toArray, List.map_cons, List.map_nil]); first | done | rfl | (simp only [List.length_drop, List.length_take]; rfl)) ?_
       with_reducible refine (dual_thousandths.calls k1 ((rd_T38 l0_0 x8_1).f1.f0) ((rd_T38 l0_0 x8_1).f1.f1) t319 _ A8.out).mono ?_
       rintro e w16 ⟨rfl, hb⟩
       refine ⟨_, rfl, ?_⟩
       replace HO_2 := Aside0.mk (Kd.R_below (rA HO_2.out) hb)
       replace BK315 := Aside0.mk (bB BK315.out hb)
       replace BK317 := Aside0.mk (bB BK317.out hb)
       replace HB := Aside0.mk (below_step (by repeat (first | (with_reducible first | exact HB.out | apply l1 | apply l2 | apply l3 | refine below_set ?_ GE315.out | refine below_set ?_ GE317.out) | exact HB.out)) hb)
       (try clear hb)
       (try clear hb2)
       (try clear hk)
       (try clear hi)
       refine hK.out _ _ ⟨(blk_cell BK317.out 0).trans rfl, (blk_cell BK317.out 1).trans rfl, (blk_cell BK317.out 2).trans rfl, (blk_cell BK317.out 3).trans rfl, (blk_cell BK317.out 4).trans rfl, (blk_cell BK317.out 5).trans rfl, (blk_cell BK317.out 6).trans rfl, (blk_cell BK317.out 7).trans rfl, (blk_cell BK317.out 8).trans rfl⟩ (fun hHeld => ?_)
       clear hK K
       refine norm_ (a' := ?_) ?_ ?_
       rotate_left
       ·show Act.put _ (some 18) _ = _
        simp only [Act.put, List.setIfInBounds_toArray, List.set_cons_zero, List.set_cons_succ, i64_w, i32_w]
        rfl
       refine pure_ (i := 7) (N := some 19) (v := ?_) (a' := ?_) #[true, true, true, true, true, true, true, true, false, false, false] rfl rfl (any_of HT_.out (by kernel_rfl)) (fun _ _ _ h => h) (Or.inl ⟨by rfl, ?_⟩) ?_ ?_
       rotate_left
       ·intro w'
        go_simp
        with_reducible rfl
       rotate_left
       ·simp only [Act.put, List.setIfInBounds_toArray, List.set_cons_zero, List.set_cons_succ, i64_w, i32_w]
        rfl
       refine one_ (i := 8) (N := some 20) #[true, true, true, true, true, true, true, true, true, false, false] rfl rfl (one_of HT_.out (by kernel_rfl)) (by decide) (fun K hK => ?_)
       refine value_ (w1 := ?_) (v := ?_) (by rfl) rfl ?_ ?_
       rotate_left 2
       ·go_simp
        constructor
        ·rfl
        ·rfl
       refine hK.out _ _ ⟨(blk_cell (blk_alloc BK317.out _) 0).trans rfl, (blk_cell (blk_alloc BK317.out _) 1).trans rfl, (blk_cell (blk_alloc BK317.out _) 2).trans rfl, (blk_cell (blk_alloc BK317.out _) 3).trans rfl, (blk_cell (blk_alloc BK317.out _) 4).trans rfl, (blk_cell (blk_alloc BK317.out _) 5).trans rfl, (blk_cell (blk_alloc BK317.out _) 6).trans rfl, (blk_cell (blk_alloc BK317.out _) 7).trans rfl, (blk_cell (blk_alloc BK317.out _) 8).trans rfl⟩ (fun hHeld => ?_)
       clear hK K
       refine norm_ (a' := ?_) ?_ ?_
       rotate_left
       ·show Act.put _ (some 20) _ = _
        simp only [Act.put, List.setIfInBounds_toArray, List.set_cons_zero, List.set_cons_succ, i64_w, i32_w]
        rfl
       refine one_ (i := 9) (N := some 21) #[true, true, true, true, true, true, true, true, true, true, false] rfl rfl (one_of HT_.out (by kernel_rfl)) (by decide) (fun K hK => ?_)
       refine Kd.R_append_step k66 (w0 := w) w.heap.size (by rfl) (.tmp 12) (.tmp 20) 64 66 (.agg #[(.int .i64 0), (.int .i64 0)]) 16 rfl Try.underlying64 info66 rfl (by decide) (by omega) u2 x2_1 (⟨t318, t319⟩ : S66) [.int .i64 t318, .int .i64 t319] (fun _ => True) (fun _ => False) rfl rfl ?aP (fun _ hk => hk.elim) ?aF ?aO ?aB ?aS ?aL ?_
       (case aP => exact k66_mkM _ _ _ (⟨t318, t319⟩ : S66))
       (case aB => exact (by repeat (first | (with_reducible first | exact HB.out | apply l1 | apply l2 | apply l3 | refine below_set ?_ GE315.out | refine below_set ?_ GE317.out) | exact HB.out)))
       (case aF => exact (fun _ _ => trivial))
       (case aO => exact (rA HO_2.out))
       (case aS => exact (below_size (by repeat (first | (with_reducible first | exact HB.out | apply l1 | apply l2 | apply l3 | refine below_set ?_ GE315.out | refine below_set ?_ GE317.out) | exact HB.out))))
       (case aL => have := LMc9.out; omega)
       intro v321 w17 ho hb hg hat
       rw [← Ny320.out] at ho
       have n0_ := Aside0.mk (blk_grown (g := gb315) (o := .cells #[.slice (some ad316) l0_0.length c0_0] 25 (0, 0)) (bA BK315.out) hg (Kd.R_ne HO_2.out BK315.out (by decide)))
       have n1_ := Aside0.mk (blk_grown (g := gb317) (o := .cells #[.int .i64 ((rd_T38 l0_0 x8_1).f0.f0), .int .i64 ((rd_T38 l0_0 x8_1).f0.f1), .int .i64 ((rd_T38 l0_0 x8_1).f1.f0), .int .i64 ((rd_T38 l0_0 x8_1).f1.f1), .int .i64 ((rd_T38 l0_0 x8_1).f2), .int .i64 ((rd_T38 l0_0 x8_1).f3), .string ((rd_T38 l0_0 x8_1).f4), .string ((rd_T38 l0_0 x8_1).f5.f0), .slice A316_8 ((rd_T38 l0_0 x8_1).f5.f1).length c316_8] 38 (0, 0)) (bA BK317.out) hg (Kd.R_ne HO_2.out BK317.out (by decide)))
       have n2_ := Aside0.mk (hb)
       have n3_ := Aside0.mk (ho)
       clear BK315
       clear BK317
       clear HB
       clear HO_2
       have BK315 := n0_
       have BK317 := n1_
       have HB := n2_
       have HO322 := n3_
       clear n0_ n1_ n2_ n3_
       clear ho hb hg hat
       refine hK.out _ _ ⟨(blk_cell BK317.out 0).trans rfl, (blk_cell BK317.out 1).trans rfl, (blk_cell BK317.out 2).trans rfl, (blk_cell BK317.out 3).trans rfl, (blk_cell BK317.out 4).trans rfl, (blk_cell BK317.out 5).trans rfl, (blk_cell BK317.out 6).trans rfl, (blk_cell BK317.out 7).trans rfl, (blk_cell BK317.out 8).trans rfl⟩ (fun hHeld => ?_)
       clear hK K
       refine norm_ (a' := ?_) ?_ ?_
       rotate_left
       ·show Act.put _ (some 21) _ = _
        simp only [Act.put, List.setIfInBounds_toArray, List.set_cons_zero, List.set_cons_succ, i64_w, i32_w]
        rfl
       refine pure_ (i := 10) (N := some 2) (v := ?_) (a' := ?_) #[true, true, true, true, true, true, true, true, true, true, true] rfl rfl (any_of HT_.out (by kernel_rfl)) (fun _ _ _ h => h) (Or.inl ⟨by rfl, ?_⟩) ?_ ?_
       rotate_left
       ·intro w'
        go_simp
        with_reducible rfl
       rotate_left
       ·simp only [Act.put, List.setIfInBounds_toArray, List.set_cons_zero, List.set_cons_succ, i64_w, i32_w]
        rfl
       refine done_ (done_of HT_.out (by kernel_rfl)) ?_
       try go_wp2
       go_roundg k1
       case measure => have := HK1.out; omega
       case rel => exact ⟨(y320), (wrap64 (x8_1 + 1)), (by first | rfl | (simp; done) | (simp [*]; done)), H', ⟨by have := HK1.out; omega⟩, ⟨by (with_reducible repeat (first | apply Kd.R_alloc | apply Kd.R_drewN | apply Kd.R_drew)); exact HO322.out⟩, ⟨by (with_reducible repeat (first | apply b1 | apply b2 | apply b3)); exact BK315.out⟩, ⟨by repeat (first | (with_reducible first | exact HB.out | apply l1 | apply l2 | apply l3 | refine below_set ?_ GE315.out | refine below_set ?_ GE317.out) | exact HB.out)⟩⟩
      ·rw [if_neg c9] at H
       exact absurd H (by simp)
     ·rw [if_neg c6] at H
      exact absurd H (by simp)
    ·rw [if_neg c5] at H
     exact absurd H (by simp)
   ·rw [if_neg c4] at H
    have c4b0 : decide (x8_1 < (l0_0.length : Int)) = false := decide_eq_false c4
    clear c4
    obtain rfl := Option.some.inj H
    go_wp2
    go_ret
    exact ⟨_, by first | rfl | (simp [errW_none, errW_some] <;> rfl) | (simp [*, errW_none, errW_some] <;> rfl), by (with_reducible repeat (first | apply Kd.R_alloc | apply Kd.R_drewN | apply Kd.R_drew)); exact HO_2.out, by repeat (first | (with_reducible first | exact HB.out | apply l1 | apply l2 | apply l3 | refine below_set ?_ GE315.out) | exact HB.out)⟩
attribute [local go_sem] max2_int min2_int max_two min_two in
set_option maxHeartbeats 8000000 in
set_option maxRecDepth 100000 in
theorem share_calls (i j bx byy : Nat) (A B : Option Addr) (xs ys : List S66) (cx cy : Nat) (w : World) (h1 : w.cell? ⟨bx, 0, none⟩ = some (.slice A xs.length cx)) (h2 : w.cell? ⟨byy, 0, none⟩ = some (.slice B ys.length cy))
  (r1 : Kd.C k66 w A xs.length xs) (r2 : Kd.C k66 w B ys.length ys) (x y : S66) (hi : xs[i]? = some x) (hj : ys[j]? = some y) :
  Calls Try.prog 32 #[.int .i64 i, .int .i64 j, .pointer (some ⟨bx, 0, none⟩), .pointer (some ⟨byy, 0, none⟩)] w fun e w' => e = .returned (.int .i64 (IntKind.i64.wrap (min x.f1 y.f1 - max x.f0 y.f0))) ∧ ∃ m, w' = w.drewN m := by
 have hu64 := Try.underlying64
 have hu66 := Try.underlying66
 have hil := (List.getElem?_eq_some_iff.1 hi).1
 have hjl := (List.getElem?_eq_some_iff.1 hj).1
 obtain ⟨a, rfl, p1, p2⟩ := at_T66 r1 (i : Int) (by omega) (by omega)
 obtain ⟨b, rfl, q1, q2⟩ := at_T66 r2 (j : Int) (by omega) (by omega)
 have ex : rd_T66 xs (i : Int) = x := by simp [rd_T66, List.getD, hi]
 have ey : rd_T66 ys (j : Int) = y := by simp [rd_T66, List.getD, hj]
 rw [ex] at p1 p2
 rw [ey] at q1 q2
 simp only [Int.toNat_natCast] at p1 p2 q1 q2
 clear r1 r2 ex ey hi hj
 have hiz : (i : Int) < (xs.length : Int) := by omega
 have hjz : (j : Int) < (ys.length : Int) := by omega
 have hi0 : (0 : Int) ≤ (i : Int) := by omega
 have hj0 : (0 : Int) ≤ (j : Int) := by omega
 generalize xs.length = n at *
 generalize ys.length = m at *
 obtain ⟨x0, x1⟩ := x
 obtain ⟨y0, y1⟩ := y
 dsimp only at p1 p2 q1 q2 ⊢
 go_enter Try.func32, Try.ntmps32
 go_wp2_with fail
 refine wp_region_quiet_lit (by kernel_rfl) (by kernel_rfl) ?_
 repeat (quiet_step (fail))
 refine wpQuiet_nil ?_
 intro _ hw'
 obtain ⟨nq, rfl⟩ := hw'
 go_wp2
 all_goals go_ret
 all_goals refine ⟨?_, ⟨nq, rfl⟩⟩
 all_goals refine congrArg (fun z : Int => Ending.returned (.int .i64 (IntKind.i64.wrap z))) ?_
 all_goals omega
set_option maxHeartbeats 8000000 in
set_option maxRecDepth 100000 in
theorem at_calls (i j m N g cap bb bm : Nat) (w : World) (h1 : w.cell? ⟨bb, 0, none⟩ = some (.slice (some ⟨g, 0, none⟩) N cap)) (h2 : w.cell? ⟨bm, 0, none⟩ = some (.int .i64 m))
  (hi : i ≤ 4096) (hj : j ≤ 4096) (hm : m ≤ 4096) (hN : i * (m + 1) + j < N) :
  Calls Try.prog 33 #[.int .i64 i, .int .i64 j, .pointer (some ⟨bb, 0, none⟩), .pointer (some ⟨bm, 0, none⟩)] w fun e w' => e = .returned (.pointer (some ⟨g, (i * (m + 1) + j) * 2, none⟩)) ∧ w' = w := by
 have hu69 := Try.underlying69
 have hu71 := Try.underlying71
 have hmul : i * (m + 1) ≤ 4096 * 4097 := Nat.mul_le_mul hi (by omega)
 have e1 : IntKind.i64.wrap ((m : Int) + 1) = ((m + 1 : Nat) : Int) := by rw [IntKind.wrap_i64]; omega
 have e2 : IntKind.i64.wrap ((i : Int) * ((m + 1 : Nat) : Int)) = ((i * (m + 1) : Nat) : Int) := by
  rw [show (i : Int) * ((m + 1 : Nat) : Int) = ((i * (m + 1) : Nat) : Int) by simp, IntKind.wrap_i64]; omega
 have e3 : IntKind.i64.wrap (((i * (m + 1) : Nat) : Int) + (j : Int)) = ((i * (m + 1) + j : Nat) : Int) := by rw [IntKind.wrap_i64]; omega
 have hNz : ((i * (m + 1) + j : Nat) : Int) < (N : Int) := by omega
 have h0 : (0 : Int) ≤ ((i * (m + 1) + j : Nat) : Int) := by omega
 generalize i * (m + 1) + j = q at *
 generalize i * (m + 1) = p at *
 generalize m + 1 = m1 at *
 go_enter Try.func33, Try.ntmps33
 go_wp2
 go_ret
 exact ⟨by first | rfl | simp, rfl⟩
def encW (p : Int × Int) : List Value := [.int .i64 p.1, .int .i64 p.2]
theorem made2 (n : Nat) : madeCells #[Value.int .i64 0, Value.int .i64 0] (n * 2) = ((List.replicate n ((0 : Int), (0 : Int))).flatMap encW).toArray := by
 have h1 : madeCells #[Value.int .i64 0, Value.int .i64 0] (n * 2) = Array.replicate (n * 2) (Value.int .i64 0) := by
  apply Array.ext
  ·rw [size_madeCells]; simp
  ·intro i h1 h2
   simp only [madeCells, Array.getElem_map, Array.getElem_range, Array.getElem_replicate]
   have : i % 2 = 0 ∨ i % 2 = 1 := by omega
   rcases this with h | h <;> simp [h]
 have h2 : ∀ n, (List.replicate n ((0 : Int), (0 : Int))).flatMap encW = List.replicate (n * 2) (Value.int .i64 0) := by
  intro n
  induction n with
  | zero => rfl
  | succ n ih =>
   rw [List.replicate_succ, List.flatMap_cons, ih, show (n + 1) * 2 = n * 2 + 1 + 1 by omega, List.replicate_succ, List.replicate_succ]
   rfl
 rw [h1, h2]
 apply Array.ext'
 simp
theorem make71 (W : World) (N : Nat) (hN : N ≤ 16785409) :
  (Instr.makeSlice 69 (.int .i64 (N : Int)) (.int .i64 (N : Int))).run Try.prog W = .ok (.slice (some ⟨W.heap.size, 0, none⟩) N N) (W.alloc (.cells ((List.replicate N ((0 : Int), (0 : Int))).flatMap encW).toArray 71)) := by
 obtain ⟨i, hi⟩ := Option.isSome_iff_exists.1 (show (Try.prog.info? 71).isSome = true by kernel_rfl)
 have hz : (Try.prog.info? 71).map (·.zero) = some (some (.agg #[.int .i64 0, .int .i64 0])) := by kernel_rfl
 have hs : (Try.prog.info? 71).map (·.size) = some 2 := by kernel_rfl
 have hb : (Try.prog.info? 71).map (·.bytes) = some 16 := by kernel_rfl
 rw [hi] at hz hs hb
 simp only [Option.map_some, Option.some.injEq] at hz hs hb
 have h := run_make (P := Try.prog) W 69 71 i _ Try.underlying69 hi hz .i64 .i64 (N : Int) (N : Int) (by omega) (by omega) (by rw [hb]; omega) (by omega)
 rw [h, hs]
 simp only [Int.toNat_natCast]
 show Result.ok _ (W.alloc (.cells (madeCells #[Value.int .i64 0, Value.int .i64 0] (N * 2)) 71)) = _
 rw [made2]
end Go.Proofs.Ytlbicmdfdpcdiaa.PDa
