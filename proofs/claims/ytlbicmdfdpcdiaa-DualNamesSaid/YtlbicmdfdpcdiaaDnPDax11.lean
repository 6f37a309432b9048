-- printed
import Derived.Test.YtlbicmdfdpcdiaaDnPDax0
import Derived.Test.YtlbicmdfdpcdiaaDnPDax5
import Derived.Test.YtlbicmdfdpcdiaaDnPDax9
import Derived.Test.YtlbicmdfdpcdiaaDnPDax10
namespace Go.Proofs.Ytlbicmdfdpcdiaa.PDa
open Go.RowKit Go.Proofs.YtlbicmdfdpcdiaaW.PrintWords Go.Proofs.YtlbicmdfdpcdiaaW.PrintLast Go.Proofs.YtlbicmdfdpcdiaaW.PrintMore
attribute [local go_sem] max2_int min2_int max_two min_two max_three min_three max_four min_four
set_option linter.unusedVariables false
set_option linter.unusedSimpArgs false
mutual
def cue_Check.l0 : Nat → List (S33) → Int → Int → Int → Int → Int → Int → Int → Int → ByteArray → ByteArray → List (S79) → Option (Int)
 | 0, _, _, _, _, _, _, _, _, _, _, _, _ => none
 | k + 1, x11, x12, x13, x223000, x223001, x223002, x223003, x223004, x223005, x223006, x223007, x223008 => if x13 < x12 then (if 0 ≤ x13 then (if x13 < (x11.length : Int) then ((ratio_Time.f k ((rd_T33 x11 x13).f0) ((rd_T33 x11 x13).f1)).bind fun t228 => (if t228 = 0 then (cue_Check.l0 k x11 x12 (wrap64 (x13 + 1)) x223000 x223001 x223002 x223003 x223004 x223005 x223006 x223007 x223008) else (some t228))) else (none)) else (none)) else ((ratio_Cmp.f x223000 x223001 x223002 x223003).bind fun t229 => (if t229 ≥ 0 then (some 32) else (if x223004 < 0 then (some 34) else (if x223004 ≥ 8 then (some 34) else (if x223005 = 0 then (cue_Check.j1 k x223000 x223001 x223002 x223003 x223004 x223005 x223006 x223007 x223008) else (if x223005 = 1 then (cue_Check.j1 k x223000 x223001 x223002 x223003 x223004 x223005 x223006 x223007 x223008) else (some 34)))))))
def cue_Check.j1 : Nat → Int → Int → Int → Int → Int → Int → ByteArray → ByteArray → List (S79) → Option (Int)
 | 0, _, _, _, _, _, _, _, _, _ => none
 | k + 1, x223000, x223001, x223002, x223003, x223004, x223005, x223006, x223007, x223008 => (cue_named.f x223006).bind fun t230 => (if t230 = 0 then ((style_Check.f k x223007 x223008).bind fun t231 => (some t231)) else (some t230))
end
def cue_Check.f (k : Nat) (a0_0 : Int) (a0_1 : Int) (a0_2 : Int) (a0_3 : Int) (a0_4 : Int) (a0_5 : Int) (a0_6 : ByteArray) (a0_7 : ByteArray) (l0_8 : List (S79)) : Option (Int) := (some (([(⟨a0_0, a0_1⟩ : S33), (⟨a0_2, a0_3⟩ : S33)] : List (S33)) : List (S33))).bind fun y223 => (cue_Check.l0 k y223 (y223.length : Int) 0 a0_0 a0_1 a0_2 a0_3 a0_4 a0_5 a0_6 a0_7 l0_8)
set_option maxHeartbeats 8000000 in
set_option maxRecDepth 100000 in
theorem cue_Check.calls (k : Nat) (a0_0 : Int) (a0_1 : Int) (a0_2 : Int) (a0_3 : Int) (a0_4 : Int) (a0_5 : Int) (a0_6 : ByteArray) (a0_7 : ByteArray) (A0_8 : Option Addr) (c0_8 : Nat) (l0_8 : List (S79)) (r : Int) (w : World) (hr0_8 : Kd.C k79 w A0_8 l0_8.length l0_8) (hc0_8 : l0_8.length ≤ c0_8) (h : cue_Check.f k a0_0 a0_1 a0_2 a0_3 a0_4 a0_5 a0_6 a0_7 l0_8 = some r) :
  Calls Try.prog 36 #[.agg #[.int .i64 a0_0, .int .i64 a0_1, .int .i64 a0_2, .int .i64 a0_3, .int .i64 a0_4, .int .i64 a0_5, .string a0_6, .string a0_7, .slice A0_8 l0_8.length c0_8]] w fun e w' => e = .returned (.int .i64 r) ∧ Below w.heap.size w w' := by
 have hu38 := Try.underlying38
 have hu33 := Try.underlying33
 have hu36 := Try.underlying36
 have HR0_8 := Aside0.mk hr0_8
 have HC0_8 := Aside0.mk hc0_8
 clear hr0_8 hc0_8
 have HB := Aside0.mk (Below.refl w.heap.size w)
 have H : ((some (([(⟨a0_0, a0_1⟩ : S33), (⟨a0_2, a0_3⟩ : S33)] : List (S33)) : List (S33))).bind fun y223 => (cue_Check.l0 k y223 (y223.length : Int) 0 a0_0 a0_1 a0_2 a0_3 a0_4 a0_5 a0_6 a0_7 l0_8)) = some r := h
 clear h
 obtain ⟨y223, hy223⟩ : ∃ y_ : List (S33), y_ = (([(⟨a0_0, a0_1⟩ : S33), (⟨a0_2, a0_3⟩ : S33)] : List (S33))) := ⟨_, rfl⟩
 replace H : (cue_Check.l0 k y223 (y223.length : Int) 0 a0_0 a0_1 a0_2 a0_3 a0_4 a0_5 a0_6 a0_7 l0_8) = some r := by first | (rw [hy223]; with_reducible exact H) | (have H2_ := (Option.bind_some _ _).symm.trans H; rw [hy223]; with_reducible exact H2_) | (have H2_ := (Option.bind_some _ _).symm.trans H; with_reducible exact H2_) | with_reducible exact H | (rw [hy223]; exact H) | exact H
 have Ny223 := Aside0.mk hy223
 clear hy223
 have H' := Aside0.mk H
 clear H
 go_enter Try.func36, Try.ntmps36
 go_wp2_with (first | ((with_reducible refine gate_dst (N := 1) rfl ?_); refine box_event (by rfl) (N := 1) (by rfl) (cs := #[.int .i64 a0_0, .int .i64 a0_1, .int .i64 a0_2, .int .i64 a0_3, .int .i64 a0_4, .int .i64 a0_5, .string a0_6, .string a0_7, .slice A0_8 l0_8.length c0_8]) (t := 38) (by first | (go_simp; done) | (go_simp; rfl)) ?_; intro gb222 hg w2 hbox hb; obtain ⟨hb_, hw_⟩ := box_facts (lA HB.out) hg hb; replace HB := Aside0.mk (hb_); have BK222 := Aside0.mk (hbox); have GW222 := Aside0.mk (hw_); have GE222 := Aside0.mk (hw_); clear hb hbox hg hb_ hw_; obtain ⟨hcz3_0, hcz3_1, hcz3_2, hcz3_3, hcz3_4, hcz3_5, hcz3_6, hcz3_7, hcz3_8, hfz3_0, hfz3_1, hfz3_2, hfz3_3, hfz3_4, hfz3_5, hfz3_6, hfz3_7, hfz3_8⟩ := blk_cells9 BK222.out) | ((with_reducible refine gate_dst (N := 11) rfl ?_); refine Kd.R_lit k33 _ 33 ?hg (N := 11) ?hd (xs := ([(⟨a0_0, a0_1⟩ : S33), (⟨a0_2, a0_3⟩ : S33)] : List (S33))) (inner := [.int .i64 a0_0, .int .i64 a0_1, .int .i64 a0_2, .int .i64 a0_3]) (ok := fun _ => True) (okp := fun _ => True) ?hr ?hp (fun _ hk => hk) trivial (Below.refl _ _) (Nat.le_refl _) (by simp) ?_; (case hd => rfl); (case hg => rfl); (case hr => first | (go_simp; done) | (go_simp; rfl)); (case hp => exact (Reps.c2 (show Kd.M k33 _ _ _ (⟨a0_0, a0_1⟩ : S33) [.int .i64 a0_0, .int .i64 a0_1] from (k33_mkM _ _ _ (⟨a0_0, a0_1⟩ : S33) )) (Reps.c2 (show Kd.M k33 _ _ _ (⟨a0_2, a0_3⟩ : S33) [.int .i64 a0_2, .int .i64 a0_3] from (k33_mkM _ _ _ (⟨a0_2, a0_3⟩ : S33) )) (Reps.none _ _)))); intro v224 w4 ho5 hb hg_ hnew_; clear hg_ hnew_; (first | rw [← Ny223.out] at ho5 | (simp only [Int.reduceToNat] at ho5; rw [← Ny223.out] at ho5)); have HO225 := Aside0.mk (Kd.R_lower ho5 (below_size (by repeat (first | (with_reducible first | exact HB.out | apply l1 | apply l2 | apply l3 | refine below_set ?_ GE222.out) | exact HB.out)))); replace BK222 := Aside0.mk (bB BK222.out hb); replace HB := Aside0.mk (below_step (by repeat (first | (with_reducible first | exact HB.out | apply l1 | apply l2 | apply l3 | refine below_set ?_ GE222.out) | exact HB.out)) hb); clear hb ho5; obtain ⟨Ao6, co6, eo6⟩ := Kd.R_slice HO225.out; subst eo6))
 (try simp only [Act.put, List.setIfInBounds_toArray, List.set_cons_zero, List.set_cons_succ])
 go_loopg [13] k (fun kq v13 w' => ∃ (x13_1 : Int), v13 = .int .i64 x13_1 ∧ Aside0 (cue_Check.l0 kq y223 (y223.length : Int) x13_1 a0_0 a0_1 a0_2 a0_3 a0_4 a0_5 a0_6 a0_7 l0_8 = some r) ∧ Aside0 (kq ≤ k) ∧ Aside0 (Kd.R k33 33 w' w.heap.size (fun _ => True) (.slice Ao6 y223.length co6) y223) ∧ Aside0 (w'.heap[gb222]? = some (.cells #[.int .i64 a0_0, .int .i64 a0_1, .int .i64 a0_2, .int .i64 a0_3, .int .i64 a0_4, .int .i64 a0_5, .string a0_6, .string a0_7, (.slice A0_8 l0_8.length c0_8)] 38 (0, 0))) ∧ Aside0 (Below w.heap.size w w'))
 case atStart => exact ⟨(0), (by first | rfl | (simp; done) | (simp [*]; done)), H', ⟨Nat.le_refl _⟩, ⟨by (with_reducible repeat (first | apply Kd.R_alloc | apply Kd.R_drewN | apply Kd.R_drew)); exact HO225.out⟩, ⟨by (with_reducible repeat (first | apply b1 | apply b2 | apply b3)); exact BK222.out⟩, ⟨by repeat (first | (with_reducible first | exact HB.out | apply l1 | apply l2 | apply l3 | refine below_set ?_ GE222.out) | exact HB.out)⟩⟩
 case round =>
  clear H'
  try clear c2
  try clear p2
  try clear c3
  try clear hcz3_0
  try clear hcz3_1
  try clear hcz3_2
  try clear hcz3_3
  try clear hcz3_4
  try clear hcz3_5
  try clear hcz3_6
  try clear hcz3_7
  try clear hcz3_8
  try clear hfz3_0
  try clear hfz3_1
  try clear hfz3_2
  try clear hfz3_3
  try clear hfz3_4
  try clear hfz3_5
  try clear hfz3_6
  try clear hfz3_7
  try clear hfz3_8
  obtain ⟨x13_1, rfl, HA, HK1, HO_11, BK222, HB⟩ := hrel
  cases gk with
  | zero => exact absurd HA.out (by simp [cue_Check.l0])
  | succ k1 =>
   have H := HA.out
   clear HA
   simp only [cue_Check.l0] at H
   by_cases c7 : x13_1 < (y223.length : Int)
   ·rw [if_pos c7] at H
    have c7b0 : decide (x13_1 < (y223.length : Int)) = true := decide_eq_true c7
    clear c7
    by_cases c8 : 0 ≤ x13_1 <;> first
    |(rw [if_pos c8] at H
      have c8b0 : decide (0 ≤ x13_1) = true := decide_eq_true c8
      clear c8
      by_cases c9 : x13_1 < (y223.length : Int) <;> first
      |(rw [if_pos c9] at H
        have c9b0 : decide (x13_1 < (y223.length : Int)) = true := decide_eq_true c9
        clear c9
        replace H := Option.bind_eq_some_iff.mp H
        obtain ⟨t228, A100, H⟩ := H
        (try dsimp only at H)
        have A10 := Aside0.mk A100
        clear A100
        by_cases c11 : t228 = 0 <;> first
        |(rw [if_pos c11] at H
          have c11b0 : (t228 == 0) = true := beq_iff_eq.mpr c11
          have c11b1 : (t228 != 0) = false := bne_eq_false_iff_eq.mpr c11
          clear c11
          have H' := Aside0.mk H
          clear H
          have p226 : 0 ≤ (x13_1 : Int) := of_decide_eq_true (by first | (with_reducible assumption) | assumption)
          have q226 : x13_1 < (y223.length : Int) := of_decide_eq_true (by first | (with_reducible assumption) | assumption)
          obtain ⟨ad226, e226, hx226_0, hx226_1⟩ := at_T33 (Kd.R_reads' HO_11.out).2.2 x13_1 p226 q226
          cases e226
          replace p226 := eq_true p226
          replace q226 := eq_true q226
          have z63 := trivial)
        |(rw [if_neg c11] at H
          have c11b0 : (t228 == 0) = false := beq_eq_false_iff_ne.mpr c11
          have c11b1 : (t228 != 0) = true := bne_iff_ne.mpr c11
          obtain rfl := Option.some.inj H
          have p226 : 0 ≤ (x13_1 : Int) := of_decide_eq_true (by first | (with_reducible assumption) | assumption)
          have q226 : x13_1 < (y223.length : Int) := of_decide_eq_true (by first | (with_reducible assumption) | assumption)
          obtain ⟨ad226, e226, hx226_0, hx226_1⟩ := at_T33 (Kd.R_reads' HO_11.out).2.2 x13_1 p226 q226
          cases e226
          replace p226 := eq_true p226
          replace q226 := eq_true q226
          have z64 := trivial))
      |(rw [if_neg c9] at H
        exact absurd H (by simp)))
    |(rw [if_neg c8] at H
      exact absurd H (by simp))
    all_goals
     go_wp2_with (first | ((with_reducible refine gate_dst (N := 4) rfl ?_); refine box_event (by rfl) (N := 4) (by rfl) (cs := #[.int .i64 0, .int .i64 0]) (t := 33) (by first | (go_simp; done) | (go_simp; rfl)) ?_; intro gb227 hg w12 hbox hb; obtain ⟨hb_, hw_⟩ := box_facts (by repeat (first | (with_reducible first | exact HB.out | apply l1 | apply l2 | apply l3 | refine below_set ?_ GE222.out) | exact HB.out)) hg hb; replace HO_11 := Aside0.mk (Kd.R_below (Kd.R_elderB (rA HO_11.out) gb227 (Nat.le_of_eq hg.symm)) hb); replace HB := Aside0.mk (hb_); have BK227 := Aside0.mk (hbox); have GW227 := Aside0.mk (hw_); have GE227 := Aside0.mk (hw_); have NB222_227 := Aside0.mk ((nL hg BK222.out)); have NB227_222 := Aside0.mk ((nG hg BK222.out)); replace BK222 := Aside0.mk (bB BK222.out hb); clear hb hbox hg hb_ hw_; have hnb13 := NB227_222.out; have hnc13 := NB222_227.out; obtain ⟨hcz14_0, hcz14_1, hfz14_0, hfz14_1⟩ := blk_cells2 BK227.out) | ((with_reducible refine gate_callee (f := 46) rfl ?_); refine goesL_ (some 18) rfl rfl Try.func46 (by kernel_rfl) rfl #[.agg #[.int .i64 ((rd_T33 y223 x13_1).f0), .int .i64 ((rd_T33 y223 x13_1).f1)]] rfl (by (try simp only [List.map_toArray, List.map_cons, List.map_nil]); first | done | rfl | (simp only [List.length_drop, List.length_take]; rfl)) ?_; (with_reducible refine (ratio_Time.calls k1 ((rd_T33 y223 x13_1).f0) ((rd_T33 y223 x13_1).f1) t228 _ A10.out).mono ?_); rintro e w15 ⟨rfl, hb⟩; refine ⟨_, rfl, ?_⟩; replace HO_11 := Aside0.mk (Kd.R_below (by (with_reducible repeat (first | apply Kd.R_alloc | apply Kd.R_drewN | apply Kd.R_drew)); exact (Kd.R_mono (Kd.R_far (p := ⟨gb227, 1, none⟩) (Kd.R_far (p := ⟨gb227, 0, none⟩) (Kd.R_mono HO_11.out (fun k_ hk => (⟨hk, hk.2⟩ : _ ∧ k_ ≠ gb227))) (fun _ hk => hk.2) (.int .i64 ((rd_T33 y223 x13_1).f0))) (fun _ hk => hk.2) (.int .i64 ((rd_T33 y223 x13_1).f1))) (fun _ h_ => h_.1))) hb); replace BK222 := Aside0.mk (blk_below (g := gb222) (o := .cells #[.int .i64 a0_0, .int .i64 a0_1, .int .i64 a0_2, .int .i64 a0_3, .int .i64 a0_4, .int .i64 a0_5, .string a0_6, .string a0_7, .slice A0_8 l0_8.length c0_8] 38 (0, 0)) (by (with_reducible repeat (first | apply b1 | apply b2 | apply b3)); refine blk_far ?_ NB222_227.out _; (with_reducible repeat (first | apply b1 | apply b2 | apply b3)); refine blk_far ?_ NB222_227.out _; (with_reducible repeat (first | apply b1 | apply b2 | apply b3)); exact BK222.out) hb); replace BK227 := Aside0.mk (blk_below (g := gb227) (o := .cells #[.int .i64 ((rd_T33 y223 x13_1).f0), .int .i64 ((rd_T33 y223 x13_1).f1)] 33 (0, 0)) (by (with_reducible repeat (first | apply b1 | apply b2 | apply b3)); refine blk_put (cs := #[.int .i64 ((rd_T33 y223 x13_1).f0), .int .i64 0]) ?_ 1 _ rfl; (with_reducible repeat (first | apply b1 | apply b2 | apply b3)); refine blk_put (cs := #[.int .i64 0, .int .i64 0]) ?_ 0 _ rfl; (with_reducible repeat (first | apply b1 | apply b2 | apply b3)); exact BK227.out) hb); replace HB := Aside0.mk (below_step (by repeat (first | (with_reducible first | exact HB.out | apply l1 | apply l2 | apply l3 | refine below_set ?_ GE222.out | refine below_set ?_ GE227.out) | exact HB.out)) hb); (try clear hb); (try clear hb2); (try clear hk); (try clear hi)))
     first
     |((revert z63; intro z63)
       go_roundg k1
       case measure => have := HK1.out; omega
       case rel => exact ⟨(wrap64 (x13_1 + 1)), (by first | rfl | (simp; done) | (simp [*]; done)), H', ⟨by have := HK1.out; omega⟩, ⟨by (with_reducible repeat (first | apply Kd.R_alloc | apply Kd.R_drewN | apply Kd.R_drew)); exact Kd.R_mono HO_11.out (fun _ hk => trivial)⟩, ⟨by (with_reducible repeat (first | apply b1 | apply b2 | apply b3)); exact BK222.out⟩, ⟨by repeat (first | (with_reducible first | exact HB.out | apply l1 | apply l2 | apply l3 | refine below_set ?_ GE222.out | refine below_set ?_ GE227.out) | exact HB.out)⟩⟩)
     |((revert z64; intro z64)
       go_ret
       exact ⟨by first | rfl | (simp [errW_none, errW_some] <;> rfl) | (simp [*, errW_none, errW_some] <;> rfl), by repeat (first | (with_reducible first | exact HB.out | apply l1 | apply l2 | apply l3 | refine below_set ?_ GE222.out | refine below_set ?_ GE227.out) | exact HB.out)⟩)
   ·rw [if_neg c7] at H
    have c7b0 : decide (x13_1 < (y223.length : Int)) = false := decide_eq_false c7
    clear c7
    have HC20 := Aside0.mk H
    clear H
    go_upto_block 2 with (fail)
    go_cut [] (fun wc => ∃ (kq : Nat), Aside0 (cue_Check.j1 kq a0_0 a0_1 a0_2 a0_3 a0_4 a0_5 a0_6 a0_7 l0_8 = some r) ∧ Aside0 (kq ≤ k1) ∧ Aside0 (wc.heap[gb222]? = some (.cells #[.int .i64 a0_0, .int .i64 a0_1, .int .i64 a0_2, .int .i64 a0_3, .int .i64 a0_4, .int .i64 a0_5, .string a0_6, .string a0_7, (.slice A0_8 l0_8.length c0_8)] 38 (0, 0))) ∧ Aside0 (Below w.heap.size w wc))
    case first =>
     have H := HC20.out
     clear HC20
     replace H := Option.bind_eq_some_iff.mp H
     obtain ⟨t229, A210, H⟩ := H
     (try dsimp only at H)
     have A21 := Aside0.mk A210
     clear A210
     by_cases c22 : t229 ≥ 0
     ·rw [if_pos c22] at H
      have c22b0 : decide (0 ≤ t229) = true := decide_eq_true c22
      clear c22
      (first | rw [c22b0] | (simp only [i64_w, i32_w]; rw [c22b0]) | skip)
      obtain rfl := Option.some.inj H
      obtain ⟨hcz23_0, hcz23_1, hcz23_2, hcz23_3, hcz23_4, hcz23_5, hcz23_6, hcz23_7, hcz23_8, hfz23_0, hfz23_1, hfz23_2, hfz23_3, hfz23_4, hfz23_5, hfz23_6, hfz23_7, hfz23_8⟩ := blk_cells9 BK222.out
      go_wp2_with (first | ((with_reducible refine gate_callee (f := 29) rfl ?_); refine goesL_ (some 28) rfl rfl Try.func29 (by kernel_rfl) rfl #[.agg #[.int .i64 a0_0, .int .i64 a0_1], .agg #[.int .i64 a0_2, .int .i64 a0_3]] rfl (by (try simp only [List.map_toArray, List.map_cons, List.map_nil]); first | done | rfl | (simp only [List.length_drop, List.length_take]; rfl)) ?_; (with_reducible refine (ratio_Cmp.calls a0_0 a0_1 a0_2 a0_3 t229 _ A21.out).mono ?_); rintro e w24 ⟨rfl, hb⟩; refine ⟨_, rfl, ?_⟩; replace HO_11 := Aside0.mk (Kd.R_below (rA HO_11.out) hb); replace BK222 := Aside0.mk (bB BK222.out hb); replace HB := Aside0.mk (below_step (by repeat (first | (with_reducible first | exact HB.out | apply l1 | apply l2 | apply l3 | refine below_set ?_ GE222.out) | exact HB.out)) hb); (try clear hb); (try clear hb2); (try clear hk); (try clear hi)))
      go_ret
      exact ⟨by first | rfl | (simp [errW_none, errW_some] <;> rfl) | (simp [*, errW_none, errW_some] <;> rfl), by repeat (first | (with_reducible first | exact HB.out | apply l1 | apply l2 | apply l3 | refine below_set ?_ GE222.out) | exact HB.out)⟩
     ·rw [if_neg c22] at H
      have c22b0 : decide (0 ≤ t229) = false := decide_eq_false c22
      clear c22
      (first | rw [c22b0] | (simp only [i64_w, i32_w]; rw [c22b0]) | skip)
      by_cases c25 : a0_4 < 0 <;> first
      |(rw [if_pos c25] at H
        have c25b0 : decide (a0_4 < 0) = true := decide_eq_true c25
        clear c25
        obtain rfl := Option.some.inj H
        obtain ⟨hcz26_0, hcz26_1, hcz26_2, hcz26_3, hcz26_4, hcz26_5, hcz26_6, hcz26_7, hcz26_8, hfz26_0, hfz26_1, hfz26_2, hfz26_3, hfz26_4, hfz26_5, hfz26_6, hfz26_7, hfz26_8⟩ := blk_cells9 BK222.out
        have z72 := trivial)
      |(rw [if_neg c25] at H
        have c25b0 : decide (a0_4 < 0) = false := decide_eq_false c25
        clear c25
        by_cases c29 : a0_4 ≥ 8 <;> first
        |(rw [if_pos c29] at H
          have c29b0 : decide (8 ≤ a0_4) = true := decide_eq_true c29
          clear c29
          obtain rfl := Option.some.inj H
          obtain ⟨hcz30_0, hcz30_1, hcz30_2, hcz30_3, hcz30_4, hcz30_5, hcz30_6, hcz30_7, hcz30_8, hfz30_0, hfz30_1, hfz30_2, hfz30_3, hfz30_4, hfz30_5, hfz30_6, hfz30_7, hfz30_8⟩ := blk_cells9 BK222.out
          have z73 := trivial)
        |(rw [if_neg c29] at H
          have c29b0 : decide (8 ≤ a0_4) = false := decide_eq_false c29
          clear c29
          by_cases c33 : a0_5 = 0 <;> first
          |(rw [if_pos c33] at H
            have c33b0 : (a0_5 == 0) = true := beq_iff_eq.mpr c33
            have c33b1 : (a0_5 != 0) = false := bne_eq_false_iff_eq.mpr c33
            clear c33
            have H' := Aside0.mk H
            clear H
            obtain ⟨hcz34_0, hcz34_1, hcz34_2, hcz34_3, hcz34_4, hcz34_5, hcz34_6, hcz34_7, hcz34_8, hfz34_0, hfz34_1, hfz34_2, hfz34_3, hfz34_4, hfz34_5, hfz34_6, hfz34_7, hfz34_8⟩ := blk_cells9 BK222.out
            have z74 := trivial)
          |(rw [if_neg c33] at H
            have c33b0 : (a0_5 == 0) = false := beq_eq_false_iff_ne.mpr c33
            have c33b1 : (a0_5 != 0) = true := bne_iff_ne.mpr c33
            by_cases c37 : a0_5 = 1 <;> first
            |(rw [if_pos c37] at H
              have c37b0 : (a0_5 == 1) = true := beq_iff_eq.mpr c37
              have c37b1 : (a0_5 != 1) = false := bne_eq_false_iff_eq.mpr c37
              clear c37
              have H' := Aside0.mk H
              clear H
              obtain ⟨hcz38_0, hcz38_1, hcz38_2, hcz38_3, hcz38_4, hcz38_5, hcz38_6, hcz38_7, hcz38_8, hfz38_0, hfz38_1, hfz38_2, hfz38_3, hfz38_4, hfz38_5, hfz38_6, hfz38_7, hfz38_8⟩ := blk_cells9 BK222.out
              have z75 := trivial)
            |(rw [if_neg c37] at H
              have c37b0 : (a0_5 == 1) = false := beq_eq_false_iff_ne.mpr c37
              have c37b1 : (a0_5 != 1) = true := bne_iff_ne.mpr c37
              obtain rfl := Option.some.inj H
              obtain ⟨hcz41_0, hcz41_1, hcz41_2, hcz41_3, hcz41_4, hcz41_5, hcz41_6, hcz41_7, hcz41_8, hfz41_0, hfz41_1, hfz41_2, hfz41_3, hfz41_4, hfz41_5, hfz41_6, hfz41_7, hfz41_8⟩ := blk_cells9 BK222.out
              have z76 := trivial))))
      all_goals
       go_wp2_with (first | ((with_reducible refine gate_callee (f := 29) rfl ?_); refine goesL_ (some 28) rfl rfl Try.func29 (by kernel_rfl) rfl #[.agg #[.int .i64 a0_0, .int .i64 a0_1], .agg #[.int .i64 a0_2, .int .i64 a0_3]] rfl (by (try simp only [List.map_toArray, List.map_cons, List.map_nil]); first | done | rfl | (simp only [List.length_drop, List.length_take]; rfl)) ?_; (with_reducible refine (ratio_Cmp.calls a0_0 a0_1 a0_2 a0_3 t229 _ A21.out).mono ?_); rintro e w35 ⟨rfl, hb⟩; refine ⟨_, rfl, ?_⟩; replace HO_11 := Aside0.mk (Kd.R_below (rA HO_11.out) hb); replace BK222 := Aside0.mk (bB BK222.out hb); replace HB := Aside0.mk (below_step (by repeat (first | (with_reducible first | exact HB.out | apply l1 | apply l2 | apply l3 | refine below_set ?_ GE222.out) | exact HB.out)) hb); (try clear hb); (try clear hb2); (try clear hk); (try clear hi); obtain ⟨hcz36_0, hcz36_1, hcz36_2, hcz36_3, hcz36_4, hcz36_5, hcz36_6, hcz36_7, hcz36_8, hfz36_0, hfz36_1, hfz36_2, hfz36_3, hfz36_4, hfz36_5, hfz36_6, hfz36_7, hfz36_8⟩ := blk_cells9 BK222.out))
       first
       |((first | (revert z74; intro z74) | (revert z75; intro z75))
         go_meet
         case rel => exact ⟨_, H', ⟨by have := HK1.out; first | omega | exact Nat.le_refl _⟩, ⟨by (with_reducible repeat (first | apply b1 | apply b2 | apply b3)); exact BK222.out⟩, ⟨by repeat (first | (with_reducible first | exact HB.out | apply l1 | apply l2 | apply l3 | refine below_set ?_ GE222.out) | exact HB.out)⟩⟩)
       |((first | (revert z72; intro z72) | (revert z73; intro z73) | (revert z76; intro z76))
         go_ret
         exact ⟨by first | rfl | (simp [errW_none, errW_some] <;> rfl) | (simp [*, errW_none, errW_some] <;> rfl), by repeat (first | (with_reducible first | exact HB.out | apply l1 | apply l2 | apply l3 | refine below_set ?_ GE222.out) | exact HB.out)⟩)
    case rest =>
     clear HC20
     try clear c1
     try clear c2
     try clear p2
     try clear q2
     try clear hx2
     try clear c3
     try clear c4
     try clear p6
     try clear c7
     try clear c7b0
     try clear c8
     try clear c8b0
     try clear c9
     try clear c9b0
     try clear c11
     try clear c11b0
     try clear c11b1
     try clear c13
     try clear c17
     try clear c22
     try clear c22b0
     try clear p22
     try clear q22
     try clear hx22
     try clear c25
     try clear c25b0
     try clear c29
     try clear c29b0
     try clear c33
     try clear c33b0
     try clear c33b1
     try clear c36
     try clear c37
     try clear c37b0
     try clear c37b1
     try clear hcz14_0
     try clear hcz14_1
     try clear hcz18_0
     try clear hcz18_1
     try clear hcz23_0
     try clear hcz23_1
     try clear hcz23_2
     try clear hcz23_3
     try clear hcz23_4
     try clear hcz23_5
     try clear hcz23_6
     try clear hcz23_7
     try clear hcz23_8
     try clear hcz26_0
     try clear hcz26_1
     try clear hcz26_2
     try clear hcz26_3
     try clear hcz26_4
     try clear hcz26_5
     try clear hcz26_6
     try clear hcz26_7
     try clear hcz26_8
     try clear hcz28_0
     try clear hcz28_1
     try clear hcz28_2
     try clear hcz28_3
     try clear hcz28_4
     try clear hcz28_5
     try clear hcz28_6
     try clear hcz28_7
     try clear hcz28_8
     try clear hcz30_0
     try clear hcz30_1
     try clear hcz30_2
     try clear hcz30_3
     try clear hcz30_4
     try clear hcz30_5
     try clear hcz30_6
     try clear hcz30_7
     try clear hcz30_8
     try clear hcz32_0
     try clear hcz32_1
     try clear hcz32_2
     try clear hcz32_3
     try clear hcz32_4
     try clear hcz32_5
     try clear hcz32_6
     try clear hcz32_7
     try clear hcz32_8
     try clear hcz34_0
     try clear hcz34_1
     try clear hcz34_2
     try clear hcz34_3
     try clear hcz34_4
     try clear hcz34_5
     try clear hcz34_6
     try clear hcz34_7
     try clear hcz34_8
     try clear hcz36_0
     try clear hcz36_1
     try clear hcz36_2
     try clear hcz36_3
     try clear hcz36_4
     try clear hcz36_5
     try clear hcz36_6
     try clear hcz36_7
     try clear hcz36_8
     try clear hcz38_0
     try clear hcz38_1
     try clear hcz38_2
     try clear hcz38_3
     try clear hcz38_4
     try clear hcz38_5
     try clear hcz38_6
     try clear hcz38_7
     try clear hcz38_8
     try clear hcz3_0
     try clear hcz3_1
     try clear hcz3_2
     try clear hcz3_3
     try clear hcz3_4
     try clear hcz3_5
     try clear hcz3_6
     try clear hcz3_7
     try clear hcz3_8
     try clear hcz40_0
     try clear hcz40_1
     try clear hcz40_2
     try clear hcz40_3
     try clear hcz40_4
     try clear hcz40_5
     try clear hcz40_6
     try clear hcz40_7
     try clear hcz40_8
     try clear hcz41_0
     try clear hcz41_1
     try clear hcz41_2
     try clear hcz41_3
     try clear hcz41_4
     try clear hcz41_5
     try clear hcz41_6
     try clear hcz41_7
     try clear hcz41_8
     try clear hcz43_0
     try clear hcz43_1
     try clear hcz43_2
     try clear hcz43_3
     try clear hcz43_4
     try clear hcz43_5
     try clear hcz43_6
     try clear hcz43_7
     try clear hcz43_8
     try clear hfz14_0
     try clear hfz14_1
     try clear hfz18_0
     try clear hfz18_1
     try clear hfz23_0
     try clear hfz23_1
     try clear hfz23_2
     try clear hfz23_3
     try clear hfz23_4
     try clear hfz23_5
     try clear hfz23_6
     try clear hfz23_7
     try clear hfz23_8
     try clear hfz26_0
     try clear hfz26_1
     try clear hfz26_2
     try clear hfz26_3
     try clear hfz26_4
     try clear hfz26_5
     try clear hfz26_6
     try clear hfz26_7
     try clear hfz26_8
     try clear hfz28_0
     try clear hfz28_1
     try clear hfz28_2
     try clear hfz28_3
     try clear hfz28_4
     try clear hfz28_5
     try clear hfz28_6
     try clear hfz28_7
     try clear hfz28_8
     try clear hfz30_0
     try clear hfz30_1
     try clear hfz30_2
     try clear hfz30_3
     try clear hfz30_4
     try clear hfz30_5
     try clear hfz30_6
     try clear hfz30_7
     try clear hfz30_8
     try clear hfz32_0
     try clear hfz32_1
     try clear hfz32_2
     try clear hfz32_3
     try clear hfz32_4
     try clear hfz32_5
     try clear hfz32_6
     try clear hfz32_7
     try clear hfz32_8
     try clear hfz34_0
     try clear hfz34_1
     try clear hfz34_2
     try clear hfz34_3
     try clear hfz34_4
     try clear hfz34_5
     try clear hfz34_6
     try clear hfz34_7
     try clear hfz34_8
     try clear hfz36_0
     try clear hfz36_1
     try clear hfz36_2
     try clear hfz36_3
     try clear hfz36_4
     try clear hfz36_5
     try clear hfz36_6
     try clear hfz36_7
     try clear hfz36_8
     try clear hfz38_0
     try clear hfz38_1
     try clear hfz38_2
     try clear hfz38_3
     try clear hfz38_4
     try clear hfz38_5
     try clear hfz38_6
     try clear hfz38_7
     try clear hfz38_8
     try clear hfz3_0
     try clear hfz3_1
     try clear hfz3_2
     try clear hfz3_3
     try clear hfz3_4
     try clear hfz3_5
     try clear hfz3_6
     try clear hfz3_7
     try clear hfz3_8
     try clear hfz40_0
     try clear hfz40_1
     try clear hfz40_2
     try clear hfz40_3
     try clear hfz40_4
     try clear hfz40_5
     try clear hfz40_6
     try clear hfz40_7
     try clear hfz40_8
     try clear hfz41_0
     try clear hfz41_1
     try clear hfz41_2
     try clear hfz41_3
     try clear hfz41_4
     try clear hfz41_5
     try clear hfz41_6
     try clear hfz41_7
     try clear hfz41_8
     try clear hfz43_0
     try clear hfz43_1
     try clear hfz43_2
     try clear hfz43_3
     try clear hfz43_4
     try clear hfz43_5
     try clear hfz43_6
     try clear hfz43_7
     try clear hfz43_8
     try clear hx226_0
     try clear hx226_1
     try clear p2
     try clear p226
     try clear q226
     obtain ⟨kq, HA, HJ19, BK222, HB⟩ := hcut
     cases kq with
     | zero => exact absurd HA.out (by simp [cue_Check.j1])
     | succ kj19 =>
      have H := HA.out
      clear HA
      simp only [cue_Check.j1] at H
      replace H := Option.bind_eq_some_iff.mp H
      obtain ⟨t230, A440, H⟩ := H
      (try dsimp only at H)
      have A44 := Aside0.mk A440
      clear A440
      by_cases c45 : t230 = 0
      ·rw [if_pos c45] at H
       have c45b0 : (t230 == 0) = true := beq_iff_eq.mpr c45
       have c45b1 : (t230 != 0) = false := bne_eq_false_iff_eq.mpr c45
       clear c45
       replace H := Option.bind_eq_some_iff.mp H
       obtain ⟨t231, A460, H⟩ := H
       (try dsimp only at H)
       have A46 := Aside0.mk A460
       clear A460
       obtain rfl := Option.some.inj H
       obtain ⟨hcz47_0, hcz47_1, hcz47_2, hcz47_3, hcz47_4, hcz47_5, hcz47_6, hcz47_7, hcz47_8, hfz47_0, hfz47_1, hfz47_2, hfz47_3, hfz47_4, hfz47_5, hfz47_6, hfz47_7, hfz47_8⟩ := blk_cells9 BK222.out
       go_wp2_with (first | ((with_reducible refine gate_callee (f := 47) rfl ?_); refine goesL_ (some 51) rfl rfl Try.func47 (by kernel_rfl) rfl #[.string a0_6] rfl (by (try simp only [List.map_toArray, List.map_cons, List.map_nil]); first | done | rfl | (simp only [List.length_drop, List.length_take]; rfl)) ?_; (with_reducible refine (cue_named.calls a0_6 t230 _ A44.out).mono ?_); rintro e w48 ⟨rfl, hb⟩; refine ⟨_, rfl, ?_⟩; replace BK222 := Aside0.mk (bB BK222.out hb); replace HB := Aside0.mk (below_step (by repeat (first | (with_reducible first | exact HB.out | apply l1 | apply l2 | apply l3 | refine below_set ?_ GE222.out) | exact HB.out)) hb); (try clear hb); (try clear hb2); (try clear hk); (try clear hi); obtain ⟨hcz49_0, hcz49_1, hcz49_2, hcz49_3, hcz49_4, hcz49_5, hcz49_6, hcz49_7, hcz49_8, hfz49_0, hfz49_1, hfz49_2, hfz49_3, hfz49_4, hfz49_5, hfz49_6, hfz49_7, hfz49_8⟩ := blk_cells9 BK222.out) | ((with_reducible refine gate_callee (f := 48) rfl ?_); refine goesL_ (some 57) rfl rfl Try.func48 (by kernel_rfl) rfl #[.agg #[.string a0_7, .slice A0_8 l0_8.length c0_8]] rfl (by (try simp only [List.map_toArray, List.map_cons, List.map_nil]); first | done | rfl | (simp only [List.length_drop, List.length_take]; rfl)) ?_; (with_reducible refine (style_Check.calls kj19 a0_7 _ _ l0_8 t231 _ ?side1 ?side2 A46.out).mono ?_); (case side1 => repeat (first | exact (Kd.C_below HR0_8.out HB.out) | (with_reducible refine Kd.C_alloc ?_ _) | (with_reducible refine Kd.C_drewN ?_ _) | (with_reducible refine Kd.C_drew ?_))); (case side2 => exact HC0_8.out); rintro e w50 ⟨rfl, hb⟩; refine ⟨_, rfl, ?_⟩; replace BK222 := Aside0.mk (bB BK222.out hb); replace HB := Aside0.mk (below_step (by repeat (first | (with_reducible first | exact HB.out | apply l1 | apply l2 | apply l3 | refine below_set ?_ GE222.out) | exact HB.out)) hb); (try clear hb); (try clear hb2); (try clear hk); (try clear hi)))
       go_ret
       exact ⟨by first | rfl | (simp [errW_none, errW_some] <;> rfl) | (simp [*, errW_none, errW_some] <;> rfl), by repeat (first | (with_reducible first | exact HB.out | apply l1 | apply l2 | apply l3 | refine below_set ?_ GE222.out) | exact HB.out)⟩
      ·rw [if_neg c45] at H
       have c45b0 : (t230 == 0) = false := beq_eq_false_iff_ne.mpr c45
       have c45b1 : (t230 != 0) = true := bne_iff_ne.mpr c45
       obtain rfl := Option.some.inj H
       obtain ⟨hcz51_0, hcz51_1, hcz51_2, hcz51_3, hcz51_4, hcz51_5, hcz51_6, hcz51_7, hcz51_8, hfz51_0, hfz51_1, hfz51_2, hfz51_3, hfz51_4, hfz51_5, hfz51_6, hfz51_7, hfz51_8⟩ := blk_cells9 BK222.out
       go_wp2_with (first | ((with_reducible refine gate_callee (f := 47) rfl ?_); refine goesL_ (some 51) rfl rfl Try.func47 (by kernel_rfl) rfl #[.string a0_6] rfl (by (try simp only [List.map_toArray, List.map_cons, List.map_nil]); first | done | rfl | (simp only [List.length_drop, List.length_take]; rfl)) ?_; (with_reducible refine (cue_named.calls a0_6 t230 _ A44.out).mono ?_); rintro e w52 ⟨rfl, hb⟩; refine ⟨_, rfl, ?_⟩; replace BK222 := Aside0.mk (bB BK222.out hb); replace HB := Aside0.mk (below_step (by repeat (first | (with_reducible first | exact HB.out | apply l1 | apply l2 | apply l3 | refine below_set ?_ GE222.out) | exact HB.out)) hb); (try clear hb); (try clear hb2); (try clear hk); (try clear hi)))
       go_ret
       exact ⟨by first | rfl | (simp [errW_none, errW_some] <;> rfl) | (simp [*, errW_none, errW_some] <;> rfl), by repeat (first | (with_reducible first | exact HB.out | apply l1 | apply l2 | apply l3 | refine below_set ?_ GE222.out) | exact HB.out)⟩
end Go.Proofs.Ytlbicmdfdpcdiaa.PDa
