-- printed
import Derived.Test.YtlbicmdfdpcdiaaDnPDax0
import Derived.Test.YtlbicmdfdpcdiaaDnPDax4
import Derived.Test.YtlbicmdfdpcdiaaDnPDax5
import Derived.Test.YtlbicmdfdpcdiaaDnPDax7
import Derived.Test.YtlbicmdfdpcdiaaDnPDax12
namespace Go.Proofs.Ytlbicmdfdpcdiaa.PDa
open Go.RowKit Go.Proofs.YtlbicmdfdpcdiaaW.PrintWords Go.Proofs.YtlbicmdfdpcdiaaW.PrintLast Go.Proofs.YtlbicmdfdpcdiaaW.PrintMore
attribute [local go_sem] max2_int min2_int max_two min_two max_three min_three max_four min_four
set_option linter.unusedVariables false
set_option linter.unusedSimpArgs false
attribute [local go_sem high] eqA88
def ratio_frac_floor.j0 : Nat → Bool → Bool → Int → Int → Int → Int → Int → Int → Option (Int × Int × Bool)
 | 0, _, _, _, _, _, _, _, _ => none
 | k + 1, x20, x249000, x249001, x249002, x249003, x249004, x255000, x255001 => if x20 = true then ((ratio_small.f 1).bind fun bt256 => ((ratio_wide_plus.f x255000 x255001 bt256.1 bt256.2).bind fun bt258 => (some (bt258.1, bt258.2, x249000)))) else (some (x255000, x255001, x249000))
def ratio_frac_floor.f (k : Nat) (a0_0 : Bool) (a0_1 : Int) (a0_2 : Int) (a0_3 : Int) (a0_4 : Int) : Option (Int × Int × Bool) := (ratio_wide_over.f k a0_1 a0_2 a0_3 a0_4).bind fun bt250 => (if a0_0 = true then (ratio_frac_floor.j0 k (!(bt250.2.2.1 == 0) || (!(bt250.2.2.2 == 0))) a0_0 a0_1 a0_2 a0_3 a0_4 bt250.1 bt250.2.1) else (ratio_frac_floor.j0 k false a0_0 a0_1 a0_2 a0_3 a0_4 bt250.1 bt250.2.1))
set_option maxHeartbeats 8000000 in
set_option maxRecDepth 100000 in
theorem ratio_frac_floor.calls (k : Nat) (a0_0 : Bool) (a0_1 : Int) (a0_2 : Int) (a0_3 : Int) (a0_4 : Int) (r1 : Int) (r2 : Int) (r3 : Bool) (w : World) (h : ratio_frac_floor.f k a0_0 a0_1 a0_2 a0_3 a0_4 = some (r1, r2, r3)) :
  Calls Try.prog 64 #[.agg #[.bool a0_0, .int .u64 a0_1, .int .u64 a0_2, .int .u64 a0_3, .int .u64 a0_4]] w fun e w' => e = .returned (.tuple #[.agg #[.int .u64 r1, .int .u64 r2], .bool r3]) ∧ Below w.heap.size w w' := by
 have hu101 := Try.underlying101
 have hu88 := Try.underlying88
 have HB := Aside0.mk (Below.refl w.heap.size w)
 have H : ((ratio_wide_over.f k a0_1 a0_2 a0_3 a0_4).bind fun bt250 => (if a0_0 = true then (ratio_frac_floor.j0 k (!(bt250.2.2.1 == 0) || (!(bt250.2.2.2 == 0))) a0_0 a0_1 a0_2 a0_3 a0_4 bt250.1 bt250.2.1) else (ratio_frac_floor.j0 k false a0_0 a0_1 a0_2 a0_3 a0_4 bt250.1 bt250.2.1))) = some (r1, r2, r3) := h
 clear h
 replace H := Option.bind_eq_some_iff.mp H
 obtain ⟨⟨t250, t251, t252, t253⟩, A20, H⟩ := H
 (try dsimp only at H)
 have A2 := Aside0.mk A20
 clear A20
 have HC3 := Aside0.mk H
 clear H
 go_enter Try.func64, Try.ntmps64
 go_upto_region 2 with (first | ((with_reducible refine gate_dst (N := 1) rfl ?_); refine box_event (by rfl) (N := 1) (by rfl) (cs := #[.bool a0_0, .int .u64 a0_1, .int .u64 a0_2, .int .u64 a0_3, .int .u64 a0_4]) (t := 101) (by first | (go_simp; done) | (go_simp; rfl)) ?_; intro gb248 hg w4 hbox hb; obtain ⟨hb_, hw_⟩ := box_facts (lA HB.out) hg hb; replace HB := Aside0.mk (hb_); have BK248 := Aside0.mk (hbox); have GW248 := Aside0.mk (hw_); have GE248 := Aside0.mk (hw_); clear hb hbox hg hb_ hw_) | ((with_reducible refine gate_dst (N := 2) rfl ?_); refine box_event (by rfl) (N := 2) (by rfl) (cs := #[.int .u64 0, .int .u64 0]) (t := 88) (by first | (go_simp; done) | (go_simp; rfl)) ?_; intro gb249 hg w5 hbox hb; obtain ⟨hb_, hw_⟩ := box_facts (by repeat (first | (with_reducible first | exact HB.out | apply l1 | apply l2 | apply l3 | refine below_set ?_ GE248.out) | exact HB.out)) hg hb; replace HB := Aside0.mk (hb_); have BK249 := Aside0.mk (hbox); have GW249 := Aside0.mk (hw_); have GE249 := Aside0.mk (hw_); have NB248_249 := Aside0.mk ((nL hg BK248.out)); have NB249_248 := Aside0.mk ((nG hg BK248.out)); replace BK248 := Aside0.mk (bB BK248.out hb); clear hb hbox hg hb_ hw_; have hnb6 := NB248_249.out; have hnc6 := NB249_248.out; obtain ⟨hcz7_0, hcz7_1, hcz7_2, hcz7_3, hcz7_4, hfz7_0, hfz7_1, hfz7_2, hfz7_3, hfz7_4⟩ := blk_cells5 BK248.out) | ((with_reducible refine gate_callee (f := 74) rfl ?_); refine goesL_ (some 11) rfl rfl Try.func74 (by kernel_rfl) rfl #[.agg #[.int .u64 a0_1, .int .u64 a0_2], .agg #[.int .u64 a0_3, .int .u64 a0_4]] rfl (by (try simp only [List.map_toArray, List.map_cons, List.map_nil]); first | done | rfl | (simp only [List.length_drop, List.length_take]; rfl)) ?_; (with_reducible refine (ratio_wide_over.calls k a0_1 a0_2 a0_3 a0_4 t250 t251 t252 t253 _ A2.out).mono ?_); rintro e w8 ⟨rfl, hb⟩; refine ⟨_, rfl, ?_⟩; replace BK248 := Aside0.mk (bB BK248.out hb); replace BK249 := Aside0.mk (bB BK249.out hb); replace HB := Aside0.mk (below_step (by repeat (first | (with_reducible first | exact HB.out | apply l1 | apply l2 | apply l3 | refine below_set ?_ GE248.out | refine below_set ?_ GE249.out) | exact HB.out)) hb); (try clear hb); (try clear hb2); (try clear hk); (try clear hi)) | ((with_reducible refine gate_dst (N := 4) rfl ?_); refine box_event (by rfl) (N := 4) (by rfl) (cs := #[.int .u64 0, .int .u64 0]) (t := 88) (by first | (go_simp; done) | (go_simp; rfl)) ?_; intro gb254 hg w9 hbox hb; obtain ⟨hb_, hw_⟩ := box_facts (by repeat (first | (with_reducible first | exact HB.out | apply l1 | apply l2 | apply l3 | refine below_set ?_ GE248.out | refine below_set ?_ GE249.out) | exact HB.out)) hg hb; replace HB := Aside0.mk (hb_); have BK254 := Aside0.mk (hbox); have GW254 := Aside0.mk (hw_); have GE254 := Aside0.mk (hw_); have NB248_254 := Aside0.mk ((nL hg BK248.out)); have NB254_248 := Aside0.mk ((nG hg BK248.out)); replace BK248 := Aside0.mk (bB BK248.out hb); have NB249_254 := Aside0.mk ((nL hg BK249.out)); have NB254_249 := Aside0.mk ((nG hg BK249.out)); replace BK249 := Aside0.mk (bB BK249.out hb); clear hb hbox hg hb_ hw_) | ((with_reducible refine gate_dst (N := 5) rfl ?_); refine box_event (by rfl) (N := 5) (by rfl) (cs := #[.int .u64 0, .int .u64 0]) (t := 88) (by first | (go_simp; done) | (go_simp; rfl)) ?_; intro gb255 hg w10 hbox hb; obtain ⟨hb_, hw_⟩ := box_facts (by repeat (first | (with_reducible first | exact HB.out | apply l1 | apply l2 | apply l3 | refine below_set ?_ GE248.out | refine below_set ?_ GE249.out | refine below_set ?_ GE254.out) | exact HB.out)) hg hb; replace HB := Aside0.mk (hb_); have BK255 := Aside0.mk (hbox); have GW255 := Aside0.mk (hw_); have GE255 := Aside0.mk (hw_); have NB248_255 := Aside0.mk ((nL hg BK248.out)); have NB255_248 := Aside0.mk ((nG hg BK248.out)); replace BK248 := Aside0.mk (bB BK248.out hb); have NB249_255 := Aside0.mk ((nL hg BK249.out)); have NB255_249 := Aside0.mk ((nG hg BK249.out)); replace BK249 := Aside0.mk (bB BK249.out hb); have NB254_255 := Aside0.mk ((nL hg BK254.out)); have NB255_254 := Aside0.mk ((nG hg BK254.out)); replace BK254 := Aside0.mk (bB BK254.out hb); clear hb hbox hg hb_ hw_; have hnb11 := NB254_248.out; have hnc11 := NB248_254.out; have hnb12 := NB254_249.out; have hnc12 := NB249_254.out; have hnb13 := NB254_255.out; have hnc13 := NB255_254.out; obtain ⟨hcz14_0, hcz14_1, hfz14_0, hfz14_1⟩ := blk_cells2 BK254.out; have hnb15 := NB255_248.out; have hnc15 := NB248_255.out; have hnb16 := NB255_249.out; have hnc16 := NB249_255.out; obtain ⟨hcz17_0, hcz17_1, hfz17_0, hfz17_1⟩ := blk_cells2 BK255.out))
 (try simp only [Act.put, List.setIfInBounds_toArray, List.set_cons_zero, List.set_cons_succ])
 go_cut [20] (fun v20 wc => ∃ (kq : Nat) (x20_2 : Bool), v20 = .bool x20_2 ∧ Aside0 (ratio_frac_floor.j0 kq x20_2 a0_0 a0_1 a0_2 a0_3 a0_4 t250 t251 = some (r1, r2, r3)) ∧ Aside0 (kq ≤ k) ∧ Aside0 (wc.heap[gb248]? = some (.cells #[.bool a0_0, .int .u64 a0_1, .int .u64 a0_2, .int .u64 a0_3, .int .u64 a0_4] 101 (0, 0))) ∧ Aside0 (wc.heap[gb249]? = some (.cells #[.int .u64 0, .int .u64 0] 88 (0, 0))) ∧ Aside0 (wc.heap[gb254]? = some (.cells #[.int .u64 t250, .int .u64 t251] 88 (0, 0))) ∧ Aside0 (wc.heap[gb255]? = some (.cells #[.int .u64 t252, .int .u64 t253] 88 (0, 0))) ∧ Aside0 (Below w.heap.size w wc))
 case first =>
  have H := HC3.out
  clear HC3
  by_cases c18 : a0_0 = true
  ·subst c18
   have H1 : (ratio_frac_floor.j0 k (!(t252 == 0) || (!(t253 == 0))) true a0_1 a0_2 a0_3 a0_4 t250 t251) = some (r1, r2, r3) := by rw [if_pos rfl] at H; exact H
   clear H
   have H := H1
   clear H1
   have H' := Aside0.mk H
   clear H
   have hnb19 := NB248_249.out
   have hnc19 := NB249_248.out
   have hnb20 := NB248_254.out
   have hnc20 := NB254_248.out
   have hnb21 := NB248_255.out
   have hnc21 := NB255_248.out
   obtain ⟨hcz22_0, hcz22_1, hcz22_2, hcz22_3, hcz22_4, hfz22_0, hfz22_1, hfz22_2, hfz22_3, hfz22_4⟩ := blk_cells5 BK248.out
   have hnb23 := NB255_249.out
   have hnc23 := NB249_255.out
   have hnb24 := NB255_254.out
   have hnc24 := NB254_255.out
   obtain ⟨hcz25_0, hcz25_1, hfz25_0, hfz25_1⟩ := blk_cells2 BK255.out
   go_wp2
   go_meet
   case rel => exact ⟨_, ((!(t252 == 0) || (!(t253 == 0)))), (by first | rfl | (simp; done) | (simp [*]; done)), H', ⟨by first | omega | exact Nat.le_refl _⟩, ⟨by (with_reducible repeat (first | apply b1 | apply b2 | apply b3)); refine blk_far ?_ NB248_255.out _; (with_reducible repeat (first | apply b1 | apply b2 | apply b3)); refine blk_far ?_ NB248_255.out _; (with_reducible repeat (first | apply b1 | apply b2 | apply b3)); refine blk_far ?_ NB248_254.out _; (with_reducible repeat (first | apply b1 | apply b2 | apply b3)); refine blk_far ?_ NB248_254.out _; (with_reducible repeat (first | apply b1 | apply b2 | apply b3)); exact BK248.out⟩, ⟨by (with_reducible repeat (first | apply b1 | apply b2 | apply b3)); refine blk_far ?_ NB249_255.out _; (with_reducible repeat (first | apply b1 | apply b2 | apply b3)); refine blk_far ?_ NB249_255.out _; (with_reducible repeat (first | apply b1 | apply b2 | apply b3)); refine blk_far ?_ NB249_254.out _; (with_reducible repeat (first | apply b1 | apply b2 | apply b3)); refine blk_far ?_ NB249_254.out _; (with_reducible repeat (first | apply b1 | apply b2 | apply b3)); exact BK249.out⟩, ⟨by (with_reducible repeat (first | apply b1 | apply b2 | apply b3)); refine blk_far ?_ NB254_255.out _; (with_reducible repeat (first | apply b1 | apply b2 | apply b3)); refine blk_far ?_ NB254_255.out _; (with_reducible repeat (first | apply b1 | apply b2 | apply b3)); refine blk_put (cs := #[.int .u64 t250, .int .u64 0]) ?_ 1 _ rfl; (with_reducible repeat (first | apply b1 | apply b2 | apply b3)); refine blk_put (cs := #[.int .u64 0, .int .u64 0]) ?_ 0 _ rfl; (with_reducible repeat (first | apply b1 | apply b2 | apply b3)); exact BK254.out⟩, ⟨by (with_reducible repeat (first | apply b1 | apply b2 | apply b3)); refine blk_put (cs := #[.int .u64 t252, .int .u64 0]) ?_ 1 _ rfl; (with_reducible repeat (first | apply b1 | apply b2 | apply b3)); refine blk_put (cs := #[.int .u64 0, .int .u64 0]) ?_ 0 _ rfl; (with_reducible repeat (first | apply b1 | apply b2 | apply b3)); refine blk_far ?_ NB255_254.out _; (with_reducible repeat (first | apply b1 | apply b2 | apply b3)); refine blk_far ?_ NB255_254.out _; (with_reducible repeat (first | apply b1 | apply b2 | apply b3)); exact BK255.out⟩, ⟨by repeat (first | (with_reducible first | exact HB.out | apply l1 | apply l2 | apply l3 | refine below_set ?_ GE248.out | refine below_set ?_ GE249.out | refine below_set ?_ GE254.out | refine below_set ?_ GE255.out) | exact HB.out)⟩⟩
  ·replace c18 := Bool.eq_false_iff.mpr c18
   subst c18
   have H1 : (ratio_frac_floor.j0 k false false a0_1 a0_2 a0_3 a0_4 t250 t251) = some (r1, r2, r3) := by rw [if_neg (show ¬ (false = true) by decide)] at H; exact H
   clear H
   have H := H1
   clear H1
   have H' := Aside0.mk H
   clear H
   have hnb26 := NB248_249.out
   have hnc26 := NB249_248.out
   have hnb27 := NB248_254.out
   have hnc27 := NB254_248.out
   have hnb28 := NB248_255.out
   have hnc28 := NB255_248.out
   obtain ⟨hcz29_0, hcz29_1, hcz29_2, hcz29_3, hcz29_4, hfz29_0, hfz29_1, hfz29_2, hfz29_3, hfz29_4⟩ := blk_cells5 BK248.out
   go_wp2
   go_meet
   case rel => exact ⟨_, (false), (by first | rfl | (simp; done) | (simp [*]; done)), H', ⟨by first | omega | exact Nat.le_refl _⟩, ⟨by (with_reducible repeat (first | apply b1 | apply b2 | apply b3)); refine blk_far ?_ NB248_255.out _; (with_reducible repeat (first | apply b1 | apply b2 | apply b3)); refine blk_far ?_ NB248_255.out _; (with_reducible repeat (first | apply b1 | apply b2 | apply b3)); refine blk_far ?_ NB248_254.out _; (with_reducible repeat (first | apply b1 | apply b2 | apply b3)); refine blk_far ?_ NB248_254.out _; (with_reducible repeat (first | apply b1 | apply b2 | apply b3)); exact BK248.out⟩, ⟨by (with_reducible repeat (first | apply b1 | apply b2 | apply b3)); refine blk_far ?_ NB249_255.out _; (with_reducible repeat (first | apply b1 | apply b2 | apply b3)); refine blk_far ?_ NB249_255.out _; (with_reducible repeat (first | apply b1 | apply b2 | apply b3)); refine blk_far ?_ NB249_254.out _; (with_reducible repeat (first | apply b1 | apply b2 | apply b3)); refine blk_far ?_ NB249_254.out _; (with_reducible repeat (first | apply b1 | apply b2 | apply b3)); exact BK249.out⟩, ⟨by (with_reducible repeat (first | apply b1 | apply b2 | apply b3)); refine blk_far ?_ NB254_255.out _; (with_reducible repeat (first | apply b1 | apply b2 | apply b3)); refine blk_far ?_ NB254_255.out _; (with_reducible repeat (first | apply b1 | apply b2 | apply b3)); refine blk_put (cs := #[.int .u64 t250, .int .u64 0]) ?_ 1 _ rfl; (with_reducible repeat (first | apply b1 | apply b2 | apply b3)); refine blk_put (cs := #[.int .u64 0, .int .u64 0]) ?_ 0 _ rfl; (with_reducible repeat (first | apply b1 | apply b2 | apply b3)); exact BK254.out⟩, ⟨by (with_reducible repeat (first | apply b1 | apply b2 | apply b3)); refine blk_put (cs := #[.int .u64 t252, .int .u64 0]) ?_ 1 _ rfl; (with_reducible repeat (first | apply b1 | apply b2 | apply b3)); refine blk_put (cs := #[.int .u64 0, .int .u64 0]) ?_ 0 _ rfl; (with_reducible repeat (first | apply b1 | apply b2 | apply b3)); refine blk_far ?_ NB255_254.out _; (with_reducible repeat (first | apply b1 | apply b2 | apply b3)); refine blk_far ?_ NB255_254.out _; (with_reducible repeat (first | apply b1 | apply b2 | apply b3)); exact BK255.out⟩, ⟨by repeat (first | (with_reducible first | exact HB.out | apply l1 | apply l2 | apply l3 | refine below_set ?_ GE248.out | refine below_set ?_ GE249.out | refine below_set ?_ GE254.out | refine below_set ?_ GE255.out) | exact HB.out)⟩⟩
 case rest =>
  clear HC3
  try clear c1
  try clear c2
  try clear p2
  try clear c6
  try clear c7
  try clear c11
  try clear c12
  try clear c13
  try clear c15
  try clear c16
  try clear c18
  try clear c19
  try clear c20
  try clear c21
  try clear c23
  try clear c24
  try clear c26
  try clear c27
  try clear c28
  try clear hcz14_0
  try clear hcz14_1
  try clear hcz17_0
  try clear hcz17_1
  try clear hcz22_0
  try clear hcz22_1
  try clear hcz22_2
  try clear hcz22_3
  try clear hcz22_4
  try clear hcz25_0
  try clear hcz25_1
  try clear hcz29_0
  try clear hcz29_1
  try clear hcz29_2
  try clear hcz29_3
  try clear hcz29_4
  try clear hcz7_0
  try clear hcz7_1
  try clear hcz7_2
  try clear hcz7_3
  try clear hcz7_4
  try clear hfz14_0
  try clear hfz14_1
  try clear hfz17_0
  try clear hfz17_1
  try clear hfz22_0
  try clear hfz22_1
  try clear hfz22_2
  try clear hfz22_3
  try clear hfz22_4
  try clear hfz25_0
  try clear hfz25_1
  try clear hfz29_0
  try clear hfz29_1
  try clear hfz29_2
  try clear hfz29_3
  try clear hfz29_4
  try clear hfz7_0
  try clear hfz7_1
  try clear hfz7_2
  try clear hfz7_3
  try clear hfz7_4
  obtain ⟨kq, x20_2, rfl, HA, HJ2, BK248, BK249, BK254, BK255, HB⟩ := hcut
  cases kq with
  | zero => exact absurd HA.out (by simp [ratio_frac_floor.j0])
  | succ kj2 =>
   have H := HA.out
   clear HA
   simp only [ratio_frac_floor.j0] at H
   by_cases c30 : x20_2 = true
   ·subst c30
    have H1 : ((ratio_small.f 1).bind fun bt256 => ((ratio_wide_plus.f t250 t251 bt256.1 bt256.2).bind fun bt258 => (some (bt258.1, bt258.2, a0_0)))) = some (r1, r2, r3) := by rw [if_pos rfl] at H; exact H
    clear H
    have H := H1
    clear H1
    replace H := Option.bind_eq_some_iff.mp H
    obtain ⟨⟨t256, t257⟩, A310, H⟩ := H
    (try dsimp only at H)
    have A31 := Aside0.mk A310
    clear A310
    replace H := Option.bind_eq_some_iff.mp H
    obtain ⟨⟨t258, t259⟩, A320, H⟩ := H
    (try dsimp only at H)
    have A32 := Aside0.mk A320
    clear A320
    simp only [Option.some.injEq, Prod.mk.injEq] at H
    obtain ⟨rfl, rfl, rfl⟩ := H
    try go_wp2
    replace BK248 := Aside0.mk (blk_drew BK248.out)
    replace BK249 := Aside0.mk (blk_drew BK249.out)
    replace BK254 := Aside0.mk (blk_drew BK254.out)
    replace BK255 := Aside0.mk (blk_drew BK255.out)
    replace HB := Aside0.mk (below_drew1 HB.out)
    refine start_ (n := 4) (S := fun w' => w'.cell? ⟨gb254, 0, none⟩ = some (.int .u64 t250) ∧ w'.cell? ⟨gb254, 1, none⟩ = some (.int .u64 t251)) (ds := [3]) #[false, false, false, false] (by kernel_rfl) rfl rfl ⟨(blk_cell BK254.out 0).trans rfl, (blk_cell BK254.out 1).trans rfl⟩ (fun hHeld => ?_)
    generalize wc.drew = w33 at BK248 BK249 BK254 BK255 HB hHeld ⊢
    refine take_ (i := 0) (N := some 21) (v := ?_) (a' := ?_) #[true, false, false, false] rfl rfl (by kernel_rfl) (fun _ _ _ h => h) (Or.inl ⟨by rfl, ?_⟩) hHeld ?_ ?_
    rotate_left
    ·rintro w' ⟨s0, s1⟩
     go_simp
     with_reducible rfl
    rotate_left
    ·simp only [Act.put, List.setIfInBounds_toArray, List.set_cons_zero, List.set_cons_succ, i64_w, i32_w]
     rfl
    refine one_ (i := 1) (N := some 22) #[true, true, false, false] rfl rfl (by kernel_rfl) (by decide) (fun K hK => ?_)
    refine goes_ Try.func52 (by kernel_rfl) rfl #[.int .u64 1] (by rfl) rfl rfl (by (try simp only [List.map_toArray, List.map_cons, List.map_nil]); first | done | rfl | (simp only [List.length_drop, List.length_take]; rfl)) ?_
    with_reducible refine (ratio_small.calls 1 t256 t257 _ A31.out).mono ?_
    rintro e w34 ⟨rfl, hb⟩
    refine ⟨_, rfl, ?_⟩
    replace BK248 := Aside0.mk (bB BK248.out hb)
    replace BK249 := Aside0.mk (bB BK249.out hb)
    replace BK254 := Aside0.mk (bB BK254.out hb)
    replace BK255 := Aside0.mk (bB BK255.out hb)
    replace HB := Aside0.mk (below_step (by repeat (first | (with_reducible first | exact HB.out | apply l1 | apply l2 | apply l3 | refine below_set ?_ GE248.out | refine below_set ?_ GE249.out | refine below_set ?_ GE254.out | refine below_set ?_ GE255.out) | exact HB.out)) hb)
    (try clear hb)
    (try clear hb2)
    (try clear hk)
    (try clear hi)
    refine hK.out _ _ ⟨(blk_cell BK254.out 0).trans rfl, (blk_cell BK254.out 1).trans rfl⟩ (fun hHeld => ?_)
    clear hK K
    refine norm_ (a' := ?_) ?_ ?_
    rotate_left
    ·show Act.put _ (some 22) _ = _
     simp only [Act.put, List.setIfInBounds_toArray, List.set_cons_zero, List.set_cons_succ, i64_w, i32_w]
     rfl
    refine one_ (i := 2) (N := some 23) #[true, true, true, false] rfl rfl (by kernel_rfl) (by decide) (fun K hK => ?_)
    refine goes_ Try.func75 (by kernel_rfl) rfl #[.agg #[.int .u64 t250, .int .u64 t251], .agg #[.int .u64 t256, .int .u64 t257]] (by rfl) rfl rfl (by (try simp only [List.map_toArray, List.map_cons, List.map_nil]); first | done | rfl | (simp only [List.length_drop, List.length_take]; rfl)) ?_
    with_reducible refine (ratio_wide_plus.calls t250 t251 t256 t257 t258 t259 _ A32.out).mono ?_
    rintro e w35 ⟨rfl, hb⟩
    refine ⟨_, rfl, ?_⟩
    replace BK248 := Aside0.mk (bB BK248.out hb)
    replace BK249 := Aside0.mk (bB BK249.out hb)
    replace BK254 := Aside0.mk (bB BK254.out hb)
    replace BK255 := Aside0.mk (bB BK255.out hb)
    replace HB := Aside0.mk (below_step (by repeat (first | (with_reducible first | exact HB.out | apply l1 | apply l2 | apply l3 | refine below_set ?_ GE248.out | refine below_set ?_ GE249.out | refine below_set ?_ GE254.out | refine below_set ?_ GE255.out) | exact HB.out)) hb)
    (try clear hb)
    (try clear hb2)
    (try clear hk)
    (try clear hi)
    refine hK.out _ _ ⟨(blk_cell BK254.out 0).trans rfl, (blk_cell BK254.out 1).trans rfl⟩ (fun hHeld => ?_)
    clear hK K
    refine norm_ (a' := ?_) ?_ ?_
    rotate_left
    ·show Act.put _ (some 23) _ = _
     simp only [Act.put, List.setIfInBounds_toArray, List.set_cons_zero, List.set_cons_succ, i64_w, i32_w]
     rfl
    refine last_ (i := 3) (N := none) #[true, true, true, true] rfl rfl (by kernel_rfl) (by decide) (fun K hK => ?_)
    have hs36 : w35.cell? ⟨gb254, 0, none⟩ = some (.int .u64 t250) := (blk_cell BK254.out 0).trans rfl
    have hfs36 := blk_frozen BK254.out 0
    have hns36_0 := NB248_254.out
    have hns36_1 := NB249_254.out
    have hns36_3 := NB255_254.out
    have hms36_0 := NB254_248.out
    have hms36_1 := NB254_249.out
    have hms36_3 := NB254_255.out
    have hs37 : w35.cell? ⟨gb254, 1, none⟩ = some (.int .u64 t251) := (blk_cell BK254.out 1).trans rfl
    have hfs37 := blk_frozen BK254.out 1
    have hns37_0 := NB248_254.out
    have hns37_1 := NB249_254.out
    have hns37_3 := NB255_254.out
    have hms37_0 := NB254_248.out
    have hms37_1 := NB254_249.out
    have hms37_3 := NB254_255.out
    refine skip_ (w1 := ?_) (by rfl) rfl ?_ ?_
    rotate_left
    ·go_simp
     rfl
    refine hK.out _ _ ?_
    clear hK K
    refine done_ (by kernel_rfl) ?_
    try go_wp2
    have n0_ : Aside0 (((w35.setCell ⟨gb254, 0, none⟩ (.int .u64 t258)).setCell ⟨gb254, 1, none⟩ (.int .u64 t259)).heap[gb248]? = some (.cells #[.bool a0_0, .int .u64 a0_1, .int .u64 a0_2, .int .u64 a0_3, .int .u64 a0_4] 101 (0, 0))) := ⟨by (with_reducible repeat (first | apply b1 | apply b2 | apply b3)); refine blk_far ?_ NB248_254.out _; (with_reducible repeat (first | apply b1 | apply b2 | apply b3)); refine blk_far ?_ NB248_254.out _; (with_reducible repeat (first | apply b1 | apply b2 | apply b3)); exact BK248.out⟩
    have n1_ : Aside0 (((w35.setCell ⟨gb254, 0, none⟩ (.int .u64 t258)).setCell ⟨gb254, 1, none⟩ (.int .u64 t259)).heap[gb249]? = some (.cells #[.int .u64 0, .int .u64 0] 88 (0, 0))) := ⟨by (with_reducible repeat (first | apply b1 | apply b2 | apply b3)); refine blk_far ?_ NB249_254.out _; (with_reducible repeat (first | apply b1 | apply b2 | apply b3)); refine blk_far ?_ NB249_254.out _; (with_reducible repeat (first | apply b1 | apply b2 | apply b3)); exact BK249.out⟩
    have n2_ : Aside0 (((w35.setCell ⟨gb254, 0, none⟩ (.int .u64 t258)).setCell ⟨gb254, 1, none⟩ (.int .u64 t259)).heap[gb254]? = some (.cells #[.int .u64 t258, .int .u64 t259] 88 (0, 0))) := ⟨by (with_reducible repeat (first | apply b1 | apply b2 | apply b3)); refine blk_put (cs := #[.int .u64 t258, .int .u64 t251]) ?_ 1 _ rfl; (with_reducible repeat (first | apply b1 | apply b2 | apply b3)); refine blk_put (cs := #[.int .u64 t250, .int .u64 t251]) ?_ 0 _ rfl; (with_reducible repeat (first | apply b1 | apply b2 | apply b3)); exact BK254.out⟩
    have n3_ : Aside0 (((w35.setCell ⟨gb254, 0, none⟩ (.int .u64 t258)).setCell ⟨gb254, 1, none⟩ (.int .u64 t259)).heap[gb255]? = some (.cells #[.int .u64 t252, .int .u64 t253] 88 (0, 0))) := ⟨by (with_reducible repeat (first | apply b1 | apply b2 | apply b3)); refine blk_far ?_ NB255_254.out _; (with_reducible repeat (first | apply b1 | apply b2 | apply b3)); refine blk_far ?_ NB255_254.out _; (with_reducible repeat (first | apply b1 | apply b2 | apply b3)); exact BK255.out⟩
    have n4_ : Aside0 (Below w.heap.size w ((w35.setCell ⟨gb254, 0, none⟩ (.int .u64 t258)).setCell ⟨gb254, 1, none⟩ (.int .u64 t259))) := ⟨by repeat (first | (with_reducible first | exact HB.out | apply l1 | apply l2 | apply l3 | refine below_set ?_ GE248.out | refine below_set ?_ GE249.out | refine below_set ?_ GE254.out | refine below_set ?_ GE255.out) | exact HB.out)⟩
    (try clear BK248)
    (try clear BK249)
    (try clear BK254)
    (try clear BK255)
    (try clear HB)
    generalize ((w35.setCell ⟨gb254, 0, none⟩ (.int .u64 t258)).setCell ⟨gb254, 1, none⟩ (.int .u64 t259)) = w38 at n0_ n1_ n2_ n3_ n4_ ⊢
    have BK248 := n0_
    have BK249 := n1_
    have BK254 := n2_
    have BK255 := n3_
    have HB := n4_
    clear n0_ n1_ n2_ n3_ n4_
    replace BK248 := Aside0.mk (blk_drew BK248.out)
    replace BK249 := Aside0.mk (blk_drew BK249.out)
    replace BK254 := Aside0.mk (blk_drew BK254.out)
    replace BK255 := Aside0.mk (blk_drew BK255.out)
    replace HB := Aside0.mk (below_drew1 HB.out)
    refine start_ (n := 5) (S := fun w' => w'.cell? ⟨gb254, 0, none⟩ = some (.int .u64 t258) ∧ w'.cell? ⟨gb254, 1, none⟩ = some (.int .u64 t259) ∧ w'.cell? ⟨gb248, 0, none⟩ = some (.bool a0_0) ∧ w'.cell? ⟨gb248, 1, none⟩ = some (.int .u64 a0_1) ∧ w'.cell? ⟨gb248, 2, none⟩ = some (.int .u64 a0_2) ∧ w'.cell? ⟨gb248, 3, none⟩ = some (.int .u64 a0_3) ∧ w'.cell? ⟨gb248, 4, none⟩ = some (.int .u64 a0_4)) (ds := []) #[false, false, false, false, false] (by kernel_rfl) rfl rfl ⟨(blk_cell BK254.out 0).trans rfl, (blk_cell BK254.out 1).trans rfl, (blk_cell BK248.out 0).trans rfl, (blk_cell BK248.out 1).trans rfl, (blk_cell BK248.out 2).trans rfl, (blk_cell BK248.out 3).trans rfl, (blk_cell BK248.out 4).trans rfl⟩ (fun hHeld => ?_)
    generalize w38.drew = w39 at BK248 BK249 BK254 BK255 HB hHeld ⊢
    refine sched [(1, some 25), (0, some 24), (2, some 26)] ?_
    iterate 3 first
     |(refine pureS (v := ?_) (a' := ?_) rfl rfl (by kernel_rfl) (fun _ _ _ h => h) (Or.inl ⟨by rfl, ?_⟩) ?_ ?_
       rotate_left
       ·intro w'
        go_simp
        with_reducible rfl
       rotate_left
       ·simp only [Act.put, List.setIfInBounds_toArray, List.set_cons_zero, List.set_cons_succ, i64_w, i32_w]
        rfl)
     |(refine takeS (v := ?_) (a' := ?_) rfl rfl (by kernel_rfl) (fun _ _ _ h => h) (Or.inl ⟨by rfl, ?_⟩) hHeld ?_ ?_
       rotate_left
       ·rintro w' ⟨s0, s1, s2, s3, s4, s5, s6⟩
        go_simp
        with_reducible rfl
       rotate_left
       ·simp only [Act.put, List.setIfInBounds_toArray, List.set_cons_zero, List.set_cons_succ, i64_w, i32_w]
        rfl)
    refine unsched ?_
    refine one_ (i := 3) (N := none) #[true, true, true, true, false] rfl rfl (by kernel_rfl) (by decide) (fun K hK => ?_)
    have hs40 : w39.cell? ⟨gb249, 0, none⟩ = some (.int .u64 0) := (blk_cell BK249.out 0).trans rfl
    have hfs40 := blk_frozen BK249.out 0
    have hns40_0 := NB248_249.out
    have hns40_2 := NB254_249.out
    have hns40_3 := NB255_249.out
    have hms40_0 := NB249_248.out
    have hms40_2 := NB249_254.out
    have hms40_3 := NB249_255.out
    have hs41 : w39.cell? ⟨gb249, 1, none⟩ = some (.int .u64 0) := (blk_cell BK249.out 1).trans rfl
    have hfs41 := blk_frozen BK249.out 1
    have hns41_0 := NB248_249.out
    have hns41_2 := NB254_249.out
    have hns41_3 := NB255_249.out
    have hms41_0 := NB249_248.out
    have hms41_2 := NB249_254.out
    have hms41_3 := NB249_255.out
    refine skip_ (w1 := ?_) (by rfl) rfl ?_ ?_
    rotate_left
    ·go_simp
     rfl
    refine hK.out _ _ ⟨((cell_far (p := ⟨gb249, _, none⟩) NB254_249.out _).trans (((cell_far (p := ⟨gb249, _, none⟩) NB254_249.out _).trans (hHeld.1)))), ((cell_far (p := ⟨gb249, _, none⟩) NB254_249.out _).trans (((cell_far (p := ⟨gb249, _, none⟩) NB254_249.out _).trans (hHeld.2.1)))), ((cell_far (p := ⟨gb249, _, none⟩) NB248_249.out _).trans (((cell_far (p := ⟨gb249, _, none⟩) NB248_249.out _).trans (hHeld.2.2.1)))), ((cell_far (p := ⟨gb249, _, none⟩) NB248_249.out _).trans (((cell_far (p := ⟨gb249, _, none⟩) NB248_249.out _).trans (hHeld.2.2.2.1)))), ((cell_far (p := ⟨gb249, _, none⟩) NB248_249.out _).trans (((cell_far (p := ⟨gb249, _, none⟩) NB248_249.out _).trans (hHeld.2.2.2.2.1)))), ((cell_far (p := ⟨gb249, _, none⟩) NB248_249.out _).trans (((cell_far (p := ⟨gb249, _, none⟩) NB248_249.out _).trans (hHeld.2.2.2.2.2.1)))), ((cell_far (p := ⟨gb249, _, none⟩) NB248_249.out _).trans (((cell_far (p := ⟨gb249, _, none⟩) NB248_249.out _).trans (hHeld.2.2.2.2.2.2))))⟩ (fun hHeld => ?_)
    clear hK K
    refine pure_ (i := 4) (N := some 3) (v := ?_) (a' := ?_) #[true, true, true, true, true] rfl rfl (by kernel_rfl) (fun _ _ _ h => h) (Or.inl ⟨by rfl, ?_⟩) ?_ ?_
    rotate_left
    ·intro w'
     go_simp
     with_reducible rfl
    rotate_left
    ·simp only [Act.put, List.setIfInBounds_toArray, List.set_cons_zero, List.set_cons_succ, i64_w, i32_w]
     rfl
    refine done_ (by kernel_rfl) ?_
    try go_wp2
    refine bodyPost_ret (results_ct rfl _ _ gb249 88 #[.int .u64 t258, .int .u64 t259] (0, 0) _ rfl (by (with_reducible repeat (first | apply b1 | apply b2 | apply b3)); refine blk_put (cs := #[.int .u64 t258, .int .u64 0]) ?_ 1 _ rfl; (with_reducible repeat (first | apply b1 | apply b2 | apply b3)); refine blk_put (cs := #[.int .u64 0, .int .u64 0]) ?_ 0 _ rfl; (with_reducible repeat (first | apply b1 | apply b2 | apply b3)); exact BK249.out) Try.underlying88 rfl (by kernel_rfl)) rfl ?_
    exact ⟨by first | rfl | (simp [errW_none, errW_some] <;> rfl) | (simp [*, errW_none, errW_some] <;> rfl), by repeat (first | (with_reducible first | exact HB.out | apply l1 | apply l2 | apply l3 | refine below_set ?_ GE248.out | refine below_set ?_ GE249.out | refine below_set ?_ GE254.out | refine below_set ?_ GE255.out) | exact HB.out)⟩
   ·replace c30 := Bool.eq_false_iff.mpr c30
    subst c30
    have H1 : (some (t250, t251, a0_0)) = some (r1, r2, r3) := by rw [if_neg (show ¬ (false = true) by decide)] at H; exact H
    clear H
    have H := H1
    clear H1
    simp only [Option.some.injEq, Prod.mk.injEq] at H
    obtain ⟨rfl, rfl, rfl⟩ := H
    try go_wp2
    replace BK248 := Aside0.mk (blk_drew BK248.out)
    replace BK249 := Aside0.mk (blk_drew BK249.out)
    replace BK254 := Aside0.mk (blk_drew BK254.out)
    replace BK255 := Aside0.mk (blk_drew BK255.out)
    replace HB := Aside0.mk (below_drew1 HB.out)
    refine start_ (n := 5) (S := fun w' => w'.cell? ⟨gb254, 0, none⟩ = some (.int .u64 t250) ∧ w'.cell? ⟨gb254, 1, none⟩ = some (.int .u64 t251) ∧ w'.cell? ⟨gb248, 0, none⟩ = some (.bool a0_0) ∧ w'.cell? ⟨gb248, 1, none⟩ = some (.int .u64 a0_1) ∧ w'.cell? ⟨gb248, 2, none⟩ = some (.int .u64 a0_2) ∧ w'.cell? ⟨gb248, 3, none⟩ = some (.int .u64 a0_3) ∧ w'.cell? ⟨gb248, 4, none⟩ = some (.int .u64 a0_4)) (ds := []) #[false, false, false, false, false] (by kernel_rfl) rfl rfl ⟨(blk_cell BK254.out 0).trans rfl, (blk_cell BK254.out 1).trans rfl, (blk_cell BK248.out 0).trans rfl, (blk_cell BK248.out 1).trans rfl, (blk_cell BK248.out 2).trans rfl, (blk_cell BK248.out 3).trans rfl, (blk_cell BK248.out 4).trans rfl⟩ (fun hHeld => ?_)
    generalize wc.drew = w42 at BK248 BK249 BK254 BK255 HB hHeld ⊢
    refine sched [(1, some 25), (0, some 24), (2, some 26)] ?_
    iterate 3 first
     |(refine pureS (v := ?_) (a' := ?_) rfl rfl (by kernel_rfl) (fun _ _ _ h => h) (Or.inl ⟨by rfl, ?_⟩) ?_ ?_
       rotate_left
       ·intro w'
        go_simp
        with_reducible rfl
       rotate_left
       ·simp only [Act.put, List.setIfInBounds_toArray, List.set_cons_zero, List.set_cons_succ, i64_w, i32_w]
        rfl)
     |(refine takeS (v := ?_) (a' := ?_) rfl rfl (by kernel_rfl) (fun _ _ _ h => h) (Or.inl ⟨by rfl, ?_⟩) hHeld ?_ ?_
       rotate_left
       ·rintro w' ⟨s0, s1, s2, s3, s4, s5, s6⟩
        go_simp
        with_reducible rfl
       rotate_left
       ·simp only [Act.put, List.setIfInBounds_toArray, List.set_cons_zero, List.set_cons_succ, i64_w, i32_w]
        rfl)
    refine unsched ?_
    refine one_ (i := 3) (N := none) #[true, true, true, true, false] rfl rfl (by kernel_rfl) (by decide) (fun K hK => ?_)
    have hs43 : w42.cell? ⟨gb249, 0, none⟩ = some (.int .u64 0) := (blk_cell BK249.out 0).trans rfl
    have hfs43 := blk_frozen BK249.out 0
    have hns43_0 := NB248_249.out
    have hns43_2 := NB254_249.out
    have hns43_3 := NB255_249.out
    have hms43_0 := NB249_248.out
    have hms43_2 := NB249_254.out
    have hms43_3 := NB249_255.out
    have hs44 : w42.cell? ⟨gb249, 1, none⟩ = some (.int .u64 0) := (blk_cell BK249.out 1).trans rfl
    have hfs44 := blk_frozen BK249.out 1
    have hns44_0 := NB248_249.out
    have hns44_2 := NB254_249.out
    have hns44_3 := NB255_249.out
    have hms44_0 := NB249_248.out
    have hms44_2 := NB249_254.out
    have hms44_3 := NB249_255.out
    refine skip_ (w1 := ?_) (by rfl) rfl ?_ ?_
    rotate_left
    ·go_simp
     rfl
    refine hK.out _ _ ⟨((cell_far (p := ⟨gb249, _, none⟩) NB254_249.out _).trans (((cell_far (p := ⟨gb249, _, none⟩) NB254_249.out _).trans (hHeld.1)))), ((cell_far (p := ⟨gb249, _, none⟩) NB254_249.out _).trans (((cell_far (p := ⟨gb249, _, none⟩) NB254_249.out _).trans (hHeld.2.1)))), ((cell_far (p := ⟨gb249, _, none⟩) NB248_249.out _).trans (((cell_far (p := ⟨gb249, _, none⟩) NB248_249.out _).trans (hHeld.2.2.1)))), ((cell_far (p := ⟨gb249, _, none⟩) NB248_249.out _).trans (((cell_far (p := ⟨gb249, _, none⟩) NB248_249.out _).trans (hHeld.2.2.2.1)))), ((cell_far (p := ⟨gb249, _, none⟩) NB248_249.out _).trans (((cell_far (p := ⟨gb249, _, none⟩) NB248_249.out _).trans (hHeld.2.2.2.2.1)))), ((cell_far (p := ⟨gb249, _, none⟩) NB248_249.out _).trans (((cell_far (p := ⟨gb249, _, none⟩) NB248_249.out _).trans (hHeld.2.2.2.2.2.1)))), ((cell_far (p := ⟨gb249, _, none⟩) NB248_249.out _).trans (((cell_far (p := ⟨gb249, _, none⟩) NB248_249.out _).trans (hHeld.2.2.2.2.2.2))))⟩ (fun hHeld => ?_)
    clear hK K
    refine pure_ (i := 4) (N := some 3) (v := ?_) (a' := ?_) #[true, true, true, true, true] rfl rfl (by kernel_rfl) (fun _ _ _ h => h) (Or.inl ⟨by rfl, ?_⟩) ?_ ?_
    rotate_left
    ·intro w'
     go_simp
     with_reducible rfl
    rotate_left
    ·simp only [Act.put, List.setIfInBounds_toArray, List.set_cons_zero, List.set_cons_succ, i64_w, i32_w]
     rfl
    refine done_ (by kernel_rfl) ?_
    try go_wp2
    refine bodyPost_ret (results_ct rfl _ _ gb249 88 #[.int .u64 t250, .int .u64 t251] (0, 0) _ rfl (by (with_reducible repeat (first | apply b1 | apply b2 | apply b3)); refine blk_put (cs := #[.int .u64 t250, .int .u64 0]) ?_ 1 _ rfl; (with_reducible repeat (first | apply b1 | apply b2 | apply b3)); refine blk_put (cs := #[.int .u64 0, .int .u64 0]) ?_ 0 _ rfl; (with_reducible repeat (first | apply b1 | apply b2 | apply b3)); exact BK249.out) Try.underlying88 rfl (by kernel_rfl)) rfl ?_
    exact ⟨by first | rfl | (simp [errW_none, errW_some] <;> rfl) | (simp [*, errW_none, errW_some] <;> rfl), by repeat (first | (with_reducible first | exact HB.out | apply l1 | apply l2 | apply l3 | refine below_set ?_ GE248.out | refine below_set ?_ GE249.out | refine below_set ?_ GE254.out | refine below_set ?_ GE255.out) | exact HB.out)⟩
end Go.Proofs.Ytlbicmdfdpcdiaa.PDa
