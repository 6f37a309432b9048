-- printed
import Derived.Test.YtlbicmdfdpcdiaaDnPDax0
import Derived.Test.YtlbicmdfdpcdiaaDnPDax4
import Derived.Test.YtlbicmdfdpcdiaaDnPDax5
import Derived.Test.YtlbicmdfdpcdiaaDnPDax6
namespace Go.Proofs.Ytlbicmdfdpcdiaa.PDa
open Go.RowKit Go.Proofs.YtlbicmdfdpcdiaaW.PrintWords Go.Proofs.YtlbicmdfdpcdiaaW.PrintLast Go.Proofs.YtlbicmdfdpcdiaaW.PrintMore
attribute [local go_sem] max2_int min2_int max_two min_two max_three min_three max_four min_four
set_option linter.unusedVariables false
set_option linter.unusedSimpArgs false
attribute [local go_sem high] eqA88
theorem over_boxes {w w1 w2 w3 w4 : World} {g1 g2 g3 g4 : Nat} {x0 x1 y0 y1 : Int} (e1 : g1 = w.heap.size) (b1 : w1.heap[g1]? = some (.cells #[.int .u64 x0, .int .u64 x1] 88 (0, 0))) (l1 : Below w.heap.size w w1)
  (e2 : g2 = w1.heap.size) (b2 : w2.heap[g2]? = some (.cells #[.int .u64 y0, .int .u64 y1] 88 (0, 0))) (l2 : Below w1.heap.size w1 w2)
  (e3 : g3 = w2.heap.size) (b3 : w3.heap[g3]? = some (.cells #[.int .u64 0, .int .u64 0] 88 (0, 0))) (l3 : Below w2.heap.size w2 w3)
  (e4 : g4 = w3.heap.size) (b4 : w4.heap[g4]? = some (.cells #[.int .u64 0, .int .u64 0] 88 (0, 0))) (l4 : Below w3.heap.size w3 w4) :
  Aside0 (w4.heap[g1]? = some (.cells #[.int .u64 x0, .int .u64 x1] 88 (0, 0))) ∧ Aside0 (w4.heap[g2]? = some (.cells #[.int .u64 y0, .int .u64 y1] 88 (0, 0))) ∧ Aside0 (w4.heap[g3]? = some (.cells #[.int .u64 0, .int .u64 0] 88 (0, 0))) ∧ Aside0 (w4.heap[g4]? = some (.cells #[.int .u64 0, .int .u64 0] 88 (0, 0))) ∧
   Aside0 (Below w.heap.size w w4) ∧ Aside0 (w.heap.size ≤ g3) ∧ Aside0 (w.heap.size ≤ g4) ∧ Aside0 (g1 ≠ g3 ∧ g1 ≠ g4 ∧ g2 ≠ g3 ∧ g2 ≠ g4 ∧ g3 ≠ g4) := by
 have s1 := blk_lt b1; have s2 := blk_lt b2; have s3 := blk_lt b3
 have z1 := l1.size; have z2 := l2.size; have z3 := l3.size
 exact ⟨⟨blk_below (blk_below (blk_below b1 l2) l3) l4⟩, ⟨blk_below (blk_below b2 l3) l4⟩, ⟨blk_below b3 l4⟩, ⟨b4⟩, ⟨below_step (below_step (below_step l1 l2) l3) l4⟩, ⟨by omega⟩, ⟨by omega⟩, ⟨by omega, by omega, by omega, by omega, by omega⟩⟩
set_option maxHeartbeats 8000000 in
set_option maxRecDepth 100000 in
theorem over_lo (k : Nat) (a0_0 a0_1 a1_1 q r u : Int) (w : World) (hz : ¬ a1_1 = 0) (hM : Aside0 (IntKind.u64.wrap (a0_0.tdiv a1_1) = u)) (hd : bits_Div64.f k (Int.tmod a0_0 a1_1) a0_1 a1_1 = some (q, r)) :
  Calls Try.prog 74 #[.agg #[.int .u64 a0_0, .int .u64 a0_1], .agg #[.int .u64 0, .int .u64 a1_1]] w fun e w' => e = .returned (.tuple #[.agg #[.int .u64 u, .int .u64 q], .agg #[.int .u64 0, .int .u64 r]]) ∧ Below w.heap.size w w' := by
 have A := Aside0.mk hd
 clear hd
 have hu88 := Try.underlying88
 go_enter Try.func74, Try.ntmps74
 go_wp2_with (first | ((with_reducible refine gate_dst (N := 2) rfl ?_); refine box_event ?hg (N := 2) ?hd (cs := #[.int .u64 a0_0, .int .u64 a0_1]) (t := 88) ?hr ?_; (case hd => rfl); (case hg => rfl); (case hr => first | (go_simp; done) | (go_simp; rfl)); intro g1 e1 w1 b1 l1; have E1 := Aside0.mk e1; clear e1) | ((with_reducible refine gate_dst (N := 3) rfl ?_); refine box_event ?hg (N := 3) ?hd (cs := #[.int .u64 0, .int .u64 a1_1]) (t := 88) ?hr ?_; (case hd => rfl); (case hg => rfl); (case hr => first | (go_simp; done) | (go_simp; rfl)); intro g2 e2 w2 b2 l2; have E2 := Aside0.mk e2; clear e2) | ((with_reducible refine gate_dst (N := 4) rfl ?_); refine box_event ?hg (N := 4) ?hd (cs := #[.int .u64 0, .int .u64 0]) (t := 88) ?hr ?_; (case hd => rfl); (case hg => rfl); (case hr => first | (go_simp; done) | (go_simp; rfl)); intro g3 e3 w3 b3 l3; have E3 := Aside0.mk e3; clear e3) | ((with_reducible refine gate_dst (N := 5) rfl ?_); refine box_event ?hg (N := 5) ?hd (cs := #[.int .u64 0, .int .u64 0]) (t := 88) ?hr ?_; (case hd => rfl); (case hg => rfl); (case hr => first | (go_simp; done) | (go_simp; rfl)); intro g4 e4 w4 b4 l4; obtain ⟨B1, B2, B3, B4, HB, G3, G4, N⟩ := over_boxes E1.out b1 l1 E2.out b2 l2 E3.out b3 l3 e4 b4 l4; clear e4 b1 l1 b2 l2 b3 l3 b4 l4 E1 E2 E3; have c1 := blk_cell B1.out 0; have c2 := blk_cell B2.out 0; have c3 := blk_cell B2.out 1; have f3 := blk_frozen B3.out 0; have f4 := blk_frozen B4.out 1; have d3 := blk_cell B3.out 0; have d4 := blk_cell B4.out 1; simp at c1 c2 c3 d3 d4; obtain ⟨n1, n2, n3, n4, n5⟩ := N.out; have m1 := n1.symm; have m2 := n2.symm; have m3 := n3.symm; have m4 := n4.symm; have m5 := n5.symm))
 go_region
 rw [hM.out]
 obtain ⟨W, hW⟩ : ∃ W, W = ((w4.setCell { block := g3, off := 0 } (Value.int IntKind.u64 u)).setCell { block := g4, off := 1 } (Value.int IntKind.u64 (Int.tmod a0_0 a1_1))).drew := ⟨_, rfl⟩
 rw [← hW]
 have C1 : Aside0 (W.heap[g1]? = some (.cells #[.int .u64 a0_0, .int .u64 a0_1] 88 (0, 0))) := ⟨by rw [hW]; exact blk_drew (blk_far (blk_far B1.out n1 _) n2 _)⟩
 have C2 : Aside0 (W.heap[g2]? = some (.cells #[.int .u64 0, .int .u64 a1_1] 88 (0, 0))) := ⟨by rw [hW]; exact blk_drew (blk_far (blk_far B2.out n3 _) n4 _)⟩
 have C3 : Aside0 (W.heap[g3]? = some (.cells #[.int .u64 u, .int .u64 0] 88 (0, 0))) := ⟨by rw [hW]; exact blk_drew (blk_far (blk_put B3.out 0 _ rfl) n5 _)⟩
 have C4 : Aside0 (W.heap[g4]? = some (.cells #[.int .u64 0, .int .u64 (Int.tmod a0_0 a1_1)] 88 (0, 0))) := ⟨by rw [hW]; exact blk_drew (blk_put (blk_far B4.out m5 _) 1 _ rfl)⟩
 have HC : Aside0 (Below w.heap.size w W) := ⟨by rw [hW]; exact below_drew (below_set (below_set HB.out G3.out) G4.out)⟩
 clear hW B1 B2 B3 B4 HB c1 c2 c3 d3 d4 f3 f4
 have c1 : W.cell? ⟨g4, 1, none⟩ = some (.int .u64 (Int.tmod a0_0 a1_1)) := (blk_cell C4.out 1).trans rfl
 have c2 : W.cell? ⟨g1, 1, none⟩ = some (.int .u64 a0_1) := (blk_cell C1.out 1).trans rfl
 have c3 : W.cell? ⟨g2, 1, none⟩ = some (.int .u64 a1_1) := (blk_cell C2.out 1).trans rfl
 have c4 : W.cell? ⟨g3, 1, none⟩ = some (.int .u64 0) := (blk_cell C3.out 1).trans rfl
 have f3 := blk_frozen C3.out 1
 have f4 := blk_frozen C4.out 1
 go_wp2_with (go_at_call 80; (with_reducible refine (bits_Div64.calls k (Int.tmod a0_0 a1_1) a0_1 a1_1 q r _ A.out).mono ?_); rintro e w' ⟨rfl, ⟨nd, rfl⟩⟩; obtain ⟨V, hV⟩ : ∃ V, V = W.drewN nd := ⟨_, rfl⟩; rw [← hV]; have D3 : Aside0 (V.heap[g3]? = some (.cells #[.int .u64 u, .int .u64 0] 88 (0, 0))) := ⟨by rw [hV]; exact blk_drewN C3.out _⟩; have D4 : Aside0 (V.heap[g4]? = some (.cells #[.int .u64 0, .int .u64 (Int.tmod a0_0 a1_1)] 88 (0, 0))) := ⟨by rw [hV]; exact blk_drewN C4.out _⟩; have HD : Aside0 (Below w.heap.size w V) := ⟨by rw [hV]; exact pw_below_drewN HC.out _⟩; clear hV C1 C2 C3 C4 HC c1 c2 c3 c4 f3 f4; have f3 := blk_frozen D3.out 1; have f4 := blk_frozen D4.out 1; have c4 : V.cell? ⟨g3, 1, none⟩ = some (.int .u64 0) := (blk_cell D3.out 1).trans rfl; have c1 : V.cell? ⟨g4, 1, none⟩ = some (.int .u64 (Int.tmod a0_0 a1_1)) := (blk_cell D4.out 1).trans rfl)
 obtain ⟨U, hU⟩ : ∃ U, U = (V.setCell { block := g3, off := 1 } (Value.int IntKind.u64 q)).setCell { block := g4, off := 1 } (Value.int IntKind.u64 r) := ⟨_, rfl⟩
 rw [← hU]
 have F3 : Aside0 (U.heap[g3]? = some (.cells #[.int .u64 u, .int .u64 q] 88 (0, 0))) := ⟨by rw [hU]; exact blk_far (blk_put D3.out 1 _ rfl) n5 _⟩
 have F4 : Aside0 (U.heap[g4]? = some (.cells #[.int .u64 0, .int .u64 r] 88 (0, 0))) := ⟨by rw [hU]; exact blk_put (blk_far D4.out m5 _) 1 _ rfl⟩
 have HF : Aside0 (Below w.heap.size w U) := ⟨by rw [hU]; exact below_set (below_set HD.out G3.out) G4.out⟩
 clear hU D3 D4 HD c1 c4 f3 f4
 have c1 : U.cell? ⟨g3, 0, none⟩ = some (.int .u64 u) := (blk_cell F3.out 0).trans rfl
 have c2 : U.cell? ⟨g3, 1, none⟩ = some (.int .u64 q) := (blk_cell F3.out 1).trans rfl
 have c3 : U.cell? ⟨g4, 0, none⟩ = some (.int .u64 0) := (blk_cell F4.out 0).trans rfl
 have c4 : U.cell? ⟨g4, 1, none⟩ = some (.int .u64 r) := (blk_cell F4.out 1).trans rfl
 have f1 := blk_frozen F3.out 0
 have f2 := blk_frozen F3.out 1
 have f3 := blk_frozen F4.out 0
 have f4 := blk_frozen F4.out 1
 go_region
 go_wp2
 refine bodyPost_ret (results_cc rfl _ _ g3 g4 88 88 #[.int .u64 u, .int .u64 q] #[.int .u64 0, .int .u64 r] (0, 0) (0, 0) _ _ rfl (blk_drew (blk_far (blk_far (blk_put (blk_put F3.out 0 _ rfl) 1 _ rfl) n5 _) n5 _)) Try.underlying88 rfl (by kernel_rfl) rfl (blk_drew (blk_put (blk_put (blk_far (blk_far F4.out m5 _) m5 _) 0 _ rfl) 1 _ rfl)) Try.underlying88 rfl (by kernel_rfl)) rfl ?_
 exact ⟨rfl, below_drew (below_set (below_set (below_set (below_set HF.out G3.out) G3.out) G4.out) G4.out)⟩
mutual
def ratio_wide_over.l0 : Nat → Int → Int → Int → Int → Int → Int → Int → Int → Int → Option (Int × Int × Int × Int)
 | 0, _, _, _, _, _, _, _, _, _ => none
 | k + 1, x6, x131000, x131001, x132000, x132001, x133000, x133001, x134000, x134001 => if x6 ≥ 0 then (if 0 ≤ (Go.bits .and .i64 x6 63) then (if x6 < 64 then (if 0 ≤ x6 then (ratio_wide_over.j1 k x6 (Go.bits .and .u64 (shr .u64 x131001 x6) 1) x131000 x131001 x132000 x132001 x133000 x133001 x134000 x134001) else (none)) else (ratio_wide_over.j1 k x6 (Go.bits .and .u64 (shr .u64 x131000 (Go.bits .and .i64 x6 63)) 1) x131000 x131001 x132000 x132001 x133000 x133001 x134000 x134001)) else (none)) else (some (x133000, x133001, x134000, x134001))
def ratio_wide_over.j1 : Nat → Int → Int → Int → Int → Int → Int → Int → Int → Int → Int → Option (Int × Int × Int × Int)
 | 0, _, _, _, _, _, _, _, _, _, _ => none
 | k + 1, x6, x7, x131000, x131001, x132000, x132001, x133000, x133001, x134000, x134001 => (ratio_wide_cmp.f (Go.bits .or .u64 (IntKind.u64.wrap (x134000 * 2)) (x134001 / 9223372036854775808)) (Go.bits .or .u64 (IntKind.u64.wrap (x134001 * 2)) x7) x132000 x132001).bind fun t136 => (if t136 ≥ 0 then ((ratio_wide_minus.f (Go.bits .or .u64 (IntKind.u64.wrap (x134000 * 2)) (x134001 / 9223372036854775808)) (Go.bits .or .u64 (IntKind.u64.wrap (x134001 * 2)) x7) x132000 x132001).bind fun bt137 => (ratio_wide_over.l0 k (wrap64 (x6 - 1)) x131000 x131001 x132000 x132001 (Go.bits .or .u64 (IntKind.u64.wrap (x133000 * 2)) (x133001 / 9223372036854775808)) (Go.bits .or .u64 (IntKind.u64.wrap (x133001 * 2)) 1) bt137.1 bt137.2)) else (ratio_wide_over.l0 k (wrap64 (x6 - 1)) x131000 x131001 x132000 x132001 (Go.bits .or .u64 (IntKind.u64.wrap (x133000 * 2)) (x133001 / 9223372036854775808)) (IntKind.u64.wrap (x133001 * 2)) (Go.bits .or .u64 (IntKind.u64.wrap (x134000 * 2)) (x134001 / 9223372036854775808)) (Go.bits .or .u64 (IntKind.u64.wrap (x134001 * 2)) x7)))
end
def ratio_wide_over.f (k : Nat) (a0_0 : Int) (a0_1 : Int) (a1_0 : Int) (a1_1 : Int) : Option (Int × Int × Int × Int) := if a1_0 = 0 then (if a1_1 = 0 then (none) else ((bits_Div64.f k (Int.tmod a0_0 a1_1) a0_1 a1_1).bind fun bt134 => (some (IntKind.u64.wrap (Int.tdiv a0_0 a1_1), bt134.1, 0, bt134.2)))) else (ratio_wide_over.l0 k 127 a0_0 a0_1 a1_0 a1_1 0 0 0 0)
set_option maxHeartbeats 8000000 in
set_option maxRecDepth 100000 in
theorem ratio_wide_over.calls (k : Nat) (a0_0 : Int) (a0_1 : Int) (a1_0 : Int) (a1_1 : Int) (r1 : Int) (r2 : Int) (r3 : Int) (r4 : Int) (w : World) (h : ratio_wide_over.f k a0_0 a0_1 a1_0 a1_1 = some (r1, r2, r3, r4)) :
  Calls Try.prog 74 #[.agg #[.int .u64 a0_0, .int .u64 a0_1], .agg #[.int .u64 a1_0, .int .u64 a1_1]] w fun e w' => e = .returned (.tuple #[.agg #[.int .u64 r1, .int .u64 r2], .agg #[.int .u64 r3, .int .u64 r4]]) ∧ Below w.heap.size w w' := by
 have hu88 := Try.underlying88
 have HB := Aside0.mk (Below.refl w.heap.size w)
 have H : (if a1_0 = 0 then (if a1_1 = 0 then (none) else ((bits_Div64.f k (Int.tmod a0_0 a1_1) a0_1 a1_1).bind fun bt134 => (some (IntKind.u64.wrap (Int.tdiv a0_0 a1_1), bt134.1, 0, bt134.2)))) else (ratio_wide_over.l0 k 127 a0_0 a0_1 a1_0 a1_1 0 0 0 0)) = some (r1, r2, r3, r4) := h
 clear h
 by_cases c3 : a1_0 = 0
 ·rw [if_pos c3] at H
  have c3b0 : (a1_0 == 0) = true := beq_iff_eq.mpr c3
  have c3b1 : (a1_0 != 0) = false := bne_eq_false_iff_eq.mpr c3
  clear c3
  by_cases c4 : a1_1 = 0
  ·rw [if_pos c4] at H
   exact absurd H (by simp)
  ·rw [if_neg c4] at H
   have c4b0 : (a1_1 == 0) = false := beq_eq_false_iff_ne.mpr c4
   have c4b1 : (a1_1 != 0) = true := bne_iff_ne.mpr c4
   replace H := Option.bind_eq_some_iff.mp H
   obtain ⟨⟨t134, t135⟩, A50, H⟩ := H
   (try dsimp only at H)
   have A5 := Aside0.mk A50
   clear A50
   simp only [Option.some.injEq, Prod.mk.injEq] at H
   obtain ⟨rfl, rfl, rfl, rfl⟩ := H
   obtain rfl : a1_0 = 0 := by simpa using c3b0
   exact over_lo k a0_0 a0_1 a1_1 t134 t135 _ w c4 ⟨rfl⟩ A5.out
 ·rw [if_neg c3] at H
  have c3b0 : (a1_0 == 0) = false := beq_eq_false_iff_ne.mpr c3
  have c3b1 : (a1_0 != 0) = true := bne_iff_ne.mpr c3
  have H' := Aside0.mk H
  clear H
  go_enter Try.func74, Try.ntmps74
  go_wp2_with (first | ((with_reducible refine gate_dst (N := 2) rfl ?_); refine box_event (by rfl) (N := 2) (by rfl) (cs := #[.int .u64 a0_0, .int .u64 a0_1]) (t := 88) (by first | (go_simp; done) | (go_simp; rfl)) ?_; intro gb130 hg w20 hbox hb; obtain ⟨hb_, hw_⟩ := box_facts (lA HB.out) hg hb; replace HB := Aside0.mk (hb_); have BK130 := Aside0.mk (hbox); have GW130 := Aside0.mk (hw_); have GE130 := Aside0.mk (hw_); clear hb hbox hg hb_ hw_) | ((with_reducible refine gate_dst (N := 3) rfl ?_); refine box_event (by rfl) (N := 3) (by rfl) (cs := #[.int .u64 a1_0, .int .u64 a1_1]) (t := 88) (by first | (go_simp; done) | (go_simp; rfl)) ?_; intro gb131 hg w21 hbox hb; obtain ⟨hb_, hw_⟩ := box_facts (by repeat (first | (with_reducible first | exact HB.out | apply l1 | apply l2 | apply l3 | refine below_set ?_ GE130.out) | exact HB.out)) hg hb; replace HB := Aside0.mk (hb_); have BK131 := Aside0.mk (hbox); have GW131 := Aside0.mk (hw_); have GE131 := Aside0.mk (hw_); have NB130_131 := Aside0.mk ((nL hg BK130.out)); have NB131_130 := Aside0.mk ((nG hg BK130.out)); replace BK130 := Aside0.mk (bB BK130.out hb); clear hb hbox hg hb_ hw_) | ((with_reducible refine gate_dst (N := 4) rfl ?_); refine box_event (by rfl) (N := 4) (by rfl) (cs := #[.int .u64 0, .int .u64 0]) (t := 88) (by first | (go_simp; done) | (go_simp; rfl)) ?_; intro gb132 hg w22 hbox hb; obtain ⟨hb_, hw_⟩ := box_facts (by repeat (first | (with_reducible first | exact HB.out | apply l1 | apply l2 | apply l3 | refine below_set ?_ GE130.out | refine below_set ?_ GE131.out) | exact HB.out)) hg hb; replace HB := Aside0.mk (hb_); have BK132 := Aside0.mk (hbox); have GW132 := Aside0.mk (hw_); have GE132 := Aside0.mk (hw_); have NB130_132 := Aside0.mk ((nL hg BK130.out)); have NB132_130 := Aside0.mk ((nG hg BK130.out)); replace BK130 := Aside0.mk (bB BK130.out hb); have NB131_132 := Aside0.mk ((nL hg BK131.out)); have NB132_131 := Aside0.mk ((nG hg BK131.out)); replace BK131 := Aside0.mk (bB BK131.out hb); clear hb hbox hg hb_ hw_) | ((with_reducible refine gate_dst (N := 5) rfl ?_); refine box_event (by rfl) (N := 5) (by rfl) (cs := #[.int .u64 0, .int .u64 0]) (t := 88) (by first | (go_simp; done) | (go_simp; rfl)) ?_; intro gb133 hg w23 hbox hb; obtain ⟨hb_, hw_⟩ := box_facts (by repeat (first | (with_reducible first | exact HB.out | apply l1 | apply l2 | apply l3 | refine below_set ?_ GE130.out | refine below_set ?_ GE131.out | refine below_set ?_ GE132.out) | exact HB.out)) hg hb; replace HB := Aside0.mk (hb_); have BK133 := Aside0.mk (hbox); have GW133 := Aside0.mk (hw_); have GE133 := Aside0.mk (hw_); have NB130_133 := Aside0.mk ((nL hg BK130.out)); have NB133_130 := Aside0.mk ((nG hg BK130.out)); replace BK130 := Aside0.mk (bB BK130.out hb); have NB131_133 := Aside0.mk ((nL hg BK131.out)); have NB133_131 := Aside0.mk ((nG hg BK131.out)); replace BK131 := Aside0.mk (bB BK131.out hb); have NB132_133 := Aside0.mk ((nL hg BK132.out)); have NB133_132 := Aside0.mk ((nG hg BK132.out)); replace BK132 := Aside0.mk (bB BK132.out hb); clear hb hbox hg hb_ hw_; have hnb24 := NB131_130.out; have hnc24 := NB130_131.out; have hnb25 := NB131_132.out; have hnc25 := NB132_131.out; have hnb26 := NB131_133.out; have hnc26 := NB133_131.out; obtain ⟨hcz27_0, hcz27_1, hfz27_0, hfz27_1⟩ := blk_cells2 BK131.out))
  (try simp only [Act.put, List.setIfInBounds_toArray, List.set_cons_zero, List.set_cons_succ])
  go_loopg [6] k (fun kq v6 w' => ∃ (x6_1 : Int) (x133000_1 : Int) (x133001_1 : Int) (x134000_1 : Int) (x134001_1 : Int), v6 = .int .i64 x6_1 ∧ Aside0 (ratio_wide_over.l0 kq x6_1 a0_0 a0_1 a1_0 a1_1 x133000_1 x133001_1 x134000_1 x134001_1 = some (r1, r2, r3, r4)) ∧ Aside0 (kq ≤ k) ∧ Aside0 (w'.heap[gb130]? = some (.cells #[.int .u64 a0_0, .int .u64 a0_1] 88 (0, 0))) ∧ Aside0 (w'.heap[gb131]? = some (.cells #[.int .u64 a1_0, .int .u64 a1_1] 88 (0, 0))) ∧ Aside0 (w'.heap[gb132]? = some (.cells #[.int .u64 x133000_1, .int .u64 x133001_1] 88 (0, 0))) ∧ Aside0 (w'.heap[gb133]? = some (.cells #[.int .u64 x134000_1, .int .u64 x134001_1] 88 (0, 0))) ∧ Aside0 (Below w.heap.size w w'))
  case atStart => exact ⟨(127), (0), (0), (0), (0), (by first | rfl | (simp; done) | (simp [*]; done)), H', ⟨Nat.le_refl _⟩, ⟨by (with_reducible repeat (first | apply b1 | apply b2 | apply b3)); exact BK130.out⟩, ⟨by (with_reducible repeat (first | apply b1 | apply b2 | apply b3)); exact BK131.out⟩, ⟨by (with_reducible repeat (first | apply b1 | apply b2 | apply b3)); exact BK132.out⟩, ⟨by (with_reducible repeat (first | apply b1 | apply b2 | apply b3)); exact BK133.out⟩, ⟨by repeat (first | (with_reducible first | exact HB.out | apply l1 | apply l2 | apply l3 | refine below_set ?_ GE130.out | refine below_set ?_ GE131.out | refine below_set ?_ GE132.out | refine below_set ?_ GE133.out) | exact HB.out)⟩⟩
  case round =>
   clear H'
   try clear c1
   try clear c2
   try clear p2
   try clear c3
   try clear c3b0
   try clear c3b1
   try clear c4
   try clear c4b0
   try clear c4b1
   try clear c7
   try clear c8
   try clear c10
   try clear c11
   try clear c12
   try clear c14
   try clear c15
   try clear c17
   try clear c24
   try clear c25
   try clear c26
   try clear hcz13_0
   try clear hcz13_1
   try clear hcz16_0
   try clear hcz16_1
   try clear hcz18_0
   try clear hcz18_1
   try clear hcz19_0
   try clear hcz19_1
   try clear hcz27_0
   try clear hcz27_1
   try clear hfz13_0
   try clear hfz13_1
   try clear hfz16_0
   try clear hfz16_1
   try clear hfz18_0
   try clear hfz18_1
   try clear hfz19_0
   try clear hfz19_1
   try clear hfz27_0
   try clear hfz27_1
   obtain ⟨x6_1, x133000_1, x133001_1, x134000_1, x134001_1, rfl, HA, HK1, BK130, BK131, BK132, BK133, HB⟩ := hrel
   cases gk with
   | zero => exact absurd HA.out (by simp [ratio_wide_over.l0])
   | succ k1 =>
    have H := HA.out
    clear HA
    simp only [ratio_wide_over.l0] at H
    by_cases c28 : x6_1 ≥ 0
    ·rw [if_pos c28] at H
     have c28b0 : decide (0 ≤ x6_1) = true := decide_eq_true c28
     clear c28
     by_cases c29 : 0 ≤ (Go.bits .and .i64 x6_1 63)
     ·rw [if_pos c29] at H
      have c29b0 := eq_true c29
      have c29b1 : decide (0 ≤ (Go.bits .and .i64 x6_1 63)) = true := decide_eq_true c29
      clear c29
      obtain ⟨ji30, hji30⟩ : ∃ j_ : Int, (shr .u64 a0_0 (Go.bits .and .i64 x6_1 63)) = j_ := ⟨_, rfl⟩
      replace H : (if x6_1 < 64 then (if 0 ≤ x6_1 then (ratio_wide_over.j1 k1 x6_1 (Go.bits .and .u64 (shr .u64 a0_1 x6_1) 1) a0_0 a0_1 a1_0 a1_1 x133000_1 x133001_1 x134000_1 x134001_1) else (none)) else (ratio_wide_over.j1 k1 x6_1 (Go.bits .and .u64 (ji30) 1) a0_0 a0_1 a1_0 a1_1 x133000_1 x133001_1 x134000_1 x134001_1)) = some (r1, r2, r3, r4) := by first | (rw [hji30] at H; exact H) | (simp only [hji30] at H ⊢; exact H)
      have hji30_ : (a0_0 / 2 ^ min (Go.bits .and .i64 x6_1 63).toNat 64) = ji30 := hji30
      have hji30z : (Go.bits .and .i64 x6_1 63) ≤ 64 → (a0_0 / 2 ^ (Go.bits .and .i64 x6_1 63).toNat) = ji30 := shr_small hji30
      have HC31 := Aside0.mk H
      clear H
      have hnb32 := NB130_131.out
      have hnc32 := NB131_130.out
      have hnb33 := NB130_132.out
      have hnc33 := NB132_130.out
      have hnb34 := NB130_133.out
      have hnc34 := NB133_130.out
      obtain ⟨hcz35_0, hcz35_1, hfz35_0, hfz35_1⟩ := blk_cells2 BK130.out
      go_upto_if 48 with (fail)
      go_cut [7] (fun v7 wc => ∃ (kq : Nat) (x7_30 : Int), v7 = .int .u64 x7_30 ∧ Aside0 (ratio_wide_over.j1 kq x6_1 x7_30 a0_0 a0_1 a1_0 a1_1 x133000_1 x133001_1 x134000_1 x134001_1 = some (r1, r2, r3, r4)) ∧ Aside0 (kq ≤ k1) ∧ Aside0 (wc.heap[gb130]? = some (.cells #[.int .u64 a0_0, .int .u64 a0_1] 88 (0, 0))) ∧ Aside0 (wc.heap[gb131]? = some (.cells #[.int .u64 a1_0, .int .u64 a1_1] 88 (0, 0))) ∧ Aside0 (wc.heap[gb132]? = some (.cells #[.int .u64 x133000_1, .int .u64 x133001_1] 88 (0, 0))) ∧ Aside0 (wc.heap[gb133]? = some (.cells #[.int .u64 x134000_1, .int .u64 x134001_1] 88 (0, 0))) ∧ Aside0 (Below w.heap.size w wc))
      case first =>
       have H := HC31.out
       clear HC31
       by_cases c36 : x6_1 < 64
       ·rw [if_pos c36] at H
        have c36b0 : decide (x6_1 < 64) = true := decide_eq_true c36
        clear c36
        (first | rw [c36b0] | (simp only [i64_w, i32_w]; rw [c36b0]) | skip)
        by_cases c37 : 0 ≤ x6_1
        ·rw [if_pos c37] at H
         have c37b0 := eq_true c37
         have c37b1 : decide (0 ≤ x6_1) = true := decide_eq_true c37
         clear c37
         obtain ⟨ji38, hji38⟩ : ∃ j_ : Int, (shr .u64 a0_1 x6_1) = j_ := ⟨_, rfl⟩
         replace H : (ratio_wide_over.j1 k1 x6_1 (Go.bits .and .u64 (ji38) 1) a0_0 a0_1 a1_0 a1_1 x133000_1 x133001_1 x134000_1 x134001_1) = some (r1, r2, r3, r4) := by first | (rw [hji38] at H; exact H) | (simp only [hji38] at H ⊢; exact H)
         have hji38_ : (a0_1 / 2 ^ min x6_1.toNat 64) = ji38 := hji38
         have hji38z : x6_1 ≤ 64 → (a0_1 / 2 ^ x6_1.toNat) = ji38 := shr_small hji38
         have H' := Aside0.mk H
         clear H
         have hnb39 := NB130_131.out
         have hnc39 := NB131_130.out
         have hnb40 := NB130_132.out
         have hnc40 := NB132_130.out
         have hnb41 := NB130_133.out
         have hnc41 := NB133_130.out
         obtain ⟨hcz42_0, hcz42_1, hfz42_0, hfz42_1⟩ := blk_cells2 BK130.out
         go_wp2
         go_meet
         case rel => exact ⟨_, (Go.bits .and .u64 (ji38) 1), (by first | rfl | (simp; done) | (simp only [← hji38] <;> (first | rfl | simp)) | (simp [*]; done)), H', ⟨by have := HK1.out; first | omega | exact Nat.le_refl _⟩, ⟨by (with_reducible repeat (first | apply b1 | apply b2 | apply b3)); exact BK130.out⟩, ⟨by (with_reducible repeat (first | apply b1 | apply b2 | apply b3)); exact BK131.out⟩, ⟨by (with_reducible repeat (first | apply b1 | apply b2 | apply b3)); exact BK132.out⟩, ⟨by (with_reducible repeat (first | apply b1 | apply b2 | apply b3)); exact BK133.out⟩, ⟨by repeat (first | (with_reducible first | exact HB.out | apply l1 | apply l2 | apply l3 | refine below_set ?_ GE130.out | refine below_set ?_ GE131.out | refine below_set ?_ GE132.out | refine below_set ?_ GE133.out) | exact HB.out)⟩⟩
        ·rw [if_neg c37] at H
         exact absurd H (by simp)
       ·rw [if_neg c36] at H
        have c36b0 : decide (x6_1 < 64) = false := decide_eq_false c36
        clear c36
        (first | rw [c36b0] | (simp only [i64_w, i32_w]; rw [c36b0]) | skip)
        have H' := Aside0.mk H
        clear H
        go_wp2
        go_meet
        case rel => exact ⟨_, (Go.bits .and .u64 (ji30) 1), (by first | rfl | (simp; done) | (simp only [← hji30] <;> (first | rfl | simp)) | (simp [*]; done)), H', ⟨by have := HK1.out; first | omega | exact Nat.le_refl _⟩, ⟨by (with_reducible repeat (first | apply b1 | apply b2 | apply b3)); exact BK130.out⟩, ⟨by (with_reducible repeat (first | apply b1 | apply b2 | apply b3)); exact BK131.out⟩, ⟨by (with_reducible repeat (first | apply b1 | apply b2 | apply b3)); exact BK132.out⟩, ⟨by (with_reducible repeat (first | apply b1 | apply b2 | apply b3)); exact BK133.out⟩, ⟨by repeat (first | (with_reducible first | exact HB.out | apply l1 | apply l2 | apply l3 | refine below_set ?_ GE130.out | refine below_set ?_ GE131.out | refine below_set ?_ GE132.out | refine below_set ?_ GE133.out) | exact HB.out)⟩⟩
      case rest =>
       clear HC31
       try clear c1
       try clear c2
       try clear p2
       try clear c3
       try clear c3b0
       try clear c3b1
       try clear c4
       try clear c4b0
       try clear c4b1
       try clear c7
       try clear c8
       try clear c10
       try clear c11
       try clear c12
       try clear c14
       try clear c15
       try clear c17
       try clear c24
       try clear c25
       try clear c26
       try clear c28
       try clear c28b0
       try clear c29
       try clear c29b0
       try clear c29b1
       try clear c32
       try clear c33
       try clear c34
       try clear c36
       try clear c36b0
       try clear c37
       try clear c37b0
       try clear c37b1
       try clear c39
       try clear c40
       try clear c41
       try clear hcz13_0
       try clear hcz13_1
       try clear hcz16_0
       try clear hcz16_1
       try clear hcz18_0
       try clear hcz18_1
       try clear hcz19_0
       try clear hcz19_1
       try clear hcz27_0
       try clear hcz27_1
       try clear hcz35_0
       try clear hcz35_1
       try clear hcz42_0
       try clear hcz42_1
       try clear hfz13_0
       try clear hfz13_1
       try clear hfz16_0
       try clear hfz16_1
       try clear hfz18_0
       try clear hfz18_1
       try clear hfz19_0
       try clear hfz19_1
       try clear hfz27_0
       try clear hfz27_1
       try clear hfz35_0
       try clear hfz35_1
       try clear hfz42_0
       try clear hfz42_1
       try clear p2
       obtain ⟨kq, x7_30, rfl, HA, HJ30, BK130, BK131, BK132, BK133, HB⟩ := hcut
       cases kq with
       | zero => exact absurd HA.out (by simp [ratio_wide_over.j1])
       | succ kj30 =>
        have H := HA.out
        clear HA
        simp only [ratio_wide_over.j1] at H
        replace H := Option.bind_eq_some_iff.mp H
        obtain ⟨t136, A430, H⟩ := H
        (try dsimp only at H)
        have A43 := Aside0.mk A430
        clear A430
        by_cases c44 : t136 ≥ 0
        ·rw [if_pos c44] at H
         have c44b0 : decide (0 ≤ t136) = true := decide_eq_true c44
         clear c44
         replace H := Option.bind_eq_some_iff.mp H
         obtain ⟨⟨t137, t138⟩, A450, H⟩ := H
         (try dsimp only at H)
         have A45 := Aside0.mk A450
         clear A450
         have H' := Aside0.mk H
         clear H
         have hnb46 := NB133_130.out
         have hnc46 := NB130_133.out
         have hnb47 := NB133_131.out
         have hnc47 := NB131_133.out
         have hnb48 := NB133_132.out
         have hnc48 := NB132_133.out
         obtain ⟨hcz49_0, hcz49_1, hfz49_0, hfz49_1⟩ := blk_cells2 BK133.out
         have hnb50 := NB132_130.out
         have hnc50 := NB130_132.out
         have hnb51 := NB132_131.out
         have hnc51 := NB131_132.out
         obtain ⟨hcz52_0, hcz52_1, hfz52_0, hfz52_1⟩ := blk_cells2 BK132.out
         have hnb53 := NB131_130.out
         have hnc53 := NB130_131.out
         obtain ⟨hcz54_0, hcz54_1, hfz54_0, hfz54_1⟩ := blk_cells2 BK131.out
         go_wp2_with (first | ((with_reducible refine gate_callee (f := 45) rfl ?_); refine goesL_ (some 80) rfl rfl Try.func45 (by kernel_rfl) rfl #[.agg #[.int .u64 (Go.bits .or .u64 (IntKind.u64.wrap (x134000_1 * 2)) (x134001_1 / 9223372036854775808)), .int .u64 (Go.bits .or .u64 (IntKind.u64.wrap (x134001_1 * 2)) x7_30)], .agg #[.int .u64 a1_0, .int .u64 a1_1]] rfl (by (try simp only [List.map_toArray, List.map_cons, List.map_nil]); first | done | rfl | (simp only [List.length_drop, List.length_take]; rfl)) ?_; (with_reducible refine (ratio_wide_cmp.calls (Go.bits .or .u64 (IntKind.u64.wrap (x134000_1 * 2)) (x134001_1 / 9223372036854775808)) (Go.bits .or .u64 (IntKind.u64.wrap (x134001_1 * 2)) x7_30) a1_0 a1_1 t136 _ A43.out).mono ?_); rintro e w55 ⟨rfl, hb⟩; refine ⟨_, rfl, ?_⟩; replace BK130 := Aside0.mk (blk_below (g := gb130) (o := .cells #[.int .u64 a0_0, .int .u64 a0_1] 88 (0, 0)) (by (with_reducible repeat (first | apply b1 | apply b2 | apply b3)); refine blk_far ?_ NB130_132.out _; (with_reducible repeat (first | apply b1 | apply b2 | apply b3)); refine blk_far ?_ NB130_132.out _; (with_reducible repeat (first | apply b1 | apply b2 | apply b3)); refine blk_far ?_ NB130_133.out _; (with_reducible repeat (first | apply b1 | apply b2 | apply b3)); refine blk_far ?_ NB130_133.out _; (with_reducible repeat (first | apply b1 | apply b2 | apply b3)); exact BK130.out) hb); replace BK131 := Aside0.mk (blk_below (g := gb131) (o := .cells #[.int .u64 a1_0, .int .u64 a1_1] 88 (0, 0)) (by (with_reducible repeat (first | apply b1 | apply b2 | apply b3)); refine blk_far ?_ NB131_132.out _; (with_reducible repeat (first | apply b1 | apply b2 | apply b3)); refine blk_far ?_ NB131_132.out _; (with_reducible repeat (first | apply b1 | apply b2 | apply b3)); refine blk_far ?_ NB131_133.out _; (with_reducible repeat (first | apply b1 | apply b2 | apply b3)); refine blk_far ?_ NB131_133.out _; (with_reducible repeat (first | apply b1 | apply b2 | apply b3)); exact BK131.out) hb); replace BK132 := Aside0.mk (blk_below (g := gb132) (o := .cells #[.int .u64 (Go.bits .or .u64 (IntKind.u64.wrap (x133000_1 * 2)) (x133001_1 / 9223372036854775808)), .int .u64 (IntKind.u64.wrap (x133001_1 * 2))] 88 (0, 0)) (by (with_reducible repeat (first | apply b1 | apply b2 | apply b3)); refine blk_put (cs := #[.int .u64 (Go.bits .or .u64 (IntKind.u64.wrap (x133000_1 * 2)) (x133001_1 / 9223372036854775808)), .int .u64 x133001_1]) ?_ 1 _ rfl; (with_reducible repeat (first | apply b1 | apply b2 | apply b3)); refine blk_put (cs := #[.int .u64 x133000_1, .int .u64 x133001_1]) ?_ 0 _ rfl; (with_reducible repeat (first | apply b1 | apply b2 | apply b3)); refine blk_far ?_ NB132_133.out _; (with_reducible repeat (first | apply b1 | apply b2 | apply b3)); refine blk_far ?_ NB132_133.out _; (with_reducible repeat (first | apply b1 | apply b2 | apply b3)); exact BK132.out) hb); replace BK133 := Aside0.mk (blk_below (g := gb133) (o := .cells #[.int .u64 (Go.bits .or .u64 (IntKind.u64.wrap (x134000_1 * 2)) (x134001_1 / 9223372036854775808)), .int .u64 (Go.bits .or .u64 (IntKind.u64.wrap (x134001_1 * 2)) x7_30)] 88 (0, 0)) (by (with_reducible repeat (first | apply b1 | apply b2 | apply b3)); refine blk_far ?_ NB133_132.out _; (with_reducible repeat (first | apply b1 | apply b2 | apply b3)); refine blk_far ?_ NB133_132.out _; (with_reducible repeat (first | apply b1 | apply b2 | apply b3)); refine blk_put (cs := #[.int .u64 (Go.bits .or .u64 (IntKind.u64.wrap (x134000_1 * 2)) (x134001_1 / 9223372036854775808)), .int .u64 x134001_1]) ?_ 1 _ rfl; (with_reducible repeat (first | apply b1 | apply b2 | apply b3)); refine blk_put (cs := #[.int .u64 x134000_1, .int .u64 x134001_1]) ?_ 0 _ rfl; (with_reducible repeat (first | apply b1 | apply b2 | apply b3)); exact BK133.out) hb); replace HB := Aside0.mk (below_step (by repeat (first | (with_reducible first | exact HB.out | apply l1 | apply l2 | apply l3 | refine below_set ?_ GE130.out | refine below_set ?_ GE131.out | refine below_set ?_ GE132.out | refine below_set ?_ GE133.out) | exact HB.out)) hb); (try clear hb); (try clear hb2); (try clear hk); (try clear hi); obtain ⟨hcz56_0, hcz56_1, hfz56_0, hfz56_1⟩ := blk_cells2 BK133.out; obtain ⟨hcz57_0, hcz57_1, hfz57_0, hfz57_1⟩ := blk_cells2 BK131.out) | ((with_reducible refine gate_callee (f := 76) rfl ?_); refine goesL_ (some 84) rfl rfl Try.func76 (by kernel_rfl) rfl #[.agg #[.int .u64 (Go.bits .or .u64 (IntKind.u64.wrap (x134000_1 * 2)) (x134001_1 / 9223372036854775808)), .int .u64 (Go.bits .or .u64 (IntKind.u64.wrap (x134001_1 * 2)) x7_30)], .agg #[.int .u64 a1_0, .int .u64 a1_1]] rfl (by (try simp only [List.map_toArray, List.map_cons, List.map_nil]); first | done | rfl | (simp only [List.length_drop, List.length_take]; rfl)) ?_; (with_reducible refine (ratio_wide_minus.calls (Go.bits .or .u64 (IntKind.u64.wrap (x134000_1 * 2)) (x134001_1 / 9223372036854775808)) (Go.bits .or .u64 (IntKind.u64.wrap (x134001_1 * 2)) x7_30) a1_0 a1_1 t137 t138 _ A45.out).mono ?_); rintro e w58 ⟨rfl, hb⟩; refine ⟨_, rfl, ?_⟩; replace BK130 := Aside0.mk (bB BK130.out hb); replace BK131 := Aside0.mk (bB BK131.out hb); replace BK132 := Aside0.mk (bB BK132.out hb); replace BK133 := Aside0.mk (bB BK133.out hb); replace HB := Aside0.mk (below_step (by repeat (first | (with_reducible first | exact HB.out | apply l1 | apply l2 | apply l3 | refine below_set ?_ GE130.out | refine below_set ?_ GE131.out | refine below_set ?_ GE132.out | refine below_set ?_ GE133.out) | exact HB.out)) hb); (try clear hb); (try clear hb2); (try clear hk); (try clear hi); obtain ⟨hcz59_0, hcz59_1, hfz59_0, hfz59_1⟩ := blk_cells2 BK133.out; obtain ⟨hcz60_0, hcz60_1, hfz60_0, hfz60_1⟩ := blk_cells2 BK132.out))
         go_roundg kj30
         case measure => have := HK1.out; have := HJ30.out; omega
         case rel => exact ⟨(wrap64 (x6_1 - 1)), (Go.bits .or .u64 (IntKind.u64.wrap (x133000_1 * 2)) (x133001_1 / 9223372036854775808)), (Go.bits .or .u64 (IntKind.u64.wrap (x133001_1 * 2)) 1), (t137), (t138), (by first | rfl | (simp; done) | (simp [*]; done)), H', ⟨by have := HK1.out; have := HJ30.out; omega⟩, ⟨by (with_reducible repeat (first | apply b1 | apply b2 | apply b3)); refine blk_far ?_ NB130_132.out _; (with_reducible repeat (first | apply b1 | apply b2 | apply b3)); refine blk_far ?_ NB130_133.out _; (with_reducible repeat (first | apply b1 | apply b2 | apply b3)); refine blk_far ?_ NB130_133.out _; (with_reducible repeat (first | apply b1 | apply b2 | apply b3)); exact BK130.out⟩, ⟨by (with_reducible repeat (first | apply b1 | apply b2 | apply b3)); refine blk_far ?_ NB131_132.out _; (with_reducible repeat (first | apply b1 | apply b2 | apply b3)); refine blk_far ?_ NB131_133.out _; (with_reducible repeat (first | apply b1 | apply b2 | apply b3)); refine blk_far ?_ NB131_133.out _; (with_reducible repeat (first | apply b1 | apply b2 | apply b3)); exact BK131.out⟩, ⟨by (with_reducible repeat (first | apply b1 | apply b2 | apply b3)); refine blk_put (cs := #[.int .u64 (Go.bits .or .u64 (IntKind.u64.wrap (x133000_1 * 2)) (x133001_1 / 9223372036854775808)), .int .u64 (IntKind.u64.wrap (x133001_1 * 2))]) ?_ 1 _ rfl; (with_reducible repeat (first | apply b1 | apply b2 | apply b3)); refine blk_far ?_ NB132_133.out _; (with_reducible repeat (first | apply b1 | apply b2 | apply b3)); refine blk_far ?_ NB132_133.out _; (with_reducible repeat (first | apply b1 | apply b2 | apply b3)); exact BK132.out⟩, ⟨by (with_reducible repeat (first | apply b1 | apply b2 | apply b3)); refine blk_far ?_ NB133_132.out _; (with_reducible repeat (first | apply b1 | apply b2 | apply b3)); refine blk_put (cs := #[.int .u64 t137, .int .u64 (Go.bits .or .u64 (IntKind.u64.wrap (x134001_1 * 2)) x7_30)]) ?_ 1 _ rfl; (with_reducible repeat (first | apply b1 | apply b2 | apply b3)); refine blk_put (cs := #[.int .u64 (Go.bits .or .u64 (IntKind.u64.wrap (x134000_1 * 2)) (x134001_1 / 9223372036854775808)), .int .u64 (Go.bits .or .u64 (IntKind.u64.wrap (x134001_1 * 2)) x7_30)]) ?_ 0 _ rfl; (with_reducible repeat (first | apply b1 | apply b2 | apply b3)); exact BK133.out⟩, ⟨by repeat (first | (with_reducible first | exact HB.out | apply l1 | apply l2 | apply l3 | refine below_set ?_ GE130.out | refine below_set ?_ GE131.out | refine below_set ?_ GE132.out | refine below_set ?_ GE133.out) | exact HB.out)⟩⟩
        ·rw [if_neg c44] at H
         have c44b0 : decide (0 ≤ t136) = false := decide_eq_false c44
         clear c44
         have H' := Aside0.mk H
         clear H
         have hnb61 := NB133_130.out
         have hnc61 := NB130_133.out
         have hnb62 := NB133_131.out
         have hnc62 := NB131_133.out
         have hnb63 := NB133_132.out
         have hnc63 := NB132_133.out
         obtain ⟨hcz64_0, hcz64_1, hfz64_0, hfz64_1⟩ := blk_cells2 BK133.out
         have hnb65 := NB132_130.out
         have hnc65 := NB130_132.out
         have hnb66 := NB132_131.out
         have hnc66 := NB131_132.out
         obtain ⟨hcz67_0, hcz67_1, hfz67_0, hfz67_1⟩ := blk_cells2 BK132.out
         have hnb68 := NB131_130.out
         have hnc68 := NB130_131.out
         obtain ⟨hcz69_0, hcz69_1, hfz69_0, hfz69_1⟩ := blk_cells2 BK131.out
         go_wp2_with (first | ((with_reducible refine gate_callee (f := 45) rfl ?_); refine goesL_ (some 80) rfl rfl Try.func45 (by kernel_rfl) rfl #[.agg #[.int .u64 (Go.bits .or .u64 (IntKind.u64.wrap (x134000_1 * 2)) (x134001_1 / 9223372036854775808)), .int .u64 (Go.bits .or .u64 (IntKind.u64.wrap (x134001_1 * 2)) x7_30)], .agg #[.int .u64 a1_0, .int .u64 a1_1]] rfl (by (try simp only [List.map_toArray, List.map_cons, List.map_nil]); first | done | rfl | (simp only [List.length_drop, List.length_take]; rfl)) ?_; (with_reducible refine (ratio_wide_cmp.calls (Go.bits .or .u64 (IntKind.u64.wrap (x134000_1 * 2)) (x134001_1 / 9223372036854775808)) (Go.bits .or .u64 (IntKind.u64.wrap (x134001_1 * 2)) x7_30) a1_0 a1_1 t136 _ A43.out).mono ?_); rintro e w70 ⟨rfl, hb⟩; refine ⟨_, rfl, ?_⟩; replace BK130 := Aside0.mk (blk_below (g := gb130) (o := .cells #[.int .u64 a0_0, .int .u64 a0_1] 88 (0, 0)) (by (with_reducible repeat (first | apply b1 | apply b2 | apply b3)); refine blk_far ?_ NB130_132.out _; (with_reducible repeat (first | apply b1 | apply b2 | apply b3)); refine blk_far ?_ NB130_132.out _; (with_reducible repeat (first | apply b1 | apply b2 | apply b3)); refine blk_far ?_ NB130_133.out _; (with_reducible repeat (first | apply b1 | apply b2 | apply b3)); refine blk_far ?_ NB130_133.out _; (with_reducible repeat (first | apply b1 | apply b2 | apply b3)); exact BK130.out) hb); replace BK131 := Aside0.mk (blk_below (g := gb131) (o := .cells #[.int .u64 a1_0, .int .u64 a1_1] 88 (0, 0)) (by (with_reducible repeat (first | apply b1 | apply b2 | apply b3)); refine blk_far ?_ NB131_132.out _; (with_reducible repeat (first | apply b1 | apply b2 | apply b3)); refine blk_far ?_ NB131_132.out _; (with_reducible repeat (first | apply b1 | apply b2 | apply b3)); refine blk_far ?_ NB131_133.out _; (with_reducible repeat (first | apply b1 | apply b2 | apply b3)); refine blk_far ?_ NB131_133.out _; (with_reducible repeat (first | apply b1 | apply b2 | apply b3)); exact BK131.out) hb); replace BK132 := Aside0.mk (blk_below (g := gb132) (o := .cells #[.int .u64 (Go.bits .or .u64 (IntKind.u64.wrap (x133000_1 * 2)) (x133001_1 / 9223372036854775808)), .int .u64 (IntKind.u64.wrap (x133001_1 * 2))] 88 (0, 0)) (by (with_reducible repeat (first | apply b1 | apply b2 | apply b3)); refine blk_put (cs := #[.int .u64 (Go.bits .or .u64 (IntKind.u64.wrap (x133000_1 * 2)) (x133001_1 / 9223372036854775808)), .int .u64 x133001_1]) ?_ 1 _ rfl; (with_reducible repeat (first | apply b1 | apply b2 | apply b3)); refine blk_put (cs := #[.int .u64 x133000_1, .int .u64 x133001_1]) ?_ 0 _ rfl; (with_reducible repeat (first | apply b1 | apply b2 | apply b3)); refine blk_far ?_ NB132_133.out _; (with_reducible repeat (first | apply b1 | apply b2 | apply b3)); refine blk_far ?_ NB132_133.out _; (with_reducible repeat (first | apply b1 | apply b2 | apply b3)); exact BK132.out) hb); replace BK133 := Aside0.mk (blk_below (g := gb133) (o := .cells #[.int .u64 (Go.bits .or .u64 (IntKind.u64.wrap (x134000_1 * 2)) (x134001_1 / 9223372036854775808)), .int .u64 (Go.bits .or .u64 (IntKind.u64.wrap (x134001_1 * 2)) x7_30)] 88 (0, 0)) (by (with_reducible repeat (first | apply b1 | apply b2 | apply b3)); refine blk_far ?_ NB133_132.out _; (with_reducible repeat (first | apply b1 | apply b2 | apply b3)); refine blk_far ?_ NB133_132.out _; (with_reducible repeat (first | apply b1 | apply b2 | apply b3)); refine blk_put (cs := #[.int .u64 (Go.bits .or .u64 (IntKind.u64.wrap (x134000_1 * 2)) (x134001_1 / 9223372036854775808)), .int .u64 x134001_1]) ?_ 1 _ rfl; (with_reducible repeat (first | apply b1 | apply b2 | apply b3)); refine blk_put (cs := #[.int .u64 x134000_1, .int .u64 x134001_1]) ?_ 0 _ rfl; (with_reducible repeat (first | apply b1 | apply b2 | apply b3)); exact BK133.out) hb); replace HB := Aside0.mk (below_step (by repeat (first | (with_reducible first | exact HB.out | apply l1 | apply l2 | apply l3 | refine below_set ?_ GE130.out | refine below_set ?_ GE131.out | refine below_set ?_ GE132.out | refine below_set ?_ GE133.out) | exact HB.out)) hb); (try clear hb); (try clear hb2); (try clear hk); (try clear hi)))
         go_roundg kj30
         case measure => have := HK1.out; have := HJ30.out; omega
         case rel => exact ⟨(wrap64 (x6_1 - 1)), (Go.bits .or .u64 (IntKind.u64.wrap (x133000_1 * 2)) (x133001_1 / 9223372036854775808)), (IntKind.u64.wrap (x133001_1 * 2)), (Go.bits .or .u64 (IntKind.u64.wrap (x134000_1 * 2)) (x134001_1 / 9223372036854775808)), (Go.bits .or .u64 (IntKind.u64.wrap (x134001_1 * 2)) x7_30), (by first | rfl | (simp; done) | (simp [*]; done)), H', ⟨by have := HK1.out; have := HJ30.out; omega⟩, ⟨by (with_reducible repeat (first | apply b1 | apply b2 | apply b3)); exact BK130.out⟩, ⟨by (with_reducible repeat (first | apply b1 | apply b2 | apply b3)); exact BK131.out⟩, ⟨by (with_reducible repeat (first | apply b1 | apply b2 | apply b3)); exact BK132.out⟩, ⟨by (with_reducible repeat (first | apply b1 | apply b2 | apply b3)); exact BK133.out⟩, ⟨by repeat (first | (with_reducible first | exact HB.out | apply l1 | apply l2 | apply l3 | refine below_set ?_ GE130.out | refine below_set ?_ GE131.out | refine below_set ?_ GE132.out | refine below_set ?_ GE133.out) | exact HB.out)⟩⟩
     ·rw [if_neg c29] at H
      exact absurd H (by simp)
    ·rw [if_neg c28] at H
     have c28b0 : decide (0 ≤ x6_1) = false := decide_eq_false c28
     clear c28
     simp only [Option.some.injEq, Prod.mk.injEq] at H
     obtain ⟨rfl, rfl, rfl, rfl⟩ := H
     have hnb71 := NB132_130.out
     have hnc71 := NB130_132.out
     have hnb72 := NB132_131.out
     have hnc72 := NB131_132.out
     have hnb73 := NB132_133.out
     have hnc73 := NB133_132.out
     obtain ⟨hcz74_0, hcz74_1, hfz74_0, hfz74_1⟩ := blk_cells2 BK132.out
     have hnb75 := NB133_130.out
     have hnc75 := NB130_133.out
     have hnb76 := NB133_131.out
     have hnc76 := NB131_133.out
     obtain ⟨hcz77_0, hcz77_1, hfz77_0, hfz77_1⟩ := blk_cells2 BK133.out
     go_wp2
     go_region
     go_wp2
     refine bodyPost_ret (results_cc rfl _ _ gb132 gb133 88 88 #[.int .u64 x133000_1, .int .u64 x133001_1] #[.int .u64 x134000_1, .int .u64 x134001_1] (0, 0) (0, 0) _ _ rfl (by (with_reducible repeat (first | apply b1 | apply b2 | apply b3)); refine blk_far ?_ NB132_133.out _; (with_reducible repeat (first | apply b1 | apply b2 | apply b3)); refine blk_far ?_ NB132_133.out _; (with_reducible repeat (first | apply b1 | apply b2 | apply b3)); refine blk_put (cs := #[.int .u64 x133000_1, .int .u64 x133001_1]) ?_ 1 _ rfl; (with_reducible repeat (first | apply b1 | apply b2 | apply b3)); refine blk_put (cs := #[.int .u64 x133000_1, .int .u64 x133001_1]) ?_ 0 _ rfl; (with_reducible repeat (first | apply b1 | apply b2 | apply b3)); exact BK132.out) Try.underlying88 rfl (by kernel_rfl) rfl (by (with_reducible repeat (first | apply b1 | apply b2 | apply b3)); refine blk_put (cs := #[.int .u64 x134000_1, .int .u64 x134001_1]) ?_ 1 _ rfl; (with_reducible repeat (first | apply b1 | apply b2 | apply b3)); refine blk_put (cs := #[.int .u64 x134000_1, .int .u64 x134001_1]) ?_ 0 _ rfl; (with_reducible repeat (first | apply b1 | apply b2 | apply b3)); refine blk_far ?_ NB133_132.out _; (with_reducible repeat (first | apply b1 | apply b2 | apply b3)); refine blk_far ?_ NB133_132.out _; (with_reducible repeat (first | apply b1 | apply b2 | apply b3)); exact BK133.out) Try.underlying88 rfl (by kernel_rfl)) rfl ?_
     exact ⟨by first | rfl | (simp [errW_none, errW_some] <;> rfl) | (simp [*, errW_none, errW_some] <;> rfl), by repeat (first | (with_reducible first | exact HB.out | apply l1 | apply l2 | apply l3 | refine below_set ?_ GE130.out | refine below_set ?_ GE131.out | refine below_set ?_ GE132.out | refine below_set ?_ GE133.out) | exact HB.out)⟩
def ratio_common.l0 : Nat → Int → Int → Int → Int → Option (Int × Int)
 | 0, _, _, _, _ => none
 | k + 1, x140000, x140001, x141000, x141001 => if (!(x141000 == 0) || (!(x141001 == 0))) = true then ((ratio_wide_over.f k x140000 x140001 x141000 x141001).bind fun bt142 => (ratio_common.l0 k x141000 x141001 bt142.2.2.1 bt142.2.2.2)) else (some (x140000, x140001))
def ratio_common.f (k : Nat) (a0_0 : Int) (a0_1 : Int) (a1_0 : Int) (a1_1 : Int) : Option (Int × Int) := ratio_common.l0 k a0_0 a0_1 a1_0 a1_1
set_option maxHeartbeats 8000000 in
set_option maxRecDepth 100000 in
theorem ratio_common.calls (k : Nat) (a0_0 : Int) (a0_1 : Int) (a1_0 : Int) (a1_1 : Int) (r1 : Int) (r2 : Int) (w : World) (h : ratio_common.f k a0_0 a0_1 a1_0 a1_1 = some (r1, r2)) :
  Calls Try.prog 79 #[.agg #[.int .u64 a0_0, .int .u64 a0_1], .agg #[.int .u64 a1_0, .int .u64 a1_1]] w fun e w' => e = .returned (.agg #[.int .u64 r1, .int .u64 r2]) ∧ Below w.heap.size w w' := by
 have hu88 := Try.underlying88
 have HB := Aside0.mk (Below.refl w.heap.size w)
 have H : (ratio_common.l0 k a0_0 a0_1 a1_0 a1_1) = some (r1, r2) := h
 clear h
 have H' := Aside0.mk H
 clear H
 go_enter Try.func79, Try.ntmps79
 go_wp2_with (first | ((with_reducible refine gate_dst (N := 2) rfl ?_); refine box_event (by rfl) (N := 2) (by rfl) (cs := #[.int .u64 a0_0, .int .u64 a0_1]) (t := 88) (by first | (go_simp; done) | (go_simp; rfl)) ?_; intro gb139 hg w3 hbox hb; obtain ⟨hb_, hw_⟩ := box_facts (lA HB.out) hg hb; replace HB := Aside0.mk (hb_); have BK139 := Aside0.mk (hbox); have GW139 := Aside0.mk (hw_); have GE139 := Aside0.mk (hw_); clear hb hbox hg hb_ hw_) | ((with_reducible refine gate_dst (N := 3) rfl ?_); refine box_event (by rfl) (N := 3) (by rfl) (cs := #[.int .u64 a1_0, .int .u64 a1_1]) (t := 88) (by first | (go_simp; done) | (go_simp; rfl)) ?_; intro gb140 hg w4 hbox hb; obtain ⟨hb_, hw_⟩ := box_facts (by repeat (first | (with_reducible first | exact HB.out | apply l1 | apply l2 | apply l3 | refine below_set ?_ GE139.out) | exact HB.out)) hg hb; replace HB := Aside0.mk (hb_); have BK140 := Aside0.mk (hbox); have GW140 := Aside0.mk (hw_); have GE140 := Aside0.mk (hw_); have NB139_140 := Aside0.mk ((nL hg BK139.out)); have NB140_139 := Aside0.mk ((nG hg BK139.out)); replace BK139 := Aside0.mk (bB BK139.out hb); clear hb hbox hg hb_ hw_) | ((with_reducible refine gate_dst (N := 4) rfl ?_); refine box_event (by rfl) (N := 4) (by rfl) (cs := #[.int .u64 0, .int .u64 0]) (t := 88) (by first | (go_simp; done) | (go_simp; rfl)) ?_; intro gb141 hg w5 hbox hb; obtain ⟨hb_, hw_⟩ := box_facts (by repeat (first | (with_reducible first | exact HB.out | apply l1 | apply l2 | apply l3 | refine below_set ?_ GE139.out | refine below_set ?_ GE140.out) | exact HB.out)) hg hb; replace HB := Aside0.mk (hb_); have BK141 := Aside0.mk (hbox); have GW141 := Aside0.mk (hw_); have GE141 := Aside0.mk (hw_); have NB139_141 := Aside0.mk ((nL hg BK139.out)); have NB141_139 := Aside0.mk ((nG hg BK139.out)); replace BK139 := Aside0.mk (bB BK139.out hb); have NB140_141 := Aside0.mk ((nL hg BK140.out)); have NB141_140 := Aside0.mk ((nG hg BK140.out)); replace BK140 := Aside0.mk (bB BK140.out hb); clear hb hbox hg hb_ hw_))
 (try simp only [Act.put, List.setIfInBounds_toArray, List.set_cons_zero, List.set_cons_succ])
 go_loopg [] k (fun kq w' => ∃ (x140000_1 : Int) (x140001_1 : Int) (x141000_1 : Int) (x141001_1 : Int), Aside0 (ratio_common.l0 kq x140000_1 x140001_1 x141000_1 x141001_1 = some (r1, r2)) ∧ Aside0 (kq ≤ k) ∧ Aside0 (w'.heap[gb139]? = some (.cells #[.int .u64 x140000_1, .int .u64 x140001_1] 88 (0, 0))) ∧ Aside0 (w'.heap[gb140]? = some (.cells #[.int .u64 x141000_1, .int .u64 x141001_1] 88 (0, 0))) ∧ Aside0 (w'.heap[gb141]? = some (.cells #[.int .u64 0, .int .u64 0] 88 (0, 0))) ∧ Aside0 (Below w.heap.size w w'))
 case atStart => exact ⟨(a0_0), (a0_1), (a1_0), (a1_1), H', ⟨Nat.le_refl _⟩, ⟨by (with_reducible repeat (first | apply b1 | apply b2 | apply b3)); exact BK139.out⟩, ⟨by (with_reducible repeat (first | apply b1 | apply b2 | apply b3)); exact BK140.out⟩, ⟨by (with_reducible repeat (first | apply b1 | apply b2 | apply b3)); exact BK141.out⟩, ⟨by repeat (first | (with_reducible first | exact HB.out | apply l1 | apply l2 | apply l3 | refine below_set ?_ GE139.out | refine below_set ?_ GE140.out | refine below_set ?_ GE141.out) | exact HB.out)⟩⟩
 case round =>
  clear H'
  try clear p2
  obtain ⟨x140000_1, x140001_1, x141000_1, x141001_1, HA, HK1, BK139, BK140, BK141, HB⟩ := hrel
  cases gk with
  | zero => exact absurd HA.out (by simp [ratio_common.l0])
  | succ k1 =>
   have H := HA.out
   clear HA
   simp only [ratio_common.l0] at H
   by_cases c6 : (!(x141000_1 == 0) || (!(x141001_1 == 0))) = true
   ·rw [if_pos c6] at H
    have c6b0 : (!(x141000_1 == 0) || (!(x141001_1 == 0))) = true := c6
    clear c6
    replace H := Option.bind_eq_some_iff.mp H
    obtain ⟨⟨t142, t143, t144, t145⟩, A70, H⟩ := H
    (try dsimp only at H)
    have A7 := Aside0.mk A70
    clear A70
    have H' := Aside0.mk H
    clear H
    have hnb8 := NB140_139.out
    have hnc8 := NB139_140.out
    have hnb9 := NB140_141.out
    have hnc9 := NB141_140.out
    obtain ⟨hcz10_0, hcz10_1, hfz10_0, hfz10_1⟩ := blk_cells2 BK140.out
    have hnb11 := NB139_141.out
    have hnc11 := NB141_139.out
    obtain ⟨hcz12_0, hcz12_1, hfz12_0, hfz12_1⟩ := blk_cells2 BK139.out
    try go_wp2_with (first | ((with_reducible refine gate_callee (f := 74) rfl ?_); refine goesL_ (some 13) rfl rfl Try.func74 (by kernel_rfl) rfl #[.agg #[.int .u64 x140000_1, .int .u64 x140001_1], .agg #[.int .u64 x141000_1, .int .u64 x141001_1]] rfl (by (try simp only [List.map_toArray, List.map_cons, List.map_nil]); first | done | rfl | (simp only [List.length_drop, List.length_take]; rfl)) ?_; (with_reducible refine (ratio_wide_over.calls k1 x140000_1 x140001_1 x141000_1 x141001_1 t142 t143 t144 t145 _ A7.out).mono ?_); rintro e w13 ⟨rfl, hb⟩; refine ⟨_, rfl, ?_⟩; replace BK139 := Aside0.mk (bB BK139.out hb); replace BK140 := Aside0.mk (bB BK140.out hb); replace BK141 := Aside0.mk (bB BK141.out hb); replace HB := Aside0.mk (below_step (by repeat (first | (with_reducible first | exact HB.out | apply l1 | apply l2 | apply l3 | refine below_set ?_ GE139.out | refine below_set ?_ GE140.out | refine below_set ?_ GE141.out) | exact HB.out)) hb); (try clear hb); (try clear hb2); (try clear hk); (try clear hi)) | ((with_reducible refine gate_dst (N := 5) rfl ?_); refine box_event (by rfl) (N := 5) (by rfl) (cs := #[.int .u64 0, .int .u64 0]) (t := 88) (by first | (go_simp; done) | (go_simp; rfl)) ?_; intro gb146 hg w14 hbox hb; obtain ⟨hb_, hw_⟩ := box_facts (by repeat (first | (with_reducible first | exact HB.out | apply l1 | apply l2 | apply l3 | refine below_set ?_ GE139.out | refine below_set ?_ GE140.out | refine below_set ?_ GE141.out) | exact HB.out)) hg hb; replace HB := Aside0.mk (hb_); have BK146 := Aside0.mk (hbox); have GW146 := Aside0.mk (hw_); have GE146 := Aside0.mk (hw_); have NB139_146 := Aside0.mk ((nL hg BK139.out)); have NB146_139 := Aside0.mk ((nG hg BK139.out)); replace BK139 := Aside0.mk (bB BK139.out hb); have NB140_146 := Aside0.mk ((nL hg BK140.out)); have NB146_140 := Aside0.mk ((nG hg BK140.out)); replace BK140 := Aside0.mk (bB BK140.out hb); have NB141_146 := Aside0.mk ((nL hg BK141.out)); have NB146_141 := Aside0.mk ((nG hg BK141.out)); replace BK141 := Aside0.mk (bB BK141.out hb); clear hb hbox hg hb_ hw_) | ((with_reducible refine gate_dst (N := 6) rfl ?_); refine box_event (by rfl) (N := 6) (by rfl) (cs := #[.int .u64 0, .int .u64 0]) (t := 88) (by first | (go_simp; done) | (go_simp; rfl)) ?_; intro gb147 hg w15 hbox hb; obtain ⟨hb_, hw_⟩ := box_facts (by repeat (first | (with_reducible first | exact HB.out | apply l1 | apply l2 | apply l3 | refine below_set ?_ GE139.out | refine below_set ?_ GE140.out | refine below_set ?_ GE141.out | refine below_set ?_ GE146.out) | exact HB.out)) hg hb; replace HB := Aside0.mk (hb_); have BK147 := Aside0.mk (hbox); have GW147 := Aside0.mk (hw_); have GE147 := Aside0.mk (hw_); have NB139_147 := Aside0.mk ((nL hg BK139.out)); have NB147_139 := Aside0.mk ((nG hg BK139.out)); replace BK139 := Aside0.mk (bB BK139.out hb); have NB140_147 := Aside0.mk ((nL hg BK140.out)); have NB147_140 := Aside0.mk ((nG hg BK140.out)); replace BK140 := Aside0.mk (bB BK140.out hb); have NB141_147 := Aside0.mk ((nL hg BK141.out)); have NB147_141 := Aside0.mk ((nG hg BK141.out)); replace BK141 := Aside0.mk (bB BK141.out hb); have NB146_147 := Aside0.mk ((nL hg BK146.out)); have NB147_146 := Aside0.mk ((nG hg BK146.out)); replace BK146 := Aside0.mk (bB BK146.out hb); clear hb hbox hg hb_ hw_; have hnb16 := NB146_139.out; have hnc16 := NB139_146.out; have hnb17 := NB146_140.out; have hnc17 := NB140_146.out; have hnb18 := NB146_141.out; have hnc18 := NB141_146.out; have hnb19 := NB146_147.out; have hnc19 := NB147_146.out; obtain ⟨hcz20_0, hcz20_1, hfz20_0, hfz20_1⟩ := blk_cells2 BK146.out; have hnb21 := NB147_139.out; have hnc21 := NB139_147.out; have hnb22 := NB147_140.out; have hnc22 := NB140_147.out; have hnb23 := NB147_141.out; have hnc23 := NB141_147.out; obtain ⟨hcz24_0, hcz24_1, hfz24_0, hfz24_1⟩ := blk_cells2 BK147.out))
    have n0_ : Aside0 (((((w15.setCell ⟨gb146, 0, none⟩ (.int .u64 t142)).setCell ⟨gb146, 1, none⟩ (.int .u64 t143)).setCell ⟨gb147, 0, none⟩ (.int .u64 t144)).setCell ⟨gb147, 1, none⟩ (.int .u64 t145)).heap[gb139]? = some (.cells #[.int .u64 x140000_1, .int .u64 x140001_1] 88 (0, 0))) := ⟨by (with_reducible repeat (first | apply b1 | apply b2 | apply b3)); refine blk_far ?_ NB139_147.out _; (with_reducible repeat (first | apply b1 | apply b2 | apply b3)); refine blk_far ?_ NB139_147.out _; (with_reducible repeat (first | apply b1 | apply b2 | apply b3)); refine blk_far ?_ NB139_146.out _; (with_reducible repeat (first | apply b1 | apply b2 | apply b3)); refine blk_far ?_ NB139_146.out _; (with_reducible repeat (first | apply b1 | apply b2 | apply b3)); exact BK139.out⟩
    have n1_ : Aside0 (((((w15.setCell ⟨gb146, 0, none⟩ (.int .u64 t142)).setCell ⟨gb146, 1, none⟩ (.int .u64 t143)).setCell ⟨gb147, 0, none⟩ (.int .u64 t144)).setCell ⟨gb147, 1, none⟩ (.int .u64 t145)).heap[gb140]? = some (.cells #[.int .u64 x141000_1, .int .u64 x141001_1] 88 (0, 0))) := ⟨by (with_reducible repeat (first | apply b1 | apply b2 | apply b3)); refine blk_far ?_ NB140_147.out _; (with_reducible repeat (first | apply b1 | apply b2 | apply b3)); refine blk_far ?_ NB140_147.out _; (with_reducible repeat (first | apply b1 | apply b2 | apply b3)); refine blk_far ?_ NB140_146.out _; (with_reducible repeat (first | apply b1 | apply b2 | apply b3)); refine blk_far ?_ NB140_146.out _; (with_reducible repeat (first | apply b1 | apply b2 | apply b3)); exact BK140.out⟩
    have n2_ : Aside0 (((((w15.setCell ⟨gb146, 0, none⟩ (.int .u64 t142)).setCell ⟨gb146, 1, none⟩ (.int .u64 t143)).setCell ⟨gb147, 0, none⟩ (.int .u64 t144)).setCell ⟨gb147, 1, none⟩ (.int .u64 t145)).heap[gb141]? = some (.cells #[.int .u64 0, .int .u64 0] 88 (0, 0))) := ⟨by (with_reducible repeat (first | apply b1 | apply b2 | apply b3)); refine blk_far ?_ NB141_147.out _; (with_reducible repeat (first | apply b1 | apply b2 | apply b3)); refine blk_far ?_ NB141_147.out _; (with_reducible repeat (first | apply b1 | apply b2 | apply b3)); refine blk_far ?_ NB141_146.out _; (with_reducible repeat (first | apply b1 | apply b2 | apply b3)); refine blk_far ?_ NB141_146.out _; (with_reducible repeat (first | apply b1 | apply b2 | apply b3)); exact BK141.out⟩
    have n3_ : Aside0 (((((w15.setCell ⟨gb146, 0, none⟩ (.int .u64 t142)).setCell ⟨gb146, 1, none⟩ (.int .u64 t143)).setCell ⟨gb147, 0, none⟩ (.int .u64 t144)).setCell ⟨gb147, 1, none⟩ (.int .u64 t145)).heap[gb146]? = some (.cells #[.int .u64 t142, .int .u64 t143] 88 (0, 0))) := ⟨by (with_reducible repeat (first | apply b1 | apply b2 | apply b3)); refine blk_far ?_ NB146_147.out _; (with_reducible repeat (first | apply b1 | apply b2 | apply b3)); refine blk_far ?_ NB146_147.out _; (with_reducible repeat (first | apply b1 | apply b2 | apply b3)); refine blk_put (cs := #[.int .u64 t142, .int .u64 0]) ?_ 1 _ rfl; (with_reducible repeat (first | apply b1 | apply b2 | apply b3)); refine blk_put (cs := #[.int .u64 0, .int .u64 0]) ?_ 0 _ rfl; (with_reducible repeat (first | apply b1 | apply b2 | apply b3)); exact BK146.out⟩
    have n4_ : Aside0 (((((w15.setCell ⟨gb146, 0, none⟩ (.int .u64 t142)).setCell ⟨gb146, 1, none⟩ (.int .u64 t143)).setCell ⟨gb147, 0, none⟩ (.int .u64 t144)).setCell ⟨gb147, 1, none⟩ (.int .u64 t145)).heap[gb147]? = some (.cells #[.int .u64 t144, .int .u64 t145] 88 (0, 0))) := ⟨by (with_reducible repeat (first | apply b1 | apply b2 | apply b3)); refine blk_put (cs := #[.int .u64 t144, .int .u64 0]) ?_ 1 _ rfl; (with_reducible repeat (first | apply b1 | apply b2 | apply b3)); refine blk_put (cs := #[.int .u64 0, .int .u64 0]) ?_ 0 _ rfl; (with_reducible repeat (first | apply b1 | apply b2 | apply b3)); refine blk_far ?_ NB147_146.out _; (with_reducible repeat (first | apply b1 | apply b2 | apply b3)); refine blk_far ?_ NB147_146.out _; (with_reducible repeat (first | apply b1 | apply b2 | apply b3)); exact BK147.out⟩
    have n5_ : Aside0 (Below w.heap.size w ((((w15.setCell ⟨gb146, 0, none⟩ (.int .u64 t142)).setCell ⟨gb146, 1, none⟩ (.int .u64 t143)).setCell ⟨gb147, 0, none⟩ (.int .u64 t144)).setCell ⟨gb147, 1, none⟩ (.int .u64 t145))) := ⟨by repeat (first | (with_reducible first | exact HB.out | apply l1 | apply l2 | apply l3 | refine below_set ?_ GE139.out | refine below_set ?_ GE140.out | refine below_set ?_ GE141.out | refine below_set ?_ GE146.out | refine below_set ?_ GE147.out) | exact HB.out)⟩
    (try clear BK139)
    (try clear BK140)
    (try clear BK141)
    (try clear BK146)
    (try clear BK147)
    (try clear HB)
    generalize ((((w15.setCell ⟨gb146, 0, none⟩ (.int .u64 t142)).setCell ⟨gb146, 1, none⟩ (.int .u64 t143)).setCell ⟨gb147, 0, none⟩ (.int .u64 t144)).setCell ⟨gb147, 1, none⟩ (.int .u64 t145)) = w25 at n0_ n1_ n2_ n3_ n4_ n5_ ⊢
    have BK139 := n0_
    have BK140 := n1_
    have BK141 := n2_
    have BK146 := n3_
    have BK147 := n4_
    have HB := n5_
    clear n0_ n1_ n2_ n3_ n4_ n5_
    replace BK139 := Aside0.mk (blk_drew BK139.out)
    replace BK140 := Aside0.mk (blk_drew BK140.out)
    replace BK141 := Aside0.mk (blk_drew BK141.out)
    replace BK146 := Aside0.mk (blk_drew BK146.out)
    replace BK147 := Aside0.mk (blk_drew BK147.out)
    replace HB := Aside0.mk (below_drew1 HB.out)
    refine start_ (n := 4) (S := fun w' => w'.cell? ⟨gb140, 0, none⟩ = some (.int .u64 x141000_1) ∧ w'.cell? ⟨gb140, 1, none⟩ = some (.int .u64 x141001_1) ∧ w'.cell? ⟨gb147, 0, none⟩ = some (.int .u64 t144) ∧ w'.cell? ⟨gb147, 1, none⟩ = some (.int .u64 t145)) (ds := [3]) #[false, false, false, false] (by kernel_rfl) rfl rfl ⟨(blk_cell BK140.out 0).trans rfl, (blk_cell BK140.out 1).trans rfl, (blk_cell BK147.out 0).trans rfl, (blk_cell BK147.out 1).trans rfl⟩ (fun hHeld => ?_)
    generalize w25.drew = w26 at BK139 BK140 BK141 BK146 BK147 HB hHeld ⊢
    refine sched [(0, some 16), (1, some 17)] ?_
    iterate 2
     refine takeS (v := ?_) (a' := ?_) rfl rfl (by kernel_rfl) (fun _ _ _ h => h) (Or.inl ⟨by rfl, ?_⟩) hHeld ?_ ?_
     rotate_left
     ·rintro w' ⟨s0, s1, s2, s3⟩
      go_simp
      with_reducible rfl
     rotate_left
     ·simp only [Act.put, List.setIfInBounds_toArray, List.set_cons_zero, List.set_cons_succ, i64_w, i32_w]
      rfl
    refine unsched ?_
    refine one_ (i := 2) (N := none) #[true, true, true, false] rfl rfl (by kernel_rfl) (by decide) (fun K hK => ?_)
    have hs27 : w26.cell? ⟨gb139, 0, none⟩ = some (.int .u64 x140000_1) := (blk_cell BK139.out 0).trans rfl
    have hfs27 := blk_frozen BK139.out 0
    have hns27_1 := NB140_139.out
    have hns27_2 := NB141_139.out
    have hns27_3 := NB146_139.out
    have hns27_4 := NB147_139.out
    have hms27_1 := NB139_140.out
    have hms27_2 := NB139_141.out
    have hms27_3 := NB139_146.out
    have hms27_4 := NB139_147.out
    have hs28 : w26.cell? ⟨gb139, 1, none⟩ = some (.int .u64 x140001_1) := (blk_cell BK139.out 1).trans rfl
    have hfs28 := blk_frozen BK139.out 1
    have hns28_1 := NB140_139.out
    have hns28_2 := NB141_139.out
    have hns28_3 := NB146_139.out
    have hns28_4 := NB147_139.out
    have hms28_1 := NB139_140.out
    have hms28_2 := NB139_141.out
    have hms28_3 := NB139_146.out
    have hms28_4 := NB139_147.out
    refine skip_ (w1 := ?_) (by rfl) rfl ?_ ?_
    rotate_left
    ·go_simp
     rfl
    refine hK.out _ _ ⟨((cell_far (p := ⟨gb139, _, none⟩) NB140_139.out _).trans (((cell_far (p := ⟨gb139, _, none⟩) NB140_139.out _).trans (hHeld.1)))), ((cell_far (p := ⟨gb139, _, none⟩) NB140_139.out _).trans (((cell_far (p := ⟨gb139, _, none⟩) NB140_139.out _).trans (hHeld.2.1)))), ((cell_far (p := ⟨gb139, _, none⟩) NB147_139.out _).trans (((cell_far (p := ⟨gb139, _, none⟩) NB147_139.out _).trans (hHeld.2.2.1)))), ((cell_far (p := ⟨gb139, _, none⟩) NB147_139.out _).trans (((cell_far (p := ⟨gb139, _, none⟩) NB147_139.out _).trans (hHeld.2.2.2))))⟩ (fun hHeld => ?_)
    clear hK K
    refine last_ (i := 3) (N := none) #[true, true, true, true] rfl rfl (by kernel_rfl) (by decide) (fun K hK => ?_)
    have hs29 : w26.cell? ⟨gb140, 0, none⟩ = some (.int .u64 x141000_1) := (blk_cell BK140.out 0).trans rfl
    have hfs29 := blk_frozen BK140.out 0
    have hns29_0 := NB139_140.out
    have hns29_2 := NB141_140.out
    have hns29_3 := NB146_140.out
    have hns29_4 := NB147_140.out
    have hms29_0 := NB140_139.out
    have hms29_2 := NB140_141.out
    have hms29_3 := NB140_146.out
    have hms29_4 := NB140_147.out
    have hs30 : w26.cell? ⟨gb140, 1, none⟩ = some (.int .u64 x141001_1) := (blk_cell BK140.out 1).trans rfl
    have hfs30 := blk_frozen BK140.out 1
    have hns30_0 := NB139_140.out
    have hns30_2 := NB141_140.out
    have hns30_3 := NB146_140.out
    have hns30_4 := NB147_140.out
    have hms30_0 := NB140_139.out
    have hms30_2 := NB140_141.out
    have hms30_3 := NB140_146.out
    have hms30_4 := NB140_147.out
    refine skip_ (w1 := ?_) (by rfl) rfl ?_ ?_
    rotate_left
    ·go_simp
     rfl
    refine hK.out _ _ ?_
    clear hK K
    refine done_ (by kernel_rfl) ?_
    try go_wp2
    go_roundg k1
    case measure => have := HK1.out; omega
    case rel => exact ⟨(x141000_1), (x141001_1), (t144), (t145), H', ⟨by have := HK1.out; omega⟩, ⟨by (with_reducible repeat (first | apply b1 | apply b2 | apply b3)); refine blk_far ?_ NB139_140.out _; (with_reducible repeat (first | apply b1 | apply b2 | apply b3)); refine blk_far ?_ NB139_140.out _; (with_reducible repeat (first | apply b1 | apply b2 | apply b3)); refine blk_put (cs := #[.int .u64 x141000_1, .int .u64 x140001_1]) ?_ 1 _ rfl; (with_reducible repeat (first | apply b1 | apply b2 | apply b3)); refine blk_put (cs := #[.int .u64 x140000_1, .int .u64 x140001_1]) ?_ 0 _ rfl; (with_reducible repeat (first | apply b1 | apply b2 | apply b3)); exact BK139.out⟩, ⟨by (with_reducible repeat (first | apply b1 | apply b2 | apply b3)); refine blk_put (cs := #[.int .u64 t144, .int .u64 x141001_1]) ?_ 1 _ rfl; (with_reducible repeat (first | apply b1 | apply b2 | apply b3)); refine blk_put (cs := #[.int .u64 x141000_1, .int .u64 x141001_1]) ?_ 0 _ rfl; (with_reducible repeat (first | apply b1 | apply b2 | apply b3)); refine blk_far ?_ NB140_139.out _; (with_reducible repeat (first | apply b1 | apply b2 | apply b3)); refine blk_far ?_ NB140_139.out _; (with_reducible repeat (first | apply b1 | apply b2 | apply b3)); exact BK140.out⟩, ⟨by (with_reducible repeat (first | apply b1 | apply b2 | apply b3)); refine blk_far ?_ NB141_140.out _; (with_reducible repeat (first | apply b1 | apply b2 | apply b3)); refine blk_far ?_ NB141_140.out _; (with_reducible repeat (first | apply b1 | apply b2 | apply b3)); refine blk_far ?_ NB141_139.out _; (with_reducible repeat (first | apply b1 | apply b2 | apply b3)); refine blk_far ?_ NB141_139.out _; (with_reducible repeat (first | apply b1 | apply b2 | apply b3)); exact BK141.out⟩, ⟨by repeat (first | (with_reducible first | exact HB.out | apply l1 | apply l2 | apply l3 | refine below_set ?_ GE139.out | refine below_set ?_ GE140.out | refine below_set ?_ GE141.out | refine below_set ?_ GE146.out | refine below_set ?_ GE147.out) | exact HB.out)⟩⟩
   ·rw [if_neg c6] at H
    have c6b0 : (!(x141000_1 == 0) || (!(x141001_1 == 0))) = false := by simpa using c6
    clear c6
    simp only [Option.some.injEq, Prod.mk.injEq] at H
    obtain ⟨rfl, rfl⟩ := H
    have hnb31 := NB140_139.out
    have hnc31 := NB139_140.out
    have hnb32 := NB140_141.out
    have hnc32 := NB141_140.out
    obtain ⟨hcz33_0, hcz33_1, hfz33_0, hfz33_1⟩ := blk_cells2 BK140.out
    have hnb34 := NB139_141.out
    have hnc34 := NB141_139.out
    obtain ⟨hcz35_0, hcz35_1, hfz35_0, hfz35_1⟩ := blk_cells2 BK139.out
    obtain ⟨hcz36_0, hcz36_1, hfz36_0, hfz36_1⟩ := blk_cells2 BK141.out
    go_wp2
    refine bodyPost_ret (results_cell_row rfl _ _ gb141 88 #[.int .u64 x140000_1, .int .u64 x140001_1] (0, 0) _ rfl (by (with_reducible repeat (first | apply b1 | apply b2 | apply b3)); refine blk_put (cs := #[.int .u64 x140000_1, .int .u64 0]) ?_ 1 _ rfl; (with_reducible repeat (first | apply b1 | apply b2 | apply b3)); refine blk_put (cs := #[.int .u64 0, .int .u64 0]) ?_ 0 _ rfl; (with_reducible repeat (first | apply b1 | apply b2 | apply b3)); exact BK141.out) Try.underlying88 rfl (by kernel_rfl)) rfl ?_
    exact ⟨by first | rfl | (simp [errW_none, errW_some] <;> rfl) | (simp [*, errW_none, errW_some] <;> rfl), by repeat (first | (with_reducible first | exact HB.out | apply l1 | apply l2 | apply l3 | refine below_set ?_ GE139.out | refine below_set ?_ GE140.out | refine below_set ?_ GE141.out) | exact HB.out)⟩
end Go.Proofs.Ytlbicmdfdpcdiaa.PDa
