-- Written by programs of this session's (wip/printer) out of the translation and of the print's words; Lean checks it.
import Derived.Test.YtbpifnpljcgjlaaLxPLxx0
import Derived.Test.YtbpifnpljcgjlaaLxPLxx3
import Derived.Test.YtbpifnpljcgjlaaLxPLxx4
import Derived.Test.YtbpifnpljcgjlaaLxPLxx5
namespace Go.Proofs.Ytbpifnpljcgjlaa.PLx
open Go.RowKit Go.Proofs.YtbpifnpljcgjlaaW.PrintWords Go.Proofs.YtbpifnpljcgjlaaW.PrintLast Go.Proofs.YtbpifnpljcgjlaaW.PrintMore
attribute [local go_sem] max2_int min2_int max_two min_two max_three min_three max_four min_four   -- for this text's walks alone
set_option linter.unusedVariables false
set_option linter.unusedSimpArgs false
attribute [local go_sem high] eqA103
theorem over_boxes {w w1 w2 w3 w4 : World} {g1 g2 g3 g4 : Nat} {x0 x1 y0 y1 : Int} (e1 : g1 = w.heap.size) (b1 : w1.heap[g1]? = some (.cells #[.int .u64 x0, .int .u64 x1] 103 (0, 0))) (l1 : Below w.heap.size w w1)
  (e2 : g2 = w1.heap.size) (b2 : w2.heap[g2]? = some (.cells #[.int .u64 y0, .int .u64 y1] 103 (0, 0))) (l2 : Below w1.heap.size w1 w2)
  (e3 : g3 = w2.heap.size) (b3 : w3.heap[g3]? = some (.cells #[.int .u64 0, .int .u64 0] 103 (0, 0))) (l3 : Below w2.heap.size w2 w3)
  (e4 : g4 = w3.heap.size) (b4 : w4.heap[g4]? = some (.cells #[.int .u64 0, .int .u64 0] 103 (0, 0))) (l4 : Below w3.heap.size w3 w4) :
  Aside0 (w4.heap[g1]? = some (.cells #[.int .u64 x0, .int .u64 x1] 103 (0, 0))) ∧ Aside0 (w4.heap[g2]? = some (.cells #[.int .u64 y0, .int .u64 y1] 103 (0, 0))) ∧ Aside0 (w4.heap[g3]? = some (.cells #[.int .u64 0, .int .u64 0] 103 (0, 0))) ∧ Aside0 (w4.heap[g4]? = some (.cells #[.int .u64 0, .int .u64 0] 103 (0, 0))) ∧
   Aside0 (Below w.heap.size w w4) ∧ Aside0 (w.heap.size ≤ g3) ∧ Aside0 (w.heap.size ≤ g4) ∧ Aside0 (g1 ≠ g3 ∧ g1 ≠ g4 ∧ g2 ≠ g3 ∧ g2 ≠ g4 ∧ g3 ≠ g4) := by
 have s1 := blk_lt b1; have s2 := blk_lt b2; have s3 := blk_lt b3
 have z1 := l1.size; have z2 := l2.size; have z3 := l3.size
 exact ⟨⟨blk_below (blk_below (blk_below b1 l2) l3) l4⟩, ⟨blk_below (blk_below b2 l3) l4⟩, ⟨blk_below b3 l4⟩, ⟨b4⟩, ⟨below_step (below_step (below_step l1 l2) l3) l4⟩, ⟨by omega⟩, ⟨by omega⟩, ⟨by omega, by omega, by omega, by omega, by omega⟩⟩
set_option maxHeartbeats 8000000 in
set_option maxRecDepth 100000 in
theorem over_lo (k : Nat) (a0_0 a0_1 a1_1 q r u : Int) (w : World) (hz : ¬ a1_1 = 0) (hM : Aside0 (IntKind.u64.wrap (a0_0.tdiv a1_1) = u)) (hd : bits_Div64.f k (Int.tmod a0_0 a1_1) a0_1 a1_1 = some (q, r)) :
  Calls Try.prog 92 #[.agg #[.int .u64 a0_0, .int .u64 a0_1], .agg #[.int .u64 0, .int .u64 a1_1]] w fun e w' => e = .returned (.tuple #[.agg #[.int .u64 u, .int .u64 q], .agg #[.int .u64 0, .int .u64 r]]) ∧ Below w.heap.size w w' := by
 have A := Aside0.mk hd
 clear hd
 have hu103 := Try.underlying103
 go_enter Try.func92, Try.ntmps92
 go_wp2_with (first | ((with_reducible refine gate_dst (N := 2) rfl ?_); refine box_event ?hg (N := 2) ?hd (cs := #[.int .u64 a0_0, .int .u64 a0_1]) (t := 103) ?hr ?_; (case hd => rfl); (case hg => rfl); (case hr => first | (go_simp; done) | (go_simp; rfl)); intro g1 e1 w1 b1 l1; have E1 := Aside0.mk e1; clear e1) | ((with_reducible refine gate_dst (N := 3) rfl ?_); refine box_event ?hg (N := 3) ?hd (cs := #[.int .u64 0, .int .u64 a1_1]) (t := 103) ?hr ?_; (case hd => rfl); (case hg => rfl); (case hr => first | (go_simp; done) | (go_simp; rfl)); intro g2 e2 w2 b2 l2; have E2 := Aside0.mk e2; clear e2) | ((with_reducible refine gate_dst (N := 4) rfl ?_); refine box_event ?hg (N := 4) ?hd (cs := #[.int .u64 0, .int .u64 0]) (t := 103) ?hr ?_; (case hd => rfl); (case hg => rfl); (case hr => first | (go_simp; done) | (go_simp; rfl)); intro g3 e3 w3 b3 l3; have E3 := Aside0.mk e3; clear e3) | ((with_reducible refine gate_dst (N := 5) rfl ?_); refine box_event ?hg (N := 5) ?hd (cs := #[.int .u64 0, .int .u64 0]) (t := 103) ?hr ?_; (case hd => rfl); (case hg => rfl); (case hr => first | (go_simp; done) | (go_simp; rfl)); intro g4 e4 w4 b4 l4; obtain ⟨B1, B2, B3, B4, HB, G3, G4, N⟩ := over_boxes E1.out b1 l1 E2.out b2 l2 E3.out b3 l3 e4 b4 l4; clear e4 b1 l1 b2 l2 b3 l3 b4 l4 E1 E2 E3; have c1 := blk_cell B1.out 0; have c2 := blk_cell B2.out 0; have c3 := blk_cell B2.out 1; have f3 := blk_frozen B3.out 0; have f4 := blk_frozen B4.out 1; have d3 := blk_cell B3.out 0; have d4 := blk_cell B4.out 1; simp at c1 c2 c3 d3 d4; obtain ⟨n1, n2, n3, n4, n5⟩ := N.out; have m1 := n1.symm; have m2 := n2.symm; have m3 := n3.symm; have m4 := n4.symm; have m5 := n5.symm))
 go_region
 rw [hM.out]
 obtain ⟨W, hW⟩ : ∃ W, W = ((w4.setCell { block := g3, off := 0 } (Value.int IntKind.u64 u)).setCell { block := g4, off := 1 } (Value.int IntKind.u64 (Int.tmod a0_0 a1_1))).drew := ⟨_, rfl⟩
 rw [← hW]
 have C1 : Aside0 (W.heap[g1]? = some (.cells #[.int .u64 a0_0, .int .u64 a0_1] 103 (0, 0))) := ⟨by rw [hW]; exact blk_drew (blk_far (blk_far B1.out n1 _) n2 _)⟩
 have C2 : Aside0 (W.heap[g2]? = some (.cells #[.int .u64 0, .int .u64 a1_1] 103 (0, 0))) := ⟨by rw [hW]; exact blk_drew (blk_far (blk_far B2.out n3 _) n4 _)⟩
 have C3 : Aside0 (W.heap[g3]? = some (.cells #[.int .u64 u, .int .u64 0] 103 (0, 0))) := ⟨by rw [hW]; exact blk_drew (blk_far (blk_put B3.out 0 _ rfl) n5 _)⟩
 have C4 : Aside0 (W.heap[g4]? = some (.cells #[.int .u64 0, .int .u64 (Int.tmod a0_0 a1_1)] 103 (0, 0))) := ⟨by rw [hW]; exact blk_drew (blk_put (blk_far B4.out m5 _) 1 _ rfl)⟩
 have HC : Aside0 (Below w.heap.size w W) := ⟨by rw [hW]; exact below_drew (below_set (below_set HB.out G3.out) G4.out)⟩
 clear hW B1 B2 B3 B4 HB c1 c2 c3 d3 d4 f3 f4
 have c1 : W.cell? ⟨g4, 1, none⟩ = some (.int .u64 (Int.tmod a0_0 a1_1)) := (blk_cell C4.out 1).trans rfl
 have c2 : W.cell? ⟨g1, 1, none⟩ = some (.int .u64 a0_1) := (blk_cell C1.out 1).trans rfl
 have c3 : W.cell? ⟨g2, 1, none⟩ = some (.int .u64 a1_1) := (blk_cell C2.out 1).trans rfl
 have c4 : W.cell? ⟨g3, 1, none⟩ = some (.int .u64 0) := (blk_cell C3.out 1).trans rfl
 have f3 := blk_frozen C3.out 1
 have f4 := blk_frozen C4.out 1
 go_wp2_with (go_at_call 93; (with_reducible refine (bits_Div64.calls k (Int.tmod a0_0 a1_1) a0_1 a1_1 q r _ A.out).mono ?_); rintro e w' ⟨rfl, ⟨nd, rfl⟩⟩; obtain ⟨V, hV⟩ : ∃ V, V = W.drewN nd := ⟨_, rfl⟩; rw [← hV]; have D3 : Aside0 (V.heap[g3]? = some (.cells #[.int .u64 u, .int .u64 0] 103 (0, 0))) := ⟨by rw [hV]; exact blk_drewN C3.out _⟩; have D4 : Aside0 (V.heap[g4]? = some (.cells #[.int .u64 0, .int .u64 (Int.tmod a0_0 a1_1)] 103 (0, 0))) := ⟨by rw [hV]; exact blk_drewN C4.out _⟩; have HD : Aside0 (Below w.heap.size w V) := ⟨by rw [hV]; exact pw_below_drewN HC.out _⟩; clear hV C1 C2 C3 C4 HC c1 c2 c3 c4 f3 f4; have f3 := blk_frozen D3.out 1; have f4 := blk_frozen D4.out 1; have c4 : V.cell? ⟨g3, 1, none⟩ = some (.int .u64 0) := (blk_cell D3.out 1).trans rfl; have c1 : V.cell? ⟨g4, 1, none⟩ = some (.int .u64 (Int.tmod a0_0 a1_1)) := (blk_cell D4.out 1).trans rfl)
 obtain ⟨U, hU⟩ : ∃ U, U = (V.setCell { block := g3, off := 1 } (Value.int IntKind.u64 q)).setCell { block := g4, off := 1 } (Value.int IntKind.u64 r) := ⟨_, rfl⟩
 rw [← hU]
 have F3 : Aside0 (U.heap[g3]? = some (.cells #[.int .u64 u, .int .u64 q] 103 (0, 0))) := ⟨by rw [hU]; exact blk_far (blk_put D3.out 1 _ rfl) n5 _⟩
 have F4 : Aside0 (U.heap[g4]? = some (.cells #[.int .u64 0, .int .u64 r] 103 (0, 0))) := ⟨by rw [hU]; exact blk_put (blk_far D4.out m5 _) 1 _ rfl⟩
 have HF : Aside0 (Below w.heap.size w U) := ⟨by rw [hU]; exact below_set (below_set HD.out G3.out) G4.out⟩
 clear hU D3 D4 HD c1 c4 f3 f4
 have c1 : U.cell? ⟨g3, 0, none⟩ = some (.int .u64 u) := (blk_cell F3.out 0).trans rfl
 have c2 : U.cell? ⟨g3, 1, none⟩ = some (.int .u64 q) := (blk_cell F3.out 1).trans rfl
 have c3 : U.cell? ⟨g4, 0, none⟩ = some (.int .u64 0) := (blk_cell F4.out 0).trans rfl
 have c4 : U.cell? ⟨g4, 1, none⟩ = some (.int .u64 r) := (blk_cell F4.out 1).trans rfl
 have f1 := blk_frozen F3.out 0
 have f2 := blk_frozen F3.out 1
 have f3 := blk_frozen F4.out 0
 have f4 := blk_frozen F4.out 1
 go_region
 go_wp2
 refine bodyPost_ret (results_cc rfl _ _ g3 g4 103 103 #[.int .u64 u, .int .u64 q] #[.int .u64 0, .int .u64 r] (0, 0) (0, 0) _ _ rfl (blk_drew (blk_far (blk_far (blk_put (blk_put F3.out 0 _ rfl) 1 _ rfl) n5 _) n5 _)) Try.underlying103 rfl (by kernel_rfl) rfl (blk_drew (blk_put (blk_put (blk_far (blk_far F4.out m5 _) m5 _) 0 _ rfl) 1 _ rfl)) Try.underlying103 rfl (by kernel_rfl)) rfl ?_
 exact ⟨rfl, below_drew (below_set (below_set (below_set (below_set HF.out G3.out) G3.out) G4.out) G4.out)⟩
mutual
def ratio_wide_over.l0 : Nat → Int → Int → Int → Int → Int → Int → Int → Int → Int → Option (Int × Int × Int × Int)
 | 0, _, _, _, _, _, _, _, _, _ => none
 | k + 1, x6, x127000, x127001, x128000, x128001, x129000, x129001, x130000, x130001 => if x6 ≥ 0 then (if 0 ≤ (Go.bits .and .i64 x6 63) then (if x6 < 64 then (if 0 ≤ x6 then (ratio_wide_over.j1 k x6 (Go.bits .and .u64 (shr .u64 x127001 x6) 1) x127000 x127001 x128000 x128001 x129000 x129001 x130000 x130001) else (none)) else (ratio_wide_over.j1 k x6 (Go.bits .and .u64 (shr .u64 x127000 (Go.bits .and .i64 x6 63)) 1) x127000 x127001 x128000 x128001 x129000 x129001 x130000 x130001)) else (none)) else (some (x129000, x129001, x130000, x130001))
def ratio_wide_over.j1 : Nat → Int → Int → Int → Int → Int → Int → Int → Int → Int → Int → Option (Int × Int × Int × Int)
 | 0, _, _, _, _, _, _, _, _, _, _ => none
 | k + 1, x6, x7, x127000, x127001, x128000, x128001, x129000, x129001, x130000, x130001 => (ratio_wide_cmp.f (Go.bits .or .u64 (IntKind.u64.wrap (x130000 * 2)) (x130001 / 9223372036854775808)) (Go.bits .or .u64 (IntKind.u64.wrap (x130001 * 2)) x7) x128000 x128001).bind fun t132 => (if t132 ≥ 0 then ((ratio_wide_minus.f (Go.bits .or .u64 (IntKind.u64.wrap (x130000 * 2)) (x130001 / 9223372036854775808)) (Go.bits .or .u64 (IntKind.u64.wrap (x130001 * 2)) x7) x128000 x128001).bind fun bt133 => (ratio_wide_over.l0 k (wrap64 (x6 - 1)) x127000 x127001 x128000 x128001 (Go.bits .or .u64 (IntKind.u64.wrap (x129000 * 2)) (x129001 / 9223372036854775808)) (Go.bits .or .u64 (IntKind.u64.wrap (x129001 * 2)) 1) bt133.1 bt133.2)) else (ratio_wide_over.l0 k (wrap64 (x6 - 1)) x127000 x127001 x128000 x128001 (Go.bits .or .u64 (IntKind.u64.wrap (x129000 * 2)) (x129001 / 9223372036854775808)) (IntKind.u64.wrap (x129001 * 2)) (Go.bits .or .u64 (IntKind.u64.wrap (x130000 * 2)) (x130001 / 9223372036854775808)) (Go.bits .or .u64 (IntKind.u64.wrap (x130001 * 2)) x7)))
end
def ratio_wide_over.f (k : Nat) (a0_0 : Int) (a0_1 : Int) (a1_0 : Int) (a1_1 : Int) : Option (Int × Int × Int × Int) := if a1_0 = 0 then (if a1_1 = 0 then (none) else ((bits_Div64.f k (Int.tmod a0_0 a1_1) a0_1 a1_1).bind fun bt130 => (some (IntKind.u64.wrap (Int.tdiv a0_0 a1_1), bt130.1, 0, bt130.2)))) else (ratio_wide_over.l0 k 127 a0_0 a0_1 a1_0 a1_1 0 0 0 0)
theorem ratio_wide_over.mono_l : ∀ k, (∀ y0 y1 y2 y3 y4 y5 y6 y7 y8, LeO (ratio_wide_over.l0 k y0 y1 y2 y3 y4 y5 y6 y7 y8) (ratio_wide_over.l0 (k + 1) y0 y1 y2 y3 y4 y5 y6 y7 y8)) ∧ (∀ y0 y1 y2 y3 y4 y5 y6 y7 y8 y9, LeO (ratio_wide_over.j1 k y0 y1 y2 y3 y4 y5 y6 y7 y8 y9) (ratio_wide_over.j1 (k + 1) y0 y1 y2 y3 y4 y5 y6 y7 y8 y9))
 | 0 => ⟨fun _ _ _ _ _ _ _ _ _ r h => by simp [ratio_wide_over.l0] at h, fun _ _ _ _ _ _ _ _ _ _ r h => by simp [ratio_wide_over.j1] at h⟩
 | k + 1 => by
  obtain ⟨ih0, ih1⟩ := ratio_wide_over.mono_l k
  refine ⟨?_, ?_⟩
  ·intro y0 y1 y2 y3 y4 y5 y6 y7 y8
   unfold ratio_wide_over.l0
   repeat' first
   | (with_reducible exact ih0 _ _ _ _ _ _ _ _ _)
   | (with_reducible exact ih1 _ _ _ _ _ _ _ _ _ _)
   | (with_reducible exact bits_Div64.mono _ _ _ _)
   | (with_reducible exact LeO.refl _)
   | (with_reducible exact LeO.none _)
   | (with_reducible refine LeO.ite ?_ ?_)
   | (with_reducible refine LeO.bind ?_ (fun _ => ?_))
   | exact ih0 _ _ _ _ _ _ _ _ _
   | exact ih1 _ _ _ _ _ _ _ _ _ _
   | exact bits_Div64.mono _ _ _ _
   | exact LeO.none _
   | refine LeO.ite ?_ ?_
   | refine LeO.bind ?_ (fun _ => ?_)
  ·intro y0 y1 y2 y3 y4 y5 y6 y7 y8 y9
   unfold ratio_wide_over.j1
   repeat' first
   | (with_reducible exact ih0 _ _ _ _ _ _ _ _ _)
   | (with_reducible exact ih1 _ _ _ _ _ _ _ _ _ _)
   | (with_reducible exact bits_Div64.mono _ _ _ _)
   | (with_reducible exact LeO.refl _)
   | (with_reducible exact LeO.none _)
   | (with_reducible refine LeO.ite ?_ ?_)
   | (with_reducible refine LeO.bind ?_ (fun _ => ?_))
   | exact ih0 _ _ _ _ _ _ _ _ _
   | exact ih1 _ _ _ _ _ _ _ _ _ _
   | exact bits_Div64.mono _ _ _ _
   | exact LeO.none _
   | refine LeO.ite ?_ ?_
   | refine LeO.bind ?_ (fun _ => ?_)
theorem ratio_wide_over.mono : ∀ a0 a1 a2 a3 k, LeO (ratio_wide_over.f k a0 a1 a2 a3) (ratio_wide_over.f (k + 1) a0 a1 a2 a3) := by
 intro a0 a1 a2 a3 k
 obtain ⟨ih0, ih1⟩ := ratio_wide_over.mono_l k
 unfold ratio_wide_over.f
 repeat' first
   | (with_reducible exact ih0 _ _ _ _ _ _ _ _ _)
   | (with_reducible exact ih1 _ _ _ _ _ _ _ _ _ _)
   | (with_reducible exact bits_Div64.mono _ _ _ _)
   | (with_reducible exact LeO.refl _)
   | (with_reducible exact LeO.none _)
   | (with_reducible refine LeO.ite ?_ ?_)
   | (with_reducible refine LeO.bind ?_ (fun _ => ?_))
   | exact ih0 _ _ _ _ _ _ _ _ _
   | exact ih1 _ _ _ _ _ _ _ _ _ _
   | exact bits_Div64.mono _ _ _ _
   | exact LeO.none _
   | refine LeO.ite ?_ ?_
   | refine LeO.bind ?_ (fun _ => ?_)
set_option maxHeartbeats 8000000 in
set_option maxRecDepth 100000 in
theorem ratio_wide_over.calls (k : Nat) (a0_0 : Int) (a0_1 : Int) (a1_0 : Int) (a1_1 : Int) (r1 : Int) (r2 : Int) (r3 : Int) (r4 : Int) (w : World) (h : ratio_wide_over.f k a0_0 a0_1 a1_0 a1_1 = some (r1, r2, r3, r4)) :
  Calls Try.prog 92 #[.agg #[.int .u64 a0_0, .int .u64 a0_1], .agg #[.int .u64 a1_0, .int .u64 a1_1]] w fun e w' => e = .returned (.tuple #[.agg #[.int .u64 r1, .int .u64 r2], .agg #[.int .u64 r3, .int .u64 r4]]) ∧ Below w.heap.size w w' := by
 have hu103 := Try.underlying103
 have HB := Aside0.mk (Below.refl w.heap.size w)
 have H : (if a1_0 = 0 then (if a1_1 = 0 then (none) else ((bits_Div64.f k (Int.tmod a0_0 a1_1) a0_1 a1_1).bind fun bt130 => (some (IntKind.u64.wrap (Int.tdiv a0_0 a1_1), bt130.1, 0, bt130.2)))) else (ratio_wide_over.l0 k 127 a0_0 a0_1 a1_0 a1_1 0 0 0 0)) = some (r1, r2, r3, r4) := h
 clear h
 by_cases c3 : a1_0 = 0
 ·rw [if_pos c3] at H
  have c3b0 : (a1_0 == 0) = true := beq_iff_eq.mpr c3
  have c3b1 : (a1_0 != 0) = false := bne_eq_false_iff_eq.mpr c3
  clear c3
  by_cases c4 : a1_1 = 0
  ·rw [if_pos c4] at H
   exact absurd H (by simp)
  ·rw [if_neg c4] at H
   have c4b0 : (a1_1 == 0) = false := beq_eq_false_iff_ne.mpr c4
   have c4b1 : (a1_1 != 0) = true := bne_iff_ne.mpr c4
   replace H := Option.bind_eq_some_iff.mp H
   obtain ⟨⟨t130, t131⟩, A50, H⟩ := H
   (try dsimp only at H)
   have A5 := Aside0.mk A50
   clear A50
   simp only [Option.some.injEq, Prod.mk.injEq] at H
   obtain ⟨rfl, rfl, rfl, rfl⟩ := H
   obtain rfl : a1_0 = 0 := by simpa using c3b0
   exact over_lo k a0_0 a0_1 a1_1 t130 t131 _ w c4 ⟨rfl⟩ A5.out
 ·rw [if_neg c3] at H
  have c3b0 : (a1_0 == 0) = false := beq_eq_false_iff_ne.mpr c3
  have c3b1 : (a1_0 != 0) = true := bne_iff_ne.mpr c3
  have H' := Aside0.mk H
  clear H
  go_enter Try.func92, Try.ntmps92
  go_wp2_with (first | ((with_reducible refine gate_dst (N := 2) rfl ?_); refine box_event (by rfl) (N := 2) (by rfl) (cs := #[.int .u64 a0_0, .int .u64 a0_1]) (t := 103) (by first | (go_simp; done) | (go_simp; rfl)) ?_; intro gb126 hg w20 hbox hb; obtain ⟨hb_, hw_⟩ := box_facts (by repeat (first | (with_reducible first | exact HB.out | apply l1 | apply l2 | apply l3) | exact HB.out)) hg hb; have n0_ := Aside0.mk (hb_); have n1_ := Aside0.mk (hbox); have n2_ := Aside0.mk (hw_); have n3_ := Aside0.mk (hw_); clear HB; have HB := n0_; have BK126 := n1_; have GW126 := n2_; have GE126 := n3_; clear n0_ n1_ n2_ n3_; clear hb hbox hg hb_ hw_) | ((with_reducible refine gate_dst (N := 3) rfl ?_); refine box_event (by rfl) (N := 3) (by rfl) (cs := #[.int .u64 a1_0, .int .u64 a1_1]) (t := 103) (by first | (go_simp; done) | (go_simp; rfl)) ?_; intro gb127 hg w21 hbox hb; obtain ⟨hb_, hw_⟩ := box_facts (by repeat (first | (with_reducible first | exact HB.out | apply l1 | apply l2 | apply l3 | refine below_set ?_ GE126.out) | exact HB.out)) hg hb; have n0_ := Aside0.mk (blk_below (by (with_reducible repeat (first | apply b1 | apply b2 | apply b3)); exact BK126.out) hb); have n1_ := Aside0.mk (hb_); have n2_ := Aside0.mk (hbox); have n3_ := Aside0.mk (hw_); have n4_ := Aside0.mk (hw_); have n5_ := Aside0.mk ((by rw [hg]; exact Nat.ne_of_lt (blk_lt (by (with_reducible repeat (first | apply b1 | apply b2 | apply b3)); exact BK126.out)) : gb126 ≠ gb127)); have n6_ := Aside0.mk ((by rw [hg]; exact Nat.ne_of_gt (blk_lt (by (with_reducible repeat (first | apply b1 | apply b2 | apply b3)); exact BK126.out)) : gb127 ≠ gb126)); clear BK126; clear HB; have BK126 := n0_; have HB := n1_; have BK127 := n2_; have GW127 := n3_; have GE127 := n4_; have NB126_127 := n5_; have NB127_126 := n6_; clear n0_ n1_ n2_ n3_ n4_ n5_ n6_; clear hb hbox hg hb_ hw_) | ((with_reducible refine gate_dst (N := 4) rfl ?_); refine box_event (by rfl) (N := 4) (by rfl) (cs := #[.int .u64 0, .int .u64 0]) (t := 103) (by first | (go_simp; done) | (go_simp; rfl)) ?_; intro gb128 hg w22 hbox hb; obtain ⟨hb_, hw_⟩ := box_facts (by repeat (first | (with_reducible first | exact HB.out | apply l1 | apply l2 | apply l3 | refine below_set ?_ GE126.out | refine below_set ?_ GE127.out) | exact HB.out)) hg hb; have n0_ := Aside0.mk (blk_below (by (with_reducible repeat (first | apply b1 | apply b2 | apply b3)); exact BK126.out) hb); have n1_ := Aside0.mk (blk_below (by (with_reducible repeat (first | apply b1 | apply b2 | apply b3)); exact BK127.out) hb); have n2_ := Aside0.mk (hb_); have n3_ := Aside0.mk (hbox); have n4_ := Aside0.mk (hw_); have n5_ := Aside0.mk (hw_); have n6_ := Aside0.mk ((by rw [hg]; exact Nat.ne_of_lt (blk_lt (by (with_reducible repeat (first | apply b1 | apply b2 | apply b3)); exact BK126.out)) : gb126 ≠ gb128)); have n7_ := Aside0.mk ((by rw [hg]; exact Nat.ne_of_gt (blk_lt (by (with_reducible repeat (first | apply b1 | apply b2 | apply b3)); exact BK126.out)) : gb128 ≠ gb126)); have n8_ := Aside0.mk ((by rw [hg]; exact Nat.ne_of_lt (blk_lt (by (with_reducible repeat (first | apply b1 | apply b2 | apply b3)); exact BK127.out)) : gb127 ≠ gb128)); have n9_ := Aside0.mk ((by rw [hg]; exact Nat.ne_of_gt (blk_lt (by (with_reducible repeat (first | apply b1 | apply b2 | apply b3)); exact BK127.out)) : gb128 ≠ gb127)); clear BK126; clear BK127; clear HB; have BK126 := n0_; have BK127 := n1_; have HB := n2_; have BK128 := n3_; have GW128 := n4_; have GE128 := n5_; have NB126_128 := n6_; have NB128_126 := n7_; have NB127_128 := n8_; have NB128_127 := n9_; clear n0_ n1_ n2_ n3_ n4_ n5_ n6_ n7_ n8_ n9_; clear hb hbox hg hb_ hw_) | ((with_reducible refine gate_dst (N := 5) rfl ?_); refine box_event (by rfl) (N := 5) (by rfl) (cs := #[.int .u64 0, .int .u64 0]) (t := 103) (by first | (go_simp; done) | (go_simp; rfl)) ?_; intro gb129 hg w23 hbox hb; obtain ⟨hb_, hw_⟩ := box_facts (by repeat (first | (with_reducible first | exact HB.out | apply l1 | apply l2 | apply l3 | refine below_set ?_ GE126.out | refine below_set ?_ GE127.out | refine below_set ?_ GE128.out) | exact HB.out)) hg hb; have n0_ := Aside0.mk (blk_below (by (with_reducible repeat (first | apply b1 | apply b2 | apply b3)); exact BK126.out) hb); have n1_ := Aside0.mk (blk_below (by (with_reducible repeat (first | apply b1 | apply b2 | apply b3)); exact BK127.out) hb); have n2_ := Aside0.mk (blk_below (by (with_reducible repeat (first | apply b1 | apply b2 | apply b3)); exact BK128.out) hb); have n3_ := Aside0.mk (hb_); have n4_ := Aside0.mk (hbox); have n5_ := Aside0.mk (hw_); have n6_ := Aside0.mk (hw_); have n7_ := Aside0.mk ((by rw [hg]; exact Nat.ne_of_lt (blk_lt (by (with_reducible repeat (first | apply b1 | apply b2 | apply b3)); exact BK126.out)) : gb126 ≠ gb129)); have n8_ := Aside0.mk ((by rw [hg]; exact Nat.ne_of_gt (blk_lt (by (with_reducible repeat (first | apply b1 | apply b2 | apply b3)); exact BK126.out)) : gb129 ≠ gb126)); have n9_ := Aside0.mk ((by rw [hg]; exact Nat.ne_of_lt (blk_lt (by (with_reducible repeat (first | apply b1 | apply b2 | apply b3)); exact BK127.out)) : gb127 ≠ gb129)); have n10_ := Aside0.mk ((by rw [hg]; exact Nat.ne_of_gt (blk_lt (by (with_reducible repeat (first | apply b1 | apply b2 | apply b3)); exact BK127.out)) : gb129 ≠ gb127)); have n11_ := Aside0.mk ((by rw [hg]; exact Nat.ne_of_lt (blk_lt (by (with_reducible repeat (first | apply b1 | apply b2 | apply b3)); exact BK128.out)) : gb128 ≠ gb129)); have n12_ := Aside0.mk ((by rw [hg]; exact Nat.ne_of_gt (blk_lt (by (with_reducible repeat (first | apply b1 | apply b2 | apply b3)); exact BK128.out)) : gb129 ≠ gb128)); clear BK126; clear BK127; clear BK128; clear HB; have BK126 := n0_; have BK127 := n1_; have BK128 := n2_; have HB := n3_; have BK129 := n4_; have GW129 := n5_; have GE129 := n6_; have NB126_129 := n7_; have NB129_126 := n8_; have NB127_129 := n9_; have NB129_127 := n10_; have NB128_129 := n11_; have NB129_128 := n12_; clear n0_ n1_ n2_ n3_ n4_ n5_ n6_ n7_ n8_ n9_ n10_ n11_ n12_; clear hb hbox hg hb_ hw_; have hnb24 := NB127_126.out; have hnc24 := NB126_127.out; have hnb25 := NB127_128.out; have hnc25 := NB128_127.out; have hnb26 := NB127_129.out; have hnc26 := NB129_127.out; obtain ⟨hcz27_0, hcz27_1, hfz27_0, hfz27_1⟩ := blk_cells2 BK127.out))
  (try simp only [Act.put, List.setIfInBounds_toArray, List.set_cons_zero, List.set_cons_succ])
  go_loopg [6] k (fun kq v6 w' => ∃ (x6_1 : Int) (x129000_1 : Int) (x129001_1 : Int) (x130000_1 : Int) (x130001_1 : Int), v6 = .int .i64 x6_1 ∧ Aside0 (ratio_wide_over.l0 kq x6_1 a0_0 a0_1 a1_0 a1_1 x129000_1 x129001_1 x130000_1 x130001_1 = some (r1, r2, r3, r4)) ∧ Aside0 (kq ≤ k) ∧ Aside0 (w'.heap[gb126]? = some (.cells #[.int .u64 a0_0, .int .u64 a0_1] 103 (0, 0))) ∧ Aside0 (w'.heap[gb127]? = some (.cells #[.int .u64 a1_0, .int .u64 a1_1] 103 (0, 0))) ∧ Aside0 (w'.heap[gb128]? = some (.cells #[.int .u64 x129000_1, .int .u64 x129001_1] 103 (0, 0))) ∧ Aside0 (w'.heap[gb129]? = some (.cells #[.int .u64 x130000_1, .int .u64 x130001_1] 103 (0, 0))) ∧ Aside0 (Below w.heap.size w w'))
  case atStart => exact ⟨(127), (0), (0), (0), (0), (by first | rfl | (simp; done) | (simp [*]; done)), H', ⟨Nat.le_refl _⟩, ⟨by (with_reducible repeat (first | apply b1 | apply b2 | apply b3)); exact BK126.out⟩, ⟨by (with_reducible repeat (first | apply b1 | apply b2 | apply b3)); exact BK127.out⟩, ⟨by (with_reducible repeat (first | apply b1 | apply b2 | apply b3)); exact BK128.out⟩, ⟨by (with_reducible repeat (first | apply b1 | apply b2 | apply b3)); exact BK129.out⟩, ⟨by repeat (first | (with_reducible first | exact HB.out | apply l1 | apply l2 | apply l3 | refine below_set ?_ GE126.out | refine below_set ?_ GE127.out | refine below_set ?_ GE128.out | refine below_set ?_ GE129.out) | exact HB.out)⟩⟩
  case round =>
   clear H'
   try clear c1
   try clear c2
   try clear p2
   try clear c3
   try clear c3b0
   try clear c3b1
   try clear c4
   try clear c4b0
   try clear c4b1
   try clear c9
   try clear c10
   try clear c11
   try clear c12
   try clear c14
   try clear c15
   try clear c17
   try clear c24
   try clear c25
   try clear c26
   try clear hcz13_0
   try clear hcz13_1
   try clear hcz16_0
   try clear hcz16_1
   try clear hcz18_0
   try clear hcz18_1
   try clear hcz19_0
   try clear hcz19_1
   try clear hcz27_0
   try clear hcz27_1
   try clear hfz13_0
   try clear hfz13_1
   try clear hfz16_0
   try clear hfz16_1
   try clear hfz18_0
   try clear hfz18_1
   try clear hfz19_0
   try clear hfz19_1
   try clear hfz27_0
   try clear hfz27_1
   obtain ⟨x6_1, x129000_1, x129001_1, x130000_1, x130001_1, rfl, HA, HK1, BK126, BK127, BK128, BK129, HB⟩ := hrel
   cases gk with
   | zero => exact absurd HA.out (by simp [ratio_wide_over.l0])
   | succ k1 =>
    have H := HA.out
    clear HA
    simp only [ratio_wide_over.l0] at H
    by_cases c28 : x6_1 ≥ 0
    ·rw [if_pos c28] at H
     have c28b0 : decide (0 ≤ x6_1) = true := decide_eq_true c28
     clear c28
     by_cases c29 : 0 ≤ (Go.bits .and .i64 x6_1 63)
     ·rw [if_pos c29] at H
      have c29b0 := eq_true c29
      have c29b1 : decide (0 ≤ (Go.bits .and .i64 x6_1 63)) = true := decide_eq_true c29
      clear c29
      obtain ⟨ji30, hji30⟩ : ∃ j_ : Int, (shr .u64 a0_0 (Go.bits .and .i64 x6_1 63)) = j_ := ⟨_, rfl⟩
      replace H : (if x6_1 < 64 then (if 0 ≤ x6_1 then (ratio_wide_over.j1 k1 x6_1 (Go.bits .and .u64 (shr .u64 a0_1 x6_1) 1) a0_0 a0_1 a1_0 a1_1 x129000_1 x129001_1 x130000_1 x130001_1) else (none)) else (ratio_wide_over.j1 k1 x6_1 (Go.bits .and .u64 (ji30) 1) a0_0 a0_1 a1_0 a1_1 x129000_1 x129001_1 x130000_1 x130001_1)) = some (r1, r2, r3, r4) := by first | (rw [hji30] at H; exact H) | (simp only [hji30] at H ⊢; exact H)
      have hji30_ : (a0_0 / 2 ^ min (Go.bits .and .i64 x6_1 63).toNat 64) = ji30 := hji30
      have hji30z : (Go.bits .and .i64 x6_1 63) ≤ 64 → (a0_0 / 2 ^ (Go.bits .and .i64 x6_1 63).toNat) = ji30 := shr_small hji30
      have HC31 := Aside0.mk H
      clear H
      have hnb32 := NB126_127.out
      have hnc32 := NB127_126.out
      have hnb33 := NB126_128.out
      have hnc33 := NB128_126.out
      have hnb34 := NB126_129.out
      have hnc34 := NB129_126.out
      obtain ⟨hcz35_0, hcz35_1, hfz35_0, hfz35_1⟩ := blk_cells2 BK126.out
      go_upto_if 48 with (fail)
      go_cut [7] (fun v7 wc => ∃ (kq : Nat) (x7_30 : Int), v7 = .int .u64 x7_30 ∧ Aside0 (ratio_wide_over.j1 kq x6_1 x7_30 a0_0 a0_1 a1_0 a1_1 x129000_1 x129001_1 x130000_1 x130001_1 = some (r1, r2, r3, r4)) ∧ Aside0 (kq ≤ k1) ∧ Aside0 (wc.heap[gb126]? = some (.cells #[.int .u64 a0_0, .int .u64 a0_1] 103 (0, 0))) ∧ Aside0 (wc.heap[gb127]? = some (.cells #[.int .u64 a1_0, .int .u64 a1_1] 103 (0, 0))) ∧ Aside0 (wc.heap[gb128]? = some (.cells #[.int .u64 x129000_1, .int .u64 x129001_1] 103 (0, 0))) ∧ Aside0 (wc.heap[gb129]? = some (.cells #[.int .u64 x130000_1, .int .u64 x130001_1] 103 (0, 0))) ∧ Aside0 (Below w.heap.size w wc))
      case first =>
       have H := HC31.out
       clear HC31
       by_cases c36 : x6_1 < 64
       ·rw [if_pos c36] at H
        have c36b0 : decide (x6_1 < 64) = true := decide_eq_true c36
        clear c36
        (first | rw [c36b0] | (simp only [i64_w, i32_w]; rw [c36b0]) | skip)
        by_cases c37 : 0 ≤ x6_1
        ·rw [if_pos c37] at H
         have c37b0 := eq_true c37
         have c37b1 : decide (0 ≤ x6_1) = true := decide_eq_true c37
         clear c37
         obtain ⟨ji38, hji38⟩ : ∃ j_ : Int, (shr .u64 a0_1 x6_1) = j_ := ⟨_, rfl⟩
         replace H : (ratio_wide_over.j1 k1 x6_1 (Go.bits .and .u64 (ji38) 1) a0_0 a0_1 a1_0 a1_1 x129000_1 x129001_1 x130000_1 x130001_1) = some (r1, r2, r3, r4) := by first | (rw [hji38] at H; exact H) | (simp only [hji38] at H ⊢; exact H)
         have hji38_ : (a0_1 / 2 ^ min x6_1.toNat 64) = ji38 := hji38
         have hji38z : x6_1 ≤ 64 → (a0_1 / 2 ^ x6_1.toNat) = ji38 := shr_small hji38
         have H' := Aside0.mk H
         clear H
         have hnb39 := NB126_127.out
         have hnc39 := NB127_126.out
         have hnb40 := NB126_128.out
         have hnc40 := NB128_126.out
         have hnb41 := NB126_129.out
         have hnc41 := NB129_126.out
         obtain ⟨hcz42_0, hcz42_1, hfz42_0, hfz42_1⟩ := blk_cells2 BK126.out
         go_wp2
         go_meet
         case rel => exact ⟨_, (Go.bits .and .u64 (ji38) 1), (by first | rfl | (simp; done) | (simp only [← hji38] <;> (first | rfl | simp)) | (simp [*]; done)), H', ⟨by have := HK1.out; first | omega | exact Nat.le_refl _⟩, ⟨by (with_reducible repeat (first | apply b1 | apply b2 | apply b3)); exact BK126.out⟩, ⟨by (with_reducible repeat (first | apply b1 | apply b2 | apply b3)); exact BK127.out⟩, ⟨by (with_reducible repeat (first | apply b1 | apply b2 | apply b3)); exact BK128.out⟩, ⟨by (with_reducible repeat (first | apply b1 | apply b2 | apply b3)); exact BK129.out⟩, ⟨by repeat (first | (with_reducible first | exact HB.out | apply l1 | apply l2 | apply l3 | refine below_set ?_ GE126.out | refine below_set ?_ GE127.out | refine below_set ?_ GE128.out | refine below_set ?_ GE129.out) | exact HB.out)⟩⟩
        ·rw [if_neg c37] at H
         exact absurd H (by simp)
       ·rw [if_neg c36] at H
        have c36b0 : decide (x6_1 < 64) = false := decide_eq_false c36
        clear c36
        (first | rw [c36b0] | (simp only [i64_w, i32_w]; rw [c36b0]) | skip)
        have H' := Aside0.mk H
        clear H
        go_wp2
        go_meet
        case rel => exact ⟨_, (Go.bits .and .u64 (ji30) 1), (by first | rfl | (simp; done) | (simp only [← hji30] <;> (first | rfl | simp)) | (simp [*]; done)), H', ⟨by have := HK1.out; first | omega | exact Nat.le_refl _⟩, ⟨by (with_reducible repeat (first | apply b1 | apply b2 | apply b3)); exact BK126.out⟩, ⟨by (with_reducible repeat (first | apply b1 | apply b2 | apply b3)); exact BK127.out⟩, ⟨by (with_reducible repeat (first | apply b1 | apply b2 | apply b3)); exact BK128.out⟩, ⟨by (with_reducible repeat (first | apply b1 | apply b2 | apply b3)); exact BK129.out⟩, ⟨by repeat (first | (with_reducible first | exact HB.out | apply l1 | apply l2 | apply l3 | refine below_set ?_ GE126.out | refine below_set ?_ GE127.out | refine below_set ?_ GE128.out | refine below_set ?_ GE129.out) | exact HB.out)⟩⟩
      case rest =>
       clear HC31
       try clear c1
       try clear c2
       try clear p2
       try clear c3
       try clear c3b0
       try clear c3b1
       try clear c4
       try clear c4b0
       try clear c4b1
       try clear c9
       try clear c10
       try clear c11
       try clear c12
       try clear c14
       try clear c15
       try clear c17
       try clear c24
       try clear c25
       try clear c26
       try clear c28
       try clear c28b0
       try clear c29
       try clear c29b0
       try clear c29b1
       try clear c32
       try clear c33
       try clear c34
       try clear c36
       try clear c36b0
       try clear c37
       try clear c37b0
       try clear c37b1
       try clear c39
       try clear c40
       try clear c41
       try clear hcz13_0
       try clear hcz13_1
       try clear hcz16_0
       try clear hcz16_1
       try clear hcz18_0
       try clear hcz18_1
       try clear hcz19_0
       try clear hcz19_1
       try clear hcz27_0
       try clear hcz27_1
       try clear hcz35_0
       try clear hcz35_1
       try clear hcz42_0
       try clear hcz42_1
       try clear hfz13_0
       try clear hfz13_1
       try clear hfz16_0
       try clear hfz16_1
       try clear hfz18_0
       try clear hfz18_1
       try clear hfz19_0
       try clear hfz19_1
       try clear hfz27_0
       try clear hfz27_1
       try clear hfz35_0
       try clear hfz35_1
       try clear hfz42_0
       try clear hfz42_1
       try clear p2
       obtain ⟨kq, x7_30, rfl, HA, HJ30, BK126, BK127, BK128, BK129, HB⟩ := hcut
       cases kq with
       | zero => exact absurd HA.out (by simp [ratio_wide_over.j1])
       | succ kj30 =>
        have H := HA.out
        clear HA
        simp only [ratio_wide_over.j1] at H
        replace H := Option.bind_eq_some_iff.mp H
        obtain ⟨t132, A430, H⟩ := H
        (try dsimp only at H)
        have A43 := Aside0.mk A430
        clear A430
        by_cases c44 : t132 ≥ 0
        ·rw [if_pos c44] at H
         have c44b0 : decide (0 ≤ t132) = true := decide_eq_true c44
         clear c44
         replace H := Option.bind_eq_some_iff.mp H
         obtain ⟨⟨t133, t134⟩, A450, H⟩ := H
         (try dsimp only at H)
         have A45 := Aside0.mk A450
         clear A450
         have H' := Aside0.mk H
         clear H
         have hnb46 := NB129_126.out
         have hnc46 := NB126_129.out
         have hnb47 := NB129_127.out
         have hnc47 := NB127_129.out
         have hnb48 := NB129_128.out
         have hnc48 := NB128_129.out
         obtain ⟨hcz49_0, hcz49_1, hfz49_0, hfz49_1⟩ := blk_cells2 BK129.out
         have hnb50 := NB128_126.out
         have hnc50 := NB126_128.out
         have hnb51 := NB128_127.out
         have hnc51 := NB127_128.out
         obtain ⟨hcz52_0, hcz52_1, hfz52_0, hfz52_1⟩ := blk_cells2 BK128.out
         have hnb53 := NB127_126.out
         have hnc53 := NB126_127.out
         obtain ⟨hcz54_0, hcz54_1, hfz54_0, hfz54_1⟩ := blk_cells2 BK127.out
         go_wp2_with (first | ((with_reducible refine gate_callee (f := 48) rfl ?_); refine goesL_ (some 80) rfl rfl Try.func48 (by kernel_rfl) rfl #[.agg #[.int .u64 (Go.bits .or .u64 (IntKind.u64.wrap (x130000_1 * 2)) (x130001_1 / 9223372036854775808)), .int .u64 (Go.bits .or .u64 (IntKind.u64.wrap (x130001_1 * 2)) x7_30)], .agg #[.int .u64 a1_0, .int .u64 a1_1]] rfl (by (try simp only [List.map_toArray, List.map_cons, List.map_nil]); first | done | rfl | (simp only [List.length_drop, List.length_take]; rfl)) ?_; (with_reducible refine (ratio_wide_cmp.calls (Go.bits .or .u64 (IntKind.u64.wrap (x130000_1 * 2)) (x130001_1 / 9223372036854775808)) (Go.bits .or .u64 (IntKind.u64.wrap (x130001_1 * 2)) x7_30) a1_0 a1_1 t132 _ A43.out).mono ?_); rintro e w55 ⟨rfl, hb⟩; refine ⟨_, rfl, ?_⟩; have n0_ := Aside0.mk (blk_below (g := gb126) (o := .cells #[.int .u64 a0_0, .int .u64 a0_1] 103 (0, 0)) (by (with_reducible repeat (first | apply b1 | apply b2 | apply b3)); refine blk_far ?_ NB126_128.out _; (with_reducible repeat (first | apply b1 | apply b2 | apply b3)); refine blk_far ?_ NB126_128.out _; (with_reducible repeat (first | apply b1 | apply b2 | apply b3)); refine blk_far ?_ NB126_129.out _; (with_reducible repeat (first | apply b1 | apply b2 | apply b3)); refine blk_far ?_ NB126_129.out _; (with_reducible repeat (first | apply b1 | apply b2 | apply b3)); exact BK126.out) hb); have n1_ := Aside0.mk (blk_below (g := gb127) (o := .cells #[.int .u64 a1_0, .int .u64 a1_1] 103 (0, 0)) (by (with_reducible repeat (first | apply b1 | apply b2 | apply b3)); refine blk_far ?_ NB127_128.out _; (with_reducible repeat (first | apply b1 | apply b2 | apply b3)); refine blk_far ?_ NB127_128.out _; (with_reducible repeat (first | apply b1 | apply b2 | apply b3)); refine blk_far ?_ NB127_129.out _; (with_reducible repeat (first | apply b1 | apply b2 | apply b3)); refine blk_far ?_ NB127_129.out _; (with_reducible repeat (first | apply b1 | apply b2 | apply b3)); exact BK127.out) hb); have n2_ := Aside0.mk (blk_below (g := gb128) (o := .cells #[.int .u64 (Go.bits .or .u64 (IntKind.u64.wrap (x129000_1 * 2)) (x129001_1 / 9223372036854775808)), .int .u64 (IntKind.u64.wrap (x129001_1 * 2))] 103 (0, 0)) (by (with_reducible repeat (first | apply b1 | apply b2 | apply b3)); refine blk_put (cs := #[.int .u64 (Go.bits .or .u64 (IntKind.u64.wrap (x129000_1 * 2)) (x129001_1 / 9223372036854775808)), .int .u64 x129001_1]) ?_ 1 _ rfl; (with_reducible repeat (first | apply b1 | apply b2 | apply b3)); refine blk_put (cs := #[.int .u64 x129000_1, .int .u64 x129001_1]) ?_ 0 _ rfl; (with_reducible repeat (first | apply b1 | apply b2 | apply b3)); refine blk_far ?_ NB128_129.out _; (with_reducible repeat (first | apply b1 | apply b2 | apply b3)); refine blk_far ?_ NB128_129.out _; (with_reducible repeat (first | apply b1 | apply b2 | apply b3)); exact BK128.out) hb); have n3_ := Aside0.mk (blk_below (g := gb129) (o := .cells #[.int .u64 (Go.bits .or .u64 (IntKind.u64.wrap (x130000_1 * 2)) (x130001_1 / 9223372036854775808)), .int .u64 (Go.bits .or .u64 (IntKind.u64.wrap (x130001_1 * 2)) x7_30)] 103 (0, 0)) (by (with_reducible repeat (first | apply b1 | apply b2 | apply b3)); refine blk_far ?_ NB129_128.out _; (with_reducible repeat (first | apply b1 | apply b2 | apply b3)); refine blk_far ?_ NB129_128.out _; (with_reducible repeat (first | apply b1 | apply b2 | apply b3)); refine blk_put (cs := #[.int .u64 (Go.bits .or .u64 (IntKind.u64.wrap (x130000_1 * 2)) (x130001_1 / 9223372036854775808)), .int .u64 x130001_1]) ?_ 1 _ rfl; (with_reducible repeat (first | apply b1 | apply b2 | apply b3)); refine blk_put (cs := #[.int .u64 x130000_1, .int .u64 x130001_1]) ?_ 0 _ rfl; (with_reducible repeat (first | apply b1 | apply b2 | apply b3)); exact BK129.out) hb); have n4_ := Aside0.mk (below_step (by repeat (first | (with_reducible first | exact HB.out | apply l1 | apply l2 | apply l3 | refine below_set ?_ GE126.out | refine below_set ?_ GE127.out | refine below_set ?_ GE128.out | refine below_set ?_ GE129.out) | exact HB.out)) hb); clear BK126; clear BK127; clear BK128; clear BK129; clear HB; have BK126 := n0_; have BK127 := n1_; have BK128 := n2_; have BK129 := n3_; have HB := n4_; clear n0_ n1_ n2_ n3_ n4_; (try clear hb); (try clear hb2); (try clear hk); (try clear hi); obtain ⟨hcz56_0, hcz56_1, hfz56_0, hfz56_1⟩ := blk_cells2 BK129.out; obtain ⟨hcz57_0, hcz57_1, hfz57_0, hfz57_1⟩ := blk_cells2 BK127.out) | ((with_reducible refine gate_callee (f := 94) rfl ?_); refine goesL_ (some 84) rfl rfl Try.func94 (by kernel_rfl) rfl #[.agg #[.int .u64 (Go.bits .or .u64 (IntKind.u64.wrap (x130000_1 * 2)) (x130001_1 / 9223372036854775808)), .int .u64 (Go.bits .or .u64 (IntKind.u64.wrap (x130001_1 * 2)) x7_30)], .agg #[.int .u64 a1_0, .int .u64 a1_1]] rfl (by (try simp only [List.map_toArray, List.map_cons, List.map_nil]); first | done | rfl | (simp only [List.length_drop, List.length_take]; rfl)) ?_; (with_reducible refine (ratio_wide_minus.calls (Go.bits .or .u64 (IntKind.u64.wrap (x130000_1 * 2)) (x130001_1 / 9223372036854775808)) (Go.bits .or .u64 (IntKind.u64.wrap (x130001_1 * 2)) x7_30) a1_0 a1_1 t133 t134 _ A45.out).mono ?_); rintro e w58 ⟨rfl, hb⟩; refine ⟨_, rfl, ?_⟩; have n0_ := Aside0.mk (blk_below (by (with_reducible repeat (first | apply b1 | apply b2 | apply b3)); exact BK126.out) hb); have n1_ := Aside0.mk (blk_below (by (with_reducible repeat (first | apply b1 | apply b2 | apply b3)); exact BK127.out) hb); have n2_ := Aside0.mk (blk_below (by (with_reducible repeat (first | apply b1 | apply b2 | apply b3)); exact BK128.out) hb); have n3_ := Aside0.mk (blk_below (by (with_reducible repeat (first | apply b1 | apply b2 | apply b3)); exact BK129.out) hb); have n4_ := Aside0.mk (below_step (by repeat (first | (with_reducible first | exact HB.out | apply l1 | apply l2 | apply l3 | refine below_set ?_ GE126.out | refine below_set ?_ GE127.out | refine below_set ?_ GE128.out | refine below_set ?_ GE129.out) | exact HB.out)) hb); clear BK126; clear BK127; clear BK128; clear BK129; clear HB; have BK126 := n0_; have BK127 := n1_; have BK128 := n2_; have BK129 := n3_; have HB := n4_; clear n0_ n1_ n2_ n3_ n4_; (try clear hb); (try clear hb2); (try clear hk); (try clear hi); obtain ⟨hcz59_0, hcz59_1, hfz59_0, hfz59_1⟩ := blk_cells2 BK129.out; obtain ⟨hcz60_0, hcz60_1, hfz60_0, hfz60_1⟩ := blk_cells2 BK128.out))
         go_roundg kj30
         case measure => have := HK1.out; have := HJ30.out; omega
         case rel => exact ⟨(wrap64 (x6_1 - 1)), (Go.bits .or .u64 (IntKind.u64.wrap (x129000_1 * 2)) (x129001_1 / 9223372036854775808)), (Go.bits .or .u64 (IntKind.u64.wrap (x129001_1 * 2)) 1), (t133), (t134), (by first | rfl | (simp; done) | (simp [*]; done)), H', ⟨by have := HK1.out; have := HJ30.out; omega⟩, ⟨by (with_reducible repeat (first | apply b1 | apply b2 | apply b3)); refine blk_far ?_ NB126_128.out _; (with_reducible repeat (first | apply b1 | apply b2 | apply b3)); refine blk_far ?_ NB126_129.out _; (with_reducible repeat (first | apply b1 | apply b2 | apply b3)); refine blk_far ?_ NB126_129.out _; (with_reducible repeat (first | apply b1 | apply b2 | apply b3)); exact BK126.out⟩, ⟨by (with_reducible repeat (first | apply b1 | apply b2 | apply b3)); refine blk_far ?_ NB127_128.out _; (with_reducible repeat (first | apply b1 | apply b2 | apply b3)); refine blk_far ?_ NB127_129.out _; (with_reducible repeat (first | apply b1 | apply b2 | apply b3)); refine blk_far ?_ NB127_129.out _; (with_reducible repeat (first | apply b1 | apply b2 | apply b3)); exact BK127.out⟩, ⟨by (with_reducible repeat (first | apply b1 | apply b2 | apply b3)); refine blk_put (cs := #[.int .u64 (Go.bits .or .u64 (IntKind.u64.wrap (x129000_1 * 2)) (x129001_1 / 9223372036854775808)), .int .u64 (IntKind.u64.wrap (x129001_1 * 2))]) ?_ 1 _ rfl; (with_reducible repeat (first | apply b1 | apply b2 | apply b3)); refine blk_far ?_ NB128_129.out _; (with_reducible repeat (first | apply b1 | apply b2 | apply b3)); refine blk_far ?_ NB128_129.out _; (with_reducible repeat (first | apply b1 | apply b2 | apply b3)); exact BK128.out⟩, ⟨by (with_reducible repeat (first | apply b1 | apply b2 | apply b3)); refine blk_far ?_ NB129_128.out _; (with_reducible repeat (first | apply b1 | apply b2 | apply b3)); refine blk_put (cs := #[.int .u64 t133, .int .u64 (Go.bits .or .u64 (IntKind.u64.wrap (x130001_1 * 2)) x7_30)]) ?_ 1 _ rfl; (with_reducible repeat (first | apply b1 | apply b2 | apply b3)); refine blk_put (cs := #[.int .u64 (Go.bits .or .u64 (IntKind.u64.wrap (x130000_1 * 2)) (x130001_1 / 9223372036854775808)), .int .u64 (Go.bits .or .u64 (IntKind.u64.wrap (x130001_1 * 2)) x7_30)]) ?_ 0 _ rfl; (with_reducible repeat (first | apply b1 | apply b2 | apply b3)); exact BK129.out⟩, ⟨by repeat (first | (with_reducible first | exact HB.out | apply l1 | apply l2 | apply l3 | refine below_set ?_ GE126.out | refine below_set ?_ GE127.out | refine below_set ?_ GE128.out | refine below_set ?_ GE129.out) | exact HB.out)⟩⟩
        ·rw [if_neg c44] at H
         have c44b0 : decide (0 ≤ t132) = false := decide_eq_false c44
         clear c44
         have H' := Aside0.mk H
         clear H
         have hnb61 := NB129_126.out
         have hnc61 := NB126_129.out
         have hnb62 := NB129_127.out
         have hnc62 := NB127_129.out
         have hnb63 := NB129_128.out
         have hnc63 := NB128_129.out
         obtain ⟨hcz64_0, hcz64_1, hfz64_0, hfz64_1⟩ := blk_cells2 BK129.out
         have hnb65 := NB128_126.out
         have hnc65 := NB126_128.out
         have hnb66 := NB128_127.out
         have hnc66 := NB127_128.out
         obtain ⟨hcz67_0, hcz67_1, hfz67_0, hfz67_1⟩ := blk_cells2 BK128.out
         have hnb68 := NB127_126.out
         have hnc68 := NB126_127.out
         obtain ⟨hcz69_0, hcz69_1, hfz69_0, hfz69_1⟩ := blk_cells2 BK127.out
         go_wp2_with (first | ((with_reducible refine gate_callee (f := 48) rfl ?_); refine goesL_ (some 80) rfl rfl Try.func48 (by kernel_rfl) rfl #[.agg #[.int .u64 (Go.bits .or .u64 (IntKind.u64.wrap (x130000_1 * 2)) (x130001_1 / 9223372036854775808)), .int .u64 (Go.bits .or .u64 (IntKind.u64.wrap (x130001_1 * 2)) x7_30)], .agg #[.int .u64 a1_0, .int .u64 a1_1]] rfl (by (try simp only [List.map_toArray, List.map_cons, List.map_nil]); first | done | rfl | (simp only [List.length_drop, List.length_take]; rfl)) ?_; (with_reducible refine (ratio_wide_cmp.calls (Go.bits .or .u64 (IntKind.u64.wrap (x130000_1 * 2)) (x130001_1 / 9223372036854775808)) (Go.bits .or .u64 (IntKind.u64.wrap (x130001_1 * 2)) x7_30) a1_0 a1_1 t132 _ A43.out).mono ?_); rintro e w70 ⟨rfl, hb⟩; refine ⟨_, rfl, ?_⟩; have n0_ := Aside0.mk (blk_below (g := gb126) (o := .cells #[.int .u64 a0_0, .int .u64 a0_1] 103 (0, 0)) (by (with_reducible repeat (first | apply b1 | apply b2 | apply b3)); refine blk_far ?_ NB126_128.out _; (with_reducible repeat (first | apply b1 | apply b2 | apply b3)); refine blk_far ?_ NB126_128.out _; (with_reducible repeat (first | apply b1 | apply b2 | apply b3)); refine blk_far ?_ NB126_129.out _; (with_reducible repeat (first | apply b1 | apply b2 | apply b3)); refine blk_far ?_ NB126_129.out _; (with_reducible repeat (first | apply b1 | apply b2 | apply b3)); exact BK126.out) hb); have n1_ := Aside0.mk (blk_below (g := gb127) (o := .cells #[.int .u64 a1_0, .int .u64 a1_1] 103 (0, 0)) (by (with_reducible repeat (first | apply b1 | apply b2 | apply b3)); refine blk_far ?_ NB127_128.out _; (with_reducible repeat (first | apply b1 | apply b2 | apply b3)); refine blk_far ?_ NB127_128.out _; (with_reducible repeat (first | apply b1 | apply b2 | apply b3)); refine blk_far ?_ NB127_129.out _; (with_reducible repeat (first | apply b1 | apply b2 | apply b3)); refine blk_far ?_ NB127_129.out _; (with_reducible repeat (first | apply b1 | apply b2 | apply b3)); exact BK127.out) hb); have n2_ := Aside0.mk (blk_below (g := gb128) (o := .cells #[.int .u64 (Go.bits .or .u64 (IntKind.u64.wrap (x129000_1 * 2)) (x129001_1 / 9223372036854775808)), .int .u64 (IntKind.u64.wrap (x129001_1 * 2))] 103 (0, 0)) (by (with_reducible repeat (first | apply b1 | apply b2 | apply b3)); refine blk_put (cs := #[.int .u64 (Go.bits .or .u64 (IntKind.u64.wrap (x129000_1 * 2)) (x129001_1 / 9223372036854775808)), .int .u64 x129001_1]) ?_ 1 _ rfl; (with_reducible repeat (first | apply b1 | apply b2 | apply b3)); refine blk_put (cs := #[.int .u64 x129000_1, .int .u64 x129001_1]) ?_ 0 _ rfl; (with_reducible repeat (first | apply b1 | apply b2 | apply b3)); refine blk_far ?_ NB128_129.out _; (with_reducible repeat (first | apply b1 | apply b2 | apply b3)); refine blk_far ?_ NB128_129.out _; (with_reducible repeat (first | apply b1 | apply b2 | apply b3)); exact BK128.out) hb); have n3_ := Aside0.mk (blk_below (g := gb129) (o := .cells #[.int .u64 (Go.bits .or .u64 (IntKind.u64.wrap (x130000_1 * 2)) (x130001_1 / 9223372036854775808)), .int .u64 (Go.bits .or .u64 (IntKind.u64.wrap (x130001_1 * 2)) x7_30)] 103 (0, 0)) (by (with_reducible repeat (first | apply b1 | apply b2 | apply b3)); refine blk_far ?_ NB129_128.out _; (with_reducible repeat (first | apply b1 | apply b2 | apply b3)); refine blk_far ?_ NB129_128.out _; (with_reducible repeat (first | apply b1 | apply b2 | apply b3)); refine blk_put (cs := #[.int .u64 (Go.bits .or .u64 (IntKind.u64.wrap (x130000_1 * 2)) (x130001_1 / 9223372036854775808)), .int .u64 x130001_1]) ?_ 1 _ rfl; (with_reducible repeat (first | apply b1 | apply b2 | apply b3)); refine blk_put (cs := #[.int .u64 x130000_1, .int .u64 x130001_1]) ?_ 0 _ rfl; (with_reducible repeat (first | apply b1 | apply b2 | apply b3)); exact BK129.out) hb); have n4_ := Aside0.mk (below_step (by repeat (first | (with_reducible first | exact HB.out | apply l1 | apply l2 | apply l3 | refine below_set ?_ GE126.out | refine below_set ?_ GE127.out | refine below_set ?_ GE128.out | refine below_set ?_ GE129.out) | exact HB.out)) hb); clear BK126; clear BK127; clear BK128; clear BK129; clear HB; have BK126 := n0_; have BK127 := n1_; have BK128 := n2_; have BK129 := n3_; have HB := n4_; clear n0_ n1_ n2_ n3_ n4_; (try clear hb); (try clear hb2); (try clear hk); (try clear hi)))
         go_roundg kj30
         case measure => have := HK1.out; have := HJ30.out; omega
         case rel => exact ⟨(wrap64 (x6_1 - 1)), (Go.bits .or .u64 (IntKind.u64.wrap (x129000_1 * 2)) (x129001_1 / 9223372036854775808)), (IntKind.u64.wrap (x129001_1 * 2)), (Go.bits .or .u64 (IntKind.u64.wrap (x130000_1 * 2)) (x130001_1 / 9223372036854775808)), (Go.bits .or .u64 (IntKind.u64.wrap (x130001_1 * 2)) x7_30), (by first | rfl | (simp; done) | (simp [*]; done)), H', ⟨by have := HK1.out; have := HJ30.out; omega⟩, ⟨by (with_reducible repeat (first | apply b1 | apply b2 | apply b3)); exact BK126.out⟩, ⟨by (with_reducible repeat (first | apply b1 | apply b2 | apply b3)); exact BK127.out⟩, ⟨by (with_reducible repeat (first | apply b1 | apply b2 | apply b3)); exact BK128.out⟩, ⟨by (with_reducible repeat (first | apply b1 | apply b2 | apply b3)); exact BK129.out⟩, ⟨by repeat (first | (with_reducible first | exact HB.out | apply l1 | apply l2 | apply l3 | refine below_set ?_ GE126.out | refine below_set ?_ GE127.out | refine below_set ?_ GE128.out | refine below_set ?_ GE129.out) | exact HB.out)⟩⟩
     ·rw [if_neg c29] at H
      exact absurd H (by simp)
    ·rw [if_neg c28] at H
     have c28b0 : decide (0 ≤ x6_1) = false := decide_eq_false c28
     clear c28
     simp only [Option.some.injEq, Prod.mk.injEq] at H
     obtain ⟨rfl, rfl, rfl, rfl⟩ := H
     have hnb71 := NB128_126.out
     have hnc71 := NB126_128.out
     have hnb72 := NB128_127.out
     have hnc72 := NB127_128.out
     have hnb73 := NB128_129.out
     have hnc73 := NB129_128.out
     obtain ⟨hcz74_0, hcz74_1, hfz74_0, hfz74_1⟩ := blk_cells2 BK128.out
     have hnb75 := NB129_126.out
     have hnc75 := NB126_129.out
     have hnb76 := NB129_127.out
     have hnc76 := NB127_129.out
     obtain ⟨hcz77_0, hcz77_1, hfz77_0, hfz77_1⟩ := blk_cells2 BK129.out
     go_wp2
     go_region
     go_wp2
     refine bodyPost_ret (results_cc rfl _ _ gb128 gb129 103 103 #[.int .u64 x129000_1, .int .u64 x129001_1] #[.int .u64 x130000_1, .int .u64 x130001_1] (0, 0) (0, 0) _ _ rfl (by (with_reducible repeat (first | apply b1 | apply b2 | apply b3)); refine blk_far ?_ NB128_129.out _; (with_reducible repeat (first | apply b1 | apply b2 | apply b3)); refine blk_far ?_ NB128_129.out _; (with_reducible repeat (first | apply b1 | apply b2 | apply b3)); refine blk_put (cs := #[.int .u64 x129000_1, .int .u64 x129001_1]) ?_ 1 _ rfl; (with_reducible repeat (first | apply b1 | apply b2 | apply b3)); refine blk_put (cs := #[.int .u64 x129000_1, .int .u64 x129001_1]) ?_ 0 _ rfl; (with_reducible repeat (first | apply b1 | apply b2 | apply b3)); exact BK128.out) Try.underlying103 rfl (by kernel_rfl) rfl (by (with_reducible repeat (first | apply b1 | apply b2 | apply b3)); refine blk_put (cs := #[.int .u64 x130000_1, .int .u64 x130001_1]) ?_ 1 _ rfl; (with_reducible repeat (first | apply b1 | apply b2 | apply b3)); refine blk_put (cs := #[.int .u64 x130000_1, .int .u64 x130001_1]) ?_ 0 _ rfl; (with_reducible repeat (first | apply b1 | apply b2 | apply b3)); refine blk_far ?_ NB129_128.out _; (with_reducible repeat (first | apply b1 | apply b2 | apply b3)); refine blk_far ?_ NB129_128.out _; (with_reducible repeat (first | apply b1 | apply b2 | apply b3)); exact BK129.out) Try.underlying103 rfl (by kernel_rfl)) rfl ?_
     exact ⟨by first | rfl | (simp [errW_none, errW_some] <;> rfl) | (simp [*, errW_none, errW_some] <;> rfl), by repeat (first | (with_reducible first | exact HB.out | apply l1 | apply l2 | apply l3 | refine below_set ?_ GE126.out | refine below_set ?_ GE127.out | refine below_set ?_ GE128.out | refine below_set ?_ GE129.out) | exact HB.out)⟩
def ratio_common.l0 : Nat → Int → Int → Int → Int → Option (Int × Int)
 | 0, _, _, _, _ => none
 | k + 1, x136000, x136001, x137000, x137001 => if (!(x137000 == 0) || (!(x137001 == 0))) = true then ((ratio_wide_over.f k x136000 x136001 x137000 x137001).bind fun bt138 => (ratio_common.l0 k x137000 x137001 bt138.2.2.1 bt138.2.2.2)) else (some (x136000, x136001))
def ratio_common.f (k : Nat) (a0_0 : Int) (a0_1 : Int) (a1_0 : Int) (a1_1 : Int) : Option (Int × Int) := ratio_common.l0 k a0_0 a0_1 a1_0 a1_1
theorem ratio_common.mono_l : ∀ k, (∀ y0 y1 y2 y3, LeO (ratio_common.l0 k y0 y1 y2 y3) (ratio_common.l0 (k + 1) y0 y1 y2 y3))
 | 0 => fun _ _ _ _ r h => by simp [ratio_common.l0] at h
 | k + 1 => by
  have ih0 := ratio_common.mono_l k
  ·intro y0 y1 y2 y3
   unfold ratio_common.l0
   repeat' first
   | (with_reducible exact ih0 _ _ _ _)
   | (with_reducible exact ratio_wide_over.mono _ _ _ _ _)
   | (with_reducible exact LeO.refl _)
   | (with_reducible exact LeO.none _)
   | (with_reducible refine LeO.ite ?_ ?_)
   | (with_reducible refine LeO.bind ?_ (fun _ => ?_))
   | exact ih0 _ _ _ _
   | exact ratio_wide_over.mono _ _ _ _ _
   | exact LeO.none _
   | refine LeO.ite ?_ ?_
   | refine LeO.bind ?_ (fun _ => ?_)
theorem ratio_common.mono : ∀ a0 a1 a2 a3 k, LeO (ratio_common.f k a0 a1 a2 a3) (ratio_common.f (k + 1) a0 a1 a2 a3) := by
 intro a0 a1 a2 a3 k
 have ih0 := ratio_common.mono_l k
 unfold ratio_common.f
 repeat' first
   | (with_reducible exact ih0 _ _ _ _)
   | (with_reducible exact ratio_wide_over.mono _ _ _ _ _)
   | (with_reducible exact LeO.refl _)
   | (with_reducible exact LeO.none _)
   | (with_reducible refine LeO.ite ?_ ?_)
   | (with_reducible refine LeO.bind ?_ (fun _ => ?_))
   | exact ih0 _ _ _ _
   | exact ratio_wide_over.mono _ _ _ _ _
   | exact LeO.none _
   | refine LeO.ite ?_ ?_
   | refine LeO.bind ?_ (fun _ => ?_)
set_option maxHeartbeats 8000000 in
set_option maxRecDepth 100000 in
theorem ratio_common.calls (k : Nat) (a0_0 : Int) (a0_1 : Int) (a1_0 : Int) (a1_1 : Int) (r1 : Int) (r2 : Int) (w : World) (h : ratio_common.f k a0_0 a0_1 a1_0 a1_1 = some (r1, r2)) :
  Calls Try.prog 91 #[.agg #[.int .u64 a0_0, .int .u64 a0_1], .agg #[.int .u64 a1_0, .int .u64 a1_1]] w fun e w' => e = .returned (.agg #[.int .u64 r1, .int .u64 r2]) ∧ Below w.heap.size w w' := by
 have hu103 := Try.underlying103
 have HB := Aside0.mk (Below.refl w.heap.size w)
 have H : (ratio_common.l0 k a0_0 a0_1 a1_0 a1_1) = some (r1, r2) := h
 clear h
 have H' := Aside0.mk H
 clear H
 go_enter Try.func91, Try.ntmps91
 go_wp2_with (first | ((with_reducible refine gate_dst (N := 2) rfl ?_); refine box_event (by rfl) (N := 2) (by rfl) (cs := #[.int .u64 a0_0, .int .u64 a0_1]) (t := 103) (by first | (go_simp; done) | (go_simp; rfl)) ?_; intro gb135 hg w3 hbox hb; obtain ⟨hb_, hw_⟩ := box_facts (by repeat (first | (with_reducible first | exact HB.out | apply l1 | apply l2 | apply l3) | exact HB.out)) hg hb; have n0_ := Aside0.mk (hb_); have n1_ := Aside0.mk (hbox); have n2_ := Aside0.mk (hw_); have n3_ := Aside0.mk (hw_); clear HB; have HB := n0_; have BK135 := n1_; have GW135 := n2_; have GE135 := n3_; clear n0_ n1_ n2_ n3_; clear hb hbox hg hb_ hw_) | ((with_reducible refine gate_dst (N := 3) rfl ?_); refine box_event (by rfl) (N := 3) (by rfl) (cs := #[.int .u64 a1_0, .int .u64 a1_1]) (t := 103) (by first | (go_simp; done) | (go_simp; rfl)) ?_; intro gb136 hg w4 hbox hb; obtain ⟨hb_, hw_⟩ := box_facts (by repeat (first | (with_reducible first | exact HB.out | apply l1 | apply l2 | apply l3 | refine below_set ?_ GE135.out) | exact HB.out)) hg hb; have n0_ := Aside0.mk (blk_below (by (with_reducible repeat (first | apply b1 | apply b2 | apply b3)); exact BK135.out) hb); have n1_ := Aside0.mk (hb_); have n2_ := Aside0.mk (hbox); have n3_ := Aside0.mk (hw_); have n4_ := Aside0.mk (hw_); have n5_ := Aside0.mk ((by rw [hg]; exact Nat.ne_of_lt (blk_lt (by (with_reducible repeat (first | apply b1 | apply b2 | apply b3)); exact BK135.out)) : gb135 ≠ gb136)); have n6_ := Aside0.mk ((by rw [hg]; exact Nat.ne_of_gt (blk_lt (by (with_reducible repeat (first | apply b1 | apply b2 | apply b3)); exact BK135.out)) : gb136 ≠ gb135)); clear BK135; clear HB; have BK135 := n0_; have HB := n1_; have BK136 := n2_; have GW136 := n3_; have GE136 := n4_; have NB135_136 := n5_; have NB136_135 := n6_; clear n0_ n1_ n2_ n3_ n4_ n5_ n6_; clear hb hbox hg hb_ hw_) | ((with_reducible refine gate_dst (N := 4) rfl ?_); refine box_event (by rfl) (N := 4) (by rfl) (cs := #[.int .u64 0, .int .u64 0]) (t := 103) (by first | (go_simp; done) | (go_simp; rfl)) ?_; intro gb137 hg w5 hbox hb; obtain ⟨hb_, hw_⟩ := box_facts (by repeat (first | (with_reducible first | exact HB.out | apply l1 | apply l2 | apply l3 | refine below_set ?_ GE135.out | refine below_set ?_ GE136.out) | exact HB.out)) hg hb; have n0_ := Aside0.mk (blk_below (by (with_reducible repeat (first | apply b1 | apply b2 | apply b3)); exact BK135.out) hb); have n1_ := Aside0.mk (blk_below (by (with_reducible repeat (first | apply b1 | apply b2 | apply b3)); exact BK136.out) hb); have n2_ := Aside0.mk (hb_); have n3_ := Aside0.mk (hbox); have n4_ := Aside0.mk (hw_); have n5_ := Aside0.mk (hw_); have n6_ := Aside0.mk ((by rw [hg]; exact Nat.ne_of_lt (blk_lt (by (with_reducible repeat (first | apply b1 | apply b2 | apply b3)); exact BK135.out)) : gb135 ≠ gb137)); have n7_ := Aside0.mk ((by rw [hg]; exact Nat.ne_of_gt (blk_lt (by (with_reducible repeat (first | apply b1 | apply b2 | apply b3)); exact BK135.out)) : gb137 ≠ gb135)); have n8_ := Aside0.mk ((by rw [hg]; exact Nat.ne_of_lt (blk_lt (by (with_reducible repeat (first | apply b1 | apply b2 | apply b3)); exact BK136.out)) : gb136 ≠ gb137)); have n9_ := Aside0.mk ((by rw [hg]; exact Nat.ne_of_gt (blk_lt (by (with_reducible repeat (first | apply b1 | apply b2 | apply b3)); exact BK136.out)) : gb137 ≠ gb136)); clear BK135; clear BK136; clear HB; have BK135 := n0_; have BK136 := n1_; have HB := n2_; have BK137 := n3_; have GW137 := n4_; have GE137 := n5_; have NB135_137 := n6_; have NB137_135 := n7_; have NB136_137 := n8_; have NB137_136 := n9_; clear n0_ n1_ n2_ n3_ n4_ n5_ n6_ n7_ n8_ n9_; clear hb hbox hg hb_ hw_))
 (try simp only [Act.put, List.setIfInBounds_toArray, List.set_cons_zero, List.set_cons_succ])
 go_loopg [] k (fun kq w' => ∃ (x136000_1 : Int) (x136001_1 : Int) (x137000_1 : Int) (x137001_1 : Int), Aside0 (ratio_common.l0 kq x136000_1 x136001_1 x137000_1 x137001_1 = some (r1, r2)) ∧ Aside0 (kq ≤ k) ∧ Aside0 (w'.heap[gb135]? = some (.cells #[.int .u64 x136000_1, .int .u64 x136001_1] 103 (0, 0))) ∧ Aside0 (w'.heap[gb136]? = some (.cells #[.int .u64 x137000_1, .int .u64 x137001_1] 103 (0, 0))) ∧ Aside0 (w'.heap[gb137]? = some (.cells #[.int .u64 0, .int .u64 0] 103 (0, 0))) ∧ Aside0 (Below w.heap.size w w'))
 case atStart => exact ⟨(a0_0), (a0_1), (a1_0), (a1_1), H', ⟨Nat.le_refl _⟩, ⟨by (with_reducible repeat (first | apply b1 | apply b2 | apply b3)); exact BK135.out⟩, ⟨by (with_reducible repeat (first | apply b1 | apply b2 | apply b3)); exact BK136.out⟩, ⟨by (with_reducible repeat (first | apply b1 | apply b2 | apply b3)); exact BK137.out⟩, ⟨by repeat (first | (with_reducible first | exact HB.out | apply l1 | apply l2 | apply l3 | refine below_set ?_ GE135.out | refine below_set ?_ GE136.out | refine below_set ?_ GE137.out) | exact HB.out)⟩⟩
 case round =>
  clear H'
  try clear p2
  obtain ⟨x136000_1, x136001_1, x137000_1, x137001_1, HA, HK1, BK135, BK136, BK137, HB⟩ := hrel
  cases gk with
  | zero => exact absurd HA.out (by simp [ratio_common.l0])
  | succ k1 =>
   have H := HA.out
   clear HA
   simp only [ratio_common.l0] at H
   by_cases c6 : (!(x137000_1 == 0) || (!(x137001_1 == 0))) = true
   ·rw [if_pos c6] at H
    have c6b0 : (!(x137000_1 == 0) || (!(x137001_1 == 0))) = true := c6
    clear c6
    replace H := Option.bind_eq_some_iff.mp H
    obtain ⟨⟨t138, t139, t140, t141⟩, A70, H⟩ := H
    (try dsimp only at H)
    have A7 := Aside0.mk A70
    clear A70
    have H' := Aside0.mk H
    clear H
    have hnb8 := NB136_135.out
    have hnc8 := NB135_136.out
    have hnb9 := NB136_137.out
    have hnc9 := NB137_136.out
    obtain ⟨hcz10_0, hcz10_1, hfz10_0, hfz10_1⟩ := blk_cells2 BK136.out
    have hnb11 := NB135_137.out
    have hnc11 := NB137_135.out
    obtain ⟨hcz12_0, hcz12_1, hfz12_0, hfz12_1⟩ := blk_cells2 BK135.out
    try go_wp2_with (first | ((with_reducible refine gate_callee (f := 92) rfl ?_); refine goesL_ (some 13) rfl rfl Try.func92 (by kernel_rfl) rfl #[.agg #[.int .u64 x136000_1, .int .u64 x136001_1], .agg #[.int .u64 x137000_1, .int .u64 x137001_1]] rfl (by (try simp only [List.map_toArray, List.map_cons, List.map_nil]); first | done | rfl | (simp only [List.length_drop, List.length_take]; rfl)) ?_; (with_reducible refine (ratio_wide_over.calls k1 x136000_1 x136001_1 x137000_1 x137001_1 t138 t139 t140 t141 _ A7.out).mono ?_); rintro e w13 ⟨rfl, hb⟩; refine ⟨_, rfl, ?_⟩; have n0_ := Aside0.mk (blk_below (by (with_reducible repeat (first | apply b1 | apply b2 | apply b3)); exact BK135.out) hb); have n1_ := Aside0.mk (blk_below (by (with_reducible repeat (first | apply b1 | apply b2 | apply b3)); exact BK136.out) hb); have n2_ := Aside0.mk (blk_below (by (with_reducible repeat (first | apply b1 | apply b2 | apply b3)); exact BK137.out) hb); have n3_ := Aside0.mk (below_step (by repeat (first | (with_reducible first | exact HB.out | apply l1 | apply l2 | apply l3 | refine below_set ?_ GE135.out | refine below_set ?_ GE136.out | refine below_set ?_ GE137.out) | exact HB.out)) hb); clear BK135; clear BK136; clear BK137; clear HB; have BK135 := n0_; have BK136 := n1_; have BK137 := n2_; have HB := n3_; clear n0_ n1_ n2_ n3_; (try clear hb); (try clear hb2); (try clear hk); (try clear hi)) | ((with_reducible refine gate_dst (N := 5) rfl ?_); refine box_event (by rfl) (N := 5) (by rfl) (cs := #[.int .u64 0, .int .u64 0]) (t := 103) (by first | (go_simp; done) | (go_simp; rfl)) ?_; intro gb142 hg w14 hbox hb; obtain ⟨hb_, hw_⟩ := box_facts (by repeat (first | (with_reducible first | exact HB.out | apply l1 | apply l2 | apply l3 | refine below_set ?_ GE135.out | refine below_set ?_ GE136.out | refine below_set ?_ GE137.out) | exact HB.out)) hg hb; have n0_ := Aside0.mk (blk_below (by (with_reducible repeat (first | apply b1 | apply b2 | apply b3)); exact BK135.out) hb); have n1_ := Aside0.mk (blk_below (by (with_reducible repeat (first | apply b1 | apply b2 | apply b3)); exact BK136.out) hb); have n2_ := Aside0.mk (blk_below (by (with_reducible repeat (first | apply b1 | apply b2 | apply b3)); exact BK137.out) hb); have n3_ := Aside0.mk (hb_); have n4_ := Aside0.mk (hbox); have n5_ := Aside0.mk (hw_); have n6_ := Aside0.mk (hw_); have n7_ := Aside0.mk ((by rw [hg]; exact Nat.ne_of_lt (blk_lt (by (with_reducible repeat (first | apply b1 | apply b2 | apply b3)); exact BK135.out)) : gb135 ≠ gb142)); have n8_ := Aside0.mk ((by rw [hg]; exact Nat.ne_of_gt (blk_lt (by (with_reducible repeat (first | apply b1 | apply b2 | apply b3)); exact BK135.out)) : gb142 ≠ gb135)); have n9_ := Aside0.mk ((by rw [hg]; exact Nat.ne_of_lt (blk_lt (by (with_reducible repeat (first | apply b1 | apply b2 | apply b3)); exact BK136.out)) : gb136 ≠ gb142)); have n10_ := Aside0.mk ((by rw [hg]; exact Nat.ne_of_gt (blk_lt (by (with_reducible repeat (first | apply b1 | apply b2 | apply b3)); exact BK136.out)) : gb142 ≠ gb136)); have n11_ := Aside0.mk ((by rw [hg]; exact Nat.ne_of_lt (blk_lt (by (with_reducible repeat (first | apply b1 | apply b2 | apply b3)); exact BK137.out)) : gb137 ≠ gb142)); have n12_ := Aside0.mk ((by rw [hg]; exact Nat.ne_of_gt (blk_lt (by (with_reducible repeat (first | apply b1 | apply b2 | apply b3)); exact BK137.out)) : gb142 ≠ gb137)); clear BK135; clear BK136; clear BK137; clear HB; have BK135 := n0_; have BK136 := n1_; have BK137 := n2_; have HB := n3_; have BK142 := n4_; have GW142 := n5_; have GE142 := n6_; have NB135_142 := n7_; have NB142_135 := n8_; have NB136_142 := n9_; have NB142_136 := n10_; have NB137_142 := n11_; have NB142_137 := n12_; clear n0_ n1_ n2_ n3_ n4_ n5_ n6_ n7_ n8_ n9_ n10_ n11_ n12_; clear hb hbox hg hb_ hw_) | ((with_reducible refine gate_dst (N := 6) rfl ?_); refine box_event (by rfl) (N := 6) (by rfl) (cs := #[.int .u64 0, .int .u64 0]) (t := 103) (by first | (go_simp; done) | (go_simp; rfl)) ?_; intro gb143 hg w15 hbox hb; obtain ⟨hb_, hw_⟩ := box_facts (by repeat (first | (with_reducible first | exact HB.out | apply l1 | apply l2 | apply l3 | refine below_set ?_ GE135.out | refine below_set ?_ GE136.out | refine below_set ?_ GE137.out | refine below_set ?_ GE142.out) | exact HB.out)) hg hb; have n0_ := Aside0.mk (blk_below (by (with_reducible repeat (first | apply b1 | apply b2 | apply b3)); exact BK135.out) hb); have n1_ := Aside0.mk (blk_below (by (with_reducible repeat (first | apply b1 | apply b2 | apply b3)); exact BK136.out) hb); have n2_ := Aside0.mk (blk_below (by (with_reducible repeat (first | apply b1 | apply b2 | apply b3)); exact BK137.out) hb); have n3_ := Aside0.mk (blk_below (by (with_reducible repeat (first | apply b1 | apply b2 | apply b3)); exact BK142.out) hb); have n4_ := Aside0.mk (hb_); have n5_ := Aside0.mk (hbox); have n6_ := Aside0.mk (hw_); have n7_ := Aside0.mk (hw_); have n8_ := Aside0.mk ((by rw [hg]; exact Nat.ne_of_lt (blk_lt (by (with_reducible repeat (first | apply b1 | apply b2 | apply b3)); exact BK135.out)) : gb135 ≠ gb143)); have n9_ := Aside0.mk ((by rw [hg]; exact Nat.ne_of_gt (blk_lt (by (with_reducible repeat (first | apply b1 | apply b2 | apply b3)); exact BK135.out)) : gb143 ≠ gb135)); have n10_ := Aside0.mk ((by rw [hg]; exact Nat.ne_of_lt (blk_lt (by (with_reducible repeat (first | apply b1 | apply b2 | apply b3)); exact BK136.out)) : gb136 ≠ gb143)); have n11_ := Aside0.mk ((by rw [hg]; exact Nat.ne_of_gt (blk_lt (by (with_reducible repeat (first | apply b1 | apply b2 | apply b3)); exact BK136.out)) : gb143 ≠ gb136)); have n12_ := Aside0.mk ((by rw [hg]; exact Nat.ne_of_lt (blk_lt (by (with_reducible repeat (first | apply b1 | apply b2 | apply b3)); exact BK137.out)) : gb137 ≠ gb143)); have n13_ := Aside0.mk ((by rw [hg]; exact Nat.ne_of_gt (blk_lt (by (with_reducible repeat (first | apply b1 | apply b2 | apply b3)); exact BK137.out)) : gb143 ≠ gb137)); have n14_ := Aside0.mk ((by rw [hg]; exact Nat.ne_of_lt (blk_lt (by (with_reducible repeat (first | apply b1 | apply b2 | apply b3)); exact BK142.out)) : gb142 ≠ gb143)); have n15_ := Aside0.mk ((by rw [hg]; exact Nat.ne_of_gt (blk_lt (by (with_reducible repeat (first | apply b1 | apply b2 | apply b3)); exact BK142.out)) : gb143 ≠ gb142)); clear BK135; clear BK136; clear BK137; clear BK142; clear HB; have BK135 := n0_; have BK136 := n1_; have BK137 := n2_; have BK142 := n3_; have HB := n4_; have BK143 := n5_; have GW143 := n6_; have GE143 := n7_; have NB135_143 := n8_; have NB143_135 := n9_; have NB136_143 := n10_; have NB143_136 := n11_; have NB137_143 := n12_; have NB143_137 := n13_; have NB142_143 := n14_; have NB143_142 := n15_; clear n0_ n1_ n2_ n3_ n4_ n5_ n6_ n7_ n8_ n9_ n10_ n11_ n12_ n13_ n14_ n15_; clear hb hbox hg hb_ hw_; have hnb16 := NB142_135.out; have hnc16 := NB135_142.out; have hnb17 := NB142_136.out; have hnc17 := NB136_142.out; have hnb18 := NB142_137.out; have hnc18 := NB137_142.out; have hnb19 := NB142_143.out; have hnc19 := NB143_142.out; obtain ⟨hcz20_0, hcz20_1, hfz20_0, hfz20_1⟩ := blk_cells2 BK142.out; have hnb21 := NB143_135.out; have hnc21 := NB135_143.out; have hnb22 := NB143_136.out; have hnc22 := NB136_143.out; have hnb23 := NB143_137.out; have hnc23 := NB137_143.out; obtain ⟨hcz24_0, hcz24_1, hfz24_0, hfz24_1⟩ := blk_cells2 BK143.out))
    have n0_ : Aside0 (((((w15.setCell ⟨gb142, 0, none⟩ (.int .u64 t138)).setCell ⟨gb142, 1, none⟩ (.int .u64 t139)).setCell ⟨gb143, 0, none⟩ (.int .u64 t140)).setCell ⟨gb143, 1, none⟩ (.int .u64 t141)).heap[gb135]? = some (.cells #[.int .u64 x136000_1, .int .u64 x136001_1] 103 (0, 0))) := ⟨by (with_reducible repeat (first | apply b1 | apply b2 | apply b3)); refine blk_far ?_ NB135_143.out _; (with_reducible repeat (first | apply b1 | apply b2 | apply b3)); refine blk_far ?_ NB135_143.out _; (with_reducible repeat (first | apply b1 | apply b2 | apply b3)); refine blk_far ?_ NB135_142.out _; (with_reducible repeat (first | apply b1 | apply b2 | apply b3)); refine blk_far ?_ NB135_142.out _; (with_reducible repeat (first | apply b1 | apply b2 | apply b3)); exact BK135.out⟩
    have n1_ : Aside0 (((((w15.setCell ⟨gb142, 0, none⟩ (.int .u64 t138)).setCell ⟨gb142, 1, none⟩ (.int .u64 t139)).setCell ⟨gb143, 0, none⟩ (.int .u64 t140)).setCell ⟨gb143, 1, none⟩ (.int .u64 t141)).heap[gb136]? = some (.cells #[.int .u64 x137000_1, .int .u64 x137001_1] 103 (0, 0))) := ⟨by (with_reducible repeat (first | apply b1 | apply b2 | apply b3)); refine blk_far ?_ NB136_143.out _; (with_reducible repeat (first | apply b1 | apply b2 | apply b3)); refine blk_far ?_ NB136_143.out _; (with_reducible repeat (first | apply b1 | apply b2 | apply b3)); refine blk_far ?_ NB136_142.out _; (with_reducible repeat (first | apply b1 | apply b2 | apply b3)); refine blk_far ?_ NB136_142.out _; (with_reducible repeat (first | apply b1 | apply b2 | apply b3)); exact BK136.out⟩
    have n2_ : Aside0 (((((w15.setCell ⟨gb142, 0, none⟩ (.int .u64 t138)).setCell ⟨gb142, 1, none⟩ (.int .u64 t139)).setCell ⟨gb143, 0, none⟩ (.int .u64 t140)).setCell ⟨gb143, 1, none⟩ (.int .u64 t141)).heap[gb137]? = some (.cells #[.int .u64 0, .int .u64 0] 103 (0, 0))) := ⟨by (with_reducible repeat (first | apply b1 | apply b2 | apply b3)); refine blk_far ?_ NB137_143.out _; (with_reducible repeat (first | apply b1 | apply b2 | apply b3)); refine blk_far ?_ NB137_143.out _; (with_reducible repeat (first | apply b1 | apply b2 | apply b3)); refine blk_far ?_ NB137_142.out _; (with_reducible repeat (first | apply b1 | apply b2 | apply b3)); refine blk_far ?_ NB137_142.out _; (with_reducible repeat (first | apply b1 | apply b2 | apply b3)); exact BK137.out⟩
    have n3_ : Aside0 (((((w15.setCell ⟨gb142, 0, none⟩ (.int .u64 t138)).setCell ⟨gb142, 1, none⟩ (.int .u64 t139)).setCell ⟨gb143, 0, none⟩ (.int .u64 t140)).setCell ⟨gb143, 1, none⟩ (.int .u64 t141)).heap[gb142]? = some (.cells #[.int .u64 t138, .int .u64 t139] 103 (0, 0))) := ⟨by (with_reducible repeat (first | apply b1 | apply b2 | apply b3)); refine blk_far ?_ NB142_143.out _; (with_reducible repeat (first | apply b1 | apply b2 | apply b3)); refine blk_far ?_ NB142_143.out _; (with_reducible repeat (first | apply b1 | apply b2 | apply b3)); refine blk_put (cs := #[.int .u64 t138, .int .u64 0]) ?_ 1 _ rfl; (with_reducible repeat (first | apply b1 | apply b2 | apply b3)); refine blk_put (cs := #[.int .u64 0, .int .u64 0]) ?_ 0 _ rfl; (with_reducible repeat (first | apply b1 | apply b2 | apply b3)); exact BK142.out⟩
    have n4_ : Aside0 (((((w15.setCell ⟨gb142, 0, none⟩ (.int .u64 t138)).setCell ⟨gb142, 1, none⟩ (.int .u64 t139)).setCell ⟨gb143, 0, none⟩ (.int .u64 t140)).setCell ⟨gb143, 1, none⟩ (.int .u64 t141)).heap[gb143]? = some (.cells #[.int .u64 t140, .int .u64 t141] 103 (0, 0))) := ⟨by (with_reducible repeat (first | apply b1 | apply b2 | apply b3)); refine blk_put (cs := #[.int .u64 t140, .int .u64 0]) ?_ 1 _ rfl; (with_reducible repeat (first | apply b1 | apply b2 | apply b3)); refine blk_put (cs := #[.int .u64 0, .int .u64 0]) ?_ 0 _ rfl; (with_reducible repeat (first | apply b1 | apply b2 | apply b3)); refine blk_far ?_ NB143_142.out _; (with_reducible repeat (first | apply b1 | apply b2 | apply b3)); refine blk_far ?_ NB143_142.out _; (with_reducible repeat (first | apply b1 | apply b2 | apply b3)); exact BK143.out⟩
    have n5_ : Aside0 (Below w.heap.size w ((((w15.setCell ⟨gb142, 0, none⟩ (.int .u64 t138)).setCell ⟨gb142, 1, none⟩ (.int .u64 t139)).setCell ⟨gb143, 0, none⟩ (.int .u64 t140)).setCell ⟨gb143, 1, none⟩ (.int .u64 t141))) := ⟨by repeat (first | (with_reducible first | exact HB.out | apply l1 | apply l2 | apply l3 | refine below_set ?_ GE135.out | refine below_set ?_ GE136.out | refine below_set ?_ GE137.out | refine below_set ?_ GE142.out | refine below_set ?_ GE143.out) | exact HB.out)⟩
    (try clear BK135)
    (try clear BK136)
    (try clear BK137)
    (try clear BK142)
    (try clear BK143)
    (try clear HB)
    generalize ((((w15.setCell ⟨gb142, 0, none⟩ (.int .u64 t138)).setCell ⟨gb142, 1, none⟩ (.int .u64 t139)).setCell ⟨gb143, 0, none⟩ (.int .u64 t140)).setCell ⟨gb143, 1, none⟩ (.int .u64 t141)) = w25 at n0_ n1_ n2_ n3_ n4_ n5_ ⊢
    have BK135 := n0_
    have BK136 := n1_
    have BK137 := n2_
    have BK142 := n3_
    have BK143 := n4_
    have HB := n5_
    clear n0_ n1_ n2_ n3_ n4_ n5_
    have n0_ := Aside0.mk (blk_drew BK135.out)
    have n1_ := Aside0.mk (blk_drew BK136.out)
    have n2_ := Aside0.mk (blk_drew BK137.out)
    have n3_ := Aside0.mk (blk_drew BK142.out)
    have n4_ := Aside0.mk (blk_drew BK143.out)
    have n5_ := Aside0.mk (below_drew1 HB.out)
    clear BK135
    clear BK136
    clear BK137
    clear BK142
    clear BK143
    clear HB
    have BK135 := n0_
    have BK136 := n1_
    have BK137 := n2_
    have BK142 := n3_
    have BK143 := n4_
    have HB := n5_
    clear n0_ n1_ n2_ n3_ n4_ n5_
    refine start_ (n := 4) (S := fun w' => w'.cell? ⟨gb136, 0, none⟩ = some (.int .u64 x137000_1) ∧ w'.cell? ⟨gb136, 1, none⟩ = some (.int .u64 x137001_1) ∧ w'.cell? ⟨gb143, 0, none⟩ = some (.int .u64 t140) ∧ w'.cell? ⟨gb143, 1, none⟩ = some (.int .u64 t141)) (ds := [3]) #[false, false, false, false] (by kernel_rfl) rfl rfl ⟨(blk_cell BK136.out 0).trans rfl, (blk_cell BK136.out 1).trans rfl, (blk_cell BK143.out 0).trans rfl, (blk_cell BK143.out 1).trans rfl⟩ (fun hHeld => ?_)
    generalize w25.drew = w26 at BK135 BK136 BK137 BK142 BK143 HB hHeld ⊢
    refine take_ (i := 0) (N := some 16) (v := ?_) (a' := ?_) #[true, false, false, false] rfl rfl (by kernel_rfl) (fun _ _ _ h => h) (Or.inl ⟨by rfl, ?_⟩) hHeld ?_ ?_
    rotate_left
    ·rintro w' ⟨s0, s1, s2, s3⟩
     go_simp
     with_reducible rfl
    rotate_left
    ·simp only [Act.put, List.setIfInBounds_toArray, List.set_cons_zero, List.set_cons_succ, i64_w, i32_w]
     rfl
    refine take_ (i := 1) (N := some 17) (v := ?_) (a' := ?_) #[true, true, false, false] rfl rfl (by kernel_rfl) (fun _ _ _ h => h) (Or.inl ⟨by rfl, ?_⟩) hHeld ?_ ?_
    rotate_left
    ·rintro w' ⟨s0, s1, s2, s3⟩
     go_simp
     with_reducible rfl
    rotate_left
    ·simp only [Act.put, List.setIfInBounds_toArray, List.set_cons_zero, List.set_cons_succ, i64_w, i32_w]
     rfl
    refine one_ (i := 2) (N := none) #[true, true, true, false] rfl rfl (by kernel_rfl) (by decide) (fun K hK => ?_)
    have hs27 : w26.cell? ⟨gb135, 0, none⟩ = some (.int .u64 x136000_1) := (blk_cell BK135.out 0).trans rfl
    have hfs27 := blk_frozen BK135.out 0
    have hns27_1 := NB136_135.out
    have hns27_2 := NB137_135.out
    have hns27_3 := NB142_135.out
    have hns27_4 := NB143_135.out
    have hms27_1 := NB135_136.out
    have hms27_2 := NB135_137.out
    have hms27_3 := NB135_142.out
    have hms27_4 := NB135_143.out
    have hs28 : w26.cell? ⟨gb135, 1, none⟩ = some (.int .u64 x136001_1) := (blk_cell BK135.out 1).trans rfl
    have hfs28 := blk_frozen BK135.out 1
    have hns28_1 := NB136_135.out
    have hns28_2 := NB137_135.out
    have hns28_3 := NB142_135.out
    have hns28_4 := NB143_135.out
    have hms28_1 := NB135_136.out
    have hms28_2 := NB135_137.out
    have hms28_3 := NB135_142.out
    have hms28_4 := NB135_143.out
    refine skip_ (w1 := ?_) (by rfl) rfl ?_ ?_
    rotate_left
    ·go_simp
     rfl
    refine hK.out _ _ ⟨((cell_far (p := ⟨gb135, _, none⟩) NB136_135.out _).trans (((cell_far (p := ⟨gb135, _, none⟩) NB136_135.out _).trans (hHeld.1)))), ((cell_far (p := ⟨gb135, _, none⟩) NB136_135.out _).trans (((cell_far (p := ⟨gb135, _, none⟩) NB136_135.out _).trans (hHeld.2.1)))), ((cell_far (p := ⟨gb135, _, none⟩) NB143_135.out _).trans (((cell_far (p := ⟨gb135, _, none⟩) NB143_135.out _).trans (hHeld.2.2.1)))), ((cell_far (p := ⟨gb135, _, none⟩) NB143_135.out _).trans (((cell_far (p := ⟨gb135, _, none⟩) NB143_135.out _).trans (hHeld.2.2.2))))⟩ (fun hHeld => ?_)
    clear hK K
    refine last_ (i := 3) (N := none) #[true, true, true, true] rfl rfl (by kernel_rfl) (by decide) (fun K hK => ?_)
    have hs29 : w26.cell? ⟨gb136, 0, none⟩ = some (.int .u64 x137000_1) := (blk_cell BK136.out 0).trans rfl
    have hfs29 := blk_frozen BK136.out 0
    have hns29_0 := NB135_136.out
    have hns29_2 := NB137_136.out
    have hns29_3 := NB142_136.out
    have hns29_4 := NB143_136.out
    have hms29_0 := NB136_135.out
    have hms29_2 := NB136_137.out
    have hms29_3 := NB136_142.out
    have hms29_4 := NB136_143.out
    have hs30 : w26.cell? ⟨gb136, 1, none⟩ = some (.int .u64 x137001_1) := (blk_cell BK136.out 1).trans rfl
    have hfs30 := blk_frozen BK136.out 1
    have hns30_0 := NB135_136.out
    have hns30_2 := NB137_136.out
    have hns30_3 := NB142_136.out
    have hns30_4 := NB143_136.out
    have hms30_0 := NB136_135.out
    have hms30_2 := NB136_137.out
    have hms30_3 := NB136_142.out
    have hms30_4 := NB136_143.out
    refine skip_ (w1 := ?_) (by rfl) rfl ?_ ?_
    rotate_left
    ·go_simp
     rfl
    refine hK.out _ _ ?_
    clear hK K
    refine done_ (by kernel_rfl) ?_
    try go_wp2
    go_roundg k1
    case measure => have := HK1.out; omega
    case rel => exact ⟨(x137000_1), (x137001_1), (t140), (t141), H', ⟨by have := HK1.out; omega⟩, ⟨by (with_reducible repeat (first | apply b1 | apply b2 | apply b3)); refine blk_far ?_ NB135_136.out _; (with_reducible repeat (first | apply b1 | apply b2 | apply b3)); refine blk_far ?_ NB135_136.out _; (with_reducible repeat (first | apply b1 | apply b2 | apply b3)); refine blk_put (cs := #[.int .u64 x137000_1, .int .u64 x136001_1]) ?_ 1 _ rfl; (with_reducible repeat (first | apply b1 | apply b2 | apply b3)); refine blk_put (cs := #[.int .u64 x136000_1, .int .u64 x136001_1]) ?_ 0 _ rfl; (with_reducible repeat (first | apply b1 | apply b2 | apply b3)); exact BK135.out⟩, ⟨by (with_reducible repeat (first | apply b1 | apply b2 | apply b3)); refine blk_put (cs := #[.int .u64 t140, .int .u64 x137001_1]) ?_ 1 _ rfl; (with_reducible repeat (first | apply b1 | apply b2 | apply b3)); refine blk_put (cs := #[.int .u64 x137000_1, .int .u64 x137001_1]) ?_ 0 _ rfl; (with_reducible repeat (first | apply b1 | apply b2 | apply b3)); refine blk_far ?_ NB136_135.out _; (with_reducible repeat (first | apply b1 | apply b2 | apply b3)); refine blk_far ?_ NB136_135.out _; (with_reducible repeat (first | apply b1 | apply b2 | apply b3)); exact BK136.out⟩, ⟨by (with_reducible repeat (first | apply b1 | apply b2 | apply b3)); refine blk_far ?_ NB137_136.out _; (with_reducible repeat (first | apply b1 | apply b2 | apply b3)); refine blk_far ?_ NB137_136.out _; (with_reducible repeat (first | apply b1 | apply b2 | apply b3)); refine blk_far ?_ NB137_135.out _; (with_reducible repeat (first | apply b1 | apply b2 | apply b3)); refine blk_far ?_ NB137_135.out _; (with_reducible repeat (first | apply b1 | apply b2 | apply b3)); exact BK137.out⟩, ⟨by repeat (first | (with_reducible first | exact HB.out | apply l1 | apply l2 | apply l3 | refine below_set ?_ GE135.out | refine below_set ?_ GE136.out | refine below_set ?_ GE137.out | refine below_set ?_ GE142.out | refine below_set ?_ GE143.out) | exact HB.out)⟩⟩
   ·rw [if_neg c6] at H
    have c6b0 : (!(x137000_1 == 0) || (!(x137001_1 == 0))) = false := by simpa using c6
    clear c6
    simp only [Option.some.injEq, Prod.mk.injEq] at H
    obtain ⟨rfl, rfl⟩ := H
    have hnb31 := NB136_135.out
    have hnc31 := NB135_136.out
    have hnb32 := NB136_137.out
    have hnc32 := NB137_136.out
    obtain ⟨hcz33_0, hcz33_1, hfz33_0, hfz33_1⟩ := blk_cells2 BK136.out
    have hnb34 := NB135_137.out
    have hnc34 := NB137_135.out
    obtain ⟨hcz35_0, hcz35_1, hfz35_0, hfz35_1⟩ := blk_cells2 BK135.out
    obtain ⟨hcz36_0, hcz36_1, hfz36_0, hfz36_1⟩ := blk_cells2 BK137.out
    go_wp2
    refine bodyPost_ret (results_cell_row rfl _ _ gb137 103 #[.int .u64 x136000_1, .int .u64 x136001_1] (0, 0) _ rfl (by (with_reducible repeat (first | apply b1 | apply b2 | apply b3)); refine blk_put (cs := #[.int .u64 x136000_1, .int .u64 0]) ?_ 1 _ rfl; (with_reducible repeat (first | apply b1 | apply b2 | apply b3)); refine blk_put (cs := #[.int .u64 0, .int .u64 0]) ?_ 0 _ rfl; (with_reducible repeat (first | apply b1 | apply b2 | apply b3)); exact BK137.out) Try.underlying103 rfl (by kernel_rfl)) rfl ?_
    exact ⟨by first | rfl | (simp [errW_none, errW_some] <;> rfl) | (simp [*, errW_none, errW_some] <;> rfl), by repeat (first | (with_reducible first | exact HB.out | apply l1 | apply l2 | apply l3 | refine below_set ?_ GE135.out | refine below_set ?_ GE136.out | refine below_set ?_ GE137.out) | exact HB.out)⟩
end Go.Proofs.Ytbpifnpljcgjlaa.PLx
