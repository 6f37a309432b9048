-- printed
import Derived.Test.YtlbicmdfdpcdiaaDnPDax0
import Derived.Test.YtlbicmdfdpcdiaaDnPDax12
import Derived.Test.YtlbicmdfdpcdiaaDnPDax17
import Derived.Test.YtlbicmdfdpcdiaaDnPDax18
namespace Go.Proofs.Ytlbicmdfdpcdiaa.PDa
open Go.RowKit Go.Proofs.YtlbicmdfdpcdiaaW.PrintWords Go.Proofs.YtlbicmdfdpcdiaaW.PrintLast Go.Proofs.YtlbicmdfdpcdiaaW.PrintMore
attribute [local go_sem] max2_int min2_int max_two min_two max_three min_three max_four min_four
set_option linter.unusedVariables false
set_option linter.unusedSimpArgs false
def dual_Pairs.T8 : Bool × List (List Nat × List Nat) := (true, [([], []), ([0], [0]), ([1], [1]), ([], []), ([3], [3]), ([4], [4]), ([], []), ([2, 0, 1, 2, 6], [2]), ([6, 5, 7, 0, 1, 2, 3, 4, 5, 6, 7], [5, 6])])
def dual_Pairs.B8 : List Nat := [0, 1, 3, 0, 8, 24, 0, 71, 255]
theorem dual_Pairs.tab8 : rtab .any (opsOf Try.f16 8) = dual_Pairs.T8 := by kernel_rfl
theorem dual_Pairs.bits8 : waitsOk dual_Pairs.T8.2 dual_Pairs.B8 = true := by kernel_rfl
def dual_Pairs.T12 : Bool × List (List Nat × List Nat) := (true, [([], []), ([], []), ([0, 1], [0, 1]), ([], []), ([], []), ([3, 4, 2], [3, 4]), ([], []), ([], []), ([6, 2, 5, 0, 1, 2, 6, 7], [2, 6]), ([7, 5, 8, 0, 1, 2, 3, 4, 5, 6, 7, 8], [5, 7])])
def dual_Pairs.B12 : List Nat := [0, 0, 3, 0, 0, 31, 0, 0, 255, 511]
theorem dual_Pairs.tab12 : rtab .any (opsOf Try.f16 12) = dual_Pairs.T12 := by kernel_rfl
theorem dual_Pairs.bits12 : waitsOk dual_Pairs.T12.2 dual_Pairs.B12 = true := by kernel_rfl
set_option maxHeartbeats 8000000 in
set_option maxRecDepth 100000 in
theorem dual_Pairs.many (k : Nat) (A0_0 : Option Addr) (c0_0 : Nat) (l0_0 : List (S38)) (A1_0 : Option Addr) (c1_0 : Nat) (l1_0 : List (S38)) (w : World) (hr0_0 : Kd.C k38 w A0_0 l0_0.length l0_0) (hc0_0 : l0_0.length ≤ c0_0) (hr1_0 : Kd.C k38 w A1_0 l1_0.length l1_0) (hc1_0 : l1_0.length ≤ c1_0) (h1 : cue_CheckDoc.f k l0_0 = some none) (h2 : cue_CheckDoc.f k l1_0 = some none) (hn : l0_0.length ≤ 4096) (hm : l1_0.length ≤ 4096) (c3b0 : decide (1048576 < (wrap64 ((l0_0.length : Int) * (l1_0.length : Int)))) = true) :
  Calls Try.prog 16 #[.agg #[.slice A0_0 l0_0.length c0_0], .agg #[.slice A1_0 l1_0.length c1_0]] w fun e w' => ∃ v0_ v1_ : Value, e = .returned (.tuple #[v0_, v1_]) ∧ Kd.R k47 47 w' w.heap.size (fun _ => True) v0_ [] ∧ EV v1_ (some (0, 2)) ∧ Below w.heap.size w w' := by
 have hu25 := Try.underlying25
 have hu61 := Try.underlying61
 have hu27 := Try.underlying27
 have hu58 := Try.underlying58
 have HR0_0 := Aside0.mk hr0_0
 have HC0_0 := Aside0.mk hc0_0
 clear hr0_0 hc0_0
 have HR1_0 := Aside0.mk hr1_0
 have HC1_0 := Aside0.mk hc1_0
 clear hr1_0 hc1_0
 have HB := Aside0.mk (Below.refl w.heap.size w)
 have H1 := Aside0.mk h1
 have H2 := Aside0.mk h2
 clear h1 h2
 go_enter Try.func16, Try.ntmps16
 go_wp2_with (first | ((with_reducible refine gate_dst (N := 2) rfl ?_); refine box_event (by rfl) (N := 2) (by rfl) (cs := #[.slice A0_0 l0_0.length c0_0]) (t := 25) (by first | (go_simp; done) | (go_simp; rfl)) ?_; intro gb325 hg w4 hbox hb; obtain ⟨hb_, hw_⟩ := box_facts (lA HB.out) hg hb; replace HB := Aside0.mk (hb_); have BK325 := Aside0.mk (hbox); have GW325 := Aside0.mk (hw_); have GE325 := Aside0.mk (hw_); clear hb hbox hg hb_ hw_) | ((with_reducible refine gate_dst (N := 3) rfl ?_); refine box_event (by rfl) (N := 3) (by rfl) (cs := #[.slice A1_0 l1_0.length c1_0]) (t := 25) (by first | (go_simp; done) | (go_simp; rfl)) ?_; intro gb326 hg w5 hbox hb; obtain ⟨hb_, hw_⟩ := box_facts (by repeat (first | (with_reducible first | exact HB.out | apply l1 | apply l2 | apply l3 | refine below_set ?_ GE325.out) | exact HB.out)) hg hb; replace HB := Aside0.mk (hb_); have BK326 := Aside0.mk (hbox); have GW326 := Aside0.mk (hw_); have GE326 := Aside0.mk (hw_); have NB325_326 := Aside0.mk ((nL hg BK325.out)); have NB326_325 := Aside0.mk ((nG hg BK325.out)); replace BK325 := Aside0.mk (bB BK325.out hb); clear hb hbox hg hb_ hw_; have CK1 : _ = some (Value.slice A0_0 l0_0.length c0_0) := (blk_cell BK325.out 0).trans rfl; have CK2 : _ = some (Value.slice A1_0 l1_0.length c1_0) := (blk_cell BK326.out 0).trans rfl))
 have hBr : (w5.alloc (Obj.cells #[Value.slice A0_0 l0_0.length c0_0, Value.slice A1_0 l1_0.length c1_0] 25)).heap[w5.heap.size]? = some (.cells #[Value.slice A0_0 l0_0.length c0_0, Value.slice A1_0 l1_0.length c1_0] 25 (0, 0)) := blk_new _ _
 have hB1 := blk_alloc BK325.out (Obj.cells #[Value.slice A0_0 l0_0.length c0_0, Value.slice A1_0 l1_0.length c1_0] 25)
 have hB2 := blk_alloc BK326.out (Obj.cells #[Value.slice A0_0 l0_0.length c0_0, Value.slice A1_0 l1_0.length c1_0] 25)
 have hBB : Below w.heap.size w (w5.alloc (Obj.cells #[Value.slice A0_0 l0_0.length c0_0, Value.slice A1_0 l1_0.length c1_0] 25)) := below_alloc HB.out _
 generalize w5.alloc (Obj.cells #[Value.slice A0_0 l0_0.length c0_0, Value.slice A1_0 l1_0.length c1_0] 25) = wq6 at hBr hB1 hB2 hBB ⊢
 have P0 := Aside0.mk (And.intro hBr (And.intro hB1 (And.intro hB2 hBB)))
 clear hBr hB1 hB2 hBB CK1 CK2 HB BK325 BK326
 generalize w5.heap.size = rr at P0 ⊢
 go_loopg [35] 2 (fun kx v wr => ∃ i : Nat, v = .int .i64 (i : Int) ∧ i + kx = 2 ∧ Aside0 (wr.heap[rr]? = some (.cells #[Value.slice A0_0 l0_0.length c0_0, Value.slice A1_0 l1_0.length c1_0] 25 (0, 0)) ∧ wr.heap[gb325]? = some (.cells #[Value.slice A0_0 l0_0.length c0_0] 25 (0, 0)) ∧ wr.heap[gb326]? = some (.cells #[Value.slice A1_0 l1_0.length c1_0] 25 (0, 0)) ∧ Below w.heap.size w wr))
 case atStart => exact ⟨0, rfl, rfl, P0⟩
 case round =>
  clear P0
  obtain ⟨i, rfl, hik, PR⟩ := hrel
  have hcase : i = 0 ∨ i = 1 ∨ i = 2 := by omega
  rcases hcase with rfl | rfl | rfl
  ·have ck : _ = some (Value.slice A0_0 l0_0.length c0_0) := (blk_cell PR.out.1 0).trans rfl
   go_wp2_with (first | (go_at_call 18; refine (cue_CheckDoc.calls k A0_0 c0_0 l0_0 none _ (Kd.C_below HR0_0.out (below_alloc PR.out.2.2.2 _)) HC0_0.out H1.out).mono ?_; rintro e w8 ⟨v0, rfl, hE, hB8⟩; obtain rfl := EV_none hE; have hB9 : Below wr.heap.size wr w8 := (below_alloc (Below.refl _ wr) _).trans (hB8.mono (by simp)); clear hB8 hE ck))
   go_roundg 1
   case measure => omega
   case rel => exact ⟨1, by first | rfl | go_num, by omega, ⟨blk_below PR.out.1 hB9, blk_below PR.out.2.1 hB9, blk_below PR.out.2.2.1 hB9, below_step PR.out.2.2.2 hB9⟩⟩
  ·have ck : _ = some (Value.slice A1_0 l1_0.length c1_0) := (blk_cell PR.out.1 1).trans rfl
   go_wp2_with (first | (go_at_call 18; refine (cue_CheckDoc.calls k A1_0 c1_0 l1_0 none _ (Kd.C_below HR1_0.out (below_alloc PR.out.2.2.2 _)) HC1_0.out H2.out).mono ?_; rintro e w8 ⟨v0, rfl, hE, hB8⟩; obtain rfl := EV_none hE; have hB9 : Below wr.heap.size wr w8 := (below_alloc (Below.refl _ wr) _).trans (hB8.mono (by simp)); clear hB8 hE ck))
   go_roundg 0
   case measure => omega
   case rel => exact ⟨2, by first | rfl | go_num, by omega, ⟨blk_below PR.out.1 hB9, blk_below PR.out.2.1 hB9, blk_below PR.out.2.2.1 hB9, below_step PR.out.2.2.2 hB9⟩⟩
  ·go_wp2
   have BK325 := Aside0.mk PR.out.2.1
   have BK326 := Aside0.mk PR.out.2.2.1
   have HB := Aside0.mk PR.out.2.2.2
   clear PR hik H1 H2
   replace BK325 := Aside0.mk (blk_drew BK325.out)
   replace BK326 := Aside0.mk (blk_drew BK326.out)
   replace HB := Aside0.mk (below_drew1 HB.out)
   refine start_ (n := 9) (S := fun w' => w'.cell? ⟨gb325, 0, none⟩ = some (.slice A0_0 l0_0.length c0_0) ∧ w'.cell? ⟨gb326, 0, none⟩ = some (.slice A1_0 l1_0.length c1_0)) (ds := []) #[false, false, false, false, false, false, false, false, false] (by kernel_rfl) rfl rfl ⟨(blk_cell BK325.out 0).trans rfl, (blk_cell BK326.out 0).trans rfl⟩ (fun hHeld => ?_); refine with_tabW dual_Pairs.tab8 dual_Pairs.bits8 (fun HT_ HW_ => ?_)
   generalize wr.drew = w6 at BK325 BK326 HB hHeld ⊢
   refine sched [(0, some 45), (3, some 48), (1, some 46), (2, some 47), (4, some 49), (5, some 50)] ?_
   iterate 6 first
    |(refine pureS (v := ?_) (a' := ?_) rfl rfl (any_of HT_.out (by kernel_rfl)) (fun _ _ _ h => h) (Or.inl ⟨by rfl, ?_⟩) ?_ ?_
      rotate_left
      ·intro w'
       go_simp
       with_reducible rfl
      rotate_left
      ·simp only [Act.put, List.setIfInBounds_toArray, List.set_cons_zero, List.set_cons_succ, i64_w, i32_w]
       rfl)
    |(refine takeS (v := ?_) (a' := ?_) rfl rfl (take_ofW HT_.out HW_.out (by kernel_rfl)) (fun _ _ _ h => h) (Or.inl ⟨by rfl, ?_⟩) hHeld ?_ ?_
      rotate_left
      ·rintro w' ⟨s0, s1⟩
       go_simp
       with_reducible rfl
      rotate_left
      ·simp only [Act.put, List.setIfInBounds_toArray, List.set_cons_zero, List.set_cons_succ, i64_w, i32_w]
       rfl)
   refine unsched ?_
   refine one_ (i := 6) (N := some 10) #[true, true, true, true, true, true, true, false, false] rfl rfl (one_of HT_.out (by kernel_rfl)) (by decide) (fun K hK => ?_)
   refine box_step (by rfl) (N := 10) (by rfl) (cs := #[.int .i64 0]) (t := 3) (by first | (go_simp; done) | (go_simp; rfl)) ?_
   intro gb327 hg w7 hbox hb
   obtain ⟨hb_, hw_⟩ := box_facts (by repeat (first | (with_reducible first | exact HB.out | apply l1 | apply l2 | apply l3 | refine below_set ?_ GE325.out | refine below_set ?_ GE326.out) | exact HB.out)) hg hb
   replace HB := Aside0.mk (hb_)
   have BK327 := Aside0.mk (hbox)
   have GW327 := Aside0.mk (hw_)
   have GE327 := Aside0.mk (hw_)
   have NB325_327 := Aside0.mk ((nL hg BK325.out))
   have NB327_325 := Aside0.mk ((nG hg BK325.out))
   replace BK325 := Aside0.mk (bB BK325.out hb)
   have NB326_327 := Aside0.mk ((nL hg BK326.out))
   have NB327_326 := Aside0.mk ((nG hg BK326.out))
   replace BK326 := Aside0.mk (bB BK326.out hb)
   clear hb hbox hg hb_ hw_
   refine hK.out _ _ ⟨(blk_cell BK325.out 0).trans rfl, (blk_cell BK326.out 0).trans rfl⟩ (fun hHeld => ?_)
   clear hK K
   refine norm_ (a' := ?_) ?_ ?_
   rotate_left
   ·show Act.put _ (some 10) _ = _
    simp only [Act.put, List.setIfInBounds_toArray, List.set_cons_zero, List.set_cons_succ, i64_w, i32_w]
    rfl
   refine pure_ (i := 7) (N := some 9) (v := ?_) (a' := ?_) #[true, true, true, true, true, true, true, true, false] rfl rfl (any_of HT_.out (by kernel_rfl)) (fun _ _ _ h => h) (Or.inl ⟨by rfl, ?_⟩) ?_ ?_
   rotate_left
   ·intro w'
    go_simp
    with_reducible rfl
   rotate_left
   ·simp only [Act.put, List.setIfInBounds_toArray, List.set_cons_zero, List.set_cons_succ, i64_w, i32_w]
    rfl
   refine one_ (i := 8) (N := none) #[true, true, true, true, true, true, true, true, true] rfl rfl (one_of HT_.out (by kernel_rfl)) (by decide) (fun K hK => ?_)
   have hs8 : w7.cell? ⟨gb327, 0, none⟩ = some (.int .i64 0) := (blk_cell BK327.out 0).trans rfl
   have hfs8 := blk_frozen BK327.out 0
   have hns8_0 := NB325_327.out
   have hns8_1 := NB326_327.out
   have hms8_0 := NB327_325.out
   have hms8_1 := NB327_326.out
   refine skip_ (w1 := ?_) (by rfl) rfl ?_ ?_
   rotate_left
   ·go_simp
    rfl
   refine hK.out _ _ ⟨((cell_far (p := ⟨gb327, _, none⟩) NB325_327.out _).trans (hHeld.1)), ((cell_far (p := ⟨gb327, _, none⟩) NB326_327.out _).trans (hHeld.2))⟩ (fun hHeld => ?_)
   clear hK K
   refine done_ (done_of HT_.out (by kernel_rfl)) ?_
   have hnb9 := NB327_325.out
   have hnc9 := NB325_327.out
   have hnb10 := NB327_326.out
   have hnc10 := NB326_327.out
   obtain ⟨hcz11_0, hfz11_0⟩ := blk_cells1 BK327.out
   try go_wp2_with (first | ((with_reducible refine gate_dst (N := 56) rfl ?_); refine box_event (by rfl) (N := 56) (by rfl) (cs := #[.int .i64 0, .int .i64 2]) (t := 61) (by first | (go_simp; done) | (go_simp; rfl)) ?_; intro gb328 hg w12 hbox hb; obtain ⟨hb_, hw_⟩ := box_facts (by repeat (first | (with_reducible first | exact HB.out | apply l1 | apply l2 | apply l3 | refine below_set ?_ GE325.out | refine below_set ?_ GE326.out | refine below_set ?_ GE327.out) | exact HB.out)) hg hb; replace HB := Aside0.mk (hb_); have BK328 := Aside0.mk (hbox); have GW328 := Aside0.mk (hw_); have GE328 := Aside0.mk (hw_); have NB325_328 := Aside0.mk ((by rw [hg]; exact Nat.ne_of_lt (blk_lt (g := gb325) (o := .cells #[.slice A0_0 l0_0.length c0_0] 25 (0, 0)) (by (with_reducible repeat (first | apply b1 | apply b2 | apply b3)); refine blk_far ?_ NB325_327.out _; (with_reducible repeat (first | apply b1 | apply b2 | apply b3)); exact BK325.out)) : gb325 ≠ gb328)); have NB328_325 := Aside0.mk ((by rw [hg]; exact Nat.ne_of_gt (blk_lt (g := gb325) (o := .cells #[.slice A0_0 l0_0.length c0_0] 25 (0, 0)) (by (with_reducible repeat (first | apply b1 | apply b2 | apply b3)); refine blk_far ?_ NB325_327.out _; (with_reducible repeat (first | apply b1 | apply b2 | apply b3)); exact BK325.out)) : gb328 ≠ gb325)); replace BK325 := Aside0.mk (blk_below (g := gb325) (o := .cells #[.slice A0_0 l0_0.length c0_0] 25 (0, 0)) (by (with_reducible repeat (first | apply b1 | apply b2 | apply b3)); refine blk_far ?_ NB325_327.out _; (with_reducible repeat (first | apply b1 | apply b2 | apply b3)); exact BK325.out) hb); have NB326_328 := Aside0.mk ((by rw [hg]; exact Nat.ne_of_lt (blk_lt (g := gb326) (o := .cells #[.slice A1_0 l1_0.length c1_0] 25 (0, 0)) (by (with_reducible repeat (first | apply b1 | apply b2 | apply b3)); refine blk_far ?_ NB326_327.out _; (with_reducible repeat (first | apply b1 | apply b2 | apply b3)); exact BK326.out)) : gb326 ≠ gb328)); have NB328_326 := Aside0.mk ((by rw [hg]; exact Nat.ne_of_gt (blk_lt (g := gb326) (o := .cells #[.slice A1_0 l1_0.length c1_0] 25 (0, 0)) (by (with_reducible repeat (first | apply b1 | apply b2 | apply b3)); refine blk_far ?_ NB326_327.out _; (with_reducible repeat (first | apply b1 | apply b2 | apply b3)); exact BK326.out)) : gb328 ≠ gb326)); replace BK326 := Aside0.mk (blk_below (g := gb326) (o := .cells #[.slice A1_0 l1_0.length c1_0] 25 (0, 0)) (by (with_reducible repeat (first | apply b1 | apply b2 | apply b3)); refine blk_far ?_ NB326_327.out _; (with_reducible repeat (first | apply b1 | apply b2 | apply b3)); exact BK326.out) hb); have NB327_328 := Aside0.mk ((by rw [hg]; exact Nat.ne_of_lt (blk_lt (g := gb327) (o := .cells #[.int .i64 (l1_0.length : Int)] 3 (0, 0)) (by (with_reducible repeat (first | apply b1 | apply b2 | apply b3)); refine blk_put (cs := #[.int .i64 0]) ?_ 0 _ rfl; (with_reducible repeat (first | apply b1 | apply b2 | apply b3)); exact BK327.out)) : gb327 ≠ gb328)); have NB328_327 := Aside0.mk ((by rw [hg]; exact Nat.ne_of_gt (blk_lt (g := gb327) (o := .cells #[.int .i64 (l1_0.length : Int)] 3 (0, 0)) (by (with_reducible repeat (first | apply b1 | apply b2 | apply b3)); refine blk_put (cs := #[.int .i64 0]) ?_ 0 _ rfl; (with_reducible repeat (first | apply b1 | apply b2 | apply b3)); exact BK327.out)) : gb328 ≠ gb327)); replace BK327 := Aside0.mk (blk_below (g := gb327) (o := .cells #[.int .i64 (l1_0.length : Int)] 3 (0, 0)) (by (with_reducible repeat (first | apply b1 | apply b2 | apply b3)); refine blk_put (cs := #[.int .i64 0]) ?_ 0 _ rfl; (with_reducible repeat (first | apply b1 | apply b2 | apply b3)); exact BK327.out) hb); clear hb hbox hg hb_ hw_))
   go_ret2
   exact ⟨_, (.iface 58 (.pointer (some ⟨gb328, 0, none⟩))), by first | rfl | (simp [errW_none, errW_some] <;> rfl) | (simp [*, errW_none, errW_some] <;> rfl), by first | exact Kd.R_nil _ _ _ _ _ | exact Kd.N_nil _ _ _ _ _ | exact Kd.V_nil _ _ _ _ _ | exact Kd.Q_nil _ _ _ _ _ | exact Kd.S_nil _ _ _ _ _, EV_mk _ _, by repeat (first | (with_reducible first | exact HB.out | apply l1 | apply l2 | apply l3 | refine below_set ?_ GE325.out | refine below_set ?_ GE326.out | refine below_set ?_ GE327.out | refine below_set ?_ GE328.out) | exact HB.out)⟩
set_option maxHeartbeats 8000000 in
set_option maxRecDepth 100000 in
theorem dual_Pairs.ok (k : Nat) (A0_0 : Option Addr) (c0_0 : Nat) (l0_0 : List (S38)) (A1_0 : Option Addr) (c1_0 : Nat) (l1_0 : List (S38)) (w : World) (hr0_0 : Kd.C k38 w A0_0 l0_0.length l0_0) (hc0_0 : l0_0.length ≤ c0_0) (hr1_0 : Kd.C k38 w A1_0 l1_0.length l1_0) (hc1_0 : l1_0.length ≤ c1_0) (h1 : cue_CheckDoc.f k l0_0 = some none) (h2 : cue_CheckDoc.f k l1_0 = some none) (hn : l0_0.length ≤ 4096) (hm : l1_0.length ≤ 4096) (c3b0 : decide (1048576 < (wrap64 ((l0_0.length : Int) * (l1_0.length : Int)))) = false) (t329 t332 : List S66) (A130 : dual_Pairs_1.f k l0_0 = some t329) (A140 : dual_Pairs_1.f k l1_0 = some t332) (hx : t329.length = l0_0.length) (hy : t332.length = l1_0.length) (L0 : List (Nat × Nat)) (hrow : BP.rowL (shareV t329 t332) (BP.tabAt l1_0.length (BP.tabI l0_0.length l1_0.length (shareV t329 t332) l0_0.length)) l0_0.length l1_0.length k 0 0 = some L0) :
  Calls Try.prog 16 #[.agg #[.slice A0_0 l0_0.length c0_0], .agg #[.slice A1_0 l1_0.length c1_0]] w fun e w' => ∃ v0_ v1_ : Value, e = .returned (.tuple #[v0_, v1_]) ∧ Kd.R k47 47 w' w.heap.size (fun _ => True) v0_ (L0.map fun x => ⟨(x.1 : Int), (x.2 : Int)⟩) ∧ EV v1_ none ∧ Below w.heap.size w w' := by
 have hu25 := Try.underlying25
 have hu61 := Try.underlying61
 have hu27 := Try.underlying27
 have hu58 := Try.underlying58
 have HR0_0 := Aside0.mk hr0_0
 have HC0_0 := Aside0.mk hc0_0
 clear hr0_0 hc0_0
 have HR1_0 := Aside0.mk hr1_0
 have HC1_0 := Aside0.mk hc1_0
 clear hr1_0 hc1_0
 have HB := Aside0.mk (Below.refl w.heap.size w)
 have H1 := Aside0.mk h1
 have H2 := Aside0.mk h2
 clear h1 h2
 have A13 := Aside0.mk A130
 have A14 := Aside0.mk A140
 clear A130 A140
 have HROW := Aside0.mk hrow
 clear hrow
 have HXY := Aside0.mk (And.intro hx hy)
 clear hx hy
 go_enter Try.func16, Try.ntmps16
 go_wp2_with (first | ((with_reducible refine gate_dst (N := 2) rfl ?_); refine box_event (by rfl) (N := 2) (by rfl) (cs := #[.slice A0_0 l0_0.length c0_0]) (t := 25) (by first | (go_simp; done) | (go_simp; rfl)) ?_; intro gb325 hg w15 hbox hb; obtain ⟨hb_, hw_⟩ := box_facts (lA HB.out) hg hb; replace HB := Aside0.mk (hb_); have BK325 := Aside0.mk (hbox); have GW325 := Aside0.mk (hw_); have GE325 := Aside0.mk (hw_); clear hb hbox hg hb_ hw_) | ((with_reducible refine gate_dst (N := 3) rfl ?_); refine box_event (by rfl) (N := 3) (by rfl) (cs := #[.slice A1_0 l1_0.length c1_0]) (t := 25) (by first | (go_simp; done) | (go_simp; rfl)) ?_; intro gb326 hg w16 hbox hb; obtain ⟨hb_, hw_⟩ := box_facts (by repeat (first | (with_reducible first | exact HB.out | apply l1 | apply l2 | apply l3 | refine below_set ?_ GE325.out) | exact HB.out)) hg hb; replace HB := Aside0.mk (hb_); have BK326 := Aside0.mk (hbox); have GW326 := Aside0.mk (hw_); have GE326 := Aside0.mk (hw_); have NB325_326 := Aside0.mk ((nL hg BK325.out)); have NB326_325 := Aside0.mk ((nG hg BK325.out)); replace BK325 := Aside0.mk (bB BK325.out hb); clear hb hbox hg hb_ hw_; have CK1 : _ = some (Value.slice A0_0 l0_0.length c0_0) := (blk_cell BK325.out 0).trans rfl; have CK2 : _ = some (Value.slice A1_0 l1_0.length c1_0) := (blk_cell BK326.out 0).trans rfl))
 have hBr : (w16.alloc (Obj.cells #[Value.slice A0_0 l0_0.length c0_0, Value.slice A1_0 l1_0.length c1_0] 25)).heap[w16.heap.size]? = some (.cells #[Value.slice A0_0 l0_0.length c0_0, Value.slice A1_0 l1_0.length c1_0] 25 (0, 0)) := blk_new _ _
 have hB1 := blk_alloc BK325.out (Obj.cells #[Value.slice A0_0 l0_0.length c0_0, Value.slice A1_0 l1_0.length c1_0] 25)
 have hB2 := blk_alloc BK326.out (Obj.cells #[Value.slice A0_0 l0_0.length c0_0, Value.slice A1_0 l1_0.length c1_0] 25)
 have hBB : Below w.heap.size w (w16.alloc (Obj.cells #[Value.slice A0_0 l0_0.length c0_0, Value.slice A1_0 l1_0.length c1_0] 25)) := below_alloc HB.out _
 generalize w16.alloc (Obj.cells #[Value.slice A0_0 l0_0.length c0_0, Value.slice A1_0 l1_0.length c1_0] 25) = wq6 at hBr hB1 hB2 hBB ⊢
 have P0 := Aside0.mk (And.intro hBr (And.intro hB1 (And.intro hB2 hBB)))
 clear hBr hB1 hB2 hBB CK1 CK2 HB BK325 BK326
 generalize w16.heap.size = rr at P0 ⊢
 go_loopg [35] 2 (fun kx v wr => ∃ i : Nat, v = .int .i64 (i : Int) ∧ i + kx = 2 ∧ Aside0 (wr.heap[rr]? = some (.cells #[Value.slice A0_0 l0_0.length c0_0, Value.slice A1_0 l1_0.length c1_0] 25 (0, 0)) ∧ wr.heap[gb325]? = some (.cells #[Value.slice A0_0 l0_0.length c0_0] 25 (0, 0)) ∧ wr.heap[gb326]? = some (.cells #[Value.slice A1_0 l1_0.length c1_0] 25 (0, 0)) ∧ Below w.heap.size w wr))
 case atStart => exact ⟨0, rfl, rfl, P0⟩
 case round =>
  clear P0
  obtain ⟨i, rfl, hik, PR⟩ := hrel
  have hcase : i = 0 ∨ i = 1 ∨ i = 2 := by omega
  rcases hcase with rfl | rfl | rfl
  ·have ck : _ = some (Value.slice A0_0 l0_0.length c0_0) := (blk_cell PR.out.1 0).trans rfl
   go_wp2_with (first | (go_at_call 18; refine (cue_CheckDoc.calls k A0_0 c0_0 l0_0 none _ (Kd.C_below HR0_0.out (below_alloc PR.out.2.2.2 _)) HC0_0.out H1.out).mono ?_; rintro e w8 ⟨v0, rfl, hE, hB8⟩; obtain rfl := EV_none hE; have hB9 : Below wr.heap.size wr w8 := (below_alloc (Below.refl _ wr) _).trans (hB8.mono (by simp)); clear hB8 hE ck))
   go_roundg 1
   case measure => omega
   case rel => exact ⟨1, by first | rfl | go_num, by omega, ⟨blk_below PR.out.1 hB9, blk_below PR.out.2.1 hB9, blk_below PR.out.2.2.1 hB9, below_step PR.out.2.2.2 hB9⟩⟩
  ·have ck : _ = some (Value.slice A1_0 l1_0.length c1_0) := (blk_cell PR.out.1 1).trans rfl
   go_wp2_with (first | (go_at_call 18; refine (cue_CheckDoc.calls k A1_0 c1_0 l1_0 none _ (Kd.C_below HR1_0.out (below_alloc PR.out.2.2.2 _)) HC1_0.out H2.out).mono ?_; rintro e w8 ⟨v0, rfl, hE, hB8⟩; obtain rfl := EV_none hE; have hB9 : Below wr.heap.size wr w8 := (below_alloc (Below.refl _ wr) _).trans (hB8.mono (by simp)); clear hB8 hE ck))
   go_roundg 0
   case measure => omega
   case rel => exact ⟨2, by first | rfl | go_num, by omega, ⟨blk_below PR.out.1 hB9, blk_below PR.out.2.1 hB9, blk_below PR.out.2.2.1 hB9, below_step PR.out.2.2.2 hB9⟩⟩
  ·go_wp2
   have BK325 := Aside0.mk PR.out.2.1
   have BK326 := Aside0.mk PR.out.2.2.1
   have HB := Aside0.mk PR.out.2.2.2
   clear PR hik H1 H2
   replace BK325 := Aside0.mk (blk_drew BK325.out)
   replace BK326 := Aside0.mk (blk_drew BK326.out)
   replace HB := Aside0.mk (below_drew1 HB.out)
   refine start_ (n := 9) (S := fun w' => w'.cell? ⟨gb325, 0, none⟩ = some (.slice A0_0 l0_0.length c0_0) ∧ w'.cell? ⟨gb326, 0, none⟩ = some (.slice A1_0 l1_0.length c1_0)) (ds := []) #[false, false, false, false, false, false, false, false, false] (by kernel_rfl) rfl rfl ⟨(blk_cell BK325.out 0).trans rfl, (blk_cell BK326.out 0).trans rfl⟩ (fun hHeld => ?_); refine with_tabW dual_Pairs.tab8 dual_Pairs.bits8 (fun HT_ HW_ => ?_)
   generalize wr.drew = w17 at BK325 BK326 HB hHeld ⊢
   refine sched [(0, some 45), (3, some 48), (1, some 46), (2, some 47), (4, some 49), (5, some 50)] ?_
   iterate 6 first
    |(refine pureS (v := ?_) (a' := ?_) rfl rfl (any_of HT_.out (by kernel_rfl)) (fun _ _ _ h => h) (Or.inl ⟨by rfl, ?_⟩) ?_ ?_
      rotate_left
      ·intro w'
       go_simp
       with_reducible rfl
      rotate_left
      ·simp only [Act.put, List.setIfInBounds_toArray, List.set_cons_zero, List.set_cons_succ, i64_w, i32_w]
       rfl)
    |(refine takeS (v := ?_) (a' := ?_) rfl rfl (take_ofW HT_.out HW_.out (by kernel_rfl)) (fun _ _ _ h => h) (Or.inl ⟨by rfl, ?_⟩) hHeld ?_ ?_
      rotate_left
      ·rintro w' ⟨s0, s1⟩
       go_simp
       with_reducible rfl
      rotate_left
      ·simp only [Act.put, List.setIfInBounds_toArray, List.set_cons_zero, List.set_cons_succ, i64_w, i32_w]
       rfl)
   refine unsched ?_
   refine one_ (i := 6) (N := some 10) #[true, true, true, true, true, true, true, false, false] rfl rfl (one_of HT_.out (by kernel_rfl)) (by decide) (fun K hK => ?_)
   refine box_step (by rfl) (N := 10) (by rfl) (cs := #[.int .i64 0]) (t := 3) (by first | (go_simp; done) | (go_simp; rfl)) ?_
   intro gb327 hg w18 hbox hb
   obtain ⟨hb_, hw_⟩ := box_facts (by repeat (first | (with_reducible first | exact HB.out | apply l1 | apply l2 | apply l3 | refine below_set ?_ GE325.out | refine below_set ?_ GE326.out) | exact HB.out)) hg hb
   replace HB := Aside0.mk (hb_)
   have BK327 := Aside0.mk (hbox)
   have GW327 := Aside0.mk (hw_)
   have GE327 := Aside0.mk (hw_)
   have NB325_327 := Aside0.mk ((nL hg BK325.out))
   have NB327_325 := Aside0.mk ((nG hg BK325.out))
   replace BK325 := Aside0.mk (bB BK325.out hb)
   have NB326_327 := Aside0.mk ((nL hg BK326.out))
   have NB327_326 := Aside0.mk ((nG hg BK326.out))
   replace BK326 := Aside0.mk (bB BK326.out hb)
   clear hb hbox hg hb_ hw_
   refine hK.out _ _ ⟨(blk_cell BK325.out 0).trans rfl, (blk_cell BK326.out 0).trans rfl⟩ (fun hHeld => ?_)
   clear hK K
   refine norm_ (a' := ?_) ?_ ?_
   rotate_left
   ·show Act.put _ (some 10) _ = _
    simp only [Act.put, List.setIfInBounds_toArray, List.set_cons_zero, List.set_cons_succ, i64_w, i32_w]
    rfl
   refine pure_ (i := 7) (N := some 9) (v := ?_) (a' := ?_) #[true, true, true, true, true, true, true, true, false] rfl rfl (any_of HT_.out (by kernel_rfl)) (fun _ _ _ h => h) (Or.inl ⟨by rfl, ?_⟩) ?_ ?_
   rotate_left
   ·intro w'
    go_simp
    with_reducible rfl
   rotate_left
   ·simp only [Act.put, List.setIfInBounds_toArray, List.set_cons_zero, List.set_cons_succ, i64_w, i32_w]
    rfl
   refine one_ (i := 8) (N := none) #[true, true, true, true, true, true, true, true, true] rfl rfl (one_of HT_.out (by kernel_rfl)) (by decide) (fun K hK => ?_)
   have hs19 : w18.cell? ⟨gb327, 0, none⟩ = some (.int .i64 0) := (blk_cell BK327.out 0).trans rfl
   have hfs19 := blk_frozen BK327.out 0
   have hns19_0 := NB325_327.out
   have hns19_1 := NB326_327.out
   have hms19_0 := NB327_325.out
   have hms19_1 := NB327_326.out
   refine skip_ (w1 := ?_) (by rfl) rfl ?_ ?_
   rotate_left
   ·go_simp
    rfl
   refine hK.out _ _ ⟨((cell_far (p := ⟨gb327, _, none⟩) NB325_327.out _).trans (hHeld.1)), ((cell_far (p := ⟨gb327, _, none⟩) NB326_327.out _).trans (hHeld.2))⟩ (fun hHeld => ?_)
   clear hK K
   refine done_ (done_of HT_.out (by kernel_rfl)) ?_
   have hnb20 := NB327_325.out
   have hnc20 := NB325_327.out
   have hnb21 := NB327_326.out
   have hnc21 := NB326_327.out
   obtain ⟨hcz22_0, hfz22_0⟩ := blk_cells1 BK327.out
   try go_wp2
   have n0_ : Aside0 ((w18.setCell ⟨gb327, 0, none⟩ (.int .i64 (l1_0.length : Int))).heap[gb325]? = some (.cells #[.slice A0_0 l0_0.length c0_0] 25 (0, 0))) := ⟨by (with_reducible repeat (first | apply b1 | apply b2 | apply b3)); refine blk_far ?_ NB325_327.out _; (with_reducible repeat (first | apply b1 | apply b2 | apply b3)); exact BK325.out⟩
   have n1_ : Aside0 ((w18.setCell ⟨gb327, 0, none⟩ (.int .i64 (l1_0.length : Int))).heap[gb326]? = some (.cells #[.slice A1_0 l1_0.length c1_0] 25 (0, 0))) := ⟨by (with_reducible repeat (first | apply b1 | apply b2 | apply b3)); refine blk_far ?_ NB326_327.out _; (with_reducible repeat (first | apply b1 | apply b2 | apply b3)); exact BK326.out⟩
   have n2_ : Aside0 ((w18.setCell ⟨gb327, 0, none⟩ (.int .i64 (l1_0.length : Int))).heap[gb327]? = some (.cells #[.int .i64 (l1_0.length : Int)] 3 (0, 0))) := ⟨by (with_reducible repeat (first | apply b1 | apply b2 | apply b3)); refine blk_put (cs := #[.int .i64 0]) ?_ 0 _ rfl; (with_reducible repeat (first | apply b1 | apply b2 | apply b3)); exact BK327.out⟩
   have n3_ : Aside0 (Below w.heap.size w (w18.setCell ⟨gb327, 0, none⟩ (.int .i64 (l1_0.length : Int)))) := ⟨by repeat (first | (with_reducible first | exact HB.out | apply l1 | apply l2 | apply l3 | refine below_set ?_ GE325.out | refine below_set ?_ GE326.out | refine below_set ?_ GE327.out) | exact HB.out)⟩
   (try clear BK325)
   (try clear BK326)
   (try clear BK327)
   (try clear HB)
   generalize (w18.setCell ⟨gb327, 0, none⟩ (.int .i64 (l1_0.length : Int))) = w23 at n0_ n1_ n2_ n3_ ⊢
   have BK325 := n0_
   have BK326 := n1_
   have BK327 := n2_
   have HB := n3_
   clear n0_ n1_ n2_ n3_
   replace BK325 := Aside0.mk (blk_drew BK325.out)
   replace BK326 := Aside0.mk (blk_drew BK326.out)
   replace BK327 := Aside0.mk (blk_drew BK327.out)
   replace HB := Aside0.mk (below_drew1 HB.out)
   refine start_ (n := 10) (S := fun w' => w'.cell? ⟨gb325, 0, none⟩ = some (.slice A0_0 l0_0.length c0_0) ∧ w'.cell? ⟨gb326, 0, none⟩ = some (.slice A1_0 l1_0.length c1_0)) (ds := []) #[false, false, false, false, false, false, false, false, false, false] (by kernel_rfl) rfl rfl ⟨(blk_cell BK325.out 0).trans rfl, (blk_cell BK326.out 0).trans rfl⟩ (fun hHeld => ?_); refine with_tabW dual_Pairs.tab12 dual_Pairs.bits12 (fun HT_ HW_ => ?_)
   generalize w23.drew = w24 at BK325 BK326 BK327 HB hHeld ⊢
   refine sched [(0, some 58), (3, some 61), (1, some 59), (4, some 62)] ?_
   iterate 4 first
    |(refine pureS (v := ?_) (a' := ?_) rfl rfl (any_of HT_.out (by kernel_rfl)) (fun _ _ _ h => h) (Or.inl ⟨by rfl, ?_⟩) ?_ ?_
      rotate_left
      ·intro w'
       go_simp
       with_reducible rfl
      rotate_left
      ·simp only [Act.put, List.setIfInBounds_toArray, List.set_cons_zero, List.set_cons_succ, i64_w, i32_w]
       rfl)
    |(refine takeS (v := ?_) (a' := ?_) rfl rfl (take_ofW HT_.out HW_.out (by kernel_rfl)) (fun _ _ _ h => h) (Or.inl ⟨by rfl, ?_⟩) hHeld ?_ ?_
      rotate_left
      ·rintro w' ⟨s0, s1⟩
       go_simp
       with_reducible rfl
      rotate_left
      ·simp only [Act.put, List.setIfInBounds_toArray, List.set_cons_zero, List.set_cons_succ, i64_w, i32_w]
       rfl)
   refine unsched ?_
   refine join_ (σ := Value × Value × Nat × Nat) 2 #[true, true, true, true, true, true, true, true, false, false] (fun s_ => [(60, s_.1), (63, s_.2.1), (12, .pointer (some ⟨s_.2.2.1, 0, none⟩)), (13, .pointer (some ⟨s_.2.2.2, 0, none⟩))]) (fun s_ w' => (w'.cell? ⟨gb325, 0, none⟩ = some (.slice A0_0 l0_0.length c0_0) ∧ w'.cell? ⟨gb326, 0, none⟩ = some (.slice A1_0 l1_0.length c1_0)) ∧ (Kd.R k66 66 w' w.heap.size (fun k_ => some k_ ≠ (s_.2.1 : Value).ownBlock) s_.1 t329) ∧ (Kd.R k66 66 w' w.heap.size (fun k_ => some k_ ≠ (s_.1 : Value).ownBlock) s_.2.1 t332) ∧ (w'.heap[gb325]? = some (.cells #[.slice A0_0 l0_0.length c0_0] 25 (0, 0))) ∧ (w'.heap[gb326]? = some (.cells #[.slice A1_0 l1_0.length c1_0] 25 (0, 0))) ∧ (w'.heap[gb327]? = some (.cells #[.int .i64 (l1_0.length : Int)] 3 (0, 0))) ∧ (w'.heap[s_.2.2.1]? = some (.cells #[.slice none 0 0] 64 (0, 0))) ∧ (w'.heap[s_.2.2.2]? = some (.cells #[.slice none 0 0] 64 (0, 0))) ∧ (w.heap.size ≤ s_.2.2.1) ∧ (w.heap.size ≤ s_.2.2.1) ∧ (gb325 ≠ s_.2.2.1) ∧ (s_.2.2.1 ≠ gb325) ∧ (gb326 ≠ s_.2.2.1) ∧ (s_.2.2.1 ≠ gb326) ∧ (gb327 ≠ s_.2.2.1) ∧ (s_.2.2.1 ≠ gb327) ∧ (s_.2.2.2 ≠ s_.2.2.1) ∧ (s_.2.2.1 ≠ s_.2.2.2) ∧ (w.heap.size ≤ s_.2.2.2) ∧ (w.heap.size ≤ s_.2.2.2) ∧ (gb325 ≠ s_.2.2.2) ∧ (s_.2.2.2 ≠ gb325) ∧ (gb326 ≠ s_.2.2.2) ∧ (s_.2.2.2 ≠ gb326) ∧ (gb327 ≠ s_.2.2.2) ∧ (s_.2.2.2 ≠ gb327) ∧ (Below w.heap.size w w')) ?_ ?_
   rotate_left
   ·intro hJ2_5_6_7
    refine join_ (σ := Value × Value × Nat) 3 #[true, true, true, true, true, true, true, false, false, false] (fun s_ => [(60, s_.1), (63, s_.2.1), (12, .pointer (some ⟨s_.2.2, 0, none⟩))]) (fun s_ w' => (w'.cell? ⟨gb325, 0, none⟩ = some (.slice A0_0 l0_0.length c0_0) ∧ w'.cell? ⟨gb326, 0, none⟩ = some (.slice A1_0 l1_0.length c1_0)) ∧ (Kd.R k66 66 w' w.heap.size (fun k_ => some k_ ≠ (s_.2.1 : Value).ownBlock) s_.1 t329) ∧ (Kd.R k66 66 w' w.heap.size (fun k_ => some k_ ≠ (s_.1 : Value).ownBlock) s_.2.1 t332) ∧ (w'.heap[gb325]? = some (.cells #[.slice A0_0 l0_0.length c0_0] 25 (0, 0))) ∧ (w'.heap[gb326]? = some (.cells #[.slice A1_0 l1_0.length c1_0] 25 (0, 0))) ∧ (w'.heap[gb327]? = some (.cells #[.int .i64 (l1_0.length : Int)] 3 (0, 0))) ∧ (w'.heap[s_.2.2]? = some (.cells #[.slice none 0 0] 64 (0, 0))) ∧ (w.heap.size ≤ s_.2.2) ∧ (w.heap.size ≤ s_.2.2) ∧ (gb325 ≠ s_.2.2) ∧ (s_.2.2 ≠ gb325) ∧ (gb326 ≠ s_.2.2) ∧ (s_.2.2 ≠ gb326) ∧ (gb327 ≠ s_.2.2) ∧ (s_.2.2 ≠ gb327) ∧ (Below w.heap.size w w')) ?_ ?_
    rotate_left
    ·intro hJ2_5_6
     refine join_ (σ := Value × Value × Nat) 3 #[true, true, true, true, true, true, false, true, false, false] (fun s_ => [(60, s_.1), (63, s_.2.1), (13, .pointer (some ⟨s_.2.2, 0, none⟩))]) (fun s_ w' => (w'.cell? ⟨gb325, 0, none⟩ = some (.slice A0_0 l0_0.length c0_0) ∧ w'.cell? ⟨gb326, 0, none⟩ = some (.slice A1_0 l1_0.length c1_0)) ∧ (Kd.R k66 66 w' w.heap.size (fun k_ => some k_ ≠ (s_.2.1 : Value).ownBlock) s_.1 t329) ∧ (Kd.R k66 66 w' w.heap.size (fun k_ => some k_ ≠ (s_.1 : Value).ownBlock) s_.2.1 t332) ∧ (w'.heap[gb325]? = some (.cells #[.slice A0_0 l0_0.length c0_0] 25 (0, 0))) ∧ (w'.heap[gb326]? = some (.cells #[.slice A1_0 l1_0.length c1_0] 25 (0, 0))) ∧ (w'.heap[gb327]? = some (.cells #[.int .i64 (l1_0.length : Int)] 3 (0, 0))) ∧ (w'.heap[s_.2.2]? = some (.cells #[.slice none 0 0] 64 (0, 0))) ∧ (w.heap.size ≤ s_.2.2) ∧ (w.heap.size ≤ s_.2.2) ∧ (gb325 ≠ s_.2.2) ∧ (s_.2.2 ≠ gb325) ∧ (gb326 ≠ s_.2.2) ∧ (s_.2.2 ≠ gb326) ∧ (gb327 ≠ s_.2.2) ∧ (s_.2.2 ≠ gb327) ∧ (Below w.heap.size w w')) ?_ ?_
     rotate_left
     ·intro hJ2_5_7
      refine join_ (σ := Value × Nat × Nat) 3 #[true, true, true, true, true, false, true, true, false, false] (fun s_ => [(60, s_.1), (12, .pointer (some ⟨s_.2.1, 0, none⟩)), (13, .pointer (some ⟨s_.2.2, 0, none⟩))]) (fun s_ w' => (w'.cell? ⟨gb325, 0, none⟩ = some (.slice A0_0 l0_0.length c0_0) ∧ w'.cell? ⟨gb326, 0, none⟩ = some (.slice A1_0 l1_0.length c1_0)) ∧ (Kd.R k66 66 w' w.heap.size (fun _ => True) s_.1 t329) ∧ (w'.heap[gb325]? = some (.cells #[.slice A0_0 l0_0.length c0_0] 25 (0, 0))) ∧ (w'.heap[gb326]? = some (.cells #[.slice A1_0 l1_0.length c1_0] 25 (0, 0))) ∧ (w'.heap[gb327]? = some (.cells #[.int .i64 (l1_0.length : Int)] 3 (0, 0))) ∧ (w'.heap[s_.2.1]? = some (.cells #[.slice none 0 0] 64 (0, 0))) ∧ (w'.heap[s_.2.2]? = some (.cells #[.slice none 0 0] 64 (0, 0))) ∧ (w.heap.size ≤ s_.2.1) ∧ (w.heap.size ≤ s_.2.1) ∧ (gb325 ≠ s_.2.1) ∧ (s_.2.1 ≠ gb325) ∧ (gb326 ≠ s_.2.1) ∧ (s_.2.1 ≠ gb326) ∧ (gb327 ≠ s_.2.1) ∧ (s_.2.1 ≠ gb327) ∧ (s_.2.2 ≠ s_.2.1) ∧ (s_.2.1 ≠ s_.2.2) ∧ (w.heap.size ≤ s_.2.2) ∧ (w.heap.size ≤ s_.2.2) ∧ (gb325 ≠ s_.2.2) ∧ (s_.2.2 ≠ gb325) ∧ (gb326 ≠ s_.2.2) ∧ (s_.2.2 ≠ gb326) ∧ (gb327 ≠ s_.2.2) ∧ (s_.2.2 ≠ gb327) ∧ (Below w.heap.size w w')) ?_ ?_
      rotate_left
      ·intro hJ2_6_7
       refine join_ (σ := Value × Value) 4 #[true, true, true, true, true, true, false, false, false, false] (fun s_ => [(60, s_.1), (63, s_.2)]) (fun s_ w' => (w'.cell? ⟨gb325, 0, none⟩ = some (.slice A0_0 l0_0.length c0_0) ∧ w'.cell? ⟨gb326, 0, none⟩ = some (.slice A1_0 l1_0.length c1_0)) ∧ (Kd.R k66 66 w' w.heap.size (fun k_ => some k_ ≠ (s_.2 : Value).ownBlock) s_.1 t329) ∧ (Kd.R k66 66 w' w.heap.size (fun k_ => some k_ ≠ (s_.1 : Value).ownBlock) s_.2 t332) ∧ (w'.heap[gb325]? = some (.cells #[.slice A0_0 l0_0.length c0_0] 25 (0, 0))) ∧ (w'.heap[gb326]? = some (.cells #[.slice A1_0 l1_0.length c1_0] 25 (0, 0))) ∧ (w'.heap[gb327]? = some (.cells #[.int .i64 (l1_0.length : Int)] 3 (0, 0))) ∧ (Below w.heap.size w w')) ?_ ?_
       rotate_left
       ·intro hJ2_5
        refine join_ (σ := Value × Nat) 4 #[true, true, true, true, true, false, true, false, false, false] (fun s_ => [(60, s_.1), (12, .pointer (some ⟨s_.2, 0, none⟩))]) (fun s_ w' => (w'.cell? ⟨gb325, 0, none⟩ = some (.slice A0_0 l0_0.length c0_0) ∧ w'.cell? ⟨gb326, 0, none⟩ = some (.slice A1_0 l1_0.length c1_0)) ∧ (Kd.R k66 66 w' w.heap.size (fun _ => True) s_.1 t329) ∧ (w'.heap[gb325]? = some (.cells #[.slice A0_0 l0_0.length c0_0] 25 (0, 0))) ∧ (w'.heap[gb326]? = some (.cells #[.slice A1_0 l1_0.length c1_0] 25 (0, 0))) ∧ (w'.heap[gb327]? = some (.cells #[.int .i64 (l1_0.length : Int)] 3 (0, 0))) ∧ (w'.heap[s_.2]? = some (.cells #[.slice none 0 0] 64 (0, 0))) ∧ (w.heap.size ≤ s_.2) ∧ (w.heap.size ≤ s_.2) ∧ (gb325 ≠ s_.2) ∧ (s_.2 ≠ gb325) ∧ (gb326 ≠ s_.2) ∧ (s_.2 ≠ gb326) ∧ (gb327 ≠ s_.2) ∧ (s_.2 ≠ gb327) ∧ (Below w.heap.size w w')) ?_ ?_
        rotate_left
        ·intro hJ2_6
         refine join_ (σ := Value × Nat) 4 #[true, true, true, true, true, false, false, true, false, false] (fun s_ => [(60, s_.1), (13, .pointer (some ⟨s_.2, 0, none⟩))]) (fun s_ w' => (w'.cell? ⟨gb325, 0, none⟩ = some (.slice A0_0 l0_0.length c0_0) ∧ w'.cell? ⟨gb326, 0, none⟩ = some (.slice A1_0 l1_0.length c1_0)) ∧ (Kd.R k66 66 w' w.heap.size (fun _ => True) s_.1 t329) ∧ (w'.heap[gb325]? = some (.cells #[.slice A0_0 l0_0.length c0_0] 25 (0, 0))) ∧ (w'.heap[gb326]? = some (.cells #[.slice A1_0 l1_0.length c1_0] 25 (0, 0))) ∧ (w'.heap[gb327]? = some (.cells #[.int .i64 (l1_0.length : Int)] 3 (0, 0))) ∧ (w'.heap[s_.2]? = some (.cells #[.slice none 0 0] 64 (0, 0))) ∧ (w.heap.size ≤ s_.2) ∧ (w.heap.size ≤ s_.2) ∧ (gb325 ≠ s_.2) ∧ (s_.2 ≠ gb325) ∧ (gb326 ≠ s_.2) ∧ (s_.2 ≠ gb326) ∧ (gb327 ≠ s_.2) ∧ (s_.2 ≠ gb327) ∧ (Below w.heap.size w w')) ?_ ?_
         rotate_left
         ·intro hJ2_7
          refine join_ (σ := Nat × Nat) 4 #[true, true, false, true, true, false, true, true, false, false] (fun s_ => [(12, .pointer (some ⟨s_.1, 0, none⟩)), (13, .pointer (some ⟨s_.2, 0, none⟩))]) (fun s_ w' => (w'.cell? ⟨gb325, 0, none⟩ = some (.slice A0_0 l0_0.length c0_0) ∧ w'.cell? ⟨gb326, 0, none⟩ = some (.slice A1_0 l1_0.length c1_0)) ∧ (w'.heap[gb325]? = some (.cells #[.slice A0_0 l0_0.length c0_0] 25 (0, 0))) ∧ (w'.heap[gb326]? = some (.cells #[.slice A1_0 l1_0.length c1_0] 25 (0, 0))) ∧ (w'.heap[gb327]? = some (.cells #[.int .i64 (l1_0.length : Int)] 3 (0, 0))) ∧ (w'.heap[s_.1]? = some (.cells #[.slice none 0 0] 64 (0, 0))) ∧ (w'.heap[s_.2]? = some (.cells #[.slice none 0 0] 64 (0, 0))) ∧ (w.heap.size ≤ s_.1) ∧ (w.heap.size ≤ s_.1) ∧ (gb325 ≠ s_.1) ∧ (s_.1 ≠ gb325) ∧ (gb326 ≠ s_.1) ∧ (s_.1 ≠ gb326) ∧ (gb327 ≠ s_.1) ∧ (s_.1 ≠ gb327) ∧ (s_.2 ≠ s_.1) ∧ (s_.1 ≠ s_.2) ∧ (w.heap.size ≤ s_.2) ∧ (w.heap.size ≤ s_.2) ∧ (gb325 ≠ s_.2) ∧ (s_.2 ≠ gb325) ∧ (gb326 ≠ s_.2) ∧ (s_.2 ≠ gb326) ∧ (gb327 ≠ s_.2) ∧ (s_.2 ≠ gb327) ∧ (Below w.heap.size w w')) ?_ ?_
          rotate_left
          ·intro hJ6_7
           refine join_ (σ := Value) 5 #[true, true, true, true, true, false, false, false, false, false] (fun s_ => [(60, s_)]) (fun s_ w' => (w'.cell? ⟨gb325, 0, none⟩ = some (.slice A0_0 l0_0.length c0_0) ∧ w'.cell? ⟨gb326, 0, none⟩ = some (.slice A1_0 l1_0.length c1_0)) ∧ (Kd.R k66 66 w' w.heap.size (fun _ => True) s_ t329) ∧ (w'.heap[gb325]? = some (.cells #[.slice A0_0 l0_0.length c0_0] 25 (0, 0))) ∧ (w'.heap[gb326]? = some (.cells #[.slice A1_0 l1_0.length c1_0] 25 (0, 0))) ∧ (w'.heap[gb327]? = some (.cells #[.int .i64 (l1_0.length : Int)] 3 (0, 0))) ∧ (Below w.heap.size w w')) ?_ ?_
           rotate_left
           ·intro hJ2
            refine join_ (σ := Nat) 5 #[true, true, false, true, true, false, true, false, false, false] (fun s_ => [(12, .pointer (some ⟨s_, 0, none⟩))]) (fun s_ w' => (w'.cell? ⟨gb325, 0, none⟩ = some (.slice A0_0 l0_0.length c0_0) ∧ w'.cell? ⟨gb326, 0, none⟩ = some (.slice A1_0 l1_0.length c1_0)) ∧ (w'.heap[gb325]? = some (.cells #[.slice A0_0 l0_0.length c0_0] 25 (0, 0))) ∧ (w'.heap[gb326]? = some (.cells #[.slice A1_0 l1_0.length c1_0] 25 (0, 0))) ∧ (w'.heap[gb327]? = some (.cells #[.int .i64 (l1_0.length : Int)] 3 (0, 0))) ∧ (w'.heap[s_]? = some (.cells #[.slice none 0 0] 64 (0, 0))) ∧ (w.heap.size ≤ s_) ∧ (w.heap.size ≤ s_) ∧ (gb325 ≠ s_) ∧ (s_ ≠ gb325) ∧ (gb326 ≠ s_) ∧ (s_ ≠ gb326) ∧ (gb327 ≠ s_) ∧ (s_ ≠ gb327) ∧ (Below w.heap.size w w')) ?_ ?_
            rotate_left
            ·intro hJ6
             refine join_ (σ := Nat) 5 #[true, true, false, true, true, false, false, true, false, false] (fun s_ => [(13, .pointer (some ⟨s_, 0, none⟩))]) (fun s_ w' => (w'.cell? ⟨gb325, 0, none⟩ = some (.slice A0_0 l0_0.length c0_0) ∧ w'.cell? ⟨gb326, 0, none⟩ = some (.slice A1_0 l1_0.length c1_0)) ∧ (w'.heap[gb325]? = some (.cells #[.slice A0_0 l0_0.length c0_0] 25 (0, 0))) ∧ (w'.heap[gb326]? = some (.cells #[.slice A1_0 l1_0.length c1_0] 25 (0, 0))) ∧ (w'.heap[gb327]? = some (.cells #[.int .i64 (l1_0.length : Int)] 3 (0, 0))) ∧ (w'.heap[s_]? = some (.cells #[.slice none 0 0] 64 (0, 0))) ∧ (w.heap.size ≤ s_) ∧ (w.heap.size ≤ s_) ∧ (gb325 ≠ s_) ∧ (s_ ≠ gb325) ∧ (gb326 ≠ s_) ∧ (s_ ≠ gb326) ∧ (gb327 ≠ s_) ∧ (s_ ≠ gb327) ∧ (Below w.heap.size w w')) ?_ ?_
             rotate_left
             ·intro hJ7
              refine three_ (i := 2) (j := 6) (k := 7) (Ni := some 60) (Nj := some 12) (Nk := some 13) #[true, true, true, true, true, false, false, false, false, false] #[true, true, false, true, true, false, true, false, false, false] #[true, true, false, true, true, false, false, true, false, false] rfl rfl rfl rfl rfl rfl (three_of HT_.out (by kernel_rfl)) (by decide) (by decide) (by decide) (fun K hK => ?_) (fun K hK => ?_) (fun K hK => ?_)
              ·skip
               refine goesD_ Try.func30 (by kernel_rfl) rfl #[.agg #[.slice A0_0 l0_0.length c0_0]] #[.agg #[.slice A0_0 l0_0.length c0_0]] (by rfl) rfl rfl (by first | rfl | (go_simp; rfl)) (by (try simp only [List.map_toArray, List.map_cons, List.map_nil]); first | done | rfl | (simp only [List.length_drop, List.length_take]; rfl)) (by first | rfl | simp) ?_
               with_reducible refine (dual_Pairs_1.calls k _ _ l0_0 t329 _ ?side1 ?side2 A13.out).mono ?_
               (case side1 => repeat (first | exact (Kd.C_below HR0_0.out HB.out) | (with_reducible refine Kd.C_alloc ?_ _) | (with_reducible refine Kd.C_drewN ?_ _) | (with_reducible refine Kd.C_drew ?_)))
               (case side2 => exact HC0_0.out)
               rintro e w25 ⟨v330, rfl, ho0, hb⟩
               refine ⟨_, rfl, ?_⟩
               have HO331 := Aside0.mk (Kd.R_lower ho0 (below_size (by repeat (first | (with_reducible first | exact HB.out | apply l1 | apply l2 | apply l3 | refine below_set ?_ GE325.out | refine below_set ?_ GE326.out | refine below_set ?_ GE327.out) | exact HB.out))))
               replace BK325 := Aside0.mk (bB BK325.out hb)
               replace BK326 := Aside0.mk (bB BK326.out hb)
               replace BK327 := Aside0.mk (bB BK327.out hb)
               replace HB := Aside0.mk (below_step (by repeat (first | (with_reducible first | exact HB.out | apply l1 | apply l2 | apply l3 | refine below_set ?_ GE325.out | refine below_set ?_ GE326.out | refine below_set ?_ GE327.out) | exact HB.out)) hb)
               (try clear hb)
               (try clear hb2)
               (try clear hk)
               (try clear hi)
               (try clear ho0)
               refine hK.out _ _ ⟨(blk_cell BK325.out 0).trans rfl, (blk_cell BK326.out 0).trans rfl⟩ (fun hHeld => ?_)
               clear hK K
               refine norm_ (a' := ?_) ?_ ?_
               rotate_left
               ·show Act.put _ (some 60) _ = _
                simp only [Act.put, List.setIfInBounds_toArray, List.set_cons_zero, List.set_cons_succ, i64_w, i32_w]
                rfl
               exact norm_ (by first | (simp only [putAll, Act.put, List.setIfInBounds_toArray, List.set_cons_zero, List.set_cons_succ]; done) | (simp only [putAll, Act.put, List.setIfInBounds_toArray, List.set_cons_zero, List.set_cons_succ]; rfl)) (hJ2 (v330) _ ⟨hHeld, (rA HO331.out), (bA BK325.out), (bA BK326.out), (bA BK327.out), (by repeat (first | (with_reducible first | exact HB.out | apply l1 | apply l2 | apply l3 | refine below_set ?_ GE325.out | refine below_set ?_ GE326.out | refine below_set ?_ GE327.out) | exact HB.out))⟩)
              ·skip
               refine box_step (by rfl) (N := 12) (by rfl) (cs := #[.slice none 0 0]) (t := 64) (by first | (go_simp; done) | (go_simp; rfl)) ?_
               intro gb335 hg w25 hbox hb
               obtain ⟨hb_, hw_⟩ := box_facts (by repeat (first | (with_reducible first | exact HB.out | apply l1 | apply l2 | apply l3 | refine below_set ?_ GE325.out | refine below_set ?_ GE326.out | refine below_set ?_ GE327.out) | exact HB.out)) hg hb
               replace HB := Aside0.mk (hb_)
               have BK335 := Aside0.mk (hbox)
               have GW335 := Aside0.mk (hw_)
               have GE335 := Aside0.mk (hw_)
               have NB325_335 := Aside0.mk ((nL hg BK325.out))
               have NB335_325 := Aside0.mk ((nG hg BK325.out))
               replace BK325 := Aside0.mk (bB BK325.out hb)
               have NB326_335 := Aside0.mk ((nL hg BK326.out))
               have NB335_326 := Aside0.mk ((nG hg BK326.out))
               replace BK326 := Aside0.mk (bB BK326.out hb)
               have NB327_335 := Aside0.mk ((nL hg BK327.out))
               have NB335_327 := Aside0.mk ((nG hg BK327.out))
               replace BK327 := Aside0.mk (bB BK327.out hb)
               clear hb hbox hg hb_ hw_
               refine hK.out _ _ ⟨(blk_cell BK325.out 0).trans rfl, (blk_cell BK326.out 0).trans rfl⟩ (fun hHeld => ?_)
               clear hK K
               refine norm_ (a' := ?_) ?_ ?_
               rotate_left
               ·show Act.put _ (some 12) _ = _
                simp only [Act.put, List.setIfInBounds_toArray, List.set_cons_zero, List.set_cons_succ, i64_w, i32_w]
                rfl
               exact norm_ (by first | (simp only [putAll, Act.put, List.setIfInBounds_toArray, List.set_cons_zero, List.set_cons_succ]; done) | (simp only [putAll, Act.put, List.setIfInBounds_toArray, List.set_cons_zero, List.set_cons_succ]; rfl)) (hJ6 (gb335) _ ⟨hHeld, (bA BK325.out), (bA BK326.out), (bA BK327.out), (bA BK335.out), GW335.out, GE335.out, NB325_335.out, NB335_325.out, NB326_335.out, NB335_326.out, NB327_335.out, NB335_327.out, (by repeat (first | (with_reducible first | exact HB.out | apply l1 | apply l2 | apply l3 | refine below_set ?_ GE325.out | refine below_set ?_ GE326.out | refine below_set ?_ GE327.out | refine below_set ?_ GE335.out) | exact HB.out))⟩)
              ·skip
               refine box_step (by rfl) (N := 13) (by rfl) (cs := #[.slice none 0 0]) (t := 64) (by first | (go_simp; done) | (go_simp; rfl)) ?_
               intro gb336 hg w25 hbox hb
               obtain ⟨hb_, hw_⟩ := box_facts (by repeat (first | (with_reducible first | exact HB.out | apply l1 | apply l2 | apply l3 | refine below_set ?_ GE325.out | refine below_set ?_ GE326.out | refine below_set ?_ GE327.out) | exact HB.out)) hg hb
               replace HB := Aside0.mk (hb_)
               have BK336 := Aside0.mk (hbox)
               have GW336 := Aside0.mk (hw_)
               have GE336 := Aside0.mk (hw_)
               have NB325_336 := Aside0.mk ((nL hg BK325.out))
               have NB336_325 := Aside0.mk ((nG hg BK325.out))
               replace BK325 := Aside0.mk (bB BK325.out hb)
               have NB326_336 := Aside0.mk ((nL hg BK326.out))
               have NB336_326 := Aside0.mk ((nG hg BK326.out))
               replace BK326 := Aside0.mk (bB BK326.out hb)
               have NB327_336 := Aside0.mk ((nL hg BK327.out))
               have NB336_327 := Aside0.mk ((nG hg BK327.out))
               replace BK327 := Aside0.mk (bB BK327.out hb)
               clear hb hbox hg hb_ hw_
               refine hK.out _ _ ⟨(blk_cell BK325.out 0).trans rfl, (blk_cell BK326.out 0).trans rfl⟩ (fun hHeld => ?_)
               clear hK K
               refine norm_ (a' := ?_) ?_ ?_
               rotate_left
               ·show Act.put _ (some 13) _ = _
                simp only [Act.put, List.setIfInBounds_toArray, List.set_cons_zero, List.set_cons_succ, i64_w, i32_w]
                rfl
               exact norm_ (by first | (simp only [putAll, Act.put, List.setIfInBounds_toArray, List.set_cons_zero, List.set_cons_succ]; done) | (simp only [putAll, Act.put, List.setIfInBounds_toArray, List.set_cons_zero, List.set_cons_succ]; rfl)) (hJ7 (gb336) _ ⟨hHeld, (bA BK325.out), (bA BK326.out), (bA BK327.out), (bA BK336.out), GW336.out, GE336.out, NB325_336.out, NB336_325.out, NB326_336.out, NB336_326.out, NB327_336.out, NB336_327.out, (by repeat (first | (with_reducible first | exact HB.out | apply l1 | apply l2 | apply l3 | refine below_set ?_ GE325.out | refine below_set ?_ GE326.out | refine below_set ?_ GE327.out | refine below_set ?_ GE336.out) | exact HB.out))⟩)
             ·skip
              rintro gb336 w26 ⟨hS_, h0_, h1_, h2_, h3_, h4_, h5_, h6_, h7_, h8_, h9_, h10_, h11_, h12_⟩
              replace BK325 : Aside0 (w26.heap[gb325]? = some (.cells #[.slice A0_0 l0_0.length c0_0] 25 (0, 0))) := ⟨h0_⟩
              replace BK326 : Aside0 (w26.heap[gb326]? = some (.cells #[.slice A1_0 l1_0.length c1_0] 25 (0, 0))) := ⟨h1_⟩
              replace BK327 : Aside0 (w26.heap[gb327]? = some (.cells #[.int .i64 (l1_0.length : Int)] 3 (0, 0))) := ⟨h2_⟩
              have BK336 : Aside0 (w26.heap[gb336]? = some (.cells #[.slice none 0 0] 64 (0, 0))) := ⟨h3_⟩
              have GW336 : Aside0 (w.heap.size ≤ gb336) := ⟨h4_⟩
              have GE336 : Aside0 (w.heap.size ≤ gb336) := ⟨h5_⟩
              have NB325_336 : Aside0 (gb325 ≠ gb336) := ⟨h6_⟩
              have NB336_325 : Aside0 (gb336 ≠ gb325) := ⟨h7_⟩
              have NB326_336 : Aside0 (gb326 ≠ gb336) := ⟨h8_⟩
              have NB336_326 : Aside0 (gb336 ≠ gb326) := ⟨h9_⟩
              have NB327_336 : Aside0 (gb327 ≠ gb336) := ⟨h10_⟩
              have NB336_327 : Aside0 (gb336 ≠ gb327) := ⟨h11_⟩
              replace HB : Aside0 (Below w.heap.size w w26) := ⟨h12_⟩
              clear h0_ h1_ h2_ h3_ h4_ h5_ h6_ h7_ h8_ h9_ h10_ h11_ h12_
              have hHeld : w26.cell? ⟨gb325, 0, none⟩ = some (.slice A0_0 l0_0.length c0_0) ∧ w26.cell? ⟨gb326, 0, none⟩ = some (.slice A1_0 l1_0.length c1_0) := hS_
              refine norm_ (a' := ?_) ?_ ?_
              rotate_left
              ·simp only [putAll, Act.put, List.setIfInBounds_toArray, List.set_cons_zero, List.set_cons_succ]
               rfl
              refine two_ (i := 2) (j := 6) (Ni := some 60) (Nj := some 12) #[true, true, true, true, true, false, false, true, false, false] #[true, true, false, true, true, false, true, true, false, false] rfl rfl rfl rfl (two_of HT_.out (by kernel_rfl)) (by decide) (by decide) (fun K hK => ?_) (fun K hK => ?_)
              ·skip
               refine goesD_ Try.func30 (by kernel_rfl) rfl #[.agg #[.slice A0_0 l0_0.length c0_0]] #[.agg #[.slice A0_0 l0_0.length c0_0]] (by rfl) rfl rfl (by first | rfl | (go_simp; rfl)) (by (try simp only [List.map_toArray, List.map_cons, List.map_nil]); first | done | rfl | (simp only [List.length_drop, List.length_take]; rfl)) (by first | rfl | simp) ?_
               with_reducible refine (dual_Pairs_1.calls k _ _ l0_0 t329 _ ?side1 ?side2 A13.out).mono ?_
               (case side1 => repeat (first | exact (Kd.C_below HR0_0.out HB.out) | (with_reducible refine Kd.C_alloc ?_ _) | (with_reducible refine Kd.C_drewN ?_ _) | (with_reducible refine Kd.C_drew ?_)))
               (case side2 => exact HC0_0.out)
               rintro e w27 ⟨v330, rfl, ho0, hb⟩
               refine ⟨_, rfl, ?_⟩
               have HO331 := Aside0.mk (Kd.R_lower ho0 (below_size (by repeat (first | (with_reducible first | exact HB.out | apply l1 | apply l2 | apply l3 | refine below_set ?_ GE325.out | refine below_set ?_ GE326.out | refine below_set ?_ GE327.out | refine below_set ?_ GE336.out) | exact HB.out))))
               replace BK325 := Aside0.mk (bB BK325.out hb)
               replace BK326 := Aside0.mk (bB BK326.out hb)
               replace BK327 := Aside0.mk (bB BK327.out hb)
               replace BK336 := Aside0.mk (bB BK336.out hb)
               replace HB := Aside0.mk (below_step (by repeat (first | (with_reducible first | exact HB.out | apply l1 | apply l2 | apply l3 | refine below_set ?_ GE325.out | refine below_set ?_ GE326.out | refine below_set ?_ GE327.out | refine below_set ?_ GE336.out) | exact HB.out)) hb)
               (try clear hb)
               (try clear hb2)
               (try clear hk)
               (try clear hi)
               (try clear ho0)
               refine hK.out _ _ ⟨(blk_cell BK325.out 0).trans rfl, (blk_cell BK326.out 0).trans rfl⟩ (fun hHeld => ?_)
               clear hK K
               refine norm_ (a' := ?_) ?_ ?_
               rotate_left
               ·show Act.put _ (some 60) _ = _
                simp only [Act.put, List.setIfInBounds_toArray, List.set_cons_zero, List.set_cons_succ, i64_w, i32_w]
                rfl
               exact norm_ (by first | (simp only [putAll, Act.put, List.setIfInBounds_toArray, List.set_cons_zero, List.set_cons_succ]; done) | (simp only [putAll, Act.put, List.setIfInBounds_toArray, List.set_cons_zero, List.set_cons_succ]; rfl)) (hJ2_7 (v330, gb336) _ ⟨hHeld, (rA HO331.out), (bA BK325.out), (bA BK326.out), (bA BK327.out), (bA BK336.out), GW336.out, GE336.out, NB325_336.out, NB336_325.out, NB326_336.out, NB336_326.out, NB327_336.out, NB336_327.out, (by repeat (first | (with_reducible first | exact HB.out | apply l1 | apply l2 | apply l3 | refine below_set ?_ GE325.out | refine below_set ?_ GE326.out | refine below_set ?_ GE327.out | refine below_set ?_ GE336.out) | exact HB.out))⟩)
              ·skip
               refine box_step (by rfl) (N := 12) (by rfl) (cs := #[.slice none 0 0]) (t := 64) (by first | (go_simp; done) | (go_simp; rfl)) ?_
               intro gb335 hg w27 hbox hb
               obtain ⟨hb_, hw_⟩ := box_facts (by repeat (first | (with_reducible first | exact HB.out | apply l1 | apply l2 | apply l3 | refine below_set ?_ GE325.out | refine below_set ?_ GE326.out | refine below_set ?_ GE327.out | refine below_set ?_ GE336.out) | exact HB.out)) hg hb
               replace HB := Aside0.mk (hb_)
               have BK335 := Aside0.mk (hbox)
               have GW335 := Aside0.mk (hw_)
               have GE335 := Aside0.mk (hw_)
               have NB325_335 := Aside0.mk ((nL hg BK325.out))
               have NB335_325 := Aside0.mk ((nG hg BK325.out))
               replace BK325 := Aside0.mk (bB BK325.out hb)
               have NB326_335 := Aside0.mk ((nL hg BK326.out))
               have NB335_326 := Aside0.mk ((nG hg BK326.out))
               replace BK326 := Aside0.mk (bB BK326.out hb)
               have NB327_335 := Aside0.mk ((nL hg BK327.out))
               have NB335_327 := Aside0.mk ((nG hg BK327.out))
               replace BK327 := Aside0.mk (bB BK327.out hb)
               have NB336_335 := Aside0.mk ((nL hg BK336.out))
               have NB335_336 := Aside0.mk ((nG hg BK336.out))
               replace BK336 := Aside0.mk (bB BK336.out hb)
               clear hb hbox hg hb_ hw_
               refine hK.out _ _ ⟨(blk_cell BK325.out 0).trans rfl, (blk_cell BK326.out 0).trans rfl⟩ (fun hHeld => ?_)
               clear hK K
               refine norm_ (a' := ?_) ?_ ?_
               rotate_left
               ·show Act.put _ (some 12) _ = _
                simp only [Act.put, List.setIfInBounds_toArray, List.set_cons_zero, List.set_cons_succ, i64_w, i32_w]
                rfl
               exact norm_ (by first | (simp only [putAll, Act.put, List.setIfInBounds_toArray, List.set_cons_zero, List.set_cons_succ]; done) | (simp only [putAll, Act.put, List.setIfInBounds_toArray, List.set_cons_zero, List.set_cons_succ]; rfl)) (hJ6_7 (gb335, gb336) _ ⟨hHeld, (bA BK325.out), (bA BK326.out), (bA BK327.out), (bA BK335.out), (bA BK336.out), GW335.out, GE335.out, NB325_335.out, NB335_325.out, NB326_335.out, NB335_326.out, NB327_335.out, NB335_327.out, NB336_335.out, NB335_336.out, GW336.out, GE336.out, NB325_336.out, NB336_325.out, NB326_336.out, NB336_326.out, NB327_336.out, NB336_327.out, (by repeat (first | (with_reducible first | exact HB.out | apply l1 | apply l2 | apply l3 | refine below_set ?_ GE325.out | refine below_set ?_ GE326.out | refine below_set ?_ GE327.out | refine below_set ?_ GE336.out | refine below_set ?_ GE335.out) | exact HB.out))⟩)
            ·skip
             rintro gb335 w26 ⟨hS_, h0_, h1_, h2_, h3_, h4_, h5_, h6_, h7_, h8_, h9_, h10_, h11_, h12_⟩
             replace BK325 : Aside0 (w26.heap[gb325]? = some (.cells #[.slice A0_0 l0_0.length c0_0] 25 (0, 0))) := ⟨h0_⟩
             replace BK326 : Aside0 (w26.heap[gb326]? = some (.cells #[.slice A1_0 l1_0.length c1_0] 25 (0, 0))) := ⟨h1_⟩
             replace BK327 : Aside0 (w26.heap[gb327]? = some (.cells #[.int .i64 (l1_0.length : Int)] 3 (0, 0))) := ⟨h2_⟩
             have BK335 : Aside0 (w26.heap[gb335]? = some (.cells #[.slice none 0 0] 64 (0, 0))) := ⟨h3_⟩
             have GW335 : Aside0 (w.heap.size ≤ gb335) := ⟨h4_⟩
             have GE335 : Aside0 (w.heap.size ≤ gb335) := ⟨h5_⟩
             have NB325_335 : Aside0 (gb325 ≠ gb335) := ⟨h6_⟩
             have NB335_325 : Aside0 (gb335 ≠ gb325) := ⟨h7_⟩
             have NB326_335 : Aside0 (gb326 ≠ gb335) := ⟨h8_⟩
             have NB335_326 : Aside0 (gb335 ≠ gb326) := ⟨h9_⟩
             have NB327_335 : Aside0 (gb327 ≠ gb335) := ⟨h10_⟩
             have NB335_327 : Aside0 (gb335 ≠ gb327) := ⟨h11_⟩
             replace HB : Aside0 (Below w.heap.size w w26) := ⟨h12_⟩
             clear h0_ h1_ h2_ h3_ h4_ h5_ h6_ h7_ h8_ h9_ h10_ h11_ h12_
             have hHeld : w26.cell? ⟨gb325, 0, none⟩ = some (.slice A0_0 l0_0.length c0_0) ∧ w26.cell? ⟨gb326, 0, none⟩ = some (.slice A1_0 l1_0.length c1_0) := hS_
             refine norm_ (a' := ?_) ?_ ?_
             rotate_left
             ·simp only [putAll, Act.put, List.setIfInBounds_toArray, List.set_cons_zero, List.set_cons_succ]
              rfl
             refine two_ (i := 2) (j := 7) (Ni := some 60) (Nj := some 13) #[true, true, true, true, true, false, true, false, false, false] #[true, true, false, true, true, false, true, true, false, false] rfl rfl rfl rfl (two_of HT_.out (by kernel_rfl)) (by decide) (by decide) (fun K hK => ?_) (fun K hK => ?_)
             ·skip
              refine goesD_ Try.func30 (by kernel_rfl) rfl #[.agg #[.slice A0_0 l0_0.length c0_0]] #[.agg #[.slice A0_0 l0_0.length c0_0]] (by rfl) rfl rfl (by first | rfl | (go_simp; rfl)) (by (try simp only [List.map_toArray, List.map_cons, List.map_nil]); first | done | rfl | (simp only [List.length_drop, List.length_take]; rfl)) (by first | rfl | simp) ?_
              with_reducible refine (dual_Pairs_1.calls k _ _ l0_0 t329 _ ?side1 ?side2 A13.out).mono ?_
              (case side1 => repeat (first | exact (Kd.C_below HR0_0.out HB.out) | (with_reducible refine Kd.C_alloc ?_ _) | (with_reducible refine Kd.C_drewN ?_ _) | (with_reducible refine Kd.C_drew ?_)))
              (case side2 => exact HC0_0.out)
              rintro e w27 ⟨v330, rfl, ho0, hb⟩
              refine ⟨_, rfl, ?_⟩
              have HO331 := Aside0.mk (Kd.R_lower ho0 (below_size (by repeat (first | (with_reducible first | exact HB.out | apply l1 | apply l2 | apply l3 | refine below_set ?_ GE325.out | refine below_set ?_ GE326.out | refine below_set ?_ GE327.out | refine below_set ?_ GE335.out) | exact HB.out))))
              replace BK325 := Aside0.mk (bB BK325.out hb)
              replace BK326 := Aside0.mk (bB BK326.out hb)
              replace BK327 := Aside0.mk (bB BK327.out hb)
              replace BK335 := Aside0.mk (bB BK335.out hb)
              replace HB := Aside0.mk (below_step (by repeat (first | (with_reducible first | exact HB.out | apply l1 | apply l2 | apply l3 | refine below_set ?_ GE325.out | refine below_set ?_ GE326.out | refine below_set ?_ GE327.out | refine below_set ?_ GE335.out) | exact HB.out)) hb)
              (try clear hb)
              (try clear hb2)
              (try clear hk)
              (try clear hi)
              (try clear ho0)
              refine hK.out _ _ ⟨(blk_cell BK325.out 0).trans rfl, (blk_cell BK326.out 0).trans rfl⟩ (fun hHeld => ?_)
              clear hK K
              refine norm_ (a' := ?_) ?_ ?_
              rotate_left
              ·show Act.put _ (some 60) _ = _
               simp only [Act.put, List.setIfInBounds_toArray, List.set_cons_zero, List.set_cons_succ, i64_w, i32_w]
               rfl
              exact norm_ (by first | (simp only [putAll, Act.put, List.setIfInBounds_toArray, List.set_cons_zero, List.set_cons_succ]; done) | (simp only [putAll, Act.put, List.setIfInBounds_toArray, List.set_cons_zero, List.set_cons_succ]; rfl)) (hJ2_6 (v330, gb335) _ ⟨hHeld, (rA HO331.out), (bA BK325.out), (bA BK326.out), (bA BK327.out), (bA BK335.out), GW335.out, GE335.out, NB325_335.out, NB335_325.out, NB326_335.out, NB335_326.out, NB327_335.out, NB335_327.out, (by repeat (first | (with_reducible first | exact HB.out | apply l1 | apply l2 | apply l3 | refine below_set ?_ GE325.out | refine below_set ?_ GE326.out | refine below_set ?_ GE327.out | refine below_set ?_ GE335.out) | exact HB.out))⟩)
             ·skip
              refine box_step (by rfl) (N := 13) (by rfl) (cs := #[.slice none 0 0]) (t := 64) (by first | (go_simp; done) | (go_simp; rfl)) ?_
              intro gb336 hg w27 hbox hb
              obtain ⟨hb_, hw_⟩ := box_facts (by repeat (first | (with_reducible first | exact HB.out | apply l1 | apply l2 | apply l3 | refine below_set ?_ GE325.out | refine below_set ?_ GE326.out | refine below_set ?_ GE327.out | refine below_set ?_ GE335.out) | exact HB.out)) hg hb
              replace HB := Aside0.mk (hb_)
              have BK336 := Aside0.mk (hbox)
              have GW336 := Aside0.mk (hw_)
              have GE336 := Aside0.mk (hw_)
              have NB325_336 := Aside0.mk ((nL hg BK325.out))
              have NB336_325 := Aside0.mk ((nG hg BK325.out))
              replace BK325 := Aside0.mk (bB BK325.out hb)
              have NB326_336 := Aside0.mk ((nL hg BK326.out))
              have NB336_326 := Aside0.mk ((nG hg BK326.out))
              replace BK326 := Aside0.mk (bB BK326.out hb)
              have NB327_336 := Aside0.mk ((nL hg BK327.out))
              have NB336_327 := Aside0.mk ((nG hg BK327.out))
              replace BK327 := Aside0.mk (bB BK327.out hb)
              have NB335_336 := Aside0.mk ((nL hg BK335.out))
              have NB336_335 := Aside0.mk ((nG hg BK335.out))
              replace BK335 := Aside0.mk (bB BK335.out hb)
              clear hb hbox hg hb_ hw_
              refine hK.out _ _ ⟨(blk_cell BK325.out 0).trans rfl, (blk_cell BK326.out 0).trans rfl⟩ (fun hHeld => ?_)
              clear hK K
              refine norm_ (a' := ?_) ?_ ?_
              rotate_left
              ·show Act.put _ (some 13) _ = _
               simp only [Act.put, List.setIfInBounds_toArray, List.set_cons_zero, List.set_cons_succ, i64_w, i32_w]
               rfl
              exact norm_ (by first | (simp only [putAll, Act.put, List.setIfInBounds_toArray, List.set_cons_zero, List.set_cons_succ]; done) | (simp only [putAll, Act.put, List.setIfInBounds_toArray, List.set_cons_zero, List.set_cons_succ]; rfl)) (hJ6_7 (gb335, gb336) _ ⟨hHeld, (bA BK325.out), (bA BK326.out), (bA BK327.out), (bA BK335.out), (bA BK336.out), GW335.out, GE335.out, NB325_335.out, NB335_325.out, NB326_335.out, NB335_326.out, NB327_335.out, NB335_327.out, NB336_335.out, NB335_336.out, GW336.out, GE336.out, NB325_336.out, NB336_325.out, NB326_336.out, NB336_326.out, NB327_336.out, NB336_327.out, (by repeat (first | (with_reducible first | exact HB.out | apply l1 | apply l2 | apply l3 | refine below_set ?_ GE325.out | refine below_set ?_ GE326.out | refine below_set ?_ GE327.out | refine below_set ?_ GE335.out | refine below_set ?_ GE336.out) | exact HB.out))⟩)
           ·skip
            rintro v330 w26 ⟨hS_, h0_, h1_, h2_, h3_, h4_⟩
            have HO331 : Aside0 (Kd.R k66 66 w26 w.heap.size (fun _ => True) v330 t329) := ⟨h0_⟩
            replace BK325 : Aside0 (w26.heap[gb325]? = some (.cells #[.slice A0_0 l0_0.length c0_0] 25 (0, 0))) := ⟨h1_⟩
            replace BK326 : Aside0 (w26.heap[gb326]? = some (.cells #[.slice A1_0 l1_0.length c1_0] 25 (0, 0))) := ⟨h2_⟩
            replace BK327 : Aside0 (w26.heap[gb327]? = some (.cells #[.int .i64 (l1_0.length : Int)] 3 (0, 0))) := ⟨h3_⟩
            replace HB : Aside0 (Below w.heap.size w w26) := ⟨h4_⟩
            clear h0_ h1_ h2_ h3_ h4_
            have hHeld : w26.cell? ⟨gb325, 0, none⟩ = some (.slice A0_0 l0_0.length c0_0) ∧ w26.cell? ⟨gb326, 0, none⟩ = some (.slice A1_0 l1_0.length c1_0) := hS_
            refine norm_ (a' := ?_) ?_ ?_
            rotate_left
            ·simp only [putAll, Act.put, List.setIfInBounds_toArray, List.set_cons_zero, List.set_cons_succ]
             rfl
            refine three_ (i := 5) (j := 6) (k := 7) (Ni := some 63) (Nj := some 12) (Nk := some 13) #[true, true, true, true, true, true, false, false, false, false] #[true, true, true, true, true, false, true, false, false, false] #[true, true, true, true, true, false, false, true, false, false] rfl rfl rfl rfl rfl rfl (three_of HT_.out (by kernel_rfl)) (by decide) (by decide) (by decide) (fun K hK => ?_) (fun K hK => ?_) (fun K hK => ?_)
            ·skip
             refine goesD_ Try.func30 (by kernel_rfl) rfl #[.agg #[.slice A1_0 l1_0.length c1_0]] #[.agg #[.slice A1_0 l1_0.length c1_0]] (by rfl) rfl rfl (by first | rfl | (go_simp; rfl)) (by (try simp only [List.map_toArray, List.map_cons, List.map_nil]); first | done | rfl | (simp only [List.length_drop, List.length_take]; rfl)) (by first | rfl | simp) ?_
             with_reducible refine (dual_Pairs_1.calls k _ _ l1_0 t332 _ ?side1 ?side2 A14.out).mono ?_
             (case side1 => repeat (first | exact (Kd.C_below HR1_0.out HB.out) | (with_reducible refine Kd.C_alloc ?_ _) | (with_reducible refine Kd.C_drewN ?_ _) | (with_reducible refine Kd.C_drew ?_)))
             (case side2 => exact HC1_0.out)
             rintro e w27 ⟨v333, rfl, ho0, hb⟩
             refine ⟨_, rfl, ?_⟩
             have HO334 := Aside0.mk (Kd.R_lower (Kd.R_new' ho0 (Kd.R_lt (rA HO331.out))) (below_size (by repeat (first | (with_reducible first | exact HB.out | apply l1 | apply l2 | apply l3 | refine below_set ?_ GE325.out | refine below_set ?_ GE326.out | refine below_set ?_ GE327.out) | exact HB.out))))
             replace HO331 := Aside0.mk (Kd.R_elder' (rA HO331.out) (Kd.R_base ho0) hb)
             replace BK325 := Aside0.mk (bB BK325.out hb)
             replace BK326 := Aside0.mk (bB BK326.out hb)
             replace BK327 := Aside0.mk (bB BK327.out hb)
             replace HB := Aside0.mk (below_step (by repeat (first | (with_reducible first | exact HB.out | apply l1 | apply l2 | apply l3 | refine below_set ?_ GE325.out | refine below_set ?_ GE326.out | refine below_set ?_ GE327.out) | exact HB.out)) hb)
             (try clear hb)
             (try clear hb2)
             (try clear hk)
             (try clear hi)
             (try clear ho0)
             refine hK.out _ _ ⟨(blk_cell BK325.out 0).trans rfl, (blk_cell BK326.out 0).trans rfl⟩ (fun hHeld => ?_)
             clear hK K
             refine norm_ (a' := ?_) ?_ ?_
             rotate_left
             ·show Act.put _ (some 63) _ = _
              simp only [Act.put, List.setIfInBounds_toArray, List.set_cons_zero, List.set_cons_succ, i64_w, i32_w]
              rfl
             exact norm_ (by first | (simp only [putAll, Act.put, List.setIfInBounds_toArray, List.set_cons_zero, List.set_cons_succ]; done) | (simp only [putAll, Act.put, List.setIfInBounds_toArray, List.set_cons_zero, List.set_cons_succ]; rfl)) (hJ2_5 (v330, v333) _ ⟨hHeld, (by (with_reducible repeat (first | apply Kd.R_alloc | apply Kd.R_drewN | apply Kd.R_drew)); exact Kd.R_mono HO331.out (fun _ hk => hk.2)), (by (with_reducible repeat (first | apply Kd.R_alloc | apply Kd.R_drewN | apply Kd.R_drew)); exact Kd.R_mono HO334.out (fun _ hk => hk.2)), (bA BK325.out), (bA BK326.out), (bA BK327.out), (by repeat (first | (with_reducible first | exact HB.out | apply l1 | apply l2 | apply l3 | refine below_set ?_ GE325.out | refine below_set ?_ GE326.out | refine below_set ?_ GE327.out) | exact HB.out))⟩)
            ·skip
             refine box_step (by rfl) (N := 12) (by rfl) (cs := #[.slice none 0 0]) (t := 64) (by first | (go_simp; done) | (go_simp; rfl)) ?_
             intro gb335 hg w27 hbox hb
             obtain ⟨hb_, hw_⟩ := box_facts (by repeat (first | (with_reducible first | exact HB.out | apply l1 | apply l2 | apply l3 | refine below_set ?_ GE325.out | refine below_set ?_ GE326.out | refine below_set ?_ GE327.out) | exact HB.out)) hg hb
             replace HO331 := Aside0.mk (Kd.R_below (rA HO331.out) hb)
             replace HB := Aside0.mk (hb_)
             have BK335 := Aside0.mk (hbox)
             have GW335 := Aside0.mk (hw_)
             have GE335 := Aside0.mk (hw_)
             have NB325_335 := Aside0.mk ((nL hg BK325.out))
             have NB335_325 := Aside0.mk ((nG hg BK325.out))
             replace BK325 := Aside0.mk (bB BK325.out hb)
             have NB326_335 := Aside0.mk ((nL hg BK326.out))
             have NB335_326 := Aside0.mk ((nG hg BK326.out))
             replace BK326 := Aside0.mk (bB BK326.out hb)
             have NB327_335 := Aside0.mk ((nL hg BK327.out))
             have NB335_327 := Aside0.mk ((nG hg BK327.out))
             replace BK327 := Aside0.mk (bB BK327.out hb)
             clear hb hbox hg hb_ hw_
             refine hK.out _ _ ⟨(blk_cell BK325.out 0).trans rfl, (blk_cell BK326.out 0).trans rfl⟩ (fun hHeld => ?_)
             clear hK K
             refine norm_ (a' := ?_) ?_ ?_
             rotate_left
             ·show Act.put _ (some 12) _ = _
              simp only [Act.put, List.setIfInBounds_toArray, List.set_cons_zero, List.set_cons_succ, i64_w, i32_w]
              rfl
             exact norm_ (by first | (simp only [putAll, Act.put, List.setIfInBounds_toArray, List.set_cons_zero, List.set_cons_succ]; done) | (simp only [putAll, Act.put, List.setIfInBounds_toArray, List.set_cons_zero, List.set_cons_succ]; rfl)) (hJ2_6 (v330, gb335) _ ⟨hHeld, (rA HO331.out), (bA BK325.out), (bA BK326.out), (bA BK327.out), (bA BK335.out), GW335.out, GE335.out, NB325_335.out, NB335_325.out, NB326_335.out, NB335_326.out, NB327_335.out, NB335_327.out, (by repeat (first | (with_reducible first | exact HB.out | apply l1 | apply l2 | apply l3 | refine below_set ?_ GE325.out | refine below_set ?_ GE326.out | refine below_set ?_ GE327.out | refine below_set ?_ GE335.out) | exact HB.out))⟩)
            ·skip
             refine box_step (by rfl) (N := 13) (by rfl) (cs := #[.slice none 0 0]) (t := 64) (by first | (go_simp; done) | (go_simp; rfl)) ?_
             intro gb336 hg w27 hbox hb
             obtain ⟨hb_, hw_⟩ := box_facts (by repeat (first | (with_reducible first | exact HB.out | apply l1 | apply l2 | apply l3 | refine below_set ?_ GE325.out | refine below_set ?_ GE326.out | refine below_set ?_ GE327.out) | exact HB.out)) hg hb
             replace HO331 := Aside0.mk (Kd.R_below (rA HO331.out) hb)
             replace HB := Aside0.mk (hb_)
             have BK336 := Aside0.mk (hbox)
             have GW336 := Aside0.mk (hw_)
             have GE336 := Aside0.mk (hw_)
             have NB325_336 := Aside0.mk ((nL hg BK325.out))
             have NB336_325 := Aside0.mk ((nG hg BK325.out))
             replace BK325 := Aside0.mk (bB BK325.out hb)
             have NB326_336 := Aside0.mk ((nL hg BK326.out))
             have NB336_326 := Aside0.mk ((nG hg BK326.out))
             replace BK326 := Aside0.mk (bB BK326.out hb)
             have NB327_336 := Aside0.mk ((nL hg BK327.out))
             have NB336_327 := Aside0.mk ((nG hg BK327.out))
             replace BK327 := Aside0.mk (bB BK327.out hb)
             clear hb hbox hg hb_ hw_
             refine hK.out _ _ ⟨(blk_cell BK325.out 0).trans rfl, (blk_cell BK326.out 0).trans rfl⟩ (fun hHeld => ?_)
             clear hK K
             refine norm_ (a' := ?_) ?_ ?_
             rotate_left
             ·show Act.put _ (some 13) _ = _
              simp only [Act.put, List.setIfInBounds_toArray, List.set_cons_zero, List.set_cons_succ, i64_w, i32_w]
              rfl
             exact norm_ (by first | (simp only [putAll, Act.put, List.setIfInBounds_toArray, List.set_cons_zero, List.set_cons_succ]; done) | (simp only [putAll, Act.put, List.setIfInBounds_toArray, List.set_cons_zero, List.set_cons_succ]; rfl)) (hJ2_7 (v330, gb336) _ ⟨hHeld, (rA HO331.out), (bA BK325.out), (bA BK326.out), (bA BK327.out), (bA BK336.out), GW336.out, GE336.out, NB325_336.out, NB336_325.out, NB326_336.out, NB336_326.out, NB327_336.out, NB336_327.out, (by repeat (first | (with_reducible first | exact HB.out | apply l1 | apply l2 | apply l3 | refine below_set ?_ GE325.out | refine below_set ?_ GE326.out | refine below_set ?_ GE327.out | refine below_set ?_ GE336.out) | exact HB.out))⟩)
          ·skip
           rintro ⟨gb335, gb336⟩ w27 ⟨hS_, h0_, h1_, h2_, h3_, h4_, h5_, h6_, h7_, h8_, h9_, h10_, h11_, h12_, h13_, h14_, h15_, h16_, h17_, h18_, h19_, h20_, h21_, h22_, h23_⟩
           replace BK325 : Aside0 (w27.heap[gb325]? = some (.cells #[.slice A0_0 l0_0.length c0_0] 25 (0, 0))) := ⟨h0_⟩
           replace BK326 : Aside0 (w27.heap[gb326]? = some (.cells #[.slice A1_0 l1_0.length c1_0] 25 (0, 0))) := ⟨h1_⟩
           replace BK327 : Aside0 (w27.heap[gb327]? = some (.cells #[.int .i64 (l1_0.length : Int)] 3 (0, 0))) := ⟨h2_⟩
           have BK335 : Aside0 (w27.heap[gb335]? = some (.cells #[.slice none 0 0] 64 (0, 0))) := ⟨h3_⟩
           have BK336 : Aside0 (w27.heap[gb336]? = some (.cells #[.slice none 0 0] 64 (0, 0))) := ⟨h4_⟩
           have GW335 : Aside0 (w.heap.size ≤ gb335) := ⟨h5_⟩
           have GE335 : Aside0 (w.heap.size ≤ gb335) := ⟨h6_⟩
           have NB325_335 : Aside0 (gb325 ≠ gb335) := ⟨h7_⟩
           have NB335_325 : Aside0 (gb335 ≠ gb325) := ⟨h8_⟩
           have NB326_335 : Aside0 (gb326 ≠ gb335) := ⟨h9_⟩
           have NB335_326 : Aside0 (gb335 ≠ gb326) := ⟨h10_⟩
           have NB327_335 : Aside0 (gb327 ≠ gb335) := ⟨h11_⟩
           have NB335_327 : Aside0 (gb335 ≠ gb327) := ⟨h12_⟩
           have NB336_335 : Aside0 (gb336 ≠ gb335) := ⟨h13_⟩
           have NB335_336 : Aside0 (gb335 ≠ gb336) := ⟨h14_⟩
           have GW336 : Aside0 (w.heap.size ≤ gb336) := ⟨h15_⟩
           have GE336 : Aside0 (w.heap.size ≤ gb336) := ⟨h16_⟩
           have NB325_336 : Aside0 (gb325 ≠ gb336) := ⟨h17_⟩
           have NB336_325 : Aside0 (gb336 ≠ gb325) := ⟨h18_⟩
           have NB326_336 : Aside0 (gb326 ≠ gb336) := ⟨h19_⟩
           have NB336_326 : Aside0 (gb336 ≠ gb326) := ⟨h20_⟩
           have NB327_336 : Aside0 (gb327 ≠ gb336) := ⟨h21_⟩
           have NB336_327 : Aside0 (gb336 ≠ gb327) := ⟨h22_⟩
           replace HB : Aside0 (Below w.heap.size w w27) := ⟨h23_⟩
           clear h0_ h1_ h2_ h3_ h4_ h5_ h6_ h7_ h8_ h9_ h10_ h11_ h12_ h13_ h14_ h15_ h16_ h17_ h18_ h19_ h20_ h21_ h22_ h23_
           have hHeld : w27.cell? ⟨gb325, 0, none⟩ = some (.slice A0_0 l0_0.length c0_0) ∧ w27.cell? ⟨gb326, 0, none⟩ = some (.slice A1_0 l1_0.length c1_0) := hS_
           refine norm_ (a' := ?_) ?_ ?_
           rotate_left
           ·simp only [putAll, Act.put, List.setIfInBounds_toArray, List.set_cons_zero, List.set_cons_succ]
            rfl
           refine one_ (i := 2) (N := some 60) #[true, true, true, true, true, false, true, true, false, false] rfl rfl (one_of HT_.out (by kernel_rfl)) (by decide) (fun K hK => ?_)
           refine goesD_ Try.func30 (by kernel_rfl) rfl #[.agg #[.slice A0_0 l0_0.length c0_0]] #[.agg #[.slice A0_0 l0_0.length c0_0]] (by rfl) rfl rfl (by first | rfl | (go_simp; rfl)) (by (try simp only [List.map_toArray, List.map_cons, List.map_nil]); first | done | rfl | (simp only [List.length_drop, List.length_take]; rfl)) (by first | rfl | simp) ?_
           with_reducible refine (dual_Pairs_1.calls k _ _ l0_0 t329 _ ?side1 ?side2 A13.out).mono ?_
           (case side1 => repeat (first | exact (Kd.C_below HR0_0.out HB.out) | (with_reducible refine Kd.C_alloc ?_ _) | (with_reducible refine Kd.C_drewN ?_ _) | (with_reducible refine Kd.C_drew ?_)))
           (case side2 => exact HC0_0.out)
           rintro e w28 ⟨v330, rfl, ho0, hb⟩
           refine ⟨_, rfl, ?_⟩
           have HO331 := Aside0.mk (Kd.R_lower ho0 (below_size (by repeat (first | (with_reducible first | exact HB.out | apply l1 | apply l2 | apply l3 | refine below_set ?_ GE325.out | refine below_set ?_ GE326.out | refine below_set ?_ GE327.out | refine below_set ?_ GE335.out | refine below_set ?_ GE336.out) | exact HB.out))))
           replace BK325 := Aside0.mk (bB BK325.out hb)
           replace BK326 := Aside0.mk (bB BK326.out hb)
           replace BK327 := Aside0.mk (bB BK327.out hb)
           replace BK335 := Aside0.mk (bB BK335.out hb)
           replace BK336 := Aside0.mk (bB BK336.out hb)
           replace HB := Aside0.mk (below_step (by repeat (first | (with_reducible first | exact HB.out | apply l1 | apply l2 | apply l3 | refine below_set ?_ GE325.out | refine below_set ?_ GE326.out | refine below_set ?_ GE327.out | refine below_set ?_ GE335.out | refine below_set ?_ GE336.out) | exact HB.out)) hb)
           (try clear hb)
           (try clear hb2)
           (try clear hk)
           (try clear hi)
           (try clear ho0)
           refine hK.out _ _ ⟨(blk_cell BK325.out 0).trans rfl, (blk_cell BK326.out 0).trans rfl⟩ (fun hHeld => ?_)
           clear hK K
           refine norm_ (a' := ?_) ?_ ?_
           rotate_left
           ·show Act.put _ (some 60) _ = _
            simp only [Act.put, List.setIfInBounds_toArray, List.set_cons_zero, List.set_cons_succ, i64_w, i32_w]
            rfl
           exact norm_ (by first | (simp only [putAll, Act.put, List.setIfInBounds_toArray, List.set_cons_zero, List.set_cons_succ]; done) | (simp only [putAll, Act.put, List.setIfInBounds_toArray, List.set_cons_zero, List.set_cons_succ]; rfl)) (hJ2_6_7 (v330, gb335, gb336) _ ⟨hHeld, (rA HO331.out), (bA BK325.out), (bA BK326.out), (bA BK327.out), (bA BK335.out), (bA BK336.out), GW335.out, GE335.out, NB325_335.out, NB335_325.out, NB326_335.out, NB335_326.out, NB327_335.out, NB335_327.out, NB336_335.out, NB335_336.out, GW336.out, GE336.out, NB325_336.out, NB336_325.out, NB326_336.out, NB336_326.out, NB327_336.out, NB336_327.out, (by repeat (first | (with_reducible first | exact HB.out | apply l1 | apply l2 | apply l3 | refine below_set ?_ GE325.out | refine below_set ?_ GE326.out | refine below_set ?_ GE327.out | refine below_set ?_ GE335.out | refine below_set ?_ GE336.out) | exact HB.out))⟩)
         ·skip
          rintro ⟨v330, gb336⟩ w27 ⟨hS_, h0_, h1_, h2_, h3_, h4_, h5_, h6_, h7_, h8_, h9_, h10_, h11_, h12_, h13_⟩
          have HO331 : Aside0 (Kd.R k66 66 w27 w.heap.size (fun _ => True) v330 t329) := ⟨h0_⟩
          replace BK325 : Aside0 (w27.heap[gb325]? = some (.cells #[.slice A0_0 l0_0.length c0_0] 25 (0, 0))) := ⟨h1_⟩
          replace BK326 : Aside0 (w27.heap[gb326]? = some (.cells #[.slice A1_0 l1_0.length c1_0] 25 (0, 0))) := ⟨h2_⟩
          replace BK327 : Aside0 (w27.heap[gb327]? = some (.cells #[.int .i64 (l1_0.length : Int)] 3 (0, 0))) := ⟨h3_⟩
          have BK336 : Aside0 (w27.heap[gb336]? = some (.cells #[.slice none 0 0] 64 (0, 0))) := ⟨h4_⟩
          have GW336 : Aside0 (w.heap.size ≤ gb336) := ⟨h5_⟩
          have GE336 : Aside0 (w.heap.size ≤ gb336) := ⟨h6_⟩
          have NB325_336 : Aside0 (gb325 ≠ gb336) := ⟨h7_⟩
          have NB336_325 : Aside0 (gb336 ≠ gb325) := ⟨h8_⟩
          have NB326_336 : Aside0 (gb326 ≠ gb336) := ⟨h9_⟩
          have NB336_326 : Aside0 (gb336 ≠ gb326) := ⟨h10_⟩
          have NB327_336 : Aside0 (gb327 ≠ gb336) := ⟨h11_⟩
          have NB336_327 : Aside0 (gb336 ≠ gb327) := ⟨h12_⟩
          replace HB : Aside0 (Below w.heap.size w w27) := ⟨h13_⟩
          clear h0_ h1_ h2_ h3_ h4_ h5_ h6_ h7_ h8_ h9_ h10_ h11_ h12_ h13_
          have hHeld : w27.cell? ⟨gb325, 0, none⟩ = some (.slice A0_0 l0_0.length c0_0) ∧ w27.cell? ⟨gb326, 0, none⟩ = some (.slice A1_0 l1_0.length c1_0) := hS_
          refine norm_ (a' := ?_) ?_ ?_
          rotate_left
          ·simp only [putAll, Act.put, List.setIfInBounds_toArray, List.set_cons_zero, List.set_cons_succ]
           rfl
          refine two_ (i := 5) (j := 6) (Ni := some 63) (Nj := some 12) #[true, true, true, true, true, true, false, true, false, false] #[true, true, true, true, true, false, true, true, false, false] rfl rfl rfl rfl (two_of HT_.out (by kernel_rfl)) (by decide) (by decide) (fun K hK => ?_) (fun K hK => ?_)
          ·skip
           refine goesD_ Try.func30 (by kernel_rfl) rfl #[.agg #[.slice A1_0 l1_0.length c1_0]] #[.agg #[.slice A1_0 l1_0.length c1_0]] (by rfl) rfl rfl (by first | rfl | (go_simp; rfl)) (by (try simp only [List.map_toArray, List.map_cons, List.map_nil]); first | done | rfl | (simp only [List.length_drop, List.length_take]; rfl)) (by first | rfl | simp) ?_
           with_reducible refine (dual_Pairs_1.calls k _ _ l1_0 t332 _ ?side1 ?side2 A14.out).mono ?_
           (case side1 => repeat (first | exact (Kd.C_below HR1_0.out HB.out) | (with_reducible refine Kd.C_alloc ?_ _) | (with_reducible refine Kd.C_drewN ?_ _) | (with_reducible refine Kd.C_drew ?_)))
           (case side2 => exact HC1_0.out)
           rintro e w28 ⟨v333, rfl, ho0, hb⟩
           refine ⟨_, rfl, ?_⟩
           have HO334 := Aside0.mk (Kd.R_lower (Kd.R_new' ho0 (Kd.R_lt (rA HO331.out))) (below_size (by repeat (first | (with_reducible first | exact HB.out | apply l1 | apply l2 | apply l3 | refine below_set ?_ GE325.out | refine below_set ?_ GE326.out | refine below_set ?_ GE327.out | refine below_set ?_ GE336.out) | exact HB.out))))
           replace HO331 := Aside0.mk (Kd.R_elder' (rA HO331.out) (Kd.R_base ho0) hb)
           replace BK325 := Aside0.mk (bB BK325.out hb)
           replace BK326 := Aside0.mk (bB BK326.out hb)
           replace BK327 := Aside0.mk (bB BK327.out hb)
           replace BK336 := Aside0.mk (bB BK336.out hb)
           replace HB := Aside0.mk (below_step (by repeat (first | (with_reducible first | exact HB.out | apply l1 | apply l2 | apply l3 | refine below_set ?_ GE325.out | refine below_set ?_ GE326.out | refine below_set ?_ GE327.out | refine below_set ?_ GE336.out) | exact HB.out)) hb)
           (try clear hb)
           (try clear hb2)
           (try clear hk)
           (try clear hi)
           (try clear ho0)
           refine hK.out _ _ ⟨(blk_cell BK325.out 0).trans rfl, (blk_cell BK326.out 0).trans rfl⟩ (fun hHeld => ?_)
           clear hK K
           refine norm_ (a' := ?_) ?_ ?_
           rotate_left
           ·show Act.put _ (some 63) _ = _
            simp only [Act.put, List.setIfInBounds_toArray, List.set_cons_zero, List.set_cons_succ, i64_w, i32_w]
            rfl
           exact norm_ (by first | (simp only [putAll, Act.put, List.setIfInBounds_toArray, List.set_cons_zero, List.set_cons_succ]; done) | (simp only [putAll, Act.put, List.setIfInBounds_toArray, List.set_cons_zero, List.set_cons_succ]; rfl)) (hJ2_5_7 (v330, v333, gb336) _ ⟨hHeld, (by (with_reducible repeat (first | apply Kd.R_alloc | apply Kd.R_drewN | apply Kd.R_drew)); exact Kd.R_mono HO331.out (fun _ hk => hk.2)), (by (with_reducible repeat (first | apply Kd.R_alloc | apply Kd.R_drewN | apply Kd.R_drew)); exact Kd.R_mono HO334.out (fun _ hk => hk.2)), (bA BK325.out), (bA BK326.out), (bA BK327.out), (bA BK336.out), GW336.out, GE336.out, NB325_336.out, NB336_325.out, NB326_336.out, NB336_326.out, NB327_336.out, NB336_327.out, (by repeat (first | (with_reducible first | exact HB.out | apply l1 | apply l2 | apply l3 | refine below_set ?_ GE325.out | refine below_set ?_ GE326.out | refine below_set ?_ GE327.out | refine below_set ?_ GE336.out) | exact HB.out))⟩)
          ·skip
           refine box_step (by rfl) (N := 12) (by rfl) (cs := #[.slice none 0 0]) (t := 64) (by first | (go_simp; done) | (go_simp; rfl)) ?_
           intro gb335 hg w28 hbox hb
           obtain ⟨hb_, hw_⟩ := box_facts (by repeat (first | (with_reducible first | exact HB.out | apply l1 | apply l2 | apply l3 | refine below_set ?_ GE325.out | refine below_set ?_ GE326.out | refine below_set ?_ GE327.out | refine below_set ?_ GE336.out) | exact HB.out)) hg hb
           replace HO331 := Aside0.mk (Kd.R_below (rA HO331.out) hb)
           replace HB := Aside0.mk (hb_)
           have BK335 := Aside0.mk (hbox)
           have GW335 := Aside0.mk (hw_)
           have GE335 := Aside0.mk (hw_)
           have NB325_335 := Aside0.mk ((nL hg BK325.out))
           have NB335_325 := Aside0.mk ((nG hg BK325.out))
           replace BK325 := Aside0.mk (bB BK325.out hb)
           have NB326_335 := Aside0.mk ((nL hg BK326.out))
           have NB335_326 := Aside0.mk ((nG hg BK326.out))
           replace BK326 := Aside0.mk (bB BK326.out hb)
           have NB327_335 := Aside0.mk ((nL hg BK327.out))
           have NB335_327 := Aside0.mk ((nG hg BK327.out))
           replace BK327 := Aside0.mk (bB BK327.out hb)
           have NB336_335 := Aside0.mk ((nL hg BK336.out))
           have NB335_336 := Aside0.mk ((nG hg BK336.out))
           replace BK336 := Aside0.mk (bB BK336.out hb)
           clear hb hbox hg hb_ hw_
           refine hK.out _ _ ⟨(blk_cell BK325.out 0).trans rfl, (blk_cell BK326.out 0).trans rfl⟩ (fun hHeld => ?_)
           clear hK K
           refine norm_ (a' := ?_) ?_ ?_
           rotate_left
           ·show Act.put _ (some 12) _ = _
            simp only [Act.put, List.setIfInBounds_toArray, List.set_cons_zero, List.set_cons_succ, i64_w, i32_w]
            rfl
           exact norm_ (by first | (simp only [putAll, Act.put, List.setIfInBounds_toArray, List.set_cons_zero, List.set_cons_succ]; done) | (simp only [putAll, Act.put, List.setIfInBounds_toArray, List.set_cons_zero, List.set_cons_succ]; rfl)) (hJ2_6_7 (v330, gb335, gb336) _ ⟨hHeld, (rA HO331.out), (bA BK325.out), (bA BK326.out), (bA BK327.out), (bA BK335.out), (bA BK336.out), GW335.out, GE335.out, NB325_335.out, NB335_325.out, NB326_335.out, NB335_326.out, NB327_335.out, NB335_327.out, NB336_335.out, NB335_336.out, GW336.out, GE336.out, NB325_336.out, NB336_325.out, NB326_336.out, NB336_326.out, NB327_336.out, NB336_327.out, (by repeat (first | (with_reducible first | exact HB.out | apply l1 | apply l2 | apply l3 | refine below_set ?_ GE325.out | refine below_set ?_ GE326.out | refine below_set ?_ GE327.out | refine below_set ?_ GE336.out | refine below_set ?_ GE335.out) | exact HB.out))⟩)
        ·skip
         rintro ⟨v330, gb335⟩ w27 ⟨hS_, h0_, h1_, h2_, h3_, h4_, h5_, h6_, h7_, h8_, h9_, h10_, h11_, h12_, h13_⟩
         have HO331 : Aside0 (Kd.R k66 66 w27 w.heap.size (fun _ => True) v330 t329) := ⟨h0_⟩
         replace BK325 : Aside0 (w27.heap[gb325]? = some (.cells #[.slice A0_0 l0_0.length c0_0] 25 (0, 0))) := ⟨h1_⟩
         replace BK326 : Aside0 (w27.heap[gb326]? = some (.cells #[.slice A1_0 l1_0.length c1_0] 25 (0, 0))) := ⟨h2_⟩
         replace BK327 : Aside0 (w27.heap[gb327]? = some (.cells #[.int .i64 (l1_0.length : Int)] 3 (0, 0))) := ⟨h3_⟩
         have BK335 : Aside0 (w27.heap[gb335]? = some (.cells #[.slice none 0 0] 64 (0, 0))) := ⟨h4_⟩
         have GW335 : Aside0 (w.heap.size ≤ gb335) := ⟨h5_⟩
         have GE335 : Aside0 (w.heap.size ≤ gb335) := ⟨h6_⟩
         have NB325_335 : Aside0 (gb325 ≠ gb335) := ⟨h7_⟩
         have NB335_325 : Aside0 (gb335 ≠ gb325) := ⟨h8_⟩
         have NB326_335 : Aside0 (gb326 ≠ gb335) := ⟨h9_⟩
         have NB335_326 : Aside0 (gb335 ≠ gb326) := ⟨h10_⟩
         have NB327_335 : Aside0 (gb327 ≠ gb335) := ⟨h11_⟩
         have NB335_327 : Aside0 (gb335 ≠ gb327) := ⟨h12_⟩
         replace HB : Aside0 (Below w.heap.size w w27) := ⟨h13_⟩
         clear h0_ h1_ h2_ h3_ h4_ h5_ h6_ h7_ h8_ h9_ h10_ h11_ h12_ h13_
         have hHeld : w27.cell? ⟨gb325, 0, none⟩ = some (.slice A0_0 l0_0.length c0_0) ∧ w27.cell? ⟨gb326, 0, none⟩ = some (.slice A1_0 l1_0.length c1_0) := hS_
         refine norm_ (a' := ?_) ?_ ?_
         rotate_left
         ·simp only [putAll, Act.put, List.setIfInBounds_toArray, List.set_cons_zero, List.set_cons_succ]
          rfl
         refine two_ (i := 5) (j := 7) (Ni := some 63) (Nj := some 13) #[true, true, true, true, true, true, true, false, false, false] #[true, true, true, true, true, false, true, true, false, false] rfl rfl rfl rfl (two_of HT_.out (by kernel_rfl)) (by decide) (by decide) (fun K hK => ?_) (fun K hK => ?_)
         ·skip
          refine goesD_ Try.func30 (by kernel_rfl) rfl #[.agg #[.slice A1_0 l1_0.length c1_0]] #[.agg #[.slice A1_0 l1_0.length c1_0]] (by rfl) rfl rfl (by first | rfl | (go_simp; rfl)) (by (try simp only [List.map_toArray, List.map_cons, List.map_nil]); first | done | rfl | (simp only [List.length_drop, List.length_take]; rfl)) (by first | rfl | simp) ?_
          with_reducible refine (dual_Pairs_1.calls k _ _ l1_0 t332 _ ?side1 ?side2 A14.out).mono ?_
          (case side1 => repeat (first | exact (Kd.C_below HR1_0.out HB.out) | (with_reducible refine Kd.C_alloc ?_ _) | (with_reducible refine Kd.C_drewN ?_ _) | (with_reducible refine Kd.C_drew ?_)))
          (case side2 => exact HC1_0.out)
          rintro e w28 ⟨v333, rfl, ho0, hb⟩
          refine ⟨_, rfl, ?_⟩
          have HO334 := Aside0.mk (Kd.R_lower (Kd.R_new' ho0 (Kd.R_lt (rA HO331.out))) (below_size (by repeat (first | (with_reducible first | exact HB.out | apply l1 | apply l2 | apply l3 | refine below_set ?_ GE325.out | refine below_set ?_ GE326.out | refine below_set ?_ GE327.out | refine below_set ?_ GE335.out) | exact HB.out))))
          replace HO331 := Aside0.mk (Kd.R_elder' (rA HO331.out) (Kd.R_base ho0) hb)
          replace BK325 := Aside0.mk (bB BK325.out hb)
          replace BK326 := Aside0.mk (bB BK326.out hb)
          replace BK327 := Aside0.mk (bB BK327.out hb)
          replace BK335 := Aside0.mk (bB BK335.out hb)
          replace HB := Aside0.mk (below_step (by repeat (first | (with_reducible first | exact HB.out | apply l1 | apply l2 | apply l3 | refine below_set ?_ GE325.out | refine below_set ?_ GE326.out | refine below_set ?_ GE327.out | refine below_set ?_ GE335.out) | exact HB.out)) hb)
          (try clear hb)
          (try clear hb2)
          (try clear hk)
          (try clear hi)
          (try clear ho0)
          refine hK.out _ _ ⟨(blk_cell BK325.out 0).trans rfl, (blk_cell BK326.out 0).trans rfl⟩ (fun hHeld => ?_)
          clear hK K
          refine norm_ (a' := ?_) ?_ ?_
          rotate_left
          ·show Act.put _ (some 63) _ = _
           simp only [Act.put, List.setIfInBounds_toArray, List.set_cons_zero, List.set_cons_succ, i64_w, i32_w]
           rfl
          exact norm_ (by first | (simp only [putAll, Act.put, List.setIfInBounds_toArray, List.set_cons_zero, List.set_cons_succ]; done) | (simp only [putAll, Act.put, List.setIfInBounds_toArray, List.set_cons_zero, List.set_cons_succ]; rfl)) (hJ2_5_6 (v330, v333, gb335) _ ⟨hHeld, (by (with_reducible repeat (first | apply Kd.R_alloc | apply Kd.R_drewN | apply Kd.R_drew)); exact Kd.R_mono HO331.out (fun _ hk => hk.2)), (by (with_reducible repeat (first | apply Kd.R_alloc | apply Kd.R_drewN | apply Kd.R_drew)); exact Kd.R_mono HO334.out (fun _ hk => hk.2)), (bA BK325.out), (bA BK326.out), (bA BK327.out), (bA BK335.out), GW335.out, GE335.out, NB325_335.out, NB335_325.out, NB326_335.out, NB335_326.out, NB327_335.out, NB335_327.out, (by repeat (first | (with_reducible first | exact HB.out | apply l1 | apply l2 | apply l3 | refine below_set ?_ GE325.out | refine below_set ?_ GE326.out | refine below_set ?_ GE327.out | refine below_set ?_ GE335.out) | exact HB.out))⟩)
         ·skip
          refine box_step (by rfl) (N := 13) (by rfl) (cs := #[.slice none 0 0]) (t := 64) (by first | (go_simp; done) | (go_simp; rfl)) ?_
          intro gb336 hg w28 hbox hb
          obtain ⟨hb_, hw_⟩ := box_facts (by repeat (first | (with_reducible first | exact HB.out | apply l1 | apply l2 | apply l3 | refine below_set ?_ GE325.out | refine below_set ?_ GE326.out | refine below_set ?_ GE327.out | refine below_set ?_ GE335.out) | exact HB.out)) hg hb
          replace HO331 := Aside0.mk (Kd.R_below (rA HO331.out) hb)
          replace HB := Aside0.mk (hb_)
          have BK336 := Aside0.mk (hbox)
          have GW336 := Aside0.mk (hw_)
          have GE336 := Aside0.mk (hw_)
          have NB325_336 := Aside0.mk ((nL hg BK325.out))
          have NB336_325 := Aside0.mk ((nG hg BK325.out))
          replace BK325 := Aside0.mk (bB BK325.out hb)
          have NB326_336 := Aside0.mk ((nL hg BK326.out))
          have NB336_326 := Aside0.mk ((nG hg BK326.out))
          replace BK326 := Aside0.mk (bB BK326.out hb)
          have NB327_336 := Aside0.mk ((nL hg BK327.out))
          have NB336_327 := Aside0.mk ((nG hg BK327.out))
          replace BK327 := Aside0.mk (bB BK327.out hb)
          have NB335_336 := Aside0.mk ((nL hg BK335.out))
          have NB336_335 := Aside0.mk ((nG hg BK335.out))
          replace BK335 := Aside0.mk (bB BK335.out hb)
          clear hb hbox hg hb_ hw_
          refine hK.out _ _ ⟨(blk_cell BK325.out 0).trans rfl, (blk_cell BK326.out 0).trans rfl⟩ (fun hHeld => ?_)
          clear hK K
          refine norm_ (a' := ?_) ?_ ?_
          rotate_left
          ·show Act.put _ (some 13) _ = _
           simp only [Act.put, List.setIfInBounds_toArray, List.set_cons_zero, List.set_cons_succ, i64_w, i32_w]
           rfl
          exact norm_ (by first | (simp only [putAll, Act.put, List.setIfInBounds_toArray, List.set_cons_zero, List.set_cons_succ]; done) | (simp only [putAll, Act.put, List.setIfInBounds_toArray, List.set_cons_zero, List.set_cons_succ]; rfl)) (hJ2_6_7 (v330, gb335, gb336) _ ⟨hHeld, (rA HO331.out), (bA BK325.out), (bA BK326.out), (bA BK327.out), (bA BK335.out), (bA BK336.out), GW335.out, GE335.out, NB325_335.out, NB335_325.out, NB326_335.out, NB335_326.out, NB327_335.out, NB335_327.out, NB336_335.out, NB335_336.out, GW336.out, GE336.out, NB325_336.out, NB336_325.out, NB326_336.out, NB336_326.out, NB327_336.out, NB336_327.out, (by repeat (first | (with_reducible first | exact HB.out | apply l1 | apply l2 | apply l3 | refine below_set ?_ GE325.out | refine below_set ?_ GE326.out | refine below_set ?_ GE327.out | refine below_set ?_ GE335.out | refine below_set ?_ GE336.out) | exact HB.out))⟩)
       ·skip
        rintro ⟨v330, v333⟩ w27 ⟨hS_, h0_, h1_, h2_, h3_, h4_, h5_⟩
        have HO331 : Aside0 (Kd.R k66 66 w27 w.heap.size (fun k_ => some k_ ≠ (v333 : Value).ownBlock) v330 t329) := ⟨h0_⟩
        have HO334 : Aside0 (Kd.R k66 66 w27 w.heap.size (fun k_ => some k_ ≠ (v330 : Value).ownBlock) v333 t332) := ⟨h1_⟩
        replace BK325 : Aside0 (w27.heap[gb325]? = some (.cells #[.slice A0_0 l0_0.length c0_0] 25 (0, 0))) := ⟨h2_⟩
        replace BK326 : Aside0 (w27.heap[gb326]? = some (.cells #[.slice A1_0 l1_0.length c1_0] 25 (0, 0))) := ⟨h3_⟩
        replace BK327 : Aside0 (w27.heap[gb327]? = some (.cells #[.int .i64 (l1_0.length : Int)] 3 (0, 0))) := ⟨h4_⟩
        replace HB : Aside0 (Below w.heap.size w w27) := ⟨h5_⟩
        clear h0_ h1_ h2_ h3_ h4_ h5_
        have hHeld : w27.cell? ⟨gb325, 0, none⟩ = some (.slice A0_0 l0_0.length c0_0) ∧ w27.cell? ⟨gb326, 0, none⟩ = some (.slice A1_0 l1_0.length c1_0) := hS_
        refine norm_ (a' := ?_) ?_ ?_
        rotate_left
        ·simp only [putAll, Act.put, List.setIfInBounds_toArray, List.set_cons_zero, List.set_cons_succ]
         rfl
        refine two_ (i := 6) (j := 7) (Ni := some 12) (Nj := some 13) #[true, true, true, true, true, true, true, false, false, false] #[true, true, true, true, true, true, false, true, false, false] rfl rfl rfl rfl (two_of HT_.out (by kernel_rfl)) (by decide) (by decide) (fun K hK => ?_) (fun K hK => ?_)
        ·skip
         refine box_step (by rfl) (N := 12) (by rfl) (cs := #[.slice none 0 0]) (t := 64) (by first | (go_simp; done) | (go_simp; rfl)) ?_
         intro gb335 hg w28 hbox hb
         obtain ⟨hb_, hw_⟩ := box_facts (by repeat (first | (with_reducible first | exact HB.out | apply l1 | apply l2 | apply l3 | refine below_set ?_ GE325.out | refine below_set ?_ GE326.out | refine below_set ?_ GE327.out) | exact HB.out)) hg hb
         replace HO331 := Aside0.mk (Kd.R_below (rA HO331.out) hb)
         replace HO334 := Aside0.mk (Kd.R_below (rA HO334.out) hb)
         replace HB := Aside0.mk (hb_)
         have BK335 := Aside0.mk (hbox)
         have GW335 := Aside0.mk (hw_)
         have GE335 := Aside0.mk (hw_)
         have NB325_335 := Aside0.mk ((nL hg BK325.out))
         have NB335_325 := Aside0.mk ((nG hg BK325.out))
         replace BK325 := Aside0.mk (bB BK325.out hb)
         have NB326_335 := Aside0.mk ((nL hg BK326.out))
         have NB335_326 := Aside0.mk ((nG hg BK326.out))
         replace BK326 := Aside0.mk (bB BK326.out hb)
         have NB327_335 := Aside0.mk ((nL hg BK327.out))
         have NB335_327 := Aside0.mk ((nG hg BK327.out))
         replace BK327 := Aside0.mk (bB BK327.out hb)
         clear hb hbox hg hb_ hw_
         refine hK.out _ _ ⟨(blk_cell BK325.out 0).trans rfl, (blk_cell BK326.out 0).trans rfl⟩ (fun hHeld => ?_)
         clear hK K
         refine norm_ (a' := ?_) ?_ ?_
         rotate_left
         ·show Act.put _ (some 12) _ = _
          simp only [Act.put, List.setIfInBounds_toArray, List.set_cons_zero, List.set_cons_succ, i64_w, i32_w]
          rfl
         exact norm_ (by first | (simp only [putAll, Act.put, List.setIfInBounds_toArray, List.set_cons_zero, List.set_cons_succ]; done) | (simp only [putAll, Act.put, List.setIfInBounds_toArray, List.set_cons_zero, List.set_cons_succ]; rfl)) (hJ2_5_6 (v330, v333, gb335) _ ⟨hHeld, (rA HO331.out), (rA HO334.out), (bA BK325.out), (bA BK326.out), (bA BK327.out), (bA BK335.out), GW335.out, GE335.out, NB325_335.out, NB335_325.out, NB326_335.out, NB335_326.out, NB327_335.out, NB335_327.out, (by repeat (first | (with_reducible first | exact HB.out | apply l1 | apply l2 | apply l3 | refine below_set ?_ GE325.out | refine below_set ?_ GE326.out | refine below_set ?_ GE327.out | refine below_set ?_ GE335.out) | exact HB.out))⟩)
        ·skip
         refine box_step (by rfl) (N := 13) (by rfl) (cs := #[.slice none 0 0]) (t := 64) (by first | (go_simp; done) | (go_simp; rfl)) ?_
         intro gb336 hg w28 hbox hb
         obtain ⟨hb_, hw_⟩ := box_facts (by repeat (first | (with_reducible first | exact HB.out | apply l1 | apply l2 | apply l3 | refine below_set ?_ GE325.out | refine below_set ?_ GE326.out | refine below_set ?_ GE327.out) | exact HB.out)) hg hb
         replace HO331 := Aside0.mk (Kd.R_below (rA HO331.out) hb)
         replace HO334 := Aside0.mk (Kd.R_below (rA HO334.out) hb)
         replace HB := Aside0.mk (hb_)
         have BK336 := Aside0.mk (hbox)
         have GW336 := Aside0.mk (hw_)
         have GE336 := Aside0.mk (hw_)
         have NB325_336 := Aside0.mk ((nL hg BK325.out))
         have NB336_325 := Aside0.mk ((nG hg BK325.out))
         replace BK325 := Aside0.mk (bB BK325.out hb)
         have NB326_336 := Aside0.mk ((nL hg BK326.out))
         have NB336_326 := Aside0.mk ((nG hg BK326.out))
         replace BK326 := Aside0.mk (bB BK326.out hb)
         have NB327_336 := Aside0.mk ((nL hg BK327.out))
         have NB336_327 := Aside0.mk ((nG hg BK327.out))
         replace BK327 := Aside0.mk (bB BK327.out hb)
         clear hb hbox hg hb_ hw_
         refine hK.out _ _ ⟨(blk_cell BK325.out 0).trans rfl, (blk_cell BK326.out 0).trans rfl⟩ (fun hHeld => ?_)
         clear hK K
         refine norm_ (a' := ?_) ?_ ?_
         rotate_left
         ·show Act.put _ (some 13) _ = _
          simp only [Act.put, List.setIfInBounds_toArray, List.set_cons_zero, List.set_cons_succ, i64_w, i32_w]
          rfl
         exact norm_ (by first | (simp only [putAll, Act.put, List.setIfInBounds_toArray, List.set_cons_zero, List.set_cons_succ]; done) | (simp only [putAll, Act.put, List.setIfInBounds_toArray, List.set_cons_zero, List.set_cons_succ]; rfl)) (hJ2_5_7 (v330, v333, gb336) _ ⟨hHeld, (rA HO331.out), (rA HO334.out), (bA BK325.out), (bA BK326.out), (bA BK327.out), (bA BK336.out), GW336.out, GE336.out, NB325_336.out, NB336_325.out, NB326_336.out, NB336_326.out, NB327_336.out, NB336_327.out, (by repeat (first | (with_reducible first | exact HB.out | apply l1 | apply l2 | apply l3 | refine below_set ?_ GE325.out | refine below_set ?_ GE326.out | refine below_set ?_ GE327.out | refine below_set ?_ GE336.out) | exact HB.out))⟩)
      ·skip
       rintro ⟨v330, gb335, gb336⟩ w28 ⟨hS_, h0_, h1_, h2_, h3_, h4_, h5_, h6_, h7_, h8_, h9_, h10_, h11_, h12_, h13_, h14_, h15_, h16_, h17_, h18_, h19_, h20_, h21_, h22_, h23_, h24_⟩
       have HO331 : Aside0 (Kd.R k66 66 w28 w.heap.size (fun _ => True) v330 t329) := ⟨h0_⟩
       replace BK325 : Aside0 (w28.heap[gb325]? = some (.cells #[.slice A0_0 l0_0.length c0_0] 25 (0, 0))) := ⟨h1_⟩
       replace BK326 : Aside0 (w28.heap[gb326]? = some (.cells #[.slice A1_0 l1_0.length c1_0] 25 (0, 0))) := ⟨h2_⟩
       replace BK327 : Aside0 (w28.heap[gb327]? = some (.cells #[.int .i64 (l1_0.length : Int)] 3 (0, 0))) := ⟨h3_⟩
       have BK335 : Aside0 (w28.heap[gb335]? = some (.cells #[.slice none 0 0] 64 (0, 0))) := ⟨h4_⟩
       have BK336 : Aside0 (w28.heap[gb336]? = some (.cells #[.slice none 0 0] 64 (0, 0))) := ⟨h5_⟩
       have GW335 : Aside0 (w.heap.size ≤ gb335) := ⟨h6_⟩
       have GE335 : Aside0 (w.heap.size ≤ gb335) := ⟨h7_⟩
       have NB325_335 : Aside0 (gb325 ≠ gb335) := ⟨h8_⟩
       have NB335_325 : Aside0 (gb335 ≠ gb325) := ⟨h9_⟩
       have NB326_335 : Aside0 (gb326 ≠ gb335) := ⟨h10_⟩
       have NB335_326 : Aside0 (gb335 ≠ gb326) := ⟨h11_⟩
       have NB327_335 : Aside0 (gb327 ≠ gb335) := ⟨h12_⟩
       have NB335_327 : Aside0 (gb335 ≠ gb327) := ⟨h13_⟩
       have NB336_335 : Aside0 (gb336 ≠ gb335) := ⟨h14_⟩
       have NB335_336 : Aside0 (gb335 ≠ gb336) := ⟨h15_⟩
       have GW336 : Aside0 (w.heap.size ≤ gb336) := ⟨h16_⟩
       have GE336 : Aside0 (w.heap.size ≤ gb336) := ⟨h17_⟩
       have NB325_336 : Aside0 (gb325 ≠ gb336) := ⟨h18_⟩
       have NB336_325 : Aside0 (gb336 ≠ gb325) := ⟨h19_⟩
       have NB326_336 : Aside0 (gb326 ≠ gb336) := ⟨h20_⟩
       have NB336_326 : Aside0 (gb336 ≠ gb326) := ⟨h21_⟩
       have NB327_336 : Aside0 (gb327 ≠ gb336) := ⟨h22_⟩
       have NB336_327 : Aside0 (gb336 ≠ gb327) := ⟨h23_⟩
       replace HB : Aside0 (Below w.heap.size w w28) := ⟨h24_⟩
       clear h0_ h1_ h2_ h3_ h4_ h5_ h6_ h7_ h8_ h9_ h10_ h11_ h12_ h13_ h14_ h15_ h16_ h17_ h18_ h19_ h20_ h21_ h22_ h23_ h24_
       have hHeld : w28.cell? ⟨gb325, 0, none⟩ = some (.slice A0_0 l0_0.length c0_0) ∧ w28.cell? ⟨gb326, 0, none⟩ = some (.slice A1_0 l1_0.length c1_0) := hS_
       refine norm_ (a' := ?_) ?_ ?_
       rotate_left
       ·simp only [putAll, Act.put, List.setIfInBounds_toArray, List.set_cons_zero, List.set_cons_succ]
        rfl
       refine one_ (i := 5) (N := some 63) #[true, true, true, true, true, true, true, true, false, false] rfl rfl (one_of HT_.out (by kernel_rfl)) (by decide) (fun K hK => ?_)
       refine goesD_ Try.func30 (by kernel_rfl) rfl #[.agg #[.slice A1_0 l1_0.length c1_0]] #[.agg #[.slice A1_0 l1_0.length c1_0]] (by rfl) rfl rfl (by first | rfl | (go_simp; rfl)) (by (try simp only [List.map_toArray, List.map_cons, List.map_nil]); first | done | rfl | (simp only [List.length_drop, List.length_take]; rfl)) (by first | rfl | simp) ?_
       with_reducible refine (dual_Pairs_1.calls k _ _ l1_0 t332 _ ?side1 ?side2 A14.out).mono ?_
       (case side1 => repeat (first | exact (Kd.C_below HR1_0.out HB.out) | (with_reducible refine Kd.C_alloc ?_ _) | (with_reducible refine Kd.C_drewN ?_ _) | (with_reducible refine Kd.C_drew ?_)))
       (case side2 => exact HC1_0.out)
       rintro e w29 ⟨v333, rfl, ho0, hb⟩
       refine ⟨_, rfl, ?_⟩
       have HO334 := Aside0.mk (Kd.R_lower (Kd.R_new' ho0 (Kd.R_lt (rA HO331.out))) (below_size (by repeat (first | (with_reducible first | exact HB.out | apply l1 | apply l2 | apply l3 | refine below_set ?_ GE325.out | refine below_set ?_ GE326.out | refine below_set ?_ GE327.out | refine below_set ?_ GE335.out | refine below_set ?_ GE336.out) | exact HB.out))))
       replace HO331 := Aside0.mk (Kd.R_elder' (rA HO331.out) (Kd.R_base ho0) hb)
       replace BK325 := Aside0.mk (bB BK325.out hb)
       replace BK326 := Aside0.mk (bB BK326.out hb)
       replace BK327 := Aside0.mk (bB BK327.out hb)
       replace BK335 := Aside0.mk (bB BK335.out hb)
       replace BK336 := Aside0.mk (bB BK336.out hb)
       replace HB := Aside0.mk (below_step (by repeat (first | (with_reducible first | exact HB.out | apply l1 | apply l2 | apply l3 | refine below_set ?_ GE325.out | refine below_set ?_ GE326.out | refine below_set ?_ GE327.out | refine below_set ?_ GE335.out | refine below_set ?_ GE336.out) | exact HB.out)) hb)
       (try clear hb)
       (try clear hb2)
       (try clear hk)
       (try clear hi)
       (try clear ho0)
       refine hK.out _ _ ⟨(blk_cell BK325.out 0).trans rfl, (blk_cell BK326.out 0).trans rfl⟩ (fun hHeld => ?_)
       clear hK K
       refine norm_ (a' := ?_) ?_ ?_
       rotate_left
       ·show Act.put _ (some 63) _ = _
        simp only [Act.put, List.setIfInBounds_toArray, List.set_cons_zero, List.set_cons_succ, i64_w, i32_w]
        rfl
       exact norm_ (by first | (simp only [putAll, Act.put, List.setIfInBounds_toArray, List.set_cons_zero, List.set_cons_succ]; done) | (simp only [putAll, Act.put, List.setIfInBounds_toArray, List.set_cons_zero, List.set_cons_succ]; rfl)) (hJ2_5_6_7 (v330, v333, gb335, gb336) _ ⟨hHeld, (by (with_reducible repeat (first | apply Kd.R_alloc | apply Kd.R_drewN | apply Kd.R_drew)); exact Kd.R_mono HO331.out (fun _ hk => hk.2)), (by (with_reducible repeat (first | apply Kd.R_alloc | apply Kd.R_drewN | apply Kd.R_drew)); exact Kd.R_mono HO334.out (fun _ hk => hk.2)), (bA BK325.out), (bA BK326.out), (bA BK327.out), (bA BK335.out), (bA BK336.out), GW335.out, GE335.out, NB325_335.out, NB335_325.out, NB326_335.out, NB335_326.out, NB327_335.out, NB335_327.out, NB336_335.out, NB335_336.out, GW336.out, GE336.out, NB325_336.out, NB336_325.out, NB326_336.out, NB336_326.out, NB327_336.out, NB336_327.out, (by repeat (first | (with_reducible first | exact HB.out | apply l1 | apply l2 | apply l3 | refine below_set ?_ GE325.out | refine below_set ?_ GE326.out | refine below_set ?_ GE327.out | refine below_set ?_ GE335.out | refine below_set ?_ GE336.out) | exact HB.out))⟩)
     ·skip
      rintro ⟨v330, v333, gb336⟩ w28 ⟨hS_, h0_, h1_, h2_, h3_, h4_, h5_, h6_, h7_, h8_, h9_, h10_, h11_, h12_, h13_, h14_⟩
      have HO331 : Aside0 (Kd.R k66 66 w28 w.heap.size (fun k_ => some k_ ≠ (v333 : Value).ownBlock) v330 t329) := ⟨h0_⟩
      have HO334 : Aside0 (Kd.R k66 66 w28 w.heap.size (fun k_ => some k_ ≠ (v330 : Value).ownBlock) v333 t332) := ⟨h1_⟩
      replace BK325 : Aside0 (w28.heap[gb325]? = some (.cells #[.slice A0_0 l0_0.length c0_0] 25 (0, 0))) := ⟨h2_⟩
      replace BK326 : Aside0 (w28.heap[gb326]? = some (.cells #[.slice A1_0 l1_0.length c1_0] 25 (0, 0))) := ⟨h3_⟩
      replace BK327 : Aside0 (w28.heap[gb327]? = some (.cells #[.int .i64 (l1_0.length : Int)] 3 (0, 0))) := ⟨h4_⟩
      have BK336 : Aside0 (w28.heap[gb336]? = some (.cells #[.slice none 0 0] 64 (0, 0))) := ⟨h5_⟩
      have GW336 : Aside0 (w.heap.size ≤ gb336) := ⟨h6_⟩
      have GE336 : Aside0 (w.heap.size ≤ gb336) := ⟨h7_⟩
      have NB325_336 : Aside0 (gb325 ≠ gb336) := ⟨h8_⟩
      have NB336_325 : Aside0 (gb336 ≠ gb325) := ⟨h9_⟩
      have NB326_336 : Aside0 (gb326 ≠ gb336) := ⟨h10_⟩
      have NB336_326 : Aside0 (gb336 ≠ gb326) := ⟨h11_⟩
      have NB327_336 : Aside0 (gb327 ≠ gb336) := ⟨h12_⟩
      have NB336_327 : Aside0 (gb336 ≠ gb327) := ⟨h13_⟩
      replace HB : Aside0 (Below w.heap.size w w28) := ⟨h14_⟩
      clear h0_ h1_ h2_ h3_ h4_ h5_ h6_ h7_ h8_ h9_ h10_ h11_ h12_ h13_ h14_
      have hHeld : w28.cell? ⟨gb325, 0, none⟩ = some (.slice A0_0 l0_0.length c0_0) ∧ w28.cell? ⟨gb326, 0, none⟩ = some (.slice A1_0 l1_0.length c1_0) := hS_
      refine norm_ (a' := ?_) ?_ ?_
      rotate_left
      ·simp only [putAll, Act.put, List.setIfInBounds_toArray, List.set_cons_zero, List.set_cons_succ]
       rfl
      refine one_ (i := 6) (N := some 12) #[true, true, true, true, true, true, true, true, false, false] rfl rfl (one_of HT_.out (by kernel_rfl)) (by decide) (fun K hK => ?_)
      refine box_step (by rfl) (N := 12) (by rfl) (cs := #[.slice none 0 0]) (t := 64) (by first | (go_simp; done) | (go_simp; rfl)) ?_
      intro gb335 hg w29 hbox hb
      obtain ⟨hb_, hw_⟩ := box_facts (by repeat (first | (with_reducible first | exact HB.out | apply l1 | apply l2 | apply l3 | refine below_set ?_ GE325.out | refine below_set ?_ GE326.out | refine below_set ?_ GE327.out | refine below_set ?_ GE336.out) | exact HB.out)) hg hb
      replace HO331 := Aside0.mk (Kd.R_below (rA HO331.out) hb)
      replace HO334 := Aside0.mk (Kd.R_below (rA HO334.out) hb)
      replace HB := Aside0.mk (hb_)
      have BK335 := Aside0.mk (hbox)
      have GW335 := Aside0.mk (hw_)
      have GE335 := Aside0.mk (hw_)
      have NB325_335 := Aside0.mk ((nL hg BK325.out))
      have NB335_325 := Aside0.mk ((nG hg BK325.out))
      replace BK325 := Aside0.mk (bB BK325.out hb)
      have NB326_335 := Aside0.mk ((nL hg BK326.out))
      have NB335_326 := Aside0.mk ((nG hg BK326.out))
      replace BK326 := Aside0.mk (bB BK326.out hb)
      have NB327_335 := Aside0.mk ((nL hg BK327.out))
      have NB335_327 := Aside0.mk ((nG hg BK327.out))
      replace BK327 := Aside0.mk (bB BK327.out hb)
      have NB336_335 := Aside0.mk ((nL hg BK336.out))
      have NB335_336 := Aside0.mk ((nG hg BK336.out))
      replace BK336 := Aside0.mk (bB BK336.out hb)
      clear hb hbox hg hb_ hw_
      refine hK.out _ _ ⟨(blk_cell BK325.out 0).trans rfl, (blk_cell BK326.out 0).trans rfl⟩ (fun hHeld => ?_)
      clear hK K
      refine norm_ (a' := ?_) ?_ ?_
      rotate_left
      ·show Act.put _ (some 12) _ = _
       simp only [Act.put, List.setIfInBounds_toArray, List.set_cons_zero, List.set_cons_succ, i64_w, i32_w]
       rfl
      exact norm_ (by first | (simp only [putAll, Act.put, List.setIfInBounds_toArray, List.set_cons_zero, List.set_cons_succ]; done) | (simp only [putAll, Act.put, List.setIfInBounds_toArray, List.set_cons_zero, List.set_cons_succ]; rfl)) (hJ2_5_6_7 (v330, v333, gb335, gb336) _ ⟨hHeld, (rA HO331.out), (rA HO334.out), (bA BK325.out), (bA BK326.out), (bA BK327.out), (bA BK335.out), (bA BK336.out), GW335.out, GE335.out, NB325_335.out, NB335_325.out, NB326_335.out, NB335_326.out, NB327_335.out, NB335_327.out, NB336_335.out, NB335_336.out, GW336.out, GE336.out, NB325_336.out, NB336_325.out, NB326_336.out, NB336_326.out, NB327_336.out, NB336_327.out, (by repeat (first | (with_reducible first | exact HB.out | apply l1 | apply l2 | apply l3 | refine below_set ?_ GE325.out | refine below_set ?_ GE326.out | refine below_set ?_ GE327.out | refine below_set ?_ GE336.out | refine below_set ?_ GE335.out) | exact HB.out))⟩)
    ·skip
     rintro ⟨v330, v333, gb335⟩ w28 ⟨hS_, h0_, h1_, h2_, h3_, h4_, h5_, h6_, h7_, h8_, h9_, h10_, h11_, h12_, h13_, h14_⟩
     have HO331 : Aside0 (Kd.R k66 66 w28 w.heap.size (fun k_ => some k_ ≠ (v333 : Value).ownBlock) v330 t329) := ⟨h0_⟩
     have HO334 : Aside0 (Kd.R k66 66 w28 w.heap.size (fun k_ => some k_ ≠ (v330 : Value).ownBlock) v333 t332) := ⟨h1_⟩
     replace BK325 : Aside0 (w28.heap[gb325]? = some (.cells #[.slice A0_0 l0_0.length c0_0] 25 (0, 0))) := ⟨h2_⟩
     replace BK326 : Aside0 (w28.heap[gb326]? = some (.cells #[.slice A1_0 l1_0.length c1_0] 25 (0, 0))) := ⟨h3_⟩
     replace BK327 : Aside0 (w28.heap[gb327]? = some (.cells #[.int .i64 (l1_0.length : Int)] 3 (0, 0))) := ⟨h4_⟩
     have BK335 : Aside0 (w28.heap[gb335]? = some (.cells #[.slice none 0 0] 64 (0, 0))) := ⟨h5_⟩
     have GW335 : Aside0 (w.heap.size ≤ gb335) := ⟨h6_⟩
     have GE335 : Aside0 (w.heap.size ≤ gb335) := ⟨h7_⟩
     have NB325_335 : Aside0 (gb325 ≠ gb335) := ⟨h8_⟩
     have NB335_325 : Aside0 (gb335 ≠ gb325) := ⟨h9_⟩
     have NB326_335 : Aside0 (gb326 ≠ gb335) := ⟨h10_⟩
     have NB335_326 : Aside0 (gb335 ≠ gb326) := ⟨h11_⟩
     have NB327_335 : Aside0 (gb327 ≠ gb335) := ⟨h12_⟩
     have NB335_327 : Aside0 (gb335 ≠ gb327) := ⟨h13_⟩
     replace HB : Aside0 (Below w.heap.size w w28) := ⟨h14_⟩
     clear h0_ h1_ h2_ h3_ h4_ h5_ h6_ h7_ h8_ h9_ h10_ h11_ h12_ h13_ h14_
     have hHeld : w28.cell? ⟨gb325, 0, none⟩ = some (.slice A0_0 l0_0.length c0_0) ∧ w28.cell? ⟨gb326, 0, none⟩ = some (.slice A1_0 l1_0.length c1_0) := hS_
     refine norm_ (a' := ?_) ?_ ?_
     rotate_left
     ·simp only [putAll, Act.put, List.setIfInBounds_toArray, List.set_cons_zero, List.set_cons_succ]
      rfl
     refine one_ (i := 7) (N := some 13) #[true, true, true, true, true, true, true, true, false, false] rfl rfl (one_of HT_.out (by kernel_rfl)) (by decide) (fun K hK => ?_)
     refine box_step (by rfl) (N := 13) (by rfl) (cs := #[.slice none 0 0]) (t := 64) (by first | (go_simp; done) | (go_simp; rfl)) ?_
     intro gb336 hg w29 hbox hb
     obtain ⟨hb_, hw_⟩ := box_facts (by repeat (first | (with_reducible first | exact HB.out | apply l1 | apply l2 | apply l3 | refine below_set ?_ GE325.out | refine below_set ?_ GE326.out | refine below_set ?_ GE327.out | refine below_set ?_ GE335.out) | exact HB.out)) hg hb
     replace HO331 := Aside0.mk (Kd.R_below (rA HO331.out) hb)
     replace HO334 := Aside0.mk (Kd.R_below (rA HO334.out) hb)
     replace HB := Aside0.mk (hb_)
     have BK336 := Aside0.mk (hbox)
     have GW336 := Aside0.mk (hw_)
     have GE336 := Aside0.mk (hw_)
     have NB325_336 := Aside0.mk ((nL hg BK325.out))
     have NB336_325 := Aside0.mk ((nG hg BK325.out))
     replace BK325 := Aside0.mk (bB BK325.out hb)
     have NB326_336 := Aside0.mk ((nL hg BK326.out))
     have NB336_326 := Aside0.mk ((nG hg BK326.out))
     replace BK326 := Aside0.mk (bB BK326.out hb)
     have NB327_336 := Aside0.mk ((nL hg BK327.out))
     have NB336_327 := Aside0.mk ((nG hg BK327.out))
     replace BK327 := Aside0.mk (bB BK327.out hb)
     have NB335_336 := Aside0.mk ((nL hg BK335.out))
     have NB336_335 := Aside0.mk ((nG hg BK335.out))
     replace BK335 := Aside0.mk (bB BK335.out hb)
     clear hb hbox hg hb_ hw_
     refine hK.out _ _ ⟨(blk_cell BK325.out 0).trans rfl, (blk_cell BK326.out 0).trans rfl⟩ (fun hHeld => ?_)
     clear hK K
     refine norm_ (a' := ?_) ?_ ?_
     rotate_left
     ·show Act.put _ (some 13) _ = _
      simp only [Act.put, List.setIfInBounds_toArray, List.set_cons_zero, List.set_cons_succ, i64_w, i32_w]
      rfl
     exact norm_ (by first | (simp only [putAll, Act.put, List.setIfInBounds_toArray, List.set_cons_zero, List.set_cons_succ]; done) | (simp only [putAll, Act.put, List.setIfInBounds_toArray, List.set_cons_zero, List.set_cons_succ]; rfl)) (hJ2_5_6_7 (v330, v333, gb335, gb336) _ ⟨hHeld, (rA HO331.out), (rA HO334.out), (bA BK325.out), (bA BK326.out), (bA BK327.out), (bA BK335.out), (bA BK336.out), GW335.out, GE335.out, NB325_335.out, NB335_325.out, NB326_335.out, NB335_326.out, NB327_335.out, NB335_327.out, NB336_335.out, NB335_336.out, GW336.out, GE336.out, NB325_336.out, NB336_325.out, NB326_336.out, NB336_326.out, NB327_336.out, NB336_327.out, (by repeat (first | (with_reducible first | exact HB.out | apply l1 | apply l2 | apply l3 | refine below_set ?_ GE325.out | refine below_set ?_ GE326.out | refine below_set ?_ GE327.out | refine below_set ?_ GE335.out | refine below_set ?_ GE336.out) | exact HB.out))⟩)
   rintro ⟨v330, v333, gb335, gb336⟩ w29 ⟨hS_, h0_, h1_, h2_, h3_, h4_, h5_, h6_, h7_, h8_, h9_, h10_, h11_, h12_, h13_, h14_, h15_, h16_, h17_, h18_, h19_, h20_, h21_, h22_, h23_, h24_, h25_⟩
   have HO331 : Aside0 (Kd.R k66 66 w29 w.heap.size (fun k_ => some k_ ≠ (v333 : Value).ownBlock) v330 t329) := ⟨h0_⟩
   have HO334 : Aside0 (Kd.R k66 66 w29 w.heap.size (fun k_ => some k_ ≠ (v330 : Value).ownBlock) v333 t332) := ⟨h1_⟩
   replace BK325 : Aside0 (w29.heap[gb325]? = some (.cells #[.slice A0_0 l0_0.length c0_0] 25 (0, 0))) := ⟨h2_⟩
   replace BK326 : Aside0 (w29.heap[gb326]? = some (.cells #[.slice A1_0 l1_0.length c1_0] 25 (0, 0))) := ⟨h3_⟩
   replace BK327 : Aside0 (w29.heap[gb327]? = some (.cells #[.int .i64 (l1_0.length : Int)] 3 (0, 0))) := ⟨h4_⟩
   have BK335 : Aside0 (w29.heap[gb335]? = some (.cells #[.slice none 0 0] 64 (0, 0))) := ⟨h5_⟩
   have BK336 : Aside0 (w29.heap[gb336]? = some (.cells #[.slice none 0 0] 64 (0, 0))) := ⟨h6_⟩
   have GW335 : Aside0 (w.heap.size ≤ gb335) := ⟨h7_⟩
   have GE335 : Aside0 (w.heap.size ≤ gb335) := ⟨h8_⟩
   have NB325_335 : Aside0 (gb325 ≠ gb335) := ⟨h9_⟩
   have NB335_325 : Aside0 (gb335 ≠ gb325) := ⟨h10_⟩
   have NB326_335 : Aside0 (gb326 ≠ gb335) := ⟨h11_⟩
   have NB335_326 : Aside0 (gb335 ≠ gb326) := ⟨h12_⟩
   have NB327_335 : Aside0 (gb327 ≠ gb335) := ⟨h13_⟩
   have NB335_327 : Aside0 (gb335 ≠ gb327) := ⟨h14_⟩
   have NB336_335 : Aside0 (gb336 ≠ gb335) := ⟨h15_⟩
   have NB335_336 : Aside0 (gb335 ≠ gb336) := ⟨h16_⟩
   have GW336 : Aside0 (w.heap.size ≤ gb336) := ⟨h17_⟩
   have GE336 : Aside0 (w.heap.size ≤ gb336) := ⟨h18_⟩
   have NB325_336 : Aside0 (gb325 ≠ gb336) := ⟨h19_⟩
   have NB336_325 : Aside0 (gb336 ≠ gb325) := ⟨h20_⟩
   have NB326_336 : Aside0 (gb326 ≠ gb336) := ⟨h21_⟩
   have NB336_326 : Aside0 (gb336 ≠ gb326) := ⟨h22_⟩
   have NB327_336 : Aside0 (gb327 ≠ gb336) := ⟨h23_⟩
   have NB336_327 : Aside0 (gb336 ≠ gb327) := ⟨h24_⟩
   replace HB : Aside0 (Below w.heap.size w w29) := ⟨h25_⟩
   clear h0_ h1_ h2_ h3_ h4_ h5_ h6_ h7_ h8_ h9_ h10_ h11_ h12_ h13_ h14_ h15_ h16_ h17_ h18_ h19_ h20_ h21_ h22_ h23_ h24_ h25_
   have hHeld : w29.cell? ⟨gb325, 0, none⟩ = some (.slice A0_0 l0_0.length c0_0) ∧ w29.cell? ⟨gb326, 0, none⟩ = some (.slice A1_0 l1_0.length c1_0) := hS_
   obtain ⟨Ao30, co30, eo30⟩ := Kd.R_slice HO331.out
   (first | subst eo30 | (injection eo30 with f1_ f2_ f3_; have f4_ := f1_.symm; have f5_ := f3_.symm; clear f1_ f2_ f3_; subst f4_; subst f5_))
   obtain ⟨Ao32, co32, eo32⟩ := Kd.R_slice HO334.out
   (first | subst eo32 | (injection eo32 with f1_ f2_ f3_; have f4_ := f1_.symm; have f5_ := f3_.symm; clear f1_ f2_ f3_; subst f4_; subst f5_))
   refine norm_ (a' := ?_) ?_ ?_
   rotate_left
   ·simp only [putAll, Act.put, List.setIfInBounds_toArray, List.set_cons_zero, List.set_cons_succ]
    rfl
   refine one_ (i := 8) (N := none) #[true, true, true, true, true, true, true, true, true, false] rfl rfl (one_of HT_.out (by kernel_rfl)) (by decide) (fun K hK => ?_)
   have hs31 : w29.cell? ⟨gb335, 0, none⟩ = some (.slice none 0 0) := (blk_cell BK335.out 0).trans rfl
   have hfs31 := blk_frozen BK335.out 0
   have hns31_0 := NB325_335.out
   have hns31_1 := NB326_335.out
   have hns31_2 := NB327_335.out
   have hns31_4 := NB336_335.out
   have hms31_0 := NB335_325.out
   have hms31_1 := NB335_326.out
   have hms31_2 := NB335_327.out
   have hms31_4 := NB335_336.out
   refine skip_ (w1 := ?_) (by rfl) rfl ?_ ?_
   rotate_left
   ·go_simp
    rfl
   refine hK.out _ _ ⟨((cell_far (p := ⟨gb335, _, none⟩) NB325_335.out _).trans (hHeld.1)), ((cell_far (p := ⟨gb335, _, none⟩) NB326_335.out _).trans (hHeld.2))⟩ (fun hHeld => ?_)
   clear hK K
   refine one_ (i := 9) (N := none) #[true, true, true, true, true, true, true, true, true, true] rfl rfl (one_of HT_.out (by kernel_rfl)) (by decide) (fun K hK => ?_)
   have hs33 : w29.cell? ⟨gb336, 0, none⟩ = some (.slice none 0 0) := (blk_cell BK336.out 0).trans rfl
   have hfs33 := blk_frozen BK336.out 0
   have hns33_0 := NB325_336.out
   have hns33_1 := NB326_336.out
   have hns33_2 := NB327_336.out
   have hns33_3 := NB335_336.out
   have hms33_0 := NB336_325.out
   have hms33_1 := NB336_326.out
   have hms33_2 := NB336_327.out
   have hms33_3 := NB336_335.out
   refine skip_ (w1 := ?_) (by rfl) rfl ?_ ?_
   rotate_left
   ·go_simp
    rfl
   refine hK.out _ _ ⟨((cell_far (p := ⟨gb336, _, none⟩) NB325_336.out _).trans (hHeld.1)), ((cell_far (p := ⟨gb336, _, none⟩) NB326_336.out _).trans (hHeld.2))⟩ (fun hHeld => ?_)
   clear hK K
   refine done_ (done_of HT_.out (by kernel_rfl)) ?_
   -- the rest
   have V1 : ((w29.setCell ⟨gb335, 0, none⟩ (Value.slice Ao30 t329.length co30)).setCell ⟨gb336, 0, none⟩ (Value.slice Ao32 t332.length co32)).heap[gb327]? = some (.cells #[.int .i64 (l1_0.length : Int)] 3 (0, 0)) := blk_far (blk_far BK327.out NB327_335.out _) NB327_336.out _
   have V2 : ((w29.setCell ⟨gb335, 0, none⟩ (Value.slice Ao30 t329.length co30)).setCell ⟨gb336, 0, none⟩ (Value.slice Ao32 t332.length co32)).heap[gb335]? = some (.cells #[Value.slice Ao30 t329.length co30] 64 (0, 0)) := blk_far (blk_put BK335.out 0 _ rfl) NB335_336.out _
   have V3 : ((w29.setCell ⟨gb335, 0, none⟩ (Value.slice Ao30 t329.length co30)).setCell ⟨gb336, 0, none⟩ (Value.slice Ao32 t332.length co32)).heap[gb336]? = some (.cells #[Value.slice Ao32 t332.length co32] 64 (0, 0)) := blk_put (blk_far BK336.out NB336_335.out _) 0 _ rfl
   have V6 : Below w.heap.size w ((w29.setCell ⟨gb335, 0, none⟩ (Value.slice Ao30 t329.length co30)).setCell ⟨gb336, 0, none⟩ (Value.slice Ao32 t332.length co32)) := below_set (below_set HB.out GE335.out) GE336.out
   have hq66 : ∀ q : Nat, q ∈ 66 :: k66.E → q ≠ 64 := by
    intro q hq
    rcases List.mem_cons.1 hq with rfl | hq
    ·decide
    ·exact absurd hq (by simp [k66, Kd.iso, Kd.pair, Kd.int, Kd.scalar])
   have V4 : Kd.C k66 ((w29.setCell ⟨gb335, 0, none⟩ (Value.slice Ao30 t329.length co30)).setCell ⟨gb336, 0, none⟩ (Value.slice Ao32 t332.length co32)) Ao30 t329.length t329 := by
    obtain ⟨A, c, he, _, hC⟩ := Kd.R_reads (Kd.R_set (Kd.R_set HO331.out BK335.out hq66 0 (Value.slice Ao30 t329.length co30)) (blk_far BK336.out NB336_335.out _) hq66 0 (Value.slice Ao32 t332.length co32))
    injection he with he _ _
    subst he; exact hC
   have V5 : Kd.C k66 ((w29.setCell ⟨gb335, 0, none⟩ (Value.slice Ao30 t329.length co30)).setCell ⟨gb336, 0, none⟩ (Value.slice Ao32 t332.length co32)) Ao32 t332.length t332 := by
    obtain ⟨A, c, he, _, hC⟩ := Kd.R_reads (Kd.R_set (Kd.R_set HO334.out BK335.out hq66 0 (Value.slice Ao30 t329.length co30)) (blk_far BK336.out NB336_335.out _) hq66 0 (Value.slice Ao32 t332.length co32))
    injection he with he _ _
    subst he; exact hC
   generalize (w29.setCell ⟨gb335, 0, none⟩ (Value.slice Ao30 t329.length co30)).setCell ⟨gb336, 0, none⟩ (Value.slice Ao32 t332.length co32) = V at V1 V2 V3 V4 V5 V6 hHeld ⊢
   have PV := Aside0.mk (And.intro V1 (And.intro V2 (And.intro V3 (And.intro V4 (And.intro V5 V6)))))
   clear V1 V2 V3 V4 V5 V6 hHeld BK325 BK326 BK327 BK335 BK336 HB HO331 HO334 hs31 hfs31 hns31_0 hns31_1 hns31_2 hns31_4 hms31_0 hms31_1 hms31_2 hms31_4 hs33 hfs33 hns33_0 hns33_1 hns33_2 hns33_3 hms33_0 hms33_1 hms33_2 hms33_3 NB325_326 NB326_325 NB325_327 NB327_325 NB326_327 NB327_326 NB325_335 NB335_325 NB326_335 NB335_326 NB327_335 NB335_327 NB336_335 NB335_336 NB325_336 NB336_325 NB326_336 NB336_326 NB327_336 NB336_327 GW325 GE325 GW326 GE326 GW327 GE327 GW335 GE335 GW336 GE336 hq66
   have ck10 : _ = some (Value.int .i64 (l1_0.length : Int)) := (blk_cell PV.out.1 0).trans rfl
   have hmul : (l0_0.length + 1) * (l1_0.length + 1) ≤ 4097 * 4097 := Nat.mul_le_mul (by omega) (by omega)
   have e3 : wrap64 (((l0_0.length : Int) + 1) * ((l1_0.length : Int) + 1)) = (((l0_0.length + 1) * (l1_0.length + 1) : Nat) : Int) := by
    have e4 : ((l0_0.length : Int) + 1) * ((l1_0.length : Int) + 1) = (((l0_0.length + 1) * (l1_0.length + 1) : Nat) : Int) := by simp
    rw [e4]; simp only [wrap64]; omega
   obtain ⟨N, hN⟩ : ∃ N, (l0_0.length + 1) * (l1_0.length + 1) = N := ⟨_, rfl⟩
   rw [hN] at hmul e3
   have hmk := fun W : World => make71 W N (by omega)
   go_wp2
   have SB : Aside0 (SD.DWB encW V.heap.size 71 [] ((V.alloc (Obj.cells (List.flatMap encW (List.replicate N (0, 0))).toArray 71)).alloc (Obj.cells #[Value.slice (some ⟨V.heap.size, 0, none⟩) N N] 69)) (BP.tabI l0_0.length l1_0.length (shareV t329 t332) 0) ((V.alloc (Obj.cells (List.flatMap encW (List.replicate N (0, 0))).toArray 71)).alloc (Obj.cells #[Value.slice (some ⟨V.heap.size, 0, none⟩) N N] 69))) := ⟨⟨by
    rw [BP.tabI, hN, List.append_nil]
    exact blk_alloc (blk_new V _) _, ⟨rfl, rfl, rfl, Nat.le_refl _, fun _ _ _ => rfl⟩⟩⟩
   obtain ⟨W0, hW0⟩ : ∃ W0, (V.alloc (Obj.cells (List.flatMap encW (List.replicate N (0, 0))).toArray 71)).alloc (Obj.cells #[Value.slice (some ⟨V.heap.size, 0, none⟩) N N] 69) = W0 := ⟨_, rfl⟩
   have BF : Aside0 (∀ (T : List (Int × Int)) (W : World), SD.DWB encW V.heap.size 71 [] W0 T W → Below V.heap.size V W ∧ W.heap[V.heap.size + 1]? = some (.cells #[Value.slice (some ⟨V.heap.size, 0, none⟩) N N] 69 (0, 0))) := ⟨fun T W S => by rw [← hW0] at S; exact base_facts S⟩
   rw [hW0] at SB ⊢
   clear hW0 hmk e3 ck10
   have BS : Aside0 (∀ (T : List (Int × Int)) (W : World), SD.DWB encW V.heap.size 71 [] W0 T W → ∀ p q : Nat, p < l0_0.length → q < l1_0.length → Calls Try.prog 32 #[.int .i64 (p : Int), .int .i64 (q : Int), .pointer (some ⟨gb335, 0, none⟩), .pointer (some ⟨gb336, 0, none⟩)] W fun e w' => e = .returned (.int .i64 (shareV t329 t332 p q)) ∧ ∃ m, w' = W.drewN m) := ⟨fun T W S p q hp hq => share_table (BF.out T W S).1 PV.out.2.1 PV.out.2.2.1 PV.out.2.2.2.1 PV.out.2.2.2.2.1 p q (by have := HXY.out.1; omega) (by have := HXY.out.2; omega)⟩
   have BM : Aside0 (∀ (T : List (Int × Int)) (W : World), SD.DWB encW V.heap.size 71 [] W0 T W → W.cell? ⟨gb327, 0, none⟩ = some (.int .i64 (l1_0.length : Int))) := ⟨fun T W S => (blk_cell (blk_below PV.out.1 (BF.out T W S).1) 0).trans rfl⟩
   have HN := Aside0.mk hN
   refine fill_loop l0_0.length l1_0.length N gb335 gb336 (V.heap.size + 1) gb327 V.heap.size (shareV t329 t332) W0 W0 hn hm hN ⟨fun T W S hT p q hp hq => (at_table S (BF.out T W S) PV.out.1 hT hN hn hm p q hp hq).1⟩ BS BM SB _ _ _ _ _ _ _ _ _ _ _ _ _ _ _ _ _ _ _ _ _ _ _ _ _ _ _ _ _ _ _ _ _ _ _ _ _ _ _ _ _ _ _ _ _ _ _ _ _ _ _ _ _ _ _ _ _ _ _ _ _ _ _ _ _ _ _ _ _ _ _ _ _ _ _ _ _ _ _ _ _ _ _ _ _ _ _ _ _ _ _ _ _ _ _ _ _ _ _ _ _ _ _ _ _ _ _ _ _ _ _ _ _ _ _ _ _ _ _ _ _ _ _ _ _ _ _ _ _ _ _ _ _ _ _ _ _ _ _ _ _ _ _ _ _ _ _ _ _ _ _ _ _ _ _ _ _ _ _ _ _ _ _ _ _ _ _ _ _ _ _ _ _ _ _ _ _ _ _ _ _ _ _ _ _ _ _ _ _ _ _ _ _ ⟨fun x17 x18 x19 x20 x21 x22 x74 x75 x76 x77 x78 x79 x80 x81 x82 x83 x84 x85 x86 x87 x88 x89 x90 x91 x92 x93 x94 x95 x96 x97 x98 x99 x100 x101 x102 x103 x104 x105 x106 x107 x108 x109 x110 x111 x112 x113 x114 x115 x116 x117 x118 x119 x120 x121 x122 x123 x124 x125 x126 x127 x128 x129 x130 x131 x132 x133 W1 hS => ?_⟩
   have HS1 := Aside0.mk hS
   have HTL : Aside0 ((BP.tabI l0_0.length l1_0.length (shareV t329 t332) l0_0.length).length = N) := ⟨by rw [BP.tabI_length, HN.out]⟩
   clear hS hN SB
   unfold Exit.then
   (try dsimp only)
   go_upto_block 6 with (fail)
   refine wp_block ?_
   refine walk_row k l0_0.length l1_0.length gb335 gb336 (V.heap.size + 1) gb327 V.heap.size (BP.tabI l0_0.length l1_0.length (shareV t329 t332) l0_0.length) W1 (shareV t329 t332) L0 hn hm
    ⟨fun W' hb p q hp hq => at_table (SD.DWB.below HS1.out hb) (BF.out _ _ (SD.DWB.below HS1.out hb)) PV.out.1 HTL.out HN.out hn hm p q hp hq⟩ ⟨fun W' hb => BS.out _ _ (SD.DWB.below HS1.out hb)⟩ ⟨fun W' hb => BM.out _ _ (SD.DWB.below HS1.out hb)⟩ HROW _ _ _ _ _ _ _ _ _ _ _ _ _ _ _ _ _ _ _ _ _ _ _ _ _ _ _ _ _ _ _ _ _ _ _ _ _ _ _ _ _ _ _ _ _ _ _ _ _ _ _ _ _ _ _ _ _ _ _ _ _ _ _ _ _ _ _ _ _ _ _ _ _ _ _ _ _ _ _ _ _ _ _ _ _ _ _ _ _ _ _ _ _ _ _ _ _ _ _ _ _ _ _ _ _ _ _ _ _ _ _ _ _ _ _ _ _ _ _ _ _ _ _ _ _ _ _ _ _ _ _ _ _ _ _ _ _ _ _ _ _ _ _ _ _ _ _ _ _ _ _ _ _ _ _ _ _ _ _ _ _ _ _ _ _ _ _ _ _ _ _ _ _ _ _ _ _ _ _ _ _ _ _ _ _ _ _ _ _ _ _ ⟨fun z24 z25 z26 z27 z28 z29 z30 z134 z135 z136 z137 z138 z139 z140 z141 z142 z143 z144 z145 z146 z147 z148 z149 z150 z151 z152 z153 z154 z155 z156 z157 z158 z159 z160 z161 z162 z163 z164 z165 z166 z167 z168 z169 z170 z171 z172 z173 z174 z175 z176 z177 z178 z179 z180 z181 z182 z183 z184 z185 z186 z187 z188 z189 z190 z191 z192 z193 z194 z195 v' W' hR hB => ?_⟩
   have HB1 := Aside0.mk (PV.out.2.2.2.2.2.trans ((BF.out _ _ HS1.out).1.mono (below_size PV.out.2.2.2.2.2)))
   have HR := Aside0.mk (Kd.R_lower hR (below_size HB1.out))
   have HB2 := Aside0.mk (below_step HB1.out hB)
   clear hR hB
   unfold Exit.then
   (try dsimp only)
   go_wp2
   go_ret2
   exact ⟨v', .nilIface, rfl, HR.out, EV_nil, HB2.out⟩
set_option maxHeartbeats 8000000 in
set_option maxRecDepth 100000 in
theorem dual_Pairs.errA (k : Nat) (A0_0 : Option Addr) (c0_0 : Nat) (l0_0 : List (S38)) (A1_0 : Option Addr) (c1_0 : Nat) (l1_0 : List (S38)) (w : World) (hr0_0 : Kd.C k38 w A0_0 l0_0.length l0_0) (hc0_0 : l0_0.length ≤ c0_0) (hr1_0 : Kd.C k38 w A1_0 l1_0.length l1_0) (hc1_0 : l1_0.length ≤ c1_0)  (er : Int × Int) (h1 : cue_CheckDoc.f k l0_0 = some (some er)) :
  Calls Try.prog 16 #[.agg #[.slice A0_0 l0_0.length c0_0], .agg #[.slice A1_0 l1_0.length c1_0]] w fun e w' => ∃ v0_ v1_ : Value, e = .returned (.tuple #[v0_, v1_]) ∧ Kd.R k47 47 w' w.heap.size (fun _ => True) v0_ [] ∧ EV v1_ (some er) ∧ Below w.heap.size w w' := by
 have hu25 := Try.underlying25
 have hu61 := Try.underlying61
 have hu27 := Try.underlying27
 have hu58 := Try.underlying58
 have HR0_0 := Aside0.mk hr0_0
 have HC0_0 := Aside0.mk hc0_0
 clear hr0_0 hc0_0
 have HR1_0 := Aside0.mk hr1_0
 have HC1_0 := Aside0.mk hc1_0
 clear hr1_0 hc1_0
 have HB := Aside0.mk (Below.refl w.heap.size w)
 have H1 := Aside0.mk h1
 clear h1
 go_enter Try.func16, Try.ntmps16
 go_wp2_with (first | ((with_reducible refine gate_dst (N := 2) rfl ?_); refine box_event (by rfl) (N := 2) (by rfl) (cs := #[.slice A0_0 l0_0.length c0_0]) (t := 25) (by first | (go_simp; done) | (go_simp; rfl)) ?_; intro gb325 hg w4 hbox hb; obtain ⟨hb_, hw_⟩ := box_facts (lA HB.out) hg hb; replace HB := Aside0.mk (hb_); have BK325 := Aside0.mk (hbox); have GW325 := Aside0.mk (hw_); have GE325 := Aside0.mk (hw_); clear hb hbox hg hb_ hw_) | ((with_reducible refine gate_dst (N := 3) rfl ?_); refine box_event (by rfl) (N := 3) (by rfl) (cs := #[.slice A1_0 l1_0.length c1_0]) (t := 25) (by first | (go_simp; done) | (go_simp; rfl)) ?_; intro gb326 hg w5 hbox hb; obtain ⟨hb_, hw_⟩ := box_facts (by repeat (first | (with_reducible first | exact HB.out | apply l1 | apply l2 | apply l3 | refine below_set ?_ GE325.out) | exact HB.out)) hg hb; replace HB := Aside0.mk (hb_); have BK326 := Aside0.mk (hbox); have GW326 := Aside0.mk (hw_); have GE326 := Aside0.mk (hw_); have NB325_326 := Aside0.mk ((nL hg BK325.out)); have NB326_325 := Aside0.mk ((nG hg BK325.out)); replace BK325 := Aside0.mk (bB BK325.out hb); clear hb hbox hg hb_ hw_; have CK1 : _ = some (Value.slice A0_0 l0_0.length c0_0) := (blk_cell BK325.out 0).trans rfl; have CK2 : _ = some (Value.slice A1_0 l1_0.length c1_0) := (blk_cell BK326.out 0).trans rfl))
 have hBr : (w5.alloc (Obj.cells #[Value.slice A0_0 l0_0.length c0_0, Value.slice A1_0 l1_0.length c1_0] 25)).heap[w5.heap.size]? = some (.cells #[Value.slice A0_0 l0_0.length c0_0, Value.slice A1_0 l1_0.length c1_0] 25 (0, 0)) := blk_new _ _
 have hB1 := blk_alloc BK325.out (Obj.cells #[Value.slice A0_0 l0_0.length c0_0, Value.slice A1_0 l1_0.length c1_0] 25)
 have hB2 := blk_alloc BK326.out (Obj.cells #[Value.slice A0_0 l0_0.length c0_0, Value.slice A1_0 l1_0.length c1_0] 25)
 have hBB : Below w.heap.size w (w5.alloc (Obj.cells #[Value.slice A0_0 l0_0.length c0_0, Value.slice A1_0 l1_0.length c1_0] 25)) := below_alloc HB.out _
 generalize w5.alloc (Obj.cells #[Value.slice A0_0 l0_0.length c0_0, Value.slice A1_0 l1_0.length c1_0] 25) = wq6 at hBr hB1 hB2 hBB ⊢
 have P0 := Aside0.mk (And.intro hBr (And.intro hB1 (And.intro hB2 hBB)))
 clear hBr hB1 hB2 hBB CK1 CK2 HB BK325 BK326
 generalize w5.heap.size = rr at P0 ⊢
 go_loopg [35] 2 (fun kx v wr => ∃ i : Nat, v = .int .i64 (i : Int) ∧ i + kx = 2 ∧ i ≤ 0 ∧ Aside0 (wr.heap[rr]? = some (.cells #[Value.slice A0_0 l0_0.length c0_0, Value.slice A1_0 l1_0.length c1_0] 25 (0, 0)) ∧ wr.heap[gb325]? = some (.cells #[Value.slice A0_0 l0_0.length c0_0] 25 (0, 0)) ∧ wr.heap[gb326]? = some (.cells #[Value.slice A1_0 l1_0.length c1_0] 25 (0, 0)) ∧ Below w.heap.size w wr))
 case atStart => exact ⟨0, rfl, rfl, Nat.zero_le _, P0⟩
 case round =>
  clear P0
  obtain ⟨i, rfl, hik, hi1, PR⟩ := hrel
  obtain rfl : i = 0 := by omega
  have ck : _ = some (Value.slice A0_0 l0_0.length c0_0) := (blk_cell PR.out.1 0).trans rfl
  go_wp2_with (first | (go_at_call 18; refine (cue_CheckDoc.calls k A0_0 c0_0 l0_0 (some er) _ (Kd.C_below HR0_0.out (below_alloc PR.out.2.2.2 _)) HC0_0.out H1.out).mono ?_; rintro e w8 ⟨v0, rfl, hE, hB8⟩; obtain ⟨eb, rfl⟩ := EV_some hE; have HB9 := Aside0.mk (below_step PR.out.2.2.2 ((below_alloc (Below.refl _ wr) _).trans (hB8.mono (by simp)))); clear hB8 hE ck))
  go_ret2
  exact ⟨_, _, rfl, Kd.R_nil _ _ _ _ _, EV_mk _ _, HB9.out⟩
set_option maxHeartbeats 8000000 in
set_option maxRecDepth 100000 in
theorem dual_Pairs.errB (k : Nat) (A0_0 : Option Addr) (c0_0 : Nat) (l0_0 : List (S38)) (A1_0 : Option Addr) (c1_0 : Nat) (l1_0 : List (S38)) (w : World) (hr0_0 : Kd.C k38 w A0_0 l0_0.length l0_0) (hc0_0 : l0_0.length ≤ c0_0) (hr1_0 : Kd.C k38 w A1_0 l1_0.length l1_0) (hc1_0 : l1_0.length ≤ c1_0)  (er : Int × Int) (h1 : cue_CheckDoc.f k l0_0 = some none) (h2 : cue_CheckDoc.f k l1_0 = some (some er)) :
  Calls Try.prog 16 #[.agg #[.slice A0_0 l0_0.length c0_0], .agg #[.slice A1_0 l1_0.length c1_0]] w fun e w' => ∃ v0_ v1_ : Value, e = .returned (.tuple #[v0_, v1_]) ∧ Kd.R k47 47 w' w.heap.size (fun _ => True) v0_ [] ∧ EV v1_ (some er) ∧ Below w.heap.size w w' := by
 have hu25 := Try.underlying25
 have hu61 := Try.underlying61
 have hu27 := Try.underlying27
 have hu58 := Try.underlying58
 have HR0_0 := Aside0.mk hr0_0
 have HC0_0 := Aside0.mk hc0_0
 clear hr0_0 hc0_0
 have HR1_0 := Aside0.mk hr1_0
 have HC1_0 := Aside0.mk hc1_0
 clear hr1_0 hc1_0
 have HB := Aside0.mk (Below.refl w.heap.size w)
 have H1 := Aside0.mk h1
 have H2 := Aside0.mk h2
 clear h1 h2
 go_enter Try.func16, Try.ntmps16
 go_wp2_with (first | ((with_reducible refine gate_dst (N := 2) rfl ?_); refine box_event (by rfl) (N := 2) (by rfl) (cs := #[.slice A0_0 l0_0.length c0_0]) (t := 25) (by first | (go_simp; done) | (go_simp; rfl)) ?_; intro gb325 hg w4 hbox hb; obtain ⟨hb_, hw_⟩ := box_facts (lA HB.out) hg hb; replace HB := Aside0.mk (hb_); have BK325 := Aside0.mk (hbox); have GW325 := Aside0.mk (hw_); have GE325 := Aside0.mk (hw_); clear hb hbox hg hb_ hw_) | ((with_reducible refine gate_dst (N := 3) rfl ?_); refine box_event (by rfl) (N := 3) (by rfl) (cs := #[.slice A1_0 l1_0.length c1_0]) (t := 25) (by first | (go_simp; done) | (go_simp; rfl)) ?_; intro gb326 hg w5 hbox hb; obtain ⟨hb_, hw_⟩ := box_facts (by repeat (first | (with_reducible first | exact HB.out | apply l1 | apply l2 | apply l3 | refine below_set ?_ GE325.out) | exact HB.out)) hg hb; replace HB := Aside0.mk (hb_); have BK326 := Aside0.mk (hbox); have GW326 := Aside0.mk (hw_); have GE326 := Aside0.mk (hw_); have NB325_326 := Aside0.mk ((nL hg BK325.out)); have NB326_325 := Aside0.mk ((nG hg BK325.out)); replace BK325 := Aside0.mk (bB BK325.out hb); clear hb hbox hg hb_ hw_; have CK1 : _ = some (Value.slice A0_0 l0_0.length c0_0) := (blk_cell BK325.out 0).trans rfl; have CK2 : _ = some (Value.slice A1_0 l1_0.length c1_0) := (blk_cell BK326.out 0).trans rfl))
 have hBr : (w5.alloc (Obj.cells #[Value.slice A0_0 l0_0.length c0_0, Value.slice A1_0 l1_0.length c1_0] 25)).heap[w5.heap.size]? = some (.cells #[Value.slice A0_0 l0_0.length c0_0, Value.slice A1_0 l1_0.length c1_0] 25 (0, 0)) := blk_new _ _
 have hB1 := blk_alloc BK325.out (Obj.cells #[Value.slice A0_0 l0_0.length c0_0, Value.slice A1_0 l1_0.length c1_0] 25)
 have hB2 := blk_alloc BK326.out (Obj.cells #[Value.slice A0_0 l0_0.length c0_0, Value.slice A1_0 l1_0.length c1_0] 25)
 have hBB : Below w.heap.size w (w5.alloc (Obj.cells #[Value.slice A0_0 l0_0.length c0_0, Value.slice A1_0 l1_0.length c1_0] 25)) := below_alloc HB.out _
 generalize w5.alloc (Obj.cells #[Value.slice A0_0 l0_0.length c0_0, Value.slice A1_0 l1_0.length c1_0] 25) = wq6 at hBr hB1 hB2 hBB ⊢
 have P0 := Aside0.mk (And.intro hBr (And.intro hB1 (And.intro hB2 hBB)))
 clear hBr hB1 hB2 hBB CK1 CK2 HB BK325 BK326
 generalize w5.heap.size = rr at P0 ⊢
 go_loopg [35] 2 (fun kx v wr => ∃ i : Nat, v = .int .i64 (i : Int) ∧ i + kx = 2 ∧ i ≤ 1 ∧ Aside0 (wr.heap[rr]? = some (.cells #[Value.slice A0_0 l0_0.length c0_0, Value.slice A1_0 l1_0.length c1_0] 25 (0, 0)) ∧ wr.heap[gb325]? = some (.cells #[Value.slice A0_0 l0_0.length c0_0] 25 (0, 0)) ∧ wr.heap[gb326]? = some (.cells #[Value.slice A1_0 l1_0.length c1_0] 25 (0, 0)) ∧ Below w.heap.size w wr))
 case atStart => exact ⟨0, rfl, rfl, Nat.zero_le _, P0⟩
 case round =>
  clear P0
  obtain ⟨i, rfl, hik, hi1, PR⟩ := hrel
  have hcase : i = 0 ∨ i = 1 := by omega
  rcases hcase with rfl | rfl
  ·have ck : _ = some (Value.slice A0_0 l0_0.length c0_0) := (blk_cell PR.out.1 0).trans rfl
   go_wp2_with (first | (go_at_call 18; refine (cue_CheckDoc.calls k A0_0 c0_0 l0_0 none _ (Kd.C_below HR0_0.out (below_alloc PR.out.2.2.2 _)) HC0_0.out H1.out).mono ?_; rintro e w8 ⟨v0, rfl, hE, hB8⟩; obtain rfl := EV_none hE; have hB9 : Below wr.heap.size wr w8 := (below_alloc (Below.refl _ wr) _).trans (hB8.mono (by simp)); clear hB8 hE ck))
   go_roundg 1
   case measure => omega
   case rel => exact ⟨1, by first | rfl | go_num, by omega, Nat.le_refl _, ⟨blk_below PR.out.1 hB9, blk_below PR.out.2.1 hB9, blk_below PR.out.2.2.1 hB9, below_step PR.out.2.2.2 hB9⟩⟩
  ·have ck : _ = some (Value.slice A1_0 l1_0.length c1_0) := (blk_cell PR.out.1 1).trans rfl
   go_wp2_with (first | (go_at_call 18; refine (cue_CheckDoc.calls k A1_0 c1_0 l1_0 (some er) _ (Kd.C_below HR1_0.out (below_alloc PR.out.2.2.2 _)) HC1_0.out H2.out).mono ?_; rintro e w8 ⟨v0, rfl, hE, hB8⟩; obtain ⟨eb, rfl⟩ := EV_some hE; have HB9 := Aside0.mk (below_step PR.out.2.2.2 ((below_alloc (Below.refl _ wr) _).trans (hB8.mono (by simp)))); clear hB8 hE ck))
   go_ret2
   exact ⟨_, _, rfl, Kd.R_nil _ _ _ _ _, EV_mk _ _, HB9.out⟩
def dual_Pairs.row (k : Nat) (x y : List S66) (n m : Nat) : Option (List (Nat × Nat)) := BP.rowL (shareV x y) (BP.tabAt m (BP.tabI n m (shareV x y) n)) n m k 0 0
def dual_Pairs.told (L : List (Nat × Nat)) : List S47 := L.map fun x => ⟨(x.1 : Int), (x.2 : Int)⟩
def dual_Pairs.f (k : Nat) (l0_0 : List (S38)) (l1_0 : List (S38)) : Option ((List (S47)) × Option (Int × Int)) :=
 (cue_CheckDoc.f k l0_0).bind fun e1 => if e1.isNone = true then ((cue_CheckDoc.f k l1_0).bind fun e2 => if e2.isNone = true then
  (if l0_0.length ≤ 4096 then (if l1_0.length ≤ 4096 then (if (wrap64 ((l0_0.length : Int) * (l1_0.length : Int))) > 1048576 then some (([] : List (S47)), some (0, 2)) else
   ((dual_Pairs_1.f k l0_0).bind fun x => ((dual_Pairs_1.f k l1_0).bind fun y => if x.length = l0_0.length then (if y.length = l1_0.length then ((dual_Pairs.row k x y l0_0.length l1_0.length).bind fun L => some (dual_Pairs.told L, none)) else none) else none))) else none) else none)
  else some (([] : List (S47)), e2)) else some (([] : List (S47)), e1)
theorem dual_Pairs.calls (k : Nat) (A0_0 : Option Addr) (c0_0 : Nat) (l0_0 : List (S38)) (A1_0 : Option Addr) (c1_0 : Nat) (l1_0 : List (S38)) (r1 : List (S47)) (r2 : Option (Int × Int)) (w : World) (hr0_0 : Kd.C k38 w A0_0 l0_0.length l0_0) (hc0_0 : l0_0.length ≤ c0_0) (hr1_0 : Kd.C k38 w A1_0 l1_0.length l1_0) (hc1_0 : l1_0.length ≤ c1_0) (h : dual_Pairs.f k l0_0 l1_0 = some (r1, r2)) :
  Calls Try.prog 16 #[.agg #[.slice A0_0 l0_0.length c0_0], .agg #[.slice A1_0 l1_0.length c1_0]] w fun e w' => ∃ v0_ v1_ : Value, e = .returned (.tuple #[v0_, v1_]) ∧ Kd.R k47 47 w' w.heap.size (fun _ => True) v0_ r1 ∧ EV v1_ r2 ∧ Below w.heap.size w w' := by
 unfold dual_Pairs.f at h
 obtain ⟨e1, h1, h⟩ := Option.bind_eq_some_iff.1 h
 cases e1 with
 | some er =>
  rw [if_neg (by simp)] at h
  have h := Option.some.inj h
  simp only [Prod.mk.injEq] at h
  obtain ⟨rfl, rfl⟩ := h
  exact dual_Pairs.errA k A0_0 c0_0 l0_0 A1_0 c1_0 l1_0 w hr0_0 hc0_0 hr1_0 hc1_0 er h1
 | none =>
  rw [if_pos (show (none : Option (Int × Int)).isNone = true from rfl)] at h
  obtain ⟨e2, h2, h⟩ := Option.bind_eq_some_iff.1 h
  cases e2 with
  | some er =>
   rw [if_neg (by simp)] at h
   have h := Option.some.inj h
   simp only [Prod.mk.injEq] at h
   obtain ⟨rfl, rfl⟩ := h
   exact dual_Pairs.errB k A0_0 c0_0 l0_0 A1_0 c1_0 l1_0 w hr0_0 hc0_0 hr1_0 hc1_0 er h1 h2
  | none =>
   rw [if_pos (show (none : Option (Int × Int)).isNone = true from rfl)] at h
   by_cases hn : l0_0.length ≤ 4096
   case neg => rw [if_neg hn] at h; exact absurd h (by simp)
   rw [if_pos hn] at h
   by_cases hm : l1_0.length ≤ 4096
   case neg => rw [if_neg hm] at h; exact absurd h (by simp)
   rw [if_pos hm] at h
   by_cases c3 : (wrap64 ((l0_0.length : Int) * (l1_0.length : Int))) > 1048576
   ·rw [if_pos c3] at h
    have h := Option.some.inj h
    simp only [Prod.mk.injEq] at h
    obtain ⟨rfl, rfl⟩ := h
    exact dual_Pairs.many k A0_0 c0_0 l0_0 A1_0 c1_0 l1_0 w hr0_0 hc0_0 hr1_0 hc1_0 h1 h2 hn hm (decide_eq_true c3)
   ·rw [if_neg c3] at h
    obtain ⟨x, hx, h⟩ := Option.bind_eq_some_iff.1 h
    obtain ⟨y, hy, h⟩ := Option.bind_eq_some_iff.1 h
    by_cases lx : x.length = l0_0.length
    case neg => rw [if_neg lx] at h; exact absurd h (by simp)
    rw [if_pos lx] at h
    by_cases ly : y.length = l1_0.length
    case neg => rw [if_neg ly] at h; exact absurd h (by simp)
    rw [if_pos ly] at h
    obtain ⟨L, hL, h⟩ := Option.bind_eq_some_iff.1 h
    have h := Option.some.inj h
    simp only [Prod.mk.injEq] at h
    obtain ⟨rfl, rfl⟩ := h
    exact dual_Pairs.ok k A0_0 c0_0 l0_0 A1_0 c1_0 l1_0 w hr0_0 hc0_0 hr1_0 hc1_0 h1 h2 hn hm (decide_eq_false c3) x y hx hy lx ly L hL
end Go.Proofs.Ytlbicmdfdpcdiaa.PDa
