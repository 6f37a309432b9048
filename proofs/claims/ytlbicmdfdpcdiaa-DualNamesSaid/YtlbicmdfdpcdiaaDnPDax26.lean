-- printed
import Derived.Test.YtlbicmdfdpcdiaaDnPDax0
import Derived.Test.YtlbicmdfdpcdiaaDnPDax1
import Derived.Test.YtlbicmdfdpcdiaaDnPDax2
import Derived.Test.YtlbicmdfdpcdiaaDnPDax19
import Derived.Test.YtlbicmdfdpcdiaaDnPDax25
namespace Go.Proofs.Ytlbicmdfdpcdiaa.PDa
open Go.RowKit Go.Proofs.YtlbicmdfdpcdiaaW.PrintWords Go.Proofs.YtlbicmdfdpcdiaaW.PrintLast Go.Proofs.YtlbicmdfdpcdiaaW.PrintMore
attribute [local go_sem] max2_int min2_int max_two min_two max_three min_three max_four min_four
set_option linter.unusedVariables false
set_option linter.unusedSimpArgs false
attribute [local go_sem high] eqA33 eqA47
def surtitlelaw19_SamePairs.l0 : Nat → List (S47) → List (S47) → Int → Option (Bool)
 | 0, _, _, _ => none
 | k + 1, x0, x1, x5 => if x5 < (x0.length : Int) then (if 0 ≤ x5 then (if x5 < (x1.length : Int) then (if (!(((rd_T47 x0 x5).f0) == ((rd_T47 x1 x5).f0)) || (!(((rd_T47 x0 x5).f1) == ((rd_T47 x1 x5).f1)))) = true then (some false) else (surtitlelaw19_SamePairs.l0 k x0 x1 (wrap64 (x5 + 1)))) else (none)) else (none)) else (some true)
def surtitlelaw19_SamePairs.f (k : Nat) (l0 : List (S47)) (l1 : List (S47)) : Option (Bool) := if (l0.length : Int) = (l1.length : Int) then (surtitlelaw19_SamePairs.l0 k l0 l1 0) else (some false)
set_option maxHeartbeats 8000000 in
set_option maxRecDepth 100000 in
theorem surtitlelaw19_SamePairs.calls (k : Nat) (A0 : Option Addr) (c0 : Nat) (l0 : List (S47)) (A1 : Option Addr) (c1 : Nat) (l1 : List (S47)) (r : Bool) (w : World) (hr0 : Kd.C k47 w A0 l0.length l0) (hc0 : l0.length ≤ c0) (hr1 : Kd.C k47 w A1 l1.length l1) (hc1 : l1.length ≤ c1) (h : surtitlelaw19_SamePairs.f k l0 l1 = some r) :
  Calls Try.prog 22 #[.slice A0 l0.length c0, .slice A1 l1.length c1] w fun e w' => e = .returned (.bool r) ∧ Drawn0 w w' := by
 have hu47 := Try.underlying47
 have HR0 := Aside0.mk hr0
 have HC0 := Aside0.mk hc0
 clear hr0 hc0
 have HR1 := Aside0.mk hr1
 have HC1 := Aside0.mk hc1
 clear hr1 hc1
 have H : (if (l0.length : Int) = (l1.length : Int) then (surtitlelaw19_SamePairs.l0 k l0 l1 0) else (some false)) = some r := h
 clear h
 by_cases c3 : (l0.length : Int) = (l1.length : Int)
 ·rw [if_pos c3] at H
  have c3b0 : ((l0.length : Int) == (l1.length : Int)) = true := beq_iff_eq.mpr c3
  have c3b1 : ((l0.length : Int) != (l1.length : Int)) = false := bne_eq_false_iff_eq.mpr c3
  have c3b2 : (l0.length == l1.length) = true := by first | simpa using c3 | (simp at c3 ⊢; omega)
  clear c3
  have H' := Aside0.mk H
  clear H
  go_enter Try.func22, Try.ntmps22
  go_wp2
  repeat (go_quiet (fail); try go_wp2)
  (try simp only [Act.put, List.setIfInBounds_toArray, List.set_cons_zero, List.set_cons_succ])
  go_loopg [5] k (fun kq v5 w' => ∃ (x5_1 : Int), v5 = .int .i64 x5_1 ∧ Aside0 (surtitlelaw19_SamePairs.l0 kq l0 l1 x5_1 = some r) ∧ Aside0 (kq ≤ k) ∧ Drawn0 w w')
  case atStart => exact ⟨(0), (by first | rfl | (simp; done) | (simp [*]; done)), H', ⟨Nat.le_refl _⟩, by repeat (first | exact Drawn0.refl _ | apply Drawn0.step)⟩
  case round =>
   clear H'
   try clear c1
   try clear c2
   try clear p2
   try clear c3
   try clear c3b0
   try clear c3b1
   try clear c3b2
   obtain ⟨x5_1, rfl, HA, HK1, ⟨m1, rfl⟩⟩ := hrel
   cases gk with
   | zero => exact absurd HA.out (by simp [surtitlelaw19_SamePairs.l0])
   | succ k1 =>
    have H := HA.out
    clear HA
    simp only [surtitlelaw19_SamePairs.l0] at H
    by_cases c4 : x5_1 < (l0.length : Int)
    ·rw [if_pos c4] at H
     have c4b0 : decide (x5_1 < (l0.length : Int)) = true := decide_eq_true c4
     clear c4
     by_cases c5 : 0 ≤ x5_1
     ·rw [if_pos c5] at H
      have c5b0 : decide (0 ≤ x5_1) = true := decide_eq_true c5
      clear c5
      by_cases c6 : x5_1 < (l1.length : Int)
      ·rw [if_pos c6] at H
       have c6b0 : decide (x5_1 < (l1.length : Int)) = true := decide_eq_true c6
       clear c6
       by_cases c7 : (!(((rd_T47 l0 x5_1).f0) == ((rd_T47 l1 x5_1).f0)) || (!(((rd_T47 l0 x5_1).f1) == ((rd_T47 l1 x5_1).f1)))) = true
       ·rw [if_pos c7] at H
        have c7b0 : (!(((rd_T47 l0 x5_1).f0) == ((rd_T47 l1 x5_1).f0)) || (!(((rd_T47 l0 x5_1).f1) == ((rd_T47 l1 x5_1).f1)))) = true := c7
        clear c7
        obtain rfl := Option.some.inj H
        have p351 : 0 ≤ (x5_1 : Int) := of_decide_eq_true (by first | (with_reducible assumption) | assumption)
        have q351 : x5_1 < (l0.length : Int) := of_decide_eq_true (by first | (with_reducible assumption) | assumption)
        obtain ⟨ad351, e351, hx351_0, hx351_1⟩ := at_T47 HR0.out x5_1 p351 q351
        cases e351
        replace p351 := eq_true p351
        replace q351 := eq_true q351
        have p352 : 0 ≤ (x5_1 : Int) := of_decide_eq_true (by first | (with_reducible assumption) | assumption)
        have q352 : x5_1 < (l1.length : Int) := of_decide_eq_true (by first | (with_reducible assumption) | assumption)
        obtain ⟨ad352, e352, hx352_0, hx352_1⟩ := at_T47 HR1.out x5_1 p352 q352
        cases e352
        replace p352 := eq_true p352
        replace q352 := eq_true q352
        go_wp2
        repeat (go_quiet (fail); try go_wp2)
        go_ret
        exact ⟨by first | rfl | (simp; done) | (simp [*]; done), by repeat (first | exact Drawn0.refl _ | apply Drawn0.step)⟩
       ·rw [if_neg c7] at H
        have c7b0 : (!(((rd_T47 l0 x5_1).f0) == ((rd_T47 l1 x5_1).f0)) || (!(((rd_T47 l0 x5_1).f1) == ((rd_T47 l1 x5_1).f1)))) = false := by simpa using c7
        clear c7
        have H' := Aside0.mk H
        clear H
        have p351 : 0 ≤ (x5_1 : Int) := of_decide_eq_true (by first | (with_reducible assumption) | assumption)
        have q351 : x5_1 < (l0.length : Int) := of_decide_eq_true (by first | (with_reducible assumption) | assumption)
        obtain ⟨ad351, e351, hx351_0, hx351_1⟩ := at_T47 HR0.out x5_1 p351 q351
        cases e351
        replace p351 := eq_true p351
        replace q351 := eq_true q351
        have p352 : 0 ≤ (x5_1 : Int) := of_decide_eq_true (by first | (with_reducible assumption) | assumption)
        have q352 : x5_1 < (l1.length : Int) := of_decide_eq_true (by first | (with_reducible assumption) | assumption)
        obtain ⟨ad352, e352, hx352_0, hx352_1⟩ := at_T47 HR1.out x5_1 p352 q352
        cases e352
        replace p352 := eq_true p352
        replace q352 := eq_true q352
        go_wp2
        repeat (go_quiet (fail); try go_wp2)
        go_roundg k1
        case measure => have := HK1.out; omega
        case rel => exact ⟨(wrap64 (x5_1 + 1)), (by first | rfl | (simp; done) | (simp [*]; done)), H', ⟨by have := HK1.out; omega⟩, by repeat (first | exact Drawn0.refl _ | apply Drawn0.step)⟩
      ·rw [if_neg c6] at H
       exact absurd H (by simp)
     ·rw [if_neg c5] at H
      exact absurd H (by simp)
    ·rw [if_neg c4] at H
     have c4b0 : decide (x5_1 < (l0.length : Int)) = false := decide_eq_false c4
     clear c4
     obtain rfl := Option.some.inj H
     go_wp2
     repeat (go_quiet (fail); try go_wp2)
     go_ret
     exact ⟨by first | rfl | (simp; done) | (simp [*]; done), by repeat (first | exact Drawn0.refl _ | apply Drawn0.step)⟩
 ·rw [if_neg c3] at H
  have c3b0 : ((l0.length : Int) == (l1.length : Int)) = false := beq_eq_false_iff_ne.mpr c3
  have c3b1 : ((l0.length : Int) != (l1.length : Int)) = true := bne_iff_ne.mpr c3
  have c3b2 : (l0.length == l1.length) = false := by first | simpa using c3 | (simp at c3 ⊢; omega)
  obtain rfl := Option.some.inj H
  go_enter Try.func22, Try.ntmps22
  go_wp2
  repeat (go_quiet (fail); try go_wp2)
  go_ret
  exact ⟨by first | rfl | (simp; done) | (simp [*]; done), by repeat (first | exact Drawn0.refl _ | apply Drawn0.step)⟩
def surtitlelaw19_cues.l0 : Nat → List Int → Int → List (S38) → Option ((List (S38)))
 | 0, _, _, _ => none
 | k + 1, x0, x4, x355000 => if (wrap64 (x4 + 1)) < (x0.length : Int) then (if 0 ≤ x4 then (if x4 < (x0.length : Int) then (if 0 ≤ (wrap64 (x4 + 1)) then (if x355000.length < 1353245080339 then (surtitlelaw19_cues.l0 k x0 (wrap64 (x4 + 2)) (x355000 ++ [(⟨(⟨rd x0 x4, 1⟩ : S33), (⟨rd x0 (wrap64 (x4 + 1)), 1⟩ : S33), 0, 0, (⟨#[]⟩ : ByteArray), (⟨(⟨#[]⟩ : ByteArray), ([] : List (S79))⟩ : S36)⟩ : S38)])) else (none)) else (none)) else (none)) else (none)) else (some x355000)
def surtitlelaw19_cues.f (k : Nat) (l0 : List Int) : Option ((List (S38))) := surtitlelaw19_cues.l0 k l0 0 ([] : List (S38))
def surtitlelaw19_cues.T5 : Bool × List (List Nat × List Nat) := (true, [([], []), ([0], [0]), ([], []), ([], []), ([2, 3], [2, 3]), ([4], [4]), ([5], [5]), ([], []), ([], []), ([8], [8]), ([7, 9], [7, 9]), ([10], [10]), ([11], [11]), ([6, 12], [6, 12]), ([13], [13]), ([1, 14], [1, 14]), ([0, 1, 2, 3, 4, 5, 6, 7, 8, 9, 10, 11, 12, 13, 14, 15], []), ([16, 15, 15, 0, 1, 2, 3, 4, 5, 6, 7, 8, 9, 10, 11, 12, 13, 14, 15], [15, 16])])
def surtitlelaw19_cues.B5 : List Nat := [0, 1, 0, 0, 12, 28, 60, 0, 0, 256, 896, 1920, 3968, 8188, 16380, 32767, 65535, 131071]
theorem surtitlelaw19_cues.tab5 : rtab .any (opsOf Try.f26 5) = surtitlelaw19_cues.T5 := by kernel_rfl
theorem surtitlelaw19_cues.bits5 : waitsOk surtitlelaw19_cues.T5.2 surtitlelaw19_cues.B5 = true := by kernel_rfl
set_option maxHeartbeats 8000000 in
set_option maxRecDepth 100000 in
theorem surtitlelaw19_cues.calls (k : Nat) (A0 : Option Addr) (c0 : Nat) (l0 : List Int) (r : List (S38)) (w : World) (hr0 : Kd.C (Kd.int .i64) w A0 l0.length l0) (hc0 : l0.length ≤ c0) (h : surtitlelaw19_cues.f k l0 = some r) :
  Calls Try.prog 26 #[.slice A0 l0.length c0] w fun e w' => ∃ v0_ : Value, e = .returned (.agg #[v0_]) ∧ Kd.S k38 38 w' w.heap.size (fun _ => True) v0_ r ∧ Below w.heap.size w w' := by
 have hu25 := Try.underlying25
 have hu33 := Try.underlying33
 have hu38 := Try.underlying38
 have HR0 := Aside0.mk hr0
 have HC0 := Aside0.mk hc0
 clear hr0 hc0
 have HB := Aside0.mk (Below.refl w.heap.size w)
 have H : (surtitlelaw19_cues.l0 k l0 0 ([] : List (S38))) = some r := h
 clear h
 have H' := Aside0.mk H
 clear H
 go_enter Try.func26, Try.ntmps26
 go_wp2_with (first | ((with_reducible refine gate_dst (N := 2) rfl ?_); refine box_event (by rfl) (N := 2) (by rfl) (cs := #[.slice none 0 0]) (t := 25) (by first | (go_simp; done) | (go_simp; rfl)) ?_; intro gb353 hg w2 hbox hb; obtain ⟨hb_, hw_⟩ := box_facts (lA HB.out) hg hb; replace HB := Aside0.mk (hb_); have BK353 := Aside0.mk (hbox); have GW353 := Aside0.mk (hw_); have GE353 := Aside0.mk (hw_); clear hb hbox hg hb_ hw_) | ((with_reducible refine gate_dst (N := 3) rfl ?_); refine box_event (by rfl) (N := 3) (by rfl) (cs := #[.slice none 0 0]) (t := 25) (by first | (go_simp; done) | (go_simp; rfl)) ?_; intro gb354 hg w3 hbox hb; obtain ⟨hb_, hw_⟩ := box_facts (by repeat (first | (with_reducible first | exact HB.out | apply l1 | apply l2 | apply l3 | refine below_set ?_ GE353.out) | exact HB.out)) hg hb; replace HB := Aside0.mk (hb_); have BK354 := Aside0.mk (hbox); have GW354 := Aside0.mk (hw_); have GE354 := Aside0.mk (hw_); have NB353_354 := Aside0.mk ((nL hg BK353.out)); have NB354_353 := Aside0.mk ((nG hg BK353.out)); replace BK353 := Aside0.mk (bB BK353.out hb); clear hb hbox hg hb_ hw_))
 (try simp only [Act.put, List.setIfInBounds_toArray, List.set_cons_zero, List.set_cons_succ])
 go_loopg [4] k (fun kq v4 w' => ∃ (x4_1 : Int) (x355000_1 : List (S38)) (u355000 : Value), v4 = .int .i64 x4_1 ∧ Aside0 (surtitlelaw19_cues.l0 kq l0 x4_1 x355000_1 = some r) ∧ Aside0 (kq ≤ k) ∧ Aside0 (Kd.S k38 38 w' w.heap.size (fun _ => True) u355000 x355000_1) ∧ Aside0 (w'.heap[gb353]? = some (.cells #[(.slice none 0 0)] 25 (0, 0))) ∧ Aside0 (w'.heap[gb354]? = some (.cells #[u355000] 25 (0, 0))) ∧ Aside0 (Below w.heap.size w w'))
 case atStart => exact ⟨(0), (([] : List (S38))), (.slice none 0 0), (by first | rfl | (simp; done) | (simp [*]; done)), H', ⟨Nat.le_refl _⟩, ⟨by first | exact Kd.S_nil _ _ _ _ _ | exact Kd.N_nil _ _ _ _ _ | exact Kd.V_nil _ _ _ _ _ | exact Kd.Q_nil _ _ _ _ _ | exact Kd.R_nil _ _ _ _ _⟩, ⟨by (with_reducible repeat (first | apply b1 | apply b2 | apply b3)); exact BK353.out⟩, ⟨by (with_reducible repeat (first | apply b1 | apply b2 | apply b3)); exact BK354.out⟩, ⟨by repeat (first | (with_reducible first | exact HB.out | apply l1 | apply l2 | apply l3 | refine below_set ?_ GE353.out | refine below_set ?_ GE354.out) | exact HB.out)⟩⟩
 case round =>
  clear H'
  try clear c2
  try clear p2
  obtain ⟨x4_1, x355000_1, u355000, rfl, HA, HK1, HO_355000, BK353, BK354, HB⟩ := hrel
  cases gk with
  | zero => exact absurd HA.out (by simp [surtitlelaw19_cues.l0])
  | succ k1 =>
   have H := HA.out
   clear HA
   simp only [surtitlelaw19_cues.l0] at H
   by_cases c4 : (wrap64 (x4_1 + 1)) < (l0.length : Int)
   ·rw [if_pos c4] at H
    have c4b0 : decide ((wrap64 (x4_1 + 1)) < (l0.length : Int)) = true := decide_eq_true c4
    clear c4
    by_cases c5 : 0 ≤ x4_1
    ·rw [if_pos c5] at H
     have c5b0 : decide (0 ≤ x4_1) = true := decide_eq_true c5
     clear c5
     by_cases c6 : x4_1 < (l0.length : Int)
     ·rw [if_pos c6] at H
      have c6b0 : decide (x4_1 < (l0.length : Int)) = true := decide_eq_true c6
      clear c6
      obtain ⟨ji7, hji7⟩ : ∃ j_ : Int, (wrap64 (x4_1 + 1)) = j_ := ⟨_, rfl⟩
      replace H : (if 0 ≤ (ji7) then (if x355000_1.length < 1353245080339 then (surtitlelaw19_cues.l0 k1 l0 (wrap64 (x4_1 + 2)) (x355000_1 ++ [(⟨(⟨rd l0 x4_1, 1⟩ : S33), (⟨rd l0 (ji7), 1⟩ : S33), 0, 0, (⟨#[]⟩ : ByteArray), (⟨(⟨#[]⟩ : ByteArray), ([] : List (S79))⟩ : S36)⟩ : S38)])) else (none)) else (none)) = some r := by first | (rw [hji7] at H; exact H) | (simp only [hji7] at H ⊢; exact H)
      (try rw [hji7] at c4b0)
      have hji7w : (IntKind.i64.wrap (x4_1 + 1)) = ji7 := (i64_w _).trans hji7
      by_cases c8 : 0 ≤ (ji7)
      ·rw [if_pos c8] at H
       have c8b0 : decide (0 ≤ (ji7)) = true := decide_eq_true c8
       clear c8
       by_cases c9 : x355000_1.length < 1353245080339
       ·rw [if_pos c9] at H
        have LMc9 := Aside0.mk c9
        clear c9
        obtain ⟨y357, hy357⟩ : ∃ y_ : List (S38), y_ = (x355000_1 ++ [(⟨(⟨rd l0 x4_1, 1⟩ : S33), (⟨rd l0 (ji7), 1⟩ : S33), 0, 0, (⟨#[]⟩ : ByteArray), (⟨(⟨#[]⟩ : ByteArray), ([] : List (S79))⟩ : S36)⟩ : S38)]) := ⟨_, rfl⟩
        replace H : (surtitlelaw19_cues.l0 k1 l0 (wrap64 (x4_1 + 2)) y357) = some r := by first | (rw [hy357]; with_reducible exact H) | (have H2_ := (Option.bind_some _ _).symm.trans H; rw [hy357]; with_reducible exact H2_) | (have H2_ := (Option.bind_some _ _).symm.trans H; with_reducible exact H2_) | with_reducible exact H | (rw [hy357]; exact H) | exact H
        have Ny357 := Aside0.mk hy357
        clear hy357
        have H' := Aside0.mk H
        clear H
        try go_wp2
        replace HO_355000 := Aside0.mk (Kd.S_drew HO_355000.out)
        replace BK353 := Aside0.mk (blk_drew BK353.out)
        replace BK354 := Aside0.mk (blk_drew BK354.out)
        replace HB := Aside0.mk (below_drew1 HB.out)
        have p355 : 0 ≤ (x4_1 : Int) := of_decide_eq_true (by first | (with_reducible assumption) | assumption)
        have q355 : x4_1 < (l0.length : Int) := of_decide_eq_true (by first | (with_reducible assumption) | assumption)
        obtain ⟨ad355, e355, hx355_0⟩ := Kd.at_int HR0.out x4_1 p355 q355
        have hw355_0 := hx355_0
        cases e355
        replace hx355_0 := (HB.out.cell (World.block_lt_of_cell? w _ hx355_0)).trans hx355_0
        replace p355 := eq_true p355
        replace q355 := eq_true q355
        have p356 : 0 ≤ ((ji7) : Int) := of_decide_eq_true (by first | (with_reducible assumption) | assumption)
        have q356 : (ji7) < (l0.length : Int) := of_decide_eq_true (by first | (with_reducible assumption) | assumption)
        obtain ⟨ad356, e356, hx356_0⟩ := Kd.at_int HR0.out (ji7) p356 q356
        have hw356_0 := hx356_0
        obtain rfl : ad355 = ad356 := (by injection e356)
        replace hx356_0 := (HB.out.cell (World.block_lt_of_cell? w _ hx356_0)).trans hx356_0
        replace p356 := eq_true p356
        replace q356 := eq_true q356
        refine start_ (n := 18) (S := fun w' => w'.cell? ⟨gb354, 0, none⟩ = some (u355000) ∧ w'.cell? (ad355.add (x4_1).toNat) = some (.int .i64 (rd l0 x4_1)) ∧ w'.cell? (ad355.add ((ji7)).toNat) = some (.int .i64 (rd l0 (ji7)))) (ds := [17]) #[false, false, false, false, false, false, false, false, false, false, false, false, false, false, false, false, false, false] (by kernel_rfl) rfl rfl ⟨(blk_cell BK354.out 0).trans rfl, ((HB.out.cell (World.block_lt_of_cell? w _ hw355_0)).trans hw355_0), ((HB.out.cell (World.block_lt_of_cell? w _ hw356_0)).trans hw356_0)⟩ (fun hHeld => ?_); refine with_tabW surtitlelaw19_cues.tab5 surtitlelaw19_cues.bits5 (fun HT_ HW_ => ?_)
        generalize wr.drew = w10 at HO_355000 BK353 BK354 HB hx355_0 hx356_0 hHeld ⊢
        refine sched [(0, some 12), (2, some 14), (3, some 15), (4, some 16), (7, some 19), (8, some 20), (9, some 21), (10, some 22), (1, some 13), (5, some 17), (6, some 18), (11, some 23), (12, some 24), (13, some 25)] ?_
        iterate 14 first
         |(refine pureS (v := ?_) (a' := ?_) rfl rfl (any_of HT_.out (by kernel_rfl)) (fun _ _ _ h => h) (Or.inl ⟨by rfl, ?_⟩) ?_ ?_
           rotate_left
           ·intro w'
            go_simp
            with_reducible rfl
           rotate_left
           ·simp only [Act.put, List.setIfInBounds_toArray, List.set_cons_zero, List.set_cons_succ, i64_w, i32_w]
            rfl)
         |(refine takeS (v := ?_) (a' := ?_) rfl rfl (take_ofW HT_.out HW_.out (by kernel_rfl)) (fun _ _ _ h => h) (Or.inl ⟨by rfl, ?_⟩) hHeld ?_ ?_
           rotate_left
           ·rintro w' ⟨s0, s1, s2⟩
            go_simp
            with_reducible rfl
           rotate_left
           ·simp only [Act.put, List.setIfInBounds_toArray, List.set_cons_zero, List.set_cons_succ, i64_w, i32_w]
            rfl)
        refine unsched ?_
        refine one_ (i := 14) (N := some 26) #[true, true, true, true, true, true, true, true, true, true, true, true, true, true, true, false, false, false] rfl rfl (one_of HT_.out (by kernel_rfl)) (by decide) (fun K hK => ?_)
        refine value_ (w1 := ?_) (v := ?_) (by rfl) rfl ?_ ?_
        rotate_left 2
        ·go_simp
         constructor
         ·rfl
         ·rfl
        refine hK.out _ _ ⟨(blk_cell (blk_alloc BK354.out _) 0).trans rfl, (World.cell?_alloc_lt _ _ _ (World.block_lt_of_cell? _ _ (((HB.out.cell (World.block_lt_of_cell? w _ hw355_0)).trans hw355_0)))).trans (((HB.out.cell (World.block_lt_of_cell? w _ hw355_0)).trans hw355_0)), (World.cell?_alloc_lt _ _ _ (World.block_lt_of_cell? _ _ (((HB.out.cell (World.block_lt_of_cell? w _ hw356_0)).trans hw356_0)))).trans (((HB.out.cell (World.block_lt_of_cell? w _ hw356_0)).trans hw356_0))⟩ (fun hHeld => ?_)
        clear hK K
        refine norm_ (a' := ?_) ?_ ?_
        rotate_left
        ·show Act.put _ (some 26) _ = _
         simp only [Act.put, List.setIfInBounds_toArray, List.set_cons_zero, List.set_cons_succ, i64_w, i32_w]
         rfl
        refine one_ (i := 15) (N := some 27) #[true, true, true, true, true, true, true, true, true, true, true, true, true, true, true, true, false, false] rfl rfl (one_of HT_.out (by kernel_rfl)) (by decide) (fun K hK => ?_)
        refine Kd.S_append_step k38 (w0 := w) w.heap.size (by rfl) (.tmp 13) (.tmp 26) 23 38 (.agg #[(.int .i64 0), (.int .i64 0), (.int .i64 0), (.int .i64 0), (.int .i64 0), (.int .i64 0), (.string ⟨#[]⟩), (.string ⟨#[]⟩), (.slice none 0 0)]) 104 rfl Try.underlying23 info38 rfl (by decide) (by omega) u355000 x355000_1 (⟨(⟨rd l0 x4_1, 1⟩ : S33), (⟨rd l0 (ji7), 1⟩ : S33), 0, 0, (⟨#[]⟩ : ByteArray), (⟨(⟨#[]⟩ : ByteArray), ([] : List (S79))⟩ : S36)⟩ : S38) [.int .i64 (rd l0 x4_1), .int .i64 1, .int .i64 (rd l0 (ji7)), .int .i64 1, .int .i64 0, .int .i64 0, .string (⟨#[]⟩ : ByteArray), .string (⟨#[]⟩ : ByteArray), .slice none 0 0] (fun _ => True) (fun _ => False) rfl rfl ?aP (fun k_ hk_ => hk_.elim) ?aF ?aO ?aB ?aS ?aL ?_
        (case aP => exact k38_mkM _ _ _ (⟨(⟨rd l0 x4_1, 1⟩ : S33), (⟨rd l0 (ji7), 1⟩ : S33), 0, 0, (⟨#[]⟩ : ByteArray), (⟨(⟨#[]⟩ : ByteArray), ([] : List (S79))⟩ : S36)⟩ : S38) (Kd.R_nil _ _ _ _ _))
        (case aB => exact (by repeat (first | (with_reducible first | exact HB.out | apply l1 | apply l2 | apply l3 | refine below_set ?_ GE353.out | refine below_set ?_ GE354.out) | exact HB.out)))
        (case aF => exact (fun _ _ => trivial))
        (case aO => exact (by (with_reducible repeat (first | apply Kd.S_alloc | apply Kd.S_drewN | apply Kd.S_drew)); exact Kd.S_mono HO_355000.out (fun k_ hk => ⟨trivial, fun e_ => e_⟩)))
        (case aS => exact (below_size (by repeat (first | (with_reducible first | exact HB.out | apply l1 | apply l2 | apply l3 | refine below_set ?_ GE353.out | refine below_set ?_ GE354.out) | exact HB.out))))
        (case aL => have := LMc9.out; omega)
        intro v358 w11 ho hb hg hat
        rw [← Ny357.out] at ho
        have n0_ := Aside0.mk (blk_grown (g := gb353) (o := .cells #[.slice none 0 0] 25 (0, 0)) (bA BK353.out) hg (Kd.S_ne HO_355000.out BK353.out (by decide)))
        have n1_ := Aside0.mk (blk_grown (g := gb354) (o := .cells #[u355000] 25 (0, 0)) (bA BK354.out) hg (Kd.S_ne HO_355000.out BK354.out (by decide)))
        have n2_ := Aside0.mk (hb)
        have n3_ := Aside0.mk (ho)
        clear BK353
        clear BK354
        clear HB
        clear HO_355000
        have BK353 := n0_
        have BK354 := n1_
        have HB := n2_
        have HO359 := n3_
        clear n0_ n1_ n2_ n3_
        clear ho hb hg hat
        obtain ⟨Ao12, co12, eo12⟩ := Kd.S_slice HO359.out
        (first | subst eo12 | (injection eo12 with f1_ f2_ f3_; have f4_ := f1_.symm; have f5_ := f3_.symm; clear f1_ f2_ f3_; subst f4_; subst f5_))
        refine hK.out _ _ ⟨(blk_cell BK354.out 0).trans rfl, ((HB.out.cell (World.block_lt_of_cell? w _ hw355_0)).trans hw355_0), ((HB.out.cell (World.block_lt_of_cell? w _ hw356_0)).trans hw356_0)⟩ (fun hHeld => ?_)
        clear hK K
        refine norm_ (a' := ?_) ?_ ?_
        rotate_left
        ·show Act.put _ (some 27) _ = _
         simp only [Act.put, List.setIfInBounds_toArray, List.set_cons_zero, List.set_cons_succ, i64_w, i32_w]
         rfl
        refine pure_ (i := 16) (N := some 28) (v := ?_) (a' := ?_) #[true, true, true, true, true, true, true, true, true, true, true, true, true, true, true, true, true, false] rfl rfl (any_of HT_.out (by kernel_rfl)) (fun _ _ _ h => h) (Or.inl ⟨by rfl, ?_⟩) ?_ ?_
        rotate_left
        ·intro w'
         go_simp
         with_reducible rfl
        rotate_left
        ·simp only [Act.put, List.setIfInBounds_toArray, List.set_cons_zero, List.set_cons_succ, i64_w, i32_w]
         rfl
        refine last_ (i := 17) (N := none) #[true, true, true, true, true, true, true, true, true, true, true, true, true, true, true, true, true, true] rfl rfl (one_of HT_.out (by kernel_rfl)) (by decide) (fun K hK => ?_)
        have hs13 : w11.cell? ⟨gb354, 0, none⟩ = some (u355000) := (blk_cell BK354.out 0).trans rfl
        have hfs13 := blk_frozen BK354.out 0
        have hns13_0 := NB353_354.out
        have hms13_0 := NB354_353.out
        refine skip_ (w1 := ?_) (by rfl) rfl ?_ ?_
        rotate_left
        ·go_simp
         rfl
        refine hK.out _ _ ?_
        clear hK K
        refine done_ (done_of HT_.out (by kernel_rfl)) ?_
        try go_wp2
        go_roundg k1
        case measure => have := HK1.out; omega
        case rel => exact ⟨(wrap64 (x4_1 + 2)), (y357), (.slice Ao12 y357.length co12), (by first | rfl | (simp; done) | (simp [*]; done)), H', ⟨by have := HK1.out; omega⟩, ⟨by (with_reducible repeat (first | apply Kd.S_alloc | apply Kd.S_drewN | apply Kd.S_drew)); exact Kd.S_mono (Kd.S_far (p := ⟨gb354, 0, none⟩) (Kd.S_types HO359.out BK354.out (by decide)) (fun _ hk => hk.2) (.slice Ao12 y357.length co12)) (fun _ hk => trivial)⟩, ⟨by (with_reducible repeat (first | apply b1 | apply b2 | apply b3)); refine blk_far ?_ NB353_354.out _; (with_reducible repeat (first | apply b1 | apply b2 | apply b3)); exact BK353.out⟩, ⟨by (with_reducible repeat (first | apply b1 | apply b2 | apply b3)); refine blk_put (cs := #[u355000]) ?_ 0 _ rfl; (with_reducible repeat (first | apply b1 | apply b2 | apply b3)); exact BK354.out⟩, ⟨by repeat (first | (with_reducible first | exact HB.out | apply l1 | apply l2 | apply l3 | refine below_set ?_ GE353.out | refine below_set ?_ GE354.out) | exact HB.out)⟩⟩
       ·rw [if_neg c9] at H
        exact absurd H (by simp)
      ·rw [if_neg c8] at H
       exact absurd H (by simp)
     ·rw [if_neg c6] at H
      exact absurd H (by simp)
    ·rw [if_neg c5] at H
     exact absurd H (by simp)
   ·rw [if_neg c4] at H
    have c4b0 : decide ((wrap64 (x4_1 + 1)) < (l0.length : Int)) = false := decide_eq_false c4
    clear c4
    obtain rfl := Option.some.inj H
    have hnb14 := NB354_353.out
    have hnc14 := NB353_354.out
    obtain ⟨hcz15_0, hfz15_0⟩ := blk_cells1 BK354.out
    obtain ⟨Ao16, co16, eo16⟩ := Kd.S_slice HO_355000.out
    subst eo16
    obtain ⟨hcz17_0, hfz17_0⟩ := blk_cells1 BK353.out
    go_wp2
    refine bodyPost_ret (results_cell_row rfl _ _ gb353 25 #[.slice Ao16 x355000_1.length co16] (0, 0) _ rfl (by (with_reducible repeat (first | apply b1 | apply b2 | apply b3)); refine blk_put (cs := #[.slice none 0 0]) ?_ 0 _ rfl; (with_reducible repeat (first | apply b1 | apply b2 | apply b3)); exact BK353.out) Try.underlying25 rfl (by kernel_rfl)) rfl ?_
    exact ⟨_, by first | rfl | (simp [errW_none, errW_some] <;> rfl) | (simp [*, errW_none, errW_some] <;> rfl), by (with_reducible repeat (first | apply Kd.S_alloc | apply Kd.S_drewN | apply Kd.S_drew)); exact Kd.S_mono (Kd.S_far (p := ⟨gb353, 0, none⟩) (Kd.S_types HO_355000.out BK353.out (by decide)) (fun _ hk => hk.2) (.slice Ao16 x355000_1.length co16)) (fun _ hk => trivial), by repeat (first | (with_reducible first | exact HB.out | apply l1 | apply l2 | apply l3 | refine below_set ?_ GE353.out | refine below_set ?_ GE354.out) | exact HB.out)⟩
def surtitlelaw19_head.f (k : Nat)  : Option (Bool) := (surtitlelaw19_cues.f k (([0, 2, 2, 4] : List Int))).bind fun t363 => ((surtitlelaw19_cues.f k (([0, 1, 1, 4] : List Int))).bind fun t370 => ((dual_Pairs.f k t363 t370).bind fun bt374 => ((dual_Merge.f k t363 t370).bind fun bt380 => (if bt374.2.isNone = true then (if bt380.2.isNone = true then ((surtitlelaw19_SamePairs.f k bt374.1 (([(⟨0, 0⟩ : S47), (⟨1, 1⟩ : S47)] : List (S47)))).bind fun t392 => (if t392 = true then (if (bt380.1.length : Int) = 4 then (if 1 < (bt380.1.length : Int) then (if ((rd_T38 bt380.1 1).f3) = 1 then (if 3 < (bt380.1.length : Int) then (some (((rd_T38 bt380.1 3).f0.f0) == 2 && (((rd_T38 bt380.1 3).f0.f1) == 1))) else (none)) else (some false)) else (none)) else (some false)) else (some false))) else (some false)) else (some false)))))
set_option maxHeartbeats 8000000 in
set_option maxRecDepth 100000 in
theorem surtitlelaw19_head.calls (k : Nat)  (r : Bool) (w : World) (h : surtitlelaw19_head.f k  = some r) :
  Calls Try.prog 12 #[] w fun e w' => e = .returned (.bool r) ∧ Below w.heap.size w w' := by
 have hu25 := Try.underlying25
 have hu47 := Try.underlying47
 have hu33 := Try.underlying33
 have hu27 := Try.underlying27
 have hu58 := Try.underlying58
 have HB := Aside0.mk (Below.refl w.heap.size w)
 have H : ((surtitlelaw19_cues.f k (([0, 2, 2, 4] : List Int))).bind fun t363 => ((surtitlelaw19_cues.f k (([0, 1, 1, 4] : List Int))).bind fun t370 => ((dual_Pairs.f k t363 t370).bind fun bt374 => ((dual_Merge.f k t363 t370).bind fun bt380 => (if bt374.2.isNone = true then (if bt380.2.isNone = true then ((surtitlelaw19_SamePairs.f k bt374.1 (([(⟨0, 0⟩ : S47), (⟨1, 1⟩ : S47)] : List (S47)))).bind fun t392 => (if t392 = true then (if (bt380.1.length : Int) = 4 then (if 1 < (bt380.1.length : Int) then (if ((rd_T38 bt380.1 1).f3) = 1 then (if 3 < (bt380.1.length : Int) then (some (((rd_T38 bt380.1 3).f0.f0) == 2 && (((rd_T38 bt380.1 3).f0.f1) == 1))) else (none)) else (some false)) else (none)) else (some false)) else (some false))) else (some false)) else (some false)))))) = some r := h
 clear h
 obtain ⟨y360, hy360⟩ : ∃ y_ : List Int, y_ = (([0, 2, 2, 4] : List Int)) := ⟨_, rfl⟩
 replace H : ((surtitlelaw19_cues.f k y360).bind fun t363 => ((surtitlelaw19_cues.f k (([0, 1, 1, 4] : List Int))).bind fun t370 => ((dual_Pairs.f k t363 t370).bind fun bt374 => ((dual_Merge.f k t363 t370).bind fun bt380 => (if bt374.2.isNone = true then (if bt380.2.isNone = true then ((surtitlelaw19_SamePairs.f k bt374.1 (([(⟨0, 0⟩ : S47), (⟨1, 1⟩ : S47)] : List (S47)))).bind fun t392 => (if t392 = true then (if (bt380.1.length : Int) = 4 then (if 1 < (bt380.1.length : Int) then (if ((rd_T38 bt380.1 1).f3) = 1 then (if 3 < (bt380.1.length : Int) then (some (((rd_T38 bt380.1 3).f0.f0) == 2 && (((rd_T38 bt380.1 3).f0.f1) == 1))) else (none)) else (some false)) else (none)) else (some false)) else (some false))) else (some false)) else (some false)))))) = some r := by first | (rw [hy360]; with_reducible exact H) | (have H2_ := (Option.bind_some _ _).symm.trans H; rw [hy360]; with_reducible exact H2_) | (have H2_ := (Option.bind_some _ _).symm.trans H; with_reducible exact H2_) | with_reducible exact H | (rw [hy360]; exact H) | exact H
 have Ny360 := Aside0.mk hy360
 clear hy360
 replace H := Option.bind_eq_some_iff.mp H
 obtain ⟨t363, A10, H⟩ := H
 (try dsimp only at H)
 have A1 := Aside0.mk A10
 clear A10
 obtain ⟨y367, hy367⟩ : ∃ y_ : List Int, y_ = (([0, 1, 1, 4] : List Int)) := ⟨_, rfl⟩
 replace H : ((surtitlelaw19_cues.f k y367).bind fun t370 => ((dual_Pairs.f k t363 t370).bind fun bt374 => ((dual_Merge.f k t363 t370).bind fun bt380 => (if bt374.2.isNone = true then (if bt380.2.isNone = true then ((surtitlelaw19_SamePairs.f k bt374.1 (([(⟨0, 0⟩ : S47), (⟨1, 1⟩ : S47)] : List (S47)))).bind fun t392 => (if t392 = true then (if (bt380.1.length : Int) = 4 then (if 1 < (bt380.1.length : Int) then (if ((rd_T38 bt380.1 1).f3) = 1 then (if 3 < (bt380.1.length : Int) then (some (((rd_T38 bt380.1 3).f0.f0) == 2 && (((rd_T38 bt380.1 3).f0.f1) == 1))) else (none)) else (some false)) else (none)) else (some false)) else (some false))) else (some false)) else (some false))))) = some r := by first | (rw [hy367]; with_reducible exact H) | (have H2_ := (Option.bind_some _ _).symm.trans H; rw [hy367]; with_reducible exact H2_) | (have H2_ := (Option.bind_some _ _).symm.trans H; with_reducible exact H2_) | with_reducible exact H | (rw [hy367]; exact H) | exact H
 have Ny367 := Aside0.mk hy367
 clear hy367
 replace H := Option.bind_eq_some_iff.mp H
 obtain ⟨t370, A20, H⟩ := H
 (try dsimp only at H)
 have A2 := Aside0.mk A20
 clear A20
 replace H := Option.bind_eq_some_iff.mp H
 obtain ⟨⟨t374, t377⟩, A30, H⟩ := H
 (try dsimp only at H)
 have A3 := Aside0.mk A30
 clear A30
 replace H := Option.bind_eq_some_iff.mp H
 obtain ⟨⟨t380, t383⟩, A40, H⟩ := H
 (try dsimp only at H)
 have A4 := Aside0.mk A40
 clear A40
 rcases t377 with _ | q387 <;> first
 |(rw [if_pos (show (none : Option (Int × Int)).isNone = true by rfl)] at H
   (try dsimp only [Option.getD] at H)
   (try (obtain rfl := EV_none HE379.out))
   rcases t383 with _ | q388 <;> first
   |(rw [if_pos (show (none : Option (Int × Int)).isNone = true by rfl)] at H
     (try dsimp only [Option.getD] at H)
     (try (obtain rfl := EV_none HE385.out))
     obtain ⟨y389, hy389⟩ : ∃ y_ : List (S47), y_ = (([(⟨0, 0⟩ : S47), (⟨1, 1⟩ : S47)] : List (S47))) := ⟨_, rfl⟩
     replace H : ((surtitlelaw19_SamePairs.f k t374 y389).bind fun t392 => (if t392 = true then (if (t380.length : Int) = 4 then (if 1 < (t380.length : Int) then (if ((rd_T38 t380 1).f3) = 1 then (if 3 < (t380.length : Int) then (some (((rd_T38 t380 3).f0.f0) == 2 && (((rd_T38 t380 3).f0.f1) == 1))) else (none)) else (some false)) else (none)) else (some false)) else (some false))) = some r := by first | (rw [hy389]; with_reducible exact H) | (have H2_ := (Option.bind_some _ _).symm.trans H; rw [hy389]; with_reducible exact H2_) | (have H2_ := (Option.bind_some _ _).symm.trans H; with_reducible exact H2_) | with_reducible exact H | (rw [hy389]; exact H) | exact H
     have Ny389 := Aside0.mk hy389
     clear hy389
     replace H := Option.bind_eq_some_iff.mp H
     obtain ⟨t392, A50, H⟩ := H
     (try dsimp only at H)
     have A5 := Aside0.mk A50
     clear A50
     by_cases c6 : t392 = true <;> first
     |(subst c6
       have H1 : (if (t380.length : Int) = 4 then (if 1 < (t380.length : Int) then (if ((rd_T38 t380 1).f3) = 1 then (if 3 < (t380.length : Int) then (some (((rd_T38 t380 3).f0.f0) == 2 && (((rd_T38 t380 3).f0.f1) == 1))) else (none)) else (some false)) else (none)) else (some false)) = some r := by rw [if_pos rfl] at H; exact H
       clear H
       have H := H1
       clear H1
       by_cases c7 : (t380.length : Int) = 4 <;> first
       |(rw [if_pos c7] at H
         have c7b0 : ((t380.length : Int) == 4) = true := beq_iff_eq.mpr c7
         have c7b1 : ((t380.length : Int) != 4) = false := bne_eq_false_iff_eq.mpr c7
         clear c7
         by_cases c8 : 1 < (t380.length : Int) <;> first
         |(rw [if_pos c8] at H
           have c8b0 : decide (1 < (t380.length : Int)) = true := decide_eq_true c8
           have c8b1 : decide (1 < t380.length) = true := decide_eq_true (by omega)
           clear c8
           by_cases c9 : ((rd_T38 t380 1).f3) = 1 <;> first
           |(rw [if_pos c9] at H
             have c9b0 : (((rd_T38 t380 1).f3) == 1) = true := beq_iff_eq.mpr c9
             have c9b1 : (((rd_T38 t380 1).f3) != 1) = false := bne_eq_false_iff_eq.mpr c9
             clear c9
             by_cases c10 : 3 < (t380.length : Int) <;> first
             |(rw [if_pos c10] at H
               have c10b0 : decide (3 < (t380.length : Int)) = true := decide_eq_true c10
               have c10b1 : decide (3 < t380.length) = true := decide_eq_true (by omega)
               clear c10
               obtain rfl := Option.some.inj H
               have z149 := trivial)
             |(rw [if_neg c10] at H
               exact absurd H (by simp)))
           |(rw [if_neg c9] at H
             have c9b0 : (((rd_T38 t380 1).f3) == 1) = false := beq_eq_false_iff_ne.mpr c9
             have c9b1 : (((rd_T38 t380 1).f3) != 1) = true := bne_iff_ne.mpr c9
             obtain rfl := Option.some.inj H
             have z150 := trivial))
         |(rw [if_neg c8] at H
           exact absurd H (by simp)))
       |(rw [if_neg c7] at H
         have c7b0 : ((t380.length : Int) == 4) = false := beq_eq_false_iff_ne.mpr c7
         have c7b1 : ((t380.length : Int) != 4) = true := bne_iff_ne.mpr c7
         obtain rfl := Option.some.inj H
         have z151 := trivial))
     |(replace c6 := Bool.eq_false_iff.mpr c6
       subst c6
       have H1 : (some false) = some r := by rw [if_neg (show ¬ (false = true) by decide)] at H; exact H
       clear H
       have H := H1
       clear H1
       obtain rfl := Option.some.inj H
       have z152 := trivial))
   |(rw [if_neg (show ¬ (some q388).isNone = true by simp)] at H
     (try dsimp only [Option.getD] at H)
     (try (obtain ⟨ev384, rfl⟩ := EV_some HE385.out))
     obtain rfl := Option.some.inj H
     have z153 := trivial))
 |(rw [if_neg (show ¬ (some q387).isNone = true by simp)] at H
   (try dsimp only [Option.getD] at H)
   (try (obtain ⟨ev378, rfl⟩ := EV_some HE379.out))
   obtain rfl := Option.some.inj H
   have z154 := trivial)
 all_goals
  go_enter Try.func12, Try.ntmps12
  go_wp2_with (first | ((with_reducible refine gate_dst (N := 7) rfl ?_); (try (refine gate_guard (by rfl) ?_; dsimp only)); refine Kd.R_lit (Kd.int .i64) _ 2 ?hg (N := 7) ?hd (xs := ([0, 2, 2, 4] : List Int)) (inner := [.int .i64 0, .int .i64 2, .int .i64 2, .int .i64 4]) (ok := fun _ => True) (okp := fun _ => True) ?hr ?hp (fun _ hk => hk) trivial (Below.refl _ _) (Nat.le_refl _) (by simp) ?_; (case hd => rfl); (case hg => rfl); (case hr => first | (go_simp; done) | (go_simp; rfl)); (case hp => exact (Reps.one (show Kd.M (Kd.int .i64) _ _ _ 0 [.int .i64 0] from rfl) (Reps.one (show Kd.M (Kd.int .i64) _ _ _ 2 [.int .i64 2] from rfl) (Reps.one (show Kd.M (Kd.int .i64) _ _ _ 2 [.int .i64 2] from rfl) (Reps.one (show Kd.M (Kd.int .i64) _ _ _ 4 [.int .i64 4] from rfl) (Reps.none _ _)))))); intro v361 w11 ho12 hb hg_ hnew_; clear hg_ hnew_; (first | rw [← Ny360.out] at ho12 | (simp only [Int.reduceToNat] at ho12; rw [← Ny360.out] at ho12)); have HO362 := Aside0.mk (Kd.R_lower ho12 (below_size (lA HB.out))); replace HB := Aside0.mk (below_step (lA HB.out) hb); clear hb ho12; obtain ⟨Ao13, co13, eo13⟩ := Kd.R_slice HO362.out; subst eo13) | ((with_reducible refine gate_callee (f := 26) rfl ?_); refine goesL_ (some 8) rfl rfl Try.func26 (by kernel_rfl) rfl #[.slice Ao13 y360.length co13] rfl (by (try simp only [List.map_toArray, List.map_cons, List.map_nil]); first | done | rfl | (simp only [List.length_drop, List.length_take]; rfl)) ?_; (with_reducible refine (surtitlelaw19_cues.calls k _ _ y360 t363 _ ?side1 ?side2 A1.out).mono ?_); (case side1 => repeat (first | exact (Kd.R_reads' HO362.out).2.2 | (with_reducible refine Kd.C_alloc ?_ _) | (with_reducible refine Kd.C_drewN ?_ _) | (with_reducible refine Kd.C_drew ?_))); (case side2 => exact (Kd.R_reads' HO362.out).2.1); rintro e w14 ⟨v364, rfl, ho0, hb⟩; refine ⟨_, rfl, ?_⟩; replace HO362 := Aside0.mk (Kd.R_below (rA HO362.out) hb); have HO365 := Aside0.mk (Kd.S_lower ho0 (below_size (lA HB.out))); replace HB := Aside0.mk (below_step (lA HB.out) hb); (try clear hb); (try clear hb2); (try clear hk); (try clear hi); (try clear ho0)) | ((with_reducible refine gate_dst (N := 1) rfl ?_); (try (refine gate_guard (by rfl) ?_; dsimp only)); refine box_event (by rfl) (N := 1) (by rfl) (cs := #[.slice none 0 0]) (t := 25) (by first | (go_simp; done) | (go_simp; rfl)) ?_; intro gb366 hg w15 hbox hb; obtain ⟨hb_, hw_⟩ := box_facts (lA HB.out) hg hb; replace HO362 := Aside0.mk (Kd.R_below (rA HO362.out) hb); replace HO365 := Aside0.mk (Kd.S_below (sA HO365.out) hb); replace HB := Aside0.mk (hb_); have BK366 := Aside0.mk (hbox); have GW366 := Aside0.mk (hw_); have GE366 := Aside0.mk (hw_); clear hb hbox hg hb_ hw_; obtain ⟨Ao16, co16, eo16⟩ := Kd.S_slice HO365.out; subst eo16; obtain ⟨hcz17_0, hfz17_0⟩ := blk_cells1 BK366.out) | ((with_reducible refine gate_dst (N := 9) rfl ?_); (try (refine gate_guard (by rfl) ?_; dsimp only)); refine Kd.R_lit (Kd.int .i64) _ 2 ?hg (N := 9) ?hd (xs := ([0, 1, 1, 4] : List Int)) (inner := [.int .i64 0, .int .i64 1, .int .i64 1, .int .i64 4]) (ok := fun _ => True) (okp := fun _ => True) ?hr ?hp (fun _ hk => hk) trivial (Below.refl _ _) (Nat.le_refl _) (by simp) ?_; (case hd => rfl); (case hg => rfl); (case hr => first | (go_simp; done) | (go_simp; rfl)); (case hp => exact (Reps.one (show Kd.M (Kd.int .i64) _ _ _ 0 [.int .i64 0] from rfl) (Reps.one (show Kd.M (Kd.int .i64) _ _ _ 1 [.int .i64 1] from rfl) (Reps.one (show Kd.M (Kd.int .i64) _ _ _ 1 [.int .i64 1] from rfl) (Reps.one (show Kd.M (Kd.int .i64) _ _ _ 4 [.int .i64 4] from rfl) (Reps.none _ _)))))); intro v368 w18 ho19 hb hg_ hnew_; clear hg_ hnew_; (first | rw [← Ny367.out] at ho19 | (simp only [Int.reduceToNat] at ho19; rw [← Ny367.out] at ho19)); replace HO365 := Aside0.mk (Kd.S_below (by (with_reducible repeat (first | apply Kd.S_alloc | apply Kd.S_drewN | apply Kd.S_drew)); exact (Kd.S_mono (Kd.S_far (p := ⟨gb366, 0, none⟩) (Kd.S_types HO365.out BK366.out (by decide)) (fun _ hk => hk.2) (.slice Ao16 t363.length co16)) (fun _ h_ => h_.1))) hb); have HO369 := Aside0.mk (Kd.R_lower (Kd.R_new' ho19 (Kd.R_lt (by (with_reducible repeat (first | apply Kd.R_alloc | apply Kd.R_drewN | apply Kd.R_drew)); exact (Kd.R_mono (Kd.R_far (p := ⟨gb366, 0, none⟩) (Kd.R_types HO362.out BK366.out (by decide)) (fun _ hk => hk.2) (.slice Ao16 t363.length co16)) (fun _ h_ => h_.1))))) (below_size (by repeat (first | (with_reducible first | exact HB.out | apply l1 | apply l2 | apply l3 | refine below_set ?_ GE366.out) | exact HB.out)))); replace HO362 := Aside0.mk (Kd.R_elder' (by (with_reducible repeat (first | apply Kd.R_alloc | apply Kd.R_drewN | apply Kd.R_drew)); exact (Kd.R_mono (Kd.R_far (p := ⟨gb366, 0, none⟩) (Kd.R_types HO362.out BK366.out (by decide)) (fun _ hk => hk.2) (.slice Ao16 t363.length co16)) (fun _ h_ => h_.1))) (Kd.R_base ho19) hb); replace BK366 := Aside0.mk (blk_below (g := gb366) (o := .cells #[.slice Ao16 t363.length co16] 25 (0, 0)) (by (with_reducible repeat (first | apply b1 | apply b2 | apply b3)); refine blk_put (cs := #[.slice none 0 0]) ?_ 0 _ rfl; (with_reducible repeat (first | apply b1 | apply b2 | apply b3)); exact BK366.out) hb); replace HB := Aside0.mk (below_step (by repeat (first | (with_reducible first | exact HB.out | apply l1 | apply l2 | apply l3 | refine below_set ?_ GE366.out) | exact HB.out)) hb); clear hb ho19; obtain ⟨Ao20, co20, eo20⟩ := Kd.R_slice HO369.out; subst eo20) | ((with_reducible refine gate_callee (f := 26) rfl ?_); refine goesL_ (some 10) rfl rfl Try.func26 (by kernel_rfl) rfl #[.slice Ao20 y367.length co20] rfl (by (try simp only [List.map_toArray, List.map_cons, List.map_nil]); first | done | rfl | (simp only [List.length_drop, List.length_take]; rfl)) ?_; (with_reducible refine (surtitlelaw19_cues.calls k _ _ y367 t370 _ ?side1 ?side2 A2.out).mono ?_); (case side1 => repeat (first | exact (Kd.R_reads' HO369.out).2.2 | (with_reducible refine Kd.C_alloc ?_ _) | (with_reducible refine Kd.C_drewN ?_ _) | (with_reducible refine Kd.C_drew ?_))); (case side2 => exact (Kd.R_reads' HO369.out).2.1); rintro e w21 ⟨v371, rfl, ho0, hb⟩; refine ⟨_, rfl, ?_⟩; replace HO362 := Aside0.mk (Kd.R_below (rA HO362.out) hb); replace HO369 := Aside0.mk (Kd.R_below (rA HO369.out) hb); have HO372 := Aside0.mk (Kd.S_lower (Kd.S_new' ho0 (Kd.S_lt (sA HO365.out))) (below_size (by repeat (first | (with_reducible first | exact HB.out | apply l1 | apply l2 | apply l3 | refine below_set ?_ GE366.out) | exact HB.out)))); replace HO365 := Aside0.mk (Kd.S_elder' (sA HO365.out) (Kd.S_base ho0) hb); replace BK366 := Aside0.mk (bB BK366.out hb); replace HB := Aside0.mk (below_step (by repeat (first | (with_reducible first | exact HB.out | apply l1 | apply l2 | apply l3 | refine below_set ?_ GE366.out) | exact HB.out)) hb); (try clear hb); (try clear hb2); (try clear hk); (try clear hi); (try clear ho0)) | ((with_reducible refine gate_dst (N := 2) rfl ?_); (try (refine gate_guard (by rfl) ?_; dsimp only)); refine box_event (by rfl) (N := 2) (by rfl) (cs := #[.slice none 0 0]) (t := 25) (by first | (go_simp; done) | (go_simp; rfl)) ?_; intro gb373 hg w22 hbox hb; obtain ⟨hb_, hw_⟩ := box_facts (by repeat (first | (with_reducible first | exact HB.out | apply l1 | apply l2 | apply l3 | refine below_set ?_ GE366.out) | exact HB.out)) hg hb; replace HO362 := Aside0.mk (Kd.R_below (rA HO362.out) hb); replace HO365 := Aside0.mk (Kd.S_below (sA HO365.out) hb); replace HO369 := Aside0.mk (Kd.R_below (rA HO369.out) hb); replace HO372 := Aside0.mk (Kd.S_below (sA HO372.out) hb); replace HB := Aside0.mk (hb_); have BK373 := Aside0.mk (hbox); have GW373 := Aside0.mk (hw_); have GE373 := Aside0.mk (hw_); have NB366_373 := Aside0.mk ((nL hg BK366.out)); have NB373_366 := Aside0.mk ((nG hg BK366.out)); replace BK366 := Aside0.mk (bB BK366.out hb); clear hb hbox hg hb_ hw_; obtain ⟨Ao23, co23, eo23⟩ := Kd.S_slice HO372.out; subst eo23; have hnb24 := NB373_366.out; have hnc24 := NB366_373.out; obtain ⟨hcz25_0, hfz25_0⟩ := blk_cells1 BK373.out; obtain ⟨hcz26_0, hfz26_0⟩ := blk_cells1 BK366.out) | ((revert z154; intro z154); ((with_reducible refine gate_callee (f := 16) rfl ?_); refine goesL_ (some 14) rfl rfl Try.func16 (by kernel_rfl) rfl #[.agg #[.slice Ao16 t363.length co16], .agg #[.slice Ao23 t370.length co23]] rfl (by (try simp only [List.map_toArray, List.map_cons, List.map_nil]); first | done | rfl | (simp only [List.length_drop, List.length_take]; rfl)) ?_; (with_reducible refine (dual_Pairs.calls k _ _ t363 _ _ t370 t374 (some q387) _ ?side1 ?side2 ?side3 ?side4 A3.out).mono ?_); (case side1 => refine (Kd.S_reads' (e := 38) (base := w.heap.size) (ok := fun k_ => (True ∧ some k_ ≠ (.slice Ao23 t370.length co23 : Value).ownBlock)) (n := t363.length) (c := co16) ?_).2.2; exact (by (with_reducible repeat (first | apply Kd.S_alloc | apply Kd.S_drewN | apply Kd.S_drew)); exact (Kd.S_mono (Kd.S_far (p := ⟨gb373, 0, none⟩) (Kd.S_types HO365.out BK373.out (by decide)) (fun _ hk => hk.2) (.slice Ao23 t370.length co23)) (fun _ h_ => h_.1)))); (case side2 => exact (Kd.S_reads' HO365.out).2.1); (case side3 => refine (Kd.S_reads' (e := 38) (base := w.heap.size) (ok := fun k_ => (True ∧ some k_ ≠ (.slice Ao16 t363.length co16 : Value).ownBlock)) (n := t370.length) (c := co23) ?_).2.2; exact (by (with_reducible repeat (first | apply Kd.S_alloc | apply Kd.S_drewN | apply Kd.S_drew)); exact (Kd.S_mono (Kd.S_far (p := ⟨gb373, 0, none⟩) (Kd.S_types HO372.out BK373.out (by decide)) (fun _ hk => hk.2) (.slice Ao23 t370.length co23)) (fun _ h_ => h_.1)))); (case side4 => exact (Kd.S_reads' HO372.out).2.1); rintro e w171 ⟨v375, v378, rfl, ho0, he0, hb⟩; refine ⟨_, rfl, ?_⟩; obtain ⟨ev378, rfl⟩ := EV_some he0; replace HO362 := Aside0.mk (Kd.R_below (by (with_reducible repeat (first | apply Kd.R_alloc | apply Kd.R_drewN | apply Kd.R_drew)); exact (Kd.R_mono (Kd.R_far (p := ⟨gb373, 0, none⟩) (Kd.R_types HO362.out BK373.out (by decide)) (fun _ hk => hk.2) (.slice Ao23 t370.length co23)) (fun _ h_ => h_.1))) hb); replace HO365 := Aside0.mk (Kd.S_below (by (with_reducible repeat (first | apply Kd.S_alloc | apply Kd.S_drewN | apply Kd.S_drew)); exact (Kd.S_mono (Kd.S_far (p := ⟨gb373, 0, none⟩) (Kd.S_types HO365.out BK373.out (by decide)) (fun _ hk => hk.2) (.slice Ao23 t370.length co23)) (fun _ h_ => h_.1))) hb); replace HO369 := Aside0.mk (Kd.R_below (by (with_reducible repeat (first | apply Kd.R_alloc | apply Kd.R_drewN | apply Kd.R_drew)); exact (Kd.R_mono (Kd.R_far (p := ⟨gb373, 0, none⟩) (Kd.R_types HO369.out BK373.out (by decide)) (fun _ hk => hk.2) (.slice Ao23 t370.length co23)) (fun _ h_ => h_.1))) hb); replace HO372 := Aside0.mk (Kd.S_below (by (with_reducible repeat (first | apply Kd.S_alloc | apply Kd.S_drewN | apply Kd.S_drew)); exact (Kd.S_mono (Kd.S_far (p := ⟨gb373, 0, none⟩) (Kd.S_types HO372.out BK373.out (by decide)) (fun _ hk => hk.2) (.slice Ao23 t370.length co23)) (fun _ h_ => h_.1))) hb); have HO376 := Aside0.mk (Kd.R_lower ho0 (below_size (by repeat (first | (with_reducible first | exact HB.out | apply l1 | apply l2 | apply l3 | refine below_set ?_ GE366.out | refine below_set ?_ GE373.out) | exact HB.out)))); replace BK366 := Aside0.mk (blk_below (g := gb366) (o := .cells #[.slice Ao16 t363.length co16] 25 (0, 0)) (by (with_reducible repeat (first | apply b1 | apply b2 | apply b3)); refine blk_far ?_ NB366_373.out _; (with_reducible repeat (first | apply b1 | apply b2 | apply b3)); exact BK366.out) hb); replace BK373 := Aside0.mk (blk_below (g := gb373) (o := .cells #[.slice Ao23 t370.length co23] 25 (0, 0)) (by (with_reducible repeat (first | apply b1 | apply b2 | apply b3)); refine blk_put (cs := #[.slice none 0 0]) ?_ 0 _ rfl; (with_reducible repeat (first | apply b1 | apply b2 | apply b3)); exact BK373.out) hb); replace HB := Aside0.mk (below_step (by repeat (first | (with_reducible first | exact HB.out | apply l1 | apply l2 | apply l3 | refine below_set ?_ GE366.out | refine below_set ?_ GE373.out) | exact HB.out)) hb); (try clear hb); (try clear hb2); (try clear hk); (try clear hi); (try clear ho0); obtain ⟨hcz172_0, hfz172_0⟩ := blk_cells1 BK366.out; obtain ⟨hcz173_0, hfz173_0⟩ := blk_cells1 BK373.out)) | ((revert z154; intro z154); ((with_reducible refine gate_callee (f := 13) rfl ?_); refine goesL_ (some 20) rfl rfl Try.func13 (by kernel_rfl) rfl #[.agg #[.slice Ao16 t363.length co16], .agg #[.slice Ao23 t370.length co23]] rfl (by (try simp only [List.map_toArray, List.map_cons, List.map_nil]); first | done | rfl | (simp only [List.length_drop, List.length_take]; rfl)) ?_; (with_reducible refine (dual_Merge.calls k _ _ t363 _ _ t370 t380 t383 _ ?side1 ?side2 ?side3 ?side4 A4.out).mono ?_); (case side1 => repeat (first | exact (Kd.S_reads' HO365.out).2.2 | (with_reducible refine Kd.C_alloc ?_ _) | (with_reducible refine Kd.C_drewN ?_ _) | (with_reducible refine Kd.C_drew ?_))); (case side2 => exact (Kd.S_reads' HO365.out).2.1); (case side3 => repeat (first | exact (Kd.S_reads' HO372.out).2.2 | (with_reducible refine Kd.C_alloc ?_ _) | (with_reducible refine Kd.C_drewN ?_ _) | (with_reducible refine Kd.C_drew ?_))); (case side4 => exact (Kd.S_reads' HO372.out).2.1); rintro e w174 ⟨v381, v384, rfl, ho0, he0, hb⟩; refine ⟨_, rfl, ?_⟩; have HE385 := Aside0.mk he0; clear he0; replace HO362 := Aside0.mk (Kd.R_below (rA HO362.out) hb); replace HO369 := Aside0.mk (Kd.R_below (rA HO369.out) hb); replace HO376 := Aside0.mk (Kd.R_below (rA HO376.out) hb); have HO382 := Aside0.mk (Kd.S_lower (Kd.S_new' (Kd.S_new' ho0 (Kd.S_lt (sA HO365.out))) (Kd.S_lt (sA HO372.out))) (below_size (by repeat (first | (with_reducible first | exact HB.out | apply l1 | apply l2 | apply l3 | refine below_set ?_ GE366.out | refine below_set ?_ GE373.out) | exact HB.out)))); replace HO365 := Aside0.mk (Kd.S_elder' (sA HO365.out) (Kd.S_base ho0) hb); replace HO372 := Aside0.mk (Kd.S_elder' (sA HO372.out) (Kd.S_base ho0) hb); replace BK366 := Aside0.mk (bB BK366.out hb); replace BK373 := Aside0.mk (bB BK373.out hb); replace HB := Aside0.mk (below_step (by repeat (first | (with_reducible first | exact HB.out | apply l1 | apply l2 | apply l3 | refine below_set ?_ GE366.out | refine below_set ?_ GE373.out) | exact HB.out)) hb); (try clear hb); (try clear hb2); (try clear hk); (try clear hi); (try clear ho0))) | ((first | (revert z149; intro z149) | (revert z150; intro z150) | (revert z151; intro z151) | (revert z152; intro z152) | (revert z153; intro z153)); ((with_reducible refine gate_callee (f := 16) rfl ?_); refine goesL_ (some 14) rfl rfl Try.func16 (by kernel_rfl) rfl #[.agg #[.slice Ao16 t363.length co16], .agg #[.slice Ao23 t370.length co23]] rfl (by (try simp only [List.map_toArray, List.map_cons, List.map_nil]); first | done | rfl | (simp only [List.length_drop, List.length_take]; rfl)) ?_; (with_reducible refine (dual_Pairs.calls k _ _ t363 _ _ t370 t374 none _ ?side1 ?side2 ?side3 ?side4 A3.out).mono ?_); (case side1 => refine (Kd.S_reads' (e := 38) (base := w.heap.size) (ok := fun k_ => (True ∧ some k_ ≠ (.slice Ao23 t370.length co23 : Value).ownBlock)) (n := t363.length) (c := co16) ?_).2.2; exact (by (with_reducible repeat (first | apply Kd.S_alloc | apply Kd.S_drewN | apply Kd.S_drew)); exact (Kd.S_mono (Kd.S_far (p := ⟨gb373, 0, none⟩) (Kd.S_types HO365.out BK373.out (by decide)) (fun _ hk => hk.2) (.slice Ao23 t370.length co23)) (fun _ h_ => h_.1)))); (case side2 => exact (Kd.S_reads' HO365.out).2.1); (case side3 => refine (Kd.S_reads' (e := 38) (base := w.heap.size) (ok := fun k_ => (True ∧ some k_ ≠ (.slice Ao16 t363.length co16 : Value).ownBlock)) (n := t370.length) (c := co23) ?_).2.2; exact (by (with_reducible repeat (first | apply Kd.S_alloc | apply Kd.S_drewN | apply Kd.S_drew)); exact (Kd.S_mono (Kd.S_far (p := ⟨gb373, 0, none⟩) (Kd.S_types HO372.out BK373.out (by decide)) (fun _ hk => hk.2) (.slice Ao23 t370.length co23)) (fun _ h_ => h_.1)))); (case side4 => exact (Kd.S_reads' HO372.out).2.1); rintro e w27 ⟨v375, v378, rfl, ho0, he0, hb⟩; refine ⟨_, rfl, ?_⟩; obtain rfl := EV_none he0; replace HO362 := Aside0.mk (Kd.R_below (by (with_reducible repeat (first | apply Kd.R_alloc | apply Kd.R_drewN | apply Kd.R_drew)); exact (Kd.R_mono (Kd.R_far (p := ⟨gb373, 0, none⟩) (Kd.R_types HO362.out BK373.out (by decide)) (fun _ hk => hk.2) (.slice Ao23 t370.length co23)) (fun _ h_ => h_.1))) hb); replace HO365 := Aside0.mk (Kd.S_below (by (with_reducible repeat (first | apply Kd.S_alloc | apply Kd.S_drewN | apply Kd.S_drew)); exact (Kd.S_mono (Kd.S_far (p := ⟨gb373, 0, none⟩) (Kd.S_types HO365.out BK373.out (by decide)) (fun _ hk => hk.2) (.slice Ao23 t370.length co23)) (fun _ h_ => h_.1))) hb); replace HO369 := Aside0.mk (Kd.R_below (by (with_reducible repeat (first | apply Kd.R_alloc | apply Kd.R_drewN | apply Kd.R_drew)); exact (Kd.R_mono (Kd.R_far (p := ⟨gb373, 0, none⟩) (Kd.R_types HO369.out BK373.out (by decide)) (fun _ hk => hk.2) (.slice Ao23 t370.length co23)) (fun _ h_ => h_.1))) hb); replace HO372 := Aside0.mk (Kd.S_below (by (with_reducible repeat (first | apply Kd.S_alloc | apply Kd.S_drewN | apply Kd.S_drew)); exact (Kd.S_mono (Kd.S_far (p := ⟨gb373, 0, none⟩) (Kd.S_types HO372.out BK373.out (by decide)) (fun _ hk => hk.2) (.slice Ao23 t370.length co23)) (fun _ h_ => h_.1))) hb); have HO376 := Aside0.mk (Kd.R_lower ho0 (below_size (by repeat (first | (with_reducible first | exact HB.out | apply l1 | apply l2 | apply l3 | refine below_set ?_ GE366.out | refine below_set ?_ GE373.out) | exact HB.out)))); replace BK366 := Aside0.mk (blk_below (g := gb366) (o := .cells #[.slice Ao16 t363.length co16] 25 (0, 0)) (by (with_reducible repeat (first | apply b1 | apply b2 | apply b3)); refine blk_far ?_ NB366_373.out _; (with_reducible repeat (first | apply b1 | apply b2 | apply b3)); exact BK366.out) hb); replace BK373 := Aside0.mk (blk_below (g := gb373) (o := .cells #[.slice Ao23 t370.length co23] 25 (0, 0)) (by (with_reducible repeat (first | apply b1 | apply b2 | apply b3)); refine blk_put (cs := #[.slice none 0 0]) ?_ 0 _ rfl; (with_reducible repeat (first | apply b1 | apply b2 | apply b3)); exact BK373.out) hb); replace HB := Aside0.mk (below_step (by repeat (first | (with_reducible first | exact HB.out | apply l1 | apply l2 | apply l3 | refine below_set ?_ GE366.out | refine below_set ?_ GE373.out) | exact HB.out)) hb); (try clear hb); (try clear hb2); (try clear hk); (try clear hi); (try clear ho0); obtain ⟨hcz28_0, hfz28_0⟩ := blk_cells1 BK366.out; obtain ⟨hcz29_0, hfz29_0⟩ := blk_cells1 BK373.out)) | ((revert z153; intro z153); ((with_reducible refine gate_callee (f := 13) rfl ?_); refine goesL_ (some 20) rfl rfl Try.func13 (by kernel_rfl) rfl #[.agg #[.slice Ao16 t363.length co16], .agg #[.slice Ao23 t370.length co23]] rfl (by (try simp only [List.map_toArray, List.map_cons, List.map_nil]); first | done | rfl | (simp only [List.length_drop, List.length_take]; rfl)) ?_; (with_reducible refine (dual_Merge.calls k _ _ t363 _ _ t370 t380 (some q388) _ ?side1 ?side2 ?side3 ?side4 A4.out).mono ?_); (case side1 => repeat (first | exact (Kd.S_reads' HO365.out).2.2 | (with_reducible refine Kd.C_alloc ?_ _) | (with_reducible refine Kd.C_drewN ?_ _) | (with_reducible refine Kd.C_drew ?_))); (case side2 => exact (Kd.S_reads' HO365.out).2.1); (case side3 => repeat (first | exact (Kd.S_reads' HO372.out).2.2 | (with_reducible refine Kd.C_alloc ?_ _) | (with_reducible refine Kd.C_drewN ?_ _) | (with_reducible refine Kd.C_drew ?_))); (case side4 => exact (Kd.S_reads' HO372.out).2.1); rintro e w149 ⟨v381, v384, rfl, ho0, he0, hb⟩; refine ⟨_, rfl, ?_⟩; obtain ⟨ev384, rfl⟩ := EV_some he0; replace HO362 := Aside0.mk (Kd.R_below (rA HO362.out) hb); replace HO369 := Aside0.mk (Kd.R_below (rA HO369.out) hb); replace HO376 := Aside0.mk (Kd.R_below (rA HO376.out) hb); have HO382 := Aside0.mk (Kd.S_lower (Kd.S_new' (Kd.S_new' ho0 (Kd.S_lt (sA HO365.out))) (Kd.S_lt (sA HO372.out))) (below_size (by repeat (first | (with_reducible first | exact HB.out | apply l1 | apply l2 | apply l3 | refine below_set ?_ GE366.out | refine below_set ?_ GE373.out) | exact HB.out)))); replace HO365 := Aside0.mk (Kd.S_elder' (sA HO365.out) (Kd.S_base ho0) hb); replace HO372 := Aside0.mk (Kd.S_elder' (sA HO372.out) (Kd.S_base ho0) hb); replace BK366 := Aside0.mk (bB BK366.out hb); replace BK373 := Aside0.mk (bB BK373.out hb); replace HB := Aside0.mk (below_step (by repeat (first | (with_reducible first | exact HB.out | apply l1 | apply l2 | apply l3 | refine below_set ?_ GE366.out | refine below_set ?_ GE373.out) | exact HB.out)) hb); (try clear hb); (try clear hb2); (try clear hk); (try clear hi); (try clear ho0))) | ((first | (revert z149; intro z149) | (revert z150; intro z150) | (revert z151; intro z151) | (revert z152; intro z152)); ((with_reducible refine gate_callee (f := 13) rfl ?_); refine goesL_ (some 20) rfl rfl Try.func13 (by kernel_rfl) rfl #[.agg #[.slice Ao16 t363.length co16], .agg #[.slice Ao23 t370.length co23]] rfl (by (try simp only [List.map_toArray, List.map_cons, List.map_nil]); first | done | rfl | (simp only [List.length_drop, List.length_take]; rfl)) ?_; (with_reducible refine (dual_Merge.calls k _ _ t363 _ _ t370 t380 none _ ?side1 ?side2 ?side3 ?side4 A4.out).mono ?_); (case side1 => repeat (first | exact (Kd.S_reads' HO365.out).2.2 | (with_reducible refine Kd.C_alloc ?_ _) | (with_reducible refine Kd.C_drewN ?_ _) | (with_reducible refine Kd.C_drew ?_))); (case side2 => exact (Kd.S_reads' HO365.out).2.1); (case side3 => repeat (first | exact (Kd.S_reads' HO372.out).2.2 | (with_reducible refine Kd.C_alloc ?_ _) | (with_reducible refine Kd.C_drewN ?_ _) | (with_reducible refine Kd.C_drew ?_))); (case side4 => exact (Kd.S_reads' HO372.out).2.1); rintro e w30 ⟨v381, v384, rfl, ho0, he0, hb⟩; refine ⟨_, rfl, ?_⟩; obtain rfl := EV_none he0; replace HO362 := Aside0.mk (Kd.R_below (rA HO362.out) hb); replace HO369 := Aside0.mk (Kd.R_below (rA HO369.out) hb); replace HO376 := Aside0.mk (Kd.R_below (rA HO376.out) hb); have HO382 := Aside0.mk (Kd.S_lower (Kd.S_new' (Kd.S_new' ho0 (Kd.S_lt (sA HO365.out))) (Kd.S_lt (sA HO372.out))) (below_size (by repeat (first | (with_reducible first | exact HB.out | apply l1 | apply l2 | apply l3 | refine below_set ?_ GE366.out | refine below_set ?_ GE373.out) | exact HB.out)))); replace HO365 := Aside0.mk (Kd.S_elder' (sA HO365.out) (Kd.S_base ho0) hb); replace HO372 := Aside0.mk (Kd.S_elder' (sA HO372.out) (Kd.S_base ho0) hb); replace BK366 := Aside0.mk (bB BK366.out hb); replace BK373 := Aside0.mk (bB BK373.out hb); replace HB := Aside0.mk (below_step (by repeat (first | (with_reducible first | exact HB.out | apply l1 | apply l2 | apply l3 | refine below_set ?_ GE366.out | refine below_set ?_ GE373.out) | exact HB.out)) hb); (try clear hb); (try clear hb2); (try clear hk); (try clear hi); (try clear ho0))) | ((with_reducible refine gate_dst (N := 5) rfl ?_); (try (refine gate_guard (by rfl) ?_; dsimp only)); refine box_event (by rfl) (N := 5) (by rfl) (cs := #[.slice none 0 0]) (t := 25) (by first | (go_simp; done) | (go_simp; rfl)) ?_; intro gb386 hg w31 hbox hb; obtain ⟨hb_, hw_⟩ := box_facts (by repeat (first | (with_reducible first | exact HB.out | apply l1 | apply l2 | apply l3 | refine below_set ?_ GE366.out | refine below_set ?_ GE373.out) | exact HB.out)) hg hb; replace HO362 := Aside0.mk (Kd.R_below (rA HO362.out) hb); replace HO365 := Aside0.mk (Kd.S_below (sA HO365.out) hb); replace HO369 := Aside0.mk (Kd.R_below (rA HO369.out) hb); replace HO372 := Aside0.mk (Kd.S_below (sA HO372.out) hb); replace HO376 := Aside0.mk (Kd.R_below (rA HO376.out) hb); replace HO382 := Aside0.mk (Kd.S_below (sA HO382.out) hb); replace HB := Aside0.mk (hb_); have BK386 := Aside0.mk (hbox); have GW386 := Aside0.mk (hw_); have GE386 := Aside0.mk (hw_); have NB366_386 := Aside0.mk ((nL hg BK366.out)); have NB386_366 := Aside0.mk ((nG hg BK366.out)); replace BK366 := Aside0.mk (bB BK366.out hb); have NB373_386 := Aside0.mk ((nL hg BK373.out)); have NB386_373 := Aside0.mk ((nG hg BK373.out)); replace BK373 := Aside0.mk (bB BK373.out hb); clear hb hbox hg hb_ hw_; obtain ⟨Ao32, co32, eo32⟩ := Kd.S_slice HO382.out; subst eo32; have hnb33 := NB386_366.out; have hnc33 := NB366_386.out; have hnb34 := NB386_373.out; have hnc34 := NB373_386.out; obtain ⟨hcz35_0, hfz35_0⟩ := blk_cells1 BK386.out) | ((first | (revert z149; intro z149) | (revert z150; intro z150) | (revert z151; intro z151) | (revert z152; intro z152)); ((with_reducible refine gate_dst (N := 33) rfl ?_); (try (refine gate_guard (by rfl) ?_; dsimp only)); refine Kd.R_lit k47 _ 47 ?hg (N := 33) ?hd (xs := ([(⟨0, 0⟩ : S47), (⟨1, 1⟩ : S47)] : List (S47))) (inner := [.int .i64 0, .int .i64 0, .int .i64 1, .int .i64 1]) (ok := fun _ => True) (okp := fun _ => True) ?hr ?hp (fun _ hk => hk) trivial (Below.refl _ _) (Nat.le_refl _) (by simp) ?_; (case hd => rfl); (case hg => rfl); (case hr => first | (go_simp; done) | (go_simp; rfl)); (case hp => exact (Reps.c2 (show Kd.M k47 _ _ _ (⟨0, 0⟩ : S47) [.int .i64 0, .int .i64 0] from (k47_mkM _ _ _ (⟨0, 0⟩ : S47) )) (Reps.c2 (show Kd.M k47 _ _ _ (⟨1, 1⟩ : S47) [.int .i64 1, .int .i64 1] from (k47_mkM _ _ _ (⟨1, 1⟩ : S47) )) (Reps.none _ _)))); intro v390 w36 ho37 hb hg_ hnew_; clear hg_ hnew_; (first | rw [← Ny389.out] at ho37 | (simp only [Int.reduceToNat] at ho37; rw [← Ny389.out] at ho37)); replace HO362 := Aside0.mk (Kd.R_below (by (with_reducible repeat (first | apply Kd.R_alloc | apply Kd.R_drewN | apply Kd.R_drew)); exact (Kd.R_mono (Kd.R_far (p := ⟨gb386, 0, none⟩) (Kd.R_types HO362.out BK386.out (by decide)) (fun _ hk => hk.2) (.slice Ao32 t380.length co32)) (fun _ h_ => h_.1))) hb); replace HO365 := Aside0.mk (Kd.S_below (by (with_reducible repeat (first | apply Kd.S_alloc | apply Kd.S_drewN | apply Kd.S_drew)); exact (Kd.S_mono (Kd.S_far (p := ⟨gb386, 0, none⟩) (Kd.S_types HO365.out BK386.out (by decide)) (fun _ hk => hk.2) (.slice Ao32 t380.length co32)) (fun _ h_ => h_.1))) hb); replace HO369 := Aside0.mk (Kd.R_below (by (with_reducible repeat (first | apply Kd.R_alloc | apply Kd.R_drewN | apply Kd.R_drew)); exact (Kd.R_mono (Kd.R_far (p := ⟨gb386, 0, none⟩) (Kd.R_types HO369.out BK386.out (by decide)) (fun _ hk => hk.2) (.slice Ao32 t380.length co32)) (fun _ h_ => h_.1))) hb); replace HO372 := Aside0.mk (Kd.S_below (by (with_reducible repeat (first | apply Kd.S_alloc | apply Kd.S_drewN | apply Kd.S_drew)); exact (Kd.S_mono (Kd.S_far (p := ⟨gb386, 0, none⟩) (Kd.S_types HO372.out BK386.out (by decide)) (fun _ hk => hk.2) (.slice Ao32 t380.length co32)) (fun _ h_ => h_.1))) hb); replace HO382 := Aside0.mk (Kd.S_below (by (with_reducible repeat (first | apply Kd.S_alloc | apply Kd.S_drewN | apply Kd.S_drew)); exact (Kd.S_mono (Kd.S_far (p := ⟨gb386, 0, none⟩) (Kd.S_types HO382.out BK386.out (by decide)) (fun _ hk => hk.2) (.slice Ao32 t380.length co32)) (fun _ h_ => h_.1))) hb); have HO391 := Aside0.mk (Kd.R_lower (Kd.R_new' ho37 (Kd.R_lt (by (with_reducible repeat (first | apply Kd.R_alloc | apply Kd.R_drewN | apply Kd.R_drew)); exact (Kd.R_mono (Kd.R_far (p := ⟨gb386, 0, none⟩) (Kd.R_types HO376.out BK386.out (by decide)) (fun _ hk => hk.2) (.slice Ao32 t380.length co32)) (fun _ h_ => h_.1))))) (below_size (by repeat (first | (with_reducible first | exact HB.out | apply l1 | apply l2 | apply l3 | refine below_set ?_ GE366.out | refine below_set ?_ GE373.out | refine below_set ?_ GE386.out) | exact HB.out)))); replace HO376 := Aside0.mk (Kd.R_elder' (by (with_reducible repeat (first | apply Kd.R_alloc | apply Kd.R_drewN | apply Kd.R_drew)); exact (Kd.R_mono (Kd.R_far (p := ⟨gb386, 0, none⟩) (Kd.R_types HO376.out BK386.out (by decide)) (fun _ hk => hk.2) (.slice Ao32 t380.length co32)) (fun _ h_ => h_.1))) (Kd.R_base ho37) hb); replace BK366 := Aside0.mk (blk_below (g := gb366) (o := .cells #[.slice Ao16 t363.length co16] 25 (0, 0)) (by (with_reducible repeat (first | apply b1 | apply b2 | apply b3)); refine blk_far ?_ NB366_386.out _; (with_reducible repeat (first | apply b1 | apply b2 | apply b3)); exact BK366.out) hb); replace BK373 := Aside0.mk (blk_below (g := gb373) (o := .cells #[.slice Ao23 t370.length co23] 25 (0, 0)) (by (with_reducible repeat (first | apply b1 | apply b2 | apply b3)); refine blk_far ?_ NB373_386.out _; (with_reducible repeat (first | apply b1 | apply b2 | apply b3)); exact BK373.out) hb); replace BK386 := Aside0.mk (blk_below (g := gb386) (o := .cells #[.slice Ao32 t380.length co32] 25 (0, 0)) (by (with_reducible repeat (first | apply b1 | apply b2 | apply b3)); refine blk_put (cs := #[.slice none 0 0]) ?_ 0 _ rfl; (with_reducible repeat (first | apply b1 | apply b2 | apply b3)); exact BK386.out) hb); replace HB := Aside0.mk (below_step (by repeat (first | (with_reducible first | exact HB.out | apply l1 | apply l2 | apply l3 | refine below_set ?_ GE366.out | refine below_set ?_ GE373.out | refine below_set ?_ GE386.out) | exact HB.out)) hb); clear hb ho37; obtain ⟨Ao38, co38, eo38⟩ := Kd.R_slice HO376.out; subst eo38; obtain ⟨Ao39, co39, eo39⟩ := Kd.R_slice HO391.out; subst eo39)) | ((revert z151; intro z151); (go_at_call 22; (with_reducible refine (surtitlelaw19_SamePairs.calls k _ _ t374 _ _ y389 true _ ?side1 ?side2 ?side3 ?side4 A5.out).mono ?_); (case side1 => repeat (first | exact (Kd.R_reads' HO376.out).2.2 | (with_reducible refine Kd.C_alloc ?_ _) | (with_reducible refine Kd.C_drewN ?_ _) | (with_reducible refine Kd.C_drew ?_))); (case side2 => exact (Kd.R_reads' HO376.out).2.1); (case side3 => repeat (first | exact (Kd.R_reads' HO391.out).2.2 | (with_reducible refine Kd.C_alloc ?_ _) | (with_reducible refine Kd.C_drewN ?_ _) | (with_reducible refine Kd.C_drew ?_))); (case side4 => exact (Kd.R_reads' HO391.out).2.1); rintro e w' ⟨rfl, ⟨nd, rfl⟩⟩; obtain ⟨hcz100_0, hfz100_0⟩ := blk_cells1 BK386.out)) | ((revert z152; intro z152); (go_at_call 22; (with_reducible refine (surtitlelaw19_SamePairs.calls k _ _ t374 _ _ y389 false _ ?side1 ?side2 ?side3 ?side4 A5.out).mono ?_); (case side1 => repeat (first | exact (Kd.R_reads' HO376.out).2.2 | (with_reducible refine Kd.C_alloc ?_ _) | (with_reducible refine Kd.C_drewN ?_ _) | (with_reducible refine Kd.C_drew ?_))); (case side2 => exact (Kd.R_reads' HO376.out).2.1); (case side3 => repeat (first | exact (Kd.R_reads' HO391.out).2.2 | (with_reducible refine Kd.C_alloc ?_ _) | (with_reducible refine Kd.C_drewN ?_ _) | (with_reducible refine Kd.C_drew ?_))); (case side4 => exact (Kd.R_reads' HO391.out).2.1); rintro e w' ⟨rfl, ⟨nd, rfl⟩⟩)) | ((revert z150; intro z150); (go_at_call 22; (with_reducible refine (surtitlelaw19_SamePairs.calls k _ _ t374 _ _ y389 true _ ?side1 ?side2 ?side3 ?side4 A5.out).mono ?_); (case side1 => repeat (first | exact (Kd.R_reads' HO376.out).2.2 | (with_reducible refine Kd.C_alloc ?_ _) | (with_reducible refine Kd.C_drewN ?_ _) | (with_reducible refine Kd.C_drew ?_))); (case side2 => exact (Kd.R_reads' HO376.out).2.1); (case side3 => repeat (first | exact (Kd.R_reads' HO391.out).2.2 | (with_reducible refine Kd.C_alloc ?_ _) | (with_reducible refine Kd.C_drewN ?_ _) | (with_reducible refine Kd.C_drew ?_))); (case side4 => exact (Kd.R_reads' HO391.out).2.1); rintro e w' ⟨rfl, ⟨nd, rfl⟩⟩; obtain ⟨hcz70_0, hfz70_0⟩ := blk_cells1 BK386.out; have p393 : 0 ≤ (1 : Int) := (by omega); have q393 : 1 < (t380.length : Int) := of_decide_eq_true (by first | (with_reducible assumption) | assumption); obtain ⟨ad393, A393_8, c393_8, e393, hx393_0, hx393_1, hx393_2, hx393_3, hx393_4, hx393_5, hx393_6, hx393_7, hx393_8, hl393_8, hi393_8⟩ := at_T38 (Kd.S_reads' HO382.out).2.2 1 p393 q393; cases e393; obtain ⟨ce393, hce393, hMe393, hcc393⟩ := Kd.S_get HO382.out z38 1 p393 (by first | exact q393 | exact of_decide_eq_true (by first | (with_reducible assumption) | assumption) | (have e_ := (Kd.S_reads' HO382.out).1; omega)); obtain ⟨ve393_8, rfl, ge393_8⟩ := k38_openM hMe393; have hv393_8 := hcc393 8 _ rfl; rw [add_field _ _ 8 (by omega)] at hv393_8; replace hv393_8 := Option.some.inj (hv393_8.symm.trans hx393_8); rw [hv393_8] at ge393_8; have HL393_8 := Aside0.mk (show Kd.R k79 79 _ _ _ _ ((rd_T38 t380 1).f5.f1) from ge393_8); clear hv393_8 ge393_8; clear hcc393 hce393; (try simp only [show (1 : Int).toNat = 1 from rfl, Nat.reduceMul, Nat.reduceEqDiff, Go.Addr.add, ↓reduceIte] at hx393_0); (try simp only [show (1 : Int).toNat = 1 from rfl, Nat.reduceMul, Nat.reduceEqDiff, Go.Addr.add, ↓reduceIte] at hx393_1); (try simp only [show (1 : Int).toNat = 1 from rfl, Nat.reduceMul, Nat.reduceEqDiff, Go.Addr.add, ↓reduceIte] at hx393_2); (try simp only [show (1 : Int).toNat = 1 from rfl, Nat.reduceMul, Nat.reduceEqDiff, Go.Addr.add, ↓reduceIte] at hx393_3); (try simp only [show (1 : Int).toNat = 1 from rfl, Nat.reduceMul, Nat.reduceEqDiff, Go.Addr.add, ↓reduceIte] at hx393_4); (try simp only [show (1 : Int).toNat = 1 from rfl, Nat.reduceMul, Nat.reduceEqDiff, Go.Addr.add, ↓reduceIte] at hx393_5); (try simp only [show (1 : Int).toNat = 1 from rfl, Nat.reduceMul, Nat.reduceEqDiff, Go.Addr.add, ↓reduceIte] at hx393_6); (try simp only [show (1 : Int).toNat = 1 from rfl, Nat.reduceMul, Nat.reduceEqDiff, Go.Addr.add, ↓reduceIte] at hx393_7); (try simp only [show (1 : Int).toNat = 1 from rfl, Nat.reduceMul, Nat.reduceEqDiff, Go.Addr.add, ↓reduceIte] at hx393_8); have qi393 : (1 < t380.length) = True := eq_true (by omega); (try rw [show ((1 : Int)).toNat = 1 from rfl] at hx393_0); (try rw [show 1 * 9 = 9 from rfl] at hx393_0); (try rw [show ((1 : Int)).toNat = 1 from rfl] at hx393_1); (try rw [show 1 * 9 = 9 from rfl] at hx393_1); (try rw [show ((1 : Int)).toNat = 1 from rfl] at hx393_2); (try rw [show 1 * 9 = 9 from rfl] at hx393_2); (try rw [show ((1 : Int)).toNat = 1 from rfl] at hx393_3); (try rw [show 1 * 9 = 9 from rfl] at hx393_3); (try rw [show ((1 : Int)).toNat = 1 from rfl] at hx393_4); (try rw [show 1 * 9 = 9 from rfl] at hx393_4); (try rw [show ((1 : Int)).toNat = 1 from rfl] at hx393_5); (try rw [show 1 * 9 = 9 from rfl] at hx393_5); (try rw [show ((1 : Int)).toNat = 1 from rfl] at hx393_6); (try rw [show 1 * 9 = 9 from rfl] at hx393_6); (try rw [show ((1 : Int)).toNat = 1 from rfl] at hx393_7); (try rw [show 1 * 9 = 9 from rfl] at hx393_7); (try rw [show ((1 : Int)).toNat = 1 from rfl] at hx393_8); (try rw [show 1 * 9 = 9 from rfl] at hx393_8); have HR393_8 := Aside0.mk hi393_8; have HC393_8 := Aside0.mk hl393_8; clear hi393_8 hl393_8; replace p393 := eq_true p393; replace q393 := eq_true q393)) | ((revert z149; intro z149); (go_at_call 22; (with_reducible refine (surtitlelaw19_SamePairs.calls k _ _ t374 _ _ y389 true _ ?side1 ?side2 ?side3 ?side4 A5.out).mono ?_); (case side1 => repeat (first | exact (Kd.R_reads' HO376.out).2.2 | (with_reducible refine Kd.C_alloc ?_ _) | (with_reducible refine Kd.C_drewN ?_ _) | (with_reducible refine Kd.C_drew ?_))); (case side2 => exact (Kd.R_reads' HO376.out).2.1); (case side3 => repeat (first | exact (Kd.R_reads' HO391.out).2.2 | (with_reducible refine Kd.C_alloc ?_ _) | (with_reducible refine Kd.C_drewN ?_ _) | (with_reducible refine Kd.C_drew ?_))); (case side4 => exact (Kd.R_reads' HO391.out).2.1); rintro e w' ⟨rfl, ⟨nd, rfl⟩⟩; obtain ⟨hcz40_0, hfz40_0⟩ := blk_cells1 BK386.out; have p393 : 0 ≤ (1 : Int) := (by omega); have q393 : 1 < (t380.length : Int) := of_decide_eq_true (by first | (with_reducible assumption) | assumption); obtain ⟨ad393, A393_8, c393_8, e393, hx393_0, hx393_1, hx393_2, hx393_3, hx393_4, hx393_5, hx393_6, hx393_7, hx393_8, hl393_8, hi393_8⟩ := at_T38 (Kd.S_reads' HO382.out).2.2 1 p393 q393; cases e393; obtain ⟨ce393, hce393, hMe393, hcc393⟩ := Kd.S_get HO382.out z38 1 p393 (by first | exact q393 | exact of_decide_eq_true (by first | (with_reducible assumption) | assumption) | (have e_ := (Kd.S_reads' HO382.out).1; omega)); obtain ⟨ve393_8, rfl, ge393_8⟩ := k38_openM hMe393; have hv393_8 := hcc393 8 _ rfl; rw [add_field _ _ 8 (by omega)] at hv393_8; replace hv393_8 := Option.some.inj (hv393_8.symm.trans hx393_8); rw [hv393_8] at ge393_8; have HL393_8 := Aside0.mk (show Kd.R k79 79 _ _ _ _ ((rd_T38 t380 1).f5.f1) from ge393_8); clear hv393_8 ge393_8; clear hcc393 hce393; (try simp only [show (1 : Int).toNat = 1 from rfl, Nat.reduceMul, Nat.reduceEqDiff, Go.Addr.add, ↓reduceIte] at hx393_0); (try simp only [show (1 : Int).toNat = 1 from rfl, Nat.reduceMul, Nat.reduceEqDiff, Go.Addr.add, ↓reduceIte] at hx393_1); (try simp only [show (1 : Int).toNat = 1 from rfl, Nat.reduceMul, Nat.reduceEqDiff, Go.Addr.add, ↓reduceIte] at hx393_2); (try simp only [show (1 : Int).toNat = 1 from rfl, Nat.reduceMul, Nat.reduceEqDiff, Go.Addr.add, ↓reduceIte] at hx393_3); (try simp only [show (1 : Int).toNat = 1 from rfl, Nat.reduceMul, Nat.reduceEqDiff, Go.Addr.add, ↓reduceIte] at hx393_4); (try simp only [show (1 : Int).toNat = 1 from rfl, Nat.reduceMul, Nat.reduceEqDiff, Go.Addr.add, ↓reduceIte] at hx393_5); (try simp only [show (1 : Int).toNat = 1 from rfl, Nat.reduceMul, Nat.reduceEqDiff, Go.Addr.add, ↓reduceIte] at hx393_6); (try simp only [show (1 : Int).toNat = 1 from rfl, Nat.reduceMul, Nat.reduceEqDiff, Go.Addr.add, ↓reduceIte] at hx393_7); (try simp only [show (1 : Int).toNat = 1 from rfl, Nat.reduceMul, Nat.reduceEqDiff, Go.Addr.add, ↓reduceIte] at hx393_8); have qi393 : (1 < t380.length) = True := eq_true (by omega); (try rw [show ((1 : Int)).toNat = 1 from rfl] at hx393_0); (try rw [show 1 * 9 = 9 from rfl] at hx393_0); (try rw [show ((1 : Int)).toNat = 1 from rfl] at hx393_1); (try rw [show 1 * 9 = 9 from rfl] at hx393_1); (try rw [show ((1 : Int)).toNat = 1 from rfl] at hx393_2); (try rw [show 1 * 9 = 9 from rfl] at hx393_2); (try rw [show ((1 : Int)).toNat = 1 from rfl] at hx393_3); (try rw [show 1 * 9 = 9 from rfl] at hx393_3); (try rw [show ((1 : Int)).toNat = 1 from rfl] at hx393_4); (try rw [show 1 * 9 = 9 from rfl] at hx393_4); (try rw [show ((1 : Int)).toNat = 1 from rfl] at hx393_5); (try rw [show 1 * 9 = 9 from rfl] at hx393_5); (try rw [show ((1 : Int)).toNat = 1 from rfl] at hx393_6); (try rw [show 1 * 9 = 9 from rfl] at hx393_6); (try rw [show ((1 : Int)).toNat = 1 from rfl] at hx393_7); (try rw [show 1 * 9 = 9 from rfl] at hx393_7); (try rw [show ((1 : Int)).toNat = 1 from rfl] at hx393_8); (try rw [show 1 * 9 = 9 from rfl] at hx393_8); have HR393_8 := Aside0.mk hi393_8; have HC393_8 := Aside0.mk hl393_8; clear hi393_8 hl393_8; replace p393 := eq_true p393; replace q393 := eq_true q393; have p394 : 0 ≤ (3 : Int) := (by omega); have q394 : 3 < (t380.length : Int) := of_decide_eq_true (by first | (with_reducible assumption) | assumption); obtain ⟨ad394, A394_8, c394_8, e394, hx394_0, hx394_1, hx394_2, hx394_3, hx394_4, hx394_5, hx394_6, hx394_7, hx394_8, hl394_8, hi394_8⟩ := at_T38 (Kd.S_reads' HO382.out).2.2 3 p394 q394; obtain rfl : ad393 = ad394 := (by injection e394); obtain ⟨ce394, hce394, hMe394, hcc394⟩ := Kd.S_get HO382.out z38 3 p394 (by first | exact q394 | exact of_decide_eq_true (by first | (with_reducible assumption) | assumption) | (have e_ := (Kd.S_reads' HO382.out).1; omega)); obtain ⟨ve394_8, rfl, ge394_8⟩ := k38_openM hMe394; have hv394_8 := hcc394 8 _ rfl; rw [add_field _ _ 8 (by omega)] at hv394_8; replace hv394_8 := Option.some.inj (hv394_8.symm.trans hx394_8); rw [hv394_8] at ge394_8; have HL394_8 := Aside0.mk (show Kd.R k79 79 _ _ _ _ ((rd_T38 t380 3).f5.f1) from ge394_8); clear hv394_8 ge394_8; clear hcc394 hce394; (try simp only [show (3 : Int).toNat = 3 from rfl, Nat.reduceMul, Nat.reduceEqDiff, Go.Addr.add, ↓reduceIte] at hx394_0); (try simp only [show (3 : Int).toNat = 3 from rfl, Nat.reduceMul, Nat.reduceEqDiff, Go.Addr.add, ↓reduceIte] at hx394_1); (try simp only [show (3 : Int).toNat = 3 from rfl, Nat.reduceMul, Nat.reduceEqDiff, Go.Addr.add, ↓reduceIte] at hx394_2); (try simp only [show (3 : Int).toNat = 3 from rfl, Nat.reduceMul, Nat.reduceEqDiff, Go.Addr.add, ↓reduceIte] at hx394_3); (try simp only [show (3 : Int).toNat = 3 from rfl, Nat.reduceMul, Nat.reduceEqDiff, Go.Addr.add, ↓reduceIte] at hx394_4); (try simp only [show (3 : Int).toNat = 3 from rfl, Nat.reduceMul, Nat.reduceEqDiff, Go.Addr.add, ↓reduceIte] at hx394_5); (try simp only [show (3 : Int).toNat = 3 from rfl, Nat.reduceMul, Nat.reduceEqDiff, Go.Addr.add, ↓reduceIte] at hx394_6); (try simp only [show (3 : Int).toNat = 3 from rfl, Nat.reduceMul, Nat.reduceEqDiff, Go.Addr.add, ↓reduceIte] at hx394_7); (try simp only [show (3 : Int).toNat = 3 from rfl, Nat.reduceMul, Nat.reduceEqDiff, Go.Addr.add, ↓reduceIte] at hx394_8); have qi394 : (3 < t380.length) = True := eq_true (by omega); (try rw [show ((3 : Int)).toNat = 3 from rfl] at hx394_0); (try rw [show 3 * 9 = 27 from rfl] at hx394_0); (try rw [show ((3 : Int)).toNat = 3 from rfl] at hx394_1); (try rw [show 3 * 9 = 27 from rfl] at hx394_1); (try rw [show ((3 : Int)).toNat = 3 from rfl] at hx394_2); (try rw [show 3 * 9 = 27 from rfl] at hx394_2); (try rw [show ((3 : Int)).toNat = 3 from rfl] at hx394_3); (try rw [show 3 * 9 = 27 from rfl] at hx394_3); (try rw [show ((3 : Int)).toNat = 3 from rfl] at hx394_4); (try rw [show 3 * 9 = 27 from rfl] at hx394_4); (try rw [show ((3 : Int)).toNat = 3 from rfl] at hx394_5); (try rw [show 3 * 9 = 27 from rfl] at hx394_5); (try rw [show ((3 : Int)).toNat = 3 from rfl] at hx394_6); (try rw [show 3 * 9 = 27 from rfl] at hx394_6); (try rw [show ((3 : Int)).toNat = 3 from rfl] at hx394_7); (try rw [show 3 * 9 = 27 from rfl] at hx394_7); (try rw [show ((3 : Int)).toNat = 3 from rfl] at hx394_8); (try rw [show 3 * 9 = 27 from rfl] at hx394_8); have HR394_8 := Aside0.mk hi394_8; have HC394_8 := Aside0.mk hl394_8; clear hi394_8 hl394_8; replace p394 := eq_true p394; replace q394 := eq_true q394)))
  go_ret
  exact ⟨by first | rfl | (simp [errW_none, errW_some] <;> rfl) | (simp [*, errW_none, errW_some] <;> rfl), by repeat (first | (with_reducible first | exact HB.out | apply l1 | apply l2 | apply l3 | refine below_set ?_ GE366.out | refine below_set ?_ GE373.out | refine below_set ?_ GE386.out) | exact HB.out)⟩
def surtitlelaw19_DualNames.f (k : Nat)  : Option (Bool) := (surtitlelaw19_head.f k).bind fun t395 => (some t395)
set_option maxHeartbeats 8000000 in
set_option maxRecDepth 100000 in
theorem surtitlelaw19_DualNames.calls (k : Nat)  (r : Bool) (w : World) (h : surtitlelaw19_DualNames.f k  = some r) :
  Calls Try.prog 3 #[] w fun e w' => e = .returned (.bool r) ∧ Below w.heap.size w w' := by
 have HB := Aside0.mk (Below.refl w.heap.size w)
 have H : ((surtitlelaw19_head.f k).bind fun t395 => (some t395)) = some r := h
 clear h
 replace H := Option.bind_eq_some_iff.mp H
 obtain ⟨t395, A10, H⟩ := H
 (try dsimp only at H)
 have A1 := Aside0.mk A10
 clear A10
 obtain rfl := Option.some.inj H
 go_enter Try.func3, Try.ntmps3
 go_wp2_with (first | (go_at_call 12; (with_reducible refine (surtitlelaw19_head.calls k  t395 _ A1.out).mono ?_); rintro e w2 ⟨rfl, hb⟩; replace HB := Aside0.mk (below_step (lA HB.out) hb); (try clear hb); (try clear hb2); (try clear hk); (try clear hi)))
 go_ret
 exact ⟨by first | rfl | (simp [errW_none, errW_some] <;> rfl) | (simp [*, errW_none, errW_some] <;> rfl), by repeat (first | (with_reducible first | exact HB.out | apply l1 | apply l2 | apply l3) | exact HB.out)⟩
def surtitlelaw19_DualNames.Pure : Prop := ∃ k, surtitlelaw19_DualNames.f k  = some true
theorem surtitlelaw19_DualNames.walk (P : surtitlelaw19_DualNames.Pure)  (w : World)  :
  Calls Try.prog 3 #[] w fun e w' => e = .returned (.bool true) ∧ Below w.heap.size w w' := by
 obtain ⟨k, h⟩ := P  
 refine (surtitlelaw19_DualNames.calls k  true w h).mono ?_
 rintro e w' ⟨rfl, hd⟩
 exact ⟨rfl, hd⟩
end Go.Proofs.Ytlbicmdfdpcdiaa.PDa
