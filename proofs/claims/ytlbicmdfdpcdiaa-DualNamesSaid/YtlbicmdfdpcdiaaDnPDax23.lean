-- printed
import Derived.Test.YtlbicmdfdpcdiaaDnPDax0
import Derived.Test.YtlbicmdfdpcdiaaDnPDax18
import Derived.Test.YtlbicmdfdpcdiaaDnPDax22
namespace Go.Proofs.Ytlbicmdfdpcdiaa.PDa
open Go.RowKit Go.Proofs.YtlbicmdfdpcdiaaW.PrintWords Go.Proofs.YtlbicmdfdpcdiaaW.PrintLast Go.Proofs.YtlbicmdfdpcdiaaW.PrintMore
attribute [local go_sem] max2_int min2_int max_two min_two max_three min_three max_four min_four
set_option linter.unusedVariables false
set_option linter.unusedSimpArgs false
namespace SK
open Go.Shelf Go.Lib
structure BelowBy (w : World) where
 W : World
 h : Below w.heap.size w W
instance (w : World) : Inhabited (BelowBy w) := ⟨⟨w, Below.refl _ _⟩⟩
theorem wp_region_quiet_below {P : Program} {id : Nat} {Q : Exit → Act → World → Prop} {a : Act} {w : World} {l : List Oper} (hm : P.follows .mixedOrders = true) (hB : Region.lexB .any l.toArray = true)
  (h : wpQuiet P l.toArray (fun w' => ∃ p : BelowBy w, w' = p.W) (fun a' => ∀ w', (∃ p : BelowBy w, w' = p.W) → Q .normal a' w') l a) : (Code.region id l.toArray true).wp P Q a w :=
 wp_region_quiet (C := fun w' => ∃ p : BelowBy w, w' = p.W) hm hB ⟨⟨w.drew, (Below.refl _ _).drew⟩, rfl⟩ (by simpa using h)
theorem Calls.below_of {P : Program} {f : FuncId} {args : Array Value} {w : World} {p : BelowBy w} {v : Value}
  (h : Calls P f args p.W fun e w' => e = .returned v ∧ Below p.W.heap.size p.W w') : Calls P f args p.W fun e w'' => e = .returned v ∧ ∃ q : BelowBy w, w'' = q.W :=
 h.mono fun _ w' ⟨he, hb⟩ => ⟨he, ⟨w', p.h.trans (hb.mono p.h.size)⟩, rfl⟩
def ltc {α : Type} (cf : α → α → Int) (x y : α) : Bool := decide (cf x y < 0)
variable {P : Program} {α : Type}
set_option maxHeartbeats 4000000 in
set_option maxRecDepth 1000000 in
theorem insertion_calls (k : Nat) (T : TF P k) (FG : P.funcs[66]? = some Try.f66) (enc : α → List Value) (hk : ∀ x, (enc x).length = k) (h1 : ∀ x, ∀ v ∈ enc x, v.oneCell' = true) (cf : α → α → Int) (H : SWO (ltc cf))
  (g : Nat) (eg : ∀ args w, (callFunc g args).run P w = .ok (.enter g args) w) (hcmp : ∀ (x y : α) (w : World), Calls P g #[.agg (enc x).toArray, .agg (enc y).toArray] w fun e w' => e = .returned (.int .i64 (cf x y)) ∧ Below w.heap.size w w')
  (blk off cap a b N : Nat) (ho : off = 0) (tail : List Value) (w0 w : World) (pre S post : List α)
  (SW : SWB enc blk 38 tail w0 (pre ++ (S ++ post)) w) (ha : a = pre.length) (hb : b = pre.length + S.length) (hN : N = pre.length + (S.length + post.length)) (hsz : N < 4611686018427387904) :
  Calls P 66 #[.slice (some ⟨blk, off, none⟩) N cap, .int .i64 a, .int .i64 b, .func (.func g) #[] #[]] w fun e w' => e = .returned (.tuple #[]) ∧ SWB enc blk 38 tail w0 (pre ++ (isort (ltc cf) S ++ post)) w' := by
 have mixed := T.mixed; have t0 := T.t0; have a0 := T.a0; have z0 := T.z0; have v0 := T.v0; have t3 := T.t3; have a3 := T.a3; have z3 := T.z3; have v3 := T.v3; have t4 := T.t4; have a4 := T.a4; have z4 := T.z4; have v4 := T.v4; have tS := T.tS; have aS := T.aS; have zS := T.zS; have vS := T.vS; have tC := T.tC; have aC := T.aC; have zC := T.zC; have vC := T.vC; have aE := T.aE; have zE := T.zE
 have u22 := run_underlying T.tS
 have HK : Hid (∀ x, (enc x).length = k) := hk
 have H1 : Hid (∀ x, ∀ v ∈ enc x, v.oneCell' = true) := h1
 have HC : Aside _ := hcmp
 have HO : Hid (off = 0) := ho
 have HH : Hid (SWO (ltc cf)) := H
 have S0 : Aside (SWB enc blk 38 tail w0 (pre ++ (S ++ post)) w) := SW
 have HA : Hid (a = pre.length ∧ b = pre.length + S.length ∧ N = pre.length + (S.length + post.length)) := ⟨ha, hb, hN⟩
 have haN : a ≤ N := by omega
 have hbN : b ≤ N := by omega
 clear SW hk h1 ha hb hN ho hcmp H
 go_enter FG, Try.ntmps66
 go_wp2
 go_loopg [8] (S.length) (fun kx s wr => ∃ (i t : Nat), s = .int .i64 i ∧ a < i ∧ i ≤ N + 1 ∧ S.length + 1 - t ≤ kx + 1 ∧ Hid (i = a + t ∧ (t ≤ S.length ∨ t = 1)) ∧ Aside (SWB enc blk 38 tail w0 (pre ++ (isort (ltc cf) (S.take t) ++ (S.drop t ++ post))) wr))
 case atStart =>
  refine ⟨a + 1, 1, by go_num, by omega, by omega, by omega, ⟨rfl, .inr rfl⟩, ?_⟩
  have e : isort (ltc cf) (S.take 1) = S.take 1 := by
   cases S with
   | nil => rfl
   | cons x S => simp [isort, insR]
  show SWB _ _ _ _ _ _ _
  rw [e, ← List.append_assoc (S.take 1), List.take_append_drop]
  exact S0
 case round =>
  clear S0
  obtain ⟨i, t, rfl, hai, hiN, hkx, HI, S1⟩ := hrel
  by_cases hlt : i < b
  ·have hltz : (i : Int) < (b : Int) := by omega
   have htS : t < S.length := by have := HI.out; have := HA.out; omega
   obtain ⟨x, hx⟩ : ∃ x, S[t] = x := ⟨_, rfl⟩
   have hdr : S.drop t = x :: S.drop (t + 1) := by rw [← hx]; exact List.drop_eq_getElem_cons htS
   have htk : isort (ltc cf) (S.take (t + 1)) = mg (ltc cf) (isort (ltc cf) (S.take t)) [x] := by
    rw [List.take_succ_eq_append_getElem htS, isort_snoc, hx]
   have S2 : Aside (SWB enc blk 38 tail w0 (pre ++ (isort (ltc cf) (S.take t) ++ (x :: (S.drop (t + 1) ++ post)))) wr) := by
    show SWB _ _ _ _ _ _ _
    have := S1
    rw [hdr] at this
    exact this
   have HX : Hid (isort (ltc cf) (S.take (t + 1)) = mg (ltc cf) (isort (ltc cf) (S.take t)) [x] ∧ (isort (ltc cf) (S.take t)).length = t ∧ srt (ltc cf) (isort (ltc cf) (S.take t))) := ⟨htk, by rw [isort_length, List.length_take]; omega, isort_srt HH.out _⟩
   clear hx hdr htk S1
   go_wp2
   go_loopg [9] t (fun kj s wr2 => ∃ (j : Nat) (Q1 Q2 : List α), s = .int .i64 j ∧ a ≤ j ∧ j ≤ i ∧ j - a ≤ kj ∧ Hid (isort (ltc cf) (S.take t) = Q1 ++ Q2 ∧ j = a + Q1.length ∧ ∀ q ∈ Q2, ltc cf x q = true) ∧ Aside (SWB enc blk 38 tail w0 (pre ++ (Q1 ++ (x :: (Q2 ++ (S.drop (t + 1) ++ post))))) wr2))
   case atStart => exact ⟨i, isort (ltc cf) (S.take t), [], rfl, by omega, Nat.le_refl _, by have := HI.out; omega, ⟨by simp, by have := HI.out; have := HX.out; omega, by simp⟩, S2⟩
   case round =>
    clear S2
    obtain ⟨j, Q1, Q2, rfl, haj, hji, hkj, HQ, S3⟩ := hrel
    have out : (∀ q ∈ Q1, ltc cf x q = false) → Q1 ++ (x :: Q2) = isort (ltc cf) (S.take (t + 1)) := fun hq => by
     rw [HX.out.1, HQ.out.1]
     have := mg_cut (lt := ltc cf) (A2 := Q2) (B2 := []) Q1 [x] (by simp) (fun b hb a ha => by rw [List.mem_singleton.1 hb]; exact HQ.out.2.2 a ha)
     rw [mg_le Q1 [x] (fun a ha b hb => by rw [List.mem_singleton.1 hb]; exact hq a ha)] at this
     simpa using this.symm
    have OUT : Aside _ := out
    clear out
    have fin : ∀ wr2, (∀ q ∈ Q1, ltc cf x q = false) → SWB enc blk 38 tail w0 (pre ++ (Q1 ++ (x :: (Q2 ++ (S.drop (t + 1) ++ post))))) wr2 → Aside (SWB enc blk 38 tail w0 (pre ++ (isort (ltc cf) (S.take (t + 1)) ++ (S.drop (t + 1) ++ post))) wr2) := fun wr2 hq h => by
     show SWB _ _ _ _ _ _ _
     rw [← OUT hq]
     simpa using h
    have FIN : Aside _ := fin
    clear fin
    rcases List.eq_nil_or_concat Q1 with rfl | ⟨Q, y, rfl⟩
    ·-- j = a
     have hja : j = a := by have := HQ.out.2.1; simpa using this
     have hjaz : decide ((j : Int) > (a : Int)) = false := decide_eq_false (by omega)
     have hjaz' : ¬ (a : Int) < (j : Int) := by omega
     have hjan : ¬ a < j := by omega
     clear hja
     have S4 : Aside (SWB enc blk 38 tail w0 _ wr.drew) := FIN wr.drew (by simp) (SWB.drew S3)
     go_wp2_with fail
     go_big_region_o
     all_goals go_wp2
     go_roundg (S.length - (t + 1))
     case measure => have := HI.out; omega
     case rel => exact ⟨i + 1, t + 1, by go_num, by omega, by omega, by omega, ⟨by have := HI.out; omega, .inl (by omega)⟩, S4⟩
    ·rw [List.concat_eq_append] at *
     obtain ⟨jp, hjp⟩ : ∃ jp, j = jp + 1 := ⟨j - 1, by have := HQ.out.2.1; simp at this; omega⟩
     subst hjp
     have hjan : a < jp + 1 := by have := HQ.out.2.1; simp at this; omega
     have hjaz : (a : Int) < (jp : Int) + 1 := by omega
     have jN : (jp : Int) + 1 < (N : Int) := by have := HQ.out; have := HI.out; have := HA.out; omega
     have jN1 : (jp : Int) < (N : Int) := by omega
     have hwp : IntKind.i64.wrap (jp : Int) = (jp : Int) := by rw [IntKind.wrap_i64]; omega
     have p0 : (0 : Int) ≤ (jp : Int) + 1 := by omega
     have e0 : ((jp : Int) + 1).toNat = jp + 1 := by omega
     have hjQ : jp = (pre ++ Q).length := by have := HQ.out.2.1; have := HA.out.1; simp at this ⊢; simp at *; omega
     have lx : ∀ p : BelowBy wr, Sem.run P (loadCellsFrom ⟨blk, off + (jp + 1) * k, none⟩ 0 k #[]) p.W = .ok (enc x).toArray p.W := fun p => (SWB.below S3 p.h).load P HK.out HO.out (p := pre ++ (Q ++ [y])) (x := x) (r := Q2 ++ (S.drop (t + 1) ++ post)) (by simp) (by rw [hjQ]; simp; omega)
     have ly : ∀ p : BelowBy wr, Sem.run P (loadCellsFrom ⟨blk, off + jp * k, none⟩ 0 k #[]) p.W = .ok (enc y).toArray p.W := fun p => (SWB.below S3 p.h).load P HK.out HO.out (p := pre ++ Q) (x := y) (r := x :: (Q2 ++ (S.drop (t + 1) ++ post))) (by simp) hjQ
     have hcg : ∀ p : BelowBy wr, Calls P g #[.agg (enc x).toArray, .agg (enc y).toArray] p.W fun e w' => e = .returned (.int .i64 (cf x y)) ∧ Below p.W.heap.size p.W w' := fun p => HC x y p.W
     have HJ : Hid (jp = (pre ++ Q).length) := hjQ
     clear hjQ
     by_cases hlv : cf x y < 0
     ·go_wp2_with fail
      refine wp_region_quiet_below (by assumption) (by kernel_rfl) ?_
      repeat (quiet_step (first | (go_at_fn g; refine Calls.below_of (hcg _))))
      refine wpQuiet_nil ?_
      intro wq hw'
      have hbq : Below wr.heap.size wr wq := by obtain ⟨p, hp⟩ := hw'; rw [hp]; exact p.h
      clear hw' lx ly hcg
      have S4 := (SWB.below S3 hbq).drew
      have HB : Aside _ := hbq
      clear hbq S3
      go_wp2_with fail
      have l1 := S4.load P HK.out HO.out (i := jp + 1) (p := pre ++ (Q ++ [y])) (x := x) (r := Q2 ++ (S.drop (t + 1) ++ post)) (by simp) (by rw [HJ.out]; simp; omega)
      have l2 := S4.load P HK.out HO.out (i := jp) (p := pre ++ Q) (x := y) (r := x :: (Q2 ++ (S.drop (t + 1) ++ post))) (by simp) HJ.out
      obtain ⟨s1, S5⟩ := S4.store P HK.out H1.out HO.out (i := jp + 1) (p := pre ++ (Q ++ [y])) (x := x) (r := Q2 ++ (S.drop (t + 1) ++ post)) y (by simp) (by rw [HJ.out]; simp; omega)
      obtain ⟨s2, S6⟩ := S5.store P HK.out H1.out HO.out (i := jp) (p := pre ++ Q) (x := y) (r := y :: (Q2 ++ (S.drop (t + 1) ++ post))) x (by simp) HJ.out
      have S7 : Aside (SWB enc blk 38 tail w0 (pre ++ (Q ++ (x :: ((y :: Q2) ++ (S.drop (t + 1) ++ post))))) ((wq.drew.setCells blk (off + (jp + 1) * k) (enc y)).setCells blk (off + jp * k) (enc x))) := by
       show SWB _ _ _ _ _ _ _
       simpa using S6
      have n1 : (enc x).length = k := HK.out _
      have n2 : (enc y).length = k := HK.out _
      have HL : Hid (ltc cf x y = true) := decide_eq_true (by omega)
      clear S4 S5 S6 hlv
      generalize enc x = cX at S7 l1 s2 n1
      generalize enc y = cY at S7 l2 s1 s2 n2
      go_big_region_o
      clear l1 l2 s1 s2
      generalize (wq.drew.setCells blk (off + (jp + 1) * k) cY).setCells blk (off + jp * k) cX = w2 at S7 ⊢
      go_wp2
      go_roundg (jp - a)
      case measure => omega
      case rel =>
       refine ⟨jp, Q, y :: Q2, by first | rfl | go_num, by omega, by omega, Nat.le_refl _, ⟨by rw [HQ.out.1]; simp, by have := HJ.out; have := HA.out.1; simp at *; omega, fun q hq => ?_⟩, S7⟩
       rcases List.mem_cons.1 hq with rfl | hq
       ·exact HL.out
       ·exact HQ.out.2.2 q hq
     ·go_wp2_with fail
      refine wp_region_quiet_below (by assumption) (by kernel_rfl) ?_
      repeat (quiet_step (first | (go_at_fn g; refine Calls.below_of (hcg _))))
      refine wpQuiet_nil ?_
      intro wq hw'
      have hbq : Below wr.heap.size wr wq := by obtain ⟨p, hp⟩ := hw'; rw [hp]; exact p.h
      clear hw' lx ly hcg
      have hle : ∀ q ∈ Q ++ [y], ltc cf x q = false := fun q hq => by
       have hy : ltc cf x y = false := decide_eq_false (by omega)
       rcases List.mem_append.1 hq with hq | hq
       ·have hs := HX.out.2.2
        rw [HQ.out.1] at hs
        have := (List.pairwise_append.1 (List.pairwise_append.1 hs).1).2.2 q hq y (by simp)
        exact HH.out.trans q y x this hy
       ·rw [List.mem_singleton.1 hq]; exact hy
      have S4 : Aside (SWB enc blk 38 tail w0 _ wq) := FIN wq hle (SWB.below S3 hbq)
      have HB : Aside _ := hbq
      clear hbq S3 hle
      go_wp2
      go_roundg (S.length - (t + 1))
      case measure => have := HI.out; omega
      case rel => exact ⟨i + 1, t + 1, by go_num, by omega, by omega, by omega, ⟨by have := HI.out; omega, .inl (by omega)⟩, S4⟩
  ·have hltz : ¬ (i : Int) < (b : Int) := by omega
   go_wp2
   go_end0
   refine ⟨rfl, ?_⟩
   have h2 := HI.out
   have h3 := HA.out
   have e : S.take t = S := List.take_of_length_le (by omega)
   have e2 : S.drop t = [] := List.drop_eq_nil_of_le (by omega)
   have this : SWB enc blk 38 tail w0 _ wr := S1
   rw [e, e2] at this
   simpa using this
end SK
namespace SK
open Go.Shelf Go.Lib
variable {P : Program} {α : Type}
theorem srch_up {lt : α → α → Bool} (H : SWO lt) {B : List α} (hB : srt lt B) {s : Nat} (hs : s < B.length) {x : α} (h : lt B[s] x = true) : ∀ z ∈ B.take (s + 1), lt z x = true := by
 intro z hz
 rw [List.take_succ_eq_append_getElem hs] at hz
 rcases List.mem_append.1 hz with hz | hz
 ·have hp : lt B[s] z = false := by
   have h3 : srt lt (B.take s ++ B.drop s) := by rw [List.take_append_drop]; exact hB
   rw [List.drop_eq_getElem_cons hs] at h3
   exact (List.pairwise_append.1 h3).2.2 z hz B[s] (List.mem_cons_self ..)
  cases hzx : lt z x
  ·have := H.trans x z B[s] hzx hp
   rw [this] at h; cases h
  ·rfl
 ·rw [List.mem_singleton.1 hz]; exact h
theorem srch_down {lt : α → α → Bool} (H : SWO lt) {B : List α} (hB : srt lt B) {s : Nat} (hs : s < B.length) {x : α} (h : lt B[s] x = false) : ∀ z ∈ B.drop s, lt z x = false := by
 intro z hz
 rw [List.drop_eq_getElem_cons hs] at hz
 rcases List.mem_cons.1 hz with rfl | hz
 ·exact h
 ·have hp : lt z B[s] = false := by
   have h3 : srt lt (B.take s ++ B.drop s) := by rw [List.take_append_drop]; exact hB
   rw [List.drop_eq_getElem_cons hs] at h3
   exact (List.pairwise_cons.1 (List.pairwise_append.1 h3).2.1).1 z hz
  exact H.trans x B[s] z h hp
set_option maxHeartbeats 4000000 in
set_option maxRecDepth 1000000 in
theorem sym_one (k : Nat) (T : TF P k) (FG : P.funcs[67]? = some Try.f67) (enc : α → List Value) (hk : ∀ x, (enc x).length = k) (h1 : ∀ x, ∀ v ∈ enc x, v.oneCell' = true) (cf : α → α → Int) (H : SWO (ltc cf))
  (g : Nat) (eg : ∀ args w, (callFunc g args).run P w = .ok (.enter g args) w) (hcmp : ∀ (x y : α) (w : World), Calls P g #[.agg (enc x).toArray, .agg (enc y).toArray] w fun e w' => e = .returned (.int .i64 (cf x y)) ∧ Below w.heap.size w w')
  (blk off cap a m b N : Nat) (ho : off = 0) (tail : List Value) (w0 w : World) (pre : List α) (x : α) (B post : List α) (hB : srt (ltc cf) B)
  (SW : SWB enc blk 38 tail w0 (pre ++ (x :: (B ++ post))) w) (ha : a = pre.length) (hm : m = a + 1) (hb : b = m + B.length) (hN : N = pre.length + (1 + (B.length + post.length))) (hsz : N < 4611686018427387904) :
  Calls P 67 #[.slice (some ⟨blk, off, none⟩) N cap, .int .i64 a, .int .i64 m, .int .i64 b, .func (.func g) #[] #[]] w fun e w' => e = .returned (.tuple #[]) ∧ SWB enc blk 38 tail w0 (pre ++ (mg (ltc cf) [x] B ++ post)) w' := by
 have mixed := T.mixed; have t0 := T.t0; have a0 := T.a0; have z0 := T.z0; have v0 := T.v0; have t3 := T.t3; have a3 := T.a3; have z3 := T.z3; have v3 := T.v3; have t4 := T.t4; have a4 := T.a4; have z4 := T.z4; have v4 := T.v4; have tS := T.tS; have aS := T.aS; have zS := T.zS; have vS := T.vS; have tC := T.tC; have aC := T.aC; have zC := T.zC; have vC := T.vC; have aE := T.aE; have zE := T.zE; have tU := T.tU; have aU := T.aU; have zU := T.zU; have vU := T.vU
 have u22 := run_underlying T.tS
 have HK : Hid (∀ x, (enc x).length = k) := hk
 have H1 : Hid (∀ x, ∀ v ∈ enc x, v.oneCell' = true) := h1
 have HC : Aside _ := hcmp
 have HO : Hid (off = 0) := ho
 have HH : Hid (SWO (ltc cf)) := H
 have HBs : Hid (srt (ltc cf) B) := hB
 have S0 : Aside (SWB enc blk 38 tail w0 (pre ++ (x :: (B ++ post))) w) := SW
 subst hm
 have HA : Hid (a = pre.length ∧ b = a + 1 + B.length ∧ N = pre.length + (1 + (B.length + post.length))) := ⟨ha, hb, hN⟩
 have haN : a + 1 ≤ N := by omega
 have hbN : b ≤ N := by omega
 clear SW hk h1 ha hb hN ho hcmp H hB
 have hone : ((a : Int) + 1) - (a : Int) = 1 := by omega
 go_enter FG, Try.ntmps67
 go_wp2
 go_loopg [10, 11, 12] (b - (a + 1)) (fun kx s10 s11 s12 wr => ∃ (i j : Nat), s10 = .int .i64 i ∧ s11 = .int .i64 j ∧ a + 1 ≤ i ∧ i ≤ j ∧ j ≤ b ∧ j - i ≤ kx ∧ Hid ((∀ z ∈ B.take (i - (a + 1)), ltc cf z x = true) ∧ (∀ z ∈ B.drop (j - (a + 1)), ltc cf z x = false)) ∧ Aside (SWB enc blk 38 tail w0 (pre ++ (x :: (B ++ post))) wr))
 case atStart => exact ⟨a + 1, b, by go_num, rfl, Nat.le_refl _, by have := HA.out; omega, Nat.le_refl _, Nat.le_refl _, ⟨by simp, by rw [List.drop_eq_nil_of_le (by have := HA.out; omega)]; simp⟩, S0⟩
 case round =>
  clear S0
  obtain ⟨i, j, rfl, rfl, hai, hij, hjb, hkx, HI, S1⟩ := hrel
  by_cases hlt : i < j
  ·have hltz : (i : Int) < (j : Int) := by omega
   go_wp2_with fail
   obtain ⟨h, hh⟩ : ∃ h : Nat, (h : Int) = ((i : Int) + (j : Int)) / 2 := ⟨(i + j) / 2, by omega⟩
   rw [← hh]
   have hih : i ≤ h := by omega
   have hhj : h < j := by omega
   have HHh : Hid ((h : Int) = ((i : Int) + (j : Int)) / 2) := hh
   clear hh
   have hs : h - (a + 1) < B.length := by have := HA.out; omega
   obtain ⟨y, hy⟩ : ∃ y, B[h - (a + 1)] = y := ⟨_, rfl⟩
   have hcutB : B = B.take (h - (a + 1)) ++ (y :: B.drop (h - (a + 1) + 1)) := by
    rw [← hy, ← List.drop_eq_getElem_cons hs, List.take_append_drop]
   have hN1 : (h : Int) < (N : Int) := by have := HA.out; omega
   have hN2 : (a : Int) < (N : Int) := by omega
   have ph : (0 : Int) ≤ (h : Int) := by omega
   have pa : (0 : Int) ≤ (a : Int) := by omega
   have S2 : Aside (SWB enc blk 38 tail w0 ((pre ++ (x :: B.take (h - (a + 1)))) ++ (y :: (B.drop (h - (a + 1) + 1) ++ post))) wr) := by
    show SWB _ _ _ _ _ _ _
    have this : SWB enc blk 38 tail w0 _ wr := S1
    rw [hcutB] at this
    simpa using this
   have ly : ∀ p : BelowBy wr, Sem.run P (loadCellsFrom ⟨blk, off + h * k, none⟩ 0 k #[]) p.W = .ok (enc y).toArray p.W := fun p => (SWB.below S2 p.h).load P HK.out HO.out (p := pre ++ (x :: B.take (h - (a + 1)))) (x := y) (r := B.drop (h - (a + 1) + 1) ++ post) rfl (by have := HA.out; simp; omega)
   have lx : ∀ p : BelowBy wr, Sem.run P (loadCellsFrom ⟨blk, off + a * k, none⟩ 0 k #[]) p.W = .ok (enc x).toArray p.W := fun p => (SWB.below S1 p.h).load P HK.out HO.out (p := pre) (x := x) (r := B ++ post) (by simp) HA.out.1
   have hcg : ∀ p : BelowBy wr, Calls P g #[.agg (enc y).toArray, .agg (enc x).toArray] p.W fun e w' => e = .returned (.int .i64 (cf y x)) ∧ Below p.W.heap.size p.W w' := fun p => HC y x p.W
   have HY : Hid (B[h - (a + 1)] = y) := hy
   clear hy hcutB S2
   refine wp_region_quiet_below (by assumption) (by kernel_rfl) ?_
   repeat (quiet_step (first | (go_at_fn g; refine Calls.below_of (hcg _))))
   refine wpQuiet_nil ?_
   intro wq hw'
   have hbq : Below wr.heap.size wr wq := by obtain ⟨p, hp⟩ := hw'; rw [hp]; exact p.h
   clear hw' lx ly hcg
   have S3 : Aside (SWB enc blk 38 tail w0 (pre ++ (x :: (B ++ post))) wq) := SWB.below S1 hbq
   have HB : Aside _ := hbq
   clear hbq S1
   by_cases hlv : cf y x < 0
   ·go_wp2
    go_roundg (j - (h + 1))
    case measure => omega
    case rel =>
     refine ⟨h + 1, j, by go_num, rfl, by omega, by omega, hjb, Nat.le_refl _, ⟨?_, HI.out.2⟩, S3⟩
     have := srch_up HH.out HBs.out hs (x := x) (by rw [HY.out]; exact decide_eq_true (by omega))
     rw [show h + 1 - (a + 1) = h - (a + 1) + 1 by omega]
     exact this
   ·go_wp2
    go_roundg (h - i)
    case measure => omega
    case rel =>
     exact ⟨i, h, rfl, by go_num, hai, hih, by omega, Nat.le_refl _, ⟨HI.out.1, srch_down HH.out HBs.out hs (by rw [HY.out]; exact decide_eq_false (by omega))⟩, S3⟩
  ·have hltz : ¬ (i : Int) < (j : Int) := by omega
   obtain rfl : i = j := by omega
   clear hij hltz hlt
   obtain ⟨B1, B2, hB12, hBl⟩ : ∃ B1 B2, B = B1 ++ B2 ∧ i = a + 1 + B1.length ∧ (∀ z ∈ B1, ltc cf z x = true) ∧ (∀ z ∈ B2, ltc cf z x = false) :=
    ⟨B.take (i - (a + 1)), B.drop (i - (a + 1)), (List.take_append_drop _ _).symm, by rw [List.length_take]; have := HA.out; omega, HI.out.1, HI.out.2⟩
   subst hB12
   have HB2 : Hid (i = a + 1 + B1.length ∧ (∀ z ∈ B1, ltc cf z x = true) ∧ (∀ z ∈ B2, ltc cf z x = false)) := hBl
   clear hBl
   go_wp2
   go_loopg [13] (i - a) (fun kx s13 wr => ∃ (c : Nat) (D1 D2 : List α), s13 = .int .i64 c ∧ a ≤ c ∧ c < i ∧ i - c ≤ kx ∧ Hid (B1 = D1 ++ D2 ∧ c = a + D1.length) ∧ Aside (SWB enc blk 38 tail w0 (pre ++ (D1 ++ (x :: (D2 ++ (B2 ++ post))))) wr))
   case atStart => exact ⟨a, [], B1, rfl, Nat.le_refl _, by omega, by omega, ⟨rfl, rfl⟩, by show SWB _ _ _ _ _ _ _; have this : SWB enc blk 38 tail w0 _ wr := S1; simpa using this⟩
   case round =>
    clear S1
    obtain ⟨c, D1, D2, rfl, hac, hci, hkc, HD, S2⟩ := hrel
    by_cases hlt : c + 1 < i
    ·have hltz : (c : Int) < (i : Int) - 1 := by omega
     obtain ⟨y, D3, hD3⟩ : ∃ y D3, D2 = y :: D3 := by
      cases D2 with
      | nil =>
       have e1 := HD.out.1
       have e2 := HD.out.2
       have e3 := HB2.out.1
       rw [List.append_nil] at e1
       rw [e1] at e3
       omega
      | cons y D3 => exact ⟨y, D3, rfl⟩
     subst hD3
     go_wp2_with fail
     have hcN : (c : Int) < (N : Int) := by omega
     have hcN1 : (c : Int) + 1 < (N : Int) := by omega
     have rc : IntKind.i64.wrap ((c : Int) + 1) = (c : Int) + 1 := by rw [IntKind.wrap_i64]; omega
     have ec : ((c : Int) + 1).toNat = c + 1 := by omega
     have pc : (0 : Int) ≤ (c : Int) + 1 := by omega
     have pc0 : (0 : Int) ≤ (c : Int) := by omega
     have SD := SWB.drew S2
     have hcl : c = (pre ++ D1).length := by have := HD.out.2; have := HA.out.1; simp; omega
     have l1 := SD.load P HK.out HO.out (i := c) (p := pre ++ D1) (x := x) (r := y :: (D3 ++ (B2 ++ post))) (by simp) hcl
     have l2 := SD.load P HK.out HO.out (i := c + 1) (p := pre ++ (D1 ++ [x])) (x := y) (r := D3 ++ (B2 ++ post)) (by simp) (by rw [hcl]; simp; omega)
     obtain ⟨s1, S5⟩ := SD.store P HK.out H1.out HO.out (i := c) (p := pre ++ D1) (x := x) (r := y :: (D3 ++ (B2 ++ post))) y (by simp) hcl
     obtain ⟨s2, S6⟩ := S5.store P HK.out H1.out HO.out (i := c + 1) (p := pre ++ (D1 ++ [y])) (x := y) (r := D3 ++ (B2 ++ post)) x (by simp) (by rw [hcl]; simp; omega)
     have S7 : Aside (SWB enc blk 38 tail w0 (pre ++ ((D1 ++ [y]) ++ (x :: (D3 ++ (B2 ++ post))))) ((wr.drew.setCells blk (off + c * k) (enc y)).setCells blk (off + (c + 1) * k) (enc x))) := by
      show SWB _ _ _ _ _ _ _
      simpa using S6
     have n1 : (enc x).length = k := HK.out _
     have n2 : (enc y).length = k := HK.out _
     have HCL : Hid (c = (pre ++ D1).length) := hcl
     clear SD S5 S6 S2 hcl
     generalize enc x = cX at S7 l1 s2 n1
     generalize enc y = cY at S7 l2 s1 s2 n2
     go_big_region_o
     clear l1 l2 s1 s2
     generalize (wr.drew.setCells blk (off + c * k) cY).setCells blk (off + (c + 1) * k) cX = w2 at S7 ⊢
     go_wp2
     go_roundg (i - (c + 1))
     case measure => omega
     case rel => exact ⟨c + 1, D1 ++ [y], D3, by go_num, by omega, by omega, Nat.le_refl _, ⟨by rw [HD.out.1]; simp, by have := HD.out.2; simp; omega⟩, S7⟩
    ·have hltz : ¬ (c : Int) < (i : Int) - 1 := by omega
     go_wp2
     refine bodyPost_ret (results_none rfl _ _ _) rfl ?_
     refine ⟨rfl, ?_⟩
     have h5 := HD.out
     have h6 := HB2.out
     obtain rfl : D2 = [] := by
      have := h6.1; rw [h5.1] at this; simp at this
      exact List.eq_nil_of_length_eq_zero (by omega)
     have e : mg (ltc cf) [x] (B1 ++ B2) = B1 ++ (x :: B2) := by
      have := mg_cut (lt := ltc cf) (A2 := [x]) (B2 := B2) [] B1 (by simp) (fun b hb a ha => by rw [List.mem_singleton.1 ha]; exact h6.2.1 b hb)
      rw [mg_le [x] B2 (fun a ha b hb => by rw [List.mem_singleton.1 ha]; exact h6.2.2 b hb)] at this
      simpa using this
     rw [e, h5.1]
     have this : SWB enc blk 38 tail w0 _ wr := S2
     simpa using this
end SK
namespace SK
open Go.Shelf Go.Lib
variable {P : Program} {α : Type}
theorem srch_up' {lt : α → α → Bool} (H : SWO lt) {A : List α} (hA : srt lt A) {s : Nat} (hs : s < A.length) {x : α} (h : lt x A[s] = false) : ∀ z ∈ A.take (s + 1), lt x z = false := by
 intro z hz
 rw [List.take_succ_eq_append_getElem hs] at hz
 rcases List.mem_append.1 hz with hz | hz
 ·have hp : lt A[s] z = false := by
   have h3 : srt lt (A.take s ++ A.drop s) := by rw [List.take_append_drop]; exact hA
   rw [List.drop_eq_getElem_cons hs] at h3
   exact (List.pairwise_append.1 h3).2.2 z hz A[s] (List.mem_cons_self ..)
  exact H.trans z A[s] x hp h
 ·rw [List.mem_singleton.1 hz]; exact h
theorem srch_down' {lt : α → α → Bool} (H : SWO lt) {A : List α} (hA : srt lt A) {s : Nat} (hs : s < A.length) {x : α} (h : lt x A[s] = true) : ∀ z ∈ A.drop s, lt x z = true := by
 intro z hz
 rw [List.drop_eq_getElem_cons hs] at hz
 rcases List.mem_cons.1 hz with rfl | hz
 ·exact h
 ·have hp : lt z A[s] = false := by
   have h3 : srt lt (A.take s ++ A.drop s) := by rw [List.take_append_drop]; exact hA
   rw [List.drop_eq_getElem_cons hs] at h3
   exact (List.pairwise_cons.1 (List.pairwise_append.1 h3).2.1).1 z hz
  cases hxz : lt x z
  ·have := H.trans A[s] z x hp hxz
   rw [this] at h; cases h
  ·rfl
set_option maxHeartbeats 4000000 in
set_option maxRecDepth 1000000 in
theorem sym_last (k : Nat) (T : TF P k) (FG : P.funcs[67]? = some Try.f67) (enc : α → List Value) (hk : ∀ x, (enc x).length = k) (h1 : ∀ x, ∀ v ∈ enc x, v.oneCell' = true) (cf : α → α → Int) (H : SWO (ltc cf))
  (g : Nat) (eg : ∀ args w, (callFunc g args).run P w = .ok (.enter g args) w) (hcmp : ∀ (x y : α) (w : World), Calls P g #[.agg (enc x).toArray, .agg (enc y).toArray] w fun e w' => e = .returned (.int .i64 (cf x y)) ∧ Below w.heap.size w w')
  (blk off cap a m b N : Nat) (ho : off = 0) (tail : List Value) (w0 w : World) (pre A : List α) (x : α) (post : List α) (hA : srt (ltc cf) A) (hA2 : 2 ≤ A.length)
  (SW : SWB enc blk 38 tail w0 (pre ++ (A ++ (x :: post))) w) (ha : a = pre.length) (hm : m = a + A.length) (hb : b = m + 1) (hN : N = pre.length + (A.length + (1 + post.length))) (hsz : N < 4611686018427387904) :
  Calls P 67 #[.slice (some ⟨blk, off, none⟩) N cap, .int .i64 a, .int .i64 m, .int .i64 b, .func (.func g) #[] #[]] w fun e w' => e = .returned (.tuple #[]) ∧ SWB enc blk 38 tail w0 (pre ++ (mg (ltc cf) A [x] ++ post)) w' := by
 have mixed := T.mixed; have t0 := T.t0; have a0 := T.a0; have z0 := T.z0; have v0 := T.v0; have t3 := T.t3; have a3 := T.a3; have z3 := T.z3; have v3 := T.v3; have t4 := T.t4; have a4 := T.a4; have z4 := T.z4; have v4 := T.v4; have tS := T.tS; have aS := T.aS; have zS := T.zS; have vS := T.vS; have tC := T.tC; have aC := T.aC; have zC := T.zC; have vC := T.vC; have aE := T.aE; have zE := T.zE; have tU := T.tU; have aU := T.aU; have zU := T.zU; have vU := T.vU
 have u22 := run_underlying T.tS
 have HK : Hid (∀ x, (enc x).length = k) := hk
 have H1 : Hid (∀ x, ∀ v ∈ enc x, v.oneCell' = true) := h1
 have HC : Aside _ := hcmp
 have HO : Hid (off = 0) := ho
 have HH : Hid (SWO (ltc cf)) := H
 have HAs : Hid (srt (ltc cf) A) := hA
 have S0 : Aside (SWB enc blk 38 tail w0 (pre ++ (A ++ (x :: post))) w) := SW
 subst hb
 have HA : Hid (a = pre.length ∧ m = a + A.length ∧ N = pre.length + (A.length + (1 + post.length))) := ⟨ha, hm, hN⟩
 have hmN : m + 1 ≤ N := by omega
 have ham : a + 2 ≤ m := by omega
 have hnone : ((m : Int) - (a : Int) == 1) = false := by
  rw [beq_eq_false_iff_ne]; omega
 have hone : ((m : Int) + 1) - (m : Int) = 1 := by omega
 clear SW hk h1 ha hm hN ho hcmp H hA hA2
 go_enter FG, Try.ntmps67
 go_wp2
 go_loopg [14, 15, 16] (m - a) (fun kx s10 s11 s12 wr => ∃ (i j : Nat), s10 = .int .i64 i ∧ s11 = .int .i64 j ∧ a ≤ i ∧ i ≤ j ∧ j ≤ m ∧ j - i ≤ kx ∧ Hid ((∀ z ∈ A.take (i - a), ltc cf x z = false) ∧ (∀ z ∈ A.drop (j - a), ltc cf x z = true)) ∧ Aside (SWB enc blk 38 tail w0 (pre ++ (A ++ (x :: post))) wr))
 case atStart => exact ⟨a, m, rfl, rfl, Nat.le_refl _, by omega, Nat.le_refl _, Nat.le_refl _, ⟨by simp, by rw [List.drop_eq_nil_of_le (by have := HA.out; omega)]; simp⟩, S0⟩
 case round =>
  clear S0
  obtain ⟨i, j, rfl, rfl, hai, hij, hjb, hkx, HI, S1⟩ := hrel
  by_cases hlt : i < j
  ·have hltz : (i : Int) < (j : Int) := by omega
   go_wp2_with fail
   obtain ⟨h, hh⟩ : ∃ h : Nat, (h : Int) = ((i : Int) + (j : Int)) / 2 := ⟨(i + j) / 2, by omega⟩
   rw [← hh]
   have hih : i ≤ h := by omega
   have hhj : h < j := by omega
   have HHh : Hid ((h : Int) = ((i : Int) + (j : Int)) / 2) := hh
   clear hh
   have hs : h - a < A.length := by have := HA.out; omega
   obtain ⟨y, hy⟩ : ∃ y, A[h - a] = y := ⟨_, rfl⟩
   have hcutA : A = A.take (h - a) ++ (y :: A.drop (h - a + 1)) := by
    rw [← hy, ← List.drop_eq_getElem_cons hs, List.take_append_drop]
   have hN1 : (h : Int) < (N : Int) := by have := HA.out; omega
   have hN2 : (m : Int) < (N : Int) := by omega
   have ph : (0 : Int) ≤ (h : Int) := by omega
   have pa : (0 : Int) ≤ (m : Int) := by omega
   have S2 : Aside (SWB enc blk 38 tail w0 ((pre ++ A.take (h - a)) ++ (y :: (A.drop (h - a + 1) ++ (x :: post)))) wr) := by
    show SWB _ _ _ _ _ _ _
    have this : SWB enc blk 38 tail w0 _ wr := S1
    rw [hcutA] at this
    simpa using this
   have ly : ∀ p : BelowBy wr, Sem.run P (loadCellsFrom ⟨blk, off + h * k, none⟩ 0 k #[]) p.W = .ok (enc y).toArray p.W := fun p => (SWB.below S2 p.h).load P HK.out HO.out (p := pre ++ A.take (h - a)) (x := y) (r := A.drop (h - a + 1) ++ (x :: post)) rfl (by have := HA.out; simp; omega)
   have lx : ∀ p : BelowBy wr, Sem.run P (loadCellsFrom ⟨blk, off + m * k, none⟩ 0 k #[]) p.W = .ok (enc x).toArray p.W := fun p => (SWB.below S1 p.h).load P HK.out HO.out (p := pre ++ A) (x := x) (r := post) (by simp) (by have := HA.out; simp; omega)
   have hcg : ∀ p : BelowBy wr, Calls P g #[.agg (enc x).toArray, .agg (enc y).toArray] p.W fun e w' => e = .returned (.int .i64 (cf x y)) ∧ Below p.W.heap.size p.W w' := fun p => HC x y p.W
   have HY : Hid (A[h - a] = y) := hy
   clear hy hcutA S2
   refine wp_region_quiet_below (by assumption) (by kernel_rfl) ?_
   repeat (quiet_step (first | (go_at_fn g; refine Calls.below_of (hcg _))))
   refine wpQuiet_nil ?_
   intro wq hw'
   have hbq : Below wr.heap.size wr wq := by obtain ⟨p, hp⟩ := hw'; rw [hp]; exact p.h
   clear hw' lx ly hcg
   have S3 : Aside (SWB enc blk 38 tail w0 (pre ++ (A ++ (x :: post))) wq) := SWB.below S1 hbq
   have HB : Aside _ := hbq
   clear hbq S1
   by_cases hlv : cf x y < 0
   ·have hlv2 : (!decide (cf x y < 0)) = false := by simp; omega
    rw [hlv2]
    clear hlv2
    go_wp2
    go_roundg (h - i)
    case measure => omega
    case rel =>
     exact ⟨i, h, rfl, by go_num, hai, hih, by omega, Nat.le_refl _, ⟨HI.out.1, srch_down' HH.out HAs.out hs (by rw [HY.out]; exact decide_eq_true (by omega))⟩, S3⟩
   ·have hlv2 : (!decide (cf x y < 0)) = true := by simp; omega
    rw [hlv2]
    clear hlv2
    go_wp2
    go_roundg (j - (h + 1))
    case measure => omega
    case rel =>
     refine ⟨h + 1, j, by go_num, rfl, by omega, by omega, hjb, Nat.le_refl _, ⟨?_, HI.out.2⟩, S3⟩
     have := srch_up' HH.out HAs.out hs (x := x) (by rw [HY.out]; exact decide_eq_false (by omega))
     rw [show h + 1 - a = h - a + 1 by omega]
     exact this
  ·have hltz : ¬ (i : Int) < (j : Int) := by omega
   obtain rfl : i = j := by omega
   clear hij hltz hlt
   obtain ⟨A1, A2, hA12, hAl⟩ : ∃ A1 A2, A = A1 ++ A2 ∧ i = a + A1.length ∧ (∀ z ∈ A1, ltc cf x z = false) ∧ (∀ z ∈ A2, ltc cf x z = true) :=
    ⟨A.take (i - a), A.drop (i - a), (List.take_append_drop _ _).symm, by rw [List.length_take]; have := HA.out; omega, HI.out.1, HI.out.2⟩
   subst hA12
   have HA2 : Hid (i = a + A1.length ∧ (∀ z ∈ A1, ltc cf x z = false) ∧ (∀ z ∈ A2, ltc cf x z = true)) := hAl
   clear hAl
   go_wp2
   go_loopg [17] (m - i) (fun kx s13 wr => ∃ (c : Nat) (D1 D2 : List α), s13 = .int .i64 c ∧ i ≤ c ∧ c ≤ m ∧ c - i ≤ kx ∧ Hid (A2 = D1 ++ D2 ∧ c = i + D1.length) ∧ Aside (SWB enc blk 38 tail w0 (pre ++ (A1 ++ (D1 ++ (x :: (D2 ++ post))))) wr))
   case atStart => exact ⟨m, A2, [], rfl, by omega, Nat.le_refl _, Nat.le_refl _, ⟨by simp, by have := HA.out; have := HA2.out.1; simp at *; omega⟩, by show SWB _ _ _ _ _ _ _; have this : SWB enc blk 38 tail w0 _ wr := S1; simpa using this⟩
   case round =>
    clear S1
    obtain ⟨c, D1, D2, rfl, hac, hci, hkc, HD, S2⟩ := hrel
    by_cases hlt : i < c
    ·have hltz : (i : Int) < (c : Int) := by omega
     rcases List.eq_nil_or_concat D1 with rfl | ⟨D3, y, rfl⟩
     ·have := HD.out.2; simp at this; omega
     rw [List.concat_eq_append] at *
     obtain ⟨cp, hcp⟩ : ∃ cp, c = cp + 1 := ⟨c - 1, by omega⟩
     subst hcp
     go_wp2_with fail
     have hcN : (cp : Int) < (N : Int) := by omega
     have hcN1 : (cp : Int) + 1 < (N : Int) := by omega
     have rc : IntKind.i64.wrap (cp : Int) = (cp : Int) := by rw [IntKind.wrap_i64]; omega
     have ec : ((cp : Int) + 1).toNat = cp + 1 := by omega
     have pc : (0 : Int) ≤ (cp : Int) + 1 := by omega
     have pc0 : (0 : Int) ≤ (cp : Int) := by omega
     have SD := SWB.drew S2
     have hcl : cp = (pre ++ (A1 ++ D3)).length := by have := HD.out.2; have := HA.out.1; have := HA2.out.1; simp at *; omega
     have l1 := SD.load P HK.out HO.out (i := cp + 1) (p := pre ++ (A1 ++ (D3 ++ [y]))) (x := x) (r := D2 ++ post) (by simp) (by rw [hcl]; simp; omega)
     have l2 := SD.load P HK.out HO.out (i := cp) (p := pre ++ (A1 ++ D3)) (x := y) (r := x :: (D2 ++ post)) (by simp) hcl
     obtain ⟨s1, S5⟩ := SD.store P HK.out H1.out HO.out (i := cp + 1) (p := pre ++ (A1 ++ (D3 ++ [y]))) (x := x) (r := D2 ++ post) y (by simp) (by rw [hcl]; simp; omega)
     obtain ⟨s2, S6⟩ := S5.store P HK.out H1.out HO.out (i := cp) (p := pre ++ (A1 ++ D3)) (x := y) (r := y :: (D2 ++ post)) x (by simp) hcl
     have S7 : Aside (SWB enc blk 38 tail w0 (pre ++ (A1 ++ (D3 ++ (x :: ((y :: D2) ++ post))))) ((wr.drew.setCells blk (off + (cp + 1) * k) (enc y)).setCells blk (off + cp * k) (enc x))) := by
      show SWB _ _ _ _ _ _ _
      simpa using S6
     have n1 : (enc x).length = k := HK.out _
     have n2 : (enc y).length = k := HK.out _
     have HCL : Hid (cp = (pre ++ (A1 ++ D3)).length) := hcl
     clear SD S5 S6 S2 hcl
     generalize enc x = cX at S7 l1 s2 n1
     generalize enc y = cY at S7 l2 s1 s2 n2
     go_big_region_o
     clear l1 l2 s1 s2
     generalize (wr.drew.setCells blk (off + (cp + 1) * k) cY).setCells blk (off + cp * k) cX = w2 at S7 ⊢
     go_wp2
     go_roundg (cp - i)
     case measure => omega
     case rel => exact ⟨cp, D3, y :: D2, by first | rfl | go_num, by omega, by omega, Nat.le_refl _, ⟨by rw [HD.out.1]; simp, by have := HD.out.2; simp at this; omega⟩, S7⟩
    ·have hltz : ¬ (i : Int) < (c : Int) := by omega
     go_wp2
     refine bodyPost_ret (results_none rfl _ _ _) rfl ?_
     refine ⟨rfl, ?_⟩
     have h5 := HD.out
     have h6 := HA2.out
     obtain rfl : D1 = [] := List.eq_nil_of_length_eq_zero (by omega)
     have e : mg (ltc cf) (A1 ++ A2) [x] = A1 ++ (x :: A2) := by
      have := mg_cut (lt := ltc cf) (A2 := A2) (B2 := []) A1 [x] (by simp) (fun b hb a ha => by rw [List.mem_singleton.1 hb]; exact h6.2.2 a ha)
      rw [mg_le A1 [x] (fun a ha b hb => by rw [List.mem_singleton.1 hb]; exact h6.2.1 a ha)] at this
      simpa using this
     rw [e, h5.1]
     have this : SWB enc blk 38 tail w0 _ wr := S2
     simpa using this
end SK
namespace SK
open Go.Shelf Go.Lib
variable {P : Program} {α : Type}
theorem parts_fit {lt : α → α → Bool} (H : SWO lt) {A1 A2 B1 B2 : List α} (hA : srt lt (A1 ++ A2)) (hB : srt lt (B1 ++ B2))
  (h1 : A1 = [] ∨ B2 = [] ∨ ∃ x y, A1.getLast? = some x ∧ B2.head? = some y ∧ lt y x = false) (h2 : B1 = [] ∨ A2 = [] ∨ ∃ x y, A2.head? = some x ∧ B1.getLast? = some y ∧ lt y x = true) :
  mg lt (A1 ++ A2) (B1 ++ B2) = mg lt A1 B1 ++ mg lt A2 B2 := by
 have last : ∀ (L : List α) (x : α), srt lt L → L.getLast? = some x → ∀ z ∈ L, lt x z = false ∨ z = x := by
  intro L x hL hx z hz
  rcases List.eq_nil_or_concat L with rfl | ⟨L', u, rfl⟩
  ·cases hz
  ·rw [List.concat_eq_append] at *
   simp at hx
   subst hx
   rcases List.mem_append.1 hz with hz | hz
   ·exact .inl ((List.pairwise_append.1 hL).2.2 z hz u (by simp))
   ·exact .inr (List.mem_singleton.1 hz)
 have hd : ∀ (L : List α) (x : α), srt lt L → L.head? = some x → ∀ z ∈ L, lt z x = false ∨ z = x := by
  intro L x hL hx z hz
  cases L with
  | nil => cases hz
  | cons u L =>
   simp at hx
   subst hx
   rcases List.mem_cons.1 hz with rfl | hz
   ·exact .inr rfl
   ·exact .inl ((List.pairwise_cons.1 hL).1 z hz)
 have irr : ∀ x : α, lt x x = false := fun x => by
  cases h : lt x x
  ·rfl
  ·have := H.asym x x h; rw [this] at h; cases h
 have hA' := List.pairwise_append.1 hA
 have hB' := List.pairwise_append.1 hB
 refine mg_cut A1 B1 (fun a ha b hb => ?_) (fun b hb a ha => ?_)
 ·rcases h1 with rfl | rfl | ⟨x, y, hx, hy, hxy⟩
  ·cases ha
  ·cases hb
  ·have e1 : lt x a = false := by rcases last A1 x hA'.1 hx a ha with h | rfl; exact h; exact irr _
   have e2 : lt b y = false := by rcases hd B2 y hB'.2.1 hy b hb with h | rfl; exact h; exact irr _
   exact H.trans a y b (H.trans a x y e1 hxy) e2
 ·rcases h2 with rfl | rfl | ⟨x, y, hx, hy, hxy⟩
  ·cases hb
  ·cases ha
  ·have e1 : lt y b = false := by rcases last B1 y hB'.1 hy b hb with h | rfl; exact h; exact irr _
   have e2 : lt a x = false := by rcases hd A2 x hA'.2.1 hx a ha with h | rfl; exact h; exact irr _
   cases h : lt b a
   ·have h3 := H.trans x a b e2 h
    have := H.trans x b y h3 e1
    rw [this] at hxy; cases hxy
   ·rfl
set_option maxHeartbeats 8000000 in
set_option maxRecDepth 1000000 in
theorem sym_gen (k : Nat) (T : TF P k) (FG : P.funcs[67]? = some Try.f67) (FR : P.funcs[77]? = some Try.f77) (FS : P.funcs[83]? = some Try.f83) (enc : α → List Value) (hk : ∀ x, (enc x).length = k) (h1 : ∀ x, ∀ v ∈ enc x, v.oneCell' = true) (cf : α → α → Int) (H : SWO (ltc cf))
  (g : Nat) (eg : ∀ args w, (callFunc g args).run P w = .ok (.enter g args) w) (hcmp : ∀ (x y : α) (w : World), Calls P g #[.agg (enc x).toArray, .agg (enc y).toArray] w fun e w' => e = .returned (.int .i64 (cf x y)) ∧ Below w.heap.size w w')
  (blk off cap a m b N : Nat) (ho : off = 0) (tail : List Value) (w0 w : World) (pre A B post : List α) (hA : srt (ltc cf) A) (hB : srt (ltc cf) B) (hA2 : 2 ≤ A.length) (hB2 : 2 ≤ B.length)
  (SW : SWB enc blk 38 tail w0 (pre ++ (A ++ (B ++ post))) w) (ha : a = pre.length) (hm : m = a + A.length) (hb : b = m + B.length) (hN : N = pre.length + (A.length + (B.length + post.length))) (hsz : N < 4611686018427387904)
  (IH : ∀ (pre' A' B' post' : List α) (w' : World) (a' m' b' : Nat), A'.length + B'.length < A.length + B.length → 0 < A'.length → 0 < B'.length → srt (ltc cf) A' → srt (ltc cf) B' → SWB enc blk 38 tail w0 (pre' ++ (A' ++ (B' ++ post'))) w' → a' = pre'.length → m' = a' + A'.length → b' = m' + B'.length → N = pre'.length + (A'.length + (B'.length + post'.length)) →
   Calls P 67 #[.slice (some ⟨blk, off, none⟩) N cap, .int .i64 a', .int .i64 m', .int .i64 b', .func (.func g) #[] #[]] w' fun e w' => e = .returned (.tuple #[]) ∧ SWB enc blk 38 tail w0 (pre' ++ (mg (ltc cf) A' B' ++ post')) w') :
  Calls P 67 #[.slice (some ⟨blk, off, none⟩) N cap, .int .i64 a, .int .i64 m, .int .i64 b, .func (.func g) #[] #[]] w fun e w' => e = .returned (.tuple #[]) ∧ SWB enc blk 38 tail w0 (pre ++ (mg (ltc cf) A B ++ post)) w' := by
 have mixed := T.mixed; have t0 := T.t0; have a0 := T.a0; have z0 := T.z0; have v0 := T.v0; have t3 := T.t3; have a3 := T.a3; have z3 := T.z3; have v3 := T.v3; have t4 := T.t4; have a4 := T.a4; have z4 := T.z4; have v4 := T.v4; have tS := T.tS; have aS := T.aS; have zS := T.zS; have vS := T.vS; have tC := T.tC; have aC := T.aC; have zC := T.zC; have vC := T.vC; have aE := T.aE; have zE := T.zE; have tU := T.tU; have aU := T.aU; have zU := T.zU; have vU := T.vU
 have u22 := run_underlying T.tS
 have HK : Hid (∀ x, (enc x).length = k) := hk
 have H1 : Hid (∀ x, ∀ v ∈ enc x, v.oneCell' = true) := h1
 have HC : Aside _ := hcmp
 have HI : Aside _ := IH
 have ROT : ∀ (w : World) (a m b : Nat) (pre U V post : List α), SWB enc blk 38 tail w0 (pre ++ (U ++ (V ++ post))) w → 0 < U.length → 0 < V.length → a = pre.length → m = pre.length + U.length → b = pre.length + (U.length + V.length) → N = pre.length + (U.length + (V.length + post.length)) →
   Calls P 77 #[.slice (some ⟨blk, off, none⟩) N cap, .int .i64 a, .int .i64 m, .int .i64 b, .func (.func g) #[] #[]] w fun e w' => e = .returned (.tuple #[]) ∧ SWB enc blk 38 tail w0 (pre ++ (V ++ (U ++ post))) w' :=
  fun w a m b pre U V post S h2 h3 h4 h5 h6 h7 => rotate_calls k T FR FS enc hk h1 blk off cap a m b N ho g tail w0 w pre U V post S h2 h3 h4 h5 h6 h7 hsz
 have HR : Aside _ := ROT
 have HO : Hid (off = 0) := ho
 have HH : Hid (SWO (ltc cf)) := H
 have HS : Hid (srt (ltc cf) A ∧ srt (ltc cf) B) := ⟨hA, hB⟩
 have eSY : ∀ args w, (callFunc 67 args).run P w = .ok (.enter 67 args) w := enters_k FG (by kernel_rfl) rfl
 have eRO : ∀ args w, (callFunc 77 args).run P w = .ok (.enter 77 args) w := enters_k FR (by kernel_rfl) rfl
 have S0 : Aside (SWB enc blk 38 tail w0 (pre ++ (A ++ (B ++ post))) w) := SW
 obtain ⟨mid, hmid⟩ : ∃ mid : Nat, ((a : Int) + (b : Int)) / 2 = (mid : Int) := ⟨(a + b) / 2, by omega⟩
 obtain ⟨pp, hpp⟩ : ∃ pp : Nat, (mid : Int) + (m : Int) - 1 = (pp : Int) := ⟨mid + m - 1, by omega⟩
 obtain ⟨st0, r0, hF⟩ : ∃ st0 r0 : Nat, a ≤ st0 ∧ st0 ≤ r0 ∧ r0 ≤ m ∧ r0 ≤ mid ∧ (∀ c, st0 ≤ c → c < r0 → m + c ≤ pp ∧ pp < b + c) ∧ (st0 + b = mid + m ∨ st0 = a) ∧ (r0 = mid ∨ r0 = m) ∧ (mid < m → st0 + b = mid + m ∧ r0 = mid) ∧ (¬ mid < m → st0 = a ∧ r0 = m) := by
  by_cases h : mid < m
  ·exact ⟨mid + m - b, mid, by omega, by omega, by omega, by omega, fun c h1 h2 => by omega, by omega, by omega, fun _ => by omega, fun h' => absurd h h'⟩
  ·exact ⟨a, m, by omega, by omega, by omega, by omega, fun c h1 h2 => by omega, by omega, by omega, fun h' => absurd h' h, fun _ => by omega⟩
 have HF : Hid _ := hF
 have HA : Hid (a = pre.length ∧ m = a + A.length ∧ b = m + B.length ∧ N = pre.length + (A.length + (B.length + post.length))) := ⟨ha, hm, hb, hN⟩
 have hbN : b ≤ N := by omega
 have ham : a + 2 ≤ m := by omega
 have hmb : m + 2 ≤ b := by omega
 have hamid : a < mid := by omega
 have hmidb : mid < b := by omega
 have n1 : ((m : Int) - (a : Int) == 1) = false := by rw [beq_eq_false_iff_ne]; omega
 have n2 : ((b : Int) - (m : Int) == 1) = false := by rw [beq_eq_false_iff_ne]; omega
 have HM : Hid (((a : Int) + (b : Int)) / 2 = (mid : Int) ∧ (mid : Int) + (m : Int) - 1 = (pp : Int)) := ⟨hmid, hpp⟩
 clear SW hk h1 ha hm hb hN ho hcmp H hA hB hA2 hB2 IH ROT hF
 have split : mid < m ∨ ¬ mid < m := by omega
 rcases split with hmm | hmm
 all_goals
  have hmz : (mid : Int) < (m : Int) ∨ ¬ (mid : Int) < (m : Int) := by omega
  go_enter FG, Try.ntmps67
  go_wp2_with fail
  go_loopg [20, 21, 23] (r0 - st0) (fun kx s20 s21 s23 wr => ∃ (st r : Nat), s20 = .int .i64 st ∧ s21 = .int .i64 r ∧ st0 ≤ st ∧ st ≤ r ∧ r ≤ r0 ∧ r - st ≤ kx ∧ Hid ((st0 < st → ∃ x y, A[st - 1 - a]? = some x ∧ B[pp - (st - 1) - m]? = some y ∧ ltc cf y x = false) ∧ (r < r0 → ∃ x y, A[r - a]? = some x ∧ B[pp - r - m]? = some y ∧ ltc cf y x = true)) ∧ Aside (SWB enc blk 38 tail w0 (pre ++ (A ++ (B ++ post))) wr))
  case atStart =>
   have h := HF.out
   exact ⟨st0, r0, by congr 1; omega, by congr 1; omega, Nat.le_refl _, h.2.1, Nat.le_refl _, Nat.le_refl _, ⟨fun h => absurd h (Nat.lt_irrefl _), fun h => absurd h (Nat.lt_irrefl _)⟩, S0⟩
  case round =>
   clear S0
   obtain ⟨st, r, rfl, rfl, hst0, hstr, hr0, hkx, HP, S1⟩ := hrel
   by_cases hlt : st < r
   ·have hltz : (st : Int) < (r : Int) := by omega
    obtain ⟨c, hc⟩ : ∃ c : Nat, ((st : Int) + (r : Int)) / 2 = (c : Int) := ⟨(st + r) / 2, by omega⟩
    have hrN : r ≤ N := by have := HF.out; omega
    have hrz : (r : Int) ≤ 4611686018427387904 := by omega
    go_wp2_with fail
    have hcr : st ≤ c ∧ c < r := by omega
    have HCc : Hid (((st : Int) + (r : Int)) / 2 = (c : Int)) := hc
    clear hc
    obtain ⟨hb1, hb2⟩ := HF.out.2.2.2.2.1 c (by omega) (by omega)
    have hac : a ≤ c ∧ c < m := by have := HF.out; omega
    have hsA : c - a < A.length := by have := HA.out; omega
    have hsB : pp - c - m < B.length := by have := HA.out; omega
    obtain ⟨x, hx⟩ : ∃ x, A[c - a] = x := ⟨_, rfl⟩
    obtain ⟨y, hy⟩ : ∃ y, B[pp - c - m] = y := ⟨_, rfl⟩
    have hcutA : A = A.take (c - a) ++ (x :: A.drop (c - a + 1)) := by rw [← hx, ← List.drop_eq_getElem_cons hsA, List.take_append_drop]
    have hcutB : B = B.take (pp - c - m) ++ (y :: B.drop (pp - c - m + 1)) := by rw [← hy, ← List.drop_eq_getElem_cons hsB, List.take_append_drop]
    have SA : Aside (SWB enc blk 38 tail w0 ((pre ++ A.take (c - a)) ++ (x :: (A.drop (c - a + 1) ++ (B ++ post)))) wr) := by
     show SWB _ _ _ _ _ _ _
     have this : SWB enc blk 38 tail w0 _ wr := S1
     rw [hcutA] at this
     simpa using this
    have SB : Aside (SWB enc blk 38 tail w0 ((pre ++ (A ++ B.take (pp - c - m))) ++ (y :: (B.drop (pp - c - m + 1) ++ post))) wr) := by
     show SWB _ _ _ _ _ _ _
     have this : SWB enc blk 38 tail w0 _ wr := S1
     rw [hcutB] at this
     simpa using this
    have e1 : ((pp : Int) - (c : Int)).toNat = pp - c := by omega
    have e2 : (0 : Int) ≤ (pp : Int) - (c : Int) := by omega
    have e3 : (pp : Int) - (c : Int) < (N : Int) := by omega
    have e4 : IntKind.i64.wrap ((pp : Int) - (c : Int)) = (pp : Int) - (c : Int) := by rw [IntKind.wrap_i64]; omega
    have e5 : (0 : Int) ≤ (c : Int) := by omega
    have e7 : c ≤ pp := by omega
    have e8 : (c : Int) ≤ (pp : Int) := by omega
    have e6 : (c : Int) < (N : Int) := by omega
    have lx : ∀ p : BelowBy wr, Sem.run P (loadCellsFrom ⟨blk, off + c * k, none⟩ 0 k #[]) p.W = .ok (enc x).toArray p.W := fun p => (SWB.below SA p.h).load P HK.out HO.out (p := pre ++ A.take (c - a)) (x := x) (r := A.drop (c - a + 1) ++ (B ++ post)) rfl (by have := HA.out; simp; omega)
    have ly : ∀ p : BelowBy wr, Sem.run P (loadCellsFrom ⟨blk, off + (pp - c) * k, none⟩ 0 k #[]) p.W = .ok (enc y).toArray p.W := fun p => (SWB.below SB p.h).load P HK.out HO.out (p := pre ++ (A ++ B.take (pp - c - m))) (x := y) (r := B.drop (pp - c - m + 1) ++ post) rfl (by have := HA.out; simp; omega)
    have hcg : ∀ p : BelowBy wr, Calls P g #[.agg (enc y).toArray, .agg (enc x).toArray] p.W fun e w' => e = .returned (.int .i64 (cf y x)) ∧ Below p.W.heap.size p.W w' := fun p => HC y x p.W
    have HX : Hid (A[c - a]? = some x ∧ B[pp - c - m]? = some y) := ⟨by rw [List.getElem?_eq_getElem hsA, hx], by rw [List.getElem?_eq_getElem hsB, hy]⟩
    clear hx hy hcutA hcutB SA SB
    refine wp_region_quiet_below (by assumption) (by kernel_rfl) ?_
    repeat (quiet_step (first | (go_at_fn g; refine Calls.below_of (hcg _))))
    refine wpQuiet_nil ?_
    intro wq hw'
    have hbq : Below wr.heap.size wr wq := by obtain ⟨p, hp⟩ := hw'; rw [hp]; exact p.h
    clear hw' lx ly hcg e1 e2 e3 e4 e5 e6 e7 e8
    have S3 : Aside (SWB enc blk 38 tail w0 (pre ++ (A ++ (B ++ post))) wq) := SWB.below S1 hbq
    have HB : Aside _ := hbq
    clear hbq S1
    by_cases hlv : cf y x < 0
    ·have hlv2 : (!decide (cf y x < 0)) = false := by simp; omega
     rw [hlv2]
     clear hlv2
     go_wp2
     go_roundg (c - st)
     case measure => omega
     case rel =>
      exact ⟨st, c, rfl, by go_num, hst0, hcr.1, by omega, Nat.le_refl _, ⟨HP.out.1, fun _ => ⟨x, y, HX.out.1, HX.out.2, decide_eq_true (by omega)⟩⟩, S3⟩
    ·have hlv2 : (!decide (cf y x < 0)) = true := by simp; omega
     rw [hlv2]
     clear hlv2
     go_wp2
     go_roundg (r - (c + 1))
     case measure => omega
     case rel =>
      refine ⟨c + 1, r, by go_num, rfl, by omega, by omega, hr0, Nat.le_refl _, ⟨fun _ => ⟨x, y, ?_, ?_, decide_eq_false (by omega)⟩, HP.out.2⟩, S3⟩
      ·rw [Nat.add_sub_cancel]; exact HX.out.1
      ·rw [Nat.add_sub_cancel]; exact HX.out.2
   ·have hltz : ¬ (st : Int) < (r : Int) := by omega
    obtain rfl : st = r := by omega
    clear hlt hstr hkx hltz
    obtain ⟨en, hen⟩ : ∃ en : Nat, (mid : Int) + (m : Int) - (st : Int) = (en : Int) := ⟨mid + m - st, by have := HF.out; omega⟩
    have f0 := HF.out
    have g0 := HA.out
    obtain ⟨A1, A2, hA12, lA1⟩ : ∃ A1 A2, A = A1 ++ A2 ∧ st = a + A1.length := ⟨A.take (st - a), A.drop (st - a), (List.take_append_drop _ _).symm, by rw [List.length_take]; omega⟩
    have hme : m ≤ en ∧ en ≤ b := by omega
    obtain ⟨B1, B2, hB12, lB1⟩ : ∃ B1 B2, B = B1 ++ B2 ∧ en = m + B1.length := ⟨B.take (en - m), B.drop (en - m), (List.take_append_drop _ _).symm, by rw [List.length_take]; omega⟩
    subst hA12 hB12
    simp only [List.length_append] at g0
    have e : mg (ltc cf) (A1 ++ A2) (B1 ++ B2) = mg (ltc cf) A1 B1 ++ mg (ltc cf) A2 B2 := by
     refine parts_fit HH.out HS.out.1 HS.out.2 ?_ ?_
     ·by_cases h1 : A1 = []
      ·exact .inl h1
      ·by_cases h2 : B2 = []
       ·exact .inr (.inl h2)
       ·have l1 : 0 < A1.length := List.length_pos_iff.2 h1
        have l2 : 0 < B2.length := List.length_pos_iff.2 h2
        obtain ⟨x, y, hx, hy, hxy⟩ := HP.out.1 (by omega)
        refine .inr (.inr ⟨x, y, ?_, ?_, hxy⟩)
        ·rw [List.getElem?_append_left (by omega)] at hx
         rw [List.getLast?_eq_getElem?, ← hx]; congr 1; omega
        ·rw [List.getElem?_append_right (by omega)] at hy
         rw [List.head?_eq_getElem?, ← hy]; congr 1; omega
     ·by_cases h1 : B1 = []
      ·exact .inl h1
      ·by_cases h2 : A2 = []
       ·exact .inr (.inl h2)
       ·have l1 : 0 < B1.length := List.length_pos_iff.2 h1
        have l2 : 0 < A2.length := List.length_pos_iff.2 h2
        obtain ⟨x, y, hx, hy, hxy⟩ := HP.out.2 (by omega)
        refine .inr (.inr ⟨x, y, ?_, ?_, hxy⟩)
        ·rw [List.getElem?_append_right (by omega)] at hx
         rw [List.head?_eq_getElem?, ← hx]; congr 1; omega
        ·rw [List.getElem?_append_left (by omega)] at hy
         rw [List.getLast?_eq_getElem?, ← hy]; congr 1; omega
    have HQ : Hid (mg (ltc cf) (A1 ++ A2) (B1 ++ B2) = mg (ltc cf) A1 B1 ++ mg (ltc cf) A2 B2) := e
    have HE : Hid ((mid : Int) + (m : Int) - (st : Int) = (en : Int)) := hen
    have sA := List.pairwise_append.1 HS.out.1
    have sB := List.pairwise_append.1 HS.out.2
    have RO : ∀ W, 0 < A2.length → 0 < B1.length → SWB enc blk 38 tail w0 (pre ++ (A1 ++ (A2 ++ (B1 ++ (B2 ++ post))))) W →
      Calls P 77 #[.slice (some ⟨blk, off, none⟩) N cap, .int .i64 st, .int .i64 m, .int .i64 en, .func (.func g) #[] #[]] W fun e w' => e = .returned (.tuple #[]) ∧ SWB enc blk 38 tail w0 (pre ++ (A1 ++ (B1 ++ (A2 ++ (B2 ++ post))))) w' := fun W h1 h2 S => by
     have := HR W st m en (pre ++ A1) A2 B1 (B2 ++ post) (by simpa using S) h1 h2 (by simp; omega) (by simp; omega) (by simp; omega) (by simp; omega)
     simpa using this
    have SL : ∀ W, 0 < A1.length → 0 < B1.length → SWB enc blk 38 tail w0 (pre ++ (A1 ++ (B1 ++ (A2 ++ (B2 ++ post))))) W →
      Calls P 67 #[.slice (some ⟨blk, off, none⟩) N cap, .int .i64 a, .int .i64 st, .int .i64 mid, .func (.func g) #[] #[]] W fun e w' => e = .returned (.tuple #[]) ∧ SWB enc blk 38 tail w0 (pre ++ (mg (ltc cf) A1 B1 ++ (A2 ++ (B2 ++ post)))) w' := fun W h1 h2 S => by
     have := HI pre A1 B1 (A2 ++ (B2 ++ post)) W a st mid (by simp; omega) h1 h2 sA.1 sB.1 S (by omega) (by omega) (by omega) (by simp; omega)
     simpa using this
    have SR : ∀ W, 0 < A2.length → 0 < B2.length → SWB enc blk 38 tail w0 (pre ++ (mg (ltc cf) A1 B1 ++ (A2 ++ (B2 ++ post)))) W →
      Calls P 67 #[.slice (some ⟨blk, off, none⟩) N cap, .int .i64 mid, .int .i64 en, .int .i64 b, .func (.func g) #[] #[]] W fun e w' => e = .returned (.tuple #[]) ∧ SWB enc blk 38 tail w0 (pre ++ (mg (ltc cf) A1 B1 ++ (mg (ltc cf) A2 B2 ++ post))) w' := fun W h1 h2 S => by
     have hl := mg_length (lt := ltc cf) A1 B1
     have := HI (pre ++ mg (ltc cf) A1 B1) A2 B2 post W mid en b (by simp; omega) h1 h2 sA.2.1 sB.2.1 (by simpa using S) (by simp; omega) (by omega) (by omega) (by simp; omega)
     simpa using this
    have S2 : Aside (SWB enc blk 38 tail w0 (pre ++ (A1 ++ (A2 ++ (B1 ++ (B2 ++ post))))) wr) := by
     show SWB _ _ _ _ _ _ _
     have this : SWB enc blk 38 tail w0 _ wr := S1
     simpa using this
    have ARO : Aside _ := RO
    have ASL : Aside _ := SL
    have ASR : Aside _ := SR
    have nA1 : A1.length = 0 → A1 = [] := List.eq_nil_of_length_eq_zero
    have nA2 : A2.length = 0 → A2 = [] := List.eq_nil_of_length_eq_zero
    have nB1 : B1.length = 0 → B1 = [] := List.eq_nil_of_length_eq_zero
    have nB2 : B2.length = 0 → B2 = [] := List.eq_nil_of_length_eq_zero
    have HN : Hid ((A1.length = 0 → A1 = []) ∧ (A2.length = 0 → A2 = []) ∧ (B1.length = 0 → B1 = []) ∧ (B2.length = 0 → B2 = [])) := ⟨nA1, nA2, nB1, nB2⟩
    have HG : Hid (a = pre.length ∧ m = a + (A1.length + A2.length) ∧ b = m + (B1.length + B2.length) ∧ st = a + A1.length ∧ en = m + B1.length ∧ st + en = mid + m) := ⟨g0.1, g0.2.1, g0.2.2.1, lA1, lB1, by omega⟩
    have hsr : a ≤ st ∧ st ≤ m ∧ st ≤ mid ∧ m ≤ en ∧ mid ≤ en ∧ en ≤ b := by omega
    have hseq : st + en = mid + m := by omega
    clear RO SL SR S1 nA1 nA2 nB1 nB2 f0 g0 lA1 lB1 e sA sB HP
    have cases3 : (st = m) ∨ (st < m ∧ en = m) ∨ (st < m ∧ m < en) := by omega
    rcases cases3 with h3 | ⟨h3, h4⟩ | ⟨h3, h4⟩
    ·-- A2 = []
     have hg := HG.out
     obtain rfl : A2 = [] := HN.out.2.1 (by omega)
     subst h3
     have hem : en = mid := by omega
     subst hem
     by_cases hsm : st < en
     ·have has : a < st := by omega
      have h5 : 0 < A1.length ∧ 0 < B1.length := by omega
      have L5 : Hid (0 < A1.length ∧ 0 < B1.length) := h5
      clear h5 hg
      have S3 : Aside (SWB enc blk 38 tail w0 (pre ++ (A1 ++ (B1 ++ (([] : List α) ++ (B2 ++ post))))) wr) := by
       show SWB _ _ _ _ _ _ _
       have this : SWB enc blk 38 tail w0 _ wr := S2
       simpa using this
      go_wp2_with (go_at_fn 67; refine (ASL _ L5.out.1 L5.out.2 S3).mono ?_; rintro e w' ⟨rfl, S4⟩; have S5 := AsideK.mk S4; clear S4)
      go_end0
      refine ⟨rfl, ?_⟩
      have q := HQ.out
      have := S5.out
      first | (rw [q]; simpa using this) | (simp only [List.append_nil, List.nil_append] at q; rw [q]; simpa using this) | (simp only [List.append_nil, List.nil_append, mg_nil_left, mg_nil_right] at q this ⊢; first | exact this | (rw [q]; exact this))
     ·obtain rfl : B1 = [] := HN.out.2.2.1 (by omega)
      have hse : st = en := by omega
      subst hse
      clear hg
      go_wp2
      go_end0
      refine ⟨rfl, ?_⟩
      have q := HQ.out
      have this : SWB enc blk 38 tail w0 _ wr := S2
      first | (rw [q]; simpa using this) | (simp only [List.append_nil, List.nil_append] at q; rw [q]; simpa using this) | (simp only [List.append_nil, List.nil_append, mg_nil_left, mg_nil_right] at q this ⊢; first | exact this | (rw [q]; exact this))
    ·-- B1 = []
     have hg := HG.out
     obtain rfl : B1 = [] := HN.out.2.2.1 (by omega)
     subst h4
     have hem : st = mid := by omega
     subst hem
     have L5 : Hid (0 < A2.length ∧ 0 < B2.length) := by show _ ∧ _; simp at hg; omega
     have h6 : en < b := by omega
     clear hg
     have S3 : Aside (SWB enc blk 38 tail w0 (pre ++ (mg (ltc cf) A1 ([] : List α) ++ (A2 ++ (B2 ++ post)))) wr) := by
      show SWB _ _ _ _ _ _ _
      have this : SWB enc blk 38 tail w0 _ wr := S2
      simpa using this
     go_wp2_with (go_at_fn 67; refine (ASR _ L5.out.1 L5.out.2 S3).mono ?_; rintro e w' ⟨rfl, S4⟩; have S5 := AsideK.mk S4; clear S4)
     go_end0
     refine ⟨rfl, ?_⟩
     have q := HQ.out
     have := S5.out
     first | (rw [q]; simpa using this) | (simp only [List.append_nil, List.nil_append] at q; rw [q]; simpa using this) | (simp only [List.append_nil, List.nil_append, mg_nil_left, mg_nil_right] at q this ⊢; first | exact this | (rw [q]; exact this))
    ·-- all
     have hg := HG.out
     have LR : Hid (0 < A2.length ∧ 0 < B1.length) := by show _ ∧ _; omega
     have h5 : st < mid := by omega
     have h6 : mid < en := by omega
     have ca : a < st ∨ (¬ a < st ∧ A1 = []) := by
      by_cases h : a < st
      ·exact .inl h
      ·exact .inr ⟨h, HN.out.1 (by omega)⟩
     have cb : en < b ∨ (¬ en < b ∧ B2 = []) := by
      by_cases h : en < b
      ·exact .inl h
      ·exact .inr ⟨h, HN.out.2.2.2 (by omega)⟩
     have LA : Hid (a < st → 0 < A1.length) := fun h => by omega
     have LB : Hid (en < b → 0 < B2.length) := fun h => by omega
     clear hg
     rcases ca with h7 | ⟨h7, rfl⟩ <;> rcases cb with h8 | ⟨h8, rfl⟩
     ·go_wp2_with (first | (go_at_fn 77; refine (ARO _ LR.out.1 LR.out.2 S2).mono ?_; rintro e w' ⟨rfl, S4⟩; have S5 := AsideK.mk S4; clear S4) | (go_at_fn 67; first | (refine (ASL _ (LA.out h7) LR.out.2 S5.out).mono ?_; rintro e w' ⟨rfl, S4⟩; have S6 := AsideK.mk S4; clear S4) | (refine (ASR _ LR.out.1 (LB.out h8) S6.out).mono ?_; rintro e w' ⟨rfl, S4⟩; have S7 := AsideK.mk S4; clear S4)))
      go_end0
      refine ⟨rfl, ?_⟩
      have q := HQ.out
      have := S7.out
      first | (rw [q]; simpa using this) | (simp only [List.append_nil, List.nil_append] at q; rw [q]; simpa using this) | (simp only [List.append_nil, List.nil_append, mg_nil_left, mg_nil_right] at q this ⊢; first | exact this | (rw [q]; exact this))
     ·go_wp2_with (first | (go_at_fn 77; refine (ARO _ LR.out.1 LR.out.2 S2).mono ?_; rintro e w' ⟨rfl, S4⟩; have S5 := AsideK.mk S4; clear S4) | (go_at_fn 67; refine (ASL _ (LA.out h7) LR.out.2 S5.out).mono ?_; rintro e w' ⟨rfl, S4⟩; have S6 := AsideK.mk S4; clear S4))
      go_end0
      refine ⟨rfl, ?_⟩
      have q := HQ.out
      have := S6.out
      first | (rw [q]; simpa using this) | (simp only [List.append_nil, List.nil_append] at q; rw [q]; simpa using this) | (simp only [List.append_nil, List.nil_append, mg_nil_left, mg_nil_right] at q this ⊢; first | exact this | (rw [q]; exact this))
     ·go_wp2_with (first | (go_at_fn 77; refine (ARO _ LR.out.1 LR.out.2 S2).mono ?_; rintro e w' ⟨rfl, S4⟩; have S5 := AsideK.mk S4; clear S4) | (go_at_fn 67; refine (ASR _ LR.out.1 (LB.out h8) (by have := S5.out; simpa using this)).mono ?_; rintro e w' ⟨rfl, S4⟩; have S6 := AsideK.mk S4; clear S4))
      go_end0
      refine ⟨rfl, ?_⟩
      have q := HQ.out
      have := S6.out
      first | (rw [q]; simpa using this) | (simp only [List.append_nil, List.nil_append] at q; rw [q]; simpa using this) | (simp only [List.append_nil, List.nil_append, mg_nil_left, mg_nil_right] at q this ⊢; first | exact this | (rw [q]; exact this))
     ·go_wp2_with (first | (go_at_fn 77; refine (ARO _ LR.out.1 LR.out.2 S2).mono ?_; rintro e w' ⟨rfl, S4⟩; have S5 := AsideK.mk S4; clear S4))
      go_end0
      refine ⟨rfl, ?_⟩
      have q := HQ.out
      have := S5.out
      first | (rw [q]; simpa using this) | (simp only [List.append_nil, List.nil_append] at q; rw [q]; simpa using this) | (simp only [List.append_nil, List.nil_append, mg_nil_left, mg_nil_right] at q this ⊢; first | exact this | (rw [q]; exact this))
end SK
end Go.Proofs.Ytlbicmdfdpcdiaa.PDa
