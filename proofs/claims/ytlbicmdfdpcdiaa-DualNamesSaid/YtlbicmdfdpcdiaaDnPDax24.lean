-- printed
import Derived.Test.YtlbicmdfdpcdiaaDnPDax0
import Derived.Test.YtlbicmdfdpcdiaaDnPDax5
import Derived.Test.YtlbicmdfdpcdiaaDnPDax20
import Derived.Test.YtlbicmdfdpcdiaaDnPDax22
import Derived.Test.YtlbicmdfdpcdiaaDnPDax23
namespace Go.Proofs.Ytlbicmdfdpcdiaa.PDa
open Go.RowKit Go.Proofs.YtlbicmdfdpcdiaaW.PrintWords Go.Proofs.YtlbicmdfdpcdiaaW.PrintLast Go.Proofs.YtlbicmdfdpcdiaaW.PrintMore
attribute [local go_sem] max2_int min2_int max_two min_two max_three min_three max_four min_four
set_option linter.unusedVariables false
set_option linter.unusedSimpArgs false
namespace SK
open Go.Shelf Go.Lib
variable {P : Program} {α : Type}
theorem sym_calls (k : Nat) (T : TF P k) (FY : P.funcs[67]? = some Try.f67) (FR : P.funcs[77]? = some Try.f77) (FS : P.funcs[83]? = some Try.f83) (enc : α → List Value) (hk : ∀ x, (enc x).length = k) (h1 : ∀ x, ∀ v ∈ enc x, v.oneCell' = true) (cf : α → α → Int) (H : SWO (ltc cf))
  (g : Nat) (eg : ∀ args w, (callFunc g args).run P w = .ok (.enter g args) w) (hcmp : ∀ (x y : α) (w : World), Calls P g #[.agg (enc x).toArray, .agg (enc y).toArray] w fun e w' => e = .returned (.int .i64 (cf x y)) ∧ Below w.heap.size w w')
  (blk off cap N : Nat) (ho : off = 0) (tail : List Value) (w0 : World) (hsz : N < 4611686018427387904) : ∀ (n : Nat) (pre A B post : List α) (w : World) (a m b : Nat), A.length + B.length = n → 0 < A.length → 0 < B.length → srt (ltc cf) A → srt (ltc cf) B → SWB enc blk 38 tail w0 (pre ++ (A ++ (B ++ post))) w → a = pre.length → m = a + A.length → b = m + B.length → N = pre.length + (A.length + (B.length + post.length)) →
   Calls P 67 #[.slice (some ⟨blk, off, none⟩) N cap, .int .i64 a, .int .i64 m, .int .i64 b, .func (.func g) #[] #[]] w fun e w' => e = .returned (.tuple #[]) ∧ SWB enc blk 38 tail w0 (pre ++ (mg (ltc cf) A B ++ post)) w' := by
 intro n
 induction n using Nat.strongRecOn with
 | _ n ih =>
  intro pre A B post w a m b hn hA0 hB0 hA hB S ha hm hb hN
  by_cases hA1 : A.length = 1
  ·obtain ⟨x, rfl⟩ := List.length_eq_one_iff.1 hA1
   exact sym_one k T FY enc hk h1 cf H g eg hcmp blk off cap a m b N ho tail w0 w pre x B post hB (by simpa using S) ha (by simpa using hm) hb (by simpa using hN) hsz
  ·by_cases hB1 : B.length = 1
   ·obtain ⟨x, rfl⟩ := List.length_eq_one_iff.1 hB1
    exact sym_last k T FY enc hk h1 cf H g eg hcmp blk off cap a m b N ho tail w0 w pre A x post hA (by omega) (by simpa using S) ha hm (by simpa using hb) (by simpa using hN) hsz
   ·exact sym_gen k T FY FR FS enc hk h1 cf H g eg hcmp blk off cap a m b N ho tail w0 w pre A B post hA hB (by omega) (by omega) S ha hm hb hN hsz
     (fun pre' A' B' post' w' a' m' b' hl h0 h0' hA' hB' S' ha' hm' hb' hN' => ih (A'.length + B'.length) (by omega) pre' A' B' post' w' a' m' b' rfl h0 h0' hA' hB' S' ha' hm' hb' hN')
set_option maxHeartbeats 8000000 in
set_option maxRecDepth 1000000 in
theorem stable_calls (k : Nat) (T : TF P k) (FG : P.funcs[55]? = some Try.f55) (FI : P.funcs[66]? = some Try.f66) (FY : P.funcs[67]? = some Try.f67) (FR : P.funcs[77]? = some Try.f77) (FS : P.funcs[83]? = some Try.f83) (enc : α → List Value) (hk : ∀ x, (enc x).length = k) (h1 : ∀ x, ∀ v ∈ enc x, v.oneCell' = true) (cf : α → α → Int) (H : SWO (ltc cf))
  (g : Nat) (eg : ∀ args w, (callFunc g args).run P w = .ok (.enter g args) w) (hcmp : ∀ (x y : α) (w : World), Calls P g #[.agg (enc x).toArray, .agg (enc y).toArray] w fun e w' => e = .returned (.int .i64 (cf x y)) ∧ Below w.heap.size w w')
  (blk off cap N : Nat) (ho : off = 0) (tail : List Value) (w0 : World) (hsz : N < 4611686018427387904) (L : List α) (w : World) (S : SWB enc blk 38 tail w0 L w) (hL : L.length = N) (hsz2 : N ≤ 140737488355328) :
  Calls P 55 #[.slice (some ⟨blk, off, none⟩) N cap, .int .i64 N, .func (.func g) #[] #[]] w fun e w' => e = .returned (.tuple #[]) ∧ SWB enc blk 38 tail w0 (isort (ltc cf) L) w' := by
 have mixed := T.mixed; have t0 := T.t0; have a0 := T.a0; have z0 := T.z0; have v0 := T.v0; have t3 := T.t3; have a3 := T.a3; have z3 := T.z3; have v3 := T.v3; have t4 := T.t4; have a4 := T.a4; have z4 := T.z4; have v4 := T.v4; have tS := T.tS; have aS := T.aS; have zS := T.zS; have vS := T.vS; have tC := T.tC; have aC := T.aC; have zC := T.zC; have vC := T.vC; have aE := T.aE; have zE := T.zE; have tU := T.tU; have aU := T.aU; have zU := T.zU; have vU := T.vU
 have u22 := run_underlying T.tS
 have IN : ∀ (W : World) (a b : Nat) (pre S post : List α), SWB enc blk 38 tail w0 (pre ++ (S ++ post)) W → a = pre.length → b = pre.length + S.length → N = pre.length + (S.length + post.length) →
   Calls P 66 #[.slice (some ⟨blk, off, none⟩) N cap, .int .i64 a, .int .i64 b, .func (.func g) #[] #[]] W fun e w' => e = .returned (.tuple #[]) ∧ SWB enc blk 38 tail w0 (pre ++ (isort (ltc cf) S ++ post)) w' :=
  fun W a b pre S post h h2 h3 h4 => insertion_calls k T FI enc hk h1 cf H g eg hcmp blk off cap a b N ho tail w0 W pre S post h h2 h3 h4 hsz
 have SY : ∀ (W : World) (a m b : Nat) (za zm zb : Int) (pre A B post : List α), za = a → zm = m → zb = b → 0 < A.length → 0 < B.length → srt (ltc cf) A → srt (ltc cf) B → SWB enc blk 38 tail w0 (pre ++ (A ++ (B ++ post))) W → a = pre.length → m = a + A.length → b = m + B.length → N = pre.length + (A.length + (B.length + post.length)) →
   Calls P 67 #[.slice (some ⟨blk, off, none⟩) N cap, .int .i64 za, .int .i64 zm, .int .i64 zb, .func (.func g) #[] #[]] W fun e w' => e = .returned (.tuple #[]) ∧ SWB enc blk 38 tail w0 (pre ++ (mg (ltc cf) A B ++ post)) w' :=
  fun W a m b za zm zb pre A B post e1 e2 e3 h0 h0' hA hB S ha hm hb hN => by
   subst e1 e2 e3
   exact sym_calls k T FY FR FS enc hk h1 cf H g eg hcmp blk off cap N ho tail w0 hsz _ pre A B post W a m b rfl h0 h0' hA hB S ha hm hb hN
 have eSY : ∀ args w, (callFunc 67 args).run P w = .ok (.enter 67 args) w := enters_k FY (by kernel_rfl) rfl
 have eIN : ∀ args w, (callFunc 66 args).run P w = .ok (.enter 66 args) w := enters_k FI (by kernel_rfl) rfl
 have AIN : Aside _ := IN
 have ASY : Aside _ := SY
 have HH : Hid (SWO (ltc cf)) := H
 have S0 : Aside (SWB enc blk 38 tail w0 L w) := S
 have HL : Hid (L.length = N) := hL
 clear S hk h1 ho hcmp H IN SY hL
 go_enter FG, Try.ntmps55
 go_wp2
 go_loopg [7, 8] N (fun kx s7 s8 wr => ∃ (a b : Nat) (X R : List α), s7 = .int .i64 a ∧ s8 = .int .i64 b ∧ b = a + 20 ∧ a ≤ N ∧ N - a ≤ kx ∧ Hid (bsort (ltc cf) 20 L = X ++ bsort (ltc cf) 20 R ∧ a = X.length ∧ N = X.length + R.length) ∧ Aside (SWB enc blk 38 tail w0 (X ++ R) wr))
 case atStart => exact ⟨0, 20, [], L, rfl, rfl, rfl, by omega, by omega, ⟨rfl, rfl, by rw [HL.out]; simp⟩, S0⟩
 case round =>
  clear S0
  obtain ⟨a, b, X, R, rfl, rfl, rfl, haN, hkx, HX, S1⟩ := hrel
  by_cases hlt : a + 20 ≤ N
  ·have hltz : (a : Int) + 20 ≤ (N : Int) := by omega
   have S2 : Aside (SWB enc blk 38 tail w0 (X ++ (R.take 20 ++ R.drop 20)) wr) := by
    show SWB _ _ _ _ _ _ _
    rw [List.take_append_drop]; exact S1
   go_wp2_with (go_at_fn 66; refine (AIN.out _ a (a + 20) X (R.take 20) (R.drop 20) S2 HX.out.2.1 (by have := HX.out; rw [List.length_take]; omega) (by have := HX.out; rw [List.length_take, List.length_drop]; omega)).mono ?_; rintro e w' ⟨rfl, S3⟩; have S4 := AsideK.mk S3; clear S3)
   go_roundg (N - (a + 20))
   case measure => omega
   case rel =>
    have h := HX.out
    have hR : (R.take 20).length = 20 := by rw [List.length_take]; omega
    refine ⟨a + 20, a + 20 + 20, X ++ isort (ltc cf) (R.take 20), R.drop 20, by first | rfl | go_num, by first | rfl | (congr 1; omega), rfl, by omega, Nat.le_refl _, ⟨?_, ?_, ?_⟩, ?_⟩
    ·rw [h.1, List.append_assoc, ← bsort_app 20 (by omega) _ _ hR, List.take_append_drop]
    ·rw [List.length_append, isort_length, hR]; omega
    ·rw [List.length_append, isort_length, hR, List.length_drop]; omega
    ·have := S4.out
     show SWB _ _ _ _ _ _ _
     simpa using this
  ·have hltz : ¬ (a : Int) + 20 ≤ (N : Int) := by omega
   have S2 : Aside (SWB enc blk 38 tail w0 (X ++ (R ++ [])) wr) := by
    show SWB _ _ _ _ _ _ _
    rw [List.append_nil]; exact S1
   go_wp2_with (go_at_fn 66; refine (AIN.out _ a N X R [] S2 HX.out.2.1 (by have := HX.out; omega) (by have := HX.out; simp; omega)).mono ?_; rintro e w' ⟨rfl, S3⟩; have S4 := AsideK.mk S3; clear S3)
   have S5 : Aside (SWB enc blk 38 tail w0 (bsort (ltc cf) 20 L) w') := by
    show SWB _ _ _ _ _ _ _
    have h := HX.out
    rw [h.1, bsort_short 20 (by omega) R (by omega)]
    simpa using S4.out
   clear S4 S2 S1 HX hltz hlt
   go_loopg [6, 7, 8, 9] N (fun kx s6 s7 s8 s9 wr => ∃ (bs : Nat), s6 = .int .i64 bs ∧ 20 ≤ bs ∧ N - bs ≤ kx ∧ bs ≤ 2 * N + 20 ∧ Aside (SWB enc blk 38 tail w0 (bsort (ltc cf) bs L) wr))
   case atStart => exact ⟨20, rfl, by omega, by omega, by omega, S5⟩
   case round =>
    clear S5
    obtain ⟨bs, rfl, hbs, hkx, hb2, S1⟩ := hrel
    by_cases hlt : bs < N
    ·have hltz : (bs : Int) < (N : Int) := by omega
     go_wp2_with fail
     go_loopg [7, 8] N (fun kj s7 s8 wr => ∃ (a b : Nat) (X R : List α), s7 = .int .i64 a ∧ s8 = .int .i64 b ∧ b = a + 2 * bs ∧ a ≤ N ∧ N - a ≤ kj ∧ Hid (bsort (ltc cf) (2 * bs) L = X ++ bsort (ltc cf) (2 * bs) R ∧ a = X.length ∧ N = X.length + R.length) ∧ Aside (SWB enc blk 38 tail w0 (X ++ bsort (ltc cf) bs R) wr))
     case atStart => exact ⟨0, 2 * bs, [], L, rfl, by go_num, by omega, by omega, by omega, ⟨rfl, rfl, by rw [HL.out]; simp⟩, S1⟩
     case round =>
      clear S1
      obtain ⟨a, b, X, R, rfl, rfl, hb, haN, hkj, HX, S2⟩ := hrel
      by_cases hle : b ≤ N
      ·have hlez : (b : Int) ≤ (N : Int) := by omega
       have habs : (a : Int) + (bs : Int) ≤ (N : Int) := by omega
       have hR : 2 * bs ≤ R.length := by have := HX.out; omega
       have c1 : (R.take bs).length = bs := by rw [List.length_take]; omega
       have c2 : ((R.drop bs).take bs).length = bs := by rw [List.length_take, List.length_drop]; omega
       have eR : R = R.take bs ++ ((R.drop bs).take bs ++ R.drop (2 * bs)) := by
        rw [show R.drop (2 * bs) = (R.drop bs).drop bs by rw [List.drop_drop]; congr 1; omega, List.take_append_drop, List.take_append_drop]
       have eb : bsort (ltc cf) bs R = isort (ltc cf) (R.take bs) ++ (isort (ltc cf) ((R.drop bs).take bs) ++ bsort (ltc cf) bs (R.drop (2 * bs))) := by
        conv => lhs; rw [eR]
        rw [bsort_app bs (by omega) _ _ c1, bsort_app bs (by omega) _ _ c2]
       have eb2 : bsort (ltc cf) (2 * bs) R = mg (ltc cf) (isort (ltc cf) (R.take bs)) (isort (ltc cf) ((R.drop bs).take bs)) ++ bsort (ltc cf) (2 * bs) (R.drop (2 * bs)) := by
        conv => lhs; rw [eR, ← List.append_assoc]
        rw [bsort_app (2 * bs) (by omega) _ _ (by rw [List.length_append]; omega), isort_append HH.out]
       have S3 : Aside (SWB enc blk 38 tail w0 (X ++ (isort (ltc cf) (R.take bs) ++ (isort (ltc cf) ((R.drop bs).take bs) ++ bsort (ltc cf) bs (R.drop (2 * bs))))) wr) := by
        show SWB _ _ _ _ _ _ _
        rw [← eb]; exact S2
       have l1 : (isort (ltc cf) (R.take bs)).length = bs := by rw [isort_length, c1]
       have l2 : (isort (ltc cf) ((R.drop bs).take bs)).length = bs := by rw [isort_length, c2]
       have l3 : (bsort (ltc cf) bs (R.drop (2 * bs))).length = (R.drop (2 * bs)).length := bsort_length bs (by omega) _ _ rfl
       have l4 : (mg (ltc cf) (isort (ltc cf) (R.take bs)) (isort (ltc cf) ((R.drop bs).take bs))).length = 2 * bs := by rw [mg_length, l1, l2]; omega
       have HE : Hid (bsort (ltc cf) (2 * bs) R = mg (ltc cf) (isort (ltc cf) (R.take bs)) (isort (ltc cf) ((R.drop bs).take bs)) ++ bsort (ltc cf) (2 * bs) (R.drop (2 * bs)) ∧ (isort (ltc cf) (R.take bs)).length = bs ∧ (isort (ltc cf) ((R.drop bs).take bs)).length = bs ∧ (bsort (ltc cf) bs (R.drop (2 * bs))).length = (R.drop (2 * bs)).length ∧ (mg (ltc cf) (isort (ltc cf) (R.take bs)) (isort (ltc cf) ((R.drop bs).take bs))).length = 2 * bs ∧ 2 * bs ≤ R.length) := ⟨eb2, l1, l2, l3, l4, hR⟩
       have HB : Hid (b = a + 2 * bs) := hb
       have hbz : b ≤ 140737488355328 := by omega
       clear eb eR eb2 S2 c1 c2 l1 l2 l3 l4 hR hb
       go_wp2_with (go_at_fn 67; refine (ASY.out _ a (a + bs) b _ _ _ X (isort (ltc cf) (R.take bs)) (isort (ltc cf) ((R.drop bs).take bs)) (bsort (ltc cf) bs (R.drop (2 * bs))) rfl (by omega) rfl (by have := HE.out; omega) (by have := HE.out; omega) (isort_srt HH.out _) (isort_srt HH.out _) S3 HX.out.2.1 (by have := HE.out; omega) (by have := HE.out; have := HB.out; omega) (by have h1 := HE.out; have h2 := HX.out; rw [h1.2.1, h1.2.2.1, h1.2.2.2.1, List.length_drop]; omega)).mono ?_; rintro e w' ⟨rfl, S4⟩; have S5 := AsideK.mk S4; clear S4)
       go_roundg (N - b)
       case measure => have := HB.out; omega
       case rel =>
        have h1 := HE.out
        have h2 := HX.out
        have h3 := HB.out
        refine ⟨b, b + 2 * bs, X ++ mg (ltc cf) (isort (ltc cf) (R.take bs)) (isort (ltc cf) ((R.drop bs).take bs)), R.drop (2 * bs), by first | rfl | go_num, by first | rfl | (congr 1; omega), rfl, hle, Nat.le_refl _, ⟨?_, ?_, ?_⟩, ?_⟩
        ·rw [h2.1, h1.1, List.append_assoc]
        ·rw [List.length_append, h1.2.2.2.2.1]; omega
        ·rw [List.length_append, h1.2.2.2.2.1, List.length_drop]; omega
        ·have := S5.out
         show SWB _ _ _ _ _ _ _
         simpa using this
      ·have hlez : ¬ (b : Int) ≤ (N : Int) := by omega
       have HB : Hid (b = a + 2 * bs) := hb
       clear hb
       by_cases hm : a + bs < N
       ·have hmz : (a : Int) + (bs : Int) < (N : Int) := by omega
        have hR : bs < R.length ∧ R.length < 2 * bs := by have := HX.out; have := HB.out; omega
        have c1 : (R.take bs).length = bs := by rw [List.length_take]; omega
        have eR : R = R.take bs ++ R.drop bs := (List.take_append_drop _ _).symm
        have eb : bsort (ltc cf) bs R = isort (ltc cf) (R.take bs) ++ isort (ltc cf) (R.drop bs) := by
         conv => lhs; rw [eR]
         rw [bsort_app bs (by omega) _ _ c1, bsort_short bs (by omega) (R.drop bs) (by rw [List.length_drop]; omega)]
        have eb2 : bsort (ltc cf) (2 * bs) R = mg (ltc cf) (isort (ltc cf) (R.take bs)) (isort (ltc cf) (R.drop bs)) := by
         rw [bsort_short (2 * bs) (by omega) R (by omega), ← isort_append HH.out, List.take_append_drop]
        have S3 : Aside (SWB enc blk 38 tail w0 (X ++ (isort (ltc cf) (R.take bs) ++ (isort (ltc cf) (R.drop bs) ++ []))) wr) := by
         show SWB _ _ _ _ _ _ _
         rw [List.append_nil, ← eb]; exact S2
        have HE : Hid (bsort (ltc cf) (2 * bs) R = mg (ltc cf) (isort (ltc cf) (R.take bs)) (isort (ltc cf) (R.drop bs)) ∧ (isort (ltc cf) (R.take bs)).length = bs ∧ (isort (ltc cf) (R.drop bs)).length = R.length - bs ∧ bs < R.length) := ⟨eb2, by rw [isort_length, c1], by rw [isort_length, List.length_drop], hR.1⟩
        clear eb eb2 eR c1 hR S2
        go_wp2_with (go_at_fn 67; refine (ASY.out _ a (a + bs) N _ _ _ X (isort (ltc cf) (R.take bs)) (isort (ltc cf) (R.drop bs)) [] rfl (by omega) rfl (by have := HE.out; omega) (by have := HE.out; omega) (isort_srt HH.out _) (isort_srt HH.out _) S3 HX.out.2.1 (by have := HE.out; omega) (by have := HE.out; have := HX.out; omega) (by have h1 := HE.out; have h2 := HX.out; rw [h1.2.1, h1.2.2.1]; simp; omega)).mono ?_; rintro e w' ⟨rfl, S4⟩; have S5 := AsideK.mk S4; clear S4)
        go_roundg (N - 2 * bs)
        case measure => omega
        case rel =>
         refine ⟨2 * bs, by first | rfl | (congr 1; omega), by omega, Nat.le_refl _, by omega, ?_⟩
         show SWB _ _ _ _ _ _ _
         rw [HX.out.1, HE.out.1]
         simpa using S5.out
       ·have hmz : ¬ (a : Int) + (bs : Int) < (N : Int) := by omega
        have S3 : Aside (SWB enc blk 38 tail w0 (bsort (ltc cf) (2 * bs) L) wr) := by
         show SWB _ _ _ _ _ _ _
         have h := HX.out
         rw [h.1, bsort_short (2 * bs) (by omega) R (by omega), ← bsort_short (lt := ltc cf) bs (by omega) R (by omega)]
         exact S2
        clear S2
        go_wp2
        go_roundg (N - 2 * bs)
        case measure => omega
        case rel => exact ⟨2 * bs, by first | rfl | (congr 1; omega), by omega, Nat.le_refl _, by omega, S3⟩
    ·have hltz : ¬ (bs : Int) < (N : Int) := by omega
     go_wp2
     go_end0
     refine ⟨rfl, ?_⟩
     rw [← bsort_short (lt := ltc cf) bs (by omega) L (by rw [HL.out]; omega)]
     exact S1
end SK
namespace SK
open Go.Shelf Go.Lib
variable {P : Program} {α : Type}
set_option maxHeartbeats 8000000 in
set_option maxRecDepth 1000000 in
theorem sortStable_calls (k : Nat) (T : TF P k) (FO : P.funcs[42]? = some Try.f42) (FG : P.funcs[55]? = some Try.f55) (FI : P.funcs[66]? = some Try.f66) (FY : P.funcs[67]? = some Try.f67) (FR : P.funcs[77]? = some Try.f77) (FS : P.funcs[83]? = some Try.f83) (enc : α → List Value) (hk : ∀ x, (enc x).length = k) (h1 : ∀ x, ∀ v ∈ enc x, v.oneCell' = true) (cf : α → α → Int) (H : SWO (ltc cf))
  (g : Nat) (eg : ∀ args w, (callFunc g args).run P w = .ok (.enter g args) w) (hcmp : ∀ (x y : α) (w : World), Calls P g #[.agg (enc x).toArray, .agg (enc y).toArray] w fun e w' => e = .returned (.int .i64 (cf x y)) ∧ Below w.heap.size w w')
  (blk off cap N : Nat) (ho : off = 0) (tail : List Value) (w0 : World) (hsz : N < 4611686018427387904) (L : List α) (w : World) (S : SWB enc blk 38 tail w0 L w) (hL : L.length = N) (hsz2 : N ≤ 140737488355328) :
  Calls P 42 #[.slice (some ⟨blk, off, none⟩) N cap, .func (.func g) #[] #[]] w fun e w' => e = .returned (.tuple #[]) ∧ SWB enc blk 38 tail w0 (isort (ltc cf) L) w' := by
 have mixed := T.mixed; have t0 := T.t0; have a0 := T.a0; have z0 := T.z0; have v0 := T.v0; have t3 := T.t3; have a3 := T.a3; have z3 := T.z3; have v3 := T.v3; have t4 := T.t4; have a4 := T.a4; have z4 := T.z4; have v4 := T.v4; have tS := T.tS; have aS := T.aS; have zS := T.zS; have vS := T.vS; have tC := T.tC; have aC := T.aC; have zC := T.zC; have vC := T.vC; have aE := T.aE; have zE := T.zE; have tU := T.tU; have aU := T.aU; have zU := T.zU; have vU := T.vU
 have u22 := run_underlying T.tS
 have ST := stable_calls k T FG FI FY FR FS enc hk h1 cf H g eg hcmp blk off cap N ho tail w0 hsz L w S hL hsz2
 have AST : Aside _ := ST
 have eST : ∀ args w, (callFunc 55 args).run P w = .ok (.enter 55 args) w := enters_k FG (by kernel_rfl) rfl
 clear ST S hk h1 hcmp H hL ho
 go_enter FO, Try.ntmps42
 go_wp2_with (go_at_fn 55; refine Calls.mono AST.out ?_; rintro e w' ⟨rfl, S3⟩; have S4 := AsideK.mk S3; clear S3)
 go_end0
 exact ⟨rfl, S4.out⟩
set_option maxHeartbeats 8000000 in
set_option maxRecDepth 1000000 in
theorem insertion_none (k : Nat) (T : TF P k) (FG : P.funcs[66]? = some Try.f66) (p : Option Addr) (cap : Nat) (fv : Value) (w : World) :
  Calls P 66 #[.slice p 0 cap, .int .i64 0, .int .i64 0, fv] w fun e w' => e = .returned (.tuple #[]) ∧ w' = w := by
 have mixed := T.mixed; have t0 := T.t0; have a0 := T.a0; have z0 := T.z0; have v0 := T.v0; have t3 := T.t3; have a3 := T.a3; have z3 := T.z3; have v3 := T.v3; have t4 := T.t4; have a4 := T.a4; have z4 := T.z4; have v4 := T.v4; have tS := T.tS; have aS := T.aS; have zS := T.zS; have vS := T.vS; have tC := T.tC; have aC := T.aC; have zC := T.zC; have vC := T.vC; have aE := T.aE; have zE := T.zE; have tU := T.tU; have aU := T.aU; have zU := T.zU; have vU := T.vU
 have u22 := run_underlying T.tS
 go_enter FG, Try.ntmps66
 go_wp2
 go_loopg [8] 0 (fun kx s wr => s = .int .i64 1 ∧ wr = w)
 case atStart => exact ⟨rfl, rfl⟩
 case round =>
  obtain ⟨rfl, rfl⟩ := hrel
  go_wp2
  go_end0
  exact ⟨rfl, rfl⟩
set_option maxHeartbeats 8000000 in
set_option maxRecDepth 1000000 in
theorem sortStable_none (k : Nat) (T : TF P k) (FO : P.funcs[42]? = some Try.f42) (FG : P.funcs[55]? = some Try.f55) (FI : P.funcs[66]? = some Try.f66) (p : Option Addr) (cap : Nat) (fv : Value) (w : World) :
  Calls P 42 #[.slice p 0 cap, fv] w fun e w' => e = .returned (.tuple #[]) ∧ w' = w := by
 have eST : ∀ args w, (callFunc 55 args).run P w = .ok (.enter 55 args) w := enters_k FG (by kernel_rfl) rfl
 have eIN : ∀ args w, (callFunc 66 args).run P w = .ok (.enter 66 args) w := enters_k FI (by kernel_rfl) rfl
 have IN := insertion_none k T FI p cap fv
 have AIN : Aside _ := IN
 clear IN
 have ST : ∀ w, Calls P 55 #[.slice p 0 cap, .int .i64 0, fv] w fun e w' => e = .returned (.tuple #[]) ∧ w' = w := by
  intro w
  have mixed := T.mixed; have t0 := T.t0; have a0 := T.a0; have z0 := T.z0; have v0 := T.v0; have t3 := T.t3; have a3 := T.a3; have z3 := T.z3; have v3 := T.v3; have t4 := T.t4; have a4 := T.a4; have z4 := T.z4; have v4 := T.v4; have tS := T.tS; have aS := T.aS; have zS := T.zS; have vS := T.vS; have tC := T.tC; have aC := T.aC; have zC := T.zC; have vC := T.vC; have aE := T.aE; have zE := T.zE; have tU := T.tU; have aU := T.aU; have zU := T.zU; have vU := T.vU
  have u22 := run_underlying T.tS
  go_enter FG, Try.ntmps55
  go_wp2
  go_loopg [7, 8] 0 (fun kx s7 s8 wr => s7 = .int .i64 0 ∧ s8 = .int .i64 20 ∧ wr = w)
  case atStart => exact ⟨rfl, rfl, rfl⟩
  case round =>
   obtain ⟨rfl, rfl, rfl⟩ := hrel
   go_wp2_with (go_at_fn 66; refine Calls.mono (AIN.out _) ?_; rintro e w' ⟨rfl, rfl⟩)
   go_loopg [6] 0 (fun kx s6 wr => s6 = .int .i64 20 ∧ wr = w')
   case atStart => exact ⟨rfl, rfl⟩
   case round =>
    obtain ⟨rfl, rfl⟩ := hrel
    go_wp2
    go_end0
    exact ⟨rfl, rfl⟩
 have mixed := T.mixed; have t0 := T.t0; have a0 := T.a0; have z0 := T.z0; have v0 := T.v0; have t3 := T.t3; have a3 := T.a3; have z3 := T.z3; have v3 := T.v3; have t4 := T.t4; have a4 := T.a4; have z4 := T.z4; have v4 := T.v4; have tS := T.tS; have aS := T.aS; have zS := T.zS; have vS := T.vS; have tC := T.tC; have aC := T.aC; have zC := T.zC; have vC := T.vC; have aE := T.aE; have zE := T.zE; have tU := T.tU; have aU := T.aU; have zU := T.zU; have vU := T.vU
 have u22 := run_underlying T.tS
 have AST : Aside _ := ST
 clear ST
 go_enter FO, Try.ntmps42
 go_wp2_with (go_at_fn 55; refine Calls.mono (AST.out _) ?_; rintro e w' ⟨rfl, rfl⟩)
 go_end0
 exact ⟨rfl, rfl⟩
end SK
namespace SK
open Go.Shelf Go.Lib
theorem exists_list {α : Type} (Q : Nat → α → Prop) : ∀ n : Nat, (∀ j, j < n → ∃ x, Q j x) → ∃ L : List α, L.length = n ∧ ∀ j x, L[j]? = some x → Q j x := by
 intro n
 induction n with
 | zero => intro _; exact ⟨[], rfl, fun j x h => by simp at h⟩
 | succ n ih =>
  intro h
  obtain ⟨L, hL, hQ⟩ := ih fun j hj => h j (by omega)
  obtain ⟨x, hx⟩ := h n (by omega)
  refine ⟨L ++ [x], by simp [hL], fun j y hj => ?_⟩
  rcases Nat.lt_or_ge j L.length with hl | hl
  ·rw [List.getElem?_append_left hl] at hj; exact hQ j y hj
  ·have hlt := (List.getElem?_eq_some_iff.1 hj).1
   simp at hlt
   obtain rfl : j = L.length := by omega
   simp at hj
   subst hj
   rw [hL]; exact hx
theorem flat_of_chunks {α : Type} (enc : α → List Value) (k : Nat) (hk : ∀ x, (enc x).length = k) : ∀ (L : List α) (inner : List Value), inner.length = L.length * k → (∀ j x, L[j]? = some x → (inner.drop (j * k)).take k = enc x) → inner = L.flatMap enc := by
 intro L
 induction L with
 | nil => intro inner h _; simp at h; simp [h]
 | cons x L ih =>
  intro inner h hc
  have h0 := hc 0 x rfl
  simp only [Nat.zero_mul, List.drop_zero] at h0
  rw [List.flatMap_cons, ← h0, ← ih (inner.drop k) (by rw [List.length_drop, h, List.length_cons, Nat.add_mul]; omega) (fun j y hj => ?_), List.take_append_drop]
  have := hc (j + 1) y (by simpa using hj)
  rw [List.drop_drop]
  rw [show k + j * k = (j + 1) * k by rw [Nat.add_mul]; omega]
  exact this
theorem chunk_of_flat {α : Type} (enc : α → List Value) (k : Nat) (hk : ∀ x, (enc x).length = k) : ∀ (L : List α) (j : Nat) (x : α), L[j]? = some x → ((L.flatMap enc).drop (j * k)).take k = enc x := by
 intro L
 induction L with
 | nil => intro j x h; simp at h
 | cons y L ih =>
  intro j x h
  cases j with
  | zero =>
   simp at h
   subst h
   rw [Nat.zero_mul, List.drop_zero, List.flatMap_cons, List.take_left' (hk _)]
  | succ j =>
   have := ih j x (by simpa using h)
   rw [List.flatMap_cons, Nat.add_mul, Nat.one_mul, Nat.add_comm, ← List.drop_drop, List.drop_left' (hk _)]
   exact this
theorem mg_perm {α : Type} {lt : α → α → Bool} (A B : List α) : (mg lt A B).Perm (A ++ B) := by unfold mg; exact List.merge_perm_append ..
theorem isort_perm {α : Type} {lt : α → α → Bool} : ∀ L : List α, (isort lt L).Perm L := by
 refine list_snoc_ind (List.Perm.refl _) fun L x ih => ?_
 rw [isort_snoc]
 exact (mg_perm _ _).trans (ih.append_right _)
def cmpZ (a b : Int) : Int := if a = b then 0 else if a < b then -1 else 1
def cmpCue (x y : S38) : Int := if cmpZ (x.f0.f0 * y.f0.f1) (y.f0.f0 * x.f0.f1) = 0 then cmpZ (x.f1.f0 * y.f1.f1) (y.f1.f0 * x.f1.f1) else cmpZ (x.f0.f0 * y.f0.f1) (y.f0.f0 * x.f0.f1)
def ltCue (x y : S38) : Bool := decide (cmpCue x y < 0)
def pairOK (x y : S38) : Bool := decide (ratio_Cmp.f x.f0.f0 x.f0.f1 y.f0.f0 y.f0.f1 = some (cmpZ (x.f0.f0 * y.f0.f1) (y.f0.f0 * x.f0.f1))) && decide (ratio_Cmp.f x.f1.f0 x.f1.f1 y.f1.f0 y.f1.f1 = some (cmpZ (x.f1.f0 * y.f1.f1) (y.f1.f0 * x.f1.f1)))
def cuesOK (t : List S38) : Bool := t.all fun x => decide (0 < x.f0.f1) && (decide (0 < x.f1.f1) && t.all (pairOK x))
theorem cmpZ_lt {a b : Int} : cmpZ a b < 0 ↔ a < b := by
 unfold cmpZ
 split
 ·omega
 ·split <;> omega
theorem cmpZ_eq {a b : Int} : cmpZ a b = 0 ↔ a = b := by
 unfold cmpZ
 split
 ·simp_all
 ·split <;> simp_all
theorem frac_lt {a b c d e f : Int} (hb : 0 < b) (hd : 0 < d) (hf : 0 < f) (h1 : a * d ≤ c * b) (h2 : c * f ≤ e * d) : a * f ≤ e * b := by
 have h3 : a * d * f ≤ c * b * f := Int.mul_le_mul_of_nonneg_right h1 (by omega)
 have h4 : c * f * b ≤ e * d * b := Int.mul_le_mul_of_nonneg_right h2 (by omega)
 have e1 : a * d * f = a * f * d := by rw [Int.mul_assoc, Int.mul_comm d f, ← Int.mul_assoc]
 have e2 : c * b * f = c * f * b := by rw [Int.mul_assoc, Int.mul_comm b f, ← Int.mul_assoc]
 have e3 : e * d * b = e * b * d := by rw [Int.mul_assoc, Int.mul_comm d b, ← Int.mul_assoc]
 have h5 : a * f * d ≤ e * b * d := by omega
 exact Int.le_of_mul_le_mul_right h5 hd
theorem ltCue_iff (x y : S38) : ltCue x y = true ↔ (x.f0.f0 * y.f0.f1 < y.f0.f0 * x.f0.f1 ∨ (x.f0.f0 * y.f0.f1 = y.f0.f0 * x.f0.f1 ∧ x.f1.f0 * y.f1.f1 < y.f1.f0 * x.f1.f1)) := by
 unfold ltCue cmpCue
 rw [decide_eq_true_iff]
 split
 ·rename_i h
  rw [cmpZ_eq] at h
  rw [cmpZ_lt]
  omega
 ·rename_i h
  rw [cmpZ_eq] at h
  rw [cmpZ_lt]
  omega
theorem ltCue_swo (p : S38 → Prop) (hp : ∀ x, p x → 0 < x.f0.f1 ∧ 0 < x.f1.f1) {α : Type} (f : α → S38) (hf : ∀ x, p (f x)) : SWO (fun x y => ltCue (f x) (f y)) := by
 constructor
 ·intro x y h
  rw [← Bool.not_eq_true]
  rw [ltCue_iff] at h ⊢
  omega
 ·intro x y z h1 h2
  rw [← Bool.not_eq_true] at h1 h2 ⊢
  rw [ltCue_iff] at h1 h2 ⊢
  obtain ⟨px, px'⟩ := hp _ (hf x)
  obtain ⟨py, py'⟩ := hp _ (hf y)
  obtain ⟨pz, pz'⟩ := hp _ (hf z)
  generalize f x = X at *
  generalize f y = Y at *
  generalize f z = Z at *
  -- X ≤ Y ≤ Z
  have a1 : X.f0.f0 * Y.f0.f1 ≤ Y.f0.f0 * X.f0.f1 := by omega
  have a2 : Y.f0.f0 * Z.f0.f1 ≤ Z.f0.f0 * Y.f0.f1 := by omega
  have a3 := frac_lt px py pz a1 a2
  intro hc
  have a4 : X.f0.f0 * Z.f0.f1 = Z.f0.f0 * X.f0.f1 ∧ Z.f1.f0 * X.f1.f1 < X.f1.f0 * Z.f1.f1 := by omega
  -- equal starts: Y's is equal, too
  have b1 := frac_lt pz px py (show Z.f0.f0 * X.f0.f1 ≤ X.f0.f0 * Z.f0.f1 by omega) a1
  have b2 := frac_lt py pz px a2 (show Z.f0.f0 * X.f0.f1 ≤ X.f0.f0 * Z.f0.f1 by omega)
  have c1 : X.f1.f0 * Y.f1.f1 ≤ Y.f1.f0 * X.f1.f1 := by omega
  have c2 : Y.f1.f0 * Z.f1.f1 ≤ Z.f1.f0 * Y.f1.f1 := by omega
  have c3 := frac_lt px' py' pz' c1 c2
  omega
end SK
namespace SK
open Go.Shelf Go.Lib
structure El {A : Type} (d : Kd A) (w : World) (base : Nat) (okt : Nat → Nat → Prop) (t : List A) where
 x : A
 cs : List Value
 tag : Nat
 mem : x ∈ t
 m : d.M w base (okt tag) x cs
theorem map_of_getElem? {α β : Type} (L : List α) (M : List β) (f : α → β) (hl : L.length = M.length) (h : ∀ (j : Nat) (x : α), L[j]? = some x → M[j]? = some (f x)) : L.map f = M := by
 apply List.ext_getElem?
 intro j
 rw [List.getElem?_map]
 cases e : L[j]? with
 | none =>
  rw [List.getElem?_eq_none_iff] at e
  simp [List.getElem?_eq_none_iff.2 (show M.length ≤ j by omega)]
 | some x => rw [h j x e]; rfl
theorem S_elems {A : Type} {d : Kd A} {e : Nat} {w : World} {base : Nat} {ok : Nat → Prop} {v : Value} {t : List A} (h : Kd.S d e w base ok v t) (hne : t ≠ []) :
  ∃ (f : Nat → Nat) (g cap : Nat) (tail : List Value) (L : List (El d w base (fun j k => (ok k ∧ k ≠ g) ∧ f k = j) t)), v = .slice (some ⟨g, 0, none⟩) t.length cap ∧ base ≤ g ∧ ok g ∧ t.length ≤ cap ∧ cap ≤ maxLen ∧
   t.length * d.sz + tail.length = cap * d.sz ∧ w.heap[g]? = some (.cells (L.flatMap (·.cs) ++ tail).toArray e (0, 0)) ∧ L.map (·.x) = t ∧ L.map (·.tag) = List.range t.length := by
 obtain ⟨f, h0, inner, ho, hr⟩ := h
 rw [List.length_zipIdx] at ho
 have hn0 : t.length ≠ 0 := fun hz => hne (List.eq_nil_of_length_eq_zero hz)
 obtain ⟨hil, ho⟩ := ho
 rcases ho with ⟨_, hz⟩ | ⟨g, cap, cur, rfl, hg, hh, hnc, hcm, hcs, htk⟩
 ·exact absurd hz hn0
 have hown : (Value.slice (some ⟨g, 0, none⟩) t.length cap).ownBlock = some g := rfl
 obtain ⟨hr1, hr2⟩ := hr
 obtain ⟨L, hL, hQ⟩ := exists_list (α := El d w base (fun j k => (ok k ∧ k ≠ g) ∧ f k = j) t) (fun j el => t[j]? = some el.x ∧ el.tag = j ∧ el.cs = (inner.drop (j * d.sz)).take d.sz) t.length (fun j hj => by
  have hp := hr2 j (t[j], j) (Kd.zip_at (List.getElem?_eq_getElem hj))
  exact ⟨⟨t[j], (inner.drop (j * d.sz)).take d.sz, j, List.getElem_mem hj, d.M_mono (fun k hk => ⟨⟨hk.1.1, fun e => hk.1.2 (by rw [hown, e])⟩, hk.2⟩) hp⟩, List.getElem?_eq_getElem hj, rfl, rfl⟩)
 have hfl : inner = L.flatMap (·.cs) := flat_of_chunks (·.cs) d.sz (fun x => d.K_len (d.K_of_M x.m)) L inner (by rw [hil, hL]; rfl) (fun j x hj => (hQ j x hj).2.2.symm)
 refine ⟨f, g, cap, cur.toList.drop (t.length * d.sz), L, rfl, hg, h0 g rfl, hnc, hcm, ?_, ?_, ?_, ?_⟩
 ·have : t.length * d.sz ≤ cap * d.sz := Nat.mul_le_mul_right _ hnc
  rw [List.length_drop, show cur.toList.length = cap * d.sz from hcs]; omega
 ·rw [hh, ← hfl, ← htk]
  congr 2
  exact congrArg List.toArray (List.take_append_drop _ _).symm
 ·exact map_of_getElem? L t _ hL (fun j x hj => (hQ j x hj).1)
 ·exact map_of_getElem? L _ _ (by simp [hL]) (fun j x hj => by
   have hlt := (List.getElem?_eq_some_iff.1 hj).1
   rw [(hQ j x hj).2.1, List.getElem?_range (by omega)])
theorem S_rebuild {A : Type} {d : Kd A} {e : Nat} {w W : World} {base : Nat} {ok : Nat → Prop} {t : List A} {f : Nat → Nat} {g cap : Nat} {tail : List Value}
  (L : List (El d w base (fun j k => (ok k ∧ k ≠ g) ∧ f k = j) t)) (hn : (L.map (·.tag)).Nodup) (hl : L.length = t.length) (hg : base ≤ g) (hok : ok g) (hnc : t.length ≤ cap) (hcm : cap ≤ maxLen) (htl : t.length * d.sz + tail.length = cap * d.sz)
  (hW : SWB (·.cs) g e tail w L W) : Kd.S d e W base ok (.slice (some ⟨g, 0, none⟩) t.length cap) (L.map (·.x)) := by
 have hk : ∀ x : El d w base (fun j k => (ok k ∧ k ≠ g) ∧ f k = j) t, x.cs.length = d.sz := fun x => d.K_len (d.K_of_M x.m)
 have hfl : (L.flatMap (·.cs)).length = t.length * d.sz := by rw [flat_len (enc := fun x : El d w base (fun j k => (ok k ∧ k ≠ g) ∧ f k = j) t => x.cs) hk, hl]
 refine ⟨fun k => (L.map (·.tag)).idxOf (f k), fun k hk => ?_, L.flatMap (·.cs), ?_, ?_, ?_⟩
 ·have : g = k := by simpa [Value.ownBlock] using hk
  exact this ▸ hok
 ·rw [List.length_zipIdx, List.length_map, hl]
  refine ⟨hfl, .inr ⟨g, cap, _, rfl, hg, hW.row, hnc, hcm, ?_, ?_⟩⟩
  ·show (L.flatMap (·.cs) ++ tail).toArray.size = cap * d.sz
   rw [List.size_toArray, List.length_append, hfl]; exact htl
  ·show (L.flatMap (·.cs) ++ tail).toArray.toList.take (t.length * d.sz) = _
   rw [List.take_left' hfl]
 ·rw [List.length_zipIdx, List.length_map, hl]; exact hfl
 ·intro j p hj
  rw [List.getElem?_zipIdx] at hj
  cases hx : (L.map (·.x))[j]? with
  | none => rw [hx] at hj; simp at hj
  | some x =>
   rw [hx] at hj
   simp at hj
   subst hj
   rw [List.getElem?_map] at hx
   cases hy : L[j]? with
   | none => rw [hy] at hx; simp at hx
   | some el =>
    rw [hy] at hx
    simp at hx
    subst hx
    have hc := chunk_of_flat (fun x : El d w base (fun j k => (ok k ∧ k ≠ g) ∧ f k = j) t => x.cs) d.sz hk L j el hy
    show d.M W base (fun k => (ok k ∧ some k ≠ (Value.slice (some ⟨g, 0, none⟩) t.length cap).ownBlock) ∧ (L.map (·.tag)).idxOf (f k) = j) el.x (((L.flatMap (·.cs)).drop (j * d.sz)).take d.sz)
    rw [hc]
    refine Kd.M_step (d.M_mono (fun k hk => ⟨⟨hk.1.1, fun e => hk.1.2 (by simpa [Value.ownBlock] using e)⟩, ?_⟩) el.m) (fun k hk hlt => hW.grown.block k hlt (fun e => hk.1.2 (by simpa [Value.ownBlock] using e)))
    rw [hk.2]
    have hlt : j < (L.map (·.tag)).length := by rw [List.length_map]; exact (List.getElem?_eq_some_iff.1 hy).1
    have hget : (L.map (·.tag))[j] = el.tag := by
     rw [List.getElem_map]
     exact congrArg El.tag (Option.some.inj ((List.getElem?_eq_getElem (by simpa using hlt)).symm.trans hy))
    rw [← hget]
    exact hn.idxOf_getElem j hlt
end SK
namespace SK
open Go.Shelf Go.Lib
theorem compare_El {w W : World} {base base' : Nat} {okx oky : Nat → Prop} {x y : S38} {cx cy : List Value} (mx : k38.M w base okx x cx) (my : k38.M w base' oky y cy) (h : pairOK x y = true) :
  Calls Try.prog 15 #[.agg cx.toArray, .agg cy.toArray] W fun e w' => e = .returned (.int .i64 (cmpCue x y)) ∧ Below W.heap.size W w' := by
 obtain ⟨v, rfl, hv⟩ := k38_openM mx
 obtain ⟨u, rfl, hu⟩ := k38_openM my
 obtain ⟨A, c, rfl⟩ := Kd.R_slice hv
 obtain ⟨B, c2, rfl⟩ := Kd.R_slice hu
 refine cue_Compare.callsV _ _ _ _ _ _ _ _ _ _ _ _ _ _ _ _ _ _ _ _ _ _ (cmpCue x y) W ?_
 unfold pairOK at h
 rw [Bool.and_eq_true, decide_eq_true_iff, decide_eq_true_iff] at h
 unfold cue_Compare.f cmpCue
 rw [h.1, Option.bind_some]
 split
 ·rw [h.2]; rfl
 ·rfl
theorem cuesOK_pair {t : List S38} (h : cuesOK t = true) {x y : S38} (hx : x ∈ t) (hy : y ∈ t) : pairOK x y = true := by
 unfold cuesOK at h
 have := List.all_eq_true.1 h x hx
 simp only [Bool.and_eq_true] at this
 exact List.all_eq_true.1 this.2.2 y hy
theorem cuesOK_den {t : List S38} (h : cuesOK t = true) {x : S38} (hx : x ∈ t) : 0 < x.f0.f1 ∧ 0 < x.f1.f1 := by
 unfold cuesOK at h
 have := List.all_eq_true.1 h x hx
 simp only [Bool.and_eq_true, decide_eq_true_iff] at this
 exact ⟨this.1, this.2.1⟩
theorem sort_cues {w : World} {base : Nat} {ok : Nat → Prop} {v : Value} {t : List S38} (h : Kd.S k38 38 w base ok v t) (hc : cuesOK t = true) (hn : t.length ≤ 140737488355328) :
  Calls Try.prog 42 #[v, .func (.func 15) #[] #[]] w fun e w' => e = .returned (.tuple #[]) ∧ Kd.S k38 38 w' base ok v (isort ltCue t) ∧ ∀ w0 : World, Below w0.heap.size w0 w → w0.heap.size ≤ base → Below w0.heap.size w0 w' := by
 by_cases hne : t = []
 ·subst hne
  obtain ⟨A, c, rfl⟩ := Kd.R_slice (Kd.S_R h)
  refine (sortStable_none 9 tf Try.func42 Try.func55 Try.func66 A c _ w).mono ?_
  rintro e w' ⟨rfl, rfl⟩
  exact ⟨rfl, h, fun w0 hb _ => hb⟩
 ·obtain ⟨f, g, cap, tail, L, rfl, hg, hok, hnc, hcm, htl, hrow, hx, htag⟩ := S_elems h hne
  have hlen : L.length = t.length := by have hz := congrArg List.length hx; rwa [List.length_map] at hz
  have hS : SWB (fun x : El k38 w base (fun j k => (ok k ∧ k ≠ g) ∧ f k = j) t => x.cs) g 38 tail w L w := ⟨hrow, ⟨rfl, rfl, rfl, Nat.le_refl _, fun _ _ _ => rfl⟩⟩
  have hswo : SWO (ltc fun x y : El k38 w base (fun j k => (ok k ∧ k ≠ g) ∧ f k = j) t => cmpCue x.x y.x) := ltCue_swo (· ∈ t) (fun x hx => cuesOK_den hc hx) (fun x : El k38 w base (fun j k => (ok k ∧ k ≠ g) ∧ f k = j) t => x.x) (fun x => x.mem)
  refine (sortStable_calls 9 tf Try.func42 Try.func55 Try.func66 Try.func67 Try.func77 Try.func83 (fun x : El k38 w base (fun j k => (ok k ∧ k ≠ g) ∧ f k = j) t => x.cs) (fun x => k38.K_len (k38.K_of_M x.m)) (fun x => k38.K_one (k38.K_of_M x.m))
   (fun x y => cmpCue x.x y.x) hswo 15 (enters_k Try.func15 (by kernel_rfl) rfl) (fun x y W => compare_El x.m y.m (cuesOK_pair hc x.mem y.mem)) g 0 cap t.length rfl tail w (by omega) L w hS hlen hn).mono ?_
  rintro e w' ⟨rfl, S2⟩
  have hp := isort_perm (lt := ltc fun x y : El k38 w base (fun j k => (ok k ∧ k ≠ g) ∧ f k = j) t => cmpCue x.x y.x) L
  have hm : (isort (ltc fun x y : El k38 w base (fun j k => (ok k ∧ k ≠ g) ∧ f k = j) t => cmpCue x.x y.x) L).map (·.x) = isort ltCue t :=
   (isort_map (lt := ltc fun x y : El k38 w base (fun j k => (ok k ∧ k ≠ g) ∧ f k = j) t => cmpCue x.x y.x) (lt' := ltCue) (fun x => x.x) (fun x y => rfl) L).symm.trans (congrArg (isort ltCue) hx)
  refine ⟨rfl, ?_, fun w0 hb hle => ⟨S2.grown.os.trans hb.os, S2.grown.tape.trans hb.tape, S2.grown.output.trans hb.output, Nat.le_trans hb.size S2.grown.size, fun i hi => (S2.grown.block i (Nat.lt_of_lt_of_le hi hb.size) (fun e => by injection e with e; omega)).trans (hb.block i hi)⟩⟩
  rw [← hm]
  exact S_rebuild _ ((hp.map (·.tag)).nodup_iff.2 (htag ▸ List.nodup_range)) (by rw [isort_length, hlen]) hg hok hnc hcm htl S2
end SK
def cue_Sort.f (k : Nat) (l0 : List (S38)) : Option (List (S38)) := (cue_twin.f k l0).bind fun t => if SK.cuesOK t = true ∧ t.length ≤ 140737488355328 then some (SK.isort SK.ltCue t) else none
set_option maxHeartbeats 8000000 in
set_option maxRecDepth 100000 in
theorem cue_Sort.calls (k : Nat) (A0 : Option Addr) (c0 : Nat) (l0 : List (S38)) (r : List (S38)) (w : World) (hr0 : Kd.C k38 w A0 l0.length l0) (hc0 : l0.length ≤ c0) (h : cue_Sort.f k l0 = some r) :
  Calls Try.prog 28 #[.slice A0 l0.length c0] w fun e w' => ∃ v0_ : Value, e = .returned (v0_) ∧ Kd.S k38 38 w' w.heap.size (fun _ => True) v0_ r ∧ Below w.heap.size w w' := by
 unfold cue_Sort.f at h
 replace h := Option.bind_eq_some_iff.1 h
 obtain ⟨t, ht, h⟩ := h
 split at h
 case isFalse => exact absurd h (by simp)
 case isTrue hc =>
 obtain ⟨hc1, hc2⟩ := hc
 obtain rfl := Option.some.inj h
 clear h
 have HT := Aside0.mk ht
 have HR := Aside0.mk hr0
 have HC := Aside0.mk hc0
 have H1 := Aside0.mk hc1
 have H2 := Aside0.mk hc2
 clear ht hr0 hc0 hc1 hc2
 have hmf : ∀ (fn : Fn) (first cap : Array Value) (w : World), (Instr.makeFunc fn first cap).run Try.prog w = .ok (.func fn first cap) w := fun _ _ _ _ => rfl
 go_enter Try.func28, Try.ntmps28
 go_wp2_with (first | (go_at_call 41; refine (cue_twin.calls k A0 c0 l0 t _ HR.out HC.out HT.out).mono ?_; rintro e w1 ⟨v0, rfl, hS, hB⟩; have HS := Aside0.mk hS; have HB := Aside0.mk hB; clear hS hB) | (go_at_call 42; refine (SK.sort_cues HS.out H1.out H2.out).mono ?_; rintro e w2 ⟨rfl, hS2, hB2⟩; have HS2 := Aside0.mk hS2; have HB2 := Aside0.mk (hB2 w HB.out (Nat.le_refl _)); clear hS2 hB2 HS HB))
 go_ret
 exact ⟨v0, rfl, HS2.out, HB2.out⟩
end Go.Proofs.Ytlbicmdfdpcdiaa.PDa
