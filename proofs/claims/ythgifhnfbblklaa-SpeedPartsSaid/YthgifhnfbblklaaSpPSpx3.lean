-- Written by programs of this session's (wip/printer) out of the translation and of the print's words; Lean checks it.
import Derived.Test.YthgifhnfbblklaaSpPSpx0
namespace Go.Proofs.Ythgifhnfbblklaa.PSp
open Go.RowKit Go.Proofs.YthgifhnfbblklaaW.PrintWords Go.Proofs.YthgifhnfbblklaaW.PrintLast Go.Proofs.YthgifhnfbblklaaW.PrintMore
attribute [local go_sem] max2_int min2_int max_two min_two max_three min_three max_four min_four   -- for this text's walks alone
set_option linter.unusedVariables false
set_option linter.unusedSimpArgs false
def utf8_RuneLen.j0 : Nat → Int → Bool → Option (Int)
 | 0, _, _ => none
 | k + 1, x0, x12 => if x12 = true then (some (-1)) else (if x0 ≤ 65535 then (some 3) else (if x0 ≤ 1114111 then (some 4) else (some (-1))))
def utf8_RuneLen.f (k : Nat) (a0 : Int) : Option (Int) := if a0 < 0 then (some (-1)) else (if a0 ≤ 127 then (some 1) else (if a0 ≤ 2047 then (some 2) else (if 55296 ≤ a0 then (utf8_RuneLen.j0 k a0 (decide (a0 ≤ 57343))) else (utf8_RuneLen.j0 k a0 false))))
set_option maxHeartbeats 8000000 in
set_option maxRecDepth 100000 in
theorem utf8_RuneLen.calls (k : Nat) (a0 : Int) (r : Int) (w : World) (h : utf8_RuneLen.f k a0 = some r) :
  Calls Try.prog 45 #[.int .i32 a0] w fun e w' => e = .returned (.int .i64 r) ∧ Drawn0 w w' := by
 have H : (if a0 < 0 then (some (-1)) else (if a0 ≤ 127 then (some 1) else (if a0 ≤ 2047 then (some 2) else (if 55296 ≤ a0 then (utf8_RuneLen.j0 k a0 (decide (a0 ≤ 57343))) else (utf8_RuneLen.j0 k a0 false))))) = some r := h
 clear h
 by_cases c2 : a0 < 0
 ·rw [if_pos c2] at H
  have c2b0 : decide (a0 < 0) = true := decide_eq_true c2
  clear c2
  obtain rfl := Option.some.inj H
  go_enter Try.func45, Try.ntmps45
  go_wp2
  go_ret
  exact ⟨by first | rfl | (simp; done) | (simp [*]; done), by repeat (first | exact Drawn0.refl _ | apply Drawn0.step)⟩
 ·rw [if_neg c2] at H
  have c2b0 : decide (a0 < 0) = false := decide_eq_false c2
  clear c2
  by_cases c3 : a0 ≤ 127
  ·rw [if_pos c3] at H
   have c3b0 : decide (a0 ≤ 127) = true := decide_eq_true c3
   clear c3
   obtain rfl := Option.some.inj H
   go_enter Try.func45, Try.ntmps45
   go_wp2
   go_ret
   exact ⟨by first | rfl | (simp; done) | (simp [*]; done), by repeat (first | exact Drawn0.refl _ | apply Drawn0.step)⟩
  ·rw [if_neg c3] at H
   have c3b0 : decide (a0 ≤ 127) = false := decide_eq_false c3
   clear c3
   by_cases c4 : a0 ≤ 2047
   ·rw [if_pos c4] at H
    have c4b0 : decide (a0 ≤ 2047) = true := decide_eq_true c4
    clear c4
    obtain rfl := Option.some.inj H
    go_enter Try.func45, Try.ntmps45
    go_wp2
    go_ret
    exact ⟨by first | rfl | (simp; done) | (simp [*]; done), by repeat (first | exact Drawn0.refl _ | apply Drawn0.step)⟩
   ·rw [if_neg c4] at H
    have c4b0 : decide (a0 ≤ 2047) = false := decide_eq_false c4
    clear c4
    have HC5 := Aside0.mk H
    clear H
    go_enter Try.func45, Try.ntmps45
    go_upto_region 7 with (fail)
    go_cut [12] (fun v12 wc => ∃ (kq : Nat) (x12_4 : Bool), v12 = .bool x12_4 ∧ Aside0 (utf8_RuneLen.j0 kq a0 x12_4 = some r) ∧ Aside0 (kq ≤ k) ∧ Drawn0 w wc)
    case first =>
     have H := HC5.out
     clear HC5
     by_cases c6 : 55296 ≤ a0
     ·rw [if_pos c6] at H
      have c6b0 : decide (55296 ≤ a0) = true := decide_eq_true c6
      clear c6
      (first | rw [c6b0] | (simp only [i64_w, i32_w]; rw [c6b0]) | skip)
      have H' := Aside0.mk H
      clear H
      go_wp2
      go_meet
      case rel => exact ⟨_, (decide (a0 ≤ 57343)), (by first | rfl | (simp; done) | (simp [*]; done)), H', ⟨by first | omega | exact Nat.le_refl _⟩, by repeat (first | exact Drawn0.refl _ | apply Drawn0.step)⟩
     ·rw [if_neg c6] at H
      have c6b0 : decide (55296 ≤ a0) = false := decide_eq_false c6
      clear c6
      (first | rw [c6b0] | (simp only [i64_w, i32_w]; rw [c6b0]) | skip)
      have H' := Aside0.mk H
      clear H
      go_wp2
      go_meet
      case rel => exact ⟨_, (false), (by first | rfl | (simp; done) | (simp [*]; done)), H', ⟨by first | omega | exact Nat.le_refl _⟩, by repeat (first | exact Drawn0.refl _ | apply Drawn0.step)⟩
    case rest =>
     clear HC5
     try clear c2
     try clear c2b0
     try clear p2
     try clear c3
     try clear c3b0
     try clear c4
     try clear c4b0
     try clear c6
     try clear c6b0
     obtain ⟨kq, x12_4, rfl, HA, HJ4, ⟨mc4, rfl⟩⟩ := hcut
     cases kq with
     | zero => exact absurd HA.out (by simp [utf8_RuneLen.j0])
     | succ kj4 =>
      have H := HA.out
      clear HA
      simp only [utf8_RuneLen.j0] at H
      by_cases c7 : x12_4 = true
      ·subst c7
       have H1 : (some (-1)) = some r := by rw [if_pos rfl] at H; exact H
       clear H
       have H := H1
       clear H1
       obtain rfl := Option.some.inj H
       go_wp2
       go_ret
       exact ⟨by first | rfl | (simp; done) | (simp [*]; done), by repeat (first | exact Drawn0.refl _ | apply Drawn0.step)⟩
      ·replace c7 := Bool.eq_false_iff.mpr c7
       subst c7
       have H1 : (if a0 ≤ 65535 then (some 3) else (if a0 ≤ 1114111 then (some 4) else (some (-1)))) = some r := by rw [if_neg (show ¬ (false = true) by decide)] at H; exact H
       clear H
       have H := H1
       clear H1
       by_cases c8 : a0 ≤ 65535
       ·rw [if_pos c8] at H
        have c8b0 : decide (a0 ≤ 65535) = true := decide_eq_true c8
        clear c8
        obtain rfl := Option.some.inj H
        go_wp2
        go_ret
        exact ⟨by first | rfl | (simp; done) | (simp [*]; done), by repeat (first | exact Drawn0.refl _ | apply Drawn0.step)⟩
       ·rw [if_neg c8] at H
        have c8b0 : decide (a0 ≤ 65535) = false := decide_eq_false c8
        clear c8
        by_cases c9 : a0 ≤ 1114111
        ·rw [if_pos c9] at H
         have c9b0 : decide (a0 ≤ 1114111) = true := decide_eq_true c9
         clear c9
         obtain rfl := Option.some.inj H
         go_wp2
         go_ret
         exact ⟨by first | rfl | (simp; done) | (simp [*]; done), by repeat (first | exact Drawn0.refl _ | apply Drawn0.step)⟩
        ·rw [if_neg c9] at H
         have c9b0 : decide (a0 ≤ 1114111) = false := decide_eq_false c9
         clear c9
         obtain rfl := Option.some.inj H
         go_wp2
         go_ret
         exact ⟨by first | rfl | (simp; done) | (simp [*]; done), by repeat (first | exact Drawn0.refl _ | apply Drawn0.step)⟩
def stringslite_HasPrefix.f (a0 : ByteArray) (a1 : ByteArray) : Option (Bool) := if (a0.size : Int) ≥ (a1.size : Int) then (if 0 ≤ (a1.size : Int) then (if (a1.size : Int) ≤ (a0.size : Int) then (some ((a0.extract 0 ((a1.size : Int) : Int).toNat).toList == a1.toList)) else (none)) else (none)) else (some false)
set_option maxHeartbeats 8000000 in
set_option maxRecDepth 100000 in
theorem stringslite_HasPrefix.calls (a0 : ByteArray) (a1 : ByteArray) (r : Bool) (w : World) (h : stringslite_HasPrefix.f a0 a1 = some r) :
  Calls Try.prog 76 #[.string a0, .string a1] w fun e w' => e = .returned (.bool r) ∧ Drawn0 w w' := by
 have H : (if (a0.size : Int) ≥ (a1.size : Int) then (if 0 ≤ (a1.size : Int) then (if (a1.size : Int) ≤ (a0.size : Int) then (some ((a0.extract 0 ((a1.size : Int) : Int).toNat).toList == a1.toList)) else (none)) else (none)) else (some false)) = some r := h
 clear h
 by_cases c3 : (a0.size : Int) ≥ (a1.size : Int)
 ·rw [if_pos c3] at H
  have c3b0 : decide ((a1.size : Int) ≤ (a0.size : Int)) = true := decide_eq_true c3
  have c3b1 : decide (a1.size ≤ a0.size) = true := decide_eq_true (Int.ofNat_le.mp c3)
  clear c3
  by_cases c4 : 0 ≤ (a1.size : Int)
  ·rw [if_pos c4] at H
   have c4b0 := eq_true c4
   have c4b1 : decide (0 ≤ (a1.size : Int)) = true := decide_eq_true c4
   clear c4
   by_cases c5 : (a1.size : Int) ≤ (a0.size : Int)
   ·rw [if_pos c5] at H
    have c5b0 := eq_true c5
    have c5b1 : decide ((a1.size : Int) ≤ (a0.size : Int)) = true := decide_eq_true c5
    clear c5
    obtain rfl := Option.some.inj H
    go_enter Try.func76, Try.ntmps76
    go_wp2
    go_ret
    exact ⟨by first | rfl | (simp; done) | (simp [*]; done), by repeat (first | exact Drawn0.refl _ | apply Drawn0.step)⟩
   ·rw [if_neg c5] at H
    exact absurd H (by simp)
  ·rw [if_neg c4] at H
   exact absurd H (by simp)
 ·rw [if_neg c3] at H
  have c3b0 : decide ((a1.size : Int) ≤ (a0.size : Int)) = false := decide_eq_false c3
  have c3b1 : decide (a1.size ≤ a0.size) = false := decide_eq_false (fun h => c3 (Int.ofNat_le.mpr h))
  clear c3
  obtain rfl := Option.some.inj H
  go_enter Try.func76, Try.ntmps76
  go_wp2
  go_ret
  exact ⟨by first | rfl | (simp; done) | (simp [*]; done), by repeat (first | exact Drawn0.refl _ | apply Drawn0.step)⟩
def strings_HasPrefix.f (a0 : ByteArray) (a1 : ByteArray) : Option (Bool) := (stringslite_HasPrefix.f a0 a1).bind fun t101 => (some t101)
set_option maxHeartbeats 8000000 in
set_option maxRecDepth 100000 in
theorem strings_HasPrefix.calls (a0 : ByteArray) (a1 : ByteArray) (r : Bool) (w : World) (h : strings_HasPrefix.f a0 a1 = some r) :
  Calls Try.prog 46 #[.string a0, .string a1] w fun e w' => e = .returned (.bool r) ∧ Drawn0 w w' := by
 have H : ((stringslite_HasPrefix.f a0 a1).bind fun t101 => (some t101)) = some r := h
 clear h
 replace H := Option.bind_eq_some_iff.mp H
 obtain ⟨t101, A30, H⟩ := H
 (try dsimp only at H)
 have A3 := Aside0.mk A30
 clear A30
 obtain rfl := Option.some.inj H
 go_enter Try.func46, Try.ntmps46
 go_wp2_with (first | ((with_reducible refine gate_callee (f := 76) rfl ?_); refine goesL_ (some 7) rfl rfl Try.func76 (by kernel_rfl) rfl #[.string a0, .string a1] rfl (by (try simp only [List.map_toArray, List.map_cons, List.map_nil]); first | done | rfl | (simp only [List.length_drop, List.length_take]; rfl)) ?_; (with_reducible refine (stringslite_HasPrefix.calls a0 a1 t101 _ A3.out).mono ?_); rintro e w' ⟨rfl, ⟨nd, rfl⟩⟩; refine ⟨_, rfl, ?_⟩))
 go_ret
 exact ⟨by first | rfl | (simp; done) | (simp [*]; done), by repeat (first | exact Drawn0.refl _ | apply Drawn0.step)⟩
def rlen (r : Int) : Int := if r < 0 then -1 else if r ≤ 127 then 1 else if r ≤ 2047 then 2 else if 55296 ≤ r ∧ r ≤ 57343 then -1 else if r ≤ 65535 then 3 else if r ≤ 1114111 then 4 else -1
theorem rlen_tells (r : Int) : utf8_RuneLen.f 1 r = some (rlen r) := by
 unfold utf8_RuneLen.f rlen
 simp only [utf8_RuneLen.j0]
 by_cases h1 : r < 0
 ·rw [if_pos h1, if_pos h1]
 by_cases h2 : r ≤ 127
 ·rw [if_neg h1, if_neg h1, if_pos h2, if_pos h2]
 by_cases h3 : r ≤ 2047
 ·rw [if_neg h1, if_neg h1, if_neg h2, if_neg h2, if_pos h3, if_pos h3]
 rw [if_neg h1, if_neg h1, if_neg h2, if_neg h2, if_neg h3, if_neg h3]
 by_cases h4 : 55296 ≤ r
 ·by_cases h5 : r ≤ 57343
  ·simp [h4, h5]
  ·simp only [h4, h5, if_true, decide_false, and_false, if_false, Bool.false_eq_true]
   split
   ·rfl
   ·split <;> rfl
 ·simp only [h4, false_and, if_false, Bool.false_eq_true]
  split
  ·rfl
  ·split <;> rfl
def good3 (s : ByteArray) (p : Nat) : Bool := ((strings_HasPrefix.f (s.extract p s.size) ⟨#[239, 191, 189]⟩).getD false)
theorem good3_tells (s : ByteArray) (p : Nat) : strings_HasPrefix.f (s.extract p s.size) ⟨#[239, 191, 189]⟩ = some (good3 s p) := by
 unfold good3
 have : ∃ b, strings_HasPrefix.f (s.extract p s.size) ⟨#[239, 191, 189]⟩ = some b := by
  unfold strings_HasPrefix.f stringslite_HasPrefix.f
  split
  ·exact ⟨_, rfl⟩
  ·exact ⟨_, rfl⟩
 obtain ⟨b, h⟩ := this
 rw [h]; rfl
def sRune (s : ByteArray) (p : Nat) : Int := ((Utf8.decode s p).1 : Int)
def sLen (s : ByteArray) (p : Nat) : Int := if sRune s p = 65533 then (if good3 s p = true then 3 else 1) else rlen (sRune s p)
def sBad (s : ByteArray) (p : Nat) : Bool := decide (sRune s p = 65533) && !good3 s p
def sVal (s : ByteArray) (p : Nat) : Value := .agg #[.int .i64 (p : Int), .int .i64 (sLen s p), .int .i32 (sRune s p), .bool (sBad s p)]
def posns (s : ByteArray) : Nat → Nat → List Nat
 | 0, _ => []
 | f + 1, p => if p < s.size then p :: posns s f (p + (Utf8.decode s p).2) else []
def places (s : ByteArray) : List Nat := posns s s.size 0
theorem posns_end (s : ByteArray) (f p : Nat) (h : ¬ p < s.size) : posns s f p = [] := by cases f <;> simp [posns, h]
theorem posns_length (s : ByteArray) : ∀ f p, (posns s f p).length ≤ f
 | 0, _ => by simp [posns]
 | f + 1, p => by
  unfold posns
  split
  ·simp; exact posns_length s f _
  ·simp
theorem grownBy_iterAt (W : World) (k : Nat) (s : ByteArray) (pos : Nat) : W.grownBy (W.iterAt k s pos) (some k) :=
 ⟨rfl, rfl, rfl, by rw [Lib.iterAt_size]; exact Nat.le_refl _, fun i _ hi => Lib.iterAt_other W k i s pos (fun e => hi (by rw [e]))⟩
def SKeeps (Bn : Nat) (W W' : World) : Prop := KeepsWalks W W' ∧ ∀ v, W.cell? ⟨Bn, 0, none⟩ = some v → W'.cell? ⟨Bn, 0, none⟩ = some v
theorem SKeeps.t {Bn : Nat} {A B C : World} (h : SKeeps Bn A B) (k : SKeeps Bn B C) : SKeeps Bn A C := ⟨h.1.trans k.1, fun v hv => k.2 v (h.2 v hv)⟩
theorem SKeeps.b {Bn : Nat} {w : World} (W : World) (l : Nat) (o o' : Obj) (hl : w.heap.size ≤ l) (h : W.heap[l]? = some o) (hc : o.isCells = false) (hw : o.isWalk = false) : SKeeps Bn W (W.putObj l o') :=
 ⟨KeepsWalks.putObj _ h hw, fun v hv => cell_kept hv (grownBy_putObj' W l o') (fun r e => by cases e; exact ⟨o, h, hc⟩)⟩
theorem cell_iterAt {W : World} {k b : Nat} {s : ByteArray} {pos : Nat} {v : Value} (hb : b ≠ k) (h : W.cell? ⟨b, 0, none⟩ = some v) : (W.iterAt k s pos).cell? ⟨b, 0, none⟩ = some v := by
 rw [← h]; simp only [World.cell?, Lib.iterAt_other W k b s pos hb]
set_option maxRecDepth 100000 in
set_option maxHeartbeats 4000000 in
theorem signs1_in (l Bn : Nat) (s : ByteArray) (J Jx : List Nat → World → Prop) (W : World) (hs : s.size < 9223372036854775807) (hBn : Bn < W.heap.size)
  (hJ : AbidesFrom W.heap.size J) (hJx : AbidesFrom W.heap.size Jx)
  (hY : ∀ pre x W1, J pre W1 → x ∈ places s → pre.length < s.size → YieldAt Fence.wide 5 Try.prog l #[sVal s x] W1 fun e W' =>
   (e = .returned (.bool true) ∧ J (pre ++ [x]) W' ∧ SKeeps Bn W1 W') ∨ (e = .returned (.bool false) ∧ Jx (pre ++ [x]) W'))
  (hc : W.cell? ⟨Bn, 0, none⟩ = some (.string s)) (h0 : J [] W) :
  CallsIn Fence.wide 6 Try.prog 44 #[.func (.yield l) #[] #[], .pointer (some ⟨Bn, 0, none⟩)] W fun e W' => (∃ v, e = .returned v) ∧
   ((∃ ys, ys = places s ∧ J ys W') ∨ (∃ pre, pre <+: places s ∧ Jx pre W')) := by
 have hu9 := Try.underlying9
 refine callsIn_of_wp Try.func44 rfl trivial ?_ rfl
 simp only [Try.ntmps44, List.size_toArray, List.length_cons, List.length_nil, Nat.reduceAdd, Nat.reduceSub, Array.replicate_succ, Array.replicate_zero, List.push_toArray, List.append_toArray, List.nil_append, List.cons_append]
 gi_wp2
 gi_loopw [] (fun wr => ∃ (pre : List Nat) (pos b : Nat), J pre wr ∧ Aside0 (wr.heap[W.heap.size]? = some (.stringIter s pos)) ∧ Aside0 (pre ++ posns s b pos = places s) ∧ s.size ≤ pos + b ∧ wr.cell? ⟨Bn, 0, none⟩ = some (.string s) ∧ pre.length ≤ pos) (fun wr => s.size - wr.iterPos W.heap.size)
 case atStart => exact ⟨[], 0, s.size, hJ _ _ _ none h0 (World.grownBy_alloc W _ none) (fun r e => by cases e), ⟨World.iter_heap W s 0⟩, ⟨rfl⟩, by omega, ((Below.refl _ W).alloc (Nat.le_refl _) _).cell (p := ⟨Bn, 0, none⟩) hBn |>.trans hc, Nat.le_refl _⟩
 case round =>
  obtain ⟨pre, pos, b, hJs, hit, hpre, hb, hbx, hpl⟩ := hrel
  by_cases hp : pos < s.size
  ·have hnx : ∀ ty, (Instr.next (.pointer (some ⟨W.heap.size, 0, none⟩)) true ty).run Try.prog wr = _ := fun ty => Lib.run_next_any_at wr W.heap.size s pos ty hit.out hp
   have hwd := Lib.decode_width_pos s pos hp
   have hJ2 : J pre (wr.iterAt W.heap.size s (pos + (Utf8.decode s pos).2)) := hJ _ _ _ (some W.heap.size) hJs (grownBy_iterAt wr W.heap.size s _) (fun r e => by cases e; exact ⟨Nat.le_refl _, _, hit.out, rfl⟩)
   have hbx2 : (wr.iterAt W.heap.size s (pos + (Utf8.decode s pos).2)).cell? ⟨Bn, 0, none⟩ = some (.string s) := cell_iterAt (by omega) hbx
   have hip := Aside0.mk (iterPos_of hit.out)
   have hit2 := Aside0.mk (Lib.iterAt_heap wr W.heap.size s pos (pos + (Utf8.decode s pos).2) hit.out)
   have hnext : Aside0 (∃ b', b = b' + 1 ∧ posns s b pos = pos :: posns s b' (pos + (Utf8.decode s pos).2)) := by
    cases b with
    | zero => omega
    | succ b' => exact ⟨b', rfl, by simp [posns, hp]⟩
   obtain ⟨X, hX⟩ : ∃ X, wr.iterAt W.heap.size s (pos + (Utf8.decode s pos).2) = X := ⟨_, rfl⟩
   rw [hX] at hJ2 hbx2 hit2
   simp only [hX] at hnx
   clear hJs hit hbx hX
   -- what follows a round
   have tail : ∀ W3, J (pre ++ [pos]) W3 → SKeeps Bn X W3 → ∃ pre' pos' b', J pre' W3 ∧ Aside0 (W3.heap[W.heap.size]? = some (.stringIter s pos')) ∧ Aside0 (pre' ++ posns s b' pos' = places s) ∧ s.size ≤ pos' + b' ∧ W3.cell? ⟨Bn, 0, none⟩ = some (.string s) ∧ pre'.length ≤ pos' ∧ s.size - W3.iterPos W.heap.size < s.size - pos := by
    intro W3 h1 h2
    obtain ⟨b', rfl, e⟩ := hnext.out
    have hi := h2.1.same _ _ hit2.out rfl
    refine ⟨pre ++ [pos], pos + (Utf8.decode s pos).2, b', h1, ⟨hi⟩, ⟨?_⟩, by omega, h2.2 _ hbx2, by simp; omega, ?_⟩
    ·rw [← hpre.out, e]; simp
    ·rw [iterPos_of hi]; omega
   have hend : ∀ W3, Jx (pre ++ [pos]) W3 → ∃ pre', pre' <+: places s ∧ Jx pre' W3 := by
    intro W3 h1
    obtain ⟨b', rfl, e⟩ := hnext.out
    exact ⟨pre ++ [pos], ⟨posns s b' (pos + (Utf8.decode s pos).2), by rw [← hpre.out, e]; simp⟩, h1⟩
   have hlen : pre.length < s.size := by omega
   have hmem : pos ∈ places s := by
    obtain ⟨b', rfl, e⟩ := hnext.out
    rw [← hpre.out, e]
    simp
   have hyield : ∀ m v, Aside0 (v = sVal s pos) → YieldAt Fence.wide 5 Try.prog l #[v] (X.drewN m) fun e W' =>
     (e = .returned (.bool true) ∧ J (pre ++ [pos]) W' ∧ SKeeps Bn (X.drewN m) W') ∨ (e = .returned (.bool false) ∧ Jx (pre ++ [pos]) W') := by
    rintro m v ⟨rfl⟩
    exact hY pre pos (X.drewN m) (hJ _ _ _ none hJ2 (grown_of_below (Drawn0.below ⟨⟨m, rfl⟩⟩) none) (fun r e => by cases e)) hmem hlen
   have hkd : ∀ m W3, SKeeps Bn (X.drewN m) W3 → SKeeps Bn X W3 := fun m W3 h => ⟨⟨h.1.size, fun k o hk ho => h.1.same k o hk ho⟩, fun v hv => h.2 v hv⟩
   have T := Aside0.mk tail
   have HE := Aside0.mk hend
   have HY := Aside0.mk hyield
   clear tail hend hyield hJ2 hY hnext hpre
   obtain ⟨r, er⟩ : ∃ r : Nat, (Utf8.decode s pos).1 = r := ⟨_, rfl⟩
   rw [er] at hnx
   have ER := Aside0.mk er
   clear er
   by_cases hr : (r : Int) = 65533
   ·obtain rfl : r = 65533 := by omega
    have hnx := fun ty => (hnx ty).trans (show _ = Result.ok (Value.tuple #[Value.bool true, Value.int IntKind.i64 (pos : Int), Value.int IntKind.i32 65533]) X from rfl)
    have h3 := good3_tells s pos
    cases hg : good3 s pos with
    | true =>
     rw [hg] at h3
     have H3 := Aside0.mk h3
     clear h3
     have hv : Aside0 (.agg #[.int .i64 (pos : Int), .int .i64 3, .int .i32 65533, .bool false] = sVal s pos) := ⟨by
      simp [sVal, sLen, sBad, sRune, ER.out, hg]⟩
     clear hg
     gi_wp2_with (refine ⟨trivial, ?_⟩; gi_at_call 46; refine (callsIn_wide.2 (strings_HasPrefix.calls _ _ _ _ H3.out)).mono ?_; rintro e w' ⟨rfl, ⟨m, rfl⟩⟩; obtain ⟨fn, tmps, assign, body, hy, hR⟩ := HY.out m _ hv)
     gi_wp2
     refine hR.mono ?_
     rintro e W3 (⟨rfl, hJ3, hk3⟩ | ⟨rfl, hJx3⟩)
     ·obtain ⟨pre', pos', b', q1, q2, q3, q4, q5, q6, q7⟩ := T.out W3 hJ3 (hkd _ _ hk3)
      gi_wp2
      go_roundw
      case rel => exact ⟨pre', pos', b', q1, q2, q3, q4, q5, q6⟩
      case measure => rw [hip.out]; exact q7
     ·obtain ⟨pre', q1, q2⟩ := HE.out W3 hJx3
      gi_wp2
      refine bodyPost_ret (results_none rfl _ _ _) rfl ?_
      exact ⟨⟨_, rfl⟩, .inr ⟨pre', q1, q2⟩⟩
    | false =>
     rw [hg] at h3
     have H3 := Aside0.mk h3
     clear h3
     have hv : Aside0 (.agg #[.int .i64 (pos : Int), .int .i64 1, .int .i32 65533, .bool true] = sVal s pos) := ⟨by
      simp [sVal, sLen, sBad, sRune, ER.out, hg]⟩
     clear hg
     gi_wp2_with (refine ⟨trivial, ?_⟩; gi_at_call 46; refine (callsIn_wide.2 (strings_HasPrefix.calls _ _ _ _ H3.out)).mono ?_; rintro e w' ⟨rfl, ⟨m, rfl⟩⟩; obtain ⟨fn, tmps, assign, body, hy, hR⟩ := HY.out m _ hv)
     gi_wp2
     refine hR.mono ?_
     rintro e W3 (⟨rfl, hJ3, hk3⟩ | ⟨rfl, hJx3⟩)
     ·obtain ⟨pre', pos', b', q1, q2, q3, q4, q5, q6, q7⟩ := T.out W3 hJ3 (hkd _ _ hk3)
      gi_wp2
      go_roundw
      case rel => exact ⟨pre', pos', b', q1, q2, q3, q4, q5, q6⟩
      case measure => rw [hip.out]; exact q7
     ·obtain ⟨pre', q1, q2⟩ := HE.out W3 hJx3
      gi_wp2
      refine bodyPost_ret (results_none rfl _ _ _) rfl ?_
      exact ⟨⟨_, rfl⟩, .inr ⟨pre', q1, q2⟩⟩
   ·have e1 : ((r : Int) != 65533) = true := bne_iff_ne.mpr hr
    have e2 : ((r : Int) == 65533) = false := beq_eq_false_iff_ne.mpr hr
    have hv : Aside0 (.agg #[.int .i64 (pos : Int), .int .i64 (rlen (r : Int)), .int .i32 (r : Int), .bool false] = sVal s pos) := ⟨by
     simp [sVal, sLen, sBad, sRune, ER.out, hr]⟩
    gi_wp2_with (refine ⟨trivial, ?_⟩; gi_at_call 45; refine (callsIn_wide.2 (utf8_RuneLen.calls 1 (r : Int) (rlen (r : Int)) _ (rlen_tells _))).mono ?_; rintro e w' ⟨rfl, ⟨m, rfl⟩⟩; obtain ⟨fn, tmps, assign, body, hy, hR⟩ := HY.out m _ hv)
    gi_wp2
    refine hR.mono ?_
    rintro e W3 (⟨rfl, hJ3, hk3⟩ | ⟨rfl, hJx3⟩)
    ·obtain ⟨pre', pos', b', q1, q2, q3, q4, q5, q6, q7⟩ := T.out W3 hJ3 (hkd _ _ hk3)
     gi_wp2
     go_roundw
     case rel => exact ⟨pre', pos', b', q1, q2, q3, q4, q5, q6⟩
     case measure => rw [hip.out]; exact q7
    ·obtain ⟨pre', q1, q2⟩ := HE.out W3 hJx3
     gi_wp2
     refine bodyPost_ret (results_none rfl _ _ _) rfl ?_
     exact ⟨⟨_, rfl⟩, .inr ⟨pre', q1, q2⟩⟩
  ·have hnx : ∀ ty, (Instr.next (.pointer (some ⟨W.heap.size, 0, none⟩)) true ty).run Try.prog wr = _ := fun ty => Lib.run_next_end_at wr W.heap.size s pos ty hit.out hp
   gi_wp2
   go_end0
   exact ⟨⟨_, rfl⟩, .inl ⟨pre, by rw [← hpre.out, posns_end s b pos hp, List.append_nil], hJs⟩⟩
theorem signs_calls (s : ByteArray) (w : World) : Calls Try.prog 25 #[.string s] w fun e w' => e = .returned (.func (.func 44) #[] #[.pointer (some ⟨w.heap.size, 0, none⟩)]) ∧ w' = w.alloc (.cells #[.string s] 9) := by
 have hmf : ∀ (fn : Fn) (first cap : Array Value) (w : World), (Instr.makeFunc fn first cap).run Try.prog w = .ok (.func fn first cap) w := fun _ _ _ _ => rfl
 go_enter Try.func25, Try.ntmps25
 go_wp2
 go_ret
 exact ⟨rfl, rfl⟩
theorem signs_stopsM (Bn : Nat) (s : ByteArray) (w : World) (hs : s.size < 9223372036854775807) (hBn : Bn < w.heap.size) (hc : w.cell? ⟨Bn, 0, none⟩ = some (.string s)) :
  SeqStopsK Fence.wide 6 Try.prog 44 #[.pointer (some ⟨Bn, 0, none⟩)] (fun p : { p : Nat // p ∈ places s } => #[sVal s p.1]) (SKeeps Bn) (fun ys => ys.map (·.1) = places s) (fun pre => pre.map (·.1) <+: places s) s.size w := fun l J Jx W hW hJ hJx hY h0 => by
 refine (signs1_in l Bn s (fun pre W' => ∃ pre', pre'.map (·.1) = pre ∧ J pre' W') (fun pre W' => ∃ pre', pre'.map (·.1) = pre ∧ Jx pre' W') W hs (Nat.lt_of_lt_of_le hBn hW.size) ?_ ?_ ?_ ((hW.cell (p := ⟨Bn, 0, none⟩) hBn).trans hc) ⟨[], rfl, h0⟩).mono ?_
 ·intro pre A B row h1 h2 h3
  obtain ⟨pre', e, h⟩ := h1
  exact ⟨pre', e, hJ _ _ _ _ h h2 h3⟩
 ·intro pre A B row h1 h2 h3
  obtain ⟨pre', e, h⟩ := h1
  exact ⟨pre', e, hJx _ _ _ _ h h2 h3⟩
 ·rintro pre x W1 ⟨pre', rfl, h1⟩ hx hl
  obtain ⟨fn, tmps, assign, body, hy, hR⟩ := hY pre' ⟨x, hx⟩ W1 h1 (by simpa using hl)
  refine ⟨fn, tmps, assign, body, hy, hR.mono ?_⟩
  rintro e W' (⟨h2, h3, h4⟩ | ⟨h2, h3⟩)
  ·exact .inl ⟨h2, ⟨_, by simp, h3⟩, h4⟩
  ·exact .inr ⟨h2, ⟨_, by simp, h3⟩⟩
 ·rintro e W' ⟨hv, (⟨ys, rfl, pre', e', h⟩ | ⟨pre, hp, pre', rfl, h⟩)⟩
  ·exact ⟨hv, .inl ⟨pre', e', h⟩⟩
  ·exact ⟨hv, .inr ⟨pre', hp, h⟩⟩
theorem blk_own {W W' : World} {row : Option Nat} {b : Nat} {cs : Array Value} {t : TypeId} {fr : Nat × Nat} (h : W.heap[b]? = some (.cells cs t fr)) (hg : W.grownBy W' row) (hr : ∀ r, row = some r → ∃ o : Obj, W.heap[r]? = some o ∧ o.isCells = false) : W'.heap[b]? = some (.cells cs t fr) :=
 (grownBy_keeps_cells hg hr h rfl).trans h
theorem cell_alloc_keeps {W : World} {o : Obj} {a : Addr} {v : Value} (h : W.cell? a = some v) : (W.alloc o).cell? a = some v := ((Below.refl _ W).alloc (Nat.le_refl _) o).cell (World.block_lt_of_cell? W a h) |>.trans h
end Go.Proofs.Ythgifhnfbblklaa.PSp
