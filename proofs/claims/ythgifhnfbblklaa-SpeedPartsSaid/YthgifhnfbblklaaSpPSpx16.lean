-- Written by programs of this session's (wip/printer) out of the translation and of the print's words; Lean checks it.
import Derived.Test.YthgifhnfbblklaaSpPSpx0
import Derived.Test.YthgifhnfbblklaaSpPSpx3
import Derived.Test.YthgifhnfbblklaaSpPSpx6
import Derived.Test.YthgifhnfbblklaaSpPSpx15
namespace Go.Proofs.Ythgifhnfbblklaa.PSp
open Go.RowKit Go.Proofs.YthgifhnfbblklaaW.PrintWords Go.Proofs.YthgifhnfbblklaaW.PrintLast Go.Proofs.YthgifhnfbblklaaW.PrintMore
attribute [local go_sem] max2_int min2_int max_two min_two max_three min_three max_four min_four   -- for this text's walks alone
set_option linter.unusedVariables false
set_option linter.unusedSimpArgs false
structure BelowQ (w : World) where
 W : World
 h : Below w.heap.size w W
instance (w : World) : Inhabited (BelowQ w) := ⟨⟨w, Below.refl _ _⟩⟩
theorem region_belowQ {P : Program} {id : Nat} {Q : Exit → Act → World → Prop} {a : Act} {w : World} {l : List Oper} (hm : P.follows .mixedOrders = true) (hB : Region.lexB .any l.toArray = true)
  (h : wpQuiet P l.toArray (fun w' => ∃ p : BelowQ w, w' = p.W) (fun a' => ∀ w', (∃ p : BelowQ w, w' = p.W) → Q .normal a' w') l a) : (Code.region id l.toArray true).wp P Q a w :=
 wp_region_quiet (C := fun w' => ∃ p : BelowQ w, w' = p.W) hm hB ⟨⟨w.drew, (Below.refl _ _).drew⟩, rfl⟩ (by simpa using h)
theorem Calls.belowQ {P : Program} {f : FuncId} {args : Array Value} {w : World} {p : BelowQ w} {v : Value}
  (h : Calls P f args p.W fun e w' => e = .returned v ∧ Below p.W.heap.size p.W w') : Calls P f args p.W fun e w'' => e = .returned v ∧ ∃ q : BelowQ w, w'' = q.W :=
 h.mono fun _ w' ⟨he, hb⟩ => ⟨he, ⟨w', p.h.trans (hb.mono p.h.size)⟩, rfl⟩
def partsCut (l : List Nat) (a : Int) : Nat := if 0 ≤ a then (l[a.toNat]?).getD 0 else 0
theorem partsCut_snoc (l : List Nat) (p : Nat) (a : Int) : partsCut (l ++ [p]) a = if (l.length : Int) = a then p else partsCut l a := by
 unfold partsCut
 by_cases h0 : 0 ≤ a
 ·obtain ⟨n, rfl⟩ := Int.eq_ofNat_of_zero_le h0
  simp only [Int.toNat_natCast, Int.ofNat_inj, if_pos h0]
  by_cases h1 : l.length = n
  ·rw [if_pos h1, ← h1]; simp
  ·rw [if_neg h1]
   by_cases h2 : n < l.length
   ·rw [List.getElem?_append_left h2]
   ·rw [List.getElem?_eq_none (by simp; omega), List.getElem?_eq_none (by omega)]
 ·rw [if_neg h0, if_neg h0, if_neg (by omega)]
theorem partsCut_le (l : List Nat) (a : Int) (n : Nat) (h : ∀ x ∈ l, x ≤ n) : partsCut l a ≤ n := by
 unfold partsCut
 split
 ·cases e : l[a.toNat]? with
  | none => simp
  | some x => exact h x (List.mem_of_getElem? e)
 ·omega
theorem posns_lt (s : ByteArray) : ∀ f p, ∀ x ∈ posns s f p, x < s.size
 | 0, p, x, hx => by simp [posns] at hx
 | f + 1, p, x, hx => by
  unfold posns at hx
  split at hx
  ·rcases List.mem_cons.1 hx with rfl | hx
   ·assumption
   ·exact posns_lt s f _ x hx
  ·simp at hx
def surtitlelaw11_SpeedParts.f (k : Nat) (a0 : ByteArray) (a1 : Int) : Option Bool :=
 (surtitlelaw11_known.f k).bind fun b => if b = true then (if (a0.size : Int) > 4096 then some true else
  (speed_Count.f k a0 []).bind fun c1 => (speed_Count.f k (a0.extract 0 (partsCut (places a0) a1)) []).bind fun c2 => (speed_Count.f k (a0.extract (partsCut (places a0) a1) a0.size) []).bind fun c3 =>
   if c1 = IntKind.i64.wrap (c2 + c3) then some (decide (c1 ≤ ((places a0).length : Int))) else some false) else some false
set_option maxHeartbeats 8000000 in
set_option maxRecDepth 1000000 in
theorem surtitlelaw11_SpeedParts.calls (k : Nat) (a0 : ByteArray) (a1 : Int) (r : Bool) (w : World) (h : surtitlelaw11_SpeedParts.f k a0 a1 = some r) :
  Calls Try.prog 4 #[.string a0, .int .i64 a1] w fun e w' => e = .returned (.bool r) ∧ Below w.heap.size w w' := by
 have hu9 := Try.underlying9
 have hu26 := Try.underlying26
 unfold surtitlelaw11_SpeedParts.f at h
 replace h := Option.bind_eq_some_iff.1 h
 obtain ⟨b, hb, h⟩ := h
 have HK := Aside0.mk hb
 clear hb
 cases b with
 | false =>
  rw [if_neg (by simp)] at h
  obtain rfl := Option.some.inj h
  clear h
  go_enter Try.func4, Try.ntmps4
  go_wp2_with (go_at_call 8; refine (surtitlelaw11_known.calls k false _ HK.out).mono ?_; rintro e w1 ⟨rfl, hB1⟩)
  go_ret
  exact ⟨rfl, hB1⟩
 | true =>
  rw [if_pos rfl] at h
  by_cases hsz : (a0.size : Int) > 4096
  ·rw [if_pos hsz] at h
   obtain rfl := Option.some.inj h
   clear h
   go_enter Try.func4, Try.ntmps4
   go_wp2_with (go_at_call 8; refine (surtitlelaw11_known.calls k true _ HK.out).mono ?_; rintro e w1 ⟨rfl, hB1⟩)
   go_ret
   exact ⟨rfl, hB1⟩
  ·rw [if_neg hsz] at h
   have hsz' : a0.size < 4611686018427387904 := by omega
   have H := Aside0.mk h
   clear h
   go_enter Try.func4, Try.ntmps4
   go_wp2_with (go_at_call 8; refine (surtitlelaw11_known.calls k true _ HK.out).mono ?_; rintro e w1 ⟨rfl, hB1⟩)
   have HB := Aside0.mk hB1
   clear hB1 HK
   go_loopw [5, 6, 7] (fun vk vn _ w' => ∃ (pre : List Nat) (pos b : Nat), w' = w1.iter a0 pos ∧ vk = .int .i64 (partsCut pre a1 : Int) ∧ vn = .int .i64 (pre.length : Int) ∧ Aside0 (pre ++ posns a0 b pos = places a0) ∧ a0.size ≤ pos + b ∧ pre.length ≤ pos ∧ pre.length ≤ a0.size) (fun _ _ _ w' => a0.size - w'.iterPos w1.heap.size)
   case atStart => exact ⟨[], 0, a0.size, rfl, by simp [partsCut], by simp, ⟨rfl⟩, by omega, Nat.le_refl _, by simp⟩
   case round =>
    obtain ⟨pre, pos, b, rfl, rfl, rfl, hpre, hb, hpl, hp4⟩ := hrel
    by_cases hp : pos < a0.size
    ·have hnx : ∀ ty, (Instr.next (.pointer (some ⟨w1.heap.size, 0, none⟩)) true ty).run Try.prog (w1.iter a0 pos) = _ := fun ty => run_next_any w1 a0 pos ty hp
     have hwd := Lib.decode_width_pos a0 pos hp
     have hnext : Aside0 (∃ b', b = b' + 1 ∧ posns a0 b pos = pos :: posns a0 b' (pos + (Utf8.decode a0 pos).2)) := by
      cases b with
      | zero => omega
      | succ b' => exact ⟨⟨b', rfl, by simp [posns, hp]⟩⟩
     have hlen : pre.length + 1 ≤ a0.size := by
      obtain ⟨b', hb', e⟩ := hnext.out
      have h1 := posns_length a0 a0.size 0
      have h2 : (places a0).length = pre.length + (posns a0 b pos).length := by rw [← hpre.out, List.length_append]
      rw [e, List.length_cons] at h2
      unfold places at h2
      omega
     have hrd := partsCut_snoc pre pos a1
     have hz : IntKind.i64.wrap ((pre.length : Int) + 1) = ((pre ++ [pos]).length : Int) := by rw [IntKind.wrap_i64]; simp; omega
     by_cases he : (pre.length : Int) = a1
     ·rw [if_pos he] at hrd
      go_wp2
      go_roundw
      case rel =>
       obtain ⟨b', rfl, e⟩ := hnext.out
       exact ⟨pre ++ [pos], pos + (Utf8.decode a0 pos).2, b', rfl, by rw [hrd], by first | rw [hz] | (simp; done) | go_num, ⟨by rw [← hpre.out, e]; simp⟩, by omega, by simp; omega, by simp; omega⟩
      case measure =>
       simp
       omega
     ·rw [if_neg he] at hrd
      go_wp2
      go_roundw
      case rel =>
       obtain ⟨b', rfl, e⟩ := hnext.out
       exact ⟨pre ++ [pos], pos + (Utf8.decode a0 pos).2, b', rfl, by rw [hrd], by first | rw [hz] | (simp; done) | go_num, ⟨by rw [← hpre.out, e]; simp⟩, by omega, by simp; omega, by simp; omega⟩
      case measure =>
       simp
       omega
    ·have hnx : ∀ ty, (Instr.next (.pointer (some ⟨w1.heap.size, 0, none⟩)) true ty).run Try.prog (w1.iter a0 pos) = _ := fun ty => run_next_end w1 a0 pos ty hp
     have hpl' : pre = places a0 := by rw [← hpre.out, posns_end a0 b pos hp, List.append_nil]
     clear hpre
     subst hpl'
     have hBi : Aside0 (Below w.heap.size w (w1.iter a0 pos)) := ⟨HB.out.alloc HB.out.size _⟩
     have h := Option.bind_eq_some_iff.1 H.out
     obtain ⟨c1, e1, h⟩ := h
     replace h := Option.bind_eq_some_iff.1 h
     obtain ⟨c2, e2, h⟩ := h
     replace h := Option.bind_eq_some_iff.1 h
     obtain ⟨c3, e3, h⟩ := h
     have hcl : partsCut (places a0) a1 ≤ a0.size := partsCut_le _ _ _ (fun x hx => Nat.le_of_lt (posns_lt a0 _ _ x hx))
     have E1 := Aside0.mk e1
     have E2 := Aside0.mk e2
     have E3 := Aside0.mk e3
     have EH := Aside0.mk h
     clear e1 e2 e3 h H
     obtain ⟨kk, hkk⟩ : ∃ kk, partsCut (places a0) a1 = kk := ⟨_, rfl⟩
     obtain ⟨nn, hnn⟩ : ∃ nn, (places a0).length = nn := ⟨_, rfl⟩
     rw [hkk] at E2 E3 hcl ⊢
     rw [hnn] at EH ⊢
     clear hkk
     have hk0 : (0 : Int) ≤ (kk : Int) := by omega
     have hclz : (kk : Int) ≤ (a0.size : Int) := by omega
     by_cases hc : c1 = IntKind.i64.wrap (c2 + c3)
     ·have EH2 := EH.out
      rw [if_pos hc] at EH2
      obtain rfl := Option.some.inj EH2
      have hcb : (c1 == IntKind.i64.wrap (c2 + c3)) = true := beq_iff_eq.mpr hc
      clear EH EH2 hc
      go_wp2_with fail
      obtain ⟨W, hW⟩ : ∃ W, w1.iter a0 pos = W := ⟨_, rfl⟩
      rw [hW] at hBi ⊢
      clear hnx hnn hsz hb hpl hp4 hp
      have q1 : ∀ p : BelowQ W, Calls Try.prog 9 #[.agg #[.string a0, .slice none 0 0]] p.W fun e w' => e = .returned (.int .i64 c1) ∧ Below p.W.heap.size p.W w' := fun p => speed_Count.calls k a0 none 0 [] c1 p.W (Kd.C_nil _ _) (Nat.le_refl _) E1.out
      have q2 : ∀ p : BelowQ W, Calls Try.prog 9 #[.agg #[.string (a0.extract 0 kk), .slice none 0 0]] p.W fun e w' => e = .returned (.int .i64 c2) ∧ Below p.W.heap.size p.W w' := fun p => speed_Count.calls k _ none 0 [] c2 p.W (Kd.C_nil _ _) (Nat.le_refl _) E2.out
      have q3 : ∀ p : BelowQ W, Calls Try.prog 9 #[.agg #[.string (a0.extract kk a0.size), .slice none 0 0]] p.W fun e w' => e = .returned (.int .i64 c3) ∧ Below p.W.heap.size p.W w' := fun p => speed_Count.calls k _ none 0 [] c3 p.W (Kd.C_nil _ _) (Nat.le_refl _) E3.out
      refine region_belowQ (P := Try.prog) (by kernel_rfl) (by kernel_rfl) ?_
      repeat (quiet_step (first | (go_at_call 9; first | (with_reducible exact Calls.belowQ (q1 _)) | (with_reducible exact Calls.belowQ (q2 _)) | (with_reducible exact Calls.belowQ (q3 _)))))
      refine wpQuiet_nil ?_
      intro wq hw'
      have hbq : Below W.heap.size W wq := by obtain ⟨p, hp⟩ := hw'; rw [hp]; exact p.h
      clear hw' q1 q2 q3 hW
      go_wp2
      go_ret
      exact ⟨rfl, hBi.out.trans (hbq.mono hBi.out.size)⟩
     ·have EH2 := EH.out
      rw [if_neg hc] at EH2
      obtain rfl := Option.some.inj EH2
      have hcb : (c1 == IntKind.i64.wrap (c2 + c3)) = false := beq_eq_false_iff_ne.mpr hc
      clear EH EH2 hc
      go_wp2_with fail
      obtain ⟨W, hW⟩ : ∃ W, w1.iter a0 pos = W := ⟨_, rfl⟩
      rw [hW] at hBi ⊢
      clear hnx hnn hsz hb hpl hp4 hp
      have q1 : ∀ p : BelowQ W, Calls Try.prog 9 #[.agg #[.string a0, .slice none 0 0]] p.W fun e w' => e = .returned (.int .i64 c1) ∧ Below p.W.heap.size p.W w' := fun p => speed_Count.calls k a0 none 0 [] c1 p.W (Kd.C_nil _ _) (Nat.le_refl _) E1.out
      have q2 : ∀ p : BelowQ W, Calls Try.prog 9 #[.agg #[.string (a0.extract 0 kk), .slice none 0 0]] p.W fun e w' => e = .returned (.int .i64 c2) ∧ Below p.W.heap.size p.W w' := fun p => speed_Count.calls k _ none 0 [] c2 p.W (Kd.C_nil _ _) (Nat.le_refl _) E2.out
      have q3 : ∀ p : BelowQ W, Calls Try.prog 9 #[.agg #[.string (a0.extract kk a0.size), .slice none 0 0]] p.W fun e w' => e = .returned (.int .i64 c3) ∧ Below p.W.heap.size p.W w' := fun p => speed_Count.calls k _ none 0 [] c3 p.W (Kd.C_nil _ _) (Nat.le_refl _) E3.out
      refine region_belowQ (P := Try.prog) (by kernel_rfl) (by kernel_rfl) ?_
      repeat (quiet_step (first | (go_at_call 9; first | (with_reducible exact Calls.belowQ (q1 _)) | (with_reducible exact Calls.belowQ (q2 _)) | (with_reducible exact Calls.belowQ (q3 _)))))
      refine wpQuiet_nil ?_
      intro wq hw'
      have hbq : Below W.heap.size W wq := by obtain ⟨p, hp⟩ := hw'; rw [hp]; exact p.h
      clear hw' q1 q2 q3 hW
      go_wp2
      go_ret
      exact ⟨rfl, hBi.out.trans (hbq.mono hBi.out.size)⟩
def surtitlelaw11_SpeedParts.Pure : Prop := ∀ (a0 : ByteArray) (a1 : Int), a0.size ≤ 140737488351232 → (Lit.int .i64 a1).wf = true → ∃ k, surtitlelaw11_SpeedParts.f k a0 a1 = some true
theorem surtitlelaw11_SpeedParts.walk (P : surtitlelaw11_SpeedParts.Pure) (a0 : ByteArray) (a1 : Int) (w : World) (w0 : a0.size ≤ 140737488351232) (w1 : (Lit.int .i64 a1).wf = true) :
  Calls Try.prog 4 #[.string a0, .int .i64 a1] w fun e w' => e = .returned (.bool true) ∧ Below w.heap.size w w' := by
 obtain ⟨k, h⟩ := P a0 a1 w0 w1
 exact surtitlelaw11_SpeedParts.calls k a0 a1 true w h
end Go.Proofs.Ythgifhnfbblklaa.PSp
