-- Written by programs of this session's (wip/printer) out of the translation and of the print's words; Lean checks it.
import Derived.Test.YthgifhnfbblklaaSpPSpx16
import Derived.Lib.RuneCountTail
namespace Go.Proofs.Ythgifhnfbblklaa.Pure
open Go.RowKit Go.Proofs.Ythgifhnfbblklaa.PSp Go.Proofs.YthgifhnfbblklaaW.PrintWords Go.Proofs.YthgifhnfbblklaaW.PrintLast
theorem cell_nothing_t18 (k : Nat) (r : Int) (b : Bool) : (cell_nothing.j18 (k + 1) r b).isSome = true := by
 simp only [cell_nothing.j18]
 repeat' split
 all_goals first | rfl
theorem cell_nothing_t17 (k : Nat) (r : Int) (b : Bool) : (cell_nothing.j17 (k + 2) r b).isSome = true := by
 simp only [cell_nothing.j17]
 repeat' split
 all_goals first | rfl | exact cell_nothing_t18 k r _
theorem cell_nothing_t16 (k : Nat) (r : Int) (b : Bool) : (cell_nothing.j16 (k + 3) r b).isSome = true := by
 simp only [cell_nothing.j16]
 repeat' split
 all_goals first | rfl | exact cell_nothing_t17 k r _
theorem cell_nothing_t15 (k : Nat) (r : Int) (b : Bool) : (cell_nothing.j15 (k + 4) r b).isSome = true := by
 simp only [cell_nothing.j15]
 repeat' split
 all_goals first | rfl | exact cell_nothing_t16 k r _
theorem cell_nothing_t14 (k : Nat) (r : Int) (b : Bool) : (cell_nothing.j14 (k + 5) r b).isSome = true := by
 simp only [cell_nothing.j14]
 repeat' split
 all_goals first | rfl | exact cell_nothing_t15 k r _
theorem cell_nothing_t13 (k : Nat) (r : Int) (b : Bool) : (cell_nothing.j13 (k + 6) r b).isSome = true := by
 simp only [cell_nothing.j13]
 repeat' split
 all_goals first | rfl | exact cell_nothing_t14 k r _
theorem cell_nothing_t12 (k : Nat) (r : Int) (b : Bool) : (cell_nothing.j12 (k + 7) r b).isSome = true := by
 simp only [cell_nothing.j12]
 repeat' split
 all_goals first | rfl | exact cell_nothing_t13 k r _
theorem cell_nothing_t11 (k : Nat) (r : Int) (b : Bool) : (cell_nothing.j11 (k + 8) r b).isSome = true := by
 simp only [cell_nothing.j11]
 repeat' split
 all_goals first | rfl | exact cell_nothing_t12 k r _
theorem cell_nothing_t10 (k : Nat) (r : Int) (b : Bool) : (cell_nothing.j10 (k + 9) r b).isSome = true := by
 simp only [cell_nothing.j10]
 repeat' split
 all_goals first | rfl | exact cell_nothing_t11 k r _
theorem cell_nothing_t9 (k : Nat) (r : Int) (b : Bool) : (cell_nothing.j9 (k + 10) r b).isSome = true := by
 simp only [cell_nothing.j9]
 repeat' split
 all_goals first | rfl | exact cell_nothing_t10 k r _
theorem cell_nothing_t8 (k : Nat) (r : Int) (b : Bool) : (cell_nothing.j8 (k + 11) r b).isSome = true := by
 simp only [cell_nothing.j8]
 repeat' split
 all_goals first | rfl | exact cell_nothing_t9 k r _
theorem cell_nothing_t7 (k : Nat) (r : Int) (b : Bool) : (cell_nothing.j7 (k + 12) r b).isSome = true := by
 simp only [cell_nothing.j7]
 repeat' split
 all_goals first | rfl | exact cell_nothing_t8 k r _
theorem cell_nothing_t6 (k : Nat) (r : Int) (b : Bool) : (cell_nothing.j6 (k + 13) r b).isSome = true := by
 simp only [cell_nothing.j6]
 repeat' split
 all_goals first | rfl | exact cell_nothing_t7 k r _
theorem cell_nothing_t5 (k : Nat) (r : Int) (b : Bool) : (cell_nothing.j5 (k + 14) r b).isSome = true := by
 simp only [cell_nothing.j5]
 repeat' split
 all_goals first | rfl | exact cell_nothing_t6 k r _
theorem cell_nothing_t4 (k : Nat) (r : Int) (b : Bool) : (cell_nothing.j4 (k + 15) r b).isSome = true := by
 simp only [cell_nothing.j4]
 repeat' split
 all_goals first | rfl | exact cell_nothing_t5 k r _
theorem cell_nothing_t3 (k : Nat) (r : Int) (b : Bool) : (cell_nothing.j3 (k + 16) r b).isSome = true := by
 simp only [cell_nothing.j3]
 repeat' split
 all_goals first | rfl | exact cell_nothing_t4 k r _
theorem cell_nothing_t2 (k : Nat) (r : Int) (b : Bool) : (cell_nothing.j2 (k + 17) r b).isSome = true := by
 simp only [cell_nothing.j2]
 repeat' split
 all_goals first | rfl | exact cell_nothing_t3 k r _
theorem cell_nothing_t1 (k : Nat) (r : Int) (b : Bool) : (cell_nothing.j1 (k + 18) r b).isSome = true := by
 simp only [cell_nothing.j1]
 repeat' split
 all_goals first | rfl | exact cell_nothing_t2 k r _
theorem cell_nothing_t0 (k : Nat) (r : Int) (b : Bool) : (cell_nothing.j0 (k + 19) r b).isSome = true := by
 simp only [cell_nothing.j0]
 repeat' split
 all_goals first | rfl | exact cell_nothing_t1 k r _
theorem cell_nothing_total (r : Int) : (cell_nothing.f 70 r).isSome = true := by
 unfold cell_nothing.f
 repeat' split
 all_goals exact cell_nothing_t0 51 r _
theorem cell_wide_t14 (k : Nat) (r : Int) (b : Bool) : (cell_wide.j14 (k + 1) r b).isSome = true := by
 simp only [cell_wide.j14]
 repeat' split
 all_goals first | rfl
theorem cell_wide_t13 (k : Nat) (r : Int) (b : Bool) : (cell_wide.j13 (k + 2) r b).isSome = true := by
 simp only [cell_wide.j13]
 repeat' split
 all_goals first | rfl | exact cell_wide_t14 k r _
theorem cell_wide_t12 (k : Nat) (r : Int) (b : Bool) : (cell_wide.j12 (k + 3) r b).isSome = true := by
 simp only [cell_wide.j12]
 repeat' split
 all_goals first | rfl | exact cell_wide_t13 k r _
theorem cell_wide_t11 (k : Nat) (r : Int) (b : Bool) : (cell_wide.j11 (k + 4) r b).isSome = true := by
 simp only [cell_wide.j11]
 repeat' split
 all_goals first | rfl | exact cell_wide_t12 k r _
theorem cell_wide_t10 (k : Nat) (r : Int) (b : Bool) : (cell_wide.j10 (k + 5) r b).isSome = true := by
 simp only [cell_wide.j10]
 repeat' split
 all_goals first | rfl | exact cell_wide_t11 k r _
theorem cell_wide_t9 (k : Nat) (r : Int) (b : Bool) : (cell_wide.j9 (k + 6) r b).isSome = true := by
 simp only [cell_wide.j9]
 repeat' split
 all_goals first | rfl | exact cell_wide_t10 k r _
theorem cell_wide_t8 (k : Nat) (r : Int) (b : Bool) : (cell_wide.j8 (k + 7) r b).isSome = true := by
 simp only [cell_wide.j8]
 repeat' split
 all_goals first | rfl | exact cell_wide_t9 k r _
theorem cell_wide_t7 (k : Nat) (r : Int) (b : Bool) : (cell_wide.j7 (k + 8) r b).isSome = true := by
 simp only [cell_wide.j7]
 repeat' split
 all_goals first | rfl | exact cell_wide_t8 k r _
theorem cell_wide_t6 (k : Nat) (r : Int) (b : Bool) : (cell_wide.j6 (k + 9) r b).isSome = true := by
 simp only [cell_wide.j6]
 repeat' split
 all_goals first | rfl | exact cell_wide_t7 k r _
theorem cell_wide_t5 (k : Nat) (r : Int) (b : Bool) : (cell_wide.j5 (k + 10) r b).isSome = true := by
 simp only [cell_wide.j5]
 repeat' split
 all_goals first | rfl | exact cell_wide_t6 k r _
theorem cell_wide_t4 (k : Nat) (r : Int) (b : Bool) : (cell_wide.j4 (k + 11) r b).isSome = true := by
 simp only [cell_wide.j4]
 repeat' split
 all_goals first | rfl | exact cell_wide_t5 k r _
theorem cell_wide_t3 (k : Nat) (r : Int) (b : Bool) : (cell_wide.j3 (k + 12) r b).isSome = true := by
 simp only [cell_wide.j3]
 repeat' split
 all_goals first | rfl | exact cell_wide_t4 k r _
theorem cell_wide_t2 (k : Nat) (r : Int) (b : Bool) : (cell_wide.j2 (k + 13) r b).isSome = true := by
 simp only [cell_wide.j2]
 repeat' split
 all_goals first | rfl | exact cell_wide_t3 k r _
theorem cell_wide_t1 (k : Nat) (r : Int) (b : Bool) : (cell_wide.j1 (k + 14) r b).isSome = true := by
 simp only [cell_wide.j1]
 repeat' split
 all_goals first | rfl | exact cell_wide_t2 k r _
theorem cell_wide_t0 (k : Nat) (r : Int) (b : Bool) : (cell_wide.j0 (k + 15) r b).isSome = true := by
 simp only [cell_wide.j0]
 repeat' split
 all_goals first | rfl | exact cell_wide_t1 k r _
theorem cell_wide_total (r : Int) : (cell_wide.f 70 r).isSome = true := by
 unfold cell_wide.f
 repeat' split
 all_goals exact cell_wide_t0 55 r _
theorem width_total (r : Int) : (cell_Width.f 70 r).isSome = true := by
 unfold cell_Width.f
 obtain ⟨a, ha⟩ := Option.isSome_iff_exists.1 (cell_nothing_total r)
 obtain ⟨b, hb⟩ := Option.isSome_iff_exists.1 (cell_wide_total r)
 rw [ha, hb]
 simp only [Option.bind_some]
 repeat' split
 all_goals rfl
theorem reads_total (r : Int) : (speed_Count.reads 70 r).isSome = true := by
 unfold speed_Count.reads
 obtain ⟨a, ha⟩ := Option.isSome_iff_exists.1 (width_total r)
 rw [ha]
 simp only [Option.bind_some]
 repeat' split
 all_goals rfl
def rd (r : Int) : Bool := speed_Count.reads 70 r == some true
theorem count_tells (s : ByteArray) (h : s.size < 9223372036854775807) : speed_Count.f 70 s [] = some (((places s).countP fun p => rd (sRune s p) : Nat) : Int) := by
 unfold speed_Count.f
 rw [if_pos ⟨h, fun p _ => reads_total _⟩]
 rfl
set_option maxRecDepth 100000 in
set_option maxHeartbeats 4000000 in
theorem decodeN_head (n m b0 b1 b2 b3 c1 c2 c3 : Nat) (hn : m ≤ n) (h1 : 1 ≤ m) (e1 : 1 < m → c1 = b1) (e2 : 2 < m → c2 = b2) (e3 : 3 < m → c3 = b3) (h : (Lib.decodeN n b0 b1 b2 b3).2 ≤ m) : Lib.decodeN m b0 c1 c2 c3 = Lib.decodeN n b0 b1 b2 b3 := by
 have hm : m = 1 ∨ m = 2 ∨ m = 3 ∨ 4 ≤ m := by omega
 generalize hd : Lib.decodeN n b0 b1 b2 b3 = d at h ⊢
 unfold Lib.decodeN at hd
 rcases hm with rfl | rfl | rfl | hm
 ·clear e1 e2 e3
  repeat' split at hd
  all_goals subst hd
  all_goals dsimp only at h
  all_goals unfold Lib.decodeN
  all_goals repeat' split
  all_goals first | rfl | (exfalso; omega) | (apply Prod.ext <;> simp only <;> omega)
 ·obtain rfl := e1 (by omega)
  clear e1 e2 e3
  repeat' split at hd
  all_goals subst hd
  all_goals dsimp only at h
  all_goals unfold Lib.decodeN
  all_goals repeat' split
  all_goals first | rfl | (exfalso; omega) | (apply Prod.ext <;> simp only <;> omega)
 ·obtain rfl := e1 (by omega)
  obtain rfl := e2 (by omega)
  clear e1 e2 e3
  repeat' split at hd
  all_goals subst hd
  all_goals dsimp only at h
  all_goals unfold Lib.decodeN
  all_goals repeat' split
  all_goals first | rfl | (exfalso; omega) | (apply Prod.ext <;> simp only <;> omega)
 ·obtain rfl := e1 (by omega)
  obtain rfl := e2 (by omega)
  obtain rfl := e3 (by omega)
  clear e1 e2 e3
  have q1 : (1 < m) = (1 < n) := propext ⟨fun _ => by omega, fun _ => by omega⟩
  have q2 : (2 < m) = (2 < n) := propext ⟨fun _ => by omega, fun _ => by omega⟩
  have q3 : (3 < m) = (3 < n) := propext ⟨fun _ => by omega, fun _ => by omega⟩
  rw [← hd]
  unfold Lib.decodeN
  simp only [q1, q2, q3]
theorem head_size (s : ByteArray) (q : Nat) (hq : q ≤ s.size) : (s.extract 0 q).size = q := by
 rw [Lib.size_eq, Lib.extract_data, List.length_take, List.length_drop, ← Lib.size_eq]
 omega
theorem head_get (s : ByteArray) (q j : Nat) (hj : j < q) : (s.extract 0 q).get! j = s.get! j := by
 rw [← Lib.getD_get!', ← Lib.getD_get!', Lib.extract_data]
 simp [List.getD, List.getElem?_take, hj]
theorem head_decode (s : ByteArray) (q p : Nat) (hq : q ≤ s.size) (hp : p < q) (h : p + (Utf8.decode s p).2 ≤ q) : Utf8.decode (s.extract 0 q) p = Utf8.decode s p := by
 rw [Lib.decode_at] at h
 rw [Lib.decode_at, Lib.decode_at, head_size s q hq, head_get s q p hp]
 exact decodeN_head _ _ _ _ _ _ _ _ _ (by omega) (by omega) (fun h1 => by rw [head_get s q _ (by omega)]) (fun h1 => by rw [head_get s q _ (by omega)]) (fun h1 => by rw [head_get s q _ (by omega)]) (by omega)
theorem posns_fuel (s : ByteArray) : ∀ f g p, s.size - p ≤ f → s.size - p ≤ g → posns s f p = posns s g p
 | 0, g, p, hf, _ => by rw [posns_end s g p (by omega)]; rfl
 | f + 1, 0, p, _, hg => by rw [posns_end s (f + 1) p (by omega)]; rfl
 | f + 1, g + 1, p, hf, hg => by
  unfold posns
  by_cases h : p < s.size
  ·have hw := Lib.decode_width_pos s p h
   rw [if_pos h, if_pos h, posns_fuel s f g _ (by omega) (by omega)]
  ·rw [if_neg h, if_neg h]
theorem posns_ge (s : ByteArray) : ∀ f p, ∀ x ∈ posns s f p, p ≤ x
 | 0, p, x, hx => by simp [posns] at hx
 | f + 1, p, x, hx => by
  unfold posns at hx
  split at hx
  ·rcases List.mem_cons.1 hx with rfl | hx
   ·exact Nat.le_refl _
   ·have := posns_ge s f _ x hx
    omega
  ·simp at hx
theorem posns_split (s : ByteArray) (q : Nat) (hq : q ≤ s.size) : ∀ f p, s.size - p ≤ f → q ∈ posns s f p →
  posns s f p = posns (s.extract 0 q) f p ++ posns s f q ∧ ∀ x ∈ posns (s.extract 0 q) f p, Utf8.decode (s.extract 0 q) x = Utf8.decode s x
 | 0, p, _, hm => by simp [posns] at hm
 | f + 1, p, hf, hm => by
  have hps : p < s.size := by
   by_cases h : p < s.size
   ·exact h
   ·simp [posns, h] at hm
  have hw := Lib.decode_width_pos s p hps
  have e : posns s (f + 1) p = p :: posns s f (p + (Utf8.decode s p).2) := by simp [posns, hps]
  rw [e] at hm
  by_cases hqp : q = p
  ·subst hqp
   have hz : posns (s.extract 0 q) (f + 1) q = [] := posns_end _ _ _ (by rw [head_size s q hq]; omega)
   rw [hz]
   exact ⟨rfl, fun x hx => by simp at hx⟩
  ·rcases List.mem_cons.1 hm with h | hm
   ·exact absurd h hqp
   ·have hge := posns_ge s f _ q hm
    obtain ⟨i1, i2⟩ := posns_split s q hq f _ (by omega) hm
    have hd := head_decode s q p hq (by omega) hge
    have e2 : posns (s.extract 0 q) (f + 1) p = p :: posns (s.extract 0 q) f (p + (Utf8.decode s p).2) := by
     have : p < (s.extract 0 q).size := by rw [head_size s q hq]; omega
     simp only [posns, this, if_true, hd]
    rw [e, e2, i1, posns_fuel s (f + 1) f q (by omega) (by omega)]
    refine ⟨rfl, fun x hx => ?_⟩
    rcases List.mem_cons.1 hx with rfl | hx
    ·exact hd
    ·exact i2 x hx
theorem posns_tail (s : ByteArray) (q : Nat) : ∀ f p, posns s f (q + p) = (posns (s.extract q s.size) f p).map (q + ·)
 | 0, p => rfl
 | f + 1, p => by
  unfold posns
  rw [Lib.tail_size, Lib.tail_decode]
  by_cases h : q + p < s.size
  ·rw [if_pos h, if_pos (by omega), List.map_cons, Nat.add_assoc, posns_tail s q f]
  ·rw [if_neg h, if_neg (by omega)]; rfl
theorem count_split (s : ByteArray) (q : Nat) (h : q ∈ places s ∨ s.size = 0 ∧ q = 0) :
  ((places s).countP fun p => rd (sRune s p)) = ((places (s.extract 0 q)).countP fun p => rd (sRune (s.extract 0 q) p)) + ((places (s.extract q s.size)).countP fun p => rd (sRune (s.extract q s.size) p)) := by
 rcases h with h | ⟨h, rfl⟩
 ·have hq : q ≤ s.size := Nat.le_of_lt (posns_lt s _ _ q h)
  obtain ⟨i1, i2⟩ := posns_split s q hq s.size 0 (by omega) h
  have e1 : places (s.extract 0 q) = posns (s.extract 0 q) s.size 0 := posns_fuel _ _ _ _ (by omega) (by rw [head_size s q hq]; omega)
  have e2 : posns s s.size q = (places (s.extract q s.size)).map (q + ·) := by
   have := posns_tail s q s.size 0
   rw [Nat.add_zero] at this
   rw [this]
   congr 1
   exact posns_fuel _ _ _ _ (by rw [Lib.tail_size]; omega) (by omega)
  have i3 : places s = places (s.extract 0 q) ++ (places (s.extract q s.size)).map (q + ·) := by rw [e1, ← e2]; exact i1
  have i4 : ∀ x ∈ places (s.extract 0 q), Utf8.decode (s.extract 0 q) x = Utf8.decode s x := by rw [e1]; exact i2
  have j1 : (places (s.extract 0 q)).countP (fun p => rd (sRune s p)) = (places (s.extract 0 q)).countP (fun p => rd (sRune (s.extract 0 q) p)) :=
   List.countP_congr fun x hx => by simp only [sRune, i4 x hx]
  have j2 : (places (s.extract q s.size)).countP ((fun p => rd (sRune s p)) ∘ (q + ·)) = (places (s.extract q s.size)).countP (fun p => rd (sRune (s.extract q s.size) p)) :=
   List.countP_congr fun x hx => by simp only [Function.comp, sRune, Lib.tail_decode]
  rw [i3, List.countP_append, List.countP_map, j1, j2]
 ·have z : ∀ t : ByteArray, t.size = 0 → places t = [] := fun t ht => by unfold places; rw [ht]; rfl
  rw [z s h, z _ (by rw [head_size s 0 (by omega)]), z _ (by rw [Lib.tail_size]; omega)]
  rfl
theorem SpeedParts : surtitlelaw11_SpeedParts.Pure := by
 intro s a hs ha
 refine ⟨70, ?_⟩
 have hk : surtitlelaw11_known.f 70 = some true := by kernel_rfl
 unfold surtitlelaw11_SpeedParts.f
 rw [hk]
 simp only [Option.bind_some, if_true]
 by_cases h4 : (s.size : Int) > 4096
 ·rw [if_pos h4]
 ·rw [if_neg h4]
  have hcut : partsCut (places s) a ∈ places s ∨ s.size = 0 ∧ partsCut (places s) a = 0 := by
   by_cases hz : s.size = 0
   ·have z : places s = [] := by unfold places; rw [hz]; rfl
    refine .inr ⟨hz, ?_⟩
    rw [z]; simp [partsCut]
   ·refine .inl ?_
    have h0 : 0 ∈ places s := by
     unfold places
     cases e : s.size with
     | zero => exact absurd e hz
     | succ n => simp [posns, e]
    unfold partsCut
    split
    ·cases e : (places s)[a.toNat]? with
     | none => exact h0
     | some x => exact List.mem_of_getElem? e
    ·exact h0
  have hsp := count_split s _ hcut
  have hle : partsCut (places s) a ≤ s.size := partsCut_le _ _ _ (fun x hx => Nat.le_of_lt (posns_lt s _ _ x hx))
  generalize partsCut (places s) a = q at hsp hle ⊢
  rw [count_tells s (by omega), count_tells _ (by rw [head_size s q hle]; omega), count_tells _ (by rw [Lib.tail_size]; omega)]
  simp only [Option.bind_some]
  have hl : ((places s).countP fun p => rd (sRune s p)) ≤ (places s).length := List.countP_le_length
  have hn : (places s).length ≤ s.size := posns_length s _ _
  rw [hsp] at hl ⊢
  rw [if_pos (by rw [IntKind.wrap_i64]; omega)]
  simp only [Option.some.injEq, decide_eq_true_eq]
  omega
end Go.Proofs.Ythgifhnfbblklaa.Pure
