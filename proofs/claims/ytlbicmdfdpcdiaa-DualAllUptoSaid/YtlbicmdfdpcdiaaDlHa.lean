import Derived.Test.YtlbicmdfdpcdiaaDlC
import Derived.WalkKit
import Derived.Shelf.Spec.BitsCarry
import Derived.Test.YtlbicmdfdpcdiaaDlP
-- Printed by a program of this session's; Lean checks it.
set_option linter.unusedVariables false
namespace Go.Proofs.Ytlbicmdfdpcdiaa.F
open Go.Proofs.Ytlbicmdfdpcdiaa.Vm Go.RowKit
def M64 : Int := 18446744073709551616
def math_bits_Sub64 (k : Nat) (p : Int × (Int × Int)) : Option (Int × Int) :=
  if 0 ≤ p.1 ∧ 0 ≤ p.2.1 ∧ p.2.1 < M64 ∧ (p.2.2 = 0 ∨ p.2.2 = 1) then some ((p.1 + M64 - p.2.1 - p.2.2) % M64, if p.1 < p.2.1 + p.2.2 then 1 else 0) else none
noncomputable def c_math_bits_Sub64 (k : Nat) : Ctr := ctrT 82 (.pr (.int .u64) (.pr (.int .u64) (.int .u64))) (.pr (.int .u64) (.int .u64)) [(false, 1), (false, 1), (false, 1)] [(false, 1), (false, 1)] (math_bits_Sub64 k)
theorem sub64_run (x y b : Nat) (hb : b ≤ 1) (w : World) :
    (callFunc 82 #[.int .u64 x, .int .u64 y, .int .u64 b]).run Try.prog w =
      .ok (.value (.tuple #[.int .u64 (((x + 18446744073709551616 - y - b) % 18446744073709551616 : Nat) : Int), .int .u64 ((if x < y + b then 1 else 0 : Nat) : Int)])) w := by
  rw [run_callFunc_extern Try.func82 (by kernel_rfl) (by kernel_rfl) (by kernel_rfl) (e := sub64Entry) (by kernel_rfl), run_sub64 x y b hb]
  rfl
theorem math_bits_Sub64.ok (k : Nat) : CtrOk Try.prog (c_math_bits_Sub64 k) := by
  refine ctr_flat (by rfl) (by rfl) (by rfl) (by rfl) (fun p q h w => .inr ?_)
  obtain ⟨x, y, b⟩ := p
  unfold math_bits_Sub64 at h
  split at h
  case isFalse => cases h
  case isTrue hc =>
  obtain ⟨h0, h1, h2, h3⟩ := hc
  dsimp only at h0 h1 h2 h3 h
  obtain ⟨x, rfl⟩ := Int.eq_ofNat_of_zero_le h0
  obtain ⟨y, rfl⟩ := Int.eq_ofNat_of_zero_le h1
  obtain ⟨b', rfl, hb⟩ : ∃ b' : Nat, b = (b' : Int) ∧ b' ≤ 1 := h3.elim (fun e => ⟨0, by simpa using e, by omega⟩) (fun e => ⟨1, by simpa using e, by omega⟩)
  simp only [Option.some.injEq] at h
  subst h
  refine ⟨_, _, sub64_run x y b' hb w, ?_, Below.refl _ w⟩
  show Ending.returned _ = Ending.returned _
  unfold M64 at *
  congr 4
  · show Value.int .u64 _ = Value.int .u64 _; congr 1; omega
  · congr 1; show Value.int .u64 _ = Value.int .u64 _; congr 1; split <;> split <;> omega
def math_bits_Add64 (k : Nat) (p : Int × (Int × Int)) : Option (Int × Int) :=
  if 0 ≤ p.1 ∧ 0 ≤ p.2.1 ∧ (p.2.2 = 0 ∨ p.2.2 = 1) then some ((p.1 + p.2.1 + p.2.2) % M64, (p.1 + p.2.1 + p.2.2) / M64) else none
noncomputable def c_math_bits_Add64 (k : Nat) : Ctr := ctrT 81 (.pr (.int .u64) (.pr (.int .u64) (.int .u64))) (.pr (.int .u64) (.int .u64)) [(false, 1), (false, 1), (false, 1)] [(false, 1), (false, 1)] (math_bits_Add64 k)
theorem add64_run (x y b : Nat) (hb : b ≤ 1) (w : World) :
    (callFunc 81 #[.int .u64 x, .int .u64 y, .int .u64 b]).run Try.prog w =
      .ok (.value (.tuple #[.int .u64 (((x + y + b) % 18446744073709551616 : Nat) : Int), .int .u64 (((x + y + b) / 18446744073709551616 : Nat) : Int)])) w := by
  rw [run_callFunc_extern Try.func81 (by kernel_rfl) (by kernel_rfl) (by kernel_rfl) (e := add64Entry) (by kernel_rfl), run_add64 x y b (by omega) (by omega) (by omega) (by omega)]
  simp only [Result.andThen]
  congr 5 <;> omega
theorem math_bits_Add64.ok (k : Nat) : CtrOk Try.prog (c_math_bits_Add64 k) := by
  refine ctr_flat (by rfl) (by rfl) (by rfl) (by rfl) (fun p q h w => .inr ?_)
  obtain ⟨x, y, b⟩ := p
  unfold math_bits_Add64 at h
  split at h
  case isFalse => cases h
  case isTrue hc =>
  obtain ⟨h0, h1, h3⟩ := hc
  dsimp only at h0 h1 h3 h
  obtain ⟨x, rfl⟩ := Int.eq_ofNat_of_zero_le h0
  obtain ⟨y, rfl⟩ := Int.eq_ofNat_of_zero_le h1
  obtain ⟨b', rfl, hb⟩ : ∃ b' : Nat, b = (b' : Int) ∧ b' ≤ 1 := h3.elim (fun e => ⟨0, by simpa using e, by omega⟩) (fun e => ⟨1, by simpa using e, by omega⟩)
  simp only [Option.some.injEq] at h
  subst h
  refine ⟨_, _, add64_run x y b' hb w, ?_, Below.refl _ w⟩
  show Ending.returned _ = Ending.returned _
  unfold M64 at *
  congr 4
def atC (f : FuncId) : Ctr := ⟨f, fun args h b κ => match args with
  | [.v (.int .i64 i), .v (.int .i64 j), .ptr kb 0, .ptr km 0] => match h[kb]?, h[km]? with
    | some (.box _ [x]), some (.box _ [.v (.int .i64 m)]) => match rowOf h x with
      | some V => if V.e.w = 2 ∧ V.r.isNone = true then brc (0 ≤ wrapK .i64 (wrapK .i64 (i * wrapK .i64 (m + 1)) + j)) inferInstance (brc (wrapK .i64 (wrapK .i64 (i * wrapK .i64 (m + 1)) + j) < rlenI V.r V.l) inferInstance (κ { val := .el V.k V.ver (wrapK .i64 (wrapK .i64 (i * wrapK .i64 (m + 1)) + j)) 0, ro := [kb, km, V.k] }) none) none else none
      | none => none
    | _, _ => none
  | _ => none⟩
set_option maxHeartbeats 8000000 in
set_option maxRecDepth 100000 in
theorem at_calls (i j m : Int) (N cap : Nat) (ad : Addr) (bb bm : Nat) (w : World) (h1 : w.cell? ⟨bb, 0, none⟩ = some (.slice (some ad) N cap)) (h2 : w.cell? ⟨bm, 0, none⟩ = some (.int .i64 m))
    (h0 : 0 ≤ IntKind.i64.wrap (IntKind.i64.wrap (i * IntKind.i64.wrap (m + 1)) + j)) (hN : IntKind.i64.wrap (IntKind.i64.wrap (i * IntKind.i64.wrap (m + 1)) + j) < (N : Int)) :
    Calls Try.prog 33 #[.int .i64 i, .int .i64 j, .pointer (some ⟨bb, 0, none⟩), .pointer (some ⟨bm, 0, none⟩)] w fun e w' => e = .returned (.pointer (some (ad.add ((IntKind.i64.wrap (IntKind.i64.wrap (i * IntKind.i64.wrap (m + 1)) + j)).toNat * 2)))) ∧ w' = w := by
  have hu69 := Try.underlying69
  have hu71 := Try.underlying71
  generalize hm1 : IntKind.i64.wrap (m + 1) = m1 at *
  generalize hp : IntKind.i64.wrap (i * m1) = p at *
  generalize hq : IntKind.i64.wrap (p + j) = q at *
  go_enter Try.func33, Try.ntmps33
  go_wp2
  go_ret
  exact ⟨by first | rfl | simp, rfl⟩
theorem atC_ok : CtrOk Try.prog (atC 33) := by
  intro R args h b κ r hr
  simp only [atC] at hr
  split at hr
  case h_2 => cases hr
  case h_1 i j kb km =>
  split at hr
  case h_2 => cases hr
  case h_1 _ _ tb x tm m hb hm =>
  split at hr
  case h_2 => cases hr
  case h_1 V hV =>
  split at hr
  case isFalse => cases hr
  case isTrue hVw =>
  unfold brc at hr
  split at hr
  case isFalse => cases hr
  case isTrue h0 =>
  split at hr
  case isFalse => cases hr
  case isTrue h1 =>
  refine ⟨_, hr, rfl, fun T hro hft O w0 G K a w hs vs hL => .inl ⟨⟨Try.f33, by kernel_rfl, by kernel_rfl, by kernel_rfl⟩, ?_⟩⟩
  have eb : T.h[kb]? = some (.box tb [x]) := (hro kb (by simp)).trans hb
  have em : T.h[km]? = some (.box tm [.v (.int .i64 m)]) := (hro km (by simp)).trans hm
  have ek : T.h[V.k]? = h[V.k]? := hro V.k (by simp)
  obtain ⟨bb, ub, q1, _, q3, q4, _⟩ := hs.ob _ _ eb
  obtain ⟨bm, um, r1, _, r3, r4, _⟩ := hs.ob _ _ em
  match vs, hL with
  | [v1, v2, v3, v4], hL =>
  simp only [IsL, Is] at hL
  obtain ⟨rfl, rfl, ⟨b3, e3, rfl⟩, ⟨b4, e4, rfl⟩, _⟩ := hL
  rw [q1] at e3; cases e3
  rw [r1] at e4; cases e4
  match ub, q4 with
  | [ux], q4 =>
  match um, r4 with
  | [u4], r4 =>
  simp only [IsL, Is] at q4 r4
  obtain ⟨rfl, _⟩ := r4
  obtain ⟨k1, k2, ad, cp, k3, k4, k5, k6⟩ := row_hdr (S := ⟨[], [], h⟩) hs hV ek q4.1
  have hrn : V.r = none := by simpa using hVw.2
  rw [rlenI_eq] at h1
  rw [hrn] at k6 h1
  simp only [Hdr] at k6
  simp only [rlen, llen] at h1
  have hpos : 0 < V.l.length := by omega
  obtain ⟨a0, rfl, _⟩ := k5 hpos
  subst k6
  rw [wrapK_eq, wrapK_eq, wrapK_eq] at h0 h1
  refine (at_calls i j m V.l.length cp a0 bb bm w (by unfold World.cell?; rw [q3]; rfl) (by unfold World.cell?; rw [r3]; rfl) h0 h1).mono ?_
  rintro e w' ⟨rfl, rfl⟩
  refine ⟨_, G, rfl, fun dst => ?_⟩
  have := hs.put dst (x := .el V.k V.ver (wrapK .i64 (wrapK .i64 (i * wrapK .i64 (m + 1)) + j)) 0) (u := .pointer (some (a0.add ((IntKind.i64.wrap (IntKind.i64.wrap (i * IntKind.i64.wrap (m + 1)) + j)).toNat * 2)))) (by
    simp only [Is]
    refine ⟨_, _, _, _, _, k3, Nat.le_refl _, ⟨_, rfl⟩, fun _ => ⟨a0, rfl, ?_, ?_, ?_⟩⟩
    · rw [wrapK_eq, wrapK_eq, wrapK_eq]; exact h0
    · rw [wrapK_eq, wrapK_eq, wrapK_eq]; exact h1
    · rw [wrapK_eq, wrapK_eq, wrapK_eq, hVw.1]; rfl)
  exact this
noncomputable def c_dual_Pairs_3 (k : Nat) : Ctr := atC 33
theorem dual_Pairs_3.ok (k : Nat) : CtrOk Try.prog (c_dual_Pairs_3 k) := atC_ok
def utf_Count (k : Nat) (s : ByteArray) : Option Int := PDa.utf_Count.f s
noncomputable def c_utf_Count (k : Nat) : Ctr := ctrT 58 .str (.int .i64) [(false, 1)] [(false, 1)] (utf_Count k)
theorem utf_Count.ok (k : Nat) : CtrOk Try.prog (c_utf_Count k) := by
  refine ctr_flat (by rfl) (by rfl) (by rfl) (by rfl) (fun p q h w => .inl ⟨⟨Try.f58, by kernel_rfl, by kernel_rfl, by kernel_rfl⟩, ?_⟩)
  have hc := PDa.utf_Count.calls p q w h
  exact hc.mono (fun e w' he => ⟨he.1, he.2⟩)
def cue_named (k : Nat) (s : ByteArray) : Option Int := PDa.cue_named.f s
noncomputable def c_cue_named (k : Nat) : Ctr := ctrT 47 .str (.int .i64) [(false, 1)] [(false, 1)] (cue_named k)
theorem cue_named.ok (k : Nat) : CtrOk Try.prog (c_cue_named k) := by
  refine ctr_flat (by rfl) (by rfl) (by rfl) (by rfl) (fun p q h w => .inl ⟨⟨Try.f47, by kernel_rfl, by kernel_rfl, by kernel_rfl⟩, ?_⟩)
  have hc := PDa.cue_named.calls p q w h
  exact hc.mono (fun e w' he => ⟨he.1, he.2⟩)
end Go.Proofs.Ytlbicmdfdpcdiaa.F
