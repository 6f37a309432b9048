import Derived.Test.YtlbicmdfdpcdiaaDlC
import Derived.WalkKit
import Derived.Test.YtlbicmdfdpcdiaaDlKL1
import Derived.Test.YtlbicmdfdpcdiaaDlS
-- Printed by a program of this session's; Lean checks it.
set_option linter.unusedVariables false
namespace Go.Proofs.Ytlbicmdfdpcdiaa.F
open Go.Proofs.Ytlbicmdfdpcdiaa.Vm Go.RowKit
abbrev CueTy : Ty := (.pr ((.pr (.int .i64) (.int .i64))) ((.pr ((.pr (.int .i64) (.int .i64))) ((.pr (.int .i64) ((.pr (.int .i64) ((.pr (.str) ((.pr (.str) ((.sl 79 ((.pr (.int .i64) ((.pr (.int .i64) ((.pr (.int .i64) (.int .i64))))))))))))))))))))
open PDa.SK (cmpZ cmpZ_lt cmpZ_eq frac_lt SWO isort isort_perm isort_map isort_length ltc SWB)
abbrev CueD : Type := (Int × Int) × ((Int × Int) × (Int × (Int × (ByteArray × (ByteArray × List (Int × (Int × (Int × Int))))))))
def cmpCue (x y : CueD) : Int := if cmpZ (x.1.1 * y.1.2) (y.1.1 * x.1.2) = 0 then cmpZ (x.2.1.1 * y.2.1.2) (y.2.1.1 * x.2.1.2) else cmpZ (x.1.1 * y.1.2) (y.1.1 * x.1.2)
def ltCue (x y : CueD) : Bool := decide (cmpCue x y < 0)
def cuesOK (k : Nat) (l : List CueD) : Prop := ∀ x ∈ l, 0 < x.1.2 ∧ 0 < x.2.1.2 ∧ ∀ y ∈ l, cue_Compare k (x, y) = some (cmpCue x y)
open Classical in
noncomputable def sort_cues (k : Nat) (l : List CueD) : Option (List CueD) := if cuesOK k l ∧ l.length ≤ 140737488355328 then some (isort ltCue l) else none
noncomputable def sortQ (k : Nat) (f : FuncId) : Ctr := ⟨f, fun args h b κ => match args with
  | [.sl kk ver none, .v (.func (.func g) ⟨[]⟩ ⟨[]⟩)] => match h[kk]? with
    | some (.row (some t) e ver' l) => if q : e = CueTy then (if ver = ver' ∧ g = 15 ∧ t = 38 then bnd (sort_cues k (cast (congrArg (fun e => List (Ty.D e)) q) l)) fun l' => κ { val := .tup [], ro := [kk], rw := [(kk, .row (some t) CueTy ver l')] } else none) else none
    | _ => none
  | _ => none⟩
theorem ltCue_iff (x y : CueD) : ltCue x y = true ↔ (x.1.1 * y.1.2 < y.1.1 * x.1.2 ∨ (x.1.1 * y.1.2 = y.1.1 * x.1.2 ∧ x.2.1.1 * y.2.1.2 < y.2.1.1 * x.2.1.2)) := by
  unfold ltCue cmpCue
  rw [decide_eq_true_iff]
  split
  · rename_i h
    rw [cmpZ_eq] at h
    rw [cmpZ_lt]
    omega
  · rename_i h
    rw [cmpZ_eq] at h
    rw [cmpZ_lt]
    omega
theorem ltCue_swo {α : Type} (f : α → CueD) (hp : ∀ x, 0 < (f x).1.2 ∧ 0 < (f x).2.1.2) : SWO (fun x y => ltCue (f x) (f y)) := by
  constructor
  · intro x y h
    rw [← Bool.not_eq_true]
    rw [ltCue_iff] at h ⊢
    omega
  · intro x y z h1 h2
    rw [← Bool.not_eq_true] at h1 h2 ⊢
    rw [ltCue_iff] at h1 h2 ⊢
    obtain ⟨px, px'⟩ := hp x
    obtain ⟨py, py'⟩ := hp y
    obtain ⟨pz, pz'⟩ := hp z
    generalize f x = X at *
    generalize f y = Y at *
    generalize f z = Z at *
    have a1 : X.1.1 * Y.1.2 ≤ Y.1.1 * X.1.2 := by omega
    have a2 : Y.1.1 * Z.1.2 ≤ Z.1.1 * Y.1.2 := by omega
    have a3 := frac_lt px py pz a1 a2
    intro hc
    have a4 : X.1.1 * Z.1.2 = Z.1.1 * X.1.2 ∧ Z.2.1.1 * X.2.1.2 < X.2.1.1 * Z.2.1.2 := by omega
    have b1 := frac_lt pz px py (show Z.1.1 * X.1.2 ≤ X.1.1 * Z.1.2 by omega) a1
    have b2 := frac_lt py pz px a2 (show Z.1.1 * X.1.2 ≤ X.1.1 * Z.1.2 by omega)
    have c1 : X.2.1.1 * Y.2.1.2 ≤ Y.2.1.1 * X.2.1.2 := by omega
    have c2 : Y.2.1.1 * Z.2.1.2 ≤ Z.2.1.1 * Y.2.1.2 := by omega
    have c3 := frac_lt px' py' pz' c1 c2
    omega
theorem cmp_run (k : Nat) (x y : CueD) (ax ay : Option Addr) (nx ny cx cy : Nat) : runF Try.prog (cue_Compare.C k) cue_Compare.Ls k Try.f15 (decT [(false, 1)] (.int .i64) some)
    [.agg [.v (.int .i64 x.1.1), .v (.int .i64 x.1.2), .v (.int .i64 x.2.1.1), .v (.int .i64 x.2.1.2), .v (.int .i64 x.2.2.1), .v (.int .i64 x.2.2.2.1), .v (.string x.2.2.2.2.1), .v (.string x.2.2.2.2.2.1), .v (.slice ax nx cx)], .agg [.v (.int .i64 y.1.1), .v (.int .i64 y.1.2), .v (.int .i64 y.2.1.1), .v (.int .i64 y.2.1.2), .v (.int .i64 y.2.2.1), .v (.int .i64 y.2.2.2.1), .v (.string y.2.2.2.2.1), .v (.string y.2.2.2.2.2.1), .v (.slice ay ny cy)]] [] = cue_Compare k (x, y) := by kernel_rfl
theorem rep_cue {H : Hp} {x : CueD} {cs : List Value} (h : Rep H CueTy x cs) : ∃ ad n cp, cs = [.int .i64 x.1.1, .int .i64 x.1.2, .int .i64 x.2.1.1, .int .i64 x.2.1.2, .int .i64 x.2.2.1, .int .i64 x.2.2.2.1, .string x.2.2.2.2.1, .string x.2.2.2.2.2.1, .slice ad n cp] := by
  obtain ⟨c1, c2, rfl, ⟨c11, c12, rfl, h1, h2⟩, ⟨c3, c4, rfl, ⟨c31, c32, rfl, h3, h4⟩, ⟨c5, c6, rfl, h5, ⟨c7, c8, rfl, h6, ⟨c9, c10, rfl, h7, ⟨c13, c14, rfl, h8, h9⟩⟩⟩⟩⟩⟩ := h
  obtain ⟨ad, cp, h9, _⟩ := h9
  have h1' : c11 = _ := h1
  have h2' : c12 = _ := h2
  have h3' : c31 = _ := h3
  have h4' : c32 = _ := h4
  have h5' : c5 = _ := h5
  have h6' : c7 = _ := h6
  have h7' : c9 = _ := h7
  have h8' : c13 = _ := h8
  subst h1' h2' h3' h4' h5' h6' h7' h8' h9
  exact ⟨_, _, _, rfl⟩
structure El (H : Hp) (l : List CueD) where
  x : CueD
  cs : List Value
  m : Rep H CueTy x cs
  mem : x ∈ l
theorem els {H : Hp} {l : List CueD} : ∀ {r : List CueD} {xs : List Value}, (∀ x ∈ r, x ∈ l) → RepL H CueTy r xs → ∃ L : List (El H l), L.map (·.x) = r ∧ L.flatMap (·.cs) = xs
  | [], xs, _, h => ⟨[], rfl, h.symm⟩
  | x :: r, xs, hm, ⟨c, q, hq, h1, h2⟩ => by
    subst hq
    obtain ⟨L, e1, e2⟩ := els (fun y hy => hm y (List.mem_cons_of_mem _ hy)) h2
    exact ⟨⟨x, c, h1, hm x (List.mem_cons_self ..)⟩ :: L, by simp [e1], by simp [e2]⟩
theorem els_rep {H H' : Hp} (hle : H.le H') {l : List CueD} : ∀ (L : List (El H l)), RepL H' CueTy (L.map (·.x)) (L.flatMap (·.cs))
  | [] => rfl
  | e :: L => ⟨e.cs, _, by simp, e.m.mono hle, els_rep hle L⟩
theorem cmp_calls {k : Nat} {H : Hp} {l : List CueD} (hl : cuesOK k l) (x y : El H l) (w : World) : Calls Try.prog 15 #[.agg x.cs.toArray, .agg y.cs.toArray] w fun e w' => e = .returned (.int .i64 (cmpCue x.x y.x)) ∧ Below w.heap.size w w' := by
  obtain ⟨ax, nx, cx, ea⟩ := rep_cue x.m
  obtain ⟨ay, ny, cy, eb⟩ := rep_cue y.m
  rw [ea, eb]
  have h := (hl x.x x.mem).2.2 y.x y.mem
  exact slot_calls (f := 15) (fn := Try.f15) (C := cue_Compare.C k) (Ls := cue_Compare.Ls) (k := k) (r := .int .i64) (rsh := [(false, 1)]) (C_cons (ratio_Cmp.ok k) C_nil) (by kernel_rfl) (by rfl) (args := [.agg [.v (.int .i64 x.x.1.1), .v (.int .i64 x.x.1.2), .v (.int .i64 x.x.2.1.1), .v (.int .i64 x.x.2.1.2), .v (.int .i64 x.x.2.2.1), .v (.int .i64 x.x.2.2.2.1), .v (.string x.x.2.2.2.2.1), .v (.string x.x.2.2.2.2.2.1), .v (.slice ax nx cx)], .agg [.v (.int .i64 y.x.1.1), .v (.int .i64 y.x.1.2), .v (.int .i64 y.x.2.1.1), .v (.int .i64 y.x.2.1.2), .v (.int .i64 y.x.2.2.1), .v (.int .i64 y.x.2.2.2.1), .v (.string y.x.2.2.2.2.1), .v (.string y.x.2.2.2.2.2.1), .v (.slice ay ny cy)]])
    (vs := [.agg #[.int .i64 x.x.1.1, .int .i64 x.x.1.2, .int .i64 x.x.2.1.1, .int .i64 x.x.2.1.2, .int .i64 x.x.2.2.1, .int .i64 x.x.2.2.2.1, .string x.x.2.2.2.2.1, .string x.x.2.2.2.2.2.1, .slice ax nx cx], .agg #[.int .i64 y.x.1.1, .int .i64 y.x.1.2, .int .i64 y.x.2.1.1, .int .i64 y.x.2.1.2, .int .i64 y.x.2.2.1, .int .i64 y.x.2.2.2.1, .string y.x.2.2.2.2.1, .string y.x.2.2.2.2.2.1, .slice ay ny cy]])
    (by simp only [IsL, Is, and_true]; exact ⟨⟨_, rfl, by simp [IsL, Is]⟩, ⟨_, rfl, by simp [IsL, Is]⟩⟩) (q := cmpCue x.x y.x) ((cmp_run k x.x y.x ax ay nx ny cx cy).trans h) w
theorem sortQ_ok (k : Nat) : CtrOk Try.prog (sortQ k 42) := by
  intro R args h b κ r hr
  simp only [sortQ] at hr
  split at hr
  case h_2 => cases hr
  case h_1 kk ver g =>
  split at hr
  case h_2 => cases hr
  case h_1 _ t e ver' l hk =>
  split at hr
  case isFalse => cases hr
  case isTrue he =>
  subst he
  split at hr
  case isFalse => cases hr
  case isTrue hc =>
  obtain ⟨rfl, rfl, rfl⟩ := hc
  unfold bnd at hr
  obtain ⟨l', hl', hκ⟩ := Option.bind_eq_some_iff.1 hr
  have hl' : sort_cues k l = some l' := hl'
  unfold sort_cues at hl'
  split at hl'
  case isFalse => cases hl'
  case isTrue hok =>
  simp only [Option.some.injEq] at hl'
  subst hl'
  refine ⟨_, hκ, rfl, fun T hro hft O w0 G K a w hs vs hL => .inl ⟨⟨Try.f42, by kernel_rfl, by kernel_rfl, by kernel_rfl⟩, ?_⟩⟩
  have ek : T.h[kk]? = some (.row (some 38) CueTy ver l) := (hro kk (by simp)).trans hk
  obtain ⟨ad, cp, xs, hE, hown, how, hrep⟩ := hs.ob _ _ ek
  match vs, hL with
  | [v1, v2], hL =>
  simp only [IsL, Is, and_true] at hL
  obtain ⟨⟨v, A, c, n, w', hE2, _, _, hH⟩, rfl⟩ := hL
  rw [hE] at hE2
  simp only [Option.some.injEq, Gh.row.injEq] at hE2
  obtain ⟨rfl, rfl, rfl, rfl, rfl⟩ := hE2
  have hv := hH rfl
  simp only [Hdr] at hv
  subst hv
  obtain ⟨hxl, hown⟩ := hown
  have fin : ∀ w', Below w0.heap.size w0 w' → w.heap.size ≤ w'.heap.size → (∀ bl, G.ow bl ≠ 0 → G.ow bl ≠ kk + 2 → w'.heap[bl]? = w.heap[bl]?) → ((hp O G w).le (hp O G w') → Ho O w0 G kk w' (.row (some 38) CueTy ver (isort ltCue l))) →
      ∃ v G', Ending.returned (.tuple #[]) = .returned v ∧ ∀ dst, Sat O w0 (ap dst b { val := .tup [], ro := [kk], rw := [(kk, .row (some 38) CueTy ver (isort ltCue l))], nw := [] } T) G' K (a.put dst v) w' := by
    intro w' h1 h2 h3 h4
    have := (hs.upd ek h1 h2 (G' := G) (fun _ _ => rfl) (fun g hg => ⟨g, hg, g.le_refl⟩) (fun _ _ _ => rfl) (fun bl hb => .inl hb) h3 (fun _ hle => h4 hle)).1
    exact ⟨_, G, rfl, fun dst => this.put dst (x := .tup []) (u := .tuple #[]) (by simp only [Is]; exact ⟨[], rfl, by simp [IsL]⟩)⟩
  rcases hown with ⟨hnil, hn0⟩ | ⟨g, cap, cur, hsl, hg, hblk, hnc, hcm, hsz, htk⟩
  · have hl0 : l = [] := List.eq_nil_of_length_eq_zero hn0
    subst hl0
    refine (PDa.SK.sortStable_none 9 PDa.SK.tf Try.func42 Try.func55 Try.func66 _ _ _ w).mono ?_
    rintro e w' ⟨rfl, rfl⟩
    exact fin _ hs.bl (Nat.le_refl _) (fun _ _ _ => rfl) (fun _ => ⟨ad, cp, xs, hE, ⟨hxl, .inl ⟨hnil, rfl⟩⟩, how, hrep⟩)
  · simp only [Value.slice.injEq] at hsl
    obtain ⟨rfl, _, rfl⟩ := hsl
    obtain ⟨L, e1, e2⟩ := els (l := l) (fun _ h => h) hrep
    have hlen : L.length = l.length := by have hz := congrArg List.length e1; rwa [List.length_map] at hz
    have hSW : SWB (fun x : El (hp O G w) l => x.cs) g 38 (cur.toList.drop (l.length * CueTy.w)) w L w := ⟨by
      rw [hblk, e2, ← htk, List.take_append_drop], ⟨rfl, rfl, rfl, Nat.le_refl _, fun _ _ _ => rfl⟩⟩
    have hden : ∀ x : El (hp O G w) l, 0 < x.x.1.2 ∧ 0 < x.x.2.1.2 := fun x => ⟨(hok.1 x.x x.mem).1, (hok.1 x.x x.mem).2.1⟩
    refine (PDa.SK.sortStable_calls 9 PDa.SK.tf Try.func42 Try.func55 Try.func66 Try.func67 Try.func77 Try.func83 (fun x : El (hp O G w) l => x.cs) (fun x => x.m.len) (fun x => x.m.one) (fun x y => cmpCue x.x y.x) (ltCue_swo (fun x : El (hp O G w) l => x.x) hden) 15
      (enters_ (fn := Try.f15) (by kernel_rfl) (by kernel_rfl) (by kernel_rfl)) (fun x y W => cmp_calls hok.1 x y W) g 0 cp l.length rfl (cur.toList.drop (l.length * CueTy.w)) w (by have := hok.2; omega) L w hSW hlen hok.2).mono ?_
    rintro e w' ⟨rfl, S2⟩
    have hm : (isort (ltc fun x y : El (hp O G w) l => cmpCue x.x y.x) L).map (·.x) = isort ltCue l :=
      (isort_map (lt := ltc fun x y : El (hp O G w) l => cmpCue x.x y.x) (lt' := ltCue) (fun x => x.x) (fun x y => rfl) L).symm.trans (congrArg (isort ltCue) e1)
    have hll : (isort ltCue l).length = l.length := isort_length _
    have hlt : g < w.heap.size := (Array.getElem?_eq_some_iff.1 hblk).1
    refine fin w' ⟨S2.grown.os.trans hs.bl.os, S2.grown.tape.trans hs.bl.tape, S2.grown.output.trans hs.bl.output, Nat.le_trans hs.bl.size S2.grown.size, fun i hi => (S2.grown.block i (Nat.lt_of_lt_of_le hi hs.bl.size) (fun e => by injection e with e; omega)).trans (hs.bl.block i hi)⟩ S2.grown.size (fun bl h1 h2 => S2.grown.block bl (hs.lt bl h1).2 (fun e => by
      injection e with e
      exact h2 (e ▸ how _ rfl))) (fun hle => ?_)
    have hrow := S2.row
    have hreps := els_rep hle (isort (ltc fun x y : El (hp O G w) l => cmpCue x.x y.x) L)
    rw [hm] at hreps
    have hfl := hreps.len
    rw [hll] at hfl
    refine ⟨some ⟨g, 0, none⟩, cp, _, by rw [hll]; exact hE, ⟨by rw [hll]; exact hfl, .inr ⟨g, cp, _, by rw [hll], hg, hrow, by rw [hll]; exact hnc, hcm, ?_, ?_⟩⟩, how, hreps⟩
    · have h1 : l.length * CueTy.w ≤ cp * CueTy.w := Nat.mul_le_mul_right _ hnc
      simp only [List.size_toArray, List.length_append, hfl, List.length_drop, Array.length_toList, hsz]
      omega
    · rw [hll, List.take_left' hfl]
noncomputable def c_slices_SortStableFunc (k : Nat) : Ctr := sortQ k 42
theorem slices_SortStableFunc.ok (k : Nat) : CtrOk Try.prog (c_slices_SortStableFunc k) := sortQ_ok k
end Go.Proofs.Ytlbicmdfdpcdiaa.F
