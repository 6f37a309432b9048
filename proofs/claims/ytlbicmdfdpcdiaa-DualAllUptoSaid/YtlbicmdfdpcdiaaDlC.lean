import Derived.Test.YtlbicmdfdpcdiaaDlB
import Derived.Scope
import Derived.WalkKit
import Derived.OpenShut
import Derived.ShutString
import Derived.ChangeOld
import Derived.SizedLaws
import Derived.Carry
import Derived.Deep.Slices
set_option linter.unusedSectionVars false
-- Printed by a program of this session's; Lean checks it.
set_option linter.unusedVariables false
set_option linter.unusedSimpArgs false
namespace Go.Proofs.Ytlbicmdfdpcdiaa.Vm
open Go.RowKit
section
variable {P : Program}
section
variable {O : Nat → Prop} {w0 : World} {S : St} {G : Gs} {K : List Value} {a : Act} {w : World}
theorem Sat.pad (h : Sat O w0 S G K a w) (n : Nat) : Sat O w0 (pad n S) G K a w where
  tm := h.tm
  sk := h.sk
  df := h.df
  bl := h.bl
  ol := h.ol
  lt := h.lt
  ob := fun k o hk => by
    simp only [Vm.pad, List.getElem?_append, List.getElem?_replicate] at hk
    split at hk
    · exact h.ob k o hk
    · rename_i hl
      split at hk
      · cases hk; exact h.fr k (List.getElem?_eq_none (by omega))
      · cases hk
  fr := fun k hk => by
    simp only [Vm.pad, List.getElem?_append] at hk
    split at hk
    · exact h.fr k hk
    · exact h.fr k (List.getElem?_eq_none (by omega))
theorem Sat.trim (h : Sat O w0 S G K a w) (b : Nat) : Sat O w0 (trim b S) G K a w := by
  unfold Vm.trim
  split
  · rename_i hd
    refine { tm := h.tm, sk := h.sk, df := h.df, bl := h.bl, ol := h.ol, lt := h.lt, ob := fun k o hk => ?_, fr := fun k hk => ?_ }
    · by_cases hb : k < b
      · rw [List.getElem?_take_of_lt hb] at hk; exact h.ob k o hk
      · rw [List.getElem?_eq_none (by simp; omega)] at hk; cases hk
    · by_cases hb : k < b
      · rw [List.getElem?_take_of_lt hb] at hk; exact h.fr k hk
      · cases e : S.h[k]? with
        | none => exact h.fr k e
        | some o =>
          have hm : o ∈ S.h.drop b := by
            have : (S.h.drop b)[k - b]? = some o := by rw [List.getElem?_drop, ← e]; congr 1; omega
            exact List.mem_of_getElem? this
          have := List.all_eq_true.1 hd o hm
          cases o with
          | dead => exact h.ob k _ e
          | _ => simp at this
  · exact h
end
theorem numbered_mem {ops : Array Oper} : ∀ q ∈ numbered ops, ops[q.1]? = some q.2 := by
  intro q hq
  simp only [numbered, List.mem_filterMap, Option.map_eq_some_iff] at hq
  obtain ⟨i, _, o, ho, rfl⟩ := hq
  exact ho
theorem numbered_fst (ops : Array Oper) : (numbered ops).map (·.1) = List.range ops.size := by
  have : ∀ l : List Nat, (∀ i ∈ l, i < ops.size) → ((l.filterMap fun i => (ops[i]?).map fun o => (i, o)).map (·.1)) = l := by
    intro l
    induction l with
    | nil => intro _; rfl
    | cons i l ih =>
      intro h
      have hi := h i List.mem_cons_self
      simp only [List.filterMap_cons, Array.getElem?_eq_getElem hi, Option.map_some, List.map_cons]
      rw [ih (fun j hj => h j (List.mem_cons_of_mem _ hj))]
  exact this _ (fun i hi => by simpa using hi)
theorem ord_snoc {ops : Array Oper} {y : Dn} : ∀ {l : List Dn}, Ord ops l → (∀ x ∈ l, conf ops x y = true → after x y = true) → Ord ops (l ++ [y])
  | [], _, _ => ⟨by simp, trivial⟩
  | x :: l, h, hy => ⟨fun z hz => by
      rcases List.mem_append.1 hz with hz | hz
      · exact h.1 z hz
      · rw [List.mem_singleton.1 hz]; exact hy x List.mem_cons_self, ord_snoc h.2 (fun z hz => hy z (List.mem_cons_of_mem _ hz))⟩
theorem chk_ord {ops : Array Oper} : ∀ {acc : List Dn}, chk ops acc = true → Ord ops acc.reverse ∧ ∀ x ∈ acc, x.o.after.toList.all (fun e => !Region.binds .any e || e.on < x.i) = true
  | [], _ => ⟨trivial, by simp⟩
  | y :: r, h => by
    simp only [chk, Bool.and_eq_true, List.all_eq_true] at h
    obtain ⟨⟨h1, h2⟩, h3⟩ := h
    obtain ⟨h4, h5⟩ := chk_ord h3
    refine ⟨?_, fun x hx => ?_⟩
    · rw [List.reverse_cons]
      refine ord_snoc h4 fun x hx hc => ?_
      have := h1 x (by simpa using hx)
      rw [hc] at this
      simpa using this
    · rcases List.mem_cons.1 hx with rfl | hx
      · exact List.all_eq_true.2 h2
      · exact h5 x hx
def post (O : Nat → Prop) (w0 : World) (K : List Value) {R : Type} (κ : Ex → St → Option R) (r : R) : Exit → Act → World → Prop
  | .normal, a, w => ∃ S G, Sat O w0 S G K a w ∧ κ .normal S = some r
  | .exit i, a, w => ∃ S G, Sat O w0 S G K a w ∧ κ (.exit i) S = some r
  | .ret, a, w => ∃ S G, Sat O w0 S G K a w ∧ κ .ret S = some r
  | _, _, _ => False
theorem evRegion_ok {R : Type} {C : List Ctr} (hC : ∀ c ∈ C, CtrOk P c) {CH : Nat → FuncId → List SV → Nat → St → (De → Option R) → Option R} (hCH : ∀ i, CHok P (CH i)) {id : Nat} {ops : Array Oper} {draw : Bool} {S : St} {κ : Ex → St → Option R} {r : R} (h : evRegion P C CH ops draw S κ = some r) {O : Nat → Prop} {w0 : World} {G : Gs} {K : List Value} {a : Act} {w : World} (hs : Sat O w0 S G K a w) : (Code.region id ops draw).wp P (post O w0 K κ r) a w := by
  unfold evRegion at h
  have hp := hs.pad (2 * ops.size)
  cases draw with
  | false =>
    simp only [Bool.false_eq_true, if_false] at h
    refine wp_region ?_
    have := evOps_seq hC hCH (Q := post O w0 K κ r) (O := O) (w0 := w0) (K := K) (fun acc b S' G a w hs' hh => ⟨_, G, hs'.trim b, hh⟩) (numbered ops) _ [] _ numbered_mem h G a w hp
    rwa [numbered_fst] at this
  | true =>
    simp only [if_true] at h
    obtain ⟨acc, b, S', h1, hch, hnum, hix⟩ := evOps_ok hC (S0 := Vm.pad (2 * ops.size) S) (numbered ops) _ [] _ (.nil _) numbered_mem (by intro x hx; simp at hx) h
    rw [numbered_fst] at hix
    simp only [List.reverse_nil, List.map_nil, List.nil_append] at hix
    have hnum' : Num ops acc.reverse := fun x hx => hnum x (by simpa using hx)
    unfold drw at h1
    split at h1
    · rename_i hk
      simp only [Bool.and_eq_true] at hk
      obtain ⟨ho, he⟩ := chk_ord hk.2
      refine wp_region_any hk.1 ?_
      have hlen : acc.reverse.length = ops.size := by
        have := congrArg List.length hix
        simpa using this
      have hd : Sat O w0 (Vm.pad (2 * ops.size) S) G K a { w with drawn := w.drawn + 1 } := hp.world ((Below.refl _ _).drew)
      refine chain_any (fun G a w hs' => ⟨_, G, hs'.trim b, h1⟩) ops.size acc.reverse _ _ hlen hch hnum' ho (fun i hi => ?_) ?_ (by simp) (fun x hx => he x (by simpa using hx)) G a _ hd
      · rw [hix]; simp [Array.getD_eq_getD_getElem?, hi]
      · rw [hix]; exact List.pairwise_lt_range
    · cases h1
def LHok (P : Program) {R : Type} (LH : List Nat → Code → St → (Ex → St → Option R) → Option R) : Prop :=
  ∀ p c S κ r, LH p c S κ = some r → ∀ O w0 G K a w, Sat O w0 S G K a w → (Code.loop c).wp P (post O w0 K κ r) a w
theorem fev_ok {R : Type} {C : List Ctr} (hC : ∀ c ∈ C, CtrOk P c) {LH : List Nat → Code → St → (Ex → St → Option R) → Option R} (hL : LHok P LH) {CH : List Nat → FuncId → List SV → Nat → St → (De → Option R) → Option R} (hCH : ∀ p, CHok P (CH p)) (p : List Nat) (c : Code) : ∀ {S : St} {κ : Ex → St → Option R} {r : R}, fev P C LH CH p c S κ = some r → ∀ {O : Nat → Prop} {w0 : World} {G : Gs} {K : List Value} {a : Act} {w : World}, Sat O w0 S G K a w → c.wp P (post O w0 K κ r) a w := by
  induction c with
  | skip => intro S κ r h O w0 G K a w hs; exact wp_skip ⟨S, G, hs, by simpa [fev] using h⟩
  | region id ops draw => intro S κ r h O w0 G K a w hs; exact evRegion_ok hC (fun i => hCH _) (by simpa [fev] using h) hs
  | seq x y ihx ihy =>
    intro S κ r h O w0 G K a w hs
    simp only [fev] at h
    refine wp_seq (wp_mono (ihx h hs) ?_)
    intro e a' w' hp
    cases e with
    | normal => obtain ⟨S', G', hs', h'⟩ := hp; exact ihy h' hs'
    | exit i => exact hp
    | ret => exact hp
    | goto l => exact hp
    | panic ch => exact hp
    | outgrown => exact hp
  | cond c x y ihx ihy =>
    intro S κ r h O w0 G K a w hs
    have hc := hs.op c
    simp only [fev, brc] at h
    split at h
    · rename_i p d hx
      rw [hx] at hc
      simp only [Is] at hc
      by_cases hp : p
      · rw [if_pos hp, (knowO_tst hx).1 hp] at h; exact wp_cond_true (by simpa [hp] using hc) (ihx h hs)
      · rw [if_neg hp, (knowO_tst hx).2 hp] at h; exact wp_cond_false (by simpa [hp] using hc) (ihy h hs)
    · rename_i p d hx
      rw [hx] at hc
      simp only [Is] at hc
      by_cases hp : p
      · rw [if_pos hp, (knowO_nt hx).1 hp] at h; exact wp_cond_false (by simpa [hp] using hc) (ihy h hs)
      · rw [if_neg hp, (knowO_nt hx).2 hp] at h; exact wp_cond_true (by simpa [hp] using hc) (ihx h hs)
    · rename_i g hx
      rw [hx] at hc
      simp only [Is] at hc
      cases g with
      | true => rw [if_pos rfl, knowO_b hx] at h; exact wp_cond_true hc (ihx h hs)
      | false => rw [if_neg (by simp), knowO_b hx] at h; exact wp_cond_false hc (ihy h hs)
    · cases h
  | scope c ih =>
    intro S κ r h O w0 G K a w hs
    simp only [fev] at h
    refine wp_scope_straight (wp_mono (ih h hs) ?_)
    intro e a' w' hp
    cases e with
    | goto l => exact hp.elim
    | _ => exact hp
  | block id c ih =>
    intro S κ r h O w0 G K a w hs
    simp only [fev] at h
    refine wp_block (wp_mono (ih h hs) ?_)
    intro e a' w' hp
    cases e with
    | normal => exact hp
    | exit i =>
      obtain ⟨S', G', hs', h'⟩ := hp
      simp only [Exit.inBlock]
      simp only at h'
      split
      · rename_i e; rw [if_pos e] at h'; exact ⟨S', G', hs', h'⟩
      · rename_i e; rw [if_neg e] at h'; exact ⟨S', G', hs', h'⟩
    | ret => exact hp
    | goto l => exact hp
    | panic ch => exact hp
    | outgrown => exact hp
  | loop c ih => intro S κ r h O w0 G K a w hs; exact hL p c S κ r (by simpa [fev] using h) O w0 G K a w hs
  | exit id => intro S κ r h O w0 G K a w hs; exact wp_exit ⟨S, G, hs, by simpa [fev] using h⟩
  | ret => intro S κ r h O w0 G K a w hs; exact wp_ret ⟨S, G, hs, by simpa [fev] using h⟩
  | label l => intro S κ r h O w0 G K a w hs; exact wp_label ⟨S, G, hs, by simpa [fev] using h⟩
  | _ => intro S κ r h; simp [fev] at h
def Gh.zero : Gh → Gh
  | .blk b => .blk b
  | .row _ A c n w => .row 0 A c n w
def Env.nm (E : Env) (n : Nat) : Env := fun k => if k < n then (E k).map Gh.zero else none
mutual
theorem nm_is {E : Env} {h : List SO} {n : Nat} (hv : ∀ k o e ver l, h[k]? = some (.row o e ver l) → ∃ A c m w, E k = some (.row ver A c m w)) : ∀ {x : SV} {u : Value}, Is E x u → Is (E.nm n) (SV.nm h n x) u
  | .any, _, _ => by simp [SV.nm, Is]
  | .v x, u, hu => by simpa [SV.nm, Is] using hu
  | .tst p d, u, hu => by simpa [SV.nm, Is] using hu
  | .nt p d, u, hu => by simpa [SV.nm, Is] using hu
  | .ptr k off, u, hu => by
    simp only [SV.nm]
    split
    · rename_i hk
      simp only [Is] at hu ⊢
      obtain ⟨b, hb, rfl⟩ := hu
      exact ⟨b, by simp [Env.nm, hk, hb, Gh.zero], rfl⟩
    · simp [Is]
  | .sl k ver r, u, hu => by
    simp only [SV.nm]
    split
    · rename_i hk
      split
      · rename_i o e ver' l hr
        split
        · rename_i e1
          subst e1
          obtain ⟨A, c, m, w, hE⟩ := hv _ _ _ _ _ hr
          simp only [Is] at hu ⊢
          obtain ⟨v, A', c', m', w', q1, _, q3, q4⟩ := hu
          rw [hE] at q1
          simp only [Option.some.injEq, Gh.row.injEq] at q1
          obtain ⟨rfl, rfl, rfl, rfl, rfl⟩ := q1
          exact ⟨0, A, c, m, w, by simp [Env.nm, hk, hE, Gh.zero], Nat.le_refl _, q3, fun _ => q4 rfl⟩
        · simp [Is]
      · simp [Is]
    · simp [Is]
  | .el k ver i off, u, hu => by
    simp only [SV.nm]
    split
    · rename_i hk
      split
      · rename_i o e ver' l hr
        split
        · rename_i e1
          subst e1
          obtain ⟨A, c, m, w, hE⟩ := hv _ _ _ _ _ hr
          simp only [Is] at hu ⊢
          obtain ⟨v, A', c', m', w', q1, _, q3, q4⟩ := hu
          rw [hE] at q1
          simp only [Option.some.injEq, Gh.row.injEq] at q1
          obtain ⟨rfl, rfl, rfl, rfl, rfl⟩ := q1
          exact ⟨0, A, c, m, w, by simp [Env.nm, hk, hE, Gh.zero], Nat.le_refl _, q3, fun _ => q4 rfl⟩
        · simp [Is]
      · simp [Is]
    · simp [Is]
  | .agg l, u, hu => by
    simp only [SV.nm, Is] at hu ⊢
    obtain ⟨us, rfl, hl⟩ := hu
    exact ⟨us, rfl, nms_is hv hl⟩
  | .tup l, u, hu => by
    simp only [SV.nm, Is] at hu ⊢
    obtain ⟨us, rfl, hl⟩ := hu
    exact ⟨us, rfl, nms_is hv hl⟩
  | .fn f a c, u, hu => by
    simp only [SV.nm, Is] at hu ⊢
    obtain ⟨us, vs, rfl, h1, h2⟩ := hu
    exact ⟨us, vs, rfl, nms_is hv h1, nms_is hv h2⟩
  | .ifc t x, u, hu => by
    simp only [SV.nm, Is] at hu ⊢
    obtain ⟨y, rfl, h1⟩ := hu
    exact ⟨y, rfl, nm_is hv h1⟩
theorem nms_is {E : Env} {h : List SO} {n : Nat} (hv : ∀ k o e ver l, h[k]? = some (.row o e ver l) → ∃ A c m w, E k = some (.row ver A c m w)) : ∀ {l : List SV} {us : List Value}, IsL E l us → IsL (E.nm n) (SV.nms h n l) us
  | [], [], _ => by simp [SV.nms, IsL]
  | x :: l, u :: us, hu => by
    simp only [SV.nms, IsL] at hu ⊢
    exact ⟨nm_is hv hu.1, nms_is hv hu.2⟩
  | [], _ :: _, hu => by simp [IsL] at hu
  | _ :: _, [], hu => by simp [IsL] at hu
end
theorem normT_is {E : Env} {L : LN} {h : List SO} (hv : ∀ k o e ver l, h[k]? = some (.row o e ver l) → ∃ A c m w, E k = some (.row ver A c m w)) : ∀ {l : List SV} {us : List Value} (i : Nat), IsL E l us → IsL (E.nm L.hl) (normT L h i l) us
  | [], [], _, _ => by simp [normT, IsL]
  | x :: l, u :: us, i, hx => by
    simp only [IsL] at hx
    simp only [normT, IsL]
    refine ⟨?_, normT_is hv (i + 1) hx.2⟩
    split
    · exact nm_is hv hx.1
    · simp [Is]
  | [], _ :: _, _, h => by simp [IsL] at h
  | _ :: _, [], _, h => by simp [IsL] at h
theorem normK_is {E : Env} {L : LN} {h : List SO} (hv : ∀ k o e ver l, h[k]? = some (.row o e ver l) → ∃ A c m w, E k = some (.row ver A c m w)) : ∀ {l : List SV} {us : List Value} (i : Nat), IsL E l us → IsL (E.nm L.hl) (normK L h i l) us
  | [], [], _, _ => by simp [normK, IsL]
  | x :: l, u :: us, i, hx => by
    simp only [IsL] at hx
    simp only [normK, IsL]
    refine ⟨?_, normK_is hv (i + 1) hx.2⟩
    split
    · exact nm_is hv hx.1
    · simp [Is]
  | [], _ :: _, _, h => by simp [IsL] at h
  | _ :: _, [], _, h => by simp [IsL] at h
theorem normC_is {E : Env} {L : LN} {h : List SO} {k : Nat} (hv : ∀ k o e ver l, h[k]? = some (.row o e ver l) → ∃ A c m w, E k = some (.row ver A c m w)) : ∀ {l : List SV} {us : List Value} (i : Nat), IsL E l us → IsL (E.nm L.hl) (normC L h k i l) us
  | [], [], _, _ => by simp [normC, IsL]
  | x :: l, u :: us, i, hx => by
    simp only [IsL] at hx
    simp only [normC, IsL]
    refine ⟨?_, normC_is hv (i + 1) hx.2⟩
    split
    · simp [Is]
    · exact nm_is hv hx.1
  | [], _ :: _, _, h => by simp [IsL] at h
  | _ :: _, [], _, h => by simp [IsL] at h
def normO (L : LN) (h : List SO) (k : Nat) : SO → SO
  | .box t cs => .box t (normC L h k 0 cs)
  | .row o e _ x => .row o e 0 x
  | .dead => .dead
theorem normH_get {L : LN} {h : List SO} : ∀ {n k : Nat} {l : List SO} (j : Nat), (normH L h n k l)[j]? = if j < n then (l[j]?).map (normO L h (k + j)) else none
  | 0, k, l, j => by simp [normH]
  | n + 1, k, [], j => by simp [normH]
  | n + 1, k, o :: l, 0 => by cases o <;> simp [normH, normO]
  | n + 1, k, o :: l, j + 1 => by
    have e : k + (j + 1) = k + 1 + j := by omega
    cases o <;> simp only [normH, List.getElem?_cons_succ, normH_get j, Nat.add_lt_add_iff_right, e]
theorem Sat.norm {O : Nat → Prop} {w0 : World} {S : St} {G : Gs} {K : List Value} {a : Act} {w : World} (h : Sat O w0 S G K a w) (L : LN) : Sat O w0 (norm L S) ⟨G.E.nm L.hl, G.ow⟩ K a w := by
  have hv : ∀ k o e ver l, S.h[k]? = some (.row o e ver l) → ∃ A c m w, G.E k = some (.row ver A c m w) := fun k o e ver l hk => by
    obtain ⟨ad, cp, h1, _⟩ := row_E h hk
    exact ⟨_, _, _, _, h1⟩
  refine { tm := normT_is hv 0 h.tm, sk := normK_is hv 0 h.sk, df := h.df, bl := h.bl, ol := h.ol, lt := h.lt, ob := fun k o hk => ?_, fr := fun k hk => ?_ }
  · simp only [Vm.norm, normH_get, Nat.zero_add] at hk
    split at hk
    · rename_i hl
      obtain ⟨p, hp, rfl⟩ := Option.map_eq_some_iff.1 hk
      have h1 := h.ob k p hp
      have hE : ∀ g, G.E k = some g → (⟨G.E.nm L.hl, G.ow⟩ : Gs).E k = some g.zero := fun g hg => by simp [Env.nm, hl, hg]
      cases p with
      | dead => show G.E.nm L.hl k = none; simp only [Env.nm, hl, if_true, show G.E k = none from h1]; rfl
      | box t cs =>
        obtain ⟨b, us, q1, q2, q3, q4, q5⟩ := h1
        exact ⟨b, us, hE _ q1, q2, q3, normC_is hv 0 q4, q5⟩
      | row ow e ver l =>
        cases ow with
        | none =>
          obtain ⟨ad, cp, q1, q2, q3⟩ := h1
          exact ⟨ad, cp, hE _ q1, q2, q3⟩
        | some t =>
          obtain ⟨ad, cp, xs, q1, q2, q3, q4⟩ := h1
          exact ⟨ad, cp, xs, hE _ q1, q2, q3, q4⟩
    · cases hk
  · simp only [Vm.norm, normH_get, Nat.zero_add] at hk
    show G.E.nm L.hl k = none
    unfold Env.nm
    split
    · rename_i hl
      rw [if_pos hl] at hk
      have : S.h[k]? = none := by simpa using hk
      rw [h.fr k this]; rfl
    · rfl
theorem IsL.set' {E : Env} {x : SV} : ∀ {l : List SV} {us : List Value} (i : Nat), IsL E l us → (∀ u, us[i]? = some u → Is E x u) → IsL E (l.set i x) us
  | [], [], i, _, _ => by simp [IsL]
  | y :: l, w :: us, 0, h, hx => by simp only [IsL] at h; simp only [List.set_cons_zero, IsL]; exact ⟨hx w rfl, h.2⟩
  | y :: l, w :: us, i + 1, h, hx => by simp only [IsL] at h; simp only [List.set_cons_succ, IsL]; exact ⟨h.1, IsL.set' i h.2 (fun u hu => hx u (by simpa using hu))⟩
  | [], _ :: _, _, h, _ => by simp [IsL] at h
  | _ :: _, [], _, h, _ => by simp [IsL] at h
theorem isNil_some {x : Option SV} (h : isNil x = true) : x = some (.v (.slice none 0 0)) := by
  unfold isNil at h
  split at h
  · rfl
  · cases h
theorem Sat.adopt1 {O : Nat → Prop} {w0 : World} {S : St} {G : Gs} {K : List Value} {a : Act} {w : World} (h : Sat O w0 S G K a w) (q : Nat × Nat × TypeId × Ty) : ∃ G', Sat O w0 (adopt1 S q) G' K a w := by
  obtain ⟨k, i, t, e⟩ := q
  have hp := h.pad 1
  have hd : (Vm.pad 1 S).h[S.h.length]? = some .dead := by simp [Vm.pad]
  have hset : (Vm.pad 1 S).h.set S.h.length (.row (some t) e 0 []) = S.h ++ [.row (some t) e 0 []] := by simp [Vm.pad]
  obtain ⟨G1, e1, e2, s1⟩ := hp.own hd (t := t) (e := e) (l := []) (ad := none) (cp := 0) (xs := []) (w' := w) (World.grownBy.refl' w none) (World.ownsRow_nil w _ t e.w) (.inl rfl) rfl
  rw [hset] at s1
  have hnil : ∀ u, u = Value.slice none 0 0 → Is G1.E (.sl S.h.length 0 none) u := fun u hu => by
    simp only [Is]
    exact ⟨0, none, 0, _, _, e2, Nat.le_refl _, ⟨none, 0, 0, hu⟩, fun _ => hu⟩
  cases hrn : isRn (k, i, t, e) with
  | true => exact ⟨G, by rw [show Vm.adopt1 S (k, i, t, e) = S by unfold Vm.adopt1; rw [hrn]]; exact h⟩
  | false =>
  cases k with
  | zero =>
    simp only [Vm.adopt1, hrn]
    split
    · rename_i hn
      have hn' := isNil_some hn
      obtain ⟨u, hu, hi⟩ := IsL.get i h.tm hn'
      simp only [Is] at hi
      exact ⟨G1, { tm := IsL.set' i s1.tm (fun v hv => hnil v (by rw [hu] at hv; cases hv; exact hi)), sk := s1.sk, df := s1.df, bl := s1.bl, ol := s1.ol, lt := s1.lt, ob := s1.ob, fr := s1.fr }⟩
    · exact ⟨G, h⟩
  | succ k =>
    simp only [Vm.adopt1, hrn]
    split
    · rename_i tb cs hk
      split
      · rename_i hn
        have hn' := isNil_some hn
        have hkl : k < S.h.length := (List.getElem?_eq_some_iff.1 hk).1
        have hk1 : (S.h ++ [SO.row (some t) e 0 []])[k]? = some (.box tb cs) := by rw [List.getElem?_append_left hkl]; exact hk
        obtain ⟨b, us, q1, q2, q3, q4, q5⟩ := s1.ob k _ hk1
        obtain ⟨u, hu, hi⟩ := IsL.get i q4 hn'
        simp only [Is] at hi
        have := s1.upd hk1 (w' := w) (o' := .box tb (cs.set i (.sl S.h.length 0 none))) (G' := G1) s1.bl (Nat.le_refl _) (fun _ _ => rfl) (fun g hg => ⟨g, hg, g.le_refl⟩) (fun _ _ _ => rfl) (fun b hb => .inl hb) (fun _ _ _ => rfl)
          (fun _ _ => ⟨b, us, q1, q2, q3, IsL.set' i q4 (fun v hv => hnil v (by rw [hu] at hv; cases hv; exact hi)), q5⟩)
        refine ⟨G1, ?_⟩
        have h2 := this.1
        dsimp only at h2
        rw [List.set_append_left _ _ hkl] at h2
        exact h2
      · exact ⟨G, h⟩
    · exact ⟨G, h⟩
theorem Sat.adopt {O : Nat → Prop} {w0 : World} {K : List Value} {a : Act} {w : World} : ∀ (l : List (Nat × Nat × TypeId × Ty)) {S : St} {G : Gs}, Sat O w0 S G K a w → ∃ G', Sat O w0 (adopt S l) G' K a w
  | [], S, G, h => ⟨G, h⟩
  | q :: l, S, G, h => by
    obtain ⟨G1, h1⟩ := h.adopt1 q
    exact Sat.adopt l h1
theorem nmOf_ok (Ls : List LN) (n : Nat) (p : List Nat) (c : Code) {O : Nat → Prop} {w0 : World} {S : St} {G : Gs} {K : List Value} {a : Act} {w : World} (h : Sat O w0 S G K a w) : ∃ G', Sat O w0 (nmOf Ls n p c S) G' K a w := by
  unfold nmOf
  split
  · obtain ⟨G1, h1⟩ := h.adopt _
    exact ⟨_, h1.norm _⟩
  · exact ⟨G, h⟩
theorem Sat.rnmV {O : Nat → Prop} {w0 : World} {S : St} {G : Gs} {K : List Value} {a : Act} {w : World} (h : Sat O w0 S G K a w) {K0 : Nat} {x : SV} {S' : St} {v : Nat} (hr : rnmV S K0 x = some (S', v)) :
    ∃ G' : Gs, Sat O w0 S' G' K a w ∧ (∀ u, Is G.E x u → Is G'.E (.sl K0 v none) u) ∧ S'.t = S.t ∧ G.E.le G'.E ∧ ∀ (k : Nat) tb cs, S.h[k]? = some (SO.box tb cs) → S'.h[k]? = some (SO.box tb cs) := by
  unfold Vm.rnmV at hr
  split at hr
  case h_2 => cases hr
  case h_1 t0 e0 ver0 l0 hK =>
  have hKl := (List.getElem?_eq_some_iff.1 hK).1
  obtain ⟨ad0, cp0, xs0, E0, o0, w0', r0⟩ := h.ob K0 _ hK
  split at hr
  · rename_i k ver
    split at hr
    · cases hr
    rename_i hne
    split at hr
    case h_2 => cases hr
    case h_1 t e ver' l hk =>
    split at hr
    case isFalse => cases hr
    case isTrue hv =>
    simp only [Option.some.injEq, Prod.mk.injEq] at hr
    obtain ⟨rfl, rfl⟩ := hr
    subst hv
    have hkl := (List.getElem?_eq_some_iff.1 hk).1
    obtain ⟨ad, cp, xs, E1, o1, w1, r1⟩ := h.ob k _ hk
    -- first the other's key gives its blocks away
    obtain ⟨s1, l1⟩ := h.upd hk (w' := w) (o' := .row none e (ver + 1) []) (G' := ⟨fun j => if j = k then some (.row (ver + 1) none 0 0 e.w) else G.E j, fun b => if G.ow b = k + 2 then K0 + 2 else G.ow b⟩)
      h.bl (Nat.le_refl _) (fun j hj => by simp [hj]) (fun g hg => ⟨.row (ver + 1) none 0 0 e.w, by simp, by rw [E1] at hg; cases hg; exact .inl (by omega)⟩)
      (fun b _ hb => by simp [hb]) (fun b hb => .inl (by intro e0; apply hb; simp [e0])) (fun _ _ _ => rfl) (fun _ _ => ⟨none, 0, by simp, Nat.le_refl _, fun hp => absurd hp (by simp)⟩)
    have hp1 : hp O ⟨fun j => if j = k then some (.row (ver + 1) none 0 0 e.w) else G.E j, fun b => if G.ow b = k + 2 then K0 + 2 else G.ow b⟩ w = hp O G w := by
      funext b
      have hiff : (O b ∨ (if G.ow b = k + 2 then K0 + 2 else G.ow b) = 1) ↔ (O b ∨ G.ow b = 1) := by
        by_cases hb : G.ow b = k + 2
        · rw [if_pos hb, hb]
          exact ⟨fun h => h.imp id (fun h => by omega), fun h => h.imp id (fun h => by omega)⟩
        · rw [if_neg hb]
      unfold hp
      dsimp only
      by_cases hc : O b ∨ G.ow b = 1
      · rw [if_pos (hiff.2 hc), if_pos hc]
      · rw [if_neg (fun h => hc (hiff.1 h)), if_neg hc]
    have hK1 : (S.h.set k (.row none e (ver + 1) []))[K0]? = some (.row (some t0) e0 ver0 l0) := by rw [List.getElem?_set_ne hne]; exact hK
    obtain ⟨s2, l2⟩ := s1.upd hK1 (w' := w) (o' := .row (some t) e (ver0 + 1) l) (G' := ⟨fun j => if j = K0 then some (.row (ver0 + 1) ad cp l.length e.w) else if j = k then some (.row (ver + 1) none 0 0 e.w) else G.E j, fun b => if G.ow b = k + 2 then K0 + 2 else G.ow b⟩)
      s1.bl (Nat.le_refl _) (fun j hj => by simp [hj]) (fun g hg => ⟨.row (ver0 + 1) ad cp l.length e.w, by simp, by
        dsimp only at hg
        rw [if_neg (Ne.symm hne), E0] at hg; cases hg; exact .inl (by omega)⟩)
      (fun b _ _ => rfl) (fun b hb => .inl hb) (fun _ _ _ => rfl) (fun _ hH => ⟨ad, cp, xs, by simp, o1, fun g hg => by simp [w1 g hg], (r1.mono (fun b o hb => by rw [← hp1] at hb; exact hH b o hb))⟩)
    refine ⟨_, s2, fun u hu => ?_, rfl, l1.trans l2, fun j tb cs hj => ?_⟩
    · simp only [Is] at hu ⊢
      obtain ⟨v, A, c, n, w', q1, q2, q3, q4⟩ := hu
      rw [E1] at q1
      cases q1
      exact ⟨ver0 + 1, ad, cp, l.length, e.w, by simp, Nat.le_refl _, q3, fun _ => q4 rfl⟩
    · have n1 : k ≠ j := fun e => by rw [e, hj] at hk; cases hk
      have n2 : K0 ≠ j := fun e => by rw [e, hj] at hK; cases hK
      rw [List.getElem?_set_ne n2, List.getElem?_set_ne n1]; exact hj
  · simp only [Option.some.injEq, Prod.mk.injEq] at hr
    obtain ⟨rfl, rfl⟩ := hr
    obtain ⟨s2, l2⟩ := h.upd hK (w' := w) (o' := .row (some t0) e0 (ver0 + 1) []) (G' := ⟨fun j => if j = K0 then some (.row (ver0 + 1) none 0 0 e0.w) else G.E j, G.ow⟩)
      h.bl (Nat.le_refl _) (fun j hj => by simp [hj]) (fun g hg => ⟨.row (ver0 + 1) none 0 0 e0.w, by simp, by rw [E0] at hg; cases hg; exact .inl (by omega)⟩)
      (fun b _ _ => rfl) (fun b hb => .inl hb) (fun _ _ _ => rfl) (fun _ _ => ⟨none, 0, [], by simp, World.ownsRow_nil w _ t0 e0.w, (fun g hg => by cases hg), rfl⟩)
    refine ⟨_, s2, fun u hu => ?_, rfl, l2, fun j tb cs hj => ?_⟩
    · simp only [Is] at hu ⊢
      exact ⟨ver0 + 1, none, 0, 0, e0.w, by simp, Nat.le_refl _, ⟨none, 0, 0, hu⟩, fun _ => hu⟩
    · have n2 : K0 ≠ j := fun e => by rw [e, hj] at hK; cases hK
      rw [List.getElem?_set_ne n2]; exact hj
  · cases hr
theorem Sat.rnm1 {O : Nat → Prop} {w0 : World} {S : St} {G : Gs} {K : List Value} {a : Act} {w : World} (h : Sat O w0 S G K a w) (q : Nat × Nat × TypeId × Ty) (K0 : Nat) : ∃ G', Sat O w0 (rnm1 S q K0) G' K a w := by
  obtain ⟨k, i, t, e⟩ := q
  cases k with
  | zero =>
    simp only [Vm.rnm1]
    split
    · rename_i x hx
      split
      · rename_i S' v hr
        obtain ⟨G', s', hi, ht, _, _⟩ := h.rnmV hr
        obtain ⟨u, hu, hxu⟩ := IsL.get i h.tm hx
        exact ⟨G', { tm := IsL.set' i s'.tm (fun v hv => by rw [hu] at hv; cases hv; exact hi _ hxu), sk := s'.sk, df := s'.df, bl := s'.bl, ol := s'.ol, lt := s'.lt, ob := s'.ob, fr := s'.fr }⟩
      · exact ⟨G, h⟩
    · exact ⟨G, h⟩
  | succ k =>
    simp only [Vm.rnm1]
    split
    · rename_i tb cs hk
      split
      · rename_i x hx
        split
        · rename_i S' v hr
          obtain ⟨b0, us0, p1, p2, p3, p4, p5⟩ := h.ob k _ hk
          obtain ⟨G', s', hi, ht, hle, hbox⟩ := h.rnmV hr
          have hk' := hbox k tb cs hk
          obtain ⟨b, us, q1, q2, q3, q4, q5⟩ := s'.ob k _ hk'
          refine ⟨G', (s'.upd hk' (w' := w) (o' := .box tb (cs.set i (.sl K0 v none))) (G' := G') s'.bl (Nat.le_refl _) (fun _ _ => rfl) (fun g hg => ⟨g, hg, g.le_refl⟩) (fun _ _ _ => rfl) (fun b hb => .inl hb) (fun _ _ _ => rfl)
            (fun _ _ => ⟨b, us, q1, q2, q3, IsL.set' i q4 (fun y hy => ?_), q5⟩)).1⟩
          obtain ⟨u0, hu0, hxu⟩ := IsL.get i p4 hx
          obtain ⟨g, hg, hgl⟩ := hle _ _ p1
          rw [q1] at hg
          cases hg
          simp only [Gh.le] at hgl
          subst hgl
          rw [p3] at q3
          simp only [Option.some.injEq, Obj.cells.injEq] at q3
          have he : us0 = us := by simpa using q3.1
          subst he
          rw [hu0] at hy
          cases hy
          exact hi _ hxu
        · exact ⟨G, h⟩
      · exact ⟨G, h⟩
    · exact ⟨G, h⟩
theorem Sat.rename {O : Nat → Prop} {w0 : World} {K : List Value} {a : Act} {w : World} : ∀ (l : List (Nat × Nat × TypeId × Ty)) (n : Nat) {S : St} {G : Gs}, Sat O w0 S G K a w → ∃ G', Sat O w0 (rename S l n) G' K a w
  | [], _, S, G, h => ⟨G, h⟩
  | q :: l, n, S, G, h => by
    unfold Vm.rename
    split
    · obtain ⟨G1, h1⟩ := h.rnm1 q q.2.2.1
      exact Sat.rename l n h1
    · obtain ⟨G1, h1⟩ := h.rnm1 q n
      exact Sat.rename l (n + 1) h1
theorem nmR_ok (Ls : List LN) (n : Nat) (p : List Nat) (c : Code) {O : Nat → Prop} {w0 : World} {S : St} {G : Gs} {K : List Value} {a : Act} {w : World} (h : Sat O w0 S G K a w) : ∃ G', Sat O w0 (nmR Ls n p c S) G' K a w := by
  unfold nmR
  split
  · obtain ⟨G1, h1⟩ := h.rename _ _
    exact ⟨_, h1.norm _⟩
  · exact ⟨G, h⟩
theorem loopRec_ok {R : Type} {c : Code} {body : St → (Ex → St → Option R) → Option R} {nm : St → St} (hN : ∀ {O w0 S G K a w}, Sat O w0 S G K a w → ∃ G', Sat O w0 (nm S) G' K a w) (hb : ∀ {S : St} {κ : Ex → St → Option R} {r : R}, body S κ = some r → ∀ {O : Nat → Prop} {w0 : World} {G : Gs} {K : List Value} {a : Act} {w : World}, Sat O w0 S G K a w → c.wp P (post O w0 K κ r) a w)
    {n : Nat} {S : St} {κ : Ex → St → Option R} {r : R} (h : loopRec body nm n S κ = some r) {O : Nat → Prop} {w0 : World} {G : Gs} {K : List Value} {a : Act} {w : World} (hs : Sat O w0 S G K a w) : (Code.loop c).wp P (post O w0 K κ r) a w := by
  refine wp_loop_ghost (fun n a w => ∃ S G, Sat O w0 S G K a w ∧ loopRec body nm n S κ = some r) n ⟨S, G, hs, h⟩ ?_
  rintro n a w ⟨S, G, hs, h⟩
  cases n with
  | zero => simp [loopRec] at h
  | succ n =>
    simp only [loopRec] at h
    refine wp_mono (hb h hs) ?_
    intro e a' w' hp
    cases e with
    | normal => obtain ⟨S', G', hs', h'⟩ := hp; obtain ⟨G1, hs1⟩ := hN hs'; exact ⟨n, Nat.lt_succ_self _, _, _, hs1, h'⟩
    | exit i => exact hp
    | ret => exact hp
    | goto l => exact hp
    | panic ch => exact hp
    | outgrown => exact hp
def resV (a : Act) : ResultVar → Sem Value
  | .tmp t => pure (a.tmps.getD t undef)
  | .cell b t => do loadVar t (← asAddr (a.tmps.getD b undef))
theorem res_ok {O : Nat → Prop} {w0 : World} {S : St} {G : Gs} {K : List Value} {a : Act} {w : World} (hs : Sat O w0 S G K a w) : ∀ {l : List ResultVar} {xs : List SV}, resSV P S l = some xs → ∃ vs : List Value, (l.mapM (resV a)).run P w = .ok vs w ∧ IsL G.E xs vs
  | [], xs, h => by simp only [resSV, Option.some.injEq] at h; subst h; exact ⟨[], by simp [List.mapM_nil], by simp [IsL]⟩
  | .tmp t :: l, xs, h => by
    simp only [resSV, Option.bind_eq_some_iff, Option.map_eq_some_iff] at h
    obtain ⟨x, hx, xs', hxs, rfl⟩ := h
    obtain ⟨vs, h1, h2⟩ := res_ok hs hxs
    obtain ⟨u, hu, hi⟩ := hs.tm.get t hx
    rw [Array.getElem?_toList] at hu
    refine ⟨u :: vs, ?_, by simp only [IsL]; exact ⟨hi, h2⟩⟩
    simp [List.mapM_cons, resV, Sem.run_bind, h1, hu]
  | .cell b t :: l, xs, h => by
    simp only [resSV] at h
    split at h
    · rename_i k off g n hx hl
      simp only [Option.bind_eq_some_iff, Option.map_eq_some_iff] at h
      obtain ⟨cs, hcs, xs', hxs, rfl⟩ := h
      obtain ⟨vs, h1, h2⟩ := res_ok hs hxs
      obtain ⟨u, hu, hi⟩ := hs.tm.get b hx
      rw [Array.getElem?_toList] at hu
      simp only [Is] at hi
      obtain ⟨bk, hE, rfl⟩ := hi
      obtain ⟨us, hn, hus, hcell⟩ := hs.reads hE hcs
      have hr := load_run hl ⟨bk, off, none⟩ us hn w hcell
      refine ⟨_ :: vs, ?_, by simp only [IsL]; exact ⟨packed_is hus hn (loadT_one hl), h2⟩⟩
      simp [List.mapM_cons, resV, Sem.run_bind, h1, hu, asAddr, hr]
    · cases h
def oneV (vs : List Value) : Value := if h : vs.toArray.size = 1 then vs.toArray[0] else .tuple vs.toArray
theorem one_is {E : Env} {l : List SV} {vs : List Value} (h : IsL E l vs) : Is E (one l) (oneV vs) := by
  unfold oneV
  match l, vs, h with
  | [], [], h => simp [one, Is, IsL]
  | [x], [u], h => simp only [IsL] at h; simpa [one] using h.1
  | x :: y :: l, u :: v :: vs, h =>
    simp only [one]
    rw [dif_neg (by simp)]
    simp only [Is]
    exact ⟨_, rfl, h⟩
  | [], _ :: _, h => simp [IsL] at h
  | [_], _ :: _ :: _, h => simp [IsL] at h
  | _ :: _ :: _, [_], h => simp [IsL] at h
  | _ :: _, [], h => simp [IsL] at h
theorem results_ok {O : Nat → Prop} {w0 : World} {S : St} {G : Gs} {K : List Value} {a : Act} {w : World} (hs : Sat O w0 S G K a w) {fn : Func} {l : List SV} (hl : resSV P S fn.results.toList = some l) : ∃ us, (results fn a.tmps).run P w = .ok (oneV us) w ∧ IsL G.E l us := by
  obtain ⟨us, h1, h2⟩ := res_ok hs hl
  refine ⟨us, ?_, h2⟩
  have hf2 : results fn a.tmps = (do let vs ← fn.results.mapM (resV a); pure (if h : vs.size = 1 then vs[0] else .tuple vs)) := by
    unfold results
    congr 1
  rw [hf2, ← Array.toArray_toList (xs := fn.results), List.mapM_toArray, Sem.run_bind]
  simp [Sem.run_bind, h1, oneV]
end
end Go.Proofs.Ytlbicmdfdpcdiaa.Vm
-- Printed by a program of this session's; Lean checks it.
set_option linter.unusedVariables false
set_option linter.unusedSimpArgs false
namespace Go.Proofs.Ytlbicmdfdpcdiaa.Vm
open Go.RowKit
section
variable {P : Program}
theorem any_is {E : Env} : ∀ n (us : List Value), us.length = n → IsL E (List.replicate n .any) us
  | 0, [], _ => by simp [IsL]
  | n + 1, u :: us, h => by simp only [List.replicate_succ, IsL, Is]; exact ⟨trivial, any_is n us (by simpa using h)⟩
theorem end_ok {O : Nat → Prop} {w0 : World} {K : List Value} {fn : Func} {R' : Type} {κ : Ex → St → Option R'} {f : List SV → List SO → St → Option R'} (hκ : κ = fun e S => match e with | .exit _ => none | _ => (resSV P S fn.results.toList).bind fun l => f l S.h S) {r : R'} {Post : Ending → World → Prop}
    (hp : ∀ S G a w l us, Sat O w0 S G K a w → resSV P S fn.results.toList = some l → f l S.h S = some r → IsL G.E l us → Post (.returned (oneV us)) w) {e : Exit} {a : Act} {w : World} (h : post O w0 K κ r e a w) : bodyPost P fn Post e a w := by
  subst hκ
  have key : ∀ S G a, Sat O w0 S G K a w → ((resSV P S fn.results.toList).bind fun l => f l S.h S) = some r → a.defers = [] ∧ ∃ v, (results fn a.tmps).run P w = .ok v w ∧ Post (.returned v) w := by
    intro S G a hs hd
    obtain ⟨l, hl, hd⟩ := Option.bind_eq_some_iff.1 hd
    obtain ⟨us, h1, h2⟩ := results_ok hs hl
    exact ⟨hs.df, _, h1, hp S G a w l us hs hl hd h2⟩
  cases e with
  | normal => obtain ⟨S, G, hs, hd⟩ := h; exact key S G _ hs hd
  | ret => obtain ⟨S, G, hs, hd⟩ := h; exact key S G _ hs hd
  | exit i => obtain ⟨S, G, hs, hd⟩ := h; simp at hd
  | _ => exact h.elim
theorem sem_ok {R : Type} {C : List Ctr} (hC : ∀ c ∈ C, CtrOk P c) (Ls : List LN) (k : Nat) : ∀ d, LHok P (sem P C (R := R) Ls k d).1 ∧ ∀ p, CHok P ((sem P C (R := R) Ls k d).2 p)
  | 0 => ⟨fun p c S κ r h => by simp [sem] at h, fun p f args b S κ r h => by simp [sem] at h⟩
  | d + 1 => by
    obtain ⟨ih1, ih2⟩ := sem_ok (R := R) hC Ls k d
    refine ⟨fun p c S κ r h O w0 G K a w hs => ?_, fun p f args b S κ r h => ?_⟩
    · simp only [sem] at h
      obtain ⟨G1, hs1⟩ := nmOf_ok Ls (hlE Ls p c S.h.length) p c hs
      exact loopRec_ok (c := c) (fun hs => nmR_ok Ls (hlE Ls p c S.h.length) p c hs) (fun {_ _ _} h' {_ _ _ _ _ _} hs' => fev_ok hC ih1 ih2 p c h' hs') h hs1
    · simp only [sem] at h
      split at h
      case h_2 => cases h
      case h_1 fn hf =>
      split at h
      case h_2 => cases h
      case h_1 c hb hn hlen =>
      refine ⟨⟨fn, hf, hn, by rw [hb]; rfl⟩, fun O w0 G K a w hs vs hL => ?_⟩
      have hst := hs.trim b
      have htk : (trim b S).t = S.t ∧ (trim b S).k = S.k := by unfold trim; split <;> exact ⟨rfl, rfl⟩
      have hal := hL.len
      have hs1 : Sat O w0 (enterS fn args b S) G (a.tmps.toList ++ K) { tmps := vs.toArray ++ Array.replicate (fn.ntmps - vs.toArray.size) undef, defers := [] } w :=
        { tm := by
            show IsL G.E (args ++ List.replicate (fn.ntmps - args.length) .any) _
            rw [Array.toList_append]
            refine IsL.append hL (any_is _ _ ?_)
            simp [hal]
          sk := by
            show IsL G.E ((trim b S).t ++ (trim b S).k) _
            rw [htk.1, htk.2]; exact hs.tm.append hs.sk
          df := rfl, bl := hst.bl, ol := hst.ol, lt := hst.lt, ob := hst.ob, fr := hst.fr }
      refine calls_of_wp hf hb (wp_mono (fev_ok hC ih1 ih2 _ c h hs1) ?_)
      intro e a' w' hp
      refine end_ok (f := fun l _ S' => κ (leaveS S.t.length padOf (one l) S')) (by funext e S'; cases e <;> rfl) (fun S' G' a' w' l us hs' hl hd hi => ?_) hp
      refine ⟨_, _, G', rfl, hd, fun dst => ?_⟩
      have hlen1 : a.tmps.toList.length = S.t.length := hs.tm.len
      obtain ⟨c1, c2⟩ := hs'.sk.cut S.t.length
      rw [show (a.tmps.toList ++ K).take S.t.length = a.tmps.toList by rw [← hlen1]; exact List.take_left] at c1
      rw [show (a.tmps.toList ++ K).drop S.t.length = K by rw [← hlen1]; exact List.drop_left] at c2
      have hs2 := hs'.pad padOf
      have hs3 : Sat O w0 ⟨S'.k.take S.t.length, S'.k.drop S.t.length, S'.h ++ List.replicate padOf .dead⟩ G' K a w' :=
        { tm := c1, sk := c2, df := hs.df, bl := hs2.bl, ol := hs2.ol, lt := hs2.lt, ob := hs2.ob, fr := hs2.fr }
      exact hs3.put dst (one_is hi)
theorem run_calls {R : Type} {C : List Ctr} (hC : ∀ c ∈ C, CtrOk P c) {f : FuncId} {fn : Func} (hf : P.funcs[f]? = some fn) {Ls : List LN} {k : Nat} {dec : List SV → List SO → Option R} {args : List SV} {h : List SO} {r : R} (hrun : runF P C Ls k fn dec args h = some r)
    {O : Nat → Prop} {G : Gs} {vs : List Value} {w : World} (ha : IsL G.E args vs) (hs : ∀ a : Act, a.defers = [] → IsL G.E (S0 fn args h).t a.tmps.toList → Sat O w (S0 fn args h) G [] a w) :
    Calls P f vs.toArray w fun e w' => ∃ us l S' G' a', e = .returned (oneV us) ∧ dec l S'.h = some r ∧ IsL G'.E l us ∧ Sat O w S' G' [] a' w' := by
  unfold runF at hrun
  split at hrun
  case h_2 => cases hrun
  case h_1 c hb =>
  have hlen := ha.len
  obtain ⟨i1, i2⟩ := sem_ok (R := R) hC Ls k 12
  refine calls_of_wp hf hb (wp_mono (fev_ok hC i1 i2 [] c hrun (hs { tmps := vs.toArray ++ Array.replicate (fn.ntmps - vs.toArray.size) undef, defers := [] } rfl ?_)) ?_)
  · simp only [S0]
    rw [Array.toList_append]
    refine IsL.append ha (any_is _ _ ?_)
    simp [hlen]
  · intro e a w' hp
    exact end_ok (f := fun l h' _ => dec l h') (by funext e S'; cases e <;> rfl) (fun S' G' a' w' l us hs' hl hd hi => ⟨us, l, S', G', a', rfl, hd, hi, hs'⟩) hp
end
end Go.Proofs.Ytlbicmdfdpcdiaa.Vm
-- Printed by a program of this session's; Lean checks it.
set_option linter.unusedVariables false
set_option linter.unusedSimpArgs false
namespace Go.Proofs.Ytlbicmdfdpcdiaa.Vm
open Go.RowKit
section
variable {P : Program}
def packV : List (Bool × Nat) → List Value → List Value
  | [], _ => []
  | (g, n) :: r, us => (if g then .agg (us.take n).toArray else (us.take n).getD 0 undef) :: packV r (us.drop n)
def widths : List (Bool × Nat) → Nat
  | [] => 0
  | (_, n) :: r => n + widths r
theorem cellsG_is {E : Env} {g : Bool} {n : Nat} {x : SV} {cs : List SV} (h : cellsG g n x = some cs) {u : Value} (hu : Is E x u) : ∃ us : List Value, us.length = n ∧ IsL E cs us ∧ u = (if g then .agg us.toArray else us.getD 0 undef) := by
  unfold cellsG at h
  split at h
  · split at h
    · rename_i l hl
      cases h
      simp only [Is] at hu
      obtain ⟨us, rfl, hL⟩ := hu
      exact ⟨us, hL.len.trans hl, hL, rfl⟩
    · cases h
  · split at h
    · rename_i cs' hl
      cases h
      simp only [Is] at hu
      subst hu
      exact ⟨cs'.toList, by simpa using hl, IsL.vs _, by simp⟩
    · cases h
  · cases h
  · cases h
  · cases h
  · cases h
  · cases h
  · cases h
  · split at h
    · rename_i hn
      cases h
      exact ⟨[u], by simp [hn], by simp only [IsL]; exact ⟨hu, trivial⟩, by simp⟩
    · cases h
theorem argCells_is {E : Env} : ∀ {sh : List (Bool × Nat)} {l : List SV} {cs : List SV} {vs : List Value}, argCells sh l = some cs → IsL E l vs → ∃ us, us.length = widths sh ∧ IsL E cs us ∧ vs = packV sh us
  | [], [], cs, vs, h, hL => by
    simp only [argCells, Option.some.injEq] at h
    subst h
    cases vs with
    | nil => exact ⟨[], rfl, by simp [IsL], rfl⟩
    | cons _ _ => simp [IsL] at hL
  | (g, n) :: r, x :: l, cs, vs, h, hL => by
    cases vs with
    | nil => simp [IsL] at hL
    | cons v vs =>
      simp only [IsL] at hL
      simp only [argCells, Option.bind_eq_some_iff, Option.map_eq_some_iff] at h
      obtain ⟨c, hc, c', hc', rfl⟩ := h
      obtain ⟨us, h1, h2, h3⟩ := cellsG_is hc hL.1
      obtain ⟨us', h4, h5, h6⟩ := argCells_is hc' hL.2
      refine ⟨us ++ us', by simp [widths, h1, h4], h2.append h5, ?_⟩
      simp only [packV]
      rw [← h1, List.take_left, List.drop_left, h3, h6]
  | [], _ :: _, cs, vs, h, _ => by simp [argCells] at h
  | _ :: _, [], cs, vs, h, _ => by simp [argCells] at h
theorem pack_is {E : Env} : ∀ {sh : List (Bool × Nat)} {cs : List SV} {us : List Value}, (∀ q ∈ sh, q.1 = false → q.2 = 1) → us.length = widths sh → IsL E cs us → IsL E (pack sh cs) (packV sh us)
  | [], cs, us, _, _, _ => by simp [pack, packV, IsL]
  | (g, n) :: r, cs, us, hs, hw, h => by
    obtain ⟨h1, h2⟩ := h.cut n
    simp only [widths] at hw
    simp only [pack, packV, IsL]
    exact ⟨packed_is h1 (n := n) (by simp; omega) (hs (g, n) (by simp)), pack_is (fun q hq => hs q (List.mem_cons_of_mem _ hq)) (by simp; omega) h2⟩
theorem pack_len : ∀ {sh : List (Bool × Nat)} {cs : List SV}, (pack sh cs).length = sh.length
  | [], _ => rfl
  | (g, n) :: r, cs => by simp [pack, pack_len]
def EnR : (t : Ty) → t.D → Nat → List SV → List SO → Prop
  | .int k, n, _, vs, os => vs = [.v (.int k n)] ∧ os = []
  | .bool, x, _, vs, os => vs = [.v (.bool x)] ∧ os = []
  | .str, x, _, vs, os => vs = [.v (.string x)] ∧ os = []
  | .flt k, x, _, vs, os => vs = [.v (.float k x)] ∧ os = []
  | .sl t e, l, b, vs, os => vs = [.sl b 0 none] ∧ os = [.row (some t) e 0 l]
  | .pr a c, x, b, vs, os => ∃ v1 o1 v2 o2, vs = v1 ++ v2 ∧ os = o1 ++ o2 ∧ EnR a x.1 b v1 o1 ∧ EnR c x.2 (b + o1.length) v2 o2
  | .un, _, _, vs, os => vs = [] ∧ os = []
  | .er pt st s, o, b, vs, os => (o = none ∧ vs = [.v .nilIface] ∧ os = []) ∨ ∃ x, o = some x ∧ vs = [.ifc pt (.ptr b 0)] ∧ os = [.box st ((s.cs x).map pcv)]
theorem en_ex {R : Type} : ∀ {t : Ty} {x : t.D} {b : Nat} {κ : List SV → List SO → Option R} {r : R}, t.en x b κ = some r → ∃ vs os, κ vs os = some r ∧ EnR t x b vs os
  | .int k, n, b, κ, r, h => ⟨_, _, h, rfl, rfl⟩
  | .bool, x, b, κ, r, h => ⟨_, _, h, rfl, rfl⟩
  | .str, x, b, κ, r, h => ⟨_, _, h, rfl, rfl⟩
  | .flt k, x, b, κ, r, h => ⟨_, _, h, rfl, rfl⟩
  | .sl t e, l, b, κ, r, h => ⟨_, _, h, rfl, rfl⟩
  | .un, _, b, κ, r, h => ⟨_, _, h, rfl, rfl⟩
  | .pr a c, x, b, κ, r, h => by
    obtain ⟨v1, o1, h1, e1⟩ := en_ex (t := a) h
    obtain ⟨v2, o2, h2, e2⟩ := en_ex (t := c) h1
    exact ⟨_, _, h2, v1, o1, v2, o2, rfl, rfl, e1, e2⟩
  | .er pt st s, none, b, κ, r, h => ⟨_, _, h, .inl ⟨rfl, rfl, rfl⟩⟩
  | .er pt st s, some x, b, κ, r, h => ⟨_, _, h, .inr ⟨x, rfl, rfl, rfl⟩⟩
theorem rkeys_app : ∀ {cs cs' : List SV}, rkeys (cs ++ cs') = rkeys cs ++ rkeys cs'
  | [], _ => rfl
  | x :: cs, cs' => by
    cases x <;> simp only [List.cons_append, rkeys, rkeys_app]
    rename_i t y
    cases y <;> simp only [rkeys, rkeys_app, List.cons_append]
theorem nodup_app : ∀ {l l' : List Nat}, nodup (l ++ l') = true → nodup l = true ∧ nodup l' = true ∧ ∀ k ∈ l, k ∉ l'
  | [], l', h => ⟨rfl, h, by simp⟩
  | k :: l, l', h => by
    simp only [List.cons_append, nodup, Bool.and_eq_true, Bool.not_eq_true', List.contains_eq_mem, decide_eq_false_iff_not, List.mem_append, not_or] at h
    obtain ⟨h1, h2, h3⟩ := nodup_app h.2
    refine ⟨by simp [nodup, h1, h.1.1], h2, fun j hj => ?_⟩
    rcases List.mem_cons.1 hj with rfl | hj
    · exact h.1.2
    · exact h3 j hj
theorem setNew_app : ∀ {o1 o2 : List SO} {h : List SO} {b : Nat}, setNew h b (o1 ++ o2) = setNew (setNew h b o1) (b + o1.length) o2
  | [], _, _, _ => rfl
  | o :: o1, o2, h, b => by
    simp only [List.cons_append, setNew, List.length_cons]
    rw [setNew_app]
    congr 1; omega
theorem pcl_flat {H : Hp} {E : Env} : ∀ {t : Ty} {x : t.D} {us : List Value}, t.flat = true → Rep H t x us → IsL E ((t.cs x).map pcv) us
  | .int k, n, us, hf, h => by rw [show us = _ from h]; simp [Ty.cs, pcv, IsL, Is]
  | .bool, n, us, hf, h => by rw [show us = _ from h]; simp [Ty.cs, pcv, IsL, Is]
  | .str, n, us, hf, h => by rw [show us = _ from h]; simp [Ty.cs, pcv, IsL, Is]
  | .flt k, n, us, hf, h => by rw [show us = _ from h]; simp [Ty.cs, pcv, IsL, Is]
  | .un, n, us, hf, h => by rw [show us = _ from h]; simp [Ty.cs, IsL]
  | .pr a b, x, us, hf, ⟨c1, c2, h1, h2, h3⟩ => by
    simp only [Ty.flat, Bool.and_eq_true] at hf
    rw [h1]
    simp only [Ty.cs, List.map_append]
    exact (pcl_flat hf.1 h2).append (pcl_flat hf.2 h3)
  | .sl t e, _, us, hf, _ => by simp [Ty.flat] at hf
theorem flat_noer : ∀ {t : Ty}, t.flat = true → t.noer = true
  | .int _, _ => rfl
  | .bool, _ => rfl
  | .str, _ => rfl
  | .flt _, _ => rfl
  | .un, _ => rfl
  | .pr a b, h => by simp only [Ty.flat, Bool.and_eq_true] at h; simp only [Ty.noer, Bool.and_eq_true]; exact ⟨flat_noer h.1, flat_noer h.2⟩
  | .sl _ _, h => by simp [Ty.flat] at h
  | .er _ _ _, h => by simp [Ty.flat] at h
theorem flat_keys {h : List SO} : ∀ {t : Ty} {cs : List SV} {x : t.D}, t.flat = true → t.un' cs h = some x → keysOf cs = []
  | .pr a b, cs, x, hf, hu => by
    simp only [Ty.flat, Bool.and_eq_true] at hf
    simp only [Ty.un', Option.bind_eq_some_iff, Option.map_eq_some_iff] at hu
    obtain ⟨y, hy, z, hz, rfl⟩ := hu
    rw [← List.take_append_drop a.w cs, keys_app, flat_keys hf.1 hy, flat_keys hf.2 hz]; rfl
  | .un, [], x, hf, hu => rfl
  | .int k, [.v y], x, hf, hu => rfl
  | .bool, [.v y], x, hf, hu => rfl
  | .bool, [.tst p d], x, hf, hu => rfl
  | .bool, [.nt p d], x, hf, hu => rfl
  | .str, [.v y], x, hf, hu => rfl
  | .flt k, [.v y], x, hf, hu => rfl
  | .int k, [.sl _ _ _], x, hf, hu => by simp [Ty.un', Ty.unl] at hu
  | .bool, [.sl _ _ _], x, hf, hu => by simp [Ty.un', Ty.unl] at hu
  | .str, [.sl _ _ _], x, hf, hu => by simp [Ty.un', Ty.unl] at hu
  | .flt k, [.sl _ _ _], x, hf, hu => by simp [Ty.un', Ty.unl] at hu
  | .int k, [.any], x, hf, hu => rfl
  | .int k, [.tst _ _], x, hf, hu => rfl
  | .int k, [.nt _ _], x, hf, hu => rfl
  | .int k, [.ptr _ _], x, hf, hu => rfl
  | .int k, [.el _ _ _ _], x, hf, hu => rfl
  | .int k, [.agg _], x, hf, hu => rfl
  | .int k, [.tup _], x, hf, hu => rfl
  | .int k, [.fn _ _ _], x, hf, hu => rfl
  | .int k, [.ifc _ _], x, hf, hu => rfl
  | .bool, [.any], x, hf, hu => rfl
  | .bool, [.ptr _ _], x, hf, hu => rfl
  | .bool, [.el _ _ _ _], x, hf, hu => rfl
  | .bool, [.agg _], x, hf, hu => rfl
  | .bool, [.tup _], x, hf, hu => rfl
  | .bool, [.fn _ _ _], x, hf, hu => rfl
  | .bool, [.ifc _ _], x, hf, hu => rfl
  | .str, [.any], x, hf, hu => rfl
  | .str, [.tst _ _], x, hf, hu => rfl
  | .str, [.nt _ _], x, hf, hu => rfl
  | .str, [.ptr _ _], x, hf, hu => rfl
  | .str, [.el _ _ _ _], x, hf, hu => rfl
  | .str, [.agg _], x, hf, hu => rfl
  | .str, [.tup _], x, hf, hu => rfl
  | .str, [.fn _ _ _], x, hf, hu => rfl
  | .str, [.ifc _ _], x, hf, hu => rfl
  | .flt k, [.any], x, hf, hu => rfl
  | .flt k, [.tst _ _], x, hf, hu => rfl
  | .flt k, [.nt _ _], x, hf, hu => rfl
  | .flt k, [.ptr _ _], x, hf, hu => rfl
  | .flt k, [.el _ _ _ _], x, hf, hu => rfl
  | .flt k, [.agg _], x, hf, hu => rfl
  | .flt k, [.tup _], x, hf, hu => rfl
  | .flt k, [.fn _ _ _], x, hf, hu => rfl
  | .flt k, [.ifc _ _], x, hf, hu => rfl
  | .un, _ :: _, x, hf, hu => by simp [Ty.un'] at hu
  | .int k, [], x, hf, hu => rfl
  | .bool, [], x, hf, hu => rfl
  | .str, [], x, hf, hu => rfl
  | .flt k, [], x, hf, hu => rfl
  | .int k, _ :: _ :: _, x, hf, hu => by simp [Ty.un'] at hu
  | .bool, _ :: _ :: _, x, hf, hu => by simp [Ty.un'] at hu
  | .str, _ :: _ :: _, x, hf, hu => by simp [Ty.un'] at hu
  | .flt k, _ :: _ :: _, x, hf, hu => by simp [Ty.un'] at hu
  | .sl _ _, _, x, hf, hu => by simp [Ty.flat] at hf
  | .er _ _ _, _, x, hf, hu => by simp [Ty.flat] at hf
end
end Go.Proofs.Ytlbicmdfdpcdiaa.Vm
-- Printed by a program of this session's; Lean checks it.
set_option linter.unusedVariables false
set_option linter.unusedSimpArgs false
namespace Go.Proofs.Ytlbicmdfdpcdiaa.Vm
open Go.RowKit
section
variable {P : Program}
section
variable {O O' : Nat → Prop} {w0 : World} {S S' T : St} {G G' : Gs} {K K' : List Value} {a a' : Act} {w w' : World}
def Gs.absorb (G G' : Gs) (n : Nat) : Gs := ⟨G.E, fun b => if b < n then G.ow b else if G'.ow b = 1 then 1 else 0⟩
theorem Sat.absorb (hs : Sat O w0 T G K a w) (hc : Sat O' w S' G' K' a' w') : Sat O w0 T (G.absorb G' w.heap.size) K a w' := by
  have hb : Below w.heap.size w w' := hc.bl
  have hlt : ∀ b, G.ow b ≠ 0 → b < w.heap.size := fun b hb' => (hs.lt b hb').2
  have hsame : ∀ b, G.ow b ≠ 0 → (G.absorb G' w.heap.size).ow b = G.ow b := fun b h => by simp [Gs.absorb, hlt b h]
  have hw : ∀ b, G.ow b ≠ 0 → w'.heap[b]? = w.heap[b]? := fun b hb' => hb.block b (hlt b hb')
  have hH : (hp O G w).le (hp O (G.absorb G' w.heap.size) w') := fun b o hbo => by
    unfold hp at hbo ⊢
    split at hbo
    · rename_i hc'
      rcases hc' with hc' | hc'
      · rw [if_pos (.inl hc'), hb.block b (Nat.lt_of_lt_of_le (hs.ol b hc') hs.bl.size)]; exact hbo
      · rw [if_pos (.inr (by rw [hsame b (by omega)]; exact hc')), hw b (by omega)]; exact hbo
    · cases hbo
  refine { tm := hs.tm, sk := hs.sk, df := hs.df, bl := hs.bl.trans (hb.mono hs.bl.size), ol := hs.ol, lt := fun b hb' => ?_, ob := fun j p hj => ?_, fr := hs.fr }
  · by_cases h1 : b < w.heap.size
    · simp only [Gs.absorb, h1, if_true] at hb'
      exact ⟨(hs.lt b hb').1, Nat.lt_of_lt_of_le h1 hb.size⟩
    · simp only [Gs.absorb, h1, if_false] at hb'
      split at hb'
      · have := hc.lt b (by omega); exact ⟨Nat.le_trans hs.bl.size this.1, this.2⟩
      · exact absurd rfl hb'
  · have h1 := hs.ob j p hj
    cases p with
    | dead => exact h1
    | box t cs =>
      obtain ⟨b, us, q1, q2, q3, q4, q5⟩ := h1
      exact ⟨b, us, q1, (hsame b (by omega)).trans q2, (hw b (by omega)).trans q3, q4, q5⟩
    | row ow e' ver l =>
      cases ow with
      | none =>
        obtain ⟨ad, cp, q1, q2, q3⟩ := h1
        exact ⟨ad, cp, q1, q2, q3.mono hH⟩
      | some t =>
        obtain ⟨ad, cp, xs, q1, q2, q3, q4⟩ := h1
        exact ⟨ad, cp, xs, q1, own_move q2 (fun g hg => hw g.block (by have := q3 g hg; omega)), fun g hg => (hsame g.block (by have := q3 g hg; omega)).trans (q3 g hg), q4.mono hH⟩
theorem absorb_hp (hs : Sat O w0 T G K a w) (hc : Sat O' w S' G' K' a' w') (hO : ∀ b, O' b → O b ∨ G.ow b = 1) : (hp O' G' w').le (hp O (G.absorb G' w.heap.size) w') := fun b o hbo => by
  unfold hp at hbo ⊢
  split at hbo
  · rename_i hc'
    rw [if_pos]
    · exact hbo
    · rcases hc' with hc' | hc'
      · rcases hO b hc' with h1 | h1
        · exact .inl h1
        · right; simp [Gs.absorb, (hs.lt b (by omega)).2, h1]
      · right
        have := (hc.lt b (by omega)).1
        simp [Gs.absorb, show ¬ b < w.heap.size by omega, hc']
  · cases hbo
theorem Sat.take (h : Sat O w0 S G K a w) {k : Nat} (hk : S.h[k]? = some .dead) {t : TypeId} {e : Ty} {l : List e.D} {ad : Option Addr} {cp : Nat} {xs : List Value} (ho : w.ownsRow w0.heap.size t e.w (.slice ad l.length cp) l.length xs) (hf : ∀ g, ad = some g → G.ow g.block = 0) (hr : RepL (hp O G w) e l xs) :
    ∃ G2 : Gs, G.E.le G2.E ∧ G2.E k = some (.row 0 ad cp l.length e.w) ∧ (∀ b, (∀ g, ad = some g → g.block ≠ b) → G2.ow b = G.ow b) ∧ (∀ b, G.ow b = 1 → G2.ow b = 1) ∧ Sat O w0 { S with h := S.h.set k (.row (some t) e 0 l) } G2 K a w := by
  have hE := h.free hk
  have hlt : ∀ g, ad = some g → w0.heap.size ≤ g.block ∧ g.block < w.heap.size := fun g hg => World.ownsRow.lt ho g.block (by rw [hg]; rfl)
  have hne : ∀ b, G.ow b ≠ 0 → ad.map (·.block) ≠ some b := fun b hb e => by
    obtain ⟨g, hg, rfl⟩ := Option.map_eq_some_iff.1 e
    exact hb (hf g hg)
  obtain ⟨h2, h3⟩ := h.upd hk (w' := w) (o' := .row (some t) e 0 l) (G' := ⟨fun j => if j = k then some (.row 0 ad cp l.length e.w) else G.E j, fun b => if ad.map (·.block) = some b then k + 2 else G.ow b⟩)
    h.bl (Nat.le_refl _) (fun j hj => by simp [hj]) (fun g hg => by rw [hE] at hg; cases hg)
    (fun b h1 _ => by dsimp only; rw [if_neg (hne b h1)]) (fun b h1 => by
      dsimp only at h1
      split at h1
      · rename_i e
        obtain ⟨g, hg, rfl⟩ := Option.map_eq_some_iff.1 e
        exact .inr (hlt g hg)
      · exact .inl h1)
    (fun _ _ _ => rfl) (fun hl hH => ⟨ad, cp, xs, by simp, ho, fun g hg => by simp [hg], hr.mono hH⟩)
  refine ⟨_, h3, by simp, fun b hb => ?_, fun b hb => ?_, h2⟩
  · dsimp only
    rw [if_neg]
    intro e
    obtain ⟨g, hg, rfl⟩ := Option.map_eq_some_iff.1 e
    exact hb g hg rfl
  · dsimp only
    rw [if_neg (hne b (by omega))]; exact hb
theorem Sat.takeBox (h : Sat O w0 S G K a w) {k : Nat} (hk : S.h[k]? = some .dead) {t : TypeId} {b : Nat} {cs : List SV} {us : List Value} (hb : w0.heap.size ≤ b) (hh : w.heap[b]? = some (.cells us.toArray t (0, 0))) (hf : G.ow b = 0) (hL : IsL G.E cs us) (h1 : ∀ u ∈ us, u.oneCell' = true) :
    ∃ G2 : Gs, G.E.le G2.E ∧ G2.E k = some (.blk b) ∧ (∀ c, b ≠ c → G2.ow c = G.ow c) ∧ (∀ c, G.ow c = 1 → G2.ow c = 1) ∧ Sat O w0 { S with h := S.h.set k (.box t cs) } G2 K a w := by
  have hE := h.free hk
  have hlt : b < w.heap.size := (Array.getElem?_eq_some_iff.1 hh).1
  obtain ⟨h2, h3⟩ := h.upd hk (w' := w) (o' := .box t cs) (G' := ⟨fun j => if j = k then some (.blk b) else G.E j, fun c => if b = c then k + 2 else G.ow c⟩)
    h.bl (Nat.le_refl _) (fun j hj => by simp [hj]) (fun g hg => by rw [hE] at hg; cases hg)
    (fun c hc _ => by dsimp only; rw [if_neg (fun e : b = c => hc (by rw [← e]; exact hf))]) (fun c hc => by
      dsimp only at hc
      split at hc
      · rename_i e; subst e; exact .inr ⟨hb, hlt⟩
      · exact .inl hc)
    (fun _ _ _ => rfl) (fun hl hH => ⟨b, us, by simp, by simp, hh, hL.mono hl, h1⟩)
  refine ⟨_, h3, by simp, fun c hc => by dsimp only; rw [if_neg hc], fun c hc => ?_, h2⟩
  dsimp only
  rw [if_neg (fun e => by subst e; omega)]; exact hc
end
theorem hp_ow {O O' : Nat → Prop} {G G' G2 : Gs} {w : World} (h1 : ∀ b, G.ow b = 1 → G2.ow b = 1) (h : (hp O' G' w).le (hp O G w)) : (hp O' G' w).le (hp O G2 w) := fun b o hb => by
  have := h b o hb
  unfold hp at this ⊢
  split at this
  · rename_i hc; rw [if_pos (hc.imp id (h1 b))]; exact this
  · cases this
theorem own_base' {w : World} {base base' t size n : Nat} {v : Value} {xs : List Value} (h : w.ownsRow base t size v n xs) (hb : base' ≤ base) : w.ownsRow base' t size v n xs := by
  obtain ⟨h1, h2⟩ := h
  refine ⟨h1, ?_⟩
  rcases h2 with h2 | ⟨g, cap, cur, he, hg, r⟩
  · exact .inl h2
  · exact .inr ⟨g, cap, cur, he, Nat.le_trans hb hg, r⟩
theorem isL_one {E : Env} {x : SV} {us : List Value} (h : IsL E [x] us) : ∃ u, us = [u] ∧ Is E x u := by
  match us, h with
  | [u], h => simp only [IsL] at h; exact ⟨u, rfl, h.1⟩
  | [], h => simp [IsL] at h
  | _ :: _ :: _, h => simp [IsL] at h
theorem isl_nil {E E' : Env} {us : List Value} (h : IsL E [] us) : IsL E' [] us := by
  cases us with
  | nil => simp [IsL]
  | cons _ _ => simp [IsL] at h
theorem isl_v {E E' : Env} {v : Value} {us : List Value} (h : IsL E [.v v] us) : IsL E' [.v v] us := by
  obtain ⟨u, rfl, hv⟩ := isL_one h
  simp only [IsL, Is] at hv ⊢
  exact ⟨hv, trivial⟩
theorem ur_sl {t : TypeId} {e : Ty} {y : SV} {h : List SO} {x : List e.D} (hu : (Ty.sl t e).ur [y] h = some x) : (y = .v (.slice none 0 0) ∧ x = []) ∨ ∃ k ver, y = .sl k ver none ∧ h[k]? = some (.row (some t) e ver x) := by
  cases y with
  | v v =>
    cases v with
    | slice ad n c =>
      cases ad with
      | none =>
        cases n with
        | zero =>
          cases c with
          | zero => simp only [Ty.ur, Option.some.injEq] at hu; exact .inl ⟨rfl, hu.symm⟩
          | succ c => simp [Ty.ur] at hu
        | succ n => simp [Ty.ur] at hu
      | some a => simp [Ty.ur] at hu
    | _ => simp [Ty.ur] at hu
  | sl k ver r =>
    cases r with
    | none =>
      right
      simp only [Ty.ur] at hu
      split at hu
      · rename_i t' e' ver' l hk
        split at hu
        · rename_i hq
          obtain ⟨rfl, rfl⟩ := hq
          split at hu
          · rename_i hq2
            subst hq2
            simp only [Option.some.injEq] at hu
            subst hu
            exact ⟨k, ver, rfl, hk⟩
          · cases hu
        · cases hu
      · cases hu
    | some q => simp [Ty.ur] at hu
  | _ => simp [Ty.ur] at hu
theorem ur_er {pt st : TypeId} {s : Ty} {y : SV} {h : List SO} {x : Option s.D} (hu : (Ty.er pt st s).ur [y] h = some x) : (y = .v .nilIface ∧ x = none) ∨ ∃ k cs z, y = .ifc pt (.ptr k 0) ∧ h[k]? = some (.box st cs) ∧ s.flat = true ∧ s.un' cs h = some z ∧ x = some z := by
  cases y with
  | v v =>
    cases v with
    | nilIface => simp only [Ty.ur, Option.some.injEq] at hu; exact .inl ⟨rfl, hu.symm⟩
    | _ => simp [Ty.ur] at hu
  | ifc pt' y =>
    cases y with
    | ptr k off =>
      cases off with
      | zero =>
        right
        simp only [Ty.ur] at hu
        split at hu
        · rename_i st' cs' hk
          split at hu
          · rename_i hq
            obtain ⟨rfl, rfl, hfl⟩ := hq
            obtain ⟨y, hy, rfl⟩ := Option.map_eq_some_iff.1 hu
            exact ⟨k, cs', y, rfl, hk, hfl, hy, rfl⟩
          · cases hu
        · cases hu
      | succ n => simp [Ty.ur] at hu
    | _ => simp [Ty.ur] at hu
  | _ => simp [Ty.ur] at hu
theorem en_ok {O' : Nat → Prop} {S' : St} {G' : Gs} {K' : List Value} {a' : Act} {w w' : World} (hc : Sat O' w S' G' K' a' w') {O : Nat → Prop} {w0 : World} {K : List Value} {a : Act} (hbase : w0.heap.size ≤ w.heap.size) : ∀ {t : Ty} {x : t.D} {cs : List SV} {us : List Value} {b : Nat} {vs : List SV} {os : List SO} {T : St} {G : Gs} (used : List Nat), t.ur cs S'.h = some x → IsL G'.E cs us → EnR t x b vs os → nodup (rkeys cs) = true → (∀ k ∈ rkeys cs, k ∉ used) → Sat O w0 T G K a w' → (∀ bl k', w.heap.size ≤ bl → G'.ow bl = k' + 2 → k' ∉ used → G.ow bl = 0) → (t.norow = true ∨ (hp O' G' w').le (hp O G w')) → (∀ j, j < os.length → T.h[b + j]? = some .dead) →
    ∃ G2 : Gs, G.E.le G2.E ∧ IsL G2.E vs us ∧ Sat O w0 { T with h := setNew T.h b os } G2 K a w' ∧ (∀ bl k', w.heap.size ≤ bl → G'.ow bl = k' + 2 → k' ∉ used ++ rkeys cs → G2.ow bl = 0) ∧ (∀ bl, G.ow bl = 1 → G2.ow bl = 1)
  | .pr p q, x, cs, us, b, vs, os, T, G, used, hu, hL, hR, hn, hd, hs, hi, hH, hdead => by
    simp only [Ty.ur, Option.bind_eq_some_iff, Option.map_eq_some_iff] at hu
    obtain ⟨y, hy, z, hz, rfl⟩ := hu
    obtain ⟨v1, o1, v2, o2, rfl, rfl, e1, e2⟩ := hR
    obtain ⟨c1, c2⟩ := hL.cut p.w
    have hk : rkeys cs = rkeys (cs.take p.w) ++ rkeys (cs.drop p.w) := by rw [← rkeys_app, List.take_append_drop]
    rw [hk] at hn hd ⊢
    obtain ⟨n1, n2, n3⟩ := nodup_app hn
    have hr1 : p.norow = true ∨ (hp O' G' w').le (hp O G w') := hH.imp (fun h => by simp only [Ty.norow, Bool.and_eq_true] at h; exact h.1) id
    obtain ⟨G1, l1, i1, s1, f1, w1⟩ := en_ok hc hbase used hy c1 e1 n1 (fun k hk => hd k (List.mem_append_left _ hk)) hs hi hr1 (fun j hj => hdead j (by simp; omega))
    have hr2 : q.norow = true ∨ (hp O' G' w').le (hp O G1 w') := hH.imp (fun h => by simp only [Ty.norow, Bool.and_eq_true] at h; exact h.2) (hp_ow w1)
    obtain ⟨G2, l2, i2, s2, f2, w2⟩ := en_ok hc hbase (used ++ rkeys (cs.take p.w)) hz c2 e2 n2 (fun k hk hm => by
      rcases List.mem_append.1 hm with hm | hm
      · exact hd k (List.mem_append_right _ hk) hm
      · exact n3 k hm hk) s1 f1 hr2 (fun j hj => by
        show (setNew T.h b o1)[b + o1.length + j]? = _
        rw [setNew_h (by omega), Nat.add_assoc]
        exact hdead (o1.length + j) (by simp; omega))
    refine ⟨G2, l1.trans l2, ?_, ?_, ?_, fun bl h => w2 bl (w1 bl h)⟩
    · rw [← List.take_append_drop p.w us]; exact (i1.mono l2).append i2
    · rw [setNew_app]; exact s2
    · rw [← List.append_assoc]; exact f2
  | .un, x, [], us, b, vs, os, T, G, used, hu, hL, hR, hn, hd, hs, hi, hH, hdead => by
    obtain ⟨rfl, rfl⟩ := hR
    exact ⟨G, Env.le_refl _, isl_nil hL, hs, by simpa [rkeys] using hi, fun _ h => h⟩
  | .sl t e, x, [y], us, b, vs, os, T, G, used, hu, hL, hR, hn, hd, hs, hi, hH, hdead => by
    obtain ⟨rfl, rfl⟩ := hR
    have hd0 := hdead 0 (by simp)
    simp only [Nat.add_zero] at hd0
    obtain ⟨u, rfl, hv⟩ := isL_one hL
    rcases ur_sl hu with ⟨rfl, rfl⟩ | ⟨k, ver, rfl, hk⟩
    · simp only [Is] at hv
      obtain ⟨G2, l1, E1, o1, o2, s1⟩ := hs.take hd0 (t := t) (e := e) (l := []) (ad := none) (cp := 0) (xs := []) (World.ownsRow_nil _ _ _ _) (by simp) rfl
      refine ⟨G2, l1, ?_, s1, fun bl k' h1 h2 h3 => by rw [o1 bl (by simp)]; exact hi bl k' h1 h2 (by simpa [rkeys] using h3), o2⟩
      simp only [IsL, Is]
      exact ⟨⟨0, none, 0, _, _, E1, Nat.le_refl _, ⟨_, _, _, hv⟩, fun _ => hv⟩, trivial⟩
    · obtain ⟨ad, cp, xs, q1, q2, q3, q4⟩ := hc.ob k _ hk
      have huv : u = .slice ad x.length cp := by
        simp only [Is] at hv
        obtain ⟨v, A, c, n, wd, g1, _, _, g2⟩ := hv
        rw [q1] at g1
        simp only [Option.some.injEq, Gh.row.injEq] at g1
        obtain ⟨rfl, rfl, rfl, rfl, rfl⟩ := g1
        exact g2 rfl
      have hku : k ∉ used := hd k (by simp [rkeys])
      have hH' : (hp O' G' w').le (hp O G w') := by
        rcases hH with h | h
        · simp [Ty.norow] at h
        · exact h
      have hlt : ∀ g, ad = some g → w.heap.size ≤ g.block := fun g hg => (World.ownsRow.lt q2 g.block (by rw [hg]; rfl)).1
      obtain ⟨G2, l1, E1, o1, o2, s1⟩ := hs.take hd0 (own_base' q2 hbase) (fun g hg => hi g.block k (hlt g hg) (q3 g hg) hku) (q4.mono hH')
      refine ⟨G2, l1, ?_, s1, fun bl k' h1 h2 h3 => ?_, o2⟩
      · simp only [IsL, Is]
        exact ⟨⟨0, ad, cp, _, _, E1, Nat.le_refl _, ⟨_, _, _, huv⟩, fun _ => huv⟩, trivial⟩
      · simp only [rkeys, List.mem_append, List.mem_singleton, not_or] at h3
        rw [o1 bl (fun g hg e => by
          have := q3 g hg
          rw [e, h2] at this
          omega)]
        exact hi bl k' h1 h2 h3.1
  | .er pt st s, x, [y], us, b, vs, os, T, G, used, hu, hL, hR, hn, hd, hs, hi, hH, hdead => by
    obtain ⟨u, rfl, hv⟩ := isL_one hL
    rcases ur_er hu with ⟨rfl, rfl⟩ | ⟨k, cs', z, rfl, hk, hfl, hy, rfl⟩
    · rcases hR with ⟨_, rfl, rfl⟩ | ⟨y, he, _⟩
      · exact ⟨G, Env.le_refl _, isl_v hL, hs, by simpa [rkeys] using hi, fun _ h => h⟩
      · cases he
    · rcases hR with ⟨he, _⟩ | ⟨y', he, rfl, rfl⟩
      · cases he
      · cases he
        simp only [Is] at hv
        obtain ⟨v2, rfl, bl0, hE0, rfl⟩ := hv
        obtain ⟨b0, us0, q1, q2, q3, q4, q5⟩ := hc.ob k _ hk
        rw [hE0] at q1
        cases q1
        have hd0 := hdead 0 (by simp)
        simp only [Nat.add_zero] at hd0
        have hku : k ∉ used := hd k (by simp [rkeys])
        have hb0 := (hc.lt bl0 (by omega)).1
        have hrep : Rep (fun c => w'.heap[c]?) s z us0 := un_rep (flat_noer hfl) hy q4 (by rw [flat_keys hfl hy]; simp)
        obtain ⟨G2, l1, E1, o1, o2, s1⟩ := hs.takeBox hd0 (t := st) (b := bl0) (cs := (s.cs z).map pcv) (Nat.le_trans hbase hb0) q3 (hi bl0 k hb0 q2 hku) (pcl_flat hfl hrep) q5
        refine ⟨G2, l1, ?_, s1, fun bl k' h1 h2 h3 => ?_, o2⟩
        · simp only [IsL, Is]
          exact ⟨⟨_, rfl, bl0, E1, rfl⟩, trivial⟩
        · simp only [rkeys, List.mem_append, List.mem_singleton, not_or] at h3
          rw [o1 bl (fun e => by subst e; rw [q2] at h2; omega)]
          exact hi bl k' h1 h2 h3.1
  | .int k, x, [y], us, b, vs, os, T, G, used, hu, hL, hR, hn, hd, hs, hi, hH, hdead => by
    obtain ⟨rfl, rfl⟩ := hR
    obtain ⟨u, rfl, hv⟩ := isL_one hL
    have hr := unl_rep (t := .int k) hu hv (fun k _ => hc.allRd k)
    obtain rfl : u = .int k x := by simpa using show [u] = [.int k x] from hr
    exact ⟨G, Env.le_refl _, by simp [IsL, Is], hs, fun bl k' h1 h2 h3 => hi bl k' h1 h2 (fun hm => h3 (List.mem_append_left _ hm)), fun _ h => h⟩
  | .bool, x, [y], us, b, vs, os, T, G, used, hu, hL, hR, hn, hd, hs, hi, hH, hdead => by
    obtain ⟨rfl, rfl⟩ := hR
    obtain ⟨u, rfl, hv⟩ := isL_one hL
    have hr := unl_rep (t := .bool) hu hv (fun k _ => hc.allRd k)
    obtain rfl : u = .bool x := by simpa using show [u] = [.bool x] from hr
    exact ⟨G, Env.le_refl _, by simp [IsL, Is], hs, fun bl k' h1 h2 h3 => hi bl k' h1 h2 (fun hm => h3 (List.mem_append_left _ hm)), fun _ h => h⟩
  | .str, x, [y], us, b, vs, os, T, G, used, hu, hL, hR, hn, hd, hs, hi, hH, hdead => by
    obtain ⟨rfl, rfl⟩ := hR
    obtain ⟨u, rfl, hv⟩ := isL_one hL
    have hr := unl_rep (t := .str) hu hv (fun k _ => hc.allRd k)
    obtain rfl : u = .string x := by simpa using show [u] = [.string x] from hr
    exact ⟨G, Env.le_refl _, by simp [IsL, Is], hs, fun bl k' h1 h2 h3 => hi bl k' h1 h2 (fun hm => h3 (List.mem_append_left _ hm)), fun _ h => h⟩
  | .flt k, x, [y], us, b, vs, os, T, G, used, hu, hL, hR, hn, hd, hs, hi, hH, hdead => by
    obtain ⟨rfl, rfl⟩ := hR
    obtain ⟨u, rfl, hv⟩ := isL_one hL
    have hr := unl_rep (t := .flt k) hu hv (fun k _ => hc.allRd k)
    obtain rfl : u = .float k x := by simpa using show [u] = [.float k x] from hr
    exact ⟨G, Env.le_refl _, by simp [IsL, Is], hs, fun bl k' h1 h2 h3 => hi bl k' h1 h2 (fun hm => h3 (List.mem_append_left _ hm)), fun _ h => h⟩
  | .int k, x, [], us, b, vs, os, T, G, used, hu, hL, hR, hn, hd, hs, hi, hH, hdead => by simp [Ty.ur] at hu
  | .int k, x, _ :: _ :: _, us, b, vs, os, T, G, used, hu, hL, hR, hn, hd, hs, hi, hH, hdead => by simp [Ty.ur] at hu
  | .bool, x, [], us, b, vs, os, T, G, used, hu, hL, hR, hn, hd, hs, hi, hH, hdead => by simp [Ty.ur] at hu
  | .bool, x, _ :: _ :: _, us, b, vs, os, T, G, used, hu, hL, hR, hn, hd, hs, hi, hH, hdead => by simp [Ty.ur] at hu
  | .str, x, [], us, b, vs, os, T, G, used, hu, hL, hR, hn, hd, hs, hi, hH, hdead => by simp [Ty.ur] at hu
  | .str, x, _ :: _ :: _, us, b, vs, os, T, G, used, hu, hL, hR, hn, hd, hs, hi, hH, hdead => by simp [Ty.ur] at hu
  | .flt k, x, [], us, b, vs, os, T, G, used, hu, hL, hR, hn, hd, hs, hi, hH, hdead => by simp [Ty.ur] at hu
  | .flt k, x, _ :: _ :: _, us, b, vs, os, T, G, used, hu, hL, hR, hn, hd, hs, hi, hH, hdead => by simp [Ty.ur] at hu
  | .sl t e, x, [], us, b, vs, os, T, G, used, hu, hL, hR, hn, hd, hs, hi, hH, hdead => by simp [Ty.ur] at hu
  | .sl t e, x, _ :: _ :: _, us, b, vs, os, T, G, used, hu, hL, hR, hn, hd, hs, hi, hH, hdead => by simp [Ty.ur] at hu
  | .er pt st s, x, [], us, b, vs, os, T, G, used, hu, hL, hR, hn, hd, hs, hi, hH, hdead => by simp [Ty.ur] at hu
  | .er pt st s, x, _ :: _ :: _, us, b, vs, os, T, G, used, hu, hL, hR, hn, hd, hs, hi, hH, hdead => by simp [Ty.ur] at hu
  | .un, x, _ :: _, us, b, vs, os, T, G, used, hu, hL, hR, hn, hd, hs, hi, hH, hdead => by simp [Ty.ur] at hu
end
end Go.Proofs.Ytlbicmdfdpcdiaa.Vm
-- Printed by a program of this session's; Lean checks it.
set_option linter.unusedVariables false
set_option linter.unusedSimpArgs false
namespace Go.Proofs.Ytlbicmdfdpcdiaa.Vm
open Go.RowKit
section
variable {P : Program}
theorem unl_rows {t : Ty} {y : SV} {h : List SO} {x : t.D} (hu : t.unl y h = some x) : ∀ k ∈ keysOf [y], ∃ o e ver l, h[k]? = some (.row o e ver l) := by
  intro k hk
  cases y with
  | sl k' ver r =>
    simp only [keysOf, List.mem_singleton] at hk
    subst hk
    cases t with
    | sl t e =>
      rw [Ty.unl.eq_8 _ _ _ _ (by simp)] at hu
      split at hu
      · rename_i R hR
        obtain ⟨h1, h2⟩ := rowOf_some hR
        simp only [SV.sl.injEq] at h1
        rw [h1.1]; exact ⟨_, _, _, _, h2⟩
      · cases hu
    | _ => simp [Ty.unl] at hu
  | _ => simp [keysOf] at hk
theorem un_rows {h : List SO} : ∀ {t : Ty} {cs : List SV} {x : t.D}, t.noer = true → t.un' cs h = some x → ∀ k ∈ keysOf cs, ∃ o e ver l, h[k]? = some (.row o e ver l)
  | .pr a b, cs, x, hn, hu => by
    simp only [Ty.un', Option.bind_eq_some_iff, Option.map_eq_some_iff] at hu
    simp only [Ty.noer, Bool.and_eq_true] at hn
    obtain ⟨y, hy, z, hz, rfl⟩ := hu
    intro k hk
    rw [← List.take_append_drop a.w cs, keys_app] at hk
    rcases List.mem_append.1 hk with hk | hk
    · exact un_rows hn.1 hy k hk
    · exact un_rows hn.2 hz k hk
  | .un, [], x, hn, hu => by simp [keysOf]
  | .int k, [y], x, hn, hu => unl_rows hu
  | .bool, [y], x, hn, hu => unl_rows hu
  | .str, [y], x, hn, hu => unl_rows hu
  | .flt k, [y], x, hn, hu => unl_rows hu
  | .sl t e, [y], x, hn, hu => unl_rows (t := .sl t e) hu
  | .er _ _ _, cs, x, hn, hu => by simp [Ty.noer] at hn
  | .un, _ :: _, x, hn, hu => by simp [Ty.un'] at hu
  | .int k, [], x, hn, hu => by simp [Ty.un'] at hu
  | .bool, [], x, hn, hu => by simp [Ty.un'] at hu
  | .str, [], x, hn, hu => by simp [Ty.un'] at hu
  | .flt k, [], x, hn, hu => by simp [Ty.un'] at hu
  | .sl t e, [], x, hn, hu => by simp [Ty.un'] at hu
  | .int k, _ :: _ :: _, x, hn, hu => by simp [Ty.un'] at hu
  | .bool, _ :: _ :: _, x, hn, hu => by simp [Ty.un'] at hu
  | .str, _ :: _ :: _, x, hn, hu => by simp [Ty.un'] at hu
  | .flt k, _ :: _ :: _, x, hn, hu => by simp [Ty.un'] at hu
  | .sl t e, _ :: _ :: _, x, hn, hu => by simp [Ty.un'] at hu
def G0 : Gs := ⟨fun _ => none, fun _ => 0⟩
theorem setNew_full : ∀ (os pre : List SO), setNew (pre ++ List.replicate os.length .dead) pre.length os = pre ++ os
  | [], pre => by simp [setNew]
  | o :: os, pre => by
    simp only [setNew, List.length_cons, List.replicate_succ]
    have := setNew_full os (pre ++ [o])
    rw [List.set_append_right _ _ (Nat.le_refl _)]
    simpa using this
theorem start_ok {O : Nat → Prop} {w : World} (hO : ∀ b, O b → b < w.heap.size) {a : Ty} {p : a.D} {us : List Value} (h : Rep (hp O G0 w) a p us) : ∃ G : Gs, IsL G.E (fromPC 0 (a.cs p)).1 us ∧ ∀ (t : List SV) (ac : Act), ac.defers = [] → IsL G.E t ac.tmps.toList → Sat O w ⟨t, [], heapT a p⟩ G [] ac w := by
  have s0 : Sat O w ⟨[], [], List.replicate (heapT a p).length .dead⟩ G0 [] { tmps := #[], defers := [] } w :=
    { tm := by simp [IsL], sk := by simp [IsL], df := rfl, bl := Below.refl _ _, ol := hO, lt := fun b hb => absurd rfl hb
      ob := fun k o hk => by
        rw [List.getElem?_replicate] at hk
        split at hk
        · cases hk; rfl
        · cases hk
      fr := fun _ _ => rfl }
  obtain ⟨G, e1, h1, s1⟩ := Sat.open_ (b := 0) s0 (rep_pcl h) (fun j hj => by
    rw [Nat.zero_add, List.getElem?_replicate]; exact if_pos hj)
  have hset := setNew_full (fromPC 0 (a.cs p)).2 []
  simp only [List.nil_append, List.length_nil] at hset
  have s2 := s1.ob
  have s3 := s1.fr
  dsimp only at s2 s3
  unfold heapT at s2 s3
  rw [hset] at s2 s3
  exact ⟨G, h1, fun t ac hd ht => { tm := ht, sk := by simp [IsL], df := hd, bl := Below.refl _ _, ol := hO, lt := s1.lt, ob := s2, fr := s3 }⟩
def shOk (sh : List (Bool × Nat)) (n : Nat) : Bool := sh.all (fun q => q.1 || q.2 == 1) && widths sh == n
theorem shOk_spec {sh : List (Bool × Nat)} {n : Nat} (h : shOk sh n = true) : (∀ q ∈ sh, q.1 = false → q.2 = 1) ∧ widths sh = n := by
  simp only [shOk, Bool.and_eq_true, List.all_eq_true, Bool.or_eq_true, beq_iff_eq] at h
  exact ⟨fun q hq h1 => by rcases h.1 q hq with h2 | h2 <;> simp_all, h.2⟩
theorem Rd.same {H : Hp} {E : Env} {h h' : List SO} {k : Nat} (hr : Rd H E h k) (he : h'[k]? = h[k]?) : Rd H E h' k := fun o e ver l hk => hr o e ver l (he ▸ hk)
theorem ctr_ok {C : List Ctr} (hC : ∀ c ∈ C, CtrOk P c) {f : FuncId} {fn : Func} (hf : P.funcs[f]? = some fn) (hn : (fn.name == "runtime.NumGoroutine") = false) (hb : fn.body.isSome = true) {a r : Ty} {ash rsh : List (Bool × Nat)} (hna : a.noer = true) (hsa : shOk ash a.w = true) (hsr : shOk rsh r.w = true) {g : a.D → Option r.D} {Ls : List LN} {k : Nat}
    (hrun : ∀ p q, g p = some q → runF P C Ls k fn (decT rsh r some) (argsT ash a p) (heapT a p) = some q) : CtrOk P (ctrT f a r ash rsh g) := by
  obtain ⟨sa1, sa2⟩ := shOk_spec hsa
  obtain ⟨sr1, sr2⟩ := shOk_spec hsr
  intro R args h b κ res hr
  simp only [ctrT] at hr
  split at hr
  case h_2 => cases hr
  case h_1 cs hcs =>
  split at hr
  case h_2 => cases hr
  case h_1 p hp0 =>
  unfold bnd at hr
  obtain ⟨q, hq, hr⟩ := Option.bind_eq_some_iff.1 hr
  obtain ⟨vs, os, hκ, hE⟩ := en_ex hr
  refine ⟨_, hκ, rfl, fun T hro hft O w0 G K ac w hs vs' hL => ?_⟩
  obtain ⟨us, hlen, hLc, rfl⟩ := argCells_is hcs hL
  have hrows := un_rows hna hp0
  have hfit := fits_iff.1 hft
  -- what the callee may read, and the caller's state as it stands then
  obtain ⟨O', G1, T1h, hO', hT1, hE1, s1, hrep, hH⟩ : ∃ (O' : Nat → Prop) (G1 : Gs) (T1h : List SO), (∀ bl, O' bl → bl < w.heap.size) ∧ T1h = setObjs T.h (if r.norow then [] else frz h cs) ∧ G1.E = G.E ∧ Sat O w0 { T with h := T1h } G1 K ac w ∧ Rep (hp O' G0 w) a p us ∧ (r.norow = true ∨ ∀ bl, O' bl → O bl ∨ G1.ow bl = 1) := by
    by_cases hnr : r.norow = true
    · refine ⟨(· < w.heap.size), G, T.h, fun _ h => h, by rw [if_pos hnr]; rfl, rfl, hs, ?_, .inl hnr⟩
      have hle : Hp.le (fun bl => w.heap[bl]?) (hp (· < w.heap.size) G0 w) := fun bl o ho => by
        have hlt := (Array.getElem?_eq_some_iff.1 ho).1
        rw [hp_of (O := (· < w.heap.size)) (.inl hlt)]; exact ho
      exact (un_rep hna hp0 hLc (fun k hk => (hs.allRd k).same (hro k hk).symm)).mono hle
    · obtain ⟨G1, e1, hmono, s1, hRd⟩ := hs.frzRd (h0 := h) (cs := cs) hro hrows
      refine ⟨fun bl => O bl ∨ G1.ow bl = 1, G1, _, fun bl hbl => ?_, by rw [if_neg hnr], e1, s1, ?_, .inr fun _ h => h⟩
      · rcases hbl with hbl | hbl
        · exact Nat.lt_of_lt_of_le (s1.ol bl hbl) s1.bl.size
        · exact (s1.lt bl (by omega)).2
      · have hle : (hp O G1 w).le (hp (fun bl => O bl ∨ G1.ow bl = 1) G0 w) := fun bl o ho => by
          unfold hp at ho
          split at ho
          · rename_i hc; rw [hp_of (.inl hc)]; exact ho
          · cases ho
        exact (un_rep hna hp0 (by rw [e1]; exact hLc) hRd).mono hle
  subst hT1
  obtain ⟨G2, i1, i2⟩ := start_ok hO' hrep
  have hargs : IsL G2.E (argsT ash a p) (packV ash us) := pack_is sa1 hlen i1
  refine .inl ⟨⟨fn, hf, hn, hb⟩, (run_calls hC hf (hrun p q hq) hargs (fun ac' hd ht => i2 _ _ hd ht)).mono ?_⟩
  rintro e w' ⟨us2, l, S', G', a', rfl, hdec, hl2, hs'⟩
  simp only [decT, Option.bind_eq_some_iff] at hdec
  obtain ⟨cs', hcs', hdec⟩ := hdec
  split at hdec
  case isFalse => cases hdec
  case isTrue hnd =>
  obtain ⟨q', hur, hq'⟩ := Option.bind_eq_some_iff.1 hdec
  simp only [Option.some.injEq] at hq'
  subst hq'
  obtain ⟨us3, hlen3, hL3, rfl⟩ := argCells_is hcs' hl2
  have sa := s1.absorb hs'
  have hdead : ∀ j, j < os.length → (setObjs T.h (if r.norow then [] else frz h cs))[b + j]? = some .dead := fun j hj => by
    have hd := hfit.1 j hj
    rw [objs_other (fun q0 hq0 e => ?_)]
    · exact hd
    · have := (hfit.2.2.2 q0 hq0).1
      rw [e, hd] at this
      simp [alive] at this
  obtain ⟨G3, l3, i3, s3, _, _⟩ := en_ok hs' hs.bl.size [] hur hL3 hE hnd (by simp) sa (fun bl k' h1 h2 _ => by simp [Gs.absorb, show ¬ bl < w.heap.size by omega, h2]) (hH.imp id (fun hh => absorb_hp s1 hs' hh)) hdead
  refine ⟨_, G3, rfl, fun dst => ?_⟩
  have := s3.put dst (one_is (pack_is sr1 hlen3 i3))
  exact this
def Ty.vs : (t : Ty) → t.D → List Value
  | .int k, n => [.int k n]
  | .bool, b => [.bool b]
  | .str, s => [.string s]
  | .flt k, n => [.float k n]
  | .pr a b, x => a.vs x.1 ++ b.vs x.2
  | _, _ => []
theorem rep_vs {H : Hp} : ∀ {t : Ty} {x : t.D} {cs : List Value}, t.flat = true → Rep H t x cs → cs = t.vs x
  | .int k, n, cs, _, h => h
  | .bool, b, cs, _, h => h
  | .str, s, cs, _, h => h
  | .flt k, n, cs, _, h => h
  | .pr a b, x, cs, hf, ⟨c1, c2, h1, h2, h3⟩ => by
    simp only [Ty.flat, Bool.and_eq_true] at hf
    rw [h1, rep_vs hf.1 h2, rep_vs hf.2 h3]; rfl
  | .un, _, cs, _, h => h
  | .sl _ _, _, _, hf, _ => by simp [Ty.flat] at hf
  | .er _ _ _, _, _, hf, _ => by simp [Ty.flat] at hf
theorem enr_flat : ∀ {t : Ty} {x : t.D} {b : Nat} {vs : List SV} {os : List SO}, t.flat = true → EnR t x b vs os → os = [] ∧ vs = (t.vs x).map .v
  | .int k, n, b, vs, os, _, h => by obtain ⟨rfl, rfl⟩ := h; exact ⟨rfl, rfl⟩
  | .bool, n, b, vs, os, _, h => by obtain ⟨rfl, rfl⟩ := h; exact ⟨rfl, rfl⟩
  | .str, n, b, vs, os, _, h => by obtain ⟨rfl, rfl⟩ := h; exact ⟨rfl, rfl⟩
  | .flt k, n, b, vs, os, _, h => by obtain ⟨rfl, rfl⟩ := h; exact ⟨rfl, rfl⟩
  | .un, n, b, vs, os, _, h => by obtain ⟨rfl, rfl⟩ := h; exact ⟨rfl, rfl⟩
  | .pr a c, x, b, vs, os, hf, ⟨v1, o1, v2, o2, h1, h2, h3, h4⟩ => by
    simp only [Ty.flat, Bool.and_eq_true] at hf
    obtain ⟨rfl, rfl⟩ := enr_flat hf.1 h3
    obtain ⟨rfl, rfl⟩ := enr_flat hf.2 h4
    subst h1 h2
    exact ⟨rfl, by simp [Ty.vs]⟩
  | .sl _ _, _, _, _, _, hf, _ => by simp [Ty.flat] at hf
  | .er _ _ _, _, _, _, _, hf, _ => by simp [Ty.flat] at hf
theorem flat_nn : ∀ {t : Ty}, t.flat = true → t.noer = true ∧ t.norow = true
  | .pr a b, h => by
    simp only [Ty.flat, Bool.and_eq_true] at h
    simp [Ty.noer, Ty.norow, flat_nn h.1, flat_nn h.2]
  | .int _, _ => ⟨rfl, rfl⟩
  | .bool, _ => ⟨rfl, rfl⟩
  | .str, _ => ⟨rfl, rfl⟩
  | .flt _, _ => ⟨rfl, rfl⟩
  | .un, _ => ⟨rfl, rfl⟩
  | .sl _ _, h => by simp [Ty.flat] at h
  | .er _ _ _, h => by simp [Ty.flat] at h
theorem vs_len : ∀ {t : Ty} {x : t.D}, t.flat = true → (t.vs x).length = t.w
  | .pr a b, x, h => by
    simp only [Ty.flat, Bool.and_eq_true] at h
    simp [Ty.vs, Ty.w, vs_len h.1, vs_len h.2]
  | .int _, _, _ => rfl
  | .bool, _, _ => rfl
  | .str, _, _ => rfl
  | .flt _, _, _ => rfl
  | .un, _, _ => rfl
  | .sl _ _, _, h => by simp [Ty.flat] at h
  | .er _ _ _, _, h => by simp [Ty.flat] at h
theorem ctr_flat {f : FuncId} {a r : Ty} {ash rsh : List (Bool × Nat)} (hfa : a.flat = true) (hfr : r.flat = true) (hsa : shOk ash a.w = true) (hsr : shOk rsh r.w = true) {g : a.D → Option r.D}
    (hrun : ∀ p q, g p = some q → ∀ w, Eff P f (packV ash (a.vs p)).toArray w fun e w' => e = .returned (oneV (packV rsh (r.vs q))) ∧ Below w.heap.size w w') : CtrOk P (ctrT f a r ash rsh g) := by
  obtain ⟨sr1, sr2⟩ := shOk_spec hsr
  obtain ⟨na, ra⟩ := flat_nn hfa
  obtain ⟨nr, rr⟩ := flat_nn hfr
  intro R args h b κ res hr
  simp only [ctrT] at hr
  split at hr
  case h_2 => cases hr
  case h_1 cs hcs =>
  split at hr
  case h_2 => cases hr
  case h_1 p hp0 =>
  unfold bnd at hr
  obtain ⟨q, hq, hr⟩ := Option.bind_eq_some_iff.1 hr
  obtain ⟨vs, os, hκ, hE⟩ := en_ex hr
  obtain ⟨rfl, rfl⟩ := enr_flat hfr hE
  refine ⟨_, hκ, rfl, fun T hro hft O w0 G K ac w hs vs' hL => ?_⟩
  obtain ⟨us, hlen, hLc, rfl⟩ := argCells_is hcs hL
  have hrep := un_rep na hp0 hLc (fun k hk => (hs.allRd k).same (hro k hk).symm)
  have hus := rep_vs hfa hrep
  subst hus
  have key : ∀ (e : Ending) (w' : World), (e = .returned (oneV (packV rsh (r.vs q))) ∧ Below w.heap.size w w') → ∃ v G', e = .returned v ∧ ∀ dst, Sat O w0 (ap dst b { val := one (pack rsh ((r.vs q).map .v)), ro := keysOf cs, rw := if r.norow then [] else frz h cs, nw := [] } T) G' K (ac.put dst v) w' := by
    rintro e w' ⟨rfl, hb⟩
    refine ⟨_, G, rfl, fun dst => ?_⟩
    have := (hs.world hb).put dst (one_is (pack_is sr1 ((vs_len hfr).trans sr2.symm) (IsL.vs (E := G.E) (r.vs q))))
    simpa [ap, rr, setObjs, setNew] using this
  rcases hrun p q hq w with ⟨h1, h2⟩ | ⟨v, w', h1, h2⟩
  · exact .inl ⟨h1, h2.mono key⟩
  · exact .inr ⟨v, w', h1, key _ _ h2⟩
end
end Go.Proofs.Ytlbicmdfdpcdiaa.Vm
-- Printed by a program of this session's; Lean checks it.
set_option linter.unusedVariables false
set_option linter.unusedSimpArgs false
namespace Go.Proofs.Ytlbicmdfdpcdiaa.Vm
open Go.RowKit
def itn {α R : Type} (T : (α → Option R) → α → Option R) : Nat → α → Option R
  | 0, _ => none
  | n + 1, v => T (itn T n) v
def rnd {R : Type} (g : St → Option R) (κ : Ex → St → Option R) : Ex → St → Option R := fun e S' => match e with | .normal => g S' | .exit i => κ (.exit i) S' | .ret => κ .ret S'
theorem loop_eq {R : Type} {body : St → (Ex → St → Option R) → Option R} {nm : St → St} {κ : Ex → St → Option R} {α : Type} {st : α → St} {T : (α → Option R) → α → Option R} (h : ∀ (G : St → Option R) v, body (st v) (rnd (fun S => G (nm S)) κ) = T (fun v => G (st v)) v) (n : Nat) : ∀ v, loopRec body nm n (st v) κ = itn T n v := by
  induction n with
  | zero => intro v; rfl
  | succ n ih =>
    intro v
    rw [itn, ← funext ih, ← h (fun S => loopRec body nm n S κ) v]
    rfl
def mkSt (n : Nat) (l : List (Nat × SV)) (k : List SV) (h : List SO) : St := ⟨l.foldl (fun t q => t.set q.1 q.2) (List.replicate n .any), k, h⟩
inductive Tg
  | lo (id : Nat)
  | ca (id i : Nat) (f : FuncId) (n : Nat)
section
variable (P : Program) (C : List Ctr) {R : Type}
def behind (CH : Nat → FuncId → List SV → Nat → St → (De → Option R) → Option R) (ops : Array Oper) (i : Nat) (κ : Ex → St → Option R) (δ : De) : Option R :=
  match ops[i]? with
  | some o => if δ.big.isSome = true then evOps P C CH ops false ((numbered ops).drop (i + 1)) (bigB δ) [] (ap o.dst 0 δ ⟨[], [], []⟩) (fun acc b S' => κ .normal (trim b S')) else none
  | none => none
def loc (LH : List Nat → Code → St → (Ex → St → Option R) → Option R) (CH : List Nat → FuncId → List SV → Nat → St → (De → Option R) → Option R) (p : List Nat) (tg : Tg) : Code → (Ex → St → Option R) → Option (Code × (Ex → St → Option R))
  | .seq a b, κ => match loc LH CH p tg a (fun e S' => match e with | .normal => fev P C LH CH p b S' κ | .exit i => κ (.exit i) S' | .ret => κ .ret S') with
    | some r => some r
    | none => loc LH CH p tg b κ
  | .cond _ x y, κ => match loc LH CH p tg x κ with
    | some r => some r
    | none => loc LH CH p tg y κ
  | .scope c, κ => loc LH CH p tg c κ
  | .block i c, κ => loc LH CH p tg c (fun e S' => match e with | .normal => κ .normal S' | .exit j => if j = i then κ .normal S' else κ (.exit j) S' | .ret => κ .ret S')
  | .loop c, κ => match tg with
    | .lo id => if firstId c = id then some (c, κ) else none
    | _ => none
  | .region id ops _, κ => match tg with
    | .ca id' i f n => if id = id' then (match P.funcs[f]? with
      | some fn => match fn.body with
        | some c => some (c, callRes P fn n padOf (behind P C (fun i => CH (i :: id :: p)) ops i κ))
        | none => none
      | none => none) else none
    | _ => none
  | _, _ => none
structure Pl (R : Type) where
  c : Code
  κ : Ex → St → Option R
  p : List Nat
  d : Nat
variable (Ls : List LN) (K : Nat)
def Pl.go (q : Pl R) (tg : Tg) : Pl R :=
  match loc P C (sem P C Ls K q.d).1 (sem P C Ls K q.d).2 q.p tg q.c q.κ with
  | some r => ⟨r.1, r.2, match tg with | .lo _ => q.p | .ca id i f _ => f :: i :: id :: q.p, q.d - 1⟩
  | none => ⟨.skip, fun _ _ => none, [], 0⟩
def Pl.inn (q : Pl R) (G : St → Option R) : Pl R := { q with κ := rnd (fun S => G (nmR Ls (hlP Ls q.p q.c) q.p q.c S)) q.κ }
def Pl.innH (n : Nat) (q : Pl R) (G : St → Option R) : Pl R := { q with κ := rnd (fun S => G (nmR Ls n q.p q.c S)) q.κ }
def Pl.top (fn : Func) (dec : List SV → List SO → Option R) : Pl R := ⟨fn.body.getD .skip, fin P fn dec, [], 12⟩
def Pl.rounds (q : Pl R) (m : Nat) (S : St) : Option R := loopRec (fev P C (sem P C Ls K q.d).1 (sem P C Ls K q.d).2 q.p q.c) (nmR Ls S.h.length q.p q.c) m S q.κ
end
end Go.Proofs.Ytlbicmdfdpcdiaa.Vm
-- Printed by a program of this session's; Lean checks it.
namespace Go.Proofs.Ytlbicmdfdpcdiaa.Vm
theorem C_nil {P : Program} : ∀ c ∈ ([] : List Ctr), CtrOk P c := by intro c h; cases h
theorem C_cons {P : Program} {c : Ctr} {C : List Ctr} (h : CtrOk P c) (h' : ∀ c ∈ C, CtrOk P c) : ∀ c' ∈ c :: C, CtrOk P c' := by
  intro c' hc; rcases List.mem_cons.1 hc with rfl | hc
  · exact h
  · exact h' _ hc
noncomputable def sel {R : Type} (p : Prop) [d : Decidable p] (x y : Option R) : Option R := @Decidable.rec p (fun _ => Option R) (fun _ => y) (fun _ => x) d
theorem sel_eq {R : Type} (p : Prop) [d : Decidable p] (x y : Option R) : sel p x y = if p then x else y := by cases d <;> rfl
theorem sel_pos {R : Type} {p : Prop} [d : Decidable p] {x y : Option R} (h : p) : sel p x y = x := by rw [sel_eq, if_pos h]
theorem sel_neg {R : Type} {p : Prop} [d : Decidable p] {x y : Option R} (h : ¬ p) : sel p x y = y := by rw [sel_eq, if_neg h]
def strIx : Code → Option ByteArray
  | .region _ ops _ => ops.toList.findSome? fun o => match o.op with | .index _ (.const (.string s)) _ => some s | _ => none
  | .seq a b => match strIx a with | some s => some s | none => strIx b
  | .cond _ x y => match strIx x with | some s => some s | none => strIx y
  | .block _ c => strIx c
  | .loop c => strIx c
  | .scope c => strIx c
  | _ => none
theorem ctr_none {P : Program} {f : FuncId} {a r : Ty} {ash rsh : List (Bool × Nat)} {g : a.D → Option r.D} (hg : ∀ p, g p = none) : CtrOk P (ctrT f a r ash rsh g) := by
  intro R args h b κ res hr
  simp only [ctrT] at hr
  split at hr
  · split at hr
    · unfold bnd at hr
      rw [hg] at hr
      cases hr
    · cases hr
  · cases hr
end Go.Proofs.Ytlbicmdfdpcdiaa.Vm
-- Printed by a program of this session's; Lean checks it.
set_option linter.unusedVariables false
set_option linter.unusedSimpArgs false
namespace Go.Proofs.Ytlbicmdfdpcdiaa.Vm
open Go.RowKit Go.ChangeShapes Go.WideShapes
def Ty.Good : (t : Ty) → t.D → Prop
  | .int k, n => (Lit.int k n).wf = true
  | .str, s => ByteArray.size s ≤ maxLen
  | .sl _ e, l => List.length l ≤ maxLen ∧ ∀ x ∈ l, e.Good x
  | .pr a b, x => a.Good x.1 ∧ b.Good x.2
  | .er _ _ _, _ => False
  | _, _ => True
def wOk (P : Program) (d : Nat) (t : TypeId) : Bool := match kindOf P d t with | some k => P.cellsOf t == k.w | none => false
def layF (P : Program) (d : Nat) (ok : TypeId → Bool) : List Field → Nat → Bool
  | [], _ => true
  | f :: r, off => f.offset == off && ok f.type && wOk P d f.type && layF P d ok r (off + P.cellsOf f.type)
def okT (P : Program) : Nat → TypeId → Bool
  | 0, _ => false
  | d + 1, t => match P.underlying t with
    | some (.int _) => true
    | some .bool => true
    | some .string => true
    | some (.slice e) => okT P d e && wOk P d e
    | some (.struct fs) => layF P d (okT P d) fs.toList 0 && wOk P (d + 1) t
    | _ => false
section
variable {P : Program} {H : Type} {enc : TypeId × Value → H} {w : World} {base : Nat} {spare : Nat → Bool} {held : Bool}
theorem wOk_spec {d : Nat} {t : TypeId} {k : Ty} (hk : kindOf P d t = some k) (h : wOk P d t = true) : P.cellsOf t = k.w := by
  simp only [wOk, hk, beq_iff_eq] at h; exact h
theorem openF {d : Nat} (ih : ∀ {t : TypeId} {k : Ty} {fuel : Nat} {cs : List Value} {x : DataW H × List MemPlace}, kindOf P d t = some k → okT P d t = true → DataW.trod enc P w base spare held fuel t cs = some x → ∃ p : k.D, Rep (fun b => w.heap[b]?) k p cs ∧ k.Good p) {fuel : Nat} {cs : List Value} :
    ∀ {fs : List Field} {off : Nat} {k : Ty}, layF P d (okT P d) fs off = true → kindOf.prs ((fs.map fun f => f.type).map (kindOf P d)) = some k → cs.length = off + k.w →
      (∀ f ∈ fs, ∃ x, DataW.trod enc P w base spare held fuel f.type ((cs.drop f.offset).take (P.cellsOf f.type)) = some x) → ∃ p : k.D, Rep (fun b => w.heap[b]?) k p (cs.drop off) ∧ k.Good p
  | [], off, k, _, hk, hl, _ => by
    simp only [List.map_nil, kindOf.prs, Option.some.injEq] at hk
    subst hk
    exact ⟨(), by simpa [Rep, Ty.w] using (List.drop_eq_nil_of_le (by rw [hl]; simp [Ty.w])), by simp [Ty.Good]⟩
  | [f], off, k, h, hk, hl, hx => by
    simp only [layF, Bool.and_eq_true, beq_iff_eq] at h
    obtain ⟨⟨⟨h1, h2⟩, h3⟩, _⟩ := h
    simp only [List.map_cons, List.map_nil, kindOf.prs] at hk
    obtain ⟨x, hx⟩ := hx f (by simp)
    have hw := wOk_spec hk h3
    rw [h1, List.take_of_length_le (by rw [List.length_drop, hl, hw]; omega)] at hx
    exact ih hk h2 hx
  | f :: f' :: r, off, k, h, hk, hl, hx => by
    rw [layF] at h
    simp only [Bool.and_eq_true, beq_iff_eq] at h
    obtain ⟨⟨⟨h1, h2⟩, h3⟩, h4⟩ := h
    simp only [List.map_cons, kindOf.prs, Option.bind_eq_some_iff, Option.map_eq_some_iff] at hk
    obtain ⟨a, ha, b, hb, rfl⟩ := hk
    obtain ⟨x, hx1⟩ := hx f (by simp)
    have hw := wOk_spec ha h3
    rw [h1] at hx1
    obtain ⟨p1, r1, g1⟩ := ih ha h2 hx1
    obtain ⟨p2, r2, g2⟩ := openF ih (fs := f' :: r) (off := off + P.cellsOf f.type) (k := b) h4 (by simpa [kindOf.prs] using hb) (by rw [hl, hw]; simp only [Ty.w]; omega) (fun g hg => hx g (List.mem_cons_of_mem _ hg))
    refine ⟨(p1, p2), ⟨_, _, ?_, r1, r2⟩, g1, g2⟩
    rw [← List.drop_drop, List.take_append_drop]
theorem cells?_at {a : Addr} {n : Nat} {cs : List Value} (h : w.cells? base a n = some cs) : cs.length = n ∧ ∀ (i : Nat) (u : Value), cs[i]? = some u → w.cell? (a.add i) = some u := by
  obtain ⟨_, hl, hi⟩ := World.cells?_some h
  refine ⟨hl, fun i u hu => ?_⟩
  rw [hi i (by rw [← hl]; exact (List.getElem?_eq_some_iff.1 hu).1)]
  exact hu
theorem opens : ∀ (d : Nat) {t : TypeId} {k : Ty} {fuel : Nat} {cs : List Value} {x : DataW H × List MemPlace}, kindOf P d t = some k → okT P d t = true → DataW.trod enc P w base spare held fuel t cs = some x → ∃ p : k.D, Rep (fun b => w.heap[b]?) k p cs ∧ k.Good p
  | 0, t, k, fuel, cs, x, hk, _, _ => by simp [kindOf] at hk
  | d + 1, t, k, fuel, cs, x, hk, ho, h => by
    have hk0 := hk
    unfold kindOf at hk
    unfold okT at ho
    split at hk
    · rename_i k' hu
      cases hk
      obtain ⟨n, rfl, _, hw⟩ := DataW.trod_int hu h
      exact ⟨n, rfl, hw⟩
    · rename_i hu
      cases hk
      obtain ⟨n, rfl, _⟩ := DataW.trod_bool hu h
      exact ⟨n, rfl, by simp [Ty.Good]⟩
    · rename_i hu
      cases hk
      obtain ⟨n, rfl, _, hw⟩ := DataW.trod_string hu h
      exact ⟨n, rfl, hw⟩
    · rename_i hu
      rw [hu] at ho
      cases ho
    · rename_i e hu
      rw [hu] at ho
      simp only [Bool.and_eq_true] at ho
      obtain ⟨ke, he, rfl⟩ := Option.map_eq_some_iff.1 hk
      have hw := wOk_spec he ho.2
      rcases Go.Deep.open_slice hu h with ⟨rfl, _⟩ | ⟨a, len, cap, m, n, D, Pl, rfl, _, hl, hm, hmm, _, hx⟩
      · exact ⟨[], ⟨none, 0, rfl, Nat.le_refl _, fun h => absurd h (by simp)⟩, by simp [Ty.Good]⟩
      · have hlm : len ≤ m := by rw [hmm]; split <;> omega
        haveI : Inhabited ke.D := ⟨ke.z⟩
        have hall : ∀ i, i < len → ∃ z : ke.D, ∃ cs', w.cells? base (a.add (i * P.cellsOf e)) (P.cellsOf e) = some cs' ∧ Rep (fun b => w.heap[b]?) ke z cs' ∧ ke.Good z := fun i hi => by
          obtain ⟨cs', h1, h2⟩ := hx i (by omega)
          obtain ⟨z, hz, hg⟩ := opens d he ho.1 h2
          exact ⟨z, cs', h1, hz, hg⟩
        obtain ⟨f, hf⟩ := Go.Deep.choose_lt hall
        have hlen : ((List.range len).map f).length = len := by simp
        refine ⟨(List.range len).map f, ⟨some a, cap, by rw [hlen], by rw [hlen]; exact hl, fun _ => ⟨a, rfl, fun j p hj => ?_⟩⟩, by rw [hlen]; exact Nat.le_trans hl hm, ?_⟩
        · simp only [List.getElem?_map, Option.map_eq_some_iff, List.getElem?_eq_some_iff, List.length_range, List.getElem_range] at hj
          obtain ⟨i, ⟨hi, rfl⟩, rfl⟩ := hj
          obtain ⟨cs', h1, h2, _⟩ := hf _ hi
          obtain ⟨q1, q2⟩ := cells?_at h1
          refine ⟨cs', h2, fun i u hu => ?_⟩
          have := q2 i u hu
          rw [Go.Deep.add_add, hw] at this
          exact this
        · intro z hz
          simp only [List.mem_map, List.mem_range] at hz
          obtain ⟨i, hi, rfl⟩ := hz
          exact (hf i hi).choose_spec.2.2
    · rename_i fs hu
      rw [hu] at ho
      simp only [Bool.and_eq_true] at ho
      obtain ⟨xs, n, _, _, hl, hlen, hf⟩ := DataW.trod_struct hu h
      have hw := wOk_spec hk0 ho.2
      have := openF (fun h1 h2 h3 => opens d h1 h2 h3) (fuel := n) (cs := cs) ho.1 hk (by rw [hl, hw]; omega) (fun f hfm => by
        obtain ⟨i, hi, rfl⟩ := List.getElem_of_mem hfm
        have hi' : i < fs.size := by simpa using hi
        have := hf i fs[i] (by simp [hi'])
        rw [List.getElem?_eq_getElem (by omega)] at this
        exact ⟨_, by simpa using this⟩)
      rwa [List.drop_zero] at this
    · rename_i n e hu
      rw [hu] at ho
      cases ho
    · cases hk
def tysOk (P : Program) (d : Nat) : List TypeId → List (Bool × Nat) → Bool
  | [], [] => true
  | t :: ts, (g, n) :: sh => okT P d t && (match kindOf P d t with | some k => k.w == n | none => false) && (match isAggT P t with | some g' => g == g' | none => false) && tysOk P d ts sh
  | _, _ => false
theorem arg_shape {d : Nat} {t : TypeId} {g : Bool} {v : Value} {W : World} {r : Reach} {b0 : Nat} (ho : okT P d t = true) (hg : isAggT P t = some g) (hv : Value.okWide P W r b0 t v) : v = if g then .agg v.cells.toList.toArray else v.cells.toList.getD 0 undef := by
  cases d with
  | zero => simp [okT] at ho
  | succ d =>
    unfold okT at ho
    unfold isAggT at hg
    split at ho
    · rename_i hu; rw [hu] at hg; cases hg
      obtain ⟨n, rfl⟩ := okWide_int hu hv; simp [Value.cells]
    · rename_i hu; rw [hu] at hg; cases hg
      obtain ⟨n, rfl⟩ := okWide_bool hu hv; simp [Value.cells]
    · rename_i hu; rw [hu] at hg; cases hg
      obtain ⟨n, rfl⟩ := okWide_string hu hv; simp [Value.cells]
    · rename_i e hu; rw [hu] at hg; cases hg
      obtain ⟨a, len, cap, rfl⟩ := okWide_slice hu hv; simp [Value.cells]
    · rename_i fs hu; rw [hu] at hg; cases hg
      obtain ⟨cs, rfl, _⟩ := okWide_struct hu hv; simp [Value.cells]
    · cases ho
theorem args_open {d : Nat} {W : World} {r : Reach} {b0 : Nat} : ∀ {ts : List TypeId} {sh : List (Bool × Nat)} {vs : List Value} {ds : List (DataW H)} {ps : List MemPlace} {k : Ty}, tysOk P d ts sh = true → kindOf.prs (ts.map (kindOf P d)) = some k → DataW.TrodAll enc P w base spare held ts vs ds ps →
    (∀ (j : Nat) t v, ts[j]? = some t → vs[j]? = some v → Value.okWide P W r b0 t v) → ∃ (p : k.D) (us : List Value), Rep (fun b => w.heap[b]?) k p us ∧ k.Good p ∧ vs = packV sh us
  | [], sh, vs, ds, ps, k, ho, hk, hA, hv => by
    obtain ⟨rfl, rfl, rfl⟩ := trodAll_nil hA
    simp only [List.map_nil, kindOf.prs, Option.some.injEq] at hk
    subst hk
    cases sh with
    | nil => exact ⟨(), [], rfl, by simp [Ty.Good], rfl⟩
    | cons => simp [tysOk] at ho
  | t :: ts, [], vs, ds, ps, k, ho, hk, hA, hv => by simp [tysOk] at ho
  | t :: ts, (g, n) :: sh, vs, ds, ps, k, ho, hk, hA, hv => by
    obtain ⟨v, vs', d0, ds', p0, q0, rfl, rfl, rfl, ⟨fuel, h0⟩, r0⟩ := trodAll_cons hA
    simp only [tysOk, Bool.and_eq_true] at ho
    obtain ⟨⟨⟨o1, o2⟩, o3⟩, o4⟩ := ho
    obtain ⟨a, ha, hw⟩ : ∃ a, kindOf P d t = some a ∧ a.w = n := by
      split at o2
      · rename_i a ha; exact ⟨a, ha, by simpa using o2⟩
      · cases o2
    have hg : isAggT P t = some g := by
      split at o3
      · rename_i g' hg; rw [hg]; simp only [beq_iff_eq] at o3; rw [o3]
      · cases o3
    obtain ⟨p1, r1, g1⟩ := opens d ha o1 h0
    have hsh := arg_shape o1 hg (hv 0 t v rfl rfl)
    have hl := r1.len
    cases ts with
    | nil =>
      obtain ⟨rfl, rfl, rfl⟩ := trodAll_nil r0
      simp only [List.map_cons, List.map_nil, kindOf.prs] at hk
      rw [ha] at hk; cases hk
      cases sh with
      | cons => simp [tysOk] at o4
      | nil =>
        refine ⟨p1, _, r1, g1, ?_⟩
        simp only [packV]
        rw [List.take_of_length_le (by omega), ← hsh]
    | cons t' ts =>
      simp only [List.map_cons, kindOf.prs, Option.bind_eq_some_iff, Option.map_eq_some_iff] at hk
      obtain ⟨a', ha', b, hb, rfl⟩ := hk
      rw [ha] at ha'; cases ha'
      obtain ⟨p2, us, r2, g2, rfl⟩ := args_open (ts := t' :: ts) o4 (by simpa [kindOf.prs] using hb) r0 (fun j t v h1 h2 => hv (j + 1) t v (by simpa using h1) (by simpa using h2))
      refine ⟨(p1, p2), v.cells.toList ++ us, ⟨_, _, rfl, r1, r2⟩, ⟨g1, g2⟩, ?_⟩
      simp only [packV]
      rw [show n = v.cells.toList.length by rw [hl, hw], List.take_left, List.drop_left, ← hsh]
theorem law_calls {d : Nat} {W : World} {r : Reach} {b0 : Nat} {C : Nat → List Ctr} (hC : ∀ k, ∀ c ∈ C k, CtrOk P c) {f : FuncId} {fn : Func} (hf : P.funcs[f]? = some fn) {Ls : List LN} {a : Ty} {ash : List (Bool × Nat)} (hsa : shOk ash a.w = true) {g : Nat → a.D → Option Bool}
    (hrun : ∀ k p, runF P (C k) Ls k fn (decT [(false, 1)] .bool some) (argsT ash a p) (heapT a p) = g k p) (pure : ∀ p, a.Good p → ∃ k, g k p = some true) {ts : List TypeId} {vs : List Value} {ds : List (DataW H)} {ps : List MemPlace} (ho : tysOk P d ts ash = true) (hk : kindOf.prs (ts.map (kindOf P d)) = some a)
    (hA : DataW.TrodAll enc P W base spare held ts vs ds ps) (hv : ∀ (j : Nat) t v, ts[j]? = some t → vs[j]? = some v → Value.okWide P W r b0 t v) : Calls P f vs.toArray W fun e w' => e = .returned (.bool true) ∧ Below W.heap.size W w' := by
  obtain ⟨p, us, hrep, hg, rfl⟩ := args_open ho hk hA hv
  obtain ⟨k, hk⟩ := pure p hg
  obtain ⟨sa1, sa2⟩ := shOk_spec hsa
  have hle : Hp.le (fun bl => W.heap[bl]?) (hp (· < W.heap.size) G0 W) := fun bl o ho => by
    have hlt := (Array.getElem?_eq_some_iff.1 ho).1
    rw [hp_of (O := (· < W.heap.size)) (.inl hlt)]; exact ho
  have hrep' := hrep.mono hle
  obtain ⟨G2, i1, i2⟩ := start_ok (O := (· < W.heap.size)) (fun _ h => h) hrep'
  have hargs : IsL G2.E (argsT ash a p) (packV ash us) := pack_is sa1 (hrep.len.trans sa2.symm) i1
  refine (run_calls (hC k) hf ((hrun k p).trans hk) hargs (fun ac' hd ht => i2 _ _ hd ht)).mono ?_
  rintro e w' ⟨us2, l, S', G', a', rfl, hdec, hl2, hs'⟩
  refine ⟨?_, hs'.bl⟩
  simp only [decT, Option.bind_eq_some_iff] at hdec
  obtain ⟨cs', hcs', hdec⟩ := hdec
  split at hdec
  case isFalse => cases hdec
  case isTrue hnd =>
  obtain ⟨q', hur, hq'⟩ := Option.bind_eq_some_iff.1 hdec
  simp only [Option.some.injEq] at hq'
  subst hq'
  obtain ⟨us3, hlen3, hL3, rfl⟩ := argCells_is hcs' hl2
  simp only [widths] at hlen3
  obtain ⟨u, rfl⟩ := List.length_eq_one_iff.1 hlen3
  cases cs' with
  | nil => simp [IsL] at hL3
  | cons x cs' =>
    simp only [IsL] at hL3
    have h2 : cs' = [] := by
      have := hL3.2.len; exact List.eq_nil_of_length_eq_zero (by simpa using this.symm)
    subst h2
    have hu : u = .bool true := by
      have hx := hL3.1
      cases x with
      | v y => cases y <;> simp [Ty.ur, Ty.unl] at hur; simp only [Is] at hx; rw [hx, hur]
      | tst q dq => simp only [Ty.ur, Ty.unl, Option.some.injEq] at hur; simp only [Is] at hx; rw [hx, hur]
      | nt q dq => simp only [Ty.ur, Ty.unl, Option.some.injEq] at hur; simp only [Is] at hx; rw [hx, hur]
      | _ => simp [Ty.ur, Ty.unl] at hur
    rw [hu]
    rfl
theorem ur_flat {h : List SO} : ∀ {t : Ty} {cs : List SV} {x : t.D}, t.flat = true → t.ur cs h = some x → t.un' cs h = some x
  | .pr a b, cs, x, hf, hu => by
    simp only [Ty.flat, Bool.and_eq_true] at hf
    simp only [Ty.ur, Option.bind_eq_some_iff, Option.map_eq_some_iff] at hu
    obtain ⟨y, hy, z, hz, rfl⟩ := hu
    simp only [Ty.un', Option.bind_eq_some_iff, Option.map_eq_some_iff]
    exact ⟨y, ur_flat hf.1 hy, z, ur_flat hf.2 hz, rfl⟩
  | .un, [], x, _, hu => hu
  | .un, _ :: _, x, _, hu => by simp [Ty.ur] at hu
  | .int k, [y], x, _, hu => hu
  | .bool, [y], x, _, hu => hu
  | .str, [y], x, _, hu => hu
  | .flt k, [y], x, _, hu => hu
  | .int k, [], x, _, hu => by simp [Ty.ur] at hu
  | .bool, [], x, _, hu => by simp [Ty.ur] at hu
  | .str, [], x, _, hu => by simp [Ty.ur] at hu
  | .flt k, [], x, _, hu => by simp [Ty.ur] at hu
  | .int k, _ :: _ :: _, x, _, hu => by simp [Ty.ur] at hu
  | .bool, _ :: _ :: _, x, _, hu => by simp [Ty.ur] at hu
  | .str, _ :: _ :: _, x, _, hu => by simp [Ty.ur] at hu
  | .flt k, _ :: _ :: _, x, _, hu => by simp [Ty.ur] at hu
  | .sl _ _, _, _, hf, _ => by simp [Ty.flat] at hf
  | .er _ _ _, _, _, hf, _ => by simp [Ty.flat] at hf
theorem rep_of_vs {Hh : Hp} : ∀ {t : Ty} {x : t.D}, t.flat = true → Rep Hh t x (t.vs x)
  | .int k, n, _ => rfl
  | .bool, b, _ => rfl
  | .str, s, _ => rfl
  | .flt k, n, _ => rfl
  | .un, _, _ => rfl
  | .pr a b, x, h => by
    simp only [Ty.flat, Bool.and_eq_true] at h
    exact ⟨_, _, rfl, rep_of_vs h.1, rep_of_vs h.2⟩
  | .sl _ _, _, h => by simp [Ty.flat] at h
  | .er _ _ _, _, h => by simp [Ty.flat] at h
theorem slot_calls {C : List Ctr} (hC : ∀ c ∈ C, CtrOk P c) {f : FuncId} {fn : Func} (hf : P.funcs[f]? = some fn) {Ls : List LN} {k : Nat} {r : Ty} {rsh : List (Bool × Nat)} (hfr : r.flat = true) {args : List SV} {vs : List Value} (hargs : IsL (fun _ => none) args vs) {q : r.D}
    (hrun : runF P C Ls k fn (decT rsh r some) args [] = some q) (w : World) : Calls P f vs.toArray w fun e w' => e = .returned (oneV (packV rsh (r.vs q))) ∧ Below w.heap.size w w' := by
  have s0 : ∀ (t : List SV) (ac : Act), ac.defers = [] → IsL G0.E t ac.tmps.toList → Sat (· < w.heap.size) w ⟨t, [], []⟩ G0 [] ac w := fun t ac hd ht =>
    { tm := ht, sk := by simp [IsL], df := hd, bl := Below.refl _ _, ol := fun _ h => h, lt := fun b hb => absurd rfl hb
      ob := fun k o hk => by simp at hk
      fr := fun _ _ => rfl }
  refine (run_calls hC hf hrun (O := (· < w.heap.size)) (G := G0) hargs (fun ac hd ht => s0 _ ac hd ht)).mono ?_
  rintro e w' ⟨us2, l, S', G', a', rfl, hdec, hl2, hs'⟩
  refine ⟨?_, hs'.bl⟩
  simp only [decT, Option.bind_eq_some_iff] at hdec
  obtain ⟨cs', hcs', hdec⟩ := hdec
  split at hdec
  case isFalse => cases hdec
  case isTrue hnd =>
  obtain ⟨q', hur, hq'⟩ := Option.bind_eq_some_iff.1 hdec
  simp only [Option.some.injEq] at hq'
  subst hq'
  obtain ⟨us3, hlen3, hL3, rfl⟩ := argCells_is hcs' hl2
  have hrep := un_rep (flat_nn hfr).1 (ur_flat hfr hur) hL3 (fun k hk => hs'.allRd k)
  rw [rep_vs hfr hrep]
theorem flat_calls {C : List Ctr} (hC : ∀ c ∈ C, CtrOk P c) {f : FuncId} {fn : Func} (hf : P.funcs[f]? = some fn) {Ls : List LN} {k : Nat} {a r : Ty} {ash rsh : List (Bool × Nat)} (hfa : a.flat = true) (hfr : r.flat = true) (hsa : shOk ash a.w = true) {p : a.D} {q : r.D}
    (hrun : runF P C Ls k fn (decT rsh r some) (argsT ash a p) (heapT a p) = some q) (w : World) : Calls P f (packV ash (a.vs p)).toArray w fun e w' => e = .returned (oneV (packV rsh (r.vs q))) ∧ Below w.heap.size w w' := by
  obtain ⟨sa1, sa2⟩ := shOk_spec hsa
  have hrep : Rep (hp (· < w.heap.size) G0 w) a p (a.vs p) := rep_of_vs hfa
  obtain ⟨G2, i1, i2⟩ := start_ok (O := (· < w.heap.size)) (fun _ h => h) hrep
  have hargs : IsL G2.E (argsT ash a p) (packV ash (a.vs p)) := pack_is sa1 ((vs_len hfa).trans sa2.symm) i1
  refine (run_calls hC hf hrun hargs (fun ac' hd ht => i2 _ _ hd ht)).mono ?_
  rintro e w' ⟨us2, l, S', G', a', rfl, hdec, hl2, hs'⟩
  refine ⟨?_, hs'.bl⟩
  simp only [decT, Option.bind_eq_some_iff] at hdec
  obtain ⟨cs', hcs', hdec⟩ := hdec
  split at hdec
  case isFalse => cases hdec
  case isTrue hnd =>
  obtain ⟨q', hur, hq'⟩ := Option.bind_eq_some_iff.1 hdec
  simp only [Option.some.injEq] at hq'
  subst hq'
  obtain ⟨us3, hlen3, hL3, rfl⟩ := argCells_is hcs' hl2
  have hrep := un_rep (flat_nn hfr).1 (ur_flat hfr hur) hL3 (fun k hk => hs'.allRd k)
  rw [rep_vs hfr hrep]
theorem trodAll_back {W W' : World} (hl : laidOutB P = true) : ∀ {ts : List TypeId} {vs : List Value} {ds : List (DataW H)} {ps : List MemPlace}, (ts.all fun t => P.readableRec t && decide (t < P.types.size)) = true → DataW.TrodAll enc P W 0 (fun _ => true) true ts vs ds ps → Below W.heap.size W W' →
    DataW.TrodAll enc P W' 0 (fun b => decide (b < W.heap.size)) true ts vs ds ps
  | [], vs, ds, ps, _, hA, _ => by
    obtain ⟨rfl, rfl, rfl⟩ := trodAll_nil hA
    exact trodAll_mk0
  | t :: ts, vs, ds, ps, hr, hA, hb => by
    obtain ⟨v, vs', d0, ds', p0, q0, rfl, rfl, rfl, h0, r0⟩ := trodAll_cons hA
    simp only [List.all_cons, Bool.and_eq_true, decide_eq_true_eq] at hr
    have hlt : ∀ x ∈ p0, x.block < W.heap.size := by
      obtain ⟨m, hm⟩ := h0; exact DataW.trod_lt m _ _ _ hm
    exact trodAll_cons_mk (Below.trod hl hr.1.1 hr.1.2 h0 hb hlt) (trodAll_back hl hr.2 r0 hb)
end
end Go.Proofs.Ytlbicmdfdpcdiaa.Vm
