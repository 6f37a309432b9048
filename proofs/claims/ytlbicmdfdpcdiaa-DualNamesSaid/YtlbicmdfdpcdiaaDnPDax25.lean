-- printed
import Derived.Test.YtlbicmdfdpcdiaaDnPDax0
import Derived.Test.YtlbicmdfdpcdiaaDnPDax18
import Derived.Test.YtlbicmdfdpcdiaaDnPDax19
import Derived.Test.YtlbicmdfdpcdiaaDnPDax21
import Derived.Test.YtlbicmdfdpcdiaaDnPDax24
namespace Go.Proofs.Ytlbicmdfdpcdiaa.PDa
open Go.RowKit Go.Proofs.YtlbicmdfdpcdiaaW.PrintWords Go.Proofs.YtlbicmdfdpcdiaaW.PrintLast Go.Proofs.YtlbicmdfdpcdiaaW.PrintMore
attribute [local go_sem] max2_int min2_int max_two min_two max_three min_three max_four min_four
set_option linter.unusedVariables false
set_option linter.unusedSimpArgs false
namespace MG
abbrev HE := S38 × Option Addr × Nat
def encC (x : HE) : List Value := [.int .i64 x.1.f0.f0, .int .i64 x.1.f0.f1, .int .i64 x.1.f1.f0, .int .i64 x.1.f1.f1, .int .i64 x.1.f2, .int .i64 x.1.f3, .string x.1.f4, .string x.1.f5.f0, .slice x.2.1 x.1.f5.f1.length x.2.2]
theorem enc_len (x : HE) : (encC x).length = 9 := rfl
structure HI (g : Nat) (tail : List Value) (W0 : World) (A : Option Addr) (L : List HE) (W : World) : Prop where
 grown : W0.grownBy W (some g)
 row : L ≠ [] → A = some ⟨g, 0, none⟩ ∧ W.heap[g]? = some (.cells (L.flatMap encC ++ tail).toArray 38 (0, 0))
section
variable {g : Nat} {tail : List Value} {W0 W W' : World} {A : Option Addr} {L : List HE}
theorem HI.below (h : HI g tail W0 A L W) (hb : Below W.heap.size W W') : HI g tail W0 A L W' :=
 ⟨SD.dtrans h.grown ⟨hb.os, hb.tape, hb.output, hb.size, fun i hi _ => hb.block i hi⟩, fun hn => ⟨(h.row hn).1, blk_below (h.row hn).2 hb⟩⟩
theorem HI.split {q : Nat} {x : HE} (hq : L[q]? = some x) : L = L.take q ++ x :: L.drop (q + 1) := by
 obtain ⟨hlt, rfl⟩ := List.getElem?_eq_some_iff.1 hq
 rw [← List.drop_eq_getElem_cons hlt, List.take_append_drop]
theorem HI.ne {q : Nat} {x : HE} (hq : L[q]? = some x) : L ≠ [] := fun e => by rw [e] at hq; simp at hq
theorem HI.take_len {q : Nat} {x : HE} (hq : L[q]? = some x) : ((L.take q).flatMap encC).length = q * 9 := by
 have hlt := (List.getElem?_eq_some_iff.1 hq).1
 rw [SD.dflat_len enc_len, List.length_take, Nat.min_eq_left (by omega)]
theorem HI.addr (h : HI g tail W0 A L W) {q : Nat} {x : HE} (hq : L[q]? = some x) : A = some ⟨g, 0, none⟩ := (h.row (HI.ne hq)).1
theorem HI.cell (h : HI g tail W0 A L W) {q : Nat} {x : HE} (hq : L[q]? = some x) (j : Nat) (v : Value) (hj : (encC x)[j]? = some v) : W.cell? ⟨g, q * 9 + j, none⟩ = some v := by
 have hr := (h.row (HI.ne hq)).2
 rw [HI.split hq, SD.dcut1] at hr
 exact SD.dblk_cell hr (q * 9) (HI.take_len hq).symm j v hj
theorem HI.cell0 (h : HI g tail W0 A L W) {q : Nat} {x : HE} (hq : L[q]? = some x) (v : Value) (hj : (encC x)[0]? = some v) : W.cell? ⟨g, q * 9, none⟩ = some v := h.cell hq 0 v hj
theorem HI.froz (h : HI g tail W0 A L W) {q : Nat} {x : HE} (hq : L[q]? = some x) (o : Nat) : W.frozen? ⟨g, o, none⟩ = false := by
 have hr := (h.row (HI.ne hq)).2
 simp [World.frozen?, hr]
theorem HI.other (h : HI g tail W0 A L W) (Y : List Value) (s : Nat) (L' : List HE) (hL : L' ≠ [] → A = some ⟨g, 0, none⟩ ∧ (W.setCells g s Y).heap[g]? = some (.cells (L'.flatMap encC ++ tail).toArray 38 (0, 0))) : HI g tail W0 A L' (W.setCells g s Y) := by
 obtain ⟨r1, r2, r3⟩ := SD.dblk_rest (blk := g) Y W s
 exact ⟨SD.dtrans h.grown ⟨r1, r2, r3, Nat.le_of_eq (SD.dblk_size _ _ _).symm, fun j _ hj => SD.dblk_other _ _ _ _ (fun e => hj (by rw [e]))⟩, hL⟩
theorem HI.set_eq {q : Nat} {x : HE} (hq : L[q]? = some x) (y : HE) : L.set q y = L.take q ++ y :: L.drop (q + 1) := by
 have hlt := (List.getElem?_eq_some_iff.1 hq).1
 exact List.set_eq_take_append_cons_drop.trans (if_pos hlt)
theorem HI.store (h : HI g tail W0 A L W) {q : Nat} {x : HE} (hq : L[q]? = some x) (y : HE) : HI g tail W0 A (L.set q y) (W.setCells g (q * 9) (encC y)) := by
 refine h.other _ _ _ fun _ => ⟨h.addr hq, ?_⟩
 have hr := (h.row (HI.ne hq)).2
 rw [HI.split hq, SD.dcut1] at hr
 rw [HI.set_eq hq, SD.dblk_stored (encC y) hr _ (HI.take_len hq).symm rfl, SD.dcut1]
theorem HI.store1 (h : HI g tail W0 A L W) {q : Nat} {x : HE} (hq : L[q]? = some x) (y : HE) (j : Nat) (u v : Value) (hu : (encC x) = (encC x).take j ++ ([u] ++ (encC x).drop (j + 1))) (hj : j < 9) (hy : encC y = (encC x).take j ++ ([v] ++ (encC x).drop (j + 1))) : HI g tail W0 A (L.set q y) (W.setCell ⟨g, q * 9 + j, none⟩ v) := by
 have hh := h.other [v] (q * 9 + j) (L.set q y) fun _ => ⟨h.addr hq, ?_⟩
 ·exact hh
 have hr := (h.row (HI.ne hq)).2
 rw [HI.split hq, SD.dcut1, hu] at hr
 have e1 : (L.take q).flatMap encC ++ ((encC x).take j ++ ([u] ++ (encC x).drop (j + 1)) ++ ((L.drop (q + 1)).flatMap encC ++ tail)) = ((L.take q).flatMap encC ++ (encC x).take j) ++ ([u] ++ ((encC x).drop (j + 1) ++ ((L.drop (q + 1)).flatMap encC ++ tail))) := by simp only [List.append_assoc]
 rw [e1] at hr
 rw [HI.set_eq hq, SD.dblk_stored [v] hr _ (by rw [List.length_append, HI.take_len hq, List.length_take, enc_len, Nat.min_eq_left (by omega)]) rfl, SD.dcut1, hy]
 simp only [List.append_assoc]
end
def Sp (W0 : World) (g n1 : Nat) (x : HE) : Prop := x.1.f5.f1.length ≤ x.2.2 ∧ Kd.F k79 W0 (fun k => k ≠ g ∧ n1 ≤ k) x.2.1 x.1.f5.f1.length x.1.f5.f1
def timed (x : S38) (t : S38) : S38 := ⟨t.f0, t.f1, x.f2, x.f3, x.f4, x.f5⟩
def sided (x : S38) (s : Int) : S38 := ⟨x.f0, x.f1, x.f2, s, x.f4, x.f5⟩
end MG
namespace MG
section
variable {g n1 : Nat} {tail : List Value} {W0 W W' : World} {A : Option Addr} {L : List HE}
theorem sp_grown {x : HE} (h : Sp W0 g n1 x) (hg : W0.grownBy W (some g)) : x.1.f5.f1.length ≤ x.2.2 ∧ k79.C W x.2.1 x.1.f5.f1.length x.1.f5.f1 :=
 ⟨h.1, Kd.F_now (Kd.F_grown h.2 hg (fun k hk e => hk.1 (by injection e)))⟩
theorem HI.reads (h : HI g tail W0 A L W) (hs : ∀ x ∈ L, Sp W0 g n1 x) (hm : L.length ≤ 9223372036854775807) : Kd.C k38 W A (L.map (·.1)).length (L.map (·.1)) := by
 refine ⟨rfl, by rw [List.length_map]; exact hm, fun hpos => ?_⟩
 have hn : L ≠ [] := fun e => by rw [e] at hpos; simp at hpos
 refine ⟨⟨g, 0, none⟩, (h.row hn).1, fun j p hj => ?_⟩
 rw [List.getElem?_map] at hj
 obtain ⟨x, hx, rfl⟩ := Option.map_eq_some_iff.1 hj
 obtain ⟨hl, hC⟩ := sp_grown (hs x (List.mem_of_getElem? hx)) h.grown
 refine ⟨encC x, rfl, k38_mk W x.1 hl hC, fun i u hu => ?_⟩
 have := h.cell hx i u hu
 show W.cell? (Addr.add ⟨g, 0, none⟩ (j * 9 + i)) = some u
 rw [Addr.add_lit, Nat.zero_add]
 exact this
theorem sp_timed {x : HE} {t : S38} (h : Sp W0 g n1 x) : Sp W0 g n1 (timed x.1 t, x.2.1, x.2.2) := h
theorem sp_sided {x : HE} {s : Int} (h : Sp W0 g n1 x) : Sp W0 g n1 (sided x.1 s, x.2.1, x.2.2) := h
end
end MG
namespace MG
theorem R_raw {W : World} {base : Nat} {ok : Nat → Prop} {v : Value} {t : List S38} (h : Kd.R k38 38 W base ok v t) :
  ∃ LL : List HE, LL.map (·.1) = t ∧ Kd.R (Kd.raw 9) 38 W base ok v (LL.map encC) ∧ ∀ x ∈ LL, x.1.f5.f1.length ≤ x.2.2 ∧ Kd.F k79 W (fun k => ok k ∧ some k ≠ v.ownBlock) x.2.1 x.1.f5.f1.length x.1.f5.f1 := by
 obtain ⟨h0, inner, ho, hr⟩ := h
 obtain ⟨LL, hL, hQ⟩ := SK.exists_list (α := HE) (fun j el => t[j]? = some el.1 ∧ encC el = (inner.drop (j * 9)).take 9 ∧ el.1.f5.f1.length ≤ el.2.2 ∧ Kd.F k79 W (fun k => ok k ∧ some k ≠ v.ownBlock) el.2.1 el.1.f5.f1.length el.1.f5.f1) t.length (fun j hj => by
  have hp := hr.2 j t[j] (List.getElem?_eq_getElem hj)
  obtain ⟨v8, e, hR⟩ := k38_openM hp
  obtain ⟨A, c, rfl, hc, _⟩ := Kd.R_reads hR
  exact ⟨(t[j], A, c), List.getElem?_eq_getElem hj, e.symm, hc, Kd.R_F hR⟩)
 have hm : LL.map (·.1) = t := SK.map_of_getElem? LL t _ hL (fun j x hj => (hQ j x hj).1)
 refine ⟨LL, hm, ⟨h0, inner, by rw [List.length_map, hL]; exact ho, by rw [List.length_map, hL]; exact hr.1, fun j p hj => ?_⟩, fun x hx => ?_⟩
 ·rw [List.getElem?_map] at hj
  obtain ⟨x, hx, rfl⟩ := Option.map_eq_some_iff.1 hj
  refine ⟨(hQ j x hx).2.1.symm, ?_, ?_⟩
  ·rw [show ((inner.drop (j * (Kd.raw 9).sz)).take (Kd.raw 9).sz) = encC x from (hQ j x hx).2.1.symm]; rfl
  ·rw [show ((inner.drop (j * (Kd.raw 9).sz)).take (Kd.raw 9).sz) = encC x from (hQ j x hx).2.1.symm]
   obtain ⟨v8, e, hR⟩ := k38_openM (hr.2 j x.1 (hQ j x hx).1)
   rw [show encC x = _ from (hQ j x hx).2.1]
   intro u hu
   exact k38.K_one (k38.K_of_M (hr.2 j x.1 (hQ j x hx).1)) u hu
 ·obtain ⟨j, hj, rfl⟩ := List.getElem_of_mem hx
  exact ⟨(hQ j _ (List.getElem?_eq_getElem hj)).2.2.1, (hQ j _ (List.getElem?_eq_getElem hj)).2.2.2⟩
theorem R_HI {W : World} {base : Nat} {ok : Nat → Prop} {v : Value} {t : List S38} (h : Kd.R k38 38 W base ok v t) (hb : base ≤ W.heap.size) :
  ∃ (A : Option Addr) (cap g : Nat) (tail : List Value) (LL : List HE), v = .slice A t.length cap ∧ t.length ≤ cap ∧ LL.map (·.1) = t ∧ HI g tail W A LL W ∧ base ≤ g ∧ ∀ x ∈ LL, x.1.f5.f1.length ≤ x.2.2 ∧ Kd.F k79 W (fun k => ok k ∧ k ≠ g) x.2.1 x.1.f5.f1.length x.1.f5.f1 := by
 obtain ⟨LL, hm, hR, hF⟩ := R_raw h
 obtain ⟨A0, c0, e0, hc0, _⟩ := Kd.R_reads h
 have hl : LL.length = t.length := by rw [← hm, List.length_map]
 by_cases hn : LL = []
 ·subst hn
  exact ⟨A0, c0, W.heap.size, [], [], e0, hc0, hm, ⟨⟨rfl, rfl, rfl, Nat.le_refl _, fun _ _ _ => rfl⟩, fun h => absurd rfl h⟩, hb, fun x hx => by simp at hx⟩
 ·have hpos : 0 < LL.length := Nat.pos_of_ne_zero fun e => hn (List.eq_nil_of_length_eq_zero e)
  obtain ⟨_, inner, ⟨hil, ho⟩, hr⟩ := hR
  rcases ho with ⟨_, hz⟩ | ⟨g, cap, cur, rfl, hg, hh, hnc, hcm, hcs, htk⟩
  ·rw [List.length_map] at hz; omega
  ·have hin : inner = LL.flatMap encC := by
    refine SK.flat_of_chunks encC 9 enc_len LL inner (by rw [hil, List.length_map]; rfl) fun j x hj => ?_
    exact ((hr.2 j (encC x) (by rw [List.getElem?_map, hj]; rfl)).1)
   injection e0 with e1 e2 e3
   refine ⟨some ⟨g, 0, none⟩, cap, g, cur.toList.drop (LL.length * 9), LL, by rw [List.length_map, hl], by rw [← hl]; simpa using hnc, hm, ⟨⟨rfl, rfl, rfl, Nat.le_refl _, fun _ _ _ => rfl⟩, fun _ => ⟨rfl, ?_⟩⟩, hg, fun x hx => ⟨(hF x hx).1, Kd.F_mono (hF x hx).2 fun k hk => ⟨hk.1, fun e => hk.2 (by rw [e]; rfl)⟩⟩⟩
   have htk' : cur.toList.take (LL.length * 9) = inner := by rw [List.length_map] at htk; exact htk
   rw [hh, ← hin, ← htk']
   congr 2
   exact congrArg List.toArray (List.take_append_drop _ _).symm
theorem raw_reads {W : World} {A : Option Addr} {n : Nat} {LL : List HE} (h : Kd.C (Kd.raw 9) W A n (LL.map encC)) (hs : ∀ x ∈ LL, x.1.f5.f1.length ≤ x.2.2 ∧ k79.C W x.2.1 x.1.f5.f1.length x.1.f5.f1) : Kd.C k38 W A n (LL.map (·.1)) := by
 obtain ⟨h1, h2, h3⟩ := h
 refine ⟨by rw [List.length_map] at h1 ⊢; exact h1, h2, fun hn => ?_⟩
 obtain ⟨ad, e, hc⟩ := h3 hn
 refine ⟨ad, e, fun j p hj => ?_⟩
 rw [List.getElem?_map] at hj
 obtain ⟨x, hx, rfl⟩ := Option.map_eq_some_iff.1 hj
 obtain ⟨c, hcl, ⟨rfl, _, _⟩, hcc⟩ := hc j (encC x) (by rw [List.getElem?_map, hx]; rfl)
 obtain ⟨q1, q2⟩ := hs x (List.mem_of_getElem? hx)
 exact ⟨encC x, rfl, k38_mk W x.1 q1 q2, hcc⟩
theorem HI.rawreads {g : Nat} {tail : List Value} {W0 W : World} {A : Option Addr} {L : List HE} (h : HI g tail W0 A L W) (hm : L.length ≤ 9223372036854775807) : ReadsRow (fun x cs => cs = x ∧ cs.length = 9 ∧ ∀ u ∈ cs, u.oneCell' = true) 9 W A L.length (L.map encC) := by
 refine ⟨by rw [List.length_map], hm, fun hpos => ?_⟩
 have hn : L ≠ [] := fun e => by rw [e] at hpos; simp at hpos
 refine ⟨⟨g, 0, none⟩, (h.row hn).1, fun j p hj => ?_⟩
 rw [List.getElem?_map] at hj
 obtain ⟨x, hx, rfl⟩ := Option.map_eq_some_iff.1 hj
 refine ⟨encC x, rfl, ⟨rfl, rfl, fun u hu => ?_⟩, fun i u hu => ?_⟩
 ·simp only [encC, List.mem_cons, List.not_mem_nil, or_false] at hu
  rcases hu with rfl | rfl | rfl | rfl | rfl | rfl | rfl | rfl | rfl <;> rfl
 ·have := h.cell hx i u hu
  show W.cell? (Addr.add ⟨g, 0, none⟩ (j * 9 + i)) = some u
  rw [Addr.add_lit, Nat.zero_add]
  exact this
end MG
set_option maxHeartbeats 8000000 in
set_option maxRecDepth 100000 in
theorem merge_r21 (A0 : Option Addr) (c0 : Nat) (l0 : List S38) (p : Nat) (p1 : Int) (x : S38) (As : Option Addr) (cs : Nat) (w : World) (g15 g16 : Nat) (hr0 : Kd.C k38 w A0 l0.length l0) (hp : p < l0.length)
  (B15 : w.heap[g15]? = some (.cells #[.int .i64 (p : Int), .int .i64 p1] 47 (0, 0))) (B16 : w.heap[g16]? = some (.cells #[.int .i64 x.f0.f0, .int .i64 x.f0.f1, .int .i64 x.f1.f0, .int .i64 x.f1.f1, .int .i64 x.f2, .int .i64 x.f3, .string x.f4, .string x.f5.f0, .slice As x.f5.f1.length cs] 38 (0, 0))) (hne : g15 ≠ g16)
  (s0 s1 s2 s3 s4 s5 s6 s7 s8 s9 aA aB aC aD aE aF aG aH aI aJ aK aL aM aN aO aP aQ aR aS aT aU aV aW aX aY aZ bA bB bC bD bE bF bG bH bI bJ bK bL bM bN bO bP bQ bR bS bT bU bV bW bX bY bZ cA cB cC cD cE cF cG cH cI cJ cK cL cM cN cO cP cQ cR cS cT cU cV cW cX cY cZ dA dB dC dD dE dF dG dH dI dJ dK dL dM dN dO dP dQ dR dS dT dU dV dW dX dY dZ eA eB eC eD eE eF eG eH eI eJ eK eL eM eN eO eP eQ eR eS eT eU eV eW eX eY eZ fA fB fC fD fE fF fG fH : Value) (Q : Exit → Act → World → Prop)
  (HQ : Aside0 (∀ (fI fJ fK fL fM fN fO fP fQ fR fS fT fU fV : Value), Q .normal ⟨List.toArray (s0::s1::s2::s3::s4::s5::s6::s7::s8::s9::aA::aB::.slice A0 l0.length c0::aC::aD::.pointer (some ⟨g15, 0, none⟩)::.pointer (some ⟨g16, 0, none⟩)::aE::aF::aG::aH::aI::aJ::aK::aL::aM::aN::aO::aP::aQ::aR::aS::aT::aU::aV::aW::aX::aY::aZ::bA::bB::bC::bD::bE::bF::bG::bH::bI::bJ::bK::bL::bM::bN::bO::bP::bQ::bR::bS::bT::bU::bV::bW::bX::bY::bZ::cA::cB::cC::cD::cE::cF::cG::cH::cI::cJ::cK::cL::cM::cN::cO::cP::cQ::cR::fI::fJ::fK::fL::fM::fN::fO::fP::fQ::fR::fS::fT::fU::fV::dG::dH::dI::dJ::dK::dL::dM::dN::dO::dP::dQ::dR::dS::dT::dU::dV::dW::dX::dY::dZ::eA::eB::eC::eD::eE::eF::eG::eH::eI::eJ::eK::eL::eM::eN::eO::eP::eQ::eR::eS::eT::eU::eV::eW::eX::eY::eZ::fA::fB::fC::fD::fE::fF::fG::fH::[]), []⟩ (((((w.setCell ⟨g16, 0, none⟩ (.int .i64 (l0.getD p z38).f0.f0)).setCell ⟨g16, 1, none⟩ (.int .i64 (l0.getD p z38).f0.f1)).setCell ⟨g16, 2, none⟩ (.int .i64 (l0.getD p z38).f1.f0)).setCell ⟨g16, 3, none⟩ (.int .i64 (l0.getD p z38).f1.f1)).drew))) :
  (rgnM 21).wp Try.prog Q ⟨List.toArray (s0::s1::s2::s3::s4::s5::s6::s7::s8::s9::aA::aB::.slice A0 l0.length c0::aC::aD::.pointer (some ⟨g15, 0, none⟩)::.pointer (some ⟨g16, 0, none⟩)::aE::aF::aG::aH::aI::aJ::aK::aL::aM::aN::aO::aP::aQ::aR::aS::aT::aU::aV::aW::aX::aY::aZ::bA::bB::bC::bD::bE::bF::bG::bH::bI::bJ::bK::bL::bM::bN::bO::bP::bQ::bR::bS::bT::bU::bV::bW::bX::bY::bZ::cA::cB::cC::cD::cE::cF::cG::cH::cI::cJ::cK::cL::cM::cN::cO::cP::cQ::cR::cS::cT::cU::cV::cW::cX::cY::cZ::dA::dB::dC::dD::dE::dF::dG::dH::dI::dJ::dK::dL::dM::dN::dO::dP::dQ::dR::dS::dT::dU::dV::dW::dX::dY::dZ::eA::eB::eC::eD::eE::eF::eG::eH::eI::eJ::eK::eL::eM::eN::eO::eP::eQ::eR::eS::eT::eU::eV::eW::eX::eY::eZ::fA::fB::fC::fD::fE::fF::fG::fH::[]), []⟩ w := by
 refine wp_norm fun K HK => ?_
 conv => arg 2; whnf
 have hu47 := Try.underlying47
 have hu38 := Try.underlying38
 have hu33 := Try.underlying33
 have hp0 : (0 : Int) ≤ (p : Int) := by omega
 have hp1 : (p : Int) < (l0.length : Int) := by omega
 obtain ⟨ad, A8, c8, rfl, k0, k1, k2, k3, _⟩ := at_T38 hr0 (p : Int) hp0 hp1
 have er : rd_T38 l0 (p : Int) = l0.getD p z38 := rfl
 rw [er] at k0 k1 k2 k3
 rw [Int.toNat_natCast] at k0 k1 k2 k3
 clear hr0 er
 generalize l0.getD p z38 = y at *
 obtain ⟨e0, e1, f0, f1⟩ := blk_cells2 B15
 obtain ⟨q0, q1, q2, q3, q4, q5, q6, q7, q8, f2, f3, f4, f5, f6, f7, f8, f9, f10⟩ := blk_cells9 B16
 have hne' := hne.symm
 clear B15 B16 hp
 generalize l0.length = nn at *
 go_wp2_with fail
 go_region
 all_goals exact HK.out _ _ (HQ.out _ _ _ _ _ _ _ _ _ _ _ _ _ _)
namespace MG
def stepS (low H : List S38) (pq : S47) : Option (List S38) :=
 if 0 ≤ pq.f0 ∧ pq.f0 < (low.length : Int) ∧ 0 ≤ pq.f1 ∧ pq.f1 < (H.length : Int) then
  (merge_test.f H pq.f0 pq.f1 (timed (H.getD pq.f1.toNat z38) (low.getD pq.f0.toNat z38)).f0.f0 (timed (H.getD pq.f1.toNat z38) (low.getD pq.f0.toNat z38)).f0.f1 (timed (H.getD pq.f1.toNat z38) (low.getD pq.f0.toNat z38)).f1.f0 (timed (H.getD pq.f1.toNat z38) (low.getD pq.f0.toNat z38)).f1.f1
   (timed (H.getD pq.f1.toNat z38) (low.getD pq.f0.toNat z38)).f2 (timed (H.getD pq.f1.toNat z38) (low.getD pq.f0.toNat z38)).f3 (timed (H.getD pq.f1.toNat z38) (low.getD pq.f0.toNat z38)).f4 (timed (H.getD pq.f1.toNat z38) (low.getD pq.f0.toNat z38)).f5.f0 (timed (H.getD pq.f1.toNat z38) (low.getD pq.f0.toNat z38)).f5.f1).bind fun r =>
   if r = true then some H else some (H.set pq.f1.toNat (timed (H.getD pq.f1.toNat z38) (low.getD pq.f0.toNat z38)))
 else none
def setAll (low : List S38) : List S47 → List S38 → Option (List S38)
 | [], H => some H
 | p :: ps, H => (stepS low H p).bind (setAll low ps)
end MG
theorem sp_at {HL : List MG.HE} {W0 W : World} {g q n1 : Nat} {e : MG.HE} (hs : ∀ x ∈ HL, MG.Sp W0 g n1 x) (he : HL[q]? = some e) (hg : W0.grownBy W (some g)) : e.1.f5.f1.length ≤ e.2.2 ∧ k79.C W e.2.1 e.1.f5.f1.length e.1.f5.f1 := MG.sp_grown (hs e (List.mem_of_getElem? he)) hg
set_option maxHeartbeats 8000000 in
set_option maxRecDepth 100000 in
theorem merge_body (i p q n1 : Nat) (pr : List S47) (Ap Al A : Option Addr) (cp cl cap : Nat) (low hs : List S38) (HL : List MG.HE) (g : Nat) (tail : List Value) (W0 W : World) (e : MG.HE) (r : Bool)
  (hi : i < pr.length) (hpq : pr.getD i z47 = ⟨(p : Int), (q : Int)⟩) (hp : p < low.length) (HHS : Aside0 (hs = HL.map (·.1))) (HE9 : Aside0 (HL[q]? = some e)) (hpr : pr.length ≤ 4096) (hlow : low.length ≤ 4096) (hhs : hs.length ≤ 4096) (hcap : hs.length ≤ cap)
  (PRS : Aside0 (∀ W', W0.grownBy W' (some g) → Kd.C k47 W' Ap pr.length pr)) (LOW : Aside0 (∀ W', W0.grownBy W' (some g) → Kd.C k38 W' Al low.length low))
  (HH : Aside0 (MG.HI g tail W0 A HL W)) (HS : Aside0 (∀ x ∈ HL, MG.Sp W0 g n1 x))
  (HR9 : Aside0 (merge_test.f hs (p : Int) (q : Int) (MG.timed e.1 (low.getD p z38)).f0.f0 (MG.timed e.1 (low.getD p z38)).f0.f1 (MG.timed e.1 (low.getD p z38)).f1.f0 (MG.timed e.1 (low.getD p z38)).f1.f1 (MG.timed e.1 (low.getD p z38)).f2 (MG.timed e.1 (low.getD p z38)).f3 (MG.timed e.1 (low.getD p z38)).f4 (MG.timed e.1 (low.getD p z38)).f5.f0 (MG.timed e.1 (low.getD p z38)).f5.f1 = some r))
  (s0 s1 s2 s3 s4 s5 s6 s7 s8 s9 aA aB aC aD aE aF aG aH aI aJ aK aL aM aN aO aP aQ aR aS aT aU aV aW aX aY aZ bA bB bC bD bE bF bG bH bI bJ bK bL bM bN bO bP bQ bR bS bT bU bV bW bX bY bZ cA cB cC cD cE cF cG cH cI cJ cK cL cM cN cO cP cQ cR cS cT cU cV cW cX cY cZ dA dB dC dD dE dF dG dH dI dJ dK dL dM dN dO dP dQ dR dS dT dU dV dW dX dY dZ eA eB eC eD eE eF eG eH eI eJ eK eL eM eN eO eP eQ eR eS eT eU eV eW eX eY eZ fA fB fC fD fE fF fG : Value) (Q : Exit → Act → World → Prop)
  (HQ : Aside0 (∀ (fH fI fJ fK fL fM fN fO fP fQ fR fS fT fU fV fW fX fY fZ gA gB gC gD gE gF gG gH gI gJ gK gL gM gN gO gP gQ gR gS gT gU gV gW gX gY gZ hD hJ hK hM hN hO hT hU hV hW hX hY hZ iA iB iC : Value) (W' : World), MG.HI g tail W0 A (if r = true then HL else HL.set q ((MG.timed e.1 (low.getD p z38)), e.2.1, e.2.2)) W' → Q .normal ⟨List.toArray (s0::s1::s2::s3::s4::s5::s6::s7::s8::s9::aA::aB::.slice Al low.length cl::.slice A hs.length cap::aC::fH::fI::aF::aG::aH::aI::aJ::aK::aL::aM::aN::aO::aP::aQ::aR::aS::aT::aU::aV::aW::aX::aY::aZ::bA::bB::bC::bD::bE::bF::bG::bH::bI::bJ::bK::bL::bM::bN::bO::bP::bQ::bR::bS::bT::bU::bV::bW::bX::bY::bZ::cA::cB::cC::cD::cE::cF::cG::cH::.slice Ap pr.length cp::cI::.int .i64 (i : Int)::cJ::fJ::fK::fL::fM::fN::fO::fP::fQ::fR::fS::fT::fU::fV::fW::fX::fY::fZ::gA::gB::gC::gD::gE::gF::gG::gH::gI::gJ::gK::gL::gM::gN::gO::gP::gQ::gR::gS::gT::gU::gV::gW::gX::gY::gZ::hD::hJ::hK::hM::hN::hO::hT::hU::hV::hW::hX::hY::hZ::iA::iB::iC::eR::eS::eT::eU::eV::eW::eX::eY::eZ::fA::fB::fC::fD::fE::fF::fG::[]), []⟩ W')) :
  (blkM 5).wp Try.prog (Exit.inBlock 5 Q) ⟨List.toArray (s0::s1::s2::s3::s4::s5::s6::s7::s8::s9::aA::aB::.slice Al low.length cl::.slice A hs.length cap::aC::aD::aE::aF::aG::aH::aI::aJ::aK::aL::aM::aN::aO::aP::aQ::aR::aS::aT::aU::aV::aW::aX::aY::aZ::bA::bB::bC::bD::bE::bF::bG::bH::bI::bJ::bK::bL::bM::bN::bO::bP::bQ::bR::bS::bT::bU::bV::bW::bX::bY::bZ::cA::cB::cC::cD::cE::cF::cG::cH::.slice Ap pr.length cp::cI::.int .i64 (i : Int)::cJ::cK::cL::cM::cN::cO::cP::cQ::cR::cS::cT::cU::cV::cW::cX::cY::cZ::dA::dB::dC::dD::dE::dF::dG::dH::dI::dJ::dK::dL::dM::dN::dO::dP::dQ::dR::dS::dT::dU::dV::dW::dX::dY::dZ::eA::eB::eC::eD::eE::eF::eG::eH::eI::eJ::eK::eL::eM::eN::eO::eP::eQ::eR::eS::eT::eU::eV::eW::eX::eY::eZ::fA::fB::fC::fD::fE::fF::fG::[]), []⟩ W := by
 refine wp_norm_blk fun K HK => ?_
 conv => arg 2; whnf
 have hi0 : (0 : Int) ≤ (i : Int) := by omega
 have hi1 : (i : Int) < (pr.length : Int) := by omega
 have hqn : q < hs.length := by rw [HHS.out, List.length_map]; exact (List.getElem?_eq_some_iff.1 HE9.out).1
 have hq0 : (0 : Int) ≤ (q : Int) := by omega
 have hq1 : (q : Int) < (hs.length : Int) := by omega
 have HB := Aside0.mk (And.intro hpr (And.intro hlow (And.intro hhs (And.intro hcap (And.intro hp hqn)))))
 obtain rfl : A = some ⟨g, 0, none⟩ := HH.out.addr HE9.out
 obtain ⟨ad, rfl, a0, a1⟩ := at_T47 (PRS.out W HH.out.grown) (i : Int) hi0 hi1
 have er : rd_T47 pr (i : Int) = ⟨(p : Int), (q : Int)⟩ := hpq
 rw [er] at a0 a1
 rw [Int.toNat_natCast] at a0 a1
 dsimp only at a0 a1
 clear er hpq hpr hlow hhs hcap hp hqn hi
 have HA := Aside0.mk (HH.out.below (below_alloc (Below.refl _ _) (.cells #[.int .i64 (p : Int), .int .i64 (q : Int)] 47)))
 have hx0 := HA.out.cell0 HE9.out (Value.int .i64 e.1.f0.f0) rfl
 have hx1 := HA.out.cell HE9.out 1 (Value.int .i64 e.1.f0.f1) rfl
 have hx2 := HA.out.cell HE9.out 2 (Value.int .i64 e.1.f1.f0) rfl
 have hx3 := HA.out.cell HE9.out 3 (Value.int .i64 e.1.f1.f1) rfl
 have hx4 := HA.out.cell HE9.out 4 (Value.int .i64 e.1.f2) rfl
 have hx5 := HA.out.cell HE9.out 5 (Value.int .i64 e.1.f3) rfl
 have hx6 := HA.out.cell HE9.out 6 (Value.string e.1.f4) rfl
 have hx7 := HA.out.cell HE9.out 7 (Value.string e.1.f5.f0) rfl
 have hx8 := HA.out.cell HE9.out 8 (Value.slice e.2.1 e.1.f5.f1.length e.2.2) rfl
 go_wp2_with fail
 have hg1 := Aside0.mk (blk_lt (HH.out.row (MG.HI.ne HE9.out)).2)
 clear hx0 hx1 hx2 hx3 hx4 hx5 hx6 hx7 hx8 a0 a1
 have B15 := blk_alloc (blk_new W (.cells #[.int .i64 (p : Int), .int .i64 (q : Int)] 47)) (.cells #[.int .i64 e.1.f0.f0, .int .i64 e.1.f0.f1, .int .i64 e.1.f1.f0, .int .i64 e.1.f1.f1, .int .i64 e.1.f2, .int .i64 e.1.f3, .string e.1.f4, .string e.1.f5.f0, .slice e.2.1 e.1.f5.f1.length e.2.2] 38)
 have B16 := blk_new (W.alloc (.cells #[.int .i64 (p : Int), .int .i64 (q : Int)] 47)) (.cells #[.int .i64 e.1.f0.f0, .int .i64 e.1.f0.f1, .int .i64 e.1.f1.f0, .int .i64 e.1.f1.f1, .int .i64 e.1.f2, .int .i64 e.1.f3, .string e.1.f4, .string e.1.f5.f0, .slice e.2.1 e.1.f5.f1.length e.2.2] 38)
 rw [World.size_alloc] at B16
 have HW := Aside0.mk (below_alloc (below_alloc (Below.refl W.heap.size W) (.cells #[.int .i64 (p : Int), .int .i64 (q : Int)] 47)) (.cells #[.int .i64 e.1.f0.f0, .int .i64 e.1.f0.f1, .int .i64 e.1.f1.f0, .int .i64 e.1.f1.f1, .int .i64 e.1.f2, .int .i64 e.1.f3, .string e.1.f4, .string e.1.f5.f0, .slice e.2.1 e.1.f5.f1.length e.2.2] 38))
 have HI2 := Aside0.mk (HH.out.below HW.out)
 obtain ⟨g15, hg15⟩ : ∃ g15, W.heap.size = g15 := ⟨_, rfl⟩
 rw [hg15] at B15 B16 hg1 ⊢
 obtain ⟨g16, hg16⟩ : ∃ g16, g15 + 1 = g16 := ⟨_, rfl⟩
 rw [hg16] at B16 ⊢
 generalize (W.alloc (.cells #[.int .i64 (p : Int), .int .i64 (q : Int)] 47)).alloc (.cells #[.int .i64 e.1.f0.f0, .int .i64 e.1.f0.f1, .int .i64 e.1.f1.f0, .int .i64 e.1.f1.f1, .int .i64 e.1.f2, .int .i64 e.1.f3, .string e.1.f4, .string e.1.f5.f0, .slice e.2.1 e.1.f5.f1.length e.2.2] 38) = w1 at HI2 B15 B16 HW ⊢
 have HG := Aside0.mk (And.intro hg15 hg16)
 clear hg15 hg16
 have hne : g15 ≠ g16 := by have := HG.out.2; omega
 refine merge_r21 Al cl low p (q : Int) e.1 e.2.1 e.2.2 w1 g15 g16 (LOW.out w1 HI2.out.grown) HB.out.2.2.2.2.1 B15 B16 hne _ _ _ _ _ _ _ _ _ _ _ _ _ _ _ _ _ _ _ _ _ _ _ _ _ _ _ _ _ _ _ _ _ _ _ _ _ _ _ _ _ _ _ _ _ _ _ _ _ _ _ _ _ _ _ _ _ _ _ _ _ _ _ _ _ _ _ _ _ _ _ _ _ _ _ _ _ _ _ _ _ _ _ _ _ _ _ _ _ _ _ _ _ _ _ _ _ _ _ _ _ _ _ _ _ _ _ _ _ _ _ _ _ _ _ _ _ _ _ _ _ _ _ _ _ _ _ _ _ _ _ _ _ _ _ _ _ _ _ _ _ _ _ _ _ _ _ _ _ ⟨fun x83 x84 x85 x86 x87 x88 x89 x90 x91 x92 x93 x94 x95 x96 => ?_⟩
 have hne' := hne.symm
 have B15d : Aside0 ((((((w1.setCell ⟨g16, 0, none⟩ (.int .i64 (low.getD p z38).f0.f0)).setCell ⟨g16, 1, none⟩ (.int .i64 (low.getD p z38).f0.f1)).setCell ⟨g16, 2, none⟩ (.int .i64 (low.getD p z38).f1.f0)).setCell ⟨g16, 3, none⟩ (.int .i64 (low.getD p z38).f1.f1)).drew).heap[g15]? = some (.cells #[.int .i64 (p : Int), .int .i64 (q : Int)] 47 (0, 0))) := ⟨blk_drew (blk_far (blk_far (blk_far (blk_far B15 hne _) hne _) hne _) hne _)⟩
 have B16d : Aside0 ((((((w1.setCell ⟨g16, 0, none⟩ (.int .i64 (low.getD p z38).f0.f0)).setCell ⟨g16, 1, none⟩ (.int .i64 (low.getD p z38).f0.f1)).setCell ⟨g16, 2, none⟩ (.int .i64 (low.getD p z38).f1.f0)).setCell ⟨g16, 3, none⟩ (.int .i64 (low.getD p z38).f1.f1)).drew).heap[g16]? = some (.cells #[.int .i64 (MG.timed e.1 (low.getD p z38)).f0.f0, .int .i64 (MG.timed e.1 (low.getD p z38)).f0.f1, .int .i64 (MG.timed e.1 (low.getD p z38)).f1.f0, .int .i64 (MG.timed e.1 (low.getD p z38)).f1.f1, .int .i64 (MG.timed e.1 (low.getD p z38)).f2, .int .i64 (MG.timed e.1 (low.getD p z38)).f3, .string (MG.timed e.1 (low.getD p z38)).f4, .string (MG.timed e.1 (low.getD p z38)).f5.f0, .slice e.2.1 (MG.timed e.1 (low.getD p z38)).f5.f1.length e.2.2] 38 (0, 0))) := ⟨blk_drew (blk_put (blk_put (blk_put (blk_put B16 0 _ rfl) 1 _ rfl) 2 _ rfl) 3 _ rfl)⟩
 have hsz : W.heap.size ≤ g16 := by have := HG.out.1; have := HG.out.2; omega
 have HW2 : Aside0 (Below W.heap.size W (((((w1.setCell ⟨g16, 0, none⟩ (.int .i64 (low.getD p z38).f0.f0)).setCell ⟨g16, 1, none⟩ (.int .i64 (low.getD p z38).f0.f1)).setCell ⟨g16, 2, none⟩ (.int .i64 (low.getD p z38).f1.f0)).setCell ⟨g16, 3, none⟩ (.int .i64 (low.getD p z38).f1.f1)).drew)) := ⟨below_drew (below_set (below_set (below_set (below_set HW.out hsz) hsz) hsz) hsz)⟩
 have HI3 := Aside0.mk (HH.out.below HW2.out)
 clear B15 B16 HI2 HW hsz hg1
 generalize ((((w1.setCell ⟨g16, 0, none⟩ (.int .i64 (low.getD p z38).f0.f0)).setCell ⟨g16, 1, none⟩ (.int .i64 (low.getD p z38).f0.f1)).setCell ⟨g16, 2, none⟩ (.int .i64 (low.getD p z38).f1.f0)).setCell ⟨g16, 3, none⟩ (.int .i64 (low.getD p z38).f1.f1)).drew = w2 at B15d B16d HW2 HI3 ⊢
 unfold Exit.then
 (try dsimp only)
 go_wp2
 have HR2 := Aside0.mk (sp_at HS.out HE9.out HI3.out.grown)
 refine merge_test.region (some ⟨g, 0, none⟩) cap hs (p : Int) (q : Int) (MG.timed e.1 (low.getD p z38)).f0.f0 (MG.timed e.1 (low.getD p z38)).f0.f1 (MG.timed e.1 (low.getD p z38)).f1.f0 (MG.timed e.1 (low.getD p z38)).f1.f1 (MG.timed e.1 (low.getD p z38)).f2 (MG.timed e.1 (low.getD p z38)).f3 (MG.timed e.1 (low.getD p z38)).f4 (MG.timed e.1 (low.getD p z38)).f5.f0 e.2.1 e.2.2 (MG.timed e.1 (low.getD p z38)).f5.f1 r w2 (HHS.out ▸ HI3.out.reads HS.out (by rw [← List.length_map (f := (·.1)), ← HHS.out]; have := HB.out; omega)) HB.out.2.2.2.1 HR2.out.2 HR2.out.1 g15 g16 HR9.out B15d B16d _ _ _ _ _ _ _ _ _ _ _ _ _ _ _ _ _ _ _ _ _ _ _ _ _ _ _ _ _ _ _ _ _ _ _ _ _ _ _ _ _ _ _ _ _ _ _ _ _ _ _ _ _ _ _ _ _ _ _ _ _ _ _ _ _ _ _ _ _ _ _ _ _ _ _ _ _ _ _ _ _ _ _ _ _ _ _ _ _ _ _ _ _ _ _ _ _ _ _ _ _ _ _ _ _ _ _ _ _ _ _ _ _ _ _ _ _ _ _ _ _ _ _ _ _ _ _ _ _ _ _ _ _ _ _ _ _ _ _ _ _ _ _ _ _ _ _ _ _ ⟨fun y97 y98 y99 y100 y101 y102 y103 y104 y105 y106 y107 y108 y109 y110 y111 y112 y113 y114 y115 y116 y117 y118 y119 y120 y121 y122 y123 y124 y125 y126 y127 y128 w3 hw3 => ?_⟩
 have HW3 := Aside0.mk (below_step HW2.out hw3)
 have HI4 := Aside0.mk (HH.out.below HW3.out)
 have B15e := Aside0.mk (blk_below B15d.out hw3)
 have B16e := Aside0.mk (blk_below B16d.out hw3)
 clear hw3 B15d B16d HI3 HW2 HR2
 unfold Exit.then
 (try dsimp only)
 cases r with
 | true =>
  go_wp2
  exact HK.out _ _ (HQ.out _ _ _ _ _ _ _ _ _ _ _ _ _ _ _ _ _ _ _ _ _ _ _ _ _ _ _ _ _ _ _ _ _ _ _ _ _ _ _ _ _ _ _ _ _ _ _ _ _ _ _ _ _ _ _ _ _ _ _ _ _ _ HI4.out)
 | false =>
  obtain ⟨b0, b1, b2, b3⟩ := blk_cells2 B15e.out
  obtain ⟨q0, q1, q2, q3, q4, q5, q6, q7, q8, f2, f3, f4, f5, f6, f7, f8, f9, f10⟩ := blk_cells9 B16e.out
  have hy0 := HI4.out.cell0 HE9.out (Value.int .i64 e.1.f0.f0) rfl
  have hy1 := HI4.out.cell HE9.out 1 (Value.int .i64 e.1.f0.f1) rfl
  have hy2 := HI4.out.cell HE9.out 2 (Value.int .i64 e.1.f1.f0) rfl
  have hy3 := HI4.out.cell HE9.out 3 (Value.int .i64 e.1.f1.f1) rfl
  have hy4 := HI4.out.cell HE9.out 4 (Value.int .i64 e.1.f2) rfl
  have hy5 := HI4.out.cell HE9.out 5 (Value.int .i64 e.1.f3) rfl
  have hy6 := HI4.out.cell HE9.out 6 (Value.string e.1.f4) rfl
  have hy7 := HI4.out.cell HE9.out 7 (Value.string e.1.f5.f0) rfl
  have hy8 := HI4.out.cell HE9.out 8 (Value.slice e.2.1 e.1.f5.f1.length e.2.2) rfl
  have hz0 := HI4.out.froz HE9.out (q * 9)
  have hz1 := HI4.out.froz HE9.out (q * 9 + 1)
  have hz2 := HI4.out.froz HE9.out (q * 9 + 2)
  have hz3 := HI4.out.froz HE9.out (q * 9 + 3)
  have hz4 := HI4.out.froz HE9.out (q * 9 + 4)
  have hz5 := HI4.out.froz HE9.out (q * 9 + 5)
  have hz6 := HI4.out.froz HE9.out (q * 9 + 6)
  have hz7 := HI4.out.froz HE9.out (q * 9 + 7)
  have hz8 := HI4.out.froz HE9.out (q * 9 + 8)
  go_wp2
  exact HK.out _ _ (HQ.out _ _ _ _ _ _ _ _ _ _ _ _ _ _ _ _ _ _ _ _ _ _ _ _ _ _ _ _ _ _ _ _ _ _ _ _ _ _ _ _ _ _ _ _ _ _ _ _ _ _ _ _ _ _ _ _ _ _ _ _ _ _ (HI4.out.store HE9.out ((MG.timed e.1 (low.getD p z38)), e.2.1, e.2.2)))
theorem stepS_some {low H : List S38} {pq : S47} {H' : List S38} (h : MG.stepS low H pq = some H') : ∃ p q : Nat, pq = ⟨(p : Int), (q : Int)⟩ ∧ p < low.length ∧ q < H.length ∧ ∃ r, merge_test.f H (p : Int) (q : Int) (MG.timed (H.getD q z38) (low.getD p z38)).f0.f0 (MG.timed (H.getD q z38) (low.getD p z38)).f0.f1 (MG.timed (H.getD q z38) (low.getD p z38)).f1.f0 (MG.timed (H.getD q z38) (low.getD p z38)).f1.f1
   (MG.timed (H.getD q z38) (low.getD p z38)).f2 (MG.timed (H.getD q z38) (low.getD p z38)).f3 (MG.timed (H.getD q z38) (low.getD p z38)).f4 (MG.timed (H.getD q z38) (low.getD p z38)).f5.f0 (MG.timed (H.getD q z38) (low.getD p z38)).f5.f1 = some r ∧ H' = if r = true then H else H.set q (MG.timed (H.getD q z38) (low.getD p z38)) := by
 obtain ⟨a, b⟩ := pq
 unfold MG.stepS at h
 dsimp only at h
 split at h
 case isFalse => exact absurd h (by simp)
 case isTrue hc =>
 obtain ⟨h1, h2, h3, h4⟩ := hc
 obtain ⟨p, rfl⟩ := Int.eq_ofNat_of_zero_le h1
 obtain ⟨q, rfl⟩ := Int.eq_ofNat_of_zero_le h3
 obtain ⟨r, hr, h⟩ := Option.bind_eq_some_iff.1 h
 rw [Int.toNat_natCast, Int.toNat_natCast] at hr h
 refine ⟨p, q, rfl, by omega, by omega, r, hr, ?_⟩
 split at h
 ·rename_i c; rw [if_pos c]; exact (Option.some.inj h).symm
 ·rename_i c; rw [if_neg c]; exact (Option.some.inj h).symm
set_option maxHeartbeats 8000000 in
set_option maxRecDepth 100000 in
theorem set_loop (n1 : Nat) (pr : List S47) (Ap Al A : Option Addr) (cp cl cap nn : Nat) (low : List S38) (HL : List MG.HE) (h2 : List S38) (g : Nat) (tail : List Value) (W0 W : World)
  (hpr : pr.length ≤ 4096) (hlow : low.length ≤ 4096) (hnn : nn ≤ 4096) (hcap : nn ≤ cap) (HN : Aside0 (HL.length = nn))
  (PRS : Aside0 (∀ W', W0.grownBy W' (some g) → Kd.C k47 W' Ap pr.length pr)) (LOW : Aside0 (∀ W', W0.grownBy W' (some g) → Kd.C k38 W' Al low.length low))
  (HH : Aside0 (MG.HI g tail W0 A HL W)) (HS : Aside0 (∀ x ∈ HL, MG.Sp W0 g n1 x)) (HA9 : Aside0 (MG.setAll low pr (HL.map (·.1)) = some h2))
  (s0 s1 s2 s3 s4 s5 s6 s7 s8 s9 aA aB aC aD aE aF aG aH aI aJ aK aL aM aN aO aP aQ aR aS aT aU aV aW aX aY aZ bA bB bC bD bE bF bG bH bI bJ bK bL bM bN bO bP bQ bR bS bT bU bV bW bX bY bZ cA cB cC cD cE cF cG cH cI cJ cK cL cM cN cO cP cQ cR cS cT cU cV cW cX cY cZ dA dB dC dD dE dF dG dH dI dJ dK dL dM dN dO dP dQ dR dS dT dU dV dW dX dY dZ eA eB eC eD eE eF eG eH eI eJ eK eL eM eN eO eP eQ eR eS eT eU eV eW eX eY eZ fA fB fC fD fE fF : Value) (Q : Exit → Act → World → Prop)
  (HQ : Aside0 (∀ (fG fH fI fJ fK fL fM fN fO fP fQ fR fS fT fU fV fW fX fY fZ gA gB gC gD gE gF gG gH gI gJ gK gL gM gN gO gP gQ gR gS gT gU gV gW gX gY gZ hD hJ hK hM hN hO hT hU hV hW hX hY hZ iA iB iC iD iE : Value) (W' : World) (HL' : List MG.HE), MG.HI g tail W0 A HL' W' → (∀ x ∈ HL', MG.Sp W0 g n1 x) → HL'.map (·.1) = h2 → HL'.length = nn → Q .normal ⟨List.toArray (s0::s1::s2::s3::s4::s5::s6::s7::s8::s9::aA::aB::.slice Al low.length cl::.slice A nn cap::aC::fG::fH::aF::aG::aH::aI::aJ::aK::aL::aM::aN::aO::aP::aQ::aR::aS::aT::aU::aV::aW::aX::aY::aZ::bA::bB::bC::bD::bE::bF::bG::bH::bI::bJ::bK::bL::bM::bN::bO::bP::bQ::bR::bS::bT::bU::bV::bW::bX::bY::bZ::cA::cB::cC::cD::cE::cF::cG::cH::.slice Ap pr.length cp::.int .i64 (pr.length : Int)::fI::fJ::fK::fL::fM::fN::fO::fP::fQ::fR::fS::fT::fU::fV::fW::fX::fY::fZ::gA::gB::gC::gD::gE::gF::gG::gH::gI::gJ::gK::gL::gM::gN::gO::gP::gQ::gR::gS::gT::gU::gV::gW::gX::gY::gZ::hD::hJ::hK::hM::hN::hO::hT::hU::hV::hW::hX::hY::hZ::iA::iB::iC::iD::iE::eR::eS::eT::eU::eV::eW::eX::eY::eZ::fA::fB::fC::fD::fE::fF::[]), []⟩ W')) :
  (blkM 4).wp Try.prog (Exit.inBlock 4 Q) ⟨List.toArray (s0::s1::s2::s3::s4::s5::s6::s7::s8::s9::aA::aB::.slice Al low.length cl::.slice A nn cap::aC::aD::aE::aF::aG::aH::aI::aJ::aK::aL::aM::aN::aO::aP::aQ::aR::aS::aT::aU::aV::aW::aX::aY::aZ::bA::bB::bC::bD::bE::bF::bG::bH::bI::bJ::bK::bL::bM::bN::bO::bP::bQ::bR::bS::bT::bU::bV::bW::bX::bY::bZ::cA::cB::cC::cD::cE::cF::cG::cH::.slice Ap pr.length cp::.int .i64 (pr.length : Int)::.int .i64 0::cI::cJ::cK::cL::cM::cN::cO::cP::cQ::cR::cS::cT::cU::cV::cW::cX::cY::cZ::dA::dB::dC::dD::dE::dF::dG::dH::dI::dJ::dK::dL::dM::dN::dO::dP::dQ::dR::dS::dT::dU::dV::dW::dX::dY::dZ::eA::eB::eC::eD::eE::eF::eG::eH::eI::eJ::eK::eL::eM::eN::eO::eP::eQ::eR::eS::eT::eU::eV::eW::eX::eY::eZ::fA::fB::fC::fD::fE::fF::[]), []⟩ W := by
 refine wp_norm_blk fun K HK => ?_
 conv => arg 2; whnf
 have HBD := Aside0.mk (And.intro hpr (And.intro hlow (And.intro hnn hcap)))
 clear hlow hcap
 go_loopg [74] (pr.length) (fun kx v74 w' => ∃ (i : Nat) (HC : List MG.HE), v74 = .int .i64 (i : Int) ∧ i + kx = pr.length ∧ Aside0 (MG.HI g tail W0 A HC w') ∧ Aside0 (∀ x ∈ HC, MG.Sp W0 g n1 x) ∧ Aside0 (HC.length = nn) ∧ Aside0 (MG.setAll low (pr.drop i) (HC.map (·.1)) = some h2))
 case atStart => exact ⟨0, HL, rfl, by omega, HH, HS, HN, HA9⟩
 case round =>
  clear HH HS HN HA9
  obtain ⟨i, HC, rfl, hik, HH, HS, HN, HA9⟩ := hrel
  have HIK := Aside0.mk hik
  clear hik
  cases gk with
  | zero =>
   have hlt : decide ((i : Int) < (pr.length : Int)) = false := decide_eq_false (by have := HIK.out; omega)
   have hlt2 : decide (i < pr.length) = false := decide_eq_false (by have := HIK.out; omega)
   go_wp2
   refine HK.out _ _ (HQ.out _ _ _ _ _ _ _ _ _ _ _ _ _ _ _ _ _ _ _ _ _ _ _ _ _ _ _ _ _ _ _ _ _ _ _ _ _ _ _ _ _ _ _ _ _ _ _ _ _ _ _ _ _ _ _ _ _ _ _ _ _ _ _ _ _ HC HH.out HS.out ?_ HN.out)
   have h := HA9.out
   rw [List.drop_eq_nil_of_le (by have := HIK.out; omega)] at h
   exact Option.some.inj h
  | succ r =>
   have hi : i < pr.length := by have := HIK.out; omega
   have hlt : decide ((i : Int) < (pr.length : Int)) = true := decide_eq_true (by omega)
   have hlt2 : decide (i < pr.length) = true := decide_eq_true hi
   go_upto_block 5 with (fail)
   clear hlt hlt2
   refine wp_block ?_
   have h := HA9.out
   rw [List.drop_eq_getElem_cons hi, MG.setAll] at h
   obtain ⟨H', hst, hre⟩ := Option.bind_eq_some_iff.1 h
   obtain ⟨p, q, hpq, hp, hq, rr, htest, hH'⟩ := stepS_some hst
   rw [List.length_map] at hq
   have he : HC[q]? = some HC[q] := List.getElem?_eq_getElem hq
   have hg1 : (HC.map (·.1)).getD q z38 = HC[q].1 := by rw [List.getD_eq_getElem?_getD, List.getElem?_map, he]; rfl
   rw [hg1] at htest hH'
   have hprd : pr.getD i z47 = ⟨(p : Int), (q : Int)⟩ := by rw [List.getD_eq_getElem?_getD, List.getElem?_eq_getElem hi, ← hpq]; rfl
   obtain ⟨hs, hhs⟩ : ∃ hs, hs = HC.map (·.1) := ⟨_, rfl⟩
   have hl9 : hs.length = nn := by rw [hhs, List.length_map]; exact HN.out
   rw [← hhs] at htest
   rw [← hl9]
   refine merge_body i p q n1 pr Ap Al A cp cl cap low hs HC g tail W0 wr HC[q] rr hi hprd hp ⟨hhs⟩ ⟨he⟩ HBD.out.1 HBD.out.2.1 (by rw [hl9]; exact HBD.out.2.2.1) (by rw [hl9]; exact HBD.out.2.2.2) PRS LOW HH HS ⟨htest⟩ _ _ _ _ _ _ _ _ _ _ _ _ _ _ _ _ _ _ _ _ _ _ _ _ _ _ _ _ _ _ _ _ _ _ _ _ _ _ _ _ _ _ _ _ _ _ _ _ _ _ _ _ _ _ _ _ _ _ _ _ _ _ _ _ _ _ _ _ _ _ _ _ _ _ _ _ _ _ _ _ _ _ _ _ _ _ _ _ _ _ _ _ _ _ _ _ _ _ _ _ _ _ _ _ _ _ _ _ _ _ _ _ _ _ _ _ _ _ _ _ _ _ _ _ _ _ _ _ _ _ _ _ _ _ _ _ _ _ _ _ _ _ _ _ _ _ _ _ ⟨fun x15 x16 x76 x77 x78 x79 x80 x81 x82 x83 x84 x85 x86 x87 x88 x89 x90 x91 x92 x93 x94 x95 x96 x97 x98 x99 x100 x101 x102 x103 x104 x105 x106 x107 x108 x109 x110 x111 x112 x113 x114 x115 x116 x117 x118 x119 x120 x121 x122 x123 x124 x125 x126 x127 x128 x129 x130 x131 x132 x133 x134 W' hI => ?_⟩
   rw [hl9]
   have HI' := Aside0.mk hI
   have HRE := Aside0.mk hre
   have HH' := Aside0.mk hH'
   clear hI h hst hpq hp htest hH' hprd hhs hl9 hre hg1
   unfold Exit.then
   (try dsimp only)
   go_wp2
   go_roundg r
   case measure => omega
   case rel =>
    refine ⟨i + 1, _, by first | rfl | go_num, by have := HIK.out; omega, HI', ⟨fun x hx => ?_⟩, ⟨?_⟩, ⟨?_⟩⟩
    ·split at hx
     ·exact HS.out x hx
     ·rcases List.mem_or_eq_of_mem_set hx with hx | rfl
      ·exact HS.out x hx
      ·exact MG.sp_timed (HS.out HC[q] (List.getElem_mem hq))
    ·split
     ·exact HN.out
     ·rw [List.length_set]; exact HN.out
    ·have h9 := HRE.out
     rw [HH'.out] at h9
     rw [← h9]
     congr 1
     split
     ·rfl
     ·rw [List.map_set]
theorem mid_get {α : Type} (f : α → α) (M : List α) (i : Nat) (hi : i < M.length) : ((M.take i).map f ++ M.drop i)[i]? = some M[i] := by
 have hl : ((M.take i).map f).length = i := by rw [List.length_map, List.length_take, Nat.min_eq_left (by omega)]
 rw [List.getElem?_append_right (by omega), hl, Nat.sub_self, List.getElem?_drop, Nat.add_zero, List.getElem?_eq_getElem hi]
theorem mid_set {α : Type} (f : α → α) (M : List α) (i : Nat) (hi : i < M.length) (x : α) (hx : x = f M[i]) : ((M.take i).map f ++ M.drop i).set i x = (M.take (i + 1)).map f ++ M.drop (i + 1) := by
 have hl : ((M.take i).map f).length = i := by rw [List.length_map, List.length_take, Nat.min_eq_left (by omega)]
 rw [List.set_append, if_neg (by omega), hl, Nat.sub_self, List.drop_eq_getElem_cons hi, List.set_cons_zero, List.take_succ_eq_append_getElem hi, List.map_append, List.append_assoc, hx]
 rfl
set_option maxHeartbeats 8000000 in
set_option maxRecDepth 100000 in
theorem side_loop (n1 : Nat) (A : Option Addr) (cap nn : Nat) (HL : List MG.HE) (g : Nat) (tail : List Value) (W0 W : World)
  (hnn : nn ≤ 4096) (hcap : nn ≤ cap) (HN : Aside0 (HL.length = nn))
  (HH : Aside0 (MG.HI g tail W0 A HL W)) (HS : Aside0 (∀ x ∈ HL, MG.Sp W0 g n1 x))
  (s0 s1 s2 s3 s4 s5 s6 s7 s8 s9 aA aB aC aD aE aF aG aH aI aJ aK aL aM aN aO aP aQ aR aS aT aU aV aW aX aY aZ bA bB bC bD bE bF bG bH bI bJ bK bL bM bN bO bP bQ bR bS bT bU bV bW bX bY bZ cA cB cC cD cE cF cG cH cI cJ cK cL cM cN cO cP cQ cR cS cT cU cV cW cX cY cZ dA dB dC dD dE dF dG dH dI dJ dK dL dM dN dO dP dQ dR dS dT dU dV dW dX dY dZ eA eB eC eD eE eF eG eH eI eJ eK eL eM eN eO eP eQ eR eS eT eU eV eW eX eY eZ fA fB fC fD fE fF fG fH : Value) (Q : Exit → Act → World → Prop)
  (HQ : Aside0 (∀ (fI fJ fK fL fM fN fO fP fQ : Value) (W' : World) (HL' : List MG.HE), MG.HI g tail W0 A HL' W' → (∀ x ∈ HL', MG.Sp W0 g n1 x) → HL'.map (·.1) = (HL.map (·.1)).map (MG.sided · 1) → HL'.length = nn → Q .normal ⟨List.toArray (s0::s1::s2::s3::s4::s5::s6::s7::s8::s9::aA::aB::aC::.slice A nn cap::aD::aE::aF::fI::aH::aI::aJ::aK::aL::aM::aN::aO::aP::aQ::aR::aS::aT::aU::aV::aW::aX::aY::aZ::bA::bB::bC::bD::bE::bF::bG::bH::bI::bJ::bK::bL::bM::bN::bO::bP::bQ::bR::bS::bT::bU::bV::bW::bX::bY::bZ::cA::cB::cC::cD::cE::cF::cG::cH::cI::cJ::cK::cL::cM::cN::cO::cP::cQ::cR::cS::cT::cU::cV::cW::cX::cY::cZ::dA::dB::dC::dD::dE::dF::dG::dH::dI::dJ::dK::dL::dM::dN::dO::dP::dQ::dR::dS::dT::dU::dV::dW::dX::dY::dZ::eA::eB::eC::eD::eE::eF::eG::eH::eI::eJ::eK::eL::eM::eN::eO::eP::eQ::eR::eS::eT::eU::eV::.int .i64 (nn : Int)::fJ::fK::fL::fM::fN::fO::fP::fQ::fD::fE::fF::fG::fH::[]), []⟩ W')) :
  (blkM 6).wp Try.prog (Exit.inBlock 6 Q) ⟨List.toArray (s0::s1::s2::s3::s4::s5::s6::s7::s8::s9::aA::aB::aC::.slice A nn cap::aD::aE::aF::aG::aH::aI::aJ::aK::aL::aM::aN::aO::aP::aQ::aR::aS::aT::aU::aV::aW::aX::aY::aZ::bA::bB::bC::bD::bE::bF::bG::bH::bI::bJ::bK::bL::bM::bN::bO::bP::bQ::bR::bS::bT::bU::bV::bW::bX::bY::bZ::cA::cB::cC::cD::cE::cF::cG::cH::cI::cJ::cK::cL::cM::cN::cO::cP::cQ::cR::cS::cT::cU::cV::cW::cX::cY::cZ::dA::dB::dC::dD::dE::dF::dG::dH::dI::dJ::dK::dL::dM::dN::dO::dP::dQ::dR::dS::dT::dU::dV::dW::dX::dY::dZ::eA::eB::eC::eD::eE::eF::eG::eH::eI::eJ::eK::eL::eM::eN::eO::eP::eQ::eR::eS::eT::eU::eV::.int .i64 (nn : Int)::.int .i64 0::eW::eX::eY::eZ::fA::fB::fC::fD::fE::fF::fG::fH::[]), []⟩ W := by
 refine wp_norm_blk fun K HK => ?_
 conv => arg 2; whnf
 have HBD := Aside0.mk (And.intro hnn hcap)
 clear hcap
 go_loopg [138] nn (fun kx v138 w' => ∃ (i : Nat) (HC : List MG.HE), v138 = .int .i64 (i : Int) ∧ i + kx = nn ∧ Aside0 (MG.HI g tail W0 A HC w') ∧ Aside0 (∀ x ∈ HC, MG.Sp W0 g n1 x) ∧ Aside0 (HC.length = nn) ∧ Aside0 (HC.map (·.1) = ((HL.map (·.1)).take i).map (MG.sided · 1) ++ (HL.map (·.1)).drop i))
 case atStart => exact ⟨0, HL, rfl, by omega, HH, HS, HN, ⟨rfl⟩⟩
 case round =>
  have HL9 := Aside0.mk HN.out
  clear HH HS HN
  obtain ⟨i, HC, rfl, hik, HH, HS, HN, HA9⟩ := hrel
  have HIK := Aside0.mk hik
  clear hik
  have hi0 : (0 : Int) ≤ (i : Int) := by omega
  cases gk with
  | zero =>
   have hlt : decide ((i : Int) < (nn : Int)) = false := decide_eq_false (by have := HIK.out; omega)
   have hlt2 : decide (i < nn) = false := decide_eq_false (by have := HIK.out; omega)
   go_wp2
   refine HK.out _ _ (HQ.out _ _ _ _ _ _ _ _ _ _ HC HH.out HS.out ?_ HN.out)
   rw [HA9.out, List.drop_eq_nil_of_le (by rw [List.length_map, HL9.out]; have := HIK.out; omega), List.take_of_length_le (by rw [List.length_map, HL9.out]; have := HIK.out; omega), List.append_nil]
  | succ r =>
   have hi : i < HC.length := by rw [HN.out]; have := HIK.out; omega
   obtain ⟨e9, he9⟩ : ∃ e9, HC[i]? = some e9 := ⟨_, List.getElem?_eq_getElem hi⟩
   have HE9 := Aside0.mk he9
   clear he9
   have hlt : decide ((i : Int) < (nn : Int)) = true := decide_eq_true (by have := HIK.out; omega)
   have hlt2 : decide (i < nn) = true := decide_eq_true (by have := HIK.out; omega)
   have hi1 : (i : Int) < (nn : Int) := by have := HIK.out; omega
   have hib : i ≤ 4096 := by omega
   obtain rfl : A = some ⟨g, 0, none⟩ := HH.out.addr HE9.out
   have hc5 := HH.out.cell HE9.out 5 (Value.int .i64 e9.1.f3) rfl
   have hz5 := HH.out.froz HE9.out (i * 9 + 5)
   clear hi
   go_wp2
   have HI' := Aside0.mk (HH.out.store1 HE9.out (MG.sided e9.1 1, e9.2.1, e9.2.2) 5 (Value.int .i64 e9.1.f3) (Value.int .i64 1) rfl (by decide) rfl)
   go_roundg r
   case measure => omega
   case rel =>
    refine ⟨i + 1, _, by first | rfl | go_num, by have := HIK.out; omega, HI', ⟨fun x hx => ?_⟩, ⟨?_⟩, ⟨?_⟩⟩
    ·rcases List.mem_or_eq_of_mem_set hx with hx | rfl
     ·exact HS.out x hx
     ·exact MG.sp_sided (HS.out e9 (List.mem_of_getElem? HE9.out))
    ·rw [List.length_set]; exact HN.out
    ·have hl : (HL.map (·.1)).length = nn := by rw [List.length_map]; exact HL9.out
     have hiL : i < (HL.map (·.1)).length := by rw [hl]; have := HIK.out; omega
     have hx : e9.1 = (HL.map (·.1))[i] := by
      have h1 : (HC.map (·.1))[i]? = some e9.1 := by rw [List.getElem?_map, HE9.out]; rfl
      rw [HA9.out, mid_get (MG.sided · 1) _ i hiL] at h1
      exact (Option.some.inj h1).symm
     rw [List.map_set, HA9.out]
     exact mid_set (MG.sided · 1) _ i hiL _ (by rw [← hx])
theorem wp_ret_blk {P : Program} {c : Code} {a : Act} {w : World} {id : Nat} {Q : Exit → Act → World → Prop} (h : ∀ K : Act → World → Prop, Aside0 (∀ a w, Q .ret a w → K a w) → c.wp P (Exit.inBlock id (fun e a w => match e with | .ret => K a w | _ => False)) a w) : c.wp P (Exit.inBlock id Q) a w := by
 refine wp_mono (h (fun a w => Q .ret a w) ⟨fun _ _ h => h⟩) (fun e a w hq => ?_)
 cases e with
 | normal => exact hq.elim
 | exit k =>
  unfold Exit.inBlock at hq ⊢
  dsimp only at hq ⊢
  split at hq
  ·exact hq.elim
  ·exact hq.elim
 | goto l => exact hq.elim
 | ret => exact hq
 | panic ch => exact hq.elim
 | outgrown => exact hq.elim
theorem blk_cellsM {W : World} {g t : Nat} {v0 : Value} (h : W.heap[g]? = some (.cells #[v0] t (0, 0))) : W.cell? ⟨g, 0, none⟩ = some v0 ∧ W.frozen? ⟨g, 0, none⟩ = false := ⟨(blk_cell h 0).trans rfl, blk_frozen h 0⟩
set_option maxHeartbeats 8000000 in
set_option maxRecDepth 100000 in
theorem scan_ok (A : Option Addr) (c : Nat) (l : List S38) (g4 : Nat) (W : World) (hl : l.length ≤ 4096) (hC : Aside0 (∀ W', Below W.heap.size W W' → Kd.C k38 W' A l.length l)) (hz : Aside0 (∀ x ∈ l, x.f3 = 0))
  (s0 s1 s2 s3 s5 s6 s7 s8 s9 aA aB aC aD aE aF aG aH aI aJ aK aL aM aN aO aP aQ aR aS aT aU aV aW aX aY aZ bA bB bC bD bE bF bG bH bI bJ bK bL bM bN bO bP bQ bR bS bT bU bV bW bX bY bZ cA cB cC cD cE cF cG cH cI cJ cK cL cM cN cO cP cQ cR cS cT cU cV cW cX cY cZ dA dB dC dD dE dF dG dH dI dJ dK dL dM dN dO dP dQ dR dS dT dU dV dW dX dY dZ eA eB eC eD eE eF eG eH eI eJ eK eL eM eN eO eP eQ eR eS eT eU eV eW eX eY eZ fA fB fC fD fE fF fG fH : Value) (Q : Exit → Act → World → Prop)
  (HQ : Aside0 (∀ (u5 fI fJ fK fL fM fN fO fP fQ fR fS fT fU fV fW fX : Value) (W' : World), Below W.heap.size W W' → Q .normal ⟨List.toArray (s0::s1::s2::s3::.pointer (some ⟨g4, 0, none⟩)::u5::s6::s7::s8::s9::fI::fJ::aC::aD::aE::aF::aG::aH::aI::aJ::aK::aL::aM::aN::aO::aP::aQ::aR::aS::aT::aU::aV::aW::aX::aY::aZ::bA::.slice A l.length c::.int .i64 (l.length : Int)::fK::fL::fM::fN::fO::fP::fQ::fR::fS::fT::fU::fV::fW::fX::bO::bP::bQ::bR::bS::bT::bU::bV::bW::bX::bY::bZ::cA::cB::cC::cD::cE::cF::cG::cH::cI::cJ::cK::cL::cM::cN::cO::cP::cQ::cR::cS::cT::cU::cV::cW::cX::cY::cZ::dA::dB::dC::dD::dE::dF::dG::dH::dI::dJ::dK::dL::dM::dN::dO::dP::dQ::dR::dS::dT::dU::dV::dW::dX::dY::dZ::eA::eB::eC::eD::eE::eF::eG::eH::eI::eJ::eK::eL::eM::eN::eO::eP::eQ::eR::eS::eT::eU::eV::eW::eX::eY::eZ::fA::fB::fC::fD::fE::fF::fG::fH::[]), []⟩ W')) :
  (blkM 2).wp Try.prog (Exit.inBlock 2 Q) ⟨List.toArray (s0::s1::s2::s3::.pointer (some ⟨g4, 0, none⟩)::s5::s6::s7::s8::s9::aA::aB::aC::aD::aE::aF::aG::aH::aI::aJ::aK::aL::aM::aN::aO::aP::aQ::aR::aS::aT::aU::aV::aW::aX::aY::aZ::bA::.slice A l.length c::.int .i64 (l.length : Int)::.int .i64 0::bB::bC::bD::bE::bF::bG::bH::bI::bJ::bK::bL::bM::bN::bO::bP::bQ::bR::bS::bT::bU::bV::bW::bX::bY::bZ::cA::cB::cC::cD::cE::cF::cG::cH::cI::cJ::cK::cL::cM::cN::cO::cP::cQ::cR::cS::cT::cU::cV::cW::cX::cY::cZ::dA::dB::dC::dD::dE::dF::dG::dH::dI::dJ::dK::dL::dM::dN::dO::dP::dQ::dR::dS::dT::dU::dV::dW::dX::dY::dZ::eA::eB::eC::eD::eE::eF::eG::eH::eI::eJ::eK::eL::eM::eN::eO::eP::eQ::eR::eS::eT::eU::eV::eW::eX::eY::eZ::fA::fB::fC::fD::fE::fF::fG::fH::[]), []⟩ W := by
 refine wp_norm_blk fun K HK => ?_
 conv => arg 2; whnf
 have HLN := Aside0.mk hl
 go_loopg [39] (l.length) (fun kx v39 w' => ∃ i : Nat, v39 = .int .i64 (i : Int) ∧ i + kx = l.length ∧ Aside0 (Below W.heap.size W w'))
 case atStart => exact ⟨0, rfl, by omega, ⟨Below.refl _ _⟩⟩
 case round =>
  obtain ⟨i, rfl, hik, HBW⟩ := hrel
  have HIK := Aside0.mk hik
  clear hik
  have hi0 : (0 : Int) ≤ (i : Int) := by omega
  cases gk with
  | zero =>
   have hlt : decide ((i : Int) < (l.length : Int)) = false := decide_eq_false (by have := HIK.out; omega)
   have hlt2 : decide (i < l.length) = false := decide_eq_false (by have := HIK.out; omega)
   go_wp2
   exact HK.out _ _ (HQ.out _ _ _ _ _ _ _ _ _ _ _ _ _ _ _ _ _ _ HBW.out)
  | succ r =>
   have hi : i < l.length := by have := HIK.out; omega
   have hlt : decide ((i : Int) < (l.length : Int)) = true := decide_eq_true (by omega)
   have hlt2 : decide (i < l.length) = true := decide_eq_true hi
   have hi1 : (i : Int) < (l.length : Int) := by omega
   have hib : i ≤ 4096 := by omega
   obtain ⟨ad, A8, c8, hAd, k0, k1, k2, k3, k4, k5, k6, k7, k8, _⟩ := at_T38 (hC.out wr HBW.out) (i : Int) hi0 hi1
   have he3 : (rd_T38 l (i : Int)).f3 = 0 := by
    show (l.getD i z38).f3 = 0
    rw [List.getD_eq_getElem?_getD, List.getElem?_eq_getElem hi]
    exact hz.out _ (List.getElem_mem hi)
   rw [he3] at k5
   rw [Int.toNat_natCast] at k0 k1 k2 k3 k4 k5 k6 k7 k8
   have HAD := Aside0.mk hAd
   obtain ⟨y, hy⟩ : ∃ y, rd_T38 l (i : Int) = y := ⟨_, rfl⟩
   rw [hy] at k0 k1 k2 k3 k4 k6 k7 k8
   obtain rfl : A = some ad := HAD.out
   clear he3 hy hi hAd HAD
   go_wp2
   have HB' := Aside0.mk (below_alloc HBW.out (.cells #[.int .i64 y.f0.f0, .int .i64 y.f0.f1, .int .i64 y.f1.f0, .int .i64 y.f1.f1, .int .i64 y.f2, .int .i64 0, .string y.f4, .string y.f5.f0, .slice A8 y.f5.f1.length c8] 38))
   go_roundg r
   case measure => omega
   case rel => exact ⟨i + 1, by first | rfl | go_num, by have := HIK.out; omega, HB'⟩
set_option maxHeartbeats 8000000 in
set_option maxRecDepth 100000 in
theorem scan_bad (A : Option Addr) (c : Nat) (l : List S38) (g4 b0 : Nat) (w W : World) (hl : l.length ≤ 4096) (hC : Aside0 (∀ W', Below W.heap.size W W' → Kd.C k38 W' A l.length l)) (hbad : b0 < l.length) (hz : Aside0 (∀ j, j < b0 → (l.getD j z38).f3 = 0)) (hnz : Aside0 ((l.getD b0 z38).f3 ≠ 0))
  (HB : Aside0 (Below w.heap.size w W)) (HG4 : Aside0 (w.heap.size ≤ g4)) (B4 : Aside0 (W.heap[g4]? = some (.cells #[.slice none 0 0] 25 (0, 0))))
  (s0 s1 s2 s3 s5 s6 s7 s8 s9 aA aB aC aD aE aF aG aH aI aJ aK aL aM aN aO aP aQ aR aS aT aU aV aW aX aY aZ bA bB bC bD bE bF bG bH bI bJ bK bL bM bN bO bP bQ bR bS bT bU bV bW bX bY bZ cA cB cC cD cE cF cG cH cI cJ cK cL cM cN cO cP cQ cR cS cT cU cV cW cX cY cZ dA dB dC dD dE dF dG dH dI dJ dK dL dM dN dO dP dQ dR dS dT dU dV dW dX dY dZ eA eB eC eD eE eF eG eH eI eJ eK eL eM eN eO eP eQ eR eS eT eU eV eW eX eY eZ fA fB fC fD fE fF fG fH : Value) (Q : Exit → Act → World → Prop)
  (HQ : Aside0 (∀ (fI fJ fK fL fM fN fO fP fQ fR fS fT fU fV fW fX : Value) (b : Nat) (W' : World), Below w.heap.size w W' → W'.heap[g4]? = some (.cells #[.slice none 0 0] 25 (0, 0)) → Q .ret ⟨List.toArray (s0::s1::s2::s3::.pointer (some ⟨g4, 0, none⟩)::.iface 58 (.pointer (some ⟨b, 0, none⟩))::s6::s7::s8::s9::fI::fJ::aC::aD::aE::aF::aG::aH::aI::aJ::aK::aL::aM::aN::aO::aP::aQ::aR::aS::aT::aU::aV::aW::aX::aY::aZ::bA::.slice A l.length c::.int .i64 (l.length : Int)::fK::fL::fM::fN::fO::fP::fQ::fR::fS::fT::fU::fV::fW::fX::bO::bP::bQ::bR::bS::bT::bU::bV::bW::bX::bY::bZ::cA::cB::cC::cD::cE::cF::cG::cH::cI::cJ::cK::cL::cM::cN::cO::cP::cQ::cR::cS::cT::cU::cV::cW::cX::cY::cZ::dA::dB::dC::dD::dE::dF::dG::dH::dI::dJ::dK::dL::dM::dN::dO::dP::dQ::dR::dS::dT::dU::dV::dW::dX::dY::dZ::eA::eB::eC::eD::eE::eF::eG::eH::eI::eJ::eK::eL::eM::eN::eO::eP::eQ::eR::eS::eT::eU::eV::eW::eX::eY::eZ::fA::fB::fC::fD::fE::fF::fG::fH::[]), []⟩ W')) :
  (blkM 2).wp Try.prog (Exit.inBlock 2 Q) ⟨List.toArray (s0::s1::s2::s3::.pointer (some ⟨g4, 0, none⟩)::s5::s6::s7::s8::s9::aA::aB::aC::aD::aE::aF::aG::aH::aI::aJ::aK::aL::aM::aN::aO::aP::aQ::aR::aS::aT::aU::aV::aW::aX::aY::aZ::bA::.slice A l.length c::.int .i64 (l.length : Int)::.int .i64 0::bB::bC::bD::bE::bF::bG::bH::bI::bJ::bK::bL::bM::bN::bO::bP::bQ::bR::bS::bT::bU::bV::bW::bX::bY::bZ::cA::cB::cC::cD::cE::cF::cG::cH::cI::cJ::cK::cL::cM::cN::cO::cP::cQ::cR::cS::cT::cU::cV::cW::cX::cY::cZ::dA::dB::dC::dD::dE::dF::dG::dH::dI::dJ::dK::dL::dM::dN::dO::dP::dQ::dR::dS::dT::dU::dV::dW::dX::dY::dZ::eA::eB::eC::eD::eE::eF::eG::eH::eI::eJ::eK::eL::eM::eN::eO::eP::eQ::eR::eS::eT::eU::eV::eW::eX::eY::eZ::fA::fB::fC::fD::fE::fF::fG::fH::[]), []⟩ W := by
 refine wp_ret_blk fun K HK => ?_
 conv => arg 2; whnf
 have HLN := Aside0.mk hl
 have HBD := Aside0.mk hbad
 clear hbad
 go_loopg [39] (b0 + 1) (fun kx v39 w' => ∃ i : Nat, v39 = .int .i64 (i : Int) ∧ i + kx = b0 + 1 ∧ i ≤ b0 ∧ Aside0 (Below W.heap.size W w'))
 case atStart => exact ⟨0, rfl, by omega, Nat.zero_le _, ⟨Below.refl _ _⟩⟩
 case round =>
  obtain ⟨i, rfl, hik, hib9, HBW⟩ := hrel
  have HIK := Aside0.mk hik
  clear hik
  have hi0 : (0 : Int) ≤ (i : Int) := by omega
  cases gk with
  | zero => have := HIK.out; omega
  | succ r =>
   have hi : i < l.length := by have := HIK.out; have := HBD.out; omega
   have hlt : decide ((i : Int) < (l.length : Int)) = true := decide_eq_true (by omega)
   have hlt2 : decide (i < l.length) = true := decide_eq_true hi
   have hi1 : (i : Int) < (l.length : Int) := by omega
   have hib : i ≤ 4096 := by omega
   obtain ⟨ad, A8, c8, hAd, k0, k1, k2, k3, k4, k5, k6, k7, k8, _⟩ := at_T38 (hC.out wr HBW.out) (i : Int) hi0 hi1
   rw [Int.toNat_natCast] at k0 k1 k2 k3 k4 k5 k6 k7 k8
   have HAD := Aside0.mk hAd
   obtain rfl : A = some ad := HAD.out
   clear hi hAd HAD
   by_cases hib0 : i = b0
   case neg =>
    have he3 : (rd_T38 l (i : Int)).f3 = 0 := hz.out i (by have := HIK.out; omega)
    rw [he3] at k5
    obtain ⟨y, hy⟩ : ∃ y, rd_T38 l (i : Int) = y := ⟨_, rfl⟩
    rw [hy] at k0 k1 k2 k3 k4 k6 k7 k8
    have HNE := Aside0.mk hib0
    clear he3 hy hib0
    go_wp2
    have HB' := Aside0.mk (below_alloc HBW.out (.cells #[.int .i64 y.f0.f0, .int .i64 y.f0.f1, .int .i64 y.f1.f0, .int .i64 y.f1.f1, .int .i64 y.f2, .int .i64 0, .string y.f4, .string y.f5.f0, .slice A8 y.f5.f1.length c8] 38))
    go_roundg r
    case measure => omega
    case rel => exact ⟨i + 1, by first | rfl | go_num, by have := HIK.out; omega, by have := HNE.out; omega, HB'⟩
   case pos =>
    subst hib0
    obtain ⟨y, hy⟩ : ∃ y, rd_T38 l (i : Int) = y := ⟨_, rfl⟩
    have hne : y.f3 ≠ 0 := by rw [← hy]; exact hnz.out
    have hne1 : (y.f3 == 0) = false := beq_eq_false_iff_ne.2 hne
    have hne2 : (y.f3 != 0) = true := bne_iff_ne.2 hne
    rw [hy] at k0 k1 k2 k3 k4 k5 k6 k7 k8
    have B4w := blk_below B4.out HBW.out
    have hb4 := blk_lt B4w
    obtain ⟨d0, f0⟩ := blk_cellsM B4w
    clear hy hne
    go_wp2
    have hbw := HB.out.trans (HBW.out.mono (below_size HB.out))
    exact HK.out _ _ (HQ.out _ _ _ _ _ _ _ _ _ _ _ _ _ _ _ _ _ _ (below_alloc (below_alloc (below_set hbw HG4.out) _) _) (blk_alloc (blk_alloc (blk_put B4w 0 _ rfl) _) _))
set_option maxHeartbeats 8000000 in
set_option maxRecDepth 100000 in
theorem docs_ok (A0 A1 : Option Addr) (c0 c1 : Nat) (l0 l1 : List S38) (g4 rr : Nat) (w W : World) (hl0 : l0.length ≤ 4096) (hl1 : l1.length ≤ 4096) (hC0 : Aside0 (∀ W', Below W.heap.size W W' → Kd.C k38 W' A0 l0.length l0)) (hC1 : Aside0 (∀ W', Below W.heap.size W W' → Kd.C k38 W' A1 l1.length l1))
  (BR : Aside0 (W.heap[rr]? = some (.cells #[.slice A0 l0.length c0, .slice A1 l1.length c1] 25 (0, 0)))) (HB : Aside0 (Below w.heap.size w W)) (HG4 : Aside0 (w.heap.size ≤ g4)) (B4 : Aside0 (W.heap[g4]? = some (.cells #[.slice none 0 0] 25 (0, 0))))
  (hz0 : Aside0 (∀ x ∈ l0, x.f3 = 0)) (hz1 : Aside0 (∀ x ∈ l1, x.f3 = 0))
  (s0 s1 s2 s3 s5 s6 s7 s8 s9 aA aB aC aD aE aF aG aH aI aJ aK aL aM aN aO aP aQ aR aS aT aU aV aW aX aY aZ bA bB bC bD bE bF bG bH bI bJ bK bL bM bN bO bP bQ bR bS bT bU bV bW bX bY bZ cA cB cC cD cE cF cG cH cI cJ cK cL cM cN cO cP cQ cR cS cT cU cV cW cX cY cZ dA dB dC dD dE dF dG dH dI dJ dK dL dM dN dO dP dQ dR dS dT dU dV dW dX dY dZ eA eB eC eD eE eF eG eH eI eJ eK eL eM eN eO eP eQ eR eS eT eU eV eW eX eY eZ fA fB fC fD fE fF fG fH : Value) (Q : Exit → Act → World → Prop)
  (HQ : Aside0 (∀ (u5 u9 fI fJ fK fL fM fN fO fP fQ fR fS fT fU fV fW fX fY fZ gA gB gC gD gE gF : Value) (W' : World), Below W.heap.size W W' → Q .normal ⟨List.toArray (s0::s1::s2::s3::.pointer (some ⟨g4, 0, none⟩)::u5::s6::s7::s8::u9::fI::fJ::aC::aD::aE::aF::aG::aH::aI::aJ::aK::aL::aM::aN::aO::aP::aQ::aR::aS::aT::.slice (some ⟨rr, 0, none⟩) 2 2::.int .i64 2::fK::fL::fM::fN::fO::fP::fQ::fR::fS::fT::fU::fV::fW::fX::fY::fZ::gA::gB::gC::gD::gE::gF::bP::bQ::bR::bS::bT::bU::bV::bW::bX::bY::bZ::cA::cB::cC::cD::cE::cF::cG::cH::cI::cJ::cK::cL::cM::cN::cO::cP::cQ::cR::cS::cT::cU::cV::cW::cX::cY::cZ::dA::dB::dC::dD::dE::dF::dG::dH::dI::dJ::dK::dL::dM::dN::dO::dP::dQ::dR::dS::dT::dU::dV::dW::dX::dY::dZ::eA::eB::eC::eD::eE::eF::eG::eH::eI::eJ::eK::eL::eM::eN::eO::eP::eQ::eR::eS::eT::eU::eV::eW::eX::eY::eZ::fA::fB::fC::fD::fE::fF::fG::fH::[]), []⟩ W')) :
  (blkM 0).wp Try.prog (Exit.inBlock 0 Q) ⟨List.toArray (s0::s1::s2::s3::.pointer (some ⟨g4, 0, none⟩)::s5::s6::s7::s8::s9::aA::aB::aC::aD::aE::aF::aG::aH::aI::aJ::aK::aL::aM::aN::aO::aP::aQ::aR::aS::aT::.slice (some ⟨rr, 0, none⟩) 2 2::.int .i64 2::.int .i64 0::aU::aV::aW::aX::aY::aZ::bA::bB::bC::bD::bE::bF::bG::bH::bI::bJ::bK::bL::bM::bN::bO::bP::bQ::bR::bS::bT::bU::bV::bW::bX::bY::bZ::cA::cB::cC::cD::cE::cF::cG::cH::cI::cJ::cK::cL::cM::cN::cO::cP::cQ::cR::cS::cT::cU::cV::cW::cX::cY::cZ::dA::dB::dC::dD::dE::dF::dG::dH::dI::dJ::dK::dL::dM::dN::dO::dP::dQ::dR::dS::dT::dU::dV::dW::dX::dY::dZ::eA::eB::eC::eD::eE::eF::eG::eH::eI::eJ::eK::eL::eM::eN::eO::eP::eQ::eR::eS::eT::eU::eV::eW::eX::eY::eZ::fA::fB::fC::fD::fE::fF::fG::fH::[]), []⟩ W := by
 refine wp_norm_blk fun K HK => ?_
 conv => arg 2; whnf
 go_loopg [32] 2 (fun kx v32 w' => ∃ i : Nat, v32 = .int .i64 (i : Int) ∧ i + kx = 2 ∧ i ≤ 2 ∧ Aside0 (Below W.heap.size W w'))
 case atStart => exact ⟨0, by first | rfl | go_num, by omega, Nat.zero_le _, ⟨Below.refl _ _⟩⟩
 case round =>
  obtain ⟨i, rfl, hik, hil, HBW⟩ := hrel
  have hcase : i = 0 ∨ i = 1 ∨ i = 2 := by omega
  rcases hcase with rfl | rfl | rfl
  ·have hcl : wr.cell? ⟨rr, 0, none⟩ = some (.slice A0 l0.length c0) := (blk_cell (blk_below BR.out HBW.out) 0).trans rfl
   have hsc := Aside0.mk (below_alloc HBW.out (.cells #[.slice A0 l0.length c0] 25))
   go_upto_block 2 with (fail)
   refine wp_block ?_
   refine scan_ok A0 c0 l0 g4 _ hl0 ⟨fun W' hb => hC0.out W' (below_step hsc.out hb)⟩ hz0 _ _ _ _ _ _ _ _ _ _ _ _ _ _ _ _ _ _ _ _ _ _ _ _ _ _ _ _ _ _ _ _ _ _ _ _ _ _ _ _ _ _ _ _ _ _ _ _ _ _ _ _ _ _ _ _ _ _ _ _ _ _ _ _ _ _ _ _ _ _ _ _ _ _ _ _ _ _ _ _ _ _ _ _ _ _ _ _ _ _ _ _ _ _ _ _ _ _ _ _ _ _ _ _ _ _ _ _ _ _ _ _ _ _ _ _ _ _ _ _ _ _ _ _ _ _ _ _ _ _ _ _ _ _ _ _ _ _ _ _ _ _ _ _ _ _ _ _ ⟨fun x5 x10 x11 x39 x40 x41 x42 x43 x44 x45 x46 x47 x48 x49 x50 x51 x52 W' hB => ?_⟩
   have HBn := Aside0.mk (below_step hsc.out hB)
   clear hB hcl
   unfold Exit.then
   (try dsimp only)
   go_wp2
   go_roundg 1
   case measure => omega
   case rel => exact ⟨1, by first | rfl | go_num, by omega, by omega, HBn⟩
  ·have hcl : wr.cell? ⟨rr, 1, none⟩ = some (.slice A1 l1.length c1) := (blk_cell (blk_below BR.out HBW.out) 1).trans rfl
   have hsc := Aside0.mk (below_alloc HBW.out (.cells #[.slice A1 l1.length c1] 25))
   go_upto_block 2 with (fail)
   refine wp_block ?_
   refine scan_ok A1 c1 l1 g4 _ hl1 ⟨fun W' hb => hC1.out W' (below_step hsc.out hb)⟩ hz1 _ _ _ _ _ _ _ _ _ _ _ _ _ _ _ _ _ _ _ _ _ _ _ _ _ _ _ _ _ _ _ _ _ _ _ _ _ _ _ _ _ _ _ _ _ _ _ _ _ _ _ _ _ _ _ _ _ _ _ _ _ _ _ _ _ _ _ _ _ _ _ _ _ _ _ _ _ _ _ _ _ _ _ _ _ _ _ _ _ _ _ _ _ _ _ _ _ _ _ _ _ _ _ _ _ _ _ _ _ _ _ _ _ _ _ _ _ _ _ _ _ _ _ _ _ _ _ _ _ _ _ _ _ _ _ _ _ _ _ _ _ _ _ _ _ _ _ _ ⟨fun x5 x10 x11 x39 x40 x41 x42 x43 x44 x45 x46 x47 x48 x49 x50 x51 x52 W' hB => ?_⟩
   have HBn := Aside0.mk (below_step hsc.out hB)
   clear hB hcl
   unfold Exit.then
   (try dsimp only)
   go_wp2
   go_roundg 0
   case measure => omega
   case rel => exact ⟨2, by first | rfl | go_num, by omega, by omega, HBn⟩
  ·go_wp2
   exact HK.out _ _ (HQ.out _ _ _ _ _ _ _ _ _ _ _ _ _ _ _ _ _ _ _ _ _ _ _ _ _ _ _ HBW.out)
set_option maxHeartbeats 8000000 in
set_option maxRecDepth 100000 in
theorem docs_a (A0 A1 : Option Addr) (c0 c1 : Nat) (l0 l1 : List S38) (g4 rr : Nat) (w W : World) (hl0 : l0.length ≤ 4096) (hl1 : l1.length ≤ 4096) (hC0 : Aside0 (∀ W', Below W.heap.size W W' → Kd.C k38 W' A0 l0.length l0)) (hC1 : Aside0 (∀ W', Below W.heap.size W W' → Kd.C k38 W' A1 l1.length l1))
  (BR : Aside0 (W.heap[rr]? = some (.cells #[.slice A0 l0.length c0, .slice A1 l1.length c1] 25 (0, 0)))) (HB : Aside0 (Below w.heap.size w W)) (HG4 : Aside0 (w.heap.size ≤ g4)) (B4 : Aside0 (W.heap[g4]? = some (.cells #[.slice none 0 0] 25 (0, 0))))
  (b0 : Nat) (hbad : b0 < l0.length) (hz : Aside0 (∀ j, j < b0 → (l0.getD j z38).f3 = 0)) (hnz : Aside0 ((l0.getD b0 z38).f3 ≠ 0))
  (s0 s1 s2 s3 s5 s6 s7 s8 s9 aA aB aC aD aE aF aG aH aI aJ aK aL aM aN aO aP aQ aR aS aT aU aV aW aX aY aZ bA bB bC bD bE bF bG bH bI bJ bK bL bM bN bO bP bQ bR bS bT bU bV bW bX bY bZ cA cB cC cD cE cF cG cH cI cJ cK cL cM cN cO cP cQ cR cS cT cU cV cW cX cY cZ dA dB dC dD dE dF dG dH dI dJ dK dL dM dN dO dP dQ dR dS dT dU dV dW dX dY dZ eA eB eC eD eE eF eG eH eI eJ eK eL eM eN eO eP eQ eR eS eT eU eV eW eX eY eZ fA fB fC fD fE fF fG fH : Value) (Q : Exit → Act → World → Prop)
  (HQ : Aside0 (∀ (u9 fI fJ fK fL fM fN fO fP fQ fR fS fT fU fV fW fX fY fZ gA gB gC gD gE gF : Value) (b : Nat) (W' : World), Below w.heap.size w W' → W'.heap[g4]? = some (.cells #[.slice none 0 0] 25 (0, 0)) → Q .ret ⟨List.toArray (s0::s1::s2::s3::.pointer (some ⟨g4, 0, none⟩)::.iface 58 (.pointer (some ⟨b, 0, none⟩))::s6::s7::s8::u9::fI::fJ::aC::aD::aE::aF::aG::aH::aI::aJ::aK::aL::aM::aN::aO::aP::aQ::aR::aS::aT::.slice (some ⟨rr, 0, none⟩) 2 2::.int .i64 2::fK::fL::fM::fN::fO::fP::fQ::fR::fS::fT::fU::fV::fW::fX::fY::fZ::gA::gB::gC::gD::gE::gF::bP::bQ::bR::bS::bT::bU::bV::bW::bX::bY::bZ::cA::cB::cC::cD::cE::cF::cG::cH::cI::cJ::cK::cL::cM::cN::cO::cP::cQ::cR::cS::cT::cU::cV::cW::cX::cY::cZ::dA::dB::dC::dD::dE::dF::dG::dH::dI::dJ::dK::dL::dM::dN::dO::dP::dQ::dR::dS::dT::dU::dV::dW::dX::dY::dZ::eA::eB::eC::eD::eE::eF::eG::eH::eI::eJ::eK::eL::eM::eN::eO::eP::eQ::eR::eS::eT::eU::eV::eW::eX::eY::eZ::fA::fB::fC::fD::fE::fF::fG::fH::[]), []⟩ W')) :
  (blkM 0).wp Try.prog (Exit.inBlock 0 Q) ⟨List.toArray (s0::s1::s2::s3::.pointer (some ⟨g4, 0, none⟩)::s5::s6::s7::s8::s9::aA::aB::aC::aD::aE::aF::aG::aH::aI::aJ::aK::aL::aM::aN::aO::aP::aQ::aR::aS::aT::.slice (some ⟨rr, 0, none⟩) 2 2::.int .i64 2::.int .i64 0::aU::aV::aW::aX::aY::aZ::bA::bB::bC::bD::bE::bF::bG::bH::bI::bJ::bK::bL::bM::bN::bO::bP::bQ::bR::bS::bT::bU::bV::bW::bX::bY::bZ::cA::cB::cC::cD::cE::cF::cG::cH::cI::cJ::cK::cL::cM::cN::cO::cP::cQ::cR::cS::cT::cU::cV::cW::cX::cY::cZ::dA::dB::dC::dD::dE::dF::dG::dH::dI::dJ::dK::dL::dM::dN::dO::dP::dQ::dR::dS::dT::dU::dV::dW::dX::dY::dZ::eA::eB::eC::eD::eE::eF::eG::eH::eI::eJ::eK::eL::eM::eN::eO::eP::eQ::eR::eS::eT::eU::eV::eW::eX::eY::eZ::fA::fB::fC::fD::fE::fF::fG::fH::[]), []⟩ W := by
 refine wp_ret_blk fun K HK => ?_
 conv => arg 2; whnf
 go_loopg [32] 2 (fun kx v32 w' => ∃ i : Nat, v32 = .int .i64 (i : Int) ∧ i + kx = 2 ∧ i ≤ 0 ∧ Aside0 (Below W.heap.size W w'))
 case atStart => exact ⟨0, by first | rfl | go_num, by omega, Nat.zero_le _, ⟨Below.refl _ _⟩⟩
 case round =>
  obtain ⟨i, rfl, hik, hil, HBW⟩ := hrel
  obtain rfl : i = 0 := by omega
  have hcl : wr.cell? ⟨rr, 0, none⟩ = some (.slice A0 l0.length c0) := (blk_cell (blk_below BR.out HBW.out) 0).trans rfl
  have hsc := Aside0.mk (below_alloc HBW.out (.cells #[.slice A0 l0.length c0] 25))
  go_upto_block 2 with (fail)
  refine wp_block ?_
  have HB2 := Aside0.mk (HB.out.trans (hsc.out.mono (below_size HB.out)))
  refine scan_bad A0 c0 l0 g4 b0 w _ hl0 ⟨fun W' hb => hC0.out W' (below_step hsc.out hb)⟩ hbad hz hnz HB2 HG4 ⟨blk_below B4.out hsc.out⟩ _ _ _ _ _ _ _ _ _ _ _ _ _ _ _ _ _ _ _ _ _ _ _ _ _ _ _ _ _ _ _ _ _ _ _ _ _ _ _ _ _ _ _ _ _ _ _ _ _ _ _ _ _ _ _ _ _ _ _ _ _ _ _ _ _ _ _ _ _ _ _ _ _ _ _ _ _ _ _ _ _ _ _ _ _ _ _ _ _ _ _ _ _ _ _ _ _ _ _ _ _ _ _ _ _ _ _ _ _ _ _ _ _ _ _ _ _ _ _ _ _ _ _ _ _ _ _ _ _ _ _ _ _ _ _ _ _ _ _ _ _ _ _ _ _ _ _ _ ⟨fun x10 x11 x39 x40 x41 x42 x43 x44 x45 x46 x47 x48 x49 x50 x51 x52 b W' hB hB4 => ?_⟩
  exact HK.out _ _ (HQ.out _ _ _ _ _ _ _ _ _ _ _ _ _ _ _ _ _ _ _ _ _ _ _ _ _ _ _ hB hB4)
set_option maxHeartbeats 8000000 in
set_option maxRecDepth 100000 in
theorem docs_b (A0 A1 : Option Addr) (c0 c1 : Nat) (l0 l1 : List S38) (g4 rr : Nat) (w W : World) (hl0 : l0.length ≤ 4096) (hl1 : l1.length ≤ 4096) (hC0 : Aside0 (∀ W', Below W.heap.size W W' → Kd.C k38 W' A0 l0.length l0)) (hC1 : Aside0 (∀ W', Below W.heap.size W W' → Kd.C k38 W' A1 l1.length l1))
  (BR : Aside0 (W.heap[rr]? = some (.cells #[.slice A0 l0.length c0, .slice A1 l1.length c1] 25 (0, 0)))) (HB : Aside0 (Below w.heap.size w W)) (HG4 : Aside0 (w.heap.size ≤ g4)) (B4 : Aside0 (W.heap[g4]? = some (.cells #[.slice none 0 0] 25 (0, 0))))
  (hz0 : Aside0 (∀ x ∈ l0, x.f3 = 0)) (b0 : Nat) (hbad : b0 < l1.length) (hz : Aside0 (∀ j, j < b0 → (l1.getD j z38).f3 = 0)) (hnz : Aside0 ((l1.getD b0 z38).f3 ≠ 0))
  (s0 s1 s2 s3 s5 s6 s7 s8 s9 aA aB aC aD aE aF aG aH aI aJ aK aL aM aN aO aP aQ aR aS aT aU aV aW aX aY aZ bA bB bC bD bE bF bG bH bI bJ bK bL bM bN bO bP bQ bR bS bT bU bV bW bX bY bZ cA cB cC cD cE cF cG cH cI cJ cK cL cM cN cO cP cQ cR cS cT cU cV cW cX cY cZ dA dB dC dD dE dF dG dH dI dJ dK dL dM dN dO dP dQ dR dS dT dU dV dW dX dY dZ eA eB eC eD eE eF eG eH eI eJ eK eL eM eN eO eP eQ eR eS eT eU eV eW eX eY eZ fA fB fC fD fE fF fG fH : Value) (Q : Exit → Act → World → Prop)
  (HQ : Aside0 (∀ (u9 fI fJ fK fL fM fN fO fP fQ fR fS fT fU fV fW fX fY fZ gA gB gC gD gE gF : Value) (b : Nat) (W' : World), Below w.heap.size w W' → W'.heap[g4]? = some (.cells #[.slice none 0 0] 25 (0, 0)) → Q .ret ⟨List.toArray (s0::s1::s2::s3::.pointer (some ⟨g4, 0, none⟩)::.iface 58 (.pointer (some ⟨b, 0, none⟩))::s6::s7::s8::u9::fI::fJ::aC::aD::aE::aF::aG::aH::aI::aJ::aK::aL::aM::aN::aO::aP::aQ::aR::aS::aT::.slice (some ⟨rr, 0, none⟩) 2 2::.int .i64 2::fK::fL::fM::fN::fO::fP::fQ::fR::fS::fT::fU::fV::fW::fX::fY::fZ::gA::gB::gC::gD::gE::gF::bP::bQ::bR::bS::bT::bU::bV::bW::bX::bY::bZ::cA::cB::cC::cD::cE::cF::cG::cH::cI::cJ::cK::cL::cM::cN::cO::cP::cQ::cR::cS::cT::cU::cV::cW::cX::cY::cZ::dA::dB::dC::dD::dE::dF::dG::dH::dI::dJ::dK::dL::dM::dN::dO::dP::dQ::dR::dS::dT::dU::dV::dW::dX::dY::dZ::eA::eB::eC::eD::eE::eF::eG::eH::eI::eJ::eK::eL::eM::eN::eO::eP::eQ::eR::eS::eT::eU::eV::eW::eX::eY::eZ::fA::fB::fC::fD::fE::fF::fG::fH::[]), []⟩ W')) :
  (blkM 0).wp Try.prog (Exit.inBlock 0 Q) ⟨List.toArray (s0::s1::s2::s3::.pointer (some ⟨g4, 0, none⟩)::s5::s6::s7::s8::s9::aA::aB::aC::aD::aE::aF::aG::aH::aI::aJ::aK::aL::aM::aN::aO::aP::aQ::aR::aS::aT::.slice (some ⟨rr, 0, none⟩) 2 2::.int .i64 2::.int .i64 0::aU::aV::aW::aX::aY::aZ::bA::bB::bC::bD::bE::bF::bG::bH::bI::bJ::bK::bL::bM::bN::bO::bP::bQ::bR::bS::bT::bU::bV::bW::bX::bY::bZ::cA::cB::cC::cD::cE::cF::cG::cH::cI::cJ::cK::cL::cM::cN::cO::cP::cQ::cR::cS::cT::cU::cV::cW::cX::cY::cZ::dA::dB::dC::dD::dE::dF::dG::dH::dI::dJ::dK::dL::dM::dN::dO::dP::dQ::dR::dS::dT::dU::dV::dW::dX::dY::dZ::eA::eB::eC::eD::eE::eF::eG::eH::eI::eJ::eK::eL::eM::eN::eO::eP::eQ::eR::eS::eT::eU::eV::eW::eX::eY::eZ::fA::fB::fC::fD::fE::fF::fG::fH::[]), []⟩ W := by
 refine wp_ret_blk fun K HK => ?_
 conv => arg 2; whnf
 go_loopg [32] 2 (fun kx v32 w' => ∃ i : Nat, v32 = .int .i64 (i : Int) ∧ i + kx = 2 ∧ i ≤ 1 ∧ Aside0 (Below W.heap.size W w'))
 case atStart => exact ⟨0, by first | rfl | go_num, by omega, Nat.zero_le _, ⟨Below.refl _ _⟩⟩
 case round =>
  obtain ⟨i, rfl, hik, hil, HBW⟩ := hrel
  have hcase : i = 0 ∨ i = 1 := by omega
  rcases hcase with rfl | rfl
  ·have hcl : wr.cell? ⟨rr, 0, none⟩ = some (.slice A0 l0.length c0) := (blk_cell (blk_below BR.out HBW.out) 0).trans rfl
   have hsc := Aside0.mk (below_alloc HBW.out (.cells #[.slice A0 l0.length c0] 25))
   go_upto_block 2 with (fail)
   refine wp_block ?_
   refine scan_ok A0 c0 l0 g4 _ hl0 ⟨fun W' hb => hC0.out W' (below_step hsc.out hb)⟩ hz0 _ _ _ _ _ _ _ _ _ _ _ _ _ _ _ _ _ _ _ _ _ _ _ _ _ _ _ _ _ _ _ _ _ _ _ _ _ _ _ _ _ _ _ _ _ _ _ _ _ _ _ _ _ _ _ _ _ _ _ _ _ _ _ _ _ _ _ _ _ _ _ _ _ _ _ _ _ _ _ _ _ _ _ _ _ _ _ _ _ _ _ _ _ _ _ _ _ _ _ _ _ _ _ _ _ _ _ _ _ _ _ _ _ _ _ _ _ _ _ _ _ _ _ _ _ _ _ _ _ _ _ _ _ _ _ _ _ _ _ _ _ _ _ _ _ _ _ _ ⟨fun x5 x10 x11 x39 x40 x41 x42 x43 x44 x45 x46 x47 x48 x49 x50 x51 x52 W' hB => ?_⟩
   have HBn := Aside0.mk (below_step hsc.out hB)
   clear hB hcl
   unfold Exit.then
   (try dsimp only)
   go_wp2
   go_roundg 1
   case measure => omega
   case rel => exact ⟨1, by first | rfl | go_num, by omega, by omega, HBn⟩
  ·have hcl : wr.cell? ⟨rr, 1, none⟩ = some (.slice A1 l1.length c1) := (blk_cell (blk_below BR.out HBW.out) 1).trans rfl
   have hsc := Aside0.mk (below_alloc HBW.out (.cells #[.slice A1 l1.length c1] 25))
   go_upto_block 2 with (fail)
   refine wp_block ?_
   have HB2 := Aside0.mk (HB.out.trans (hsc.out.mono (below_size HB.out)))
   refine scan_bad A1 c1 l1 g4 b0 w _ hl1 ⟨fun W' hb => hC1.out W' (below_step hsc.out hb)⟩ hbad hz hnz HB2 HG4 ⟨blk_below B4.out hsc.out⟩ _ _ _ _ _ _ _ _ _ _ _ _ _ _ _ _ _ _ _ _ _ _ _ _ _ _ _ _ _ _ _ _ _ _ _ _ _ _ _ _ _ _ _ _ _ _ _ _ _ _ _ _ _ _ _ _ _ _ _ _ _ _ _ _ _ _ _ _ _ _ _ _ _ _ _ _ _ _ _ _ _ _ _ _ _ _ _ _ _ _ _ _ _ _ _ _ _ _ _ _ _ _ _ _ _ _ _ _ _ _ _ _ _ _ _ _ _ _ _ _ _ _ _ _ _ _ _ _ _ _ _ _ _ _ _ _ _ _ _ _ _ _ _ _ _ _ _ _ ⟨fun x10 x11 x39 x40 x41 x42 x43 x44 x45 x46 x47 x48 x49 x50 x51 x52 b W' hB hB4 => ?_⟩
   exact HK.out _ _ (HQ.out _ _ _ _ _ _ _ _ _ _ _ _ _ _ _ _ _ _ _ _ _ _ _ _ _ _ _ hB hB4)
theorem cell_bel {W W' : World} {a : Addr} {v : Value} (h : W.cell? a = some v) (hb : Below W.heap.size W W') : W'.cell? a = some v := (hb.cell (World.block_lt_of_cell? W _ h)).trans h
set_option maxHeartbeats 8000000 in
set_option maxRecDepth 100000 in
theorem merge_twins (k : Nat) (A0 A1 : Option Addr) (c0 c1 : Nat) (l0 l1 low high : List S38) (g2 g3 : Nat) (W : World)
  (hC0 : Aside0 (∀ W', Below W.heap.size W W' → Kd.C k38 W' A0 l0.length l0)) (hC1 : Aside0 (∀ W', Below W.heap.size W W' → Kd.C k38 W' A1 l1.length l1)) (hc0 : Aside0 (l0.length ≤ c0)) (hc1 : Aside0 (l1.length ≤ c1))
  (T0 : Aside0 (cue_Twin.f k l0 = some low)) (T1 : Aside0 (cue_Twin.f k l1 = some high))
  (B2 : Aside0 (W.heap[g2]? = some (.cells #[.slice A0 l0.length c0] 25 (0, 0)))) (B3 : Aside0 (W.heap[g3]? = some (.cells #[.slice A1 l1.length c1] 25 (0, 0))))
  (s0 s1 s4 s5 s6 s7 s8 s9 aA aB aC aD aE aF aG aH aI aJ aK aL aM aN aO aP aQ aR aS aT aU aV aW aX aY aZ bA bB bC bD bE bF bG bH bI bJ bK bL bM bN bO bP bQ bR bS bT bU bV bW bX bY bZ cA cB cC cD cE cF cG cH cI cJ cK cL cM cN cO cP cQ cR cS cT cU cV cW cX cY cZ dA dB dC dD dE dF dG dH dI dJ dK dL dM dN dO dP dQ dR dS dT dU dV dW dX dY dZ eA eB eC eD eE eF eG eH eI eJ eK eL eM eN eO eP eQ eR eS eT eU eV eW eX eY eZ fA fB fC fD fE fF fG fH fI fJ fK : Value) (Q : Exit → Act → World → Prop)
  (HQ : Aside0 (∀ (fL fM fN fO fP fQ v12 v13 : Value) (w1 w2 : World), Below W.heap.size W w1 → Kd.S k38 38 w1 W.heap.size (fun _ => True) v12 low → Below w1.heap.size w1 w2 → Kd.S k38 38 w2 w1.heap.size (fun _ => True) v13 high → Q .normal ⟨List.toArray (s0::s1::.pointer (some ⟨g2, 0, none⟩)::.pointer (some ⟨g3, 0, none⟩)::s4::s5::s6::s7::s8::s9::aA::aB::v12::v13::aE::aF::aG::aH::aI::aJ::aK::aL::aM::aN::aO::aP::aQ::aR::aS::aT::aU::aV::aW::aX::aY::aZ::bA::bB::bC::bD::bE::bF::bG::bH::bI::bJ::bK::bL::bM::bN::bO::bP::bQ::bR::bS::bT::bU::bV::bW::bX::bY::bZ::cA::cB::cC::cD::fL::fM::fN::fO::fP::fQ::cK::cL::cM::cN::cO::cP::cQ::cR::cS::cT::cU::cV::cW::cX::cY::cZ::dA::dB::dC::dD::dE::dF::dG::dH::dI::dJ::dK::dL::dM::dN::dO::dP::dQ::dR::dS::dT::dU::dV::dW::dX::dY::dZ::eA::eB::eC::eD::eE::eF::eG::eH::eI::eJ::eK::eL::eM::eN::eO::eP::eQ::eR::eS::eT::eU::eV::eW::eX::eY::eZ::fA::fB::fC::fD::fE::fF::fG::fH::fI::fJ::fK::[]), []⟩ w2)) :
  (rgnM 16).wp Try.prog Q ⟨List.toArray (s0::s1::.pointer (some ⟨g2, 0, none⟩)::.pointer (some ⟨g3, 0, none⟩)::s4::s5::s6::s7::s8::s9::aA::aB::aC::aD::aE::aF::aG::aH::aI::aJ::aK::aL::aM::aN::aO::aP::aQ::aR::aS::aT::aU::aV::aW::aX::aY::aZ::bA::bB::bC::bD::bE::bF::bG::bH::bI::bJ::bK::bL::bM::bN::bO::bP::bQ::bR::bS::bT::bU::bV::bW::bX::bY::bZ::cA::cB::cC::cD::cE::cF::cG::cH::cI::cJ::cK::cL::cM::cN::cO::cP::cQ::cR::cS::cT::cU::cV::cW::cX::cY::cZ::dA::dB::dC::dD::dE::dF::dG::dH::dI::dJ::dK::dL::dM::dN::dO::dP::dQ::dR::dS::dT::dU::dV::dW::dX::dY::dZ::eA::eB::eC::eD::eE::eF::eG::eH::eI::eJ::eK::eL::eM::eN::eO::eP::eQ::eR::eS::eT::eU::eV::eW::eX::eY::eZ::fA::fB::fC::fD::fE::fF::fG::fH::fI::fJ::fK::[]), []⟩ W := by
 refine wp_norm fun K HK => ?_
 conv => arg 2; whnf
 have hfd : ∀ (A : Option Addr) (n c : Nat) (w : World), Sem.run Try.prog (Instr.field 25 (Value.agg #[Value.slice A n c]) 0) w = .ok (.slice A n c) w := fun A n c w => by first | kernel_rfl | (go_simp; rfl)
 have k2 := (blk_cellsM B2.out).1
 have k3 := (blk_cellsM B3.out).1
 clear B2 B3
 have HB0 := Aside0.mk (Below.refl W.heap.size W)
 go_region_with (go_at_call 27; first | ((with_reducible refine (cue_Twin.calls k A0 c0 l0 low _ (hC0.out _ (below_drew HB0.out)) hc0.out T0.out).mono ?_); rintro e w1 ⟨v0, rfl, hs, hb⟩; obtain ⟨Av0, cv0, rfl⟩ := Kd.R_slice (Kd.S_R hs); have HS0 := Aside0.mk hs; have HB1 := Aside0.mk hb; have k3a : w1.cell? ⟨g3, 0, none⟩ = _ := cell_bel (W := W.drew) k3 hb; clear hs hb) | ((with_reducible refine (cue_Twin.calls k A1 c1 l1 high _ (hC1.out _ (below_step (below_drew HB0.out) HB1.out)) hc1.out T1.out).mono ?_); rintro e w2 ⟨v1, rfl, hs, hb⟩; obtain ⟨Av1, cv1, rfl⟩ := Kd.R_slice (Kd.S_R hs); have HS1 := Aside0.mk hs; have HB2 := Aside0.mk hb; clear hs hb))
 all_goals (unfold Exit.then; (try dsimp only); (try simp only [Act.put, List.setIfInBounds_toArray, List.set_cons_zero, List.set_cons_succ]); exact HK.out _ _ (HQ.out _ _ _ _ _ _ _ _ w1 w2 (below_step (below_drew HB0.out) HB1.out) HS0.out HB2.out HS1.out))
namespace MG
theorem blk_keep {W w1 : World} {g : Nat} {o : Obj} {row : Option Nat} (h : W.heap[g]? = some o) (hg : W.grownBy w1 row) (hne : some g ≠ row) : w1.heap[g]? = some o := (hg.block g (blk_lt h) hne).trans h
theorem joined {low LM : List S38} {LL HLs : List HE} {base n1 g : Nat} {tail : List Value} {v v1 : Value} {W0 W w1 : World} {A : Option Addr} (hm : LL.map (·.1) = low) (hLM : low ++ HLs.map (·.1) = LM) (hR : Kd.R (Kd.raw 9) 38 w1 base (fun _ => True) v1 (LL.map encC ++ HLs.map encC))
  (hsp : ∀ x ∈ LL, x.1.f5.f1.length ≤ x.2.2 ∧ Kd.F k79 W (fun k => k < n1 ∧ some k ≠ v.ownBlock) x.2.1 x.1.f5.f1.length x.1.f5.f1) (hown : ∀ k, v.ownBlock = some k → k < n1) (hs : ∀ x ∈ HLs, Sp W0 g n1 x) (hH : HI g tail W0 A HLs W) (hG : W.grownBy w1 v.ownBlock) :
  ∃ A1 c1, LM.length ≤ c1 ∧ v1 = .slice A1 LM.length c1 ∧ Kd.C k38 w1 A1 LM.length LM := by
 obtain ⟨A1, c1, e, hc, hC⟩ := Kd.R_reads hR
 have he : LM = (LL ++ HLs).map (·.1) := by rw [← hLM, List.map_append, hm]
 have hl : (LL.map encC ++ HLs.map encC).length = LM.length := by rw [he]; simp
 rw [hl] at e hc hC
 refine ⟨A1, c1, hc, e, ?_⟩
 rw [← List.map_append] at hC
 rw [he] at hC ⊢
 refine raw_reads hC fun x hx => ?_
 rcases List.mem_append.1 hx with hx | hx
 ·obtain ⟨q1, q2⟩ := hsp x hx
  exact ⟨q1, Kd.F_now (Kd.F_grown q2 hG (fun k hk => hk.2))⟩
 ·obtain ⟨q1, q2⟩ := hs x hx
  refine ⟨q1, Kd.F_now (Kd.F_grown (Kd.F_grown q2 hH.grown (fun k hk e => hk.1 (by injection e))) hG (fun k hk e => ?_))⟩
  have := hown k e.symm
  have := hk.2
  omega
end MG
set_option maxHeartbeats 8000000 in
set_option maxRecDepth 100000 in
theorem merge_end (k n1 nn : Nat) (Al A : Option Addr) (cl cap : Nat) (low r : List S38) (HLs : List MG.HE) (g g4 : Nat) (tail : List Value) (w W0 W : World)
  (HLOW : Aside0 (Kd.R k38 38 W w.heap.size (fun k => k < n1) (.slice Al low.length cl) low)) (HH : Aside0 (MG.HI g tail W0 A HLs W)) (HS : Aside0 (∀ x ∈ HLs, MG.Sp W0 g n1 x)) (HN : Aside0 (HLs.length = nn)) (HBD : Aside0 (low.length ≤ 4096 ∧ nn ≤ 4096))
  (HB : Aside0 (Below w.heap.size w W)) (HG4 : Aside0 (w.heap.size ≤ g4)) (HG4n : Aside0 (some g4 ≠ (Value.slice Al low.length cl).ownBlock)) (B4 : Aside0 (W.heap[g4]? = some (.cells #[.slice none 0 0] 25 (0, 0))))
  (HSRT : Aside0 (cue_Sort.f k (low ++ HLs.map (·.1)) = some r))
  (s0 s1 s2 s3 s5 s6 s7 s8 s9 aA aB aC aD aE aF aG aH aI aJ aK aL aM aN aO aP aQ aR aS aT aU aV aW aX aY aZ bA bB bC bD bE bF bG bH bI bJ bK bL bM bN bO bP bQ bR bS bT bU bV bW bX bY bZ cA cB cC cD cE cF cG cH cI cJ cK cL cM cN cO cP cQ cR cS cT cU cV cW cX cY cZ dA dB dC dD dE dF dG dH dI dJ dK dL dM dN dO dP dQ dR dS dT dU dV dW dX dY dZ eA eB eC eD eE eF eG eH eI eJ eK eL eM eN eO eP eQ eR eS eT eU eV eW eX eY eZ fA fB fC fD fE fF fG fH fI : Value) (Q : Exit → Act → World → Prop)
  (HQ : Aside0 (∀ (fJ fK fL fM fN v' : Value) (W' : World), Kd.S k38 38 W' w.heap.size (fun _ => True) v' r → Below w.heap.size w W' → W'.heap[g4]? = some (.cells #[v'] 25 (0, 0)) → Q .normal ⟨List.toArray (s0::s1::s2::s3::.pointer (some ⟨g4, 0, none⟩)::.nilIface::s6::s7::s8::s9::aA::aB::.slice Al low.length cl::.slice A nn cap::aC::aD::aE::aF::aG::aH::aI::aJ::aK::aL::aM::aN::aO::aP::aQ::aR::aS::aT::aU::aV::aW::aX::aY::aZ::bA::bB::bC::bD::bE::bF::bG::bH::bI::bJ::bK::bL::bM::bN::bO::bP::bQ::bR::bS::bT::bU::bV::bW::bX::bY::bZ::cA::cB::cC::cD::cE::cF::cG::cH::cI::cJ::cK::cL::cM::cN::cO::cP::cQ::cR::cS::cT::cU::cV::cW::cX::cY::cZ::dA::dB::dC::dD::dE::dF::dG::dH::dI::dJ::dK::dL::dM::dN::dO::dP::dQ::dR::dS::dT::dU::dV::dW::dX::dY::dZ::eA::eB::eC::eD::eE::eF::eG::eH::eI::eJ::eK::eL::eM::eN::eO::eP::eQ::eR::eS::eT::eU::eV::eW::eX::eY::eZ::fA::fB::fC::fD::fJ::fK::fL::fM::fN::[]), []⟩ W')) :
  (rgnM 30).wp Try.prog Q ⟨List.toArray (s0::s1::s2::s3::.pointer (some ⟨g4, 0, none⟩)::s5::s6::s7::s8::s9::aA::aB::.slice Al low.length cl::.slice A nn cap::aC::aD::aE::aF::aG::aH::aI::aJ::aK::aL::aM::aN::aO::aP::aQ::aR::aS::aT::aU::aV::aW::aX::aY::aZ::bA::bB::bC::bD::bE::bF::bG::bH::bI::bJ::bK::bL::bM::bN::bO::bP::bQ::bR::bS::bT::bU::bV::bW::bX::bY::bZ::cA::cB::cC::cD::cE::cF::cG::cH::cI::cJ::cK::cL::cM::cN::cO::cP::cQ::cR::cS::cT::cU::cV::cW::cX::cY::cZ::dA::dB::dC::dD::dE::dF::dG::dH::dI::dJ::dK::dL::dM::dN::dO::dP::dQ::dR::dS::dT::dU::dV::dW::dX::dY::dZ::eA::eB::eC::eD::eE::eF::eG::eH::eI::eJ::eK::eL::eM::eN::eO::eP::eQ::eR::eS::eT::eU::eV::eW::eX::eY::eZ::fA::fB::fC::fD::fE::fF::fG::fH::fI::[]), []⟩ W := by
 refine wp_norm fun K HK => ?_
 conv => arg 2; whnf
 obtain ⟨LL, hm, hRaw, hsp⟩ := MG.R_raw HLOW.out
 have HM := Aside0.mk hm
 have HRAW := Aside0.mk (Kd.R_mono (ok' := fun _ => True) hRaw (fun _ _ => trivial))
 have HSP := Aside0.mk hsp
 have HOWN := Aside0.mk (fun k hk => hRaw.1 k hk)
 clear hm hRaw hsp
 go_wp2_with (first | ((with_reducible refine gate_builtin (b := .append) (xs := #[.tmp 146, .tmp 147]) rfl ?_); at_builtin; refine Kd.R_append_rows (Kd.raw 9) (Rr := fun x cs => cs = x ∧ cs.length = 9 ∧ ∀ u ∈ cs, u.oneCell' = true) (w0 := w) w.heap.size rfl (.tmp 146) (.tmp 147) 23 38 (.agg #[(.int .i64 0), (.int .i64 0), (.int .i64 0), (.int .i64 0), (.int .i64 0), (.int .i64 0), (.string ⟨#[]⟩), (.string ⟨#[]⟩), (.slice none 0 0)]) 104 rfl Try.underlying23 info38 rfl (by decide) (by omega) (.slice Al low.length cl) (LL.map MG.encC) (HLs.map MG.encC) A nn cap (fun _ => True) (fun _ => False) rfl rfl HRAW.out (by have h := HH.out.rawreads (by have := HN.out; have := HBD.out; omega); rw [HN.out] at h; exact h) (fun x cs h => h) (fun k hk => hk.elim) (fun k hk => trivial) HB.out (below_size HB.out) (by have := HBD.out; have h := congrArg List.length HM.out; rw [List.length_map] at h; rw [List.length_map]; omega) ?_; intro v1 w1 hR1 hB1 hG1 hat1; have HR1 := Aside0.mk hR1; have HB1 := Aside0.mk hB1; have HG1 := Aside0.mk hG1; clear hR1 hB1 hG1 hat1; obtain ⟨LM, hLM⟩ : ∃ LM, low ++ HLs.map (·.1) = LM := ⟨_, rfl⟩; have HLM := Aside0.mk hLM; clear hLM; obtain ⟨A1, c1, hc1, rfl, hC1⟩ := MG.joined HM.out HLM.out HR1.out HSP.out HOWN.out HS.out HH.out HG1.out; have HC1 := Aside0.mk hC1; have HCC := Aside0.mk hc1; clear hC1 hc1) | (go_at_call 28; (with_reducible refine (cue_Sort.calls k A1 c1 LM r _ HC1.out HCC.out (HLM.out ▸ HSRT.out)).mono ?_); rintro e w2 ⟨v2, rfl, hS2, hB2⟩; have HS2 := Aside0.mk hS2; have HB2 := Aside0.mk hB2; obtain ⟨A2, c2, rfl⟩ := Kd.R_slice (Kd.S_R hS2); clear hS2 hB2; have B4b := Aside0.mk (blk_below (MG.blk_keep B4.out HG1.out HG4n.out) HB2.out); obtain ⟨d0, f0⟩ := blk_cellsM B4b.out))
 exact HK.out _ _ (HQ.out _ _ _ _ _ _ _ (Kd.S_set (Kd.S_lower HS2.out (below_size HB1.out)) B4b.out (by decide) 0 _) (below_set (below_step HB1.out HB2.out) HG4.out) (blk_put B4b.out 0 _ rfl))
theorem MG.below_grown {w wb W : World} {g : Nat} (h : Below w.heap.size w wb) (hg : wb.grownBy W (some g)) (hne : ¬ g < w.heap.size) : Below w.heap.size w W :=
 ⟨hg.os.trans h.os, hg.tape.trans h.tape, hg.output.trans h.output, Nat.le_trans h.size hg.size, fun i hi => (hg.block i (Nat.lt_of_lt_of_le hi h.size) (fun e => by injection e with e; omega)).trans (h.block i hi)⟩
set_option maxHeartbeats 8000000 in
set_option maxRecDepth 100000 in
theorem dual_Merge.ok (k : Nat) (A0 : Option Addr) (c0 : Nat) (l0 : List S38) (A1 : Option Addr) (c1 : Nat) (l1 : List S38) (w : World) (hr0 : Kd.C k38 w A0 l0.length l0) (hc0 : l0.length ≤ c0) (hr1 : Kd.C k38 w A1 l1.length l1) (hc1 : l1.length ≤ c1) (pairs : List S47) (hP : dual_Pairs.f k l0 l1 = some (pairs, none)) (hz0 : Aside0 (∀ x ∈ l0, x.f3 = 0)) (hz1 : Aside0 (∀ x ∈ l1, x.f3 = 0)) (hlen : l0.length + l1.length ≤ 4096) (low high h2 r : List S38) (T0 : Aside0 (cue_Twin.f k l0 = some low)) (T1 : Aside0 (cue_Twin.f k l1 = some high)) (HA : Aside0 (MG.setAll low pairs high = some h2)) (HSRT : Aside0 (cue_Sort.f k (low ++ h2.map (MG.sided · 1)) = some r)) (hpl : pairs.length ≤ 4096) (hlow : low.length ≤ 4096) (hhigh : high.length ≤ 4096) :
  Calls Try.prog 13 #[.agg #[.slice A0 l0.length c0], .agg #[.slice A1 l1.length c1]] w fun e w' => ∃ v0_ v1_ : Value, e = .returned (.tuple #[.agg #[v0_], v1_]) ∧ Kd.S k38 38 w' w.heap.size (fun _ => True) v0_ r ∧ EV v1_ none ∧ Below w.heap.size w w' := by
 have hu25 := Try.underlying25
 have HR0 := Aside0.mk hr0
 have HC0 := Aside0.mk hc0
 have HR1 := Aside0.mk hr1
 have HC1 := Aside0.mk hc1
 have HP := Aside0.mk hP
 clear hr0 hc0 hr1 hc1 hP
 have HB3 := Aside0.mk (below_alloc (below_alloc (below_alloc (Below.refl w.heap.size w) (.cells #[.slice A0 l0.length c0] 25)) (.cells #[.slice A1 l1.length c1] 25)) (.cells #[.slice none 0 0] 25))
 have B2 := Aside0.mk (blk_alloc (blk_alloc (blk_new w (.cells #[.slice A0 l0.length c0] 25)) (.cells #[.slice A1 l1.length c1] 25)) (.cells #[.slice none 0 0] 25))
 have B3 := Aside0.mk (blk_alloc (blk_new (w.alloc (.cells #[.slice A0 l0.length c0] 25)) (.cells #[.slice A1 l1.length c1] 25)) (.cells #[.slice none 0 0] 25))
 have B4 := Aside0.mk (blk_new ((w.alloc (.cells #[.slice A0 l0.length c0] 25)).alloc (.cells #[.slice A1 l1.length c1] 25)) (.cells #[.slice none 0 0] 25))
 simp only [World.size_alloc] at B3 B4
 go_enter Try.func13, Try.ntmps13
 have HLN := Aside0.mk (And.intro hpl (And.intro hlow hhigh))
 clear hpl hlow hhigh
 have hl0 : l0.length ≤ 4096 := by omega
 have hl1 : l1.length ≤ 4096 := by omega
 have hd0 : decide ((4096 : Int) < (l0.length : Int) + (l1.length : Int)) = false := decide_eq_false (by omega)
 have hd1 : decide (4096 < l0.length + l1.length) = false := decide_eq_false (by omega)
 clear hlen
 go_upto_block 0 with (first | (go_at_call 16; refine (dual_Pairs.calls k A0 c0 l0 A1 c1 l1 pairs none _ (Kd.C_below HR0.out HB3.out) HC0.out (Kd.C_below HR1.out HB3.out) HC1.out HP.out).mono ?_; rintro e w1 ⟨v0, v1, rfl, hR, hE, hB⟩; obtain rfl := EV_none hE; have HPR := Aside0.mk hR; have HBw := Aside0.mk (below_step HB3.out hB); have B2w := Aside0.mk (blk_below B2.out hB); have B3w := Aside0.mk (blk_below B3.out hB); have B4w := Aside0.mk (blk_below B4.out hB); obtain ⟨Ap, cp, rfl⟩ := Kd.R_slice hR; clear hR hE hB B2 B3 B4 HB3; obtain ⟨d2, e2⟩ := blk_cellsM B2w.out; obtain ⟨d3, e3⟩ := blk_cellsM B3w.out; obtain ⟨d4, e4⟩ := blk_cellsM B4w.out))
 refine wp_block ?_
 have HBr := Aside0.mk (below_alloc HBw.out (.cells #[.slice A0 l0.length c0, .slice A1 l1.length c1] 25))
 clear d2 e2 d3 e3 d4 e4
 refine docs_ok A0 A1 c0 c1 l0 l1 (w.heap.size + 2) _ w _ hl0 hl1 ⟨fun W' hb => Kd.C_below HR0.out (below_step HBr.out hb)⟩ ⟨fun W' hb => Kd.C_below HR1.out (below_step HBr.out hb)⟩ ⟨blk_new w1 _⟩ HBr ⟨by omega⟩ ⟨blk_alloc B4w.out _⟩ hz0 hz1 _ _ _ _ _ _ _ _ _ _ _ _ _ _ _ _ _ _ _ _ _ _ _ _ _ _ _ _ _ _ _ _ _ _ _ _ _ _ _ _ _ _ _ _ _ _ _ _ _ _ _ _ _ _ _ _ _ _ _ _ _ _ _ _ _ _ _ _ _ _ _ _ _ _ _ _ _ _ _ _ _ _ _ _ _ _ _ _ _ _ _ _ _ _ _ _ _ _ _ _ _ _ _ _ _ _ _ _ _ _ _ _ _ _ _ _ _ _ _ _ _ _ _ _ _ _ _ _ _ _ _ _ _ _ _ _ _ _ _ _ _ _ _ _ _ _ _ _ ⟨fun x5 x9 x10 x11 x32 x33 x34 x35 x36 x37 x38 x39 x40 x41 x42 x43 x44 x45 x46 x47 x48 x49 x50 x51 x52 x53 w2 hB2 => ?_⟩
 have HB2 := Aside0.mk (below_step HBr.out hB2)
 have hb12 : Below w1.heap.size w1 w2 := (below_alloc (Below.refl w1.heap.size w1) _).trans (hB2.mono (by simp))
 have B2x := Aside0.mk (blk_below B2w.out hb12)
 have B3x := Aside0.mk (blk_below B3w.out hb12)
 have B4x := Aside0.mk (blk_below B4w.out hb12)
 have HPX := Aside0.mk (Kd.R_below (Kd.R_bound HPR.out) hb12)
 have hBx : w1.heap.size ≤ w2.heap.size := hb12.size
 have HBX := Aside0.mk hBx
 clear hBx
 clear hB2 hb12 B2w B3w B4w HPR HBr HBw
 obtain ⟨d2, e2⟩ := blk_cellsM B2x.out
 obtain ⟨d3, e3⟩ := blk_cellsM B3x.out
 unfold Exit.then
 (try dsimp only)
 go_wp2
 clear d2 e2 d3 e3
 refine merge_twins k A0 A1 c0 c1 l0 l1 low high _ _ w2 ⟨fun W' hb => Kd.C_below HR0.out (below_step HB2.out hb)⟩ ⟨fun W' hb => Kd.C_below HR1.out (below_step HB2.out hb)⟩ HC0 HC1 T0 T1 B2x B3x _ _ _ _ _ _ _ _ _ _ _ _ _ _ _ _ _ _ _ _ _ _ _ _ _ _ _ _ _ _ _ _ _ _ _ _ _ _ _ _ _ _ _ _ _ _ _ _ _ _ _ _ _ _ _ _ _ _ _ _ _ _ _ _ _ _ _ _ _ _ _ _ _ _ _ _ _ _ _ _ _ _ _ _ _ _ _ _ _ _ _ _ _ _ _ _ _ _ _ _ _ _ _ _ _ _ _ _ _ _ _ _ _ _ _ _ _ _ _ _ _ _ _ _ _ _ _ _ _ _ _ _ _ _ _ _ _ _ _ _ _ _ _ _ _ _ _ _ _ _ ⟨fun y66 y67 y68 y69 y70 y71 v12 v13 wa wb hBa hSa hBb hSb => ?_⟩
 have HB4 := Aside0.mk (below_step (below_step HB2.out hBa) hBb)
 have hsz : w2.heap.size ≤ wa.heap.size := hBa.size
 have hsz2 : wa.heap.size ≤ wb.heap.size := hBb.size
 have hsz0 : w.heap.size + 2 < w2.heap.size := blk_lt B4x.out
 have HSZ := Aside0.mk (And.intro hsz (And.intro hsz2 hsz0))
 have HLOWa := Aside0.mk (Kd.R_lower (Kd.R_mono (ok' := fun k_ => k_ < wa.heap.size ∧ w2.heap.size ≤ k_) (Kd.R_below (Kd.R_bound (Kd.S_R hSa)) hBb) (fun k_ hk => ⟨hk.2.2.1, hk.2.1⟩)) (show w.heap.size ≤ w2.heap.size by omega))
 obtain ⟨A, cap, g, tail, HL, rfl, hcap, hHL, hHI, hgb, hF⟩ := MG.R_HI (Kd.R_mono (ok' := fun k_ => wa.heap.size ≤ k_) (Kd.R_bound (Kd.S_R hSb)) (fun k_ hk => hk.2.1)) hsz2
 have HSP := Aside0.mk (fun x hx => (show MG.Sp wb g wa.heap.size x from ⟨(hF x hx).1, Kd.F_mono (hF x hx).2 (fun k_ hk => ⟨hk.2, hk.1⟩)⟩))
 have HHI := Aside0.mk hHI
 have HHL := Aside0.mk hHL
 have HGB := Aside0.mk hgb
 have HCAP := Aside0.mk hcap
 have HPRb := Aside0.mk (Kd.R_mono (ok' := fun k_ => k_ < wa.heap.size) (Kd.R_below HPX.out ((hBa.trans (hBb.mono hsz)))) (fun k_ hk => by have := hk.2.2.1; have := HBX.out; have := HSZ.out; omega))
 obtain ⟨Al, cl, rfl⟩ := Kd.R_slice HLOWa.out
 have B4y := Aside0.mk (blk_below (blk_below B4x.out hBa) hBb)
 clear hSa hSb hBa hBb hsz hsz2 hsz0 hHI hHL hgb hF hcap HPX B2x B3x B4x
 have PRS : Aside0 (∀ W', wb.grownBy W' (some g) → Kd.C k47 W' Ap pairs.length pairs) := ⟨fun W' hg => (Kd.R_reads' (Kd.R_grown HPRb.out hg (fun k_ hk e => by injection e with e; have := HGB.out; omega))).2.2⟩
 have LOWr : Aside0 (∀ W', wb.grownBy W' (some g) → Kd.R k38 38 W' w.heap.size (fun k_ => k_ < wa.heap.size ∧ w2.heap.size ≤ k_) (.slice Al low.length cl) low) := ⟨fun W' hg => Kd.R_grown HLOWa.out hg (fun k_ hk e => by injection e with e; have := HGB.out; omega)⟩
 have hnn : high.length ≤ 4096 := HLN.out.2.2
 unfold Exit.then
 (try dsimp only)
 go_upto_block 4 with (fail)
 refine wp_block ?_
 refine set_loop wa.heap.size pairs Ap Al A cp cl cap high.length low HL h2 g tail wb wb HLN.out.1 HLN.out.2.1 hnn HCAP.out ⟨by rw [← HHL.out, List.length_map]⟩ PRS ⟨fun W' hg => (Kd.R_reads' (LOWr.out W' hg)).2.2⟩ HHI HSP ⟨by rw [HHL.out]; exact HA.out⟩ _ _ _ _ _ _ _ _ _ _ _ _ _ _ _ _ _ _ _ _ _ _ _ _ _ _ _ _ _ _ _ _ _ _ _ _ _ _ _ _ _ _ _ _ _ _ _ _ _ _ _ _ _ _ _ _ _ _ _ _ _ _ _ _ _ _ _ _ _ _ _ _ _ _ _ _ _ _ _ _ _ _ _ _ _ _ _ _ _ _ _ _ _ _ _ _ _ _ _ _ _ _ _ _ _ _ _ _ _ _ _ _ _ _ _ _ _ _ _ _ _ _ _ _ _ _ _ _ _ _ _ _ _ _ _ _ _ _ _ _ _ _ _ _ _ _ _ ⟨fun z15 z16 z74 z75 z76 z77 z78 z79 z80 z81 z82 z83 z84 z85 z86 z87 z88 z89 z90 z91 z92 z93 z94 z95 z96 z97 z98 z99 z100 z101 z102 z103 z104 z105 z106 z107 z108 z109 z110 z111 z112 z113 z114 z115 z116 z117 z118 z119 z120 z121 z122 z123 z124 z125 z126 z127 z128 z129 z130 z131 z132 z133 z134 z135 wc HL2 hI2 hSp2 hm2 hln2 => ?_⟩
 have HI2 := Aside0.mk hI2
 have HSP2 := Aside0.mk hSp2
 have HM2 := Aside0.mk hm2
 have HLN2 := Aside0.mk hln2
 clear hI2 hSp2 hm2 hln2
 unfold Exit.then
 (try dsimp only)
 go_upto_block 6 with (fail)
 refine wp_block ?_
 refine side_loop wa.heap.size A cap high.length HL2 g tail wb wc hnn HCAP.out HLN2 HI2 HSP2 _ _ _ _ _ _ _ _ _ _ _ _ _ _ _ _ _ _ _ _ _ _ _ _ _ _ _ _ _ _ _ _ _ _ _ _ _ _ _ _ _ _ _ _ _ _ _ _ _ _ _ _ _ _ _ _ _ _ _ _ _ _ _ _ _ _ _ _ _ _ _ _ _ _ _ _ _ _ _ _ _ _ _ _ _ _ _ _ _ _ _ _ _ _ _ _ _ _ _ _ _ _ _ _ _ _ _ _ _ _ _ _ _ _ _ _ _ _ _ _ _ _ _ _ _ _ _ _ _ _ _ _ _ _ _ _ _ _ _ _ _ _ _ _ _ _ _ _ _ ⟨fun q17 q138 q139 q140 q141 q142 q143 q144 q145 wd HL3 hI3 hSp3 hm3 hln3 => ?_⟩
 have HI3 := Aside0.mk hI3
 have HSP3 := Aside0.mk hSp3
 have HM3 := Aside0.mk hm3
 have HLN3 := Aside0.mk hln3
 clear hI3 hSp3 hm3 hln3
 have HBd := Aside0.mk (MG.below_grown HB4.out HI3.out.grown (fun e => by have := HGB.out; have := HSZ.out; omega))
 have B4z := Aside0.mk (blk_grown B4y.out HI3.out.grown (fun e => by injection e with e; have := HGB.out; have := HSZ.out; omega))
 have HLOWd := Aside0.mk (Kd.R_mono (ok' := fun k_ => k_ < wa.heap.size) (LOWr.out wd HI3.out.grown) (fun k_ hk => hk.1))
 have HG4n : Aside0 (some (w.heap.size + 2) ≠ (Value.slice Al low.length cl).ownBlock) := ⟨fun e => by have := (LOWr.out wd HI3.out.grown).1 _ e.symm; have := HSZ.out; omega⟩
 unfold Exit.then
 (try dsimp only)
 go_upto_region 30 with (fail)
 refine merge_end k wa.heap.size high.length Al A cl cap low r HL3 g (w.heap.size + 2) tail w wb wd HLOWd HI3 HSP3 HLN3 ⟨⟨HLN.out.2.1, hnn⟩⟩ HBd ⟨by omega⟩ HG4n B4z ⟨by rw [HM3.out, HM2.out]; exact HSRT.out⟩ _ _ _ _ _ _ _ _ _ _ _ _ _ _ _ _ _ _ _ _ _ _ _ _ _ _ _ _ _ _ _ _ _ _ _ _ _ _ _ _ _ _ _ _ _ _ _ _ _ _ _ _ _ _ _ _ _ _ _ _ _ _ _ _ _ _ _ _ _ _ _ _ _ _ _ _ _ _ _ _ _ _ _ _ _ _ _ _ _ _ _ _ _ _ _ _ _ _ _ _ _ _ _ _ _ _ _ _ _ _ _ _ _ _ _ _ _ _ _ _ _ _ _ _ _ _ _ _ _ _ _ _ _ _ _ _ _ _ _ _ _ _ _ _ _ _ _ _ _ ⟨fun p146 p147 p148 p149 p150 v' wf hS hB hB4 => ?_⟩
 have HSf := Aside0.mk hS
 have HBf := Aside0.mk hB
 have HB4f := Aside0.mk hB4
 clear hS hB hB4
 unfold Exit.then
 (try dsimp only)
 go_wp2
 refine bodyPost_ret (results_ct rfl _ _ (w.heap.size + 2) 25 #[v'] (0, 0) _ rfl HB4f.out Try.underlying25 rfl (by kernel_rfl)) rfl ?_
 exact ⟨v', .nilIface, rfl, HSf.out, EV_nil, HBf.out⟩
set_option maxHeartbeats 8000000 in
set_option maxRecDepth 100000 in
theorem dual_Merge.err (k : Nat) (A0 : Option Addr) (c0 : Nat) (l0 : List S38) (A1 : Option Addr) (c1 : Nat) (l1 : List S38) (w : World) (hr0 : Kd.C k38 w A0 l0.length l0) (hc0 : l0.length ≤ c0) (hr1 : Kd.C k38 w A1 l1.length l1) (hc1 : l1.length ≤ c1) (pairs : List S47) (er : Int × Int) (hP : dual_Pairs.f k l0 l1 = some (pairs, some er)) :
  Calls Try.prog 13 #[.agg #[.slice A0 l0.length c0], .agg #[.slice A1 l1.length c1]] w fun e w' => ∃ v0_ v1_ : Value, e = .returned (.tuple #[.agg #[v0_], v1_]) ∧ Kd.S k38 38 w' w.heap.size (fun _ => True) v0_ [] ∧ EV v1_ (some er) ∧ Below w.heap.size w w' := by
 have hu25 := Try.underlying25
 have HR0 := Aside0.mk hr0
 have HC0 := Aside0.mk hc0
 have HR1 := Aside0.mk hr1
 have HC1 := Aside0.mk hc1
 have HP := Aside0.mk hP
 clear hr0 hc0 hr1 hc1 hP
 have HB3 := Aside0.mk (below_alloc (below_alloc (below_alloc (Below.refl w.heap.size w) (.cells #[.slice A0 l0.length c0] 25)) (.cells #[.slice A1 l1.length c1] 25)) (.cells #[.slice none 0 0] 25))
 have B2 := Aside0.mk (blk_alloc (blk_alloc (blk_new w (.cells #[.slice A0 l0.length c0] 25)) (.cells #[.slice A1 l1.length c1] 25)) (.cells #[.slice none 0 0] 25))
 have B3 := Aside0.mk (blk_alloc (blk_new (w.alloc (.cells #[.slice A0 l0.length c0] 25)) (.cells #[.slice A1 l1.length c1] 25)) (.cells #[.slice none 0 0] 25))
 have B4 := Aside0.mk (blk_new ((w.alloc (.cells #[.slice A0 l0.length c0] 25)).alloc (.cells #[.slice A1 l1.length c1] 25)) (.cells #[.slice none 0 0] 25))
 simp only [World.size_alloc] at B3 B4
 go_enter Try.func13, Try.ntmps13
 go_wp2_with (first | (go_at_call 16; refine (dual_Pairs.calls k A0 c0 l0 A1 c1 l1 pairs (some er) _ (Kd.C_below HR0.out HB3.out) HC0.out (Kd.C_below HR1.out HB3.out) HC1.out HP.out).mono ?_; rintro e w1 ⟨v0, v1, rfl, hR, hE, hB⟩; obtain ⟨eb, rfl⟩ := EV_some hE; have HPR := Aside0.mk hR; have HBw := Aside0.mk (below_step HB3.out hB); have B2w := Aside0.mk (blk_below B2.out hB); have B3w := Aside0.mk (blk_below B3.out hB); have B4w := Aside0.mk (blk_below B4.out hB); obtain ⟨Ap, cp, rfl⟩ := Kd.R_slice hR; clear hR hE hB B2 B3 B4 HB3; obtain ⟨d2, e2⟩ := blk_cellsM B2w.out; obtain ⟨d3, e3⟩ := blk_cellsM B3w.out; obtain ⟨d4, e4⟩ := blk_cellsM B4w.out))
 (try unfold Exit.then)
 (try dsimp only)
 (try go_wp2)
 refine bodyPost_ret (results_ct rfl _ _ (w.heap.size + 2) 25 #[.slice none 0 0] (0, 0) _ rfl (blk_put B4w.out 0 _ rfl) Try.underlying25 rfl (by kernel_rfl)) rfl ?_
 exact ⟨.slice none 0 0, _, rfl, Kd.S_nil _ _ _ _ _, EV_mk _ _, below_set HBw.out (by omega)⟩
set_option maxHeartbeats 8000000 in
set_option maxRecDepth 100000 in
theorem dual_Merge.side_a (k : Nat) (A0 : Option Addr) (c0 : Nat) (l0 : List S38) (A1 : Option Addr) (c1 : Nat) (l1 : List S38) (w : World) (hr0 : Kd.C k38 w A0 l0.length l0) (hc0 : l0.length ≤ c0) (hr1 : Kd.C k38 w A1 l1.length l1) (hc1 : l1.length ≤ c1) (pairs : List S47) (hP : dual_Pairs.f k l0 l1 = some (pairs, none)) (hl0 : l0.length ≤ 4096) (hl1 : l1.length ≤ 4096) (b0 : Nat) (hbad : b0 < l0.length) (hz : Aside0 (∀ j, j < b0 → (l0.getD j z38).f3 = 0)) (hnz : Aside0 ((l0.getD b0 z38).f3 ≠ 0)) :
  Calls Try.prog 13 #[.agg #[.slice A0 l0.length c0], .agg #[.slice A1 l1.length c1]] w fun e w' => ∃ v0_ v1_ : Value, e = .returned (.tuple #[.agg #[v0_], v1_]) ∧ Kd.S k38 38 w' w.heap.size (fun _ => True) v0_ [] ∧ EV v1_ (some ((b0 : Int), 34)) ∧ Below w.heap.size w w' := by
 have hu25 := Try.underlying25
 have HR0 := Aside0.mk hr0
 have HC0 := Aside0.mk hc0
 have HR1 := Aside0.mk hr1
 have HC1 := Aside0.mk hc1
 have HP := Aside0.mk hP
 clear hr0 hc0 hr1 hc1 hP
 have HB3 := Aside0.mk (below_alloc (below_alloc (below_alloc (Below.refl w.heap.size w) (.cells #[.slice A0 l0.length c0] 25)) (.cells #[.slice A1 l1.length c1] 25)) (.cells #[.slice none 0 0] 25))
 have B2 := Aside0.mk (blk_alloc (blk_alloc (blk_new w (.cells #[.slice A0 l0.length c0] 25)) (.cells #[.slice A1 l1.length c1] 25)) (.cells #[.slice none 0 0] 25))
 have B3 := Aside0.mk (blk_alloc (blk_new (w.alloc (.cells #[.slice A0 l0.length c0] 25)) (.cells #[.slice A1 l1.length c1] 25)) (.cells #[.slice none 0 0] 25))
 have B4 := Aside0.mk (blk_new ((w.alloc (.cells #[.slice A0 l0.length c0] 25)).alloc (.cells #[.slice A1 l1.length c1] 25)) (.cells #[.slice none 0 0] 25))
 simp only [World.size_alloc] at B3 B4
 go_enter Try.func13, Try.ntmps13
 go_upto_block 0 with (first | (go_at_call 16; refine (dual_Pairs.calls k A0 c0 l0 A1 c1 l1 pairs none _ (Kd.C_below HR0.out HB3.out) HC0.out (Kd.C_below HR1.out HB3.out) HC1.out HP.out).mono ?_; rintro e w1 ⟨v0, v1, rfl, hR, hE, hB⟩; obtain rfl := EV_none hE; have HPR := Aside0.mk hR; have HBw := Aside0.mk (below_step HB3.out hB); have B2w := Aside0.mk (blk_below B2.out hB); have B3w := Aside0.mk (blk_below B3.out hB); have B4w := Aside0.mk (blk_below B4.out hB); obtain ⟨Ap, cp, rfl⟩ := Kd.R_slice hR; clear hR hE hB B2 B3 B4 HB3; obtain ⟨d2, e2⟩ := blk_cellsM B2w.out; obtain ⟨d3, e3⟩ := blk_cellsM B3w.out; obtain ⟨d4, e4⟩ := blk_cellsM B4w.out))
 refine wp_block ?_
 have HBr := Aside0.mk (below_alloc HBw.out (.cells #[.slice A0 l0.length c0, .slice A1 l1.length c1] 25))
 clear d2 e2 d3 e3 d4 e4
 refine docs_a A0 A1 c0 c1 l0 l1 (w.heap.size + 2) _ w _ hl0 hl1 ⟨fun W' hb => Kd.C_below HR0.out (below_step HBr.out hb)⟩ ⟨fun W' hb => Kd.C_below HR1.out (below_step HBr.out hb)⟩ ⟨blk_new w1 _⟩ HBr ⟨by omega⟩ ⟨blk_alloc B4w.out _⟩ b0 hbad hz hnz _ _ _ _ _ _ _ _ _ _ _ _ _ _ _ _ _ _ _ _ _ _ _ _ _ _ _ _ _ _ _ _ _ _ _ _ _ _ _ _ _ _ _ _ _ _ _ _ _ _ _ _ _ _ _ _ _ _ _ _ _ _ _ _ _ _ _ _ _ _ _ _ _ _ _ _ _ _ _ _ _ _ _ _ _ _ _ _ _ _ _ _ _ _ _ _ _ _ _ _ _ _ _ _ _ _ _ _ _ _ _ _ _ _ _ _ _ _ _ _ _ _ _ _ _ _ _ _ _ _ _ _ _ _ _ _ _ _ _ _ _ _ _ _ _ _ _ _ ⟨fun x9 x10 x11 x32 x33 x34 x35 x36 x37 x38 x39 x40 x41 x42 x43 x44 x45 x46 x47 x48 x49 x50 x51 x52 x53 b W' hB hB4 => ?_⟩
 (try unfold Exit.then)
 (try dsimp only)
 (try go_wp2)
 refine bodyPost_ret (results_ct rfl _ _ (w.heap.size + 2) 25 #[.slice none 0 0] (0, 0) _ rfl hB4 Try.underlying25 rfl (by kernel_rfl)) rfl ?_
 exact ⟨.slice none 0 0, _, rfl, Kd.S_nil _ _ _ _ _, ⟨b, rfl⟩, hB⟩
set_option maxHeartbeats 8000000 in
set_option maxRecDepth 100000 in
theorem dual_Merge.side_b (k : Nat) (A0 : Option Addr) (c0 : Nat) (l0 : List S38) (A1 : Option Addr) (c1 : Nat) (l1 : List S38) (w : World) (hr0 : Kd.C k38 w A0 l0.length l0) (hc0 : l0.length ≤ c0) (hr1 : Kd.C k38 w A1 l1.length l1) (hc1 : l1.length ≤ c1) (pairs : List S47) (hP : dual_Pairs.f k l0 l1 = some (pairs, none)) (hl0 : l0.length ≤ 4096) (hl1 : l1.length ≤ 4096) (hz0 : Aside0 (∀ x ∈ l0, x.f3 = 0)) (b0 : Nat) (hbad : b0 < l1.length) (hz : Aside0 (∀ j, j < b0 → (l1.getD j z38).f3 = 0)) (hnz : Aside0 ((l1.getD b0 z38).f3 ≠ 0)) :
  Calls Try.prog 13 #[.agg #[.slice A0 l0.length c0], .agg #[.slice A1 l1.length c1]] w fun e w' => ∃ v0_ v1_ : Value, e = .returned (.tuple #[.agg #[v0_], v1_]) ∧ Kd.S k38 38 w' w.heap.size (fun _ => True) v0_ [] ∧ EV v1_ (some ((b0 : Int), 34)) ∧ Below w.heap.size w w' := by
 have hu25 := Try.underlying25
 have HR0 := Aside0.mk hr0
 have HC0 := Aside0.mk hc0
 have HR1 := Aside0.mk hr1
 have HC1 := Aside0.mk hc1
 have HP := Aside0.mk hP
 clear hr0 hc0 hr1 hc1 hP
 have HB3 := Aside0.mk (below_alloc (below_alloc (below_alloc (Below.refl w.heap.size w) (.cells #[.slice A0 l0.length c0] 25)) (.cells #[.slice A1 l1.length c1] 25)) (.cells #[.slice none 0 0] 25))
 have B2 := Aside0.mk (blk_alloc (blk_alloc (blk_new w (.cells #[.slice A0 l0.length c0] 25)) (.cells #[.slice A1 l1.length c1] 25)) (.cells #[.slice none 0 0] 25))
 have B3 := Aside0.mk (blk_alloc (blk_new (w.alloc (.cells #[.slice A0 l0.length c0] 25)) (.cells #[.slice A1 l1.length c1] 25)) (.cells #[.slice none 0 0] 25))
 have B4 := Aside0.mk (blk_new ((w.alloc (.cells #[.slice A0 l0.length c0] 25)).alloc (.cells #[.slice A1 l1.length c1] 25)) (.cells #[.slice none 0 0] 25))
 simp only [World.size_alloc] at B3 B4
 go_enter Try.func13, Try.ntmps13
 go_upto_block 0 with (first | (go_at_call 16; refine (dual_Pairs.calls k A0 c0 l0 A1 c1 l1 pairs none _ (Kd.C_below HR0.out HB3.out) HC0.out (Kd.C_below HR1.out HB3.out) HC1.out HP.out).mono ?_; rintro e w1 ⟨v0, v1, rfl, hR, hE, hB⟩; obtain rfl := EV_none hE; have HPR := Aside0.mk hR; have HBw := Aside0.mk (below_step HB3.out hB); have B2w := Aside0.mk (blk_below B2.out hB); have B3w := Aside0.mk (blk_below B3.out hB); have B4w := Aside0.mk (blk_below B4.out hB); obtain ⟨Ap, cp, rfl⟩ := Kd.R_slice hR; clear hR hE hB B2 B3 B4 HB3; obtain ⟨d2, e2⟩ := blk_cellsM B2w.out; obtain ⟨d3, e3⟩ := blk_cellsM B3w.out; obtain ⟨d4, e4⟩ := blk_cellsM B4w.out))
 refine wp_block ?_
 have HBr := Aside0.mk (below_alloc HBw.out (.cells #[.slice A0 l0.length c0, .slice A1 l1.length c1] 25))
 clear d2 e2 d3 e3 d4 e4
 refine docs_b A0 A1 c0 c1 l0 l1 (w.heap.size + 2) _ w _ hl0 hl1 ⟨fun W' hb => Kd.C_below HR0.out (below_step HBr.out hb)⟩ ⟨fun W' hb => Kd.C_below HR1.out (below_step HBr.out hb)⟩ ⟨blk_new w1 _⟩ HBr ⟨by omega⟩ ⟨blk_alloc B4w.out _⟩ hz0 b0 hbad hz hnz _ _ _ _ _ _ _ _ _ _ _ _ _ _ _ _ _ _ _ _ _ _ _ _ _ _ _ _ _ _ _ _ _ _ _ _ _ _ _ _ _ _ _ _ _ _ _ _ _ _ _ _ _ _ _ _ _ _ _ _ _ _ _ _ _ _ _ _ _ _ _ _ _ _ _ _ _ _ _ _ _ _ _ _ _ _ _ _ _ _ _ _ _ _ _ _ _ _ _ _ _ _ _ _ _ _ _ _ _ _ _ _ _ _ _ _ _ _ _ _ _ _ _ _ _ _ _ _ _ _ _ _ _ _ _ _ _ _ _ _ _ _ _ _ _ _ _ _ ⟨fun x9 x10 x11 x32 x33 x34 x35 x36 x37 x38 x39 x40 x41 x42 x43 x44 x45 x46 x47 x48 x49 x50 x51 x52 x53 b W' hB hB4 => ?_⟩
 (try unfold Exit.then)
 (try dsimp only)
 (try go_wp2)
 refine bodyPost_ret (results_ct rfl _ _ (w.heap.size + 2) 25 #[.slice none 0 0] (0, 0) _ rfl hB4 Try.underlying25 rfl (by kernel_rfl)) rfl ?_
 exact ⟨.slice none 0 0, _, rfl, Kd.S_nil _ _ _ _ _, ⟨b, rfl⟩, hB⟩
set_option maxHeartbeats 8000000 in
set_option maxRecDepth 100000 in
theorem dual_Merge.many (k : Nat) (A0 : Option Addr) (c0 : Nat) (l0 : List S38) (A1 : Option Addr) (c1 : Nat) (l1 : List S38) (w : World) (hr0 : Kd.C k38 w A0 l0.length l0) (hc0 : l0.length ≤ c0) (hr1 : Kd.C k38 w A1 l1.length l1) (hc1 : l1.length ≤ c1) (pairs : List S47) (hP : dual_Pairs.f k l0 l1 = some (pairs, none)) (hz0 : Aside0 (∀ x ∈ l0, x.f3 = 0)) (hz1 : Aside0 (∀ x ∈ l1, x.f3 = 0)) (hl0 : l0.length ≤ 4096) (hl1 : l1.length ≤ 4096) (hlen : 4096 < l0.length + l1.length) :
  Calls Try.prog 13 #[.agg #[.slice A0 l0.length c0], .agg #[.slice A1 l1.length c1]] w fun e w' => ∃ v0_ v1_ : Value, e = .returned (.tuple #[.agg #[v0_], v1_]) ∧ Kd.S k38 38 w' w.heap.size (fun _ => True) v0_ [] ∧ EV v1_ (some (0, 2)) ∧ Below w.heap.size w w' := by
 have hu25 := Try.underlying25
 have HR0 := Aside0.mk hr0
 have HC0 := Aside0.mk hc0
 have HR1 := Aside0.mk hr1
 have HC1 := Aside0.mk hc1
 have HP := Aside0.mk hP
 clear hr0 hc0 hr1 hc1 hP
 have HB3 := Aside0.mk (below_alloc (below_alloc (below_alloc (Below.refl w.heap.size w) (.cells #[.slice A0 l0.length c0] 25)) (.cells #[.slice A1 l1.length c1] 25)) (.cells #[.slice none 0 0] 25))
 have B2 := Aside0.mk (blk_alloc (blk_alloc (blk_new w (.cells #[.slice A0 l0.length c0] 25)) (.cells #[.slice A1 l1.length c1] 25)) (.cells #[.slice none 0 0] 25))
 have B3 := Aside0.mk (blk_alloc (blk_new (w.alloc (.cells #[.slice A0 l0.length c0] 25)) (.cells #[.slice A1 l1.length c1] 25)) (.cells #[.slice none 0 0] 25))
 have B4 := Aside0.mk (blk_new ((w.alloc (.cells #[.slice A0 l0.length c0] 25)).alloc (.cells #[.slice A1 l1.length c1] 25)) (.cells #[.slice none 0 0] 25))
 simp only [World.size_alloc] at B3 B4
 go_enter Try.func13, Try.ntmps13
 have hd0 : decide ((4096 : Int) < (l0.length : Int) + (l1.length : Int)) = true := decide_eq_true (by omega)
 have hd1 : decide (4096 < l0.length + l1.length) = true := decide_eq_true (by omega)
 clear hlen
 go_upto_block 0 with (first | (go_at_call 16; refine (dual_Pairs.calls k A0 c0 l0 A1 c1 l1 pairs none _ (Kd.C_below HR0.out HB3.out) HC0.out (Kd.C_below HR1.out HB3.out) HC1.out HP.out).mono ?_; rintro e w1 ⟨v0, v1, rfl, hR, hE, hB⟩; obtain rfl := EV_none hE; have HPR := Aside0.mk hR; have HBw := Aside0.mk (below_step HB3.out hB); have B2w := Aside0.mk (blk_below B2.out hB); have B3w := Aside0.mk (blk_below B3.out hB); have B4w := Aside0.mk (blk_below B4.out hB); obtain ⟨Ap, cp, rfl⟩ := Kd.R_slice hR; clear hR hE hB B2 B3 B4 HB3; obtain ⟨d2, e2⟩ := blk_cellsM B2w.out; obtain ⟨d3, e3⟩ := blk_cellsM B3w.out; obtain ⟨d4, e4⟩ := blk_cellsM B4w.out))
 refine wp_block ?_
 have HBr := Aside0.mk (below_alloc HBw.out (.cells #[.slice A0 l0.length c0, .slice A1 l1.length c1] 25))
 clear d2 e2 d3 e3 d4 e4
 refine docs_ok A0 A1 c0 c1 l0 l1 (w.heap.size + 2) _ w _ hl0 hl1 ⟨fun W' hb => Kd.C_below HR0.out (below_step HBr.out hb)⟩ ⟨fun W' hb => Kd.C_below HR1.out (below_step HBr.out hb)⟩ ⟨blk_new w1 _⟩ HBr ⟨by omega⟩ ⟨blk_alloc B4w.out _⟩ hz0 hz1 _ _ _ _ _ _ _ _ _ _ _ _ _ _ _ _ _ _ _ _ _ _ _ _ _ _ _ _ _ _ _ _ _ _ _ _ _ _ _ _ _ _ _ _ _ _ _ _ _ _ _ _ _ _ _ _ _ _ _ _ _ _ _ _ _ _ _ _ _ _ _ _ _ _ _ _ _ _ _ _ _ _ _ _ _ _ _ _ _ _ _ _ _ _ _ _ _ _ _ _ _ _ _ _ _ _ _ _ _ _ _ _ _ _ _ _ _ _ _ _ _ _ _ _ _ _ _ _ _ _ _ _ _ _ _ _ _ _ _ _ _ _ _ _ _ _ _ _ ⟨fun x5 x9 x10 x11 x32 x33 x34 x35 x36 x37 x38 x39 x40 x41 x42 x43 x44 x45 x46 x47 x48 x49 x50 x51 x52 x53 w2 hB2 => ?_⟩
 have HB2 := Aside0.mk (below_step HBr.out hB2)
 have hb12 : Below w1.heap.size w1 w2 := (below_alloc (Below.refl w1.heap.size w1) _).trans (hB2.mono (by simp))
 have B2x := Aside0.mk (blk_below B2w.out hb12)
 have B3x := Aside0.mk (blk_below B3w.out hb12)
 have B4x := Aside0.mk (blk_below B4w.out hb12)
 have HPX := Aside0.mk (Kd.R_below (Kd.R_bound HPR.out) hb12)
 have hBx : w1.heap.size ≤ w2.heap.size := hb12.size
 have HBX := Aside0.mk hBx
 clear hBx
 clear hB2 hb12 B2w B3w B4w HPR HBr HBw
 obtain ⟨d2, e2⟩ := blk_cellsM B2x.out
 obtain ⟨d3, e3⟩ := blk_cellsM B3x.out
 unfold Exit.then
 (try dsimp only)
 have B4q : Aside0 (w2.heap[w.heap.size + 2]? = some (.cells #[.slice none 0 0] 25 (0, 0))) := ⟨B4x.out⟩
 obtain ⟨d4, e4⟩ := blk_cellsM B4q.out
 have hb4 := blk_lt B4q.out
 go_wp2
 (try unfold Exit.then)
 (try dsimp only)
 (try go_wp2)
 refine bodyPost_ret (results_ct rfl _ _ (w.heap.size + 2) 25 #[.slice none 0 0] (0, 0) _ rfl (blk_alloc (blk_put B4q.out 0 _ rfl) _) Try.underlying25 rfl (by kernel_rfl)) rfl ?_
 exact ⟨.slice none 0 0, _, rfl, Kd.S_nil _ _ _ _ _, EV_mk _ _, below_alloc (below_set HB2.out (by omega)) _⟩
namespace MG
def firstBad (l : List S38) : Option Nat := l.findIdx? (fun x => x.f3 != 0)
theorem firstBad_none {l : List S38} (h : firstBad l = none) : ∀ x ∈ l, x.f3 = 0 := fun x hx => by
 have := List.findIdx?_eq_none_iff.1 h x hx
 simpa using this
theorem firstBad_some {l : List S38} {b : Nat} (h : firstBad l = some b) : b < l.length ∧ (∀ j, j < b → (l.getD j z38).f3 = 0) ∧ (l.getD b z38).f3 ≠ 0 := by
 obtain ⟨hb, h1, h2⟩ := List.findIdx?_eq_some_iff_getElem.1 h
 refine ⟨hb, fun j hj => ?_, ?_⟩
 ·have := h2 j hj
  rw [List.getD_eq_getElem?_getD, List.getElem?_eq_getElem (by omega)]
  simpa using this
 ·rw [List.getD_eq_getElem?_getD, List.getElem?_eq_getElem hb]
  simpa using h1
def together (k : Nat) (l0 l1 : List S38) (pairs : List S47) : Option (List S38 × Option (Int × Int)) :=
 (cue_Twin.f k l0).bind fun low => (cue_Twin.f k l1).bind fun high => if pairs.length ≤ 4096 then (if low.length ≤ 4096 then (if high.length ≤ 4096 then ((setAll low pairs high).bind fun h2 => (cue_Sort.f k (low ++ h2.map (sided · 1))).bind fun r => some (r, none)) else none) else none) else none
def merged (k : Nat) (l0 l1 : List S38) (pairs : List S47) : Option (List S38 × Option (Int × Int)) :=
 match firstBad l0 with
 | some b => some ([], some ((b : Int), 34))
 | none => match firstBad l1 with
  | some b => some ([], some ((b : Int), 34))
  | none => if l0.length + l1.length ≤ 4096 then together k l0 l1 pairs else some ([], some (0, 2))
end MG
def dual_Merge.f (k : Nat) (l0 : List (S38)) (l1 : List (S38)) : Option ((List (S38)) × Option (Int × Int)) :=
 (dual_Pairs.f k l0 l1).bind fun t => if t.2.isNone = true then (if l0.length ≤ 4096 then (if l1.length ≤ 4096 then MG.merged k l0 l1 t.1 else none) else none) else some ([], t.2)
theorem dual_Merge.calls (k : Nat) (A0_0 : Option Addr) (c0_0 : Nat) (l0_0 : List (S38)) (A1_0 : Option Addr) (c1_0 : Nat) (l1_0 : List (S38)) (r1 : List (S38)) (r2 : Option (Int × Int)) (w : World) (hr0_0 : Kd.C k38 w A0_0 l0_0.length l0_0) (hc0_0 : l0_0.length ≤ c0_0) (hr1_0 : Kd.C k38 w A1_0 l1_0.length l1_0) (hc1_0 : l1_0.length ≤ c1_0) (h : dual_Merge.f k l0_0 l1_0 = some (r1, r2)) :
  Calls Try.prog 13 #[.agg #[.slice A0_0 l0_0.length c0_0], .agg #[.slice A1_0 l1_0.length c1_0]] w fun e w' => ∃ v0_ v1_ : Value, e = .returned (.tuple #[.agg #[v0_], v1_]) ∧ Kd.S k38 38 w' w.heap.size (fun _ => True) v0_ r1 ∧ EV v1_ r2 ∧ Below w.heap.size w w' := by
 unfold dual_Merge.f at h
 obtain ⟨⟨pairs, e⟩, hP, h⟩ := Option.bind_eq_some_iff.1 h
 dsimp only at h
 cases e with
 | some er =>
  rw [if_neg (by simp)] at h
  have h := Option.some.inj h
  simp only [Prod.mk.injEq] at h
  obtain ⟨rfl, rfl⟩ := h
  exact dual_Merge.err k A0_0 c0_0 l0_0 A1_0 c1_0 l1_0 w hr0_0 hc0_0 hr1_0 hc1_0 pairs er hP
 | none =>
  rw [if_pos (show (none : Option (Int × Int)).isNone = true from rfl)] at h
  by_cases hn : l0_0.length ≤ 4096
  case neg => rw [if_neg hn] at h; exact absurd h (by simp)
  rw [if_pos hn] at h
  by_cases hm : l1_0.length ≤ 4096
  case neg => rw [if_neg hm] at h; exact absurd h (by simp)
  rw [if_pos hm] at h
  unfold MG.merged at h
  cases hb0 : MG.firstBad l0_0 with
  | some b =>
   rw [hb0] at h
   have h := Option.some.inj h
   simp only [Prod.mk.injEq] at h
   obtain ⟨rfl, rfl⟩ := h
   obtain ⟨q1, q2, q3⟩ := MG.firstBad_some hb0
   exact dual_Merge.side_a k A0_0 c0_0 l0_0 A1_0 c1_0 l1_0 w hr0_0 hc0_0 hr1_0 hc1_0 pairs hP hn hm b q1 ⟨q2⟩ ⟨q3⟩
  | none =>
   rw [hb0] at h
   dsimp only at h
   have z0 := MG.firstBad_none hb0
   cases hb1 : MG.firstBad l1_0 with
   | some b =>
    rw [hb1] at h
    have h := Option.some.inj h
    simp only [Prod.mk.injEq] at h
    obtain ⟨rfl, rfl⟩ := h
    obtain ⟨q1, q2, q3⟩ := MG.firstBad_some hb1
    exact dual_Merge.side_b k A0_0 c0_0 l0_0 A1_0 c1_0 l1_0 w hr0_0 hc0_0 hr1_0 hc1_0 pairs hP hn hm ⟨z0⟩ b q1 ⟨q2⟩ ⟨q3⟩
   | none =>
    rw [hb1] at h
    dsimp only at h
    have z1 := MG.firstBad_none hb1
    by_cases hl : l0_0.length + l1_0.length ≤ 4096
    ·rw [if_pos hl] at h
     unfold MG.together at h
     obtain ⟨low, T0, h⟩ := Option.bind_eq_some_iff.1 h
     obtain ⟨high, T1, h⟩ := Option.bind_eq_some_iff.1 h
     by_cases b1 : pairs.length ≤ 4096
     case neg => rw [if_neg b1] at h; exact absurd h (by simp)
     rw [if_pos b1] at h
     by_cases b2 : low.length ≤ 4096
     case neg => rw [if_neg b2] at h; exact absurd h (by simp)
     rw [if_pos b2] at h
     by_cases b3 : high.length ≤ 4096
     case neg => rw [if_neg b3] at h; exact absurd h (by simp)
     rw [if_pos b3] at h
     obtain ⟨h2, hA, h⟩ := Option.bind_eq_some_iff.1 h
     obtain ⟨r, hS, h⟩ := Option.bind_eq_some_iff.1 h
     have h := Option.some.inj h
     simp only [Prod.mk.injEq] at h
     obtain ⟨rfl, rfl⟩ := h
     exact dual_Merge.ok k A0_0 c0_0 l0_0 A1_0 c1_0 l1_0 w hr0_0 hc0_0 hr1_0 hc1_0 pairs hP ⟨z0⟩ ⟨z1⟩ hl low high h2 r ⟨T0⟩ ⟨T1⟩ ⟨hA⟩ ⟨hS⟩ b1 b2 b3
    ·rw [if_neg hl] at h
     have h := Option.some.inj h
     simp only [Prod.mk.injEq] at h
     obtain ⟨rfl, rfl⟩ := h
     exact dual_Merge.many k A0_0 c0_0 l0_0 A1_0 c1_0 l1_0 w hr0_0 hc0_0 hr1_0 hc1_0 pairs hP ⟨z0⟩ ⟨z1⟩ hn hm (by omega)
end Go.Proofs.Ytlbicmdfdpcdiaa.PDa
