-- printed
import Derived.Test.YtlbicmdfdpcdiaaDnPDax0
import Derived.Test.YtlbicmdfdpcdiaaDnPDax5
import Derived.Test.YtlbicmdfdpcdiaaDnPDax18
import Derived.Test.YtlbicmdfdpcdiaaDnPDax20
namespace Go.Proofs.Ytlbicmdfdpcdiaa.PDa
open Go.RowKit Go.Proofs.YtlbicmdfdpcdiaaW.PrintWords Go.Proofs.YtlbicmdfdpcdiaaW.PrintLast Go.Proofs.YtlbicmdfdpcdiaaW.PrintMore
attribute [local go_sem] max2_int min2_int max_two min_two max_three min_three max_four min_four
set_option linter.unusedVariables false
set_option linter.unusedSimpArgs false
def cue_Twin.f (k : Nat) (l0_0 : List (S38)) : Option ((List (S38))) := (cue_twin.f k l0_0).bind fun t348 => (some t348)
set_option maxHeartbeats 8000000 in
set_option maxRecDepth 100000 in
theorem cue_Twin.calls (k : Nat) (A0_0 : Option Addr) (c0_0 : Nat) (l0_0 : List (S38)) (r : List (S38)) (w : World) (hr0_0 : Kd.C k38 w A0_0 l0_0.length l0_0) (hc0_0 : l0_0.length ≤ c0_0) (h : cue_Twin.f k l0_0 = some r) :
  Calls Try.prog 27 #[.agg #[.slice A0_0 l0_0.length c0_0]] w fun e w' => ∃ v0_ : Value, e = .returned (.agg #[v0_]) ∧ Kd.S k38 38 w' w.heap.size (fun _ => True) v0_ r ∧ Below w.heap.size w w' := by
 have hu25 := Try.underlying25
 have HR0_0 := Aside0.mk hr0_0
 have HC0_0 := Aside0.mk hc0_0
 clear hr0_0 hc0_0
 have HB := Aside0.mk (Below.refl w.heap.size w)
 have H : ((cue_twin.f k l0_0).bind fun t348 => (some t348)) = some r := h
 clear h
 replace H := Option.bind_eq_some_iff.mp H
 obtain ⟨t348, A20, H⟩ := H
 (try dsimp only at H)
 have A2 := Aside0.mk A20
 clear A20
 obtain rfl := Option.some.inj H
 go_enter Try.func27, Try.ntmps27
 go_wp2_with (first | ((with_reducible refine gate_dst (N := 1) rfl ?_); refine box_event (by rfl) (N := 1) (by rfl) (cs := #[.slice A0_0 l0_0.length c0_0]) (t := 25) (by first | (go_simp; done) | (go_simp; rfl)) ?_; intro gb346 hg w3 hbox hb; obtain ⟨hb_, hw_⟩ := box_facts (lA HB.out) hg hb; replace HB := Aside0.mk (hb_); have BK346 := Aside0.mk (hbox); have GW346 := Aside0.mk (hw_); have GE346 := Aside0.mk (hw_); clear hb hbox hg hb_ hw_) | ((with_reducible refine gate_dst (N := 2) rfl ?_); refine box_event (by rfl) (N := 2) (by rfl) (cs := #[.slice none 0 0]) (t := 25) (by first | (go_simp; done) | (go_simp; rfl)) ?_; intro gb347 hg w4 hbox hb; obtain ⟨hb_, hw_⟩ := box_facts (by repeat (first | (with_reducible first | exact HB.out | apply l1 | apply l2 | apply l3 | refine below_set ?_ GE346.out) | exact HB.out)) hg hb; replace HB := Aside0.mk (hb_); have BK347 := Aside0.mk (hbox); have GW347 := Aside0.mk (hw_); have GE347 := Aside0.mk (hw_); have NB346_347 := Aside0.mk ((nL hg BK346.out)); have NB347_346 := Aside0.mk ((nG hg BK346.out)); replace BK346 := Aside0.mk (bB BK346.out hb); clear hb hbox hg hb_ hw_; have hnb5 := NB346_347.out; have hnc5 := NB347_346.out; obtain ⟨hcz6_0, hfz6_0⟩ := blk_cells1 BK346.out) | ((with_reducible refine gate_callee (f := 41) rfl ?_); refine goesL_ (some 5) rfl rfl Try.func41 (by kernel_rfl) rfl #[.slice A0_0 l0_0.length c0_0] rfl (by (try simp only [List.map_toArray, List.map_cons, List.map_nil]); first | done | rfl | (simp only [List.length_drop, List.length_take]; rfl)) ?_; (with_reducible refine (cue_twin.calls k _ _ l0_0 t348 _ ?side1 ?side2 A2.out).mono ?_); (case side1 => repeat (first | exact (Kd.C_below HR0_0.out HB.out) | (with_reducible refine Kd.C_alloc ?_ _) | (with_reducible refine Kd.C_drewN ?_ _) | (with_reducible refine Kd.C_drew ?_))); (case side2 => exact HC0_0.out); rintro e w7 ⟨v349, rfl, ho0, hb⟩; refine ⟨_, rfl, ?_⟩; have HO350 := Aside0.mk (Kd.S_lower ho0 (below_size (by repeat (first | (with_reducible first | exact HB.out | apply l1 | apply l2 | apply l3 | refine below_set ?_ GE346.out | refine below_set ?_ GE347.out) | exact HB.out)))); replace BK346 := Aside0.mk (bB BK346.out hb); replace BK347 := Aside0.mk (bB BK347.out hb); replace HB := Aside0.mk (below_step (by repeat (first | (with_reducible first | exact HB.out | apply l1 | apply l2 | apply l3 | refine below_set ?_ GE346.out | refine below_set ?_ GE347.out) | exact HB.out)) hb); (try clear hb); (try clear hb2); (try clear hk); (try clear hi); (try clear ho0); obtain ⟨Ao8, co8, eo8⟩ := Kd.S_slice HO350.out; subst eo8; obtain ⟨hcz9_0, hfz9_0⟩ := blk_cells1 BK347.out))
 refine bodyPost_ret (results_cell_row rfl _ _ gb347 25 #[.slice Ao8 t348.length co8] (0, 0) _ rfl (by (with_reducible repeat (first | apply b1 | apply b2 | apply b3)); refine blk_put (cs := #[.slice none 0 0]) ?_ 0 _ rfl; (with_reducible repeat (first | apply b1 | apply b2 | apply b3)); exact BK347.out) Try.underlying25 rfl (by kernel_rfl)) rfl ?_
 exact ⟨_, by first | rfl | (simp [errW_none, errW_some] <;> rfl) | (simp [*, errW_none, errW_some] <;> rfl), by (with_reducible repeat (first | apply Kd.S_alloc | apply Kd.S_drewN | apply Kd.S_drew)); exact Kd.S_mono (Kd.S_far (p := ⟨gb347, 0, none⟩) (Kd.S_types HO350.out BK347.out (by decide)) (fun _ hk => hk.2) (.slice Ao8 t348.length co8)) (fun _ hk => trivial), by repeat (first | (with_reducible first | exact HB.out | apply l1 | apply l2 | apply l3 | refine below_set ?_ GE346.out | refine below_set ?_ GE347.out) | exact HB.out)⟩
noncomputable def blkM (n : Nat) : Code := ((Try.f13.body.bind (blockOf n)).getD .skip)
noncomputable def rgnM (n : Nat) : Code := ((Try.f13.body.bind (regOf n)).getD .skip)
def merge_test.f (l0 : List (S38)) (a1_0 : Int) (a1_1 : Int) (a2_0 : Int) (a2_1 : Int) (a2_2 : Int) (a2_3 : Int) (a2_4 : Int) (a2_5 : Int) (a2_6 : ByteArray) (a2_7 : ByteArray) (l2_8 : List (S79)) : Option (Bool) := if a1_1 > 0 then (if 0 ≤ (wrap64 (a1_1 - 1)) then (if (wrap64 (a1_1 - 1)) < (l0.length : Int) then ((cue_Compare.f ((rd_T38 l0 (wrap64 (a1_1 - 1))).f0.f0) ((rd_T38 l0 (wrap64 (a1_1 - 1))).f0.f1) ((rd_T38 l0 (wrap64 (a1_1 - 1))).f1.f0) ((rd_T38 l0 (wrap64 (a1_1 - 1))).f1.f1) ((rd_T38 l0 (wrap64 (a1_1 - 1))).f2) ((rd_T38 l0 (wrap64 (a1_1 - 1))).f3) ((rd_T38 l0 (wrap64 (a1_1 - 1))).f4) ((rd_T38 l0 (wrap64 (a1_1 - 1))).f5.f0) ((rd_T38 l0 (wrap64 (a1_1 - 1))).f5.f1) a2_0 a2_1 a2_2 a2_3 a2_4 a2_5 a2_6 a2_7 l2_8).bind fun t354 => (if t354 > 0 then (some true) else (if (wrap64 (a1_1 + 1)) < (l0.length : Int) then (if 0 ≤ (wrap64 (a1_1 + 1)) then ((cue_Compare.f a2_0 a2_1 a2_2 a2_3 a2_4 a2_5 a2_6 a2_7 l2_8 ((rd_T38 l0 (wrap64 (a1_1 + 1))).f0.f0) ((rd_T38 l0 (wrap64 (a1_1 + 1))).f0.f1) ((rd_T38 l0 (wrap64 (a1_1 + 1))).f1.f0) ((rd_T38 l0 (wrap64 (a1_1 + 1))).f1.f1) ((rd_T38 l0 (wrap64 (a1_1 + 1))).f2) ((rd_T38 l0 (wrap64 (a1_1 + 1))).f3) ((rd_T38 l0 (wrap64 (a1_1 + 1))).f4) ((rd_T38 l0 (wrap64 (a1_1 + 1))).f5.f0) ((rd_T38 l0 (wrap64 (a1_1 + 1))).f5.f1)).bind fun t356 => (some (decide (t356 > 0)))) else (none)) else (some false)))) else (none)) else (none)) else (if (wrap64 (a1_1 + 1)) < (l0.length : Int) then (if 0 ≤ (wrap64 (a1_1 + 1)) then ((cue_Compare.f a2_0 a2_1 a2_2 a2_3 a2_4 a2_5 a2_6 a2_7 l2_8 ((rd_T38 l0 (wrap64 (a1_1 + 1))).f0.f0) ((rd_T38 l0 (wrap64 (a1_1 + 1))).f0.f1) ((rd_T38 l0 (wrap64 (a1_1 + 1))).f1.f0) ((rd_T38 l0 (wrap64 (a1_1 + 1))).f1.f1) ((rd_T38 l0 (wrap64 (a1_1 + 1))).f2) ((rd_T38 l0 (wrap64 (a1_1 + 1))).f3) ((rd_T38 l0 (wrap64 (a1_1 + 1))).f4) ((rd_T38 l0 (wrap64 (a1_1 + 1))).f5.f0) ((rd_T38 l0 (wrap64 (a1_1 + 1))).f5.f1)).bind fun t358 => (some (decide (t358 > 0)))) else (none)) else (some false))
def merge_test.T22 : Bool × List (List Nat × List Nat) := (true, [([], []), ([0], [0]), ([1], [1]), ([2], [2]), ([3], [3]), ([3], [3]), ([5, 3], [3, 5]), ([6, 3], [3, 6]), ([4, 7, 3], [3, 4, 7]), ([8, 3], [3, 8]), ([3], [3]), ([9, 10, 3, 3], [3, 9, 10]), ([11, 3], [3, 11]), ([3, 12], [3, 12]), ([13, 11], [13]), ([14], [14]), ([15, 14], [14, 15]), ([16, 14], [14, 16]), ([14], [14]), ([18, 14], [14, 18]), ([17, 19, 14], [14, 17, 19]), ([20, 14, 14], [14, 20]), ([21], [21]), ([21], [21]), ([21], [21]), ([24, 21], [21, 24]), ([25, 21], [21, 25]), ([23, 26, 21], [21, 23, 26]), ([27, 21], [21, 27]), ([22, 28, 21, 21], [21, 22, 28]), ([29, 21], [21, 29]), ([21, 30, 14], [14, 21, 30]), ([14, 31], [14, 31])])
def merge_test.B22 : List Nat := [0, 1, 3, 7, 15, 15, 47, 111, 255, 511, 15, 2047, 4095, 8191, 16383, 32767, 65535, 131071, 32767, 294911, 1048575, 2097151, 4194303, 4194303, 4194303, 20971519, 54525951, 130023423, 264241151, 536870911, 1073741823, 2147483647, 4294967295]
theorem merge_test.tab22 : rtab .any (opsOf Try.f13 22) = merge_test.T22 := by kernel_rfl
theorem merge_test.bits22 : waitsOk merge_test.T22.2 merge_test.B22 = true := by kernel_rfl
set_option maxHeartbeats 8000000 in
set_option maxRecDepth 100000 in
theorem merge_test.region (A0 : Option Addr) (c0 : Nat) (l0 : List (S38)) (a1_0 : Int) (a1_1 : Int) (a2_0 : Int) (a2_1 : Int) (a2_2 : Int) (a2_3 : Int) (a2_4 : Int) (a2_5 : Int) (a2_6 : ByteArray) (a2_7 : ByteArray) (A2_8 : Option Addr) (c2_8 : Nat) (l2_8 : List (S79)) (r : Bool) (w : World) (hr0 : Kd.C k38 w A0 l0.length l0) (hc0 : l0.length ≤ c0) (hr2_8 : Kd.C k79 w A2_8 l2_8.length l2_8) (hc2_8 : l2_8.length ≤ c2_8) (gb351 gb352 : Nat) (h : merge_test.f l0 a1_0 a1_1 a2_0 a2_1 a2_2 a2_3 a2_4 a2_5 a2_6 a2_7 l2_8 = some r) (BK351 : Aside0 (w.heap[gb351]? = some (.cells #[.int .i64 a1_0, .int .i64 a1_1] 47 (0, 0)))) (BK352 : Aside0 (w.heap[gb352]? = some (.cells #[.int .i64 a2_0, .int .i64 a2_1, .int .i64 a2_2, .int .i64 a2_3, .int .i64 a2_4, .int .i64 a2_5, .string a2_6, .string a2_7, .slice A2_8 l2_8.length c2_8] 38 (0, 0))))
  (s0 s1 s2 s3 s4 s5 s6 s7 s8 s9 aA aB aC aD aE aF aG aH aI aJ aK aL aM aN aO aP aQ aR aS aT aU aV aW aX aY aZ bA bC bD bE bF bG bH bI bJ bK bL bM bN bO bP bQ bR bS bT bU bV bW bX bY bZ cA cB cC cD cE cF cG cH cI cJ cK cL cM cN cO cP cQ cR cS cT cU cV cW cX cY cZ dA dB dC dD dE dF dG dH dI dJ dK dL dM dN dO dP dQ dR dS dT dU dV dW dX dY dZ eA eB eC eD eE eF eG eH eI eJ eK eL eM eN eO eP eQ eR eS eT eU eV eW eX eY eZ fA fB fC fD fE fF fG fH fI : Value) (Q : Exit → Act → World → Prop)
  (HQ : Aside0 (∀ (fJ fK fL fM fN fO fP fQ fR fS fT fU fV fW fX fY fZ gA gB gC gD gE gF gG gH gI gJ gK gL gM gN gO : Value) (W' : World), Below w.heap.size w W' → Q .normal ⟨List.toArray (s0::s1::s2::s3::s4::s5::s6::s7::s8::s9::aA::aB::aC::.slice A0 l0.length c0::aD::.pointer (some ⟨gb351, 0, none⟩)::.pointer (some ⟨gb352, 0, none⟩)::aE::aF::aG::aH::aI::aJ::aK::aL::aM::aN::aO::aP::aQ::aR::aS::aT::aU::aV::aW::aX::aY::aZ::bA::bC::bD::bE::bF::bG::bH::bI::bJ::bK::bL::bM::bN::bO::bP::bQ::bR::bS::bT::bU::bV::bW::bX::bY::bZ::cA::cB::cC::cD::cE::cF::cG::cH::cI::cJ::cK::cL::cM::cN::cO::cP::cQ::cR::cS::cT::cU::cV::cW::cX::cY::cZ::dA::dB::dC::dD::dE::dF::dG::fJ::fK::fL::fM::fN::fO::fP::fQ::fR::fS::fT::fU::fV::fW::fX::fY::fZ::gA::gB::gC::gD::gE::gF::gG::gH::gI::gJ::gK::gL::gM::gN::gO::.bool r::eO::eP::eQ::eR::eS::eT::eU::eV::eW::eX::eY::eZ::fA::fB::fC::fD::fE::fF::fG::fH::fI::[]), []⟩ W')) :
  (rgnM 22).wp Try.prog Q ⟨List.toArray (s0::s1::s2::s3::s4::s5::s6::s7::s8::s9::aA::aB::aC::.slice A0 l0.length c0::aD::.pointer (some ⟨gb351, 0, none⟩)::.pointer (some ⟨gb352, 0, none⟩)::aE::aF::aG::aH::aI::aJ::aK::aL::aM::aN::aO::aP::aQ::aR::aS::aT::aU::aV::aW::aX::aY::aZ::bA::bC::bD::bE::bF::bG::bH::bI::bJ::bK::bL::bM::bN::bO::bP::bQ::bR::bS::bT::bU::bV::bW::bX::bY::bZ::cA::cB::cC::cD::cE::cF::cG::cH::cI::cJ::cK::cL::cM::cN::cO::cP::cQ::cR::cS::cT::cU::cV::cW::cX::cY::cZ::dA::dB::dC::dD::dE::dF::dG::dH::dI::dJ::dK::dL::dM::dN::dO::dP::dQ::dR::dS::dT::dU::dV::dW::dX::dY::dZ::eA::eB::eC::eD::eE::eF::eG::eH::eI::eJ::eK::eL::eM::eN::eO::eP::eQ::eR::eS::eT::eU::eV::eW::eX::eY::eZ::fA::fB::fC::fD::fE::fF::fG::fH::fI::[]), []⟩ w := by
 refine wp_norm fun K9 HK9 => ?_
 conv => arg 2; whnf
 have hu47 := Try.underlying47
 have hu38 := Try.underlying38
 have HR0 := Aside0.mk hr0
 have HC0 := Aside0.mk hc0
 clear hr0 hc0
 have HR2_8 := Aside0.mk hr2_8
 have HC2_8 := Aside0.mk hc2_8
 clear hr2_8 hc2_8
 have HB := Aside0.mk (Below.refl w.heap.size w)
 have H : (if a1_1 > 0 then (if 0 ≤ (wrap64 (a1_1 - 1)) then (if (wrap64 (a1_1 - 1)) < (l0.length : Int) then ((cue_Compare.f ((rd_T38 l0 (wrap64 (a1_1 - 1))).f0.f0) ((rd_T38 l0 (wrap64 (a1_1 - 1))).f0.f1) ((rd_T38 l0 (wrap64 (a1_1 - 1))).f1.f0) ((rd_T38 l0 (wrap64 (a1_1 - 1))).f1.f1) ((rd_T38 l0 (wrap64 (a1_1 - 1))).f2) ((rd_T38 l0 (wrap64 (a1_1 - 1))).f3) ((rd_T38 l0 (wrap64 (a1_1 - 1))).f4) ((rd_T38 l0 (wrap64 (a1_1 - 1))).f5.f0) ((rd_T38 l0 (wrap64 (a1_1 - 1))).f5.f1) a2_0 a2_1 a2_2 a2_3 a2_4 a2_5 a2_6 a2_7 l2_8).bind fun t354 => (if t354 > 0 then (some true) else (if (wrap64 (a1_1 + 1)) < (l0.length : Int) then (if 0 ≤ (wrap64 (a1_1 + 1)) then ((cue_Compare.f a2_0 a2_1 a2_2 a2_3 a2_4 a2_5 a2_6 a2_7 l2_8 ((rd_T38 l0 (wrap64 (a1_1 + 1))).f0.f0) ((rd_T38 l0 (wrap64 (a1_1 + 1))).f0.f1) ((rd_T38 l0 (wrap64 (a1_1 + 1))).f1.f0) ((rd_T38 l0 (wrap64 (a1_1 + 1))).f1.f1) ((rd_T38 l0 (wrap64 (a1_1 + 1))).f2) ((rd_T38 l0 (wrap64 (a1_1 + 1))).f3) ((rd_T38 l0 (wrap64 (a1_1 + 1))).f4) ((rd_T38 l0 (wrap64 (a1_1 + 1))).f5.f0) ((rd_T38 l0 (wrap64 (a1_1 + 1))).f5.f1)).bind fun t356 => (some (decide (t356 > 0)))) else (none)) else (some false)))) else (none)) else (none)) else (if (wrap64 (a1_1 + 1)) < (l0.length : Int) then (if 0 ≤ (wrap64 (a1_1 + 1)) then ((cue_Compare.f a2_0 a2_1 a2_2 a2_3 a2_4 a2_5 a2_6 a2_7 l2_8 ((rd_T38 l0 (wrap64 (a1_1 + 1))).f0.f0) ((rd_T38 l0 (wrap64 (a1_1 + 1))).f0.f1) ((rd_T38 l0 (wrap64 (a1_1 + 1))).f1.f0) ((rd_T38 l0 (wrap64 (a1_1 + 1))).f1.f1) ((rd_T38 l0 (wrap64 (a1_1 + 1))).f2) ((rd_T38 l0 (wrap64 (a1_1 + 1))).f3) ((rd_T38 l0 (wrap64 (a1_1 + 1))).f4) ((rd_T38 l0 (wrap64 (a1_1 + 1))).f5.f0) ((rd_T38 l0 (wrap64 (a1_1 + 1))).f5.f1)).bind fun t358 => (some (decide (t358 > 0)))) else (none)) else (some false))) = some r := h
 clear h
 by_cases c4 : a1_1 > 0
 ·rw [if_pos c4] at H
  have c4b0 : decide (0 < a1_1) = true := decide_eq_true c4
  clear c4
  obtain ⟨ji5, hji5⟩ : ∃ j_ : Int, (wrap64 (a1_1 - 1)) = j_ := ⟨_, rfl⟩
  replace H : (if 0 ≤ (ji5) then (if (ji5) < (l0.length : Int) then ((cue_Compare.f ((rd_T38 l0 (ji5)).f0.f0) ((rd_T38 l0 (ji5)).f0.f1) ((rd_T38 l0 (ji5)).f1.f0) ((rd_T38 l0 (ji5)).f1.f1) ((rd_T38 l0 (ji5)).f2) ((rd_T38 l0 (ji5)).f3) ((rd_T38 l0 (ji5)).f4) ((rd_T38 l0 (ji5)).f5.f0) ((rd_T38 l0 (ji5)).f5.f1) a2_0 a2_1 a2_2 a2_3 a2_4 a2_5 a2_6 a2_7 l2_8).bind fun t354 => (if t354 > 0 then (some true) else (if (wrap64 (a1_1 + 1)) < (l0.length : Int) then (if 0 ≤ (wrap64 (a1_1 + 1)) then ((cue_Compare.f a2_0 a2_1 a2_2 a2_3 a2_4 a2_5 a2_6 a2_7 l2_8 ((rd_T38 l0 (wrap64 (a1_1 + 1))).f0.f0) ((rd_T38 l0 (wrap64 (a1_1 + 1))).f0.f1) ((rd_T38 l0 (wrap64 (a1_1 + 1))).f1.f0) ((rd_T38 l0 (wrap64 (a1_1 + 1))).f1.f1) ((rd_T38 l0 (wrap64 (a1_1 + 1))).f2) ((rd_T38 l0 (wrap64 (a1_1 + 1))).f3) ((rd_T38 l0 (wrap64 (a1_1 + 1))).f4) ((rd_T38 l0 (wrap64 (a1_1 + 1))).f5.f0) ((rd_T38 l0 (wrap64 (a1_1 + 1))).f5.f1)).bind fun t356 => (some (decide (t356 > 0)))) else (none)) else (some false)))) else (none)) else (none)) = some r := by first | (rw [hji5] at H; exact H) | (simp only [hji5] at H ⊢; exact H)
  have hji5w : (IntKind.i64.wrap (a1_1 - 1)) = ji5 := (i64_w _).trans hji5
  by_cases c6 : 0 ≤ (ji5)
  ·rw [if_pos c6] at H
   have c6b0 : decide (0 ≤ (ji5)) = true := decide_eq_true c6
   clear c6
   by_cases c7 : (ji5) < (l0.length : Int)
   ·rw [if_pos c7] at H
    have c7b0 : decide ((ji5) < (l0.length : Int)) = true := decide_eq_true c7
    clear c7
    replace H := Option.bind_eq_some_iff.mp H
    obtain ⟨t354, A80, H⟩ := H
    (try dsimp only at H)
    have A8 := Aside0.mk A80
    clear A80
    by_cases c9 : t354 > 0
    ·rw [if_pos c9] at H
     have c9b0 : decide (0 < t354) = true := decide_eq_true c9
     clear c9
     obtain rfl := Option.some.inj H
     replace BK351 := Aside0.mk (blk_drew BK351.out)
     replace BK352 := Aside0.mk (blk_drew BK352.out)
     replace HB := Aside0.mk (below_drew1 HB.out)
     have p353 : 0 ≤ ((ji5) : Int) := of_decide_eq_true (by first | (with_reducible assumption) | assumption)
     have q353 : (ji5) < (l0.length : Int) := of_decide_eq_true (by first | (with_reducible assumption) | assumption)
     obtain ⟨ad353, A353_8, c353_8, e353, hx353_0, hx353_1, hx353_2, hx353_3, hx353_4, hx353_5, hx353_6, hx353_7, hx353_8, hl353_8, hi353_8⟩ := at_T38 HR0.out (ji5) p353 q353
     have hw353_8 := hx353_8
     have hw353_7 := hx353_7
     have hw353_6 := hx353_6
     have hw353_5 := hx353_5
     have hw353_4 := hx353_4
     have hw353_3 := hx353_3
     have hw353_2 := hx353_2
     have hw353_1 := hx353_1
     have hw353_0 := hx353_0
     cases e353
     replace hx353_0 := (HB.out.cell (World.block_lt_of_cell? w _ hx353_0)).trans hx353_0
     replace hx353_1 := (HB.out.cell (World.block_lt_of_cell? w _ hx353_1)).trans hx353_1
     replace hx353_2 := (HB.out.cell (World.block_lt_of_cell? w _ hx353_2)).trans hx353_2
     replace hx353_3 := (HB.out.cell (World.block_lt_of_cell? w _ hx353_3)).trans hx353_3
     replace hx353_4 := (HB.out.cell (World.block_lt_of_cell? w _ hx353_4)).trans hx353_4
     replace hx353_5 := (HB.out.cell (World.block_lt_of_cell? w _ hx353_5)).trans hx353_5
     replace hx353_6 := (HB.out.cell (World.block_lt_of_cell? w _ hx353_6)).trans hx353_6
     replace hx353_7 := (HB.out.cell (World.block_lt_of_cell? w _ hx353_7)).trans hx353_7
     replace hx353_8 := (HB.out.cell (World.block_lt_of_cell? w _ hx353_8)).trans hx353_8
     have HR353_8 := Aside0.mk hi353_8
     have HC353_8 := Aside0.mk hl353_8
     clear hi353_8 hl353_8
     replace p353 := eq_true p353
     replace q353 := eq_true q353
     refine start_ (n := 33) (S := fun w' => w'.cell? ⟨gb351, 0, none⟩ = some (.int .i64 a1_0) ∧ w'.cell? ⟨gb351, 1, none⟩ = some (.int .i64 a1_1) ∧ w'.cell? ⟨gb352, 0, none⟩ = some (.int .i64 a2_0) ∧ w'.cell? ⟨gb352, 1, none⟩ = some (.int .i64 a2_1) ∧ w'.cell? ⟨gb352, 2, none⟩ = some (.int .i64 a2_2) ∧ w'.cell? ⟨gb352, 3, none⟩ = some (.int .i64 a2_3) ∧ w'.cell? ⟨gb352, 4, none⟩ = some (.int .i64 a2_4) ∧ w'.cell? ⟨gb352, 5, none⟩ = some (.int .i64 a2_5) ∧ w'.cell? ⟨gb352, 6, none⟩ = some (.string a2_6) ∧ w'.cell? ⟨gb352, 7, none⟩ = some (.string a2_7) ∧ w'.cell? ⟨gb352, 8, none⟩ = some (.slice A2_8 l2_8.length c2_8) ∧ w'.cell? (ad353.add (((ji5)).toNat * 9)) = some (.int .i64 ((rd_T38 l0 (ji5)).f0.f0)) ∧ w'.cell? ⟨(ad353.add (((ji5)).toNat * 9)).block, (ad353.add (((ji5)).toNat * 9)).off + 1, none⟩ = some (.int .i64 ((rd_T38 l0 (ji5)).f0.f1)) ∧ w'.cell? ⟨(ad353.add (((ji5)).toNat * 9)).block, (ad353.add (((ji5)).toNat * 9)).off + 2, none⟩ = some (.int .i64 ((rd_T38 l0 (ji5)).f1.f0)) ∧ w'.cell? ⟨(ad353.add (((ji5)).toNat * 9)).block, (ad353.add (((ji5)).toNat * 9)).off + 3, none⟩ = some (.int .i64 ((rd_T38 l0 (ji5)).f1.f1)) ∧ w'.cell? ⟨(ad353.add (((ji5)).toNat * 9)).block, (ad353.add (((ji5)).toNat * 9)).off + 4, none⟩ = some (.int .i64 ((rd_T38 l0 (ji5)).f2)) ∧ w'.cell? ⟨(ad353.add (((ji5)).toNat * 9)).block, (ad353.add (((ji5)).toNat * 9)).off + 5, none⟩ = some (.int .i64 ((rd_T38 l0 (ji5)).f3)) ∧ w'.cell? ⟨(ad353.add (((ji5)).toNat * 9)).block, (ad353.add (((ji5)).toNat * 9)).off + 6, none⟩ = some (.string ((rd_T38 l0 (ji5)).f4)) ∧ w'.cell? ⟨(ad353.add (((ji5)).toNat * 9)).block, (ad353.add (((ji5)).toNat * 9)).off + 7, none⟩ = some (.string ((rd_T38 l0 (ji5)).f5.f0)) ∧ w'.cell? ⟨(ad353.add (((ji5)).toNat * 9)).block, (ad353.add (((ji5)).toNat * 9)).off + 8, none⟩ = some (.slice A353_8 ((rd_T38 l0 (ji5)).f5.f1).length c353_8)) (ds := []) #[false, false, false, false, false, false, false, false, false, false, false, false, false, false, false, false, false, false, false, false, false, false, false, false, false, false, false, false, false, false, false, false, false] (by kernel_rfl) rfl rfl ⟨(blk_cell BK351.out 0).trans rfl, (blk_cell BK351.out 1).trans rfl, (blk_cell BK352.out 0).trans rfl, (blk_cell BK352.out 1).trans rfl, (blk_cell BK352.out 2).trans rfl, (blk_cell BK352.out 3).trans rfl, (blk_cell BK352.out 4).trans rfl, (blk_cell BK352.out 5).trans rfl, (blk_cell BK352.out 6).trans rfl, (blk_cell BK352.out 7).trans rfl, (blk_cell BK352.out 8).trans rfl, ((HB.out.cell (World.block_lt_of_cell? w _ hw353_0)).trans hw353_0), ((HB.out.cell (World.block_lt_of_cell? w _ hw353_1)).trans hw353_1), ((HB.out.cell (World.block_lt_of_cell? w _ hw353_2)).trans hw353_2), ((HB.out.cell (World.block_lt_of_cell? w _ hw353_3)).trans hw353_3), ((HB.out.cell (World.block_lt_of_cell? w _ hw353_4)).trans hw353_4), ((HB.out.cell (World.block_lt_of_cell? w _ hw353_5)).trans hw353_5), ((HB.out.cell (World.block_lt_of_cell? w _ hw353_6)).trans hw353_6), ((HB.out.cell (World.block_lt_of_cell? w _ hw353_7)).trans hw353_7), ((HB.out.cell (World.block_lt_of_cell? w _ hw353_8)).trans hw353_8)⟩ (fun hHeld => ?_); refine with_tabW merge_test.tab22 merge_test.bits22 (fun HT_ HW_ => ?_)
     generalize w.drew = w12 at BK351 BK352 HB HR353_8 hx353_0 hx353_1 hx353_2 hx353_3 hx353_4 hx353_5 hx353_6 hx353_7 hx353_8 hHeld ⊢
     refine sched [(0, some 97), (1, some 98), (2, some 99), (3, some 100), (4, some 101), (5, some 102), (6, some 103), (7, some 104), (8, some 105), (9, some 106), (10, some 107)] ?_
     iterate 11 first
      |(refine pureS (v := ?_) (a' := ?_) rfl rfl (any_of HT_.out (by kernel_rfl)) (fun _ _ _ h => h) (Or.inl ⟨by rfl, ?_⟩) ?_ ?_
        rotate_left
        ·intro w'
         go_simp
         with_reducible rfl
        rotate_left
        ·simp only [Act.put, List.setIfInBounds_toArray, List.set_cons_zero, List.set_cons_succ, i64_w, i32_w]
         rfl)
      |(refine takeS (v := ?_) (a' := ?_) rfl rfl (take_ofW HT_.out HW_.out (by kernel_rfl)) (fun _ _ _ h => h) (Or.inl ⟨by rfl, ?_⟩) hHeld ?_ ?_
        rotate_left
        ·rintro w' ⟨s0, s1, s2, s3, s4, s5, s6, s7, s8, s9, aA, aB, aC, gP, aD, gQ, gR, aE, aF, aG⟩
         go_simp
         with_reducible rfl
        rotate_left
        ·simp only [Act.put, List.setIfInBounds_toArray, List.set_cons_zero, List.set_cons_succ, i64_w, i32_w]
         rfl)
     refine unsched ?_
     refine one_ (i := 11) (N := some 108) #[true, true, true, true, true, true, true, true, true, true, true, true, false, false, false, false, false, false, false, false, false, false, false, false, false, false, false, false, false, false, false, false, false] rfl rfl (one_of HT_.out (by kernel_rfl)) (by decide) (fun K hK => ?_)
     refine goes_ Try.func15 (by kernel_rfl) rfl #[.agg #[.int .i64 ((rd_T38 l0 (ji5)).f0.f0), .int .i64 ((rd_T38 l0 (ji5)).f0.f1), .int .i64 ((rd_T38 l0 (ji5)).f1.f0), .int .i64 ((rd_T38 l0 (ji5)).f1.f1), .int .i64 ((rd_T38 l0 (ji5)).f2), .int .i64 ((rd_T38 l0 (ji5)).f3), .string ((rd_T38 l0 (ji5)).f4), .string ((rd_T38 l0 (ji5)).f5.f0), .slice A353_8 ((rd_T38 l0 (ji5)).f5.f1).length c353_8], .agg #[.int .i64 a2_0, .int .i64 a2_1, .int .i64 a2_2, .int .i64 a2_3, .int .i64 a2_4, .int .i64 a2_5, .string a2_6, .string a2_7, .slice A2_8 l2_8.length c2_8]] (by rfl) rfl rfl (by (try simp only [List.map_toArray, List.map_cons, List.map_nil]); first | done | (simp only [hji5]; rfl) | rfl | (simp only [List.length_drop, List.length_take]; rfl)) ?_
     with_reducible refine (cue_Compare.calls ((rd_T38 l0 (ji5)).f0.f0) ((rd_T38 l0 (ji5)).f0.f1) ((rd_T38 l0 (ji5)).f1.f0) ((rd_T38 l0 (ji5)).f1.f1) ((rd_T38 l0 (ji5)).f2) ((rd_T38 l0 (ji5)).f3) ((rd_T38 l0 (ji5)).f4) ((rd_T38 l0 (ji5)).f5.f0) _ _ ((rd_T38 l0 (ji5)).f5.f1) a2_0 a2_1 a2_2 a2_3 a2_4 a2_5 a2_6 a2_7 _ _ l2_8 t354 _ ?side1 ?side2 ?side3 ?side4 A8.out).mono ?_
     (case side1 => repeat (first | exact (Kd.C_below HR353_8.out HB.out) | (with_reducible refine Kd.C_alloc ?_ _) | (with_reducible refine Kd.C_drewN ?_ _) | (with_reducible refine Kd.C_drew ?_)))
     (case side2 => exact HC353_8.out)
     (case side3 => repeat (first | exact (Kd.C_below HR2_8.out HB.out) | (with_reducible refine Kd.C_alloc ?_ _) | (with_reducible refine Kd.C_drewN ?_ _) | (with_reducible refine Kd.C_drew ?_)))
     (case side4 => exact HC2_8.out)
     rintro e w13 ⟨rfl, hb⟩
     refine ⟨_, rfl, ?_⟩
     replace BK351 := Aside0.mk (bB BK351.out hb)
     replace BK352 := Aside0.mk (bB BK352.out hb)
     replace HB := Aside0.mk (below_step (by repeat (first | (with_reducible first | exact HB.out | apply l1 | apply l2 | apply l3 | refine below_set ?_ GE351.out | refine below_set ?_ GE352.out) | exact HB.out)) hb)
     (try clear hb)
     (try clear hb2)
     (try clear hk)
     (try clear hi)
     refine hK.out _ _ ⟨(blk_cell BK351.out 0).trans rfl, (blk_cell BK351.out 1).trans rfl, (blk_cell BK352.out 0).trans rfl, (blk_cell BK352.out 1).trans rfl, (blk_cell BK352.out 2).trans rfl, (blk_cell BK352.out 3).trans rfl, (blk_cell BK352.out 4).trans rfl, (blk_cell BK352.out 5).trans rfl, (blk_cell BK352.out 6).trans rfl, (blk_cell BK352.out 7).trans rfl, (blk_cell BK352.out 8).trans rfl, ((HB.out.cell (World.block_lt_of_cell? w _ hw353_0)).trans hw353_0), ((HB.out.cell (World.block_lt_of_cell? w _ hw353_1)).trans hw353_1), ((HB.out.cell (World.block_lt_of_cell? w _ hw353_2)).trans hw353_2), ((HB.out.cell (World.block_lt_of_cell? w _ hw353_3)).trans hw353_3), ((HB.out.cell (World.block_lt_of_cell? w _ hw353_4)).trans hw353_4), ((HB.out.cell (World.block_lt_of_cell? w _ hw353_5)).trans hw353_5), ((HB.out.cell (World.block_lt_of_cell? w _ hw353_6)).trans hw353_6), ((HB.out.cell (World.block_lt_of_cell? w _ hw353_7)).trans hw353_7), ((HB.out.cell (World.block_lt_of_cell? w _ hw353_8)).trans hw353_8)⟩ (fun hHeld => ?_)
     clear hK K
     refine norm_ (a' := ?_) ?_ ?_
     rotate_left
     ·show Act.put _ (some 108) _ = _
      simp only [Act.put, List.setIfInBounds_toArray, List.set_cons_zero, List.set_cons_succ, i64_w, i32_w]
      rfl
     refine sched [(12, some 109), (13, some 110), (14, some 111), (15, some 112), (16, some 113), (17, some 114), (18, some 115), (19, some 116), (20, some 117), (21, some 118), (22, some 119), (23, some 120), (24, some 121), (25, some 122), (26, some 123), (27, some 124), (28, some 125), (29, some 126), (30, some 127), (31, some 128), (32, some 129)] ?_
     iterate 3
      refine pureS (v := ?_) (a' := ?_) rfl rfl (any_of HT_.out (by kernel_rfl)) (fun _ _ _ h => h) (Or.inl ⟨by rfl, ?_⟩) ?_ ?_
      rotate_left
      ·intro w'
       go_simp
       with_reducible rfl
      rotate_left
      ·simp only [Act.put, List.setIfInBounds_toArray, List.set_cons_zero, List.set_cons_succ, i64_w, i32_w]
       rfl
     iterate 17
      refine pureS (v := undef) (a' := ?_) rfl rfl (any_of HT_.out (by kernel_rfl)) (fun _ _ _ h => h) (Or.inr ⟨by rfl, rfl⟩) ?_ ?_
      rotate_left
      ·simp only [Act.put, List.setIfInBounds_toArray, List.set_cons_zero, List.set_cons_succ, i64_w, i32_w]
       rfl
     refine pureS (v := ?_) (a' := ?_) rfl rfl (any_of HT_.out (by kernel_rfl)) (fun _ _ _ h => h) (Or.inl ⟨by rfl, ?_⟩) ?_ ?_
     rotate_left
     ·intro w'
      go_simp
      with_reducible rfl
     rotate_left
     ·simp only [Act.put, List.setIfInBounds_toArray, List.set_cons_zero, List.set_cons_succ, i64_w, i32_w]
      rfl
     refine unsched ?_
     refine done_ (done_of HT_.out (by kernel_rfl)) ?_
     (try unfold Exit.then)
     (try dsimp only)
     exact HK9.out _ _ (HQ.out _ _ _ _ _ _ _ _ _ _ _ _ _ _ _ _ _ _ _ _ _ _ _ _ _ _ _ _ _ _ _ _ _ (by repeat (first | (with_reducible first | exact HB.out | apply l1 | apply l2 | apply l3 | refine below_set ?_ GE351.out | refine below_set ?_ GE352.out) | exact HB.out)))
    ·rw [if_neg c9] at H
     have c9b0 : decide (0 < t354) = false := decide_eq_false c9
     clear c9
     by_cases c14 : (wrap64 (a1_1 + 1)) < (l0.length : Int)
     ·rw [if_pos c14] at H
      have c14b0 : decide ((wrap64 (a1_1 + 1)) < (l0.length : Int)) = true := decide_eq_true c14
      clear c14
      obtain ⟨ji15, hji15⟩ : ∃ j_ : Int, (wrap64 (a1_1 + 1)) = j_ := ⟨_, rfl⟩
      replace H : (if 0 ≤ (ji15) then ((cue_Compare.f a2_0 a2_1 a2_2 a2_3 a2_4 a2_5 a2_6 a2_7 l2_8 ((rd_T38 l0 (ji15)).f0.f0) ((rd_T38 l0 (ji15)).f0.f1) ((rd_T38 l0 (ji15)).f1.f0) ((rd_T38 l0 (ji15)).f1.f1) ((rd_T38 l0 (ji15)).f2) ((rd_T38 l0 (ji15)).f3) ((rd_T38 l0 (ji15)).f4) ((rd_T38 l0 (ji15)).f5.f0) ((rd_T38 l0 (ji15)).f5.f1)).bind fun t356 => (some (decide (t356 > 0)))) else (none)) = some r := by first | (rw [hji15] at H; exact H) | (simp only [hji15] at H ⊢; exact H)
      (try rw [hji15] at c14b0)
      (try rw [hji15] at A8)
      have hji15w : (IntKind.i64.wrap (a1_1 + 1)) = ji15 := (i64_w _).trans hji15
      by_cases c16 : 0 ≤ (ji15)
      ·rw [if_pos c16] at H
       have c16b0 : decide (0 ≤ (ji15)) = true := decide_eq_true c16
       clear c16
       replace H := Option.bind_eq_some_iff.mp H
       obtain ⟨t356, A170, H⟩ := H
       (try dsimp only at H)
       have A17 := Aside0.mk A170
       clear A170
       obtain rfl := Option.some.inj H
       replace BK351 := Aside0.mk (blk_drew BK351.out)
       replace BK352 := Aside0.mk (blk_drew BK352.out)
       replace HB := Aside0.mk (below_drew1 HB.out)
       have p353 : 0 ≤ ((ji5) : Int) := of_decide_eq_true (by first | (with_reducible assumption) | assumption)
       have q353 : (ji5) < (l0.length : Int) := of_decide_eq_true (by first | (with_reducible assumption) | assumption)
       obtain ⟨ad353, A353_8, c353_8, e353, hx353_0, hx353_1, hx353_2, hx353_3, hx353_4, hx353_5, hx353_6, hx353_7, hx353_8, hl353_8, hi353_8⟩ := at_T38 HR0.out (ji5) p353 q353
       have hw353_8 := hx353_8
       have hw353_7 := hx353_7
       have hw353_6 := hx353_6
       have hw353_5 := hx353_5
       have hw353_4 := hx353_4
       have hw353_3 := hx353_3
       have hw353_2 := hx353_2
       have hw353_1 := hx353_1
       have hw353_0 := hx353_0
       cases e353
       replace hx353_0 := (HB.out.cell (World.block_lt_of_cell? w _ hx353_0)).trans hx353_0
       replace hx353_1 := (HB.out.cell (World.block_lt_of_cell? w _ hx353_1)).trans hx353_1
       replace hx353_2 := (HB.out.cell (World.block_lt_of_cell? w _ hx353_2)).trans hx353_2
       replace hx353_3 := (HB.out.cell (World.block_lt_of_cell? w _ hx353_3)).trans hx353_3
       replace hx353_4 := (HB.out.cell (World.block_lt_of_cell? w _ hx353_4)).trans hx353_4
       replace hx353_5 := (HB.out.cell (World.block_lt_of_cell? w _ hx353_5)).trans hx353_5
       replace hx353_6 := (HB.out.cell (World.block_lt_of_cell? w _ hx353_6)).trans hx353_6
       replace hx353_7 := (HB.out.cell (World.block_lt_of_cell? w _ hx353_7)).trans hx353_7
       replace hx353_8 := (HB.out.cell (World.block_lt_of_cell? w _ hx353_8)).trans hx353_8
       have HR353_8 := Aside0.mk hi353_8
       have HC353_8 := Aside0.mk hl353_8
       clear hi353_8 hl353_8
       replace p353 := eq_true p353
       replace q353 := eq_true q353
       have p355 : 0 ≤ ((ji15) : Int) := of_decide_eq_true (by first | (with_reducible assumption) | assumption)
       have q355 : (ji15) < (l0.length : Int) := of_decide_eq_true (by first | (with_reducible assumption) | assumption)
       obtain ⟨ad355, A355_8, c355_8, e355, hx355_0, hx355_1, hx355_2, hx355_3, hx355_4, hx355_5, hx355_6, hx355_7, hx355_8, hl355_8, hi355_8⟩ := at_T38 HR0.out (ji15) p355 q355
       have hw355_8 := hx355_8
       have hw355_7 := hx355_7
       have hw355_6 := hx355_6
       have hw355_5 := hx355_5
       have hw355_4 := hx355_4
       have hw355_3 := hx355_3
       have hw355_2 := hx355_2
       have hw355_1 := hx355_1
       have hw355_0 := hx355_0
       obtain rfl : ad353 = ad355 := (by injection e355)
       replace hx355_0 := (HB.out.cell (World.block_lt_of_cell? w _ hx355_0)).trans hx355_0
       replace hx355_1 := (HB.out.cell (World.block_lt_of_cell? w _ hx355_1)).trans hx355_1
       replace hx355_2 := (HB.out.cell (World.block_lt_of_cell? w _ hx355_2)).trans hx355_2
       replace hx355_3 := (HB.out.cell (World.block_lt_of_cell? w _ hx355_3)).trans hx355_3
       replace hx355_4 := (HB.out.cell (World.block_lt_of_cell? w _ hx355_4)).trans hx355_4
       replace hx355_5 := (HB.out.cell (World.block_lt_of_cell? w _ hx355_5)).trans hx355_5
       replace hx355_6 := (HB.out.cell (World.block_lt_of_cell? w _ hx355_6)).trans hx355_6
       replace hx355_7 := (HB.out.cell (World.block_lt_of_cell? w _ hx355_7)).trans hx355_7
       replace hx355_8 := (HB.out.cell (World.block_lt_of_cell? w _ hx355_8)).trans hx355_8
       have HR355_8 := Aside0.mk hi355_8
       have HC355_8 := Aside0.mk hl355_8
       clear hi355_8 hl355_8
       replace p355 := eq_true p355
       replace q355 := eq_true q355
       refine start_ (n := 33) (S := fun w' => w'.cell? ⟨gb351, 0, none⟩ = some (.int .i64 a1_0) ∧ w'.cell? ⟨gb351, 1, none⟩ = some (.int .i64 a1_1) ∧ w'.cell? ⟨gb352, 0, none⟩ = some (.int .i64 a2_0) ∧ w'.cell? ⟨gb352, 1, none⟩ = some (.int .i64 a2_1) ∧ w'.cell? ⟨gb352, 2, none⟩ = some (.int .i64 a2_2) ∧ w'.cell? ⟨gb352, 3, none⟩ = some (.int .i64 a2_3) ∧ w'.cell? ⟨gb352, 4, none⟩ = some (.int .i64 a2_4) ∧ w'.cell? ⟨gb352, 5, none⟩ = some (.int .i64 a2_5) ∧ w'.cell? ⟨gb352, 6, none⟩ = some (.string a2_6) ∧ w'.cell? ⟨gb352, 7, none⟩ = some (.string a2_7) ∧ w'.cell? ⟨gb352, 8, none⟩ = some (.slice A2_8 l2_8.length c2_8) ∧ w'.cell? (ad353.add (((ji5)).toNat * 9)) = some (.int .i64 ((rd_T38 l0 (ji5)).f0.f0)) ∧ w'.cell? ⟨(ad353.add (((ji5)).toNat * 9)).block, (ad353.add (((ji5)).toNat * 9)).off + 1, none⟩ = some (.int .i64 ((rd_T38 l0 (ji5)).f0.f1)) ∧ w'.cell? ⟨(ad353.add (((ji5)).toNat * 9)).block, (ad353.add (((ji5)).toNat * 9)).off + 2, none⟩ = some (.int .i64 ((rd_T38 l0 (ji5)).f1.f0)) ∧ w'.cell? ⟨(ad353.add (((ji5)).toNat * 9)).block, (ad353.add (((ji5)).toNat * 9)).off + 3, none⟩ = some (.int .i64 ((rd_T38 l0 (ji5)).f1.f1)) ∧ w'.cell? ⟨(ad353.add (((ji5)).toNat * 9)).block, (ad353.add (((ji5)).toNat * 9)).off + 4, none⟩ = some (.int .i64 ((rd_T38 l0 (ji5)).f2)) ∧ w'.cell? ⟨(ad353.add (((ji5)).toNat * 9)).block, (ad353.add (((ji5)).toNat * 9)).off + 5, none⟩ = some (.int .i64 ((rd_T38 l0 (ji5)).f3)) ∧ w'.cell? ⟨(ad353.add (((ji5)).toNat * 9)).block, (ad353.add (((ji5)).toNat * 9)).off + 6, none⟩ = some (.string ((rd_T38 l0 (ji5)).f4)) ∧ w'.cell? ⟨(ad353.add (((ji5)).toNat * 9)).block, (ad353.add (((ji5)).toNat * 9)).off + 7, none⟩ = some (.string ((rd_T38 l0 (ji5)).f5.f0)) ∧ w'.cell? ⟨(ad353.add (((ji5)).toNat * 9)).block, (ad353.add (((ji5)).toNat * 9)).off + 8, none⟩ = some (.slice A353_8 ((rd_T38 l0 (ji5)).f5.f1).length c353_8) ∧ w'.cell? (ad353.add (((ji15)).toNat * 9)) = some (.int .i64 ((rd_T38 l0 (ji15)).f0.f0)) ∧ w'.cell? ⟨(ad353.add (((ji15)).toNat * 9)).block, (ad353.add (((ji15)).toNat * 9)).off + 1, none⟩ = some (.int .i64 ((rd_T38 l0 (ji15)).f0.f1)) ∧ w'.cell? ⟨(ad353.add (((ji15)).toNat * 9)).block, (ad353.add (((ji15)).toNat * 9)).off + 2, none⟩ = some (.int .i64 ((rd_T38 l0 (ji15)).f1.f0)) ∧ w'.cell? ⟨(ad353.add (((ji15)).toNat * 9)).block, (ad353.add (((ji15)).toNat * 9)).off + 3, none⟩ = some (.int .i64 ((rd_T38 l0 (ji15)).f1.f1)) ∧ w'.cell? ⟨(ad353.add (((ji15)).toNat * 9)).block, (ad353.add (((ji15)).toNat * 9)).off + 4, none⟩ = some (.int .i64 ((rd_T38 l0 (ji15)).f2)) ∧ w'.cell? ⟨(ad353.add (((ji15)).toNat * 9)).block, (ad353.add (((ji15)).toNat * 9)).off + 5, none⟩ = some (.int .i64 ((rd_T38 l0 (ji15)).f3)) ∧ w'.cell? ⟨(ad353.add (((ji15)).toNat * 9)).block, (ad353.add (((ji15)).toNat * 9)).off + 6, none⟩ = some (.string ((rd_T38 l0 (ji15)).f4)) ∧ w'.cell? ⟨(ad353.add (((ji15)).toNat * 9)).block, (ad353.add (((ji15)).toNat * 9)).off + 7, none⟩ = some (.string ((rd_T38 l0 (ji15)).f5.f0)) ∧ w'.cell? ⟨(ad353.add (((ji15)).toNat * 9)).block, (ad353.add (((ji15)).toNat * 9)).off + 8, none⟩ = some (.slice A355_8 ((rd_T38 l0 (ji15)).f5.f1).length c355_8)) (ds := []) #[false, false, false, false, false, false, false, false, false, false, false, false, false, false, false, false, false, false, false, false, false, false, false, false, false, false, false, false, false, false, false, false, false] (by kernel_rfl) rfl rfl ⟨(blk_cell BK351.out 0).trans rfl, (blk_cell BK351.out 1).trans rfl, (blk_cell BK352.out 0).trans rfl, (blk_cell BK352.out 1).trans rfl, (blk_cell BK352.out 2).trans rfl, (blk_cell BK352.out 3).trans rfl, (blk_cell BK352.out 4).trans rfl, (blk_cell BK352.out 5).trans rfl, (blk_cell BK352.out 6).trans rfl, (blk_cell BK352.out 7).trans rfl, (blk_cell BK352.out 8).trans rfl, ((HB.out.cell (World.block_lt_of_cell? w _ hw353_0)).trans hw353_0), ((HB.out.cell (World.block_lt_of_cell? w _ hw353_1)).trans hw353_1), ((HB.out.cell (World.block_lt_of_cell? w _ hw353_2)).trans hw353_2), ((HB.out.cell (World.block_lt_of_cell? w _ hw353_3)).trans hw353_3), ((HB.out.cell (World.block_lt_of_cell? w _ hw353_4)).trans hw353_4), ((HB.out.cell (World.block_lt_of_cell? w _ hw353_5)).trans hw353_5), ((HB.out.cell (World.block_lt_of_cell? w _ hw353_6)).trans hw353_6), ((HB.out.cell (World.block_lt_of_cell? w _ hw353_7)).trans hw353_7), ((HB.out.cell (World.block_lt_of_cell? w _ hw353_8)).trans hw353_8), ((HB.out.cell (World.block_lt_of_cell? w _ hw355_0)).trans hw355_0), ((HB.out.cell (World.block_lt_of_cell? w _ hw355_1)).trans hw355_1), ((HB.out.cell (World.block_lt_of_cell? w _ hw355_2)).trans hw355_2), ((HB.out.cell (World.block_lt_of_cell? w _ hw355_3)).trans hw355_3), ((HB.out.cell (World.block_lt_of_cell? w _ hw355_4)).trans hw355_4), ((HB.out.cell (World.block_lt_of_cell? w _ hw355_5)).trans hw355_5), ((HB.out.cell (World.block_lt_of_cell? w _ hw355_6)).trans hw355_6), ((HB.out.cell (World.block_lt_of_cell? w _ hw355_7)).trans hw355_7), ((HB.out.cell (World.block_lt_of_cell? w _ hw355_8)).trans hw355_8)⟩ (fun hHeld => ?_); refine with_tabW merge_test.tab22 merge_test.bits22 (fun HT_ HW_ => ?_)
       generalize w.drew = w20 at BK351 BK352 HB HR353_8 HR355_8 hx353_0 hx353_1 hx353_2 hx353_3 hx353_4 hx353_5 hx353_6 hx353_7 hx353_8 hx355_0 hx355_1 hx355_2 hx355_3 hx355_4 hx355_5 hx355_6 hx355_7 hx355_8 hHeld ⊢
       refine sched [(0, some 97), (1, some 98), (2, some 99), (3, some 100), (4, some 101), (5, some 102), (6, some 103), (7, some 104), (8, some 105), (9, some 106), (10, some 107)] ?_
       iterate 11 first
        |(refine pureS (v := ?_) (a' := ?_) rfl rfl (any_of HT_.out (by kernel_rfl)) (fun _ _ _ h => h) (Or.inl ⟨by rfl, ?_⟩) ?_ ?_
          rotate_left
          ·intro w'
           go_simp
           with_reducible rfl
          rotate_left
          ·simp only [Act.put, List.setIfInBounds_toArray, List.set_cons_zero, List.set_cons_succ, i64_w, i32_w]
           rfl)
        |(refine takeS (v := ?_) (a' := ?_) rfl rfl (take_ofW HT_.out HW_.out (by kernel_rfl)) (fun _ _ _ h => h) (Or.inl ⟨by rfl, ?_⟩) hHeld ?_ ?_
          rotate_left
          ·rintro w' ⟨s0, s1, s2, s3, s4, s5, s6, s7, s8, s9, aA, aB, aC, gP, aD, gQ, gR, aE, aF, aG, aH, aI, aJ, aK, aL, aM, aN, aO, aP⟩
           go_simp
           with_reducible rfl
          rotate_left
          ·simp only [Act.put, List.setIfInBounds_toArray, List.set_cons_zero, List.set_cons_succ, i64_w, i32_w]
           rfl)
       refine unsched ?_
       refine one_ (i := 11) (N := some 108) #[true, true, true, true, true, true, true, true, true, true, true, true, false, false, false, false, false, false, false, false, false, false, false, false, false, false, false, false, false, false, false, false, false] rfl rfl (one_of HT_.out (by kernel_rfl)) (by decide) (fun K hK => ?_)
       refine goes_ Try.func15 (by kernel_rfl) rfl #[.agg #[.int .i64 ((rd_T38 l0 (ji5)).f0.f0), .int .i64 ((rd_T38 l0 (ji5)).f0.f1), .int .i64 ((rd_T38 l0 (ji5)).f1.f0), .int .i64 ((rd_T38 l0 (ji5)).f1.f1), .int .i64 ((rd_T38 l0 (ji5)).f2), .int .i64 ((rd_T38 l0 (ji5)).f3), .string ((rd_T38 l0 (ji5)).f4), .string ((rd_T38 l0 (ji5)).f5.f0), .slice A353_8 ((rd_T38 l0 (ji5)).f5.f1).length c353_8], .agg #[.int .i64 a2_0, .int .i64 a2_1, .int .i64 a2_2, .int .i64 a2_3, .int .i64 a2_4, .int .i64 a2_5, .string a2_6, .string a2_7, .slice A2_8 l2_8.length c2_8]] (by rfl) rfl rfl (by (try simp only [List.map_toArray, List.map_cons, List.map_nil]); first | done | (simp only [hji5]; rfl) | rfl | (simp only [List.length_drop, List.length_take]; rfl)) ?_
       with_reducible refine (cue_Compare.calls ((rd_T38 l0 (ji5)).f0.f0) ((rd_T38 l0 (ji5)).f0.f1) ((rd_T38 l0 (ji5)).f1.f0) ((rd_T38 l0 (ji5)).f1.f1) ((rd_T38 l0 (ji5)).f2) ((rd_T38 l0 (ji5)).f3) ((rd_T38 l0 (ji5)).f4) ((rd_T38 l0 (ji5)).f5.f0) _ _ ((rd_T38 l0 (ji5)).f5.f1) a2_0 a2_1 a2_2 a2_3 a2_4 a2_5 a2_6 a2_7 _ _ l2_8 t354 _ ?side1 ?side2 ?side3 ?side4 A8.out).mono ?_
       (case side1 => repeat (first | exact (Kd.C_below HR353_8.out HB.out) | (with_reducible refine Kd.C_alloc ?_ _) | (with_reducible refine Kd.C_drewN ?_ _) | (with_reducible refine Kd.C_drew ?_)))
       (case side2 => exact HC353_8.out)
       (case side3 => repeat (first | exact (Kd.C_below HR2_8.out HB.out) | (with_reducible refine Kd.C_alloc ?_ _) | (with_reducible refine Kd.C_drewN ?_ _) | (with_reducible refine Kd.C_drew ?_)))
       (case side4 => exact HC2_8.out)
       rintro e w21 ⟨rfl, hb⟩
       refine ⟨_, rfl, ?_⟩
       replace BK351 := Aside0.mk (bB BK351.out hb)
       replace BK352 := Aside0.mk (bB BK352.out hb)
       replace HB := Aside0.mk (below_step (by repeat (first | (with_reducible first | exact HB.out | apply l1 | apply l2 | apply l3 | refine below_set ?_ GE351.out | refine below_set ?_ GE352.out) | exact HB.out)) hb)
       (try clear hb)
       (try clear hb2)
       (try clear hk)
       (try clear hi)
       refine hK.out _ _ ⟨(blk_cell BK351.out 0).trans rfl, (blk_cell BK351.out 1).trans rfl, (blk_cell BK352.out 0).trans rfl, (blk_cell BK352.out 1).trans rfl, (blk_cell BK352.out 2).trans rfl, (blk_cell BK352.out 3).trans rfl, (blk_cell BK352.out 4).trans rfl, (blk_cell BK352.out 5).trans rfl, (blk_cell BK352.out 6).trans rfl, (blk_cell BK352.out 7).trans rfl, (blk_cell BK352.out 8).trans rfl, ((HB.out.cell (World.block_lt_of_cell? w _ hw353_0)).trans hw353_0), ((HB.out.cell (World.block_lt_of_cell? w _ hw353_1)).trans hw353_1), ((HB.out.cell (World.block_lt_of_cell? w _ hw353_2)).trans hw353_2), ((HB.out.cell (World.block_lt_of_cell? w _ hw353_3)).trans hw353_3), ((HB.out.cell (World.block_lt_of_cell? w _ hw353_4)).trans hw353_4), ((HB.out.cell (World.block_lt_of_cell? w _ hw353_5)).trans hw353_5), ((HB.out.cell (World.block_lt_of_cell? w _ hw353_6)).trans hw353_6), ((HB.out.cell (World.block_lt_of_cell? w _ hw353_7)).trans hw353_7), ((HB.out.cell (World.block_lt_of_cell? w _ hw353_8)).trans hw353_8), ((HB.out.cell (World.block_lt_of_cell? w _ hw355_0)).trans hw355_0), ((HB.out.cell (World.block_lt_of_cell? w _ hw355_1)).trans hw355_1), ((HB.out.cell (World.block_lt_of_cell? w _ hw355_2)).trans hw355_2), ((HB.out.cell (World.block_lt_of_cell? w _ hw355_3)).trans hw355_3), ((HB.out.cell (World.block_lt_of_cell? w _ hw355_4)).trans hw355_4), ((HB.out.cell (World.block_lt_of_cell? w _ hw355_5)).trans hw355_5), ((HB.out.cell (World.block_lt_of_cell? w _ hw355_6)).trans hw355_6), ((HB.out.cell (World.block_lt_of_cell? w _ hw355_7)).trans hw355_7), ((HB.out.cell (World.block_lt_of_cell? w _ hw355_8)).trans hw355_8)⟩ (fun hHeld => ?_)
       clear hK K
       refine norm_ (a' := ?_) ?_ ?_
       rotate_left
       ·show Act.put _ (some 108) _ = _
        simp only [Act.put, List.setIfInBounds_toArray, List.set_cons_zero, List.set_cons_succ, i64_w, i32_w]
        rfl
       refine sched [(12, some 109), (13, some 110), (14, some 111), (15, some 112), (18, some 115), (19, some 116), (16, some 113), (17, some 114), (20, some 117), (21, some 118), (23, some 120), (24, some 121), (22, some 119), (25, some 122), (26, some 123), (27, some 124), (28, some 125)] ?_
       iterate 17 first
        |(refine pureS (v := ?_) (a' := ?_) rfl rfl (any_of HT_.out (by kernel_rfl)) (fun _ _ _ h => h) (Or.inl ⟨by rfl, ?_⟩) ?_ ?_
          rotate_left
          ·intro w'
           go_simp
           with_reducible rfl
          rotate_left
          ·simp only [Act.put, List.setIfInBounds_toArray, List.set_cons_zero, List.set_cons_succ, i64_w, i32_w]
           rfl)
        |(refine takeS (v := ?_) (a' := ?_) rfl rfl (take_ofW HT_.out HW_.out (by kernel_rfl)) (fun _ _ _ h => h) (Or.inl ⟨by rfl, ?_⟩) hHeld ?_ ?_
          rotate_left
          ·rintro w' ⟨s0, s1, s2, s3, s4, s5, s6, s7, s8, s9, aA, aB, aC, gP, aD, gQ, gR, aE, aF, aG, aH, aI, aJ, aK, aL, aM, aN, aO, aP⟩
           go_simp
           with_reducible rfl
          rotate_left
          ·simp only [Act.put, List.setIfInBounds_toArray, List.set_cons_zero, List.set_cons_succ, i64_w, i32_w]
           rfl)
       refine unsched ?_
       refine one_ (i := 29) (N := some 126) #[true, true, true, true, true, true, true, true, true, true, true, true, true, true, true, true, true, true, true, true, true, true, true, true, true, true, true, true, true, true, false, false, false] rfl rfl (one_of HT_.out (by kernel_rfl)) (by decide) (fun K hK => ?_)
       refine goes_ Try.func15 (by kernel_rfl) rfl #[.agg #[.int .i64 a2_0, .int .i64 a2_1, .int .i64 a2_2, .int .i64 a2_3, .int .i64 a2_4, .int .i64 a2_5, .string a2_6, .string a2_7, .slice A2_8 l2_8.length c2_8], .agg #[.int .i64 ((rd_T38 l0 (ji15)).f0.f0), .int .i64 ((rd_T38 l0 (ji15)).f0.f1), .int .i64 ((rd_T38 l0 (ji15)).f1.f0), .int .i64 ((rd_T38 l0 (ji15)).f1.f1), .int .i64 ((rd_T38 l0 (ji15)).f2), .int .i64 ((rd_T38 l0 (ji15)).f3), .string ((rd_T38 l0 (ji15)).f4), .string ((rd_T38 l0 (ji15)).f5.f0), .slice A355_8 ((rd_T38 l0 (ji15)).f5.f1).length c355_8]] (by rfl) rfl rfl (by (try simp only [List.map_toArray, List.map_cons, List.map_nil]); first | done | (simp only [hji15]; rfl) | rfl | (simp only [List.length_drop, List.length_take]; rfl)) ?_
       with_reducible refine (cue_Compare.calls a2_0 a2_1 a2_2 a2_3 a2_4 a2_5 a2_6 a2_7 _ _ l2_8 ((rd_T38 l0 (ji15)).f0.f0) ((rd_T38 l0 (ji15)).f0.f1) ((rd_T38 l0 (ji15)).f1.f0) ((rd_T38 l0 (ji15)).f1.f1) ((rd_T38 l0 (ji15)).f2) ((rd_T38 l0 (ji15)).f3) ((rd_T38 l0 (ji15)).f4) ((rd_T38 l0 (ji15)).f5.f0) _ _ ((rd_T38 l0 (ji15)).f5.f1) t356 _ ?side1 ?side2 ?side3 ?side4 A17.out).mono ?_
       (case side1 => repeat (first | exact (Kd.C_below HR2_8.out HB.out) | (with_reducible refine Kd.C_alloc ?_ _) | (with_reducible refine Kd.C_drewN ?_ _) | (with_reducible refine Kd.C_drew ?_)))
       (case side2 => exact HC2_8.out)
       (case side3 => repeat (first | exact (Kd.C_below HR355_8.out HB.out) | (with_reducible refine Kd.C_alloc ?_ _) | (with_reducible refine Kd.C_drewN ?_ _) | (with_reducible refine Kd.C_drew ?_)))
       (case side4 => exact HC355_8.out)
       rintro e w22 ⟨rfl, hb⟩
       refine ⟨_, rfl, ?_⟩
       replace BK351 := Aside0.mk (bB BK351.out hb)
       replace BK352 := Aside0.mk (bB BK352.out hb)
       replace HB := Aside0.mk (below_step (by repeat (first | (with_reducible first | exact HB.out | apply l1 | apply l2 | apply l3 | refine below_set ?_ GE351.out | refine below_set ?_ GE352.out) | exact HB.out)) hb)
       (try clear hb)
       (try clear hb2)
       (try clear hk)
       (try clear hi)
       refine hK.out _ _ ⟨(blk_cell BK351.out 0).trans rfl, (blk_cell BK351.out 1).trans rfl, (blk_cell BK352.out 0).trans rfl, (blk_cell BK352.out 1).trans rfl, (blk_cell BK352.out 2).trans rfl, (blk_cell BK352.out 3).trans rfl, (blk_cell BK352.out 4).trans rfl, (blk_cell BK352.out 5).trans rfl, (blk_cell BK352.out 6).trans rfl, (blk_cell BK352.out 7).trans rfl, (blk_cell BK352.out 8).trans rfl, ((HB.out.cell (World.block_lt_of_cell? w _ hw353_0)).trans hw353_0), ((HB.out.cell (World.block_lt_of_cell? w _ hw353_1)).trans hw353_1), ((HB.out.cell (World.block_lt_of_cell? w _ hw353_2)).trans hw353_2), ((HB.out.cell (World.block_lt_of_cell? w _ hw353_3)).trans hw353_3), ((HB.out.cell (World.block_lt_of_cell? w _ hw353_4)).trans hw353_4), ((HB.out.cell (World.block_lt_of_cell? w _ hw353_5)).trans hw353_5), ((HB.out.cell (World.block_lt_of_cell? w _ hw353_6)).trans hw353_6), ((HB.out.cell (World.block_lt_of_cell? w _ hw353_7)).trans hw353_7), ((HB.out.cell (World.block_lt_of_cell? w _ hw353_8)).trans hw353_8), ((HB.out.cell (World.block_lt_of_cell? w _ hw355_0)).trans hw355_0), ((HB.out.cell (World.block_lt_of_cell? w _ hw355_1)).trans hw355_1), ((HB.out.cell (World.block_lt_of_cell? w _ hw355_2)).trans hw355_2), ((HB.out.cell (World.block_lt_of_cell? w _ hw355_3)).trans hw355_3), ((HB.out.cell (World.block_lt_of_cell? w _ hw355_4)).trans hw355_4), ((HB.out.cell (World.block_lt_of_cell? w _ hw355_5)).trans hw355_5), ((HB.out.cell (World.block_lt_of_cell? w _ hw355_6)).trans hw355_6), ((HB.out.cell (World.block_lt_of_cell? w _ hw355_7)).trans hw355_7), ((HB.out.cell (World.block_lt_of_cell? w _ hw355_8)).trans hw355_8)⟩ (fun hHeld => ?_)
       clear hK K
       refine norm_ (a' := ?_) ?_ ?_
       rotate_left
       ·show Act.put _ (some 126) _ = _
        simp only [Act.put, List.setIfInBounds_toArray, List.set_cons_zero, List.set_cons_succ, i64_w, i32_w]
        rfl
       refine sched [(30, some 127), (31, some 128), (32, some 129)] ?_
       iterate 3
        refine pureS (v := ?_) (a' := ?_) rfl rfl (any_of HT_.out (by kernel_rfl)) (fun _ _ _ h => h) (Or.inl ⟨by rfl, ?_⟩) ?_ ?_
        rotate_left
        ·intro w'
         go_simp
         with_reducible rfl
        rotate_left
        ·simp only [Act.put, List.setIfInBounds_toArray, List.set_cons_zero, List.set_cons_succ, i64_w, i32_w]
         rfl
       refine unsched ?_
       refine done_ (done_of HT_.out (by kernel_rfl)) ?_
       (try unfold Exit.then)
       (try dsimp only)
       exact HK9.out _ _ (HQ.out _ _ _ _ _ _ _ _ _ _ _ _ _ _ _ _ _ _ _ _ _ _ _ _ _ _ _ _ _ _ _ _ _ (by repeat (first | (with_reducible first | exact HB.out | apply l1 | apply l2 | apply l3 | refine below_set ?_ GE351.out | refine below_set ?_ GE352.out) | exact HB.out)))
      ·rw [if_neg c16] at H
       exact absurd H (by simp)
     ·rw [if_neg c14] at H
      have c14b0 : decide ((wrap64 (a1_1 + 1)) < (l0.length : Int)) = false := decide_eq_false c14
      clear c14
      obtain rfl := Option.some.inj H
      replace BK351 := Aside0.mk (blk_drew BK351.out)
      replace BK352 := Aside0.mk (blk_drew BK352.out)
      replace HB := Aside0.mk (below_drew1 HB.out)
      have p353 : 0 ≤ ((ji5) : Int) := of_decide_eq_true (by first | (with_reducible assumption) | assumption)
      have q353 : (ji5) < (l0.length : Int) := of_decide_eq_true (by first | (with_reducible assumption) | assumption)
      obtain ⟨ad353, A353_8, c353_8, e353, hx353_0, hx353_1, hx353_2, hx353_3, hx353_4, hx353_5, hx353_6, hx353_7, hx353_8, hl353_8, hi353_8⟩ := at_T38 HR0.out (ji5) p353 q353
      have hw353_8 := hx353_8
      have hw353_7 := hx353_7
      have hw353_6 := hx353_6
      have hw353_5 := hx353_5
      have hw353_4 := hx353_4
      have hw353_3 := hx353_3
      have hw353_2 := hx353_2
      have hw353_1 := hx353_1
      have hw353_0 := hx353_0
      cases e353
      replace hx353_0 := (HB.out.cell (World.block_lt_of_cell? w _ hx353_0)).trans hx353_0
      replace hx353_1 := (HB.out.cell (World.block_lt_of_cell? w _ hx353_1)).trans hx353_1
      replace hx353_2 := (HB.out.cell (World.block_lt_of_cell? w _ hx353_2)).trans hx353_2
      replace hx353_3 := (HB.out.cell (World.block_lt_of_cell? w _ hx353_3)).trans hx353_3
      replace hx353_4 := (HB.out.cell (World.block_lt_of_cell? w _ hx353_4)).trans hx353_4
      replace hx353_5 := (HB.out.cell (World.block_lt_of_cell? w _ hx353_5)).trans hx353_5
      replace hx353_6 := (HB.out.cell (World.block_lt_of_cell? w _ hx353_6)).trans hx353_6
      replace hx353_7 := (HB.out.cell (World.block_lt_of_cell? w _ hx353_7)).trans hx353_7
      replace hx353_8 := (HB.out.cell (World.block_lt_of_cell? w _ hx353_8)).trans hx353_8
      have HR353_8 := Aside0.mk hi353_8
      have HC353_8 := Aside0.mk hl353_8
      clear hi353_8 hl353_8
      replace p353 := eq_true p353
      replace q353 := eq_true q353
      refine start_ (n := 33) (S := fun w' => w'.cell? ⟨gb351, 0, none⟩ = some (.int .i64 a1_0) ∧ w'.cell? ⟨gb351, 1, none⟩ = some (.int .i64 a1_1) ∧ w'.cell? ⟨gb352, 0, none⟩ = some (.int .i64 a2_0) ∧ w'.cell? ⟨gb352, 1, none⟩ = some (.int .i64 a2_1) ∧ w'.cell? ⟨gb352, 2, none⟩ = some (.int .i64 a2_2) ∧ w'.cell? ⟨gb352, 3, none⟩ = some (.int .i64 a2_3) ∧ w'.cell? ⟨gb352, 4, none⟩ = some (.int .i64 a2_4) ∧ w'.cell? ⟨gb352, 5, none⟩ = some (.int .i64 a2_5) ∧ w'.cell? ⟨gb352, 6, none⟩ = some (.string a2_6) ∧ w'.cell? ⟨gb352, 7, none⟩ = some (.string a2_7) ∧ w'.cell? ⟨gb352, 8, none⟩ = some (.slice A2_8 l2_8.length c2_8) ∧ w'.cell? (ad353.add (((ji5)).toNat * 9)) = some (.int .i64 ((rd_T38 l0 (ji5)).f0.f0)) ∧ w'.cell? ⟨(ad353.add (((ji5)).toNat * 9)).block, (ad353.add (((ji5)).toNat * 9)).off + 1, none⟩ = some (.int .i64 ((rd_T38 l0 (ji5)).f0.f1)) ∧ w'.cell? ⟨(ad353.add (((ji5)).toNat * 9)).block, (ad353.add (((ji5)).toNat * 9)).off + 2, none⟩ = some (.int .i64 ((rd_T38 l0 (ji5)).f1.f0)) ∧ w'.cell? ⟨(ad353.add (((ji5)).toNat * 9)).block, (ad353.add (((ji5)).toNat * 9)).off + 3, none⟩ = some (.int .i64 ((rd_T38 l0 (ji5)).f1.f1)) ∧ w'.cell? ⟨(ad353.add (((ji5)).toNat * 9)).block, (ad353.add (((ji5)).toNat * 9)).off + 4, none⟩ = some (.int .i64 ((rd_T38 l0 (ji5)).f2)) ∧ w'.cell? ⟨(ad353.add (((ji5)).toNat * 9)).block, (ad353.add (((ji5)).toNat * 9)).off + 5, none⟩ = some (.int .i64 ((rd_T38 l0 (ji5)).f3)) ∧ w'.cell? ⟨(ad353.add (((ji5)).toNat * 9)).block, (ad353.add (((ji5)).toNat * 9)).off + 6, none⟩ = some (.string ((rd_T38 l0 (ji5)).f4)) ∧ w'.cell? ⟨(ad353.add (((ji5)).toNat * 9)).block, (ad353.add (((ji5)).toNat * 9)).off + 7, none⟩ = some (.string ((rd_T38 l0 (ji5)).f5.f0)) ∧ w'.cell? ⟨(ad353.add (((ji5)).toNat * 9)).block, (ad353.add (((ji5)).toNat * 9)).off + 8, none⟩ = some (.slice A353_8 ((rd_T38 l0 (ji5)).f5.f1).length c353_8)) (ds := []) #[false, false, false, false, false, false, false, false, false, false, false, false, false, false, false, false, false, false, false, false, false, false, false, false, false, false, false, false, false, false, false, false, false] (by kernel_rfl) rfl rfl ⟨(blk_cell BK351.out 0).trans rfl, (blk_cell BK351.out 1).trans rfl, (blk_cell BK352.out 0).trans rfl, (blk_cell BK352.out 1).trans rfl, (blk_cell BK352.out 2).trans rfl, (blk_cell BK352.out 3).trans rfl, (blk_cell BK352.out 4).trans rfl, (blk_cell BK352.out 5).trans rfl, (blk_cell BK352.out 6).trans rfl, (blk_cell BK352.out 7).trans rfl, (blk_cell BK352.out 8).trans rfl, ((HB.out.cell (World.block_lt_of_cell? w _ hw353_0)).trans hw353_0), ((HB.out.cell (World.block_lt_of_cell? w _ hw353_1)).trans hw353_1), ((HB.out.cell (World.block_lt_of_cell? w _ hw353_2)).trans hw353_2), ((HB.out.cell (World.block_lt_of_cell? w _ hw353_3)).trans hw353_3), ((HB.out.cell (World.block_lt_of_cell? w _ hw353_4)).trans hw353_4), ((HB.out.cell (World.block_lt_of_cell? w _ hw353_5)).trans hw353_5), ((HB.out.cell (World.block_lt_of_cell? w _ hw353_6)).trans hw353_6), ((HB.out.cell (World.block_lt_of_cell? w _ hw353_7)).trans hw353_7), ((HB.out.cell (World.block_lt_of_cell? w _ hw353_8)).trans hw353_8)⟩ (fun hHeld => ?_); refine with_tabW merge_test.tab22 merge_test.bits22 (fun HT_ HW_ => ?_)
      generalize w.drew = w25 at BK351 BK352 HB HR353_8 hx353_0 hx353_1 hx353_2 hx353_3 hx353_4 hx353_5 hx353_6 hx353_7 hx353_8 hHeld ⊢
      refine sched [(0, some 97), (1, some 98), (2, some 99), (3, some 100), (4, some 101), (5, some 102), (6, some 103), (7, some 104), (8, some 105), (9, some 106), (10, some 107)] ?_
      iterate 11 first
       |(refine pureS (v := ?_) (a' := ?_) rfl rfl (any_of HT_.out (by kernel_rfl)) (fun _ _ _ h => h) (Or.inl ⟨by rfl, ?_⟩) ?_ ?_
         rotate_left
         ·intro w'
          go_simp
          with_reducible rfl
         rotate_left
         ·simp only [Act.put, List.setIfInBounds_toArray, List.set_cons_zero, List.set_cons_succ, i64_w, i32_w]
          rfl)
       |(refine takeS (v := ?_) (a' := ?_) rfl rfl (take_ofW HT_.out HW_.out (by kernel_rfl)) (fun _ _ _ h => h) (Or.inl ⟨by rfl, ?_⟩) hHeld ?_ ?_
         rotate_left
         ·rintro w' ⟨s0, s1, s2, s3, s4, s5, s6, s7, s8, s9, aA, aB, aC, gP, aD, gQ, gR, aE, aF, aG⟩
          go_simp
          with_reducible rfl
         rotate_left
         ·simp only [Act.put, List.setIfInBounds_toArray, List.set_cons_zero, List.set_cons_succ, i64_w, i32_w]
          rfl)
      refine unsched ?_
      refine one_ (i := 11) (N := some 108) #[true, true, true, true, true, true, true, true, true, true, true, true, false, false, false, false, false, false, false, false, false, false, false, false, false, false, false, false, false, false, false, false, false] rfl rfl (one_of HT_.out (by kernel_rfl)) (by decide) (fun K hK => ?_)
      refine goes_ Try.func15 (by kernel_rfl) rfl #[.agg #[.int .i64 ((rd_T38 l0 (ji5)).f0.f0), .int .i64 ((rd_T38 l0 (ji5)).f0.f1), .int .i64 ((rd_T38 l0 (ji5)).f1.f0), .int .i64 ((rd_T38 l0 (ji5)).f1.f1), .int .i64 ((rd_T38 l0 (ji5)).f2), .int .i64 ((rd_T38 l0 (ji5)).f3), .string ((rd_T38 l0 (ji5)).f4), .string ((rd_T38 l0 (ji5)).f5.f0), .slice A353_8 ((rd_T38 l0 (ji5)).f5.f1).length c353_8], .agg #[.int .i64 a2_0, .int .i64 a2_1, .int .i64 a2_2, .int .i64 a2_3, .int .i64 a2_4, .int .i64 a2_5, .string a2_6, .string a2_7, .slice A2_8 l2_8.length c2_8]] (by rfl) rfl rfl (by (try simp only [List.map_toArray, List.map_cons, List.map_nil]); first | done | (simp only [hji5]; rfl) | rfl | (simp only [List.length_drop, List.length_take]; rfl)) ?_
      with_reducible refine (cue_Compare.calls ((rd_T38 l0 (ji5)).f0.f0) ((rd_T38 l0 (ji5)).f0.f1) ((rd_T38 l0 (ji5)).f1.f0) ((rd_T38 l0 (ji5)).f1.f1) ((rd_T38 l0 (ji5)).f2) ((rd_T38 l0 (ji5)).f3) ((rd_T38 l0 (ji5)).f4) ((rd_T38 l0 (ji5)).f5.f0) _ _ ((rd_T38 l0 (ji5)).f5.f1) a2_0 a2_1 a2_2 a2_3 a2_4 a2_5 a2_6 a2_7 _ _ l2_8 t354 _ ?side1 ?side2 ?side3 ?side4 A8.out).mono ?_
      (case side1 => repeat (first | exact (Kd.C_below HR353_8.out HB.out) | (with_reducible refine Kd.C_alloc ?_ _) | (with_reducible refine Kd.C_drewN ?_ _) | (with_reducible refine Kd.C_drew ?_)))
      (case side2 => exact HC353_8.out)
      (case side3 => repeat (first | exact (Kd.C_below HR2_8.out HB.out) | (with_reducible refine Kd.C_alloc ?_ _) | (with_reducible refine Kd.C_drewN ?_ _) | (with_reducible refine Kd.C_drew ?_)))
      (case side4 => exact HC2_8.out)
      rintro e w26 ⟨rfl, hb⟩
      refine ⟨_, rfl, ?_⟩
      replace BK351 := Aside0.mk (bB BK351.out hb)
      replace BK352 := Aside0.mk (bB BK352.out hb)
      replace HB := Aside0.mk (below_step (by repeat (first | (with_reducible first | exact HB.out | apply l1 | apply l2 | apply l3 | refine below_set ?_ GE351.out | refine below_set ?_ GE352.out) | exact HB.out)) hb)
      (try clear hb)
      (try clear hb2)
      (try clear hk)
      (try clear hi)
      refine hK.out _ _ ⟨(blk_cell BK351.out 0).trans rfl, (blk_cell BK351.out 1).trans rfl, (blk_cell BK352.out 0).trans rfl, (blk_cell BK352.out 1).trans rfl, (blk_cell BK352.out 2).trans rfl, (blk_cell BK352.out 3).trans rfl, (blk_cell BK352.out 4).trans rfl, (blk_cell BK352.out 5).trans rfl, (blk_cell BK352.out 6).trans rfl, (blk_cell BK352.out 7).trans rfl, (blk_cell BK352.out 8).trans rfl, ((HB.out.cell (World.block_lt_of_cell? w _ hw353_0)).trans hw353_0), ((HB.out.cell (World.block_lt_of_cell? w _ hw353_1)).trans hw353_1), ((HB.out.cell (World.block_lt_of_cell? w _ hw353_2)).trans hw353_2), ((HB.out.cell (World.block_lt_of_cell? w _ hw353_3)).trans hw353_3), ((HB.out.cell (World.block_lt_of_cell? w _ hw353_4)).trans hw353_4), ((HB.out.cell (World.block_lt_of_cell? w _ hw353_5)).trans hw353_5), ((HB.out.cell (World.block_lt_of_cell? w _ hw353_6)).trans hw353_6), ((HB.out.cell (World.block_lt_of_cell? w _ hw353_7)).trans hw353_7), ((HB.out.cell (World.block_lt_of_cell? w _ hw353_8)).trans hw353_8)⟩ (fun hHeld => ?_)
      clear hK K
      refine norm_ (a' := ?_) ?_ ?_
      rotate_left
      ·show Act.put _ (some 108) _ = _
       simp only [Act.put, List.setIfInBounds_toArray, List.set_cons_zero, List.set_cons_succ, i64_w, i32_w]
       rfl
      refine sched [(12, some 109), (13, some 110), (14, some 111), (15, some 112), (18, some 115), (19, some 116), (16, some 113), (17, some 114), (20, some 117), (21, some 118), (22, some 119), (23, some 120), (24, some 121), (25, some 122), (26, some 123), (27, some 124), (28, some 125), (29, some 126), (30, some 127), (31, some 128), (32, some 129)] ?_
      iterate 10 first
       |(refine pureS (v := ?_) (a' := ?_) rfl rfl (any_of HT_.out (by kernel_rfl)) (fun _ _ _ h => h) (Or.inl ⟨by rfl, ?_⟩) ?_ ?_
         rotate_left
         ·intro w'
          go_simp
          with_reducible rfl
         rotate_left
         ·simp only [Act.put, List.setIfInBounds_toArray, List.set_cons_zero, List.set_cons_succ, i64_w, i32_w]
          rfl)
       |(refine takeS (v := ?_) (a' := ?_) rfl rfl (take_ofW HT_.out HW_.out (by kernel_rfl)) (fun _ _ _ h => h) (Or.inl ⟨by rfl, ?_⟩) hHeld ?_ ?_
         rotate_left
         ·rintro w' ⟨s0, s1, s2, s3, s4, s5, s6, s7, s8, s9, aA, aB, aC, gP, aD, gQ, gR, aE, aF, aG⟩
          go_simp
          with_reducible rfl
         rotate_left
         ·simp only [Act.put, List.setIfInBounds_toArray, List.set_cons_zero, List.set_cons_succ, i64_w, i32_w]
          rfl)
      iterate 9
       refine pureS (v := undef) (a' := ?_) rfl rfl (any_of HT_.out (by kernel_rfl)) (fun _ _ _ h => h) (Or.inr ⟨by rfl, rfl⟩) ?_ ?_
       rotate_left
       ·simp only [Act.put, List.setIfInBounds_toArray, List.set_cons_zero, List.set_cons_succ, i64_w, i32_w]
        rfl
      iterate 2
       refine pureS (v := ?_) (a' := ?_) rfl rfl (any_of HT_.out (by kernel_rfl)) (fun _ _ _ h => h) (Or.inl ⟨by rfl, ?_⟩) ?_ ?_
       rotate_left
       ·intro w'
        go_simp
        with_reducible rfl
       rotate_left
       ·simp only [Act.put, List.setIfInBounds_toArray, List.set_cons_zero, List.set_cons_succ, i64_w, i32_w]
        rfl
      refine unsched ?_
      refine done_ (done_of HT_.out (by kernel_rfl)) ?_
      (try unfold Exit.then)
      (try dsimp only)
      exact HK9.out _ _ (HQ.out _ _ _ _ _ _ _ _ _ _ _ _ _ _ _ _ _ _ _ _ _ _ _ _ _ _ _ _ _ _ _ _ _ (by repeat (first | (with_reducible first | exact HB.out | apply l1 | apply l2 | apply l3 | refine below_set ?_ GE351.out | refine below_set ?_ GE352.out) | exact HB.out)))
   ·rw [if_neg c7] at H
    exact absurd H (by simp)
  ·rw [if_neg c6] at H
   exact absurd H (by simp)
 ·rw [if_neg c4] at H
  have c4b0 : decide (0 < a1_1) = false := decide_eq_false c4
  clear c4
  by_cases c27 : (wrap64 (a1_1 + 1)) < (l0.length : Int)
  ·rw [if_pos c27] at H
   have c27b0 : decide ((wrap64 (a1_1 + 1)) < (l0.length : Int)) = true := decide_eq_true c27
   clear c27
   obtain ⟨ji28, hji28⟩ : ∃ j_ : Int, (wrap64 (a1_1 + 1)) = j_ := ⟨_, rfl⟩
   replace H : (if 0 ≤ (ji28) then ((cue_Compare.f a2_0 a2_1 a2_2 a2_3 a2_4 a2_5 a2_6 a2_7 l2_8 ((rd_T38 l0 (ji28)).f0.f0) ((rd_T38 l0 (ji28)).f0.f1) ((rd_T38 l0 (ji28)).f1.f0) ((rd_T38 l0 (ji28)).f1.f1) ((rd_T38 l0 (ji28)).f2) ((rd_T38 l0 (ji28)).f3) ((rd_T38 l0 (ji28)).f4) ((rd_T38 l0 (ji28)).f5.f0) ((rd_T38 l0 (ji28)).f5.f1)).bind fun t358 => (some (decide (t358 > 0)))) else (none)) = some r := by first | (rw [hji28] at H; exact H) | (simp only [hji28] at H ⊢; exact H)
   (try rw [hji28] at c27b0)
   have hji28w : (IntKind.i64.wrap (a1_1 + 1)) = ji28 := (i64_w _).trans hji28
   by_cases c29 : 0 ≤ (ji28)
   ·rw [if_pos c29] at H
    have c29b0 : decide (0 ≤ (ji28)) = true := decide_eq_true c29
    clear c29
    replace H := Option.bind_eq_some_iff.mp H
    obtain ⟨t358, A300, H⟩ := H
    (try dsimp only at H)
    have A30 := Aside0.mk A300
    clear A300
    obtain rfl := Option.some.inj H
    replace BK351 := Aside0.mk (blk_drew BK351.out)
    replace BK352 := Aside0.mk (blk_drew BK352.out)
    replace HB := Aside0.mk (below_drew1 HB.out)
    have p357 : 0 ≤ ((ji28) : Int) := of_decide_eq_true (by first | (with_reducible assumption) | assumption)
    have q357 : (ji28) < (l0.length : Int) := of_decide_eq_true (by first | (with_reducible assumption) | assumption)
    obtain ⟨ad357, A357_8, c357_8, e357, hx357_0, hx357_1, hx357_2, hx357_3, hx357_4, hx357_5, hx357_6, hx357_7, hx357_8, hl357_8, hi357_8⟩ := at_T38 HR0.out (ji28) p357 q357
    have hw357_8 := hx357_8
    have hw357_7 := hx357_7
    have hw357_6 := hx357_6
    have hw357_5 := hx357_5
    have hw357_4 := hx357_4
    have hw357_3 := hx357_3
    have hw357_2 := hx357_2
    have hw357_1 := hx357_1
    have hw357_0 := hx357_0
    cases e357
    replace hx357_0 := (HB.out.cell (World.block_lt_of_cell? w _ hx357_0)).trans hx357_0
    replace hx357_1 := (HB.out.cell (World.block_lt_of_cell? w _ hx357_1)).trans hx357_1
    replace hx357_2 := (HB.out.cell (World.block_lt_of_cell? w _ hx357_2)).trans hx357_2
    replace hx357_3 := (HB.out.cell (World.block_lt_of_cell? w _ hx357_3)).trans hx357_3
    replace hx357_4 := (HB.out.cell (World.block_lt_of_cell? w _ hx357_4)).trans hx357_4
    replace hx357_5 := (HB.out.cell (World.block_lt_of_cell? w _ hx357_5)).trans hx357_5
    replace hx357_6 := (HB.out.cell (World.block_lt_of_cell? w _ hx357_6)).trans hx357_6
    replace hx357_7 := (HB.out.cell (World.block_lt_of_cell? w _ hx357_7)).trans hx357_7
    replace hx357_8 := (HB.out.cell (World.block_lt_of_cell? w _ hx357_8)).trans hx357_8
    have HR357_8 := Aside0.mk hi357_8
    have HC357_8 := Aside0.mk hl357_8
    clear hi357_8 hl357_8
    replace p357 := eq_true p357
    replace q357 := eq_true q357
    refine start_ (n := 33) (S := fun w' => w'.cell? ⟨gb351, 0, none⟩ = some (.int .i64 a1_0) ∧ w'.cell? ⟨gb351, 1, none⟩ = some (.int .i64 a1_1) ∧ w'.cell? ⟨gb352, 0, none⟩ = some (.int .i64 a2_0) ∧ w'.cell? ⟨gb352, 1, none⟩ = some (.int .i64 a2_1) ∧ w'.cell? ⟨gb352, 2, none⟩ = some (.int .i64 a2_2) ∧ w'.cell? ⟨gb352, 3, none⟩ = some (.int .i64 a2_3) ∧ w'.cell? ⟨gb352, 4, none⟩ = some (.int .i64 a2_4) ∧ w'.cell? ⟨gb352, 5, none⟩ = some (.int .i64 a2_5) ∧ w'.cell? ⟨gb352, 6, none⟩ = some (.string a2_6) ∧ w'.cell? ⟨gb352, 7, none⟩ = some (.string a2_7) ∧ w'.cell? ⟨gb352, 8, none⟩ = some (.slice A2_8 l2_8.length c2_8) ∧ w'.cell? (ad357.add (((ji28)).toNat * 9)) = some (.int .i64 ((rd_T38 l0 (ji28)).f0.f0)) ∧ w'.cell? ⟨(ad357.add (((ji28)).toNat * 9)).block, (ad357.add (((ji28)).toNat * 9)).off + 1, none⟩ = some (.int .i64 ((rd_T38 l0 (ji28)).f0.f1)) ∧ w'.cell? ⟨(ad357.add (((ji28)).toNat * 9)).block, (ad357.add (((ji28)).toNat * 9)).off + 2, none⟩ = some (.int .i64 ((rd_T38 l0 (ji28)).f1.f0)) ∧ w'.cell? ⟨(ad357.add (((ji28)).toNat * 9)).block, (ad357.add (((ji28)).toNat * 9)).off + 3, none⟩ = some (.int .i64 ((rd_T38 l0 (ji28)).f1.f1)) ∧ w'.cell? ⟨(ad357.add (((ji28)).toNat * 9)).block, (ad357.add (((ji28)).toNat * 9)).off + 4, none⟩ = some (.int .i64 ((rd_T38 l0 (ji28)).f2)) ∧ w'.cell? ⟨(ad357.add (((ji28)).toNat * 9)).block, (ad357.add (((ji28)).toNat * 9)).off + 5, none⟩ = some (.int .i64 ((rd_T38 l0 (ji28)).f3)) ∧ w'.cell? ⟨(ad357.add (((ji28)).toNat * 9)).block, (ad357.add (((ji28)).toNat * 9)).off + 6, none⟩ = some (.string ((rd_T38 l0 (ji28)).f4)) ∧ w'.cell? ⟨(ad357.add (((ji28)).toNat * 9)).block, (ad357.add (((ji28)).toNat * 9)).off + 7, none⟩ = some (.string ((rd_T38 l0 (ji28)).f5.f0)) ∧ w'.cell? ⟨(ad357.add (((ji28)).toNat * 9)).block, (ad357.add (((ji28)).toNat * 9)).off + 8, none⟩ = some (.slice A357_8 ((rd_T38 l0 (ji28)).f5.f1).length c357_8)) (ds := []) #[false, false, false, false, false, false, false, false, false, false, false, false, false, false, false, false, false, false, false, false, false, false, false, false, false, false, false, false, false, false, false, false, false] (by kernel_rfl) rfl rfl ⟨(blk_cell BK351.out 0).trans rfl, (blk_cell BK351.out 1).trans rfl, (blk_cell BK352.out 0).trans rfl, (blk_cell BK352.out 1).trans rfl, (blk_cell BK352.out 2).trans rfl, (blk_cell BK352.out 3).trans rfl, (blk_cell BK352.out 4).trans rfl, (blk_cell BK352.out 5).trans rfl, (blk_cell BK352.out 6).trans rfl, (blk_cell BK352.out 7).trans rfl, (blk_cell BK352.out 8).trans rfl, ((HB.out.cell (World.block_lt_of_cell? w _ hw357_0)).trans hw357_0), ((HB.out.cell (World.block_lt_of_cell? w _ hw357_1)).trans hw357_1), ((HB.out.cell (World.block_lt_of_cell? w _ hw357_2)).trans hw357_2), ((HB.out.cell (World.block_lt_of_cell? w _ hw357_3)).trans hw357_3), ((HB.out.cell (World.block_lt_of_cell? w _ hw357_4)).trans hw357_4), ((HB.out.cell (World.block_lt_of_cell? w _ hw357_5)).trans hw357_5), ((HB.out.cell (World.block_lt_of_cell? w _ hw357_6)).trans hw357_6), ((HB.out.cell (World.block_lt_of_cell? w _ hw357_7)).trans hw357_7), ((HB.out.cell (World.block_lt_of_cell? w _ hw357_8)).trans hw357_8)⟩ (fun hHeld => ?_); refine with_tabW merge_test.tab22 merge_test.bits22 (fun HT_ HW_ => ?_)
    generalize w.drew = w33 at BK351 BK352 HB HR357_8 hx357_0 hx357_1 hx357_2 hx357_3 hx357_4 hx357_5 hx357_6 hx357_7 hx357_8 hHeld ⊢
    refine sched [(0, some 97), (1, some 98), (2, some 99), (3, some 100), (4, some 101), (5, some 102), (6, some 103), (7, some 104), (8, some 105), (9, some 106), (10, some 107), (11, some 108), (12, some 109), (13, some 110), (14, some 111), (15, some 112), (18, some 115), (19, some 116), (16, some 113), (17, some 114), (20, some 117), (21, some 118), (23, some 120), (24, some 121), (22, some 119), (25, some 122), (26, some 123), (27, some 124), (28, some 125)] ?_
    iterate 4 first
     |(refine pureS (v := ?_) (a' := ?_) rfl rfl (any_of HT_.out (by kernel_rfl)) (fun _ _ _ h => h) (Or.inl ⟨by rfl, ?_⟩) ?_ ?_
       rotate_left
       ·intro w'
        go_simp
        with_reducible rfl
       rotate_left
       ·simp only [Act.put, List.setIfInBounds_toArray, List.set_cons_zero, List.set_cons_succ, i64_w, i32_w]
        rfl)
     |(refine takeS (v := ?_) (a' := ?_) rfl rfl (take_ofW HT_.out HW_.out (by kernel_rfl)) (fun _ _ _ h => h) (Or.inl ⟨by rfl, ?_⟩) hHeld ?_ ?_
       rotate_left
       ·rintro w' ⟨s0, s1, s2, s3, s4, s5, s6, s7, s8, s9, aA, aB, aC, gP, aD, gQ, gR, aE, aF, aG⟩
        go_simp
        with_reducible rfl
       rotate_left
       ·simp only [Act.put, List.setIfInBounds_toArray, List.set_cons_zero, List.set_cons_succ, i64_w, i32_w]
        rfl)
    iterate 9
     refine pureS (v := undef) (a' := ?_) rfl rfl (any_of HT_.out (by kernel_rfl)) (fun _ _ _ h => h) (Or.inr ⟨by rfl, rfl⟩) ?_ ?_
     rotate_left
     ·simp only [Act.put, List.setIfInBounds_toArray, List.set_cons_zero, List.set_cons_succ, i64_w, i32_w]
      rfl
    iterate 16 first
     |(refine pureS (v := ?_) (a' := ?_) rfl rfl (any_of HT_.out (by kernel_rfl)) (fun _ _ _ h => h) (Or.inl ⟨by rfl, ?_⟩) ?_ ?_
       rotate_left
       ·intro w'
        go_simp
        with_reducible rfl
       rotate_left
       ·simp only [Act.put, List.setIfInBounds_toArray, List.set_cons_zero, List.set_cons_succ, i64_w, i32_w]
        rfl)
     |(refine takeS (v := ?_) (a' := ?_) rfl rfl (take_ofW HT_.out HW_.out (by kernel_rfl)) (fun _ _ _ h => h) (Or.inl ⟨by rfl, ?_⟩) hHeld ?_ ?_
       rotate_left
       ·rintro w' ⟨s0, s1, s2, s3, s4, s5, s6, s7, s8, s9, aA, aB, aC, gP, aD, gQ, gR, aE, aF, aG⟩
        go_simp
        with_reducible rfl
       rotate_left
       ·simp only [Act.put, List.setIfInBounds_toArray, List.set_cons_zero, List.set_cons_succ, i64_w, i32_w]
        rfl)
    refine unsched ?_
    refine one_ (i := 29) (N := some 126) #[true, true, true, true, true, true, true, true, true, true, true, true, true, true, true, true, true, true, true, true, true, true, true, true, true, true, true, true, true, true, false, false, false] rfl rfl (one_of HT_.out (by kernel_rfl)) (by decide) (fun K hK => ?_)
    refine goes_ Try.func15 (by kernel_rfl) rfl #[.agg #[.int .i64 a2_0, .int .i64 a2_1, .int .i64 a2_2, .int .i64 a2_3, .int .i64 a2_4, .int .i64 a2_5, .string a2_6, .string a2_7, .slice A2_8 l2_8.length c2_8], .agg #[.int .i64 ((rd_T38 l0 (ji28)).f0.f0), .int .i64 ((rd_T38 l0 (ji28)).f0.f1), .int .i64 ((rd_T38 l0 (ji28)).f1.f0), .int .i64 ((rd_T38 l0 (ji28)).f1.f1), .int .i64 ((rd_T38 l0 (ji28)).f2), .int .i64 ((rd_T38 l0 (ji28)).f3), .string ((rd_T38 l0 (ji28)).f4), .string ((rd_T38 l0 (ji28)).f5.f0), .slice A357_8 ((rd_T38 l0 (ji28)).f5.f1).length c357_8]] (by rfl) rfl rfl (by (try simp only [List.map_toArray, List.map_cons, List.map_nil]); first | done | (simp only [hji28]; rfl) | rfl | (simp only [List.length_drop, List.length_take]; rfl)) ?_
    with_reducible refine (cue_Compare.calls a2_0 a2_1 a2_2 a2_3 a2_4 a2_5 a2_6 a2_7 _ _ l2_8 ((rd_T38 l0 (ji28)).f0.f0) ((rd_T38 l0 (ji28)).f0.f1) ((rd_T38 l0 (ji28)).f1.f0) ((rd_T38 l0 (ji28)).f1.f1) ((rd_T38 l0 (ji28)).f2) ((rd_T38 l0 (ji28)).f3) ((rd_T38 l0 (ji28)).f4) ((rd_T38 l0 (ji28)).f5.f0) _ _ ((rd_T38 l0 (ji28)).f5.f1) t358 _ ?side1 ?side2 ?side3 ?side4 A30.out).mono ?_
    (case side1 => repeat (first | exact (Kd.C_below HR2_8.out HB.out) | (with_reducible refine Kd.C_alloc ?_ _) | (with_reducible refine Kd.C_drewN ?_ _) | (with_reducible refine Kd.C_drew ?_)))
    (case side2 => exact HC2_8.out)
    (case side3 => repeat (first | exact (Kd.C_below HR357_8.out HB.out) | (with_reducible refine Kd.C_alloc ?_ _) | (with_reducible refine Kd.C_drewN ?_ _) | (with_reducible refine Kd.C_drew ?_)))
    (case side4 => exact HC357_8.out)
    rintro e w34 ⟨rfl, hb⟩
    refine ⟨_, rfl, ?_⟩
    replace BK351 := Aside0.mk (bB BK351.out hb)
    replace BK352 := Aside0.mk (bB BK352.out hb)
    replace HB := Aside0.mk (below_step (by repeat (first | (with_reducible first | exact HB.out | apply l1 | apply l2 | apply l3 | refine below_set ?_ GE351.out | refine below_set ?_ GE352.out) | exact HB.out)) hb)
    (try clear hb)
    (try clear hb2)
    (try clear hk)
    (try clear hi)
    refine hK.out _ _ ⟨(blk_cell BK351.out 0).trans rfl, (blk_cell BK351.out 1).trans rfl, (blk_cell BK352.out 0).trans rfl, (blk_cell BK352.out 1).trans rfl, (blk_cell BK352.out 2).trans rfl, (blk_cell BK352.out 3).trans rfl, (blk_cell BK352.out 4).trans rfl, (blk_cell BK352.out 5).trans rfl, (blk_cell BK352.out 6).trans rfl, (blk_cell BK352.out 7).trans rfl, (blk_cell BK352.out 8).trans rfl, ((HB.out.cell (World.block_lt_of_cell? w _ hw357_0)).trans hw357_0), ((HB.out.cell (World.block_lt_of_cell? w _ hw357_1)).trans hw357_1), ((HB.out.cell (World.block_lt_of_cell? w _ hw357_2)).trans hw357_2), ((HB.out.cell (World.block_lt_of_cell? w _ hw357_3)).trans hw357_3), ((HB.out.cell (World.block_lt_of_cell? w _ hw357_4)).trans hw357_4), ((HB.out.cell (World.block_lt_of_cell? w _ hw357_5)).trans hw357_5), ((HB.out.cell (World.block_lt_of_cell? w _ hw357_6)).trans hw357_6), ((HB.out.cell (World.block_lt_of_cell? w _ hw357_7)).trans hw357_7), ((HB.out.cell (World.block_lt_of_cell? w _ hw357_8)).trans hw357_8)⟩ (fun hHeld => ?_)
    clear hK K
    refine norm_ (a' := ?_) ?_ ?_
    rotate_left
    ·show Act.put _ (some 126) _ = _
     simp only [Act.put, List.setIfInBounds_toArray, List.set_cons_zero, List.set_cons_succ, i64_w, i32_w]
     rfl
    refine sched [(30, some 127), (31, some 128), (32, some 129)] ?_
    iterate 3
     refine pureS (v := ?_) (a' := ?_) rfl rfl (any_of HT_.out (by kernel_rfl)) (fun _ _ _ h => h) (Or.inl ⟨by rfl, ?_⟩) ?_ ?_
     rotate_left
     ·intro w'
      go_simp
      with_reducible rfl
     rotate_left
     ·simp only [Act.put, List.setIfInBounds_toArray, List.set_cons_zero, List.set_cons_succ, i64_w, i32_w]
      rfl
    refine unsched ?_
    refine done_ (done_of HT_.out (by kernel_rfl)) ?_
    (try unfold Exit.then)
    (try dsimp only)
    exact HK9.out _ _ (HQ.out _ _ _ _ _ _ _ _ _ _ _ _ _ _ _ _ _ _ _ _ _ _ _ _ _ _ _ _ _ _ _ _ _ (by repeat (first | (with_reducible first | exact HB.out | apply l1 | apply l2 | apply l3 | refine below_set ?_ GE351.out | refine below_set ?_ GE352.out) | exact HB.out)))
   ·rw [if_neg c29] at H
    exact absurd H (by simp)
  ·rw [if_neg c27] at H
   have c27b0 : decide ((wrap64 (a1_1 + 1)) < (l0.length : Int)) = false := decide_eq_false c27
   clear c27
   obtain rfl := Option.some.inj H
   replace BK351 := Aside0.mk (blk_drew BK351.out)
   replace BK352 := Aside0.mk (blk_drew BK352.out)
   replace HB := Aside0.mk (below_drew1 HB.out)
   refine start_ (n := 33) (S := fun w' => w'.cell? ⟨gb351, 0, none⟩ = some (.int .i64 a1_0) ∧ w'.cell? ⟨gb351, 1, none⟩ = some (.int .i64 a1_1)) (ds := []) #[false, false, false, false, false, false, false, false, false, false, false, false, false, false, false, false, false, false, false, false, false, false, false, false, false, false, false, false, false, false, false, false, false] (by kernel_rfl) rfl rfl ⟨(blk_cell BK351.out 0).trans rfl, (blk_cell BK351.out 1).trans rfl⟩ (fun hHeld => ?_); refine with_tabW merge_test.tab22 merge_test.bits22 (fun HT_ HW_ => ?_)
   generalize w.drew = w37 at BK351 BK352 HB hHeld ⊢
   refine sched [(0, some 97), (1, some 98), (2, some 99), (3, some 100), (4, some 101), (5, some 102), (6, some 103), (7, some 104), (8, some 105), (9, some 106), (10, some 107), (11, some 108), (12, some 109), (13, some 110), (14, some 111), (15, some 112), (18, some 115), (19, some 116), (16, some 113), (17, some 114), (20, some 117), (21, some 118), (22, some 119), (23, some 120), (24, some 121), (25, some 122), (26, some 123), (27, some 124), (28, some 125), (29, some 126), (30, some 127), (31, some 128), (32, some 129)] ?_
   iterate 4 first
    |(refine pureS (v := ?_) (a' := ?_) rfl rfl (any_of HT_.out (by kernel_rfl)) (fun _ _ _ h => h) (Or.inl ⟨by rfl, ?_⟩) ?_ ?_
      rotate_left
      ·intro w'
       go_simp
       with_reducible rfl
      rotate_left
      ·simp only [Act.put, List.setIfInBounds_toArray, List.set_cons_zero, List.set_cons_succ, i64_w, i32_w]
       rfl)
    |(refine takeS (v := ?_) (a' := ?_) rfl rfl (take_ofW HT_.out HW_.out (by kernel_rfl)) (fun _ _ _ h => h) (Or.inl ⟨by rfl, ?_⟩) hHeld ?_ ?_
      rotate_left
      ·rintro w' ⟨s0, s1⟩
       go_simp
       with_reducible rfl
      rotate_left
      ·simp only [Act.put, List.setIfInBounds_toArray, List.set_cons_zero, List.set_cons_succ, i64_w, i32_w]
       rfl)
   iterate 9
    refine pureS (v := undef) (a' := ?_) rfl rfl (any_of HT_.out (by kernel_rfl)) (fun _ _ _ h => h) (Or.inr ⟨by rfl, rfl⟩) ?_ ?_
    rotate_left
    ·simp only [Act.put, List.setIfInBounds_toArray, List.set_cons_zero, List.set_cons_succ, i64_w, i32_w]
     rfl
   iterate 9 first
    |(refine pureS (v := ?_) (a' := ?_) rfl rfl (any_of HT_.out (by kernel_rfl)) (fun _ _ _ h => h) (Or.inl ⟨by rfl, ?_⟩) ?_ ?_
      rotate_left
      ·intro w'
       go_simp
       with_reducible rfl
      rotate_left
      ·simp only [Act.put, List.setIfInBounds_toArray, List.set_cons_zero, List.set_cons_succ, i64_w, i32_w]
       rfl)
    |(refine takeS (v := ?_) (a' := ?_) rfl rfl (take_ofW HT_.out HW_.out (by kernel_rfl)) (fun _ _ _ h => h) (Or.inl ⟨by rfl, ?_⟩) hHeld ?_ ?_
      rotate_left
      ·rintro w' ⟨s0, s1⟩
       go_simp
       with_reducible rfl
      rotate_left
      ·simp only [Act.put, List.setIfInBounds_toArray, List.set_cons_zero, List.set_cons_succ, i64_w, i32_w]
       rfl)
   iterate 9
    refine pureS (v := undef) (a' := ?_) rfl rfl (any_of HT_.out (by kernel_rfl)) (fun _ _ _ h => h) (Or.inr ⟨by rfl, rfl⟩) ?_ ?_
    rotate_left
    ·simp only [Act.put, List.setIfInBounds_toArray, List.set_cons_zero, List.set_cons_succ, i64_w, i32_w]
     rfl
   iterate 2
    refine pureS (v := ?_) (a' := ?_) rfl rfl (any_of HT_.out (by kernel_rfl)) (fun _ _ _ h => h) (Or.inl ⟨by rfl, ?_⟩) ?_ ?_
    rotate_left
    ·intro w'
     go_simp
     with_reducible rfl
    rotate_left
    ·simp only [Act.put, List.setIfInBounds_toArray, List.set_cons_zero, List.set_cons_succ, i64_w, i32_w]
     rfl
   refine unsched ?_
   refine done_ (done_of HT_.out (by kernel_rfl)) ?_
   (try unfold Exit.then)
   (try dsimp only)
   exact HK9.out _ _ (HQ.out _ _ _ _ _ _ _ _ _ _ _ _ _ _ _ _ _ _ _ _ _ _ _ _ _ _ _ _ _ _ _ _ _ (by repeat (first | (with_reducible first | exact HB.out | apply l1 | apply l2 | apply l3 | refine below_set ?_ GE351.out | refine below_set ?_ GE352.out) | exact HB.out)))
end Go.Proofs.Ytlbicmdfdpcdiaa.PDa
