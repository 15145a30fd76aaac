/- Printed by a program of mine: each Go function answers what its model answers; conditions: what each theorem asks of memory. -/
import Derived.Test.YtomkjiipmhglcaaGreatDoorP3xghfkn
set_option linter.unusedVariables false
set_option linter.unusedSimpArgs false
set_option maxRecDepth 100000
namespace Go.TryzS
open Go Go.Sl Go.Mo Go.Proofs
attribute [local irreducible] q7.wp
theorem jg {H : z7} {F : List qj} {w : World} {R : Ending → World → Prop} {kr : Int → Prop} {kp : Value → Prop} (hG : Gl H) (K : Nat) (VO : qE) (VQ : Nat) (VS : qj) (VR : xf VS VQ ([.int .i64 VO.place_.at_, qN VO.text_]) 151)
    (hS : St w H [VS] F) (hm : (xR.m K VO).wp kr kp)
    (hret : ∀ (VP : Int) (VT : qj) (w : World), kr VP → (xf VT VQ ([.int .i64 VP, qN VO.text_]) 151) → St w H [VT] F → R (.returned (.tuple ⟨[]⟩)) w) :
    Calls Tryz.prog 146 ⟨[qx VQ 0]⟩ w R := by
 refine enter Tryz.func146 rfl Tryz.ntmps146 rfl hS fun a w hS => ?_
 have hM := hm; clear hm
 rw [xR.m] at hM
 refine zb <| sM hS rfl fun hS => sM hS rfl fun hS => sO hS (xM rfl) rfl fun hS => sO hS (zz rfl Tryz.runUnderlying125 rfl Tryz.sizeOf3 rfl) rfl fun hS => sO hS (zU 0 rfl VR rfl rfl Tryz.isAgg3) rfl fun hS => sB hS rfl fun hS => sB hS rfl fun hS => sO hS (xM rfl) rfl fun hS => sO hS (zz rfl Tryz.runUnderlying125 rfl Tryz.sizeOf3 rfl) rfl fun hS => Qr 0 ([.int .i64 (ZW .i64 (qi (VO.place_.at_ + (7 : Int))) (7 : Int)), qN VO.text_]) hS rfl rfl VR rfl rfl rfl rfl Tryz.sizeOf3 fun w VV VU hS => qL ?_
 exact yW (rs := []) hS rfl rfl (hret (ZW .i64 (qi (VO.place_.at_ + (7 : Int))) (7 : Int)) VV _ (qG hM) VU (hS.st.pick [0] (by kernel_rfl)))
theorem jA {H : z7} {F : List qj} {w : World} {R : Ending → World → Prop} {kr : ((List UInt8) × Int × Int) → Prop} {kp : Value → Prop} (hG : Gl H) (K : Nat) (VQ : qE) (VR : Int) (VP : Nat) (VV : qj) (VW : xf VV VP ([.int .i64 VQ.place_.at_, qN VQ.text_]) 151)
    (hS : St w H [VV] F) (hm : (yC.m K VQ VR).wp kr kp)
    (hret : ∀ (V0 : List UInt8) (V1 : Int) (VU : Int) (VZ : qj) (w : World), kr (V0, V1, VU) → (xf VZ VP ([.int .i64 VU, qN VQ.text_]) 151) → St w H [VZ] F → R (.returned (.tuple ⟨[qN V0, .int .i64 V1]⟩)) w) :
    Calls Tryz.prog 122 ⟨[qx VP 0, .int .i64 VR]⟩ w R := by
 refine enter Tryz.func122 rfl Tryz.ntmps122 rfl hS fun a w hS => ?_
 have hM := hm; clear hm
 rw [yC.m] at hM
 refine qe <| sA hS rfl fun hS => sA hS rfl fun hS => qm <| wp_seq <| qe <| sM hS rfl fun hS => sO hS (uD rfl rfl Tryz.runUnderlying100) rfl fun hS => sM hS rfl fun hS => qI hS rfl rfl rfl rfl (mv rfl) rfl fun a w hS => qI hS rfl rfl rfl rfl (xN rfl rfl rfl) rfl fun a w hS => sO hS (pk rfl rfl rfl) rfl fun hS => qm <| qo hS rfl hM (fun V3 hM => ?_) (fun V3 hM => ?_)
 ·refine wp_seq ?_
  refine zb <| sA hS rfl fun hS => sA hS rfl fun hS => qm <| wp_ret <| qu ?_
  exact qP (rs := [4, 5]) hS rfl rfl (hret ([] : List UInt8) (1 : Int) VQ.place_.at_ VV _ (qG hM) VW (hS.st.pick [0] (by kernel_rfl)))
 ·refine wp_skip ?_
  refine qc <| qe <| sM hS rfl fun hS => sO hS (xM rfl) rfl fun hS => sO hS (zz rfl Tryz.runUnderlying151 rfl Tryz.sizeOf125 rfl) rfl fun hS => qq hS rfl Tryz.call146 (jg hG K VQ VP VV VW (hS.st.part 1 [0] (by kernel_rfl)) (qh hM) (fun VO VY w hM VT hst => qn hS.ev hst.appF rfl fun hS => ?_))
  replace hS : Ss _ _ _ H [VY] F _ _ := hS
  refine qm <| wp_seq ?_
  obtain ⟨V5, hM⟩ := qt hM
  obtain ⟨VS, VX⟩ : ∃ x, x = (sub VQ.text_ (x5 .i64 VO (8 : Int)) (VQ.text_.length : Int)) := ⟨_, rfl⟩
  replace hM := qp VX hM
  refine qM (vals := [some (qx VP 0), some (qx VP 0), some (qx VP 1), some (qN VQ.text_), some (qx VP 0), some (qx VP 0), some (qx VP 0), some (qx VP 0), some (.int .i64 VO), some (.int .i64 (x5 .i64 VO (8 : Int))), some (qN (sub VQ.text_ (x5 .i64 VO (8 : Int)) (VQ.text_.length : Int))), some (qN VS)]) hS zV rfl ?_
  intro l w ho hcl hA hst
  refine xq hA hst ho hcl zW [0, 1, 2, 3, 4, 5, 6, 7, 8, 9, 10, 11] rfl rfl rfl (by exact ⟨nM rfl, nQ rfl (by exact qJ (xM rfl) rfl), nQ rfl (by exact qJ (zz rfl Tryz.runUnderlying151 rfl Tryz.sizeOf9 rfl) rfl), nQ rfl (by exact qJ (zU 0 rfl VT rfl rfl Tryz.isAgg9) rfl), nM rfl, nQ rfl (by exact qJ (xM rfl) rfl), nQ rfl (by exact qJ (zz rfl Tryz.runUnderlying151 rfl Tryz.sizeOf125 rfl) rfl), nQ rfl (by exact qJ (zz rfl Tryz.runUnderlying125 rfl Tryz.sizeOf3 rfl) rfl), nQ rfl (by exact qJ (zU 0 rfl VT rfl rfl Tryz.isAgg3) rfl), nQ rfl (by exact qJ (quo rfl rfl rfl) rfl), nQ rfl (by exact qJ (Xj rfl Tryz.runUnderlying9 (XI rfl) Yy V5) rfl), nQ rfl (by exact qJ (zE rfl) (congrArg (qN) VX.symm)), trivial⟩) fun a w hS => ?_
  replace hS := hS.env2 (e' := [(0, qx VP 0), (1, .int .i64 VR), (6, qN VS)]) ⟨rfl, rfl, rfl, trivial⟩
  refine qc <| wp_seq <| qe <| sM hS rfl fun hS => sM hS rfl fun hS => sO hS (ye rfl Tryz.runUnderlying9) rfl fun hS => sB hS rfl fun hS => qm <| qo hS rfl hM (fun V4 hM => ?_) (fun V4 hM => ?_)
  ·refine wp_seq ?_
   refine zb <| sA hS rfl fun hS => sA hS rfl fun hS => qm <| wp_ret <| qu ?_
   exact qP (rs := [4, 5]) hS rfl rfl (hret ([] : List UInt8) (2 : Int) VO VY _ (qG hM) VT (hS.st.pick [0] (by kernel_rfl)))
  ·refine wp_skip ?_
   refine qc <| qe <| sM hS rfl fun hS => sO hS (xM rfl) rfl fun hS => sO hS (zz rfl Tryz.runUnderlying151 rfl Tryz.sizeOf125 rfl) rfl fun hS => sO hS (zz rfl Tryz.runUnderlying125 rfl Tryz.sizeOf3 rfl) rfl fun hS => sO hS (zU 0 rfl VT rfl rfl Tryz.isAgg3) rfl fun hS => sM hS rfl fun hS => sB hS rfl fun hS => sB hS rfl fun hS => sO hS (xM rfl) rfl fun hS => sO hS (zz rfl Tryz.runUnderlying151 rfl Tryz.sizeOf125 rfl) rfl fun hS => sO hS (zz rfl Tryz.runUnderlying125 rfl Tryz.sizeOf3 rfl) rfl fun hS => Qr 0 ([.int .i64 (qi (VO + (qi ((8 : Int) * VR)))), qN VQ.text_]) hS rfl rfl VT rfl rfl rfl rfl Tryz.sizeOf3 fun w V7 V2 hS => qm <| qe <| sM hS rfl fun hS => sM hS rfl fun hS => ?_
   obtain ⟨V6, hM⟩ := qt hM
   refine sO hS (Xj rfl Tryz.runUnderlying9 YF (Xn rfl) V6) rfl fun hS => qY (v := qN) (x0 := (sub VS (0 : Int) VR)) hS (zE rfl) rfl fun V8 a w hz hS => ?_
   have hM := qp hz hM; clear hz
   refine sA hS rfl fun hS => qm <| wp_ret ?_
   exact qP (rs := [4, 5]) hS rfl rfl (hret V8 (0 : Int) (qi (VO + (qi ((8 : Int) * VR)))) V7 _ (qG hM) V2 (hS.st.pick [0] (by kernel_rfl)))
theorem zL {H : z7} {F : List qj} {w : World} {R : Ending → World → Prop} {kr : Unit → Prop} {kp : Value → Prop} (hG : Gl H) (K : Nat) (VP : Bool) (VO : Int)
    (hS : St w H [] F) (hm : (zN.m K VP VO).wp kr kp)
    (hret : ∀ (w : World), kr () → St w H [] F → R (.returned (.tuple ⟨[]⟩)) w)
    (hpan : ∀ v w, kp v → St w H [] F → R (.panicked [⟨v, false, false⟩]) w) :
    Calls Tryz.prog 100 ⟨[.bool VP, .int .i64 VO]⟩ w R := by
 refine enter Tryz.func100 rfl Tryz.ntmps100 rfl hS fun a w hS => ?_
 have hM := hm; clear hm
 rw [zN.m] at hM
 refine qe <| sM hS rfl fun hS => qm <| qo hS rfl hM (fun VQ hM => ?_) (fun VQ hM => ?_)
 ·refine zb ?_
  refine sM hS rfl fun hS => sO hS (vI ([.int .i64 VO]) [(0, 1)] Tryz.zeroValue98 Tryz.runUnderlying98 (by intro w; simp [Tryz.sizeOf24]) rfl rfl) rfl fun hS => sO hS (Jq rfl Tryz.runUnderlying98 rfl) rfl fun hS => v8 hS rfl ?_
  exact ⟨hS.ev.defs, hpan _ _ (Qa hM) hS.st.frame⟩
 ·refine wp_skip ?_
  exact yW (rs := []) hS rfl rfl (hret _ (qG hM) (hS.st.pick [] (by kernel_rfl)))
theorem vt {H : z7} {F : List qj} {w : World} {R : Ending → World → Prop} {kr : (Int × (List Int)) → Prop} {kp : Value → Prop} (hG : Gl H) (K : Nat) (VQ : qw) (VR : Nat) (VT : qj) (VV : Nat) (V2 : qj) (VX : Option Addr) (VZ : Nat) (VU : qj) (VS : xf VT VR ([qx VV 0, .slice VX VQ.out_.length VZ, .int .i64 VQ.limit_]) 103) (Ue : xf V2 VV ([.int .i64 VQ.Reader_.place_.at_, qN VQ.Reader_.text_]) 151) (Ug : zM 5 (ci .u8) 1 VX VQ.out_ VZ VU)
    (hS : St w H [VT, V2, VU] F) (hm : (yB.m K VQ).wp kr kp)
    (hret : ∀ (VY : Int) (Ub : qj) (V8 : Option Addr) (Ua : Nat) (VW : (List Int)) (Uc : qj) (Ud : qj) (w : World), kr (VY, VW) → (xf Ub VV ([.int .i64 VY, qN VQ.Reader_.text_]) 151) → (zM 5 (ci .u8) 1 V8 VW Ua Uc) → (xf Ud VR ([qx VV 0, .slice V8 VW.length Ua, .int .i64 VQ.limit_]) 103) → St w H [Ud, Ub, Uc] F → R (.returned (.tuple ⟨[]⟩)) w)
    (hpan : ∀ v w, kp v → St w H [] F → R (.panicked [⟨v, false, false⟩]) w) :
    Calls Tryz.prog 96 ⟨[qx VR 0]⟩ w R := by
 refine enter Tryz.func96 rfl Tryz.ntmps96 rfl hS fun a w hS => ?_
 have hM := hm; clear hm
 rw [yB.m] at hM
 refine qe <| sM hS rfl fun hS => sO hS (xM rfl) rfl fun hS => sO hS (zz rfl Tryz.runUnderlying103 rfl Tryz.sizeOf100 rfl) rfl fun hS => sO hS (zU 0 rfl VS rfl rfl Tryz.isAgg100) rfl fun hS => qq hS rfl Tryz.call122 (jA hG K VQ.Reader_ (4 : Int) VV V2 Ue (hS.st.part 1 [1, 0, 2] (by kernel_rfl)) (qh hM) (fun VO Ur V5 V0 w hM Up hst => qn hS.ev hst.appF rfl fun hS => ?_))
 replace hS : Ss _ _ _ H [V0, VT, VU] F _ _ := hS
 refine sM hS rfl fun hS => sO hS (ex rfl rfl) rfl fun hS => sO hS (ex rfl rfl) rfl fun hS => sA hS rfl fun hS => sA hS rfl fun hS => qm <| qe <| sM hS rfl fun hS => qq hS rfl Tryz.call121 (y8 hG K Ur (hS.st.part 0 [0, 1, 2] (by kernel_rfl)) (qh hM) (fun  w hM  hst => qn hS.ev hst.appF rfl fun hS => ?_) (fun v w hk hst => zY (qB (⟨hS.ev.defs, hpan _ _ hk hst.appF.frame⟩))))
 replace hS : Ss _ _ _ H [V0, VT, VU] F _ _ := hS
 refine qm <| wp_seq ?_
 obtain ⟨Ui, hM⟩ := qt hM
 obtain ⟨Uj, hM⟩ := qt hM
 obtain ⟨VP, V3⟩ : ∃ x, x = (uk .i64 (wr .i64 ((rd VO (0 : Int)).toNat : Int)) (z1 .i64 (wr .i64 ((rd VO (1 : Int)).toNat : Int)) (8 : Int))) := ⟨_, rfl⟩
 replace hM := qp V3 hM
 refine qM (vals := [some (qN VO), some (.int .u8 ((rd VO (0 : Int)).toNat : Int)), some (.int .i64 (wr .i64 ((rd VO (0 : Int)).toNat : Int))), some (qN VO), some (.int .u8 ((rd VO (1 : Int)).toNat : Int)), some (.int .i64 (wr .i64 ((rd VO (1 : Int)).toNat : Int))), some (.int .i64 (z1 .i64 (wr .i64 ((rd VO (1 : Int)).toNat : Int)) (8 : Int))), some (.int .i64 (uk .i64 (wr .i64 ((rd VO (0 : Int)).toNat : Int)) (z1 .i64 (wr .i64 ((rd VO (1 : Int)).toNat : Int)) (8 : Int)))), some (.int .i64 VP)]) hS zV rfl ?_
 intro l w ho hcl hA hst
 refine xq hA hst ho hcl zW [0, 1, 2, 3, 4, 5, 6, 7, 8] rfl rfl rfl (by exact ⟨nM rfl, nQ rfl (by exact qJ (u1 rfl rfl Tryz.runUnderlying9 Ui) rfl), nQ rfl (by exact qJ (yT rfl Tryz.runUnderlying5 Tryz.runUnderlying3) rfl), nM rfl, nQ rfl (by exact qJ (u1 rfl rfl Tryz.runUnderlying9 Uj) rfl), nQ rfl (by exact qJ (yT rfl Tryz.runUnderlying5 Tryz.runUnderlying3) rfl), nQ rfl (by exact qJ (shl rfl rfl rfl) rfl), nB rfl, nQ rfl (by exact qJ (zE rfl) (congrArg (Value.int .i64) V3.symm)), trivial⟩) fun a w hS => ?_
 replace hS := hS.env2 (e' := [(0, qx VR 0), (2, qN VO), (4, .int .i64 VP)]) ⟨rfl, rfl, rfl, trivial⟩
 refine qc <| wp_seq ?_
 obtain ⟨Uk, hM⟩ := qt hM
 obtain ⟨Ul, hM⟩ := qt hM
 refine qM (vals := [some (qN VO), some (.int .u8 ((rd VO (2 : Int)).toNat : Int)), some (.int .i64 (wr .i64 ((rd VO (2 : Int)).toNat : Int))), some (qN VO), some (.int .u8 ((rd VO (3 : Int)).toNat : Int)), some (.int .i64 (wr .i64 ((rd VO (3 : Int)).toNat : Int))), some (.int .i64 (z1 .i64 (wr .i64 ((rd VO (3 : Int)).toNat : Int)) (8 : Int))), some (.int .i64 (uk .i64 (wr .i64 ((rd VO (2 : Int)).toNat : Int)) (z1 .i64 (wr .i64 ((rd VO (3 : Int)).toNat : Int)) (8 : Int)))), some (.int .i64 VP), some (.int .i64 (jG .i64 VP (65535 : Int))), some (.bool ((uk .i64 (wr .i64 ((rd VO (2 : Int)).toNat : Int)) (z1 .i64 (wr .i64 ((rd VO (3 : Int)).toNat : Int)) (8 : Int))) != (jG .i64 VP (65535 : Int)))), none]) hS zV rfl ?_
 intro l w ho hcl hA hst
 refine x4 hA hst ho hcl zO zW 11 [0, 1, 2, 3, 4, 5, 6, 7, 8, 9, 10] rfl rfl rfl rfl rfl (by exact ⟨nM rfl, nQ rfl (by exact qJ (u1 rfl rfl Tryz.runUnderlying9 Uk) rfl), nQ rfl (by exact qJ (yT rfl Tryz.runUnderlying5 Tryz.runUnderlying3) rfl), nM rfl, nQ rfl (by exact qJ (u1 rfl rfl Tryz.runUnderlying9 Ul) rfl), nQ rfl (by exact qJ (yT rfl Tryz.runUnderlying5 Tryz.runUnderlying3) rfl), nQ rfl (by exact qJ (shl rfl rfl rfl) rfl), nB rfl, nM rfl, nB rfl, nB rfl, trivial⟩) fun D l a w ho hcl hav hpre hm hE hk hA hst => ?_
 have hS := (Ss.mk hE hst).env2 (e' := [(34, .bool ((uk .i64 (wr .i64 ((rd VO (2 : Int)).toNat : Int)) (z1 .i64 (wr .i64 ((rd VO (3 : Int)).toNat : Int)) (8 : Int))) != (jG .i64 VP (65535 : Int))))]) ⟨rfl, trivial⟩
 refine qC rfl <| qq hS rfl Tryz.call100 (zL hG K ((uk .i64 (wr .i64 ((rd VO (2 : Int)).toNat : Int)) (z1 .i64 (wr .i64 ((rd VO (3 : Int)).toNat : Int)) (8 : Int))) != (jG .i64 VP (65535 : Int))) (3 : Int) (hS.st.part 0 [0, 1, 2] (by kernel_rfl)) (qh hM) (fun  w hM  hst => qn hS.ev hst.appF rfl fun hS => ?_) (fun v w hk hst => zY (qB (qB (⟨hS.ev.defs, hpan _ _ hk hst.appF.frame⟩)))))
 replace hS : Ss _ _ _ H [V0, VT, VU] F _ _ := hS
 refine qm ?_
 replace hst := hS.st
 obtain ⟨hcl, hmust, hav2, hA⟩ := dn (vals' := [some (qN VO), some (.int .u8 ((rd VO (2 : Int)).toNat : Int)), some (.int .i64 (wr .i64 ((rd VO (2 : Int)).toNat : Int))), some (qN VO), some (.int .u8 ((rd VO (3 : Int)).toNat : Int)), some (.int .i64 (wr .i64 ((rd VO (3 : Int)).toNat : Int))), some (.int .i64 (z1 .i64 (wr .i64 ((rd VO (3 : Int)).toNat : Int)) (8 : Int))), some (.int .i64 (uk .i64 (wr .i64 ((rd VO (2 : Int)).toNat : Int)) (z1 .i64 (wr .i64 ((rd VO (3 : Int)).toNat : Int)) (8 : Int)))), some (.int .i64 VP), some (.int .i64 (jG .i64 VP (65535 : Int))), some (.bool ((uk .i64 (wr .i64 ((rd VO (2 : Int)).toNat : Int)) (z1 .i64 (wr .i64 ((rd VO (3 : Int)).toNat : Int)) (8 : Int))) != (jG .i64 VP (65535 : Int)))), some (.tuple ⟨[]⟩)]) 11 [(10, 11), (7, 10), (9, 10), (2, 7), (6, 7), (8, 9), (1, 2), (5, 6), (0, 1), (4, 5), (3, 4)] hA hcl hav hm hpre hk rfl rfl rfl rfl rfl rfl rfl
 clear hm hav
 refine xq hA hst ho hcl hmust [] rfl rfl rfl trivial fun a w hS => ?_
 replace hS := hS.env2 (e' := [(0, qx VR 0), (4, .int .i64 VP)]) ⟨rfl, rfl, trivial⟩
 refine qc <| qe <| sM hS rfl fun hS => sO hS (xM rfl) rfl fun hS => sO hS (zz rfl Tryz.runUnderlying103 rfl Tryz.sizeOf100 rfl) rfl fun hS => sO hS (zU 1 rfl VS rfl rfl Tryz.isAgg100) rfl fun hS => sM hS rfl fun hS => qq hS rfl Tryz.call122 (jA hG K (qE.mk (qs.mk V5) VQ.Reader_.text_) VP VV V0 Up (hS.st.part 1 [0, 1, 2] (by kernel_rfl)) (qh hM) (fun Us Ut V6 V1 w hM Uq hst => qn hS.ev hst.appF rfl fun hS => ?_))
 replace hS : Ss _ _ _ H [V1, VT, VU] F _ _ := hS
 refine sM hS rfl fun hS => sO hS (ex rfl rfl) rfl fun hS => sO hS (ex rfl rfl) rfl fun hS => sA hS rfl fun hS => sA hS rfl fun hS => qm <| qe <| sM hS rfl fun hS => qq hS rfl Tryz.call121 (y8 hG K Ut (hS.st.part 0 [0, 1, 2] (by kernel_rfl)) (qh hM) (fun  w hM  hst => qn hS.ev hst.appF rfl fun hS => ?_) (fun v w hk hst => zY (qB (⟨hS.ev.defs, hpan _ _ hk hst.appF.frame⟩))))
 replace hS : Ss _ _ _ H [V1, VT, VU] F _ _ := hS
 refine qm <| wp_seq <| qM (vals := [some (qx VR 0), some (qx VR 0), some (qx VR 1), some (.slice VX VQ.out_.length VZ), some (.int .i64 (VQ.out_.length : Int)), some (.int .i64 VP), some (.int .i64 (qi ((VQ.out_.length : Int) + VP))), some (qx VR 0), some (qx VR 0), some (qx VR 2), some (.int .i64 VQ.limit_), some (.bool (decide ((qi ((VQ.out_.length : Int) + VP)) > VQ.limit_))), none]) hS zV rfl ?_
 intro l w ho hcl hA hst
 refine x4 hA hst ho hcl zO zW 12 [0, 1, 2, 3, 4, 5, 6, 7, 8, 9, 10, 11] rfl rfl rfl rfl rfl (by exact ⟨nM rfl, nQ rfl (by exact qJ (xM rfl) rfl), nQ rfl (by exact qJ (zz rfl Tryz.runUnderlying103 rfl Tryz.sizeOf44 rfl) rfl), nQ rfl (by exact qJ (zU 1 rfl VS rfl rfl Tryz.isAgg44) rfl), nQ rfl (by exact qJ (xw rfl Tryz.runUnderlying44) rfl), nM rfl, nB rfl, nM rfl, nQ rfl (by exact qJ (xM rfl) rfl), nQ rfl (by exact qJ (zz rfl Tryz.runUnderlying103 rfl Tryz.sizeOf3 rfl) rfl), nQ rfl (by exact qJ (zU 1 rfl VS rfl rfl Tryz.isAgg3) rfl), nB rfl, trivial⟩) fun D l a w ho hcl hav hpre hm hE hk hA hst => ?_
 have hS := (Ss.mk hE hst).env2 (e' := [(58, .bool (decide ((qi ((VQ.out_.length : Int) + VP)) > VQ.limit_)))]) ⟨rfl, trivial⟩
 refine qC rfl <| qq hS rfl Tryz.call100 (zL hG K (decide ((qi ((VQ.out_.length : Int) + VP)) > VQ.limit_)) (11 : Int) (hS.st.part 0 [0, 1, 2] (by kernel_rfl)) (qh hM) (fun  w hM  hst => qn hS.ev hst.appF rfl fun hS => ?_) (fun v w hk hst => zY (qB (qB (⟨hS.ev.defs, hpan _ _ hk hst.appF.frame⟩)))))
 replace hS : Ss _ _ _ H [V1, VT, VU] F _ _ := hS
 refine qm ?_
 replace hst := hS.st
 obtain ⟨hcl, hmust, hav2, hA⟩ := dn (vals' := [some (qx VR 0), some (qx VR 0), some (qx VR 1), some (.slice VX VQ.out_.length VZ), some (.int .i64 (VQ.out_.length : Int)), some (.int .i64 VP), some (.int .i64 (qi ((VQ.out_.length : Int) + VP))), some (qx VR 0), some (qx VR 0), some (qx VR 2), some (.int .i64 VQ.limit_), some (.bool (decide ((qi ((VQ.out_.length : Int) + VP)) > VQ.limit_))), some (.tuple ⟨[]⟩)]) 12 [(11, 12), (6, 11), (10, 11), (4, 6), (5, 6), (9, 10), (3, 4), (8, 9), (2, 3), (7, 8), (1, 2), (0, 1)] hA hcl hav hm hpre hk rfl rfl rfl rfl rfl rfl rfl
 clear hm hav
 refine xq hA hst ho hcl hmust [] rfl rfl rfl trivial fun a w hS => ?_
 replace hS := hS.env2 (e' := [(0, qx VR 0), (5, qN Us)]) ⟨rfl, rfl, trivial⟩
 refine qc <| zb <| sM hS rfl fun hS => sM hS rfl fun hS => sO hS (xM rfl) rfl fun hS => sO hS (zz rfl Tryz.runUnderlying103 rfl Tryz.sizeOf44 rfl) rfl fun hS => sO hS (zU 1 rfl VS rfl rfl Tryz.isAgg44) rfl fun hS => sM hS rfl fun hS => ?_
 obtain ⟨Um, hM⟩ := qt hM
 refine JR 2 hS rfl rfl Ug rfl Tryz.runUnderlying44 Tryz.runUnderlying9 X.el5 rfl Um rfl fun V4 w V7 V9 Un hz Uh hS => ?_
 have hM := qp hz hM; clear hz
 refine sO hS (xM rfl) rfl fun hS => sO hS (zz rfl Tryz.runUnderlying103 rfl Tryz.sizeOf44 rfl) rfl fun hS => Qr 1 ([qx VV 0, .slice V7 V4.length V9, .int .i64 VQ.limit_]) hS rfl rfl VS rfl rfl rfl rfl Tryz.sizeOf44 fun w Uo Uf hS => qL ?_
 exact yW (rs := []) hS rfl rfl (hret V6 V1 V7 V9 V4 Un Uo _ (qG hM) Uq Uh Uf (hS.st.pick [1, 0, 2] (by kernel_rfl)))
def qF.Own (VT : Nat) (VO : qF) (VU : qj) : Prop :=
  ∃ (VR : qj) (VP : Option Addr) (VQ : Nat) (VS : qj), VU = VR ++ VS ∧ xf VR VT ((VO.counts_.flatMap (ci .i64)) ++ [.slice VP VO.symbols_.length VQ]) 227 ∧ VO.counts_.length = 16 ∧ zM 3 (ci .i64) 1 VP VO.symbols_ VQ VS
theorem Xo {H : z7} {F : List qj} {w : World} {R : Ending → World → Prop} {kr : ((Option qF) × Int) → Prop} {kp : Value → Prop} (hG : Gl H) (K : Nat) (VO : List Int) (VT : Option Addr) (VU : Nat) (V0 : yU H [] F (ci .i64) VT VO) (Ud : VO.length ≤ VU)
    (hS : St w H [] F) (hm : (x1.m K VO).wp kr kp)
    (hret : ∀ (Ug : Option Addr) (Ul : Option qF) (Uj : qj) (Um : Int) (w : World), kr (Ul, Um) → (XX qF.Own Ug Ul Uj) → St w H [Uj] F → R (.returned (.tuple ⟨[.pointer Ug, .int .i64 Um]⟩)) w) :
    Calls Tryz.prog 148 ⟨[.slice VT VO.length VU]⟩ w R := by
 refine enter Tryz.func148 rfl Tryz.ntmps148 rfl hS fun a w hS => ?_
 have hM := hm; clear hm
 rw [x1.m] at hM
 refine qe <| sA hS rfl fun hS => sA hS rfl fun hS => qm <| wp_seq <| qe <| sM hS rfl fun hS => qq hS rfl Tryz.call137 (uE hG K VO VT VU (V0.app _) Ud (hS.st.part 0 [] (by kernel_rfl)) (qh hM) (fun UF w hM  hst => qn hS.ev hst.appF rfl fun hS => ?_))
 replace hS : Ss _ _ _ H [] F _ _ := hS
 refine sA hS rfl fun hS => qm <| qe <| sM hS rfl fun hS => sB hS rfl fun hS => qm <| qo hS rfl hM (fun Ut hM => ?_) (fun Ut hM => ?_)
 ·refine wp_seq ?_
  refine zb <| sM hS rfl fun hS => sA hS rfl fun hS => sA hS rfl fun hS => qm <| wp_ret <| qu ?_
  replace hS := hS.nilF
  exact qP (rs := [2, 3]) hS rfl rfl (hret none none ([] : qj) UF _ (qG hM) (.inl ⟨rfl, rfl, rfl⟩) (hS.st.pick [0] (by kernel_rfl)))
 ·refine wp_skip ?_
  refine qc <| qe <| sO hS (vI (((List.replicate 16 (0 : Int)).flatMap (ci .i64)) ++ [.slice none 0 0]) [(0, 16), (16, 1)] Tryz.zeroValue227 Tryz.runUnderlying227 (by intro w; simp [Tryz.sizeOf128, Tryz.sizeOf205]) rfl rfl) rfl fun hS => bx (((List.replicate 16 (0 : Int)).flatMap (ci .i64)) ++ [.slice none 0 0]) hS rfl rfl rfl fun w VW UC Un hS => ?_
  obtain ⟨Uh, Uq, hS⟩ := hS.nilV 3 (ci .i64) 1
  refine sA hS rfl fun hS => qm <| qe <| sM hS rfl fun hS => sM hS rfl fun hS => qq hS rfl Tryz.call138 (vB hG K VO VT VU (V0.app _) Ud (hS.st.part 0 [0, 1] (by kernel_rfl)) (qh hM) (fun VV UM w hM V9 hst => qn hS.ev hst.appF rfl fun hS => ?_))
  replace hS : Ss _ _ _ H [Uh, UC] F _ _ := hS
  refine sM hS rfl fun hS => sO hS (ex rfl rfl) rfl fun hS => sO hS (ex rfl rfl) rfl fun hS => sO hS (xM rfl) rfl fun hS => sO hS (zz rfl Tryz.runUnderlying227 rfl Tryz.sizeOf205 rfl) rfl fun hS => QZ (xs := (List.replicate 16 (0 : Int))) (ys := VV) (g := (ci .i64)) (pre := []) (post := [.slice none ([] : List Int).length (0)]) 1 hS rfl rfl Un rfl (by simp) rfl (zP (g := (ci .i64)) (sz := 1) (fun _ => rfl) (List.length_replicate ..)) (zP (g := (ci .i64)) (sz := 1) (fun _ => rfl) V9) (xg) Tryz.sizeOf205 fun w Ui V7 hS => ?_
  replace V7 : xf Ui VW ((VV.flatMap (ci .i64)) ++ [.slice none ([] : List Int).length (0)]) 227 := by simpa using V7
  refine qm <| wp_seq <| qe <| sA hS rfl fun hS => qm <| z3 <| q6 (fun Uf a w => ∃ (V1 : Option Addr) (V3 : Nat) (VP : (List Int)) (VX : qj) (VY : qj) (VS : Int), Ss 50 [] [(0, .slice VT VO.length VU), (5, qx VW 0), (6, .int .i64 VS)] H [VY, VX] F a w ∧ (zM 3 (ci .i64) 1 V1 VP V3 VX) ∧ (xf VY VW ((VV.flatMap (ci .i64)) ++ [.slice V1 VP.length V3]) 227) ∧ (x1.l1 K VO VV Uf VP VS).wp kr kp) K ?_ ?_ ?_
  ·exact ⟨none, 0, ([] : List Int), Uh, Ui, (1 : Int), hS.to [1, 0] (by kernel_rfl) ⟨rfl, rfl, rfl, trivial⟩, Uq, V7, hM⟩
  ·intro a w hI; obtain ⟨_, _, _, _, _, _, _, _, _, hM⟩ := hI; exact qX hM
  ·intro Uf a w hI UJ Up
   obtain ⟨V1, V3, VP, VX, VY, VS, hS, Uc, Ua, hM⟩ := hI
   rw [x1.l1] at hM
   refine wp_seq <| qe <| sM hS rfl fun hS => sB hS rfl fun hS => qm <| qo hS rfl hM (fun Uu hM => ?_) (fun Uu hM => ?_)
   ·refine wp_skip ?_
    refine qc <| wp_seq <| z3 <| qe <| sM hS rfl fun hS => sO hS (xw rfl Tryz.runUnderlying128) rfl fun hS => sM hS rfl fun hS => qm <| z3 <| q6 (fun Uk a w => ∃ (V2 : Option Addr) (V4 : Nat) (VQ : (List Int)) (V5 : qj) (V6 : qj) (VR : Int), Ss 50 [] [(0, .slice VT VO.length VU), (5, qx VW 0), (6, .int .i64 VS), (28, .slice VT VO.length VU), (29, .int .i64 (VO.length : Int)), (30, .int .i64 VR)] H [V6, V5] F a w ∧ (zM 3 (ci .i64) 1 V2 VQ V4 V5) ∧ (xf V6 VW ((VV.flatMap (ci .i64)) ++ [.slice V2 VQ.length V4]) 227) ∧ (x1.l2 K (x1.l1 K VO VV Uf) VO VS Uk VQ VR).wp kr kp) K ?_ ?_ ?_
    ·exact ⟨V1, V3, VP, VX, VY, (0 : Int), hS.to [0, 1] (by kernel_rfl) ⟨rfl, rfl, rfl, rfl, rfl, rfl, trivial⟩, Uc, Ua, hM⟩
    ·intro a w hI; obtain ⟨_, _, _, _, _, _, _, _, _, hM⟩ := hI; exact qX hM
    ·intro Uk a w hI UI Ub
     obtain ⟨V2, V4, VQ, V5, V6, VR, hS, V8, VZ, hM⟩ := hI
     rw [x1.l2] at hM
     refine qe <| sB hS rfl fun hS => qm <| wp_seq <| qo hS rfl hM (fun Uv hM => ?_) (fun Uv hM => ?_)
     ·refine wp_skip ?_
      refine qc <| wp_seq <| z3 <| qe <| sM hS rfl fun hS => ?_
      obtain ⟨Ue, hM⟩ := qt hM
      refine sO hS (xF rfl rfl Tryz.runUnderlying128 Tryz.sizeOf3 V0.wk (fun _ => rfl) rfl Ue) rfl fun hS => sO hS (xO rfl V0.wk (fun _ => rfl) Ue rfl Tryz.isAgg3) rfl fun hS => sA hS rfl fun hS => qY (v := Value.int .i64) (x0 := (rd VO VR)) hS (zE rfl) rfl fun UG a w hz hS => ?_
      have hM := qp hz hM; clear hz
      refine qm <| qe <| sM hS rfl fun hS => sM hS rfl fun hS => sB hS rfl fun hS => qm <| qo hS rfl hM (fun Uw hM => ?_) (fun Uw hM => ?_)
      ·refine zb ?_
       refine sM hS rfl fun hS => sM hS rfl fun hS => sO hS (xM rfl) rfl fun hS => sO hS (zz rfl Tryz.runUnderlying227 rfl Tryz.sizeOf128 rfl) rfl fun hS => sO hS (J5 0 rfl VZ rfl (by rfl) (zP (g := (ci .i64)) (sz := 1) (fun _ => rfl) V9) Tryz.isAgg128) rfl fun hS => sM hS rfl fun hS => Qh (g := (ci .i64)) ([VR] : List Int) [.int .i64 VR] hS Tryz.runUnderlying128 Tryz.sizeOf3 X.el3 rfl rfl rfl (by simp [Value.cells]) rfl rfl rfl rfl rfl fun w UH UK UL Ur hS => ?_
       obtain ⟨Ux, hM⟩ := qt hM
       refine QR (ys := ([VR] : List Int)) 2 hS rfl rfl V8 rfl (Ur.rd (i := 0) rfl) Tryz.runUnderlying128 Tryz.runUnderlying128 X.el3 (fun _ => rfl) rfl xg Ux rfl fun Uz w UA UB UD hz Us hS => ?_
       have hM := qp hz hM; clear hz
       refine sO hS (xM rfl) rfl fun hS => sO hS (zz rfl Tryz.runUnderlying227 rfl Tryz.sizeOf128 rfl) rfl fun hS => VG 1 hS rfl rfl VZ rfl rfl (zP (g := (ci .i64)) (sz := 1) (fun _ => rfl) V9) rfl Tryz.sizeOf128 fun w UE Uo hS => qL <| qW (qc ?_)
       refine zb <| sB hS rfl fun hS => sM hS rfl fun hS => qL <| qc ?_
       exact Ub _ _ ⟨UA, UB, Uz, UD, UE, (qi (VR + (1 : Int))), hS.to [1, 2] (by kernel_rfl) ⟨rfl, rfl, rfl, rfl, rfl, rfl, trivial⟩, Us, Uo, hM⟩
      ·refine wp_skip ?_
       refine qW (qc ?_)
       refine zb <| sB hS rfl fun hS => sM hS rfl fun hS => qL <| qc ?_
       exact Ub _ _ ⟨V2, V4, VQ, V5, V6, (qi (VR + (1 : Int))), hS.to [0, 1] (by kernel_rfl) ⟨rfl, rfl, rfl, rfl, rfl, rfl, trivial⟩, V8, VZ, hM⟩
     ·refine wp_exit ?_
      refine qv (qv (qO (qW (qc ?_))))
      refine zb <| sM hS rfl fun hS => sB hS rfl fun hS => qY (v := Value.int .i64) (x0 := (qi (VS + (1 : Int)))) hS (zE rfl) rfl fun Uy a w hz hS => ?_
      have hM := qp hz hM; clear hz
      refine qL <| qc ?_
      exact Up _ _ ⟨V2, V4, VQ, V5, V6, Uy, hS.to [0, 1] (by kernel_rfl) ⟨rfl, rfl, rfl, trivial⟩, V8, VZ, hM⟩
   ·refine wp_exit ?_
    refine qv (qv (qO (qc ?_)))
    refine qe <| sM hS rfl fun hS => sA hS rfl fun hS => sA hS rfl fun hS => qm <| wp_ret ?_
    replace hS := hS.front [0, 1] (by kernel_rfl)
    replace hS := hS.joinF
    exact qP (rs := [2, 3]) hS rfl rfl (hret (some ⟨VW, 0, none⟩) (some (qF.mk VV VP)) (VY ++ VX) (0 : Int) _ (qG hM) (.inr ⟨_, _, rfl, rfl, VY, V1, V3, VX, rfl, Ua, V9, Uc⟩) (hS.st.pick [0] (by kernel_rfl)))
theorem yy {H : z7} {F : List qj} {w : World} {R : Ending → World → Prop} {kr : (Option qF) → Prop} {kp : Value → Prop} (hG : Gl H) (K : Nat) (VO : List Int) (VP : Option Addr) (VQ : Nat) (VW : yU H [] F (ci .i64) VP VO) (VV : VO.length ≤ VQ)
    (hS : St w H [] F) (hm : (yd.m K VO).wp kr kp)
    (hret : ∀ (VS : Option Addr) (VU : Option qF) (VT : qj) (w : World), kr VU → (XX qF.Own VS VU VT) → St w H [VT] F → R (.returned (.pointer VS)) w)
    (hpan : ∀ v w, kp v → St w H [] F → R (.panicked [⟨v, false, false⟩]) w) :
    Calls Tryz.prog 125 ⟨[.slice VP VO.length VQ]⟩ w R := by
 refine enter Tryz.func125 rfl Tryz.ntmps125 rfl hS fun a w hS => ?_
 have hM := hm; clear hm
 rw [yd.m] at hM
 refine qe <| sA hS rfl fun hS => qm <| qe <| sM hS rfl fun hS => qq hS rfl Tryz.call148 (Xo hG K VO VP VQ (VW.app _) VV (hS.st.part 0 [] (by kernel_rfl)) (qh hM) (fun VX VZ VR V0 w hM VY hst => qn hS.ev hst.appF rfl fun hS => ?_))
 replace hS : Ss _ _ _ H [VR] F _ _ := hS
 refine sM hS rfl fun hS => sO hS (ex rfl rfl) rfl fun hS => sO hS (ex rfl rfl) rfl fun hS => sA hS rfl fun hS => sA hS rfl fun hS => qm <| qe <| sM hS rfl fun hS => sB hS rfl fun hS => qq hS rfl Tryz.call100 (zL hG K (V0 != (0 : Int)) (3 : Int) (hS.st.part 0 [0] (by kernel_rfl)) (qh hM) (fun  w hM  hst => qn hS.ev hst.appF rfl fun hS => ?_) (fun v w hk hst => zY (qB (⟨hS.ev.defs, hpan _ _ hk hst.appF.frame⟩))))
 replace hS : Ss _ _ _ H [VR] F _ _ := hS
 refine qm <| qe <| sM hS rfl fun hS => sA hS rfl fun hS => qm <| wp_ret ?_
 exact qP (rs := [2]) hS rfl rfl (hret VX VZ VR _ (qG hM) VY (hS.st.pick [0] (by kernel_rfl)))
theorem Qp {H : z7} {F : List qj} {w : World} {R : Ending → World → Prop} {kr : ((Option qF) × (Option qF)) → Prop} {kp : Value → Prop} (hG : Gl H) (K : Nat)
    (hS : St w H [] F) (hm : (zl.m K).wp kr kp)
    (hret : ∀ (Ur : Option Addr) (UB : Option qF) (Uy : qj) (Us : Option Addr) (UC : Option qF) (Uz : qj) (w : World), kr (UB, UC) → (XX qF.Own Ur UB Uy) → (XX qF.Own Us UC Uz) → St w H [Uy, Uz] F → R (.returned (.tuple ⟨[.pointer Ur, .pointer Us]⟩)) w)
    (hpan : ∀ v w, kp v → St w H [] F → R (.panicked [⟨v, false, false⟩]) w) :
    Calls Tryz.prog 98 ⟨[]⟩ w R := by
 refine enter Tryz.func98 rfl Tryz.ntmps98 rfl hS fun a w hS => ?_
 have hM := hm; clear hm
 rw [zl.m] at hM
 refine qe <| sA hS rfl fun hS => sA hS rfl fun hS => qm <| qe <| jz ((List.replicate 288 (0 : Int)).flatMap (ci .i64)) hS Tryz.zeroValue193 (by kernel_rfl) rfl fun w VO UR UD hS => qm <| qV (fun a w => ∃ (VP : (List Int)) (VW : qj), Ss 38 [] [(2, qx VO 0)] H [VW] F a w ∧ (VP.length = 288) ∧ (xf VW VO (VP.flatMap (ci .i64)) 193) ∧ (zl.j3 K VP).wp kr kp) (fun UZ UH => ?_) ?_
 ·refine wp_seq ?_
  refine zb <| sM hS rfl fun hS => qm <| z3 <| q6 (fun Uq a w => ∃ (VU : (List Int)) (Ue : qj) (VQ : Int), Ss 38 [] [(2, qx VO 0), (6, .int .i64 VQ)] H [Ue] F a w ∧ (VU.length = 288) ∧ (xf Ue VO (VU.flatMap (ci .i64)) 193) ∧ (zl.l1 K Uq VU VQ).wp kr kp) K ?_ ?_ ?_
  ·exact ⟨(List.replicate 288 (0 : Int)), UR, (0 : Int), hS.to [0] (by kernel_rfl) ⟨rfl, rfl, trivial⟩, (List.length_replicate ..), UD, hM⟩
  ·intro a w hI; obtain ⟨_, _, _, _, _, _, hM⟩ := hI; exact qX hM
  ·intro Uq a w hI UY Un
   obtain ⟨VU, Ue, VQ, hS, V5, Uj, hM⟩ := hI
   rw [zl.l1] at hM
   refine qe <| sB hS rfl fun hS => qm <| wp_seq <| qo hS rfl hM (fun UK hM => ?_) (fun UK hM => ?_)
   ·refine wp_skip ?_
    refine qc <| wp_seq <| z3 <| qe <| sM hS rfl fun hS => sA hS rfl fun hS => qm <| qe <| sM hS rfl fun hS => ?_
    obtain ⟨VT, hM⟩ := qt hM
    refine sO hS (ZH rfl rfl Tryz.runUnderlying193 Tryz.sizeOf3 VT) rfl fun hS => YR (xs := VU) (g := (ci .i64)) (pre := []) (post := []) 0 ((8 : Int)) hS rfl rfl Uj rfl (by simp) rfl (fun _ => rfl) (yE V5 VT) rfl Tryz.sizeOf3 (xg _) fun VZ w Ut hz VY hS => ?_
    have V6 : VZ.length = 288 := by rw [hz, List.length_set]; exact V5
    have hM := qp hz hM; clear hz
    replace VY : xf Ut VO (VZ.flatMap (ci .i64)) 193 := by simpa using VY
    refine qm <| qV (fun a w => ∃ (VV : (List Int)) (Uf : qj), Ss 38 [] [(2, qx VO 0), (3, .int .i64 VQ), (6, .int .i64 VQ)] H [Uf] F a w ∧ (VV.length = 288) ∧ (xf Uf VO (VV.flatMap (ci .i64)) 193) ∧ (zl.j2 K (zl.l1 K Uq) VQ VV).wp kr kp) (fun UX Um => ?_) ?_
    ·refine wp_seq ?_
     refine zb <| sM hS rfl fun hS => sB hS rfl fun hS => sM hS rfl fun hS => xm 2 true 13 (b := (decide (VQ ≥ (144 : Int)))) (r := (decide (VQ < (256 : Int)))) hS rfl rfl rfl rfl rfl rfl rfl (fun hb a w hS K hK => ?_) rfl fun a w hS => ?_
     ·refine qI hS rfl rfl rfl hb (mv rfl) rfl fun a w hS => ?_
      refine qI hS rfl rfl rfl hb (xN rfl rfl rfl) rfl fun a w hS => ?_
      exact qL (hK _ _ (hS.up 2 rfl rfl))
     refine qm <| qo hS rfl hM (fun UL hM => ?_) (fun UL hM => ?_)
     ·refine zb ?_
      refine sM hS rfl fun hS => sO hS (ZH rfl rfl Tryz.runUnderlying193 Tryz.sizeOf3 VT) rfl fun hS => YR (xs := VZ) (g := (ci .i64)) (pre := []) (post := []) 0 ((9 : Int)) hS rfl rfl VY rfl (by simp) rfl (fun _ => rfl) (yE V6 VT) rfl Tryz.sizeOf3 (xg _) fun Ua w Uu hz V2 hS => ?_
      have UO : Ua.length = 288 := by rw [hz, List.length_set]; exact V6
      have hM := qp hz hM; clear hz
      replace V2 : xf Uu VO (Ua.flatMap (ci .i64)) 193 := by simpa using V2
      refine qL <| qc ?_
      exact Um _ _ ⟨Ua, Uu, hS.to [0] (by kernel_rfl) ⟨rfl, rfl, rfl, trivial⟩, UO, V2, hM⟩
     ·refine wp_skip ?_
      refine qc ?_
      exact Um _ _ ⟨VZ, Ut, hS.to [0] (by kernel_rfl) ⟨rfl, rfl, rfl, trivial⟩, V6, VY, hM⟩
    ·intro a w hI
     obtain ⟨VV, Uf, hS, V7, Uk, hM⟩ := hI
     rw [zl.j2] at hM
     refine qe <| sM hS rfl fun hS => sB hS rfl fun hS => sM hS rfl fun hS => xm 2 true 21 (b := (decide (VQ ≥ (256 : Int)))) (r := (decide (VQ < (280 : Int)))) hS rfl rfl rfl rfl rfl rfl rfl (fun hb a w hS K hK => ?_) rfl fun a w hS => ?_
     ·refine qI hS rfl rfl rfl hb (mv rfl) rfl fun a w hS => ?_
      refine qI hS rfl rfl rfl hb (xN rfl rfl rfl) rfl fun a w hS => ?_
      exact qL (hK _ _ (hS.up 2 rfl rfl))
     refine qm <| qo hS rfl hM (fun UM hM => ?_) (fun UM hM => ?_)
     ·refine zb ?_
      refine sM hS rfl fun hS => sO hS (ZH rfl rfl Tryz.runUnderlying193 Tryz.sizeOf3 VT) rfl fun hS => YR (xs := VV) (g := (ci .i64)) (pre := []) (post := []) 0 ((7 : Int)) hS rfl rfl Uk rfl (by simp) rfl (fun _ => rfl) (yE V7 VT) rfl Tryz.sizeOf3 (xg _) fun Ub w Uv hz V3 hS => ?_
      have UP : Ub.length = 288 := by rw [hz, List.length_set]; exact V7
      have hM := qp hz hM; clear hz
      replace V3 : xf Uv VO (Ub.flatMap (ci .i64)) 193 := by simpa using V3
      refine qL <| qW (qc ?_)
      refine zb <| sB hS rfl fun hS => sM hS rfl fun hS => qL <| qc ?_
      exact Un _ _ ⟨Ub, Uv, (qi (VQ + (1 : Int))), hS.to [0] (by kernel_rfl) ⟨rfl, rfl, trivial⟩, UP, V3, hM⟩
     ·refine wp_skip ?_
      refine qW (qc ?_)
      refine zb <| sB hS rfl fun hS => sM hS rfl fun hS => qL <| qc ?_
      exact Un _ _ ⟨VV, Uf, (qi (VQ + (1 : Int))), hS.to [0] (by kernel_rfl) ⟨rfl, rfl, trivial⟩, V7, Uk, hM⟩
   ·refine wp_exit ?_
    refine qv (qv (qO (qc ?_)))
    exact UH _ _ ⟨VU, Ue, hS.to [0] (by kernel_rfl) ⟨rfl, trivial⟩, V5, Uj, hM⟩
 ·intro a w hI
  obtain ⟨VP, VW, hS, Up, UE, hM⟩ := hI
  rw [zl.j3] at hM
  refine qe <| jz ((List.replicate 32 (0 : Int)).flatMap (ci .i64)) hS Tryz.zeroValue194 rfl rfl fun w VR US UF hS => qm <| qV (fun a w => ∃ (VS : (List Int)) (V1 : qj), Ss 38 [] [(2, qx VO 0), (4, qx VR 0)] H [VW, V1] F a w ∧ (VS.length = 32) ∧ (xf V1 VR (VS.flatMap (ci .i64)) 194) ∧ (zl.j5 K VP VS).wp kr kp) (fun U1 UJ => ?_) ?_
  ·refine wp_seq ?_
   refine zb <| sM hS rfl fun hS => qm <| z3 <| q6 (fun UA a w => ∃ (VX : (List Int)) (Ug : qj) (Uh : Int), Ss 38 [] [(2, qx VO 0), (4, qx VR 0), (28, .int .i64 Uh)] H [VW, Ug] F a w ∧ (VX.length = 32) ∧ (xf Ug VR (VX.flatMap (ci .i64)) 194) ∧ (zl.l4 K VP UA VX Uh).wp kr kp) K ?_ ?_ ?_
   ·exact ⟨(List.replicate 32 (0 : Int)), US, (0 : Int), hS.to [1, 0] (by kernel_rfl) ⟨rfl, rfl, rfl, trivial⟩, (List.length_replicate ..), UF, hM⟩
   ·intro a w hI; obtain ⟨_, _, _, _, _, _, hM⟩ := hI; exact qX hM
   ·intro UA a w hI U0 UI
    obtain ⟨VX, Ug, Uh, hS, V8, Ul, hM⟩ := hI
    rw [zl.l4] at hM
    refine qe <| sB hS rfl fun hS => qm <| wp_seq <| qo hS rfl hM (fun UN hM => ?_) (fun UN hM => ?_)
    ·refine wp_skip ?_
     refine qc <| wp_seq <| z3 <| qe <| sM hS rfl fun hS => sA hS rfl fun hS => qm <| zb <| sM hS rfl fun hS => ?_
     obtain ⟨Uo, hM⟩ := qt hM
     refine sO hS (ZH rfl rfl Tryz.runUnderlying194 Tryz.sizeOf3 Uo) rfl fun hS => YR (xs := VX) (g := (ci .i64)) (pre := []) (post := []) 1 ((5 : Int)) hS rfl rfl Ul rfl (by simp) rfl (fun _ => rfl) (yE V8 Uo) rfl Tryz.sizeOf3 (xg _) fun Uc w Uw hz V4 hS => ?_
     have UQ : Uc.length = 32 := by rw [hz, List.length_set]; exact V8
     have hM := qp hz hM; clear hz
     replace V4 : xf Uw VR (Uc.flatMap (ci .i64)) 194 := by simpa using V4
     refine qL <| qW (qc ?_)
     refine zb <| sB hS rfl fun hS => sM hS rfl fun hS => qL <| qc ?_
     exact UI _ _ ⟨Uc, Uw, (qi (Uh + (1 : Int))), hS.to [0, 1] (by kernel_rfl) ⟨rfl, rfl, rfl, trivial⟩, UQ, V4, hM⟩
    ·refine wp_exit ?_
     refine qv (qv (qO (qc ?_)))
     exact UJ _ _ ⟨VX, Ug, hS.to [0, 1] (by kernel_rfl) ⟨rfl, rfl, trivial⟩, V8, Ul, hM⟩
  ·intro a w hI
   obtain ⟨VS, V1, hS, V9, UG, hM⟩ := hI
   rw [zl.j5] at hM
   refine wp_seq <| qM (vals := [some (.slice (some ⟨VO, 0, none⟩) VP.length (288)), none, some (.slice (some ⟨VR, 0, none⟩) VS.length (32)), none, none, none]) hS zV rfl ?_
   intro l w ho hcl hA hst
   refine x4 hA hst ho hcl zO zW 1 [0, 2] rfl rfl rfl rfl rfl (by exact ⟨nQ rfl (by exact qJ (JM rfl Tryz.runUnderlying193 Tryz.sizeOf3 Up rfl) rfl), nQ rfl (by exact qJ (JM rfl Tryz.runUnderlying194 Tryz.sizeOf3 V9 rfl) rfl), trivial⟩) fun D l a w ho hcl hav hpre hm hE hk hA hst => ?_
   have hS := (Ss.mk hE hst).env2 (e' := [(34, .slice (some ⟨VO, 0, none⟩) VP.length (288))]) ⟨rfl, trivial⟩
   refine qC rfl <| qq hS rfl Tryz.call125 (yy hG K VP (some ⟨VO, 0, none⟩) (288) (UE.rdF (i := 0) rfl rfl) (Nat.le_of_eq Up) (hS.st.part 0 [0, 1] (by kernel_rfl)) (qh hM) (fun V0 UV Ui w hM UT hst => qn hS.ev hst.appF rfl fun hS => ?_) (fun v w hk hst => zY (qB (qB (⟨hS.ev.defs, hpan _ _ hk hst.appF.frame⟩)))))
   replace hS : Ss _ _ _ H [Ui, VW, V1] F _ _ := hS
   refine qm ?_
   replace hst := hS.st
   obtain ⟨hcl, hmust, hav2, hA⟩ := dn (vals' := [some (.slice (some ⟨VO, 0, none⟩) VP.length (288)), some (.pointer V0), some (.slice (some ⟨VR, 0, none⟩) VS.length (32)), none, none, none]) 1 [(0, 1)] hA hcl hav hm hpre hk rfl rfl rfl rfl rfl rfl rfl
   clear hm hav
   refine x4 hA hst ho hcl hav2 hmust 3 [2] rfl rfl rfl rfl rfl (by exact ⟨nQ rfl (by exact qJ (JM rfl Tryz.runUnderlying194 Tryz.sizeOf3 V9 rfl) rfl), trivial⟩) fun D l a w ho hcl hav hpre hm hE hk hA hst => ?_
   have hS := (Ss.mk hE hst).env2 (e' := [(36, .slice (some ⟨VR, 0, none⟩) VS.length (32))]) ⟨rfl, trivial⟩
   refine qC rfl <| qq hS rfl Tryz.call125 (yy hG K VS (some ⟨VR, 0, none⟩) (32) (UG.rdF (i := 2) rfl rfl) (Nat.le_of_eq V9) (hS.st.part 0 [0, 1, 2] (by kernel_rfl)) (qh hM) (fun Ud UW Ux w hM UU hst => qn hS.ev hst.appF rfl fun hS => ?_) (fun v w hk hst => zY (qB (qB (⟨hS.ev.defs, hpan _ _ hk hst.appF.frame⟩)))))
   replace hS : Ss _ _ _ H [Ux, Ui, VW, V1] F _ _ := hS
   refine qm ?_
   replace hst := hS.st
   obtain ⟨hcl, hmust, hav2, hA⟩ := dn (vals' := [some (.slice (some ⟨VO, 0, none⟩) VP.length (288)), some (.pointer V0), some (.slice (some ⟨VR, 0, none⟩) VS.length (32)), some (.pointer Ud), some (.pointer V0), some (.pointer Ud)]) 3 [(1, 3), (2, 3), (0, 1)] hA hcl hav hm hpre hk rfl rfl rfl rfl rfl rfl rfl
   clear hm hav
   refine xq hA hst ho hcl hmust [4, 5] rfl rfl rfl (by exact ⟨nA rfl, nA rfl, trivial⟩) fun a w hS => ?_
   replace hS := hS.env2 (e' := [(0, .pointer V0), (1, .pointer Ud)]) ⟨rfl, rfl, trivial⟩
   refine qc <| wp_ret ?_
   exact qP (rs := [0, 1]) hS rfl rfl (hret V0 UV Ui Ud UW Ux _ (qG hM) UT UU (hS.st.pick [1, 0] (by kernel_rfl)))
theorem uF {H : z7} {F : List qj} {w : World} {R : Ending → World → Prop} {kr : (Int × Int × Int) → Prop} {kp : Value → Prop} (hG : Gl H) (K : Nat) (VR : qF) (VO : qE) (V9 : Nat) (VW : qj) (V8 : Option Addr) (Ua : Nat) (VX : qj) (VU : Nat) (Ub : qj) (V2 : xf VW V9 ((VR.counts_.flatMap (ci .i64)) ++ [.slice V8 VR.symbols_.length Ua]) 227) (V3 : VR.counts_.length = 16) (Uj : zM 3 (ci .i64) 1 V8 VR.symbols_ Ua VX) (Ug : xf Ub VU ([.int .i64 VO.place_.at_, qN VO.text_]) 151)
    (hS : St w H [VW, VX, Ub] F) (hm : (xa.m K VR VO).wp kr kp)
    (hret : ∀ (Uq : Int) (Ur : Int) (V6 : Int) (Uo : qj) (w : World), kr (Uq, Ur, V6) → (xf Uo VU ([.int .i64 V6, qN VO.text_]) 151) → St w H [Uo, VW, VX] F → R (.returned (.tuple ⟨[.int .i64 Uq, .int .i64 Ur]⟩)) w) :
    Calls Tryz.prog 147 ⟨[qx V9 0, qx VU 0]⟩ w R := by
 refine enter Tryz.func147 rfl Tryz.ntmps147 rfl hS fun a w hS => ?_
 have hM := hm; clear hm
 rw [xa.m] at hM
 refine qe <| sA hS rfl fun hS => sA hS rfl fun hS => qm <| wp_seq <| qe <| sM hS rfl fun hS => sO hS (uD rfl rfl Tryz.runUnderlying153) rfl fun hS => sM hS rfl fun hS => qI hS rfl rfl rfl rfl (mv rfl) rfl fun a w hS => qI hS rfl rfl rfl rfl (uD rfl rfl Tryz.runUnderlying100) rfl fun a w hS => sO hS (pk rfl rfl rfl) rfl fun hS => qm <| v7 hS rfl <| wp_skip <| qc <| qe <| sM hS rfl fun hS => sO hS (xM rfl) rfl fun hS => sO hS (yz 2 rfl Ug rfl ([.int .i64 VO.place_.at_, qN VO.text_]) rfl rfl Tryz.isAgg151 Tryz.sizeOf151) rfl fun hS => jz ([.int .i64 (0 : Int), qN ([] : List UInt8)]) hS Tryz.zeroValue151 rfl rfl fun w Un UJ Us hS => jn 0 ([.int .i64 VO.place_.at_, qN VO.text_]) ([.int .i64 VO.place_.at_, qN VO.text_]) hS rfl rfl Us rfl rfl Tryz.sizeOf151 (by simp [Value.oneCell']) (Nat.le_of_ble_eq_true rfl) rfl fun w Uc Uh hS => qm <| qe <| sA hS rfl fun hS => sA hS rfl fun hS => sA hS rfl fun hS => qm <| qV (fun a w => ∃ (VZ : Int) (Ue : qj), Ss 81 [] [(1, qx VU 0), (6, qx Un 0)] H [Ue, VW, VX, Uc] F a w ∧ (xf Ue VU ([.int .i64 VZ, qN VO.text_]) 151) ∧ (xa.j2 K VO VZ).wp kr kp) (fun UI Ux => ?_) ?_
 ·refine wp_seq ?_
  refine zb <| sA hS rfl fun hS => qm <| z3 <| q6 (fun Up a w => ∃ (VS : Int) (V1 : qj) (VT : Int) (VQ : Int) (VP : Int) (VV : Int), Ss 81 [] [(0, qx V9 0), (1, qx VU 0), (6, qx Un 0), (7, .int .i64 VT), (8, .int .i64 VQ), (9, .int .i64 VP), (10, .int .i64 VV)] H [V1, VW, VX, Uc] F a w ∧ (xf V1 VU ([.int .i64 VS, qN VO.text_]) 151) ∧ (xa.l1 K VR VO Up VS VT VQ VP VV).wp kr kp) K ?_ ?_ ?_
  ·exact ⟨VO.place_.at_, Ub, (0 : Int), (0 : Int), (0 : Int), (1 : Int), hS.to [3, 1, 2, 0] (by kernel_rfl) ⟨rfl, rfl, rfl, rfl, rfl, rfl, rfl, trivial⟩, Ug, hM⟩
  ·intro a w hI; obtain ⟨_, _, _, _, _, _, _, _, hM⟩ := hI; exact qX hM
  ·intro Up a w hI UH Uw
   obtain ⟨VS, V1, VT, VQ, VP, VV, hS, Ui, hM⟩ := hI
   rw [xa.l1] at hM
   refine wp_seq <| qe <| sM hS rfl fun hS => sM hS rfl fun hS => sO hS (xM rfl) rfl fun hS => sO hS (zz rfl Tryz.runUnderlying227 rfl Tryz.sizeOf128 rfl) rfl fun hS => sO hS (J5 1 rfl V2 rfl (by rfl) (zP (g := (ci .i64)) (sz := 1) (fun _ => rfl) V3) Tryz.isAgg128) rfl fun hS => sO hS (xw rfl Tryz.runUnderlying128) rfl fun hS => sB hS rfl fun hS => qm <| qo hS rfl hM (fun Uy hM => ?_) (fun Uy hM => ?_)
   ·refine wp_skip ?_
    refine qc <| wp_seq <| z3 <| qe <| sM hS rfl fun hS => qq hS rfl Tryz.call120 (jM hG K (qE.mk (qs.mk VS) VO.text_) (1 : Int) VU V1 Ui (hS.st.part 1 [0, 1, 2, 3] (by kernel_rfl)) (qh hM) (fun UF UG V5 Ud w hM Uf hst => qn hS.ev hst.appF rfl fun hS => ?_))
    replace hS : Ss _ _ _ H [Ud, VW, VX, Uc] F _ _ := hS
    refine sM hS rfl fun hS => sO hS (ex rfl rfl) rfl fun hS => sO hS (ex rfl rfl) rfl fun hS => sA hS rfl fun hS => sA hS rfl fun hS => qm <| wp_seq <| qe <| sM hS rfl fun hS => sB hS rfl fun hS => qm <| qo hS rfl hM (fun Uz hM => ?_) (fun Uz hM => ?_)
    ·refine wp_seq ?_
     refine zb <| sM hS rfl fun hS => sO hS (yz 3 rfl Uh rfl ([.int .i64 VO.place_.at_, qN VO.text_]) rfl rfl Tryz.isAgg151 Tryz.sizeOf151) rfl fun hS => sO hS (xM rfl) rfl fun hS => jn 0 ([.int .i64 VO.place_.at_, qN VO.text_]) ([.int .i64 VO.place_.at_, qN VO.text_]) hS rfl rfl Uf rfl rfl Tryz.sizeOf151 (by simp [Value.oneCell']) (Nat.le_of_ble_eq_true rfl) rfl fun w UC Ut hS => qm <| qe <| sM hS rfl fun hS => sA hS rfl fun hS => sA hS rfl fun hS => qm <| wp_ret <| qu (zc (qu (qu (zc (qu ?_)))))
     exact qP (rs := [4, 5]) hS rfl rfl (hret (0 : Int) UG VO.place_.at_ UC _ (qG hM) Ut (hS.st.pick [0, 1, 2] (by kernel_rfl)))
    ·refine wp_skip ?_
     refine qc <| qe <| sM hS rfl fun hS => sO hS (shl rfl rfl rfl) rfl fun hS => sM hS rfl fun hS => sO hS (yT rfl Tryz.runUnderlying56 Tryz.runUnderlying3) rfl fun hS => sB hS rfl fun hS => qY (v := Value.int .i64) (x0 := (uk .i64 (z1 .i64 VT (1 : Int)) (wr .i64 UF))) hS (zE rfl) rfl fun V0 a w hz hS => ?_
     have hM := qp hz hM; clear hz
     refine qm <| qe <| sM hS rfl fun hS => sO hS (shl rfl rfl rfl) rfl fun hS => qY (v := Value.int .i64) (x0 := (z1 .i64 VQ (1 : Int))) hS (zE rfl) rfl fun VY a w hz hS => ?_
     have hM := qp hz hM; clear hz
     refine qm <| qe <| sM hS rfl fun hS => sM hS rfl fun hS => sO hS (xM rfl) rfl fun hS => sO hS (zz rfl Tryz.runUnderlying227 rfl Tryz.sizeOf205 rfl) rfl fun hS => ?_
     obtain ⟨Uk, hM⟩ := qt hM
     refine sO hS (ZH rfl rfl Tryz.runUnderlying205 Tryz.sizeOf3 Uk) rfl fun hS => sO hS (Jz (xs := VR.counts_) (g := (ci .i64)) (pre := []) (post := [.slice V8 VR.symbols_.length Ua]) 1 rfl V2 rfl (by simp) rfl (fun _ => rfl) (yE V3 Uk) rfl Tryz.isAgg3) rfl fun hS => qY (v := Value.int .i64) (x0 := (rd VR.counts_ VV)) hS (zE rfl) rfl fun Um a w hz hS => ?_
     have hM := qp hz hM; clear hz
     refine qm <| wp_seq <| qe <| sM hS rfl fun hS => sM hS rfl fun hS => sB hS rfl fun hS => sM hS rfl fun hS => sB hS rfl fun hS => qm <| qo hS rfl hM (fun UA hM => ?_) (fun UA hM => ?_)
     ·refine wp_seq ?_
      refine zb <| sM hS rfl fun hS => sO hS (xM rfl) rfl fun hS => sO hS (zz rfl Tryz.runUnderlying227 rfl Tryz.sizeOf128 rfl) rfl fun hS => sO hS (J5 1 rfl V2 rfl (by rfl) (zP (g := (ci .i64)) (sz := 1) (fun _ => rfl) V3) Tryz.isAgg128) rfl fun hS => sM hS rfl fun hS => sM hS rfl fun hS => sB hS rfl fun hS => sM hS rfl fun hS => sB hS rfl fun hS => ?_
      obtain ⟨Ul, hM⟩ := qt hM
      refine sO hS (xF rfl rfl Tryz.runUnderlying128 Tryz.sizeOf3 (Uj.rd (i := 2) rfl) (fun _ => rfl) rfl Ul) rfl fun hS => sO hS (xO rfl (Uj.rd (i := 2) rfl) (fun _ => rfl) Ul rfl Tryz.isAgg3) rfl fun hS => qY (v := Value.int .i64) (x0 := (rd VR.symbols_ (qi ((qi (VP + V0)) - VY)))) hS (zE rfl) rfl fun UE a w hz hS => ?_
      have hM := qp hz hM; clear hz
      refine sA hS rfl fun hS => qm <| wp_ret <| qu (zc (qu (qu (zc (qu ?_)))))
      exact qP (rs := [4, 5]) hS rfl rfl (hret UE (0 : Int) V5 Ud _ (qG hM) Uf (hS.st.pick [0, 1, 2] (by kernel_rfl)))
     ·refine wp_skip ?_
      refine qc <| qe <| sM hS rfl fun hS => sM hS rfl fun hS => sB hS rfl fun hS => qY (v := Value.int .i64) (x0 := (qi (VY + Um))) hS (zE rfl) rfl fun V7 a w hz hS => ?_
      have hM := qp hz hM; clear hz
      refine qm <| zb <| sM hS rfl fun hS => sM hS rfl fun hS => sB hS rfl fun hS => qY (v := Value.int .i64) (x0 := (qi (VP + Um))) hS (zE rfl) rfl fun V4 a w hz hS => ?_
      have hM := qp hz hM; clear hz
      refine qL <| qW (qc ?_)
      refine zb <| sM hS rfl fun hS => sB hS rfl fun hS => qY (v := Value.int .i64) (x0 := (qi (VV + (1 : Int)))) hS (zE rfl) rfl fun UB a w hz hS => ?_
      have hM := qp hz hM; clear hz
      refine qL <| qc ?_
      exact Uw _ _ ⟨V5, Ud, V0, V7, V4, UB, hS.to [0, 1, 2, 3] (by kernel_rfl) ⟨rfl, rfl, rfl, rfl, rfl, rfl, rfl, trivial⟩, Uf, hM⟩
   ·refine wp_exit ?_
    refine qv (qv (qO (qc ?_)))
    exact Ux _ _ ⟨VS, V1, hS.to [0, 1, 2, 3] (by kernel_rfl) ⟨rfl, rfl, trivial⟩, Ui, hM⟩
 ·intro a w hI
  obtain ⟨VZ, Ue, hS, Uu, hM⟩ := hI
  rw [xa.j2] at hM
  refine qe <| sM hS rfl fun hS => sO hS (yz 3 rfl Uh rfl ([.int .i64 VO.place_.at_, qN VO.text_]) rfl rfl Tryz.isAgg151 Tryz.sizeOf151) rfl fun hS => sO hS (xM rfl) rfl fun hS => jn 0 ([.int .i64 VO.place_.at_, qN VO.text_]) ([.int .i64 VO.place_.at_, qN VO.text_]) hS rfl rfl Uu rfl rfl Tryz.sizeOf151 (by simp [Value.oneCell']) (Nat.le_of_ble_eq_true rfl) rfl fun w UD Uv hS => qm <| qe <| sA hS rfl fun hS => sA hS rfl fun hS => qm <| wp_ret ?_
  exact qP (rs := [4, 5]) hS rfl rfl (hret (0 : Int) (3 : Int) VO.place_.at_ UD _ (qG hM) Uv (hS.st.pick [0, 1, 2] (by kernel_rfl)))
theorem ym {H : z7} {F : List qj} {w : World} {R : Ending → World → Prop} {kr : (Int × Int) → Prop} {kp : Value → Prop} (hG : Gl H) (K : Nat) (VO : qw) (VR : qF) (V3 : Nat) (VS : qj) (VV : Nat) (VZ : qj) (V2 : Option Addr) (V4 : Nat) (VT : qj) (VX : Nat) (VP : qj) (VW : Option Addr) (VY : Nat) (VQ : qj) (V7 : xf VS V3 ([qx VV 0, .slice V2 VO.out_.length V4, .int .i64 VO.limit_]) 103) (V8 : xf VZ VV ([.int .i64 VO.Reader_.place_.at_, qN VO.Reader_.text_]) 151) (Uf : zM 5 (ci .u8) 1 V2 VO.out_ V4 VT) (V9 : xf VP VX ((VR.counts_.flatMap (ci .i64)) ++ [.slice VW VR.symbols_.length VY]) 227) (Ub : VR.counts_.length = 16) (Ua : zM 3 (ci .i64) 1 VW VR.symbols_ VY VQ)
    (hS : St w H [VS, VZ, VT, VP, VQ] F) (hm : (xJ.m K VO VR).wp kr kp)
    (hret : ∀ (V6 : Int) (VU : Int) (V5 : qj) (w : World), kr (V6, VU) → (xf V5 VV ([.int .i64 VU, qN VO.Reader_.text_]) 151) → St w H [VP, VQ, VS, V5, VT] F → R (.returned (.int .i64 V6)) w)
    (hpan : ∀ v w, kp v → St w H [] F → R (.panicked [⟨v, false, false⟩]) w) :
    Calls Tryz.prog 123 ⟨[qx V3 0, qx VX 0]⟩ w R := by
 refine enter Tryz.func123 rfl Tryz.ntmps123 rfl hS fun a w hS => ?_
 have hM := hm; clear hm
 rw [xJ.m] at hM
 refine qe <| sA hS rfl fun hS => qm <| qe <| sM hS rfl fun hS => sM hS rfl fun hS => sO hS (xM rfl) rfl fun hS => sO hS (zz rfl Tryz.runUnderlying103 rfl Tryz.sizeOf100 rfl) rfl fun hS => sO hS (zU 0 rfl V7 rfl rfl Tryz.isAgg100) rfl fun hS => qq hS rfl Tryz.call147 (uF hG K VR VO.Reader_ VX VP VW VY VQ VV VZ V9 Ub Ua V8 (hS.st.part 3 [3, 4, 1, 0, 2] (by kernel_rfl)) (qh hM) (fun Ud Ue V1 V0 w hM Uc hst => qn hS.ev hst.appF rfl fun hS => ?_))
 replace hS : Ss _ _ _ H [V0, VP, VQ, VS, VT] F _ _ := hS
 refine sM hS rfl fun hS => sO hS (ex rfl rfl) rfl fun hS => sO hS (ex rfl rfl) rfl fun hS => sA hS rfl fun hS => sA hS rfl fun hS => qm <| qe <| sM hS rfl fun hS => qq hS rfl Tryz.call121 (y8 hG K Ue (hS.st.part 0 [0, 1, 2, 3, 4] (by kernel_rfl)) (qh hM) (fun  w hM  hst => qn hS.ev hst.appF rfl fun hS => ?_) (fun v w hk hst => zY (qB (⟨hS.ev.defs, hpan _ _ hk hst.appF.frame⟩))))
 replace hS : Ss _ _ _ H [V0, VP, VQ, VS, VT] F _ _ := hS
 refine qm <| qe <| sM hS rfl fun hS => sA hS rfl fun hS => qm <| wp_ret ?_
 exact qP (rs := [4]) hS rfl rfl (hret Ud V1 V0 _ (qG hM) Uc (hS.st.pick [1, 2, 3, 0, 4] (by kernel_rfl)))
theorem jt {H : z7} {F : List qj} {w : World} {R : Ending → World → Prop} {kr : (Int × Int) → Prop} {kp : Value → Prop} (hG : Gl H) (K : Nat) (VP : qw) (VO : xc) (VQ : Nat) (VR : qj) (VV : Nat) (VZ : qj) (VX : Option Addr) (VY : Nat) (VS : qj) (V7 : xf VR VQ ([qx VV 0, .slice VX VP.out_.length VY, .int .i64 VP.limit_]) 103) (V8 : xf VZ VV ([.int .i64 VP.Reader_.place_.at_, qN VP.Reader_.text_]) 151) (V9 : zM 5 (ci .u8) 1 VX VP.out_ VY VS)
    (hS : St w H [VR, VZ, VS] F) (hm : (yt.m K VP VO).wp kr kp)
    (hret : ∀ (V6 : Int) (VU : Int) (V5 : qj) (w : World), kr (V6, VU) → (xf V5 VV ([.int .i64 VU, qN VP.Reader_.text_]) 151) → St w H [VR, V5, VS] F → R (.returned (.int .i64 V6)) w)
    (hpan : ∀ v w, kp v → St w H [] F → R (.panicked [⟨v, false, false⟩]) w) :
    Calls Tryz.prog 124 ⟨[qx VQ 0, .agg ⟨[.int .i64 VO.from_, .int .i64 VO.bits_]⟩]⟩ w R := by
 refine enter Tryz.func124 rfl Tryz.ntmps124 rfl hS fun a w hS => ?_
 have hM := hm; clear hm
 rw [yt.m] at hM
 refine qe <| bx ([.int .i64 VO.from_, .int .i64 VO.bits_]) hS rfl rfl rfl fun w VW Ua VT hS => sA hS rfl fun hS => qm <| wp_seq <| qM (vals := [some (qx VW 0), some (.int .i64 VO.from_), some (qx VQ 0), some (qx VW 1), some (.int .i64 VO.bits_), none, none, none]) hS zV rfl ?_
 intro l w ho hcl hA hst
 refine x4 hA hst ho hcl zO zW 5 [0, 1, 2, 3, 4] rfl rfl rfl rfl rfl (by exact ⟨nQ rfl (by exact qJ (zz rfl Tryz.runUnderlying190 rfl Tryz.sizeOf3 rfl) rfl), nQ rfl (by exact qJ (zU 0 rfl VT rfl rfl Tryz.isAgg3) rfl), nM rfl, nQ rfl (by exact qJ (zz rfl Tryz.runUnderlying190 rfl Tryz.sizeOf3 rfl) rfl), nQ rfl (by exact qJ (zU 0 rfl VT rfl rfl Tryz.isAgg3) rfl), trivial⟩) fun D l a w ho hcl hav hpre hm hE hk hA hst => ?_
 have hS := (Ss.mk hE hst).env2 (e' := [(7, qx VQ 0), (9, .int .i64 VO.bits_)]) ⟨rfl, rfl, trivial⟩
 refine qC rfl <| qq hS rfl Tryz.call95 (zD hG K VP VO.bits_ VQ VR VV VZ VX VY VS V7 V8 V9 (hS.st.part 3 [1, 2, 3, 0] (by kernel_rfl)) (qh hM) (fun V2 V3 V4 w hM Ub hst => qn hS.ev hst.appF rfl fun hS => ?_) (fun v w hk hst => zY (qB (qB (⟨hS.ev.defs, hpan _ _ hk hst.appF.frame⟩)))))
 replace hS : Ss _ _ _ H [VR, V4, VS, Ua] F _ _ := hS
 refine qm ?_
 replace hst := hS.st
 obtain ⟨V1, V0⟩ : ∃ x, x = (qi (VO.from_ + V2)) := ⟨_, rfl⟩
 replace hM := qp V0 hM
 obtain ⟨hcl, hmust, hav2, hA⟩ := dn (vals' := [some (qx VW 0), some (.int .i64 VO.from_), some (qx VQ 0), some (qx VW 1), some (.int .i64 VO.bits_), some (.int .i64 V2), some (.int .i64 (qi (VO.from_ + V2))), some (.int .i64 V1)]) 5 [(2, 5), (4, 5), (3, 4)] hA hcl hav hm hpre hk rfl rfl rfl rfl rfl rfl rfl
 clear hm hav
 refine xq hA hst ho hcl hmust [0, 1, 6, 7] rfl rfl rfl (by exact ⟨nQ rfl (by exact qJ (zz rfl Tryz.runUnderlying190 rfl Tryz.sizeOf3 rfl) rfl), nQ rfl (by exact qJ (zU 3 rfl VT rfl rfl Tryz.isAgg3) rfl), nB rfl, nQ rfl (by exact qJ (zE rfl) (congrArg (Value.int .i64) V0.symm)), trivial⟩) fun a w hS => ?_
 replace hS := hS.env2 (e' := [(4, .int .i64 V1)]) ⟨rfl, trivial⟩
 refine qc <| wp_ret ?_
 exact qP (rs := [4]) hS rfl rfl (hret V1 V3 V4 _ (qG hM) Ub (hS.st.pick [0, 1, 2] (by kernel_rfl)))
theorem yV {H : z7} {F : List qj} {w : World} {R : Ending → World → Prop} {kr : (Int × (List Int)) → Prop} {kp : Value → Prop} (hG : Gl H) (K : Nat) (VR : qw) (VS : qF) (VY : qF) (VP : Nat) (UA : qj) (V5 : Nat) (UB : qj) (Uu : Option Addr) (Ux : Nat) (UC : qj) (Ub : Nat) (V0 : qj) (Uv : Option Addr) (Uy : Nat) (V1 : qj) (Uc : Nat) (V2 : qj) (Uw : Option Addr) (Uz : Nat) (V3 : qj) (UX : xf UA VP ([qx V5 0, .slice Uu VR.out_.length Ux, .int .i64 VR.limit_]) 103) (UY : xf UB V5 ([.int .i64 VR.Reader_.place_.at_, qN VR.Reader_.text_]) 151) (U5 : zM 5 (ci .u8) 1 Uu VR.out_ Ux UC) (UZ : xf V0 Ub ((VS.counts_.flatMap (ci .i64)) ++ [.slice Uv VS.symbols_.length Uy]) 227) (Kh : VS.counts_.length = 16) (U6 : zM 3 (ci .i64) 1 Uv VS.symbols_ Uy V1) (U0 : xf V2 Uc ((VY.counts_.flatMap (ci .i64)) ++ [.slice Uw VY.symbols_.length Uz]) 227) (Ki : VY.counts_.length = 16) (U7 : zM 3 (ci .i64) 1 Uw VY.symbols_ Uz V3)
    (hS : St w H [UA, UB, UC, V0, V1, V2, V3] F) (hm : (zj.m K VR VS VY).wp kr kp)
    (hret : ∀ (Up : Int) (UT : qj) (UP : Option Addr) (UR : Nat) (Ui : (List Int)) (UU : qj) (UV : qj) (w : World), kr (Up, Ui) → (xf UT V5 ([.int .i64 Up, qN VR.Reader_.text_]) 151) → (zM 5 (ci .u8) 1 UP Ui UR UU) → (xf UV VP ([qx V5 0, .slice UP Ui.length UR, .int .i64 VR.limit_]) 103) → St w H [V2, V3, V0, V1, UV, UT, UU] F → R (.returned (.tuple ⟨[]⟩)) w)
    (hpan : ∀ v w, kp v → St w H [] F → R (.panicked [⟨v, false, false⟩]) w) :
    Calls Tryz.prog 97 ⟨[qx VP 0, qx Ub 0, qx Uc 0]⟩ w R := by
 refine enter Tryz.func97 rfl Tryz.ntmps97 rfl hS fun a w hS => ?_
 have hM := hm; clear hm
 rw [zj.m] at hM
 refine z3 <| q6 (fun UJ a w => ∃ (Ud : Int) (Ur : qj) (V4 : Option Addr) (V6 : Nat) (VQ : (List Int)) (VV : qj) (VW : qj), Ss 108 [] [(0, qx VP 0), (1, qx Ub 0), (2, qx Uc 0)] H [V2, V3, V0, V1, VW, Ur, VV] F a w ∧ (xf Ur V5 ([.int .i64 Ud, qN VR.Reader_.text_]) 151) ∧ (zM 5 (ci .u8) 1 V4 VQ V6 VV) ∧ (xf VW VP ([qx V5 0, .slice V4 VQ.length V6, .int .i64 VR.limit_]) 103) ∧ (zj.l1 K VR VS VY UJ Ud VQ).wp kr kp) K ?_ ?_ ?_
 ·exact ⟨VR.Reader_.place_.at_, UB, Uu, Ux, VR.out_, UC, UA, hS.to [5, 6, 3, 4, 0, 1, 2] (by kernel_rfl) ⟨rfl, rfl, rfl, trivial⟩, UY, U5, UX, hM⟩
 ·intro a w hI; obtain ⟨_, _, _, _, _, _, _, _, _, _, _, hM⟩ := hI; exact qX hM
 ·intro UJ a w hI Ks UF
  obtain ⟨Ud, Ur, V4, V6, VQ, VV, VW, hS, U1, V8, VX, hM⟩ := hI
  rw [zj.l1] at hM
  refine z3 <| qe <| sM hS rfl fun hS => sM hS rfl fun hS => qq hS rfl Tryz.call123 (ym hG K (qw.mk (qE.mk (qs.mk Ud) VR.Reader_.text_) VQ VR.limit_) VS VP VW V5 Ur V4 V6 VV Ub V0 Uv Uy V1 VX U1 V8 UZ Kh U6 (hS.st.part 5 [4, 5, 6, 2, 3, 0, 1] (by kernel_rfl)) (qh hM) (fun V9 Ug Uf w hM UE hst => qn hS.ev hst.appF rfl fun hS => ?_) (fun v w hk hst => zY (qB (zu (qB (zu (⟨hS.ev.defs, hpan _ _ hk hst.appF.frame⟩)))))))
  replace hS : Ss _ _ _ H [V0, V1, VW, Uf, VV, V2, V3] F _ _ := hS
  refine sA hS rfl fun hS => qm <| wp_seq <| z3 <| qe <| sM hS rfl fun hS => sB hS rfl fun hS => qY (v := Value.bool) (x0 := (V9 == (256 : Int))) hS (zE rfl) rfl fun Kw a w hz hS => ?_
  have hM := qp hz hM; clear hz
  refine qm <| qo hS rfl hM (fun Kc hM => ?_) (fun Kc hM => ?_)
  ·refine wp_ret ?_
   refine zc (qu (zc (qu (zc ?_))))
   exact qP (rs := []) hS rfl rfl (hret Ug Uf V4 V6 VQ VV VW _ (qG hM) UE V8 VX (hS.st.pick [5, 6, 0, 1, 2, 3, 4] (by kernel_rfl)))
  ·refine wp_seq ?_
   refine zb <| sM hS rfl fun hS => sB hS rfl fun hS => qY (v := Value.bool) (x0 := (decide (V9 < (256 : Int)))) hS (zE rfl) rfl fun Kx a w hz hS => ?_
   have hM := qp hz hM; clear hz
   refine qm <| qo hS rfl hM (fun Kd hM => ?_) (fun Kd hM => ?_)
   ·refine wp_seq ?_
    refine qM (vals := [some (qx VP 0), some (qx VP 0), some (qx VP 1), some (.slice V4 VQ.length V6), some (.int .i64 (VQ.length : Int)), some (qx VP 0), some (qx VP 0), some (qx VP 2), some (.int .i64 VR.limit_), some (.bool ((VQ.length : Int) == VR.limit_)), none]) hS zV rfl ?_
    intro l w ho hcl hA hst
    refine x4 hA hst ho hcl zO zW 10 [0, 1, 2, 3, 4, 5, 6, 7, 8, 9] rfl rfl rfl rfl rfl (by exact ⟨nM rfl, nQ rfl (by exact qJ (xM rfl) rfl), nQ rfl (by exact qJ (zz rfl Tryz.runUnderlying103 rfl Tryz.sizeOf44 rfl) rfl), nQ rfl (by exact qJ (zU 2 rfl VX rfl rfl Tryz.isAgg44) rfl), nQ rfl (by exact qJ (xw rfl Tryz.runUnderlying44) rfl), nM rfl, nQ rfl (by exact qJ (xM rfl) rfl), nQ rfl (by exact qJ (zz rfl Tryz.runUnderlying103 rfl Tryz.sizeOf3 rfl) rfl), nQ rfl (by exact qJ (zU 2 rfl VX rfl rfl Tryz.isAgg3) rfl), nB rfl, trivial⟩) fun D l a w ho hcl hav hpre hm hE hk hA hst => ?_
    have hS := (Ss.mk hE hst).env2 (e' := [(28, .bool ((VQ.length : Int) == VR.limit_))]) ⟨rfl, trivial⟩
    refine qC rfl <| qq hS rfl Tryz.call100 (zL hG K ((VQ.length : Int) == VR.limit_) (11 : Int) (hS.st.part 0 [0, 1, 2, 3, 4, 5, 6] (by kernel_rfl)) (qh hM) (fun  w hM  hst => qn hS.ev hst.appF rfl fun hS => ?_) (fun v w hk hst => zY (qB (qB (zu (qB (zu (qB (zu (⟨hS.ev.defs, hpan _ _ hk hst.appF.frame⟩))))))))))
    replace hS : Ss _ _ _ H [V0, V1, VW, Uf, VV, V2, V3] F _ _ := hS
    refine qm ?_
    replace hst := hS.st
    obtain ⟨hcl, hmust, hav2, hA⟩ := dn (vals' := [some (qx VP 0), some (qx VP 0), some (qx VP 1), some (.slice V4 VQ.length V6), some (.int .i64 (VQ.length : Int)), some (qx VP 0), some (qx VP 0), some (qx VP 2), some (.int .i64 VR.limit_), some (.bool ((VQ.length : Int) == VR.limit_)), some (.tuple ⟨[]⟩)]) 10 [(9, 10), (4, 9), (8, 9), (3, 4), (7, 8), (2, 3), (6, 7), (1, 2), (5, 6), (0, 1)] hA hcl hav hm hpre hk rfl rfl rfl rfl rfl rfl rfl
    clear hm hav
    refine xq hA hst ho hcl hmust [] rfl rfl rfl trivial fun a w hS => ?_
    replace hS := hS.env2 (e' := [(0, qx VP 0), (1, qx Ub 0), (2, qx Uc 0), (6, .int .i64 V9)]) ⟨rfl, rfl, rfl, rfl, trivial⟩
    refine qc <| qe <| sM hS rfl fun hS => sM hS rfl fun hS => sO hS (xM rfl) rfl fun hS => sO hS (zz rfl Tryz.runUnderlying103 rfl Tryz.sizeOf44 rfl) rfl fun hS => sO hS (zU 2 rfl VX rfl rfl Tryz.isAgg44) rfl fun hS => sM hS rfl fun hS => sO hS (yT rfl Tryz.runUnderlying3 Tryz.runUnderlying5) rfl fun hS => Qh (g := (ci .u8)) ([(wr .u8 V9)] : List Int) [.int .u8 (wr .u8 V9)] hS Tryz.runUnderlying44 Tryz.sizeOf5 X.el5 rfl rfl rfl (by simp [Value.cells]) rfl rfl rfl rfl rfl fun w Kq Kt Ku U8 hS => ?_
    obtain ⟨Kf, hM⟩ := qt hM
    refine QR (ys := ([(wr .u8 V9)] : List Int)) 5 hS rfl rfl V8 rfl (U8.rd (i := 0) rfl) Tryz.runUnderlying44 Tryz.runUnderlying44 X.el5 (fun _ => rfl) rfl jc Kf rfl fun UL w UO UQ Kj hz U9 hS => ?_
    have hM := qp hz hM; clear hz
    refine sO hS (xM rfl) rfl fun hS => sO hS (zz rfl Tryz.runUnderlying103 rfl Tryz.sizeOf44 rfl) rfl fun hS => Qr 3 ([qx V5 0, .slice UO UL.length UQ, .int .i64 VR.limit_]) hS rfl rfl VX rfl rfl rfl rfl Tryz.sizeOf44 fun w Kk U2 hS => qm <| wp_exit <| Zk rfl (qv (qO (qc ?_)))
    exact UF _ _ ⟨Ug, Uf, UO, UQ, UL, Kj, Kk, hS.to [6, 7, 1, 2, 3, 4, 5] (by kernel_rfl) ⟨rfl, rfl, rfl, trivial⟩, UE, U9, U2, hM⟩
   ·refine wp_skip ?_
    refine qW (qc ?_)
    refine qe <| sM hS rfl fun hS => sB hS rfl fun hS => qq hS rfl Tryz.call100 (zL hG K (decide (V9 ≥ (286 : Int))) (3 : Int) (hS.st.part 0 [0, 1, 2, 3, 4, 5, 6] (by kernel_rfl)) (qh hM) (fun  w hM  hst => qn hS.ev hst.appF rfl fun hS => ?_) (fun v w hk hst => zY (qB (zu (qB (zu (⟨hS.ev.defs, hpan _ _ hk hst.appF.frame⟩)))))))
    replace hS : Ss _ _ _ H [V0, V1, VW, Uf, VV, V2, V3] F _ _ := hS
    refine qm <| qe <| sM hS rfl fun hS => sM hS rfl fun hS => sB hS rfl fun hS => ?_
    obtain ⟨UG, hM⟩ := qt hM
    refine sO hS (ZH rfl rfl Tryz.runUnderlying191 Tryz.sizeOf190 UG) rfl fun hS => sO hS (Jy rfl hG.g3 (fun _ => rfl) UG Tryz.isAgg190 Tryz.sizeOf190) rfl fun hS => qq hS rfl Tryz.call124 (jt hG K (qw.mk (qE.mk (qs.mk Ug) VR.Reader_.text_) VQ VR.limit_) (xc.mk ((rd tab_inflate_lengths (qi (V9 - (257 : Int)))).from_) ((rd tab_inflate_lengths (qi (V9 - (257 : Int)))).bits_)) VP VW V5 Uf V4 V6 VV VX UE V8 (hS.st.part 3 [2, 3, 4, 0, 1, 5, 6] (by kernel_rfl)) (qh hM) (fun V7 UM US w hM Kn hst => qn hS.ev hst.appF rfl fun hS => ?_) (fun v w hk hst => zY (qB (zu (qB (zu (⟨hS.ev.defs, hpan _ _ hk hst.appF.frame⟩)))))))
    replace hS : Ss _ _ _ H [VW, US, VV, V0, V1, V2, V3] F _ _ := hS
    refine sA hS rfl fun hS => qm <| qe <| sM hS rfl fun hS => sM hS rfl fun hS => qq hS rfl Tryz.call123 (ym hG K (qw.mk (qE.mk (qs.mk UM) VR.Reader_.text_) VQ VR.limit_) VY VP VW V5 US V4 V6 VV Uc V2 Uw Uz V3 VX Kn V8 U0 Ki U7 (hS.st.part 5 [0, 1, 2, 5, 6, 3, 4] (by kernel_rfl)) (qh hM) (fun UK UN UD w hM Ko hst => qn hS.ev hst.appF rfl fun hS => ?_) (fun v w hk hst => zY (qB (zu (qB (zu (⟨hS.ev.defs, hpan _ _ hk hst.appF.frame⟩)))))))
    replace hS : Ss _ _ _ H [V2, V3, VW, UD, VV, V0, V1] F _ _ := hS
    refine sA hS rfl fun hS => qm <| qe <| sM hS rfl fun hS => sB hS rfl fun hS => qq hS rfl Tryz.call100 (zL hG K (decide (UK ≥ (30 : Int))) (3 : Int) (hS.st.part 0 [0, 1, 2, 3, 4, 5, 6] (by kernel_rfl)) (qh hM) (fun  w hM  hst => qn hS.ev hst.appF rfl fun hS => ?_) (fun v w hk hst => zY (qB (zu (qB (zu (⟨hS.ev.defs, hpan _ _ hk hst.appF.frame⟩)))))))
    replace hS : Ss _ _ _ H [V2, V3, VW, UD, VV, V0, V1] F _ _ := hS
    refine qm <| qe <| sM hS rfl fun hS => sM hS rfl fun hS => ?_
    obtain ⟨UH, hM⟩ := qt hM
    refine sO hS (ZH rfl rfl Tryz.runUnderlying192 Tryz.sizeOf190 UH) rfl fun hS => sO hS (Jy rfl hG.g4 (fun _ => rfl) UH Tryz.isAgg190 Tryz.sizeOf190) rfl fun hS => qq hS rfl Tryz.call124 (jt hG K (qw.mk (qE.mk (qs.mk UN) VR.Reader_.text_) VQ VR.limit_) (xc.mk ((rd tab_inflate_distances UK).from_) ((rd tab_inflate_distances UK).bits_)) VP VW V5 UD V4 V6 VV VX Ko V8 (hS.st.part 3 [2, 3, 4, 0, 1, 5, 6] (by kernel_rfl)) (qh hM) (fun VT Uo Ul w hM Kp hst => qn hS.ev hst.appF rfl fun hS => ?_) (fun v w hk hst => zY (qB (zu (qB (zu (⟨hS.ev.defs, hpan _ _ hk hst.appF.frame⟩)))))))
    replace hS : Ss _ _ _ H [VW, Ul, VV, V2, V3, V0, V1] F _ _ := hS
    refine sA hS rfl fun hS => qm <| qe <| sM hS rfl fun hS => sM hS rfl fun hS => sO hS (xM rfl) rfl fun hS => sO hS (zz rfl Tryz.runUnderlying103 rfl Tryz.sizeOf44 rfl) rfl fun hS => sO hS (zU 0 rfl VX rfl rfl Tryz.isAgg44) rfl fun hS => sO hS (xw rfl Tryz.runUnderlying44) rfl fun hS => sB hS rfl fun hS => qq hS rfl Tryz.call100 (zL hG K (decide (VT > (VQ.length : Int))) (3 : Int) (hS.st.part 0 [0, 1, 2, 3, 4, 5, 6] (by kernel_rfl)) (qh hM) (fun  w hM  hst => qn hS.ev hst.appF rfl fun hS => ?_) (fun v w hk hst => zY (qB (zu (qB (zu (⟨hS.ev.defs, hpan _ _ hk hst.appF.frame⟩)))))))
    replace hS : Ss _ _ _ H [VW, Ul, VV, V2, V3, V0, V1] F _ _ := hS
    refine qm <| wp_seq <| qM (vals := [some (qx VP 0), some (qx VP 0), some (qx VP 1), some (.slice V4 VQ.length V6), some (.int .i64 (VQ.length : Int)), some (.int .i64 V7), some (.int .i64 (qi ((VQ.length : Int) + V7))), some (qx VP 0), some (qx VP 0), some (qx VP 2), some (.int .i64 VR.limit_), some (.bool (decide ((qi ((VQ.length : Int) + V7)) > VR.limit_))), none]) hS zV rfl ?_
    intro l w ho hcl hA hst
    refine x4 hA hst ho hcl zO zW 12 [0, 1, 2, 3, 4, 5, 6, 7, 8, 9, 10, 11] rfl rfl rfl rfl rfl (by exact ⟨nM rfl, nQ rfl (by exact qJ (xM rfl) rfl), nQ rfl (by exact qJ (zz rfl Tryz.runUnderlying103 rfl Tryz.sizeOf44 rfl) rfl), nQ rfl (by exact qJ (zU 0 rfl VX rfl rfl Tryz.isAgg44) rfl), nQ rfl (by exact qJ (xw rfl Tryz.runUnderlying44) rfl), nM rfl, nB rfl, nM rfl, nQ rfl (by exact qJ (xM rfl) rfl), nQ rfl (by exact qJ (zz rfl Tryz.runUnderlying103 rfl Tryz.sizeOf3 rfl) rfl), nQ rfl (by exact qJ (zU 0 rfl VX rfl rfl Tryz.isAgg3) rfl), nB rfl, trivial⟩) fun D l a w ho hcl hav hpre hm hE hk hA hst => ?_
    have hS := (Ss.mk hE hst).env2 (e' := [(80, .bool (decide ((qi ((VQ.length : Int) + V7)) > VR.limit_)))]) ⟨rfl, trivial⟩
    refine qC rfl <| qq hS rfl Tryz.call100 (zL hG K (decide ((qi ((VQ.length : Int) + V7)) > VR.limit_)) (11 : Int) (hS.st.part 0 [0, 1, 2, 3, 4, 5, 6] (by kernel_rfl)) (qh hM) (fun  w hM  hst => qn hS.ev hst.appF rfl fun hS => ?_) (fun v w hk hst => zY (qB (qB (zu (qB (zu (⟨hS.ev.defs, hpan _ _ hk hst.appF.frame⟩))))))))
    replace hS : Ss _ _ _ H [VW, Ul, VV, V2, V3, V0, V1] F _ _ := hS
    refine qm ?_
    replace hst := hS.st
    obtain ⟨hcl, hmust, hav2, hA⟩ := dn (vals' := [some (qx VP 0), some (qx VP 0), some (qx VP 1), some (.slice V4 VQ.length V6), some (.int .i64 (VQ.length : Int)), some (.int .i64 V7), some (.int .i64 (qi ((VQ.length : Int) + V7))), some (qx VP 0), some (qx VP 0), some (qx VP 2), some (.int .i64 VR.limit_), some (.bool (decide ((qi ((VQ.length : Int) + V7)) > VR.limit_))), some (.tuple ⟨[]⟩)]) 12 [(11, 12), (6, 11), (10, 11), (4, 6), (5, 6), (9, 10), (3, 4), (8, 9), (2, 3), (7, 8), (1, 2), (0, 1)] hA hcl hav hm hpre hk rfl rfl rfl rfl rfl rfl rfl
    clear hm hav
    refine xq hA hst ho hcl hmust [] rfl rfl rfl trivial fun a w hS => ?_
    replace hS := hS.env2 (e' := [(0, qx VP 0), (1, qx Ub 0), (2, qx Uc 0), (7, .int .i64 V7), (9, .int .i64 VT)]) ⟨rfl, rfl, rfl, rfl, rfl, trivial⟩
    refine qc <| qe <| sM hS rfl fun hS => sM hS rfl fun hS => qm <| z3 <| q6 (fun UW a w => ∃ (VU : Option Addr) (VZ : Nat) (VO : (List Int)) (Us : qj) (Ut : qj) (Um : Int), Ss 108 [] [(0, qx VP 0), (1, qx Ub 0), (2, qx Uc 0), (9, .int .i64 VT), (82, .int .i64 V7), (83, .int .i64 Um)] H [V2, V3, V0, V1, Ut, Ul, Us] F a w ∧ (zM 5 (ci .u8) 1 VU VO VZ Us) ∧ (xf Ut VP ([qx V5 0, .slice VU VO.length VZ, .int .i64 VR.limit_]) 103) ∧ (zj.l2 K (zj.l1 K VR VS VY UJ) V7 VT Uo UW VO Um).wp kr kp) K ?_ ?_ ?_
    ·exact ⟨V4, V6, VQ, VV, VW, (0 : Int), hS.to [3, 4, 5, 6, 0, 1, 2] (by kernel_rfl) ⟨rfl, rfl, rfl, rfl, rfl, rfl, trivial⟩, V8, VX, hM⟩
    ·intro a w hI; obtain ⟨_, _, _, _, _, _, _, _, _, hM⟩ := hI; exact qX hM
    ·intro UW a w hI Kr U4
     obtain ⟨VU, VZ, VO, Us, Ut, Um, hS, Uh, Ua, hM⟩ := hI
     rw [zj.l2] at hM
     refine qe <| sB hS rfl fun hS => qm <| wp_seq <| qo hS rfl hM (fun Ke hM => ?_) (fun Ke hM => ?_)
     ·refine wp_skip ?_
      refine qc <| wp_seq <| z3 ?_
      obtain ⟨UI, hM⟩ := qt hM
      refine qM (vals := [some (qx VP 0), some (qx VP 0), some (qx VP 0), some (qx VP 1), some (.slice VU VO.length VZ), some (qx VP 0), some (qx VP 0), some (qx VP 1), some (.slice VU VO.length VZ), some (qx VP 0), some (qx VP 0), some (qx VP 1), some (.slice VU VO.length VZ), some (.int .i64 (VO.length : Int)), some (.int .i64 VT), some (.int .i64 (qi ((VO.length : Int) - VT))), some (z9 VU (Int.toNat (qi ((VO.length : Int) - VT)) * 1)), some (.int .u8 (rd VO (qi ((VO.length : Int) - VT)))), none, none, none, none, none]) hS zV rfl ?_
      intro l w ho hcl hA hst
      refine x4 hA hst ho hcl zO zW 18 [0, 1, 2, 3, 4, 5, 6, 7, 8, 9, 10, 11, 12, 13, 14, 15, 16, 17] rfl rfl rfl rfl rfl (by exact ⟨nM rfl, nM rfl, nQ rfl (by exact qJ (xM rfl) rfl), nQ rfl (by exact qJ (zz rfl Tryz.runUnderlying103 rfl Tryz.sizeOf44 rfl) rfl), nQ rfl (by exact qJ (zU 4 rfl Ua rfl rfl Tryz.isAgg44) rfl), nM rfl, nQ rfl (by exact qJ (xM rfl) rfl), nQ rfl (by exact qJ (zz rfl Tryz.runUnderlying103 rfl Tryz.sizeOf44 rfl) rfl), nQ rfl (by exact qJ (zU 4 rfl Ua rfl rfl Tryz.isAgg44) rfl), nM rfl, nQ rfl (by exact qJ (xM rfl) rfl), nQ rfl (by exact qJ (zz rfl Tryz.runUnderlying103 rfl Tryz.sizeOf44 rfl) rfl), nQ rfl (by exact qJ (zU 4 rfl Ua rfl rfl Tryz.isAgg44) rfl), nQ rfl (by exact qJ (xw rfl Tryz.runUnderlying44) rfl), nM rfl, nB rfl, nQ rfl (by exact qJ (xF rfl rfl Tryz.runUnderlying44 Tryz.sizeOf5 (Uh.rd (i := 6) rfl) (fun _ => rfl) rfl UI) rfl), nQ rfl (by exact qJ (xO rfl (Uh.rd (i := 6) rfl) (fun _ => rfl) UI rfl Tryz.isAgg5) rfl), trivial⟩) fun D l a w ho hcl hav hpre hm hE hk hA hst => ?_
      have hS := (Ss.mk hE hst).env2 (e' := [(102, .int .u8 (rd VO (qi ((VO.length : Int) - VT))))]) ⟨rfl, trivial⟩
      refine qC rfl <| Qh (g := (ci .u8)) ([(rd VO (qi ((VO.length : Int) - VT)))] : List Int) [.int .u8 (rd VO (qi ((VO.length : Int) - VT)))] hS Tryz.runUnderlying44 Tryz.sizeOf5 X.el5 rfl rfl rfl (by simp [Value.cells]) rfl rfl rfl rfl rfl fun w Un Uq Kv Ka hS => qm ?_
      replace hst := hS.st
      obtain ⟨hcl, hmust, hav2, hA⟩ := dn (vals' := [some (qx VP 0), some (qx VP 0), some (qx VP 0), some (qx VP 1), some (.slice VU VO.length VZ), some (qx VP 0), some (qx VP 0), some (qx VP 1), some (.slice VU VO.length VZ), some (qx VP 0), some (qx VP 0), some (qx VP 1), some (.slice VU VO.length VZ), some (.int .i64 (VO.length : Int)), some (.int .i64 VT), some (.int .i64 (qi ((VO.length : Int) - VT))), some (z9 VU (Int.toNat (qi ((VO.length : Int) - VT)) * 1)), some (.int .u8 (rd VO (qi ((VO.length : Int) - VT)))), some (.slice Un ([(rd VO (qi ((VO.length : Int) - VT)))] : List Int).length Uq), none, none, none, none]) 18 [(17, 18), (16, 17), (8, 16), (15, 16), (7, 8), (13, 15), (14, 15), (6, 7), (12, 13), (5, 6), (11, 12), (10, 11), (9, 10)] hA hcl hav hm hpre hk rfl rfl rfl rfl rfl rfl rfl
      clear hm hav
      refine x4 hA hst ho hcl hav2 hmust 19 [0, 1, 2, 3, 4] rfl rfl rfl rfl rfl (by exact ⟨nM rfl, nM rfl, nQ rfl (by exact qJ (xM rfl) rfl), nQ rfl (by exact qJ (zz rfl Tryz.runUnderlying103 rfl Tryz.sizeOf44 rfl) rfl), nQ rfl (by exact qJ (zU 5 rfl Ua rfl rfl Tryz.isAgg44) rfl), trivial⟩) fun D l a w ho hcl hav hpre hm hE hk hA hst => ?_
      have hS := (Ss.mk hE hst).env2 (e' := [(89, .slice VU VO.length VZ), (103, .slice Un ([(rd VO (qi ((VO.length : Int) - VT)))] : List Int).length Uq)]) ⟨rfl, rfl, trivial⟩
      refine qC rfl ?_
      obtain ⟨Kg, hM⟩ := qt hM
      refine QR (ys := ([(rd VO (qi ((VO.length : Int) - VT)))] : List Int)) 7 hS rfl rfl Uh rfl (Ka.rd (i := 0) rfl) Tryz.runUnderlying44 Tryz.runUnderlying44 X.el5 (fun _ => rfl) rfl jc Kg rfl fun Ue w Uj Uk Kl hz Kb hS => ?_
      have hM := qp hz hM; clear hz
      refine qm ?_
      replace hst := hS.st
      obtain ⟨hcl, hmust, hav2, hA⟩ := dn (vals' := [some (qx VP 0), some (qx VP 0), some (qx VP 0), some (qx VP 1), some (.slice VU VO.length VZ), some (qx VP 0), some (qx VP 0), some (qx VP 1), some (.slice VU VO.length VZ), some (qx VP 0), some (qx VP 0), some (qx VP 1), some (.slice VU VO.length VZ), some (.int .i64 (VO.length : Int)), some (.int .i64 VT), some (.int .i64 (qi ((VO.length : Int) - VT))), some (z9 VU (Int.toNat (qi ((VO.length : Int) - VT)) * 1)), some (.int .u8 (rd VO (qi ((VO.length : Int) - VT)))), some (.slice Un ([(rd VO (qi ((VO.length : Int) - VT)))] : List Int).length Uq), some (.slice Uj Ue.length Uk), some (qx VP 0), some (qx VP 1), none]) 19 [(4, 19), (18, 19), (3, 4), (17, 18), (2, 3), (16, 17), (1, 2), (8, 16), (15, 16), (7, 8), (13, 15), (14, 15), (6, 7), (12, 13), (5, 6), (11, 12), (10, 11), (9, 10)] hA hcl hav hm hpre hk rfl rfl rfl rfl rfl rfl rfl
      clear hm hav
      refine x4 hA hst ho hcl hav2 hmust 22 [0, 20, 21] rfl rfl rfl rfl rfl (by exact ⟨nM rfl, nQ rfl (by exact qJ (xM rfl) rfl), nQ rfl (by exact qJ (zz rfl Tryz.runUnderlying103 rfl Tryz.sizeOf44 rfl) rfl), trivial⟩) fun D l a w ho hcl hav hpre hm hE hk hA hst => ?_
      have hS := (Ss.mk hE hst).env2 (e' := [(104, .slice Uj Ue.length Uk), (106, qx VP 1)]) ⟨rfl, rfl, trivial⟩
      refine qC rfl <| Qr 5 ([qx V5 0, .slice Uj Ue.length Uk, .int .i64 VR.limit_]) hS rfl rfl Ua rfl rfl rfl rfl Tryz.sizeOf44 fun w Km U3 hS => qm ?_
      replace hst := hS.st
      obtain ⟨hcl, hmust, hav2, hA⟩ := Qt (vals' := [some (qx VP 0), some (qx VP 0), some (qx VP 0), some (qx VP 1), some (.slice VU VO.length VZ), some (qx VP 0), some (qx VP 0), some (qx VP 1), some (.slice VU VO.length VZ), some (qx VP 0), some (qx VP 0), some (qx VP 1), some (.slice VU VO.length VZ), some (.int .i64 (VO.length : Int)), some (.int .i64 VT), some (.int .i64 (qi ((VO.length : Int) - VT))), some (z9 VU (Int.toNat (qi ((VO.length : Int) - VT)) * 1)), some (.int .u8 (rd VO (qi ((VO.length : Int) - VT)))), some (.slice Un ([(rd VO (qi ((VO.length : Int) - VT)))] : List Int).length Uq), some (.slice Uj Ue.length Uk), some (qx VP 0), some (qx VP 1), some undef]) 22 [(0, 22), (1, 22), (2, 22), (3, 22), (4, 22), (5, 22), (6, 22), (7, 22), (8, 22), (9, 22), (10, 22), (11, 22), (12, 22), (13, 22), (14, 22), (15, 22), (16, 22), (17, 22), (18, 22), (19, 22), (21, 22), (20, 21)] hA hcl hav hm hpre rfl rfl rfl rfl rfl
      clear hm hav
      refine xq hA hst ho hcl hmust [] rfl rfl rfl trivial fun a w hS => ?_
      replace hS := hS.env2 (e' := [(0, qx VP 0), (1, qx Ub 0), (2, qx Uc 0), (9, .int .i64 VT), (82, .int .i64 V7), (83, .int .i64 Um)]) ⟨rfl, rfl, rfl, rfl, rfl, rfl, trivial⟩
      refine qW (qc ?_)
      refine zb <| sB hS rfl fun hS => sM hS rfl fun hS => qL <| qc ?_
      exact U4 _ _ ⟨Uj, Uk, Ue, Kl, Km, (qi (Um + (1 : Int))), hS.to [1, 2, 3, 4, 5, 6, 7] (by kernel_rfl) ⟨rfl, rfl, rfl, rfl, rfl, rfl, trivial⟩, Kb, U3, hM⟩
     ·refine wp_exit ?_
      refine qv (qv (qO (qW (qc ?_))))
      exact UF _ _ ⟨Uo, Ul, VU, VZ, VO, Us, Ut, hS.to [0, 1, 2, 3, 4, 5, 6] (by kernel_rfl) ⟨rfl, rfl, rfl, trivial⟩, Kp, Uh, Ua, hM⟩
theorem vV {H : z7} {F : List qj} {w : World} {R : Ending → World → Prop} {kr : ((List Int) × Int) → Prop} {kp : Value → Prop} (hG : Gl H) (K : Nat) (VP : qw) (VU : Int) (V4 : qF) (VW : Nat) (VR : qj) (V3 : Nat) (Uw : qj) (Ub : Option Addr) (Uc : Nat) (VS : qj) (V9 : Nat) (VX : qj) (Uu : Option Addr) (Uv : Nat) (VY : qj) (Uf : xf VR VW ([qx V3 0, .slice Ub VP.out_.length Uc, .int .i64 VP.limit_]) 103) (UO : xf Uw V3 ([.int .i64 VP.Reader_.place_.at_, qN VP.Reader_.text_]) 151) (Uh : zM 5 (ci .u8) 1 Ub VP.out_ Uc VS) (UP : xf VX V9 ((V4.counts_.flatMap (ci .i64)) ++ [.slice Uu V4.symbols_.length Uv]) 227) (U3 : V4.counts_.length = 16) (UT : zM 3 (ci .i64) 1 Uu V4.symbols_ Uv VY)
    (hS : St w H [VR, Uw, VS, VX, VY] F) (hm : (qZ.m K VP VU V4).wp kr kp)
    (hret : ∀ (UG : Option Addr) (UH : Nat) (UC : (List Int)) (UL : qj) (Ul : Int) (UM : qj) (w : World), kr (UC, Ul) → (zM 3 (ci .i64) 1 UG UC UH UL) → (xf UM V3 ([.int .i64 Ul, qN VP.Reader_.text_]) 151) → St w H [UL, VX, VY, VR, UM, VS] F → R (.returned (.slice UG UC.length UH)) w)
    (hpan : ∀ v w, kp v → St w H [] F → R (.panicked [⟨v, false, false⟩]) w) :
    Calls Tryz.prog 126 ⟨[qx VW 0, .int .i64 VU, qx V9 0]⟩ w R := by
 refine enter Tryz.func126 rfl Tryz.ntmps126 rfl hS fun a w hS => ?_
 have hM := hm; clear hm
 rw [qZ.m] at hM
 refine qe <| sA hS rfl fun hS => ?_
 obtain ⟨Kk, Ke, hS⟩ := hS.nilV 3 (ci .i64) 1
 refine qm <| qe <| sA hS rfl fun hS => ?_
 obtain ⟨U7, UU, hS⟩ := hS.nilV 3 (ci .i64) 1
 refine qm <| wp_seq <| z3 <| q6 (fun Up a w => ∃ (V1 : Int) (Uj : qj) (VV : Option Addr) (V0 : Nat) (VO : (List Int)) (VZ : qj), Ss 63 [] [(0, qx VW 0), (1, .int .i64 VU), (2, qx V9 0), (7, .slice VV VO.length V0)] H [VX, VY, VR, Uj, VS, VZ] F a w ∧ (xf Uj V3 ([.int .i64 V1, qN VP.Reader_.text_]) 151) ∧ (zM 3 (ci .i64) 1 VV VO V0 VZ) ∧ (qZ.l1 K VP VU V4 Up V1 VO).wp kr kp) K ?_ ?_ ?_
 ·exact ⟨VP.Reader_.place_.at_, Uw, none, 0, ([] : List Int), U7, hS.to [5, 6, 2, 3, 4, 0] (by kernel_rfl) ⟨rfl, rfl, rfl, rfl, trivial⟩, UO, UU, hM⟩
 ·intro a w hI; obtain ⟨_, _, _, _, _, _, _, _, _, hM⟩ := hI; exact qX hM
 ·intro Up a w hI Ki US
  obtain ⟨V1, Uj, VV, V0, VO, VZ, hS, Ux, V5, hM⟩ := hI
  rw [qZ.l1] at hM
  refine wp_seq <| qe <| sM hS rfl fun hS => sO hS (xw rfl Tryz.runUnderlying128) rfl fun hS => sM hS rfl fun hS => sB hS rfl fun hS => qm <| qo hS rfl hM (fun UX hM => ?_) (fun UX hM => ?_)
  ·refine wp_skip ?_
   refine qc <| z3 <| qe <| sM hS rfl fun hS => sM hS rfl fun hS => qq hS rfl Tryz.call123 (ym hG K (qw.mk (qE.mk (qs.mk V1) VP.Reader_.text_) VP.out_ VP.limit_) V4 VW VR V3 Uj Ub Uc VS V9 VX Uu Uv VY Uf Ux Uh UP U3 UT (hS.st.part 5 [2, 3, 4, 0, 1, 5] (by kernel_rfl)) (qh hM) (fun Ur V8 Ud w hM Uo hst => qn hS.ev hst.appF rfl fun hS => ?_) (fun v w hk hst => zY (qB (zu (qB (zu (qB (⟨hS.ev.defs, hpan _ _ hk hst.appF.frame⟩))))))))
   replace hS : Ss _ _ _ H [VX, VY, VR, Ud, VS, VZ] F _ _ := hS
   refine sA hS rfl fun hS => qm <| qe <| sA hS rfl fun hS => sA hS rfl fun hS => qm <| qV (fun a w => ∃ (V2 : Int) (Ue : qj) (VQ : Int) (VT : Int), Ss 63 [] [(0, qx VW 0), (1, .int .i64 VU), (2, qx V9 0), (7, .slice VV VO.length V0), (9, .int .i64 VQ), (10, .int .i64 VT)] H [VX, VY, VR, Ue, VS, VZ] F a w ∧ (xf Ue V3 ([.int .i64 V2, qN VP.Reader_.text_]) 151) ∧ (qZ.j2 K (qZ.l1 K VP VU V4 Up) VU VO V2 VQ VT).wp kr kp) (fun Kg Ug => ?_) ?_
   ·refine z3 ?_
    refine qe <| sM hS rfl fun hS => sB hS rfl fun hS => qY (v := Value.bool) (x0 := (decide (Ur < (16 : Int)))) hS (zE rfl) rfl fun Km a w hz hS => ?_
    have hM := qp hz hM; clear hz
    refine qm <| qo hS rfl hM (fun UY hM => ?_) (fun UY hM => ?_)
    ·refine zb ?_
     refine sM hS rfl fun hS => sA hS rfl fun hS => qL <| qW (qc ?_)
     exact Ug _ _ ⟨V8, Ud, Ur, (1 : Int), hS.to [0, 1, 2, 3, 4, 5] (by kernel_rfl) ⟨rfl, rfl, rfl, rfl, rfl, rfl, trivial⟩, Uo, hM⟩
    ·refine wp_seq ?_
     refine zb <| sM hS rfl fun hS => sB hS rfl fun hS => qY (v := Value.bool) (x0 := (Ur == (16 : Int))) hS (zE rfl) rfl fun Kn a w hz hS => ?_
     have hM := qp hz hM; clear hz
     refine qm <| qo hS rfl hM (fun UZ hM => ?_) (fun UZ hM => ?_)
     ·refine wp_seq ?_
      refine zb <| sM hS rfl fun hS => sO hS (xw rfl Tryz.runUnderlying128) rfl fun hS => sB hS rfl fun hS => qq hS rfl Tryz.call100 (zL hG K ((VO.length : Int) == (0 : Int)) (3 : Int) (hS.st.part 0 [0, 1, 2, 3, 4, 5] (by kernel_rfl)) (qh hM) (fun  w hM  hst => qn hS.ev hst.appF rfl fun hS => ?_) (fun v w hk hst => zY (qB (zu (qB (zu (qB (zu (qB (⟨hS.ev.defs, hpan _ _ hk hst.appF.frame⟩))))))))))
      replace hS : Ss _ _ _ H [VX, VY, VR, Ud, VS, VZ] F _ _ := hS
      refine qL <| qc ?_
      obtain ⟨Ui, hM⟩ := qt hM
      refine qM (vals := [some (.slice VV VO.length V0), some (.slice VV VO.length V0), some (.int .i64 (VO.length : Int)), some (.int .i64 (qi ((VO.length : Int) - (1 : Int)))), some (z9 VV (Int.toNat (qi ((VO.length : Int) - (1 : Int))) * 1)), some (.int .i64 (rd VO (qi ((VO.length : Int) - (1 : Int))))), some (qx VW 0), none, none, none, none]) hS zV rfl ?_
      intro l w ho hcl hA hst
      refine x4 hA hst ho hcl zO zW 7 [0, 1, 2, 3, 4, 5, 6] rfl rfl rfl rfl rfl (by exact ⟨nM rfl, nM rfl, nQ rfl (by exact qJ (xw rfl Tryz.runUnderlying128) rfl), nB rfl, nQ rfl (by exact qJ (xF rfl rfl Tryz.runUnderlying128 Tryz.sizeOf3 (V5.rd (i := 5) rfl) (fun _ => rfl) rfl Ui) rfl), nQ rfl (by exact qJ (xO rfl (V5.rd (i := 5) rfl) (fun _ => rfl) Ui rfl Tryz.isAgg3) rfl), nM rfl, trivial⟩) fun D l a w ho hcl hav hpre hm hE hk hA hst => ?_
      have hS := (Ss.mk hE hst).env2 (e' := [(38, qx VW 0)]) ⟨rfl, trivial⟩
      refine qC rfl <| qq hS rfl Tryz.call95 (zD hG K (qw.mk (qE.mk (qs.mk V8) VP.Reader_.text_) VP.out_ VP.limit_) (2 : Int) VW VR V3 Ud Ub Uc VS Uf Uo Uh (hS.st.part 3 [2, 3, 4, 0, 1, 5] (by kernel_rfl)) (qh hM) (fun UB UD UI w hM U9 hst => qn hS.ev hst.appF rfl fun hS => ?_) (fun v w hk hst => zY (qB (zu (qB (zu (qB (zu (qB (⟨hS.ev.defs, hpan _ _ hk hst.appF.frame⟩))))))))))
      replace hS : Ss _ _ _ H [VR, UI, VS, VX, VY, VZ] F _ _ := hS
      refine qm ?_
      replace hst := hS.st
      obtain ⟨V7, Uz⟩ : ∃ x, x = (rd VO (qi ((VO.length : Int) - (1 : Int)))) := ⟨_, rfl⟩
      replace hM := qp Uz hM
      obtain ⟨V6, UA⟩ : ∃ x, x = (qi ((3 : Int) + UB)) := ⟨_, rfl⟩
      replace hM := qp UA hM
      obtain ⟨hcl, hmust, hav2, hA⟩ := dn (vals' := [some (.slice VV VO.length V0), some (.slice VV VO.length V0), some (.int .i64 (VO.length : Int)), some (.int .i64 (qi ((VO.length : Int) - (1 : Int)))), some (z9 VV (Int.toNat (qi ((VO.length : Int) - (1 : Int))) * 1)), some (.int .i64 (rd VO (qi ((VO.length : Int) - (1 : Int))))), some (qx VW 0), some (.int .i64 UB), some (.int .i64 (qi ((3 : Int) + UB))), some (.int .i64 V7), some (.int .i64 V6)]) 7 [(6, 7)] hA hcl hav hm hpre hk rfl rfl rfl rfl rfl rfl rfl
      clear hm hav
      refine xq hA hst ho hcl hmust [0, 1, 2, 3, 4, 5, 8, 9, 10] rfl rfl rfl (by exact ⟨nM rfl, nM rfl, nQ rfl (by exact qJ (xw rfl Tryz.runUnderlying128) rfl), nB rfl, nQ rfl (by exact qJ (xF rfl rfl Tryz.runUnderlying128 Tryz.sizeOf3 (V5.rd (i := 5) rfl) (fun _ => rfl) rfl Ui) rfl), nQ rfl (by exact qJ (xO rfl (V5.rd (i := 5) rfl) (fun _ => rfl) Ui rfl Tryz.isAgg3) rfl), nB rfl, nQ rfl (by exact qJ (zE rfl) (congrArg (Value.int .i64) Uz.symm)), nQ rfl (by exact qJ (zE rfl) (congrArg (Value.int .i64) UA.symm)), trivial⟩) fun a w hS => ?_
      replace hS := hS.env2 (e' := [(0, qx VW 0), (1, .int .i64 VU), (2, qx V9 0), (7, .slice VV VO.length V0), (9, .int .i64 V7), (10, .int .i64 V6)]) ⟨rfl, rfl, rfl, rfl, rfl, rfl, trivial⟩
      refine qW (qc ?_)
      exact Ug _ _ ⟨UD, UI, V7, V6, hS.to [3, 4, 0, 1, 2, 5] (by kernel_rfl) ⟨rfl, rfl, rfl, rfl, rfl, rfl, trivial⟩, U9, hM⟩
     ·refine wp_seq ?_
      refine zb <| sM hS rfl fun hS => sB hS rfl fun hS => qY (v := Value.bool) (x0 := (Ur == (17 : Int))) hS (zE rfl) rfl fun Ko a w hz hS => ?_
      have hM := qp hz hM; clear hz
      refine qm <| qo hS rfl hM (fun U0 hM => ?_) (fun U0 hM => ?_)
      ·refine zb ?_
       refine sM hS rfl fun hS => qq hS rfl Tryz.call95 (zD hG K (qw.mk (qE.mk (qs.mk V8) VP.Reader_.text_) VP.out_ VP.limit_) (3 : Int) VW VR V3 Ud Ub Uc VS Uf Uo Uh (hS.st.part 3 [2, 3, 4, 0, 1, 5] (by kernel_rfl)) (qh hM) (fun Kc UE UJ w hM Ka hst => qn hS.ev hst.appF rfl fun hS => ?_) (fun v w hk hst => zY (zu (qB (zu (qB (zu (qB (⟨hS.ev.defs, hpan _ _ hk hst.appF.frame⟩)))))))))
       replace hS : Ss _ _ _ H [VR, UJ, VS, VX, VY, VZ] F _ _ := hS
       refine sB hS rfl fun hS => qY (v := Value.int .i64) (x0 := (qi ((3 : Int) + Kc))) hS (zE rfl) rfl fun Us a w hz hS => ?_
       have hM := qp hz hM; clear hz
       refine qL <| qW (qc ?_)
       exact Ug _ _ ⟨UE, UJ, (0 : Int), Us, hS.to [3, 4, 0, 1, 2, 5] (by kernel_rfl) ⟨rfl, rfl, rfl, rfl, rfl, rfl, trivial⟩, Ka, hM⟩
      ·refine zb ?_
       refine sM hS rfl fun hS => qq hS rfl Tryz.call95 (zD hG K (qw.mk (qE.mk (qs.mk V8) VP.Reader_.text_) VP.out_ VP.limit_) (7 : Int) VW VR V3 Ud Ub Uc VS Uf Uo Uh (hS.st.part 3 [2, 3, 4, 0, 1, 5] (by kernel_rfl)) (qh hM) (fun Kd UF UK w hM Kb hst => qn hS.ev hst.appF rfl fun hS => ?_) (fun v w hk hst => zY (zu (qB (zu (qB (zu (qB (⟨hS.ev.defs, hpan _ _ hk hst.appF.frame⟩)))))))))
       replace hS : Ss _ _ _ H [VR, UK, VS, VX, VY, VZ] F _ _ := hS
       refine sB hS rfl fun hS => qY (v := Value.int .i64) (x0 := (qi ((11 : Int) + Kd))) hS (zE rfl) rfl fun Ut a w hz hS => ?_
       have hM := qp hz hM; clear hz
       refine qL <| qW (qc ?_)
       exact Ug _ _ ⟨UF, UK, (0 : Int), Ut, hS.to [3, 4, 0, 1, 2, 5] (by kernel_rfl) ⟨rfl, rfl, rfl, rfl, rfl, rfl, trivial⟩, Kb, hM⟩
   ·intro a w hI
    obtain ⟨V2, Ue, VQ, VT, hS, UQ, hM⟩ := hI
    rw [qZ.j2] at hM
    refine qe <| sM hS rfl fun hS => sM hS rfl fun hS => sM hS rfl fun hS => sO hS (xw rfl Tryz.runUnderlying128) rfl fun hS => sB hS rfl fun hS => sB hS rfl fun hS => qq hS rfl Tryz.call100 (zL hG K (decide (VT > (qi (VU - (VO.length : Int))))) (3 : Int) (hS.st.part 0 [0, 1, 2, 3, 4, 5] (by kernel_rfl)) (qh hM) (fun  w hM  hst => qn hS.ev hst.appF rfl fun hS => ?_) (fun v w hk hst => zY (qB (zu (qB (zu (qB (⟨hS.ev.defs, hpan _ _ hk hst.appF.frame⟩))))))))
    replace hS : Ss _ _ _ H [VX, VY, VR, Ue, VS, VZ] F _ _ := hS
    refine qm <| qe <| sM hS rfl fun hS => sM hS rfl fun hS => qm <| z3 <| q6 (fun UN a w => ∃ (Uk : Option Addr) (Um : Nat) (Ua : (List Int)) (Un : qj) (Uq : Int), Ss 63 [] [(0, qx VW 0), (1, .int .i64 VU), (2, qx V9 0), (7, .slice Uk Ua.length Um), (9, .int .i64 VQ), (54, .int .i64 VT), (55, .int .i64 Uq)] H [VX, VY, VR, Ue, VS, Un] F a w ∧ (zM 3 (ci .i64) 1 Uk Ua Um Un) ∧ (qZ.l3 K (qZ.l1 K VP VU V4 Up) V2 VQ VT UN Ua Uq).wp kr kp) K ?_ ?_ ?_
    ·exact ⟨VV, V0, VO, VZ, (0 : Int), hS.to [0, 1, 2, 3, 4, 5] (by kernel_rfl) ⟨rfl, rfl, rfl, rfl, rfl, rfl, rfl, trivial⟩, V5, hM⟩
    ·intro a w hI; obtain ⟨_, _, _, _, _, _, _, hM⟩ := hI; exact qX hM
    ·intro UN a w hI Kh UR
     obtain ⟨Uk, Um, Ua, Un, Uq, hS, Uy, hM⟩ := hI
     rw [qZ.l3] at hM
     refine qe <| sB hS rfl fun hS => qm <| wp_seq <| qo hS rfl hM (fun U1 hM => ?_) (fun U1 hM => ?_)
     ·refine wp_skip ?_
      refine qc <| wp_seq <| z3 <| zb <| sM hS rfl fun hS => sM hS rfl fun hS => Qh (g := (ci .i64)) ([VQ] : List Int) [.int .i64 VQ] hS Tryz.runUnderlying128 Tryz.sizeOf3 X.el3 rfl rfl rfl (by simp [Value.cells]) rfl rfl rfl rfl rfl fun w Kf Kj Kl UV hS => ?_
      obtain ⟨U2, hM⟩ := qt hM
      refine QR (ys := ([VQ] : List Int)) 6 hS rfl rfl Uy rfl (UV.rd (i := 0) rfl) Tryz.runUnderlying128 Tryz.runUnderlying128 X.el3 (fun _ => rfl) rfl xg U2 rfl fun U4 w U5 U6 U8 hz UW hS => ?_
      have hM := qp hz hM; clear hz
      refine sA hS rfl fun hS => qL <| qW (qc ?_)
      refine zb <| sB hS rfl fun hS => sM hS rfl fun hS => qL <| qc ?_
      exact UR _ _ ⟨U5, U6, U4, U8, (qi (Uq + (1 : Int))), hS.to [1, 2, 3, 4, 5, 6] (by kernel_rfl) ⟨rfl, rfl, rfl, rfl, rfl, rfl, rfl, trivial⟩, UW, hM⟩
     ·refine wp_exit ?_
      refine qv (qv (qO (qW (qc ?_))))
      exact US _ _ ⟨V2, Ue, Uk, Um, Ua, Un, hS.to [0, 1, 2, 3, 4, 5] (by kernel_rfl) ⟨rfl, rfl, rfl, rfl, trivial⟩, UQ, Uy, hM⟩
  ·refine wp_exit ?_
   refine qv (qv (qO (qc ?_)))
   refine qe <| sM hS rfl fun hS => sA hS rfl fun hS => qm <| wp_ret ?_
   exact qP (rs := [6]) hS rfl rfl (hret VV V0 VO VZ V1 Uj _ (qG hM) V5 Ux (hS.st.pick [5, 0, 1, 2, 3, 4] (by kernel_rfl)))
theorem vl {H : z7} {F : List qj} {w : World} {R : Ending → World → Prop} {kr : ((Option qF) × (Option qF) × Int) → Prop} {kp : Value → Prop} (hG : Gl H) (K : Nat) (VO : qw) (VW : Nat) (VP : qj) (VT : Nat) (Uy : qj) (V0 : Option Addr) (V1 : Nat) (VQ : qj) (V3 : xf VP VW ([qx VT 0, .slice V0 VO.out_.length V1, .int .i64 VO.limit_]) 103) (UY : xf Uy VT ([.int .i64 VO.Reader_.place_.at_, qN VO.Reader_.text_]) 151) (V4 : zM 5 (ci .u8) 1 V0 VO.out_ V1 VQ)
    (hS : St w H [VP, Uy, VQ] F) (hm : (zr.m K VO).wp kr kp)
    (hret : ∀ (UL : Option Addr) (UW : Option qF) (US : qj) (UM : Option Addr) (UX : Option qF) (UT : qj) (Uv : Int) (UU : qj) (w : World), kr (UW, UX, Uv) → (XX qF.Own UL UW US) → (XX qF.Own UM UX UT) → (xf UU VT ([.int .i64 Uv, qN VO.Reader_.text_]) 151) → St w H [US, UT, VP, UU, VQ] F → R (.returned (.tuple ⟨[.pointer UL, .pointer UM]⟩)) w)
    (hpan : ∀ v w, kp v → St w H [] F → R (.panicked [⟨v, false, false⟩]) w) :
    Calls Tryz.prog 99 ⟨[qx VW 0]⟩ w R := by
 refine enter Tryz.func99 rfl Tryz.ntmps99 rfl hS fun a w hS => ?_
 have hM := hm; clear hm
 rw [zr.m] at hM
 refine qe <| sA hS rfl fun hS => sA hS rfl fun hS => qm <| qe <| sM hS rfl fun hS => qq hS rfl Tryz.call95 (zD hG K VO (5 : Int) VW VP VT Uy V0 V1 VQ V3 UY V4 (hS.st.part 3 [0, 1, 2] (by kernel_rfl)) (qh hM) (fun Ku UF UN w hM Km hst => qn hS.ev hst.appF rfl fun hS => ?_) (fun v w hk hst => zY (qB (⟨hS.ev.defs, hpan _ _ hk hst.appF.frame⟩))))
 replace hS : Ss _ _ _ H [VP, UN, VQ] F _ _ := hS
 refine sB hS rfl fun hS => sM hS rfl fun hS => qq hS rfl Tryz.call95 (zD hG K (qw.mk (qE.mk (qs.mk UF) VO.Reader_.text_) VO.out_ VO.limit_) (5 : Int) VW VP VT UN V0 V1 VQ V3 Km V4 (hS.st.part 3 [0, 1, 2] (by kernel_rfl)) (qh hM) (fun Kv UG UO w hM Kn hst => qn hS.ev hst.appF rfl fun hS => ?_) (fun v w hk hst => zY (qB (⟨hS.ev.defs, hpan _ _ hk hst.appF.frame⟩))))
 replace hS : Ss _ _ _ H [VP, UO, VQ] F _ _ := hS
 refine sB hS rfl fun hS => qY (v := Value.int .i64) (x0 := (qi (Ku + (257 : Int)))) hS (zE rfl) rfl fun VR a w hz hS => ?_
 have hM := qp hz hM; clear hz
 refine qY (v := Value.int .i64) (x0 := (qi (Kv + (1 : Int)))) hS (zE rfl) rfl fun V2 a w hz hS => ?_
 have hM := qp hz hM; clear hz
 refine qm <| qe <| sM hS rfl fun hS => qq hS rfl Tryz.call95 (zD hG K (qw.mk (qE.mk (qs.mk UG) VO.Reader_.text_) VO.out_ VO.limit_) (4 : Int) VW VP VT UO V0 V1 VQ V3 Kn V4 (hS.st.part 3 [0, 1, 2] (by kernel_rfl)) (qh hM) (fun Kw UH Uz w hM Ko hst => qn hS.ev hst.appF rfl fun hS => ?_) (fun v w hk hst => zY (qB (⟨hS.ev.defs, hpan _ _ hk hst.appF.frame⟩))))
 replace hS : Ss _ _ _ H [VP, Uz, VQ] F _ _ := hS
 refine sB hS rfl fun hS => qY (v := Value.int .i64) (x0 := (qi (Kw + (4 : Int)))) hS (zE rfl) rfl fun Ue a w hz hS => ?_
 have hM := qp hz hM; clear hz
 refine qm <| qe <| sM hS rfl fun hS => sB hS rfl fun hS => sM hS rfl fun hS => xm 2 false 22 (b := (decide (VR > (286 : Int)))) (r := (decide (V2 > (30 : Int)))) hS rfl rfl rfl rfl rfl rfl rfl (fun hb a w hS K hK => ?_) rfl fun a w hS => ?_
 ·refine qI hS rfl rfl rfl hb (mv rfl) rfl fun a w hS => ?_
  refine qI hS rfl rfl rfl hb (xN rfl rfl rfl) rfl fun a w hS => ?_
  exact qL (hK _ _ (hS.up 2 rfl rfl))
 refine qq hS rfl Tryz.call100 (zL hG K ((decide (VR > (286 : Int))) || (decide (V2 > (30 : Int)))) (3 : Int) (hS.st.part 0 [0, 1, 2] (by kernel_rfl)) (qh hM) (fun  w hM  hst => qn hS.ev hst.appF rfl fun hS => ?_) (fun v w hk hst => zY (qB (⟨hS.ev.defs, hpan _ _ hk hst.appF.frame⟩))))
 replace hS : Ss _ _ _ H [VP, Uz, VQ] F _ _ := hS
 refine qm <| qe <| jz ((List.replicate 19 (0 : Int)).flatMap (ci .i64)) hS Tryz.zeroValue148 rfl rfl fun w V8 Kk UZ hS => qm <| qV (fun a w => ∃ (VZ : Int) (Uc : qj) (VV : (List Int)) (VX : qj), Ss 64 [] [(0, qx VW 0), (4, .int .i64 VR), (5, .int .i64 V2), (7, qx V8 0)] H [VP, Uc, VQ, VX] F a w ∧ (xf Uc VT ([.int .i64 VZ, qN VO.Reader_.text_]) 151) ∧ (VV.length = 19) ∧ (xf VX V8 (VV.flatMap (ci .i64)) 148) ∧ (zr.j2 K VO VR V2 VZ VV).wp kr kp) (fun KD U2 => ?_) ?_
 ·refine wp_seq ?_
  refine zb <| sO hS (XH rfl hG.g5 (by rfl) Tryz.isAgg148 Tryz.sizeOf148) rfl fun hS => sM hS rfl fun hS => qm <| z3 <| q6 (fun UV a w => ∃ (VS : Int) (Ua : qj) (VU : (List Int)) (Ub : qj) (Uf : Int), Ss 64 [] [(0, qx VW 0), (4, .int .i64 VR), (5, .int .i64 V2), (6, .int .i64 Ue), (7, qx V8 0), (27, .agg ⟨tab_inflate_order.flatMap (ci .i64)⟩), (28, .int .i64 Uf)] H [VP, Ua, VQ, Ub] F a w ∧ (xf Ua VT ([.int .i64 VS, qN VO.Reader_.text_]) 151) ∧ (VU.length = 19) ∧ (xf Ub V8 (VU.flatMap (ci .i64)) 148) ∧ (zr.l1 K VO VR V2 Ue UV VS VU Uf).wp kr kp) K ?_ ?_ ?_
  ·exact ⟨UH, Uz, (List.replicate 19 (0 : Int)), Kk, (0 : Int), hS.to [1, 2, 3, 0] (by kernel_rfl) ⟨rfl, rfl, rfl, rfl, rfl, rfl, rfl, trivial⟩, Ko, (List.length_replicate ..), UZ, hM⟩
  ·intro a w hI; obtain ⟨_, _, _, _, _, _, _, _, _, hM⟩ := hI; exact qX hM
  ·intro UV a w hI KC UC
   obtain ⟨VS, Ua, VU, Ub, Uf, hS, Uq, Ug, Ur, hM⟩ := hI
   rw [zr.l1] at hM
   refine qe <| sB hS rfl fun hS => qm <| wp_seq <| qo hS rfl hM (fun U5 hM => ?_) (fun U5 hM => ?_)
   ·refine wp_skip ?_
    refine qc <| wp_seq <| z3 <| qe <| sM hS rfl fun hS => ?_
    obtain ⟨Kb, hM⟩ := qt hM
    refine sO hS (J4 rfl rfl Tryz.runUnderlying148 Tryz.isAgg3 Tryz.sizeOf3 (fun _ => rfl) vP Kb rfl) rfl fun hS => sA hS rfl fun hS => qY (v := Value.int .i64) (x0 := (rd tab_inflate_order Uf)) hS (zE rfl) rfl fun KE a w hz hS => ?_
    have hM := qp hz hM; clear hz
    refine qm <| qe <| sM hS rfl fun hS => sM hS rfl fun hS => sB hS rfl fun hS => qm <| qo hS rfl hM (fun U6 hM => ?_) (fun U6 hM => ?_)
    ·refine zb ?_
     refine sM hS rfl fun hS => sM hS rfl fun hS => qq hS rfl Tryz.call95 (zD hG K (qw.mk (qE.mk (qs.mk VS) VO.Reader_.text_) VO.out_ VO.limit_) (3 : Int) VW VP VT Ua V0 V1 VQ V3 Uq V4 (hS.st.part 3 [0, 1, 2, 3] (by kernel_rfl)) (qh hM) (fun Kx UI UP w hM Kp hst => qn hS.ev hst.appF rfl fun hS => ?_) (fun v w hk hst => zY (zu (qB (qB (zu (qB (⟨hS.ev.defs, hpan _ _ hk hst.appF.frame⟩))))))))
     replace hS : Ss _ _ _ H [VP, UP, VQ, Ub] F _ _ := hS
     obtain ⟨UD, hM⟩ := qt hM
     refine sO hS (ZH rfl rfl Tryz.runUnderlying148 Tryz.sizeOf3 UD) rfl fun hS => YR (xs := VU) (g := (ci .i64)) (pre := []) (post := []) 3 (Kx) hS rfl rfl Ur rfl (by simp) rfl (fun _ => rfl) (yE Ug UD) rfl Tryz.sizeOf3 (xg _) fun Ut w UQ hz Us hS => ?_
     have Ke : Ut.length = 19 := by rw [hz, List.length_set]; exact Ug
     have hM := qp hz hM; clear hz
     replace Us : xf UQ V8 (Ut.flatMap (ci .i64)) 148 := by simpa using Us
     refine qL <| qW (qc ?_)
     refine zb <| sB hS rfl fun hS => sM hS rfl fun hS => qL <| qc ?_
     exact UC _ _ ⟨UI, UP, Ut, UQ, (qi (Uf + (1 : Int))), hS.to [0, 1, 2, 3] (by kernel_rfl) ⟨rfl, rfl, rfl, rfl, rfl, rfl, rfl, trivial⟩, Kp, Ke, Us, hM⟩
    ·refine wp_skip ?_
     refine qW (qc ?_)
     refine zb <| sB hS rfl fun hS => sM hS rfl fun hS => qL <| qc ?_
     exact UC _ _ ⟨VS, Ua, VU, Ub, (qi (Uf + (1 : Int))), hS.to [0, 1, 2, 3] (by kernel_rfl) ⟨rfl, rfl, rfl, rfl, rfl, rfl, rfl, trivial⟩, Uq, Ug, Ur, hM⟩
   ·refine wp_exit ?_
    refine qv (qv (qO (qc ?_)))
    exact U2 _ _ ⟨VS, Ua, VU, Ub, hS.to [0, 1, 2, 3] (by kernel_rfl) ⟨rfl, rfl, rfl, rfl, trivial⟩, Uq, Ug, Ur, hM⟩
 ·intro a w hI
  obtain ⟨VZ, Uc, VV, VX, hS, U0, Uh, UB, hM⟩ := hI
  rw [zr.j2] at hM
  refine qe <| sO hS (QX (xs := VV) (g := (ci .i64)) (pre := []) (post := []) 3 rfl UB rfl (by simp) rfl (zP (g := (ci .i64)) (sz := 1) (fun _ => rfl) Uh) Tryz.isAgg148 Tryz.sizeOf148) rfl fun hS => sO hS (X5 (([0, 0, 0, 0, 0, 0, 0, 0, 0, 0, 0, 0, 0, 0, 0, 0, 0, 0, 0] : List Int).flatMap (ci .i64)) Tryz.zeroValue148 Tryz.runUnderlying148 Tryz.sizeOf3 rfl (by kernel_rfl)) rfl fun hS => sO hS (YZ rfl rfl Tryz.runUnderlying148 Tryz.runUnderlying3 Tryz.sizeOf3 Tryz.isAgg3 Uh rfl Tryz.eqGuardType148 rfl) rfl fun hS => qq hS rfl Tryz.call100 (zL hG K (VV == ([0, 0, 0, 0, 0, 0, 0, 0, 0, 0, 0, 0, 0, 0, 0, 0, 0, 0, 0] : List Int)) (3 : Int) (hS.st.part 0 [0, 1, 2, 3] (by kernel_rfl)) (qh hM) (fun  w hM  hst => qn hS.ev hst.appF rfl fun hS => ?_) (fun v w hk hst => zY (qB (⟨hS.ev.defs, hpan _ _ hk hst.appF.frame⟩))))
  replace hS : Ss _ _ _ H [VP, Uc, VQ, VX] F _ _ := hS
  refine qm <| qe <| sM hS rfl fun hS => sM hS rfl fun hS => sM hS rfl fun hS => sB hS rfl fun hS => sO hS (JM rfl Tryz.runUnderlying148 Tryz.sizeOf3 Uh rfl) rfl fun hS => qq hS rfl Tryz.call125 (yy hG K VV (some ⟨V8, 0, none⟩) (19) (UB.rdF (i := 3) rfl rfl) (Nat.le_of_eq Uh) (hS.st.part 0 [0, 1, 2, 3] (by kernel_rfl)) (qh hM) (fun KB KF Kl w hM Kq hst => qn hS.ev hst.appF rfl fun hS => ?_) (fun v w hk hst => zY (qB (⟨hS.ev.defs, hpan _ _ hk hst.appF.frame⟩))))
  replace hS : Ss _ _ _ H [Kl, VP, Uc, VQ, VX] F _ _ := hS
  obtain ⟨Ky, Kg, hM⟩ := Qb hM
  obtain ⟨Ki, hA, U3⟩ := Kq.get Kg
  obtain ⟨Un, Kh, Kj, Uo, hF, U1, Kf, U4⟩ := U3
  subst hA; subst hF
  replace hS := hS.front [0, 1, 2, 3, 4] (by kernel_rfl)
  replace hS := hS.splitF
  refine qq hS rfl Tryz.call126 (vV hG K (qw.mk (qE.mk (qs.mk VZ) VO.Reader_.text_) VO.out_ VO.limit_) (qi (VR + V2)) Ky VW VP VT Uc V0 V1 VQ Ki Un Kh Kj Uo V3 U0 V4 U1 Kf U4 (hS.st.part 5 [2, 3, 4, 0, 1, 5] (by kernel_rfl)) (qh hM) (fun VY V9 V5 Uw UJ Up w hM Ud Kr hst => qn hS.ev hst.appF rfl fun hS => ?_) (fun v w hk hst => zY (qB (⟨hS.ev.defs, hpan _ _ hk hst.appF.frame⟩))))
  replace hS : Ss _ _ _ H [Uw, Un, Uo, VP, Up, VQ, VX] F _ _ := hS
  refine sA hS rfl fun hS => qm <| qe <| sM hS rfl fun hS => ?_
  obtain ⟨UE, hM⟩ := qt hM
  refine sO hS (xF rfl rfl Tryz.runUnderlying128 Tryz.sizeOf3 (Ud.rd (i := 0) rfl) (fun _ => rfl) rfl UE) rfl fun hS => sO hS (xO rfl (Ud.rd (i := 0) rfl) (fun _ => rfl) UE rfl Tryz.isAgg3) rfl fun hS => sB hS rfl fun hS => qq hS rfl Tryz.call100 (zL hG K ((rd V5 (256 : Int)) == (0 : Int)) (3 : Int) (hS.st.part 0 [0, 1, 2, 3, 4, 5, 6] (by kernel_rfl)) (qh hM) (fun  w hM  hst => qn hS.ev hst.appF rfl fun hS => ?_) (fun v w hk hst => zY (qB (⟨hS.ev.defs, hpan _ _ hk hst.appF.frame⟩))))
  replace hS : Ss _ _ _ H [Uw, Un, Uo, VP, Up, VQ, VX] F _ _ := hS
  refine qm <| wp_seq ?_
  obtain ⟨Kc, hM⟩ := qt hM
  obtain ⟨V6, Ui, Ul, hz, U9, U7, UK⟩ := JE (g := (ci .i64)) (A := VY) Tryz.prog Tryz.runUnderlying128 Tryz.sizeOf3 (fun _ => rfl) (Ud.cap (fun _ => rfl) rfl) Kc
  replace hM := qp hz hM; clear hz
  obtain ⟨Kd, hM⟩ := qt hM
  obtain ⟨V7, Uj, Um, hz, Ka, U8, Ux⟩ := JE (g := (ci .i64)) (A := VY) Tryz.prog Tryz.runUnderlying128 Tryz.sizeOf3 (fun _ => rfl) (Ud.cap (fun _ => rfl) rfl) Kd
  replace hM := qp hz hM; clear hz
  refine qM (vals := [some (.slice VY V5.length V9), some (.int .i64 VR), some (.slice Ui V6.length Ul), none, some (.slice VY V5.length V9), some (.int .i64 VR), some (.slice Uj V7.length Um), none, none, none]) hS zV rfl ?_
  intro l w ho hcl hA hst
  refine x4 hA hst ho hcl zO zW 3 [0, 1, 2, 4, 5, 6] rfl rfl rfl rfl rfl (by exact ⟨nM rfl, nM rfl, nQ rfl (by exact qJ (UK rfl YF (Xn rfl)) rfl), nM rfl, nM rfl, nQ rfl (by exact qJ (Ux rfl (XI rfl) Yy) rfl), trivial⟩) fun D l a w ho hcl hav hpre hm hE hk hA hst => ?_
  have hS := (Ss.mk hE hst).env2 (e' := [(58, .slice Ui V6.length Ul)]) ⟨rfl, trivial⟩
  refine qC rfl <| qq hS rfl Tryz.call125 (yy hG K V6 Ui Ul (U9 _ _ _ (Ud.rdF (i := 0) rfl)) U7 (hS.st.part 0 [0, 1, 2, 3, 4, 5, 6] (by kernel_rfl)) (qh hM) (fun Uk Kz UA w hM Ks hst => qn hS.ev hst.appF rfl fun hS => ?_) (fun v w hk hst => zY (qB (qB (⟨hS.ev.defs, hpan _ _ hk hst.appF.frame⟩)))))
  replace hS : Ss _ _ _ H [UA, Uw, Un, Uo, VP, Up, VQ, VX] F _ _ := hS
  refine qm ?_
  replace hst := hS.st
  obtain ⟨hcl, hmust, hav2, hA⟩ := dn (vals' := [some (.slice VY V5.length V9), some (.int .i64 VR), some (.slice Ui V6.length Ul), some (.pointer Uk), some (.slice VY V5.length V9), some (.int .i64 VR), some (.slice Uj V7.length Um), none, none, none]) 3 [(2, 3), (0, 2), (1, 2)] hA hcl hav hm hpre hk rfl rfl rfl rfl rfl rfl rfl
  clear hm hav
  refine x4 hA hst ho hcl hav2 hmust 7 [4, 5, 6] rfl rfl rfl rfl rfl (by exact ⟨nM rfl, nM rfl, nQ rfl (by exact qJ (Ux rfl (XI rfl) Yy) rfl), trivial⟩) fun D l a w ho hcl hav hpre hm hE hk hA hst => ?_
  have hS := (Ss.mk hE hst).env2 (e' := [(62, .slice Uj V7.length Um)]) ⟨rfl, trivial⟩
  refine qC rfl <| qq hS rfl Tryz.call125 (yy hG K V7 Uj Um (Ka _ _ _ (Ud.rdF (i := 1) rfl)) U8 (hS.st.part 0 [0, 1, 2, 3, 4, 5, 6, 7] (by kernel_rfl)) (qh hM) (fun Uu KA UR w hM Kt hst => qn hS.ev hst.appF rfl fun hS => ?_) (fun v w hk hst => zY (qB (qB (⟨hS.ev.defs, hpan _ _ hk hst.appF.frame⟩)))))
  replace hS : Ss _ _ _ H [UR, UA, Uw, Un, Uo, VP, Up, VQ, VX] F _ _ := hS
  refine qm ?_
  replace hst := hS.st
  obtain ⟨hcl, hmust, hav2, hA⟩ := dn (vals' := [some (.slice VY V5.length V9), some (.int .i64 VR), some (.slice Ui V6.length Ul), some (.pointer Uk), some (.slice VY V5.length V9), some (.int .i64 VR), some (.slice Uj V7.length Um), some (.pointer Uu), some (.pointer Uk), some (.pointer Uu)]) 7 [(3, 7), (6, 7), (2, 3), (4, 6), (5, 6), (0, 2), (1, 2)] hA hcl hav hm hpre hk rfl rfl rfl rfl rfl rfl rfl
  clear hm hav
  refine xq hA hst ho hcl hmust [8, 9] rfl rfl rfl (by exact ⟨nA rfl, nA rfl, trivial⟩) fun a w hS => ?_
  replace hS := hS.env2 (e' := [(2, .pointer Uk), (3, .pointer Uu)]) ⟨rfl, rfl, trivial⟩
  refine qc <| wp_ret ?_
  exact qP (rs := [2, 3]) hS rfl rfl (hret Uk Kz UA Uu KA UR UJ Up _ (qG hM) Ks Kt Kr (hS.st.pick [1, 0, 5, 6, 7] (by kernel_rfl)))
theorem vC {H : z7} {F : List qj} {w : World} {R : Ending → World → Prop} {kr : (Bool × Int × (List Int)) → Prop} {kp : Value → Prop} (hG : Gl H) (K : Nat) (VO : qw) (VV : Nat) (VP : qj) (VR : Nat) (V3 : qj) (VU : Option Addr) (VW : Nat) (VQ : qj) (VS : xf VP VV ([qx VR 0, .slice VU VO.out_.length VW, .int .i64 VO.limit_]) 103) (UC : xf V3 VR ([.int .i64 VO.Reader_.place_.at_, qN VO.Reader_.text_]) 151) (VT : zM 5 (ci .u8) 1 VU VO.out_ VW VQ)
    (hS : St w H [VP, V3, VQ] F) (hm : (yK.m K VO).wp kr kp)
    (hret : ∀ (UB : Bool) (V1 : Int) (Uy : qj) (Ud : Option Addr) (Ue : Nat) (V0 : (List Int)) (Uz : qj) (UA : qj) (w : World), kr (UB, V1, V0) → (xf Uy VR ([.int .i64 V1, qN VO.Reader_.text_]) 151) → (zM 5 (ci .u8) 1 Ud V0 Ue Uz) → (xf UA VV ([qx VR 0, .slice Ud V0.length Ue, .int .i64 VO.limit_]) 103) → St w H [UA, Uy, Uz] F → R (.returned (.bool UB)) w)
    (hpan : ∀ v w, kp v → St w H [] F → R (.panicked [⟨v, false, false⟩]) w) :
    Calls Tryz.prog 76 ⟨[qx VV 0]⟩ w R := by
 refine enter Tryz.func76 rfl Tryz.ntmps76 rfl hS fun a w hS => ?_
 have hM := hm; clear hm
 rw [yK.m] at hM
 refine qe <| sA hS rfl fun hS => qm <| qe <| sM hS rfl fun hS => qq hS rfl Tryz.call95 (zD hG K VO (1 : Int) VV VP VR V3 VU VW VQ VS UC VT (hS.st.part 3 [0, 1, 2] (by kernel_rfl)) (qh hM) (fun KB V5 Uf w hM Km hst => qn hS.ev hst.appF rfl fun hS => ?_) (fun v w hk hst => zY (qB (⟨hS.ev.defs, hpan _ _ hk hst.appF.frame⟩))))
 replace hS : Ss _ _ _ H [VP, Uf, VQ] F _ _ := hS
 refine sB hS rfl fun hS => qY (v := Value.bool) (x0 := (KB == (1 : Int))) hS (zE rfl) rfl fun VX a w hz hS => ?_
 have hM := qp hz hM; clear hz
 refine qm <| wp_seq <| qe <| sM hS rfl fun hS => qq hS rfl Tryz.call95 (zD hG K (qw.mk (qE.mk (qs.mk V5) VO.Reader_.text_) VO.out_ VO.limit_) (2 : Int) VV VP VR Uf VU VW VQ VS Km VT (hS.st.part 3 [0, 1, 2] (by kernel_rfl)) (qh hM) (fun V4 VY VZ w hM V2 hst => qn hS.ev hst.appF rfl fun hS => ?_) (fun v w hk hst => zY (qB (qB (⟨hS.ev.defs, hpan _ _ hk hst.appF.frame⟩)))))
 replace hS : Ss _ _ _ H [VP, VZ, VQ] F _ _ := hS
 refine qm <| z3 <| qe <| sB hS rfl fun hS => qY (v := Value.bool) (x0 := (V4 == (0 : Int))) hS (zE rfl) rfl fun KK a w hz hS => ?_
 have hM := qp hz hM; clear hz
 refine qm <| qo hS rfl hM (fun UP hM => ?_) (fun UP hM => ?_)
 ·refine zb ?_
  refine sM hS rfl fun hS => qq hS rfl Tryz.call96 (vt hG K (qw.mk (qE.mk (qs.mk VY) VO.Reader_.text_) VO.out_ VO.limit_) VV VP VR VZ VU VW VQ VS V2 VT (hS.st.part 3 [0, 1, 2] (by kernel_rfl)) (qh hM) (fun V6 Ug U0 Kb Ua Uh Ui w hM Kn Ko Kp hst => qn hS.ev hst.appF rfl fun hS => ?_) (fun v w hk hst => zY (zu (qB (⟨hS.ev.defs, hpan _ _ hk hst.appF.frame⟩)))))
  replace hS : Ss _ _ _ H [Ui, Ug, Uh] F _ _ := hS
  refine qL <| qW (qc ?_)
  refine qe <| sM hS rfl fun hS => sA hS rfl fun hS => qm <| wp_ret ?_
  exact qP (rs := [2]) hS rfl rfl (hret VX V6 Ug U0 Kb Ua Uh Ui _ (qG hM) Kn Ko Kp (hS.st.pick [0, 1, 2] (by kernel_rfl)))
 ·refine wp_seq ?_
  refine zb <| sB hS rfl fun hS => qY (v := Value.bool) (x0 := (V4 == (1 : Int))) hS (zE rfl) rfl fun KL a w hz hS => ?_
  have hM := qp hz hM; clear hz
  refine qm <| qo hS rfl hM (fun UQ hM => ?_) (fun UQ hM => ?_)
  ·refine zb ?_
   refine sM hS rfl fun hS => qq hS rfl Tryz.call98 (Qp hG K  (hS.st.part 0 [0, 1, 2] (by kernel_rfl)) (qh hM) (fun KG KN Ki KH KO Kj w hM Kq Kr hst => qn hS.ev hst.appF rfl fun hS => ?_) (fun v w hk hst => zY (zu (qB (⟨hS.ev.defs, hpan _ _ hk hst.appF.frame⟩)))))
   replace hS : Ss _ _ _ H [Ki, Kj, VP, VZ, VQ] F _ _ := hS
   refine sO hS (ex rfl rfl) rfl fun hS => sO hS (ex rfl rfl) rfl fun hS => ?_
   obtain ⟨KC, UW, hM⟩ := Qb hM
   obtain ⟨U7, hA, UH⟩ := Kq.get UW
   obtain ⟨Uj, U1, Kc, Uk, hF, UD, US, UL⟩ := UH
   subst hA; subst hF
   replace hS := hS.front [0, 1, 2, 3, 4] (by kernel_rfl)
   replace hS := hS.splitF
   obtain ⟨KD, UX, hM⟩ := Qb hM
   obtain ⟨U8, hA, UI⟩ := Kr.get UX
   obtain ⟨Ul, U2, Kd, Um, hF, UE, UT, UM⟩ := UI
   subst hA; subst hF
   replace hS := hS.front [2, 0, 1, 3, 4, 5] (by kernel_rfl)
   replace hS := hS.splitF
   refine qq hS rfl Tryz.call97 (yV hG K (qw.mk (qE.mk (qs.mk VY) VO.Reader_.text_) VO.out_ VO.limit_) KC KD VV VP VR VZ VU VW VQ U7 Uj U1 Kc Uk U8 Ul U2 Kd Um VS V2 VT UD US UL UE UT UM (hS.st.part 7 [4, 5, 6, 2, 3, 0, 1] (by kernel_rfl)) (qh hM) (fun V7 Un U3 Ke Ub Uo Up w hM Ks Kt Ku hst => qn hS.ev hst.appF rfl fun hS => ?_) (fun v w hk hst => zY (zu (qB (⟨hS.ev.defs, hpan _ _ hk hst.appF.frame⟩)))))
   replace hS : Ss _ _ _ H [Ul, Um, Uj, Uk, Up, Un, Uo] F _ _ := hS
   refine qL <| qW (qc ?_)
   refine qe <| sM hS rfl fun hS => sA hS rfl fun hS => qm <| wp_ret ?_
   exact qP (rs := [2]) hS rfl rfl (hret VX V7 Un U3 Ke Ub Uo Up _ (qG hM) Ks Kt Ku (hS.st.pick [4, 5, 6] (by kernel_rfl)))
  ·refine wp_seq ?_
   refine zb <| sB hS rfl fun hS => qY (v := Value.bool) (x0 := (V4 == (2 : Int))) hS (zE rfl) rfl fun KM a w hz hS => ?_
   have hM := qp hz hM; clear hz
   refine qm <| qo hS rfl hM (fun UR hM => ?_) (fun UR hM => ?_)
   ·refine zb ?_
    refine sM hS rfl fun hS => sM hS rfl fun hS => qq hS rfl Tryz.call99 (vl hG K (qw.mk (qE.mk (qs.mk VY) VO.Reader_.text_) VO.out_ VO.limit_) VV VP VR VZ VU VW VQ VS V2 VT (hS.st.part 3 [0, 1, 2] (by kernel_rfl)) (qh hM) (fun KI KP Kk KJ KQ Kl V8 Uq w hM Kv Kw Kx hst => qn hS.ev hst.appF rfl fun hS => ?_) (fun v w hk hst => zY (zu (qB (⟨hS.ev.defs, hpan _ _ hk hst.appF.frame⟩)))))
    replace hS : Ss _ _ _ H [Kk, Kl, VP, Uq, VQ] F _ _ := hS
    refine sO hS (ex rfl rfl) rfl fun hS => sO hS (ex rfl rfl) rfl fun hS => ?_
    obtain ⟨KE, UY, hM⟩ := Qb hM
    obtain ⟨U9, hA, UJ⟩ := Kv.get UY
    obtain ⟨Ur, U4, Kf, Us, hF, UF, UU, UN⟩ := UJ
    subst hA; subst hF
    replace hS := hS.front [0, 1, 2, 3, 4] (by kernel_rfl)
    replace hS := hS.splitF
    obtain ⟨KF, UZ, hM⟩ := Qb hM
    obtain ⟨Ka, hA, UK⟩ := Kw.get UZ
    obtain ⟨Ut, U5, Kg, Uu, hF, UG, UV, UO⟩ := UK
    subst hA; subst hF
    replace hS := hS.front [2, 0, 1, 3, 4, 5] (by kernel_rfl)
    replace hS := hS.splitF
    refine qq hS rfl Tryz.call97 (yV hG K (qw.mk (qE.mk (qs.mk V8) VO.Reader_.text_) VO.out_ VO.limit_) KE KF VV VP VR Uq VU VW VQ U9 Ur U4 Kf Us Ka Ut U5 Kg Uu VS Kx VT UF UU UN UG UV UO (hS.st.part 7 [4, 5, 6, 2, 3, 0, 1] (by kernel_rfl)) (qh hM) (fun V9 Uv U6 Kh Uc Uw Ux w hM Ky Kz KA hst => qn hS.ev hst.appF rfl fun hS => ?_) (fun v w hk hst => zY (zu (qB (⟨hS.ev.defs, hpan _ _ hk hst.appF.frame⟩)))))
    replace hS : Ss _ _ _ H [Ut, Uu, Ur, Us, Ux, Uv, Uw] F _ _ := hS
    refine qL <| qW (qc ?_)
    refine qe <| sM hS rfl fun hS => sA hS rfl fun hS => qm <| wp_ret ?_
    exact qP (rs := [2]) hS rfl rfl (hret VX V9 Uv U6 Kh Uc Uw Ux _ (qG hM) Ky Kz KA (hS.st.pick [4, 5, 6] (by kernel_rfl)))
   ·refine zb ?_
    refine qq hS rfl Tryz.call100 (zL hG K true (3 : Int) (hS.st.part 0 [0, 1, 2] (by kernel_rfl)) (qh hM) (fun  w hM  hst => qn hS.ev hst.appF rfl fun hS => ?_) (fun v w hk hst => zY (zu (qB (⟨hS.ev.defs, hpan _ _ hk hst.appF.frame⟩)))))
    replace hS : Ss _ _ _ H [VP, VZ, VQ] F _ _ := hS
    refine qL <| qW (qc ?_)
    refine qe <| sM hS rfl fun hS => sA hS rfl fun hS => qm <| wp_ret ?_
    exact qP (rs := [2]) hS rfl rfl (hret VX VY VZ VU VW VO.out_ VQ VP _ (qG hM) V2 VT VS (hS.st.pick [0, 1, 2] (by kernel_rfl)))
theorem uS {H : z7} {F : List qj} {w : World} {R : Ending → World → Prop} {kr : Unit → Prop} {kp : Value → Prop} (hG : Gl H) (K : Nat) (VO : qE) (VQ : Nat) (VP : qj) (VR : xf VP VQ ([.int .i64 VO.place_.at_, qN VO.text_]) 151)
    (hS : St w H [VP] F) (hm : (jL.m K VO).wp kr kp)
    (hret : ∀ (w : World), kr () → St w H [VP] F → R (.returned (.int .i64 VO.place_.at_)) w) :
    Calls Tryz.prog 77 ⟨[qx VQ 0]⟩ w R := by
 refine enter Tryz.func77 rfl Tryz.ntmps77 rfl hS fun a w hS => ?_
 have hM := hm; clear hm
 rw [jL.m] at hM
 refine qe <| sA hS rfl fun hS => qm <| wp_seq <| qe <| sM hS rfl fun hS => sO hS (uD rfl rfl Tryz.runUnderlying100) rfl fun hS => qm <| v7 hS rfl <| wp_skip <| qc <| qe <| sM hS rfl fun hS => sO hS (xM rfl) rfl fun hS => sO hS (zz rfl Tryz.runUnderlying151 rfl Tryz.sizeOf125 rfl) rfl fun hS => sO hS (zz rfl Tryz.runUnderlying125 rfl Tryz.sizeOf3 rfl) rfl fun hS => sO hS (zU 0 rfl VR rfl rfl Tryz.isAgg3) rfl fun hS => sA hS rfl fun hS => qm <| wp_ret ?_
 exact qP (rs := [2]) hS rfl rfl (hret _ (qG hM) (hS.st.pick [0] (by kernel_rfl)))
theorem uG {H : z7} {F : List qj} {w : World} {R : Ending → World → Prop} {kr : ((List UInt8) × Int × Int) → Prop} {kp : Value → Prop} (hG : Gl H) (K : Nat) (VY : List UInt8) (VR : Int)
    (hS : St w H [] F) (hm : (zA.m K VY VR).wp kr kp)
    (hret : ∀ (Uy : List UInt8) (Uz : Int) (UA : Int) (w : World), kr (Uy, Uz, UA) → St w H [] F → R (.returned (.tuple ⟨[qN Uy, .int .i64 Uz, .int .i64 UA]⟩)) w) :
    Calls Tryz.prog 58 ⟨[qN VY, .int .i64 VR]⟩ w R := by
 refine Ja Tryz.func58 rfl Tryz.ntmps58 rfl hS fun a w hS => ?_
 have hM := hm; clear hm
 rw [zA.m] at hM
 refine qe <| jz ([qN ([] : List UInt8)]) hS Tryz.zeroValue9 rfl rfl fun w VU V2 V7 hS => jz ([.int .i64 (0 : Int)]) hS Tryz.zeroValue3 rfl rfl fun w VV V3 V8 hS => jz ([.int .i64 (0 : Int)]) hS Tryz.zeroValue24 rfl rfl fun w VW V4 V9 hS => qm <| wp_seq <| qe <| sM hS rfl fun hS => sB hS rfl fun hS => sM hS rfl fun hS => xm 2 false 10 (b := (decide (VR < (0 : Int)))) (r := (decide (VR > (1073741824 : Int)))) hS rfl rfl rfl rfl rfl rfl rfl (fun hb a w hS K hK => ?_) rfl fun a w hS => ?_
 ·refine qI hS rfl rfl rfl hb (mv rfl) rfl fun a w hS => ?_
  refine qI hS rfl rfl rfl hb (xN rfl rfl rfl) rfl fun a w hS => ?_
  exact qL (hK _ _ (hS.up 2 rfl rfl))
 refine qm <| qo hS rfl hM (fun UT hM => ?_) (fun UT hM => ?_)
 ·refine wp_seq ?_
  refine zb <| Qr 2 ([qN ([] : List UInt8)]) hS rfl rfl V7 rfl rfl rfl rfl Tryz.sizeOf9 fun w U1 UB hS => Qr 1 ([.int .i64 (0 : Int)]) hS rfl rfl V8 rfl rfl rfl rfl Tryz.sizeOf3 fun w U2 UC hS => Qr 0 ([.int .i64 (1 : Int)]) hS rfl rfl V9 rfl rfl rfl rfl Tryz.sizeOf24 fun w U3 UD hS => qm <| wp_ret <| qu ?_
  exact YP hS.ev (u2 (vs := [qN ([] : List UInt8), .int .i64 (0 : Int), .int .i64 (1 : Int)]) hS.ev hS.st rfl (by exact ⟨YM 2 rfl UB rfl rfl Tryz.isAgg9, YM 1 rfl UC rfl rfl Tryz.isAgg3, YM 0 rfl UD rfl rfl Tryz.isAgg24, trivial⟩) (hret ([] : List UInt8) (0 : Int) (1 : Int) _ (qG hM) (hS.st.pick [] (by kernel_rfl))))
 ·refine wp_skip ?_
  refine qc <| qe <| sO hS (JL rfl rfl) rfl fun hS => YO hS rfl fun a w hS => ?_
  obtain ⟨V5, Up, hM⟩ := Yx hM
  have Uq : ∀ v w a, V5 v → Ev 35 [⟨.fn (.func 74) ⟨[qx VU 0, qx VV 0, qx VW 0]⟩, ⟨[]⟩⟩] [(4, qx VU 0), (5, qx VV 0), (6, qx VW 0)] a → St w H [V2, V3, V4] F → bodyPostD Tryz.prog Tryz.f58 R (.panic [⟨v, false, false⟩]) a w := by
   intro v w a hk Un hst
   have hM := Up v hk
   rw [zA.h1] at hM
   obtain ⟨VS, UV, hM⟩ := Qb hM
   cases Y8 UV
   refine Jn Un hst Tryz.call74 Tryz.func74 rfl Tryz.ntmps74 rfl rfl rfl fun a w hS => qe <| sM hS rfl fun hS => sO hS (Vv .neq rfl rfl Tryz.runUnderlying20 rfl) rfl fun hS => qm <| ZE hS rfl <| qM (vals := [some (.iface 98 (.agg ⟨[.int .i64 VS]⟩)), some (.agg ⟨[.int .i64 VS]⟩), some (.int .i64 VS), none, none, none]) hS zV rfl ?_
   intro l w ho hcl hA hst
   refine x4 hA hst ho hcl zO zW 3 [0, 1, 2] rfl rfl rfl rfl rfl (by exact ⟨nM rfl, nQ rfl (by exact qJ (J7 rfl Tryz.runUnderlying98 rfl) rfl), nQ rfl (by exact qJ (Jw rfl Tryz.runUnderlying98 rfl Tryz.isAgg24 rfl) rfl), trivial⟩) fun D l a w ho hcl hav hpre hm hE hk hA hst => ?_
   have hS := (Ss.mk hE hst).env2 (e' := [(0, qx VU 0)]) ⟨rfl, trivial⟩
   refine qC rfl <| Qr 0 ([qN ([] : List UInt8)]) hS rfl rfl V7 rfl rfl rfl rfl Tryz.sizeOf9 fun w U4 UE hS => qm ?_
   replace hst := hS.st
   obtain ⟨hcl, hmust, hav2, hA⟩ := Qt (vals' := [some (.iface 98 (.agg ⟨[.int .i64 VS]⟩)), some (.agg ⟨[.int .i64 VS]⟩), some (.int .i64 VS), some undef, none, none]) 3 [] hA hcl hav hm hpre rfl rfl rfl rfl rfl
   clear hm hav
   refine x4 hA hst ho hcl hav2 hmust 4 [0, 1, 2] rfl rfl rfl rfl rfl (by exact ⟨nM rfl, nQ rfl (by exact qJ (J7 rfl Tryz.runUnderlying98 rfl) rfl), nQ rfl (by exact qJ (Jw rfl Tryz.runUnderlying98 rfl Tryz.isAgg24 rfl) rfl), trivial⟩) fun D l a w ho hcl hav hpre hm hE hk hA hst => ?_
   have hS := (Ss.mk hE hst).env2 (e' := [(1, qx VV 0)]) ⟨rfl, trivial⟩
   refine qC rfl <| Qr 1 ([.int .i64 (0 : Int)]) hS rfl rfl V8 rfl rfl rfl rfl Tryz.sizeOf3 fun w U5 UF hS => qm ?_
   replace hst := hS.st
   obtain ⟨hcl, hmust, hav2, hA⟩ := Qt (vals' := [some (.iface 98 (.agg ⟨[.int .i64 VS]⟩)), some (.agg ⟨[.int .i64 VS]⟩), some (.int .i64 VS), some undef, some undef, none]) 4 [(3, 4)] hA hcl hav hm hpre rfl rfl rfl rfl rfl
   clear hm hav
   refine x4 hA hst ho hcl hav2 hmust 5 [0, 1, 2] rfl rfl rfl rfl rfl (by exact ⟨nM rfl, nQ rfl (by exact qJ (J7 rfl Tryz.runUnderlying98 rfl) rfl), nQ rfl (by exact qJ (Jw rfl Tryz.runUnderlying98 rfl Tryz.isAgg24 rfl) rfl), trivial⟩) fun D l a w ho hcl hav hpre hm hE hk hA hst => ?_
   have hS := (Ss.mk hE hst).env2 (e' := [(2, qx VW 0), (9, .int .i64 VS)]) ⟨rfl, rfl, trivial⟩
   refine qC rfl <| Qr 2 ([.int .i64 VS]) hS rfl rfl V9 rfl rfl rfl rfl Tryz.sizeOf24 fun w U6 UG hS => qm ?_
   replace hst := hS.st
   obtain ⟨hcl, hmust, hav2, hA⟩ := Qt (vals' := [some (.iface 98 (.agg ⟨[.int .i64 VS]⟩)), some (.agg ⟨[.int .i64 VS]⟩), some (.int .i64 VS), some undef, some undef, some undef]) 5 [(0, 5), (1, 5), (2, 5), (3, 5), (4, 5)] hA hcl hav hm hpre rfl rfl rfl rfl rfl
   clear hm hav
   refine xq hA hst ho hcl hmust [] rfl rfl rfl trivial fun a w hS => ?_
   replace hS := hS.env2 (e' := []) trivial
   exact YY hS rfl (u2 (vs := [qN ([] : List UInt8), .int .i64 (0 : Int), .int .i64 VS]) Un hS.st rfl (by exact ⟨YM 0 rfl UE rfl rfl Tryz.isAgg9, YM 1 rfl UF rfl rfl Tryz.isAgg3, YM 2 rfl UG rfl rfl Tryz.isAgg24, trivial⟩) (hret ([] : List UInt8) (0 : Int) VS _ (qG hM) (hS.st.pick [] (by kernel_rfl))))
  rw [zA.j2] at hM
  refine qm <| qe <| sM hS rfl fun hS => qq hS rfl Tryz.call75 (Xk hG K VY (hS.st.part 0 [0, 1, 2] (by kernel_rfl)) (qh hM) (fun VT Ut w hM UY hst => qn hS.ev hst.appF rfl fun hS => ?_))
  replace hS : Ss _ _ _ H [Ut, V4, V3, V2] F _ _ := hS
  refine sM hS rfl fun hS => sO hS (vI ([qx VT 0, .slice none 0 0, .int .i64 VR]) [(0, 1), (1, 1), (2, 1)] Tryz.zeroValue103 Tryz.runUnderlying103 (by intro w; simp [Tryz.sizeOf100, Tryz.sizeOf3, Tryz.sizeOf44]) rfl rfl) rfl fun hS => bx ([qx VT 0, .slice none 0 0, .int .i64 VR]) hS rfl rfl rfl fun w VO UW UH hS => ?_
  obtain ⟨UX, UR, hS⟩ := hS.nilV 5 (ci .u8) 1
  refine sA hS rfl fun hS => qm <| qV (fun a w => ∃ (VP : Int) (V6 : qj) (VZ : Option Addr) (V0 : Nat) (VQ : (List Int)) (Uh : qj) (Ui : qj), Ss 35 [⟨.fn (.func 74) ⟨[qx VU 0, qx VV 0, qx VW 0]⟩, ⟨[]⟩⟩] [(4, qx VU 0), (5, qx VV 0), (6, qx VW 0), (7, qx VO 0)] H [V2, V3, V4, Ui, V6, Uh] F a w ∧ (xf V6 VT ([.int .i64 VP, qN VY]) 151) ∧ (zM 5 (ci .u8) 1 VZ VQ V0 Uh) ∧ (xf Ui VO ([qx VT 0, .slice VZ VQ.length V0, .int .i64 VR]) 103) ∧ (zA.j4 K VY VP VQ).wp kr V5) (fun U0 UQ => ?_) ?_
  ·refine z3 ?_
   refine q6 (fun Ux a w => ∃ (V1 : Int) (Ue : qj) (Ub : Option Addr) (Ud : Nat) (VX : (List Int)) (Uf : qj) (Ug : qj), Ss 35 [⟨.fn (.func 74) ⟨[qx VU 0, qx VV 0, qx VW 0]⟩, ⟨[]⟩⟩] [(4, qx VU 0), (5, qx VV 0), (6, qx VW 0), (7, qx VO 0)] H [V2, V3, V4, Ug, Ue, Uf] F a w ∧ (xf Ue VT ([.int .i64 V1, qN VY]) 151) ∧ (zM 5 (ci .u8) 1 Ub VX Ud Uf) ∧ (xf Ug VO ([qx VT 0, .slice Ub VX.length Ud, .int .i64 VR]) 103) ∧ (zA.l3 K VY VR Ux V1 VX).wp kr V5) K ?_ ?_ ?_
   ·exact ⟨(0 : Int), Ut, none, 0, ([] : List Int), UX, UW, hS.to [5, 4, 3, 1, 2, 0] (by kernel_rfl) ⟨rfl, rfl, rfl, rfl, trivial⟩, UY, UR, UH, hM⟩
   ·intro a w hI; obtain ⟨_, _, _, _, _, _, _, _, _, _, _, hM⟩ := hI; exact qX hM
   ·intro Ux a w hI UZ UP
    obtain ⟨V1, Ue, Ub, Ud, VX, Uf, Ug, hS, UI, US, UJ, hM⟩ := hI
    rw [zA.l3] at hM
    refine wp_seq <| qe <| sM hS rfl fun hS => qq hS rfl Tryz.call76 (vC hG K (qw.mk (qE.mk (qs.mk V1) VY) VX VR) VO Ug VT Ue Ub Ud Uf UJ UI US (hS.st.part 3 [3, 4, 5, 0, 1, 2] (by kernel_rfl)) (qh hM) (fun Ka Uc Uk Ur Us Uj Ul Um w hM Uu Uv Uw hst => qn hS.ev hst.appF rfl fun hS => ?_) (fun v w hk hst => zY (qB (qB (qB (zu (qB (Uq _ _ _ hk (hS.env2 (e' := [(4, qx VU 0), (5, qx VV 0), (6, qx VW 0)]) ⟨rfl, rfl, rfl, trivial⟩).ev (hst.appF.pick [0, 1, 2] (by kernel_rfl))))))))))
    replace hS : Ss _ _ _ H [Um, Uk, Ul, V2, V3, V4] F _ _ := hS
    refine sO hS (un rfl rfl) rfl fun hS => qm <| qo hS rfl hM (fun UU hM => ?_) (fun UU hM => ?_)
    ·refine wp_skip ?_
     refine qc <| z3 <| wp_skip <| qW (qc ?_)
     exact UP _ _ ⟨Uc, Uk, Ur, Us, Uj, Ul, Um, hS.to [3, 4, 5, 0, 1, 2] (by kernel_rfl) ⟨rfl, rfl, rfl, rfl, trivial⟩, Uu, Uv, Uw, hM⟩
    ·refine wp_exit ?_
     refine qv (qv (qO (qc ?_)))
     exact UQ _ _ ⟨Uc, Uk, Ur, Us, Uj, Ul, Um, hS.to [3, 4, 5, 0, 1, 2] (by kernel_rfl) ⟨rfl, rfl, rfl, rfl, trivial⟩, Uu, Uv, Uw, hM⟩
  ·intro a w hI
   obtain ⟨VP, V6, VZ, V0, VQ, Uh, Ui, hS, UK, Uo, Ua, hM⟩ := hI
   rw [zA.j4] at hM
   refine wp_seq <| qM (vals := [some (qx VO 0), some (qx VO 0), some (qx VO 1), some (.slice VZ VQ.length V0), some (qN (VQ.map jo)), some (qx VO 0), some (qx VO 0), some (qx VO 0), some (qx VT 0), none, none, none, none, none, none]) hS zV rfl ?_
   intro l w ho hcl hA hst
   refine x4 hA hst ho hcl zO zW 9 [0, 1, 2, 3, 4, 5, 6, 7, 8] rfl rfl rfl rfl rfl (by exact ⟨nM rfl, nQ rfl (by exact qJ (xM rfl) rfl), nQ rfl (by exact qJ (zz rfl Tryz.runUnderlying103 rfl Tryz.sizeOf44 rfl) rfl), nQ rfl (by exact qJ (zU 3 rfl Ua rfl rfl Tryz.isAgg44) rfl), nQ rfl (by exact qJ (XZ rfl Tryz.runUnderlying44 Tryz.runUnderlying5 Tryz.runUnderlying9 (Uo.rd (i := 5) rfl)) rfl), nM rfl, nQ rfl (by exact qJ (xM rfl) rfl), nQ rfl (by exact qJ (zz rfl Tryz.runUnderlying103 rfl Tryz.sizeOf100 rfl) rfl), nQ rfl (by exact qJ (zU 3 rfl Ua rfl rfl Tryz.isAgg100) rfl), trivial⟩) fun D l a w ho hcl hav hpre hm hE hk hA hst => ?_
   have hS := (Ss.mk hE hst).env2 (e' := [(31, qx VT 0)]) ⟨rfl, trivial⟩
   refine qC rfl <| qq hS rfl Tryz.call77 (uS hG K (qE.mk (qs.mk VP) VY) VT V6 UK (hS.st.part 1 [4, 0, 1, 2, 3, 5] (by kernel_rfl)) (qh hM) (fun  w hM  hst => qn hS.ev hst.appF rfl fun hS => ?_))
   replace hS : Ss _ _ _ H [V6, V2, V3, V4, Ui, Uh] F _ _ := hS
   refine qm ?_
   replace hst := hS.st
   obtain ⟨hcl, hmust, hav2, hA⟩ := dn (vals' := [some (qx VO 0), some (qx VO 0), some (qx VO 1), some (.slice VZ VQ.length V0), some (qN (VQ.map jo)), some (qx VO 0), some (qx VO 0), some (qx VO 0), some (qx VT 0), some (.int .i64 VP), some (.int .i64 (qi (VP + (7 : Int)))), some (.int .i64 (x5 .i64 (qi (VP + (7 : Int))) (8 : Int))), none, none, none]) 9 [(8, 9), (7, 8), (6, 7), (5, 6)] hA hcl hav hm hpre hk rfl rfl rfl rfl rfl rfl rfl
   clear hm hav
   refine x4 hA hst ho hcl hav2 hmust 12 [0, 1, 2, 3, 4, 10, 11] rfl rfl rfl rfl rfl (by exact ⟨nM rfl, nQ rfl (by exact qJ (xM rfl) rfl), nQ rfl (by exact qJ (zz rfl Tryz.runUnderlying103 rfl Tryz.sizeOf44 rfl) rfl), nQ rfl (by exact qJ (zU 4 rfl Ua rfl rfl Tryz.isAgg44) rfl), nQ rfl (by exact qJ (XZ rfl Tryz.runUnderlying44 Tryz.runUnderlying5 Tryz.runUnderlying9 (Uo.rd (i := 5) rfl)) rfl), nB rfl, nQ rfl (by exact qJ (quo rfl rfl rfl) rfl), trivial⟩) fun D l a w ho hcl hav hpre hm hE hk hA hst => ?_
   have hS := (Ss.mk hE hst).env2 (e' := [(4, qx VU 0), (27, qN (VQ.map jo))]) ⟨rfl, rfl, trivial⟩
   refine qC rfl <| Qr 1 ([qN (VQ.map jo)]) hS rfl rfl V7 rfl rfl rfl rfl Tryz.sizeOf9 fun w U7 UL hS => qm ?_
   replace hst := hS.st
   obtain ⟨hcl, hmust, hav2, hA⟩ := Qt (vals' := [some (qx VO 0), some (qx VO 0), some (qx VO 1), some (.slice VZ VQ.length V0), some (qN (VQ.map jo)), some (qx VO 0), some (qx VO 0), some (qx VO 0), some (qx VT 0), some (.int .i64 VP), some (.int .i64 (qi (VP + (7 : Int)))), some (.int .i64 (x5 .i64 (qi (VP + (7 : Int))) (8 : Int))), some undef, none, none]) 12 [(0, 12), (1, 12), (2, 12), (3, 12), (4, 12), (9, 12), (8, 9), (7, 8), (6, 7), (5, 6)] hA hcl hav hm hpre rfl rfl rfl rfl rfl
   clear hm hav
   refine x4 hA hst ho hcl hav2 hmust 13 [10, 11] rfl rfl rfl rfl rfl (by exact ⟨nB rfl, nQ rfl (by exact qJ (quo rfl rfl rfl) rfl), trivial⟩) fun D l a w ho hcl hav hpre hm hE hk hA hst => ?_
   have hS := (Ss.mk hE hst).env2 (e' := [(5, qx VV 0), (34, .int .i64 (x5 .i64 (qi (VP + (7 : Int))) (8 : Int)))]) ⟨rfl, rfl, trivial⟩
   refine qC rfl <| Qr 2 ([.int .i64 (x5 .i64 (qi (VP + (7 : Int))) (8 : Int))]) hS rfl rfl V8 rfl rfl rfl rfl Tryz.sizeOf3 fun w U8 UM hS => qm ?_
   replace hst := hS.st
   obtain ⟨hcl, hmust, hav2, hA⟩ := Qt (vals' := [some (qx VO 0), some (qx VO 0), some (qx VO 1), some (.slice VZ VQ.length V0), some (qN (VQ.map jo)), some (qx VO 0), some (qx VO 0), some (qx VO 0), some (qx VT 0), some (.int .i64 VP), some (.int .i64 (qi (VP + (7 : Int)))), some (.int .i64 (x5 .i64 (qi (VP + (7 : Int))) (8 : Int))), some undef, some undef, none]) 13 [(0, 13), (1, 13), (2, 13), (3, 13), (4, 13), (5, 13), (6, 13), (7, 13), (8, 13), (9, 13), (10, 13), (11, 13), (12, 13)] hA hcl hav hm hpre rfl rfl rfl rfl rfl
   clear hm hav
   refine x4 hA hst ho hcl hav2 hmust 14 [] rfl rfl rfl rfl rfl trivial fun D l a w ho hcl hav hpre hm hE hk hA hst => ?_
   have hS := (Ss.mk hE hst).env2 (e' := [(6, qx VW 0)]) ⟨rfl, trivial⟩
   refine qC rfl <| Qr 3 ([.int .i64 (0 : Int)]) hS rfl rfl V9 rfl rfl rfl rfl Tryz.sizeOf24 fun w U9 UN hS => qm ?_
   replace hst := hS.st
   obtain ⟨hcl, hmust, hav2, hA⟩ := Qt (vals' := [some (qx VO 0), some (qx VO 0), some (qx VO 1), some (.slice VZ VQ.length V0), some (qN (VQ.map jo)), some (qx VO 0), some (qx VO 0), some (qx VO 0), some (qx VT 0), some (.int .i64 VP), some (.int .i64 (qi (VP + (7 : Int)))), some (.int .i64 (x5 .i64 (qi (VP + (7 : Int))) (8 : Int))), some undef, some undef, some undef]) 14 [(0, 14), (1, 14), (2, 14), (3, 14), (4, 14), (5, 14), (6, 14), (7, 14), (8, 14), (9, 14), (10, 14), (11, 14), (12, 14), (13, 14)] hA hcl hav hm hpre rfl rfl rfl rfl rfl
   clear hm hav
   refine xq hA hst ho hcl hmust [] rfl rfl rfl trivial fun a w hS => ?_
   replace hS := hS.env2 (e' := [(4, qx VU 0), (5, qx VV 0), (6, qx VW 0)]) ⟨rfl, rfl, rfl, trivial⟩
   refine qc <| wp_ret ?_
   have UO := hS.ev
   refine Jo hS Tryz.call74 Tryz.func74 rfl Tryz.ntmps74 rfl rfl rfl fun a w hS => qe <| sM hS rfl fun hS => sO hS (Vw .neq rfl Tryz.runUnderlying20 rfl) rfl fun hS => qm <| v7 hS rfl <| wp_skip ?_
   exact YY hS rfl (u2 (vs := [qN (VQ.map jo), .int .i64 (x5 .i64 (qi (VP + (7 : Int))) (8 : Int)), .int .i64 (0 : Int)]) UO hS.st rfl (by exact ⟨YM 1 rfl UL rfl rfl Tryz.isAgg9, YM 2 rfl UM rfl rfl Tryz.isAgg3, YM 3 rfl UN rfl rfl Tryz.isAgg24, trivial⟩) (hret (VQ.map jo) (x5 .i64 (qi (VP + (7 : Int))) (8 : Int)) (0 : Int) _ (qG hM) (hS.st.pick [] (by kernel_rfl))))
theorem ZG {H : z7} {F : List qj} {w : World} {R : Ending → World → Prop} {kr : ((List UInt8) × Int × Int) → Prop} {kp : Value → Prop} (hG : Gl H) (K : Nat) (VQ : List UInt8) (VO : Int)
    (hS : St w H [] F) (hm : (ux.m K VQ VO).wp kr kp)
    (hret : ∀ (VU : List UInt8) (VV : Int) (VW : Int) (w : World), kr (VU, VV, VW) → St w H [] F → R (.returned (.tuple ⟨[qN VU, .int .i64 VV, .int .i64 VW]⟩)) w) :
    Calls Tryz.prog 40 ⟨[qN VQ, .int .i64 VO]⟩ w R := by
 refine enter Tryz.func40 rfl Tryz.ntmps40 rfl hS fun a w hS => ?_
 have hM := hm; clear hm
 rw [ux.m] at hM
 refine qe <| sA hS rfl fun hS => sA hS rfl fun hS => sA hS rfl fun hS => qm <| wp_seq <| qe <| sM hS rfl fun hS => sB hS rfl fun hS => sM hS rfl fun hS => xm 2 false 15 (b := (decide (VO < (0 : Int)))) (r := (decide (VO > (1073741824 : Int)))) hS rfl rfl rfl rfl rfl rfl rfl (fun hb a w hS K hK => ?_) rfl fun a w hS => ?_
 ·refine qI hS rfl rfl rfl hb (mv rfl) rfl fun a w hS => ?_
  refine qI hS rfl rfl rfl hb (xN rfl rfl rfl) rfl fun a w hS => ?_
  exact qL (hK _ _ (hS.up 2 rfl rfl))
 refine qm <| qo hS rfl hM (fun VX hM => ?_) (fun VX hM => ?_)
 ·refine wp_seq ?_
  refine zb <| sA hS rfl fun hS => sA hS rfl fun hS => sA hS rfl fun hS => qm <| wp_ret <| qu ?_
  exact qP (rs := [4, 5, 6]) hS rfl rfl (hret ([] : List UInt8) (0 : Int) (1 : Int) _ (qG hM) (hS.st.pick [] (by kernel_rfl)))
 ·refine wp_skip ?_
  refine qc <| qe <| sA hS rfl fun hS => qm <| qe <| sM hS rfl fun hS => sM hS rfl fun hS => qq hS rfl Tryz.call23 (uR hG K VQ (hS.st.part 0 [] (by kernel_rfl)) (qh hM) (fun  w hM  hst => qn hS.ev hst.appF rfl fun hS => ?_))
  replace hS : Ss _ _ _ H [] F _ _ := hS
  refine yY hS rfl rfl Tryz.call24 (xo hG K (ze.mk VQ (0 : Int)) (0 : Int) (2 : Int) (hS.st.part 0 [] (by kernel_rfl)) (qh hM) (fun VP V5 w hM  hst => qn hS.ev hst.appF rfl fun hS => ?_))
  replace hS : Ss _ _ _ H [] F _ _ := hS
  refine sM hS rfl fun hS => sO hS (ex rfl rfl) rfl fun hS => sO hS (ex rfl rfl) rfl fun hS => sA hS rfl fun hS => sA hS rfl fun hS => qm <| wp_seq <| qe <| sM hS rfl fun hS => sB hS rfl fun hS => qm <| qo hS rfl hM (fun VY hM => ?_) (fun VY hM => ?_)
  ·refine wp_seq ?_
   refine zb <| sM hS rfl fun hS => sA hS rfl fun hS => sA hS rfl fun hS => sA hS rfl fun hS => qm <| wp_ret <| qu ?_
   exact qP (rs := [4, 5, 6]) hS rfl rfl (hret ([] : List UInt8) (0 : Int) V5 _ (qG hM) (hS.st.pick [] (by kernel_rfl)))
  ·refine wp_skip ?_
   refine qc <| wp_seq <| qe <| sM hS rfl fun hS => sO hS (shr rfl rfl rfl) rfl fun hS => sB hS rfl fun hS => sB hS rfl fun hS => sM hS rfl fun hS => xm 3 false 33 (b := ((xi .u64 (zX .u64 VP (8 : Int)) (15 : Int)) != (8 : Int))) (r := (decide ((zX .u64 VP (12 : Int)) > (7 : Int)))) hS rfl rfl rfl rfl rfl rfl rfl (fun hb a w hS K hK => ?_) rfl fun a w hS => ?_
   ·refine qI hS rfl rfl rfl hb (mv rfl) rfl fun a w hS => ?_
    refine qI hS rfl rfl rfl hb (shr rfl rfl rfl) rfl fun a w hS => qI hS rfl rfl rfl hb (xN rfl rfl rfl) rfl fun a w hS => ?_
    exact qL (hK _ _ (hS.up 3 rfl rfl))
   refine sM hS rfl fun hS => xm 3 false 38 (b := (((xi .u64 (zX .u64 VP (8 : Int)) (15 : Int)) != (8 : Int)) || (decide ((zX .u64 VP (12 : Int)) > (7 : Int))))) (r := ((vd VP (31 : Int)) != (0 : Int))) hS rfl rfl rfl rfl rfl rfl rfl (fun hb a w hS K hK => ?_) rfl fun a w hS => ?_
   ·refine qI hS rfl rfl rfl hb (mv rfl) rfl fun a w hS => ?_
    refine qI hS rfl rfl rfl hb (rem rfl rfl rfl) rfl fun a w hS => qI hS rfl rfl rfl hb (xN rfl rfl rfl) rfl fun a w hS => ?_
    exact qL (hK _ _ (hS.up 3 rfl rfl))
   refine sM hS rfl fun hS => xm 3 false 43 (b := ((((xi .u64 (zX .u64 VP (8 : Int)) (15 : Int)) != (8 : Int)) || (decide ((zX .u64 VP (12 : Int)) > (7 : Int)))) || ((vd VP (31 : Int)) != (0 : Int)))) (r := ((xi .u64 VP (32 : Int)) != (0 : Int))) hS rfl rfl rfl rfl rfl rfl rfl (fun hb a w hS K hK => ?_) rfl fun a w hS => ?_
   ·refine qI hS rfl rfl rfl hb (mv rfl) rfl fun a w hS => ?_
    refine qI hS rfl rfl rfl hb (xN rfl rfl rfl) rfl fun a w hS => qI hS rfl rfl rfl hb (xN rfl rfl rfl) rfl fun a w hS => ?_
    exact qL (hK _ _ (hS.up 3 rfl rfl))
   refine qm <| qo hS rfl hM (fun VZ hM => ?_) (fun VZ hM => ?_)
   ·refine wp_seq ?_
    refine zb <| sA hS rfl fun hS => sA hS rfl fun hS => sA hS rfl fun hS => qm <| wp_ret <| qu ?_
    exact qP (rs := [4, 5, 6]) hS rfl rfl (hret ([] : List UInt8) (0 : Int) (3 : Int) _ (qG hM) (hS.st.pick [] (by kernel_rfl)))
   ·refine wp_skip ?_
    refine qc <| qe <| sM hS rfl fun hS => ?_
    obtain ⟨V3, hM⟩ := qt hM
    refine sO hS (Xj rfl Tryz.runUnderlying9 (XI rfl) Yy V3) rfl fun hS => sM hS rfl fun hS => qq hS rfl Tryz.call58 (uG hG K (sub VQ (2 : Int) (VQ.length : Int)) VO (hS.st.part 0 [] (by kernel_rfl)) (qh hM) (fun VS V6 V7 w hM  hst => qn hS.ev hst.appF rfl fun hS => ?_))
    replace hS : Ss _ _ _ H [] F _ _ := hS
    refine sM hS rfl fun hS => sO hS (ex rfl rfl) rfl fun hS => sO hS (ex rfl rfl) rfl fun hS => sO hS (ex rfl rfl) rfl fun hS => sA hS rfl fun hS => sA hS rfl fun hS => sA hS rfl fun hS => qm <| wp_seq <| qe <| sM hS rfl fun hS => sB hS rfl fun hS => qm <| qo hS rfl hM (fun V0 hM => ?_) (fun V0 hM => ?_)
    ·refine wp_seq ?_
     refine zb <| sM hS rfl fun hS => sA hS rfl fun hS => sA hS rfl fun hS => sA hS rfl fun hS => qm <| wp_ret <| qu ?_
     exact qP (rs := [4, 5, 6]) hS rfl rfl (hret ([] : List UInt8) (0 : Int) V7 _ (qG hM) (hS.st.pick [] (by kernel_rfl)))
    ·refine wp_skip ?_
     refine qc <| qe <| sM hS rfl fun hS => sB hS rfl fun hS => qY (v := Value.int .i64) (x0 := (qi (V6 + (2 : Int)))) hS (zE rfl) rfl fun VR a w hz hS => ?_
     have hM := qp hz hM; clear hz
     refine qm <| qe <| sM hS rfl fun hS => sM hS rfl fun hS => qq hS rfl Tryz.call23 (uR hG K VQ (hS.st.part 0 [] (by kernel_rfl)) (qh hM) (fun  w hM  hst => qn hS.ev hst.appF rfl fun hS => ?_))
     replace hS : Ss _ _ _ H [] F _ _ := hS
     refine sM hS rfl fun hS => yY hS rfl rfl Tryz.call24 (xo hG K (ze.mk VQ (0 : Int)) VR (4 : Int) (hS.st.part 0 [] (by kernel_rfl)) (qh hM) (fun V8 VT w hM  hst => qn hS.ev hst.appF rfl fun hS => ?_))
     replace hS : Ss _ _ _ H [] F _ _ := hS
     refine sM hS rfl fun hS => sO hS (ex rfl rfl) rfl fun hS => sO hS (ex rfl rfl) rfl fun hS => sA hS rfl fun hS => sA hS rfl fun hS => qm <| wp_seq <| z3 <| qe <| sM hS rfl fun hS => sB hS rfl fun hS => qY (v := Value.bool) (x0 := (VT != (0 : Int))) hS (zE rfl) rfl fun Ua a w hz hS => ?_
     have hM := qp hz hM; clear hz
     refine qm <| qo hS rfl hM (fun V1 hM => ?_) (fun V1 hM => ?_)
     ·refine wp_seq ?_
      refine zb <| sM hS rfl fun hS => sA hS rfl fun hS => sA hS rfl fun hS => sA hS rfl fun hS => qm <| wp_ret <| zc (qu ?_)
      exact qP (rs := [4, 5, 6]) hS rfl rfl (hret ([] : List UInt8) (0 : Int) VT _ (qG hM) (hS.st.pick [] (by kernel_rfl)))
     ·refine wp_seq ?_
      refine zb <| sM hS rfl fun hS => sO hS (yT rfl Tryz.runUnderlying50 Tryz.runUnderlying56) rfl fun hS => sM hS rfl fun hS => qq hS rfl Tryz.call49 (uQ hG K VS (hS.st.part 0 [] (by kernel_rfl)) (qh hM) (fun V9 w hM  hst => qn hS.ev hst.appF rfl fun hS => ?_))
      replace hS : Ss _ _ _ H [] F _ _ := hS
      refine sB hS rfl fun hS => qY (v := Value.bool) (x0 := ((wr .u32 V8) != V9)) hS (zE rfl) rfl fun Ub a w hz hS => ?_
      have hM := qp hz hM; clear hz
      refine qm <| qo hS rfl hM (fun V2 hM => ?_) (fun V2 hM => ?_)
      ·refine wp_seq ?_
       refine zb <| sA hS rfl fun hS => sA hS rfl fun hS => sA hS rfl fun hS => qm <| wp_ret <| zc (qu ?_)
       exact qP (rs := [4, 5, 6]) hS rfl rfl (hret ([] : List UInt8) (0 : Int) (4 : Int) _ (qG hM) (hS.st.pick [] (by kernel_rfl)))
      ·refine wp_skip ?_
       refine qW (qc ?_)
       refine qe <| sM hS rfl fun hS => sM hS rfl fun hS => sB hS rfl fun hS => sA hS rfl fun hS => qY (v := Value.int .i64) (x0 := (qi (VR + (4 : Int)))) hS (zE rfl) rfl fun V4 a w hz hS => ?_
       have hM := qp hz hM; clear hz
       refine sA hS rfl fun hS => qm <| wp_ret ?_
       exact qP (rs := [4, 5, 6]) hS rfl rfl (hret VS V4 (0 : Int) _ (qG hM) (hS.st.pick [] (by kernel_rfl)))
theorem je {H : z7} {F : List qj} {w : World} {R : Ending → World → Prop} {kr : Int → Prop} {kp : Value → Prop} (hG : Gl H) (K : Nat) (VP : List Int) (VU : Int) (VO : Int) (VV : Option Addr) (VX : Nat) (VW : Nat) (VQ : qj) (VT : yU H [] F (ci .u8) VV VP) (V1 : VP.length ≤ VX) (VR : xf VQ VW ([.int .i64 VO]) 3)
    (hS : St w H [VQ] F) (hm : (yl.m K VP VU VO).wp kr kp)
    (hret : ∀ (VY : Int) (w : World), kr VY → St w H [VQ] F → R (.returned (.int .i64 VY)) w) :
    Calls Tryz.prog 59 ⟨[.slice VV VP.length VX, .int .i64 VU, qx VW 0]⟩ w R := by
 refine enter Tryz.func59 rfl Tryz.ntmps59 rfl hS fun a w hS => ?_
 have hM := hm; clear hm
 rw [yl.m] at hM
 refine qe <| sA hS rfl fun hS => qm <| wp_seq <| qe <| sM hS rfl fun hS => sO hS (zU 0 rfl VR rfl rfl Tryz.isAgg3) rfl fun hS => sB hS rfl fun hS => qm <| qo hS rfl hM (fun VZ hM => ?_) (fun VZ hM => ?_)
 ·refine wp_seq ?_
  refine zb <| sA hS rfl fun hS => qm <| wp_ret <| qu ?_
  exact qP (rs := [5]) hS rfl rfl (hret (0 : Int) _ (qG hM) (hS.st.pick [0] (by kernel_rfl)))
 ·refine wp_skip ?_
  refine qc <| qe <| sM hS rfl fun hS => sM hS rfl fun hS => sO hS (zU 0 rfl VR rfl rfl Tryz.isAgg3) rfl fun hS => sB hS rfl fun hS => ?_
  obtain ⟨VS, hM⟩ := qt hM
  refine sO hS (xF rfl rfl Tryz.runUnderlying44 Tryz.sizeOf5 VT.wk (fun _ => rfl) rfl VS) rfl fun hS => sO hS (xO rfl VT.wk (fun _ => rfl) VS rfl Tryz.isAgg5) rfl fun hS => sO hS (yT rfl Tryz.runUnderlying5 Tryz.runUnderlying3) rfl fun hS => qY (v := Value.int .i64) (x0 := (wr .i64 (rd VP (qi (VU - VO))))) hS (zE rfl) rfl fun V0 a w hz hS => ?_
  have hM := qp hz hM; clear hz
  refine qm <| wp_ret ?_
  exact qP (rs := [5]) hS rfl rfl (hret V0 _ (qG hM) (hS.st.pick [0] (by kernel_rfl)))
theorem u5 {H : z7} {F : List qj} {w : World} {R : Ending → World → Prop} {kr : Int → Prop} {kp : Value → Prop} (hG : Gl H) (K : Nat) (VO : Int) (VP : Int)
    (hS : St w H [] F) (hm : (uM.m K VO VP).wp kr kp)
    (hret : ∀ (VQ : Int) (w : World), kr VQ → St w H [] F → R (.returned (.int .i64 VQ)) w) :
    Calls Tryz.prog 78 ⟨[.int .i64 VO, .int .i64 VP]⟩ w R := by
 refine enter Tryz.func78 rfl Tryz.ntmps78 rfl hS fun a w hS => ?_
 have hM := hm; clear hm
 rw [uM.m] at hM
 refine qe <| sA hS rfl fun hS => qm <| qe <| sM hS rfl fun hS => sM hS rfl fun hS => sB hS rfl fun hS => sM hS rfl fun hS => sM hS rfl fun hS => sB hS rfl fun hS => sO hS (Ym rfl rfl) rfl fun hS => qY (v := Value.int .i64) (x0 := (if (qi (VP - VO)) > (qi (VO - VP)) then (qi (VP - VO)) else (qi (VO - VP)))) hS (zE rfl) rfl fun VR a w hz hS => ?_
 have hM := qp hz hM; clear hz
 refine qm <| wp_ret ?_
 exact qP (rs := [4]) hS rfl rfl (hret VR _ (qG hM) (hS.st.pick [] (by kernel_rfl)))
theorem Z3 {H : z7} {F : List qj} {w : World} {R : Ending → World → Prop} {kr : Int → Prop} {kp : Value → Prop} (hG : Gl H) (K : Nat) (VO : Int) (VP : Int) (VQ : Int)
    (hS : St w H [] F) (hm : (u6.m K VO VP VQ).wp kr kp)
    (hret : ∀ (VV : Int) (w : World), kr VV → St w H [] F → R (.returned (.int .i64 VV)) w) :
    Calls Tryz.prog 60 ⟨[.int .i64 VO, .int .i64 VP, .int .i64 VQ]⟩ w R := by
 refine enter Tryz.func60 rfl Tryz.ntmps60 rfl hS fun a w hS => ?_
 have hM := hm; clear hm
 rw [u6.m] at hM
 refine qe <| sA hS rfl fun hS => qm <| qe <| sM hS rfl fun hS => sM hS rfl fun hS => sB hS rfl fun hS => sM hS rfl fun hS => sB hS rfl fun hS => qY (v := Value.int .i64) (x0 := (qi ((qi (VO + VP)) - VQ))) hS (zE rfl) rfl fun VS a w hz hS => ?_
 have hM := qp hz hM; clear hz
 refine qm <| wp_seq <| qe <| sM hS rfl fun hS => sM hS rfl fun hS => qq hS rfl Tryz.call78 (u5 hG K VS VO (hS.st.part 0 [] (by kernel_rfl)) (qh hM) (fun VR w hM  hst => qn hS.ev hst.appF rfl fun hS => ?_))
 replace hS : Ss _ _ _ H [] F _ _ := hS
 refine sM hS rfl fun hS => sM hS rfl fun hS => qq hS rfl Tryz.call78 (u5 hG K VS VP (hS.st.part 0 [] (by kernel_rfl)) (qh hM) (fun VT w hM  hst => qn hS.ev hst.appF rfl fun hS => ?_))
 replace hS : Ss _ _ _ H [] F _ _ := hS
 refine sM hS rfl fun hS => sM hS rfl fun hS => qq hS rfl Tryz.call78 (u5 hG K VS VQ (hS.st.part 0 [] (by kernel_rfl)) (qh hM) (fun VU w hM  hst => qn hS.ev hst.appF rfl fun hS => ?_))
 replace hS : Ss _ _ _ H [] F _ _ := hS
 refine sA hS rfl fun hS => sA hS rfl fun hS => sA hS rfl fun hS => qm <| z3 <| qe <| sM hS rfl fun hS => sM hS rfl fun hS => sB hS rfl fun hS => sM hS rfl fun hS => xm 3 true 29 (b := (decide (VR ≤ VT))) (r := (decide (VR ≤ VU))) hS rfl rfl rfl rfl rfl rfl rfl (fun hb a w hS K hK => ?_) rfl fun a w hS => ?_
 ·refine qI hS rfl rfl rfl hb (mv rfl) rfl fun a w hS => ?_
  refine qI hS rfl rfl rfl hb (mv rfl) rfl fun a w hS => qI hS rfl rfl rfl hb (xN rfl rfl rfl) rfl fun a w hS => ?_
  exact qL (hK _ _ (hS.up 3 rfl rfl))
 refine qY (v := Value.bool) (x0 := ((decide (VR ≤ VT)) && (decide (VR ≤ VU)))) hS (zE rfl) rfl fun VY a w hz hS => ?_
 have hM := qp hz hM; clear hz
 refine qm <| qo hS rfl hM (fun VW hM => ?_) (fun VW hM => ?_)
 ·refine wp_seq ?_
  refine zb <| sM hS rfl fun hS => sA hS rfl fun hS => qm <| wp_ret <| zc (qu ?_)
  exact qP (rs := [6]) hS rfl rfl (hret VO _ (qG hM) (hS.st.pick [] (by kernel_rfl)))
 ·refine wp_seq ?_
  refine zb <| sM hS rfl fun hS => sM hS rfl fun hS => sB hS rfl fun hS => qY (v := Value.bool) (x0 := (decide (VT ≤ VU))) hS (zE rfl) rfl fun VZ a w hz hS => ?_
  have hM := qp hz hM; clear hz
  refine qm <| qo hS rfl hM (fun VX hM => ?_) (fun VX hM => ?_)
  ·refine wp_seq ?_
   refine zb <| sM hS rfl fun hS => sA hS rfl fun hS => qm <| wp_ret <| zc (qu ?_)
   exact qP (rs := [6]) hS rfl rfl (hret VP _ (qG hM) (hS.st.pick [] (by kernel_rfl)))
  ·refine wp_skip ?_
   refine qW (qc ?_)
   refine qe <| sM hS rfl fun hS => sA hS rfl fun hS => qm <| wp_ret ?_
   exact qP (rs := [6]) hS rfl rfl (hret VQ _ (qG hM) (hS.st.pick [] (by kernel_rfl)))
theorem ui {H : z7} {F : List qj} {w : World} {R : Ending → World → Prop} {kr : (Bool × (List Int)) → Prop} {kp : Value → Prop} (hG : Gl H) (K : Nat) (VS : Int) (VV : List Int) (VQ : List Int) (V0 : Int) (VR : Option Addr) (VU : Nat) (Ul : qj) (VW : Option Addr) (VZ : Nat) (Ut : zM 5 (ci .u8) 1 VR VV VU Ul) (V2 : yU H [] F (ci .u8) VW VQ) (UE : VQ.length ≤ VZ)
    (hS : St w H [Ul] F) (hm : (zS.m K VS VV VQ V0).wp kr kp)
    (hret : ∀ (Us : Bool) (Ue : (List Int)) (Uq : qj) (w : World), kr (Us, Ue) → (zM 5 (ci .u8) 1 VR Ue VU Uq) → (Ue.length = VV.length) → St w H [Uq] F → R (.returned (.bool Us)) w) :
    Calls Tryz.prog 41 ⟨[.int .u8 VS, .slice VR VV.length VU, .slice VW VQ.length VZ, .int .i64 V0]⟩ w R := by
 refine enter Tryz.func41 rfl Tryz.ntmps41 rfl hS fun a w hS => ?_
 have hM := hm; clear hm
 rw [zS.m] at hM
 have UF : VV.length = VV.length := rfl
 refine qe <| bx ([.int .i64 V0]) hS rfl rfl rfl fun w VY Ua Um hS => sA hS rfl fun hS => qm <| qe <| sO hS (JL rfl rfl) rfl fun hS => sA hS rfl fun hS => qm <| wp_seq <| qe <| sM hS rfl fun hS => sO hS (xw rfl Tryz.runUnderlying44) rfl fun hS => sM hS rfl fun hS => qm <| z3 <| q6 (fun Ur a w => ∃ (VO : (List Int)) (V4 : qj) (VP : Int), Ss 85 [] [(0, .int .u8 VS), (1, .slice VR VO.length VU), (2, .slice VW VQ.length VZ), (9, yH 59 [] [qx VY 0]), (16, .int .i64 (VV.length : Int)), (17, .int .i64 VP)] H [V4, Ua] F a w ∧ (zM 5 (ci .u8) 1 VR VO VU V4) ∧ (VO.length = VV.length) ∧ (zS.l1 K VS VV VQ V0 Ur VO VP).wp kr kp) K ?_ ?_ ?_
 ·exact ⟨VV, Ul, (0 : Int), hS.to [1, 0] (by kernel_rfl) ⟨rfl, rfl, rfl, rfl, rfl, rfl, trivial⟩, Ut, UF, hM⟩
 ·intro a w hI; obtain ⟨_, _, _, _, _, _, hM⟩ := hI; exact qX hM
 ·intro Ur a w hI UP V9
  obtain ⟨VO, V4, VP, hS, VT, V3, hM⟩ := hI
  rw [zS.l1] at hM
  refine qe <| sB hS rfl fun hS => qm <| wp_seq <| qo hS rfl hM (fun Uy hM => ?_) (fun Uy hM => ?_)
  ·refine wp_skip ?_
   refine qc <| wp_seq <| z3 <| qe <| sM hS rfl fun hS => sA hS rfl fun hS => qm <| wp_seq ?_
   obtain ⟨V6, hM⟩ := qt hM
   refine qM (vals := [some (yH 59 [] [qx VY 0]), some (.slice VR VO.length VU), some (.int .i64 VP), none, some (.slice VW VQ.length VZ), some (.int .i64 VP), some (z9 VW (Int.toNat VP * 1)), some (.int .u8 (rd VQ VP)), some (.int .i64 (wr .i64 (rd VQ VP))), some (yH 59 [] [qx VY 0]), some (.slice VW VQ.length VZ), some (.int .i64 VP), none, none, none, none]) hS zV rfl ?_
   intro l w ho hcl hA hst
   refine x4 hA hst ho hcl zO zW 3 [0, 1, 2, 4, 5, 6, 7, 8, 9, 10, 11] rfl rfl rfl rfl rfl (by exact ⟨nM rfl, nM rfl, nM rfl, nM rfl, nM rfl, nQ rfl (by exact qJ (xF rfl rfl Tryz.runUnderlying44 Tryz.sizeOf5 V2.wk (fun _ => rfl) rfl V6) rfl), nQ rfl (by exact qJ (xO rfl V2.wk (fun _ => rfl) V6 rfl Tryz.isAgg5) rfl), nQ rfl (by exact qJ (yT rfl Tryz.runUnderlying5 Tryz.runUnderlying3) rfl), nM rfl, nM rfl, nM rfl, trivial⟩) fun D l a w ho hcl hav hpre hm hE hk hA hst => ?_
   have hS := (Ss.mk hE hst).env2 (e' := [(20, yH 59 [] [qx VY 0]), (21, .slice VR VO.length VU), (22, .int .i64 VP)]) ⟨rfl, rfl, rfl, trivial⟩
   refine qC rfl <| yY hS rfl rfl Tryz.call59 (je hG K VO VP V0 VR VU VY Ua (VT.rdF (i := 0) rfl) (VT.cap (fun _ => rfl) rfl) Um (hS.st.part 1 [1, 0] (by kernel_rfl)) (qh hM) (fun V1 w hM  hst => qn hS.ev hst.appF rfl fun hS => ?_))
   replace hS : Ss _ _ _ H [Ua, V4] F _ _ := hS
   refine qm ?_
   replace hst := hS.st
   obtain ⟨hcl, hmust, hav2, hA⟩ := dn (vals' := [some (yH 59 [] [qx VY 0]), some (.slice VR VO.length VU), some (.int .i64 VP), some (.int .i64 V1), some (.slice VW VQ.length VZ), some (.int .i64 VP), some (z9 VW (Int.toNat VP * 1)), some (.int .u8 (rd VQ VP)), some (.int .i64 (wr .i64 (rd VQ VP))), some (yH 59 [] [qx VY 0]), some (.slice VW VQ.length VZ), some (.int .i64 VP), none, none, none, none]) 3 [(0, 3), (1, 3), (2, 3)] hA hcl hav hm hpre hk rfl rfl rfl rfl rfl rfl rfl
   clear hm hav
   refine x4 hA hst ho hcl hav2 hmust 12 [4, 5, 6, 7, 8, 9, 10, 11] rfl rfl rfl rfl rfl (by exact ⟨nM rfl, nM rfl, nQ rfl (by exact qJ (xF rfl rfl Tryz.runUnderlying44 Tryz.sizeOf5 V2.wk (fun _ => rfl) rfl V6) rfl), nQ rfl (by exact qJ (xO rfl V2.wk (fun _ => rfl) V6 rfl Tryz.isAgg5) rfl), nQ rfl (by exact qJ (yT rfl Tryz.runUnderlying5 Tryz.runUnderlying3) rfl), nM rfl, nM rfl, nM rfl, trivial⟩) fun D l a w ho hcl hav hpre hm hE hk hA hst => ?_
   have hS := (Ss.mk hE hst).env2 (e' := [(29, yH 59 [] [qx VY 0]), (30, .slice VW VQ.length VZ), (31, .int .i64 VP)]) ⟨rfl, rfl, rfl, trivial⟩
   refine qC rfl <| yY hS rfl rfl Tryz.call59 (je hG K VQ VP V0 VW VZ VY Ua (V2.app _) UE Um (hS.st.part 1 [0, 1] (by kernel_rfl)) (qh hM) (fun V8 w hM  hst => qn hS.ev hst.appF rfl fun hS => ?_))
   replace hS : Ss _ _ _ H [Ua, V4] F _ _ := hS
   refine qm ?_
   replace hst := hS.st
   obtain ⟨VX, Un⟩ : ∃ x, x = (wr .i64 (rd VQ VP)) := ⟨_, rfl⟩
   replace hM := qp Un hM
   obtain ⟨hcl, hmust, hav2, hA⟩ := dn (vals' := [some (yH 59 [] [qx VY 0]), some (.slice VR VO.length VU), some (.int .i64 VP), some (.int .i64 V1), some (.slice VW VQ.length VZ), some (.int .i64 VP), some (z9 VW (Int.toNat VP * 1)), some (.int .u8 (rd VQ VP)), some (.int .i64 (wr .i64 (rd VQ VP))), some (yH 59 [] [qx VY 0]), some (.slice VW VQ.length VZ), some (.int .i64 VP), some (.int .i64 V8), some (.int .i64 V1), some (.int .i64 VX), some (.int .i64 V8)]) 12 [(3, 12), (9, 12), (10, 12), (11, 12), (0, 3), (1, 3), (2, 3)] hA hcl hav hm hpre hk rfl rfl rfl rfl rfl rfl rfl
   clear hm hav
   refine xq hA hst ho hcl hmust [4, 5, 6, 7, 8, 13, 14, 15] rfl rfl rfl (by exact ⟨nM rfl, nM rfl, nQ rfl (by exact qJ (xF rfl rfl Tryz.runUnderlying44 Tryz.sizeOf5 V2.wk (fun _ => rfl) rfl V6) rfl), nQ rfl (by exact qJ (xO rfl V2.wk (fun _ => rfl) V6 rfl Tryz.isAgg5) rfl), nQ rfl (by exact qJ (yT rfl Tryz.runUnderlying5 Tryz.runUnderlying3) rfl), nA rfl, nQ rfl (by exact qJ (zE rfl) (congrArg (Value.int .i64) Un.symm)), nA rfl, trivial⟩) fun a w hS => ?_
   replace hS := hS.env2 (e' := [(0, .int .u8 VS), (1, .slice VR VO.length VU), (2, .slice VW VQ.length VZ), (9, yH 59 [] [qx VY 0]), (10, .int .i64 VP), (11, .int .i64 V1), (12, .int .i64 VX), (13, .int .i64 V8), (16, .int .i64 (VV.length : Int)), (17, .int .i64 VP)]) ⟨rfl, rfl, rfl, rfl, rfl, rfl, rfl, rfl, rfl, rfl, trivial⟩
   refine qc <| qe <| sM hS rfl fun hS => qm <| z3 <| qe <| sB hS rfl fun hS => qY (v := Value.bool) (x0 := (VS == (0 : Int))) hS (zE rfl) rfl fun UQ a w hz hS => ?_
   have hM := qp hz hM; clear hz
   refine qm <| qo hS rfl hM (fun Uz hM => ?_) (fun Uz hM => ?_)
   ·refine wp_skip ?_
    refine qW (qW (qc ?_))
    refine zb <| sB hS rfl fun hS => sM hS rfl fun hS => qL <| qc ?_
    exact V9 _ _ ⟨VO, V4, (qi (VP + (1 : Int))), hS.to [1, 0] (by kernel_rfl) ⟨rfl, rfl, rfl, rfl, rfl, rfl, trivial⟩, VT, V3, hM⟩
   ·refine wp_seq ?_
    refine zb <| sB hS rfl fun hS => qY (v := Value.bool) (x0 := (VS == (1 : Int))) hS (zE rfl) rfl fun UR a w hz hS => ?_
    have hM := qp hz hM; clear hz
    refine qm <| qo hS rfl hM (fun UA hM => ?_) (fun UA hM => ?_)
    ·refine zb ?_
     refine sM hS rfl fun hS => sM hS rfl fun hS => ?_
     obtain ⟨Ub, hM⟩ := qt hM
     refine sO hS (xF rfl rfl Tryz.runUnderlying44 Tryz.sizeOf5 (VT.rd (i := 1) rfl) (fun _ => rfl) rfl Ub) rfl fun hS => sO hS (xO rfl (VT.rd (i := 1) rfl) (fun _ => rfl) Ub rfl Tryz.isAgg5) rfl fun hS => sM hS rfl fun hS => sO hS (yT rfl Tryz.runUnderlying3 Tryz.runUnderlying5) rfl fun hS => sB hS rfl fun hS => sO hS (xF rfl rfl Tryz.runUnderlying44 Tryz.sizeOf5 (VT.rd (i := 1) rfl) (fun _ => rfl) rfl Ub) rfl fun hS => QS (i := VP) (sz := 1) 1 0 ((wr .u8 ((rd VO VP) + (wr .u8 V1)))) hS rfl rfl VT rfl Tryz.sizeOf5 (jc (wr .u8 ((rd VO VP) + (wr .u8 V1)))) (fun _ => rfl) Ub rfl rfl fun Ui w UK hz Uf Uu hS => ?_
     have hM := qp hz hM; clear hz
     have UG := Eq.trans Uf V3
     replace hS := hS.re 1 (u := .slice VR VO.length VU) (v := .slice VR Ui.length VU) rfl (by rw [Uf])
     replace hS := hS.re 38 (u := .slice VR VO.length VU) (v := .slice VR Ui.length VU) rfl (by rw [Uf])
     refine qL <| qW (qW (qc ?_))
     refine zb <| sB hS rfl fun hS => sM hS rfl fun hS => qL <| qc ?_
     exact V9 _ _ ⟨Ui, UK, (qi (VP + (1 : Int))), hS.to [1, 0] (by kernel_rfl) ⟨rfl, rfl, rfl, rfl, rfl, rfl, trivial⟩, Uu, UG, hM⟩
    ·refine wp_seq ?_
     refine zb <| sB hS rfl fun hS => qY (v := Value.bool) (x0 := (VS == (2 : Int))) hS (zE rfl) rfl fun US a w hz hS => ?_
     have hM := qp hz hM; clear hz
     refine qm <| qo hS rfl hM (fun UB hM => ?_) (fun UB hM => ?_)
     ·refine zb ?_
      refine sM hS rfl fun hS => sM hS rfl fun hS => ?_
      obtain ⟨Uc, hM⟩ := qt hM
      refine sO hS (xF rfl rfl Tryz.runUnderlying44 Tryz.sizeOf5 (VT.rd (i := 1) rfl) (fun _ => rfl) rfl Uc) rfl fun hS => sO hS (xO rfl (VT.rd (i := 1) rfl) (fun _ => rfl) Uc rfl Tryz.isAgg5) rfl fun hS => sM hS rfl fun hS => sO hS (yT rfl Tryz.runUnderlying3 Tryz.runUnderlying5) rfl fun hS => sB hS rfl fun hS => sO hS (xF rfl rfl Tryz.runUnderlying44 Tryz.sizeOf5 (VT.rd (i := 1) rfl) (fun _ => rfl) rfl Uc) rfl fun hS => QS (i := VP) (sz := 1) 1 0 ((wr .u8 ((rd VO VP) + (wr .u8 VX)))) hS rfl rfl VT rfl Tryz.sizeOf5 (jc (wr .u8 ((rd VO VP) + (wr .u8 VX)))) (fun _ => rfl) Uc rfl rfl fun Uj w UL hz Ug Uv hS => ?_
      have hM := qp hz hM; clear hz
      have UH := Eq.trans Ug V3
      replace hS := hS.re 1 (u := .slice VR VO.length VU) (v := .slice VR Uj.length VU) rfl (by rw [Ug])
      replace hS := hS.re 48 (u := .slice VR VO.length VU) (v := .slice VR Uj.length VU) rfl (by rw [Ug])
      refine qL <| qW (qW (qc ?_))
      refine zb <| sB hS rfl fun hS => sM hS rfl fun hS => qL <| qc ?_
      exact V9 _ _ ⟨Uj, UL, (qi (VP + (1 : Int))), hS.to [1, 0] (by kernel_rfl) ⟨rfl, rfl, rfl, rfl, rfl, rfl, trivial⟩, Uv, UH, hM⟩
     ·refine wp_seq ?_
      refine zb <| sB hS rfl fun hS => qY (v := Value.bool) (x0 := (VS == (3 : Int))) hS (zE rfl) rfl fun UT a w hz hS => ?_
      have hM := qp hz hM; clear hz
      refine qm <| qo hS rfl hM (fun UC hM => ?_) (fun UC hM => ?_)
      ·refine zb ?_
       refine sM hS rfl fun hS => sM hS rfl fun hS => ?_
       obtain ⟨Ud, hM⟩ := qt hM
       refine sO hS (xF rfl rfl Tryz.runUnderlying44 Tryz.sizeOf5 (VT.rd (i := 1) rfl) (fun _ => rfl) rfl Ud) rfl fun hS => sO hS (xO rfl (VT.rd (i := 1) rfl) (fun _ => rfl) Ud rfl Tryz.isAgg5) rfl fun hS => sM hS rfl fun hS => sM hS rfl fun hS => sB hS rfl fun hS => sO hS (quo rfl rfl rfl) rfl fun hS => sO hS (yT rfl Tryz.runUnderlying3 Tryz.runUnderlying5) rfl fun hS => sB hS rfl fun hS => sO hS (xF rfl rfl Tryz.runUnderlying44 Tryz.sizeOf5 (VT.rd (i := 1) rfl) (fun _ => rfl) rfl Ud) rfl fun hS => QS (i := VP) (sz := 1) 1 0 ((wr .u8 ((rd VO VP) + (wr .u8 (x5 .i64 (qi (V1 + VX)) (2 : Int)))))) hS rfl rfl VT rfl Tryz.sizeOf5 (jc (wr .u8 ((rd VO VP) + (wr .u8 (x5 .i64 (qi (V1 + VX)) (2 : Int)))))) (fun _ => rfl) Ud rfl rfl fun Uk w UM hz Uh Uw hS => ?_
       have hM := qp hz hM; clear hz
       have UI := Eq.trans Uh V3
       replace hS := hS.re 1 (u := .slice VR VO.length VU) (v := .slice VR Uk.length VU) rfl (by rw [Uh])
       replace hS := hS.re 58 (u := .slice VR VO.length VU) (v := .slice VR Uk.length VU) rfl (by rw [Uh])
       refine qL <| qW (qW (qc ?_))
       refine zb <| sB hS rfl fun hS => sM hS rfl fun hS => qL <| qc ?_
       exact V9 _ _ ⟨Uk, UM, (qi (VP + (1 : Int))), hS.to [1, 0] (by kernel_rfl) ⟨rfl, rfl, rfl, rfl, rfl, rfl, trivial⟩, Uw, UI, hM⟩
      ·refine wp_seq ?_
       refine zb <| sB hS rfl fun hS => qY (v := Value.bool) (x0 := (VS == (4 : Int))) hS (zE rfl) rfl fun UU a w hz hS => ?_
       have hM := qp hz hM; clear hz
       refine qm <| qo hS rfl hM (fun UD hM => ?_) (fun UD hM => ?_)
       ·obtain ⟨V7, hM⟩ := qt hM
        refine qM (vals := [some (.slice VR VO.length VU), some (.int .i64 VP), some (z9 VR (Int.toNat VP * 1)), some (.int .u8 (rd VO VP)), some (.int .i64 V1), some (.int .i64 VX), some (.int .i64 V8), none, none, none, none, none]) hS zV rfl ?_
        intro l w ho hcl hA hst
        refine x4 hA hst ho hcl zO zW 7 [0, 1, 2, 3, 4, 5, 6] rfl rfl rfl rfl rfl (by exact ⟨nM rfl, nM rfl, nQ rfl (by exact qJ (xF rfl rfl Tryz.runUnderlying44 Tryz.sizeOf5 (VT.rd (i := 1) rfl) (fun _ => rfl) rfl V7) rfl), nQ rfl (by exact qJ (xO rfl (VT.rd (i := 1) rfl) (fun _ => rfl) V7 rfl Tryz.isAgg5) rfl), nM rfl, nM rfl, nM rfl, trivial⟩) fun D l a w ho hcl hav hpre hm hE hk hA hst => ?_
        have hS := (Ss.mk hE hst).env2 (e' := [(75, .int .i64 V1), (76, .int .i64 VX), (77, .int .i64 V8)]) ⟨rfl, rfl, rfl, trivial⟩
        refine qC rfl <| qq hS rfl Tryz.call60 (Z3 hG K V1 VX V8 (hS.st.part 0 [0, 1] (by kernel_rfl)) (qh hM) (fun V5 w hM  hst => qn hS.ev hst.appF rfl fun hS => ?_))
        replace hS : Ss _ _ _ H [Ua, V4] F _ _ := hS
        refine qm ?_
        replace hst := hS.st
        obtain ⟨hcl, hmust, hav2, hA⟩ := dn (vals' := [some (.slice VR VO.length VU), some (.int .i64 VP), some (z9 VR (Int.toNat VP * 1)), some (.int .u8 (rd VO VP)), some (.int .i64 V1), some (.int .i64 VX), some (.int .i64 V8), some (.int .i64 V5), some (.int .u8 (wr .u8 V5)), some (.int .u8 (wr .u8 ((rd VO VP) + (wr .u8 V5)))), some (z9 VR (Int.toNat VP * 1)), none]) 7 [(4, 7), (5, 7), (6, 7)] hA hcl hav hm hpre hk rfl rfl rfl rfl rfl rfl rfl
        clear hm hav
        refine x4 hA hst ho hcl hav2 hmust 11 [0, 1, 2, 3, 8, 9, 10] rfl rfl rfl rfl rfl (by exact ⟨nM rfl, nM rfl, nQ rfl (by exact qJ (xF rfl rfl Tryz.runUnderlying44 Tryz.sizeOf5 (VT.rd (i := 1) rfl) (fun _ => rfl) rfl V7) rfl), nQ rfl (by exact qJ (xO rfl (VT.rd (i := 1) rfl) (fun _ => rfl) V7 rfl Tryz.isAgg5) rfl), nQ rfl (by exact qJ (yT rfl Tryz.runUnderlying3 Tryz.runUnderlying5) rfl), nB rfl, nQ rfl (by exact qJ (xF rfl rfl Tryz.runUnderlying44 Tryz.sizeOf5 (VT.rd (i := 1) rfl) (fun _ => rfl) rfl V7) rfl), trivial⟩) fun D l a w ho hcl hav hpre hm hE hk hA hst => ?_
        have hS := (Ss.mk hE hst).env2 (e' := [(80, .int .u8 (wr .u8 ((rd VO VP) + (wr .u8 V5)))), (81, z9 VR (Int.toNat VP * 1))]) ⟨rfl, rfl, trivial⟩
        refine qC rfl <| QS (i := VP) (sz := 1) 1 0 ((wr .u8 ((rd VO VP) + (wr .u8 V5)))) hS rfl rfl VT rfl Tryz.sizeOf5 (jc (wr .u8 ((rd VO VP) + (wr .u8 V5)))) (fun _ => rfl) V7 rfl rfl fun Up w UN hz Uo Ux hS => ?_
        have hM := qp hz hM; clear hz
        have UJ := Eq.trans Uo V3
        refine qm ?_
        replace hst := hS.st
        obtain ⟨hcl, hmust, hav2, hA⟩ := Qt (vals' := [some (.slice VR VO.length VU), some (.int .i64 VP), some (z9 VR (Int.toNat VP * 1)), some (.int .u8 (rd VO VP)), some (.int .i64 V1), some (.int .i64 VX), some (.int .i64 V8), some (.int .i64 V5), some (.int .u8 (wr .u8 V5)), some (.int .u8 (wr .u8 ((rd VO VP) + (wr .u8 V5)))), some (z9 VR (Int.toNat VP * 1)), some undef]) 11 [(0, 11), (1, 11), (2, 11), (3, 11), (4, 11), (5, 11), (6, 11), (7, 11), (8, 11), (9, 11), (10, 11)] hA hcl hav hm hpre rfl rfl rfl rfl rfl
        clear hm hav
        refine xq hA hst ho hcl hmust [] rfl rfl rfl trivial fun a w hS => ?_
        replace hS := hS.env2 (e' := [(0, .int .u8 VS), (1, .slice VR Up.length VU), (2, .slice VW VQ.length VZ), (9, yH 59 [] [qx VY 0]), (16, .int .i64 (VV.length : Int)), (17, .int .i64 VP)]) ⟨rfl, (Xa (u := .slice VR VO.length VU) rfl (by rw [Uo])), rfl, rfl, rfl, rfl, trivial⟩
        refine qW (qW (qc ?_))
        refine zb <| sB hS rfl fun hS => sM hS rfl fun hS => qL <| qc ?_
        exact V9 _ _ ⟨Up, UN, (qi (VP + (1 : Int))), hS.to [1, 0] (by kernel_rfl) ⟨rfl, rfl, rfl, rfl, rfl, rfl, trivial⟩, Ux, UJ, hM⟩
       ·refine wp_seq ?_
        refine zb <| sA hS rfl fun hS => qm <| wp_ret <| zc (zc (qu (qu (zc (qu ?_)))))
        exact qP (rs := [8]) hS rfl rfl (hret false VO V4 _ (qG hM) VT V3 (hS.st.pick [1] (by kernel_rfl)))
  ·refine wp_exit ?_
   refine qv (qv (qO (qc ?_)))
   refine qe <| sM hS rfl fun hS => sB hS rfl fun hS => qY (v := Value.bool) (x0 := (decide (VS ≤ (4 : Int)))) hS (zE rfl) rfl fun UO a w hz hS => ?_
   have hM := qp hz hM; clear hz
   refine qm <| wp_ret ?_
   exact qP (rs := [8]) hS rfl rfl (hret UO VO V4 _ (qG hM) VT V3 (hS.st.pick [0] (by kernel_rfl)))
theorem Zx {H : z7} {F : List qj} {w : World} {R : Ending → World → Prop} {kr : (Int × Int × Int × (List UInt8) × Int) → Prop} {kp : Value → Prop} (hG : Gl H) (K : Nat) (Uo : List UInt8)
    (hS : St w H [] F) (hm : (xT.m K Uo).wp kr kp)
    (hret : ∀ (Up : Int) (Uu : Int) (V2 : Int) (V7 : List UInt8) (UB : Int) (w : World), kr (Up, Uu, V2, V7, UB) → St w H [] F → R (.returned (.tuple ⟨[.agg ⟨[.int .i64 Up, .int .i64 Uu, .int .i64 V2, qN V7]⟩, .int .i64 UB]⟩)) w) :
    Calls Tryz.prog 15 ⟨[qN Uo]⟩ w R := by
 refine enter Tryz.func15 rfl Tryz.ntmps15 rfl hS fun a w hS => ?_
 have hM := hm; clear hm
 rw [xT.m] at hM
 refine qe <| jz ([.int .i64 (0 : Int), .int .i64 (0 : Int), .int .i64 (0 : Int), qN ([] : List UInt8)]) hS Tryz.zeroValue35 rfl rfl fun w Ui V6 VX hS => sA hS rfl fun hS => qm <| qe <| sM hS rfl fun hS => qq hS rfl Tryz.call10 (v2 hG K Uo (hS.st.part 0 [0] (by kernel_rfl)) (qh hM) (fun Kl Ko Uw Ue Ux w hM Ug hst => qn hS.ev hst.appF rfl fun hS => ?_))
 replace hS : Ss _ _ _ H [Ue, V6] F _ _ := hS
 refine sM hS rfl fun hS => sO hS (ex rfl rfl) rfl fun hS => sO hS (ex rfl rfl) rfl fun hS => sA hS rfl fun hS => sA hS rfl fun hS => qm <| wp_seq <| qe <| sM hS rfl fun hS => sB hS rfl fun hS => qm <| qo hS rfl hM (fun US hM => ?_) (fun US hM => ?_)
 ·refine wp_seq ?_
  refine zb <| sO hS (vI ([.int .i64 (0 : Int), .int .i64 (0 : Int), .int .i64 (0 : Int), qN ([] : List UInt8)]) [(0, 1), (1, 1), (2, 1), (3, 1)] Tryz.zeroValue35 Tryz.runUnderlying35 (by intro w; simp [Tryz.sizeOf3, Tryz.sizeOf9]) rfl rfl) rfl fun hS => sM hS rfl fun hS => jn 1 ([.int .i64 (0 : Int), .int .i64 (0 : Int), .int .i64 (0 : Int), qN ([] : List UInt8)]) ([.int .i64 (0 : Int), .int .i64 (0 : Int), .int .i64 (0 : Int), qN ([] : List UInt8)]) hS rfl rfl VX rfl rfl Tryz.sizeOf35 (by simp [Value.oneCell']) (Nat.le_of_ble_eq_true rfl) rfl fun w Kp UC hS => sA hS rfl fun hS => qm <| wp_ret <| qu ?_
  exact xI (vs := [.agg ⟨[.int .i64 (0 : Int), .int .i64 (0 : Int), .int .i64 (0 : Int), qN ([] : List UInt8)]⟩, .int .i64 Ux]) hS rfl (by exact ⟨Qq 1 ([.int .i64 (0 : Int), .int .i64 (0 : Int), .int .i64 (0 : Int), qN ([] : List UInt8)]) rfl UC rfl rfl rfl Tryz.isAgg35 Tryz.sizeOf35, Xc rfl, trivial⟩) (hret (0 : Int) (0 : Int) (0 : Int) ([] : List UInt8) Ux _ (qG hM) (hS.st.pick [] (by kernel_rfl)))
 ·refine wp_skip ?_
  refine qc <| qe <| sM hS rfl fun hS => ?_
  obtain ⟨Un, hM⟩ := qt hM
  refine sO hS (xF rfl rfl Tryz.runUnderlying23 Tryz.sizeOf30 (Ug.rd (i := 0) rfl) (fun _ => rfl) rfl Un) rfl fun hS => sO hS (jj rfl (Ug.rd (i := 0) rfl) (fun _ => rfl) Un Tryz.isAgg30 Tryz.sizeOf30 rfl) rfl fun hS => qq hS rfl Tryz.call38 (Z4 hG K (qd.mk ((rd Uw (0 : Int)).Type_) ((rd Uw (0 : Int)).Data_)) (hS.st.part 0 [0, 1] (by kernel_rfl)) (qh hM) (fun VS VT VO Uy w hM  hst => qn hS.ev hst.appF rfl fun hS => ?_))
  replace hS : Ss _ _ _ H [Ue, V6] F _ _ := hS
  refine sM hS rfl fun hS => sO hS (ex rfl rfl) rfl fun hS => sO hS (ex rfl rfl) rfl fun hS => jz ([.int .i64 (0 : Int), .int .i64 (0 : Int), .int .i64 (0 : Int), qN ([] : List UInt8)]) hS Tryz.zeroValue35 rfl rfl fun w Ua Kq UD hS => jn 0 ([.int .i64 VS, .int .i64 VT, .int .i64 VO, qN ([] : List UInt8)]) ([.int .i64 VS, .int .i64 VT, .int .i64 VO, qN ([] : List UInt8)]) hS rfl rfl UD rfl rfl Tryz.sizeOf35 (by simp [Value.oneCell']) (Nat.le_of_ble_eq_true rfl) rfl fun w Uc VY hS => sA hS rfl fun hS => qm <| wp_seq <| qe <| sM hS rfl fun hS => sB hS rfl fun hS => qm <| qo hS rfl hM (fun UT hM => ?_) (fun UT hM => ?_)
  ·refine wp_seq ?_
   refine zb <| sO hS (vI ([.int .i64 (0 : Int), .int .i64 (0 : Int), .int .i64 (0 : Int), qN ([] : List UInt8)]) [(0, 1), (1, 1), (2, 1), (3, 1)] Tryz.zeroValue35 Tryz.runUnderlying35 (by intro w; simp [Tryz.sizeOf3, Tryz.sizeOf9]) rfl rfl) rfl fun hS => sM hS rfl fun hS => jn 2 ([.int .i64 (0 : Int), .int .i64 (0 : Int), .int .i64 (0 : Int), qN ([] : List UInt8)]) ([.int .i64 (0 : Int), .int .i64 (0 : Int), .int .i64 (0 : Int), qN ([] : List UInt8)]) hS rfl rfl VX rfl rfl Tryz.sizeOf35 (by simp [Value.oneCell']) (Nat.le_of_ble_eq_true rfl) rfl fun w Kr UE hS => sA hS rfl fun hS => qm <| wp_ret <| qu ?_
   exact xI (vs := [.agg ⟨[.int .i64 (0 : Int), .int .i64 (0 : Int), .int .i64 (0 : Int), qN ([] : List UInt8)]⟩, .int .i64 Uy]) hS rfl (by exact ⟨Qq 2 ([.int .i64 (0 : Int), .int .i64 (0 : Int), .int .i64 (0 : Int), qN ([] : List UInt8)]) rfl UE rfl rfl rfl Tryz.isAgg35 Tryz.sizeOf35, Xc rfl, trivial⟩) (hret (0 : Int) (0 : Int) (0 : Int) ([] : List UInt8) Uy _ (qG hM) (hS.st.pick [] (by kernel_rfl)))
  ·refine wp_skip ?_
   refine qc <| qe <| sM hS rfl fun hS => ?_
   obtain ⟨U1, hM⟩ := qt hM
   refine JF (g := qd.cells) hS rfl Tryz.runUnderlying23 Tryz.sizeOf30 (XI rfl) Yy (fun _ => rfl) (Ug.cap (fun _ => rfl) rfl) U1 rfl fun U7 Ka Kd a w hz U0 UZ hS => ?_
   have hM := qp hz hM; clear hz
   refine qq hS rfl Tryz.call39 (Zz hG K U7 Ka Kd (U0 _ _ _ (Ug.rdF (i := 1) rfl)) UZ (hS.st.part 0 [0, 1, 2] (by kernel_rfl)) (qh hM) (fun Uz Ky w hM  hst => qn hS.ev hst.appF rfl fun hS => ?_))
   replace hS : Ss _ _ _ H [Uc, Ue, V6] F _ _ := hS
   refine sM hS rfl fun hS => sO hS (ex rfl rfl) rfl fun hS => sO hS (ex rfl rfl) rfl fun hS => sA hS rfl fun hS => sA hS rfl fun hS => qm <| wp_seq <| qe <| sM hS rfl fun hS => sO hS (un rfl rfl) rfl fun hS => qm <| qo hS rfl hM (fun UU hM => ?_) (fun UU hM => ?_)
   ·refine wp_seq ?_
    refine zb <| sO hS (vI ([.int .i64 (0 : Int), .int .i64 (0 : Int), .int .i64 (0 : Int), qN ([] : List UInt8)]) [(0, 1), (1, 1), (2, 1), (3, 1)] Tryz.zeroValue35 Tryz.runUnderlying35 (by intro w; simp [Tryz.sizeOf3, Tryz.sizeOf9]) rfl rfl) rfl fun hS => jn 2 ([.int .i64 (0 : Int), .int .i64 (0 : Int), .int .i64 (0 : Int), qN ([] : List UInt8)]) ([.int .i64 (0 : Int), .int .i64 (0 : Int), .int .i64 (0 : Int), qN ([] : List UInt8)]) hS rfl rfl VX rfl rfl Tryz.sizeOf35 (by simp [Value.oneCell']) (Nat.le_of_ble_eq_true rfl) rfl fun w Ks UF hS => sA hS rfl fun hS => qm <| wp_ret <| qu ?_
    exact xI (vs := [.agg ⟨[.int .i64 (0 : Int), .int .i64 (0 : Int), .int .i64 (0 : Int), qN ([] : List UInt8)]⟩, .int .i64 (3 : Int)]) hS rfl (by exact ⟨Qq 2 ([.int .i64 (0 : Int), .int .i64 (0 : Int), .int .i64 (0 : Int), qN ([] : List UInt8)]) rfl UF rfl rfl rfl Tryz.isAgg35 Tryz.sizeOf35, Xc rfl, trivial⟩) (hret (0 : Int) (0 : Int) (0 : Int) ([] : List UInt8) (3 : Int) _ (qG hM) (hS.st.pick [] (by kernel_rfl)))
   ·refine wp_skip ?_
    refine qc <| qe <| sO hS (zz rfl Tryz.runUnderlying35 rfl Tryz.sizeOf3 rfl) rfl fun hS => sO hS (zU 0 rfl VY rfl rfl Tryz.isAgg3) rfl fun hS => sO hS (zz rfl Tryz.runUnderlying35 rfl Tryz.sizeOf3 rfl) rfl fun hS => sO hS (zU 0 rfl VY rfl rfl Tryz.isAgg3) rfl fun hS => sB hS rfl fun hS => qY (v := Value.int .i64) (x0 := (qi (VS * VO))) hS (zE rfl) rfl fun VU a w hz hS => ?_
    have hM := qp hz hM; clear hz
    refine qm <| qe <| sM hS rfl fun hS => sO hS (zz rfl Tryz.runUnderlying35 rfl Tryz.sizeOf3 rfl) rfl fun hS => sO hS (zU 0 rfl VY rfl rfl Tryz.isAgg3) rfl fun hS => sM hS rfl fun hS => sB hS rfl fun hS => sB hS rfl fun hS => qq hS rfl Tryz.call40 (ZG hG K Uz (qi (VT * (qi (VU + (1 : Int))))) (hS.st.part 0 [0, 1, 2] (by kernel_rfl)) (qh hM) (fun VW Kk UA w hM  hst => qn hS.ev hst.appF rfl fun hS => ?_))
    replace hS : Ss _ _ _ H [Uc, Ue, V6] F _ _ := hS
    refine sM hS rfl fun hS => sO hS (ex rfl rfl) rfl fun hS => sO hS (ex rfl rfl) rfl fun hS => sO hS (ex rfl rfl) rfl fun hS => sA hS rfl fun hS => sA hS rfl fun hS => sA hS rfl fun hS => qm <| wp_seq <| qe <| sM hS rfl fun hS => sB hS rfl fun hS => qm <| qo hS rfl hM (fun UV hM => ?_) (fun UV hM => ?_)
    ·refine wp_seq ?_
     refine zb <| sO hS (vI ([.int .i64 (0 : Int), .int .i64 (0 : Int), .int .i64 (0 : Int), qN ([] : List UInt8)]) [(0, 1), (1, 1), (2, 1), (3, 1)] Tryz.zeroValue35 Tryz.runUnderlying35 (by intro w; simp [Tryz.sizeOf3, Tryz.sizeOf9]) rfl rfl) rfl fun hS => sM hS rfl fun hS => jn 2 ([.int .i64 (0 : Int), .int .i64 (0 : Int), .int .i64 (0 : Int), qN ([] : List UInt8)]) ([.int .i64 (0 : Int), .int .i64 (0 : Int), .int .i64 (0 : Int), qN ([] : List UInt8)]) hS rfl rfl VX rfl rfl Tryz.sizeOf35 (by simp [Value.oneCell']) (Nat.le_of_ble_eq_true rfl) rfl fun w Kt UG hS => sA hS rfl fun hS => qm <| wp_ret <| qu ?_
     exact xI (vs := [.agg ⟨[.int .i64 (0 : Int), .int .i64 (0 : Int), .int .i64 (0 : Int), qN ([] : List UInt8)]⟩, .int .i64 UA]) hS rfl (by exact ⟨Qq 2 ([.int .i64 (0 : Int), .int .i64 (0 : Int), .int .i64 (0 : Int), qN ([] : List UInt8)]) rfl UG rfl rfl rfl Tryz.isAgg35 Tryz.sizeOf35, Xc rfl, trivial⟩) (hret (0 : Int) (0 : Int) (0 : Int) ([] : List UInt8) UA _ (qG hM) (hS.st.pick [] (by kernel_rfl)))
    ·refine wp_skip ?_
     refine qc <| wp_seq <| qe <| sM hS rfl fun hS => sM hS rfl fun hS => sO hS (ye rfl Tryz.runUnderlying9) rfl fun hS => sB hS rfl fun hS => sM hS rfl fun hS => xm 8 false 70 (b := (Kk != (Uz.length : Int))) (r := ((VW.length : Int) != (qi (VT * (qi (VU + (1 : Int))))))) hS rfl rfl rfl rfl rfl rfl rfl (fun hb a w hS K hK => ?_) rfl fun a w hS => ?_
     ·refine qI hS rfl rfl rfl hb (mv rfl) rfl fun a w hS => ?_
      refine qI hS rfl rfl rfl hb (ye rfl Tryz.runUnderlying9) rfl fun a w hS => qI hS rfl rfl rfl hb (zz rfl Tryz.runUnderlying35 rfl Tryz.sizeOf3 rfl) rfl fun a w hS => qI hS rfl rfl rfl hb (zU 0 rfl VY rfl rfl Tryz.isAgg3) rfl fun a w hS => qI hS rfl rfl rfl hb (mv rfl) rfl fun a w hS => qI hS rfl rfl rfl hb (xN rfl rfl rfl) rfl fun a w hS => qI hS rfl rfl rfl hb (xN rfl rfl rfl) rfl fun a w hS => qI hS rfl rfl rfl hb (xN rfl rfl rfl) rfl fun a w hS => ?_
      exact qL (hK _ _ (hS.up 8 rfl rfl))
     refine qm <| qo hS rfl hM (fun UW hM => ?_) (fun UW hM => ?_)
     ·refine wp_seq ?_
      refine zb <| sO hS (vI ([.int .i64 (0 : Int), .int .i64 (0 : Int), .int .i64 (0 : Int), qN ([] : List UInt8)]) [(0, 1), (1, 1), (2, 1), (3, 1)] Tryz.zeroValue35 Tryz.runUnderlying35 (by intro w; simp [Tryz.sizeOf3, Tryz.sizeOf9]) rfl rfl) rfl fun hS => jn 2 ([.int .i64 (0 : Int), .int .i64 (0 : Int), .int .i64 (0 : Int), qN ([] : List UInt8)]) ([.int .i64 (0 : Int), .int .i64 (0 : Int), .int .i64 (0 : Int), qN ([] : List UInt8)]) hS rfl rfl VX rfl rfl Tryz.sizeOf35 (by simp [Value.oneCell']) (Nat.le_of_ble_eq_true rfl) rfl fun w Ku UH hS => sA hS rfl fun hS => qm <| wp_ret <| qu ?_
      exact xI (vs := [.agg ⟨[.int .i64 (0 : Int), .int .i64 (0 : Int), .int .i64 (0 : Int), qN ([] : List UInt8)]⟩, .int .i64 (3 : Int)]) hS rfl (by exact ⟨Qq 2 ([.int .i64 (0 : Int), .int .i64 (0 : Int), .int .i64 (0 : Int), qN ([] : List UInt8)]) rfl UH rfl rfl rfl Tryz.isAgg35 Tryz.sizeOf35, Xc rfl, trivial⟩) (hret (0 : Int) (0 : Int) (0 : Int) ([] : List UInt8) (3 : Int) _ (qG hM) (hS.st.pick [] (by kernel_rfl)))
     ·refine wp_skip ?_
      refine qc <| qe <| sA hS rfl fun hS => ?_
      obtain ⟨Kg, UN, hS⟩ := hS.nilV 5 (ci .u8) 1
      refine qm <| qe <| sM hS rfl fun hS => ?_
      obtain ⟨U2, hM⟩ := qt hM
      refine Yn (g := (ci .u8)) (m := VU) (0 : Int) hS rfl rfl (by simp) Tryz.runUnderlying44 X.el5 (fun w => ⟨_, Tryz.zeroValue5 w, rfl⟩) (fun _ => rfl) rfl rfl U2 rfl fun U8 w Kb Ke Kh hz UO hS => ?_
      have hM := qp hz hM; clear hz
      refine sA hS rfl fun hS => qm <| qV (fun a w => ∃ (Uh : Option Addr) (Uj : Nat) (VP : (List Int)) (Uk : qj), Ss 120 [] [(2, qx Ui 0), (6, qx Ua 0), (12, .slice Uh VP.length Uj)] H [V6, Uc, Uk] F a w ∧ (zM 5 (ci .u8) 1 Uh VP Uj Uk) ∧ (xT.j2 K VS VT VO VP).wp kr kp) (fun Kn UM => ?_) ?_
      ·refine wp_seq ?_
       refine zb <| sO hS (zz rfl Tryz.runUnderlying35 rfl Tryz.sizeOf3 rfl) rfl fun hS => sO hS (zU 2 rfl VY rfl rfl Tryz.isAgg3) rfl fun hS => sM hS rfl fun hS => qm <| z3 <| q6 (fun Uv a w => ∃ (V9 : Option Addr) (Ub : Nat) (VR : (List Int)) (Ud : qj) (V4 : Option Addr) (V5 : Nat) (VQ : (List Int)) (Uf : qj) (V8 : Int), Ss 120 [] [(2, qx Ui 0), (6, qx Ua 0), (9, .int .i64 VU), (10, qN VW), (12, .slice V9 VR.length Ub), (13, .slice V4 VQ.length V5), (84, .int .i64 VT), (85, .int .i64 V8)] H [V6, Uc, Ud, Uf] F a w ∧ (zM 5 (ci .u8) 1 V9 VR Ub Ud) ∧ (zM 5 (ci .u8) 1 V4 VQ V5 Uf) ∧ (xT.l1 K VS VT VO VU VW Uv VR VQ V8).wp kr kp) K ?_ ?_ ?_
       ·exact ⟨none, 0, ([] : List Int), Kg, Kb, Ke, U8, Kh, (0 : Int), hS.to [4, 2, 1, 0] (by kernel_rfl) ⟨rfl, rfl, rfl, rfl, rfl, rfl, rfl, rfl, trivial⟩, UN, UO, hM⟩
       ·intro a w hI; obtain ⟨_, _, _, _, _, _, _, _, _, _, _, _, hM⟩ := hI; exact qX hM
       ·intro Uv a w hI Km UL
        obtain ⟨V9, Ub, VR, Ud, V4, V5, VQ, Uf, V8, hS, Ul, Um, hM⟩ := hI
        rw [xT.l1] at hM
        refine qe <| sB hS rfl fun hS => qm <| wp_seq <| qo hS rfl hM (fun UX hM => ?_) (fun UX hM => ?_)
        ·refine wp_skip ?_
         refine qc <| wp_seq <| z3 <| qe <| sM hS rfl fun hS => sA hS rfl fun hS => qm <| qe <| sM hS rfl fun hS => sM hS rfl fun hS => sB hS rfl fun hS => sB hS rfl fun hS => qY (v := Value.int .i64) (x0 := (qi (V8 * (qi (VU + (1 : Int)))))) hS (zE rfl) rfl fun VV a w hz hS => ?_
         have hM := qp hz hM; clear hz
         refine qm <| qe <| sM hS rfl fun hS => sM hS rfl fun hS => sB hS rfl fun hS => sM hS rfl fun hS => sB hS rfl fun hS => sM hS rfl fun hS => sB hS rfl fun hS => ?_
         obtain ⟨U3, hM⟩ := qt hM
         refine sO hS (Xj rfl Tryz.runUnderlying9 (XI rfl) (Xn rfl) U3) rfl fun hS => ?_
         obtain ⟨U4, hM⟩ := qt hM
         refine Vr hS rfl Tryz.underlying9 Tryz.underlying44 Tryz.underlying5 U4 rfl fun V1 w VZ V0 Ki hz UP hS => ?_
         have hM := qp hz hM; clear hz
         refine sA hS rfl fun hS => qm <| wp_seq <| wp_seq ?_
         obtain ⟨U5, hM⟩ := qt hM
         refine qM (vals := [some (qN VW), some (.int .i64 VV), some (.int .u8 ((rd VW VV).toNat : Int)), some (.slice VZ V1.length V0), some (.slice V4 VQ.length V5), some (qx Ua 2), some (.int .i64 VO), none, none]) hS zV rfl ?_
         intro l w ho hcl hA hst
         refine x4 hA hst ho hcl zO zW 7 [0, 1, 2, 3, 4, 5, 6] rfl rfl rfl rfl rfl (by exact ⟨nM rfl, nM rfl, nQ rfl (by exact qJ (u1 rfl rfl Tryz.runUnderlying9 U5) rfl), nM rfl, nM rfl, nQ rfl (by exact qJ (zz rfl Tryz.runUnderlying35 rfl Tryz.sizeOf3 rfl) rfl), nQ rfl (by exact qJ (zU 2 rfl VY rfl rfl Tryz.isAgg3) rfl), trivial⟩) fun D l a w ho hcl hav hpre hm hE hk hA hst => ?_
         have hS := (Ss.mk hE hst).env2 (e' := [(103, .int .u8 ((rd VW VV).toNat : Int)), (104, .slice VZ V1.length V0), (105, .slice V4 VQ.length V5), (107, .int .i64 VO)]) ⟨rfl, rfl, rfl, rfl, trivial⟩
         refine qC rfl <| qq hS rfl Tryz.call41 (ui hG K ((rd VW VV).toNat : Int) V1 VQ VO VZ V0 Ki V4 V5 UP (Um.rdF (i := 3) rfl) (Um.cap (fun _ => rfl) rfl) (hS.st.part 1 [0, 1, 2, 3, 4] (by kernel_rfl)) (qh hM) (fun Uq V3 Ur w hM Us Ut hst => qn hS.ev hst.appF rfl fun hS => ?_))
         replace hS : Ss _ _ _ H [Ur, V6, Uc, Ud, Uf] F _ _ := hS
         replace hS := hS.re 104 (u := .slice VZ V1.length V0) (v := .slice VZ V3.length V0) rfl (by rw [Ut])
         refine qm ?_
         replace hst := hS.st
         obtain ⟨hcl, hmust, hav2, hA⟩ := dn (vals' := [some (qN VW), some (.int .i64 VV), some (.int .u8 ((rd VW VV).toNat : Int)), some (.slice VZ V1.length V0), some (.slice V4 VQ.length V5), some (qx Ua 2), some (.int .i64 VO), some (.bool Uq), some (.bool (!Uq))]) 7 [(2, 7), (3, 7), (4, 7), (6, 7), (0, 2), (1, 2), (5, 6)] hA hcl hav hm hpre hk rfl rfl rfl rfl rfl rfl rfl
         clear hm hav
         refine xq hA hst ho hcl hmust [8] rfl rfl rfl (by exact ⟨nQ rfl (by exact qJ (un rfl rfl) rfl), trivial⟩) fun a w hS => ?_
         replace hS := hS.env2 (e' := [(2, qx Ui 0), (6, qx Ua 0), (9, .int .i64 VU), (10, qN VW), (12, .slice V9 VR.length Ub), (16, .slice VZ V3.length V0), (84, .int .i64 VT), (85, .int .i64 V8), (109, .bool (!Uq))]) ⟨rfl, rfl, rfl, rfl, rfl, (Xa (u := .slice VZ V1.length V0) rfl (by rw [Ut])), rfl, rfl, rfl, trivial⟩
         refine qc <| qo hS rfl hM (fun UY hM => ?_) (fun UY hM => ?_)
         ·refine wp_seq ?_
          refine zb <| sO hS (vI ([.int .i64 (0 : Int), .int .i64 (0 : Int), .int .i64 (0 : Int), qN ([] : List UInt8)]) [(0, 1), (1, 1), (2, 1), (3, 1)] Tryz.zeroValue35 Tryz.runUnderlying35 (by intro w; simp [Tryz.sizeOf3, Tryz.sizeOf9]) rfl rfl) rfl fun hS => jn 1 ([.int .i64 (0 : Int), .int .i64 (0 : Int), .int .i64 (0 : Int), qN ([] : List UInt8)]) ([.int .i64 (0 : Int), .int .i64 (0 : Int), .int .i64 (0 : Int), qN ([] : List UInt8)]) hS rfl rfl VX rfl rfl Tryz.sizeOf35 (by simp [Value.oneCell']) (Nat.le_of_ble_eq_true rfl) rfl fun w Kv UI hS => sA hS rfl fun hS => qm <| wp_ret <| qu (zc (qu (qu (zc (qu ?_)))))
          exact xI (vs := [.agg ⟨[.int .i64 (0 : Int), .int .i64 (0 : Int), .int .i64 (0 : Int), qN ([] : List UInt8)]⟩, .int .i64 (3 : Int)]) hS rfl (by exact ⟨Qq 1 ([.int .i64 (0 : Int), .int .i64 (0 : Int), .int .i64 (0 : Int), qN ([] : List UInt8)]) rfl UI rfl rfl rfl Tryz.isAgg35 Tryz.sizeOf35, Xc rfl, trivial⟩) (hret (0 : Int) (0 : Int) (0 : Int) ([] : List UInt8) (3 : Int) _ (qG hM) (hS.st.pick [] (by kernel_rfl)))
         ·refine wp_skip ?_
          refine qc <| qe <| sM hS rfl fun hS => sM hS rfl fun hS => ?_
          obtain ⟨U6, hM⟩ := qt hM
          refine QR (ys := V3) 3 hS rfl rfl Ul rfl (Us.rd (i := 0) rfl) Tryz.runUnderlying44 Tryz.runUnderlying44 X.el5 (fun _ => rfl) rfl jc U6 rfl fun U9 w Kc Kf Kj hz UQ hS => ?_
          have hM := qp hz hM; clear hz
          refine sA hS rfl fun hS => qm <| zb <| sM hS rfl fun hS => sA hS rfl fun hS => qL <| qW (qc ?_)
          refine zb <| sB hS rfl fun hS => sM hS rfl fun hS => qL <| qc ?_
          exact UL _ _ ⟨Kc, Kf, U9, Kj, VZ, V0, V3, Ur, (qi (V8 + (1 : Int))), hS.to [1, 2, 3, 0] (by kernel_rfl) ⟨rfl, rfl, rfl, rfl, rfl, rfl, rfl, rfl, trivial⟩, UQ, Us, hM⟩
        ·refine wp_exit ?_
         refine qv (qv (qO (qc ?_)))
         exact UM _ _ ⟨V9, Ub, VR, Ud, hS.to [0, 1, 2] (by kernel_rfl) ⟨rfl, rfl, rfl, trivial⟩, Ul, hM⟩
      ·intro a w hI
       obtain ⟨Uh, Uj, VP, Uk, hS, UR, hM⟩ := hI
       rw [xT.j2] at hM
       refine qe <| sM hS rfl fun hS => sO hS (XZ rfl Tryz.runUnderlying44 Tryz.runUnderlying5 Tryz.runUnderlying9 (UR.rd (i := 2) rfl)) rfl fun hS => sO hS (zz rfl Tryz.runUnderlying35 rfl Tryz.sizeOf9 rfl) rfl fun hS => Qr 1 ([.int .i64 VS, .int .i64 VT, .int .i64 VO, qN (VP.map jo)]) hS rfl rfl VY rfl rfl rfl rfl Tryz.sizeOf9 fun w Kw UJ hS => qm <| qe <| sO hS (yz 1 rfl UJ rfl ([.int .i64 VS, .int .i64 VT, .int .i64 VO, qN (VP.map jo)]) rfl rfl Tryz.isAgg35 Tryz.sizeOf35) rfl fun hS => jn 0 ([.int .i64 VS, .int .i64 VT, .int .i64 VO, qN (VP.map jo)]) ([.int .i64 VS, .int .i64 VT, .int .i64 VO, qN (VP.map jo)]) hS rfl rfl VX rfl rfl Tryz.sizeOf35 (by simp [Value.oneCell']) (Nat.le_of_ble_eq_true rfl) rfl fun w Kx UK hS => sA hS rfl fun hS => qm <| wp_ret ?_
       exact xI (vs := [.agg ⟨[.int .i64 VS, .int .i64 VT, .int .i64 VO, qN (VP.map jo)]⟩, .int .i64 (0 : Int)]) hS rfl (by exact ⟨Qq 0 ([.int .i64 VS, .int .i64 VT, .int .i64 VO, qN (VP.map jo)]) rfl UK rfl rfl rfl Tryz.isAgg35 Tryz.sizeOf35, Xc rfl, trivial⟩) (hret VS VT VO (VP.map jo) (0 : Int) _ (qG hM) (hS.st.pick [] (by kernel_rfl)))
end Go.TryzS

set_option maxRecDepth 100000
namespace Go.TryzS
open Go Go.Sl Go.Mo Go.Proofs
attribute [local irreducible] q7.wp
theorem jB {H : z7} {F : List qj} {w : World} {R : Ending → World → Prop} {kr : Bool → Prop} {kp : Value → Prop} (hG : Gl H) (K : Nat)
    (hS : St w H [] F) (hm : (xC.m K).wp kr kp)
    (hret : ∀ (V2 : Bool) (w : World), kr V2 → St w H [] F → R (.returned (.bool V2)) w)
    (hpan : ∀ v w, kp v → St w H [] F → R (.panicked [⟨v, false, false⟩]) w) :
    Calls Tryz.prog 9 ⟨[]⟩ w R := by
 refine enter Tryz.func9 rfl Tryz.ntmps9 rfl hS fun a w hS => ?_
 have hM := hm; clear hm
 rw [xC.m] at hM
 refine qe <| sA hS rfl fun hS => qm <| qe <| sO hS (vI ([.int .i64 (2 : Int), .int .i64 (1 : Int), .int .i64 (1 : Int), qN ([97, 98] : List UInt8)]) [(0, 1), (1, 1), (2, 1), (3, 1)] Tryz.zeroValue35 Tryz.runUnderlying35 (by intro w; simp [Tryz.sizeOf3, Tryz.sizeOf9]) rfl rfl) rfl fun hS => jz ([.int .i64 (0 : Int), .int .i64 (0 : Int), .int .i64 (0 : Int), qN ([] : List UInt8)]) hS Tryz.zeroValue35 rfl rfl fun w b3 f4 hB5 hS => jn 0 ([.int .i64 (2 : Int), .int .i64 (1 : Int), .int .i64 (1 : Int), qN ([97, 98] : List UInt8)]) ([.int .i64 (2 : Int), .int .i64 (1 : Int), .int .i64 (1 : Int), qN ([97, 98] : List UInt8)]) hS rfl rfl hB5 rfl rfl Tryz.sizeOf35 (by simp [Value.oneCell']) (Nat.le_of_ble_eq_true rfl) rfl fun w f6 hB7 hS => qm <| qe <| sO hS (yz 0 rfl hB7 rfl ([.int .i64 (2 : Int), .int .i64 (1 : Int), .int .i64 (1 : Int), qN ([97, 98] : List UInt8)]) rfl rfl Tryz.isAgg35 Tryz.sizeOf35) rfl fun hS => qq hS rfl Tryz.call17 (Zy hG K (xk.mk (2 : Int) (1 : Int) (1 : Int) ([97, 98] : List UInt8)) (hS.st.part 0 [0] (by kernel_rfl)) (qh hM) (fun V0 VS w hM  hst => qn hS.ev hst.appF rfl fun hS => ?_) (fun v w hk hst => zY (qB (⟨hS.ev.defs, hpan _ _ hk hst.appF.frame⟩))))
 replace hS : Ss _ _ _ H [f6] F _ _ := hS
 refine sM hS rfl fun hS => sO hS (ex rfl rfl) rfl fun hS => sO hS (ex rfl rfl) rfl fun hS => sA hS rfl fun hS => sA hS rfl fun hS => qm <| qe <| sM hS rfl fun hS => qq hS rfl Tryz.call15 (Zx hG K V0 (hS.st.part 0 [0] (by kernel_rfl)) (qh hM) (fun VQ VR VO VP VT w hM  hst => qn hS.ev hst.appF rfl fun hS => ?_))
 replace hS : Ss _ _ _ H [f6] F _ _ := hS
 refine sM hS rfl fun hS => sO hS (ex rfl rfl) rfl fun hS => sO hS (ex rfl rfl) rfl fun hS => jz ([.int .i64 (0 : Int), .int .i64 (0 : Int), .int .i64 (0 : Int), qN ([] : List UInt8)]) hS Tryz.zeroValue35 rfl rfl fun w V8 Ua V3 hS => jn 0 ([.int .i64 VQ, .int .i64 VR, .int .i64 VO, qN VP]) ([.int .i64 VQ, .int .i64 VR, .int .i64 VO, qN VP]) hS rfl rfl V3 rfl rfl Tryz.sizeOf35 (by simp [Value.oneCell']) (Nat.le_of_ble_eq_true rfl) rfl fun w VY V4 hS => sA hS rfl fun hS => qm <| qe <| sM hS rfl fun hS => qq hS rfl Tryz.call10 (v2 hG K V0 (hS.st.part 0 [0, 1] (by kernel_rfl)) (qh hM) (fun V7 V9 VU VZ VV w hM VX hst => qn hS.ev hst.appF rfl fun hS => ?_))
 replace hS : Ss _ _ _ H [VZ, VY, f6] F _ _ := hS
 refine sM hS rfl fun hS => sO hS (ex rfl rfl) rfl fun hS => sO hS (ex rfl rfl) rfl fun hS => sA hS rfl fun hS => sA hS rfl fun hS => qm <| qe <| qq hS rfl Tryz.call13 (QF hG K ([] : List qd) none (0) yU.nil (Nat.le_refl _) (hS.st.part 0 [0, 1, 2] (by kernel_rfl)) (qh hM) (fun Ub V1 w hM  hst => qn hS.ev hst.appF rfl fun hS => ?_))
 replace hS : Ss _ _ _ H [VZ, VY, f6] F _ _ := hS
 refine sM hS rfl fun hS => sO hS (ex rfl rfl) rfl fun hS => sO hS (ex rfl rfl) rfl fun hS => sA hS rfl fun hS => sA hS rfl fun hS => qm <| qe <| sM hS rfl fun hS => sB hS rfl fun hS => sM hS rfl fun hS => xm 2 true 32 (b := (VS == (0 : Int))) (r := (VT == (0 : Int))) hS rfl rfl rfl rfl rfl rfl rfl (fun hb a w hS K hK => ?_) rfl fun a w hS => ?_
 ·refine qI hS rfl rfl rfl hb (mv rfl) rfl fun a w hS => ?_
  refine qI hS rfl rfl rfl hb (xN rfl rfl rfl) rfl fun a w hS => ?_
  exact qL (hK _ _ (hS.up 2 rfl rfl))
 refine sM hS rfl fun hS => xm 3 true 36 (b := ((VS == (0 : Int)) && (VT == (0 : Int)))) (r := ((VQ == (2 : Int)) && ((VR == (1 : Int)) && ((VO == (1 : Int)) && ((VP == ([97, 98] : List UInt8)) && true))))) hS rfl rfl rfl rfl rfl rfl rfl (fun hb a w hS K hK => ?_) rfl fun a w hS => ?_
 ·refine qI hS rfl rfl rfl hb (yz 1 rfl V4 rfl ([.int .i64 VQ, .int .i64 VR, .int .i64 VO, qN VP]) rfl rfl Tryz.isAgg35 Tryz.sizeOf35) rfl fun a w hS => ?_
  refine qI hS rfl rfl rfl hb (yz 2 rfl hB7 rfl ([.int .i64 (2 : Int), .int .i64 (1 : Int), .int .i64 (1 : Int), qN ([97, 98] : List UInt8)]) rfl rfl Tryz.isAgg35 Tryz.sizeOf35) rfl fun a w hS => qI hS rfl rfl rfl hb (Y0 rfl rfl rfl (by kernel_rfl) (by kernel_rfl) (y2.cons (by decide) Tryz.isAgg3 rfl rfl (JZ Tryz.runUnderlying3) (y2.cons (by decide) Tryz.isAgg3 rfl rfl (JZ Tryz.runUnderlying3) (y2.cons (by decide) Tryz.isAgg3 rfl rfl (JZ Tryz.runUnderlying3) (y2.cons (by decide) Tryz.isAgg9 rfl rfl (J0 Tryz.runUnderlying9) y2.nil)))) rfl) rfl fun a w hS => ?_
  exact qL (hK _ _ (hS.up 3 rfl rfl))
 refine sM hS rfl fun hS => xm 2 true 41 (b := (((VS == (0 : Int)) && (VT == (0 : Int))) && ((VQ == (2 : Int)) && ((VR == (1 : Int)) && ((VO == (1 : Int)) && ((VP == ([97, 98] : List UInt8)) && true)))))) (r := (VV == (0 : Int))) hS rfl rfl rfl rfl rfl rfl rfl (fun hb a w hS K hK => ?_) rfl fun a w hS => ?_
 ·refine qI hS rfl rfl rfl hb (mv rfl) rfl fun a w hS => ?_
  refine qI hS rfl rfl rfl hb (xN rfl rfl rfl) rfl fun a w hS => ?_
  exact qL (hK _ _ (hS.up 2 rfl rfl))
 refine sM hS rfl fun hS => xm 3 true 45 (b := ((((VS == (0 : Int)) && (VT == (0 : Int))) && ((VQ == (2 : Int)) && ((VR == (1 : Int)) && ((VO == (1 : Int)) && ((VP == ([97, 98] : List UInt8)) && true))))) && (VV == (0 : Int)))) (r := ((VU.length : Int) == (3 : Int))) hS rfl rfl rfl rfl rfl rfl rfl (fun hb a w hS K hK => ?_) rfl fun a w hS => ?_
 ·refine qI hS rfl rfl rfl hb (mv rfl) rfl fun a w hS => ?_
  refine qI hS rfl rfl rfl hb (xw rfl Tryz.runUnderlying23) rfl fun a w hS => qI hS rfl rfl rfl hb (xN rfl rfl rfl) rfl fun a w hS => ?_
  exact qL (hK _ _ (hS.up 3 rfl rfl))
 refine sM hS rfl fun hS => ?_
 obtain ⟨V5, hM⟩ := qt hM
 refine xm 5 true 50 (b := (((((VS == (0 : Int)) && (VT == (0 : Int))) && ((VQ == (2 : Int)) && ((VR == (1 : Int)) && ((VO == (1 : Int)) && ((VP == ([97, 98] : List UInt8)) && true))))) && (VV == (0 : Int))) && ((VU.length : Int) == (3 : Int)))) (r := ((rd VU (2 : Int)).Type_ == ([73, 69, 78, 68] : List UInt8))) hS rfl rfl rfl rfl rfl rfl rfl (fun hb a w hS K hK => ?_) rfl fun a w hS => ?_
 ·refine qI hS rfl rfl rfl hb (mv rfl) rfl fun a w hS => ?_
  have VW := Zt V5 hb
  refine qI hS rfl rfl rfl hb (xF rfl rfl Tryz.runUnderlying23 Tryz.sizeOf30 (VX.rd (i := 0) rfl) (fun _ => rfl) rfl VW) rfl fun a w hS => qI hS rfl rfl rfl hb (QV (sz := 2) rfl (VX.rd (i := 0) rfl) (fun _ => rfl) rfl VW Tryz.runUnderlying30 rfl Tryz.sizeOf9 rfl) rfl fun a w hS => qI hS rfl rfl rfl hb (Yi 0 rfl (VX.rd (i := 0) rfl) (fun _ => rfl) VW rfl Tryz.isAgg9) rfl fun a w hS => qI hS rfl rfl rfl hb (ua rfl rfl rfl) rfl fun a w hS => ?_
  exact qL (hK _ _ (hS.up 5 rfl rfl))
 refine sM hS rfl fun hS => xm 2 true 57 (b := ((((((VS == (0 : Int)) && (VT == (0 : Int))) && ((VQ == (2 : Int)) && ((VR == (1 : Int)) && ((VO == (1 : Int)) && ((VP == ([97, 98] : List UInt8)) && true))))) && (VV == (0 : Int))) && ((VU.length : Int) == (3 : Int))) && ((rd VU (2 : Int)).Type_ == ([73, 69, 78, 68] : List UInt8)))) (r := (V1 == (1 : Int))) hS rfl rfl rfl rfl rfl rfl rfl (fun hb a w hS K hK => ?_) rfl fun a w hS => ?_
 ·refine qI hS rfl rfl rfl hb (mv rfl) rfl fun a w hS => ?_
  refine qI hS rfl rfl rfl hb (xN rfl rfl rfl) rfl fun a w hS => ?_
  exact qL (hK _ _ (hS.up 2 rfl rfl))
 refine qY (v := Value.bool) (x0 := (((((((VS == (0 : Int)) && (VT == (0 : Int))) && ((VQ == (2 : Int)) && ((VR == (1 : Int)) && ((VO == (1 : Int)) && ((VP == ([97, 98] : List UInt8)) && true))))) && (VV == (0 : Int))) && ((VU.length : Int) == (3 : Int))) && ((rd VU (2 : Int)).Type_ == ([73, 69, 78, 68] : List UInt8))) && (V1 == (1 : Int)))) hS (zE rfl) rfl fun V6 a w hz hS => ?_
 have hM := qp hz hM; clear hz
 refine qm <| wp_ret ?_
 exact qP (rs := [0]) hS rfl rfl (hret V6 _ (qG hM) (hS.st.pick [] (by kernel_rfl)))
theorem vY {H : z7} {F : List qj} {w : World} {R : Ending → World → Prop} {kr : Bool → Prop} {kp : Value → Prop} (hG : Gl H) (K : Nat) (VO : Int)
    (hS : St w H [] F) (hm : (yu.m K VO).wp kr kp)
    (hret : ∀ (VP : Bool) (w : World), kr VP → St w H [] F → R (.returned (.bool VP)) w) :
    Calls Tryz.prog 57 ⟨[.int .i64 VO]⟩ w R := by
 refine enter Tryz.func57 rfl Tryz.ntmps57 rfl hS fun a w hS => ?_
 have hM := hm; clear hm
 rw [yu.m] at hM
 refine qe <| sA hS rfl fun hS => qm <| qe <| sM hS rfl fun hS => sB hS rfl fun hS => sM hS rfl fun hS => xm 2 false 5 (b := (VO == (1 : Int))) (r := (VO == (2 : Int))) hS rfl rfl rfl rfl rfl rfl rfl (fun hb a w hS K hK => ?_) rfl fun a w hS => ?_
 ·refine qI hS rfl rfl rfl hb (mv rfl) rfl fun a w hS => ?_
  refine qI hS rfl rfl rfl hb (xN rfl rfl rfl) rfl fun a w hS => ?_
  exact qL (hK _ _ (hS.up 2 rfl rfl))
 refine sM hS rfl fun hS => xm 2 false 9 (b := ((VO == (1 : Int)) || (VO == (2 : Int)))) (r := (VO == (4 : Int))) hS rfl rfl rfl rfl rfl rfl rfl (fun hb a w hS K hK => ?_) rfl fun a w hS => ?_
 ·refine qI hS rfl rfl rfl hb (mv rfl) rfl fun a w hS => ?_
  refine qI hS rfl rfl rfl hb (xN rfl rfl rfl) rfl fun a w hS => ?_
  exact qL (hK _ _ (hS.up 2 rfl rfl))
 refine sM hS rfl fun hS => xm 2 false 13 (b := (((VO == (1 : Int)) || (VO == (2 : Int))) || (VO == (4 : Int)))) (r := (VO == (8 : Int))) hS rfl rfl rfl rfl rfl rfl rfl (fun hb a w hS K hK => ?_) rfl fun a w hS => ?_
 ·refine qI hS rfl rfl rfl hb (mv rfl) rfl fun a w hS => ?_
  refine qI hS rfl rfl rfl hb (xN rfl rfl rfl) rfl fun a w hS => ?_
  exact qL (hK _ _ (hS.up 2 rfl rfl))
 refine qY (v := Value.bool) (x0 := ((((VO == (1 : Int)) || (VO == (2 : Int))) || (VO == (4 : Int))) || (VO == (8 : Int)))) hS (zE rfl) rfl fun VQ a w hz hS => ?_
 have hM := qp hz hM; clear hz
 refine qm <| wp_ret ?_
 exact qP (rs := [2]) hS rfl rfl (hret VQ _ (qG hM) (hS.st.pick [] (by kernel_rfl)))
theorem uf {H : z7} {F : List qj} {w : World} {R : Ending → World → Prop} {kr : (Int × Int) → Prop} {kp : Value → Prop} (hG : Gl H) (K : Nat) (VR : List UInt8) (VP : Int) (VO : Int) (VQ : Bool)
    (hS : St w H [] F) (hm : (zm.m K VR VP VO VQ).wp kr kp)
    (hret : ∀ (VX : Int) (VY : Int) (w : World), kr (VX, VY) → St w H [] F → R (.returned (.tuple ⟨[.int .u64 VX, .int .i64 VY]⟩)) w) :
    Calls Tryz.prog 54 ⟨[qN VR, .int .i64 VP, .int .i64 VO, .bool VQ]⟩ w R := by
 refine enter Tryz.func54 rfl Tryz.ntmps54 rfl hS fun a w hS => ?_
 have hM := hm; clear hm
 rw [zm.m] at hM
 refine qe <| sA hS rfl fun hS => sA hS rfl fun hS => qm <| wp_seq <| qe <| sM hS rfl fun hS => qq hS rfl Tryz.call57 (vY hG K VO (hS.st.part 0 [] (by kernel_rfl)) (qh hM) (fun Ua w hM  hst => qn hS.ev hst.appF rfl fun hS => ?_))
 replace hS : Ss _ _ _ H [] F _ _ := hS
 refine sO hS (un rfl rfl) rfl fun hS => sM hS rfl fun hS => xm 2 false 16 (b := (!Ua)) (r := (decide (VP < (0 : Int)))) hS rfl rfl rfl rfl rfl rfl rfl (fun hb a w hS K hK => ?_) rfl fun a w hS => ?_
 ·refine qI hS rfl rfl rfl hb (mv rfl) rfl fun a w hS => ?_
  refine qI hS rfl rfl rfl hb (xN rfl rfl rfl) rfl fun a w hS => ?_
  exact qL (hK _ _ (hS.up 2 rfl rfl))
 refine qm <| qo hS rfl hM (fun V2 hM => ?_) (fun V2 hM => ?_)
 ·refine wp_seq ?_
  refine zb <| sA hS rfl fun hS => sA hS rfl fun hS => qm <| wp_ret <| qu ?_
  exact qP (rs := [8, 9]) hS rfl rfl (hret (0 : Int) (1 : Int) _ (qG hM) (hS.st.pick [] (by kernel_rfl)))
 ·refine wp_skip ?_
  refine qc <| wp_seq <| qe <| sM hS rfl fun hS => sM hS rfl fun hS => sO hS (ye rfl Tryz.runUnderlying9) rfl fun hS => sB hS rfl fun hS => sM hS rfl fun hS => xm 6 false 24 (b := (decide (VP > (VR.length : Int)))) (r := (decide (VO > (qi ((VR.length : Int) - VP))))) hS rfl rfl rfl rfl rfl rfl rfl (fun hb a w hS K hK => ?_) rfl fun a w hS => ?_
  ·refine qI hS rfl rfl rfl hb (mv rfl) rfl fun a w hS => ?_
   refine qI hS rfl rfl rfl hb (mv rfl) rfl fun a w hS => qI hS rfl rfl rfl hb (ye rfl Tryz.runUnderlying9) rfl fun a w hS => qI hS rfl rfl rfl hb (mv rfl) rfl fun a w hS => qI hS rfl rfl rfl hb (xN rfl rfl rfl) rfl fun a w hS => qI hS rfl rfl rfl hb (xN rfl rfl rfl) rfl fun a w hS => ?_
   exact qL (hK _ _ (hS.up 6 rfl rfl))
  refine qm <| qo hS rfl hM (fun V3 hM => ?_) (fun V3 hM => ?_)
  ·refine wp_seq ?_
   refine zb <| sA hS rfl fun hS => sA hS rfl fun hS => qm <| wp_ret <| qu ?_
   exact qP (rs := [8, 9]) hS rfl rfl (hret (0 : Int) (2 : Int) _ (qG hM) (hS.st.pick [] (by kernel_rfl)))
  ·refine wp_skip ?_
   refine qc <| qe <| sA hS rfl fun hS => qm <| wp_seq <| qe <| sA hS rfl fun hS => qm <| z3 <| q6 (fun VW a w => ∃ (VS : Int) (VT : Int), Ss 57 [] [(0, qN VR), (1, .int .i64 VP), (2, .int .i64 VO), (3, .bool VQ), (10, .int .u64 VS), (11, .int .i64 VT)] H [] F a w ∧ (zm.l1 K VR VP VO VQ VW VS VT).wp kr kp) K ?_ ?_ ?_
   ·exact ⟨(0 : Int), (0 : Int), hS.to [] (by kernel_rfl) ⟨rfl, rfl, rfl, rfl, rfl, rfl, trivial⟩, hM⟩
   ·intro a w hI; obtain ⟨_, _, _, hM⟩ := hI; exact qX hM
   ·intro VW a w hI Uc V1
    obtain ⟨VS, VT, hS, hM⟩ := hI
    rw [zm.l1] at hM
    refine wp_seq <| qe <| sM hS rfl fun hS => sM hS rfl fun hS => sB hS rfl fun hS => qm <| qo hS rfl hM (fun V4 hM => ?_) (fun V4 hM => ?_)
    ·refine wp_skip ?_
     refine qc <| wp_seq <| z3 <| qe <| sM hS rfl fun hS => sM hS rfl fun hS => sM hS rfl fun hS => sB hS rfl fun hS => sB hS rfl fun hS => sM hS rfl fun hS => sB hS rfl fun hS => ?_
     obtain ⟨V6, hM⟩ := qt hM
     refine sO hS (u1 rfl rfl Tryz.runUnderlying9 V6) rfl fun hS => qY (v := Value.int .u8) (x0 := ((rd VR (qi ((qi ((qi (VP + VO)) - (1 : Int))) - VT))).toNat : Int)) hS (zE rfl) rfl fun VZ a w hz hS => ?_
     have hM := qp hz hM; clear hz
     refine qm <| qV (fun a w => ∃ (VU : Int), Ss 57 [] [(0, qN VR), (1, .int .i64 VP), (2, .int .i64 VO), (3, .bool VQ), (10, .int .u64 VS), (11, .int .i64 VT), (12, .int .u8 VU)] H [] F a w ∧ (zm.j2 K (zm.l1 K VR VP VO VQ VW) VS VT VU).wp kr kp) (fun Ub VV => ?_) ?_
     ·refine wp_seq ?_
      refine zb <| sM hS rfl fun hS => qm <| qo hS rfl hM (fun V5 hM => ?_) (fun V5 hM => ?_)
      ·refine zb ?_
       refine sM hS rfl fun hS => sM hS rfl fun hS => sM hS rfl fun hS => sB hS rfl fun hS => ?_
       obtain ⟨V7, hM⟩ := qt hM
       refine sO hS (u1 rfl rfl Tryz.runUnderlying9 V7) rfl fun hS => qY (v := Value.int .u8) (x0 := ((rd VR (qi (VP + VT))).toNat : Int)) hS (zE rfl) rfl fun V0 a w hz hS => ?_
       have hM := qp hz hM; clear hz
       refine qL <| qc ?_
       exact VV _ _ ⟨V0, hS.to [] (by kernel_rfl) ⟨rfl, rfl, rfl, rfl, rfl, rfl, rfl, trivial⟩, hM⟩
      ·refine wp_skip ?_
       refine qc ?_
       exact VV _ _ ⟨VZ, hS.to [] (by kernel_rfl) ⟨rfl, rfl, rfl, rfl, rfl, rfl, rfl, trivial⟩, hM⟩
     ·intro a w hI
      obtain ⟨VU, hS, hM⟩ := hI
      rw [zm.j2] at hM
      refine zb <| sM hS rfl fun hS => sB hS rfl fun hS => sM hS rfl fun hS => sO hS (yT rfl Tryz.runUnderlying5 Tryz.runUnderlying50) rfl fun hS => sB hS rfl fun hS => qY (v := Value.int .u64) (x0 := (wr .u64 ((wr .u64 (VS * (256 : Int))) + (wr .u64 VU)))) hS (zE rfl) rfl fun V8 a w hz hS => ?_
      have hM := qp hz hM; clear hz
      refine qL <| qW (qc ?_)
      refine zb <| sM hS rfl fun hS => sB hS rfl fun hS => qY (v := Value.int .i64) (x0 := (qi (VT + (1 : Int)))) hS (zE rfl) rfl fun V9 a w hz hS => ?_
      have hM := qp hz hM; clear hz
      refine qL <| qc ?_
      exact V1 _ _ ⟨V8, V9, hS.to [] (by kernel_rfl) ⟨rfl, rfl, rfl, rfl, rfl, rfl, trivial⟩, hM⟩
    ·refine wp_exit ?_
     refine qv (qv (qO (qc ?_)))
     refine qe <| sM hS rfl fun hS => sA hS rfl fun hS => sA hS rfl fun hS => qm <| wp_ret ?_
     exact qP (rs := [8, 9]) hS rfl rfl (hret VS (0 : Int) _ (qG hM) (hS.st.pick [] (by kernel_rfl)))
theorem jd {H : z7} {F : List qj} {w : World} {R : Ending → World → Prop} {kr : Int → Prop} {kp : Value → Prop} (hG : Gl H) (K : Nat) (VP : List UInt8) (VO : Int)
    (hS : St w H [] F) (hm : (xG.m K VP VO).wp kr kp)
    (hret : ∀ (VQ : Int) (w : World), kr VQ → St w H [] F → R (.returned (.int .i64 VQ)) w) :
    Calls Tryz.prog 29 ⟨[qN VP, .int .i64 VO]⟩ w R := by
 refine enter Tryz.func29 rfl Tryz.ntmps29 rfl hS fun a w hS => ?_
 have hM := hm; clear hm
 rw [xG.m] at hM
 refine qe <| sA hS rfl fun hS => qm <| qe <| sM hS rfl fun hS => sM hS rfl fun hS => qq hS rfl Tryz.call54 (uf hG K VP VO (4 : Int) true (hS.st.part 0 [] (by kernel_rfl)) (qh hM) (fun VS VT w hM  hst => qn hS.ev hst.appF rfl fun hS => ?_))
 replace hS : Ss _ _ _ H [] F _ _ := hS
 refine sM hS rfl fun hS => sO hS (ex rfl rfl) rfl fun hS => sO hS (ex rfl rfl) rfl fun hS => sA hS rfl fun hS => sA hS rfl fun hS => qm <| qe <| sM hS rfl fun hS => sO hS (yT rfl Tryz.runUnderlying50 Tryz.runUnderlying3) rfl fun hS => qY (v := Value.int .i64) (x0 := (wr .i64 VS)) hS (zE rfl) rfl fun VR a w hz hS => ?_
 have hM := qp hz hM; clear hz
 refine qm <| wp_ret ?_
 exact qP (rs := [4]) hS rfl rfl (hret VR _ (qG hM) (hS.st.pick [] (by kernel_rfl)))
theorem uh {H : z7} {F : List qj} {w : World} {R : Ending → World → Prop} {kr : Bool → Prop} {kp : Value → Prop} (hG : Gl H) (K : Nat) (VO : List UInt8)
    (hS : St w H [] F) (hm : (qT.m K VO).wp kr kp)
    (hret : ∀ (VZ : Bool) (w : World), kr VZ → St w H [] F → R (.returned (.bool VZ)) w) :
    Calls Tryz.prog 30 ⟨[qN VO]⟩ w R := by
 refine enter Tryz.func30 rfl Tryz.ntmps30 rfl hS fun a w hS => ?_
 have hM := hm; clear hm
 rw [qT.m] at hM
 refine qe <| sA hS rfl fun hS => qm <| wp_seq <| qe <| sA hS rfl fun hS => qm <| z3 <| q6 (fun VT a w => ∃ (VP : Int), Ss 37 [] [(0, qN VO), (3, .int .i64 VP)] H [] F a w ∧ (qT.l1 K VO VT VP).wp kr kp) K ?_ ?_ ?_
 ·exact ⟨(0 : Int), hS.to [] (by kernel_rfl) ⟨rfl, rfl, trivial⟩, hM⟩
 ·intro a w hI; obtain ⟨_, _, hM⟩ := hI; exact qX hM
 ·intro VT a w hI V7 V0
  obtain ⟨VP, hS, hM⟩ := hI
  rw [qT.l1] at hM
  refine wp_seq <| qe <| sM hS rfl fun hS => sM hS rfl fun hS => sO hS (ye rfl Tryz.runUnderlying9) rfl fun hS => sB hS rfl fun hS => qm <| qo hS rfl hM (fun V1 hM => ?_) (fun V1 hM => ?_)
  ·refine wp_skip ?_
   refine qc <| wp_seq <| z3 <| qe <| sM hS rfl fun hS => sM hS rfl fun hS => ?_
   obtain ⟨VS, hM⟩ := qt hM
   refine sO hS (u1 rfl rfl Tryz.runUnderlying9 VS) rfl fun hS => sB hS rfl fun hS => sM hS rfl fun hS => xm 4 true 14 (b := (decide (((rd VO VP).toNat : Int) ≥ (65 : Int)))) (r := (decide (((rd VO VP).toNat : Int) ≤ (90 : Int)))) hS rfl rfl rfl rfl rfl rfl rfl (fun hb a w hS K hK => ?_) rfl fun a w hS => ?_
   ·refine qI hS rfl rfl rfl hb (mv rfl) rfl fun a w hS => ?_
    refine qI hS rfl rfl rfl hb (mv rfl) rfl fun a w hS => qI hS rfl rfl rfl hb (u1 rfl rfl Tryz.runUnderlying9 VS) rfl fun a w hS => qI hS rfl rfl rfl hb (xN rfl rfl rfl) rfl fun a w hS => ?_
    exact qL (hK _ _ (hS.up 4 rfl rfl))
   refine sO hS (un rfl rfl) rfl fun hS => sM hS rfl fun hS => yA (fun a w => ∃ (VY : Bool), Ss 37 [] [(0, qN VO), (3, .int .i64 VP), (33, .bool VY)] H [] F a w ∧ (qT.j3 K (qT.l1 K VO VT) VP VY).wp kr kp) 12 (fun V6 VX => ?_) ?_
   ·refine Xi (b := (!((decide (((rd VO VP).toNat : Int) ≥ (65 : Int))) && (decide (((rd VO VP).toNat : Int) ≤ (90 : Int)))))) hM (fun VQ hM => ?_) (fun VQ hM => ?_)
    ·replace hS := hS.re 20 (v := .bool true) rfl (congrArg Value.bool VQ)
     replace hS := hS.re 21 (v := .bool true) rfl (congrArg Value.bool VQ)
     refine qI hS rfl rfl rfl rfl (mv rfl) rfl fun a w hS => qI hS rfl rfl rfl rfl (mv rfl) rfl fun a w hS => qI hS rfl rfl rfl rfl (u1 rfl rfl Tryz.runUnderlying9 VS) rfl fun a w hS => qI hS rfl rfl rfl rfl (xN rfl rfl rfl) rfl fun a w hS => qI hS rfl rfl rfl rfl (mv rfl) rfl fun a w hS => yA (fun a w => ∃ (VU : Bool) (VV : Bool), Ss 37 [] [(0, qN VO), (3, .int .i64 VP), (21, .bool true), (22, qN VO), (23, .int .i64 VP), (24, .int .u8 ((rd VO VP).toNat : Int)), (25, .bool VU), (26, .bool VU), (31, .bool VV)] H [] F a w ∧ (qT.j2 K (qT.l1 K VO VT) VP VU VV).wp kr kp) 5 (fun V5 VW => ?_) ?_
     ·refine Xi (b := (decide (((rd VO VP).toNat : Int) ≥ (97 : Int)))) hM (fun VR hM => ?_) (fun VR hM => ?_)
      ·replace hS := hS.re 25 (v := .bool true) rfl (congrArg Value.bool VR)
       replace hS := hS.re 26 (v := .bool true) rfl (congrArg Value.bool VR)
       refine qI hS rfl rfl rfl rfl (mv rfl) rfl fun a w hS => qI hS rfl rfl rfl rfl (mv rfl) rfl fun a w hS => qI hS rfl rfl rfl rfl (u1 rfl rfl Tryz.runUnderlying9 VS) rfl fun a w hS => qI hS rfl rfl rfl rfl (xN rfl rfl rfl) rfl fun a w hS => qI hS rfl rfl rfl rfl (pk rfl rfl rfl) rfl fun a w hS => qL <| qc ?_
       exact VW _ _ ⟨true, (decide (((rd VO VP).toNat : Int) ≤ (122 : Int))), hS.to [] (by kernel_rfl) ⟨rfl, rfl, rfl, rfl, rfl, rfl, rfl, rfl, rfl, trivial⟩, hM⟩
      ·replace hS := hS.re 25 (v := .bool false) rfl (congrArg Value.bool VR)
       replace hS := hS.re 26 (v := .bool false) rfl (congrArg Value.bool VR)
       refine vL 4 hS rfl fun a w hS => qI hS rfl rfl rfl rfl (pk rfl rfl rfl) rfl fun a w hS => qL <| qc ?_
       exact VW _ _ ⟨false, false, hS.to [] (by kernel_rfl) ⟨rfl, rfl, rfl, rfl, rfl, rfl, rfl, rfl, rfl, trivial⟩, hM⟩
     ·intro a w hI
      obtain ⟨VU, VV, hS, hM⟩ := hI
      rw [qT.j2] at hM
      refine qI hS rfl rfl rfl rfl (un rfl rfl) rfl fun a w hS => sO hS (pk rfl rfl rfl) rfl fun hS => qL <| qc ?_
      exact VX _ _ ⟨(!VV), hS.to [] (by kernel_rfl) ⟨rfl, rfl, rfl, trivial⟩, hM⟩
    ·replace hS := hS.re 20 (v := .bool false) rfl (congrArg Value.bool VQ)
     replace hS := hS.re 21 (v := .bool false) rfl (congrArg Value.bool VQ)
     refine vL 11 hS rfl fun a w hS => sO hS (pk rfl rfl rfl) rfl fun hS => qL <| qc ?_
     exact VX _ _ ⟨false, hS.to [] (by kernel_rfl) ⟨rfl, rfl, rfl, trivial⟩, hM⟩
   ·intro a w hI
    obtain ⟨VY, hS, hM⟩ := hI
    rw [qT.j3] at hM
    refine qm <| qo hS rfl hM (fun V2 hM => ?_) (fun V2 hM => ?_)
    ·refine wp_seq ?_
     refine zb <| sA hS rfl fun hS => qm <| wp_ret <| zc (qu (qu (zc (qu ?_))))
     exact qP (rs := [2]) hS rfl rfl (hret false _ (qG hM) (hS.st.pick [] (by kernel_rfl)))
    ·refine wp_skip ?_
     refine qW (qc ?_)
     refine zb <| sM hS rfl fun hS => sB hS rfl fun hS => qY (v := Value.int .i64) (x0 := (qi (VP + (1 : Int)))) hS (zE rfl) rfl fun V3 a w hz hS => ?_
     have hM := qp hz hM; clear hz
     refine qL <| qc ?_
     exact V0 _ _ ⟨V3, hS.to [] (by kernel_rfl) ⟨rfl, rfl, trivial⟩, hM⟩
  ·refine wp_exit ?_
   refine qv (qv (qO (qc ?_)))
   refine qe <| sM hS rfl fun hS => sO hS (ye rfl Tryz.runUnderlying9) rfl fun hS => sB hS rfl fun hS => qY (v := Value.bool) (x0 := ((VO.length : Int) == (4 : Int))) hS (zE rfl) rfl fun V4 a w hz hS => ?_
   have hM := qp hz hM; clear hz
   refine qm <| wp_ret ?_
   exact qP (rs := [2]) hS rfl rfl (hret V4 _ (qG hM) (hS.st.pick [] (by kernel_rfl)))
theorem ug {H : z7} {F : List qj} {w : World} {R : Ending → World → Prop} {kr : Int → Prop} {kp : Value → Prop} (hG : Gl H) (K : Nat) (VU : Int) (VR : List UInt8)
    (hS : St w H [] F) (hm : (zh.m K VU VR).wp kr kp)
    (hret : ∀ (V0 : Int) (w : World), kr V0 → St w H [] F → R (.returned (.int .u32 V0)) w) :
    Calls Tryz.prog 55 ⟨[.int .u32 VU, qN VR]⟩ w R := by
 refine enter Tryz.func55 rfl Tryz.ntmps55 rfl hS fun a w hS => ?_
 have hM := hm; clear hm
 rw [zh.m] at hM
 refine qe <| sA hS rfl fun hS => qm <| qe <| sM hS rfl fun hS => sB hS rfl fun hS => qY (v := Value.int .u32) (x0 := (jG .u32 VU (4294967295 : Int))) hS (zE rfl) rfl fun Ub a w hz hS => ?_
 have hM := qp hz hM; clear hz
 refine qm <| wp_seq <| qe <| sA hS rfl fun hS => qm <| z3 <| q6 (fun VX a w => ∃ (VT : Int) (VP : Int), Ss 40 [] [(1, qN VR), (5, .int .u32 VT), (6, .int .i64 VP)] H [] F a w ∧ (zh.l1 K VR VX VT VP).wp kr kp) K ?_ ?_ ?_
 ·exact ⟨Ub, (0 : Int), hS.to [] (by kernel_rfl) ⟨rfl, rfl, rfl, trivial⟩, hM⟩
 ·intro a w hI; obtain ⟨_, _, _, hM⟩ := hI; exact qX hM
 ·intro VX a w hI Uf V2
  obtain ⟨VT, VP, hS, hM⟩ := hI
  rw [zh.l1] at hM
  refine wp_seq <| qe <| sM hS rfl fun hS => sM hS rfl fun hS => sO hS (ye rfl Tryz.runUnderlying9) rfl fun hS => sB hS rfl fun hS => qm <| qo hS rfl hM (fun V3 hM => ?_) (fun V3 hM => ?_)
  ·refine wp_skip ?_
   refine qc <| wp_seq <| z3 <| qe <| sM hS rfl fun hS => sM hS rfl fun hS => ?_
   obtain ⟨V6, hM⟩ := qt hM
   refine sO hS (u1 rfl rfl Tryz.runUnderlying9 V6) rfl fun hS => sO hS (yT rfl Tryz.runUnderlying5 Tryz.runUnderlying56) rfl fun hS => qY (v := Value.int .u32) (x0 := (wr .u32 ((rd VR VP).toNat : Int))) hS (zE rfl) rfl fun V1 a w hz hS => ?_
   have hM := qp hz hM; clear hz
   refine qm <| qe <| sA hS rfl fun hS => qm <| z3 <| q6 (fun VY a w => ∃ (VS : Int) (VO : Int) (VQ : Int), Ss 40 [] [(1, qN VR), (5, .int .u32 VS), (6, .int .i64 VP), (7, .int .u32 VO), (8, .int .i64 VQ)] H [] F a w ∧ (zh.l2 K (zh.l1 K VR VX) VP VY VS VO VQ).wp kr kp) K ?_ ?_ ?_
   ·exact ⟨VT, V1, (0 : Int), hS.to [] (by kernel_rfl) ⟨rfl, rfl, rfl, rfl, rfl, trivial⟩, hM⟩
   ·intro a w hI; obtain ⟨_, _, _, _, hM⟩ := hI; exact qX hM
   ·intro VY a w hI Ue VW
    obtain ⟨VS, VO, VQ, hS, hM⟩ := hI
    rw [zh.l2] at hM
    refine wp_seq <| qe <| sM hS rfl fun hS => sB hS rfl fun hS => qm <| qo hS rfl hM (fun V4 hM => ?_) (fun V4 hM => ?_)
    ·refine wp_skip ?_
     refine qc <| wp_seq <| z3 <| qe <| sM hS rfl fun hS => sO hS (rem rfl rfl rfl) rfl fun hS => sM hS rfl fun hS => sO hS (rem rfl rfl rfl) rfl fun hS => sB hS rfl fun hS => qY (v := Value.bool) (x0 := ((vd VS (2 : Int)) != (vd VO (2 : Int)))) hS (zE rfl) rfl fun V9 a w hz hS => ?_
     have hM := qp hz hM; clear hz
     refine qm <| qe <| sM hS rfl fun hS => sO hS (quo rfl rfl rfl) rfl fun hS => qY (v := Value.int .u32) (x0 := (x5 .u32 VS (2 : Int))) hS (zE rfl) rfl fun VZ a w hz hS => ?_
     have hM := qp hz hM; clear hz
     refine qm <| qe <| sM hS rfl fun hS => sO hS (quo rfl rfl rfl) rfl fun hS => qY (v := Value.int .u32) (x0 := (x5 .u32 VO (2 : Int))) hS (zE rfl) rfl fun VV a w hz hS => ?_
     have hM := qp hz hM; clear hz
     refine qm <| qe <| sM hS rfl fun hS => qm <| qo hS rfl hM (fun V5 hM => ?_) (fun V5 hM => ?_)
     ·refine zb ?_
      refine sM hS rfl fun hS => sB hS rfl fun hS => qY (v := Value.int .u32) (x0 := (jG .u32 VZ (3988292384 : Int))) hS (zE rfl) rfl fun Uc a w hz hS => ?_
      have hM := qp hz hM; clear hz
      refine qL <| qW (qc ?_)
      refine zb <| sM hS rfl fun hS => sB hS rfl fun hS => qY (v := Value.int .i64) (x0 := (qi (VQ + (1 : Int)))) hS (zE rfl) rfl fun V7 a w hz hS => ?_
      have hM := qp hz hM; clear hz
      refine qL <| qc ?_
      exact VW _ _ ⟨Uc, VV, V7, hS.to [] (by kernel_rfl) ⟨rfl, rfl, rfl, rfl, rfl, trivial⟩, hM⟩
     ·refine wp_skip ?_
      refine qW (qc ?_)
      refine zb <| sM hS rfl fun hS => sB hS rfl fun hS => qY (v := Value.int .i64) (x0 := (qi (VQ + (1 : Int)))) hS (zE rfl) rfl fun V8 a w hz hS => ?_
      have hM := qp hz hM; clear hz
      refine qL <| qc ?_
      exact VW _ _ ⟨VZ, VV, V8, hS.to [] (by kernel_rfl) ⟨rfl, rfl, rfl, rfl, rfl, trivial⟩, hM⟩
    ·refine wp_exit ?_
     refine qv (qv (qO (qW (qc ?_))))
     refine zb <| sM hS rfl fun hS => sB hS rfl fun hS => qY (v := Value.int .i64) (x0 := (qi (VP + (1 : Int)))) hS (zE rfl) rfl fun Ua a w hz hS => ?_
     have hM := qp hz hM; clear hz
     refine qL <| qc ?_
     exact V2 _ _ ⟨VS, Ua, hS.to [] (by kernel_rfl) ⟨rfl, rfl, rfl, trivial⟩, hM⟩
  ·refine wp_exit ?_
   refine qv (qv (qO (qc ?_)))
   refine qe <| sM hS rfl fun hS => sB hS rfl fun hS => qY (v := Value.int .u32) (x0 := (jG .u32 VT (4294967295 : Int))) hS (zE rfl) rfl fun Ud a w hz hS => ?_
   have hM := qp hz hM; clear hz
   refine qm <| wp_ret ?_
   exact qP (rs := [4]) hS rfl rfl (hret Ud _ (qG hM) (hS.st.pick [] (by kernel_rfl)))
theorem ut {H : z7} {F : List qj} {w : World} {R : Ending → World → Prop} {kr : Int → Prop} {kp : Value → Prop} (hG : Gl H) (K : Nat) (VO : List UInt8)
    (hS : St w H [] F) (hm : (yn.m K VO).wp kr kp)
    (hret : ∀ (VP : Int) (w : World), kr VP → St w H [] F → R (.returned (.int .u32 VP)) w) :
    Calls Tryz.prog 31 ⟨[qN VO]⟩ w R := by
 refine enter Tryz.func31 rfl Tryz.ntmps31 rfl hS fun a w hS => ?_
 have hM := hm; clear hm
 rw [yn.m] at hM
 refine qe <| sA hS rfl fun hS => qm <| qe <| sM hS rfl fun hS => qq hS rfl Tryz.call55 (ug hG K (0 : Int) VO (hS.st.part 0 [] (by kernel_rfl)) (qh hM) (fun VQ w hM  hst => qn hS.ev hst.appF rfl fun hS => ?_))
 replace hS : Ss _ _ _ H [] F _ _ := hS
 refine sA hS rfl fun hS => qm <| wp_ret ?_
 exact qP (rs := [2]) hS rfl rfl (hret VQ _ (qG hM) (hS.st.pick [] (by kernel_rfl)))
theorem vZ {H : z7} {F : List qj} {w : World} {R : Ending → World → Prop} {kr : ((List qd) × Int) → Prop} {kp : Value → Prop} (hG : Gl H) (K : Nat) (VP : List UInt8)
    (hS : St w H [] F) (hm : (qU.m K VP).wp kr kp)
    (hret : ∀ (Ub : Option Addr) (Ud : Nat) (V8 : (List qd)) (Uf : qj) (Ug : Int) (w : World), kr (V8, Ug) → (zM 30 qd.cells 2 Ub V8 Ud Uf) → St w H [Uf] F → R (.returned (.tuple ⟨[.slice Ub V8.length Ud, .int .i64 Ug]⟩)) w) :
    Calls Tryz.prog 11 ⟨[qN VP]⟩ w R := by
 refine enter Tryz.func11 rfl Tryz.ntmps11 rfl hS fun a w hS => ?_
 have hM := hm; clear hm
 rw [qU.m] at hM
 refine qe <| sA hS rfl fun hS => ?_
 obtain ⟨UW, UQ, hS⟩ := hS.nilV 30 qd.cells 2
 refine sA hS rfl fun hS => qm <| wp_seq <| qe <| sM hS rfl fun hS => sO hS (ye rfl Tryz.runUnderlying9) rfl fun hS => sB hS rfl fun hS => qm <| qo hS rfl hM (fun Uu hM => ?_) (fun Uu hM => ?_)
 ·refine wp_seq ?_
  refine zb <| sA hS rfl fun hS => ?_
  obtain ⟨UH, Uj, hS⟩ := hS.nilV 30 qd.cells 2
  refine sA hS rfl fun hS => qm <| wp_ret <| qu ?_
  exact qP (rs := [2, 3]) hS rfl rfl (hret none (0) ([] : List qd) UH (2 : Int) _ (qG hM) Uj (hS.st.pick [0] (by kernel_rfl)))
 ·refine wp_skip ?_
  refine qc <| wp_seq <| qe <| sM hS rfl fun hS => ?_
  obtain ⟨UC, hM⟩ := qt hM
  refine sO hS (Xj rfl Tryz.runUnderlying9 YF (Xn rfl) UC) rfl fun hS => sO hS (ua rfl rfl rfl) rfl fun hS => qm <| qo hS rfl hM (fun Uv hM => ?_) (fun Uv hM => ?_)
  ·refine wp_seq ?_
   refine zb <| sA hS rfl fun hS => ?_
   obtain ⟨UI, Uk, hS⟩ := hS.nilV 30 qd.cells 2
   refine sA hS rfl fun hS => qm <| wp_ret <| qu ?_
   exact qP (rs := [2, 3]) hS rfl rfl (hret none (0) ([] : List qd) UI (3 : Int) _ (qG hM) Uk (hS.st.pick [0] (by kernel_rfl)))
  ·refine wp_skip ?_
   refine qc <| qe <| sA hS rfl fun hS => ?_
   obtain ⟨UJ, Ul, hS⟩ := hS.nilV 30 qd.cells 2
   refine qm <| qe <| sA hS rfl fun hS => qm <| qV (fun a w => ∃ (VZ : Option Addr) (V2 : Nat) (VS : (List qd)) (V3 : qj) (VX : Int), Ss 90 [] [(0, qN VP), (4, .slice VZ VS.length V2), (5, .int .i64 VX)] H [V3] F a w ∧ (zM 30 qd.cells 2 VZ VS V2 V3) ∧ (qU.j3 K VP VS VX).wp kr kp) (fun UU Ui => ?_) ?_
   ·refine z3 ?_
    refine q6 (fun V6 a w => ∃ (VY : Option Addr) (V1 : Nat) (VR : (List qd)) (VT : qj) (VO : Int), Ss 90 [] [(0, qN VP), (4, .slice VY VR.length V1), (5, .int .i64 VO)] H [VT] F a w ∧ (zM 30 qd.cells 2 VY VR V1 VT) ∧ (qU.l1 K VP V6 VR VO).wp kr kp) K ?_ ?_ ?_
    ·exact ⟨none, 0, ([] : List qd), UJ, (8 : Int), hS.to [0] (by kernel_rfl) ⟨rfl, rfl, rfl, trivial⟩, Ul, hM⟩
    ·intro a w hI; obtain ⟨_, _, _, _, _, _, _, hM⟩ := hI; exact qX hM
    ·intro V6 a w hI UT Uh
     obtain ⟨VY, V1, VR, VT, VO, hS, Um, hM⟩ := hI
     rw [qU.l1] at hM
     refine z3 <| wp_seq <| qe <| sM hS rfl fun hS => sO hS (ye rfl Tryz.runUnderlying9) rfl fun hS => sM hS rfl fun hS => sB hS rfl fun hS => sB hS rfl fun hS => qm <| qo hS rfl hM (fun Uw hM => ?_) (fun Uw hM => ?_)
     ·refine wp_seq ?_
      refine zb <| sA hS rfl fun hS => ?_
      obtain ⟨UK, Un, hS⟩ := hS.nilV 30 qd.cells 2
      refine sA hS rfl fun hS => qm <| wp_ret <| qu (zc (qu (zc (qu ?_))))
      exact qP (rs := [2, 3]) hS rfl rfl (hret none (0) ([] : List qd) UK (2 : Int) _ (qG hM) Un (hS.st.pick [0] (by kernel_rfl)))
     ·refine wp_skip ?_
      refine qc <| qe <| sM hS rfl fun hS => sM hS rfl fun hS => qq hS rfl Tryz.call29 (jd hG K VP VO (hS.st.part 0 [0] (by kernel_rfl)) (qh hM) (fun VV w hM  hst => qn hS.ev hst.appF rfl fun hS => ?_))
      replace hS : Ss _ _ _ H [VT] F _ _ := hS
      refine sA hS rfl fun hS => qm <| qe <| sM hS rfl fun hS => sM hS rfl fun hS => sB hS rfl fun hS => sM hS rfl fun hS => sB hS rfl fun hS => ?_
      obtain ⟨UD, hM⟩ := qt hM
      refine sO hS (Xj rfl Tryz.runUnderlying9 (XI rfl) (Xn rfl) UD) rfl fun hS => qY (v := qN) (x0 := (sub VP (qi (VO + (4 : Int))) (qi (VO + (8 : Int))))) hS (zE rfl) rfl fun VU a w hz hS => ?_
      have hM := qp hz hM; clear hz
      refine qm <| wp_seq <| qe <| sM hS rfl fun hS => sB hS rfl fun hS => sM hS rfl fun hS => yA (fun a w => ∃ (V7 : Bool), Ss 90 [] [(0, qN VP), (4, .slice VY VR.length V1), (5, .int .i64 VO), (6, .int .i64 VV), (7, qN VU), (35, .bool V7)] H [VT] F a w ∧ (qU.j2 K (qU.l1 K VP V6) VP VR VO VV VU V7).wp kr kp) 4 (fun US V4 => ?_) ?_
      ·refine Xi (b := (decide (VV > (2147483647 : Int)))) hM (fun VW hM => ?_) (fun VW hM => ?_)
       ·replace hS := hS.re 30 (v := .bool true) rfl (congrArg Value.bool VW)
        replace hS := hS.re 31 (v := .bool true) rfl (congrArg Value.bool VW)
        refine vL 3 hS rfl fun a w hS => sO hS (pk rfl rfl rfl) rfl fun hS => qL <| qc ?_
        exact V4 _ _ ⟨true, hS.to [0] (by kernel_rfl) ⟨rfl, rfl, rfl, rfl, rfl, rfl, trivial⟩, hM⟩
       ·replace hS := hS.re 30 (v := .bool false) rfl (congrArg Value.bool VW)
        replace hS := hS.re 31 (v := .bool false) rfl (congrArg Value.bool VW)
        refine qI hS rfl rfl rfl rfl (mv rfl) rfl fun a w hS => vH hS rfl rfl rfl rfl <| qq hS rfl Tryz.call30 (uh hG K VU (hS.st.part 0 [0] (by kernel_rfl)) (qh hM) (fun UP w hM  hst => qn hS.ev hst.appF rfl fun hS => ?_))
        replace hS : Ss _ _ _ H [VT] F _ _ := hS
        refine qI hS rfl rfl rfl rfl (un rfl rfl) rfl fun a w hS => sO hS (pk rfl rfl rfl) rfl fun hS => qL <| qc ?_
        exact V4 _ _ ⟨(!UP), hS.to [0] (by kernel_rfl) ⟨rfl, rfl, rfl, rfl, rfl, rfl, trivial⟩, hM⟩
      ·intro a w hI
       obtain ⟨V7, hS, hM⟩ := hI
       rw [qU.j2] at hM
       refine qm <| qo hS rfl hM (fun Ux hM => ?_) (fun Ux hM => ?_)
       ·refine wp_seq ?_
        refine zb <| sA hS rfl fun hS => ?_
        obtain ⟨UL, Uo, hS⟩ := hS.nilV 30 qd.cells 2
        refine sA hS rfl fun hS => qm <| wp_ret <| qu (zc (qu (zc (qu ?_))))
        exact qP (rs := [2, 3]) hS rfl rfl (hret none (0) ([] : List qd) UL (3 : Int) _ (qG hM) Uo (hS.st.pick [0] (by kernel_rfl)))
       ·refine wp_skip ?_
        refine qc <| wp_seq <| qe <| sM hS rfl fun hS => sO hS (ye rfl Tryz.runUnderlying9) rfl fun hS => sM hS rfl fun hS => sB hS rfl fun hS => sB hS rfl fun hS => sM hS rfl fun hS => sB hS rfl fun hS => sM hS rfl fun hS => xm 8 false 43 (b := (decide ((qi ((qi ((VP.length : Int) - VO)) - (8 : Int))) < VV))) (r := (decide ((qi ((qi ((qi ((VP.length : Int) - VO)) - (8 : Int))) - VV)) < (4 : Int)))) hS rfl rfl rfl rfl rfl rfl rfl (fun hb a w hS K hK => ?_) rfl fun a w hS => ?_
        ·refine qI hS rfl rfl rfl hb (mv rfl) rfl fun a w hS => ?_
         refine qI hS rfl rfl rfl hb (ye rfl Tryz.runUnderlying9) rfl fun a w hS => qI hS rfl rfl rfl hb (mv rfl) rfl fun a w hS => qI hS rfl rfl rfl hb (xN rfl rfl rfl) rfl fun a w hS => qI hS rfl rfl rfl hb (xN rfl rfl rfl) rfl fun a w hS => qI hS rfl rfl rfl hb (mv rfl) rfl fun a w hS => qI hS rfl rfl rfl hb (xN rfl rfl rfl) rfl fun a w hS => qI hS rfl rfl rfl hb (xN rfl rfl rfl) rfl fun a w hS => ?_
         exact qL (hK _ _ (hS.up 8 rfl rfl))
        refine qm <| qo hS rfl hM (fun Uy hM => ?_) (fun Uy hM => ?_)
        ·refine wp_seq ?_
         refine zb <| sA hS rfl fun hS => ?_
         obtain ⟨UM, Up, hS⟩ := hS.nilV 30 qd.cells 2
         refine sA hS rfl fun hS => qm <| wp_ret <| qu (zc (qu (zc (qu ?_))))
         exact qP (rs := [2, 3]) hS rfl rfl (hret none (0) ([] : List qd) UM (2 : Int) _ (qG hM) Up (hS.st.pick [0] (by kernel_rfl)))
        ·refine wp_skip ?_
         refine qc <| qe <| sM hS rfl fun hS => sM hS rfl fun hS => sB hS rfl fun hS => sM hS rfl fun hS => sB hS rfl fun hS => sM hS rfl fun hS => sB hS rfl fun hS => ?_
         obtain ⟨UE, hM⟩ := qt hM
         refine sO hS (Xj rfl Tryz.runUnderlying9 (XI rfl) (Xn rfl) UE) rfl fun hS => qY (v := qN) (x0 := (sub VP (qi (VO + (8 : Int))) (qi ((qi (VO + (8 : Int))) + VV)))) hS (zE rfl) rfl fun VQ a w hz hS => ?_
         have hM := qp hz hM; clear hz
         refine qm <| wp_seq <| qe <| sM hS rfl fun hS => sM hS rfl fun hS => sB hS rfl fun hS => sM hS rfl fun hS => sB hS rfl fun hS => qq hS rfl Tryz.call29 (jd hG K VP (qi ((qi (VO + (8 : Int))) + VV)) (hS.st.part 0 [0] (by kernel_rfl)) (qh hM) (fun UY w hM  hst => qn hS.ev hst.appF rfl fun hS => ?_))
         replace hS : Ss _ _ _ H [VT] F _ _ := hS
         refine sM hS rfl fun hS => sM hS rfl fun hS => ?_
         obtain ⟨UF, hM⟩ := qt hM
         refine sO hS (XY rfl rfl UF) rfl fun hS => qq hS rfl Tryz.call31 (ut hG K (VU ++ VQ) (hS.st.part 0 [0] (by kernel_rfl)) (qh hM) (fun UZ w hM  hst => qn hS.ev hst.appF rfl fun hS => ?_))
         replace hS : Ss _ _ _ H [VT] F _ _ := hS
         refine sO hS (yT rfl Tryz.runUnderlying56 Tryz.runUnderlying3) rfl fun hS => sB hS rfl fun hS => qm <| qo hS rfl hM (fun Uz hM => ?_) (fun Uz hM => ?_)
         ·refine wp_seq ?_
          refine zb <| sA hS rfl fun hS => ?_
          obtain ⟨UN, Uq, hS⟩ := hS.nilV 30 qd.cells 2
          refine sA hS rfl fun hS => qm <| wp_ret <| qu (zc (qu (zc (qu ?_))))
          exact qP (rs := [2, 3]) hS rfl rfl (hret none (0) ([] : List qd) UN (4 : Int) _ (qG hM) Uq (hS.st.pick [0] (by kernel_rfl)))
         ·refine wp_skip ?_
          refine qc <| qe <| sM hS rfl fun hS => sM hS rfl fun hS => sM hS rfl fun hS => sO hS (vI ([qN VU, qN VQ]) [(0, 1), (1, 1)] Tryz.zeroValue30 Tryz.runUnderlying30 (by intro w; simp [Tryz.sizeOf9]) rfl rfl) rfl fun hS => Qh (g := qd.cells) ([(qd.mk VU VQ)] : List qd) [.agg ⟨[qN VU, qN VQ]⟩] hS Tryz.runUnderlying23 Tryz.sizeOf30 X.el30 rfl rfl rfl (by simp [Value.cells]) rfl rfl rfl rfl rfl fun w UR UV UX Ur hS => ?_
          obtain ⟨UG, hM⟩ := qt hM
          refine QR (ys := ([(qd.mk VU VQ)] : List qd)) 1 hS rfl rfl Um rfl (Ur.rd (i := 0) rfl) Tryz.runUnderlying23 Tryz.runUnderlying23 X.el30 (fun _ => rfl) rfl XJ UG rfl fun V9 w Ua Uc Ue hz V5 hS => ?_
          have hM := qp hz hM; clear hz
          refine sA hS rfl fun hS => qm <| qe <| sM hS rfl fun hS => sB hS rfl fun hS => sM hS rfl fun hS => sB hS rfl fun hS => qY (v := Value.int .i64) (x0 := (qi ((qi (VO + (12 : Int))) + VV))) hS (zE rfl) rfl fun V0 a w hz hS => ?_
          have hM := qp hz hM; clear hz
          refine qm <| qe <| sM hS rfl fun hS => sO hS (ua rfl rfl rfl) rfl fun hS => qm <| qo hS rfl hM (fun UA hM => ?_) (fun UA hM => ?_)
          ·refine wp_exit ?_
           refine Zk rfl (qv (qO (qc ?_)))
           exact Ui _ _ ⟨Ua, Uc, V9, Ue, V0, hS.to [1] (by kernel_rfl) ⟨rfl, rfl, rfl, trivial⟩, V5, hM⟩
          ·refine wp_skip ?_
           refine qW (qc ?_)
           exact Uh _ _ ⟨Ua, Uc, V9, Ue, V0, hS.to [1] (by kernel_rfl) ⟨rfl, rfl, rfl, trivial⟩, V5, hM⟩
   ·intro a w hI
    obtain ⟨VZ, V2, VS, V3, VX, hS, Us, hM⟩ := hI
    rw [qU.j3] at hM
    refine wp_seq <| qe <| sM hS rfl fun hS => sM hS rfl fun hS => sO hS (ye rfl Tryz.runUnderlying9) rfl fun hS => sB hS rfl fun hS => qm <| qo hS rfl hM (fun UB hM => ?_) (fun UB hM => ?_)
    ·refine wp_seq ?_
     refine zb <| sA hS rfl fun hS => ?_
     obtain ⟨UO, Ut, hS⟩ := hS.nilV 30 qd.cells 2
     refine sA hS rfl fun hS => qm <| wp_ret <| qu ?_
     exact qP (rs := [2, 3]) hS rfl rfl (hret none (0) ([] : List qd) UO (3 : Int) _ (qG hM) Ut (hS.st.pick [0] (by kernel_rfl)))
    ·refine wp_skip ?_
     refine qc <| qe <| sM hS rfl fun hS => sA hS rfl fun hS => sA hS rfl fun hS => qm <| wp_ret ?_
     exact qP (rs := [2, 3]) hS rfl rfl (hret VZ V2 VS V3 (0 : Int) _ (qG hM) Us (hS.st.pick [0] (by kernel_rfl)))
theorem ve {H : z7} {F : List qj} {w : World} {R : Ending → World → Prop} {kr : Bool → Prop} {kp : Value → Prop} (hG : Gl H) (K : Nat) (VP : List qd) (VQ : List qd) (VR : Option Addr) (VT : Nat) (VS : Option Addr) (VU : Nat) (VX : yU H [] F qd.cells VR VP) (V6 : VP.length ≤ VT) (VY : yU H [] F qd.cells VS VQ) (V7 : VQ.length ≤ VU)
    (hS : St w H [] F) (hm : (zo.m K VP VQ).wp kr kp)
    (hret : ∀ (V0 : Bool) (w : World), kr V0 → St w H [] F → R (.returned (.bool V0)) w) :
    Calls Tryz.prog 12 ⟨[.slice VR VP.length VT, .slice VS VQ.length VU]⟩ w R := by
 refine enter Tryz.func12 rfl Tryz.ntmps12 rfl hS fun a w hS => ?_
 have hM := hm; clear hm
 rw [zo.m] at hM
 refine qe <| sA hS rfl fun hS => qm <| wp_seq <| qe <| sM hS rfl fun hS => sO hS (xw rfl Tryz.runUnderlying23) rfl fun hS => sM hS rfl fun hS => sO hS (xw rfl Tryz.runUnderlying23) rfl fun hS => sB hS rfl fun hS => qm <| qo hS rfl hM (fun V2 hM => ?_) (fun V2 hM => ?_)
 ·refine wp_seq ?_
  refine zb <| sA hS rfl fun hS => qm <| wp_ret <| qu ?_
  exact qP (rs := [4]) hS rfl rfl (hret false _ (qG hM) (hS.st.pick [] (by kernel_rfl)))
 ·refine wp_skip ?_
  refine qc <| wp_seq <| qe <| sA hS rfl fun hS => qm <| z3 <| q6 (fun VZ a w => ∃ (VO : Int), Ss 26 [] [(0, .slice VR VP.length VT), (1, .slice VS VQ.length VU), (5, .int .i64 VO)] H [] F a w ∧ (zo.l1 K VP VQ VZ VO).wp kr kp) K ?_ ?_ ?_
  ·exact ⟨(0 : Int), hS.to [] (by kernel_rfl) ⟨rfl, rfl, rfl, trivial⟩, hM⟩
  ·intro a w hI; obtain ⟨_, _, hM⟩ := hI; exact qX hM
  ·intro VZ a w hI V8 V1
   obtain ⟨VO, hS, hM⟩ := hI
   rw [zo.l1] at hM
   refine wp_seq <| qe <| sM hS rfl fun hS => sM hS rfl fun hS => sO hS (xw rfl Tryz.runUnderlying23) rfl fun hS => sB hS rfl fun hS => qm <| qo hS rfl hM (fun V3 hM => ?_) (fun V3 hM => ?_)
   ·refine wp_skip ?_
    refine qc <| wp_seq <| z3 <| wp_seq ?_
    obtain ⟨VV, hM⟩ := qt hM
    obtain ⟨VW, hM⟩ := qt hM
    refine qM (vals := [some (.slice VR VP.length VT), some (.int .i64 VO), some (z9 VR (Int.toNat VO * 2)), some (.agg ⟨[qN ((rd VP VO).Type_), qN ((rd VP VO).Data_)]⟩), some (.slice VS VQ.length VU), some (.int .i64 VO), some (z9 VS (Int.toNat VO * 2)), some (.agg ⟨[qN ((rd VQ VO).Type_), qN ((rd VQ VO).Data_)]⟩), some (.bool (!(((rd VP VO).Type_ == (rd VQ VO).Type_) && (((rd VP VO).Data_ == (rd VQ VO).Data_) && true))))]) hS zV rfl ?_
    intro l w ho hcl hA hst
    refine xq hA hst ho hcl zW [0, 1, 2, 3, 4, 5, 6, 7, 8] rfl rfl rfl (by exact ⟨nM rfl, nM rfl, nQ rfl (by exact qJ (xF rfl rfl Tryz.runUnderlying23 Tryz.sizeOf30 VX.wk (fun _ => rfl) rfl VV) rfl), nQ rfl (by exact qJ (jj rfl VX.wk (fun _ => rfl) VV Tryz.isAgg30 Tryz.sizeOf30 rfl) rfl), nM rfl, nM rfl, nQ rfl (by exact qJ (xF rfl rfl Tryz.runUnderlying23 Tryz.sizeOf30 VY.wk (fun _ => rfl) rfl VW) rfl), nQ rfl (by exact qJ (jj rfl VY.wk (fun _ => rfl) VW Tryz.isAgg30 Tryz.sizeOf30 rfl) rfl), nQ rfl (by exact qJ (Y0 rfl rfl rfl (by kernel_rfl) (by kernel_rfl) (y2.cons (by decide) Tryz.isAgg9 rfl rfl (J0 Tryz.runUnderlying9) (y2.cons (by decide) Tryz.isAgg9 rfl rfl (J0 Tryz.runUnderlying9) y2.nil)) rfl) rfl), trivial⟩) fun a w hS => ?_
    replace hS := hS.env2 (e' := [(0, .slice VR VP.length VT), (1, .slice VS VQ.length VU), (5, .int .i64 VO), (25, .bool (!(((rd VP VO).Type_ == (rd VQ VO).Type_) && (((rd VP VO).Data_ == (rd VQ VO).Data_) && true))))]) ⟨rfl, rfl, rfl, rfl, trivial⟩
    refine qc <| qo hS rfl hM (fun V4 hM => ?_) (fun V4 hM => ?_)
    ·refine wp_seq ?_
     refine zb <| sA hS rfl fun hS => qm <| wp_ret <| zc (qu (qu (zc (qu ?_))))
     exact qP (rs := [4]) hS rfl rfl (hret false _ (qG hM) (hS.st.pick [] (by kernel_rfl)))
    ·refine wp_skip ?_
     refine qW (qc ?_)
     refine zb <| sM hS rfl fun hS => sB hS rfl fun hS => qY (v := Value.int .i64) (x0 := (qi (VO + (1 : Int)))) hS (zE rfl) rfl fun V5 a w hz hS => ?_
     have hM := qp hz hM; clear hz
     refine qL <| qc ?_
     exact V1 _ _ ⟨V5, hS.to [] (by kernel_rfl) ⟨rfl, rfl, rfl, trivial⟩, hM⟩
   ·refine wp_exit ?_
    refine qv (qv (qO (qc ?_)))
    refine qe <| sA hS rfl fun hS => qm <| wp_ret ?_
    exact qP (rs := [4]) hS rfl rfl (hret true _ (qG hM) (hS.st.pick [] (by kernel_rfl)))
theorem vm {H : z7} {F : List qj} {w : World} {R : Ending → World → Prop} {kr : Bool → Prop} {kp : Value → Prop} (hG : Gl H) (K : Nat) (s1 : List UInt8)
    (hS : St w H [] F) (hm : (zd.m K s1).wp kr kp)
    (hret : ∀ (VY : Bool) (w : World), kr VY → St w H [] F → R (.returned (.bool VY)) w)
    (hpan : ∀ v w, kp v → St w H [] F → R (.panicked [⟨v, false, false⟩]) w) :
    Calls Tryz.prog 3 ⟨[qN s1]⟩ w R := by
 refine enter Tryz.func3 rfl Tryz.ntmps3 rfl hS fun a w hS => ?_
 have hM := hm; clear hm
 rw [zd.m] at hM
 refine qe <| sA hS rfl fun hS => qm <| wp_seq <| qe <| sM hS rfl fun hS => sO hS (ye rfl Tryz.runUnderlying9) rfl fun hS => sB hS rfl fun hS => qm <| qo hS rfl hM (fun hb2 hM => ?_) (fun hb2 hM => ?_)
 ·refine wp_seq ?_
  refine zb <| qq hS rfl Tryz.call9 (jB hG K  (hS.st.part 0 [] (by kernel_rfl)) (qh hM) (fun V3 w hM  hst => qn hS.ev hst.appF rfl fun hS => ?_) (fun v w hk hst => zY (qB (qB (⟨hS.ev.defs, hpan _ _ hk hst.appF.frame⟩)))))
  replace hS : Ss _ _ _ H [] F _ _ := hS
  refine sA hS rfl fun hS => qm <| wp_ret <| qu ?_
  exact qP (rs := [2]) hS rfl rfl (hret V3 _ (qG hM) (hS.st.pick [] (by kernel_rfl)))
 ·refine wp_skip ?_
  refine qc <| qe <| sM hS rfl fun hS => qq hS rfl Tryz.call10 (v2 hG K s1 (hS.st.part 0 [] (by kernel_rfl)) (qh hM) (fun VZ V1 V4 VS V5 w hM VW hst => qn hS.ev hst.appF rfl fun hS => ?_))
  replace hS : Ss _ _ _ H [VS] F _ _ := hS
  refine sM hS rfl fun hS => sO hS (ex rfl rfl) rfl fun hS => sO hS (ex rfl rfl) rfl fun hS => sA hS rfl fun hS => sA hS rfl fun hS => qm <| qe <| sM hS rfl fun hS => qq hS rfl Tryz.call11 (vZ hG K s1 (hS.st.part 0 [0] (by kernel_rfl)) (qh hM) (fun V0 V2 V6 VV V7 w hM VX hst => qn hS.ev hst.appF rfl fun hS => ?_))
  replace hS : Ss _ _ _ H [VV, VS] F _ _ := hS
  refine sM hS rfl fun hS => sO hS (ex rfl rfl) rfl fun hS => sO hS (ex rfl rfl) rfl fun hS => sA hS rfl fun hS => sA hS rfl fun hS => qm <| qe <| sM hS rfl fun hS => sM hS rfl fun hS => sB hS rfl fun hS => sM hS rfl fun hS => yA (fun a w => ∃ (VQ : Bool), Ss 32 [] [(28, .bool VQ)] H [] F a w ∧ (zd.j1 K VQ).wp kr kp) 4 (fun Ua VT => ?_) ?_
  ·refine Xi (b := (V5 == V7)) hM (fun VO hM => ?_) (fun VO hM => ?_)
   ·replace hS := hS.re 23 (v := .bool true) rfl (congrArg Value.bool VO)
    replace hS := hS.re 24 (v := .bool true) rfl (congrArg Value.bool VO)
    refine qI hS rfl rfl rfl rfl (mv rfl) rfl fun a w hS => qI hS rfl rfl rfl rfl (mv rfl) rfl fun a w hS => vH hS rfl rfl rfl rfl <| qq hS rfl Tryz.call12 (ve hG K V4 V6 VZ V1 V0 V2 (VW.rdF (i := 1) rfl) (VW.cap (fun _ => rfl) rfl) (VX.rdF (i := 0) rfl) (VX.cap (fun _ => rfl) rfl) (hS.st.part 0 [0, 1] (by kernel_rfl)) (qh hM) (fun V8 w hM  hst => qn hS.ev hst.appF rfl fun hS => ?_))
    replace hS : Ss _ _ _ H [VV, VS] F _ _ := hS
    refine sO hS (pk rfl rfl rfl) rfl fun hS => qL <| qc ?_
    exact VT _ _ ⟨V8, hS.to [] (by kernel_rfl) ⟨rfl, trivial⟩, hM⟩
   ·replace hS := hS.re 23 (v := .bool false) rfl (congrArg Value.bool VO)
    replace hS := hS.re 24 (v := .bool false) rfl (congrArg Value.bool VO)
    refine vL 3 hS rfl fun a w hS => sO hS (pk rfl rfl rfl) rfl fun hS => qL <| qc ?_
    exact VT _ _ ⟨false, hS.to [] (by kernel_rfl) ⟨rfl, trivial⟩, hM⟩
  ·intro a w hI
   obtain ⟨VQ, hS, hM⟩ := hI
   rw [zd.j1] at hM
   refine sM hS rfl fun hS => yA (fun a w => ∃ (VR : Bool), Ss 32 [] [(31, .bool VR)] H [] F a w ∧ (zd.j2 K VR).wp kr kp) 2 (fun Ub VU => ?_) ?_
   ·refine Xi (b := VQ) hM (fun VP hM => ?_) (fun VP hM => ?_)
    ·replace hS := hS.re 28 (v := .bool true) rfl (congrArg Value.bool VP)
     replace hS := hS.re 29 (v := .bool true) rfl (congrArg Value.bool VP)
     refine vH hS rfl rfl rfl rfl <| qq hS rfl Tryz.call9 (jB hG K  (hS.st.part 0 [] (by kernel_rfl)) (qh hM) (fun V9 w hM  hst => qn hS.ev hst.appF rfl fun hS => ?_) (fun v w hk hst => zY (qB (qB (⟨hS.ev.defs, hpan _ _ hk hst.appF.frame⟩)))))
     replace hS : Ss _ _ _ H [] F _ _ := hS
     refine sO hS (pk rfl rfl rfl) rfl fun hS => qL <| qc ?_
     exact VU _ _ ⟨V9, hS.to [] (by kernel_rfl) ⟨rfl, trivial⟩, hM⟩
    ·replace hS := hS.re 28 (v := .bool false) rfl (congrArg Value.bool VP)
     replace hS := hS.re 29 (v := .bool false) rfl (congrArg Value.bool VP)
     refine vL 1 hS rfl fun a w hS => sO hS (pk rfl rfl rfl) rfl fun hS => qL <| qc ?_
     exact VU _ _ ⟨false, hS.to [] (by kernel_rfl) ⟨rfl, trivial⟩, hM⟩
   ·intro a w hI
    obtain ⟨VR, hS, hM⟩ := hI
    rw [zd.j2] at hM
    refine sA hS rfl fun hS => qm <| wp_ret ?_
    exact qP (rs := [2]) hS rfl rfl (hret VR _ (qG hM) (hS.st.pick [] (by kernel_rfl)))
end Go.TryzS

