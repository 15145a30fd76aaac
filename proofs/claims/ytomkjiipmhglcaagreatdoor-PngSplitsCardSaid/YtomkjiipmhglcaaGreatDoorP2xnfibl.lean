/- Printed by a program of mine: each Go function answers what its model answers; conditions: what each theorem asks of memory. -/
import Derived.Test.YtomkjiipmhglcaaGreatDoorP1xlploo
set_option linter.unusedVariables false
set_option linter.unusedSimpArgs false
set_option maxRecDepth 100000
namespace Go.TryzS
open Go Go.Sl Go.Mo Go.Proofs
attribute [local irreducible] q7.wp
theorem jx {H : z7} {F : List qj} {w : World} {R : Ending → World → Prop} {kr : (Int × (List Int)) → Prop} {kp : Value → Prop} (hG : Gl H) (K : Nat) (VO : qr) (Uy : qy) (VP : Int) (VS : Nat) (Ui : qj) (Ug : Option Addr) (Uh : Nat) (Uj : qj) (V3 : Option Addr) (V6 : Nat) (VZ : qj) (V4 : Option Addr) (V7 : Nat) (V0 : qj) (VX : Option Addr) (VY : Nat) (V1 : qj) (VT : Option Addr) (VV : Nat) (V2 : qj) (Uz : xf Ui VS ([.int .i64 VO.Writer_.place_.at_, .slice Ug VO.Writer_.bytes_.length Uh, .slice V3 VO.literals_.lengths_.length V6, .slice V4 VO.literals_.codes_.length V7, .slice VX VO.distances_.lengths_.length VY, .slice VT VO.distances_.codes_.length VV]) 132) (UB : zM 5 (ci .u8) 1 Ug VO.Writer_.bytes_ Uh Uj) (UC : zM 3 (ci .i64) 1 V3 VO.literals_.lengths_ V6 VZ) (UD : zM 3 (ci .i64) 1 V4 VO.literals_.codes_ V7 V0) (Ub : zM 3 (ci .i64) 1 VX VO.distances_.lengths_ VY V1) (Uc : zM 3 (ci .i64) 1 VT VO.distances_.codes_ VV V2)
    (hS : St w H [Ui, Uj, VZ, V0, V1, V2] F) (hm : (zI.m K VO Uy VP).wp kr kp)
    (hret : ∀ (Ud : Int) (Uq : Option Addr) (Ur : Nat) (VW : (List Int)) (Uv : qj) (Uw : qj) (w : World), kr (Ud, VW) → (zM 5 (ci .u8) 1 Uq VW Ur Uv) → (xf Uw VS ([.int .i64 Ud, .slice Uq VW.length Ur, .slice V3 VO.literals_.lengths_.length V6, .slice V4 VO.literals_.codes_.length V7, .slice VX VO.distances_.lengths_.length VY, .slice VT VO.distances_.codes_.length VV]) 132) → St w H [Uw, Uv, VZ, V0, V1, V2] F → R (.returned (.tuple ⟨[]⟩)) w) :
    Calls Tryz.prog 94 ⟨[qx VS 0, .agg ⟨[.slice VX VO.distances_.lengths_.length VY, .slice VT VO.distances_.codes_.length VV]⟩, .int .i64 VP]⟩ w R := by
 refine enter Tryz.func94 rfl Tryz.ntmps94 rfl hS fun a w hS => ?_
 have hM := hm; clear hm
 rw [zI.m] at hM
 refine qe <| bx ([.slice VX VO.distances_.lengths_.length VY, .slice VT VO.distances_.codes_.length VV]) hS rfl rfl rfl fun w Ue Us Uk hS => qm <| qe <| sO hS (zz rfl Tryz.runUnderlying130 rfl Tryz.sizeOf128 rfl) rfl fun hS => sO hS (zU 0 rfl Uk rfl rfl Tryz.isAgg128) rfl fun hS => sM hS rfl fun hS => ?_
 obtain ⟨Un, hM⟩ := qt hM
 refine sO hS (xF rfl rfl Tryz.runUnderlying128 Tryz.sizeOf3 (Ub.rd (i := 5) rfl) (fun _ => rfl) rfl Un) rfl fun hS => sO hS (xO rfl (Ub.rd (i := 5) rfl) (fun _ => rfl) Un rfl Tryz.isAgg3) rfl fun hS => sB hS rfl fun hS => qY (v := Value.int .i64) (x0 := (qi ((rd VO.distances_.lengths_ VP) - (1 : Int)))) hS (zE rfl) rfl fun UK a w hz hS => ?_
 have hM := qp hz hM; clear hz
 refine qm <| z3 <| q6 (fun Ux a w => ∃ (VU : Int) (V5 : Option Addr) (V8 : Nat) (VQ : (List Int)) (V9 : qj) (Ua : qj) (VR : Int), Ss 30 [] [(0, qx VS 0), (2, .int .i64 VP), (4, qx Ue 0), (6, .int .i64 VR)] H [Ua, V9, VZ, V0, V1, V2, Us] F a w ∧ (zM 5 (ci .u8) 1 V5 VQ V8 V9) ∧ (xf Ua VS ([.int .i64 VU, .slice V5 VQ.length V8, .slice V3 VO.literals_.lengths_.length V6, .slice V4 VO.literals_.codes_.length V7, .slice VX VO.distances_.lengths_.length VY, .slice VT VO.distances_.codes_.length VV]) 132) ∧ (zI.l1 K VO VP Ux VU VQ VR).wp kr kp) K ?_ ?_ ?_
 ·exact ⟨VO.Writer_.place_.at_, Ug, Uh, VO.Writer_.bytes_, Uj, Ui, UK, hS.to [1, 2, 3, 4, 5, 6, 0] (by kernel_rfl) ⟨rfl, rfl, rfl, rfl, trivial⟩, UB, Uz, hM⟩
 ·intro a w hI; obtain ⟨_, _, _, _, _, _, _, _, _, _, hM⟩ := hI; exact qX hM
 ·intro Ux a w hI UN UA
  obtain ⟨VU, V5, V8, VQ, V9, Ua, VR, hS, Um, Ul, hM⟩ := hI
  rw [zI.l1] at hM
  refine wp_seq <| qe <| sM hS rfl fun hS => sB hS rfl fun hS => qm <| qo hS rfl hM (fun UE hM => ?_) (fun UE hM => ?_)
  ·refine wp_skip ?_
   refine qc <| wp_seq <| z3 ?_
   obtain ⟨Uo, hM⟩ := qt hM
   obtain ⟨UF, hM⟩ := qt hM
   refine qM (vals := [some (qx VS 0), some (qx VS 0), some (qx VS 0), some (qx Ue 1), some (.slice VT VO.distances_.codes_.length VV), some (.int .i64 VP), some (z9 VT (Int.toNat VP * 1)), some (.int .i64 (rd VO.distances_.codes_ VP)), some (.int .i64 VR), some (.int .i64 (zX .i64 (rd VO.distances_.codes_ VP) VR)), some (.int .i64 (xi .i64 (zX .i64 (rd VO.distances_.codes_ VP) VR) (1 : Int))), some (.int .u32 (wr .u32 (xi .i64 (zX .i64 (rd VO.distances_.codes_ VP) VR) (1 : Int)))), none]) hS zV rfl ?_
   intro l w ho hcl hA hst
   refine x4 hA hst ho hcl zO zW 12 [0, 1, 2, 3, 4, 5, 6, 7, 8, 9, 10, 11] rfl rfl rfl rfl rfl (by exact ⟨nM rfl, nQ rfl (by exact qJ (xM rfl) rfl), nQ rfl (by exact qJ (zz rfl Tryz.runUnderlying132 rfl Tryz.sizeOf127 rfl) rfl), nQ rfl (by exact qJ (zz rfl Tryz.runUnderlying130 rfl Tryz.sizeOf128 rfl) rfl), nQ rfl (by exact qJ (zU 6 rfl Uk rfl rfl Tryz.isAgg128) rfl), nM rfl, nQ rfl (by exact qJ (xF rfl rfl Tryz.runUnderlying128 Tryz.sizeOf3 (Uc.rd (i := 5) rfl) (fun _ => rfl) rfl Uo) rfl), nQ rfl (by exact qJ (xO rfl (Uc.rd (i := 5) rfl) (fun _ => rfl) Uo rfl Tryz.isAgg3) rfl), nM rfl, nQ rfl (by exact qJ (shr rfl rfl UF) rfl), nB rfl, nQ rfl (by exact qJ (yT rfl Tryz.runUnderlying3 Tryz.runUnderlying56) rfl), trivial⟩) fun D l a w ho hcl hav hpre hm hE hk hA hst => ?_
   have hS := (Ss.mk hE hst).env2 (e' := [(19, qx VS 0), (28, .int .u32 (wr .u32 (xi .i64 (zX .i64 (rd VO.distances_.codes_ VP) VR) (1 : Int))))]) ⟨rfl, rfl, trivial⟩
   refine qC rfl <| qq hS rfl Tryz.call85 (q9 hG K (qr.mk (qQ.mk (qs.mk VU) VQ) VO.literals_ VO.distances_) (wr .u32 (xi .i64 (zX .i64 (rd VO.distances_.codes_ VP) VR) (1 : Int))) (1 : Int) VS Ua V5 V8 V9 V3 V6 VZ V4 V7 V0 VX VY V1 VT VV V2 Ul Um UC UD Ub Uc (hS.st.part 6 [0, 1, 2, 3, 4, 5, 6] (by kernel_rfl)) (qh hM) (fun UM Up UG UH Uf Ut Uu w hM UI UJ hst => qn hS.ev hst.appF rfl fun hS => ?_))
   replace hS : Ss _ _ _ H [Uu, Ut, VZ, V0, V1, V2, Us] F _ _ := hS
   refine qm ?_
   replace hst := hS.st
   obtain ⟨hcl, hmust, hav2, hA⟩ := dn (vals' := [some (qx VS 0), some (qx VS 0), some (qx VS 0), some (qx Ue 1), some (.slice VT VO.distances_.codes_.length VV), some (.int .i64 VP), some (z9 VT (Int.toNat VP * 1)), some (.int .i64 (rd VO.distances_.codes_ VP)), some (.int .i64 VR), some (.int .i64 (zX .i64 (rd VO.distances_.codes_ VP) VR)), some (.int .i64 (xi .i64 (zX .i64 (rd VO.distances_.codes_ VP) VR) (1 : Int))), some (.int .u32 (wr .u32 (xi .i64 (zX .i64 (rd VO.distances_.codes_ VP) VR) (1 : Int)))), some (.int .i64 UM)]) 12 [(2, 12), (11, 12), (1, 2), (10, 11), (0, 1), (9, 10), (7, 9), (8, 9), (6, 7), (4, 6), (5, 6), (3, 4)] hA hcl hav hm hpre hk rfl rfl rfl rfl rfl rfl rfl
   clear hm hav
   refine xq hA hst ho hcl hmust [] rfl rfl rfl trivial fun a w hS => ?_
   replace hS := hS.env2 (e' := [(0, qx VS 0), (2, .int .i64 VP), (4, qx Ue 0), (6, .int .i64 VR)]) ⟨rfl, rfl, rfl, rfl, trivial⟩
   refine qW (qc ?_)
   refine zb <| sM hS rfl fun hS => sB hS rfl fun hS => qY (v := Value.int .i64) (x0 := (qi (VR - (1 : Int)))) hS (zE rfl) rfl fun UL a w hz hS => ?_
   have hM := qp hz hM; clear hz
   refine qL <| qc ?_
   exact UA _ _ ⟨Up, UG, UH, Uf, Ut, Uu, UL, hS.to [0, 1, 2, 3, 4, 5, 6] (by kernel_rfl) ⟨rfl, rfl, rfl, rfl, trivial⟩, UI, UJ, hM⟩
  ·refine wp_exit ?_
   refine qv (qv (qO ?_))
   exact yW (rs := []) hS rfl rfl (hret VU V5 V8 VQ V9 Ua _ (qG hM) Um Ul (hS.st.pick [0, 1, 2, 3, 4, 5] (by kernel_rfl)))
theorem jR {H : z7} {F : List qj} {w : World} {R : Ending → World → Prop} {kr : (Int × (List Int)) → Prop} {kp : Value → Prop} (hG : Gl H) (K : Nat) (VO : qr) (Ut : qy) (VP : xr) (VQ : Nat) (Ub : qj) (V9 : Option Addr) (Ua : Nat) (Uc : qj) (V0 : Option Addr) (V2 : Nat) (VW : qj) (V1 : Option Addr) (V3 : Nat) (VX : qj) (VS : Option Addr) (VU : Nat) (VY : qj) (VT : Option Addr) (VV : Nat) (VZ : qj) (Uu : xf Ub VQ ([.int .i64 VO.Writer_.place_.at_, .slice V9 VO.Writer_.bytes_.length Ua, .slice V0 VO.literals_.lengths_.length V2, .slice V1 VO.literals_.codes_.length V3, .slice VS VO.distances_.lengths_.length VU, .slice VT VO.distances_.codes_.length VV]) 132) (Uw : zM 5 (ci .u8) 1 V9 VO.Writer_.bytes_ Ua Uc) (Ud : zM 3 (ci .i64) 1 V0 VO.literals_.lengths_ V2 VW) (Ue : zM 3 (ci .i64) 1 V1 VO.literals_.codes_ V3 VX) (Uf : zM 3 (ci .i64) 1 VS VO.distances_.lengths_ VU VY) (Ug : zM 3 (ci .i64) 1 VT VO.distances_.codes_ VV VZ)
    (hS : St w H [Ub, Uc, VW, VX, VY, VZ] F) (hm : (yc.m K VO Ut VP).wp kr kp)
    (hret : ∀ (V5 : Int) (Uj : Option Addr) (Uk : Nat) (VR : (List Int)) (Ur : qj) (Us : qj) (w : World), kr (V5, VR) → (zM 5 (ci .u8) 1 Uj VR Uk Ur) → (xf Us VQ ([.int .i64 V5, .slice Uj VR.length Uk, .slice V0 VO.literals_.lengths_.length V2, .slice V1 VO.literals_.codes_.length V3, .slice VS VO.distances_.lengths_.length VU, .slice VT VO.distances_.codes_.length VV]) 132) → St w H [Us, Ur, VW, VX, VY, VZ] F → R (.returned (.tuple ⟨[]⟩)) w) :
    Calls Tryz.prog 110 ⟨[qx VQ 0, .agg ⟨[.slice VS VO.distances_.lengths_.length VU, .slice VT VO.distances_.codes_.length VV]⟩, .agg ⟨[.int .i64 VP.symbol_, .int .i64 VP.bits_, .int .u32 VP.more_]⟩]⟩ w R := by
 refine enter Tryz.func110 rfl Tryz.ntmps110 rfl hS fun a w hS => ?_
 have hM := hm; clear hm
 rw [yc.m] at hM
 refine qe <| bx ([.slice VS VO.distances_.lengths_.length VU, .slice VT VO.distances_.codes_.length VV]) hS rfl rfl rfl fun w UG Ul Uv hS => bx ([.int .i64 VP.symbol_, .int .i64 VP.bits_, .int .u32 VP.more_]) hS rfl rfl rfl fun w V6 Um V4 hS => qm <| qe <| sM hS rfl fun hS => sO hS (yz 1 rfl Uv rfl ([.slice VS VO.distances_.lengths_.length VU, .slice VT VO.distances_.codes_.length VV]) rfl rfl Tryz.isAgg130 Tryz.sizeOf130) rfl fun hS => sO hS (zz rfl Tryz.runUnderlying138 rfl Tryz.sizeOf3 rfl) rfl fun hS => sO hS (zU 0 rfl V4 rfl rfl Tryz.isAgg3) rfl fun hS => qq hS rfl Tryz.call94 (jx hG K VO VO.distances_ VP.symbol_ VQ Ub V9 Ua Uc V0 V2 VW V1 V3 VX VS VU VY VT VV VZ Uu Uw Ud Ue Uf Ug (hS.st.part 6 [2, 3, 4, 5, 6, 7, 0, 1] (by kernel_rfl)) (qh hM) (fun Uh Ux Uz V7 Un Uo w hM UB UC hst => qn hS.ev hst.appF rfl fun hS => ?_))
 replace hS : Ss _ _ _ H [Uo, Un, VW, VX, VY, VZ, Um, Ul] F _ _ := hS
 refine qm <| qM (vals := [some (qx VQ 0), some (qx VQ 0), some (qx VQ 0), some (qx V6 2), some (.int .u32 VP.more_), some (qx V6 1), some (.int .i64 VP.bits_), none]) hS zV rfl ?_
 intro l w ho hcl hA hst
 refine x4 hA hst ho hcl zO zW 7 [0, 1, 2, 3, 4, 5, 6] rfl rfl rfl rfl rfl (by exact ⟨nM rfl, nQ rfl (by exact qJ (xM rfl) rfl), nQ rfl (by exact qJ (zz rfl Tryz.runUnderlying132 rfl Tryz.sizeOf127 rfl) rfl), nQ rfl (by exact qJ (zz rfl Tryz.runUnderlying138 rfl Tryz.sizeOf56 rfl) rfl), nQ rfl (by exact qJ (zU 6 rfl V4 rfl rfl Tryz.isAgg56) rfl), nQ rfl (by exact qJ (zz rfl Tryz.runUnderlying138 rfl Tryz.sizeOf3 rfl) rfl), nQ rfl (by exact qJ (zU 6 rfl V4 rfl rfl Tryz.isAgg3) rfl), trivial⟩) fun D l a w ho hcl hav hpre hm hE hk hA hst => ?_
 have hS := (Ss.mk hE hst).env2 (e' := [(13, qx VQ 0), (15, .int .u32 VP.more_), (17, .int .i64 VP.bits_)]) ⟨rfl, rfl, rfl, trivial⟩
 refine qC rfl <| qq hS rfl Tryz.call85 (q9 hG K (qr.mk (qQ.mk (qs.mk Uh) V7) VO.literals_ VO.distances_) VP.more_ VP.bits_ VQ Uo Ux Uz Un V0 V2 VW V1 V3 VX VS VU VY VT VV VZ UC UB Ud Ue Uf Ug (hS.st.part 6 [0, 1, 2, 3, 4, 5, 6, 7] (by kernel_rfl)) (qh hM) (fun UF Ui Uy UA V8 Up Uq w hM UD UE hst => qn hS.ev hst.appF rfl fun hS => ?_))
 replace hS : Ss _ _ _ H [Uq, Up, VW, VX, VY, VZ, Um, Ul] F _ _ := hS
 refine qm ?_
 replace hst := hS.st
 obtain ⟨hcl, hmust, hav2, hA⟩ := dn (vals' := [some (qx VQ 0), some (qx VQ 0), some (qx VQ 0), some (qx V6 2), some (.int .u32 VP.more_), some (qx V6 1), some (.int .i64 VP.bits_), some (.int .i64 UF)]) 7 [(2, 7), (4, 7), (6, 7), (1, 2), (3, 4), (5, 6), (0, 1)] hA hcl hav hm hpre hk rfl rfl rfl rfl rfl rfl rfl
 clear hm hav
 refine xq hA hst ho hcl hmust [] rfl rfl rfl trivial fun a w hS => ?_
 replace hS := hS.env2 (e' := []) trivial
 exact yW (rs := []) hS rfl rfl (hret Ui Uy UA V8 Up Uq _ (qG hM) UD UE (hS.st.pick [0, 1, 2, 3, 4, 5] (by kernel_rfl)))
theorem y1 {H : z7} {F : List qj} {w : World} {R : Ending → World → Prop} {kr : (Int × (List Int)) → Prop} {kp : Value → Prop} (hG : Gl H) (K : Nat) (VO : qr) (VQ : List qH) (VP : Nat) (UF : qj) (UD : Option Addr) (UE : Nat) (UG : qj) (VS : Option Addr) (VU : Nat) (V1 : qj) (VT : Option Addr) (VV : Nat) (V2 : qj) (VX : Option Addr) (VZ : Nat) (V3 : qj) (VY : Option Addr) (V0 : Nat) (V4 : qj) (Uj : Option Addr) (Ul : Nat) (U3 : xf UF VP ([.int .i64 VO.Writer_.place_.at_, .slice UD VO.Writer_.bytes_.length UE, .slice VS VO.literals_.lengths_.length VU, .slice VT VO.literals_.codes_.length VV, .slice VX VO.distances_.lengths_.length VZ, .slice VY VO.distances_.codes_.length V0]) 132) (U6 : zM 5 (ci .u8) 1 UD VO.Writer_.bytes_ UE UG) (Uo : zM 3 (ci .i64) 1 VS VO.literals_.lengths_ VU V1) (Up : zM 3 (ci .i64) 1 VT VO.literals_.codes_ VV V2) (Uq : zM 3 (ci .i64) 1 VX VO.distances_.lengths_ VZ V3) (Ur : zM 3 (ci .i64) 1 VY VO.distances_.codes_ V0 V4) (UN : yU H [] F qH.cells Uj VQ) (Kp : VQ.length ≤ Ul)
    (hS : St w H [UF, UG, V1, V2, V3, V4] F) (hm : (zq.m K VO VQ).wp kr kp)
    (hret : ∀ (Uv : Int) (US : Option Addr) (UT : Nat) (Ue : (List Int)) (U0 : qj) (U1 : qj) (w : World), kr (Uv, Ue) → (zM 5 (ci .u8) 1 US Ue UT U0) → (xf U1 VP ([.int .i64 Uv, .slice US Ue.length UT, .slice VS VO.literals_.lengths_.length VU, .slice VT VO.literals_.codes_.length VV, .slice VX VO.distances_.lengths_.length VZ, .slice VY VO.distances_.codes_.length V0]) 132) → St w H [U1, U0, V1, V2, V3, V4] F → R (.returned (.tuple ⟨[]⟩)) w) :
    Calls Tryz.prog 86 ⟨[qx VP 0, .slice Uj VQ.length Ul]⟩ w R := by
 refine enter Tryz.func86 rfl Tryz.ntmps86 rfl hS fun a w hS => ?_
 have hM := hm; clear hm
 rw [zq.m] at hM
 refine qV (fun a w => ∃ (Ug : Int) (Uu : Option Addr) (Uw : Nat) (V5 : (List Int)) (Ux : qj) (Uy : qj), Ss 49 [] [(0, qx VP 0)] H [Uy, Ux, V1, V2, V3, V4] F a w ∧ (zM 5 (ci .u8) 1 Uu V5 Uw Ux) ∧ (xf Uy VP ([.int .i64 Ug, .slice Uu V5.length Uw, .slice VS VO.literals_.lengths_.length VU, .slice VT VO.literals_.codes_.length VV, .slice VX VO.distances_.lengths_.length VZ, .slice VY VO.distances_.codes_.length V0]) 132) ∧ (zq.j2 K VO Ug V5).wp kr kp) (fun Kr U5 => ?_) ?_
 ·refine wp_seq ?_
  refine zb <| sM hS rfl fun hS => sO hS (xw rfl Tryz.runUnderlying92) rfl fun hS => sM hS rfl fun hS => qm <| z3 <| q6 (fun U2 a w => ∃ (V8 : Int) (Uk : Option Addr) (Um : Nat) (VW : (List Int)) (Uh : qj) (Ui : qj) (VR : Int), Ss 49 [] [(0, qx VP 0), (6, .slice Uj VQ.length Ul), (7, .int .i64 (VQ.length : Int)), (8, .int .i64 VR)] H [Ui, Uh, V1, V2, V3, V4] F a w ∧ (zM 5 (ci .u8) 1 Uk VW Um Uh) ∧ (xf Ui VP ([.int .i64 V8, .slice Uk VW.length Um, .slice VS VO.literals_.lengths_.length VU, .slice VT VO.literals_.codes_.length VV, .slice VX VO.distances_.lengths_.length VZ, .slice VY VO.distances_.codes_.length V0]) 132) ∧ (zq.l1 K VO VQ U2 V8 VW VR).wp kr kp) K ?_ ?_ ?_
  ·exact ⟨VO.Writer_.place_.at_, UD, UE, VO.Writer_.bytes_, UG, UF, (0 : Int), hS.to [0, 1, 2, 3, 4, 5] (by kernel_rfl) ⟨rfl, rfl, rfl, rfl, trivial⟩, U6, U3, hM⟩
  ·intro a w hI; obtain ⟨_, _, _, _, _, _, _, _, _, _, hM⟩ := hI; exact qX hM
  ·intro U2 a w hI Kq UL
   obtain ⟨V8, Uk, Um, VW, Uh, Ui, VR, hS, Ut, Uf, hM⟩ := hI
   rw [zq.l1] at hM
   refine qe <| sB hS rfl fun hS => qm <| wp_seq <| qo hS rfl hM (fun U8 hM => ?_) (fun U8 hM => ?_)
   ·refine wp_skip ?_
    refine qc <| wp_seq <| z3 <| wp_seq <| zb ?_
    obtain ⟨UM, hM⟩ := qt hM
    refine sO hS (xF rfl rfl Tryz.runUnderlying92 Tryz.sizeOf119 UN.wk (fun _ => rfl) rfl UM) rfl fun hS => sO hS (jj rfl UN.wk (fun _ => rfl) UM Tryz.isAgg119 Tryz.sizeOf119 rfl) rfl fun hS => jz ([.int .u8 (0 : Int), .int .i64 (0 : Int), .int .i64 (0 : Int)]) hS Tryz.zeroValue119 rfl rfl fun w V9 Ks U4 hS => jn 0 ([.int .u8 ((rd VQ VR).Lit_), .int .i64 ((rd VQ VR).Len_), .int .i64 ((rd VQ VR).Dist_)]) ([.int .u8 ((rd VQ VR).Lit_), .int .i64 ((rd VQ VR).Len_), .int .i64 ((rd VQ VR).Dist_)]) hS rfl rfl U4 rfl rfl Tryz.sizeOf119 (by simp [Value.oneCell']) (Nat.le_of_ble_eq_true rfl) rfl fun w Us Un hS => qm <| wp_seq <| qe <| sO hS (zz rfl Tryz.runUnderlying119 rfl Tryz.sizeOf3 rfl) rfl fun hS => sO hS (zU 0 rfl Un rfl rfl Tryz.isAgg3) rfl fun hS => sB hS rfl fun hS => qm <| qo hS rfl hM (fun U9 hM => ?_) (fun U9 hM => ?_)
    ·refine wp_seq ?_
     refine qM (vals := [some (qx VP 0), some (qx VP 0), some (qx VP 0), some (qx VP 2), some (.agg ⟨[.slice VS VO.literals_.lengths_.length VU, .slice VT VO.literals_.codes_.length VV]⟩), some (qx V9 0), some (.int .u8 ((rd VQ VR).Lit_)), some (.int .i64 (wr .i64 (rd VQ VR).Lit_)), none]) hS zV rfl ?_
     intro l w ho hcl hA hst
     refine x4 hA hst ho hcl zO zW 8 [0, 1, 2, 3, 4, 5, 6, 7] rfl rfl rfl rfl rfl (by exact ⟨nM rfl, nM rfl, nQ rfl (by exact qJ (xM rfl) rfl), nQ rfl (by exact qJ (zz rfl Tryz.runUnderlying132 rfl Tryz.sizeOf130 rfl) rfl), nQ rfl (by exact qJ (yz 1 rfl Uf rfl ([.slice VS VO.literals_.lengths_.length VU, .slice VT VO.literals_.codes_.length VV]) rfl rfl Tryz.isAgg130 Tryz.sizeOf130) rfl), nQ rfl (by exact qJ (zz rfl Tryz.runUnderlying119 rfl Tryz.sizeOf5 rfl) rfl), nQ rfl (by exact qJ (zU 0 rfl Un rfl rfl Tryz.isAgg5) rfl), nQ rfl (by exact qJ (yT rfl Tryz.runUnderlying5 Tryz.runUnderlying3) rfl), trivial⟩) fun D l a w ho hcl hav hpre hm hE hk hA hst => ?_
     have hS := (Ss.mk hE hst).env2 (e' := [(15, qx VP 0), (19, .agg ⟨[.slice VS VO.literals_.lengths_.length VU, .slice VT VO.literals_.codes_.length VV]⟩), (22, .int .i64 (wr .i64 (rd VQ VR).Lit_))]) ⟨rfl, rfl, rfl, trivial⟩
     refine qC rfl <| qq hS rfl Tryz.call94 (xS hG K (qr.mk (qQ.mk (qs.mk V8) VW) VO.literals_ VO.distances_) VO.literals_ (wr .i64 (rd VQ VR).Lit_) VP Ui Uk Um Uh VS VU V1 VT VV V2 VX VZ V3 VY V0 V4 Uf Ut Uo Up Uq Ur (hS.st.part 6 [1, 2, 3, 4, 5, 6, 0] (by kernel_rfl)) (qh hM) (fun UO Ka Ke Uz UU UV w hM Ki Kj hst => qn hS.ev hst.appF rfl fun hS => ?_))
     replace hS : Ss _ _ _ H [UV, UU, V1, V2, V3, V4, Us] F _ _ := hS
     refine qm ?_
     replace hst := hS.st
     obtain ⟨hcl, hmust, hav2, hA⟩ := dn (vals' := [some (qx VP 0), some (qx VP 0), some (qx VP 0), some (qx VP 2), some (.agg ⟨[.slice VS VO.literals_.lengths_.length VU, .slice VT VO.literals_.codes_.length VV]⟩), some (qx V9 0), some (.int .u8 ((rd VQ VR).Lit_)), some (.int .i64 (wr .i64 (rd VQ VR).Lit_)), some (.tuple ⟨[]⟩)]) 8 [(0, 8), (4, 8), (7, 8), (3, 4), (6, 7), (2, 3), (5, 6), (1, 2)] hA hcl hav hm hpre hk rfl rfl rfl rfl rfl rfl rfl
     clear hm hav
     refine xq hA hst ho hcl hmust [] rfl rfl rfl trivial fun a w hS => ?_
     replace hS := hS.env2 (e' := [(0, qx VP 0), (6, .slice Uj VQ.length Ul), (7, .int .i64 (VQ.length : Int)), (8, .int .i64 VR)]) ⟨rfl, rfl, rfl, rfl, trivial⟩
     refine qc <| wp_exit <| qv (qO (qc ?_))
     refine zb <| sB hS rfl fun hS => sM hS rfl fun hS => qL <| qc ?_
     exact UL _ _ ⟨UO, Ka, Ke, Uz, UU, UV, (qi (VR + (1 : Int))), hS.to [0, 1, 2, 3, 4, 5] (by kernel_rfl) ⟨rfl, rfl, rfl, rfl, trivial⟩, Ki, Kj, hM⟩
    ·refine wp_skip ?_
     refine qc <| wp_seq <| qM (vals := [some (qx VP 0), some (qx VP 0), some (qx VP 0), some (qx VP 2), some (.agg ⟨[.slice VS VO.literals_.lengths_.length VU, .slice VT VO.literals_.codes_.length VV]⟩), some (qx V9 1), some (.int .i64 ((rd VQ VR).Len_)), none, none]) hS zV rfl ?_
     intro l w ho hcl hA hst
     refine x4 hA hst ho hcl zO zW 7 [0, 1, 2, 3, 4, 5, 6] rfl rfl rfl rfl rfl (by exact ⟨nM rfl, nM rfl, nQ rfl (by exact qJ (xM rfl) rfl), nQ rfl (by exact qJ (zz rfl Tryz.runUnderlying132 rfl Tryz.sizeOf130 rfl) rfl), nQ rfl (by exact qJ (yz 1 rfl Uf rfl ([.slice VS VO.literals_.lengths_.length VU, .slice VT VO.literals_.codes_.length VV]) rfl rfl Tryz.isAgg130 Tryz.sizeOf130) rfl), nQ rfl (by exact qJ (zz rfl Tryz.runUnderlying119 rfl Tryz.sizeOf3 rfl) rfl), nQ rfl (by exact qJ (zU 0 rfl Un rfl rfl Tryz.isAgg3) rfl), trivial⟩) fun D l a w ho hcl hav hpre hm hE hk hA hst => ?_
     have hS := (Ss.mk hE hst).env2 (e' := [(30, .int .i64 ((rd VQ VR).Len_))]) ⟨rfl, trivial⟩
     refine qC rfl <| qq hS rfl Tryz.call88 (vo hG K ((rd VQ VR).Len_) (hS.st.part 0 [0, 1, 2, 3, 4, 5, 6] (by kernel_rfl)) (qh hM) (fun V6 Ua Uc w hM  hst => qn hS.ev hst.appF rfl fun hS => ?_))
     replace hS : Ss _ _ _ H [Us, Ui, Uh, V1, V2, V3, V4] F _ _ := hS
     refine qm ?_
     replace hst := hS.st
     obtain ⟨hcl, hmust, hav2, hA⟩ := dn (vals' := [some (qx VP 0), some (qx VP 0), some (qx VP 0), some (qx VP 2), some (.agg ⟨[.slice VS VO.literals_.lengths_.length VU, .slice VT VO.literals_.codes_.length VV]⟩), some (qx V9 1), some (.int .i64 ((rd VQ VR).Len_)), some (.agg ⟨[.int .i64 V6, .int .i64 Ua, .int .u32 Uc]⟩), none]) 7 [(6, 7), (5, 6)] hA hcl hav hm hpre hk rfl rfl rfl rfl rfl rfl rfl
     clear hm hav
     refine x4 hA hst ho hcl hav2 hmust 8 [0, 1, 2, 3, 4] rfl rfl rfl rfl rfl (by exact ⟨nM rfl, nM rfl, nQ rfl (by exact qJ (xM rfl) rfl), nQ rfl (by exact qJ (zz rfl Tryz.runUnderlying132 rfl Tryz.sizeOf130 rfl) rfl), nQ rfl (by exact qJ (yz 1 rfl Uf rfl ([.slice VS VO.literals_.lengths_.length VU, .slice VT VO.literals_.codes_.length VV]) rfl rfl Tryz.isAgg130 Tryz.sizeOf130) rfl), trivial⟩) fun D l a w ho hcl hav hpre hm hE hk hA hst => ?_
     have hS := (Ss.mk hE hst).env2 (e' := [(24, qx VP 0), (28, .agg ⟨[.slice VS VO.literals_.lengths_.length VU, .slice VT VO.literals_.codes_.length VV]⟩), (31, .agg ⟨[.int .i64 V6, .int .i64 Ua, .int .u32 Uc]⟩)]) ⟨rfl, rfl, rfl, trivial⟩
     refine qC rfl <| qq hS rfl Tryz.call110 (jQ hG K (qr.mk (qQ.mk (qs.mk V8) VW) VO.literals_ VO.distances_) VO.literals_ (xr.mk V6 Ua Uc) VP Ui Uk Um Uh VS VU V1 VT VV V2 VX VZ V3 VY V0 V4 Uf Ut Uo Up Uq Ur (hS.st.part 6 [1, 2, 3, 4, 5, 6, 0] (by kernel_rfl)) (qh hM) (fun UP Kb Kf UA UH UI w hM Kk UJ hst => qn hS.ev hst.appF rfl fun hS => ?_))
     replace hS : Ss _ _ _ H [UI, UH, V1, V2, V3, V4, Us] F _ _ := hS
     refine qm ?_
     replace hst := hS.st
     obtain ⟨hcl, hmust, hav2, hA⟩ := dn (vals' := [some (qx VP 0), some (qx VP 0), some (qx VP 0), some (qx VP 2), some (.agg ⟨[.slice VS VO.literals_.lengths_.length VU, .slice VT VO.literals_.codes_.length VV]⟩), some (qx V9 1), some (.int .i64 ((rd VQ VR).Len_)), some (.agg ⟨[.int .i64 V6, .int .i64 Ua, .int .u32 Uc]⟩), some (.tuple ⟨[]⟩)]) 8 [(0, 8), (4, 8), (7, 8), (3, 4), (6, 7), (2, 3), (5, 6), (1, 2)] hA hcl hav hm hpre hk rfl rfl rfl rfl rfl rfl rfl
     clear hm hav
     refine xq hA hst ho hcl hmust [] rfl rfl rfl trivial fun a w hS => ?_
     replace hS := hS.env2 (e' := [(0, qx VP 0), (5, qx V9 0), (6, .slice Uj VQ.length Ul), (7, .int .i64 (VQ.length : Int)), (8, .int .i64 VR)]) ⟨rfl, rfl, rfl, rfl, rfl, trivial⟩
     refine qc <| qM (vals := [some (qx VP 0), some (qx VP 0), some (qx VP 0), some (qx VP 4), some (.agg ⟨[.slice VX VO.distances_.lengths_.length VZ, .slice VY VO.distances_.codes_.length V0]⟩), some (qx V9 2), some (.int .i64 ((rd VQ VR).Dist_)), none, none]) hS zV rfl ?_
     intro l w ho hcl hA hst
     refine x4 hA hst ho hcl zO zW 7 [0, 1, 2, 3, 4, 5, 6] rfl rfl rfl rfl rfl (by exact ⟨nM rfl, nM rfl, nQ rfl (by exact qJ (xM rfl) rfl), nQ rfl (by exact qJ (zz rfl Tryz.runUnderlying132 rfl Tryz.sizeOf130 rfl) rfl), nQ rfl (by exact qJ (yz 0 rfl UJ rfl ([.slice VX VO.distances_.lengths_.length VZ, .slice VY VO.distances_.codes_.length V0]) rfl rfl Tryz.isAgg130 Tryz.sizeOf130) rfl), nQ rfl (by exact qJ (zz rfl Tryz.runUnderlying119 rfl Tryz.sizeOf3 rfl) rfl), nQ rfl (by exact qJ (zU 6 rfl Un rfl rfl Tryz.isAgg3) rfl), trivial⟩) fun D l a w ho hcl hav hpre hm hE hk hA hst => ?_
     have hS := (Ss.mk hE hst).env2 (e' := [(39, .int .i64 ((rd VQ VR).Dist_))]) ⟨rfl, trivial⟩
     refine qC rfl <| qq hS rfl Tryz.call89 (jO hG K ((rd VQ VR).Dist_) (hS.st.part 0 [0, 1, 2, 3, 4, 5, 6] (by kernel_rfl)) (qh hM) (fun V7 Ub Ud w hM  hst => qn hS.ev hst.appF rfl fun hS => ?_))
     replace hS : Ss _ _ _ H [UI, UH, V1, V2, V3, V4, Us] F _ _ := hS
     refine qm ?_
     replace hst := hS.st
     obtain ⟨hcl, hmust, hav2, hA⟩ := dn (vals' := [some (qx VP 0), some (qx VP 0), some (qx VP 0), some (qx VP 4), some (.agg ⟨[.slice VX VO.distances_.lengths_.length VZ, .slice VY VO.distances_.codes_.length V0]⟩), some (qx V9 2), some (.int .i64 ((rd VQ VR).Dist_)), some (.agg ⟨[.int .i64 V7, .int .i64 Ub, .int .u32 Ud]⟩), none]) 7 [(6, 7), (5, 6)] hA hcl hav hm hpre hk rfl rfl rfl rfl rfl rfl rfl
     clear hm hav
     refine x4 hA hst ho hcl hav2 hmust 8 [0, 1, 2, 3, 4] rfl rfl rfl rfl rfl (by exact ⟨nM rfl, nM rfl, nQ rfl (by exact qJ (xM rfl) rfl), nQ rfl (by exact qJ (zz rfl Tryz.runUnderlying132 rfl Tryz.sizeOf130 rfl) rfl), nQ rfl (by exact qJ (yz 0 rfl UJ rfl ([.slice VX VO.distances_.lengths_.length VZ, .slice VY VO.distances_.codes_.length V0]) rfl rfl Tryz.isAgg130 Tryz.sizeOf130) rfl), trivial⟩) fun D l a w ho hcl hav hpre hm hE hk hA hst => ?_
     have hS := (Ss.mk hE hst).env2 (e' := [(33, qx VP 0), (37, .agg ⟨[.slice VX VO.distances_.lengths_.length VZ, .slice VY VO.distances_.codes_.length V0]⟩), (40, .agg ⟨[.int .i64 V7, .int .i64 Ub, .int .u32 Ud]⟩)]) ⟨rfl, rfl, rfl, trivial⟩
     refine qC rfl <| qq hS rfl Tryz.call110 (jR hG K (qr.mk (qQ.mk (qs.mk UP) UA) VO.literals_ VO.distances_) VO.distances_ (xr.mk V7 Ub Ud) VP UI Kb Kf UH VS VU V1 VT VV V2 VX VZ V3 VY V0 V4 UJ Kk Uo Up Uq Ur (hS.st.part 6 [0, 1, 2, 3, 4, 5, 6] (by kernel_rfl)) (qh hM) (fun UQ Kc Kg UB UW UX w hM Kl Km hst => qn hS.ev hst.appF rfl fun hS => ?_))
     replace hS : Ss _ _ _ H [UX, UW, V1, V2, V3, V4, Us] F _ _ := hS
     refine qm ?_
     replace hst := hS.st
     obtain ⟨hcl, hmust, hav2, hA⟩ := dn (vals' := [some (qx VP 0), some (qx VP 0), some (qx VP 0), some (qx VP 4), some (.agg ⟨[.slice VX VO.distances_.lengths_.length VZ, .slice VY VO.distances_.codes_.length V0]⟩), some (qx V9 2), some (.int .i64 ((rd VQ VR).Dist_)), some (.agg ⟨[.int .i64 V7, .int .i64 Ub, .int .u32 Ud]⟩), some (.tuple ⟨[]⟩)]) 8 [(0, 8), (4, 8), (7, 8), (3, 4), (6, 7), (2, 3), (5, 6), (1, 2)] hA hcl hav hm hpre hk rfl rfl rfl rfl rfl rfl rfl
     clear hm hav
     refine xq hA hst ho hcl hmust [] rfl rfl rfl trivial fun a w hS => ?_
     replace hS := hS.env2 (e' := [(0, qx VP 0), (6, .slice Uj VQ.length Ul), (7, .int .i64 (VQ.length : Int)), (8, .int .i64 VR)]) ⟨rfl, rfl, rfl, rfl, trivial⟩
     refine qW (qc ?_)
     refine zb <| sB hS rfl fun hS => sM hS rfl fun hS => qL <| qc ?_
     exact UL _ _ ⟨UQ, Kc, Kg, UB, UW, UX, (qi (VR + (1 : Int))), hS.to [0, 1, 2, 3, 4, 5] (by kernel_rfl) ⟨rfl, rfl, rfl, rfl, trivial⟩, Kl, Km, hM⟩
   ·refine wp_exit ?_
    refine qv (qv (qO (qc ?_)))
    exact U5 _ _ ⟨V8, Uk, Um, VW, Uh, Ui, hS.to [0, 1, 2, 3, 4, 5] (by kernel_rfl) ⟨rfl, trivial⟩, Ut, Uf, hM⟩
 ·intro a w hI
  obtain ⟨Ug, Uu, Uw, V5, Ux, Uy, hS, U7, UK, hM⟩ := hI
  rw [zq.j2] at hM
  refine zb <| sM hS rfl fun hS => sM hS rfl fun hS => sO hS (xM rfl) rfl fun hS => sO hS (zz rfl Tryz.runUnderlying132 rfl Tryz.sizeOf130 rfl) rfl fun hS => sO hS (yz 0 rfl UK rfl ([.slice VS VO.literals_.lengths_.length VU, .slice VT VO.literals_.codes_.length VV]) rfl rfl Tryz.isAgg130 Tryz.sizeOf130) rfl fun hS => qq hS rfl Tryz.call94 (xS hG K (qr.mk (qQ.mk (qs.mk Ug) V5) VO.literals_ VO.distances_) VO.literals_ (256 : Int) VP Uy Uu Uw Ux VS VU V1 VT VV V2 VX VZ V3 VY V0 V4 UK U7 Uo Up Uq Ur (hS.st.part 6 [0, 1, 2, 3, 4, 5] (by kernel_rfl)) (qh hM) (fun UR Kd Kh UC UY UZ w hM Kn Ko hst => qn hS.ev hst.appF rfl fun hS => ?_))
  replace hS : Ss _ _ _ H [UZ, UY, V1, V2, V3, V4] F _ _ := hS
  refine qL ?_
  exact yW (rs := []) hS rfl rfl (hret UR Kd Kh UC UY UZ _ (qG hM) Kn Ko (hS.st.pick [0, 1, 2, 3, 4, 5] (by kernel_rfl)))
theorem xW {H : z7} {F : List qj} {w : World} {R : Ending → World → Prop} {kr : (List UInt8) → Prop} {kp : Value → Prop} (hG : Gl H) (K : Nat) (VO : qr) (V0 : Nat) (VP : qj) (VV : Option Addr) (V1 : Nat) (VQ : qj) (VW : Option Addr) (V2 : Nat) (VR : qj) (VX : Option Addr) (V3 : Nat) (VS : qj) (VY : Option Addr) (V4 : Nat) (VT : qj) (VZ : Option Addr) (V5 : Nat) (VU : qj) (V7 : xf VP V0 ([.int .i64 VO.Writer_.place_.at_, .slice VV VO.Writer_.bytes_.length V1, .slice VW VO.literals_.lengths_.length V2, .slice VX VO.literals_.codes_.length V3, .slice VY VO.distances_.lengths_.length V4, .slice VZ VO.distances_.codes_.length V5]) 132) (V8 : zM 5 (ci .u8) 1 VV VO.Writer_.bytes_ V1 VQ) (Ua : zM 3 (ci .i64) 1 VW VO.literals_.lengths_ V2 VR) (Ub : zM 3 (ci .i64) 1 VX VO.literals_.codes_ V3 VS) (Uc : zM 3 (ci .i64) 1 VY VO.distances_.lengths_ V4 VT) (Ud : zM 3 (ci .i64) 1 VZ VO.distances_.codes_ V5 VU)
    (hS : St w H [VP, VQ, VR, VS, VT, VU] F) (hm : (xh.m K VO).wp kr kp)
    (hret : ∀ (V6 : List UInt8) (w : World), kr V6 → St w H [VP, VQ, VR, VS, VT, VU] F → R (.returned (qN V6)) w) :
    Calls Tryz.prog 87 ⟨[qx V0 0]⟩ w R := by
 refine enter Tryz.func87 rfl Tryz.ntmps87 rfl hS fun a w hS => ?_
 have hM := hm; clear hm
 rw [xh.m] at hM
 refine qe <| sA hS rfl fun hS => qm <| wp_seq <| qe <| sM hS rfl fun hS => sO hS (uD rfl rfl Tryz.runUnderlying171) rfl fun hS => qm <| v7 hS rfl <| wp_skip <| qc <| qe <| sM hS rfl fun hS => sO hS (xM rfl) rfl fun hS => sO hS (zz rfl Tryz.runUnderlying127 rfl Tryz.sizeOf44 rfl) rfl fun hS => sO hS (zU 0 rfl V7 rfl rfl Tryz.isAgg44) rfl fun hS => sO hS (XZ rfl Tryz.runUnderlying44 Tryz.runUnderlying5 Tryz.runUnderlying9 (V8.rd (i := 1) rfl)) rfl fun hS => qY (v := qN) (x0 := (VO.Writer_.bytes_.map jo)) hS (zE rfl) rfl fun V9 a w hz hS => ?_
 have hM := qp hz hM; clear hz
 refine qm <| wp_ret ?_
 exact qP (rs := [2]) hS rfl rfl (hret V9 _ (qG hM) (hS.st.pick [0, 1, 2, 3, 4, 5] (by kernel_rfl)))
theorem Qj {H : z7} {F : List qj} {w : World} {R : Ending → World → Prop} {kr : ((List UInt8) × Int) → Prop} {kp : Value → Prop} (hG : Gl H) (K : Nat) (V0 : List qH) (Ud : Option Addr) (Ug : Nat) (Uo : yU H [] F qH.cells Ud V0) (Un : V0.length ≤ Ug)
    (hS : St w H [] F) (hm : (vk.m K V0).wp kr kp)
    (hret : ∀ (Up : List UInt8) (Uq : Int) (w : World), kr (Up, Uq) → St w H [] F → R (.returned (.tuple ⟨[qN Up, .int .i64 Uq]⟩)) w) :
    Calls Tryz.prog 69 ⟨[.slice Ud V0.length Ug]⟩ w R := by
 refine enter Tryz.func69 rfl Tryz.ntmps69 rfl hS fun a w hS => ?_
 have hM := hm; clear hm
 rw [vk.m] at hM
 refine qe <| sA hS rfl fun hS => sA hS rfl fun hS => qm <| wp_seq <| qe <| sM hS rfl fun hS => qq hS rfl Tryz.call83 (vQ hG K V0 Ud Ug (Uo.app _) Un (hS.st.part 0 [] (by kernel_rfl)) (qh hM) (fun UP w hM  hst => qn hS.ev hst.appF rfl fun hS => ?_))
 replace hS : Ss _ _ _ H [] F _ _ := hS
 refine sO hS (un rfl rfl) rfl fun hS => qm <| qo hS rfl hM (fun UG hM => ?_) (fun UG hM => ?_)
 ·refine wp_seq ?_
  refine zb <| sA hS rfl fun hS => sA hS rfl fun hS => qm <| wp_ret <| qu ?_
  exact qP (rs := [2, 3]) hS rfl rfl (hret ([] : List UInt8) (1 : Int) _ (qG hM) (hS.st.pick [] (by kernel_rfl)))
 ·refine wp_skip ?_
  refine qc <| qe <| sO hS (vI ([.int .i64 (0 : Int), .slice none 0 0, .slice none 0 0, .slice none 0 0, .slice none 0 0, .slice none 0 0]) [(0, 2), (2, 2), (4, 2)] Tryz.zeroValue132 Tryz.runUnderlying132 (by intro w; simp [Tryz.sizeOf127, Tryz.sizeOf130]) rfl rfl) rfl fun hS => bx ([.int .i64 (0 : Int), .slice none 0 0, .slice none 0 0, .slice none 0 0, .slice none 0 0, .slice none 0 0]) hS rfl rfl rfl fun w Ur UI UE hS => ?_
  obtain ⟨Uz, UF, hS⟩ := hS.nilV 5 (ci .u8) 1
  obtain ⟨Uh, UK, hS⟩ := hS.nilV 3 (ci .i64) 1
  obtain ⟨Ui, UL, hS⟩ := hS.nilV 3 (ci .i64) 1
  obtain ⟨Uj, UM, hS⟩ := hS.nilV 3 (ci .i64) 1
  obtain ⟨Uk, UN, hS⟩ := hS.nilV 3 (ci .i64) 1
  refine sA hS rfl fun hS => qm <| qe <| sM hS rfl fun hS => sM hS rfl fun hS => qq hS rfl Tryz.call84 (vR hG K  (hS.st.part 0 [0, 1, 2, 3, 4, 5] (by kernel_rfl)) (qh hM) (fun VW VY VO VS VX VZ VQ VT V1 V3 VP VU V2 V4 VR VV w hM V9 Ua Ub Uc hst => qn hS.ev hst.appF rfl fun hS => ?_))
  replace hS : Ss _ _ _ H [VS, VT, VU, VV, Uk, Uj, Ui, Uh, Uz, UI] F _ _ := hS
  refine sM hS rfl fun hS => sO hS (ex rfl rfl) rfl fun hS => sO hS (ex rfl rfl) rfl fun hS => sO hS (xM rfl) rfl fun hS => sO hS (zz rfl Tryz.runUnderlying132 rfl Tryz.sizeOf130 rfl) rfl fun hS => jn 9 ([.slice VW VO.length VY, .slice VX VQ.length VZ]) ([.int .i64 (0 : Int), .slice none ([] : List Int).length (0), .slice VW VO.length VY, .slice VX VQ.length VZ, .slice none ([] : List Int).length (0), .slice none ([] : List Int).length (0)]) hS rfl rfl UE rfl rfl Tryz.sizeOf130 (by simp [Value.oneCell']) (Nat.le_of_ble_eq_true rfl) rfl fun w UJ Us hS => sO hS (xM rfl) rfl fun hS => sO hS (zz rfl Tryz.runUnderlying132 rfl Tryz.sizeOf130 rfl) rfl fun hS => jn 9 ([.slice V1 VP.length V3, .slice V2 VR.length V4]) ([.int .i64 (0 : Int), .slice none ([] : List Int).length (0), .slice VW VO.length VY, .slice VX VQ.length VZ, .slice V1 VP.length V3, .slice V2 VR.length V4]) hS rfl rfl Us rfl rfl Tryz.sizeOf130 (by simp [Value.oneCell']) (Nat.le_of_ble_eq_true rfl) rfl fun w Uy Ut hS => qm <| qe <| sM hS rfl fun hS => sO hS (xM rfl) rfl fun hS => sO hS (zz rfl Tryz.runUnderlying132 rfl Tryz.sizeOf127 rfl) rfl fun hS => qq hS rfl Tryz.call85 (q9 hG K (qr.mk (qQ.mk (qs.mk (0 : Int)) ([] : List Int)) (qy.mk VO VQ) (qy.mk VP VR)) (3 : Int) (3 : Int) Ur Uy none (0) Uz VW VY VS VX VZ VT V1 V3 VU V2 V4 VV Ut UF V9 Ua Ub Uc (hS.st.part 6 [9, 8, 0, 1, 2, 3, 4, 5, 6, 7] (by kernel_rfl)) (qh hM) (fun UO Ue Uu Uw V5 Ul Um w hM UA UB hst => qn hS.ev hst.appF rfl fun hS => ?_))
  replace hS : Ss _ _ _ H [Um, Ul, VS, VT, VU, VV, Uk, Uj, Ui, Uh] F _ _ := hS
  refine qm <| qe <| sM hS rfl fun hS => sM hS rfl fun hS => qq hS rfl Tryz.call86 (y1 hG K (qr.mk (qQ.mk (qs.mk Ue) V5) (qy.mk VO VQ) (qy.mk VP VR)) V0 Ur Um Uu Uw Ul VW VY VS VX VZ VT V1 V3 VU V2 V4 VV Ud Ug UB UA V9 Ua Ub Uc (Uo.app _) Un (hS.st.part 6 [0, 1, 2, 3, 4, 5, 6, 7, 8, 9] (by kernel_rfl)) (qh hM) (fun Uf Uv Ux V6 V7 V8 w hM UC UD hst => qn hS.ev hst.appF rfl fun hS => ?_))
  replace hS : Ss _ _ _ H [V8, V7, VS, VT, VU, VV, Uk, Uj, Ui, Uh] F _ _ := hS
  refine qm <| qe <| sM hS rfl fun hS => sO hS (xM rfl) rfl fun hS => sO hS (zz rfl Tryz.runUnderlying132 rfl Tryz.sizeOf127 rfl) rfl fun hS => qq hS rfl Tryz.call87 (xW hG K (qr.mk (qQ.mk (qs.mk Uf) V6) (qy.mk VO VQ) (qy.mk VP VR)) Ur V8 Uv Ux V7 VW VY VS VX VZ VT V1 V3 VU V2 V4 VV UD UC V9 Ua Ub Uc (hS.st.part 6 [0, 1, 2, 3, 4, 5, 6, 7, 8, 9] (by kernel_rfl)) (qh hM) (fun UH w hM  hst => qn hS.ev hst.appF rfl fun hS => ?_))
  replace hS : Ss _ _ _ H [V8, V7, VS, VT, VU, VV, Uk, Uj, Ui, Uh] F _ _ := hS
  refine sA hS rfl fun hS => sA hS rfl fun hS => qm <| wp_ret ?_
  exact qP (rs := [2, 3]) hS rfl rfl (hret UH (0 : Int) _ (qG hM) (hS.st.pick [] (by kernel_rfl)))
theorem uZ {H : z7} {F : List qj} {w : World} {R : Ending → World → Prop} {kr : Bool → Prop} {kp : Value → Prop} (hG : Gl H) (K : Nat) (VO : Int)
    (hS : St w H [] F) (hm : (jT.m K VO).wp kr kp)
    (hret : ∀ (VP : Bool) (w : World), kr VP → St w H [] F → R (.returned (.bool VP)) w) :
    Calls Tryz.prog 114 ⟨[.int .i64 VO]⟩ w R := by
 refine enter Tryz.func114 rfl Tryz.ntmps114 rfl hS fun a w hS => ?_
 have hM := hm; clear hm
 rw [jT.m] at hM
 refine qe <| sA hS rfl fun hS => qm <| qe <| sM hS rfl fun hS => sB hS rfl fun hS => sM hS rfl fun hS => xm 2 false 5 (b := (decide (VO < (0 : Int)))) (r := (decide (VO > (1099511627776 : Int)))) hS rfl rfl rfl rfl rfl rfl rfl (fun hb a w hS K hK => ?_) rfl fun a w hS => ?_
 ·refine qI hS rfl rfl rfl hb (mv rfl) rfl fun a w hS => ?_
  refine qI hS rfl rfl rfl hb (xN rfl rfl rfl) rfl fun a w hS => ?_
  exact qL (hK _ _ (hS.up 2 rfl rfl))
 refine qY (v := Value.bool) (x0 := ((decide (VO < (0 : Int))) || (decide (VO > (1099511627776 : Int))))) hS (zE rfl) rfl fun VQ a w hz hS => ?_
 have hM := qp hz hM; clear hz
 refine qm <| wp_ret ?_
 exact qP (rs := [2]) hS rfl rfl (hret VQ _ (qG hM) (hS.st.pick [] (by kernel_rfl)))
theorem yZ {H : z7} {F : List qj} {w : World} {R : Ending → World → Prop} {kr : Int → Prop} {kp : Value → Prop} (hG : Gl H) (K : Nat) (VO : List Int) (VQ : Option Addr) (VR : Nat) (VT : yU H [] F (ci .i64) VQ VO) (VZ : VO.length ≤ VR)
    (hS : St w H [] F) (hm : (zw.m K VO).wp kr kp)
    (hret : ∀ (VV : Int) (w : World), kr VV → St w H [] F → R (.returned (.int .i64 VV)) w) :
    Calls Tryz.prog 140 ⟨[.slice VQ VO.length VR, yH 114 [] []]⟩ w R := by
 refine enter Tryz.func140 rfl Tryz.ntmps140 rfl hS fun a w hS => ?_
 have hM := hm; clear hm
 rw [zw.m] at hM
 refine qe <| sA hS rfl fun hS => qm <| wp_seq <| qe <| sM hS rfl fun hS => sO hS (xw rfl Tryz.runUnderlying128) rfl fun hS => sM hS rfl fun hS => qm <| z3 <| q6 (fun VU a w => ∃ (VP : Int), Ss 19 [] [(0, .slice VQ VO.length VR), (1, yH 114 [] []), (7, .int .i64 (VO.length : Int)), (8, .int .i64 VP)] H [] F a w ∧ (zw.l1 K VO VU VP).wp kr kp) K ?_ ?_ ?_
 ·exact ⟨(0 : Int), hS.to [] (by kernel_rfl) ⟨rfl, rfl, rfl, rfl, trivial⟩, hM⟩
 ·intro a w hI; obtain ⟨_, _, hM⟩ := hI; exact qX hM
 ·intro VU a w hI V0 VW
  obtain ⟨VP, hS, hM⟩ := hI
  rw [zw.l1] at hM
  refine qe <| sB hS rfl fun hS => qm <| wp_seq <| qo hS rfl hM (fun VX hM => ?_) (fun VX hM => ?_)
  ·refine wp_skip ?_
   refine qc <| wp_seq <| z3 <| qe <| sM hS rfl fun hS => sA hS rfl fun hS => qm <| qe <| sM hS rfl fun hS => sM hS rfl fun hS => sM hS rfl fun hS => ?_
   obtain ⟨VS, hM⟩ := qt hM
   refine sO hS (xF rfl rfl Tryz.runUnderlying128 Tryz.sizeOf3 VT.wk (fun _ => rfl) rfl VS) rfl fun hS => sO hS (xO rfl VT.wk (fun _ => rfl) VS rfl Tryz.isAgg3) rfl fun hS => yY hS rfl rfl Tryz.call114 (uZ hG K (rd VO VP) (hS.st.part 0 [] (by kernel_rfl)) (qh hM) (fun V1 w hM  hst => qn hS.ev hst.appF rfl fun hS => ?_))
   replace hS : Ss _ _ _ H [] F _ _ := hS
   refine qm <| qo hS rfl hM (fun VY hM => ?_) (fun VY hM => ?_)
   ·refine wp_seq ?_
    refine zb <| sM hS rfl fun hS => sA hS rfl fun hS => qm <| wp_ret <| zc (qu (qu (zc (qu ?_))))
    exact qP (rs := [4]) hS rfl rfl (hret VP _ (qG hM) (hS.st.pick [] (by kernel_rfl)))
   ·refine wp_skip ?_
    refine qW (qc ?_)
    refine zb <| sB hS rfl fun hS => sM hS rfl fun hS => qL <| qc ?_
    exact VW _ _ ⟨(qi (VP + (1 : Int))), hS.to [] (by kernel_rfl) ⟨rfl, rfl, rfl, rfl, trivial⟩, hM⟩
  ·refine wp_exit ?_
   refine qv (qv (qO (qc ?_)))
   refine qe <| sA hS rfl fun hS => qm <| wp_ret ?_
   exact qP (rs := [4]) hS rfl rfl (hret (-1 : Int) _ (qG hM) (hS.st.pick [] (by kernel_rfl)))
theorem yR {H : z7} {F : List qj} {w : World} {R : Ending → World → Prop} {kr : Bool → Prop} {kp : Value → Prop} (hG : Gl H) (K : Nat) (VO : List Int) (VP : Option Addr) (VQ : Nat) (VT : yU H [] F (ci .i64) VP VO) (VS : VO.length ≤ VQ)
    (hS : St w H [] F) (hm : (xv.m K VO).wp kr kp)
    (hret : ∀ (VR : Bool) (w : World), kr VR → St w H [] F → R (.returned (.bool VR)) w) :
    Calls Tryz.prog 113 ⟨[.slice VP VO.length VQ, yH 114 [] []]⟩ w R := by
 refine enter Tryz.func113 rfl Tryz.ntmps113 rfl hS fun a w hS => ?_
 have hM := hm; clear hm
 rw [xv.m] at hM
 refine qe <| sA hS rfl fun hS => qm <| qe <| sM hS rfl fun hS => sM hS rfl fun hS => qq hS rfl Tryz.call140 (yZ hG K VO VP VQ (VT.app _) VS (hS.st.part 0 [] (by kernel_rfl)) (qh hM) (fun VV w hM  hst => qn hS.ev hst.appF rfl fun hS => ?_))
 replace hS : Ss _ _ _ H [] F _ _ := hS
 refine sB hS rfl fun hS => qY (v := Value.bool) (x0 := (decide (VV ≥ (0 : Int)))) hS (zE rfl) rfl fun VU a w hz hS => ?_
 have hM := qp hz hM; clear hz
 refine qm <| wp_ret ?_
 exact qP (rs := [4]) hS rfl rfl (hret VU _ (qG hM) (hS.st.pick [] (by kernel_rfl)))
def qk (p : qj) (x : qb) (vs : List Value) : Prop :=
  ∃ (A0 : Option Addr) (c0 : Nat), vs = [.int .i64 x.often_, .slice A0 x.symbols_.length c0] ∧ Pl p (ci .i64) A0 x.symbols_ ∧ x.symbols_.length ≤ c0
theorem qk.mono {p p' : qj} (hs : ∀ q ∈ p, q ∈ p') {x : qb} {vs : List Value} (h : qk p x vs) : qk p' x vs := by
  obtain ⟨A0, c0, h0, h1, h2⟩ := h
  exact ⟨A0, c0, h0, h1.mono hs, h2⟩
theorem vn {H : z7} {F : List qj} {w : World} {R : Ending → World → Prop} {kr : Bool → Prop} {kp : Value → Prop} (hG : Gl H) (K : Nat) (VO : Int)
    (hS : St w H [] F) (hm : (y3.m K VO).wp kr kp)
    (hret : ∀ (VP : Bool) (w : World), kr VP → St w H [] F → R (.returned (.bool VP)) w) :
    Calls Tryz.prog 142 ⟨[.int .i64 VO]⟩ w R := by
 refine enter Tryz.func142 rfl Tryz.ntmps142 rfl hS fun a w hS => ?_
 have hM := hm; clear hm
 rw [y3.m] at hM
 refine qe <| sA hS rfl fun hS => qm <| qe <| sM hS rfl fun hS => sM hS rfl fun hS => sB hS rfl fun hS => qY (v := Value.bool) (x0 := (VO != VO)) hS (zE rfl) rfl fun VQ a w hz hS => ?_
 have hM := qp hz hM; clear hz
 refine qm <| wp_ret ?_
 exact qP (rs := [2]) hS rfl rfl (hret VQ _ (qG hM) (hS.st.pick [] (by kernel_rfl)))
theorem jN {H : z7} {F : List qj} {w : World} {R : Ending → World → Prop} {kr : Int → Prop} {kp : Value → Prop} (hG : Gl H) (K : Nat) (VO : Int) (VP : Int)
    (hS : St w H [] F) (hm : (jh.m K VO VP).wp kr kp)
    (hret : ∀ (VQ : Int) (w : World), kr VQ → St w H [] F → R (.returned (.int .i64 VQ)) w) :
    Calls Tryz.prog 117 ⟨[.int .i64 VO, .int .i64 VP]⟩ w R := by
 refine enter Tryz.func117 rfl Tryz.ntmps117 rfl hS fun a w hS => ?_
 have hM := hm; clear hm
 rw [jh.m] at hM
 refine qe <| sA hS rfl fun hS => qm <| qe <| sM hS rfl fun hS => qq hS rfl Tryz.call142 (vn hG K VO (hS.st.part 0 [] (by kernel_rfl)) (qh hM) (fun VW w hM  hst => qn hS.ev hst.appF rfl fun hS => ?_))
 replace hS : Ss _ _ _ H [] F _ _ := hS
 refine sA hS rfl fun hS => qm <| qe <| sM hS rfl fun hS => qq hS rfl Tryz.call142 (vn hG K VP (hS.st.part 0 [] (by kernel_rfl)) (qh hM) (fun VX w hM  hst => qn hS.ev hst.appF rfl fun hS => ?_))
 replace hS : Ss _ _ _ H [] F _ _ := hS
 refine sA hS rfl fun hS => qm <| wp_seq <| qe <| sM hS rfl fun hS => qm <| qo hS rfl hM (fun VR hM => ?_) (fun VR hM => ?_)
 ·refine wp_seq ?_
  refine qe <| sM hS rfl fun hS => qm <| qo hS rfl hM (fun VS hM => ?_) (fun VS hM => ?_)
  ·refine wp_seq ?_
   refine zb <| sA hS rfl fun hS => qm <| wp_ret <| qu (qu ?_)
   exact qP (rs := [4]) hS rfl rfl (hret (0 : Int) _ (qG hM) (hS.st.pick [] (by kernel_rfl)))
  ·refine wp_skip ?_
   refine qc <| qe <| sA hS rfl fun hS => qm <| wp_ret <| qu ?_
   exact qP (rs := [4]) hS rfl rfl (hret (-1 : Int) _ (qG hM) (hS.st.pick [] (by kernel_rfl)))
 ·refine wp_skip ?_
  refine qc <| wp_seq <| qe <| sM hS rfl fun hS => qm <| qo hS rfl hM (fun VT hM => ?_) (fun VT hM => ?_)
  ·refine wp_seq ?_
   refine zb <| sA hS rfl fun hS => qm <| wp_ret <| qu ?_
   exact qP (rs := [4]) hS rfl rfl (hret (1 : Int) _ (qG hM) (hS.st.pick [] (by kernel_rfl)))
  ·refine wp_skip ?_
   refine qc <| wp_seq <| qe <| sM hS rfl fun hS => sM hS rfl fun hS => sB hS rfl fun hS => qm <| qo hS rfl hM (fun VU hM => ?_) (fun VU hM => ?_)
   ·refine wp_seq ?_
    refine zb <| sA hS rfl fun hS => qm <| wp_ret <| qu ?_
    exact qP (rs := [4]) hS rfl rfl (hret (-1 : Int) _ (qG hM) (hS.st.pick [] (by kernel_rfl)))
   ·refine wp_skip ?_
    refine qc <| wp_seq <| qe <| sM hS rfl fun hS => sM hS rfl fun hS => sB hS rfl fun hS => qm <| qo hS rfl hM (fun VV hM => ?_) (fun VV hM => ?_)
    ·refine wp_seq ?_
     refine zb <| sA hS rfl fun hS => qm <| wp_ret <| qu ?_
     exact qP (rs := [4]) hS rfl rfl (hret (1 : Int) _ (qG hM) (hS.st.pick [] (by kernel_rfl)))
    ·refine wp_skip ?_
     refine qc <| qe <| sA hS rfl fun hS => qm <| wp_ret ?_
     exact qP (rs := [4]) hS rfl rfl (hret (0 : Int) _ (qG hM) (hS.st.pick [] (by kernel_rfl)))
theorem u0 {H : z7} {F : List qj} {w : World} {R : Ending → World → Prop} {kr : Int → Prop} {kp : Value → Prop} (hG : Gl H) (K : Nat) (VO : qb) (VP : qb) (VQ : Option Addr) (VS : Nat) (VR : Option Addr) (VT : Nat) (V2 : yU H [] F (ci .i64) VQ VO.symbols_) (V0 : VO.symbols_.length ≤ VS) (V3 : yU H [] F (ci .i64) VR VP.symbols_) (V1 : VP.symbols_.length ≤ VT)
    (hS : St w H [] F) (hm : (xA.m K VO VP).wp kr kp)
    (hret : ∀ (VU : Int) (w : World), kr VU → St w H [] F → R (.returned (.int .i64 VU)) w) :
    Calls Tryz.prog 116 ⟨[.agg ⟨[.int .i64 VO.often_, .slice VQ VO.symbols_.length VS]⟩, .agg ⟨[.int .i64 VP.often_, .slice VR VP.symbols_.length VT]⟩]⟩ w R := by
 refine enter Tryz.func116 rfl Tryz.ntmps116 rfl hS fun a w hS => ?_
 have hM := hm; clear hm
 rw [xA.m] at hM
 refine qe <| bx ([.int .i64 VO.often_, .slice VQ VO.symbols_.length VS]) hS rfl rfl rfl fun w V4 VX VV hS => bx ([.int .i64 VP.often_, .slice VR VP.symbols_.length VT]) hS rfl rfl rfl fun w V5 VY VW hS => sA hS rfl fun hS => qm <| qe <| sO hS (zz rfl Tryz.runUnderlying178 rfl Tryz.sizeOf3 rfl) rfl fun hS => sO hS (zU 1 rfl VV rfl rfl Tryz.isAgg3) rfl fun hS => sO hS (zz rfl Tryz.runUnderlying178 rfl Tryz.sizeOf3 rfl) rfl fun hS => sO hS (zU 0 rfl VW rfl rfl Tryz.isAgg3) rfl fun hS => qq hS rfl Tryz.call117 (jN hG K VO.often_ VP.often_ (hS.st.part 0 [0, 1] (by kernel_rfl)) (qh hM) (fun VZ w hM  hst => qn hS.ev hst.appF rfl fun hS => ?_))
 replace hS : Ss _ _ _ H [VY, VX] F _ _ := hS
 refine sA hS rfl fun hS => qm <| wp_ret ?_
 exact qP (rs := [4]) hS rfl rfl (hret VZ _ (qG hM) (hS.st.pick [] (by kernel_rfl)))
theorem Qo {H : z7} {F : List qj} {w : World} {R : Ending → World → Prop} {kr : Int → Prop} {kp : Value → Prop} (hG : Gl H) (K : Nat) (VO : qb) (VP : qb) (VQ : Option Addr) (VS : Nat) (VR : Option Addr) (VT : Nat) (V2 : yU H [] F (ci .i64) VQ VO.symbols_) (V0 : VO.symbols_.length ≤ VS) (V3 : yU H [] F (ci .i64) VR VP.symbols_) (V1 : VP.symbols_.length ≤ VT)
    (hS : St w H [] F) (hm : (xA.m K VO VP).wp kr kp)
    (hret : ∀ (VU : Int) (w : World), kr VU → St w H [] F → R (.returned (.int .i64 VU)) w) :
    Calls Tryz.prog 144 ⟨[.agg ⟨[.int .i64 VO.often_, .slice VQ VO.symbols_.length VS]⟩, .agg ⟨[.int .i64 VP.often_, .slice VR VP.symbols_.length VT]⟩]⟩ w R := by
 refine enter Tryz.func144 rfl Tryz.ntmps144 rfl hS fun a w hS => ?_
 have hM := hm; clear hm
 rw [xA.m] at hM
 refine qe <| bx ([.int .i64 VO.often_, .slice VQ VO.symbols_.length VS]) hS rfl rfl rfl fun w V4 VX VV hS => bx ([.int .i64 VP.often_, .slice VR VP.symbols_.length VT]) hS rfl rfl rfl fun w V5 VY VW hS => sA hS rfl fun hS => qm <| qe <| sO hS (zz rfl Tryz.runUnderlying178 rfl Tryz.sizeOf3 rfl) rfl fun hS => sO hS (zU 1 rfl VV rfl rfl Tryz.isAgg3) rfl fun hS => sO hS (zz rfl Tryz.runUnderlying178 rfl Tryz.sizeOf3 rfl) rfl fun hS => sO hS (zU 0 rfl VW rfl rfl Tryz.isAgg3) rfl fun hS => qq hS rfl Tryz.call117 (jN hG K VO.often_ VP.often_ (hS.st.part 0 [0, 1] (by kernel_rfl)) (qh hM) (fun VZ w hM  hst => qn hS.ev hst.appF rfl fun hS => ?_))
 replace hS : Ss _ _ _ H [VY, VX] F _ _ := hS
 refine sA hS rfl fun hS => qm <| wp_ret ?_
 exact qP (rs := [4]) hS rfl rfl (hret VZ _ (qG hM) (hS.st.pick [] (by kernel_rfl)))
theorem uA (cq : Nat) (hcq : cq = 116 ∨ cq = 144) {H : z7} {F : List qj} {w : World} {R : Ending → World → Prop} {kr : Int → Prop} {kp : Value → Prop} (hG : Gl H) (K : Nat) (VO : qb) (VP : qb) (VQ : Option Addr) (VS : Nat) (VR : Option Addr) (VT : Nat) (VW : yU H [] F (ci .i64) VQ VO.symbols_) (VU : VO.symbols_.length ≤ VS) (VX : yU H [] F (ci .i64) VR VP.symbols_) (VV : VP.symbols_.length ≤ VT)
    (hS : St w H [] F) (hm : (xA.m K VO VP).wp kr kp)
    (hret : ∀ (VY : Int) (w : World), kr VY → St w H [] F → R (.returned (.int .i64 VY)) w) :
    Calls Tryz.prog cq ⟨[.agg ⟨[.int .i64 VO.often_, .slice VQ VO.symbols_.length VS]⟩, .agg ⟨[.int .i64 VP.often_, .slice VR VP.symbols_.length VT]⟩]⟩ w R := by
 rcases hcq with rfl | rfl
 · exact u0 hG K VO VP VQ VS VR VT VW VU VX VV hS hm hret
 · exact Qo hG K VO VP VQ VS VR VT VW VU VX VV hS hm hret
theorem v5 {cq : Nat} (hcq : cq = 116 ∨ cq = 144) (args : Array Value) (w : World) : (callFunc cq args).run Tryz.prog w = .ok (.enter cq args) w := by
 rcases hcq with rfl | rfl
 · exact Tryz.call116 args w
 · exact Tryz.call144 args w
theorem xj (cq : Nat) (hcq : cq = 116 ∨ cq = 144) {H : z7} {F : List qj} {w : World} {R : Ending → World → Prop} {kr : (List qb) → Prop} {kp : Value → Prop} (hG : Gl H) (K : Nat) (V6 : List qb) (VT : Int) (VV : Int) (VX : qj) (VQ : Option Addr) (VS : Nat) (VZ : List (zx 2)) (Up : qj) (UR : zn (qk VX) V6 VZ) (UF : zM 178 (zx.v (sz := 2)) 2 VQ VZ VS Up)
    (hS : St w H [VX, Up] F) (hm : (qf.m K V6 VT VV).wp kr kp)
    (hret : ∀ (Uk : List (zx 2)) (Ua : (List qb)) (UC : qj) (w : World), kr Ua → (zM 178 (zx.v (sz := 2)) 2 VQ Uk VS UC) → (zn (qk VX) Ua Uk) → (Uk.length = VZ.length) → St w H [VX, UC] F → R (.returned (.tuple ⟨[]⟩)) w) :
    Calls Tryz.prog 154 ⟨[.slice VQ VZ.length VS, .int .i64 VT, .int .i64 VV, yH cq [] []]⟩ w R := by
 refine enter Tryz.func154 rfl Tryz.ntmps154 rfl hS fun a w hS => ?_
 have hM := hm; clear hm
 rw [qf.m] at hM
 have U5 : ∀ q ∈ VX, q ∈ VX := fun _ h => h
 have UW : VZ.length = VZ.length := rfl
 refine qe <| sM hS rfl fun hS => sB hS rfl fun hS => qY (v := Value.int .i64) (x0 := (qi (VT + (1 : Int)))) hS (zE rfl) rfl fun U2 a w hz hS => ?_
 have hM := qp hz hM; clear hz
 refine qm <| z3 <| q6 (fun Uc a w => ∃ (V1 : List (zx 2)) (V0 : (List qb)) (Ub : qj) (VY : Int), Ss 53 [] [(0, .slice VQ V1.length VS), (1, .int .i64 VT), (2, .int .i64 VV), (3, yH cq [] []), (8, .int .i64 VY)] H [VX, Ub] F a w ∧ (zM 178 (zx.v (sz := 2)) 2 VQ V1 VS Ub) ∧ (zn (qk VX) V0 V1) ∧ (V1.length = VZ.length) ∧ (qf.l1 K VT VV Uc V0 VY).wp kr kp) K ?_ ?_ ?_
 ·exact ⟨VZ, V6, Up, U2, hS.to [0, 1] (by kernel_rfl) ⟨rfl, rfl, rfl, rfl, rfl, trivial⟩, UF, UR, UW, hM⟩
 ·intro a w hI; obtain ⟨_, _, _, _, _, _, _, _, hM⟩ := hI; exact qX hM
 ·intro Uc a w hI U8 UE
  obtain ⟨V1, V0, Ub, VY, hS, Ur, Uu, Uw, hM⟩ := hI
  rw [qf.l1] at hM
  refine wp_seq <| qe <| sM hS rfl fun hS => sM hS rfl fun hS => sB hS rfl fun hS => qm <| qo hS rfl hM (fun UH hM => ?_) (fun UH hM => ?_)
  ·refine wp_skip ?_
   refine qc <| wp_seq <| z3 <| qe <| sM hS rfl fun hS => sA hS rfl fun hS => qm <| z3 <| q6 (fun Uz a w => ∃ (VR : List (zx 2)) (VO : (List qb)) (V8 : qj) (VP : Int), Ss 53 [] [(0, .slice VQ VR.length VS), (1, .int .i64 VT), (2, .int .i64 VV), (3, yH cq [] []), (8, .int .i64 VY), (9, .int .i64 VP)] H [VX, V8] F a w ∧ (zM 178 (zx.v (sz := 2)) 2 VQ VR VS V8) ∧ (zn (qk VX) VO VR) ∧ (VR.length = VZ.length) ∧ (qf.l2 K (qf.l1 K VT VV Uc) VT VY Uz VO VP).wp kr kp) K ?_ ?_ ?_
   ·exact ⟨V1, V0, Ub, VY, hS.to [0, 1] (by kernel_rfl) ⟨rfl, rfl, rfl, rfl, rfl, rfl, trivial⟩, Ur, Uu, Uw, hM⟩
   ·intro a w hI; obtain ⟨_, _, _, _, _, _, _, _, hM⟩ := hI; exact qX hM
   ·intro Uz a w hI U7 UD
    obtain ⟨VR, VO, V8, VP, hS, VW, VU, Ux, hM⟩ := hI
    rw [qf.l2] at hM
    refine wp_seq <| qV (fun a w => ∃ (UB : Bool), Ss 53 [] [(0, .slice VQ VR.length VS), (1, .int .i64 VT), (2, .int .i64 VV), (3, yH cq [] []), (8, .int .i64 VY), (9, .int .i64 VP), (34, .bool UB)] H [VX, V8] F a w ∧ (qf.j3 K (qf.l1 K VT VV Uc) (qf.l2 K (qf.l1 K VT VV Uc) VT VY Uz) VY VO VP UB).wp kr kp) (fun U6 Uq => ?_) ?_
    ·refine Xi (b := (decide (VP > VT))) hM (fun Ue hM => ?_) (fun Ue hM => ?_)
     ·obtain ⟨Uf, hM⟩ := qt hM
      obtain ⟨Ul, Un, US, UN, UJ⟩ := VU.get Uf
      obtain ⟨Ug, hM⟩ := qt hM
      obtain ⟨Um, Uo, UT, UO, UK⟩ := VU.get Ug
      refine qM (vals := [some (.int .i64 VP), some (.int .i64 VT), some (.bool true), some (.bool true), some (yH cq [] []), some (.slice VQ VR.length VS), some (.int .i64 VP), some (z9 VQ (Int.toNat VP * 2)), some (.agg ⟨[.int .i64 ((rd VO VP).often_), .slice Ul ((rd VO VP).symbols_).length Un]⟩), some (.slice VQ VR.length VS), some (.int .i64 VP), some (.int .i64 (qi (VP - (1 : Int)))), some (z9 VQ (Int.toNat (qi (VP - (1 : Int))) * 2)), some (.agg ⟨[.int .i64 ((rd VO (qi (VP - (1 : Int)))).often_), .slice Um ((rd VO (qi (VP - (1 : Int)))).symbols_).length Uo]⟩), none, none, none]) hS zV rfl ?_
      intro l w ho hcl hA hst
      refine x4 hA hst ho hcl zO zW 14 [0, 1, 2, 3, 4, 5, 6, 7, 8, 9, 10, 11, 12, 13] rfl rfl rfl rfl rfl (by exact ⟨nM rfl, nM rfl, nQ rfl (by exact qJ (xN rfl rfl rfl) (congrArg Value.bool Ue)), nM rfl, nW rfl rfl rfl rfl rfl rfl rfl rfl (by exact qJ (mv rfl) rfl), nW rfl rfl rfl rfl rfl rfl rfl rfl (by exact qJ (mv rfl) rfl), nW rfl rfl rfl rfl rfl rfl rfl rfl (by exact qJ (mv rfl) rfl), nW rfl rfl rfl rfl rfl rfl rfl rfl (by exact qJ (xF rfl rfl Tryz.runUnderlying176 Tryz.sizeOf178 (VW.rd (i := 1) rfl) zx.len rfl (VU.inb Uf)) rfl), nW rfl rfl rfl rfl rfl rfl rfl rfl (by exact qJ (qJ (jj rfl (VW.rd (i := 1) rfl) zx.len (VU.inb Uf) Tryz.isAgg178 Tryz.sizeOf178 rfl) (congrArg (fun l => Value.agg ⟨l⟩) US)) rfl), nW rfl rfl rfl rfl rfl rfl rfl rfl (by exact qJ (mv rfl) rfl), nW rfl rfl rfl rfl rfl rfl rfl rfl (by exact qJ (mv rfl) rfl), nW rfl rfl rfl rfl rfl rfl rfl rfl (by exact qJ (xN rfl rfl rfl) rfl), nW rfl rfl rfl rfl rfl rfl rfl rfl (by exact qJ (xF rfl rfl Tryz.runUnderlying176 Tryz.sizeOf178 (VW.rd (i := 1) rfl) zx.len rfl (VU.inb Ug)) rfl), nW rfl rfl rfl rfl rfl rfl rfl rfl (by exact qJ (qJ (jj rfl (VW.rd (i := 1) rfl) zx.len (VU.inb Ug) Tryz.isAgg178 Tryz.sizeOf178 rfl) (congrArg (fun l => Value.agg ⟨l⟩) UT)) rfl), trivial⟩) fun D l a w ho hcl hav hpre hm hE hk hA hst => ?_
      have hS := (Ss.mk hE hst).env2 (e' := [(21, .bool true), (22, yH cq [] []), (26, .agg ⟨[.int .i64 ((rd VO VP).often_), .slice Ul ((rd VO VP).symbols_).length Un]⟩), (31, .agg ⟨[.int .i64 ((rd VO (qi (VP - (1 : Int)))).often_), .slice Um ((rd VO (qi (VP - (1 : Int)))).symbols_).length Uo]⟩)]) ⟨rfl, rfl, rfl, rfl, trivial⟩
      refine qC rfl <| vH hS rfl rfl rfl rfl <| yY hS rfl rfl (v5 hcq) (uA cq hcq hG K (qb.mk ((rd VO VP).often_) ((rd VO VP).symbols_)) (qb.mk ((rd VO (qi (VP - (1 : Int)))).often_) ((rd VO (qi (VP - (1 : Int)))).symbols_)) Ul Un Um Uo (UN.rdF (i := 0) rfl) UJ (UO.rdF (i := 0) rfl) UK (hS.st.part 0 [0, 1] (by kernel_rfl)) (qh hM) (fun Ud w hM  hst => qn hS.ev hst.appF rfl fun hS => ?_))
      replace hS : Ss _ _ _ H [VX, V8] F _ _ := hS
      refine qm ?_
      replace hst := hS.st
      obtain ⟨hcl, hmust, hav2, hA⟩ := dn (vals' := [some (.int .i64 VP), some (.int .i64 VT), some (.bool true), some (.bool true), some (yH cq [] []), some (.slice VQ VR.length VS), some (.int .i64 VP), some (z9 VQ (Int.toNat VP * 2)), some (.agg ⟨[.int .i64 ((rd VO VP).often_), .slice Ul ((rd VO VP).symbols_).length Un]⟩), some (.slice VQ VR.length VS), some (.int .i64 VP), some (.int .i64 (qi (VP - (1 : Int)))), some (z9 VQ (Int.toNat (qi (VP - (1 : Int))) * 2)), some (.agg ⟨[.int .i64 ((rd VO (qi (VP - (1 : Int)))).often_), .slice Um ((rd VO (qi (VP - (1 : Int)))).symbols_).length Uo]⟩), some (.int .i64 Ud), some (.bool (decide (Ud < (0 : Int)))), some (.bool (decide (Ud < (0 : Int))))]) 14 [(3, 14), (4, 14), (8, 14), (13, 14), (2, 3), (7, 8), (12, 13), (0, 2), (1, 2), (5, 7), (6, 7), (9, 12), (11, 12), (10, 11)] hA hcl hav hm hpre hk rfl rfl rfl rfl rfl rfl rfl
      clear hm hav
      refine xq hA hst ho hcl hmust [15, 16] rfl rfl rfl (by exact ⟨nW rfl rfl rfl rfl rfl rfl rfl rfl (by exact qJ (xN rfl rfl rfl) rfl), nQ rfl (by exact qJ (pk rfl rfl rfl) rfl), trivial⟩) fun a w hS => ?_
      replace hS := hS.env2 (e' := [(0, .slice VQ VR.length VS), (1, .int .i64 VT), (2, .int .i64 VV), (3, yH cq [] []), (8, .int .i64 VY), (9, .int .i64 VP), (34, .bool (decide (Ud < (0 : Int))))]) ⟨rfl, rfl, rfl, rfl, rfl, rfl, rfl, trivial⟩
      refine qc ?_
      exact Uq _ _ ⟨(decide (Ud < (0 : Int))), hS.to [0, 1] (by kernel_rfl) ⟨rfl, rfl, rfl, rfl, rfl, rfl, rfl, trivial⟩, hM⟩
     ·refine qM (vals := [some (.int .i64 VP), some (.int .i64 VT), some (.bool false), some (.bool false), some (undef), some (undef), some (undef), some (undef), some (undef), some (undef), some (undef), some (undef), some (undef), some (undef), some (undef), some (undef), some (.bool false)]) hS zV rfl ?_
      intro l w ho hcl hA hst
      refine xq hA hst ho hcl zW [0, 1, 2, 3, 4, 5, 6, 7, 8, 9, 10, 11, 12, 13, 14, 15, 16] rfl rfl rfl (by exact ⟨nM rfl, nM rfl, nQ rfl (by exact qJ (xN rfl rfl rfl) (congrArg Value.bool Ue)), nM rfl, nS rfl rfl rfl rfl rfl rfl rfl rfl rfl, nS rfl rfl rfl rfl rfl rfl rfl rfl rfl, nS rfl rfl rfl rfl rfl rfl rfl rfl rfl, nS rfl rfl rfl rfl rfl rfl rfl rfl rfl, nS rfl rfl rfl rfl rfl rfl rfl rfl rfl, nS rfl rfl rfl rfl rfl rfl rfl rfl rfl, nS rfl rfl rfl rfl rfl rfl rfl rfl rfl, nS rfl rfl rfl rfl rfl rfl rfl rfl rfl, nS rfl rfl rfl rfl rfl rfl rfl rfl rfl, nS rfl rfl rfl rfl rfl rfl rfl rfl rfl, nS rfl rfl rfl rfl rfl rfl rfl rfl rfl, nS rfl rfl rfl rfl rfl rfl rfl rfl rfl, nQ rfl (by exact qJ (pk rfl rfl rfl) rfl), trivial⟩) fun a w hS => ?_
      replace hS := hS.env2 (e' := [(0, .slice VQ VR.length VS), (1, .int .i64 VT), (2, .int .i64 VV), (3, yH cq [] []), (8, .int .i64 VY), (9, .int .i64 VP), (34, .bool false)]) ⟨rfl, rfl, rfl, rfl, rfl, rfl, rfl, trivial⟩
      refine qc ?_
      exact Uq _ _ ⟨false, hS.to [0, 1] (by kernel_rfl) ⟨rfl, rfl, rfl, rfl, rfl, rfl, rfl, trivial⟩, hM⟩
    ·intro a w hI
     obtain ⟨UB, hS, hM⟩ := hI
     rw [qf.j3] at hM
     refine qo hS rfl hM (fun UI hM => ?_) (fun UI hM => ?_)
     ·refine wp_skip ?_
      refine qc <| wp_seq <| z3 ?_
      obtain ⟨Uh, hM⟩ := qt hM
      obtain ⟨V2, V4, UU, UP, UL⟩ := VU.get Uh
      obtain ⟨V7, hM⟩ := qt hM
      obtain ⟨V3, V5, UV, UQ, UM⟩ := VU.get V7
      refine qM (vals := [some (.slice VQ VR.length VS), some (.int .i64 VP), some (.slice VQ VR.length VS), some (.int .i64 VP), some (.int .i64 (qi (VP - (1 : Int)))), some (.slice VQ VR.length VS), some (.int .i64 VP), some (.int .i64 (qi (VP - (1 : Int)))), some (z9 VQ (Int.toNat (qi (VP - (1 : Int))) * 2)), some (.agg ⟨[.int .i64 ((rd VO (qi (VP - (1 : Int)))).often_), .slice V2 ((rd VO (qi (VP - (1 : Int)))).symbols_).length V4]⟩), some (.slice VQ VR.length VS), some (.int .i64 VP), some (z9 VQ (Int.toNat VP * 2)), some (.agg ⟨[.int .i64 ((rd VO VP).often_), .slice V3 ((rd VO VP).symbols_).length V5]⟩), some (z9 VQ (Int.toNat VP * 2)), none, none, none]) hS zV rfl ?_
      intro l w ho hcl hA hst
      refine x4 hA hst ho hcl zO zW 15 [0, 1, 2, 3, 4, 5, 6, 7, 8, 9, 10, 11, 12, 13, 14] rfl rfl rfl rfl rfl (by exact ⟨nM rfl, nM rfl, nM rfl, nM rfl, nB rfl, nM rfl, nM rfl, nB rfl, nQ rfl (by exact qJ (xF rfl rfl Tryz.runUnderlying176 Tryz.sizeOf178 (VW.rd (i := 1) rfl) zx.len rfl (VU.inb Uh)) rfl), nQ rfl (by exact qJ (qJ (jj rfl (VW.rd (i := 1) rfl) zx.len (VU.inb Uh) Tryz.isAgg178 Tryz.sizeOf178 rfl) (congrArg (fun l => Value.agg ⟨l⟩) UU)) rfl), nM rfl, nM rfl, nQ rfl (by exact qJ (xF rfl rfl Tryz.runUnderlying176 Tryz.sizeOf178 (VW.rd (i := 1) rfl) zx.len rfl (VU.inb V7)) rfl), nQ rfl (by exact qJ (qJ (jj rfl (VW.rd (i := 1) rfl) zx.len (VU.inb V7) Tryz.isAgg178 Tryz.sizeOf178 rfl) (congrArg (fun l => Value.agg ⟨l⟩) UV)) rfl), nQ rfl (by exact qJ (xF rfl rfl Tryz.runUnderlying176 Tryz.sizeOf178 (VW.rd (i := 1) rfl) zx.len rfl (VU.inb V7)) rfl), trivial⟩) fun D l a w ho hcl hav hpre hm hE hk hA hst => ?_
      have hS := (Ss.mk hE hst).env2 (e' := [(46, .agg ⟨[.int .i64 ((rd VO (qi (VP - (1 : Int)))).often_), .slice V2 ((rd VO (qi (VP - (1 : Int)))).symbols_).length V4]⟩), (51, z9 VQ (Int.toNat VP * 2))]) ⟨rfl, rfl, trivial⟩
      refine qC rfl <| Xd (i := VP) (sz := 2) 1 (⟨[.int .i64 ((rd VO (qi (VP - (1 : Int)))).often_), .slice V2 ((rd VO (qi (VP - (1 : Int)))).symbols_).length V4], by simp, by simp [Value.oneCell']⟩ : zx 2) hS rfl rfl VW rfl Tryz.sizeOf178 rfl (VU.inb V7) fun UA w U9 hz Us hS => ?_
      obtain ⟨UZ, hzm⟩ := vi (VO.set (Int.toNat VP) (qb.mk ((rd VO (qi (VP - (1 : Int)))).often_) ((rd VO (qi (VP - (1 : Int)))).symbols_)))
      replace hM := qp hzm hM
      have V9 := zn.set (x := (qb.mk ((rd VO (qi (VP - (1 : Int)))).often_) ((rd VO (qi (VP - (1 : Int)))).symbols_))) (r := (⟨[.int .i64 ((rd VO (qi (VP - (1 : Int)))).often_), .slice V2 ((rd VO (qi (VP - (1 : Int)))).symbols_).length V4], by simp, by simp [Value.oneCell']⟩ : zx 2)) (Int.toNat VP) VU (show qk VX _ _ from ⟨V2, V4, rfl, UP, UL⟩)
      have Ui : UA.length = VR.length := by rw [hz]; exact List.length_set ..
      rw [← hz, ← hzm] at V9; clear hz hzm
      have UX := Eq.trans Ui Ux
      refine qm ?_
      replace hst := hS.st
      obtain ⟨Ut, hM⟩ := qt hM
      obtain ⟨hcl, hmust, hav2, hA⟩ := Qt (vals' := [some (.slice VQ VR.length VS), some (.int .i64 VP), some (.slice VQ VR.length VS), some (.int .i64 VP), some (.int .i64 (qi (VP - (1 : Int)))), some (.slice VQ VR.length VS), some (.int .i64 VP), some (.int .i64 (qi (VP - (1 : Int)))), some (z9 VQ (Int.toNat (qi (VP - (1 : Int))) * 2)), some (.agg ⟨[.int .i64 ((rd VO (qi (VP - (1 : Int)))).often_), .slice V2 ((rd VO (qi (VP - (1 : Int)))).symbols_).length V4]⟩), some (.slice VQ VR.length VS), some (.int .i64 VP), some (z9 VQ (Int.toNat VP * 2)), some (.agg ⟨[.int .i64 ((rd VO VP).often_), .slice V3 ((rd VO VP).symbols_).length V5]⟩), some (z9 VQ (Int.toNat VP * 2)), some undef, some (z9 VQ (Int.toNat (qi (VP - (1 : Int))) * 2)), none]) 15 [(0, 15), (1, 15), (5, 15), (6, 15), (7, 15), (8, 15), (9, 15), (13, 15), (14, 15), (12, 13), (10, 12), (11, 12)] hA hcl hav hm hpre rfl rfl rfl rfl rfl
      clear hm hav
      refine x4 hA hst ho hcl hav2 hmust 17 [2, 3, 4, 16] rfl rfl rfl rfl rfl (by exact ⟨nM rfl, nM rfl, nB rfl, nQ rfl (by exact qJ (xF (Yj Ui rfl) rfl Tryz.runUnderlying176 Tryz.sizeOf178 (Us.rd (i := 1) rfl) zx.len rfl (V9.inb Ut)) rfl), trivial⟩) fun D l a w ho hcl hav hpre hm hE hk hA hst => ?_
      have hS := (Ss.mk hE hst).env2 (e' := [(50, .agg ⟨[.int .i64 ((rd VO VP).often_), .slice V3 ((rd VO VP).symbols_).length V5]⟩), (52, z9 VQ (Int.toNat (qi (VP - (1 : Int))) * 2))]) ⟨rfl, rfl, trivial⟩
      refine qC rfl <| Xd (i := (qi (VP - (1 : Int)))) (sz := 2) 1 (⟨[.int .i64 ((rd VO VP).often_), .slice V3 ((rd VO VP).symbols_).length V5], by simp, by simp [Value.oneCell']⟩ : zx 2) hS rfl rfl Us rfl Tryz.sizeOf178 rfl (V9.inb Ut) fun Uj w U1 hz UG hS => ?_
      obtain ⟨U0, hzm⟩ := vi (UZ.set (Int.toNat (qi (VP - (1 : Int)))) (qb.mk ((rd VO VP).often_) ((rd VO VP).symbols_)))
      replace hM := qp hzm hM
      have Uv := zn.set (x := (qb.mk ((rd VO VP).often_) ((rd VO VP).symbols_))) (r := (⟨[.int .i64 ((rd VO VP).often_), .slice V3 ((rd VO VP).symbols_).length V5], by simp, by simp [Value.oneCell']⟩ : zx 2)) (Int.toNat (qi (VP - (1 : Int)))) V9 (show qk VX _ _ from ⟨V3, V5, rfl, UQ, UM⟩)
      have Uy : Uj.length = UA.length := by rw [hz]; exact List.length_set ..
      rw [← hz, ← hzm] at Uv; clear hz hzm
      have UY := Eq.trans Uy UX
      refine qm ?_
      replace hst := hS.st
      obtain ⟨hcl, hmust, hav2, hA⟩ := Qt (vals' := [some (.slice VQ VR.length VS), some (.int .i64 VP), some (.slice VQ VR.length VS), some (.int .i64 VP), some (.int .i64 (qi (VP - (1 : Int)))), some (.slice VQ VR.length VS), some (.int .i64 VP), some (.int .i64 (qi (VP - (1 : Int)))), some (z9 VQ (Int.toNat (qi (VP - (1 : Int))) * 2)), some (.agg ⟨[.int .i64 ((rd VO (qi (VP - (1 : Int)))).often_), .slice V2 ((rd VO (qi (VP - (1 : Int)))).symbols_).length V4]⟩), some (.slice VQ VR.length VS), some (.int .i64 VP), some (z9 VQ (Int.toNat VP * 2)), some (.agg ⟨[.int .i64 ((rd VO VP).often_), .slice V3 ((rd VO VP).symbols_).length V5]⟩), some (z9 VQ (Int.toNat VP * 2)), some undef, some (z9 VQ (Int.toNat (qi (VP - (1 : Int))) * 2)), some undef]) 17 [(0, 17), (1, 17), (2, 17), (3, 17), (4, 17), (5, 17), (6, 17), (7, 17), (8, 17), (9, 17), (10, 17), (11, 17), (12, 17), (13, 17), (14, 17), (15, 17), (16, 17)] hA hcl hav hm hpre rfl rfl rfl rfl rfl
      clear hm hav
      refine xq hA hst ho hcl hmust [] rfl rfl rfl trivial fun a w hS => ?_
      replace hS := hS.env2 (e' := [(0, .slice VQ Uj.length VS), (1, .int .i64 VT), (2, .int .i64 VV), (3, yH cq [] []), (8, .int .i64 VY), (9, .int .i64 VP)]) ⟨(Xa (u := .slice VQ VR.length VS) rfl (by rw [Uy, Ui])), rfl, rfl, rfl, rfl, rfl, trivial⟩
      refine qW (qc ?_)
      refine zb <| sM hS rfl fun hS => sB hS rfl fun hS => qY (v := Value.int .i64) (x0 := (qi (VP - (1 : Int)))) hS (zE rfl) rfl fun U4 a w hz hS => ?_
      have hM := qp hz hM; clear hz
      refine qL <| qc ?_
      exact UD _ _ ⟨Uj, U0, U1, U4, hS.to [0, 1] (by kernel_rfl) ⟨rfl, rfl, rfl, rfl, rfl, rfl, trivial⟩, UG, Uv, UY, hM⟩
     ·refine wp_exit ?_
      refine qv (qv (qO (qW (qc ?_))))
      refine zb <| sM hS rfl fun hS => sB hS rfl fun hS => qY (v := Value.int .i64) (x0 := (qi (VY + (1 : Int)))) hS (zE rfl) rfl fun U3 a w hz hS => ?_
      have hM := qp hz hM; clear hz
      refine qL <| qc ?_
      exact UE _ _ ⟨VR, VO, V8, U3, hS.to [0, 1] (by kernel_rfl) ⟨rfl, rfl, rfl, rfl, rfl, trivial⟩, VW, VU, Ux, hM⟩
  ·refine wp_exit ?_
   refine qv (qv (qO ?_))
   exact yW (rs := []) hS rfl rfl (hret V1 V0 Ub _ (qG hM) Ur Uu Uw (hS.st.pick [0, 1] (by kernel_rfl)))
theorem zZ (cq : Nat) (hcq : cq = 116 ∨ cq = 144) {H : z7} {F : List qj} {w : World} {R : Ending → World → Prop} {kr : (List qb) → Prop} {kp : Value → Prop} (hG : Gl H) (K : Nat) (V3 : List qb) (VQ : Int) (VR : Int) (V5 : Int) (VX : qj) (VS : Option Addr) (VU : Nat) (VW : List (zx 2)) (Ud : qj) (Uu : zn (qk VX) V3 VW) (Un : zM 178 (zx.v (sz := 2)) 2 VS VW VU Ud)
    (hS : St w H [VX, Ud] F) (hm : (qR.m K V3 VQ VR V5).wp kr kp)
    (hret : ∀ (Ub : List (zx 2)) (V7 : (List qb)) (Uk : qj) (w : World), kr V7 → (zM 178 (zx.v (sz := 2)) 2 VS Ub VU Uk) → (zn (qk VX) V7 Ub) → (Ub.length = VW.length) → St w H [VX, Uk] F → R (.returned (.tuple ⟨[]⟩)) w) :
    Calls Tryz.prog 159 ⟨[.slice VS VW.length VU, .int .i64 VQ, .int .i64 VR, .int .i64 V5, yH cq [] []]⟩ w R := by
 refine enter Tryz.func159 rfl Tryz.ntmps159 rfl hS fun a w hS => ?_
 have hM := hm; clear hm
 rw [qR.m] at hM
 have UE : ∀ q ∈ VX, q ∈ VX := fun _ h => h
 have Ux : VW.length = VW.length := rfl
 refine qe <| sA hS rfl fun hS => qm <| z3 <| q6 (fun Ul a w => ∃ (VT : List (zx 2)) (VP : (List qb)) (Uc : qj) (VO : Int), Ss 38 [] [(0, .slice VS VT.length VU), (1, .int .i64 VQ), (2, .int .i64 VR), (3, .int .i64 V5), (10, .int .i64 VO)] H [VX, Uc] F a w ∧ (zM 178 (zx.v (sz := 2)) 2 VS VT VU Uc) ∧ (zn (qk VX) VP VT) ∧ (VT.length = VW.length) ∧ (qR.l1 K VQ VR V5 Ul VP VO).wp kr kp) K ?_ ?_ ?_
 ·exact ⟨VW, V3, Ud, (0 : Int), hS.to [0, 1] (by kernel_rfl) ⟨rfl, rfl, rfl, rfl, rfl, trivial⟩, Un, Uu, Ux, hM⟩
 ·intro a w hI; obtain ⟨_, _, _, _, _, _, _, _, hM⟩ := hI; exact qX hM
 ·intro Ul a w hI UF Um
  obtain ⟨VT, VP, Uc, VO, hS, VY, VV, Uh, hM⟩ := hI
  rw [qR.l1] at hM
  refine wp_seq <| qe <| sM hS rfl fun hS => sM hS rfl fun hS => sB hS rfl fun hS => qm <| qo hS rfl hM (fun Up hM => ?_) (fun Up hM => ?_)
  ·refine wp_skip ?_
   refine qc <| wp_seq <| z3 ?_
   obtain ⟨V8, hM⟩ := qt hM
   obtain ⟨VZ, V1, Uv, Us, Uq⟩ := VV.get V8
   obtain ⟨V4, hM⟩ := qt hM
   obtain ⟨V0, V2, Uw, Ut, Ur⟩ := VV.get V4
   refine qM (vals := [some (.slice VS VT.length VU), some (.int .i64 VQ), some (.int .i64 VO), some (.int .i64 (qi (VQ + VO))), some (.slice VS VT.length VU), some (.int .i64 VR), some (.int .i64 VO), some (.int .i64 (qi (VR + VO))), some (.slice VS VT.length VU), some (.int .i64 VR), some (.int .i64 VO), some (.int .i64 (qi (VR + VO))), some (z9 VS (Int.toNat (qi (VR + VO)) * 2)), some (.agg ⟨[.int .i64 ((rd VP (qi (VR + VO))).often_), .slice VZ ((rd VP (qi (VR + VO))).symbols_).length V1]⟩), some (.slice VS VT.length VU), some (.int .i64 VQ), some (.int .i64 VO), some (.int .i64 (qi (VQ + VO))), some (z9 VS (Int.toNat (qi (VQ + VO)) * 2)), some (.agg ⟨[.int .i64 ((rd VP (qi (VQ + VO))).often_), .slice V0 ((rd VP (qi (VQ + VO))).symbols_).length V2]⟩), some (z9 VS (Int.toNat (qi (VQ + VO)) * 2)), none, none, none]) hS zV rfl ?_
   intro l w ho hcl hA hst
   refine x4 hA hst ho hcl zO zW 21 [0, 1, 2, 3, 4, 5, 6, 7, 8, 9, 10, 11, 12, 13, 14, 15, 16, 17, 18, 19, 20] rfl rfl rfl rfl rfl (by exact ⟨nM rfl, nM rfl, nM rfl, nB rfl, nM rfl, nM rfl, nM rfl, nB rfl, nM rfl, nM rfl, nM rfl, nB rfl, nQ rfl (by exact qJ (xF rfl rfl Tryz.runUnderlying176 Tryz.sizeOf178 (VY.rd (i := 1) rfl) zx.len rfl (VV.inb V8)) rfl), nQ rfl (by exact qJ (qJ (jj rfl (VY.rd (i := 1) rfl) zx.len (VV.inb V8) Tryz.isAgg178 Tryz.sizeOf178 rfl) (congrArg (fun l => Value.agg ⟨l⟩) Uv)) rfl), nM rfl, nM rfl, nM rfl, nB rfl, nQ rfl (by exact qJ (xF rfl rfl Tryz.runUnderlying176 Tryz.sizeOf178 (VY.rd (i := 1) rfl) zx.len rfl (VV.inb V4)) rfl), nQ rfl (by exact qJ (qJ (jj rfl (VY.rd (i := 1) rfl) zx.len (VV.inb V4) Tryz.isAgg178 Tryz.sizeOf178 rfl) (congrArg (fun l => Value.agg ⟨l⟩) Uw)) rfl), nQ rfl (by exact qJ (xF rfl rfl Tryz.runUnderlying176 Tryz.sizeOf178 (VY.rd (i := 1) rfl) zx.len rfl (VV.inb V4)) rfl), trivial⟩) fun D l a w ho hcl hav hpre hm hE hk hA hst => ?_
   have hS := (Ss.mk hE hst).env2 (e' := [(29, .agg ⟨[.int .i64 ((rd VP (qi (VR + VO))).often_), .slice VZ ((rd VP (qi (VR + VO))).symbols_).length V1]⟩), (36, z9 VS (Int.toNat (qi (VQ + VO)) * 2))]) ⟨rfl, rfl, trivial⟩
   refine qC rfl <| Xd (i := (qi (VQ + VO))) (sz := 2) 1 (⟨[.int .i64 ((rd VP (qi (VR + VO))).often_), .slice VZ ((rd VP (qi (VR + VO))).symbols_).length V1], by simp, by simp [Value.oneCell']⟩ : zx 2) hS rfl rfl VY rfl Tryz.sizeOf178 rfl (VV.inb V4) fun Uj w UG hz Ue hS => ?_
   obtain ⟨UA, hzm⟩ := vi (VP.set (Int.toNat (qi (VQ + VO))) (qb.mk ((rd VP (qi (VR + VO))).often_) ((rd VP (qi (VR + VO))).symbols_)))
   replace hM := qp hzm hM
   have V6 := zn.set (x := (qb.mk ((rd VP (qi (VR + VO))).often_) ((rd VP (qi (VR + VO))).symbols_))) (r := (⟨[.int .i64 ((rd VP (qi (VR + VO))).often_), .slice VZ ((rd VP (qi (VR + VO))).symbols_).length V1], by simp, by simp [Value.oneCell']⟩ : zx 2)) (Int.toNat (qi (VQ + VO))) VV (show qk VX _ _ from ⟨VZ, V1, rfl, Us, Uq⟩)
   have V9 : Uj.length = VT.length := by rw [hz]; exact List.length_set ..
   rw [← hz, ← hzm] at V6; clear hz hzm
   have Uy := Eq.trans V9 Uh
   refine qm ?_
   replace hst := hS.st
   obtain ⟨Uf, hM⟩ := qt hM
   obtain ⟨hcl, hmust, hav2, hA⟩ := Qt (vals' := [some (.slice VS VT.length VU), some (.int .i64 VQ), some (.int .i64 VO), some (.int .i64 (qi (VQ + VO))), some (.slice VS VT.length VU), some (.int .i64 VR), some (.int .i64 VO), some (.int .i64 (qi (VR + VO))), some (.slice VS VT.length VU), some (.int .i64 VR), some (.int .i64 VO), some (.int .i64 (qi (VR + VO))), some (z9 VS (Int.toNat (qi (VR + VO)) * 2)), some (.agg ⟨[.int .i64 ((rd VP (qi (VR + VO))).often_), .slice VZ ((rd VP (qi (VR + VO))).symbols_).length V1]⟩), some (.slice VS VT.length VU), some (.int .i64 VQ), some (.int .i64 VO), some (.int .i64 (qi (VQ + VO))), some (z9 VS (Int.toNat (qi (VQ + VO)) * 2)), some (.agg ⟨[.int .i64 ((rd VP (qi (VQ + VO))).often_), .slice V0 ((rd VP (qi (VQ + VO))).symbols_).length V2]⟩), some (z9 VS (Int.toNat (qi (VQ + VO)) * 2)), some undef, some (z9 VS (Int.toNat (qi (VR + VO)) * 2)), none]) 21 [(0, 21), (1, 21), (2, 21), (3, 21), (8, 21), (9, 21), (10, 21), (11, 21), (12, 21), (13, 21), (19, 21), (20, 21), (18, 19), (14, 18), (17, 18), (15, 17), (16, 17)] hA hcl hav hm hpre rfl rfl rfl rfl rfl
   clear hm hav
   refine x4 hA hst ho hcl hav2 hmust 23 [4, 5, 6, 7, 22] rfl rfl rfl rfl rfl (by exact ⟨nM rfl, nM rfl, nM rfl, nB rfl, nQ rfl (by exact qJ (xF (Yj V9 rfl) rfl Tryz.runUnderlying176 Tryz.sizeOf178 (Ue.rd (i := 1) rfl) zx.len rfl (V6.inb Uf)) rfl), trivial⟩) fun D l a w ho hcl hav hpre hm hE hk hA hst => ?_
   have hS := (Ss.mk hE hst).env2 (e' := [(35, .agg ⟨[.int .i64 ((rd VP (qi (VQ + VO))).often_), .slice V0 ((rd VP (qi (VQ + VO))).symbols_).length V2]⟩), (37, z9 VS (Int.toNat (qi (VR + VO)) * 2))]) ⟨rfl, rfl, trivial⟩
   refine qC rfl <| Xd (i := (qi (VR + VO))) (sz := 2) 1 (⟨[.int .i64 ((rd VP (qi (VQ + VO))).often_), .slice V0 ((rd VP (qi (VQ + VO))).symbols_).length V2], by simp, by simp [Value.oneCell']⟩ : zx 2) hS rfl rfl Ue rfl Tryz.sizeOf178 rfl (V6.inb Uf) fun Ua w UC hz Uo hS => ?_
   obtain ⟨UB, hzm⟩ := vi (UA.set (Int.toNat (qi (VR + VO))) (qb.mk ((rd VP (qi (VQ + VO))).often_) ((rd VP (qi (VQ + VO))).symbols_)))
   replace hM := qp hzm hM
   have Ug := zn.set (x := (qb.mk ((rd VP (qi (VQ + VO))).often_) ((rd VP (qi (VQ + VO))).symbols_))) (r := (⟨[.int .i64 ((rd VP (qi (VQ + VO))).often_), .slice V0 ((rd VP (qi (VQ + VO))).symbols_).length V2], by simp, by simp [Value.oneCell']⟩ : zx 2)) (Int.toNat (qi (VR + VO))) V6 (show qk VX _ _ from ⟨V0, V2, rfl, Ut, Ur⟩)
   have Ui : Ua.length = Uj.length := by rw [hz]; exact List.length_set ..
   rw [← hz, ← hzm] at Ug; clear hz hzm
   have Uz := Eq.trans Ui Uy
   refine qm ?_
   replace hst := hS.st
   obtain ⟨hcl, hmust, hav2, hA⟩ := Qt (vals' := [some (.slice VS VT.length VU), some (.int .i64 VQ), some (.int .i64 VO), some (.int .i64 (qi (VQ + VO))), some (.slice VS VT.length VU), some (.int .i64 VR), some (.int .i64 VO), some (.int .i64 (qi (VR + VO))), some (.slice VS VT.length VU), some (.int .i64 VR), some (.int .i64 VO), some (.int .i64 (qi (VR + VO))), some (z9 VS (Int.toNat (qi (VR + VO)) * 2)), some (.agg ⟨[.int .i64 ((rd VP (qi (VR + VO))).often_), .slice VZ ((rd VP (qi (VR + VO))).symbols_).length V1]⟩), some (.slice VS VT.length VU), some (.int .i64 VQ), some (.int .i64 VO), some (.int .i64 (qi (VQ + VO))), some (z9 VS (Int.toNat (qi (VQ + VO)) * 2)), some (.agg ⟨[.int .i64 ((rd VP (qi (VQ + VO))).often_), .slice V0 ((rd VP (qi (VQ + VO))).symbols_).length V2]⟩), some (z9 VS (Int.toNat (qi (VQ + VO)) * 2)), some undef, some (z9 VS (Int.toNat (qi (VR + VO)) * 2)), some undef]) 23 [(0, 23), (1, 23), (2, 23), (3, 23), (4, 23), (5, 23), (6, 23), (7, 23), (8, 23), (9, 23), (10, 23), (11, 23), (12, 23), (13, 23), (14, 23), (15, 23), (16, 23), (17, 23), (18, 23), (19, 23), (20, 23), (21, 23), (22, 23)] hA hcl hav hm hpre rfl rfl rfl rfl rfl
   clear hm hav
   refine xq hA hst ho hcl hmust [] rfl rfl rfl trivial fun a w hS => ?_
   replace hS := hS.env2 (e' := [(0, .slice VS Ua.length VU), (1, .int .i64 VQ), (2, .int .i64 VR), (3, .int .i64 V5), (10, .int .i64 VO)]) ⟨(Xa (u := .slice VS VT.length VU) rfl (by rw [Ui, V9])), rfl, rfl, rfl, rfl, trivial⟩
   refine qW (qc ?_)
   refine zb <| sM hS rfl fun hS => sB hS rfl fun hS => qY (v := Value.int .i64) (x0 := (qi (VO + (1 : Int)))) hS (zE rfl) rfl fun UD a w hz hS => ?_
   have hM := qp hz hM; clear hz
   refine qL <| qc ?_
   exact Um _ _ ⟨Ua, UB, UC, UD, hS.to [0, 1] (by kernel_rfl) ⟨rfl, rfl, rfl, rfl, rfl, trivial⟩, Uo, Ug, Uz, hM⟩
  ·refine wp_exit ?_
   refine qv (qv (qO ?_))
   exact yW (rs := []) hS rfl rfl (hret VT VP Uc _ (qG hM) VY VV Uh (hS.st.pick [0, 1] (by kernel_rfl)))
theorem yj (cq : Nat) (hcq : cq = 116 ∨ cq = 144) {H : z7} {F : List qj} {w : World} {R : Ending → World → Prop} {kr : (List qb) → Prop} {kp : Value → Prop} (hG : Gl H) (K : Nat) (VZ : List qb) (V3 : Int) (VS : Int) (V4 : Int) (VR : qj) (VO : Option Addr) (VP : Nat) (VU : List (zx 2)) (Ug : qj) (Uv : zn (qk VR) VZ VU) (Ur : zM 178 (zx.v (sz := 2)) 2 VO VU VP Ug)
    (hS : St w H [VR, Ug] F) (hm : (qK.m K VZ V3 VS V4).wp kr kp)
    (hret : ∀ (Ub : List (zx 2)) (V1 : (List qb)) (Uo : qj) (w : World), kr V1 → (zM 178 (zx.v (sz := 2)) 2 VO Ub VP Uo) → (zn (qk VR) V1 Ub) → (Ub.length = VU.length) → St w H [VR, Uo] F → R (.returned (.tuple ⟨[]⟩)) w) :
    Calls Tryz.prog 158 ⟨[.slice VO VU.length VP, .int .i64 V3, .int .i64 VS, .int .i64 V4, yH cq [] []]⟩ w R := by
 refine enter Tryz.func158 rfl Tryz.ntmps158 rfl hS fun a w hS => ?_
 have hM := hm; clear hm
 rw [qK.m] at hM
 have UM : ∀ q ∈ VR, q ∈ VR := fun _ h => h
 have Ux : VU.length = VU.length := rfl
 refine qe <| sM hS rfl fun hS => sM hS rfl fun hS => sB hS rfl fun hS => qY (v := Value.int .i64) (x0 := (qi (VS - V3))) hS (zE rfl) rfl fun UI a w hz hS => ?_
 have hM := qp hz hM; clear hz
 refine qm <| qe <| sM hS rfl fun hS => sM hS rfl fun hS => sB hS rfl fun hS => qY (v := Value.int .i64) (x0 := (qi (V4 - VS))) hS (zE rfl) rfl fun UK a w hz hS => ?_
 have hM := qp hz hM; clear hz
 refine qm <| qV (fun a w => ∃ (VW : List (zx 2)) (VX : (List qb)) (Uc : qj) (V2 : Int), Ss 58 [] [(0, .slice VO VW.length VP), (2, .int .i64 VS), (4, yH cq [] []), (10, .int .i64 V2)] H [VR, Uc] F a w ∧ (zM 178 (zx.v (sz := 2)) 2 VO VW VP Uc) ∧ (zn (qk VR) VX VW) ∧ (VW.length = VU.length) ∧ (qK.j2 K VS VX V2).wp kr kp) (fun UO Uq => ?_) ?_
 ·refine z3 ?_
  refine q6 (fun Up a w => ∃ (VQ : List (zx 2)) (VT : (List qb)) (V0 : qj) (VV : Int) (VY : Int), Ss 58 [] [(0, .slice VO VQ.length VP), (2, .int .i64 VS), (4, yH cq [] []), (10, .int .i64 VV), (11, .int .i64 VY)] H [VR, V0] F a w ∧ (zM 178 (zx.v (sz := 2)) 2 VO VQ VP V0) ∧ (zn (qk VR) VT VQ) ∧ (VQ.length = VU.length) ∧ (qK.l1 K VS Up VT VV VY).wp kr kp) K ?_ ?_ ?_
  ·exact ⟨VU, VZ, Ug, UI, UK, hS.to [0, 1] (by kernel_rfl) ⟨rfl, rfl, rfl, rfl, rfl, trivial⟩, Ur, Uv, Ux, hM⟩
  ·intro a w hI; obtain ⟨_, _, _, _, _, _, _, _, _, hM⟩ := hI; exact qX hM
  ·intro Up a w hI UN Uk
   obtain ⟨VQ, VT, V0, VV, VY, hS, V5, V6, V7, hM⟩ := hI
   rw [qK.l1] at hM
   refine wp_seq <| qe <| sM hS rfl fun hS => sM hS rfl fun hS => sB hS rfl fun hS => qm <| qo hS rfl hM (fun Ut hM => ?_) (fun Ut hM => ?_)
   ·refine wp_skip ?_
    refine qc <| z3 <| qe <| sM hS rfl fun hS => sM hS rfl fun hS => sB hS rfl fun hS => qm <| qo hS rfl hM (fun Uu hM => ?_) (fun Uu hM => ?_)
    ·refine wp_seq ?_
     refine zb <| sM hS rfl fun hS => sM hS rfl fun hS => sM hS rfl fun hS => sB hS rfl fun hS => sM hS rfl fun hS => sM hS rfl fun hS => sM hS rfl fun hS => qq hS rfl Tryz.call159 (zZ cq hcq hG K VT (qi (VS - VV)) VS VY VR VO VP VQ V0 V6 V5 (hS.st.part 2 [0, 1] (by kernel_rfl)) (qh hM) (fun V8 Ud Ul w hM UC UD Uh hst => qn hS.ev hst.appF rfl fun hS => ?_))
     replace hS : Ss _ _ _ H [VR, Ul] F _ _ := hS
     have Uy := Eq.trans Uh V7
     replace hS := hS.re 0 (u := .slice VO VQ.length VP) (v := .slice VO V8.length VP) rfl (by rw [Uh])
     replace hS := hS.re 24 (u := .slice VO VQ.length VP) (v := .slice VO V8.length VP) rfl (by rw [Uh])
     refine qm <| zb <| sM hS rfl fun hS => sM hS rfl fun hS => sB hS rfl fun hS => qY (v := Value.int .i64) (x0 := (qi (VV - VY))) hS (zE rfl) rfl fun UJ a w hz hS => ?_
     have hM := qp hz hM; clear hz
     refine qL <| qW (qc ?_)
     exact Uk _ _ ⟨V8, Ud, Ul, UJ, VY, hS.to [0, 1] (by kernel_rfl) ⟨rfl, rfl, rfl, rfl, rfl, trivial⟩, UC, UD, Uy, hM⟩
    ·refine wp_seq ?_
     refine zb <| sM hS rfl fun hS => sM hS rfl fun hS => sM hS rfl fun hS => sB hS rfl fun hS => sM hS rfl fun hS => sM hS rfl fun hS => sB hS rfl fun hS => sM hS rfl fun hS => sB hS rfl fun hS => sM hS rfl fun hS => sM hS rfl fun hS => qq hS rfl Tryz.call159 (zZ cq hcq hG K VT (qi (VS - VV)) (qi ((qi (VS + VY)) - VV)) VV VR VO VP VQ V0 V6 V5 (hS.st.part 2 [0, 1] (by kernel_rfl)) (qh hM) (fun V9 Ue Um w hM UE UF Ui hst => qn hS.ev hst.appF rfl fun hS => ?_))
     replace hS : Ss _ _ _ H [VR, Um] F _ _ := hS
     have Uz := Eq.trans Ui V7
     replace hS := hS.re 0 (u := .slice VO VQ.length VP) (v := .slice VO V9.length VP) rfl (by rw [Ui])
     replace hS := hS.re 35 (u := .slice VO VQ.length VP) (v := .slice VO V9.length VP) rfl (by rw [Ui])
     refine qm <| zb <| sM hS rfl fun hS => sM hS rfl fun hS => sB hS rfl fun hS => qY (v := Value.int .i64) (x0 := (qi (VY - VV))) hS (zE rfl) rfl fun UL a w hz hS => ?_
     have hM := qp hz hM; clear hz
     refine qL <| qW (qc ?_)
     exact Uk _ _ ⟨V9, Ue, Um, VV, UL, hS.to [0, 1] (by kernel_rfl) ⟨rfl, rfl, rfl, rfl, rfl, trivial⟩, UE, UF, Uz, hM⟩
   ·refine wp_exit ?_
    refine qv (qv (qO (qc ?_)))
    exact Uq _ _ ⟨VQ, VT, V0, VV, hS.to [0, 1] (by kernel_rfl) ⟨rfl, rfl, rfl, rfl, trivial⟩, V5, V6, V7, hM⟩
 ·intro a w hI
  obtain ⟨VW, VX, Uc, V2, hS, Us, Uw, UA, hM⟩ := hI
  rw [qK.j2] at hM
  refine zb <| sM hS rfl fun hS => sM hS rfl fun hS => sM hS rfl fun hS => sB hS rfl fun hS => sM hS rfl fun hS => sM hS rfl fun hS => sM hS rfl fun hS => qq hS rfl Tryz.call159 (zZ cq hcq hG K VX (qi (VS - V2)) VS V2 VR VO VP VW Uc Uw Us (hS.st.part 2 [0, 1] (by kernel_rfl)) (qh hM) (fun Ua Uf Un w hM UG UH Uj hst => qn hS.ev hst.appF rfl fun hS => ?_))
  replace hS : Ss _ _ _ H [VR, Un] F _ _ := hS
  have UB := Eq.trans Uj UA
  replace hS := hS.re 0 (u := .slice VO VW.length VP) (v := .slice VO Ua.length VP) rfl (by rw [Uj])
  replace hS := hS.re 50 (u := .slice VO VW.length VP) (v := .slice VO Ua.length VP) rfl (by rw [Uj])
  refine qL ?_
  exact yW (rs := []) hS rfl rfl (hret Ua Uf Un _ (qG hM) UG UH UB (hS.st.pick [0, 1] (by kernel_rfl)))
theorem x6 (cq : Nat) (hcq : cq = 116 ∨ cq = 144) (K : Nat) : ∀ (d : Nat) {H : z7} {F : List qj} {w : World} {R : Ending → World → Prop} {kr : (List qb) → Prop} {kp : Value → Prop} (hG : Gl H) (VO : List qb) (VW : Int) (VX : Int) (V0 : Int) (VZ : qj) (VP : Option Addr) (VS : Nat) (VV : List (zx 2)) (V7 : qj) (V1 : zn (qk VZ) VO VV) (V6 : zM 178 (zx.v (sz := 2)) 2 VP VV VS V7)
    (hS : St w H [VZ, V7] F) (hm : (qa.r K d VO VW VX V0).wp kr kp)
    (hret : ∀ (UZ : List (zx 2)) (UH : (List qb)) (KR : qj) (w : World), kr UH → (zM 178 (zx.v (sz := 2)) 2 VP UZ VS KR) → (zn (qk VZ) UH UZ) → (UZ.length = VV.length) → St w H [VZ, KR] F → R (.returned (.tuple ⟨[]⟩)) w),
    Calls Tryz.prog 155 ⟨[.slice VP VV.length VS, .int .i64 VW, .int .i64 VX, .int .i64 V0, yH cq [] []]⟩ w R := by
  intro d
  induction d with
  | zero => intro H F w R kr kp hG VO VW VX V0 VZ VP VS VV V7 V1 V6 hS hm hret; exact (qX hm).elim
  | succ d ih =>
  intro H F w R kr kp hG VO VW VX V0 VZ VP VS VV V7 V1 V6 hS hm hret
  have hM := hm; clear hm
  rw [qa.r] at hM; rw [qa.b] at hM
  refine enter Tryz.func155 rfl Tryz.ntmps155 rfl hS fun a w hS => ?_
  have Db : ∀ q ∈ VZ, q ∈ VZ := fun _ h => h
  have UG : VV.length = VV.length := rfl
  refine qV (fun a w => Ss 220 [] [(0, .slice VP VV.length VS), (1, .int .i64 VW), (2, .int .i64 VX), (3, .int .i64 V0), (4, yH cq [] [])] H [VZ, V7] F a w ∧ (qa.j4 K (qa.r K d) VO VW VX V0).wp kr kp) (fun Df KZ => ?_) ?_
  ·refine wp_seq ?_
   refine zb <| sM hS rfl fun hS => sM hS rfl fun hS => sB hS rfl fun hS => sB hS rfl fun hS => qm <| qo hS rfl hM (fun K6 hM => ?_) (fun K6 hM => ?_)
   ·refine wp_seq ?_
    refine zb <| sM hS rfl fun hS => sA hS rfl fun hS => qm <| qe <| sM hS rfl fun hS => sA hS rfl fun hS => qm <| qV (fun a w => ∃ (Uz : Int), Ss 220 [] [(0, .slice VP VV.length VS), (1, .int .i64 VW), (10, .int .i64 Uz)] H [VZ, V7] F a w ∧ (qa.j2 K (qa.r K d) VO VW Uz).wp kr kp) (fun Dd KX => ?_) ?_
    ·refine z3 ?_
     refine q6 (fun KS a w => ∃ (Ux : Int) (UB : Int), Ss 220 [] [(0, .slice VP VV.length VS), (1, .int .i64 VW), (4, yH cq [] []), (10, .int .i64 Ux), (11, .int .i64 UB)] H [VZ, V7] F a w ∧ (qa.l1 K (qa.r K d) VO VW KS Ux UB).wp kr kp) K ?_ ?_ ?_
     ·exact ⟨VX, V0, hS.to [0, 1] (by kernel_rfl) ⟨rfl, rfl, rfl, rfl, rfl, trivial⟩, hM⟩
     ·intro a w hI; obtain ⟨_, _, _, hM⟩ := hI; exact qX hM
     ·intro KS a w hI Dc Kp
      obtain ⟨Ux, UB, hS, hM⟩ := hI
      rw [qa.l1] at hM
      refine wp_seq <| qe <| sM hS rfl fun hS => sM hS rfl fun hS => sB hS rfl fun hS => qm <| qo hS rfl hM (fun K7 hM => ?_) (fun K7 hM => ?_)
      ·refine wp_skip ?_
       refine qc <| z3 <| qe <| sM hS rfl fun hS => sM hS rfl fun hS => sB hS rfl fun hS => sO hS (yT rfl Tryz.runUnderlying3 Tryz.runUnderlying84) rfl fun hS => sO hS (shr rfl rfl rfl) rfl fun hS => sO hS (yT rfl Tryz.runUnderlying84 Tryz.runUnderlying3) rfl fun hS => qY (v := Value.int .i64) (x0 := (wr .i64 (zX .u64 (wr .u64 (qi (Ux + UB))) (1 : Int)))) hS (zE rfl) rfl fun Ub a w hz hS => ?_
       have hM := qp hz hM; clear hz
       refine qm <| wp_seq ?_
       obtain ⟨UK, hM⟩ := qt hM
       obtain ⟨U0, U6, BE, Bu, Bk⟩ := V1.get UK
       obtain ⟨UL, hM⟩ := qt hM
       obtain ⟨U1, U7, BF, Bv, Bl⟩ := V1.get UL
       refine qM (vals := [some (yH cq [] []), some (.slice VP VV.length VS), some (.int .i64 Ub), some (z9 VP (Int.toNat Ub * 2)), some (.agg ⟨[.int .i64 ((rd VO Ub).often_), .slice U0 ((rd VO Ub).symbols_).length U6]⟩), some (.slice VP VV.length VS), some (.int .i64 VW), some (z9 VP (Int.toNat VW * 2)), some (.agg ⟨[.int .i64 ((rd VO VW).often_), .slice U1 ((rd VO VW).symbols_).length U7]⟩), none, none]) hS zV rfl ?_
       intro l w ho hcl hA hst
       refine x4 hA hst ho hcl zO zW 9 [0, 1, 2, 3, 4, 5, 6, 7, 8] rfl rfl rfl rfl rfl (by exact ⟨nM rfl, nM rfl, nM rfl, nQ rfl (by exact qJ (xF rfl rfl Tryz.runUnderlying176 Tryz.sizeOf178 (V6.rd (i := 1) rfl) zx.len rfl (V1.inb UK)) rfl), nQ rfl (by exact qJ (qJ (jj rfl (V6.rd (i := 1) rfl) zx.len (V1.inb UK) Tryz.isAgg178 Tryz.sizeOf178 rfl) (congrArg (fun l => Value.agg ⟨l⟩) BE)) rfl), nM rfl, nM rfl, nQ rfl (by exact qJ (xF rfl rfl Tryz.runUnderlying176 Tryz.sizeOf178 (V6.rd (i := 1) rfl) zx.len rfl (V1.inb UL)) rfl), nQ rfl (by exact qJ (qJ (jj rfl (V6.rd (i := 1) rfl) zx.len (V1.inb UL) Tryz.isAgg178 Tryz.sizeOf178 rfl) (congrArg (fun l => Value.agg ⟨l⟩) BF)) rfl), trivial⟩) fun D l a w ho hcl hav hpre hm hE hk hA hst => ?_
       have hS := (Ss.mk hE hst).env2 (e' := [(40, yH cq [] []), (44, .agg ⟨[.int .i64 ((rd VO Ub).often_), .slice U0 ((rd VO Ub).symbols_).length U6]⟩), (48, .agg ⟨[.int .i64 ((rd VO VW).often_), .slice U1 ((rd VO VW).symbols_).length U7]⟩)]) ⟨rfl, rfl, rfl, trivial⟩
       refine qC rfl <| yY hS rfl rfl (v5 hcq) (uA cq hcq hG K (qb.mk ((rd VO Ub).often_) ((rd VO Ub).symbols_)) (qb.mk ((rd VO VW).often_) ((rd VO VW).symbols_)) U0 U6 U1 U7 (Bu.rdF (i := 0) rfl) Bk (Bv.rdF (i := 0) rfl) Bl (hS.st.part 0 [0, 1] (by kernel_rfl)) (qh hM) (fun KN w hM  hst => qn hS.ev hst.appF rfl fun hS => ?_))
       replace hS : Ss _ _ _ H [VZ, V7] F _ _ := hS
       refine qm ?_
       replace hst := hS.st
       obtain ⟨hcl, hmust, hav2, hA⟩ := dn (vals' := [some (yH cq [] []), some (.slice VP VV.length VS), some (.int .i64 Ub), some (z9 VP (Int.toNat Ub * 2)), some (.agg ⟨[.int .i64 ((rd VO Ub).often_), .slice U0 ((rd VO Ub).symbols_).length U6]⟩), some (.slice VP VV.length VS), some (.int .i64 VW), some (z9 VP (Int.toNat VW * 2)), some (.agg ⟨[.int .i64 ((rd VO VW).often_), .slice U1 ((rd VO VW).symbols_).length U7]⟩), some (.int .i64 KN), some (.bool (decide (KN < (0 : Int))))]) 9 [(0, 9), (4, 9), (8, 9), (3, 4), (7, 8), (1, 3), (2, 3), (5, 7), (6, 7)] hA hcl hav hm hpre hk rfl rfl rfl rfl rfl rfl rfl
       clear hm hav
       refine xq hA hst ho hcl hmust [10] rfl rfl rfl (by exact ⟨nB rfl, trivial⟩) fun a w hS => ?_
       replace hS := hS.env2 (e' := [(0, .slice VP VV.length VS), (1, .int .i64 VW), (4, yH cq [] []), (10, .int .i64 Ux), (11, .int .i64 UB), (12, .int .i64 Ub), (50, .bool (decide (KN < (0 : Int))))]) ⟨rfl, rfl, rfl, rfl, rfl, rfl, rfl, trivial⟩
       refine qc <| qo hS rfl hM (fun K8 hM => ?_) (fun K8 hM => ?_)
       ·refine zb ?_
        refine sM hS rfl fun hS => sB hS rfl fun hS => qY (v := Value.int .i64) (x0 := (qi (Ub + (1 : Int)))) hS (zE rfl) rfl fun B9 a w hz hS => ?_
        have hM := qp hz hM; clear hz
        refine qL <| qW (qc ?_)
        exact Kp _ _ ⟨B9, UB, hS.to [0, 1] (by kernel_rfl) ⟨rfl, rfl, rfl, rfl, rfl, trivial⟩, hM⟩
       ·refine zb ?_
        refine sM hS rfl fun hS => sA hS rfl fun hS => qL <| qW (qc ?_)
        exact Kp _ _ ⟨Ux, Ub, hS.to [0, 1] (by kernel_rfl) ⟨rfl, rfl, rfl, rfl, rfl, trivial⟩, hM⟩
      ·refine wp_exit ?_
       refine qv (qv (qO (qc ?_)))
       exact KX _ _ ⟨Ux, hS.to [0, 1] (by kernel_rfl) ⟨rfl, rfl, rfl, trivial⟩, hM⟩
    ·intro a w hI
     obtain ⟨Uz, hS, hM⟩ := hI
     rw [qa.j2] at hM
     refine wp_seq <| qe <| sM hS rfl fun hS => sA hS rfl fun hS => qm <| z3 <| q6 (fun KT a w => ∃ (V3 : List (zx 2)) (VT : (List qb)) (Kc : qj) (VQ : Int), Ss 220 [] [(0, .slice VP V3.length VS), (10, .int .i64 Uz), (13, .int .i64 VQ)] H [VZ, Kc] F a w ∧ (zM 178 (zx.v (sz := 2)) 2 VP V3 VS Kc) ∧ (zn (qk VZ) VT V3) ∧ (V3.length = VV.length) ∧ (qa.l3 K (qa.r K d) Uz KT VT VQ).wp kr kp) K ?_ ?_ ?_
     ·exact ⟨VV, VO, V7, VW, hS.to [0, 1] (by kernel_rfl) ⟨rfl, rfl, rfl, trivial⟩, V6, V1, UG, hM⟩
     ·intro a w hI; obtain ⟨_, _, _, _, _, _, _, _, hM⟩ := hI; exact qX hM
     ·intro KT a w hI De KY
      obtain ⟨V3, VT, Kc, VQ, hS, Ul, Ud, KF, hM⟩ := hI
      rw [qa.l3] at hM
      refine wp_seq <| qe <| sM hS rfl fun hS => sM hS rfl fun hS => sB hS rfl fun hS => sB hS rfl fun hS => qm <| qo hS rfl hM (fun K9 hM => ?_) (fun K9 hM => ?_)
      ·refine wp_skip ?_
       refine qc <| wp_seq <| z3 ?_
       obtain ⟨UM, hM⟩ := qt hM
       obtain ⟨Un, Ur, BG, Bw, Bm⟩ := Ud.get UM
       obtain ⟨Uv, hM⟩ := qt hM
       obtain ⟨Uo, Us, BH, Bx, Bn⟩ := Ud.get Uv
       refine qM (vals := [some (.slice VP V3.length VS), some (.int .i64 VQ), some (.slice VP V3.length VS), some (.int .i64 VQ), some (.int .i64 (qi (VQ + (1 : Int)))), some (.slice VP V3.length VS), some (.int .i64 VQ), some (.int .i64 (qi (VQ + (1 : Int)))), some (z9 VP (Int.toNat (qi (VQ + (1 : Int))) * 2)), some (.agg ⟨[.int .i64 ((rd VT (qi (VQ + (1 : Int)))).often_), .slice Un ((rd VT (qi (VQ + (1 : Int)))).symbols_).length Ur]⟩), some (.slice VP V3.length VS), some (.int .i64 VQ), some (z9 VP (Int.toNat VQ * 2)), some (.agg ⟨[.int .i64 ((rd VT VQ).often_), .slice Uo ((rd VT VQ).symbols_).length Us]⟩), some (z9 VP (Int.toNat VQ * 2)), none, none, none]) hS zV rfl ?_
       intro l w ho hcl hA hst
       refine x4 hA hst ho hcl zO zW 15 [0, 1, 2, 3, 4, 5, 6, 7, 8, 9, 10, 11, 12, 13, 14] rfl rfl rfl rfl rfl (by exact ⟨nM rfl, nM rfl, nM rfl, nM rfl, nB rfl, nM rfl, nM rfl, nB rfl, nQ rfl (by exact qJ (xF rfl rfl Tryz.runUnderlying176 Tryz.sizeOf178 (Ul.rd (i := 1) rfl) zx.len rfl (Ud.inb UM)) rfl), nQ rfl (by exact qJ (qJ (jj rfl (Ul.rd (i := 1) rfl) zx.len (Ud.inb UM) Tryz.isAgg178 Tryz.sizeOf178 rfl) (congrArg (fun l => Value.agg ⟨l⟩) BG)) rfl), nM rfl, nM rfl, nQ rfl (by exact qJ (xF rfl rfl Tryz.runUnderlying176 Tryz.sizeOf178 (Ul.rd (i := 1) rfl) zx.len rfl (Ud.inb Uv)) rfl), nQ rfl (by exact qJ (qJ (jj rfl (Ul.rd (i := 1) rfl) zx.len (Ud.inb Uv) Tryz.isAgg178 Tryz.sizeOf178 rfl) (congrArg (fun l => Value.agg ⟨l⟩) BH)) rfl), nQ rfl (by exact qJ (xF rfl rfl Tryz.runUnderlying176 Tryz.sizeOf178 (Ul.rd (i := 1) rfl) zx.len rfl (Ud.inb Uv)) rfl), trivial⟩) fun D l a w ho hcl hav hpre hm hE hk hA hst => ?_
       have hS := (Ss.mk hE hst).env2 (e' := [(70, .agg ⟨[.int .i64 ((rd VT (qi (VQ + (1 : Int)))).often_), .slice Un ((rd VT (qi (VQ + (1 : Int)))).symbols_).length Ur]⟩), (75, z9 VP (Int.toNat VQ * 2))]) ⟨rfl, rfl, trivial⟩
       refine qC rfl <| Xd (i := VQ) (sz := 2) 1 (⟨[.int .i64 ((rd VT (qi (VQ + (1 : Int)))).often_), .slice Un ((rd VT (qi (VQ + (1 : Int)))).symbols_).length Ur], by simp, by simp [Value.oneCell']⟩ : zx 2) hS rfl rfl Ul rfl Tryz.sizeOf178 rfl (Ud.inb Uv) fun KL w Dp hz Kv hS => ?_
       obtain ⟨BX, hzm⟩ := vi (VT.set (Int.toNat VQ) (qb.mk ((rd VT (qi (VQ + (1 : Int)))).often_) ((rd VT (qi (VQ + (1 : Int)))).symbols_)))
       replace hM := qp hzm hM
       have UE := zn.set (x := (qb.mk ((rd VT (qi (VQ + (1 : Int)))).often_) ((rd VT (qi (VQ + (1 : Int)))).symbols_))) (r := (⟨[.int .i64 ((rd VT (qi (VQ + (1 : Int)))).often_), .slice Un ((rd VT (qi (VQ + (1 : Int)))).symbols_).length Ur], by simp, by simp [Value.oneCell']⟩ : zx 2)) (Int.toNat VQ) Ud (show qk VZ _ _ from ⟨Un, Ur, rfl, Bw, Bm⟩)
       have US : KL.length = V3.length := by rw [hz]; exact List.length_set ..
       rw [← hz, ← hzm] at UE; clear hz hzm
       have BO := Eq.trans US KF
       refine qm ?_
       replace hst := hS.st
       obtain ⟨Kz, hM⟩ := qt hM
       obtain ⟨hcl, hmust, hav2, hA⟩ := Qt (vals' := [some (.slice VP V3.length VS), some (.int .i64 VQ), some (.slice VP V3.length VS), some (.int .i64 VQ), some (.int .i64 (qi (VQ + (1 : Int)))), some (.slice VP V3.length VS), some (.int .i64 VQ), some (.int .i64 (qi (VQ + (1 : Int)))), some (z9 VP (Int.toNat (qi (VQ + (1 : Int))) * 2)), some (.agg ⟨[.int .i64 ((rd VT (qi (VQ + (1 : Int)))).often_), .slice Un ((rd VT (qi (VQ + (1 : Int)))).symbols_).length Ur]⟩), some (.slice VP V3.length VS), some (.int .i64 VQ), some (z9 VP (Int.toNat VQ * 2)), some (.agg ⟨[.int .i64 ((rd VT VQ).often_), .slice Uo ((rd VT VQ).symbols_).length Us]⟩), some (z9 VP (Int.toNat VQ * 2)), some undef, some (z9 VP (Int.toNat (qi (VQ + (1 : Int))) * 2)), none]) 15 [(0, 15), (1, 15), (5, 15), (6, 15), (7, 15), (8, 15), (9, 15), (13, 15), (14, 15), (12, 13), (10, 12), (11, 12)] hA hcl hav hm hpre rfl rfl rfl rfl rfl
       clear hm hav
       refine x4 hA hst ho hcl hav2 hmust 17 [2, 3, 4, 16] rfl rfl rfl rfl rfl (by exact ⟨nM rfl, nM rfl, nB rfl, nQ rfl (by exact qJ (xF (Yj US rfl) rfl Tryz.runUnderlying176 Tryz.sizeOf178 (Kv.rd (i := 1) rfl) zx.len rfl (UE.inb Kz)) rfl), trivial⟩) fun D l a w ho hcl hav hpre hm hE hk hA hst => ?_
       have hS := (Ss.mk hE hst).env2 (e' := [(74, .agg ⟨[.int .i64 ((rd VT VQ).often_), .slice Uo ((rd VT VQ).symbols_).length Us]⟩), (76, z9 VP (Int.toNat (qi (VQ + (1 : Int))) * 2))]) ⟨rfl, rfl, trivial⟩
       refine qC rfl <| Xd (i := (qi (VQ + (1 : Int)))) (sz := 2) 1 (⟨[.int .i64 ((rd VT VQ).often_), .slice Uo ((rd VT VQ).symbols_).length Us], by simp, by simp [Value.oneCell']⟩ : zx 2) hS rfl rfl Kv rfl Tryz.sizeOf178 rfl (UE.inb Kz) fun UU w B1 hz K4 hS => ?_
       obtain ⟨BY, hzm⟩ := vi (BX.set (Int.toNat (qi (VQ + (1 : Int)))) (qb.mk ((rd VT VQ).often_) ((rd VT VQ).symbols_)))
       replace hM := qp hzm hM
       have KB := zn.set (x := (qb.mk ((rd VT VQ).often_) ((rd VT VQ).symbols_))) (r := (⟨[.int .i64 ((rd VT VQ).often_), .slice Uo ((rd VT VQ).symbols_).length Us], by simp, by simp [Value.oneCell']⟩ : zx 2)) (Int.toNat (qi (VQ + (1 : Int)))) UE (show qk VZ _ _ from ⟨Uo, Us, rfl, Bx, Bn⟩)
       have KG : UU.length = KL.length := by rw [hz]; exact List.length_set ..
       rw [← hz, ← hzm] at KB; clear hz hzm
       have BP := Eq.trans KG BO
       refine qm ?_
       replace hst := hS.st
       obtain ⟨hcl, hmust, hav2, hA⟩ := Qt (vals' := [some (.slice VP V3.length VS), some (.int .i64 VQ), some (.slice VP V3.length VS), some (.int .i64 VQ), some (.int .i64 (qi (VQ + (1 : Int)))), some (.slice VP V3.length VS), some (.int .i64 VQ), some (.int .i64 (qi (VQ + (1 : Int)))), some (z9 VP (Int.toNat (qi (VQ + (1 : Int))) * 2)), some (.agg ⟨[.int .i64 ((rd VT (qi (VQ + (1 : Int)))).often_), .slice Un ((rd VT (qi (VQ + (1 : Int)))).symbols_).length Ur]⟩), some (.slice VP V3.length VS), some (.int .i64 VQ), some (z9 VP (Int.toNat VQ * 2)), some (.agg ⟨[.int .i64 ((rd VT VQ).often_), .slice Uo ((rd VT VQ).symbols_).length Us]⟩), some (z9 VP (Int.toNat VQ * 2)), some undef, some (z9 VP (Int.toNat (qi (VQ + (1 : Int))) * 2)), some undef]) 17 [(0, 17), (1, 17), (2, 17), (3, 17), (4, 17), (5, 17), (6, 17), (7, 17), (8, 17), (9, 17), (10, 17), (11, 17), (12, 17), (13, 17), (14, 17), (15, 17), (16, 17)] hA hcl hav hm hpre rfl rfl rfl rfl rfl
       clear hm hav
       refine xq hA hst ho hcl hmust [] rfl rfl rfl trivial fun a w hS => ?_
       replace hS := hS.env2 (e' := [(0, .slice VP UU.length VS), (10, .int .i64 Uz), (13, .int .i64 VQ)]) ⟨(Xa (u := .slice VP V3.length VS) rfl (by rw [KG, US])), rfl, rfl, trivial⟩
       refine qW (qc ?_)
       refine zb <| sM hS rfl fun hS => sB hS rfl fun hS => qY (v := Value.int .i64) (x0 := (qi (VQ + (1 : Int)))) hS (zE rfl) rfl fun BV a w hz hS => ?_
       have hM := qp hz hM; clear hz
       refine qL <| qc ?_
       exact KY _ _ ⟨UU, BY, B1, BV, hS.to [0, 1] (by kernel_rfl) ⟨rfl, rfl, rfl, trivial⟩, K4, KB, BP, hM⟩
      ·refine wp_exit ?_
       refine qv (qv (qO (qc ?_)))
       refine wp_ret <| qu ?_
       exact qP (rs := []) hS rfl rfl (hret V3 VT Kc _ (qG hM) Ul Ud KF (hS.st.pick [0, 1] (by kernel_rfl)))
   ·refine wp_skip ?_
    refine qc ?_
    exact KZ _ _ ⟨hS.to [0, 1] (by kernel_rfl) ⟨rfl, rfl, rfl, rfl, rfl, trivial⟩, hM⟩
  ·intro a w hI
   obtain ⟨hS, hM⟩ := hI
   rw [qa.j4] at hM
   refine qV (fun a w => Ss 220 [] [(0, .slice VP VV.length VS), (1, .int .i64 VW), (2, .int .i64 VX), (3, .int .i64 V0), (4, yH cq [] [])] H [VZ, V7] F a w ∧ (qa.j8 K (qa.r K d) VO VW VX V0).wp kr kp) (fun Dj K2 => ?_) ?_
   ·refine wp_seq ?_
    refine zb <| sM hS rfl fun hS => sM hS rfl fun hS => sB hS rfl fun hS => sB hS rfl fun hS => qm <| qo hS rfl hM (fun Ba hM => ?_) (fun Ba hM => ?_)
    ·refine wp_seq ?_
     refine zb <| sM hS rfl fun hS => sA hS rfl fun hS => qm <| qe <| sM hS rfl fun hS => sA hS rfl fun hS => qm <| qV (fun a w => ∃ (UA : Int), Ss 220 [] [(0, .slice VP VV.length VS), (2, .int .i64 VX), (14, .int .i64 UA)] H [VZ, V7] F a w ∧ (qa.j6 K (qa.r K d) VO VX UA).wp kr kp) (fun Dh K0 => ?_) ?_
     ·refine z3 ?_
      refine q6 (fun KU a w => ∃ (Uy : Int) (UC : Int), Ss 220 [] [(0, .slice VP VV.length VS), (2, .int .i64 VX), (4, yH cq [] []), (14, .int .i64 Uy), (15, .int .i64 UC)] H [VZ, V7] F a w ∧ (qa.l5 K (qa.r K d) VO VX KU Uy UC).wp kr kp) K ?_ ?_ ?_
      ·exact ⟨VW, VX, hS.to [0, 1] (by kernel_rfl) ⟨rfl, rfl, rfl, rfl, rfl, trivial⟩, hM⟩
      ·intro a w hI; obtain ⟨_, _, _, hM⟩ := hI; exact qX hM
      ·intro KU a w hI Dg Kq
       obtain ⟨Uy, UC, hS, hM⟩ := hI
       rw [qa.l5] at hM
       refine wp_seq <| qe <| sM hS rfl fun hS => sM hS rfl fun hS => sB hS rfl fun hS => qm <| qo hS rfl hM (fun Bb hM => ?_) (fun Bb hM => ?_)
       ·refine wp_skip ?_
        refine qc <| z3 <| qe <| sM hS rfl fun hS => sM hS rfl fun hS => sB hS rfl fun hS => sO hS (yT rfl Tryz.runUnderlying3 Tryz.runUnderlying84) rfl fun hS => sO hS (shr rfl rfl rfl) rfl fun hS => sO hS (yT rfl Tryz.runUnderlying84 Tryz.runUnderlying3) rfl fun hS => qY (v := Value.int .i64) (x0 := (wr .i64 (zX .u64 (wr .u64 (qi (Uy + UC))) (1 : Int)))) hS (zE rfl) rfl fun Uc a w hz hS => ?_
        have hM := qp hz hM; clear hz
        refine qm <| wp_seq ?_
        obtain ⟨UN, hM⟩ := qt hM
        obtain ⟨U2, U8, BI, By, Bo⟩ := V1.get UN
        obtain ⟨UO, hM⟩ := qt hM
        obtain ⟨U3, U9, BJ, Bz, Bp⟩ := V1.get UO
        refine qM (vals := [some (yH cq [] []), some (.slice VP VV.length VS), some (.int .i64 VX), some (z9 VP (Int.toNat VX * 2)), some (.agg ⟨[.int .i64 ((rd VO VX).often_), .slice U2 ((rd VO VX).symbols_).length U8]⟩), some (.slice VP VV.length VS), some (.int .i64 Uc), some (z9 VP (Int.toNat Uc * 2)), some (.agg ⟨[.int .i64 ((rd VO Uc).often_), .slice U3 ((rd VO Uc).symbols_).length U9]⟩), none, none, none]) hS zV rfl ?_
        intro l w ho hcl hA hst
        refine x4 hA hst ho hcl zO zW 9 [0, 1, 2, 3, 4, 5, 6, 7, 8] rfl rfl rfl rfl rfl (by exact ⟨nM rfl, nM rfl, nM rfl, nQ rfl (by exact qJ (xF rfl rfl Tryz.runUnderlying176 Tryz.sizeOf178 (V6.rd (i := 1) rfl) zx.len rfl (V1.inb UN)) rfl), nQ rfl (by exact qJ (qJ (jj rfl (V6.rd (i := 1) rfl) zx.len (V1.inb UN) Tryz.isAgg178 Tryz.sizeOf178 rfl) (congrArg (fun l => Value.agg ⟨l⟩) BI)) rfl), nM rfl, nM rfl, nQ rfl (by exact qJ (xF rfl rfl Tryz.runUnderlying176 Tryz.sizeOf178 (V6.rd (i := 1) rfl) zx.len rfl (V1.inb UO)) rfl), nQ rfl (by exact qJ (qJ (jj rfl (V6.rd (i := 1) rfl) zx.len (V1.inb UO) Tryz.isAgg178 Tryz.sizeOf178 rfl) (congrArg (fun l => Value.agg ⟨l⟩) BJ)) rfl), trivial⟩) fun D l a w ho hcl hav hpre hm hE hk hA hst => ?_
        have hS := (Ss.mk hE hst).env2 (e' := [(92, yH cq [] []), (96, .agg ⟨[.int .i64 ((rd VO VX).often_), .slice U2 ((rd VO VX).symbols_).length U8]⟩), (100, .agg ⟨[.int .i64 ((rd VO Uc).often_), .slice U3 ((rd VO Uc).symbols_).length U9]⟩)]) ⟨rfl, rfl, rfl, trivial⟩
        refine qC rfl <| yY hS rfl rfl (v5 hcq) (uA cq hcq hG K (qb.mk ((rd VO VX).often_) ((rd VO VX).symbols_)) (qb.mk ((rd VO Uc).often_) ((rd VO Uc).symbols_)) U2 U8 U3 U9 (By.rdF (i := 0) rfl) Bo (Bz.rdF (i := 0) rfl) Bp (hS.st.part 0 [0, 1] (by kernel_rfl)) (qh hM) (fun Kf w hM  hst => qn hS.ev hst.appF rfl fun hS => ?_))
        replace hS : Ss _ _ _ H [VZ, V7] F _ _ := hS
        refine qm ?_
        replace hst := hS.st
        obtain ⟨hcl, hmust, hav2, hA⟩ := dn (vals' := [some (yH cq [] []), some (.slice VP VV.length VS), some (.int .i64 VX), some (z9 VP (Int.toNat VX * 2)), some (.agg ⟨[.int .i64 ((rd VO VX).often_), .slice U2 ((rd VO VX).symbols_).length U8]⟩), some (.slice VP VV.length VS), some (.int .i64 Uc), some (z9 VP (Int.toNat Uc * 2)), some (.agg ⟨[.int .i64 ((rd VO Uc).often_), .slice U3 ((rd VO Uc).symbols_).length U9]⟩), some (.int .i64 Kf), some (.bool (decide (Kf < (0 : Int)))), some (.bool (!(decide (Kf < (0 : Int)))))]) 9 [(0, 9), (4, 9), (8, 9), (3, 4), (7, 8), (1, 3), (2, 3), (5, 7), (6, 7)] hA hcl hav hm hpre hk rfl rfl rfl rfl rfl rfl rfl
        clear hm hav
        refine xq hA hst ho hcl hmust [10, 11] rfl rfl rfl (by exact ⟨nB rfl, nQ rfl (by exact qJ (un rfl rfl) rfl), trivial⟩) fun a w hS => ?_
        replace hS := hS.env2 (e' := [(0, .slice VP VV.length VS), (2, .int .i64 VX), (4, yH cq [] []), (14, .int .i64 Uy), (15, .int .i64 UC), (16, .int .i64 Uc), (103, .bool (!(decide (Kf < (0 : Int)))))]) ⟨rfl, rfl, rfl, rfl, rfl, rfl, rfl, trivial⟩
        refine qc <| qo hS rfl hM (fun Bc hM => ?_) (fun Bc hM => ?_)
        ·refine zb ?_
         refine sM hS rfl fun hS => sB hS rfl fun hS => qY (v := Value.int .i64) (x0 := (qi (Uc + (1 : Int)))) hS (zE rfl) rfl fun Da a w hz hS => ?_
         have hM := qp hz hM; clear hz
         refine qL <| qW (qc ?_)
         exact Kq _ _ ⟨Da, UC, hS.to [0, 1] (by kernel_rfl) ⟨rfl, rfl, rfl, rfl, rfl, trivial⟩, hM⟩
        ·refine zb ?_
         refine sM hS rfl fun hS => sA hS rfl fun hS => qL <| qW (qc ?_)
         exact Kq _ _ ⟨Uy, Uc, hS.to [0, 1] (by kernel_rfl) ⟨rfl, rfl, rfl, rfl, rfl, trivial⟩, hM⟩
       ·refine wp_exit ?_
        refine qv (qv (qO (qc ?_)))
        exact K0 _ _ ⟨Uy, hS.to [0, 1] (by kernel_rfl) ⟨rfl, rfl, rfl, trivial⟩, hM⟩
     ·intro a w hI
      obtain ⟨UA, hS, hM⟩ := hI
      rw [qa.j6] at hM
      refine wp_seq <| qe <| sM hS rfl fun hS => sA hS rfl fun hS => qm <| z3 <| q6 (fun KV a w => ∃ (V4 : List (zx 2)) (VU : (List qb)) (Kd : qj) (VR : Int), Ss 220 [] [(0, .slice VP V4.length VS), (14, .int .i64 UA), (17, .int .i64 VR)] H [VZ, Kd] F a w ∧ (zM 178 (zx.v (sz := 2)) 2 VP V4 VS Kd) ∧ (zn (qk VZ) VU V4) ∧ (V4.length = VV.length) ∧ (qa.l7 K (qa.r K d) UA KV VU VR).wp kr kp) K ?_ ?_ ?_
      ·exact ⟨VV, VO, V7, VX, hS.to [0, 1] (by kernel_rfl) ⟨rfl, rfl, rfl, trivial⟩, V6, V1, UG, hM⟩
      ·intro a w hI; obtain ⟨_, _, _, _, _, _, _, _, hM⟩ := hI; exact qX hM
      ·intro KV a w hI Di K1
       obtain ⟨V4, VU, Kd, VR, hS, Um, Ue, KH, hM⟩ := hI
       rw [qa.l7] at hM
       refine wp_seq <| qe <| sM hS rfl fun hS => sM hS rfl fun hS => sB hS rfl fun hS => qm <| qo hS rfl hM (fun Bd hM => ?_) (fun Bd hM => ?_)
       ·refine wp_skip ?_
        refine qc <| wp_seq <| z3 ?_
        obtain ⟨UP, hM⟩ := qt hM
        obtain ⟨Up, Ut, BK, BA, Bq⟩ := Ue.get UP
        obtain ⟨Uw, hM⟩ := qt hM
        obtain ⟨Uq, Uu, BL, BB, Br⟩ := Ue.get Uw
        refine qM (vals := [some (.slice VP V4.length VS), some (.int .i64 VR), some (.slice VP V4.length VS), some (.int .i64 VR), some (.int .i64 (qi (VR - (1 : Int)))), some (.slice VP V4.length VS), some (.int .i64 VR), some (.int .i64 (qi (VR - (1 : Int)))), some (z9 VP (Int.toNat (qi (VR - (1 : Int))) * 2)), some (.agg ⟨[.int .i64 ((rd VU (qi (VR - (1 : Int)))).often_), .slice Up ((rd VU (qi (VR - (1 : Int)))).symbols_).length Ut]⟩), some (.slice VP V4.length VS), some (.int .i64 VR), some (z9 VP (Int.toNat VR * 2)), some (.agg ⟨[.int .i64 ((rd VU VR).often_), .slice Uq ((rd VU VR).symbols_).length Uu]⟩), some (z9 VP (Int.toNat VR * 2)), none, none, none]) hS zV rfl ?_
        intro l w ho hcl hA hst
        refine x4 hA hst ho hcl zO zW 15 [0, 1, 2, 3, 4, 5, 6, 7, 8, 9, 10, 11, 12, 13, 14] rfl rfl rfl rfl rfl (by exact ⟨nM rfl, nM rfl, nM rfl, nM rfl, nB rfl, nM rfl, nM rfl, nB rfl, nQ rfl (by exact qJ (xF rfl rfl Tryz.runUnderlying176 Tryz.sizeOf178 (Um.rd (i := 1) rfl) zx.len rfl (Ue.inb UP)) rfl), nQ rfl (by exact qJ (qJ (jj rfl (Um.rd (i := 1) rfl) zx.len (Ue.inb UP) Tryz.isAgg178 Tryz.sizeOf178 rfl) (congrArg (fun l => Value.agg ⟨l⟩) BK)) rfl), nM rfl, nM rfl, nQ rfl (by exact qJ (xF rfl rfl Tryz.runUnderlying176 Tryz.sizeOf178 (Um.rd (i := 1) rfl) zx.len rfl (Ue.inb Uw)) rfl), nQ rfl (by exact qJ (qJ (jj rfl (Um.rd (i := 1) rfl) zx.len (Ue.inb Uw) Tryz.isAgg178 Tryz.sizeOf178 rfl) (congrArg (fun l => Value.agg ⟨l⟩) BL)) rfl), nQ rfl (by exact qJ (xF rfl rfl Tryz.runUnderlying176 Tryz.sizeOf178 (Um.rd (i := 1) rfl) zx.len rfl (Ue.inb Uw)) rfl), trivial⟩) fun D l a w ho hcl hav hpre hm hE hk hA hst => ?_
        have hS := (Ss.mk hE hst).env2 (e' := [(122, .agg ⟨[.int .i64 ((rd VU (qi (VR - (1 : Int)))).often_), .slice Up ((rd VU (qi (VR - (1 : Int)))).symbols_).length Ut]⟩), (127, z9 VP (Int.toNat VR * 2))]) ⟨rfl, rfl, trivial⟩
        refine qC rfl <| Xd (i := VR) (sz := 2) 1 (⟨[.int .i64 ((rd VU (qi (VR - (1 : Int)))).often_), .slice Up ((rd VU (qi (VR - (1 : Int)))).symbols_).length Ut], by simp, by simp [Value.oneCell']⟩ : zx 2) hS rfl rfl Um rfl Tryz.sizeOf178 rfl (Ue.inb Uw) fun KM w Dq hz Kw hS => ?_
        obtain ⟨BZ, hzm⟩ := vi (VU.set (Int.toNat VR) (qb.mk ((rd VU (qi (VR - (1 : Int)))).often_) ((rd VU (qi (VR - (1 : Int)))).symbols_)))
        replace hM := qp hzm hM
        have UF := zn.set (x := (qb.mk ((rd VU (qi (VR - (1 : Int)))).often_) ((rd VU (qi (VR - (1 : Int)))).symbols_))) (r := (⟨[.int .i64 ((rd VU (qi (VR - (1 : Int)))).often_), .slice Up ((rd VU (qi (VR - (1 : Int)))).symbols_).length Ut], by simp, by simp [Value.oneCell']⟩ : zx 2)) (Int.toNat VR) Ue (show qk VZ _ _ from ⟨Up, Ut, rfl, BA, Bq⟩)
        have UT : KM.length = V4.length := by rw [hz]; exact List.length_set ..
        rw [← hz, ← hzm] at UF; clear hz hzm
        have BQ := Eq.trans UT KH
        refine qm ?_
        replace hst := hS.st
        obtain ⟨KA, hM⟩ := qt hM
        obtain ⟨hcl, hmust, hav2, hA⟩ := Qt (vals' := [some (.slice VP V4.length VS), some (.int .i64 VR), some (.slice VP V4.length VS), some (.int .i64 VR), some (.int .i64 (qi (VR - (1 : Int)))), some (.slice VP V4.length VS), some (.int .i64 VR), some (.int .i64 (qi (VR - (1 : Int)))), some (z9 VP (Int.toNat (qi (VR - (1 : Int))) * 2)), some (.agg ⟨[.int .i64 ((rd VU (qi (VR - (1 : Int)))).often_), .slice Up ((rd VU (qi (VR - (1 : Int)))).symbols_).length Ut]⟩), some (.slice VP V4.length VS), some (.int .i64 VR), some (z9 VP (Int.toNat VR * 2)), some (.agg ⟨[.int .i64 ((rd VU VR).often_), .slice Uq ((rd VU VR).symbols_).length Uu]⟩), some (z9 VP (Int.toNat VR * 2)), some undef, some (z9 VP (Int.toNat (qi (VR - (1 : Int))) * 2)), none]) 15 [(0, 15), (1, 15), (5, 15), (6, 15), (7, 15), (8, 15), (9, 15), (13, 15), (14, 15), (12, 13), (10, 12), (11, 12)] hA hcl hav hm hpre rfl rfl rfl rfl rfl
        clear hm hav
        refine x4 hA hst ho hcl hav2 hmust 17 [2, 3, 4, 16] rfl rfl rfl rfl rfl (by exact ⟨nM rfl, nM rfl, nB rfl, nQ rfl (by exact qJ (xF (Yj UT rfl) rfl Tryz.runUnderlying176 Tryz.sizeOf178 (Kw.rd (i := 1) rfl) zx.len rfl (UF.inb KA)) rfl), trivial⟩) fun D l a w ho hcl hav hpre hm hE hk hA hst => ?_
        have hS := (Ss.mk hE hst).env2 (e' := [(126, .agg ⟨[.int .i64 ((rd VU VR).often_), .slice Uq ((rd VU VR).symbols_).length Uu]⟩), (128, z9 VP (Int.toNat (qi (VR - (1 : Int))) * 2))]) ⟨rfl, rfl, trivial⟩
        refine qC rfl <| Xd (i := (qi (VR - (1 : Int)))) (sz := 2) 1 (⟨[.int .i64 ((rd VU VR).often_), .slice Uq ((rd VU VR).symbols_).length Uu], by simp, by simp [Value.oneCell']⟩ : zx 2) hS rfl rfl Kw rfl Tryz.sizeOf178 rfl (UF.inb KA) fun UV w B2 hz K5 hS => ?_
        obtain ⟨B0, hzm⟩ := vi (BZ.set (Int.toNat (qi (VR - (1 : Int)))) (qb.mk ((rd VU VR).often_) ((rd VU VR).symbols_)))
        replace hM := qp hzm hM
        have KC := zn.set (x := (qb.mk ((rd VU VR).often_) ((rd VU VR).symbols_))) (r := (⟨[.int .i64 ((rd VU VR).often_), .slice Uq ((rd VU VR).symbols_).length Uu], by simp, by simp [Value.oneCell']⟩ : zx 2)) (Int.toNat (qi (VR - (1 : Int)))) UF (show qk VZ _ _ from ⟨Uq, Uu, rfl, BB, Br⟩)
        have KI : UV.length = KM.length := by rw [hz]; exact List.length_set ..
        rw [← hz, ← hzm] at KC; clear hz hzm
        have BR := Eq.trans KI BQ
        refine qm ?_
        replace hst := hS.st
        obtain ⟨hcl, hmust, hav2, hA⟩ := Qt (vals' := [some (.slice VP V4.length VS), some (.int .i64 VR), some (.slice VP V4.length VS), some (.int .i64 VR), some (.int .i64 (qi (VR - (1 : Int)))), some (.slice VP V4.length VS), some (.int .i64 VR), some (.int .i64 (qi (VR - (1 : Int)))), some (z9 VP (Int.toNat (qi (VR - (1 : Int))) * 2)), some (.agg ⟨[.int .i64 ((rd VU (qi (VR - (1 : Int)))).often_), .slice Up ((rd VU (qi (VR - (1 : Int)))).symbols_).length Ut]⟩), some (.slice VP V4.length VS), some (.int .i64 VR), some (z9 VP (Int.toNat VR * 2)), some (.agg ⟨[.int .i64 ((rd VU VR).often_), .slice Uq ((rd VU VR).symbols_).length Uu]⟩), some (z9 VP (Int.toNat VR * 2)), some undef, some (z9 VP (Int.toNat (qi (VR - (1 : Int))) * 2)), some undef]) 17 [(0, 17), (1, 17), (2, 17), (3, 17), (4, 17), (5, 17), (6, 17), (7, 17), (8, 17), (9, 17), (10, 17), (11, 17), (12, 17), (13, 17), (14, 17), (15, 17), (16, 17)] hA hcl hav hm hpre rfl rfl rfl rfl rfl
        clear hm hav
        refine xq hA hst ho hcl hmust [] rfl rfl rfl trivial fun a w hS => ?_
        replace hS := hS.env2 (e' := [(0, .slice VP UV.length VS), (14, .int .i64 UA), (17, .int .i64 VR)]) ⟨(Xa (u := .slice VP V4.length VS) rfl (by rw [KI, UT])), rfl, rfl, trivial⟩
        refine qW (qc ?_)
        refine zb <| sM hS rfl fun hS => sB hS rfl fun hS => qY (v := Value.int .i64) (x0 := (qi (VR - (1 : Int)))) hS (zE rfl) rfl fun BW a w hz hS => ?_
        have hM := qp hz hM; clear hz
        refine qL <| qc ?_
        exact K1 _ _ ⟨UV, B0, B2, BW, hS.to [0, 1] (by kernel_rfl) ⟨rfl, rfl, rfl, trivial⟩, K5, KC, BR, hM⟩
       ·refine wp_exit ?_
        refine qv (qv (qO (qc ?_)))
        refine wp_ret <| qu ?_
        exact qP (rs := []) hS rfl rfl (hret V4 VU Kd _ (qG hM) Um Ue KH (hS.st.pick [0, 1] (by kernel_rfl)))
    ·refine wp_skip ?_
     refine qc ?_
     exact K2 _ _ ⟨hS.to [0, 1] (by kernel_rfl) ⟨rfl, rfl, rfl, rfl, rfl, trivial⟩, hM⟩
   ·intro a w hI
    obtain ⟨hS, hM⟩ := hI
    rw [qa.j8] at hM
    refine qe <| sM hS rfl fun hS => sM hS rfl fun hS => sB hS rfl fun hS => sO hS (yT rfl Tryz.runUnderlying3 Tryz.runUnderlying84) rfl fun hS => sO hS (shr rfl rfl rfl) rfl fun hS => sO hS (yT rfl Tryz.runUnderlying84 Tryz.runUnderlying3) rfl fun hS => qY (v := Value.int .i64) (x0 := (wr .i64 (zX .u64 (wr .u64 (qi (VW + V0))) (1 : Int)))) hS (zE rfl) rfl fun V2 a w hz hS => ?_
    have hM := qp hz hM; clear hz
    refine qm <| qe <| sM hS rfl fun hS => sM hS rfl fun hS => sB hS rfl fun hS => qY (v := Value.int .i64) (x0 := (qi (V2 + VX))) hS (zE rfl) rfl fun Uf a w hz hS => ?_
    have hM := qp hz hM; clear hz
    refine qm <| qe <| sA hS rfl fun hS => sA hS rfl fun hS => qm <| qV (fun a w => ∃ (Uk : Int) (Ke : Int), Ss 220 [] [(0, .slice VP VV.length VS), (1, .int .i64 VW), (2, .int .i64 VX), (3, .int .i64 V0), (4, yH cq [] []), (18, .int .i64 V2), (19, .int .i64 Uf), (20, .int .i64 Uk), (21, .int .i64 Ke)] H [VZ, V7] F a w ∧ (qa.j9 K (qa.r K d) VO VW VX V0 V2 Uf Uk Ke).wp kr kp) (fun Dk Kr => ?_) ?_
    ·refine wp_seq ?_
     refine zb <| sM hS rfl fun hS => sM hS rfl fun hS => sB hS rfl fun hS => qm <| qo hS rfl hM (fun Be hM => ?_) (fun Be hM => ?_)
     ·refine wp_seq ?_
      refine zb <| sM hS rfl fun hS => sM hS rfl fun hS => sB hS rfl fun hS => qY (v := Value.int .i64) (x0 := (qi (Uf - V0))) hS (zE rfl) rfl fun Kh a w hz hS => ?_
      have hM := qp hz hM; clear hz
      refine qm <| zb <| sM hS rfl fun hS => sA hS rfl fun hS => qL <| qc ?_
      exact Kr _ _ ⟨Kh, V2, hS.to [0, 1] (by kernel_rfl) ⟨rfl, rfl, rfl, rfl, rfl, rfl, rfl, rfl, rfl, trivial⟩, hM⟩
     ·refine wp_seq ?_
      refine zb <| sM hS rfl fun hS => sA hS rfl fun hS => qm <| zb <| sM hS rfl fun hS => sA hS rfl fun hS => qL <| qc ?_
      exact Kr _ _ ⟨VW, VX, hS.to [0, 1] (by kernel_rfl) ⟨rfl, rfl, rfl, rfl, rfl, rfl, rfl, rfl, rfl, trivial⟩, hM⟩
    ·intro a w hI
     obtain ⟨Uk, Ke, hS, hM⟩ := hI
     rw [qa.j9] at hM
     refine qe <| sM hS rfl fun hS => sB hS rfl fun hS => qY (v := Value.int .i64) (x0 := (qi (Uf - (1 : Int)))) hS (zE rfl) rfl fun Ua a w hz hS => ?_
     have hM := qp hz hM; clear hz
     refine qm <| qV (fun a w => ∃ (V5 : Int), Ss 220 [] [(0, .slice VP VV.length VS), (1, .int .i64 VW), (2, .int .i64 VX), (3, .int .i64 V0), (4, yH cq [] []), (18, .int .i64 V2), (19, .int .i64 Uf), (20, .int .i64 V5)] H [VZ, V7] F a w ∧ (qa.j11 K (qa.r K d) VO VW VX V0 V2 Uf V5).wp kr kp) (fun Dm K3 => ?_) ?_
     ·refine z3 ?_
      refine q6 (fun KW a w => ∃ (V9 : Int) (UD : Int), Ss 220 [] [(0, .slice VP VV.length VS), (1, .int .i64 VW), (2, .int .i64 VX), (3, .int .i64 V0), (4, yH cq [] []), (18, .int .i64 V2), (19, .int .i64 Uf), (20, .int .i64 V9), (21, .int .i64 UD), (22, .int .i64 Ua)] H [VZ, V7] F a w ∧ (qa.l10 K (qa.r K d) VO VW VX V0 V2 Uf Ua KW V9 UD).wp kr kp) K ?_ ?_ ?_
      ·exact ⟨Uk, Ke, hS.to [0, 1] (by kernel_rfl) ⟨rfl, rfl, rfl, rfl, rfl, rfl, rfl, rfl, rfl, rfl, trivial⟩, hM⟩
      ·intro a w hI; obtain ⟨_, _, _, hM⟩ := hI; exact qX hM
      ·intro KW a w hI Dl Ks
       obtain ⟨V9, UD, hS, hM⟩ := hI
       rw [qa.l10] at hM
       refine wp_seq <| qe <| sM hS rfl fun hS => sM hS rfl fun hS => sB hS rfl fun hS => qm <| qo hS rfl hM (fun Bf hM => ?_) (fun Bf hM => ?_)
       ·refine wp_skip ?_
        refine qc <| z3 <| qe <| sM hS rfl fun hS => sM hS rfl fun hS => sB hS rfl fun hS => sO hS (yT rfl Tryz.runUnderlying3 Tryz.runUnderlying84) rfl fun hS => sO hS (shr rfl rfl rfl) rfl fun hS => sO hS (yT rfl Tryz.runUnderlying84 Tryz.runUnderlying3) rfl fun hS => qY (v := Value.int .i64) (x0 := (wr .i64 (zX .u64 (wr .u64 (qi (V9 + UD))) (1 : Int)))) hS (zE rfl) rfl fun VY a w hz hS => ?_
        have hM := qp hz hM; clear hz
        refine qm <| wp_seq ?_
        obtain ⟨UQ, hM⟩ := qt hM
        obtain ⟨U4, Ka, BM, BC, Bs⟩ := V1.get UQ
        obtain ⟨UR, hM⟩ := qt hM
        obtain ⟨U5, Kb, BN, BD, Bt⟩ := V1.get UR
        refine qM (vals := [some (yH cq [] []), some (.slice VP VV.length VS), some (.int .i64 Ua), some (.int .i64 VY), some (.int .i64 (qi (Ua - VY))), some (z9 VP (Int.toNat (qi (Ua - VY)) * 2)), some (.agg ⟨[.int .i64 ((rd VO (qi (Ua - VY))).often_), .slice U4 ((rd VO (qi (Ua - VY))).symbols_).length Ka]⟩), some (.slice VP VV.length VS), some (.int .i64 VY), some (z9 VP (Int.toNat VY * 2)), some (.agg ⟨[.int .i64 ((rd VO VY).often_), .slice U5 ((rd VO VY).symbols_).length Kb]⟩), none, none, none]) hS zV rfl ?_
        intro l w ho hcl hA hst
        refine x4 hA hst ho hcl zO zW 11 [0, 1, 2, 3, 4, 5, 6, 7, 8, 9, 10] rfl rfl rfl rfl rfl (by exact ⟨nM rfl, nM rfl, nM rfl, nM rfl, nB rfl, nQ rfl (by exact qJ (xF rfl rfl Tryz.runUnderlying176 Tryz.sizeOf178 (V6.rd (i := 1) rfl) zx.len rfl (V1.inb UQ)) rfl), nQ rfl (by exact qJ (qJ (jj rfl (V6.rd (i := 1) rfl) zx.len (V1.inb UQ) Tryz.isAgg178 Tryz.sizeOf178 rfl) (congrArg (fun l => Value.agg ⟨l⟩) BM)) rfl), nM rfl, nM rfl, nQ rfl (by exact qJ (xF rfl rfl Tryz.runUnderlying176 Tryz.sizeOf178 (V6.rd (i := 1) rfl) zx.len rfl (V1.inb UR)) rfl), nQ rfl (by exact qJ (qJ (jj rfl (V6.rd (i := 1) rfl) zx.len (V1.inb UR) Tryz.isAgg178 Tryz.sizeOf178 rfl) (congrArg (fun l => Value.agg ⟨l⟩) BN)) rfl), trivial⟩) fun D l a w ho hcl hav hpre hm hE hk hA hst => ?_
        have hS := (Ss.mk hE hst).env2 (e' := [(158, yH cq [] []), (164, .agg ⟨[.int .i64 ((rd VO (qi (Ua - VY))).often_), .slice U4 ((rd VO (qi (Ua - VY))).symbols_).length Ka]⟩), (168, .agg ⟨[.int .i64 ((rd VO VY).often_), .slice U5 ((rd VO VY).symbols_).length Kb]⟩)]) ⟨rfl, rfl, rfl, trivial⟩
        refine qC rfl <| yY hS rfl rfl (v5 hcq) (uA cq hcq hG K (qb.mk ((rd VO (qi (Ua - VY))).often_) ((rd VO (qi (Ua - VY))).symbols_)) (qb.mk ((rd VO VY).often_) ((rd VO VY).symbols_)) U4 Ka U5 Kb (BC.rdF (i := 0) rfl) Bs (BD.rdF (i := 0) rfl) Bt (hS.st.part 0 [0, 1] (by kernel_rfl)) (qh hM) (fun Kg w hM  hst => qn hS.ev hst.appF rfl fun hS => ?_))
        replace hS : Ss _ _ _ H [VZ, V7] F _ _ := hS
        refine qm ?_
        replace hst := hS.st
        obtain ⟨hcl, hmust, hav2, hA⟩ := dn (vals' := [some (yH cq [] []), some (.slice VP VV.length VS), some (.int .i64 Ua), some (.int .i64 VY), some (.int .i64 (qi (Ua - VY))), some (z9 VP (Int.toNat (qi (Ua - VY)) * 2)), some (.agg ⟨[.int .i64 ((rd VO (qi (Ua - VY))).often_), .slice U4 ((rd VO (qi (Ua - VY))).symbols_).length Ka]⟩), some (.slice VP VV.length VS), some (.int .i64 VY), some (z9 VP (Int.toNat VY * 2)), some (.agg ⟨[.int .i64 ((rd VO VY).often_), .slice U5 ((rd VO VY).symbols_).length Kb]⟩), some (.int .i64 Kg), some (.bool (decide (Kg < (0 : Int)))), some (.bool (!(decide (Kg < (0 : Int)))))]) 11 [(0, 11), (6, 11), (10, 11), (5, 6), (9, 10), (1, 5), (4, 5), (7, 9), (8, 9), (2, 4), (3, 4)] hA hcl hav hm hpre hk rfl rfl rfl rfl rfl rfl rfl
        clear hm hav
        refine xq hA hst ho hcl hmust [12, 13] rfl rfl rfl (by exact ⟨nB rfl, nQ rfl (by exact qJ (un rfl rfl) rfl), trivial⟩) fun a w hS => ?_
        replace hS := hS.env2 (e' := [(0, .slice VP VV.length VS), (1, .int .i64 VW), (2, .int .i64 VX), (3, .int .i64 V0), (4, yH cq [] []), (18, .int .i64 V2), (19, .int .i64 Uf), (20, .int .i64 V9), (21, .int .i64 UD), (22, .int .i64 Ua), (23, .int .i64 VY), (171, .bool (!(decide (Kg < (0 : Int)))))]) ⟨rfl, rfl, rfl, rfl, rfl, rfl, rfl, rfl, rfl, rfl, rfl, rfl, trivial⟩
        refine qc <| qo hS rfl hM (fun Bg hM => ?_) (fun Bg hM => ?_)
        ·refine zb ?_
         refine sM hS rfl fun hS => sB hS rfl fun hS => qY (v := Value.int .i64) (x0 := (qi (VY + (1 : Int)))) hS (zE rfl) rfl fun Ki a w hz hS => ?_
         have hM := qp hz hM; clear hz
         refine qL <| qW (qc ?_)
         exact Ks _ _ ⟨Ki, UD, hS.to [0, 1] (by kernel_rfl) ⟨rfl, rfl, rfl, rfl, rfl, rfl, rfl, rfl, rfl, rfl, trivial⟩, hM⟩
        ·refine zb ?_
         refine sM hS rfl fun hS => sA hS rfl fun hS => qL <| qW (qc ?_)
         exact Ks _ _ ⟨V9, VY, hS.to [0, 1] (by kernel_rfl) ⟨rfl, rfl, rfl, rfl, rfl, rfl, rfl, rfl, rfl, rfl, trivial⟩, hM⟩
       ·refine wp_exit ?_
        refine qv (qv (qO (qc ?_)))
        exact K3 _ _ ⟨V9, hS.to [0, 1] (by kernel_rfl) ⟨rfl, rfl, rfl, rfl, rfl, rfl, rfl, rfl, trivial⟩, hM⟩
     ·intro a w hI
      obtain ⟨V5, hS, hM⟩ := hI
      rw [qa.j11] at hM
      refine qe <| sM hS rfl fun hS => sM hS rfl fun hS => sB hS rfl fun hS => qY (v := Value.int .i64) (x0 := (qi (Uf - V5))) hS (zE rfl) rfl fun V8 a w hz hS => ?_
      have hM := qp hz hM; clear hz
      refine qm <| qV (fun a w => ∃ (Ug : List (zx 2)) (Ui : (List qb)) (UI : qj), Ss 220 [] [(0, .slice VP Ug.length VS), (1, .int .i64 VW), (3, .int .i64 V0), (4, yH cq [] []), (18, .int .i64 V2), (20, .int .i64 V5), (24, .int .i64 V8)] H [VZ, UI] F a w ∧ (zM 178 (zx.v (sz := 2)) 2 VP Ug VS UI) ∧ (zn (qk VZ) Ui Ug) ∧ (Ug.length = VV.length) ∧ (qa.j12 K (qa.r K d) VW V0 V2 V5 V8 Ui).wp kr kp) (fun Dn Kt => ?_) ?_
      ·refine wp_seq ?_
       refine zb <| sM hS rfl fun hS => sM hS rfl fun hS => sB hS rfl fun hS => sM hS rfl fun hS => xm 3 true 181 (b := (decide (V5 < VX))) (r := (decide (VX < V8))) hS rfl rfl rfl rfl rfl rfl rfl (fun hb a w hS K hK => ?_) rfl fun a w hS => ?_
       ·refine qI hS rfl rfl rfl hb (mv rfl) rfl fun a w hS => ?_
        refine qI hS rfl rfl rfl hb (mv rfl) rfl fun a w hS => qI hS rfl rfl rfl hb (xN rfl rfl rfl) rfl fun a w hS => ?_
        exact qL (hK _ _ (hS.up 3 rfl rfl))
       refine qm <| qo hS rfl hM (fun Bh hM => ?_) (fun Bh hM => ?_)
       ·refine zb ?_
        refine sM hS rfl fun hS => sM hS rfl fun hS => sM hS rfl fun hS => sM hS rfl fun hS => sM hS rfl fun hS => qq hS rfl Tryz.call158 (yj cq hcq hG K VO V5 VX V8 VZ VP VS VV V7 V1 V6 (hS.st.part 2 [0, 1] (by kernel_rfl)) (qh hM) (fun UW Kj KO w hM B3 B4 Km hst => qn hS.ev hst.appF rfl fun hS => ?_))
        replace hS : Ss _ _ _ H [VZ, KO] F _ _ := hS
        have BS := Eq.trans Km UG
        replace hS := hS.re 0 (u := .slice VP VV.length VS) (v := .slice VP UW.length VS) rfl (by rw [Km])
        replace hS := hS.re 186 (u := .slice VP VV.length VS) (v := .slice VP UW.length VS) rfl (by rw [Km])
        refine qL <| qc ?_
        exact Kt _ _ ⟨UW, Kj, KO, hS.to [0, 1] (by kernel_rfl) ⟨rfl, rfl, rfl, rfl, rfl, rfl, rfl, trivial⟩, B3, B4, BS, hM⟩
       ·refine wp_skip ?_
        refine qc ?_
        exact Kt _ _ ⟨VV, VO, V7, hS.to [0, 1] (by kernel_rfl) ⟨rfl, rfl, rfl, rfl, rfl, rfl, rfl, trivial⟩, V6, V1, UG, hM⟩
      ·intro a w hI
       obtain ⟨Ug, Ui, UI, hS, Kx, KD, KJ, hM⟩ := hI
       rw [qa.j12] at hM
       refine qV (fun a w => ∃ (Uh : List (zx 2)) (Uj : (List qb)) (UJ : qj), Ss 220 [] [(0, .slice VP Uh.length VS), (3, .int .i64 V0), (4, yH cq [] []), (18, .int .i64 V2), (24, .int .i64 V8)] H [VZ, UJ] F a w ∧ (zM 178 (zx.v (sz := 2)) 2 VP Uh VS UJ) ∧ (zn (qk VZ) Uj Uh) ∧ (Uh.length = VV.length) ∧ (qa.j13 K (qa.r K d) V0 V2 V8 Uj).wp kr kp) (fun Do Ku => ?_) ?_
       ·refine wp_seq ?_
        refine zb <| sM hS rfl fun hS => sM hS rfl fun hS => sB hS rfl fun hS => sM hS rfl fun hS => xm 3 true 195 (b := (decide (VW < V5))) (r := (decide (V5 < V2))) hS rfl rfl rfl rfl rfl rfl rfl (fun hb a w hS K hK => ?_) rfl fun a w hS => ?_
        ·refine qI hS rfl rfl rfl hb (mv rfl) rfl fun a w hS => ?_
         refine qI hS rfl rfl rfl hb (mv rfl) rfl fun a w hS => qI hS rfl rfl rfl hb (xN rfl rfl rfl) rfl fun a w hS => ?_
         exact qL (hK _ _ (hS.up 3 rfl rfl))
        refine qm <| qo hS rfl hM (fun Bi hM => ?_) (fun Bi hM => ?_)
        ·refine zb ?_
         refine sM hS rfl fun hS => sM hS rfl fun hS => sM hS rfl fun hS => sM hS rfl fun hS => sM hS rfl fun hS => qq hS rfl Tryz.call155 (ih hG  Ui VW V5 V2 VZ VP VS Ug UI KD Kx (hS.st.part 2 [0, 1] (by kernel_rfl)) (qh hM) (fun UX Kk KP w hM B5 B6 Kn hst => qn hS.ev hst.appF rfl fun hS => ?_))
         replace hS : Ss _ _ _ H [VZ, KP] F _ _ := hS
         have BT := Eq.trans Kn KJ
         replace hS := hS.re 0 (u := .slice VP Ug.length VS) (v := .slice VP UX.length VS) rfl (by rw [Kn])
         replace hS := hS.re 200 (u := .slice VP Ug.length VS) (v := .slice VP UX.length VS) rfl (by rw [Kn])
         refine qL <| qc ?_
         exact Ku _ _ ⟨UX, Kk, KP, hS.to [0, 1] (by kernel_rfl) ⟨rfl, rfl, rfl, rfl, rfl, trivial⟩, B5, B6, BT, hM⟩
        ·refine wp_skip ?_
         refine qc ?_
         exact Ku _ _ ⟨Ug, Ui, UI, hS.to [0, 1] (by kernel_rfl) ⟨rfl, rfl, rfl, rfl, rfl, trivial⟩, Kx, KD, KJ, hM⟩
       ·intro a w hI
        obtain ⟨Uh, Uj, UJ, hS, Ky, KE, KK, hM⟩ := hI
        rw [qa.j13] at hM
        refine qe <| sM hS rfl fun hS => sM hS rfl fun hS => sB hS rfl fun hS => sM hS rfl fun hS => xm 3 true 209 (b := (decide (V2 < V8))) (r := (decide (V8 < V0))) hS rfl rfl rfl rfl rfl rfl rfl (fun hb a w hS K hK => ?_) rfl fun a w hS => ?_
        ·refine qI hS rfl rfl rfl hb (mv rfl) rfl fun a w hS => ?_
         refine qI hS rfl rfl rfl hb (mv rfl) rfl fun a w hS => qI hS rfl rfl rfl hb (xN rfl rfl rfl) rfl fun a w hS => ?_
         exact qL (hK _ _ (hS.up 3 rfl rfl))
        refine qm <| qo hS rfl hM (fun Bj hM => ?_) (fun Bj hM => ?_)
        ·refine zb ?_
         refine sM hS rfl fun hS => sM hS rfl fun hS => sM hS rfl fun hS => sM hS rfl fun hS => sM hS rfl fun hS => qq hS rfl Tryz.call155 (ih hG  Uj V2 V8 V0 VZ VP VS Uh UJ KE Ky (hS.st.part 2 [0, 1] (by kernel_rfl)) (qh hM) (fun UY Kl KQ w hM B7 B8 Ko hst => qn hS.ev hst.appF rfl fun hS => ?_))
         replace hS : Ss _ _ _ H [VZ, KQ] F _ _ := hS
         have BU := Eq.trans Ko KK
         replace hS := hS.re 0 (u := .slice VP Uh.length VS) (v := .slice VP UY.length VS) rfl (by rw [Ko])
         replace hS := hS.re 214 (u := .slice VP Uh.length VS) (v := .slice VP UY.length VS) rfl (by rw [Ko])
         refine qL ?_
         exact yW (rs := []) hS rfl rfl (hret UY Kl KQ _ (qG hM) B7 B8 BU (hS.st.pick [0, 1] (by kernel_rfl)))
        ·refine wp_skip ?_
         exact yW (rs := []) hS rfl rfl (hret Uh Uj UJ _ (qG hM) Ky KE KK (hS.st.pick [0, 1] (by kernel_rfl)))
theorem xp (cq : Nat) (hcq : cq = 116 ∨ cq = 144) {H : z7} {F : List qj} {w : World} {R : Ending → World → Prop} {kr : (List qb) → Prop} {kp : Value → Prop} (hG : Gl H) (K : Nat) (VO : List qb) (VS : Int) (VY : Int) (VT : Int) (VR : qj) (VV : Option Addr) (VW : Nat) (VP : List (zx 2)) (VX : qj) (V1 : zn (qk VR) VO VP) (V0 : zM 178 (zx.v (sz := 2)) 2 VV VP VW VX)
    (hS : St w H [VR, VX] F) (hm : (qa.m K VO VS VY VT).wp kr kp)
    (hret : ∀ (VU : List (zx 2)) (VQ : (List qb)) (VZ : qj) (w : World), kr VQ → (zM 178 (zx.v (sz := 2)) 2 VV VU VW VZ) → (zn (qk VR) VQ VU) → (VU.length = VP.length) → St w H [VR, VZ] F → R (.returned (.tuple ⟨[]⟩)) w) :
    Calls Tryz.prog 155 ⟨[.slice VV VP.length VW, .int .i64 VS, .int .i64 VY, .int .i64 VT, yH cq [] []]⟩ w R := x6 cq hcq K K hG VO VS VY VT VR VV VW VP VX V1 V0 hS hm hret
theorem yk (cq : Nat) (hcq : cq = 116 ∨ cq = 144) {H : z7} {F : List qj} {w : World} {R : Ending → World → Prop} {kr : (List qb) → Prop} {kp : Value → Prop} (hG : Gl H) (K : Nat) (V9 : List qb) (VS : Int) (VR : qj) (VP : Option Addr) (VQ : Nat) (VT : List (zx 2)) (Ut : qj) (U5 : zn (qk VR) V9 VT) (UZ : zM 178 (zx.v (sz := 2)) 2 VP VT VQ Ut)
    (hS : St w H [VR, Ut] F) (hm : (qg.m K V9 VS).wp kr kp)
    (hret : ∀ (Um : List (zx 2)) (Ud : (List qb)) (UP : qj) (w : World), kr Ud → (zM 178 (zx.v (sz := 2)) 2 VP Um VQ UP) → (zn (qk VR) Ud Um) → (Um.length = VT.length) → St w H [VR, UP] F → R (.returned (.tuple ⟨[]⟩)) w) :
    Calls Tryz.prog 141 ⟨[.slice VP VT.length VQ, .int .i64 VS, yH cq [] []]⟩ w R := by
 refine enter Tryz.func141 rfl Tryz.ntmps141 rfl hS fun a w hS => ?_
 have hM := hm; clear hm
 rw [qg.m] at hM
 have Km : ∀ q ∈ VR, q ∈ VR := fun _ h => h
 have U7 : VT.length = VT.length := rfl
 refine qe <| sA hS rfl fun hS => qm <| qe <| sM hS rfl fun hS => sA hS rfl fun hS => sA hS rfl fun hS => qm <| qV (fun a w => ∃ (V1 : List (zx 2)) (V3 : (List qb)) (Un : qj) (Uc : Int), Ss 63 [] [(0, .slice VP V1.length VQ), (1, .int .i64 VS), (2, yH cq [] []), (6, .int .i64 (20 : Int)), (7, .int .i64 Uc)] H [VR, Un] F a w ∧ (zM 178 (zx.v (sz := 2)) 2 VP V1 VQ Un) ∧ (zn (qk VR) V3 V1) ∧ (V1.length = VT.length) ∧ (qg.j2 K VS V3 Uc).wp kr kp) (fun Ko UW => ?_) ?_
 ·refine z3 ?_
  refine q6 (fun UQ a w => ∃ (VU : List (zx 2)) (VX : (List qb)) (Ue : qj) (V7 : Int) (V5 : Int), Ss 63 [] [(0, .slice VP VU.length VQ), (1, .int .i64 VS), (2, yH cq [] []), (6, .int .i64 (20 : Int)), (7, .int .i64 V7), (8, .int .i64 V5)] H [VR, Ue] F a w ∧ (zM 178 (zx.v (sz := 2)) 2 VP VU VQ Ue) ∧ (zn (qk VR) VX VU) ∧ (VU.length = VT.length) ∧ (qg.l1 K VS UQ VX V7 V5).wp kr kp) K ?_ ?_ ?_
  ·exact ⟨VT, V9, Ut, (0 : Int), (20 : Int), hS.to [0, 1] (by kernel_rfl) ⟨rfl, rfl, rfl, rfl, rfl, rfl, trivial⟩, UZ, U5, U7, hM⟩
  ·intro a w hI; obtain ⟨_, _, _, _, _, _, _, _, _, hM⟩ := hI; exact qX hM
  ·intro UQ a w hI Kn UV
   obtain ⟨VU, VX, Ue, V7, V5, hS, Uz, UD, UH, hM⟩ := hI
   rw [qg.l1] at hM
   refine wp_seq <| qe <| sM hS rfl fun hS => sM hS rfl fun hS => sB hS rfl fun hS => qm <| qo hS rfl hM (fun U1 hM => ?_) (fun U1 hM => ?_)
   ·refine wp_skip ?_
    refine qc <| z3 <| qe <| sM hS rfl fun hS => sM hS rfl fun hS => sM hS rfl fun hS => sM hS rfl fun hS => qq hS rfl Tryz.call154 (xj cq hcq hG K VX V7 V5 VR VP VQ VU Ue UD Uz (hS.st.part 2 [0, 1] (by kernel_rfl)) (qh hM) (fun Ui Up UL w hM Kd Ke Uu hst => qn hS.ev hst.appF rfl fun hS => ?_))
    replace hS : Ss _ _ _ H [VR, UL] F _ _ := hS
    have U8 := Eq.trans Uu UH
    replace hS := hS.re 0 (u := .slice VP VU.length VQ) (v := .slice VP Ui.length VQ) rfl (by rw [Uu])
    replace hS := hS.re 14 (u := .slice VP VU.length VQ) (v := .slice VP Ui.length VQ) rfl (by rw [Uu])
    refine qm <| qe <| sM hS rfl fun hS => sA hS rfl fun hS => qm <| zb <| sM hS rfl fun hS => sM hS rfl fun hS => sB hS rfl fun hS => qY (v := Value.int .i64) (x0 := (qi (V5 + (20 : Int)))) hS (zE rfl) rfl fun US a w hz hS => ?_
    have hM := qp hz hM; clear hz
    refine qL <| qW (qc ?_)
    exact UV _ _ ⟨Ui, Up, UL, V5, US, hS.to [0, 1] (by kernel_rfl) ⟨rfl, rfl, rfl, rfl, rfl, rfl, trivial⟩, Kd, Ke, U8, hM⟩
   ·refine wp_exit ?_
    refine qv (qv (qO (qc ?_)))
    exact UW _ _ ⟨VU, VX, Ue, V7, hS.to [0, 1] (by kernel_rfl) ⟨rfl, rfl, rfl, rfl, rfl, trivial⟩, Uz, UD, UH, hM⟩
 ·intro a w hI
  obtain ⟨V1, V3, Un, Uc, hS, U0, U6, U9, hM⟩ := hI
  rw [qg.j2] at hM
  refine qe <| sM hS rfl fun hS => sM hS rfl fun hS => sM hS rfl fun hS => sM hS rfl fun hS => qq hS rfl Tryz.call154 (xj cq hcq hG K V3 Uc VS VR VP VQ V1 Un U6 U0 (hS.st.part 2 [0, 1] (by kernel_rfl)) (qh hM) (fun Uj Uq UM w hM Kf Kg Uv hst => qn hS.ev hst.appF rfl fun hS => ?_))
  replace hS : Ss _ _ _ H [VR, UM] F _ _ := hS
  have Ka := Eq.trans Uv U9
  replace hS := hS.re 0 (u := .slice VP V1.length VQ) (v := .slice VP Uj.length VQ) rfl (by rw [Uv])
  replace hS := hS.re 23 (u := .slice VP V1.length VQ) (v := .slice VP Uj.length VQ) rfl (by rw [Uv])
  refine qm <| z3 <| q6 (fun Uo a w => ∃ (V2 : List (zx 2)) (VY : (List qb)) (Uf : qj) (VO : Int), Ss 63 [] [(0, .slice VP V2.length VQ), (1, .int .i64 VS), (2, yH cq [] []), (6, .int .i64 VO)] H [VR, Uf] F a w ∧ (zM 178 (zx.v (sz := 2)) 2 VP V2 VQ Uf) ∧ (zn (qk VR) VY V2) ∧ (V2.length = VT.length) ∧ (qg.l3 K VS Uo VY VO).wp kr kp) K ?_ ?_ ?_
  ·exact ⟨Uj, Uq, UM, (20 : Int), hS.to [0, 1] (by kernel_rfl) ⟨rfl, rfl, rfl, rfl, trivial⟩, Kf, Kg, Ka, hM⟩
  ·intro a w hI; obtain ⟨_, _, _, _, _, _, _, _, hM⟩ := hI; exact qX hM
  ·intro Uo a w hI Kr Uy
   obtain ⟨V2, VY, Uf, VO, hS, UA, UE, UI, hM⟩ := hI
   rw [qg.l3] at hM
   refine wp_seq <| qe <| sM hS rfl fun hS => sM hS rfl fun hS => sB hS rfl fun hS => qm <| qo hS rfl hM (fun U2 hM => ?_) (fun U2 hM => ?_)
   ·refine wp_skip ?_
    refine qc <| z3 <| qe <| sM hS rfl fun hS => sB hS rfl fun hS => sA hS rfl fun hS => qY (v := Value.int .i64) (x0 := (qi ((2 : Int) * VO))) hS (zE rfl) rfl fun UT a w hz hS => ?_
    have hM := qp hz hM; clear hz
    refine qm <| qV (fun a w => ∃ (VW : List (zx 2)) (V0 : (List qb)) (Uh : qj) (V8 : Int), Ss 63 [] [(0, .slice VP VW.length VQ), (1, .int .i64 VS), (2, yH cq [] []), (6, .int .i64 VO), (7, .int .i64 V8)] H [VR, Uh] F a w ∧ (zM 178 (zx.v (sz := 2)) 2 VP VW VQ Uh) ∧ (zn (qk VR) V0 VW) ∧ (VW.length = VT.length) ∧ (qg.j5 K (qg.l3 K VS Uo) VS VO V0 V8).wp kr kp) (fun Kq UY => ?_) ?_
    ·refine z3 ?_
     refine q6 (fun UR a w => ∃ (VV : List (zx 2)) (VZ : (List qb)) (Ug : qj) (V4 : Int) (V6 : Int), Ss 63 [] [(0, .slice VP VV.length VQ), (1, .int .i64 VS), (2, yH cq [] []), (6, .int .i64 VO), (7, .int .i64 V4), (8, .int .i64 V6)] H [VR, Ug] F a w ∧ (zM 178 (zx.v (sz := 2)) 2 VP VV VQ Ug) ∧ (zn (qk VR) VZ VV) ∧ (VV.length = VT.length) ∧ (qg.l4 K (qg.l3 K VS Uo) VS VO UR VZ V4 V6).wp kr kp) K ?_ ?_ ?_
     ·exact ⟨V2, VY, Uf, (0 : Int), UT, hS.to [0, 1] (by kernel_rfl) ⟨rfl, rfl, rfl, rfl, rfl, rfl, trivial⟩, UA, UE, UI, hM⟩
     ·intro a w hI; obtain ⟨_, _, _, _, _, _, _, _, _, hM⟩ := hI; exact qX hM
     ·intro UR a w hI Kp UX
      obtain ⟨VV, VZ, Ug, V4, V6, hS, UB, UF, UJ, hM⟩ := hI
      rw [qg.l4] at hM
      refine wp_seq <| qe <| sM hS rfl fun hS => sM hS rfl fun hS => sB hS rfl fun hS => qm <| qo hS rfl hM (fun U3 hM => ?_) (fun U3 hM => ?_)
      ·refine wp_skip ?_
       refine qc <| z3 <| qe <| sM hS rfl fun hS => sM hS rfl fun hS => sM hS rfl fun hS => sM hS rfl fun hS => sB hS rfl fun hS => sM hS rfl fun hS => sM hS rfl fun hS => qq hS rfl Tryz.call155 (xp cq hcq hG K VZ V4 (qi (V4 + VO)) V6 VR VP VQ VV Ug UF UB (hS.st.part 2 [0, 1] (by kernel_rfl)) (qh hM) (fun Uk Ur UN w hM Kh Ki Uw hst => qn hS.ev hst.appF rfl fun hS => ?_))
       replace hS : Ss _ _ _ H [VR, UN] F _ _ := hS
       have Kb := Eq.trans Uw UJ
       replace hS := hS.re 0 (u := .slice VP VV.length VQ) (v := .slice VP Uk.length VQ) rfl (by rw [Uw])
       replace hS := hS.re 36 (u := .slice VP VV.length VQ) (v := .slice VP Uk.length VQ) rfl (by rw [Uw])
       refine qm <| qe <| sM hS rfl fun hS => sA hS rfl fun hS => qm <| zb <| sM hS rfl fun hS => sM hS rfl fun hS => sB hS rfl fun hS => sB hS rfl fun hS => qY (v := Value.int .i64) (x0 := (qi (V6 + (qi ((2 : Int) * VO))))) hS (zE rfl) rfl fun UU a w hz hS => ?_
       have hM := qp hz hM; clear hz
       refine qL <| qW (qc ?_)
       exact UX _ _ ⟨Uk, Ur, UN, V6, UU, hS.to [0, 1] (by kernel_rfl) ⟨rfl, rfl, rfl, rfl, rfl, rfl, trivial⟩, Kh, Ki, Kb, hM⟩
      ·refine wp_exit ?_
       refine qv (qv (qO (qc ?_)))
       exact UY _ _ ⟨VV, VZ, Ug, V4, hS.to [0, 1] (by kernel_rfl) ⟨rfl, rfl, rfl, rfl, rfl, trivial⟩, UB, UF, UJ, hM⟩
    ·intro a w hI
     obtain ⟨VW, V0, Uh, V8, hS, UC, UG, UK, hM⟩ := hI
     rw [qg.j5] at hM
     refine wp_seq <| qe <| sM hS rfl fun hS => sM hS rfl fun hS => sB hS rfl fun hS => qY (v := Value.int .i64) (x0 := (qi (V8 + VO))) hS (zE rfl) rfl fun Kl a w hz hS => ?_
     have hM := qp hz hM; clear hz
     refine qm <| qe <| sM hS rfl fun hS => sM hS rfl fun hS => sB hS rfl fun hS => qm <| qo hS rfl hM (fun U4 hM => ?_) (fun U4 hM => ?_)
     ·refine zb ?_
      refine sM hS rfl fun hS => sM hS rfl fun hS => sM hS rfl fun hS => sM hS rfl fun hS => sM hS rfl fun hS => qq hS rfl Tryz.call155 (xp cq hcq hG K V0 V8 Kl VS VR VP VQ VW Uh UG UC (hS.st.part 2 [0, 1] (by kernel_rfl)) (qh hM) (fun Ul Us UO w hM Kj Kk Ux hst => qn hS.ev hst.appF rfl fun hS => ?_))
      replace hS : Ss _ _ _ H [VR, UO] F _ _ := hS
      have Kc := Eq.trans Ux UK
      replace hS := hS.re 0 (u := .slice VP VW.length VQ) (v := .slice VP Ul.length VQ) rfl (by rw [Ux])
      replace hS := hS.re 55 (u := .slice VP VW.length VQ) (v := .slice VP Ul.length VQ) rfl (by rw [Ux])
      refine qm <| zb <| sM hS rfl fun hS => sB hS rfl fun hS => qY (v := Value.int .i64) (x0 := (qi (VO * (2 : Int)))) hS (zE rfl) rfl fun Ua a w hz hS => ?_
      have hM := qp hz hM; clear hz
      refine qL <| qW (qc ?_)
      exact Uy _ _ ⟨Ul, Us, UO, Ua, hS.to [0, 1] (by kernel_rfl) ⟨rfl, rfl, rfl, rfl, trivial⟩, Kj, Kk, Kc, hM⟩
     ·refine wp_skip ?_
      refine qc <| zb <| sM hS rfl fun hS => sB hS rfl fun hS => qY (v := Value.int .i64) (x0 := (qi (VO * (2 : Int)))) hS (zE rfl) rfl fun Ub a w hz hS => ?_
      have hM := qp hz hM; clear hz
      refine qL <| qW (qc ?_)
      exact Uy _ _ ⟨VW, V0, Uh, Ub, hS.to [0, 1] (by kernel_rfl) ⟨rfl, rfl, rfl, rfl, trivial⟩, UC, UG, UK, hM⟩
   ·refine wp_exit ?_
    refine qv (qv (qO ?_))
    exact yW (rs := []) hS rfl rfl (hret V2 VY Uf _ (qG hM) UA UE UI (hS.st.pick [0, 1] (by kernel_rfl)))
theorem z6 (cq : Nat) (hcq : cq = 116 ∨ cq = 144) {H : z7} {F : List qj} {w : World} {R : Ending → World → Prop} {kr : (List qb) → Prop} {kp : Value → Prop} (hG : Gl H) (K : Nat) (VT : List qb) (VR : qj) (VP : Option Addr) (VQ : Nat) (VO : List (zx 2)) (VX : qj) (VY : zn (qk VR) VT VO) (V2 : zM 178 (zx.v (sz := 2)) 2 VP VO VQ VX)
    (hS : St w H [VR, VX] F) (hm : (zt.m K VT).wp kr kp)
    (hret : ∀ (VU : List (zx 2)) (V1 : (List qb)) (V0 : qj) (w : World), kr V1 → (zM 178 (zx.v (sz := 2)) 2 VP VU VQ V0) → (zn (qk VR) V1 VU) → (VU.length = VO.length) → St w H [VR, V0] F → R (.returned (.tuple ⟨[]⟩)) w) :
    Calls Tryz.prog 115 ⟨[.slice VP VO.length VQ, yH cq [] []]⟩ w R := by
 refine enter Tryz.func115 rfl Tryz.ntmps115 rfl hS fun a w hS => ?_
 have hM := hm; clear hm
 rw [zt.m] at hM
 have V7 : ∀ q ∈ VR, q ∈ VR := fun _ h => h
 have V3 : VO.length = VO.length := rfl
 refine zb <| sM hS rfl fun hS => sM hS rfl fun hS => sO hS (qJ (v' := .int .i64 (VT.length : Int)) (xw rfl Tryz.runUnderlying176) (by rw [VY.len])) rfl fun hS => sM hS rfl fun hS => qq hS rfl Tryz.call141 (yk cq hcq hG K VT (VT.length : Int) VR VP VQ VO VX VY V2 (hS.st.part 2 [0, 1] (by kernel_rfl)) (qh hM) (fun VS VW VZ w hM V5 V6 VV hst => qn hS.ev hst.appF rfl fun hS => ?_))
 replace hS : Ss _ _ _ H [VR, VZ] F _ _ := hS
 have V4 := Eq.trans VV V3
 replace hS := hS.re 0 (u := .slice VP VO.length VQ) (v := .slice VP VS.length VQ) rfl (by rw [VV])
 replace hS := hS.re 4 (u := .slice VP VO.length VQ) (v := .slice VP VS.length VQ) rfl (by rw [VV])
 replace hS := hS.re 5 (u := .slice VP VO.length VQ) (v := .slice VP VS.length VQ) rfl (by rw [VV])
 refine qL ?_
 exact yW (rs := []) hS rfl rfl (hret VS VW VZ _ (qG hM) V5 V6 V4 (hS.st.pick [0, 1] (by kernel_rfl)))
def jC (p : qj) (x : (List Int)) (vs : List Value) : Prop :=
  ∃ (A0 : Option Addr) (c0 : Nat), vs = [.slice A0 x.length c0] ∧ Pl p (ci .i64) A0 x ∧ x.length ≤ c0
theorem jC.mono {p p' : qj} (hs : ∀ q ∈ p, q ∈ p') {x : (List Int)} {vs : List Value} (h : jC p x vs) : jC p' x vs := by
  obtain ⟨A0, c0, h0, h1, h2⟩ := h
  exact ⟨A0, c0, h0, h1.mono hs, h2⟩
theorem ju {H : z7} {F : List qj} {w : World} {R : Ending → World → Prop} {kr : Unit → Prop} {kp : Value → Prop} (hG : Gl H) (K : Nat) (VO : Int)
    (hS : St w H [] F) (hm : (xV.m K VO).wp kr kp)
    (hret : ∀ (VP : Option Addr) (VQ : Nat) (VR : qj) (w : World), kr () → (zM 3 (ci .i64) 1 VP ([] : List Int) VQ VR) → St w H [VR] F → R (.returned (.slice VP ([] : List Int).length VQ)) w)
    (hpan : ∀ v w, kp v → St w H [] F → R (.panicked [⟨v, false, false⟩]) w) :
    Calls Tryz.prog 157 ⟨[.slice none 0 0, .int .i64 VO]⟩ w R := by
 refine enter Tryz.func157 rfl Tryz.ntmps157 rfl hS fun a w hS => ?_
 have hM := hm; clear hm
 rw [xV.m] at hM
 refine qe <| sA hS rfl fun hS => ?_
 obtain ⟨V5, V3, hS⟩ := hS.nilV 3 (ci .i64) 1
 refine qm <| wp_seq <| qe <| sM hS rfl fun hS => sB hS rfl fun hS => qm <| qo hS rfl hM (fun VV hM => ?_) (fun VV hM => ?_)
 ·refine zb ?_
  refine sO hS (Jq rfl Tryz.runUnderlying9 rfl) rfl fun hS => v8 hS rfl <| qB ?_
  exact ⟨hS.ev.defs, hpan _ _ (Qa hM) hS.st.frame⟩
 ·refine wp_skip ?_
  refine qc <| wp_seq <| qe <| sM hS rfl fun hS => sM hS rfl fun hS => sO hS (YB rfl Tryz.runUnderlying128) rfl fun hS => sM hS rfl fun hS => sO hS (xw rfl Tryz.runUnderlying128) rfl fun hS => sB hS rfl fun hS => sB hS rfl fun hS => qY (v := Value.int .i64) (x0 := (qi (VO - (qi ((0 : Int) - (0 : Int)))))) hS (zE rfl) rfl fun V4 a w hz hS => ?_
  have hM := qp hz hM; clear hz
  refine qm <| qe <| sM hS rfl fun hS => sB hS rfl fun hS => qm <| qo hS rfl hM (fun VW hM => ?_) (fun VW hM => ?_)
  ·refine zb ?_
   refine sM hS rfl fun hS => sM hS rfl fun hS => sO hS (YB rfl Tryz.runUnderlying128) rfl fun hS => sO hS (Vn rfl Tryz.runUnderlying128 Tryz.sizeOf3 (Xn rfl)) rfl fun hS => sM hS rfl fun hS => ?_
   obtain ⟨VY, hM⟩ := qt hM
   refine Vb (g := (ci .i64)) hS rfl rfl Tryz.runUnderlying128 Tryz.runUnderlying3 X.el3 rfl rfl VY rfl fun w VZ V0 V1 VT VX VS hS => sM hS rfl fun hS => sO hS (xw rfl Tryz.runUnderlying128) rfl fun hS => sO hS (Vm rfl Tryz.runUnderlying128 Tryz.sizeOf3 (fun _ => Xn rfl) VX VS) rfl fun hS => sA hS rfl fun hS => qm <| qe <| sM hS rfl fun hS => sA hS rfl fun hS => qm <| wp_ret ?_
   exact qP (rs := [4]) hS rfl rfl (hret VZ V0 V1 _ (qG hM) VT (hS.st.pick [0] (by kernel_rfl)))
  ·refine wp_skip ?_
   refine qc <| qe <| sM hS rfl fun hS => sA hS rfl fun hS => ?_
   obtain ⟨V2, VU, hS⟩ := hS.nilV 3 (ci .i64) 1
   refine qm <| wp_ret ?_
   exact qP (rs := [4]) hS rfl rfl (hret none (0) V2 _ (qG hM) VU (hS.st.pick [0] (by kernel_rfl)))
theorem jW {H : z7} {F : List qj} {w : World} {R : Ending → World → Prop} {kr : (List Int) → Prop} {kp : Value → Prop} (hG : Gl H) (K : Nat) (VO : List (List Int)) (VT : qj) (VV : Option Addr) (VW : Nat) (VQ : List (zx 1)) (VR : zn (jC VT) VO VQ) (VZ : Pl VT (zx.v (sz := 1)) VV VQ) (Ux : VQ.length ≤ VW)
    (hS : St w H [VT] F) (hm : (q8.m K VO).wp kr kp)
    (hret : ∀ (V8 : Option Addr) (V9 : Nat) (V7 : (List Int)) (Ub : qj) (w : World), kr V7 → (zM 3 (ci .i64) 1 V8 V7 V9 Ub) → St w H [VT, Ub] F → R (.returned (.slice V8 V7.length V9)) w)
    (hpan : ∀ v w, kp v → St w H [] F → R (.panicked [⟨v, false, false⟩]) w) :
    Calls Tryz.prog 145 ⟨[.slice VV VQ.length VW]⟩ w R := by
 refine enter Tryz.func145 rfl Tryz.ntmps145 rfl hS fun a w hS => ?_
 have hM := hm; clear hm
 rw [q8.m] at hM
 have UB : ∀ q ∈ VT, q ∈ VT := fun _ h => h
 refine qe <| sA hS rfl fun hS => ?_
 obtain ⟨UJ, Uw, hS⟩ := hS.nilV 3 (ci .i64) 1
 refine qm <| qe <| sA hS rfl fun hS => qm <| qV (fun a w => ∃ (VU : Int), Ss 36 [] [(0, .slice VV VQ.length VW), (3, .int .i64 VU)] H [VT] F a w ∧ (q8.j2 K VO VU).wp kr kp) (fun UF Uf => ?_) ?_
 ·refine wp_seq ?_
  refine zb <| sM hS rfl fun hS => sO hS (qJ (v' := .int .i64 (VO.length : Int)) (xw rfl Tryz.runUnderlying223) (by rw [VR.len])) rfl fun hS => sM hS rfl fun hS => qm <| z3 <| q6 (fun Uc a w => ∃ (VS : Int) (VX : Int), Ss 36 [] [(0, .slice VV VQ.length VW), (3, .int .i64 VS), (9, .slice VV VQ.length VW), (10, .int .i64 (VO.length : Int)), (11, .int .i64 VX)] H [VT] F a w ∧ (q8.l1 K VO Uc VS VX).wp kr kp) K ?_ ?_ ?_
  ·exact ⟨(0 : Int), (0 : Int), hS.to [1] (by kernel_rfl) ⟨rfl, rfl, rfl, rfl, rfl, trivial⟩, hM⟩
  ·intro a w hI; obtain ⟨_, _, _, hM⟩ := hI; exact qX hM
  ·intro Uc a w hI UE Ue
   obtain ⟨VS, VX, hS, hM⟩ := hI
   rw [q8.l1] at hM
   refine qe <| sB hS rfl fun hS => qm <| wp_seq <| qo hS rfl hM (fun Ui hM => ?_) (fun Ui hM => ?_)
   ·refine wp_skip ?_
    refine qc <| wp_seq <| z3 <| wp_seq <| zb ?_
    obtain ⟨V0, hM⟩ := qt hM
    refine sO hS (xF rfl rfl Tryz.runUnderlying223 Tryz.sizeOf128 (VZ.rd (i := 0) rfl) zx.len rfl (VR.inb V0)) rfl fun hS => ?_
    obtain ⟨UC, UH, Un, UA, Uy⟩ := VR.get V0
    refine sO hS (xO rfl (VZ.rd (i := 0) rfl) zx.len (VR.inb V0) (by rw [show zx.v (rd VQ VX) = _ from Un]; rfl) Tryz.isAgg128) rfl fun hS => sA hS rfl fun hS => qm <| qe <| sM hS rfl fun hS => sM hS rfl fun hS => sO hS (xw rfl Tryz.runUnderlying128) rfl fun hS => sB hS rfl fun hS => qY (v := Value.int .i64) (x0 := (qi (VS + ((rd VO VX).length : Int)))) hS (zE rfl) rfl fun V6 a w hz hS => ?_
    have hM := qp hz hM; clear hz
    refine qm <| qe <| sM hS rfl fun hS => sB hS rfl fun hS => qm <| qo hS rfl hM (fun Uj hM => ?_) (fun Uj hM => ?_)
    ·refine zb ?_
     refine sO hS (Jq rfl Tryz.runUnderlying9 rfl) rfl fun hS => v8 hS rfl <| zu (qB (qB (zu (qB ?_))))
     exact ⟨hS.ev.defs, hpan _ _ (Qa hM) hS.st.frame⟩
    ·refine wp_skip ?_
     refine qW (qc ?_)
     refine zb <| sB hS rfl fun hS => sM hS rfl fun hS => qL <| qc ?_
     exact Ue _ _ ⟨V6, (qi (VX + (1 : Int))), hS.to [0] (by kernel_rfl) ⟨rfl, rfl, rfl, rfl, rfl, trivial⟩, hM⟩
   ·refine wp_exit ?_
    refine qv (qv (qO (qc ?_)))
    exact Uf _ _ ⟨VS, hS.to [0] (by kernel_rfl) ⟨rfl, rfl, trivial⟩, hM⟩
 ·intro a w hI
  obtain ⟨VU, hS, hM⟩ := hI
  rw [q8.j2] at hM
  refine qe <| sM hS rfl fun hS => qq hS rfl Tryz.call157 (ju hG K VU (hS.st.part 0 [0] (by kernel_rfl)) (qh hM) (fun Uq Us Ua w hM Uv hst => qn hS.ev hst.appF rfl fun hS => ?_) (fun v w hk hst => zY (qB (⟨hS.ev.defs, hpan _ _ hk hst.appF.frame⟩))))
  replace hS : Ss _ _ _ H [Ua, VT] F _ _ := hS
  refine sA hS rfl fun hS => qm <| wp_seq <| qe <| sM hS rfl fun hS => sO hS (qJ (v' := .int .i64 (VO.length : Int)) (xw rfl Tryz.runUnderlying223) (by rw [VR.len])) rfl fun hS => sM hS rfl fun hS => qm <| z3 <| q6 (fun Ud a w => ∃ (V2 : Option Addr) (V3 : Nat) (VP : (List Int)) (V4 : qj) (VY : Int), Ss 36 [] [(6, .slice V2 VP.length V3), (25, .slice VV VQ.length VW), (26, .int .i64 (VO.length : Int)), (27, .int .i64 VY)] H [VT, V4] F a w ∧ (zM 3 (ci .i64) 1 V2 VP V3 V4) ∧ (q8.l3 K VO Ud VP VY).wp kr kp) K ?_ ?_ ?_
  ·exact ⟨Uq, Us, ([] : List Int), Ua, (0 : Int), hS.to [1, 0] (by kernel_rfl) ⟨rfl, rfl, rfl, rfl, trivial⟩, Uv, hM⟩
  ·intro a w hI; obtain ⟨_, _, _, _, _, _, _, hM⟩ := hI; exact qX hM
  ·intro Ud a w hI UG Ug
   obtain ⟨V2, V3, VP, V4, VY, hS, V5, hM⟩ := hI
   rw [q8.l3] at hM
   refine qe <| sB hS rfl fun hS => qm <| wp_seq <| qo hS rfl hM (fun Uk hM => ?_) (fun Uk hM => ?_)
   ·refine wp_skip ?_
    refine qc <| wp_seq <| z3 <| wp_seq <| zb ?_
    obtain ⟨V1, hM⟩ := qt hM
    refine sO hS (xF rfl rfl Tryz.runUnderlying223 Tryz.sizeOf128 (VZ.rd (i := 0) rfl) zx.len rfl (VR.inb V1)) rfl fun hS => ?_
    obtain ⟨UD, UI, Uo, Um, Uz⟩ := VR.get V1
    refine sO hS (xO rfl (VZ.rd (i := 0) rfl) zx.len (VR.inb V1) (by rw [show zx.v (rd VQ VY) = _ from Uo]; rfl) Tryz.isAgg128) rfl fun hS => sA hS rfl fun hS => qm <| zb <| sM hS rfl fun hS => sM hS rfl fun hS => ?_
    obtain ⟨Ul, hM⟩ := qt hM
    refine QR (ys := (rd VO VY)) 1 hS rfl rfl V5 rfl (Um.rd (i := 0) rfl) Tryz.runUnderlying128 Tryz.runUnderlying128 X.el3 (fun _ => rfl) rfl xg Ul rfl fun Up w Ur Ut Uu hz Uh hS => ?_
    have hM := qp hz hM; clear hz
    refine sA hS rfl fun hS => qL <| qW (qc ?_)
    refine zb <| sB hS rfl fun hS => sM hS rfl fun hS => qL <| qc ?_
    exact Ug _ _ ⟨Ur, Ut, Up, Uu, (qi (VY + (1 : Int))), hS.to [0, 1] (by kernel_rfl) ⟨rfl, rfl, rfl, rfl, trivial⟩, Uh, hM⟩
   ·refine wp_exit ?_
    refine qv (qv (qO (qc ?_)))
    refine qe <| sM hS rfl fun hS => sA hS rfl fun hS => qm <| wp_ret ?_
    exact qP (rs := [2]) hS rfl rfl (hret V2 V3 VP V4 _ (qG hM) V5 (hS.st.pick [0, 1] (by kernel_rfl)))
theorem Zs {H : z7} {F : List qj} {w : World} {R : Ending → World → Prop} {kr : (List qb) → Prop} {kp : Value → Prop} (hG : Gl H) (K : Nat) (VP : List qb) (V5 : qj) (VQ : Option Addr) (VU : Nat) (VR : List (zx 2)) (UW : zn (qk V5) VP VR) (UU : Pl V5 (zx.v (sz := 2)) VQ VR) (UN : VR.length ≤ VU)
    (hS : St w H [V5] F) (hm : (yJ.m K VP).wp kr kp)
    (hret : ∀ (UA : qj) (UB : Option Addr) (UC : Nat) (Uq : List (zx 2)) (UH : (List qb)) (UD : qj) (w : World), kr UH → (∀ q ∈ V5, q ∈ UA) → (zM 178 (zx.v (sz := 2)) 2 UB Uq UC UD) → (zn (qk UA) UH Uq) → St w H [UA, UD] F → R (.returned (.slice UB Uq.length UC)) w)
    (hpan : ∀ v w, kp v → St w H [] F → R (.panicked [⟨v, false, false⟩]) w) :
    Calls Tryz.prog 119 ⟨[.slice VQ VR.length VU]⟩ w R := by
 refine enter Tryz.func119 rfl Tryz.ntmps119 rfl hS fun a w hS => ?_
 have hM := hm; clear hm
 rw [yJ.m] at hM
 have UY : ∀ q ∈ V5, q ∈ V5 := fun _ h => h
 refine qe <| sA hS rfl fun hS => ?_
 obtain ⟨Kj, U8, hS⟩ := hS.nilV 178 (zx.v (sz := 2)) 2
 have Kd : zn (qk V5) ([] : List qb) ([] : List (zx 2)) := zn.nil
 refine qm <| qe <| sA hS rfl fun hS => ?_
 obtain ⟨U4, UJ, hS⟩ := hS.nilV 178 (zx.v (sz := 2)) 2
 have UX : zn (qk V5) ([] : List qb) ([] : List (zx 2)) := zn.nil
 refine qm <| wp_seq <| qe <| sA hS rfl fun hS => qm <| z3 <| q6 (fun UF a w => ∃ (V6 : qj) (V3 : Option Addr) (V4 : Nat) (VX : List (zx 2)) (Ud : (List qb)) (Um : qj) (VO : Int), Ss 42 [] [(0, .slice VQ VR.length VU), (3, .slice V3 VX.length V4), (4, .int .i64 VO)] H [V6, Um] F a w ∧ (∀ q ∈ V5, q ∈ V6) ∧ (zn (qk V6) VP VR) ∧ (Pl V6 (zx.v (sz := 2)) VQ VR) ∧ (VR.length ≤ VU) ∧ (zM 178 (zx.v (sz := 2)) 2 V3 VX V4 Um) ∧ (zn (qk V6) Ud VX) ∧ (yJ.l1 K VP UF Ud VO).wp kr kp) K ?_ ?_ ?_
 ·exact ⟨V5, none, 0, ([] : List (zx 2)), ([] : List qb), U4, (0 : Int), hS.to [2, 0] (by kernel_rfl) ⟨rfl, rfl, rfl, trivial⟩, UY, UW, UU, UN, UJ, UX, hM⟩
 ·intro a w hI; obtain ⟨_, _, _, _, _, _, _, _, _, _, _, _, _, _, hM⟩ := hI; exact qX hM
 ·intro UF a w hI Kg UI
  obtain ⟨V6, V3, V4, VX, Ud, Um, VO, hS, Ue, VS, VT, UO, Uv, V7, hM⟩ := hI
  rw [yJ.l1] at hM
  refine wp_seq <| qe <| sM hS rfl fun hS => sB hS rfl fun hS => sM hS rfl fun hS => sO hS (qJ (v' := .int .i64 (VP.length : Int)) (xw rfl Tryz.runUnderlying176) (by rw [VS.len])) rfl fun hS => sB hS rfl fun hS => qm <| qo hS rfl hM (fun UM hM => ?_) (fun UM hM => ?_)
  ·refine wp_skip ?_
   refine qc <| wp_seq <| z3 ?_
   obtain ⟨VV, hM⟩ := qt hM
   obtain ⟨Ke, Kh, Uo, Kb, U9⟩ := VS.get VV
   obtain ⟨VW, hM⟩ := qt hM
   obtain ⟨Kf, Ki, Up, Kc, Ka⟩ := VS.get VW
   obtain ⟨V9, Ub, U1, Ug, UP⟩ := VS.get VV
   obtain ⟨Ua, Uc, U2, Uh, UQ⟩ := VS.get VW
   refine qM (vals := [some (.slice V3 VX.length V4), some (.slice VQ VR.length VU), some (.int .i64 VO), some (z9 VQ (Int.toNat VO * 2)), some (z9 VQ (Int.toNat VO * 2 + 0)), some (.int .i64 ((rd VP VO).often_)), some (.slice VQ VR.length VU), some (.int .i64 VO), some (.int .i64 (qi (VO + (1 : Int)))), some (z9 VQ (Int.toNat (qi (VO + (1 : Int))) * 2)), some (z9 VQ (Int.toNat (qi (VO + (1 : Int))) * 2 + 0)), some (.int .i64 ((rd VP (qi (VO + (1 : Int)))).often_)), some (.int .i64 (qi ((rd VP VO).often_ + (rd VP (qi (VO + (1 : Int)))).often_))), some (.slice VQ VR.length VU), some (.int .i64 VO), some (z9 VQ (Int.toNat VO * 2)), some (z9 VQ (Int.toNat VO * 2 + 1)), some (.slice V9 ((rd VP VO).symbols_).length Ub), some (.slice VQ VR.length VU), some (.int .i64 VO), some (.int .i64 (qi (VO + (1 : Int)))), some (z9 VQ (Int.toNat (qi (VO + (1 : Int))) * 2)), some (z9 VQ (Int.toNat (qi (VO + (1 : Int))) * 2 + 1)), some (.slice Ua ((rd VP (qi (VO + (1 : Int)))).symbols_).length Uc), none, none, none, none, none, none]) hS zV rfl ?_
   intro l w ho hcl hA hst
   refine x4 hA hst ho hcl zO zW 24 [0, 1, 2, 3, 4, 5, 6, 7, 8, 9, 10, 11, 12, 13, 14, 15, 16, 17, 18, 19, 20, 21, 22, 23] rfl rfl rfl rfl rfl (by exact ⟨nM rfl, nM rfl, nM rfl, nQ rfl (by exact qJ (xF rfl rfl Tryz.runUnderlying176 Tryz.sizeOf178 (VT.rd (i := 0) rfl) zx.len rfl (VS.inb VV)) rfl), nQ rfl (by exact qJ (QV (sz := 2) rfl (VT.rd (i := 0) rfl) zx.len rfl (VS.inb VV) Tryz.runUnderlying178 rfl Tryz.sizeOf3 rfl) rfl), nQ rfl (by exact qJ (Yi 0 rfl (VT.rd (i := 0) rfl) zx.len (VS.inb VV) (by rw [show zx.v (rd VR VO) = _ from Uo]; rfl) Tryz.isAgg3) rfl), nM rfl, nM rfl, nB rfl, nQ rfl (by exact qJ (xF rfl rfl Tryz.runUnderlying176 Tryz.sizeOf178 (VT.rd (i := 0) rfl) zx.len rfl (VS.inb VW)) rfl), nQ rfl (by exact qJ (QV (sz := 2) rfl (VT.rd (i := 0) rfl) zx.len rfl (VS.inb VW) Tryz.runUnderlying178 rfl Tryz.sizeOf3 rfl) rfl), nQ rfl (by exact qJ (Yi 0 rfl (VT.rd (i := 0) rfl) zx.len (VS.inb VW) (by rw [show zx.v (rd VR (qi (VO + (1 : Int)))) = _ from Up]; rfl) Tryz.isAgg3) rfl), nB rfl, nM rfl, nM rfl, nQ rfl (by exact qJ (xF rfl rfl Tryz.runUnderlying176 Tryz.sizeOf178 (VT.rd (i := 0) rfl) zx.len rfl (VS.inb VV)) rfl), nQ rfl (by exact qJ (QV (sz := 2) rfl (VT.rd (i := 0) rfl) zx.len rfl (VS.inb VV) Tryz.runUnderlying178 rfl Tryz.sizeOf128 rfl) rfl), nQ rfl (by exact qJ (Yi 1 rfl (VT.rd (i := 0) rfl) zx.len (VS.inb VV) (by rw [show zx.v (rd VR VO) = _ from U1]; rfl) Tryz.isAgg128) rfl), nM rfl, nM rfl, nB rfl, nQ rfl (by exact qJ (xF rfl rfl Tryz.runUnderlying176 Tryz.sizeOf178 (VT.rd (i := 0) rfl) zx.len rfl (VS.inb VW)) rfl), nQ rfl (by exact qJ (QV (sz := 2) rfl (VT.rd (i := 0) rfl) zx.len rfl (VS.inb VW) Tryz.runUnderlying178 rfl Tryz.sizeOf128 rfl) rfl), nQ rfl (by exact qJ (Yi 1 rfl (VT.rd (i := 0) rfl) zx.len (VS.inb VW) (by rw [show zx.v (rd VR (qi (VO + (1 : Int)))) = _ from U2]; rfl) Tryz.isAgg128) rfl), trivial⟩) fun D l a w ho hcl hav hpre hm hE hk hA hst => ?_
   have hS := (Ss.mk hE hst).env2 (e' := [(29, .slice V9 ((rd VP VO).symbols_).length Ub), (35, .slice Ua ((rd VP (qi (VO + (1 : Int)))).symbols_).length Uc)]) ⟨rfl, rfl, trivial⟩
   refine qC rfl ?_
   obtain ⟨V2, hrw⟩ : ∃ r, r = ([(⟨[.slice V9 ((rd VP VO).symbols_).length Ub], by simp, by simp [Value.oneCell']⟩ : zx 1), (⟨[.slice Ua ((rd VP (qi (VO + (1 : Int)))).symbols_).length Uc], by simp, by simp [Value.oneCell']⟩ : zx 1)] : List (zx 1)) := ⟨_, rfl⟩
   have Ui : zn (jC V6) ([(rd VP VO).symbols_, (rd VP (qi (VO + (1 : Int)))).symbols_] : List (List Int)) V2 := by rw [hrw]; exact (zn.cons (show jC V6 _ _ from ⟨V9, Ub, rfl, Ug, UP⟩) (zn.cons (show jC V6 _ _ from ⟨Ua, Uc, rfl, Uh, UQ⟩) zn.nil))
   refine Qh (g := (zx.v (sz := 1))) V2 [.slice V9 ((rd VP VO).symbols_).length Ub, .slice Ua ((rd VP (qi (VO + (1 : Int)))).symbols_).length Uc] hS Tryz.runUnderlying223 Tryz.sizeOf128 X.el128 rfl rfl rfl (by simp [Value.cells]) (by rw [hrw]; rfl) (by rw [hrw]; rfl) rfl rfl rfl fun w Uj Uk Kk Uw hS => ?_
   clear hrw
   refine qm ?_
   replace hst := hS.st
   obtain ⟨hcl, hmust, hav2, hA⟩ := dn (vals' := [some (.slice V3 VX.length V4), some (.slice VQ VR.length VU), some (.int .i64 VO), some (z9 VQ (Int.toNat VO * 2)), some (z9 VQ (Int.toNat VO * 2 + 0)), some (.int .i64 ((rd VP VO).often_)), some (.slice VQ VR.length VU), some (.int .i64 VO), some (.int .i64 (qi (VO + (1 : Int)))), some (z9 VQ (Int.toNat (qi (VO + (1 : Int))) * 2)), some (z9 VQ (Int.toNat (qi (VO + (1 : Int))) * 2 + 0)), some (.int .i64 ((rd VP (qi (VO + (1 : Int)))).often_)), some (.int .i64 (qi ((rd VP VO).often_ + (rd VP (qi (VO + (1 : Int)))).often_))), some (.slice VQ VR.length VU), some (.int .i64 VO), some (z9 VQ (Int.toNat VO * 2)), some (z9 VQ (Int.toNat VO * 2 + 1)), some (.slice V9 ((rd VP VO).symbols_).length Ub), some (.slice VQ VR.length VU), some (.int .i64 VO), some (.int .i64 (qi (VO + (1 : Int)))), some (z9 VQ (Int.toNat (qi (VO + (1 : Int))) * 2)), some (z9 VQ (Int.toNat (qi (VO + (1 : Int))) * 2 + 1)), some (.slice Ua ((rd VP (qi (VO + (1 : Int)))).symbols_).length Uc), some (.slice Uj V2.length Uk), none, none, none, none, none]) 24 [(17, 24), (23, 24), (16, 17), (22, 23), (15, 16), (21, 22), (13, 15), (14, 15), (18, 21), (20, 21), (19, 20)] hA hcl hav hm hpre hk rfl rfl rfl rfl rfl rfl rfl
   clear hm hav
   refine x4 hA hst ho hcl hav2 hmust 25 [0, 1, 2, 3, 4, 5, 6, 7, 8, 9, 10, 11, 12] rfl rfl rfl rfl rfl (by exact ⟨nM rfl, nM rfl, nM rfl, nQ rfl (by exact qJ (xF rfl rfl Tryz.runUnderlying176 Tryz.sizeOf178 (VT.rd (i := 1) rfl) zx.len rfl (VS.inb VV)) rfl), nQ rfl (by exact qJ (QV (sz := 2) rfl (VT.rd (i := 1) rfl) zx.len rfl (VS.inb VV) Tryz.runUnderlying178 rfl Tryz.sizeOf3 rfl) rfl), nQ rfl (by exact qJ (Yi 0 rfl (VT.rd (i := 1) rfl) zx.len (VS.inb VV) (by rw [show zx.v (rd VR VO) = _ from Uo]; rfl) Tryz.isAgg3) rfl), nM rfl, nM rfl, nB rfl, nQ rfl (by exact qJ (xF rfl rfl Tryz.runUnderlying176 Tryz.sizeOf178 (VT.rd (i := 1) rfl) zx.len rfl (VS.inb VW)) rfl), nQ rfl (by exact qJ (QV (sz := 2) rfl (VT.rd (i := 1) rfl) zx.len rfl (VS.inb VW) Tryz.runUnderlying178 rfl Tryz.sizeOf3 rfl) rfl), nQ rfl (by exact qJ (Yi 0 rfl (VT.rd (i := 1) rfl) zx.len (VS.inb VW) (by rw [show zx.v (rd VR (qi (VO + (1 : Int)))) = _ from Up]; rfl) Tryz.isAgg3) rfl), nB rfl, trivial⟩) fun D l a w ho hcl hav hpre hm hE hk hA hst => ?_
   have hS := (Ss.mk hE hst).env2 (e' := [(36, .slice Uj V2.length Uk)]) ⟨rfl, trivial⟩
   refine qC rfl ?_
   replace hS := hS.front [0, 1, 2] (by kernel_rfl)
   obtain ⟨UG, UZ, V8, hS⟩ := hS.poolF
   have UR := Uw.cap zx.len rfl
   have Un := Uw.pl.mono UZ
   replace VT := VT.mono V8
   replace Ug := Ug.mono V8
   replace Uh := Uh.mono V8
   replace VS := zn.mono (fun _ _ h => qk.mono V8 h) VS
   replace V7 := zn.mono (fun _ _ h => qk.mono V8 h) V7
   replace Ui := zn.mono (fun _ _ h => jC.mono V8 h) Ui
   replace Ue := fun q h => V8 q (Ue q h)
   refine qq hS rfl Tryz.call145 (jW hG K ([(rd VP VO).symbols_, (rd VP (qi (VO + (1 : Int)))).symbols_] : List (List Int)) UG Uj Uk V2 Ui Un UR (hS.st.part 1 [0, 1] (by kernel_rfl)) (qh hM) (fun VZ V0 VY U5 w hM UE hst => qn hS.ev hst.appF rfl fun hS => ?_) (fun v w hk hst => zY (qB (zu (qB (qB (zu (qB (⟨hS.ev.defs, hpan _ _ hk hst.appF.frame⟩)))))))))
   replace hS : Ss _ _ _ H [UG, U5, Um] F _ _ := hS
   refine qm ?_
   replace hst := hS.st
   obtain ⟨hcl, hmust, hav2, hA⟩ := dn (vals' := [some (.slice V3 VX.length V4), some (.slice VQ VR.length VU), some (.int .i64 VO), some (z9 VQ (Int.toNat VO * 2)), some (z9 VQ (Int.toNat VO * 2 + 0)), some (.int .i64 ((rd VP VO).often_)), some (.slice VQ VR.length VU), some (.int .i64 VO), some (.int .i64 (qi (VO + (1 : Int)))), some (z9 VQ (Int.toNat (qi (VO + (1 : Int))) * 2)), some (z9 VQ (Int.toNat (qi (VO + (1 : Int))) * 2 + 0)), some (.int .i64 ((rd VP (qi (VO + (1 : Int)))).often_)), some (.int .i64 (qi ((rd VP VO).often_ + (rd VP (qi (VO + (1 : Int)))).often_))), some (.slice VQ VR.length VU), some (.int .i64 VO), some (z9 VQ (Int.toNat VO * 2)), some (z9 VQ (Int.toNat VO * 2 + 1)), some (.slice V9 ((rd VP VO).symbols_).length Ub), some (.slice VQ VR.length VU), some (.int .i64 VO), some (.int .i64 (qi (VO + (1 : Int)))), some (z9 VQ (Int.toNat (qi (VO + (1 : Int))) * 2)), some (z9 VQ (Int.toNat (qi (VO + (1 : Int))) * 2 + 1)), some (.slice Ua ((rd VP (qi (VO + (1 : Int)))).symbols_).length Uc), some (.slice Uj V2.length Uk), some (.slice VZ VY.length V0), some (.agg ⟨[.int .i64 (qi ((rd VP VO).often_ + (rd VP (qi (VO + (1 : Int)))).often_)), .slice VZ VY.length V0]⟩), none, none, none]) 25 [(24, 25), (17, 24), (23, 24), (16, 17), (22, 23), (15, 16), (21, 22), (13, 15), (14, 15), (18, 21), (20, 21), (19, 20)] hA hcl hav hm hpre hk rfl rfl rfl rfl rfl rfl rfl
   clear hm hav
   refine x4 hA hst ho hcl hav2 hmust 27 [0, 1, 2, 3, 4, 5, 6, 7, 8, 9, 10, 11, 12, 26] rfl rfl rfl rfl rfl (by exact ⟨nM rfl, nM rfl, nM rfl, nQ rfl (by exact qJ (xF rfl rfl Tryz.runUnderlying176 Tryz.sizeOf178 (VT.rd (i := 0) rfl) zx.len rfl (VS.inb VV)) rfl), nQ rfl (by exact qJ (QV (sz := 2) rfl (VT.rd (i := 0) rfl) zx.len rfl (VS.inb VV) Tryz.runUnderlying178 rfl Tryz.sizeOf3 rfl) rfl), nQ rfl (by exact qJ (Yi 0 rfl (VT.rd (i := 0) rfl) zx.len (VS.inb VV) (by rw [show zx.v (rd VR VO) = _ from Uo]; rfl) Tryz.isAgg3) rfl), nM rfl, nM rfl, nB rfl, nQ rfl (by exact qJ (xF rfl rfl Tryz.runUnderlying176 Tryz.sizeOf178 (VT.rd (i := 0) rfl) zx.len rfl (VS.inb VW)) rfl), nQ rfl (by exact qJ (QV (sz := 2) rfl (VT.rd (i := 0) rfl) zx.len rfl (VS.inb VW) Tryz.runUnderlying178 rfl Tryz.sizeOf3 rfl) rfl), nQ rfl (by exact qJ (Yi 0 rfl (VT.rd (i := 0) rfl) zx.len (VS.inb VW) (by rw [show zx.v (rd VR (qi (VO + (1 : Int)))) = _ from Up]; rfl) Tryz.isAgg3) rfl), nB rfl, nQ rfl (by exact qJ (vI ([.int .i64 (qi ((rd VP VO).often_ + (rd VP (qi (VO + (1 : Int)))).often_)), .slice VZ VY.length V0]) [(0, 1), (1, 1)] Tryz.zeroValue178 Tryz.runUnderlying178 (by intro w; simp [Tryz.sizeOf128, Tryz.sizeOf3]) rfl rfl) rfl), trivial⟩) fun D l a w ho hcl hav hpre hm hE hk hA hst => ?_
   have hS := (Ss.mk hE hst).env2 (e' := [(38, .agg ⟨[.int .i64 (qi ((rd VP VO).often_ + (rd VP (qi (VO + (1 : Int)))).often_)), .slice VZ VY.length V0]⟩)]) ⟨rfl, trivial⟩
   refine qC rfl ?_
   replace hS := hS.front [1, 0, 2] (by kernel_rfl)
   obtain ⟨Uz, U0, V1, hS⟩ := hS.poolF
   have US := UE.cap (fun _ => rfl) rfl
   have UV := UE.pl.mono U0
   replace VT := VT.mono V1
   replace Ug := Ug.mono V1
   replace Uh := Uh.mono V1
   replace Un := Un.mono V1
   replace VS := zn.mono (fun _ _ h => qk.mono V1 h) VS
   replace V7 := zn.mono (fun _ _ h => qk.mono V1 h) V7
   replace Ui := zn.mono (fun _ _ h => jC.mono V1 h) Ui
   replace Ue := fun q h => V1 q (Ue q h)
   obtain ⟨Uf, hrw⟩ : ∃ r, r = ([(⟨[.int .i64 (qi ((rd VP VO).often_ + (rd VP (qi (VO + (1 : Int)))).often_)), .slice VZ VY.length V0], by simp, by simp [Value.oneCell']⟩ : zx 2)] : List (zx 2)) := ⟨_, rfl⟩
   have Ux : zn (qk Uz) ([(qb.mk (qi ((rd VP VO).often_ + (rd VP (qi (VO + (1 : Int)))).often_)) VY)] : List qb) Uf := by rw [hrw]; exact (zn.cons (show qk Uz _ _ from ⟨VZ, V0, rfl, UV, US⟩) zn.nil)
   refine Qh (g := (zx.v (sz := 2))) Uf [.agg ⟨[.int .i64 (qi ((rd VP VO).often_ + (rd VP (qi (VO + (1 : Int)))).often_)), .slice VZ VY.length V0]⟩] hS Tryz.runUnderlying176 Tryz.sizeOf178 X.el178 rfl rfl rfl (by simp [Value.cells]) (by rw [hrw]; rfl) (by rw [hrw]; rfl) rfl rfl rfl fun w Ut Uu Kl UK hS => ?_
   clear hrw
   refine qm ?_
   replace hst := hS.st
   obtain ⟨hcl, hmust, hav2, hA⟩ := dn (vals' := [some (.slice V3 VX.length V4), some (.slice VQ VR.length VU), some (.int .i64 VO), some (z9 VQ (Int.toNat VO * 2)), some (z9 VQ (Int.toNat VO * 2 + 0)), some (.int .i64 ((rd VP VO).often_)), some (.slice VQ VR.length VU), some (.int .i64 VO), some (.int .i64 (qi (VO + (1 : Int)))), some (z9 VQ (Int.toNat (qi (VO + (1 : Int))) * 2)), some (z9 VQ (Int.toNat (qi (VO + (1 : Int))) * 2 + 0)), some (.int .i64 ((rd VP (qi (VO + (1 : Int)))).often_)), some (.int .i64 (qi ((rd VP VO).often_ + (rd VP (qi (VO + (1 : Int)))).often_))), some (.slice VQ VR.length VU), some (.int .i64 VO), some (z9 VQ (Int.toNat VO * 2)), some (z9 VQ (Int.toNat VO * 2 + 1)), some (.slice V9 ((rd VP VO).symbols_).length Ub), some (.slice VQ VR.length VU), some (.int .i64 VO), some (.int .i64 (qi (VO + (1 : Int)))), some (z9 VQ (Int.toNat (qi (VO + (1 : Int))) * 2)), some (z9 VQ (Int.toNat (qi (VO + (1 : Int))) * 2 + 1)), some (.slice Ua ((rd VP (qi (VO + (1 : Int)))).symbols_).length Uc), some (.slice Uj V2.length Uk), some (.slice VZ VY.length V0), some (.agg ⟨[.int .i64 (qi ((rd VP VO).often_ + (rd VP (qi (VO + (1 : Int)))).often_)), .slice VZ VY.length V0]⟩), some (.slice Ut Uf.length Uu), none, none]) 27 [(26, 27), (12, 26), (25, 26), (5, 12), (11, 12), (24, 25), (4, 5), (10, 11), (17, 24), (23, 24), (3, 4), (9, 10), (16, 17), (22, 23), (1, 3), (2, 3), (6, 9), (8, 9), (15, 16), (21, 22), (7, 8), (13, 15), (14, 15), (18, 21), (20, 21), (19, 20)] hA hcl hav hm hpre hk rfl rfl rfl rfl rfl rfl rfl
   clear hm hav
   refine x4 hA hst ho hcl hav2 hmust 28 [0] rfl rfl rfl rfl rfl (by exact ⟨nM rfl, trivial⟩) fun D l a w ho hcl hav hpre hm hE hk hA hst => ?_
   have hS := (Ss.mk hE hst).env2 (e' := [(12, .slice V3 VX.length V4), (39, .slice Ut Uf.length Uu)]) ⟨rfl, rfl, trivial⟩
   refine qC rfl ?_
   obtain ⟨UT, hM⟩ := qt hM
   refine QR (ys := Uf) 2 hS rfl rfl Uv rfl (UK.rd (i := 0) rfl) Tryz.runUnderlying176 Tryz.runUnderlying176 X.el178 zx.len rfl Qu (V7.room Ux UT) rfl fun Ul w Ur Us U6 hz UL hS => ?_
   obtain ⟨U3, hzm⟩ := vi (Ud ++ ([(qb.mk (qi ((rd VP VO).often_ + (rd VP (qi (VO + (1 : Int)))).often_)) VY)] : List qb))
   replace hM := qp hzm hM
   have Uy := zn.append V7 Ux
   rw [← hz, ← hzm] at Uy; clear hz hzm
   refine qm ?_
   replace hst := hS.st
   obtain ⟨hcl, hmust, hav2, hA⟩ := dn (vals' := [some (.slice V3 VX.length V4), some (.slice VQ VR.length VU), some (.int .i64 VO), some (z9 VQ (Int.toNat VO * 2)), some (z9 VQ (Int.toNat VO * 2 + 0)), some (.int .i64 ((rd VP VO).often_)), some (.slice VQ VR.length VU), some (.int .i64 VO), some (.int .i64 (qi (VO + (1 : Int)))), some (z9 VQ (Int.toNat (qi (VO + (1 : Int))) * 2)), some (z9 VQ (Int.toNat (qi (VO + (1 : Int))) * 2 + 0)), some (.int .i64 ((rd VP (qi (VO + (1 : Int)))).often_)), some (.int .i64 (qi ((rd VP VO).often_ + (rd VP (qi (VO + (1 : Int)))).often_))), some (.slice VQ VR.length VU), some (.int .i64 VO), some (z9 VQ (Int.toNat VO * 2)), some (z9 VQ (Int.toNat VO * 2 + 1)), some (.slice V9 ((rd VP VO).symbols_).length Ub), some (.slice VQ VR.length VU), some (.int .i64 VO), some (.int .i64 (qi (VO + (1 : Int)))), some (z9 VQ (Int.toNat (qi (VO + (1 : Int))) * 2)), some (z9 VQ (Int.toNat (qi (VO + (1 : Int))) * 2 + 1)), some (.slice Ua ((rd VP (qi (VO + (1 : Int)))).symbols_).length Uc), some (.slice Uj V2.length Uk), some (.slice VZ VY.length V0), some (.agg ⟨[.int .i64 (qi ((rd VP VO).often_ + (rd VP (qi (VO + (1 : Int)))).often_)), .slice VZ VY.length V0]⟩), some (.slice Ut Uf.length Uu), some (.slice Ur Ul.length Us), some (.slice Ur Ul.length Us)]) 28 [(0, 28), (25, 28), (27, 28), (24, 25), (26, 27), (17, 24), (23, 24), (12, 26), (16, 17), (22, 23), (5, 12), (11, 12), (15, 16), (21, 22), (4, 5), (10, 11), (13, 15), (14, 15), (18, 21), (20, 21), (3, 4), (9, 10), (19, 20), (1, 3), (2, 3), (6, 9), (8, 9), (7, 8)] hA hcl hav hm hpre hk rfl rfl rfl rfl rfl rfl rfl
   clear hm hav
   refine xq hA hst ho hcl hmust [29] rfl rfl rfl (by exact ⟨nA rfl, trivial⟩) fun a w hS => ?_
   replace hS := hS.env2 (e' := [(0, .slice VQ VR.length VU), (3, .slice Ur Ul.length Us), (4, .int .i64 VO)]) ⟨rfl, rfl, rfl, trivial⟩
   refine qW (qc ?_)
   refine zb <| sM hS rfl fun hS => sB hS rfl fun hS => qY (v := Value.int .i64) (x0 := (qi (VO + (2 : Int)))) hS (zE rfl) rfl fun U7 a w hz hS => ?_
   have hM := qp hz hM; clear hz
   refine qL <| qc ?_
   exact UI _ _ ⟨Uz, Ur, Us, Ul, U3, U6, U7, hS.to [1, 2] (by kernel_rfl) ⟨rfl, rfl, rfl, trivial⟩, Ue, VS, VT, UO, UL, Uy, hM⟩
  ·refine wp_exit ?_
   refine qv (qv (qO (qc ?_)))
   refine qe <| sM hS rfl fun hS => sA hS rfl fun hS => qm <| wp_ret ?_
   exact qP (rs := [2]) hS rfl rfl (hret V6 V3 V4 VX Ud Um _ (qG hM) Ue Uv V7 (hS.st.pick [0, 1] (by kernel_rfl)))
def xl (p : qj) (x : (List qb)) (vs : List Value) : Prop :=
  ∃ (A0 : Option Addr) (c0 : Nat) (r0 : List (zx 2)), vs = [.slice A0 r0.length c0] ∧ zn (qk p) x r0 ∧ Pl p (zx.v (sz := 2)) A0 r0 ∧ r0.length ≤ c0
theorem xl.mono {p p' : qj} (hs : ∀ q ∈ p, q ∈ p') {x : (List qb)} {vs : List Value} (h : xl p x vs) : xl p' x vs := by
  obtain ⟨A0, c0, r0, h0, h1, h2, h3⟩ := h
  exact ⟨A0, c0, r0, h0, zn.mono (fun _ _ h => qk.mono hs h) h1, h2.mono hs, h3⟩
theorem yi {H : z7} {F : List qj} {w : World} {R : Ending → World → Prop} {kr : Unit → Prop} {kp : Value → Prop} (hG : Gl H) (K : Nat) (VP : Int)
    (hS : St w H [] F) (hm : (xd.m K VP).wp kr kp)
    (hret : ∀ (VT : qj) (VQ : Option Addr) (VR : Nat) (VS : qj) (w : World), kr () → (zM 178 (zx.v (sz := 2)) 2 VQ ([] : List (zx 2)) VR VS) → (zn (qk VT) ([] : List qb) ([] : List (zx 2))) → St w H [VT, VS] F → R (.returned (.slice VQ ([] : List (zx 2)).length VR)) w)
    (hpan : ∀ v w, kp v → St w H [] F → R (.panicked [⟨v, false, false⟩]) w) :
    Calls Tryz.prog 156 ⟨[.slice none 0 0, .int .i64 VP]⟩ w R := by
 refine enter Tryz.func156 rfl Tryz.ntmps156 rfl hS fun a w hS => ?_
 have hM := hm; clear hm
 rw [xd.m] at hM
 refine qe <| sA hS rfl fun hS => ?_
 obtain ⟨VO, hS⟩ := hS.pool0
 obtain ⟨Ua, V7, hS⟩ := hS.nilV 178 (zx.v (sz := 2)) 2
 have V8 : zn (qk VO) ([] : List qb) ([] : List (zx 2)) := zn.nil
 refine qm <| wp_seq <| qe <| sM hS rfl fun hS => sB hS rfl fun hS => qm <| qo hS rfl hM (fun VX hM => ?_) (fun VX hM => ?_)
 ·refine zb ?_
  refine sO hS (Jq rfl Tryz.runUnderlying9 rfl) rfl fun hS => v8 hS rfl <| qB ?_
  exact ⟨hS.ev.defs, hpan _ _ (Qa hM) hS.st.frame⟩
 ·refine wp_skip ?_
  refine qc <| wp_seq <| qe <| sM hS rfl fun hS => sM hS rfl fun hS => sO hS (YB rfl Tryz.runUnderlying176) rfl fun hS => sM hS rfl fun hS => sO hS (xw rfl Tryz.runUnderlying176) rfl fun hS => sB hS rfl fun hS => sB hS rfl fun hS => qY (v := Value.int .i64) (x0 := (qi (VP - (qi ((0 : Int) - (0 : Int)))))) hS (zE rfl) rfl fun V9 a w hz hS => ?_
  have hM := qp hz hM; clear hz
  refine qm <| qe <| sM hS rfl fun hS => sB hS rfl fun hS => qm <| qo hS rfl hM (fun VY hM => ?_) (fun VY hM => ?_)
  ·refine zb ?_
   refine sM hS rfl fun hS => sM hS rfl fun hS => sO hS (YB rfl Tryz.runUnderlying176) rfl fun hS => sO hS (Vn rfl Tryz.runUnderlying176 Tryz.sizeOf178 (Xn rfl)) rfl fun hS => sM hS rfl fun hS => ?_
   obtain ⟨V0, hM⟩ := qt hM
   refine Vb (g := (zx.v (sz := 2))) hS rfl rfl Tryz.runUnderlying176 Tryz.runUnderlying3 X.el178 rfl rfl V0 rfl fun w V3 V4 V5 VV VZ VU hS => ?_
   have V1 : zn (qk VO) ([] : List qb) ([] : List (zx 2)) := zn.nil
   refine sM hS rfl fun hS => sO hS (xw rfl Tryz.runUnderlying176) rfl fun hS => sO hS (Vm rfl Tryz.runUnderlying176 Tryz.sizeOf178 (fun _ => Xn rfl) VZ VU) rfl fun hS => sA hS rfl fun hS => qm <| qe <| sM hS rfl fun hS => sA hS rfl fun hS => qm <| wp_ret ?_
   exact qP (rs := [4]) hS rfl rfl (hret VO V3 V4 V5 _ (qG hM) VV V1 (hS.st.pick [2, 0] (by kernel_rfl)))
  ·refine wp_skip ?_
   refine qc <| qe <| sM hS rfl fun hS => sA hS rfl fun hS => ?_
   obtain ⟨V6, VW, hS⟩ := hS.nilV 178 (zx.v (sz := 2)) 2
   have V2 : zn (qk VO) ([] : List qb) ([] : List (zx 2)) := zn.nil
   refine qm <| wp_ret ?_
   exact qP (rs := [4]) hS rfl rfl (hret VO none (0) V6 _ (qG hM) VW V2 (hS.st.pick [2, 0] (by kernel_rfl)))
end Go.TryzS

set_option maxRecDepth 100000
namespace Go.TryzS
open Go Go.Sl Go.Mo Go.Proofs
attribute [local irreducible] q7.wp
theorem yw {H : z7} {F : List qj} {w : World} {R : Ending → World → Prop} {kr : (List qb) → Prop} {kp : Value → Prop} (hG : Gl H) (K : Nat) (VO : List (List qb)) (VT : qj) (VY : Option Addr) (VZ : Nat) (VR : List (zx 1)) (VQ : zn (xl VT) VO VR) (VV : Pl VT (zx.v (sz := 1)) VY VR) (UM : VR.length ≤ VZ)
    (hS : St w H [VT] F) (hm : (qD.m K VO).wp kr kp)
    (hret : ∀ (Uf : qj) (Uh : Option Addr) (Ui : Nat) (V6 : List (zx 2)) (Un : (List qb)) (Uk : qj) (w : World), kr Un → (∀ q ∈ VT, q ∈ Uf) → (zM 178 (zx.v (sz := 2)) 2 Uh V6 Ui Uk) → (zn (qk Uf) Un V6) → St w H [Uf, Uk] F → R (.returned (.slice Uh V6.length Ui)) w)
    (hpan : ∀ v w, kp v → St w H [] F → R (.panicked [⟨v, false, false⟩]) w) :
    Calls Tryz.prog 143 ⟨[.slice VY VR.length VZ]⟩ w R := by
 refine enter Tryz.func143 rfl Tryz.ntmps143 rfl hS fun a w hS => ?_
 have hM := hm; clear hm
 rw [qD.m] at hM
 have V4 : ∀ q ∈ VT, q ∈ VT := fun _ h => h
 refine qe <| sA hS rfl fun hS => ?_
 obtain ⟨UZ, UL, hS⟩ := hS.nilV 178 (zx.v (sz := 2)) 2
 have UQ : zn (qk VT) ([] : List qb) ([] : List (zx 2)) := zn.nil
 refine qm <| qe <| sA hS rfl fun hS => qm <| qV (fun a w => ∃ (VU : Int), Ss 36 [] [(0, .slice VY VR.length VZ), (3, .int .i64 VU)] H [VT] F a w ∧ (qD.j2 K VO VU).wp kr kp) (fun UV Up => ?_) ?_
 ·refine wp_seq ?_
  refine zb <| sM hS rfl fun hS => sO hS (qJ (v' := .int .i64 (VO.length : Int)) (xw rfl Tryz.runUnderlying221) (by rw [VQ.len])) rfl fun hS => sM hS rfl fun hS => qm <| z3 <| q6 (fun Ul a w => ∃ (VS : Int) (VX : Int), Ss 36 [] [(0, .slice VY VR.length VZ), (3, .int .i64 VS), (9, .slice VY VR.length VZ), (10, .int .i64 (VO.length : Int)), (11, .int .i64 VX)] H [VT] F a w ∧ (qD.l1 K VO Ul VS VX).wp kr kp) K ?_ ?_ ?_
  ·exact ⟨(0 : Int), (0 : Int), hS.to [1] (by kernel_rfl) ⟨rfl, rfl, rfl, rfl, rfl, trivial⟩, hM⟩
  ·intro a w hI; obtain ⟨_, _, _, hM⟩ := hI; exact qX hM
  ·intro Ul a w hI UU Uo
   obtain ⟨VS, VX, hS, hM⟩ := hI
   rw [qD.l1] at hM
   refine qe <| sB hS rfl fun hS => qm <| wp_seq <| qo hS rfl hM (fun Us hM => ?_) (fun Us hM => ?_)
   ·refine wp_skip ?_
    refine qc <| wp_seq <| z3 <| wp_seq <| zb ?_
    obtain ⟨V1, hM⟩ := qt hM
    refine sO hS (xF rfl rfl Tryz.runUnderlying221 Tryz.sizeOf176 (VV.rd (i := 0) rfl) zx.len rfl (VQ.inb V1)) rfl fun hS => ?_
    obtain ⟨US, UX, UR, Uz, Ux, UP, UN⟩ := VQ.get V1
    refine sO hS (xO rfl (VV.rd (i := 0) rfl) zx.len (VQ.inb V1) (by rw [show zx.v (rd VR VX) = _ from Uz]; rfl) Tryz.isAgg176) rfl fun hS => sA hS rfl fun hS => qm <| qe <| sM hS rfl fun hS => sM hS rfl fun hS => sO hS (qJ (v' := .int .i64 ((rd VO VX).length : Int)) (xw rfl Tryz.runUnderlying176) (by rw [Ux.len])) rfl fun hS => sB hS rfl fun hS => qY (v := Value.int .i64) (x0 := (qi (VS + ((rd VO VX).length : Int)))) hS (zE rfl) rfl fun Ug a w hz hS => ?_
    have hM := qp hz hM; clear hz
    refine qm <| qe <| sM hS rfl fun hS => sB hS rfl fun hS => qm <| qo hS rfl hM (fun Ut hM => ?_) (fun Ut hM => ?_)
    ·refine zb ?_
     refine sO hS (Jq rfl Tryz.runUnderlying9 rfl) rfl fun hS => v8 hS rfl <| zu (qB (qB (zu (qB ?_))))
     exact ⟨hS.ev.defs, hpan _ _ (Qa hM) hS.st.frame⟩
    ·refine wp_skip ?_
     refine qW (qc ?_)
     refine zb <| sB hS rfl fun hS => sM hS rfl fun hS => qL <| qc ?_
     exact Uo _ _ ⟨Ug, (qi (VX + (1 : Int))), hS.to [0] (by kernel_rfl) ⟨rfl, rfl, rfl, rfl, rfl, trivial⟩, hM⟩
   ·refine wp_exit ?_
    refine qv (qv (qO (qc ?_)))
    exact Up _ _ ⟨VS, hS.to [0] (by kernel_rfl) ⟨rfl, rfl, trivial⟩, hM⟩
 ·intro a w hI
  obtain ⟨VU, hS, hM⟩ := hI
  rw [qD.j2] at hM
  refine qe <| sM hS rfl fun hS => qq hS rfl Tryz.call156 (yi hG K VU (hS.st.part 0 [0] (by kernel_rfl)) (qh hM) (fun UK UE UG Uj w hM UJ Ua hst => qn hS.ev hst.appF rfl fun hS => ?_) (fun v w hk hst => zY (qB (⟨hS.ev.defs, hpan _ _ hk hst.appF.frame⟩))))
  replace hS : Ss _ _ _ H [UK, Uj, VT] F _ _ := hS
  replace hS := hS.front [0, 2, 1] (by kernel_rfl)
  obtain ⟨Ue, Uy, V5, hS⟩ := hS.poolF
  replace Ua := zn.mono (fun _ _ h => qk.mono Uy h) Ua
  replace VV := VV.mono V5
  replace VQ := zn.mono (fun _ _ h => xl.mono V5 h) VQ
  replace V4 := fun q h => V5 q (V4 q h)
  refine sA hS rfl fun hS => qm <| wp_seq <| qe <| sM hS rfl fun hS => sO hS (qJ (v' := .int .i64 (VO.length : Int)) (xw rfl Tryz.runUnderlying221) (by rw [VQ.len])) rfl fun hS => sM hS rfl fun hS => qm <| z3 <| q6 (fun Um a w => ∃ (V7 : Option Addr) (V8 : Nat) (VW : List (zx 2)) (VP : (List qb)) (V9 : qj) (V0 : Int), Ss 36 [] [(6, .slice V7 VW.length V8), (25, .slice VY VR.length VZ), (26, .int .i64 (VO.length : Int)), (27, .int .i64 V0)] H [Ue, V9] F a w ∧ (zM 178 (zx.v (sz := 2)) 2 V7 VW V8 V9) ∧ (zn (qk Ue) VP VW) ∧ (qD.l3 K VO Um VP V0).wp kr kp) K ?_ ?_ ?_
  ·exact ⟨UE, UG, ([] : List (zx 2)), ([] : List qb), Uj, (0 : Int), hS.to [0, 1] (by kernel_rfl) ⟨rfl, rfl, rfl, rfl, trivial⟩, UJ, Ua, hM⟩
  ·intro a w hI; obtain ⟨_, _, _, _, _, _, _, _, _, hM⟩ := hI; exact qX hM
  ·intro Um a w hI UW Uq
   obtain ⟨V7, V8, VW, VP, V9, V0, hS, Ub, V3, hM⟩ := hI
   rw [qD.l3] at hM
   refine qe <| sB hS rfl fun hS => qm <| wp_seq <| qo hS rfl hM (fun Uu hM => ?_) (fun Uu hM => ?_)
   ·refine wp_skip ?_
    refine qc <| wp_seq <| z3 <| wp_seq <| zb ?_
    obtain ⟨V2, hM⟩ := qt hM
    refine sO hS (xF rfl rfl Tryz.runUnderlying221 Tryz.sizeOf176 (VV.rd (i := 0) rfl) zx.len rfl (VQ.inb V2)) rfl fun hS => ?_
    obtain ⟨UT, UY, UB, UA, Uc, Uw, UO⟩ := VQ.get V2
    refine sO hS (xO rfl (VV.rd (i := 0) rfl) zx.len (VQ.inb V2) (by rw [show zx.v (rd VR V0) = _ from UA]; rfl) Tryz.isAgg176) rfl fun hS => sA hS rfl fun hS => qm <| zb <| sM hS rfl fun hS => sM hS rfl fun hS => ?_
    obtain ⟨Uv, hM⟩ := qt hM
    refine QR (ys := UB) 1 hS rfl rfl Ub rfl (Uw.rd (i := 0) rfl) Tryz.runUnderlying176 Tryz.runUnderlying176 X.el178 zx.len rfl Qu (V3.room Uc Uv) rfl fun UC w UF UH UI hz Ur hS => ?_
    obtain ⟨UD, hzm⟩ := vi (VP ++ (rd VO V0))
    replace hM := qp hzm hM
    have Ud := zn.append V3 Uc
    rw [← hz, ← hzm] at Ud; clear hz hzm
    refine sA hS rfl fun hS => qL <| qW (qc ?_)
    refine zb <| sB hS rfl fun hS => sM hS rfl fun hS => qL <| qc ?_
    exact Uq _ _ ⟨UF, UH, UC, UD, UI, (qi (V0 + (1 : Int))), hS.to [0, 1] (by kernel_rfl) ⟨rfl, rfl, rfl, rfl, trivial⟩, Ur, Ud, hM⟩
   ·refine wp_exit ?_
    refine qv (qv (qO (qc ?_)))
    refine qe <| sM hS rfl fun hS => sA hS rfl fun hS => qm <| wp_ret ?_
    exact qP (rs := [2]) hS rfl rfl (hret Ue V7 V8 VW VP V9 _ (qG hM) V4 Ub V3 (hS.st.pick [0, 1] (by kernel_rfl)))
theorem QW {H : z7} {F : List qj} {w : World} {R : Ending → World → Prop} {kr : (List qb) → Prop} {kp : Value → Prop} (hG : Gl H) (K : Nat) (V1 : List qb) (V2 : List qb) (VO : qj) (V6 : Option Addr) (V8 : Nat) (VQ : List (zx 2)) (V7 : Option Addr) (V9 : Nat) (VR : List (zx 2)) (VX : zn (qk VO) V1 VQ) (VV : Pl VO (zx.v (sz := 2)) V6 VQ) (Uo : VQ.length ≤ V8) (VY : zn (qk VO) V2 VR) (VW : Pl VO (zx.v (sz := 2)) V7 VR) (Up : VR.length ≤ V9)
    (hS : St w H [VO] F) (hm : (vU.m K V1 V2).wp kr kp)
    (hret : ∀ (Ug : qj) (Uh : Option Addr) (Ui : Nat) (Uc : List (zx 2)) (Un : (List qb)) (Um : qj) (w : World), kr Un → (∀ q ∈ VO, q ∈ Ug) → (zM 178 (zx.v (sz := 2)) 2 Uh Uc Ui Um) → (zn (qk Ug) Un Uc) → St w H [Ug, Um] F → R (.returned (.slice Uh Uc.length Ui)) w)
    (hpan : ∀ v w, kp v → St w H [] F → R (.panicked [⟨v, false, false⟩]) w) :
    Calls Tryz.prog 118 ⟨[.slice V6 VQ.length V8, .slice V7 VR.length V9]⟩ w R := by
 refine enter Tryz.func118 rfl Tryz.ntmps118 rfl hS fun a w hS => ?_
 have hM := hm; clear hm
 rw [vU.m] at hM
 have V0 : ∀ q ∈ VO, q ∈ VO := fun _ h => h
 refine qe <| sA hS rfl fun hS => ?_
 obtain ⟨Uj, UB, hS⟩ := hS.nilV 178 (zx.v (sz := 2)) 2
 have V3 : zn (qk VO) ([] : List qb) ([] : List (zx 2)) := zn.nil
 refine qm <| qe <| sM hS rfl fun hS => sM hS rfl fun hS => ?_
 obtain ⟨Ub, hrw⟩ : ∃ r, r = ([(⟨[.slice V6 VQ.length V8], by simp, by simp [Value.oneCell']⟩ : zx 1), (⟨[.slice V7 VR.length V9], by simp, by simp [Value.oneCell']⟩ : zx 1)] : List (zx 1)) := ⟨_, rfl⟩
 have VZ : zn (xl VO) ([V1, V2] : List (List qb)) Ub := by rw [hrw]; exact (zn.cons (show xl VO _ _ from ⟨V6, V8, VQ, rfl, VX, VV, Uo⟩) (zn.cons (show xl VO _ _ from ⟨V7, V9, VR, rfl, VY, VW, Up⟩) zn.nil))
 refine Qh (g := (zx.v (sz := 1))) Ub [.slice V6 VQ.length V8, .slice V7 VR.length V9] hS Tryz.runUnderlying221 Tryz.sizeOf176 X.el176 rfl rfl rfl (by simp [Value.cells]) (by rw [hrw]; rfl) (by rw [hrw]; rfl) rfl rfl rfl fun w Us Ut UC Uf hS => ?_
 clear hrw
 replace hS := hS.front [0, 2, 1] (by kernel_rfl)
 obtain ⟨Uy, Ur, VP, hS⟩ := hS.poolF
 have Uq := Uf.cap zx.len rfl
 have Ua := Uf.pl.mono Ur
 replace VV := VV.mono VP
 replace VW := VW.mono VP
 replace VX := zn.mono (fun _ _ h => qk.mono VP h) VX
 replace VY := zn.mono (fun _ _ h => qk.mono VP h) VY
 replace V3 := zn.mono (fun _ _ h => qk.mono VP h) V3
 replace VZ := zn.mono (fun _ _ h => xl.mono VP h) VZ
 replace V0 := fun q h => VP q (V0 q h)
 refine qq hS rfl Tryz.call143 (yw hG K ([V1, V2] : List (List qb)) Uy Us Ut Ub VZ Ua Uq (hS.st.part 1 [0, 1] (by kernel_rfl)) (qh hM) (fun Ud VS VT V4 Uz Uk w hM VU Uu Uv hst => qn hS.ev hst.appF rfl fun hS => ?_) (fun v w hk hst => zY (qB (⟨hS.ev.defs, hpan _ _ hk hst.appF.frame⟩))))
 replace hS : Ss _ _ _ H [Ud, Uk, Uj] F _ _ := hS
 replace VV := VV.mono VU
 replace VW := VW.mono VU
 replace Ua := Ua.mono VU
 replace VX := zn.mono (fun _ _ h => qk.mono VU h) VX
 replace VY := zn.mono (fun _ _ h => qk.mono VU h) VY
 replace V3 := zn.mono (fun _ _ h => qk.mono VU h) V3
 replace VZ := zn.mono (fun _ _ h => xl.mono VU h) VZ
 replace V0 := fun q h => VU q (V0 q h)
 refine sA hS rfl fun hS => qm <| qe <| sM hS rfl fun hS => qq hS rfl Tryz.call115 (z6 144 (.inr rfl) hG K Uz Ud VS VT V4 Uk Uv Uu (hS.st.part 2 [0, 1, 2] (by kernel_rfl)) (qh hM) (fun V5 UA Ul w hM Uw Ux Ue hst => qn hS.ev hst.appF rfl fun hS => ?_))
 replace hS : Ss _ _ _ H [Ud, Ul, Uj] F _ _ := hS
 replace hS := hS.re 5 (u := .slice VS V4.length VT) (v := .slice VS V5.length VT) rfl (by rw [Ue])
 replace hS := hS.re 9 (u := .slice VS V4.length VT) (v := .slice VS V5.length VT) rfl (by rw [Ue])
 replace hS := hS.re 10 (u := .slice VS V4.length VT) (v := .slice VS V5.length VT) rfl (by rw [Ue])
 refine qm <| qe <| sM hS rfl fun hS => sA hS rfl fun hS => qm <| wp_ret ?_
 exact qP (rs := [4]) hS rfl rfl (hret Ud VS VT V5 UA Ul _ (qG hM) V0 Uw Ux (hS.st.pick [0, 1] (by kernel_rfl)))
theorem vT {H : z7} {F : List qj} {w : World} {R : Ending → World → Prop} {kr : ((List Int) × Int) → Prop} {kp : Value → Prop} (hG : Gl H) (K : Nat) (VO : List Int) (VP : Int) (Uj : Option Addr) (Uk : Nat) (UN : yU H [] F (ci .i64) Uj VO) (K4 : VO.length ≤ Uk)
    (hS : St w H [] F) (hm : (qS.m K VO VP).wp kr kp)
    (hret : ∀ (Kv : Option Addr) (Kx : Nat) (Kt : (List Int)) (Ky : qj) (KG : Int) (w : World), kr (Kt, KG) → (zM 3 (ci .i64) 1 Kv Kt Kx Ky) → St w H [Ky] F → R (.returned (.tuple ⟨[.slice Kv Kt.length Kx, .int .i64 KG]⟩)) w)
    (hpan : ∀ v w, kp v → St w H [] F → R (.panicked [⟨v, false, false⟩]) w) :
    Calls Tryz.prog 93 ⟨[.slice Uj VO.length Uk, .int .i64 VP]⟩ w R := by
 refine enter Tryz.func93 rfl Tryz.ntmps93 rfl hS fun a w hS => ?_
 have hM := hm; clear hm
 rw [qS.m] at hM
 refine qe <| sA hS rfl fun hS => ?_
 obtain ⟨Bz, BS, hS⟩ := hS.nilV 3 (ci .i64) 1
 refine sA hS rfl fun hS => qm <| wp_seq <| qe <| sM hS rfl fun hS => sB hS rfl fun hS => sM hS rfl fun hS => xm 2 false 17 (b := (decide (VP < (1 : Int)))) (r := (decide (VP > (15 : Int)))) hS rfl rfl rfl rfl rfl rfl rfl (fun hb a w hS K hK => ?_) rfl fun a w hS => ?_
 ·refine qI hS rfl rfl rfl hb (mv rfl) rfl fun a w hS => ?_
  refine qI hS rfl rfl rfl hb (xN rfl rfl rfl) rfl fun a w hS => ?_
  exact qL (hK _ _ (hS.up 2 rfl rfl))
 refine sM hS rfl fun hS => xm 3 false 21 (b := ((decide (VP < (1 : Int))) || (decide (VP > (15 : Int))))) (r := (decide ((VO.length : Int) > (320 : Int)))) hS rfl rfl rfl rfl rfl rfl rfl (fun hb a w hS K hK => ?_) rfl fun a w hS => ?_
 ·refine qI hS rfl rfl rfl hb (mv rfl) rfl fun a w hS => ?_
  refine qI hS rfl rfl rfl hb (xw rfl Tryz.runUnderlying128) rfl fun a w hS => qI hS rfl rfl rfl hb (xN rfl rfl rfl) rfl fun a w hS => ?_
  exact qL (hK _ _ (hS.up 3 rfl rfl))
 refine sM hS rfl fun hS => yA (fun a w => ∃ (Ks : Bool), Ss 109 [] [(0, .slice Uj VO.length Uk), (1, .int .i64 VP), (29, .bool Ks)] H [] F a w ∧ (qS.j1 K VO VP Ks).wp kr kp) 3 (fun B1 U3 => ?_) ?_
 ·refine Xi (b := (((decide (VP < (1 : Int))) || (decide (VP > (15 : Int)))) || (decide ((VO.length : Int) > (320 : Int))))) hM (fun Un hM => ?_) (fun Un hM => ?_)
  ·replace hS := hS.re 25 (v := .bool true) rfl (congrArg Value.bool Un)
   replace hS := hS.re 26 (v := .bool true) rfl (congrArg Value.bool Un)
   refine vL 2 hS rfl fun a w hS => sO hS (pk rfl rfl rfl) rfl fun hS => qL <| qc ?_
   exact U3 _ _ ⟨true, hS.to [] (by kernel_rfl) ⟨rfl, rfl, rfl, trivial⟩, hM⟩
  ·replace hS := hS.re 25 (v := .bool false) rfl (congrArg Value.bool Un)
   replace hS := hS.re 26 (v := .bool false) rfl (congrArg Value.bool Un)
   refine qI hS rfl rfl rfl rfl (mv rfl) rfl fun a w hS => vH hS rfl rfl rfl rfl <| qq hS rfl Tryz.call113 (yR hG K VO Uj Uk (UN.app _) K4 (hS.st.part 0 [0] (by kernel_rfl)) (qh hM) (fun BP w hM  hst => qn hS.ev hst.appF rfl fun hS => ?_))
   replace hS : Ss _ _ _ H [Bz] F _ _ := hS
   refine sO hS (pk rfl rfl rfl) rfl fun hS => qL <| qc ?_
   exact U3 _ _ ⟨BP, hS.to [] (by kernel_rfl) ⟨rfl, rfl, rfl, trivial⟩, hM⟩
 ·intro a w hI
  obtain ⟨Ks, hS, hM⟩ := hI
  rw [qS.j1] at hM
  refine qm <| qo hS rfl hM (fun KV hM => ?_) (fun KV hM => ?_)
  ·refine wp_seq ?_
   refine zb <| sA hS rfl fun hS => ?_
   obtain ⟨BA, KO, hS⟩ := hS.nilV 3 (ci .i64) 1
   refine sA hS rfl fun hS => qm <| wp_ret <| qu ?_
   exact qP (rs := [4, 5]) hS rfl rfl (hret none (0) ([] : List Int) BA (1 : Int) _ (qG hM) KO (hS.st.pick [0] (by kernel_rfl)))
  ·refine wp_skip ?_
   refine qc <| qe <| sA hS rfl fun hS => ?_
   obtain ⟨KF, hS⟩ := hS.pool0
   obtain ⟨BB, KP, hS⟩ := hS.nilV 178 (zx.v (sz := 2)) 2
   have Bf : zn (qk KF) ([] : List qb) ([] : List (zx 2)) := zn.nil
   refine qm <| qV (fun a w => ∃ (Uu : qj) (VX : Option Addr) (VY : Nat) (V4 : List (zx 2)) (VQ : (List qb)) (UF : qj), Ss 109 [] [(0, .slice Uj VO.length Uk), (1, .int .i64 VP), (6, .slice VX V4.length VY)] H [Uu, UF] F a w ∧ (zM 178 (zx.v (sz := 2)) 2 VX V4 VY UF) ∧ (zn (qk Uu) VQ V4) ∧ (qS.j3 K VO VP VQ).wp kr kp) (fun B3 KJ => ?_) ?_
   ·refine wp_seq ?_
    refine zb <| sM hS rfl fun hS => sO hS (xw rfl Tryz.runUnderlying128) rfl fun hS => sM hS rfl fun hS => qm <| z3 <| q6 (fun KC a w => ∃ (UH : qj) (UA : Option Addr) (UC : Nat) (Uf : List (zx 2)) (VU : (List qb)) (UE : qj) (V5 : Int), Ss 109 [] [(0, .slice Uj VO.length Uk), (1, .int .i64 VP), (6, .slice UA Uf.length UC), (30, .slice Uj VO.length Uk), (31, .int .i64 (VO.length : Int)), (32, .int .i64 V5)] H [UH, UE] F a w ∧ (zM 178 (zx.v (sz := 2)) 2 UA Uf UC UE) ∧ (zn (qk UH) VU Uf) ∧ (qS.l2 K VO VP KC VU V5).wp kr kp) K ?_ ?_ ?_
    ·exact ⟨KF, none, 0, ([] : List (zx 2)), ([] : List qb), BB, (0 : Int), hS.to [1, 0] (by kernel_rfl) ⟨rfl, rfl, rfl, rfl, rfl, rfl, trivial⟩, KP, Bf, hM⟩
    ·intro a w hI; obtain ⟨_, _, _, _, _, _, _, _, _, _, hM⟩ := hI; exact qX hM
    ·intro KC a w hI B2 U4
     obtain ⟨UH, UA, UC, Uf, VU, UE, V5, hS, UJ, Ue, hM⟩ := hI
     rw [qS.l2] at hM
     refine qe <| sB hS rfl fun hS => qm <| wp_seq <| qo hS rfl hM (fun KW hM => ?_) (fun KW hM => ?_)
     ·refine wp_skip ?_
      refine qc <| wp_seq <| z3 <| qe <| sM hS rfl fun hS => ?_
      obtain ⟨Kc, hM⟩ := qt hM
      refine sO hS (xF rfl rfl Tryz.runUnderlying128 Tryz.sizeOf3 UN.wk (fun _ => rfl) rfl Kc) rfl fun hS => sO hS (xO rfl UN.wk (fun _ => rfl) Kc rfl Tryz.isAgg3) rfl fun hS => sA hS rfl fun hS => qY (v := Value.int .i64) (x0 := (rd VO V5)) hS (zE rfl) rfl fun Ur a w hz hS => ?_
      have hM := qp hz hM; clear hz
      refine qm <| qe <| sM hS rfl fun hS => sB hS rfl fun hS => qm <| qo hS rfl hM (fun KX hM => ?_) (fun KX hM => ?_)
      ·refine zb ?_
       refine sM hS rfl fun hS => sM hS rfl fun hS => sM hS rfl fun hS => Qh (g := (ci .i64)) ([V5] : List Int) [.int .i64 V5] hS Tryz.runUnderlying128 Tryz.sizeOf3 X.el3 rfl rfl rfl (by simp [Value.cells]) rfl rfl rfl rfl rfl fun w UR US Dc U6 hS => sO hS (vI ([.int .i64 Ur, .slice UR ([V5] : List Int).length US]) [(0, 1), (1, 1)] Tryz.zeroValue178 Tryz.runUnderlying178 (by intro w; simp [Tryz.sizeOf128, Tryz.sizeOf3]) rfl rfl) rfl fun hS => ?_
       replace hS := hS.front [0, 1, 2] (by kernel_rfl)
       obtain ⟨Kp, Bh, Bi, hS⟩ := hS.poolF
       have K5 := U6.cap (fun _ => rfl) rfl
       have Bd := U6.pl.mono Bh
       replace Ue := zn.mono (fun _ _ h => qk.mono Bi h) Ue
       obtain ⟨UP, hrw⟩ : ∃ r, r = ([(⟨[.int .i64 Ur, .slice UR ([V5] : List Int).length US], by simp, by simp [Value.oneCell']⟩ : zx 2)] : List (zx 2)) := ⟨_, rfl⟩
       have Kk : zn (qk Kp) ([(qb.mk Ur ([V5] : List Int))] : List qb) UP := by rw [hrw]; exact (zn.cons (show qk Kp _ _ from ⟨UR, US, rfl, Bd, K5⟩) zn.nil)
       refine Qh (g := (zx.v (sz := 2))) UP [.agg ⟨[.int .i64 Ur, .slice UR ([V5] : List Int).length US]⟩] hS Tryz.runUnderlying176 Tryz.sizeOf178 X.el178 rfl rfl rfl (by simp [Value.cells]) (by rw [hrw]; rfl) (by rw [hrw]; rfl) rfl rfl rfl fun w BZ Da Dd KQ hS => ?_
       clear hrw
       obtain ⟨K9, hM⟩ := qt hM
       refine QR (ys := UP) 2 hS rfl rfl UJ rfl (KQ.rd (i := 0) rfl) Tryz.runUnderlying176 Tryz.runUnderlying176 X.el178 zx.len rfl Qu (Ue.room Kk K9) rfl fun Bp w Bt Bw BC hz KR hS => ?_
       obtain ⟨Bs, hzm⟩ := vi (VU ++ ([(qb.mk Ur ([V5] : List Int))] : List qb))
       replace hM := qp hzm hM
       have Kl := zn.append Ue Kk
       rw [← hz, ← hzm] at Kl; clear hz hzm
       refine sA hS rfl fun hS => qL <| qW (qc ?_)
       refine zb <| sB hS rfl fun hS => sM hS rfl fun hS => qL <| qc ?_
       exact U4 _ _ ⟨Kp, Bt, Bw, Bp, Bs, BC, (qi (V5 + (1 : Int))), hS.to [1, 2] (by kernel_rfl) ⟨rfl, rfl, rfl, rfl, rfl, rfl, trivial⟩, KR, Kl, hM⟩
      ·refine wp_skip ?_
       refine qW (qc ?_)
       refine zb <| sB hS rfl fun hS => sM hS rfl fun hS => qL <| qc ?_
       exact U4 _ _ ⟨UH, UA, UC, Uf, VU, UE, (qi (V5 + (1 : Int))), hS.to [0, 1] (by kernel_rfl) ⟨rfl, rfl, rfl, rfl, rfl, rfl, trivial⟩, UJ, Ue, hM⟩
     ·refine wp_exit ?_
      refine qv (qv (qO (qc ?_)))
      exact KJ _ _ ⟨UH, UA, UC, Uf, VU, UE, hS.to [0, 1] (by kernel_rfl) ⟨rfl, rfl, rfl, trivial⟩, UJ, Ue, hM⟩
   ·intro a w hI
    obtain ⟨Uu, VX, VY, V4, VQ, UF, hS, Uv, V7, hM⟩ := hI
    rw [qS.j3] at hM
    refine wp_seq <| qe <| sM hS rfl fun hS => sO hS (qJ (v' := .int .i64 (VQ.length : Int)) (xw rfl Tryz.runUnderlying176) (by rw [V7.len])) rfl fun hS => sM hS rfl fun hS => ?_
    obtain ⟨Ba, hM⟩ := qt hM
    refine sO hS (shl rfl rfl Ba) rfl fun hS => sB hS rfl fun hS => qm <| qo hS rfl hM (fun KY hM => ?_) (fun KY hM => ?_)
    ·refine wp_seq ?_
     refine zb <| sA hS rfl fun hS => ?_
     obtain ⟨BD, KS, hS⟩ := hS.nilV 3 (ci .i64) 1
     refine sA hS rfl fun hS => qm <| wp_ret <| qu ?_
     exact qP (rs := [4, 5]) hS rfl rfl (hret none (0) ([] : List Int) BD (1 : Int) _ (qG hM) KS (hS.st.pick [0] (by kernel_rfl)))
    ·refine wp_skip ?_
     refine qc <| qe <| sM hS rfl fun hS => sO hS (xw rfl Tryz.runUnderlying128) rfl fun hS => ?_
     obtain ⟨Bb, hM⟩ := qt hM
     refine Yn (g := (ci .i64)) (m := (VO.length : Int)) (0 : Int) hS rfl rfl (by simp) Tryz.runUnderlying128 X.el3 (fun w => ⟨_, Tryz.zeroValue3 w, rfl⟩) (fun _ => rfl) rfl rfl Bb rfl fun Uy w VR VS BE hz UK hS => ?_
     have hM := qp hz hM; clear hz
     refine sA hS rfl fun hS => qm <| qV (fun a w => ∃ (VW : (List Int)) (V9 : qj), Ss 109 [] [(1, .int .i64 VP), (6, .slice VX V4.length VY), (9, .slice VR VW.length VS)] H [Uu, UF, V9] F a w ∧ (zM 3 (ci .i64) 1 VR VW VS V9) ∧ (qS.j4 K VP VQ VW).wp kr kp) (fun B4 U5 => ?_) ?_
     ·refine wp_seq ?_
      refine zb <| sM hS rfl fun hS => sO hS (qJ (v' := .int .i64 (VQ.length : Int)) (xw rfl Tryz.runUnderlying176) (by rw [V7.len])) rfl fun hS => sB hS rfl fun hS => qm <| qo hS rfl hM (fun KZ hM => ?_) (fun KZ hM => ?_)
      ·refine zb ?_
       refine sM hS rfl fun hS => sM hS rfl fun hS => ?_
       obtain ⟨Uw, hM⟩ := qt hM
       refine sO hS (xF rfl rfl Tryz.runUnderlying176 Tryz.sizeOf178 (Uv.rd (i := 2) rfl) zx.len rfl (V7.inb Uw)) rfl fun hS => sO hS (QV (sz := 2) rfl (Uv.rd (i := 2) rfl) zx.len rfl (V7.inb Uw) Tryz.runUnderlying178 rfl Tryz.sizeOf128 rfl) rfl fun hS => ?_
       obtain ⟨B0, Db, Bn, Kg, BU⟩ := V7.get Uw
       refine sO hS (Yi 1 rfl (Uv.rd (i := 2) rfl) zx.len (V7.inb Uw) (by rw [show zx.v (rd V4 (0 : Int)) = _ from Bn]; rfl) Tryz.isAgg128) rfl fun hS => ?_
       obtain ⟨Kd, hM⟩ := qt hM
       refine sO hS (xF rfl rfl Tryz.runUnderlying128 Tryz.sizeOf3 (Kg.rd (i := 1) rfl) (fun _ => rfl) rfl Kd) rfl fun hS => sO hS (xO rfl (Kg.rd (i := 1) rfl) (fun _ => rfl) Kd rfl Tryz.isAgg3) rfl fun hS => ?_
       obtain ⟨Ke, hM⟩ := qt hM
       refine sO hS (xF rfl rfl Tryz.runUnderlying128 Tryz.sizeOf3 (UK.rd (i := 0) rfl) (fun _ => rfl) rfl Ke) rfl fun hS => QS (i := (rd ((rd VQ (0 : Int)).symbols_) (0 : Int))) (sz := 1) 0 0 ((1 : Int)) hS rfl rfl UK rfl Tryz.sizeOf3 (xg (1 : Int)) (fun _ => rfl) Ke rfl rfl fun Uz w BF hz UO KT hS => ?_
       have hM := qp hz hM; clear hz
       replace hS := hS.re 9 (u := .slice VR Uy.length VS) (v := .slice VR Uz.length VS) rfl (by rw [UO])
       replace hS := hS.re 54 (u := .slice VR Uy.length VS) (v := .slice VR Uz.length VS) rfl (by rw [UO])
       replace hS := hS.re 58 (u := .slice VR Uy.length VS) (v := .slice VR Uz.length VS) rfl (by rw [UO])
       refine qL <| qc ?_
       exact U5 _ _ ⟨Uz, BF, hS.to [1, 2, 0] (by kernel_rfl) ⟨rfl, rfl, rfl, trivial⟩, KT, hM⟩
      ·refine wp_skip ?_
       refine qc ?_
       exact U5 _ _ ⟨Uy, BE, hS.to [1, 2, 0] (by kernel_rfl) ⟨rfl, rfl, rfl, trivial⟩, UK, hM⟩
     ·intro a w hI
      obtain ⟨VW, V9, hS, U7, hM⟩ := hI
      rw [qS.j4] at hM
      refine wp_seq <| qe <| sM hS rfl fun hS => sO hS (qJ (v' := .int .i64 (VQ.length : Int)) (xw rfl Tryz.runUnderlying176) (by rw [V7.len])) rfl fun hS => sB hS rfl fun hS => qm <| qo hS rfl hM (fun K0 hM => ?_) (fun K0 hM => ?_)
      ·refine wp_seq ?_
       refine zb <| sM hS rfl fun hS => sA hS rfl fun hS => sA hS rfl fun hS => qm <| wp_ret <| qu ?_
       exact qP (rs := [4, 5]) hS rfl rfl (hret VR VS VW V9 (0 : Int) _ (qG hM) U7 (hS.st.pick [2] (by kernel_rfl)))
      ·refine wp_skip ?_
       refine qc <| qe <| sM hS rfl fun hS => qq hS rfl Tryz.call115 (z6 116 (.inl rfl) hG K VQ Uu VX VY V4 UF V7 Uv (hS.st.part 2 [0, 1, 2] (by kernel_rfl)) (qh hM) (fun VT Ua BG w hM Kz UU U1 hst => qn hS.ev hst.appF rfl fun hS => ?_))
       replace hS : Ss _ _ _ H [Uu, BG, V9] F _ _ := hS
       replace hS := hS.re 6 (u := .slice VX V4.length VY) (v := .slice VX VT.length VY) rfl (by rw [U1])
       replace hS := hS.re 66 (u := .slice VX V4.length VY) (v := .slice VX VT.length VY) rfl (by rw [U1])
       replace hS := hS.re 70 (u := .slice VX V4.length VY) (v := .slice VX VT.length VY) rfl (by rw [U1])
       refine qm <| qe <| sM hS rfl fun hS => sA hS rfl fun hS => qm <| qV (fun a w => ∃ (Uh : qj) (UX : Option Addr) (UZ : Nat) (Us : List (zx 2)) (Ui : (List qb)), Ss 109 [] [(6, .slice VX VT.length VY), (9, .slice VR VW.length VS), (10, .slice UX Us.length UZ)] H [Uh, V9] F a w ∧ (zn (qk Uh) Ua VT) ∧ (Pl Uh (zx.v (sz := 2)) VX VT) ∧ (VT.length ≤ VY) ∧ (zn (qk Uh) Ui Us) ∧ (Pl Uh (zx.v (sz := 2)) UX Us) ∧ (Us.length ≤ UZ) ∧ (qS.j6 K VW Ua Ui).wp kr kp) (fun B6 KL => ?_) ?_
       ·refine wp_seq ?_
        refine zb <| sM hS rfl fun hS => sB hS rfl fun hS => sM hS rfl fun hS => qm <| z3 <| q6 (fun KD a w => ∃ (Ug : qj) (UB : Option Addr) (UD : Nat) (Uc : List (zx 2)) (Ud : (List qb)) (UW : Int), Ss 109 [] [(6, .slice VX VT.length VY), (9, .slice VR VW.length VS), (10, .slice UB Uc.length UD), (74, .int .i64 (qi (VP - (1 : Int)))), (75, .int .i64 UW)] H [Ug, V9] F a w ∧ (zn (qk Ug) Ua VT) ∧ (Pl Ug (zx.v (sz := 2)) VX VT) ∧ (VT.length ≤ VY) ∧ (zn (qk Ug) Ud Uc) ∧ (Pl Ug (zx.v (sz := 2)) UB Uc) ∧ (Uc.length ≤ UD) ∧ (qS.l5 K VP VW Ua KD Ud UW).wp kr kp) K ?_ ?_ ?_
        ·replace hS := hS.front [1, 0, 2] (by kernel_rfl)
         obtain ⟨BN, Bk, Bl, hS⟩ := hS.poolF
         have Ka := Kz.cap zx.len rfl
         have Kh := Kz.pl.mono Bk
         replace UU := zn.mono (fun _ _ h => qk.mono Bl h) UU
         exact ⟨BN, VX, VY, VT, Ua, (0 : Int), hS.to [0, 1] (by kernel_rfl) ⟨rfl, rfl, rfl, rfl, rfl, trivial⟩, UU, Kh, Ka, UU, Kh, Ka, hM⟩
        ·intro a w hI; obtain ⟨_, _, _, _, _, _, _, _, _, _, _, _, _, hM⟩ := hI; exact qX hM
        ·intro KD a w hI B5 KK
         obtain ⟨Ug, UB, UD, Uc, Ud, UW, hS, V1, V0, UL, V3, V2, U9, hM⟩ := hI
         rw [qS.l5] at hM
         refine qe <| sB hS rfl fun hS => qm <| wp_seq <| qo hS rfl hM (fun K1 hM => ?_) (fun K1 hM => ?_)
         ·refine wp_skip ?_
          refine qc <| wp_seq <| z3 <| zb <| sM hS rfl fun hS => sM hS rfl fun hS => qq hS rfl Tryz.call119 (Zs hG K Ud Ug UB UD Uc V3 V2 U9 (hS.st.part 1 [0, 1] (by kernel_rfl)) (qh hM) (fun BK Bu Bx Bq BQ BH w hM UV KA Ul hst => qn hS.ev hst.appF rfl fun hS => ?_) (fun v w hk hst => zY (zu (qB (qB (zu (qB (⟨hS.ev.defs, hpan _ _ hk hst.appF.frame⟩))))))))
          replace hS : Ss _ _ _ H [BK, BH, V9] F _ _ := hS
          replace V0 := V0.mono UV
          replace V2 := V2.mono UV
          replace V1 := zn.mono (fun _ _ h => qk.mono UV h) V1
          replace V3 := zn.mono (fun _ _ h => qk.mono UV h) V3
          replace hS := hS.front [1, 0, 2] (by kernel_rfl)
          obtain ⟨BL, Bj, Uq, hS⟩ := hS.poolF
          have K6 := KA.cap zx.len rfl
          have Uo := KA.pl.mono Bj
          replace Ul := zn.mono (fun _ _ h => qk.mono Uq h) Ul
          replace V0 := V0.mono Uq
          replace V2 := V2.mono Uq
          replace V1 := zn.mono (fun _ _ h => qk.mono Uq h) V1
          replace V3 := zn.mono (fun _ _ h => qk.mono Uq h) V3
          refine qq hS rfl Tryz.call118 (QW hG K Ua BQ BL VX VY VT Bu Bx Bq V1 V0 UL Ul Uo K6 (hS.st.part 1 [0, 1] (by kernel_rfl)) (qh hM) (fun BM Bv By Br BR BI w hM Ut KB U2 hst => qn hS.ev hst.appF rfl fun hS => ?_) (fun v w hk hst => zY (zu (qB (qB (zu (qB (⟨hS.ev.defs, hpan _ _ hk hst.appF.frame⟩))))))))
          replace hS : Ss _ _ _ H [BM, BI, V9] F _ _ := hS
          replace Ul := zn.mono (fun _ _ h => qk.mono Ut h) Ul
          replace V0 := V0.mono Ut
          replace V2 := V2.mono Ut
          replace Uo := Uo.mono Ut
          replace V1 := zn.mono (fun _ _ h => qk.mono Ut h) V1
          replace V3 := zn.mono (fun _ _ h => qk.mono Ut h) V3
          refine sA hS rfl fun hS => qL <| qW (qc ?_)
          refine zb <| sB hS rfl fun hS => sM hS rfl fun hS => qL <| qc ?_
          replace hS := hS.front [1, 0, 2] (by kernel_rfl)
          obtain ⟨BO, Bm, Ub, hS⟩ := hS.poolF
          have K7 := KB.cap zx.len rfl
          have Be := KB.pl.mono Bm
          replace Ul := zn.mono (fun _ _ h => qk.mono Ub h) Ul
          replace U2 := zn.mono (fun _ _ h => qk.mono Ub h) U2
          replace V0 := V0.mono Ub
          replace V2 := V2.mono Ub
          replace Uo := Uo.mono Ub
          replace V1 := zn.mono (fun _ _ h => qk.mono Ub h) V1
          replace V3 := zn.mono (fun _ _ h => qk.mono Ub h) V3
          exact KK _ _ ⟨BO, Bv, By, Br, BR, (qi (UW + (1 : Int))), hS.to [0, 1] (by kernel_rfl) ⟨rfl, rfl, rfl, rfl, rfl, trivial⟩, V1, V0, UL, U2, Be, K7, hM⟩
         ·refine wp_exit ?_
          refine qv (qv (qO (qc ?_)))
          exact KL _ _ ⟨Ug, UB, UD, Uc, Ud, hS.to [0, 1] (by kernel_rfl) ⟨rfl, rfl, rfl, trivial⟩, V1, V0, UL, V3, V2, U9, hM⟩
       ·intro a w hI
        obtain ⟨Uh, UX, UZ, Us, Ui, hS, Bg, BY, BV, Km, Ki, K8, hM⟩ := hI
        rw [qS.j6] at hM
        refine wp_seq <| qe <| sM hS rfl fun hS => sM hS rfl fun hS => sO hS (qJ (v' := .int .i64 (Ua.length : Int)) (xw rfl Tryz.runUnderlying176) (by rw [Bg.len])) rfl fun hS => sB hS rfl fun hS => sB hS rfl fun hS => ?_
        obtain ⟨Bc, hM⟩ := qt hM
        refine JF (g := (zx.v (sz := 2))) hS rfl Tryz.runUnderlying176 Tryz.sizeOf178 YF (Xn rfl) zx.len K8 (Km.subok Bc) rfl fun Kq Ku Kw a w hz Kb BW hS => ?_
        obtain ⟨VV, hzm⟩ := vi (sub Ui (0 : Int) (qi ((qi ((2 : Int) * (Ua.length : Int))) - (2 : Int))))
        replace hM := qp hzm hM
        have Up := Km.sub (0 : Int) (qi ((qi ((2 : Int) * (Ua.length : Int))) - (2 : Int))) (qi ((qi ((2 : Int) * (Ua.length : Int))) - (2 : Int))) rfl
        rw [← hz, ← hzm] at Up; clear hz hzm
        refine sO hS (qJ (v' := .int .i64 (VV.length : Int)) (xw rfl Tryz.runUnderlying176) (by rw [Up.len])) rfl fun hS => sM hS rfl fun hS => qm <| z3 <| q6 (fun Ko a w => ∃ (V8 : (List Int)) (UG : qj) (V6 : Int), Ss 109 [] [(9, .slice VR V8.length VS), (87, .slice Ku Kq.length Kw), (88, .int .i64 (VV.length : Int)), (89, .int .i64 V6)] H [UG, Uh] F a w ∧ (zM 3 (ci .i64) 1 VR V8 VS UG) ∧ (qS.l7 K VV Ko V8 V6).wp kr kp) K ?_ ?_ ?_
        ·exact ⟨VW, V9, (0 : Int), hS.to [1, 0] (by kernel_rfl) ⟨rfl, rfl, rfl, rfl, trivial⟩, U7, hM⟩
        ·intro a w hI; obtain ⟨_, _, _, _, _, hM⟩ := hI; exact qX hM
        ·intro Ko a w hI B8 KN
         obtain ⟨V8, UG, V6, hS, U8, hM⟩ := hI
         rw [qS.l7] at hM
         refine qe <| sB hS rfl fun hS => qm <| wp_seq <| qo hS rfl hM (fun K2 hM => ?_) (fun K2 hM => ?_)
         ·refine wp_skip ?_
          refine qc <| wp_seq <| z3 <| wp_seq <| zb ?_
          obtain ⟨UM, hM⟩ := qt hM
          refine sO hS (xF rfl rfl Tryz.runUnderlying176 Tryz.sizeOf178 (Kb _ _ _ (Ki.rd (i := 1) rfl)) zx.len rfl (Up.inb UM)) rfl fun hS => ?_
          obtain ⟨UY, U0, Bo, Kj, BX⟩ := Up.get UM
          refine sO hS (qJ (jj rfl (Kb _ _ _ (Ki.rd (i := 1) rfl)) zx.len (Up.inb UM) Tryz.isAgg178 Tryz.sizeOf178 rfl) (congrArg (fun l => Value.agg ⟨l⟩) Bo)) rfl fun hS => jz ([.int .i64 (0 : Int), .slice none 0 0]) hS Tryz.zeroValue178 rfl rfl fun w B9 De KH hS => ?_
          obtain ⟨Df, BT, hS⟩ := hS.nilV 3 (ci .i64) 1
          refine jn 1 ([.int .i64 ((rd VV V6).often_), .slice UY ((rd VV V6).symbols_).length U0]) ([.int .i64 ((rd VV V6).often_), .slice UY ((rd VV V6).symbols_).length U0]) hS rfl rfl KH rfl rfl Tryz.sizeOf178 (by simp [Value.oneCell']) (Nat.le_of_ble_eq_true rfl) rfl fun w Dg KI hS => qm <| qe <| sO hS (zz rfl Tryz.runUnderlying178 rfl Tryz.sizeOf128 rfl) rfl fun hS => sO hS (zU 1 rfl KI rfl rfl Tryz.isAgg128) rfl fun hS => sO hS (xw rfl Tryz.runUnderlying128) rfl fun hS => sM hS rfl fun hS => qm <| z3 <| q6 (fun KE a w => ∃ (VZ : (List Int)) (UT : qj) (UI : Int), Ss 109 [] [(9, .slice VR VZ.length VS), (87, .slice Ku Kq.length Kw), (88, .int .i64 (VV.length : Int)), (89, .int .i64 V6), (94, .slice UY ((rd VV V6).symbols_).length U0), (95, .int .i64 (((rd VV V6).symbols_).length : Int)), (96, .int .i64 UI)] H [UT, Uh] F a w ∧ (zM 3 (ci .i64) 1 VR VZ VS UT) ∧ (qS.l8 K (qS.l7 K VV Ko) VV V6 KE VZ UI).wp kr kp) K ?_ ?_ ?_
          ·exact ⟨V8, UG, (0 : Int), hS.to [2, 3] (by kernel_rfl) ⟨rfl, rfl, rfl, rfl, rfl, rfl, rfl, trivial⟩, U8, hM⟩
          ·intro a w hI; obtain ⟨_, _, _, _, _, hM⟩ := hI; exact qX hM
          ·intro KE a w hI B7 KM
           obtain ⟨VZ, UT, UI, hS, Um, hM⟩ := hI
           rw [qS.l8] at hM
           refine qe <| sB hS rfl fun hS => qm <| wp_seq <| qo hS rfl hM (fun K3 hM => ?_) (fun K3 hM => ?_)
           ·refine wp_skip ?_
            refine qc <| wp_seq <| z3 <| wp_seq <| zb ?_
            obtain ⟨Kf, hM⟩ := qt hM
            refine sO hS (xF rfl rfl Tryz.runUnderlying128 Tryz.sizeOf3 (Kj.rd (i := 1) rfl) (fun _ => rfl) rfl Kf) rfl fun hS => sO hS (xO rfl (Kj.rd (i := 1) rfl) (fun _ => rfl) Kf rfl Tryz.isAgg3) rfl fun hS => qY (v := Value.int .i64) (x0 := (rd ((rd VV V6).symbols_) UI)) hS (zE rfl) rfl fun Kr a w hz hS => ?_
            have hM := qp hz hM; clear hz
            refine qm <| zb <| sM hS rfl fun hS => sM hS rfl fun hS => ?_
            obtain ⟨Ux, hM⟩ := qt hM
            refine sO hS (xF rfl rfl Tryz.runUnderlying128 Tryz.sizeOf3 (Um.rd (i := 0) rfl) (fun _ => rfl) rfl Ux) rfl fun hS => sO hS (xO rfl (Um.rd (i := 0) rfl) (fun _ => rfl) Ux rfl Tryz.isAgg3) rfl fun hS => sB hS rfl fun hS => sO hS (xF rfl rfl Tryz.runUnderlying128 Tryz.sizeOf3 (Um.rd (i := 0) rfl) (fun _ => rfl) rfl Ux) rfl fun hS => QS (i := Kr) (sz := 1) 0 0 ((qi ((rd VZ Kr) + (1 : Int)))) hS rfl rfl Um rfl Tryz.sizeOf3 (xg (qi ((rd VZ Kr) + (1 : Int)))) (fun _ => rfl) Ux rfl rfl fun UQ w BJ hz Kn KU hS => ?_
            have hM := qp hz hM; clear hz
            replace hS := hS.re 9 (u := .slice VR VZ.length VS) (v := .slice VR UQ.length VS) rfl (by rw [Kn])
            replace hS := hS.re 100 (u := .slice VR VZ.length VS) (v := .slice VR UQ.length VS) rfl (by rw [Kn])
            refine qL <| qW (qc ?_)
            refine zb <| sB hS rfl fun hS => sM hS rfl fun hS => qL <| qc ?_
            exact KM _ _ ⟨UQ, BJ, (qi (UI + (1 : Int))), hS.to [0, 1] (by kernel_rfl) ⟨rfl, rfl, rfl, rfl, rfl, rfl, rfl, trivial⟩, KU, hM⟩
           ·refine wp_exit ?_
            refine qv (qv (qO (qW (qc ?_))))
            refine zb <| sB hS rfl fun hS => sM hS rfl fun hS => qL <| qc ?_
            exact KN _ _ ⟨VZ, UT, (qi (V6 + (1 : Int))), hS.to [0, 1] (by kernel_rfl) ⟨rfl, rfl, rfl, rfl, trivial⟩, Um, hM⟩
         ·refine wp_exit ?_
          refine qv (qv (qO (qc ?_)))
          refine qe <| sM hS rfl fun hS => sA hS rfl fun hS => sA hS rfl fun hS => qm <| wp_ret ?_
          exact qP (rs := [4, 5]) hS rfl rfl (hret VR VS V8 UG (0 : Int) _ (qG hM) U8 (hS.st.pick [0] (by kernel_rfl)))
theorem jP {H : z7} {F : List qj} {w : World} {R : Ending → World → Prop} {kr : ((List Int) × (List Int)) → Prop} {kp : Value → Prop} (hG : Gl H) (K : Nat) (VO : List Int) (VR : Option Addr) (VS : Nat) (V2 : qj) (V6 : zM 3 (ci .i64) 1 VR VO VS V2)
    (hS : St w H [V2] F) (hm : (zk.m K VO).wp kr kp)
    (hret : ∀ (Ud : Option Addr) (Ue : Nat) (Uc : (List Int)) (Ug : qj) (VV : (List Int)) (Uh : qj) (w : World), kr (Uc, VV) → (zM 3 (ci .i64) 1 Ud Uc Ue Ug) → (zM 3 (ci .i64) 1 VR VV VS Uh) → (VV.length = VO.length) → St w H [Ug, Uh] F → R (.returned (.slice Ud Uc.length Ue)) w)
    (hpan : ∀ v w, kp v → St w H [] F → R (.panicked [⟨v, false, false⟩]) w) :
    Calls Tryz.prog 91 ⟨[.slice VR VO.length VS]⟩ w R := by
 refine enter Tryz.func91 rfl Tryz.ntmps91 rfl hS fun a w hS => ?_
 have hM := hm; clear hm
 rw [zk.m] at hM
 have Ur : VO.length = VO.length := rfl
 refine qe <| sA hS rfl fun hS => ?_
 obtain ⟨UI, UD, hS⟩ := hS.nilV 3 (ci .i64) 1
 refine qm <| qe <| sA hS rfl fun hS => qm <| qV (fun a w => ∃ (V0 : Int), Ss 43 [] [(0, .slice VR VO.length VS), (3, .int .i64 V0)] H [V2] F a w ∧ (zk.j2 K VO V0).wp kr kp) (fun UF Ul => ?_) ?_
 ·refine wp_seq ?_
  refine zb <| sM hS rfl fun hS => sO hS (xw rfl Tryz.runUnderlying128) rfl fun hS => sM hS rfl fun hS => qm <| z3 <| q6 (fun Ui a w => ∃ (VX : Int) (V5 : Int), Ss 43 [] [(0, .slice VR VO.length VS), (3, .int .i64 VX), (9, .slice VR VO.length VS), (10, .int .i64 (VO.length : Int)), (11, .int .i64 V5)] H [V2] F a w ∧ (zk.l1 K VO Ui VX V5).wp kr kp) K ?_ ?_ ?_
  ·exact ⟨(0 : Int), (0 : Int), hS.to [1] (by kernel_rfl) ⟨rfl, rfl, rfl, rfl, rfl, trivial⟩, hM⟩
  ·intro a w hI; obtain ⟨_, _, _, hM⟩ := hI; exact qX hM
  ·intro Ui a w hI UE Uk
   obtain ⟨VX, V5, hS, hM⟩ := hI
   rw [zk.l1] at hM
   refine qe <| sB hS rfl fun hS => qm <| wp_seq <| qo hS rfl hM (fun Uo hM => ?_) (fun Uo hM => ?_)
   ·refine wp_skip ?_
    refine qc <| wp_seq <| z3 <| wp_seq <| zb ?_
    obtain ⟨Ua, hM⟩ := qt hM
    refine sO hS (xF rfl rfl Tryz.runUnderlying128 Tryz.sizeOf3 (V6.rd (i := 0) rfl) (fun _ => rfl) rfl Ua) rfl fun hS => sO hS (xO rfl (V6.rd (i := 0) rfl) (fun _ => rfl) Ua rfl Tryz.isAgg3) rfl fun hS => qY (v := Value.int .i64) (x0 := (rd VO V5)) hS (zE rfl) rfl fun Ub a w hz hS => ?_
    have hM := qp hz hM; clear hz
    refine qm <| zb <| sM hS rfl fun hS => sM hS rfl fun hS => sO hS (Xq rfl rfl) rfl fun hS => sB hS rfl fun hS => qY (v := Value.int .i64) (x0 := (qi (VX + (if (1 : Int) < Ub then (1 : Int) else Ub)))) hS (zE rfl) rfl fun Uu a w hz hS => ?_
    have hM := qp hz hM; clear hz
    refine qL <| qW (qc ?_)
    refine zb <| sB hS rfl fun hS => sM hS rfl fun hS => qL <| qc ?_
    exact Uk _ _ ⟨Uu, (qi (V5 + (1 : Int))), hS.to [0] (by kernel_rfl) ⟨rfl, rfl, rfl, rfl, rfl, trivial⟩, hM⟩
   ·refine wp_exit ?_
    refine qv (qv (qO (qc ?_)))
    exact Ul _ _ ⟨VX, hS.to [0] (by kernel_rfl) ⟨rfl, rfl, trivial⟩, hM⟩
 ·intro a w hI
  obtain ⟨V0, hS, hM⟩ := hI
  rw [zk.j2] at hM
  refine qV (fun a w => ∃ (VQ : (List Int)) (V4 : qj), Ss 43 [] [(0, .slice VR VQ.length VS)] H [V4] F a w ∧ (zM 3 (ci .i64) 1 VR VQ VS V4) ∧ (VQ.length = VO.length) ∧ (zk.j4 K VQ).wp kr kp) (fun UH Um => ?_) ?_
  ·refine wp_seq ?_
   refine zb <| sA hS rfl fun hS => qm <| z3 <| q6 (fun Uj a w => ∃ (VP : (List Int)) (V3 : qj) (VY : Int) (VW : Int), Ss 43 [] [(0, .slice VR VP.length VS), (3, .int .i64 VY), (6, .int .i64 VW)] H [V3] F a w ∧ (zM 3 (ci .i64) 1 VR VP VS V3) ∧ (VP.length = VO.length) ∧ (zk.l3 K Uj VP VY VW).wp kr kp) K ?_ ?_ ?_
   ·exact ⟨VO, V2, V0, (0 : Int), hS.to [0] (by kernel_rfl) ⟨rfl, rfl, rfl, trivial⟩, V6, Ur, hM⟩
   ·intro a w hI; obtain ⟨_, _, _, _, _, _, _, hM⟩ := hI; exact qX hM
   ·intro Uj a w hI UG V9
    obtain ⟨VP, V3, VY, VW, hS, VT, V8, hM⟩ := hI
    rw [zk.l3] at hM
    refine wp_seq <| qe <| sM hS rfl fun hS => sB hS rfl fun hS => qm <| qo hS rfl hM (fun Up hM => ?_) (fun Up hM => ?_)
    ·refine wp_skip ?_
     refine qc <| wp_seq <| z3 <| qe <| sM hS rfl fun hS => sM hS rfl fun hS => ?_
     obtain ⟨VU, hM⟩ := qt hM
     refine sO hS (xF rfl rfl Tryz.runUnderlying128 Tryz.sizeOf3 (VT.rd (i := 0) rfl) (fun _ => rfl) rfl VU) rfl fun hS => sO hS (xO rfl (VT.rd (i := 0) rfl) (fun _ => rfl) VU rfl Tryz.isAgg3) rfl fun hS => sB hS rfl fun hS => qm <| qo hS rfl hM (fun Uq hM => ?_) (fun Uq hM => ?_)
     ·refine wp_seq ?_
      refine zb <| sM hS rfl fun hS => sM hS rfl fun hS => sO hS (xF rfl rfl Tryz.runUnderlying128 Tryz.sizeOf3 (VT.rd (i := 0) rfl) (fun _ => rfl) rfl VU) rfl fun hS => sO hS (xO rfl (VT.rd (i := 0) rfl) (fun _ => rfl) VU rfl Tryz.isAgg3) rfl fun hS => sB hS rfl fun hS => sO hS (xF rfl rfl Tryz.runUnderlying128 Tryz.sizeOf3 (VT.rd (i := 0) rfl) (fun _ => rfl) rfl VU) rfl fun hS => QS (i := VW) (sz := 1) 0 0 ((qi ((rd VP VW) + (1 : Int)))) hS rfl rfl VT rfl Tryz.sizeOf3 (xg (qi ((rd VP VW) + (1 : Int)))) (fun _ => rfl) VU rfl rfl fun V1 w Uy hz VZ Un hS => ?_
      have hM := qp hz hM; clear hz
      have Us := Eq.trans VZ V8
      replace hS := hS.re 0 (u := .slice VR VP.length VS) (v := .slice VR V1.length VS) rfl (by rw [VZ])
      replace hS := hS.re 24 (u := .slice VR VP.length VS) (v := .slice VR V1.length VS) rfl (by rw [VZ])
      replace hS := hS.re 29 (u := .slice VR VP.length VS) (v := .slice VR V1.length VS) rfl (by rw [VZ])
      refine qm <| zb <| sM hS rfl fun hS => sB hS rfl fun hS => qY (v := Value.int .i64) (x0 := (qi (VY + (1 : Int)))) hS (zE rfl) rfl fun Uv a w hz hS => ?_
      have hM := qp hz hM; clear hz
      refine qL <| qW (qc ?_)
      refine zb <| sM hS rfl fun hS => sB hS rfl fun hS => qY (v := Value.int .i64) (x0 := (qi (VW + (1 : Int)))) hS (zE rfl) rfl fun UA a w hz hS => ?_
      have hM := qp hz hM; clear hz
      refine qL <| qc ?_
      exact V9 _ _ ⟨V1, Uy, Uv, UA, hS.to [0] (by kernel_rfl) ⟨rfl, rfl, rfl, trivial⟩, Un, Us, hM⟩
     ·refine wp_skip ?_
      refine qW (qc ?_)
      refine zb <| sM hS rfl fun hS => sB hS rfl fun hS => qY (v := Value.int .i64) (x0 := (qi (VW + (1 : Int)))) hS (zE rfl) rfl fun UB a w hz hS => ?_
      have hM := qp hz hM; clear hz
      refine qL <| qc ?_
      exact V9 _ _ ⟨VP, V3, VY, UB, hS.to [0] (by kernel_rfl) ⟨rfl, rfl, rfl, trivial⟩, VT, V8, hM⟩
    ·refine wp_exit ?_
     refine qv (qv (qO (qc ?_)))
     exact Um _ _ ⟨VP, V3, hS.to [0] (by kernel_rfl) ⟨rfl, trivial⟩, VT, V8, hM⟩
  ·intro a w hI
   obtain ⟨VQ, V4, hS, V7, Ut, hM⟩ := hI
   rw [zk.j4] at hM
   refine qe <| sM hS rfl fun hS => qq hS rfl Tryz.call93 (vT hG K VQ (15 : Int) VR VS (V7.rdF (i := 0) rfl) (V7.cap (fun _ => rfl) rfl) (hS.st.part 0 [0] (by kernel_rfl)) (qh hM) (fun Uw Ux UC Uf UJ w hM Uz hst => qn hS.ev hst.appF rfl fun hS => ?_) (fun v w hk hst => zY (qB (⟨hS.ev.defs, hpan _ _ hk hst.appF.frame⟩))))
   replace hS : Ss _ _ _ H [Uf, V4] F _ _ := hS
   refine sM hS rfl fun hS => sO hS (ex rfl rfl) rfl fun hS => sO hS (ex rfl rfl) rfl fun hS => sA hS rfl fun hS => sA hS rfl fun hS => qm <| qe <| sM hS rfl fun hS => sA hS rfl fun hS => qm <| wp_ret ?_
   exact qP (rs := [2]) hS rfl rfl (hret Uw Ux UC Uf VQ V4 _ (qG hM) Uz V7 Ut (hS.st.pick [0, 1] (by kernel_rfl)))
theorem uU {H : z7} {F : List qj} {w : World} {R : Ending → World → Prop} {kr : (List ql) → Prop} {kp : Value → Prop} (hG : Gl H) (K : Nat) (VO : List Int) (VU : Option Addr) (VV : Nat) (VT : yU H [] F (ci .i64) VU VO) (UW : VO.length ≤ VV)
    (hS : St w H [] F) (hm : (zg.m K VO).wp kr kp)
    (hret : ∀ (Uc : Option Addr) (Ud : Nat) (Ub : (List ql)) (Ue : qj) (w : World), kr Ub → (zM 145 ql.cells 3 Uc Ub Ud Ue) → St w H [Ue] F → R (.returned (.slice Uc Ub.length Ud)) w) :
    Calls Tryz.prog 92 ⟨[.slice VU VO.length VV]⟩ w R := by
 refine enter Tryz.func92 rfl Tryz.ntmps92 rfl hS fun a w hS => ?_
 have hM := hm; clear hm
 rw [zg.m] at hM
 refine qe <| sA hS rfl fun hS => ?_
 obtain ⟨U9, UV, hS⟩ := hS.nilV 145 ql.cells 3
 refine qm <| qe <| sA hS rfl fun hS => ?_
 obtain ⟨UM, Uh, hS⟩ := hS.nilV 145 ql.cells 3
 refine qm <| wp_seq <| qe <| sA hS rfl fun hS => qm <| z3 <| q6 (fun V3 a w => ∃ (VX : Option Addr) (VY : Nat) (VR : (List ql)) (VZ : qj) (VP : Int), Ss 93 [] [(0, .slice VU VO.length VV), (3, .slice VX VR.length VY), (4, .int .i64 VP)] H [VZ] F a w ∧ (zM 145 ql.cells 3 VX VR VY VZ) ∧ (zg.l1 K VO V3 VR VP).wp kr kp) K ?_ ?_ ?_
 ·exact ⟨none, 0, ([] : List ql), UM, (0 : Int), hS.to [0] (by kernel_rfl) ⟨rfl, rfl, rfl, trivial⟩, Uh, hM⟩
 ·intro a w hI; obtain ⟨_, _, _, _, _, _, _, hM⟩ := hI; exact qX hM
 ·intro V3 a w hI U4 V4
  obtain ⟨VX, VY, VR, VZ, VP, hS, V0, hM⟩ := hI
  rw [zg.l1] at hM
  refine wp_seq <| qe <| sM hS rfl fun hS => sM hS rfl fun hS => sO hS (xw rfl Tryz.runUnderlying128) rfl fun hS => sB hS rfl fun hS => qm <| qo hS rfl hM (fun Uq hM => ?_) (fun Uq hM => ?_)
  ·refine wp_skip ?_
   refine qc <| z3 <| qe <| sA hS rfl fun hS => qm <| qV (fun a w => ∃ (VS : Int), Ss 93 [] [(0, .slice VU VO.length VV), (3, .slice VX VR.length VY), (4, .int .i64 VP), (5, .int .i64 VS)] H [VZ] F a w ∧ (zg.j4 K (zg.l1 K VO V3) VO VR VP VS).wp kr kp) (fun U3 Ug => ?_) ?_
   ·refine z3 ?_
    refine q6 (fun V9 a w => ∃ (VQ : Int), Ss 93 [] [(0, .slice VU VO.length VV), (3, .slice VX VR.length VY), (4, .int .i64 VP), (5, .int .i64 VQ)] H [VZ] F a w ∧ (zg.l2 K (zg.l1 K VO V3) VO VR VP V9 VQ).wp kr kp) K ?_ ?_ ?_
    ·exact ⟨(1 : Int), hS.to [0] (by kernel_rfl) ⟨rfl, rfl, rfl, rfl, trivial⟩, hM⟩
    ·intro a w hI; obtain ⟨_, _, hM⟩ := hI; exact qX hM
    ·intro V9 a w hI U2 Uf
     obtain ⟨VQ, hS, hM⟩ := hI
     rw [zg.l2] at hM
     refine wp_seq <| qV (fun a w => ∃ (Ua : Bool), Ss 93 [] [(0, .slice VU VO.length VV), (3, .slice VX VR.length VY), (4, .int .i64 VP), (5, .int .i64 VQ), (28, .bool Ua)] H [VZ] F a w ∧ (zg.j3 K (zg.l1 K VO V3) (zg.l2 K (zg.l1 K VO V3) VO VR VP V9) VO VR VP VQ Ua).wp kr kp) (fun U1 V6 => ?_) ?_
     ·refine Xi (b := (decide ((qi (VP + VQ)) < (VO.length : Int)))) hM (fun V5 hM => ?_) (fun V5 hM => ?_)
      ·obtain ⟨V7, hM⟩ := qt hM
       obtain ⟨V8, hM⟩ := qt hM
       refine qM (vals := [some (.int .i64 VP), some (.int .i64 VQ), some (.int .i64 (qi (VP + VQ))), some (.slice VU VO.length VV), some (.int .i64 (VO.length : Int)), some (.bool true), some (.bool true), some (.slice VU VO.length VV), some (.int .i64 VP), some (.int .i64 VQ), some (.int .i64 (qi (VP + VQ))), some (z9 VU (Int.toNat (qi (VP + VQ)) * 1)), some (.int .i64 (rd VO (qi (VP + VQ)))), some (.slice VU VO.length VV), some (.int .i64 VP), some (z9 VU (Int.toNat VP * 1)), some (.int .i64 (rd VO VP)), some (.bool ((rd VO (qi (VP + VQ))) == (rd VO VP))), some (.bool ((rd VO (qi (VP + VQ))) == (rd VO VP)))]) hS zV rfl ?_
       intro l w ho hcl hA hst
       refine xq hA hst ho hcl zW [0, 1, 2, 3, 4, 5, 6, 7, 8, 9, 10, 11, 12, 13, 14, 15, 16, 17, 18] rfl rfl rfl (by exact ⟨nM rfl, nM rfl, nB rfl, nM rfl, nQ rfl (by exact qJ (xw rfl Tryz.runUnderlying128) rfl), nQ rfl (by exact qJ (xN rfl rfl rfl) (congrArg Value.bool V5)), nM rfl, nW rfl rfl rfl rfl rfl rfl rfl rfl (by exact qJ (mv rfl) rfl), nW rfl rfl rfl rfl rfl rfl rfl rfl (by exact qJ (mv rfl) rfl), nW rfl rfl rfl rfl rfl rfl rfl rfl (by exact qJ (mv rfl) rfl), nW rfl rfl rfl rfl rfl rfl rfl rfl (by exact qJ (xN rfl rfl rfl) rfl), nW rfl rfl rfl rfl rfl rfl rfl rfl (by exact qJ (xF rfl rfl Tryz.runUnderlying128 Tryz.sizeOf3 VT.wk (fun _ => rfl) rfl V7) rfl), nW rfl rfl rfl rfl rfl rfl rfl rfl (by exact qJ (xO rfl VT.wk (fun _ => rfl) V7 rfl Tryz.isAgg3) rfl), nW rfl rfl rfl rfl rfl rfl rfl rfl (by exact qJ (mv rfl) rfl), nW rfl rfl rfl rfl rfl rfl rfl rfl (by exact qJ (mv rfl) rfl), nW rfl rfl rfl rfl rfl rfl rfl rfl (by exact qJ (xF rfl rfl Tryz.runUnderlying128 Tryz.sizeOf3 VT.wk (fun _ => rfl) rfl V8) rfl), nW rfl rfl rfl rfl rfl rfl rfl rfl (by exact qJ (xO rfl VT.wk (fun _ => rfl) V8 rfl Tryz.isAgg3) rfl), nW rfl rfl rfl rfl rfl rfl rfl rfl (by exact qJ (xN rfl rfl rfl) rfl), nQ rfl (by exact qJ (pk rfl rfl rfl) rfl), trivial⟩) fun a w hS => ?_
       replace hS := hS.env2 (e' := [(0, .slice VU VO.length VV), (3, .slice VX VR.length VY), (4, .int .i64 VP), (5, .int .i64 VQ), (28, .bool ((rd VO (qi (VP + VQ))) == (rd VO VP)))]) ⟨rfl, rfl, rfl, rfl, rfl, trivial⟩
       refine qc ?_
       exact V6 _ _ ⟨((rd VO (qi (VP + VQ))) == (rd VO VP)), hS.to [0] (by kernel_rfl) ⟨rfl, rfl, rfl, rfl, rfl, trivial⟩, hM⟩
      ·refine qM (vals := [some (.int .i64 VP), some (.int .i64 VQ), some (.int .i64 (qi (VP + VQ))), some (.slice VU VO.length VV), some (.int .i64 (VO.length : Int)), some (.bool false), some (.bool false), some (undef), some (undef), some (undef), some (undef), some (undef), some (undef), some (undef), some (undef), some (undef), some (undef), some (undef), some (.bool false)]) hS zV rfl ?_
       intro l w ho hcl hA hst
       refine xq hA hst ho hcl zW [0, 1, 2, 3, 4, 5, 6, 7, 8, 9, 10, 11, 12, 13, 14, 15, 16, 17, 18] rfl rfl rfl (by exact ⟨nM rfl, nM rfl, nB rfl, nM rfl, nQ rfl (by exact qJ (xw rfl Tryz.runUnderlying128) rfl), nQ rfl (by exact qJ (xN rfl rfl rfl) (congrArg Value.bool V5)), nM rfl, nS rfl rfl rfl rfl rfl rfl rfl rfl rfl, nS rfl rfl rfl rfl rfl rfl rfl rfl rfl, nS rfl rfl rfl rfl rfl rfl rfl rfl rfl, nS rfl rfl rfl rfl rfl rfl rfl rfl rfl, nS rfl rfl rfl rfl rfl rfl rfl rfl rfl, nS rfl rfl rfl rfl rfl rfl rfl rfl rfl, nS rfl rfl rfl rfl rfl rfl rfl rfl rfl, nS rfl rfl rfl rfl rfl rfl rfl rfl rfl, nS rfl rfl rfl rfl rfl rfl rfl rfl rfl, nS rfl rfl rfl rfl rfl rfl rfl rfl rfl, nS rfl rfl rfl rfl rfl rfl rfl rfl rfl, nQ rfl (by exact qJ (pk rfl rfl rfl) rfl), trivial⟩) fun a w hS => ?_
       replace hS := hS.env2 (e' := [(0, .slice VU VO.length VV), (3, .slice VX VR.length VY), (4, .int .i64 VP), (5, .int .i64 VQ), (28, .bool false)]) ⟨rfl, rfl, rfl, rfl, rfl, trivial⟩
       refine qc ?_
       exact V6 _ _ ⟨false, hS.to [0] (by kernel_rfl) ⟨rfl, rfl, rfl, rfl, rfl, trivial⟩, hM⟩
     ·intro a w hI
      obtain ⟨Ua, hS, hM⟩ := hI
      rw [zg.j3] at hM
      refine qo hS rfl hM (fun Ur hM => ?_) (fun Ur hM => ?_)
      ·refine wp_skip ?_
       refine qc <| z3 <| zb <| sM hS rfl fun hS => sB hS rfl fun hS => qY (v := Value.int .i64) (x0 := (qi (VQ + (1 : Int)))) hS (zE rfl) rfl fun Uz a w hz hS => ?_
       have hM := qp hz hM; clear hz
       refine qL <| qW (qc ?_)
       exact Uf _ _ ⟨Uz, hS.to [0] (by kernel_rfl) ⟨rfl, rfl, rfl, rfl, trivial⟩, hM⟩
      ·refine wp_exit ?_
       refine qv (qv (qO (qc ?_)))
       exact Ug _ _ ⟨VQ, hS.to [0] (by kernel_rfl) ⟨rfl, rfl, rfl, rfl, trivial⟩, hM⟩
   ·intro a w hI
    obtain ⟨VS, hS, hM⟩ := hI
    rw [zg.j4] at hM
    refine wp_seq <| z3 <| qe <| sM hS rfl fun hS => sM hS rfl fun hS => ?_
    obtain ⟨VW, hM⟩ := qt hM
    refine sO hS (xF rfl rfl Tryz.runUnderlying128 Tryz.sizeOf3 VT.wk (fun _ => rfl) rfl VW) rfl fun hS => sO hS (xO rfl VT.wk (fun _ => rfl) VW rfl Tryz.isAgg3) rfl fun hS => sB hS rfl fun hS => sM hS rfl fun hS => xm 2 true 45 (b := ((rd VO VP) == (0 : Int))) (r := (decide (VS ≥ (11 : Int)))) hS rfl rfl rfl rfl rfl rfl rfl (fun hb a w hS K hK => ?_) rfl fun a w hS => ?_
    ·refine qI hS rfl rfl rfl hb (mv rfl) rfl fun a w hS => ?_
     refine qI hS rfl rfl rfl hb (xN rfl rfl rfl) rfl fun a w hS => ?_
     exact qL (hK _ _ (hS.up 2 rfl rfl))
    refine qY (v := Value.bool) (x0 := (((rd VO VP) == (0 : Int)) && (decide (VS ≥ (11 : Int))))) hS (zE rfl) rfl fun Ke a w hz hS => ?_
    have hM := qp hz hM; clear hz
    refine qm <| qo hS rfl hM (fun Us hM => ?_) (fun Us hM => ?_)
    ·refine wp_seq ?_
     refine zb <| sM hS rfl fun hS => sO hS (Xq rfl rfl) rfl fun hS => qY (v := Value.int .i64) (x0 := (if (138 : Int) < VS then (138 : Int) else VS)) hS (zE rfl) rfl fun V1 a w hz hS => ?_
     have hM := qp hz hM; clear hz
     refine qm <| zb <| sM hS rfl fun hS => sM hS rfl fun hS => sB hS rfl fun hS => sO hS (vI ([.int .i64 (18 : Int), .int .i64 (qi (V1 - (11 : Int))), .int .i64 (7 : Int)]) [(0, 1), (1, 1), (2, 1)] Tryz.zeroValue145 Tryz.runUnderlying145 (by intro w; simp [Tryz.sizeOf3]) rfl rfl) rfl fun hS => Qh (g := ql.cells) ([(ql.mk (18 : Int) (qi (V1 - (11 : Int))) (7 : Int))] : List ql) [.agg ⟨[.int .i64 (18 : Int), .int .i64 (qi (V1 - (11 : Int))), .int .i64 (7 : Int)]⟩] hS Tryz.runUnderlying142 Tryz.sizeOf145 X.el145 rfl rfl rfl (by simp [Value.cells]) rfl rfl rfl rfl rfl fun w UX U5 Ka Ui hS => ?_
     obtain ⟨Uv, hM⟩ := qt hM
     refine QR (ys := ([(ql.mk (18 : Int) (qi (V1 - (11 : Int))) (7 : Int))] : List ql)) 1 hS rfl rfl V0 rfl (Ui.rd (i := 0) rfl) Tryz.runUnderlying142 Tryz.runUnderlying142 X.el145 (fun _ => rfl) rfl uK Uv rfl fun UA w UE UI UN hz Uj hS => ?_
     have hM := qp hz hM; clear hz
     refine sA hS rfl fun hS => qL <| qW (qc ?_)
     refine zb <| sM hS rfl fun hS => sM hS rfl fun hS => sB hS rfl fun hS => qY (v := Value.int .i64) (x0 := (qi (VP + V1))) hS (zE rfl) rfl fun UR a w hz hS => ?_
     have hM := qp hz hM; clear hz
     refine qL <| qW (qc ?_)
     exact V4 _ _ ⟨UE, UI, UA, UN, UR, hS.to [1] (by kernel_rfl) ⟨rfl, rfl, rfl, trivial⟩, Uj, hM⟩
    ·refine wp_seq ?_
     refine zb <| sM hS rfl fun hS => sM hS rfl fun hS => sO hS (xF rfl rfl Tryz.runUnderlying128 Tryz.sizeOf3 VT.wk (fun _ => rfl) rfl VW) rfl fun hS => sO hS (xO rfl VT.wk (fun _ => rfl) VW rfl Tryz.isAgg3) rfl fun hS => sB hS rfl fun hS => sM hS rfl fun hS => xm 2 true 63 (b := ((rd VO VP) == (0 : Int))) (r := (decide (VS ≥ (3 : Int)))) hS rfl rfl rfl rfl rfl rfl rfl (fun hb a w hS K hK => ?_) rfl fun a w hS => ?_
     ·refine qI hS rfl rfl rfl hb (mv rfl) rfl fun a w hS => ?_
      refine qI hS rfl rfl rfl hb (xN rfl rfl rfl) rfl fun a w hS => ?_
      exact qL (hK _ _ (hS.up 2 rfl rfl))
     refine qY (v := Value.bool) (x0 := (((rd VO VP) == (0 : Int)) && (decide (VS ≥ (3 : Int))))) hS (zE rfl) rfl fun Kf a w hz hS => ?_
     have hM := qp hz hM; clear hz
     refine qm <| qo hS rfl hM (fun Ut hM => ?_) (fun Ut hM => ?_)
     ·refine zb ?_
      refine sM hS rfl fun hS => sM hS rfl fun hS => sB hS rfl fun hS => sO hS (vI ([.int .i64 (17 : Int), .int .i64 (qi (VS - (3 : Int))), .int .i64 (3 : Int)]) [(0, 1), (1, 1), (2, 1)] Tryz.zeroValue145 Tryz.runUnderlying145 (by intro w; simp [Tryz.sizeOf3]) rfl rfl) rfl fun hS => Qh (g := ql.cells) ([(ql.mk (17 : Int) (qi (VS - (3 : Int))) (3 : Int))] : List ql) [.agg ⟨[.int .i64 (17 : Int), .int .i64 (qi (VS - (3 : Int))), .int .i64 (3 : Int)]⟩] hS Tryz.runUnderlying142 Tryz.sizeOf145 X.el145 rfl rfl rfl (by simp [Value.cells]) rfl rfl rfl rfl rfl fun w UY U6 Kb Uk hS => ?_
      obtain ⟨Uw, hM⟩ := qt hM
      refine QR (ys := ([(ql.mk (17 : Int) (qi (VS - (3 : Int))) (3 : Int))] : List ql)) 1 hS rfl rfl V0 rfl (Uk.rd (i := 0) rfl) Tryz.runUnderlying142 Tryz.runUnderlying142 X.el145 (fun _ => rfl) rfl uK Uw rfl fun UB w UF UJ UO hz Ul hS => ?_
      have hM := qp hz hM; clear hz
      refine sA hS rfl fun hS => qL <| qW (qc ?_)
      refine zb <| sM hS rfl fun hS => sM hS rfl fun hS => sB hS rfl fun hS => qY (v := Value.int .i64) (x0 := (qi (VP + VS))) hS (zE rfl) rfl fun US a w hz hS => ?_
      have hM := qp hz hM; clear hz
      refine qL <| qW (qc ?_)
      exact V4 _ _ ⟨UF, UJ, UB, UO, US, hS.to [1] (by kernel_rfl) ⟨rfl, rfl, rfl, trivial⟩, Ul, hM⟩
     ·refine wp_seq ?_
      refine zb <| sM hS rfl fun hS => sB hS rfl fun hS => qY (v := Value.bool) (x0 := (decide (VS ≥ (4 : Int)))) hS (zE rfl) rfl fun Kg a w hz hS => ?_
      have hM := qp hz hM; clear hz
      refine qm <| qo hS rfl hM (fun Uu hM => ?_) (fun Uu hM => ?_)
      ·refine wp_seq ?_
       refine zb <| sM hS rfl fun hS => sO hS (Xq rfl rfl) rfl fun hS => qY (v := Value.int .i64) (x0 := (if (7 : Int) < VS then (7 : Int) else VS)) hS (zE rfl) rfl fun V2 a w hz hS => ?_
       have hM := qp hz hM; clear hz
       refine qm <| zb <| sM hS rfl fun hS => sM hS rfl fun hS => sM hS rfl fun hS => sO hS (xF rfl rfl Tryz.runUnderlying128 Tryz.sizeOf3 VT.wk (fun _ => rfl) rfl VW) rfl fun hS => sO hS (xO rfl VT.wk (fun _ => rfl) VW rfl Tryz.isAgg3) rfl fun hS => sO hS (vI ([.int .i64 (rd VO VP), .int .i64 (0 : Int), .int .i64 (0 : Int)]) [(0, 1), (1, 1), (2, 1)] Tryz.zeroValue145 Tryz.runUnderlying145 (by intro w; simp [Tryz.sizeOf3]) rfl rfl) rfl fun hS => sM hS rfl fun hS => sB hS rfl fun hS => sO hS (vI ([.int .i64 (16 : Int), .int .i64 (qi (V2 - (4 : Int))), .int .i64 (2 : Int)]) [(0, 1), (1, 1), (2, 1)] Tryz.zeroValue145 Tryz.runUnderlying145 (by intro w; simp [Tryz.sizeOf3]) rfl rfl) rfl fun hS => Qh (g := ql.cells) ([(ql.mk (rd VO VP) (0 : Int) (0 : Int)), (ql.mk (16 : Int) (qi (V2 - (4 : Int))) (2 : Int))] : List ql) [.agg ⟨[.int .i64 (rd VO VP), .int .i64 (0 : Int), .int .i64 (0 : Int)]⟩, .agg ⟨[.int .i64 (16 : Int), .int .i64 (qi (V2 - (4 : Int))), .int .i64 (2 : Int)]⟩] hS Tryz.runUnderlying142 Tryz.sizeOf145 X.el145 rfl rfl rfl (by simp [Value.cells]) rfl rfl rfl rfl rfl fun w UZ U7 Kc Um hS => ?_
       obtain ⟨Ux, hM⟩ := qt hM
       refine QR (ys := ([(ql.mk (rd VO VP) (0 : Int) (0 : Int)), (ql.mk (16 : Int) (qi (V2 - (4 : Int))) (2 : Int))] : List ql)) 1 hS rfl rfl V0 rfl (Um.rd (i := 0) rfl) Tryz.runUnderlying142 Tryz.runUnderlying142 X.el145 (fun _ => rfl) rfl uK Ux rfl fun UC w UG UK UP hz Un hS => ?_
       have hM := qp hz hM; clear hz
       refine sA hS rfl fun hS => qL <| qW (qc ?_)
       refine zb <| sM hS rfl fun hS => sM hS rfl fun hS => sB hS rfl fun hS => qY (v := Value.int .i64) (x0 := (qi (VP + V2))) hS (zE rfl) rfl fun UT a w hz hS => ?_
       have hM := qp hz hM; clear hz
       refine qL <| qW (qc ?_)
       exact V4 _ _ ⟨UG, UK, UC, UP, UT, hS.to [1] (by kernel_rfl) ⟨rfl, rfl, rfl, trivial⟩, Un, hM⟩
      ·refine wp_seq ?_
       refine zb <| sA hS rfl fun hS => qm <| zb <| sM hS rfl fun hS => sM hS rfl fun hS => sM hS rfl fun hS => sO hS (xF rfl rfl Tryz.runUnderlying128 Tryz.sizeOf3 VT.wk (fun _ => rfl) rfl VW) rfl fun hS => sO hS (xO rfl VT.wk (fun _ => rfl) VW rfl Tryz.isAgg3) rfl fun hS => sO hS (vI ([.int .i64 (rd VO VP), .int .i64 (0 : Int), .int .i64 (0 : Int)]) [(0, 1), (1, 1), (2, 1)] Tryz.zeroValue145 Tryz.runUnderlying145 (by intro w; simp [Tryz.sizeOf3]) rfl rfl) rfl fun hS => Qh (g := ql.cells) ([(ql.mk (rd VO VP) (0 : Int) (0 : Int))] : List ql) [.agg ⟨[.int .i64 (rd VO VP), .int .i64 (0 : Int), .int .i64 (0 : Int)]⟩] hS Tryz.runUnderlying142 Tryz.sizeOf145 X.el145 rfl rfl rfl (by simp [Value.cells]) rfl rfl rfl rfl rfl fun w U0 U8 Kd Uo hS => ?_
       obtain ⟨Uy, hM⟩ := qt hM
       refine QR (ys := ([(ql.mk (rd VO VP) (0 : Int) (0 : Int))] : List ql)) 1 hS rfl rfl V0 rfl (Uo.rd (i := 0) rfl) Tryz.runUnderlying142 Tryz.runUnderlying142 X.el145 (fun _ => rfl) rfl uK Uy rfl fun UD w UH UL UQ hz Up hS => ?_
       have hM := qp hz hM; clear hz
       refine sA hS rfl fun hS => qL <| qW (qc ?_)
       refine zb <| sM hS rfl fun hS => sM hS rfl fun hS => sB hS rfl fun hS => qY (v := Value.int .i64) (x0 := (qi (VP + (1 : Int)))) hS (zE rfl) rfl fun UU a w hz hS => ?_
       have hM := qp hz hM; clear hz
       refine qL <| qW (qc ?_)
       exact V4 _ _ ⟨UH, UL, UD, UQ, UU, hS.to [1] (by kernel_rfl) ⟨rfl, rfl, rfl, trivial⟩, Up, hM⟩
  ·refine wp_exit ?_
   refine qv (qv (qO (qc ?_)))
   refine qe <| sM hS rfl fun hS => sA hS rfl fun hS => qm <| wp_ret ?_
   exact qP (rs := [2]) hS rfl rfl (hret VX VY VR VZ _ (qG hM) V0 (hS.st.pick [0] (by kernel_rfl)))
theorem vq {H : z7} {F : List qj} {w : World} {R : Ending → World → Prop} {kr : (Int × (List Int)) → Prop} {kp : Value → Prop} (hG : Gl H) (K : Nat) (VO : qr) (VP : qy) (VQ : Int) (VT : Nat) (Ul : qj) (Uh : Option Addr) (Uj : Nat) (Um : qj) (V1 : Option Addr) (V6 : Nat) (VX : qj) (V2 : Option Addr) (V7 : Nat) (VY : qj) (V3 : Option Addr) (V8 : Nat) (VZ : qj) (V4 : Option Addr) (V9 : Nat) (V0 : qj) (Ui : Option Addr) (Uk : Nat) (VW : Option Addr) (Ua : Nat) (UD : xf Ul VT ([.int .i64 VO.Writer_.place_.at_, .slice Uh VO.Writer_.bytes_.length Uj, .slice V1 VO.literals_.lengths_.length V6, .slice V2 VO.literals_.codes_.length V7, .slice V3 VO.distances_.lengths_.length V8, .slice V4 VO.distances_.codes_.length V9]) 132) (UF : zM 5 (ci .u8) 1 Uh VO.Writer_.bytes_ Uj Um) (UG : zM 3 (ci .i64) 1 V1 VO.literals_.lengths_ V6 VX) (UH : zM 3 (ci .i64) 1 V2 VO.literals_.codes_ V7 VY) (UI : zM 3 (ci .i64) 1 V3 VO.distances_.lengths_ V8 VZ) (UJ : zM 3 (ci .i64) 1 V4 VO.distances_.codes_ V9 V0) (Us : yU H [] F (ci .i64) Ui VP.lengths_) (UT : VP.lengths_.length ≤ Uk) (Ut : yU H [] F (ci .i64) VW VP.codes_) (UU : VP.codes_.length ≤ Ua)
    (hS : St w H [Ul, Um, VX, VY, VZ, V0] F) (hm : (z8.m K VO VP VQ).wp kr kp)
    (hret : ∀ (Ue : Int) (Uv : Option Addr) (Uw : Nat) (VV : (List Int)) (UA : qj) (UB : qj) (w : World), kr (Ue, VV) → (zM 5 (ci .u8) 1 Uv VV Uw UA) → (xf UB VT ([.int .i64 Ue, .slice Uv VV.length Uw, .slice V1 VO.literals_.lengths_.length V6, .slice V2 VO.literals_.codes_.length V7, .slice V3 VO.distances_.lengths_.length V8, .slice V4 VO.distances_.codes_.length V9]) 132) → St w H [UB, UA, VX, VY, VZ, V0] F → R (.returned (.tuple ⟨[]⟩)) w) :
    Calls Tryz.prog 94 ⟨[qx VT 0, .agg ⟨[.slice Ui VP.lengths_.length Uk, .slice VW VP.codes_.length Ua]⟩, .int .i64 VQ]⟩ w R := by
 refine enter Tryz.func94 rfl Tryz.ntmps94 rfl hS fun a w hS => ?_
 have hM := hm; clear hm
 rw [z8.m] at hM
 refine qe <| bx ([.slice Ui VP.lengths_.length Uk, .slice VW VP.codes_.length Ua]) hS rfl rfl rfl fun w Uf Ux Un hS => qm <| qe <| sO hS (zz rfl Tryz.runUnderlying130 rfl Tryz.sizeOf128 rfl) rfl fun hS => sO hS (zU 0 rfl Un rfl rfl Tryz.isAgg128) rfl fun hS => sM hS rfl fun hS => ?_
 obtain ⟨Uq, hM⟩ := qt hM
 refine sO hS (xF rfl rfl Tryz.runUnderlying128 Tryz.sizeOf3 Us.wk (fun _ => rfl) rfl Uq) rfl fun hS => sO hS (xO rfl Us.wk (fun _ => rfl) Uq rfl Tryz.isAgg3) rfl fun hS => sB hS rfl fun hS => qY (v := Value.int .i64) (x0 := (qi ((rd VP.lengths_ VQ) - (1 : Int)))) hS (zE rfl) rfl fun UQ a w hz hS => ?_
 have hM := qp hz hM; clear hz
 refine qm <| z3 <| q6 (fun UC a w => ∃ (VU : Int) (V5 : Option Addr) (Ub : Nat) (VR : (List Int)) (Uc : qj) (Ud : qj) (VS : Int), Ss 30 [] [(0, qx VT 0), (2, .int .i64 VQ), (4, qx Uf 0), (6, .int .i64 VS)] H [Ud, Uc, VX, VY, VZ, V0, Ux] F a w ∧ (zM 5 (ci .u8) 1 V5 VR Ub Uc) ∧ (xf Ud VT ([.int .i64 VU, .slice V5 VR.length Ub, .slice V1 VO.literals_.lengths_.length V6, .slice V2 VO.literals_.codes_.length V7, .slice V3 VO.distances_.lengths_.length V8, .slice V4 VO.distances_.codes_.length V9]) 132) ∧ (z8.l1 K VO VP VQ UC VU VR VS).wp kr kp) K ?_ ?_ ?_
 ·exact ⟨VO.Writer_.place_.at_, Uh, Uj, VO.Writer_.bytes_, Um, Ul, UQ, hS.to [1, 2, 3, 4, 5, 6, 0] (by kernel_rfl) ⟨rfl, rfl, rfl, rfl, trivial⟩, UF, UD, hM⟩
 ·intro a w hI; obtain ⟨_, _, _, _, _, _, _, _, _, _, hM⟩ := hI; exact qX hM
 ·intro UC a w hI UV UE
  obtain ⟨VU, V5, Ub, VR, Uc, Ud, VS, hS, Up, Uo, hM⟩ := hI
  rw [z8.l1] at hM
  refine wp_seq <| qe <| sM hS rfl fun hS => sB hS rfl fun hS => qm <| qo hS rfl hM (fun UK hM => ?_) (fun UK hM => ?_)
  ·refine wp_skip ?_
   refine qc <| wp_seq <| z3 ?_
   obtain ⟨Ur, hM⟩ := qt hM
   obtain ⟨UL, hM⟩ := qt hM
   refine qM (vals := [some (qx VT 0), some (qx VT 0), some (qx VT 0), some (qx Uf 1), some (.slice VW VP.codes_.length Ua), some (.int .i64 VQ), some (z9 VW (Int.toNat VQ * 1)), some (.int .i64 (rd VP.codes_ VQ)), some (.int .i64 VS), some (.int .i64 (zX .i64 (rd VP.codes_ VQ) VS)), some (.int .i64 (xi .i64 (zX .i64 (rd VP.codes_ VQ) VS) (1 : Int))), some (.int .u32 (wr .u32 (xi .i64 (zX .i64 (rd VP.codes_ VQ) VS) (1 : Int)))), none]) hS zV rfl ?_
   intro l w ho hcl hA hst
   refine x4 hA hst ho hcl zO zW 12 [0, 1, 2, 3, 4, 5, 6, 7, 8, 9, 10, 11] rfl rfl rfl rfl rfl (by exact ⟨nM rfl, nQ rfl (by exact qJ (xM rfl) rfl), nQ rfl (by exact qJ (zz rfl Tryz.runUnderlying132 rfl Tryz.sizeOf127 rfl) rfl), nQ rfl (by exact qJ (zz rfl Tryz.runUnderlying130 rfl Tryz.sizeOf128 rfl) rfl), nQ rfl (by exact qJ (zU 6 rfl Un rfl rfl Tryz.isAgg128) rfl), nM rfl, nQ rfl (by exact qJ (xF rfl rfl Tryz.runUnderlying128 Tryz.sizeOf3 Ut.wk (fun _ => rfl) rfl Ur) rfl), nQ rfl (by exact qJ (xO rfl Ut.wk (fun _ => rfl) Ur rfl Tryz.isAgg3) rfl), nM rfl, nQ rfl (by exact qJ (shr rfl rfl UL) rfl), nB rfl, nQ rfl (by exact qJ (yT rfl Tryz.runUnderlying3 Tryz.runUnderlying56) rfl), trivial⟩) fun D l a w ho hcl hav hpre hm hE hk hA hst => ?_
   have hS := (Ss.mk hE hst).env2 (e' := [(19, qx VT 0), (28, .int .u32 (wr .u32 (xi .i64 (zX .i64 (rd VP.codes_ VQ) VS) (1 : Int))))]) ⟨rfl, rfl, trivial⟩
   refine qC rfl <| qq hS rfl Tryz.call85 (q9 hG K (qr.mk (qQ.mk (qs.mk VU) VR) VO.literals_ VO.distances_) (wr .u32 (xi .i64 (zX .i64 (rd VP.codes_ VQ) VS) (1 : Int))) (1 : Int) VT Ud V5 Ub Uc V1 V6 VX V2 V7 VY V3 V8 VZ V4 V9 V0 Uo Up UG UH UI UJ (hS.st.part 6 [0, 1, 2, 3, 4, 5, 6] (by kernel_rfl)) (qh hM) (fun US Uu UM UN Ug Uy Uz w hM UO UP hst => qn hS.ev hst.appF rfl fun hS => ?_))
   replace hS : Ss _ _ _ H [Uz, Uy, VX, VY, VZ, V0, Ux] F _ _ := hS
   refine qm ?_
   replace hst := hS.st
   obtain ⟨hcl, hmust, hav2, hA⟩ := dn (vals' := [some (qx VT 0), some (qx VT 0), some (qx VT 0), some (qx Uf 1), some (.slice VW VP.codes_.length Ua), some (.int .i64 VQ), some (z9 VW (Int.toNat VQ * 1)), some (.int .i64 (rd VP.codes_ VQ)), some (.int .i64 VS), some (.int .i64 (zX .i64 (rd VP.codes_ VQ) VS)), some (.int .i64 (xi .i64 (zX .i64 (rd VP.codes_ VQ) VS) (1 : Int))), some (.int .u32 (wr .u32 (xi .i64 (zX .i64 (rd VP.codes_ VQ) VS) (1 : Int)))), some (.int .i64 US)]) 12 [(2, 12), (11, 12), (1, 2), (10, 11), (0, 1), (9, 10), (7, 9), (8, 9), (6, 7), (4, 6), (5, 6), (3, 4)] hA hcl hav hm hpre hk rfl rfl rfl rfl rfl rfl rfl
   clear hm hav
   refine xq hA hst ho hcl hmust [] rfl rfl rfl trivial fun a w hS => ?_
   replace hS := hS.env2 (e' := [(0, qx VT 0), (2, .int .i64 VQ), (4, qx Uf 0), (6, .int .i64 VS)]) ⟨rfl, rfl, rfl, rfl, trivial⟩
   refine qW (qc ?_)
   refine zb <| sM hS rfl fun hS => sB hS rfl fun hS => qY (v := Value.int .i64) (x0 := (qi (VS - (1 : Int)))) hS (zE rfl) rfl fun UR a w hz hS => ?_
   have hM := qp hz hM; clear hz
   refine qL <| qc ?_
   exact UE _ _ ⟨Uu, UM, UN, Ug, Uy, Uz, UR, hS.to [0, 1, 2, 3, 4, 5, 6] (by kernel_rfl) ⟨rfl, rfl, rfl, rfl, trivial⟩, UO, UP, hM⟩
  ·refine wp_exit ?_
   refine qv (qv (qO ?_))
   exact yW (rs := []) hS rfl rfl (hret VU V5 Ub VR Uc Ud _ (qG hM) Up Uo (hS.st.pick [0, 1, 2, 3, 4, 5] (by kernel_rfl)))
end Go.TryzS

