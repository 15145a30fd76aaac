/- Printed by a program of mine: each Go function answers what its model answers; conditions: what each theorem asks of memory. -/
import Derived.Test.YtomkjiipmhglcaaGreatDoorP2xnfibl
set_option linter.unusedVariables false
set_option linter.unusedSimpArgs false
set_option maxRecDepth 100000
namespace Go.TryzS
open Go Go.Sl Go.Mo Go.Proofs
attribute [local irreducible] q7.wp
theorem uC {H : z7} {F : List qj} {w : World} {R : Ending → World → Prop} {kr : ((List UInt8) × Int) → Prop} {kp : Value → Prop} (hG : Gl H) (K : Nat) (VQ : List qH) (V9 : Option Addr) (Ua : Nat) (Kj : yU H [] F qH.cells V9 VQ) (Bw : VQ.length ≤ Ua)
    (hS : St w H [] F) (hm : (qz.m K VQ).wp kr kp)
    (hret : ∀ (Dl : List UInt8) (Dm : Int) (w : World), kr (Dl, Dm) → St w H [] F → R (.returned (.tuple ⟨[qN Dl, .int .i64 Dm]⟩)) w)
    (hpan : ∀ v w, kp v → St w H [] F → R (.panicked [⟨v, false, false⟩]) w) :
    Calls Tryz.prog 70 ⟨[.slice V9 VQ.length Ua]⟩ w R := by
 refine enter Tryz.func70 rfl Tryz.ntmps70 rfl hS fun a w hS => ?_
 have hM := hm; clear hm
 rw [qz.m] at hM
 refine qe <| sA hS rfl fun hS => sA hS rfl fun hS => qm <| wp_seq <| qe <| sM hS rfl fun hS => qq hS rfl Tryz.call83 (vQ hG K VQ V9 Ua (Kj.app _) Bw (hS.st.part 0 [] (by kernel_rfl)) (qh hM) (fun Lw w hM  hst => qn hS.ev hst.appF rfl fun hS => ?_))
 replace hS : Ss _ _ _ H [] F _ _ := hS
 refine sO hS (un rfl rfl) rfl fun hS => qm <| qo hS rfl hM (fun DW hM => ?_) (fun DW hM => ?_)
 ·refine wp_seq ?_
  refine zb <| sA hS rfl fun hS => sA hS rfl fun hS => qm <| wp_ret <| qu ?_
  exact qP (rs := [2, 3]) hS rfl rfl (hret ([] : List UInt8) (1 : Int) _ (qG hM) (hS.st.pick [] (by kernel_rfl)))
 ·refine wp_skip ?_
  refine qc <| qV (fun a w => ∃ (V7 : Option Addr) (V8 : Nat) (V3 : (List Int)) (Bh : qj) (Uk : Option Addr) (Ul : Nat) (Uh : (List Int)) (KZ : qj), Ss 196 [] [(0, .slice V9 VQ.length Ua), (4, .slice V7 V3.length V8), (5, .slice Uk Uh.length Ul)] H [Bh, KZ] F a w ∧ (zM 3 (ci .i64) 1 V7 V3 V8 Bh) ∧ (zM 3 (ci .i64) 1 Uk Uh Ul KZ) ∧ (qz.j1 K VQ V3 Uh).wp kr kp) (fun G8 Bo => ?_) ?_
  ·refine qM (vals := [none, none, none, none]) hS zV rfl ?_
   intro l w ho hcl hA hst
   obtain ⟨Bx, hM⟩ := qt hM
   obtain ⟨Uw, KC⟩ := vi (List.replicate (Int.toNat (286 : Int)) (0 : Int))
   replace hM := qp KC hM
   obtain ⟨By, hM⟩ := qt hM
   obtain ⟨UD, KD⟩ := vi (List.replicate (Int.toNat (30 : Int)) (0 : Int))
   replace hM := qp KD hM
   refine Xt (vals := [none, none, none, none]) 0 1 [] [] rfl rfl rfl rfl rfl trivial (fun D l a w ho hcl hav hpre hm hE hk hA hst => ?_) (fun D l a w ho hcl hav hpre hm hE hk hA hst => ?_) ho hcl zO zW List.not_mem_nil List.not_mem_nil hA hst
   ·have hS := (Ss.mk hE hst).env2 (e' := []) trivial
    refine qC rfl <| Yn (g := (ci .i64)) (m := (286 : Int)) (0 : Int) hS rfl rfl (by simp) Tryz.runUnderlying128 X.el3 (fun w => ⟨_, Tryz.zeroValue3 w, rfl⟩) (fun _ => rfl) rfl rfl Bx rfl fun G3 w U3 U4 Gv hz DD hS => ?_
    rw [← KC] at hz; replace hz := hz.symm; subst hz
    refine qm ?_
    replace hst := hS.st
    obtain ⟨hcl, hmust, hav2, hA⟩ := dn (vals' := [some (.slice U3 Uw.length U4), none, some (.slice U3 Uw.length U4), none]) 0 [] hA hcl hav hm hpre hk rfl rfl rfl rfl rfl rfl rfl
    clear hm hav
    refine x4 hA hst ho hcl hav2 hmust 1 [2] rfl rfl rfl rfl rfl (by exact ⟨nA rfl, trivial⟩) fun D l a w ho hcl hav hpre hm hE hk hA hst => ?_
    have hS := (Ss.mk hE hst).env2 (e' := []) trivial
    refine qC rfl <| Yn (g := (ci .i64)) (m := (30 : Int)) (0 : Int) hS rfl rfl (by simp) Tryz.runUnderlying128 X.el3 (fun w => ⟨_, Tryz.zeroValue3 w, rfl⟩) (fun _ => rfl) rfl rfl By rfl fun G4 w KK KS Gw hz DE hS => ?_
    rw [← KD] at hz; replace hz := hz.symm; subst hz
    refine qm ?_
    replace hst := hS.st
    obtain ⟨hcl, hmust, hav2, hA⟩ := dn (vals' := [some (.slice U3 Uw.length U4), some (.slice KK UD.length KS), some (.slice U3 Uw.length U4), some (.slice KK UD.length KS)]) 1 [] hA hcl hav hm hpre hk rfl rfl rfl rfl rfl rfl rfl
    clear hm hav
    refine xq hA hst ho hcl hmust [2, 3] rfl rfl rfl (by exact ⟨nA rfl, nA rfl, trivial⟩) fun a w hS => ?_
    replace hS := hS.env2 (e' := [(0, .slice V9 VQ.length Ua), (4, .slice U3 Uw.length U4), (5, .slice KK UD.length KS)]) ⟨rfl, rfl, rfl, trivial⟩
    refine qc ?_
    exact Bo _ _ ⟨U3, U4, Uw, Gv, KK, KS, UD, Gw, hS.to [1, 0] (by kernel_rfl) ⟨rfl, rfl, rfl, trivial⟩, DD, DE, hM⟩
   ·have hS := (Ss.mk hE hst).env2 (e' := []) trivial
    refine qC rfl <| Yn (g := (ci .i64)) (m := (30 : Int)) (0 : Int) hS rfl rfl (by simp) Tryz.runUnderlying128 X.el3 (fun w => ⟨_, Tryz.zeroValue3 w, rfl⟩) (fun _ => rfl) rfl rfl By rfl fun G5 w Km Kq Gx hz DF hS => ?_
    rw [← KD] at hz; replace hz := hz.symm; subst hz
    refine qm ?_
    replace hst := hS.st
    obtain ⟨hcl, hmust, hav2, hA⟩ := dn (vals' := [none, some (.slice Km UD.length Kq), none, none]) 1 [] hA hcl hav hm hpre hk rfl rfl rfl rfl rfl rfl rfl
    clear hm hav
    refine x4 hA hst ho hcl hav2 hmust 0 [] rfl rfl rfl rfl rfl trivial fun D l a w ho hcl hav hpre hm hE hk hA hst => ?_
    have hS := (Ss.mk hE hst).env2 (e' := []) trivial
    refine qC rfl <| Yn (g := (ci .i64)) (m := (286 : Int)) (0 : Int) hS rfl rfl (by simp) Tryz.runUnderlying128 X.el3 (fun w => ⟨_, Tryz.zeroValue3 w, rfl⟩) (fun _ => rfl) rfl rfl Bx rfl fun G6 w KL KT Gy hz DG hS => ?_
    rw [← KC] at hz; replace hz := hz.symm; subst hz
    refine qm ?_
    replace hst := hS.st
    obtain ⟨hcl, hmust, hav2, hA⟩ := dn (vals' := [some (.slice KL Uw.length KT), some (.slice Km UD.length Kq), some (.slice KL Uw.length KT), some (.slice Km UD.length Kq)]) 0 [] hA hcl hav hm hpre hk rfl rfl rfl rfl rfl rfl rfl
    clear hm hav
    refine xq hA hst ho hcl hmust [2, 3] rfl rfl rfl (by exact ⟨nA rfl, nA rfl, trivial⟩) fun a w hS => ?_
    replace hS := hS.env2 (e' := [(0, .slice V9 VQ.length Ua), (4, .slice KL Uw.length KT), (5, .slice Km UD.length Kq)]) ⟨rfl, rfl, rfl, trivial⟩
    refine qc ?_
    exact Bo _ _ ⟨KL, KT, Uw, Gy, Km, Kq, UD, Gx, hS.to [0, 1] (by kernel_rfl) ⟨rfl, rfl, rfl, trivial⟩, DG, DF, hM⟩
  ·intro a w hI
   obtain ⟨V7, V8, V3, Bh, Uk, Ul, Uh, KZ, hS, Kc, DH, hM⟩ := hI
   rw [qz.j1] at hM
   refine qe <| sM hS rfl fun hS => ?_
   obtain ⟨Kd, hM⟩ := qt hM
   refine sO hS (xF rfl rfl Tryz.runUnderlying128 Tryz.sizeOf3 (Kc.rd (i := 0) rfl) (fun _ => rfl) rfl Kd) rfl fun hS => sO hS (xO rfl (Kc.rd (i := 0) rfl) (fun _ => rfl) Kd rfl Tryz.isAgg3) rfl fun hS => sB hS rfl fun hS => sO hS (xF rfl rfl Tryz.runUnderlying128 Tryz.sizeOf3 (Kc.rd (i := 0) rfl) (fun _ => rfl) rfl Kd) rfl fun hS => QS (i := (256 : Int)) (sz := 1) 0 0 ((qi ((rd V3 (256 : Int)) + (1 : Int)))) hS rfl rfl Kc rfl Tryz.sizeOf3 (xg (qi ((rd V3 (256 : Int)) + (1 : Int)))) (fun _ => rfl) Kd rfl rfl fun KF w Gz hz BG DI hS => ?_
   have hM := qp hz hM; clear hz
   replace hS := hS.re 4 (u := .slice V7 V3.length V8) (v := .slice V7 KF.length V8) rfl (by rw [BG])
   replace hS := hS.re 28 (u := .slice V7 V3.length V8) (v := .slice V7 KF.length V8) rfl (by rw [BG])
   refine qm <| qV (fun a w => ∃ (V6 : (List Int)) (K0 : qj) (V4 : (List Int)) (U5 : qj), Ss 196 [] [(0, .slice V9 VQ.length Ua), (4, .slice V7 V6.length V8), (5, .slice Uk V4.length Ul)] H [K0, U5] F a w ∧ (zM 3 (ci .i64) 1 V7 V6 V8 K0) ∧ (zM 3 (ci .i64) 1 Uk V4 Ul U5) ∧ (qz.j3 K VQ V6 V4).wp kr kp) (fun La Du => ?_) ?_
   ·refine wp_seq ?_
    refine zb <| sM hS rfl fun hS => sO hS (xw rfl Tryz.runUnderlying92) rfl fun hS => sM hS rfl fun hS => qm <| z3 <| q6 (fun Dg a w => ∃ (VU : (List Int)) (Ku : qj) (VW : (List Int)) (U0 : qj) (Um : Int), Ss 196 [] [(0, .slice V9 VQ.length Ua), (4, .slice V7 VU.length V8), (5, .slice Uk VW.length Ul), (33, .slice V9 VQ.length Ua), (34, .int .i64 (VQ.length : Int)), (35, .int .i64 Um)] H [Ku, U0] F a w ∧ (zM 3 (ci .i64) 1 V7 VU V8 Ku) ∧ (zM 3 (ci .i64) 1 Uk VW Ul U0) ∧ (qz.l2 K VQ Dg VU VW Um).wp kr kp) K ?_ ?_ ?_
    ·exact ⟨KF, Gz, Uh, KZ, (0 : Int), hS.to [0, 1] (by kernel_rfl) ⟨rfl, rfl, rfl, rfl, rfl, rfl, trivial⟩, DI, DH, hM⟩
    ·intro a w hI; obtain ⟨_, _, _, _, _, _, _, _, hM⟩ := hI; exact qX hM
    ·intro Dg a w hI G9 Bp
     obtain ⟨VU, Ku, VW, U0, Um, hS, UB, UV, hM⟩ := hI
     rw [qz.l2] at hM
     refine qe <| sB hS rfl fun hS => qm <| wp_seq <| qo hS rfl hM (fun DX hM => ?_) (fun DX hM => ?_)
     ·refine wp_skip ?_
      refine qc <| wp_seq <| z3 <| wp_seq <| zb ?_
      obtain ⟨Bz, hM⟩ := qt hM
      refine sO hS (xF rfl rfl Tryz.runUnderlying92 Tryz.sizeOf119 Kj.wk (fun _ => rfl) rfl Bz) rfl fun hS => sO hS (jj rfl Kj.wk (fun _ => rfl) Bz Tryz.isAgg119 Tryz.sizeOf119 rfl) rfl fun hS => jz ([.int .u8 (0 : Int), .int .i64 (0 : Int), .int .i64 (0 : Int)]) hS Tryz.zeroValue119 rfl rfl fun w Lk Lm Dn hS => jn 0 ([.int .u8 ((rd VQ Um).Lit_), .int .i64 ((rd VQ Um).Len_), .int .i64 ((rd VQ Um).Dist_)]) ([.int .u8 ((rd VQ Um).Lit_), .int .i64 ((rd VQ Um).Len_), .int .i64 ((rd VQ Um).Dist_)]) hS rfl rfl Dn rfl rfl Tryz.sizeOf119 (by simp [Value.oneCell']) (Nat.le_of_ble_eq_true rfl) rfl fun w BW Kb hS => qm <| qe <| sO hS (zz rfl Tryz.runUnderlying119 rfl Tryz.sizeOf3 rfl) rfl fun hS => sO hS (zU 0 rfl Kb rfl rfl Tryz.isAgg3) rfl fun hS => sB hS rfl fun hS => qm <| qo hS rfl hM (fun DY hM => ?_) (fun DY hM => ?_)
      ·refine zb ?_
       refine sM hS rfl fun hS => sO hS (zz rfl Tryz.runUnderlying119 rfl Tryz.sizeOf5 rfl) rfl fun hS => sO hS (zU 0 rfl Kb rfl rfl Tryz.isAgg5) rfl fun hS => ?_
       obtain ⟨Ke, hM⟩ := qt hM
       refine sO hS (xF rfl rfl Tryz.runUnderlying128 Tryz.sizeOf3 (UB.rd (i := 1) rfl) (fun _ => rfl) rfl Ke) rfl fun hS => sO hS (xO rfl (UB.rd (i := 1) rfl) (fun _ => rfl) Ke rfl Tryz.isAgg3) rfl fun hS => sB hS rfl fun hS => sO hS (xF rfl rfl Tryz.runUnderlying128 Tryz.sizeOf3 (UB.rd (i := 1) rfl) (fun _ => rfl) rfl Ke) rfl fun hS => QS (i := (rd VQ Um).Lit_) (sz := 1) 1 0 ((qi ((rd VU (rd VQ Um).Lit_) + (1 : Int)))) hS rfl rfl UB rfl Tryz.sizeOf3 (xg (qi ((rd VU (rd VQ Um).Lit_) + (1 : Int)))) (fun _ => rfl) Ke rfl rfl fun KG w GA hz BH DJ hS => ?_
       have hM := qp hz hM; clear hz
       replace hS := hS.re 4 (u := .slice V7 VU.length V8) (v := .slice V7 KG.length V8) rfl (by rw [BH])
       replace hS := hS.re 42 (u := .slice V7 VU.length V8) (v := .slice V7 KG.length V8) rfl (by rw [BH])
       refine qL <| qW (qc ?_)
       refine zb <| sB hS rfl fun hS => sM hS rfl fun hS => qL <| qc ?_
       exact Bp _ _ ⟨KG, GA, VW, U0, (qi (Um + (1 : Int))), hS.to [1, 2] (by kernel_rfl) ⟨rfl, rfl, rfl, rfl, rfl, rfl, trivial⟩, DJ, UV, hM⟩
      ·refine wp_seq ?_
       refine zb <| sM hS rfl fun hS => sO hS (zz rfl Tryz.runUnderlying119 rfl Tryz.sizeOf3 rfl) rfl fun hS => sO hS (zU 0 rfl Kb rfl rfl Tryz.isAgg3) rfl fun hS => qq hS rfl Tryz.call88 (vo hG K ((rd VQ Um).Len_) (hS.st.part 0 [0, 1, 2] (by kernel_rfl)) (qh hM) (fun UK Gj GW w hM  hst => qn hS.ev hst.appF rfl fun hS => ?_))
       replace hS : Ss _ _ _ H [BW, Ku, U0] F _ _ := hS
       refine sO hS (Jw rfl Tryz.runUnderlying138 rfl Tryz.isAgg3 rfl) rfl fun hS => ?_
       obtain ⟨Kf, hM⟩ := qt hM
       refine sO hS (xF rfl rfl Tryz.runUnderlying128 Tryz.sizeOf3 (UB.rd (i := 1) rfl) (fun _ => rfl) rfl Kf) rfl fun hS => sO hS (xO rfl (UB.rd (i := 1) rfl) (fun _ => rfl) Kf rfl Tryz.isAgg3) rfl fun hS => sB hS rfl fun hS => sO hS (xF rfl rfl Tryz.runUnderlying128 Tryz.sizeOf3 (UB.rd (i := 1) rfl) (fun _ => rfl) rfl Kf) rfl fun hS => QS (i := UK) (sz := 1) 1 0 ((qi ((rd VU UK) + (1 : Int)))) hS rfl rfl UB rfl Tryz.sizeOf3 (xg (qi ((rd VU UK) + (1 : Int)))) (fun _ => rfl) Kf rfl rfl fun KH w BX hz BI DK hS => ?_
       have hM := qp hz hM; clear hz
       replace hS := hS.re 4 (u := .slice V7 VU.length V8) (v := .slice V7 KH.length V8) rfl (by rw [BI])
       replace hS := hS.re 49 (u := .slice V7 VU.length V8) (v := .slice V7 KH.length V8) rfl (by rw [BI])
       refine qm <| zb <| sM hS rfl fun hS => sO hS (zz rfl Tryz.runUnderlying119 rfl Tryz.sizeOf3 rfl) rfl fun hS => sO hS (zU 0 rfl Kb rfl rfl Tryz.isAgg3) rfl fun hS => qq hS rfl Tryz.call89 (jO hG K ((rd VQ Um).Dist_) (hS.st.part 0 [0, 1, 2] (by kernel_rfl)) (qh hM) (fun UL Gk GX w hM  hst => qn hS.ev hst.appF rfl fun hS => ?_))
       replace hS : Ss _ _ _ H [BW, BX, U0] F _ _ := hS
       refine sO hS (Jw rfl Tryz.runUnderlying138 rfl Tryz.isAgg3 rfl) rfl fun hS => ?_
       obtain ⟨Kg, hM⟩ := qt hM
       refine sO hS (xF rfl rfl Tryz.runUnderlying128 Tryz.sizeOf3 (UV.rd (i := 2) rfl) (fun _ => rfl) rfl Kg) rfl fun hS => sO hS (xO rfl (UV.rd (i := 2) rfl) (fun _ => rfl) Kg rfl Tryz.isAgg3) rfl fun hS => sB hS rfl fun hS => sO hS (xF rfl rfl Tryz.runUnderlying128 Tryz.sizeOf3 (UV.rd (i := 2) rfl) (fun _ => rfl) rfl Kg) rfl fun hS => QS (i := UL) (sz := 1) 2 0 ((qi ((rd VW UL) + (1 : Int)))) hS rfl rfl UV rfl Tryz.sizeOf3 (xg (qi ((rd VW UL) + (1 : Int)))) (fun _ => rfl) Kg rfl rfl fun KI w GB hz BJ DL hS => ?_
       have hM := qp hz hM; clear hz
       replace hS := hS.re 5 (u := .slice Uk VW.length Ul) (v := .slice Uk KI.length Ul) rfl (by rw [BJ])
       replace hS := hS.re 58 (u := .slice Uk VW.length Ul) (v := .slice Uk KI.length Ul) rfl (by rw [BJ])
       refine qL <| qW (qc ?_)
       refine zb <| sB hS rfl fun hS => sM hS rfl fun hS => qL <| qc ?_
       exact Bp _ _ ⟨KH, BX, KI, GB, (qi (Um + (1 : Int))), hS.to [1, 2] (by kernel_rfl) ⟨rfl, rfl, rfl, rfl, rfl, rfl, trivial⟩, DK, DL, hM⟩
     ·refine wp_exit ?_
      refine qv (qv (qO (qc ?_)))
      exact Du _ _ ⟨VU, Ku, VW, U0, hS.to [0, 1] (by kernel_rfl) ⟨rfl, rfl, rfl, trivial⟩, UB, UV, hM⟩
   ·intro a w hI
    obtain ⟨V6, K0, V4, U5, hS, DM, DN, hM⟩ := hI
    rw [qz.j3] at hM
    refine qe <| sM hS rfl fun hS => qq hS rfl Tryz.call91 (jP hG K V6 V7 V8 K0 DM (hS.st.part 1 [0, 1] (by kernel_rfl)) (qh hM) (fun Uc Ue V0 VX U8 Kv w hM UF Lu Dd hst => qn hS.ev hst.appF rfl fun hS => ?_) (fun v w hk hst => zY (qB (⟨hS.ev.defs, hpan _ _ hk hst.appF.frame⟩))))
    replace hS : Ss _ _ _ H [VX, Kv, U5] F _ _ := hS
    replace hS := hS.re 4 (u := .slice V7 V6.length V8) (v := .slice V7 U8.length V8) rfl (by rw [Dd])
    replace hS := hS.re 68 (u := .slice V7 V6.length V8) (v := .slice V7 U8.length V8) rfl (by rw [Dd])
    refine qq hS rfl Tryz.call90 (yx hG K V0 Uc Ue (UF.rdF (i := 0) rfl) (UF.cap (fun _ => rfl) rfl) (hS.st.part 0 [0, 1, 2] (by kernel_rfl)) (qh hM) (fun Uq Ut VR VY w hM US hst => qn hS.ev hst.appF rfl fun hS => ?_))
    replace hS : Ss _ _ _ H [VY, VX, Kv, U5] F _ _ := hS
    refine sM hS rfl fun hS => qq hS rfl Tryz.call91 (jP hG K V4 Uk Ul U5 DN (hS.st.part 1 [3, 0, 1, 2] (by kernel_rfl)) (qh hM) (fun Ud Uf V1 VZ U9 Bi w hM UG Lv De hst => qn hS.ev hst.appF rfl fun hS => ?_) (fun v w hk hst => zY (qB (⟨hS.ev.defs, hpan _ _ hk hst.appF.frame⟩))))
    replace hS : Ss _ _ _ H [VZ, Bi, VY, VX, Kv] F _ _ := hS
    replace hS := hS.re 5 (u := .slice Uk V4.length Ul) (v := .slice Uk U9.length Ul) rfl (by rw [De])
    replace hS := hS.re 71 (u := .slice Uk V4.length Ul) (v := .slice Uk U9.length Ul) rfl (by rw [De])
    refine qq hS rfl Tryz.call90 (yx hG K V1 Ud Uf (UG.rdF (i := 0) rfl) (UG.cap (fun _ => rfl) rfl) (hS.st.part 0 [0, 1, 2, 3, 4] (by kernel_rfl)) (qh hM) (fun Ur Uu VS V2 w hM UT hst => qn hS.ev hst.appF rfl fun hS => ?_))
    replace hS : Ss _ _ _ H [V2, VZ, Bi, VY, VX, Kv] F _ _ := hS
    refine sO hS (vI ([.int .i64 (0 : Int), .slice none 0 0, .slice Uc V0.length Ue, .slice Uq VR.length Ut, .slice Ud V1.length Uf, .slice Ur VS.length Uu]) [(0, 2), (2, 2), (4, 2)] Tryz.zeroValue132 Tryz.runUnderlying132 (by intro w; simp [Tryz.sizeOf127, Tryz.sizeOf130]) rfl rfl) rfl fun hS => bx ([.int .i64 (0 : Int), .slice none 0 0, .slice Uc V0.length Ue, .slice Uq VR.length Ut, .slice Ud V1.length Uf, .slice Ur VS.length Uu]) hS rfl rfl rfl fun w VP UP UU hS => ?_
    obtain ⟨UQ, DO, hS⟩ := hS.nilV 5 (ci .u8) 1
    refine sA hS rfl fun hS => qm <| wp_seq <| qM (vals := [none, some (qx VP 0), some (qx VP 0), some (qx VP 2), some (qx VP 2), some (.slice Uc V0.length Ue), none, some (qx VP 0), some (qx VP 0), some (qx VP 4), some (qx VP 4), some (.slice Ud V1.length Uf), none, none, none]) hS zV rfl ?_
    intro l w ho hcl hA hst
    refine x4 hA hst ho hcl zO zW 0 [1, 2, 3, 4, 5, 7, 8, 9, 10, 11] rfl rfl rfl rfl rfl (by exact ⟨nM rfl, nQ rfl (by exact qJ (xM rfl) rfl), nQ rfl (by exact qJ (zz rfl Tryz.runUnderlying132 rfl Tryz.sizeOf130 rfl) rfl), nQ rfl (by exact qJ (zz rfl Tryz.runUnderlying130 rfl Tryz.sizeOf128 rfl) rfl), nQ rfl (by exact qJ (zU 1 rfl UU rfl rfl Tryz.isAgg128) rfl), nM rfl, nQ rfl (by exact qJ (xM rfl) rfl), nQ rfl (by exact qJ (zz rfl Tryz.runUnderlying132 rfl Tryz.sizeOf130 rfl) rfl), nQ rfl (by exact qJ (zz rfl Tryz.runUnderlying130 rfl Tryz.sizeOf128 rfl) rfl), nQ rfl (by exact qJ (zU 1 rfl UU rfl rfl Tryz.isAgg128) rfl), trivial⟩) fun D l a w ho hcl hav hpre hm hE hk hA hst => ?_
    have hS := (Ss.mk hE hst).env2 (e' := []) trivial
    refine qC rfl <| Qh (g := (ci .i64)) ([] : List Int) [] hS Tryz.runUnderlying128 Tryz.sizeOf3 X.el3 rfl rfl rfl (by simp [Value.cells]) rfl rfl rfl rfl rfl fun w Kn Kr Ln DP hS => qm ?_
    replace hst := hS.st
    obtain ⟨hcl, hmust, hav2, hA⟩ := dn (vals' := [some (.slice Kn ([] : List Int).length Kr), some (qx VP 0), some (qx VP 0), some (qx VP 2), some (qx VP 2), some (.slice Uc V0.length Ue), none, some (qx VP 0), some (qx VP 0), some (qx VP 4), some (qx VP 4), some (.slice Ud V1.length Uf), none, none, none]) 0 [] hA hcl hav hm hpre hk rfl rfl rfl rfl rfl rfl rfl
    clear hm hav
    refine x4 hA hst ho hcl hav2 hmust 6 [1, 2, 3, 4, 5, 7, 8, 9, 10, 11] rfl rfl rfl rfl rfl (by exact ⟨nM rfl, nQ rfl (by exact qJ (xM rfl) rfl), nQ rfl (by exact qJ (zz rfl Tryz.runUnderlying132 rfl Tryz.sizeOf130 rfl) rfl), nQ rfl (by exact qJ (zz rfl Tryz.runUnderlying130 rfl Tryz.sizeOf128 rfl) rfl), nQ rfl (by exact qJ (zU 2 rfl UU rfl rfl Tryz.isAgg128) rfl), nM rfl, nQ rfl (by exact qJ (xM rfl) rfl), nQ rfl (by exact qJ (zz rfl Tryz.runUnderlying132 rfl Tryz.sizeOf130 rfl) rfl), nQ rfl (by exact qJ (zz rfl Tryz.runUnderlying130 rfl Tryz.sizeOf128 rfl) rfl), nQ rfl (by exact qJ (zU 2 rfl UU rfl rfl Tryz.isAgg128) rfl), trivial⟩) fun D l a w ho hcl hav hpre hm hE hk hA hst => ?_
    have hS := (Ss.mk hE hst).env2 (e' := [(76, .slice Kn ([] : List Int).length Kr), (81, .slice Uc V0.length Ue)]) ⟨rfl, rfl, trivial⟩
    refine qC rfl ?_
    obtain ⟨D4, hM⟩ := qt hM
    refine QR (ys := V0) 0 hS rfl rfl DP rfl (UF.rd (i := 7) rfl) Tryz.runUnderlying128 Tryz.runUnderlying128 X.el3 (fun _ => rfl) rfl xg D4 rfl fun Kk w KM KU Lo hz DQ hS => ?_
    have hM := qp hz hM; clear hz
    refine qm ?_
    replace hst := hS.st
    obtain ⟨hcl, hmust, hav2, hA⟩ := dn (vals' := [some (.slice Kn ([] : List Int).length Kr), some (qx VP 0), some (qx VP 0), some (qx VP 2), some (qx VP 2), some (.slice Uc V0.length Ue), some (.slice KM Kk.length KU), some (qx VP 0), some (qx VP 0), some (qx VP 4), some (qx VP 4), some (.slice Ud V1.length Uf), none, none, none]) 6 [(0, 6), (5, 6), (4, 5), (3, 4), (2, 3), (1, 2)] hA hcl hav hm hpre hk rfl rfl rfl rfl rfl rfl rfl
    clear hm hav
    refine x4 hA hst ho hcl hav2 hmust 12 [7, 8, 9, 10, 11] rfl rfl rfl rfl rfl (by exact ⟨nM rfl, nQ rfl (by exact qJ (xM rfl) rfl), nQ rfl (by exact qJ (zz rfl Tryz.runUnderlying132 rfl Tryz.sizeOf130 rfl) rfl), nQ rfl (by exact qJ (zz rfl Tryz.runUnderlying130 rfl Tryz.sizeOf128 rfl) rfl), nQ rfl (by exact qJ (zU 2 rfl UU rfl rfl Tryz.isAgg128) rfl), trivial⟩) fun D l a w ho hcl hav hpre hm hE hk hA hst => ?_
    have hS := (Ss.mk hE hst).env2 (e' := [(82, .slice KM Kk.length KU), (87, .slice Ud V1.length Uf)]) ⟨rfl, rfl, trivial⟩
    refine qC rfl ?_
    obtain ⟨D5, hM⟩ := qt hM
    refine QR (ys := V1) 0 hS rfl rfl DQ rfl (UG.rd (i := 4) rfl) Tryz.runUnderlying128 Tryz.runUnderlying128 X.el3 (fun _ => rfl) rfl xg D5 rfl fun Kl w KN KV GC hz Br hS => ?_
    have hM := qp hz hM; clear hz
    refine qm ?_
    replace hst := hS.st
    obtain ⟨hcl, hmust, hav2, hA⟩ := dn (vals' := [some (.slice Kn ([] : List Int).length Kr), some (qx VP 0), some (qx VP 0), some (qx VP 2), some (qx VP 2), some (.slice Uc V0.length Ue), some (.slice KM Kk.length KU), some (qx VP 0), some (qx VP 0), some (qx VP 4), some (qx VP 4), some (.slice Ud V1.length Uf), some (.slice KN Kl.length KV), none, none]) 12 [(6, 12), (11, 12), (0, 6), (5, 6), (10, 11), (4, 5), (9, 10), (3, 4), (8, 9), (2, 3), (7, 8), (1, 2)] hA hcl hav hm hpre hk rfl rfl rfl rfl rfl rfl rfl
    clear hm hav
    refine x4 hA hst ho hcl hav2 hmust 13 [] rfl rfl rfl rfl rfl trivial fun D l a w ho hcl hav hpre hm hE hk hA hst => ?_
    have hS := (Ss.mk hE hst).env2 (e' := [(88, .slice KN Kl.length KV)]) ⟨rfl, trivial⟩
    refine qC rfl <| qq hS rfl Tryz.call92 (uU hG K Kl KN KV (Br.rdF (i := 0) rfl) (Br.cap (fun _ => rfl) rfl) (hS.st.part 0 [0, 1, 2, 3, 4, 5, 6, 7, 8] (by kernel_rfl)) (qh hM) (fun Us Uv VT Ui w hM K8 hst => qn hS.ev hst.appF rfl fun hS => ?_))
    replace hS : Ss _ _ _ H [Ui, GC, UQ, UP, V2, VZ, Bi, VY, VX, Kv] F _ _ := hS
    refine qm ?_
    replace hst := hS.st
    obtain ⟨hcl, hmust, hav2, hA⟩ := dn (vals' := [some (.slice Kn ([] : List Int).length Kr), some (qx VP 0), some (qx VP 0), some (qx VP 2), some (qx VP 2), some (.slice Uc V0.length Ue), some (.slice KM Kk.length KU), some (qx VP 0), some (qx VP 0), some (qx VP 4), some (qx VP 4), some (.slice Ud V1.length Uf), some (.slice KN Kl.length KV), some (.slice Us VT.length Uv), some (.slice Us VT.length Uv)]) 13 [(12, 13), (6, 12), (11, 12), (0, 6), (5, 6), (10, 11), (4, 5), (9, 10), (3, 4), (8, 9), (2, 3), (7, 8), (1, 2)] hA hcl hav hm hpre hk rfl rfl rfl rfl rfl rfl rfl
    clear hm hav
    refine xq hA hst ho hcl hmust [14] rfl rfl rfl (by exact ⟨nA rfl, trivial⟩) fun a w hS => ?_
    replace hS := hS.env2 (e' := [(0, .slice V9 VQ.length Ua), (8, qx VP 0), (9, .slice Us VT.length Uv)]) ⟨rfl, rfl, rfl, trivial⟩
    refine qc <| wp_seq <| zb ?_
    obtain ⟨D6, hM⟩ := qt hM
    refine Yn (g := (ci .i64)) (m := (19 : Int)) (0 : Int) hS rfl rfl (by simp) Tryz.runUnderlying128 X.el3 (fun w => ⟨_, Tryz.zeroValue3 w, rfl⟩) (fun _ => rfl) rfl rfl D6 rfl fun Ga w VV V5 GD hz DR hS => ?_
    have hM := qp hz hM; clear hz
    refine sA hS rfl fun hS => qm <| qV (fun a w => ∃ (VO : (List Int)) (U6 : qj), Ss 196 [] [(0, .slice V9 VQ.length Ua), (8, qx VP 0), (9, .slice Us VT.length Uv), (10, .slice VV VO.length V5)] H [UP, UQ, VX, VY, VZ, V2, Ui, U6] F a w ∧ (zM 3 (ci .i64) 1 VV VO V5 U6) ∧ (qz.j5 K VQ V0 VR V1 VS VT VO).wp kr kp) (fun Lc Dw => ?_) ?_
    ·refine wp_seq ?_
     refine zb <| sM hS rfl fun hS => sO hS (xw rfl Tryz.runUnderlying142) rfl fun hS => sM hS rfl fun hS => qm <| z3 <| q6 (fun Dh a w => ∃ (Ub : (List Int)) (K1 : qj) (UA : Int), Ss 196 [] [(0, .slice V9 VQ.length Ua), (8, qx VP 0), (9, .slice Us VT.length Uv), (10, .slice VV Ub.length V5), (91, .slice Us VT.length Uv), (92, .int .i64 (VT.length : Int)), (93, .int .i64 UA)] H [UP, UQ, VX, VY, VZ, V2, Ui, K1] F a w ∧ (zM 3 (ci .i64) 1 VV Ub V5 K1) ∧ (qz.l4 K VQ V0 VR V1 VS VT Dh Ub UA).wp kr kp) K ?_ ?_ ?_
     ·exact ⟨Ga, GD, (0 : Int), hS.to [4, 3, 9, 8, 6, 5, 1, 0] (by kernel_rfl) ⟨rfl, rfl, rfl, rfl, rfl, rfl, rfl, trivial⟩, DR, hM⟩
     ·intro a w hI; obtain ⟨_, _, _, _, _, hM⟩ := hI; exact qX hM
     ·intro Dh a w hI Lb Dv
      obtain ⟨Ub, K1, UA, hS, U1, hM⟩ := hI
      rw [qz.l4] at hM
      refine qe <| sB hS rfl fun hS => qm <| wp_seq <| qo hS rfl hM (fun DZ hM => ?_) (fun DZ hM => ?_)
      ·refine wp_skip ?_
       refine qc <| wp_seq <| z3 <| wp_seq <| zb ?_
       obtain ⟨BA, hM⟩ := qt hM
       refine sO hS (xF rfl rfl Tryz.runUnderlying142 Tryz.sizeOf145 (K8.rd (i := 6) rfl) (fun _ => rfl) rfl BA) rfl fun hS => sO hS (jj rfl (K8.rd (i := 6) rfl) (fun _ => rfl) BA Tryz.isAgg145 Tryz.sizeOf145 rfl) rfl fun hS => jz ([.int .i64 (0 : Int), .int .i64 (0 : Int), .int .i64 (0 : Int)]) hS Tryz.zeroValue145 rfl rfl fun w Ll Lp Do hS => jn 0 ([.int .i64 ((rd VT UA).symbol_), .int .i64 ((rd VT UA).more_), .int .i64 ((rd VT UA).bits_)]) ([.int .i64 ((rd VT UA).symbol_), .int .i64 ((rd VT UA).more_), .int .i64 ((rd VT UA).bits_)]) hS rfl rfl Do rfl rfl Tryz.sizeOf145 (by simp [Value.oneCell']) (Nat.le_of_ble_eq_true rfl) rfl fun w Lq Dp hS => qm <| zb <| sM hS rfl fun hS => sO hS (zz rfl Tryz.runUnderlying145 rfl Tryz.sizeOf3 rfl) rfl fun hS => sO hS (zU 0 rfl Dp rfl rfl Tryz.isAgg3) rfl fun hS => ?_
       obtain ⟨Kh, hM⟩ := qt hM
       refine sO hS (xF rfl rfl Tryz.runUnderlying128 Tryz.sizeOf3 (U1.rd (i := 8) rfl) (fun _ => rfl) rfl Kh) rfl fun hS => sO hS (xO rfl (U1.rd (i := 8) rfl) (fun _ => rfl) Kh rfl Tryz.isAgg3) rfl fun hS => sB hS rfl fun hS => sO hS (xF rfl rfl Tryz.runUnderlying128 Tryz.sizeOf3 (U1.rd (i := 8) rfl) (fun _ => rfl) rfl Kh) rfl fun hS => QS (i := (rd VT UA).symbol_) (sz := 1) 8 0 ((qi ((rd Ub (rd VT UA).symbol_) + (1 : Int)))) hS rfl rfl U1 rfl Tryz.sizeOf3 (xg (qi ((rd Ub (rd VT UA).symbol_) + (1 : Int)))) (fun _ => rfl) Kh rfl rfl fun KJ w GE hz BK DS hS => ?_
       have hM := qp hz hM; clear hz
       replace hS := hS.re 10 (u := .slice VV Ub.length V5) (v := .slice VV KJ.length V5) rfl (by rw [BK])
       replace hS := hS.re 97 (u := .slice VV Ub.length V5) (v := .slice VV KJ.length V5) rfl (by rw [BK])
       refine qL <| qW (qc ?_)
       refine zb <| sB hS rfl fun hS => sM hS rfl fun hS => qL <| qc ?_
       exact Dv _ _ ⟨KJ, GE, (qi (UA + (1 : Int))), hS.to [1, 2, 3, 4, 5, 6, 7, 8] (by kernel_rfl) ⟨rfl, rfl, rfl, rfl, rfl, rfl, rfl, trivial⟩, DS, hM⟩
      ·refine wp_exit ?_
       refine qv (qv (qO (qc ?_)))
       exact Dw _ _ ⟨Ub, K1, hS.to [0, 1, 2, 3, 4, 5, 6, 7] (by kernel_rfl) ⟨rfl, rfl, rfl, rfl, trivial⟩, U1, hM⟩
    ·intro a w hI
     obtain ⟨VO, U6, hS, UC, hM⟩ := hI
     rw [qz.j5] at hM
     refine qe <| sA hS rfl fun hS => qm <| qV (fun a w => ∃ (KE : Int), Ss 196 [] [(0, .slice V9 VQ.length Ua), (8, qx VP 0), (9, .slice Us VT.length Uv), (10, .slice VV VO.length V5), (13, .int .i64 KE)] H [UP, UQ, VX, VY, VZ, V2, Ui, U6] F a w ∧ (qz.j7 K VQ V0 VR V1 VS VT VO KE).wp kr kp) (fun Le Dy => ?_) ?_
     ·refine wp_seq ?_
      refine zb <| sM hS rfl fun hS => sO hS (xw rfl Tryz.runUnderlying128) rfl fun hS => sM hS rfl fun hS => qm <| z3 <| q6 (fun Di a w => ∃ (U2 : Int) (KA : Int), Ss 196 [] [(0, .slice V9 VQ.length Ua), (8, qx VP 0), (9, .slice Us VT.length Uv), (10, .slice VV VO.length V5), (13, .int .i64 U2), (105, .slice VV VO.length V5), (106, .int .i64 (VO.length : Int)), (107, .int .i64 KA)] H [UP, UQ, VX, VY, VZ, V2, Ui, U6] F a w ∧ (qz.l6 K VQ V0 VR V1 VS VT VO Di U2 KA).wp kr kp) K ?_ ?_ ?_
      ·exact ⟨(0 : Int), (0 : Int), hS.to [0, 1, 2, 3, 4, 5, 6, 7] (by kernel_rfl) ⟨rfl, rfl, rfl, rfl, rfl, rfl, rfl, rfl, trivial⟩, hM⟩
      ·intro a w hI; obtain ⟨_, _, _, hM⟩ := hI; exact qX hM
      ·intro Di a w hI Ld Dx
       obtain ⟨U2, KA, hS, hM⟩ := hI
       rw [qz.l6] at hM
       refine qe <| sB hS rfl fun hS => qm <| wp_seq <| qo hS rfl hM (fun D0 hM => ?_) (fun D0 hM => ?_)
       ·refine wp_skip ?_
        refine qc <| wp_seq <| z3 <| wp_seq <| zb ?_
        obtain ⟨BB, hM⟩ := qt hM
        refine sO hS (xF rfl rfl Tryz.runUnderlying128 Tryz.sizeOf3 (UC.rd (i := 7) rfl) (fun _ => rfl) rfl BB) rfl fun hS => sO hS (xO rfl (UC.rd (i := 7) rfl) (fun _ => rfl) BB rfl Tryz.isAgg3) rfl fun hS => qY (v := Value.int .i64) (x0 := (rd VO KA)) hS (zE rfl) rfl fun BM a w hz hS => ?_
        have hM := qp hz hM; clear hz
        refine qm <| zb <| sM hS rfl fun hS => sM hS rfl fun hS => sO hS (Xq rfl rfl) rfl fun hS => sB hS rfl fun hS => qY (v := Value.int .i64) (x0 := (qi (U2 + (if (1 : Int) < BM then (1 : Int) else BM)))) hS (zE rfl) rfl fun D9 a w hz hS => ?_
        have hM := qp hz hM; clear hz
        refine qL <| qW (qc ?_)
        refine zb <| sB hS rfl fun hS => sM hS rfl fun hS => qL <| qc ?_
        exact Dx _ _ ⟨D9, (qi (KA + (1 : Int))), hS.to [0, 1, 2, 3, 4, 5, 6, 7] (by kernel_rfl) ⟨rfl, rfl, rfl, rfl, rfl, rfl, rfl, rfl, trivial⟩, hM⟩
       ·refine wp_exit ?_
        refine qv (qv (qO (qc ?_)))
        exact Dy _ _ ⟨U2, hS.to [0, 1, 2, 3, 4, 5, 6, 7] (by kernel_rfl) ⟨rfl, rfl, rfl, rfl, rfl, trivial⟩, hM⟩
     ·intro a w hI
      obtain ⟨KE, hS, hM⟩ := hI
      rw [qz.j7] at hM
      refine qV (fun a w => ∃ (Uz : (List Int)) (UR : qj), Ss 196 [] [(0, .slice V9 VQ.length Ua), (8, qx VP 0), (9, .slice Us VT.length Uv), (10, .slice VV Uz.length V5)] H [UP, UQ, VX, VY, VZ, V2, Ui, UR] F a w ∧ (zM 3 (ci .i64) 1 VV Uz V5 UR) ∧ (qz.j8 K VQ V0 VR V1 VS VT Uz).wp kr kp) (fun Lf Bq => ?_) ?_
      ·refine wp_seq ?_
       refine zb <| sM hS rfl fun hS => sB hS rfl fun hS => qm <| qo hS rfl hM (fun D1 hM => ?_) (fun D1 hM => ?_)
       ·obtain ⟨Ki, hM⟩ := qt hM
        obtain ⟨BC, hM⟩ := qt hM
        refine qM (vals := [some (.slice VV VO.length V5), some (.slice VV VO.length V5), some (.slice VV VO.length V5), some (z9 VV (Int.toNat (0 : Int) * 1)), some (.int .i64 (rd VO (0 : Int))), some (.int .i64 (if (1 : Int) > (rd VO (0 : Int)) then (1 : Int) else (rd VO (0 : Int)))), some (.slice VV VO.length V5), some (z9 VV (Int.toNat (1 : Int) * 1)), some (.int .i64 (rd VO (1 : Int))), some (.int .i64 (if (1 : Int) > (rd VO (1 : Int)) then (1 : Int) else (rd VO (1 : Int)))), some (z9 VV (Int.toNat (0 : Int) * 1)), none, none, none]) hS zV rfl ?_
        intro l w ho hcl hA hst
        refine x4 hA hst ho hcl zO zW 11 [0, 1, 2, 3, 4, 5, 6, 7, 8, 9, 10] rfl rfl rfl rfl rfl (by exact ⟨nM rfl, nM rfl, nM rfl, nQ rfl (by exact qJ (xF rfl rfl Tryz.runUnderlying128 Tryz.sizeOf3 (UC.rd (i := 7) rfl) (fun _ => rfl) rfl Ki) rfl), nQ rfl (by exact qJ (xO rfl (UC.rd (i := 7) rfl) (fun _ => rfl) Ki rfl Tryz.isAgg3) rfl), nQ rfl (by exact qJ (Ym rfl rfl) rfl), nM rfl, nQ rfl (by exact qJ (xF rfl rfl Tryz.runUnderlying128 Tryz.sizeOf3 (UC.rd (i := 7) rfl) (fun _ => rfl) rfl BC) rfl), nQ rfl (by exact qJ (xO rfl (UC.rd (i := 7) rfl) (fun _ => rfl) BC rfl Tryz.isAgg3) rfl), nQ rfl (by exact qJ (Ym rfl rfl) rfl), nQ rfl (by exact qJ (xF rfl rfl Tryz.runUnderlying128 Tryz.sizeOf3 (UC.rd (i := 7) rfl) (fun _ => rfl) rfl Ki) rfl), trivial⟩) fun D l a w ho hcl hav hpre hm hE hk hA hst => ?_
        have hS := (Ss.mk hE hst).env2 (e' := [(123, .int .i64 (if (1 : Int) > (rd VO (0 : Int)) then (1 : Int) else (rd VO (0 : Int)))), (128, z9 VV (Int.toNat (0 : Int) * 1))]) ⟨rfl, rfl, trivial⟩
        refine qC rfl <| QS (i := (0 : Int)) (sz := 1) 7 0 ((if (1 : Int) > (rd VO (0 : Int)) then (1 : Int) else (rd VO (0 : Int)))) hS rfl rfl UC rfl Tryz.sizeOf3 (xg (if (1 : Int) > (rd VO (0 : Int)) then (1 : Int) else (rd VO (0 : Int)))) (fun _ => rfl) Ki rfl rfl fun G7 w Lr hz BL Bs hS => ?_
        have hM := qp hz hM; clear hz
        refine qm ?_
        replace hst := hS.st
        obtain ⟨BD, hM⟩ := qt hM
        obtain ⟨hcl, hmust, hav2, hA⟩ := Qt (vals' := [some (.slice VV VO.length V5), some (.slice VV VO.length V5), some (.slice VV VO.length V5), some (z9 VV (Int.toNat (0 : Int) * 1)), some (.int .i64 (rd VO (0 : Int))), some (.int .i64 (if (1 : Int) > (rd VO (0 : Int)) then (1 : Int) else (rd VO (0 : Int)))), some (.slice VV VO.length V5), some (z9 VV (Int.toNat (1 : Int) * 1)), some (.int .i64 (rd VO (1 : Int))), some (.int .i64 (if (1 : Int) > (rd VO (1 : Int)) then (1 : Int) else (rd VO (1 : Int)))), some (z9 VV (Int.toNat (0 : Int) * 1)), some undef, some (z9 VV (Int.toNat (1 : Int) * 1)), none]) 11 [(0, 11), (2, 11), (3, 11), (4, 11), (5, 11), (8, 11), (10, 11), (7, 8), (6, 7)] hA hcl hav hm hpre rfl rfl rfl rfl rfl
        clear hm hav
        refine x4 hA hst ho hcl hav2 hmust 13 [1, 9, 12] rfl rfl rfl rfl rfl (by exact ⟨nM rfl, nQ rfl (by exact qJ (Ym rfl rfl) rfl), nQ rfl (by exact qJ (xF (Yj BL rfl) rfl Tryz.runUnderlying128 Tryz.sizeOf3 (Bs.rd (i := 7) rfl) (fun _ => rfl) rfl BD) rfl), trivial⟩) fun D l a w ho hcl hav hpre hm hE hk hA hst => ?_
        have hS := (Ss.mk hE hst).env2 (e' := [(127, .int .i64 (if (1 : Int) > (rd VO (1 : Int)) then (1 : Int) else (rd VO (1 : Int)))), (129, z9 VV (Int.toNat (1 : Int) * 1))]) ⟨rfl, rfl, trivial⟩
        refine qC rfl <| QS (i := (1 : Int)) (sz := 1) 7 0 ((if (1 : Int) > (rd VO (1 : Int)) then (1 : Int) else (rd VO (1 : Int)))) hS rfl rfl Bs rfl Tryz.sizeOf3 (xg (if (1 : Int) > (rd VO (1 : Int)) then (1 : Int) else (rd VO (1 : Int)))) (fun _ => rfl) BD rfl rfl fun BN w GF hz D8 DT hS => ?_
        have hM := qp hz hM; clear hz
        refine qm ?_
        replace hst := hS.st
        obtain ⟨hcl, hmust, hav2, hA⟩ := Qt (vals' := [some (.slice VV VO.length V5), some (.slice VV VO.length V5), some (.slice VV VO.length V5), some (z9 VV (Int.toNat (0 : Int) * 1)), some (.int .i64 (rd VO (0 : Int))), some (.int .i64 (if (1 : Int) > (rd VO (0 : Int)) then (1 : Int) else (rd VO (0 : Int)))), some (.slice VV VO.length V5), some (z9 VV (Int.toNat (1 : Int) * 1)), some (.int .i64 (rd VO (1 : Int))), some (.int .i64 (if (1 : Int) > (rd VO (1 : Int)) then (1 : Int) else (rd VO (1 : Int)))), some (z9 VV (Int.toNat (0 : Int) * 1)), some undef, some (z9 VV (Int.toNat (1 : Int) * 1)), some undef]) 13 [(0, 13), (1, 13), (2, 13), (3, 13), (4, 13), (5, 13), (6, 13), (7, 13), (8, 13), (9, 13), (10, 13), (11, 13), (12, 13)] hA hcl hav hm hpre rfl rfl rfl rfl rfl
        clear hm hav
        refine xq hA hst ho hcl hmust [] rfl rfl rfl trivial fun a w hS => ?_
        replace hS := hS.env2 (e' := [(0, .slice V9 VQ.length Ua), (8, qx VP 0), (9, .slice Us VT.length Uv), (10, .slice VV BN.length V5)]) ⟨rfl, rfl, rfl, (Xa (u := .slice VV VO.length V5) rfl (by rw [D8, BL])), trivial⟩
        refine qc ?_
        exact Bq _ _ ⟨BN, GF, hS.to [0, 1, 2, 3, 4, 5, 6, 7] (by kernel_rfl) ⟨rfl, rfl, rfl, rfl, trivial⟩, DT, hM⟩
       ·refine wp_skip ?_
        refine qc ?_
        exact Bq _ _ ⟨VO, U6, hS.to [0, 1, 2, 3, 4, 5, 6, 7] (by kernel_rfl) ⟨rfl, rfl, rfl, rfl, trivial⟩, UC, hM⟩
      ·intro a w hI
       obtain ⟨Uz, UR, hS, Bt, hM⟩ := hI
       rw [qz.j8] at hM
       refine qe <| sM hS rfl fun hS => qq hS rfl Tryz.call93 (vT hG K Uz (7 : Int) VV V5 (Bt.rdF (i := 7) rfl) (Bt.cap (fun _ => rfl) rfl) (hS.st.part 0 [0, 1, 2, 3, 4, 5, 6, 7] (by kernel_rfl)) (qh hM) (fun UM UZ Un UE Lx w hM U7 hst => qn hS.ev hst.appF rfl fun hS => ?_) (fun v w hk hst => zY (qB (⟨hS.ev.defs, hpan _ _ hk hst.appF.frame⟩))))
       replace hS : Ss _ _ _ H [UE, UP, UQ, VX, VY, VZ, V2, Ui, UR] F _ _ := hS
       refine sM hS rfl fun hS => sO hS (ex rfl rfl) rfl fun hS => sO hS (ex rfl rfl) rfl fun hS => sA hS rfl fun hS => sA hS rfl fun hS => qm <| qe <| sM hS rfl fun hS => qq hS rfl Tryz.call90 (yx hG K Un UM UZ (U7.rdF (i := 0) rfl) (U7.cap (fun _ => rfl) rfl) (hS.st.part 0 [0, 1, 2, 3, 4, 5, 6, 7, 8] (by kernel_rfl)) (qh hM) (fun KO KW Uj UH w hM Df hst => qn hS.ev hst.appF rfl fun hS => ?_))
       replace hS : Ss _ _ _ H [UH, UE, UP, UQ, VX, VY, VZ, V2, Ui, UR] F _ _ := hS
       refine jz ([.slice none 0 0, .slice none 0 0]) hS Tryz.zeroValue130 rfl rfl fun w UY Ls Dq hS => ?_
       obtain ⟨K2, G1, hS⟩ := hS.nilV 3 (ci .i64) 1
       obtain ⟨K3, G2, hS⟩ := hS.nilV 3 (ci .i64) 1
       refine jn 2 ([.slice UM Un.length UZ, .slice KO Uj.length KW]) ([.slice UM Un.length UZ, .slice KO Uj.length KW]) hS rfl rfl Dq rfl rfl Tryz.sizeOf130 (by simp [Value.oneCell']) (Nat.le_of_ble_eq_true rfl) rfl fun w UI Bl hS => qm <| qe <| sM hS rfl fun hS => sO hS (xM rfl) rfl fun hS => sO hS (zz rfl Tryz.runUnderlying132 rfl Tryz.sizeOf127 rfl) rfl fun hS => qq hS rfl Tryz.call85 (q9 hG K (qr.mk (qQ.mk (qs.mk (0 : Int)) ([] : List Int)) (qy.mk V0 VR) (qy.mk V1 VS)) (5 : Int) (3 : Int) VP UP none (0) UQ Uc Ue VX Uq Ut VY Ud Uf VZ Ur Uu V2 UU DO UF US UG UT (hS.st.part 6 [5, 6, 7, 8, 9, 10, 0, 1, 2, 3, 4, 11, 12] (by kernel_rfl)) (qh hM) (fun Ly BO Gb Gm K9 BY BZ w hM GG GH hst => qn hS.ev hst.appF rfl fun hS => ?_))
       replace hS : Ss _ _ _ H [BZ, BY, VX, VY, VZ, V2, K3, K2, UI, UH, UE, Ui, UR] F _ _ := hS
       refine qm <| qe <| sM hS rfl fun hS => sO hS (xM rfl) rfl fun hS => sO hS (zz rfl Tryz.runUnderlying132 rfl Tryz.sizeOf127 rfl) rfl fun hS => qq hS rfl Tryz.call85 (q9 hG K (qr.mk (qQ.mk (qs.mk BO) K9) (qy.mk V0 VR) (qy.mk V1 VS)) (29 : Int) (5 : Int) VP BZ Gb Gm BY Uc Ue VX Uq Ut VY Ud Uf VZ Ur Uu V2 GH GG UF US UG UT (hS.st.part 6 [0, 1, 2, 3, 4, 5, 6, 7, 8, 9, 10, 11, 12] (by kernel_rfl)) (qh hM) (fun Lz BP Gc Gn Ba B0 B1 w hM GI GJ hst => qn hS.ev hst.appF rfl fun hS => ?_))
       replace hS : Ss _ _ _ H [B1, B0, VX, VY, VZ, V2, K3, K2, UI, UH, UE, Ui, UR] F _ _ := hS
       refine qm <| qe <| sM hS rfl fun hS => sO hS (xM rfl) rfl fun hS => sO hS (zz rfl Tryz.runUnderlying132 rfl Tryz.sizeOf127 rfl) rfl fun hS => qq hS rfl Tryz.call85 (q9 hG K (qr.mk (qQ.mk (qs.mk BP) Ba) (qy.mk V0 VR) (qy.mk V1 VS)) (29 : Int) (5 : Int) VP B1 Gc Gn B0 Uc Ue VX Uq Ut VY Ud Uf VZ Ur Uu V2 GJ GI UF US UG UT (hS.st.part 6 [0, 1, 2, 3, 4, 5, 6, 7, 8, 9, 10, 11, 12] (by kernel_rfl)) (qh hM) (fun LA BQ Gd Gp Bb B2 B3 w hM GK GL hst => qn hS.ev hst.appF rfl fun hS => ?_))
       replace hS : Ss _ _ _ H [B3, B2, VX, VY, VZ, V2, K3, K2, UI, UH, UE, Ui, UR] F _ _ := hS
       refine qm <| qe <| sM hS rfl fun hS => sO hS (xM rfl) rfl fun hS => sO hS (zz rfl Tryz.runUnderlying132 rfl Tryz.sizeOf127 rfl) rfl fun hS => qq hS rfl Tryz.call85 (q9 hG K (qr.mk (qQ.mk (qs.mk BQ) Bb) (qy.mk V0 VR) (qy.mk V1 VS)) (15 : Int) (4 : Int) VP B3 Gd Gp B2 Uc Ue VX Uq Ut VY Ud Uf VZ Ur Uu V2 GL GK UF US UG UT (hS.st.part 6 [0, 1, 2, 3, 4, 5, 6, 7, 8, 9, 10, 11, 12] (by kernel_rfl)) (qh hM) (fun LB BR Ge Gq Bc B4 B5 w hM GM GN hst => qn hS.ev hst.appF rfl fun hS => ?_))
       replace hS : Ss _ _ _ H [B5, B4, VX, VY, VZ, V2, K3, K2, UI, UH, UE, Ui, UR] F _ _ := hS
       refine qm <| qV (fun a w => ∃ (UW : Int) (KP : Option Addr) (KX : Nat) (Ux : (List Int)) (K4 : qj) (K5 : qj), Ss 196 [] [(0, .slice V9 VQ.length Ua), (8, qx VP 0), (9, .slice Us VT.length Uv), (18, qx UY 0)] H [K5, K4, VX, VY, VZ, V2, Ui, UI, UE, UH] F a w ∧ (zM 5 (ci .u8) 1 KP Ux KX K4) ∧ (xf K5 VP ([.int .i64 UW, .slice KP Ux.length KX, .slice Uc V0.length Ue, .slice Uq VR.length Ut, .slice Ud V1.length Uf, .slice Ur VS.length Uu]) 132) ∧ (qz.j10 K VQ V0 VR V1 VS VT Un Uj UW Ux).wp kr kp) (fun Lh DA => ?_) ?_
       ·refine wp_seq ?_
        refine zb <| sO hS (XH rfl hG.g2 (by rfl) Tryz.isAgg148 Tryz.sizeOf148) rfl fun hS => sM hS rfl fun hS => qm <| z3 <| q6 (fun Dj a w => ∃ (UN : Int) (Ko : Option Addr) (Ks : Nat) (Uo : (List Int)) (Kw : qj) (Kx : qj) (Ka : Int), Ss 196 [] [(0, .slice V9 VQ.length Ua), (8, qx VP 0), (9, .slice Us VT.length Uv), (18, qx UY 0), (153, .agg ⟨tab_deflate_order.flatMap (ci .i64)⟩), (154, .int .i64 Ka)] H [Kx, Kw, VX, VY, VZ, V2, Ui, UI, UE, UH] F a w ∧ (zM 5 (ci .u8) 1 Ko Uo Ks Kw) ∧ (xf Kx VP ([.int .i64 UN, .slice Ko Uo.length Ks, .slice Uc V0.length Ue, .slice Uq VR.length Ut, .slice Ud V1.length Uf, .slice Ur VS.length Uu]) 132) ∧ (qz.l9 K VQ V0 VR V1 VS VT Un Uj Dj UN Uo Ka).wp kr kp) K ?_ ?_ ?_
        ·exact ⟨BR, Ge, Gq, Bc, B4, B5, (0 : Int), hS.to [0, 1, 2, 3, 4, 5, 11, 8, 10, 9] (by kernel_rfl) ⟨rfl, rfl, rfl, rfl, rfl, rfl, trivial⟩, GM, GN, hM⟩
        ·intro a w hI; obtain ⟨_, _, _, _, _, _, _, _, _, _, hM⟩ := hI; exact qX hM
        ·intro Dj a w hI Lg Dz
         obtain ⟨UN, Ko, Ks, Uo, Kw, Kx, Ka, hS, Bu, Bm, hM⟩ := hI
         rw [qz.l9] at hM
         refine qe <| sB hS rfl fun hS => qm <| wp_seq <| qo hS rfl hM (fun D2 hM => ?_) (fun D2 hM => ?_)
         ·refine wp_skip ?_
          refine qc <| wp_seq <| z3 <| wp_seq <| zb ?_
          obtain ⟨D7, hM⟩ := qt hM
          refine sO hS (J4 rfl rfl Tryz.runUnderlying148 Tryz.isAgg3 Tryz.sizeOf3 (fun _ => rfl) vO D7 rfl) rfl fun hS => qY (v := Value.int .i64) (x0 := (rd tab_deflate_order Ka)) hS (zE rfl) rfl fun UJ a w hz hS => ?_
          have hM := qp hz hM; clear hz
          refine qL <| qc ?_
          obtain ⟨BE, hM⟩ := qt hM
          refine qM (vals := [some (qx VP 0), some (qx VP 0), some (qx VP 0), some (qx UY 0), some (.slice UM Un.length UZ), some (.int .i64 UJ), some (z9 UM (Int.toNat UJ * 1)), some (.int .i64 (rd Un UJ)), some (.int .u32 (wr .u32 (rd Un UJ))), none]) hS zV rfl ?_
          intro l w ho hcl hA hst
          refine x4 hA hst ho hcl zO zW 9 [0, 1, 2, 3, 4, 5, 6, 7, 8] rfl rfl rfl rfl rfl (by exact ⟨nM rfl, nQ rfl (by exact qJ (xM rfl) rfl), nQ rfl (by exact qJ (zz rfl Tryz.runUnderlying132 rfl Tryz.sizeOf127 rfl) rfl), nQ rfl (by exact qJ (zz rfl Tryz.runUnderlying130 rfl Tryz.sizeOf128 rfl) rfl), nQ rfl (by exact qJ (zU 7 rfl Bl rfl rfl Tryz.isAgg128) rfl), nM rfl, nQ rfl (by exact qJ (xF rfl rfl Tryz.runUnderlying128 Tryz.sizeOf3 (U7.rd (i := 8) rfl) (fun _ => rfl) rfl BE) rfl), nQ rfl (by exact qJ (xO rfl (U7.rd (i := 8) rfl) (fun _ => rfl) BE rfl Tryz.isAgg3) rfl), nQ rfl (by exact qJ (yT rfl Tryz.runUnderlying3 Tryz.runUnderlying56) rfl), trivial⟩) fun D l a w ho hcl hav hpre hm hE hk hA hst => ?_
          have hS := (Ss.mk hE hst).env2 (e' := [(159, qx VP 0), (165, .int .u32 (wr .u32 (rd Un UJ)))]) ⟨rfl, rfl, trivial⟩
          refine qC rfl <| qq hS rfl Tryz.call85 (q9 hG K (qr.mk (qQ.mk (qs.mk UN) Uo) (qy.mk V0 VR) (qy.mk V1 VS)) (wr .u32 (rd Un UJ)) (3 : Int) VP Kx Ko Ks Kw Uc Ue VX Uq Ut VY Ud Uf VZ Ur Uu V2 Bm Bu UF US UG UT (hS.st.part 6 [0, 1, 2, 3, 4, 5, 6, 7, 8, 9] (by kernel_rfl)) (qh hM) (fun GY BS Gf Gr Bd B6 B7 w hM GO GP hst => qn hS.ev hst.appF rfl fun hS => ?_))
          replace hS : Ss _ _ _ H [B7, B6, VX, VY, VZ, V2, Ui, UI, UE, UH] F _ _ := hS
          refine qm ?_
          replace hst := hS.st
          obtain ⟨hcl, hmust, hav2, hA⟩ := dn (vals' := [some (qx VP 0), some (qx VP 0), some (qx VP 0), some (qx UY 0), some (.slice UM Un.length UZ), some (.int .i64 UJ), some (z9 UM (Int.toNat UJ * 1)), some (.int .i64 (rd Un UJ)), some (.int .u32 (wr .u32 (rd Un UJ))), some (.int .i64 GY)]) 9 [(2, 9), (8, 9), (1, 2), (7, 8), (0, 1), (6, 7), (4, 6), (5, 6), (3, 4)] hA hcl hav hm hpre hk rfl rfl rfl rfl rfl rfl rfl
          clear hm hav
          refine xq hA hst ho hcl hmust [] rfl rfl rfl trivial fun a w hS => ?_
          replace hS := hS.env2 (e' := [(0, .slice V9 VQ.length Ua), (8, qx VP 0), (9, .slice Us VT.length Uv), (18, qx UY 0), (153, .agg ⟨tab_deflate_order.flatMap (ci .i64)⟩), (154, .int .i64 Ka)]) ⟨rfl, rfl, rfl, rfl, rfl, rfl, trivial⟩
          refine qW (qc ?_)
          refine zb <| sB hS rfl fun hS => sM hS rfl fun hS => qL <| qc ?_
          exact Dz _ _ ⟨BS, Gf, Gr, Bd, B6, B7, (qi (Ka + (1 : Int))), hS.to [0, 1, 2, 3, 4, 5, 6, 7, 8, 9] (by kernel_rfl) ⟨rfl, rfl, rfl, rfl, rfl, rfl, trivial⟩, GO, GP, hM⟩
         ·refine wp_exit ?_
          refine qv (qv (qO (qc ?_)))
          exact DA _ _ ⟨UN, Ko, Ks, Uo, Kw, Kx, hS.to [0, 1, 2, 3, 4, 5, 6, 7, 8, 9] (by kernel_rfl) ⟨rfl, rfl, rfl, rfl, trivial⟩, Bu, Bm, hM⟩
       ·intro a w hI
        obtain ⟨UW, KP, KX, Ux, K4, K5, hS, DU, Dr, hM⟩ := hI
        rw [qz.j10] at hM
        refine qV (fun a w => ∃ (UX : Int) (KQ : Option Addr) (KY : Nat) (Uy : (List Int)) (K6 : qj) (K7 : qj), Ss 196 [] [(0, .slice V9 VQ.length Ua), (8, qx VP 0)] H [K7, K6, VX, VY, VZ, V2] F a w ∧ (zM 5 (ci .u8) 1 KQ Uy KY K6) ∧ (xf K7 VP ([.int .i64 UX, .slice KQ Uy.length KY, .slice Uc V0.length Ue, .slice Uq VR.length Ut, .slice Ud V1.length Uf, .slice Ur VS.length Uu]) 132) ∧ (qz.j12 K VQ V0 VR V1 VS UX Uy).wp kr kp) (fun Lj DC => ?_) ?_
        ·refine wp_seq ?_
         refine zb <| sM hS rfl fun hS => sO hS (xw rfl Tryz.runUnderlying142) rfl fun hS => sM hS rfl fun hS => qm <| z3 <| q6 (fun Dk a w => ∃ (UO : Int) (Kp : Option Addr) (Kt : Nat) (Up : (List Int)) (Ky : qj) (Kz : qj) (Ug : Int), Ss 196 [] [(0, .slice V9 VQ.length Ua), (8, qx VP 0), (18, qx UY 0), (168, .slice Us VT.length Uv), (169, .int .i64 (VT.length : Int)), (170, .int .i64 Ug)] H [Kz, Ky, VX, VY, VZ, V2, UI, UE, UH, Ui] F a w ∧ (zM 5 (ci .u8) 1 Kp Up Kt Ky) ∧ (xf Kz VP ([.int .i64 UO, .slice Kp Up.length Kt, .slice Uc V0.length Ue, .slice Uq VR.length Ut, .slice Ud V1.length Uf, .slice Ur VS.length Uu]) 132) ∧ (qz.l11 K VQ V0 VR V1 VS VT Un Uj Dk UO Up Ug).wp kr kp) K ?_ ?_ ?_
         ·exact ⟨UW, KP, KX, Ux, K4, K5, (0 : Int), hS.to [0, 1, 2, 3, 4, 5, 7, 8, 9, 6] (by kernel_rfl) ⟨rfl, rfl, rfl, rfl, rfl, rfl, trivial⟩, DU, Dr, hM⟩
         ·intro a w hI; obtain ⟨_, _, _, _, _, _, _, _, _, _, hM⟩ := hI; exact qX hM
         ·intro Dk a w hI Li DB
          obtain ⟨UO, Kp, Kt, Up, Ky, Kz, Ug, hS, Bv, Bn, hM⟩ := hI
          rw [qz.l11] at hM
          refine qe <| sB hS rfl fun hS => qm <| wp_seq <| qo hS rfl hM (fun D3 hM => ?_) (fun D3 hM => ?_)
          ·refine wp_skip ?_
           refine qc <| wp_seq <| z3 <| wp_seq <| zb ?_
           obtain ⟨BF, hM⟩ := qt hM
           refine sO hS (xF rfl rfl Tryz.runUnderlying142 Tryz.sizeOf145 (K8.rd (i := 9) rfl) (fun _ => rfl) rfl BF) rfl fun hS => sO hS (jj rfl (K8.rd (i := 9) rfl) (fun _ => rfl) BF Tryz.isAgg145 Tryz.sizeOf145 rfl) rfl fun hS => jz ([.int .i64 (0 : Int), .int .i64 (0 : Int), .int .i64 (0 : Int)]) hS Tryz.zeroValue145 rfl rfl fun w KR Lt Ds hS => jn 0 ([.int .i64 ((rd VT Ug).symbol_), .int .i64 ((rd VT Ug).more_), .int .i64 ((rd VT Ug).bits_)]) ([.int .i64 ((rd VT Ug).symbol_), .int .i64 ((rd VT Ug).more_), .int .i64 ((rd VT Ug).bits_)]) hS rfl rfl Ds rfl rfl Tryz.sizeOf145 (by simp [Value.oneCell']) (Nat.le_of_ble_eq_true rfl) rfl fun w B8 KB hS => qm <| qe <| sM hS rfl fun hS => sO hS (yz 7 rfl Bl rfl ([.slice UM Un.length UZ, .slice KO Uj.length KW]) rfl rfl Tryz.isAgg130 Tryz.sizeOf130) rfl fun hS => sO hS (zz rfl Tryz.runUnderlying145 rfl Tryz.sizeOf3 rfl) rfl fun hS => sO hS (zU 0 rfl KB rfl rfl Tryz.isAgg3) rfl fun hS => qq hS rfl Tryz.call94 (vq hG K (qr.mk (qQ.mk (qs.mk UO) Up) (qy.mk V0 VR) (qy.mk V1 VS)) (qy.mk Un Uj) ((rd VT Ug).symbol_) VP Kz Kp Kt Ky Uc Ue VX Uq Ut VY Ud Uf VZ Ur Uu V2 UM UZ KO KW Bn Bv UF US UG UT (U7.rdF (i := 2) rfl) (U7.cap (fun _ => rfl) rfl) (Df.rdF (i := 3) rfl) (Df.cap (fun _ => rfl) rfl) (hS.st.part 6 [1, 2, 3, 4, 5, 6, 0, 7, 8, 9, 10] (by kernel_rfl)) (qh hM) (fun BT Gg Gs Be B9 Da w hM GQ GR hst => qn hS.ev hst.appF rfl fun hS => ?_))
           replace hS : Ss _ _ _ H [Da, B9, VX, VY, VZ, V2, B8, UI, UE, UH, Ui] F _ _ := hS
           refine qm <| qM (vals := [some (qx VP 0), some (qx VP 0), some (qx VP 0), some (qx KR 1), some (.int .i64 ((rd VT Ug).more_)), some (.int .u32 (wr .u32 (rd VT Ug).more_)), some (qx KR 2), some (.int .i64 ((rd VT Ug).bits_)), none]) hS zV rfl ?_
           intro l w ho hcl hA hst
           refine x4 hA hst ho hcl zO zW 8 [0, 1, 2, 3, 4, 5, 6, 7] rfl rfl rfl rfl rfl (by exact ⟨nM rfl, nQ rfl (by exact qJ (xM rfl) rfl), nQ rfl (by exact qJ (zz rfl Tryz.runUnderlying132 rfl Tryz.sizeOf127 rfl) rfl), nQ rfl (by exact qJ (zz rfl Tryz.runUnderlying145 rfl Tryz.sizeOf3 rfl) rfl), nQ rfl (by exact qJ (zU 6 rfl KB rfl rfl Tryz.isAgg3) rfl), nQ rfl (by exact qJ (yT rfl Tryz.runUnderlying3 Tryz.runUnderlying56) rfl), nQ rfl (by exact qJ (zz rfl Tryz.runUnderlying145 rfl Tryz.sizeOf3 rfl) rfl), nQ rfl (by exact qJ (zU 6 rfl KB rfl rfl Tryz.isAgg3) rfl), trivial⟩) fun D l a w ho hcl hav hpre hm hE hk hA hst => ?_
           have hS := (Ss.mk hE hst).env2 (e' := [(181, qx VP 0), (184, .int .u32 (wr .u32 (rd VT Ug).more_)), (186, .int .i64 ((rd VT Ug).bits_))]) ⟨rfl, rfl, rfl, trivial⟩
           refine qC rfl <| qq hS rfl Tryz.call85 (q9 hG K (qr.mk (qQ.mk (qs.mk BT) Be) (qy.mk V0 VR) (qy.mk V1 VS)) (wr .u32 (rd VT Ug).more_) ((rd VT Ug).bits_) VP Da Gg Gs B9 Uc Ue VX Uq Ut VY Ud Uf VZ Ur Uu V2 GR GQ UF US UG UT (hS.st.part 6 [0, 1, 2, 3, 4, 5, 6, 7, 8, 9, 10] (by kernel_rfl)) (qh hM) (fun GZ BU Gh Gt Bf Db Dc w hM GS GT hst => qn hS.ev hst.appF rfl fun hS => ?_))
           replace hS : Ss _ _ _ H [Dc, Db, VX, VY, VZ, V2, B8, UI, UE, UH, Ui] F _ _ := hS
           refine qm ?_
           replace hst := hS.st
           obtain ⟨hcl, hmust, hav2, hA⟩ := dn (vals' := [some (qx VP 0), some (qx VP 0), some (qx VP 0), some (qx KR 1), some (.int .i64 ((rd VT Ug).more_)), some (.int .u32 (wr .u32 (rd VT Ug).more_)), some (qx KR 2), some (.int .i64 ((rd VT Ug).bits_)), some (.int .i64 GZ)]) 8 [(2, 8), (5, 8), (7, 8), (1, 2), (4, 5), (6, 7), (0, 1), (3, 4)] hA hcl hav hm hpre hk rfl rfl rfl rfl rfl rfl rfl
           clear hm hav
           refine xq hA hst ho hcl hmust [] rfl rfl rfl trivial fun a w hS => ?_
           replace hS := hS.env2 (e' := [(0, .slice V9 VQ.length Ua), (8, qx VP 0), (18, qx UY 0), (168, .slice Us VT.length Uv), (169, .int .i64 (VT.length : Int)), (170, .int .i64 Ug)]) ⟨rfl, rfl, rfl, rfl, rfl, rfl, trivial⟩
           refine qW (qc ?_)
           refine zb <| sB hS rfl fun hS => sM hS rfl fun hS => qL <| qc ?_
           exact DB _ _ ⟨BU, Gh, Gt, Bf, Db, Dc, (qi (Ug + (1 : Int))), hS.to [0, 1, 2, 3, 4, 5, 7, 8, 9, 10] (by kernel_rfl) ⟨rfl, rfl, rfl, rfl, rfl, rfl, trivial⟩, GS, GT, hM⟩
          ·refine wp_exit ?_
           refine qv (qv (qO (qc ?_)))
           exact DC _ _ ⟨UO, Kp, Kt, Up, Ky, Kz, hS.to [0, 1, 2, 3, 4, 5] (by kernel_rfl) ⟨rfl, rfl, trivial⟩, Bv, Bn, hM⟩
        ·intro a w hI
         obtain ⟨UX, KQ, KY, Uy, K6, K7, hS, DV, Dt, hM⟩ := hI
         rw [qz.j12] at hM
         refine qe <| sM hS rfl fun hS => sM hS rfl fun hS => qq hS rfl Tryz.call86 (y1 hG K (qr.mk (qQ.mk (qs.mk UX) Uy) (qy.mk V0 VR) (qy.mk V1 VS)) VQ VP K7 KQ KY K6 Uc Ue VX Uq Ut VY Ud Uf VZ Ur Uu V2 V9 Ua Dt DV UF US UG UT (Kj.app _) Bw (hS.st.part 6 [0, 1, 2, 3, 4, 5] (by kernel_rfl)) (qh hM) (fun BV Gi Gu Bg Bj Bk w hM GU GV hst => qn hS.ev hst.appF rfl fun hS => ?_))
         replace hS : Ss _ _ _ H [Bk, Bj, VX, VY, VZ, V2] F _ _ := hS
         refine qm <| qe <| sM hS rfl fun hS => sO hS (xM rfl) rfl fun hS => sO hS (zz rfl Tryz.runUnderlying132 rfl Tryz.sizeOf127 rfl) rfl fun hS => qq hS rfl Tryz.call87 (xW hG K (qr.mk (qQ.mk (qs.mk BV) Bg) (qy.mk V0 VR) (qy.mk V1 VS)) VP Bk Gi Gu Bj Uc Ue VX Uq Ut VY Ud Uf VZ Ur Uu V2 GV GU UF US UG UT (hS.st.part 6 [0, 1, 2, 3, 4, 5] (by kernel_rfl)) (qh hM) (fun G0 w hM  hst => qn hS.ev hst.appF rfl fun hS => ?_))
         replace hS : Ss _ _ _ H [Bk, Bj, VX, VY, VZ, V2] F _ _ := hS
         refine sA hS rfl fun hS => sA hS rfl fun hS => qm <| wp_ret ?_
         exact qP (rs := [2, 3]) hS rfl rfl (hret G0 (0 : Int) _ (qG hM) (hS.st.pick [] (by kernel_rfl)))
theorem uB {H : z7} {F : List qj} {w : World} {R : Ending → World → Prop} {kr : (List UInt8) → Prop} {kp : Value → Prop} (hG : Gl H) (K : Nat) (VS : List UInt8)
    (hS : St w H [] F) (hm : (xH.m K VS).wp kr kp)
    (hret : ∀ (VW : List UInt8) (w : World), kr VW → St w H [] F → R (.returned (qN VW)) w)
    (hpan : ∀ v w, kp v → St w H [] F → R (.panicked [⟨v, false, false⟩]) w) :
    Calls Tryz.prog 50 ⟨[qN VS]⟩ w R := by
 refine enter Tryz.func50 rfl Tryz.ntmps50 rfl hS fun a w hS => ?_
 have hM := hm; clear hm
 rw [xH.m] at hM
 refine qe <| sA hS rfl fun hS => qm <| qe <| sM hS rfl fun hS => qq hS rfl Tryz.call67 (Zv hG K VS (hS.st.part 0 [] (by kernel_rfl)) (qh hM) (fun VX VY VT VP w hM VR hst => qn hS.ev hst.appF rfl fun hS => ?_))
 replace hS : Ss _ _ _ H [VP] F _ _ := hS
 refine sA hS rfl fun hS => qm <| qe <| sM hS rfl fun hS => qq hS rfl Tryz.call68 (uT hG K VS (hS.st.part 0 [0] (by kernel_rfl)) (qh hM) (fun V3 w hM  hst => qn hS.ev hst.appF rfl fun hS => ?_))
 replace hS : Ss _ _ _ H [VP] F _ _ := hS
 refine sA hS rfl fun hS => qm <| qV (fun a w => ∃ (VO : List UInt8), Ss 44 [] [(3, .slice VX VT.length VY), (4, qN VO)] H [VP] F a w ∧ (xH.j1 K VT VO).wp kr kp) (fun V4 VQ => ?_) ?_
 ·refine wp_seq ?_
  refine zb <| sM hS rfl fun hS => qq hS rfl Tryz.call69 (Qj hG K VT VX VY (VR.rdF (i := 0) rfl) (VR.cap (fun _ => rfl) rfl) (hS.st.part 0 [0] (by kernel_rfl)) (qh hM) (fun VU V1 w hM  hst => qn hS.ev hst.appF rfl fun hS => ?_))
  replace hS : Ss _ _ _ H [VP] F _ _ := hS
  refine sM hS rfl fun hS => sO hS (ex rfl rfl) rfl fun hS => sO hS (ex rfl rfl) rfl fun hS => sA hS rfl fun hS => sA hS rfl fun hS => qm <| qe <| sM hS rfl fun hS => sB hS rfl fun hS => sM hS rfl fun hS => xm 5 true 20 (b := (V1 == (0 : Int))) (r := (decide ((VU.length : Int) < (V3.length : Int)))) hS rfl rfl rfl rfl rfl rfl rfl (fun hb a w hS K hK => ?_) rfl fun a w hS => ?_
  ·refine qI hS rfl rfl rfl hb (mv rfl) rfl fun a w hS => ?_
   refine qI hS rfl rfl rfl hb (ye rfl Tryz.runUnderlying9) rfl fun a w hS => qI hS rfl rfl rfl hb (mv rfl) rfl fun a w hS => qI hS rfl rfl rfl hb (ye rfl Tryz.runUnderlying9) rfl fun a w hS => qI hS rfl rfl rfl hb (xN rfl rfl rfl) rfl fun a w hS => ?_
   exact qL (hK _ _ (hS.up 5 rfl rfl))
  refine qm <| qo hS rfl hM (fun VZ hM => ?_) (fun VZ hM => ?_)
  ·refine zb ?_
   refine sM hS rfl fun hS => sA hS rfl fun hS => qL <| qc ?_
   exact VQ _ _ ⟨VU, hS.to [0] (by kernel_rfl) ⟨rfl, rfl, trivial⟩, hM⟩
  ·refine wp_skip ?_
   refine qc ?_
   exact VQ _ _ ⟨V3, hS.to [0] (by kernel_rfl) ⟨rfl, rfl, trivial⟩, hM⟩
 ·intro a w hI
  obtain ⟨VO, hS, hM⟩ := hI
  rw [xH.j1] at hM
  refine wp_seq <| qe <| sM hS rfl fun hS => qq hS rfl Tryz.call70 (uC hG K VT VX VY (VR.rdF (i := 0) rfl) (VR.cap (fun _ => rfl) rfl) (hS.st.part 0 [0] (by kernel_rfl)) (qh hM) (fun VV V2 w hM  hst => qn hS.ev hst.appF rfl fun hS => ?_) (fun v w hk hst => zY (qB (qB (⟨hS.ev.defs, hpan _ _ hk hst.appF.frame⟩)))))
  replace hS : Ss _ _ _ H [VP] F _ _ := hS
  refine sM hS rfl fun hS => sO hS (ex rfl rfl) rfl fun hS => sO hS (ex rfl rfl) rfl fun hS => sA hS rfl fun hS => sA hS rfl fun hS => qm <| qe <| sM hS rfl fun hS => sB hS rfl fun hS => sM hS rfl fun hS => xm 5 true 35 (b := (V2 == (0 : Int))) (r := (decide ((VV.length : Int) < (VO.length : Int)))) hS rfl rfl rfl rfl rfl rfl rfl (fun hb a w hS K hK => ?_) rfl fun a w hS => ?_
  ·refine qI hS rfl rfl rfl hb (mv rfl) rfl fun a w hS => ?_
   refine qI hS rfl rfl rfl hb (ye rfl Tryz.runUnderlying9) rfl fun a w hS => qI hS rfl rfl rfl hb (mv rfl) rfl fun a w hS => qI hS rfl rfl rfl hb (ye rfl Tryz.runUnderlying9) rfl fun a w hS => qI hS rfl rfl rfl hb (xN rfl rfl rfl) rfl fun a w hS => ?_
   exact qL (hK _ _ (hS.up 5 rfl rfl))
  refine qm <| qo hS rfl hM (fun V0 hM => ?_) (fun V0 hM => ?_)
  ·refine zb ?_
   refine sM hS rfl fun hS => sA hS rfl fun hS => qm <| qe <| sM hS rfl fun hS => sA hS rfl fun hS => qm <| wp_ret ?_
   exact qP (rs := [2]) hS rfl rfl (hret VV _ (qG hM) (hS.st.pick [] (by kernel_rfl)))
  ·refine wp_skip ?_
   refine qc <| qe <| sM hS rfl fun hS => sA hS rfl fun hS => qm <| wp_ret ?_
   exact qP (rs := [2]) hS rfl rfl (hret VO _ (qG hM) (hS.st.pick [] (by kernel_rfl)))
theorem Xy {H : z7} {F : List qj} {w : World} {R : Ending → World → Prop} {kr : (List UInt8) → Prop} {kp : Value → Prop} (hG : Gl H) (K : Nat) (VO : List UInt8)
    (hS : St w H [] F) (hm : (QQ.m K VO).wp kr kp)
    (hret : ∀ (VP : List UInt8) (w : World), kr VP → St w H [] F → R (.returned (qN VP)) w)
    (hpan : ∀ v w, kp v → St w H [] F → R (.panicked [⟨v, false, false⟩]) w) :
    Calls Tryz.prog 20 ⟨[qN VO]⟩ w R := by
 refine enter Tryz.func20 rfl Tryz.ntmps20 rfl hS fun a w hS => ?_
 have hM := hm; clear hm
 rw [QQ.m] at hM
 refine qe <| sA hS rfl fun hS => qm <| qe <| sM hS rfl fun hS => qq hS rfl Tryz.call49 (uQ hG K VO (hS.st.part 0 [] (by kernel_rfl)) (qh hM) (fun VU w hM  hst => qn hS.ev hst.appF rfl fun hS => ?_))
 replace hS : Ss _ _ _ H [] F _ _ := hS
 refine sO hS (yT rfl Tryz.runUnderlying56 Tryz.runUnderlying50) rfl fun hS => qq hS rfl Tryz.call48 (vx hG K (wr .u64 VU) (4 : Int) (hS.st.part 0 [] (by kernel_rfl)) (qh hM) (fun VV VW w hM  hst => qn hS.ev hst.appF rfl fun hS => ?_))
 replace hS : Ss _ _ _ H [] F _ _ := hS
 refine sM hS rfl fun hS => sO hS (ex rfl rfl) rfl fun hS => sO hS (ex rfl rfl) rfl fun hS => sA hS rfl fun hS => sA hS rfl fun hS => qm <| qe <| sM hS rfl fun hS => qq hS rfl Tryz.call50 (uB hG K VO (hS.st.part 0 [] (by kernel_rfl)) (qh hM) (fun VT w hM  hst => qn hS.ev hst.appF rfl fun hS => ?_) (fun v w hk hst => zY (qB (⟨hS.ev.defs, hpan _ _ hk hst.appF.frame⟩))))
 replace hS : Ss _ _ _ H [] F _ _ := hS
 obtain ⟨VQ, hM⟩ := qt hM
 refine sO hS (XY rfl rfl VQ) rfl fun hS => sM hS rfl fun hS => ?_
 obtain ⟨VR, hM⟩ := qt hM
 refine sO hS (XY rfl rfl VR) rfl fun hS => qY (v := qN) (x0 := ((([120, 156] : List UInt8) ++ VT) ++ VV)) hS (zE rfl) rfl fun VS a w hz hS => ?_
 have hM := qp hz hM; clear hz
 refine qm <| wp_ret ?_
 exact qP (rs := [2]) hS rfl rfl (hret VS _ (qG hM) (hS.st.pick [] (by kernel_rfl)))
theorem uN {H : z7} {F : List qj} {w : World} {R : Ending → World → Prop} {kr : Bool → Prop} {kp : Value → Prop} (hG : Gl H) (K : Nat) (VO : List UInt8)
    (hS : St w H [] F) (hm : (xU.m K VO).wp kr kp)
    (hret : ∀ (VS : Bool) (w : World), kr VS → St w H [] F → R (.returned (.bool VS)) w) :
    Calls Tryz.prog 26 ⟨[qN VO]⟩ w R := by
 refine enter Tryz.func26 rfl Tryz.ntmps26 rfl hS fun a w hS => ?_
 have hM := hm; clear hm
 rw [xU.m] at hM
 refine qe <| sA hS rfl fun hS => qm <| wp_seq <| qe <| sM hS rfl fun hS => sO hS (ye rfl Tryz.runUnderlying9) rfl fun hS => sM hS rfl fun hS => qm <| z3 <| q6 (fun VR a w => ∃ (VP : Int), Ss 24 [] [(0, qN VO), (6, .int .i64 (VO.length : Int)), (7, .int .i64 VP)] H [] F a w ∧ (xU.l1 K VO VR VP).wp kr kp) K ?_ ?_ ?_
 ·exact ⟨(0 : Int), hS.to [] (by kernel_rfl) ⟨rfl, rfl, rfl, trivial⟩, hM⟩
 ·intro a w hI; obtain ⟨_, _, hM⟩ := hI; exact qX hM
 ·intro VR a w hI VY VT
  obtain ⟨VP, hS, hM⟩ := hI
  rw [xU.l1] at hM
  refine qe <| sB hS rfl fun hS => qm <| wp_seq <| qo hS rfl hM (fun VU hM => ?_) (fun VU hM => ?_)
  ·refine wp_skip ?_
   refine qc <| wp_seq <| z3 <| qe <| sM hS rfl fun hS => sA hS rfl fun hS => qm <| qe <| sM hS rfl fun hS => sM hS rfl fun hS => ?_
   obtain ⟨VW, hM⟩ := qt hM
   refine sO hS (u1 rfl rfl Tryz.runUnderlying9 VW) rfl fun hS => sB hS rfl fun hS => qY (v := Value.int .u8) (x0 := (uk .u8 ((rd VO VP).toNat : Int) (32 : Int))) hS (zE rfl) rfl fun VQ a w hz hS => ?_
   have hM := qp hz hM; clear hz
   refine qm <| qe <| sM hS rfl fun hS => sB hS rfl fun hS => sM hS rfl fun hS => xm 2 false 16 (b := (decide (VQ < (97 : Int)))) (r := (decide (VQ > (122 : Int)))) hS rfl rfl rfl rfl rfl rfl rfl (fun hb a w hS K hK => ?_) rfl fun a w hS => ?_
   ·refine qI hS rfl rfl rfl hb (mv rfl) rfl fun a w hS => ?_
    refine qI hS rfl rfl rfl hb (xN rfl rfl rfl) rfl fun a w hS => ?_
    exact qL (hK _ _ (hS.up 2 rfl rfl))
   refine qm <| qo hS rfl hM (fun VV hM => ?_) (fun VV hM => ?_)
   ·refine wp_seq ?_
    refine zb <| sA hS rfl fun hS => qm <| wp_ret <| zc (qu (qu (zc (qu ?_))))
    exact qP (rs := [2]) hS rfl rfl (hret false _ (qG hM) (hS.st.pick [] (by kernel_rfl)))
   ·refine wp_skip ?_
    refine qW (qc ?_)
    refine zb <| sB hS rfl fun hS => sM hS rfl fun hS => qL <| qc ?_
    exact VT _ _ ⟨(qi (VP + (1 : Int))), hS.to [] (by kernel_rfl) ⟨rfl, rfl, rfl, trivial⟩, hM⟩
  ·refine wp_exit ?_
   refine qv (qv (qO (qc ?_)))
   refine qe <| sM hS rfl fun hS => sO hS (ye rfl Tryz.runUnderlying9) rfl fun hS => sB hS rfl fun hS => qY (v := Value.bool) (x0 := ((VO.length : Int) == (4 : Int))) hS (zE rfl) rfl fun VX a w hz hS => ?_
   have hM := qp hz hM; clear hz
   refine qm <| wp_ret ?_
   exact qP (rs := [2]) hS rfl rfl (hret VX _ (qG hM) (hS.st.pick [] (by kernel_rfl)))
theorem Qe {H : z7} {F : List qj} {w : World} {R : Ending → World → Prop} {kr : Int → Prop} {kp : Value → Prop} (hG : Gl H) (K : Nat) (VR : Int) (VP : List UInt8)
    (hS : St w H [] F) (hm : (xY.m K VR VP).wp kr kp)
    (hret : ∀ (VX : Int) (w : World), kr VX → St w H [] F → R (.returned (.int .u32 VX)) w) :
    Calls Tryz.prog 34 ⟨[.int .u32 VR, qN VP]⟩ w R := by
 refine enter Tryz.func34 rfl Tryz.ntmps34 rfl hS fun a w hS => ?_
 have hM := hm; clear hm
 rw [xY.m] at hM
 refine qe <| sA hS rfl fun hS => qm <| qe <| sM hS rfl fun hS => sO hS (un rfl rfl) rfl fun hS => qY (v := Value.int .u32) (x0 := (vW .u32 VR)) hS (zE rfl) rfl fun VY a w hz hS => ?_
 have hM := qp hz hM; clear hz
 refine qm <| wp_seq <| qe <| sM hS rfl fun hS => sO hS (ye rfl Tryz.runUnderlying9) rfl fun hS => sM hS rfl fun hS => qm <| z3 <| q6 (fun VW a w => ∃ (VO : Int) (VQ : Int), Ss 36 [] [(0, .int .u32 VO), (1, qN VP), (9, .int .i64 (VP.length : Int)), (10, .int .i64 VQ)] H [] F a w ∧ (xY.l1 K VP VW VO VQ).wp kr kp) K ?_ ?_ ?_
 ·exact ⟨VY, (0 : Int), hS.to [] (by kernel_rfl) ⟨rfl, rfl, rfl, rfl, trivial⟩, hM⟩
 ·intro a w hI; obtain ⟨_, _, _, hM⟩ := hI; exact qX hM
 ·intro VW a w hI V4 V0
  obtain ⟨VO, VQ, hS, hM⟩ := hI
  rw [xY.l1] at hM
  refine qe <| sB hS rfl fun hS => qm <| wp_seq <| qo hS rfl hM (fun V1 hM => ?_) (fun V1 hM => ?_)
  ·refine wp_skip ?_
   refine qc <| wp_seq <| z3 <| qe <| sM hS rfl fun hS => sA hS rfl fun hS => qm <| qe <| sM hS rfl fun hS => sM hS rfl fun hS => sM hS rfl fun hS => ?_
   obtain ⟨V2, hM⟩ := qt hM
   refine sO hS (u1 rfl rfl Tryz.runUnderlying9 V2) rfl fun hS => sO hS (yT rfl Tryz.runUnderlying5 Tryz.runUnderlying56) rfl fun hS => sB hS rfl fun hS => qY (v := Value.int .u32) (x0 := (jG .u32 VO (wr .u32 ((rd VP VQ).toNat : Int)))) hS (zE rfl) rfl fun VS a w hz hS => ?_
   have hM := qp hz hM; clear hz
   refine qm <| qe <| sM hS rfl fun hS => sO hS (shr rfl rfl rfl) rfl fun hS => sM hS rfl fun hS => sB hS rfl fun hS => ?_
   obtain ⟨VU, hM⟩ := qt hM
   refine sO hS (ZH rfl rfl Tryz.runUnderlying85 Tryz.sizeOf56 VU) rfl fun hS => sO hS (Vh rfl hG.g1 (fun _ => rfl) VU rfl Tryz.isAgg56) rfl fun hS => sB hS rfl fun hS => qY (v := Value.int .u32) (x0 := (jG .u32 (zX .u32 VS (4 : Int)) (rd tab_sums_half (xi .u32 VS (15 : Int))))) hS (zE rfl) rfl fun VT a w hz hS => ?_
   have hM := qp hz hM; clear hz
   refine qm <| zb <| sM hS rfl fun hS => sO hS (shr rfl rfl rfl) rfl fun hS => sM hS rfl fun hS => sB hS rfl fun hS => ?_
   obtain ⟨VV, hM⟩ := qt hM
   refine sO hS (ZH rfl rfl Tryz.runUnderlying85 Tryz.sizeOf56 VV) rfl fun hS => sO hS (Vh rfl hG.g1 (fun _ => rfl) VV rfl Tryz.isAgg56) rfl fun hS => sB hS rfl fun hS => qY (v := Value.int .u32) (x0 := (jG .u32 (zX .u32 VT (4 : Int)) (rd tab_sums_half (xi .u32 VT (15 : Int))))) hS (zE rfl) rfl fun VZ a w hz hS => ?_
   have hM := qp hz hM; clear hz
   refine qL <| qW (qc ?_)
   refine zb <| sB hS rfl fun hS => sM hS rfl fun hS => qL <| qc ?_
   exact V0 _ _ ⟨VZ, (qi (VQ + (1 : Int))), hS.to [] (by kernel_rfl) ⟨rfl, rfl, rfl, rfl, trivial⟩, hM⟩
  ·refine wp_exit ?_
   refine qv (qv (qO (qc ?_)))
   refine qe <| sM hS rfl fun hS => sO hS (un rfl rfl) rfl fun hS => qY (v := Value.int .u32) (x0 := (vW .u32 VO)) hS (zE rfl) rfl fun V3 a w hz hS => ?_
   have hM := qp hz hM; clear hz
   refine qm <| wp_ret ?_
   exact qP (rs := [4]) hS rfl rfl (hret V3 _ (qG hM) (hS.st.pick [] (by kernel_rfl)))
theorem QM {H : z7} {F : List qj} {w : World} {R : Ending → World → Prop} {kr : Int → Prop} {kp : Value → Prop} (hG : Gl H) (K : Nat) (VO : List UInt8)
    (hS : St w H [] F) (hm : (vw.m K VO).wp kr kp)
    (hret : ∀ (VP : Int) (w : World), kr VP → St w H [] F → R (.returned (.int .u32 VP)) w) :
    Calls Tryz.prog 28 ⟨[qN VO]⟩ w R := by
 refine enter Tryz.func28 rfl Tryz.ntmps28 rfl hS fun a w hS => ?_
 have hM := hm; clear hm
 rw [vw.m] at hM
 refine qe <| sA hS rfl fun hS => qm <| qe <| sM hS rfl fun hS => qq hS rfl Tryz.call34 (Qe hG K (0 : Int) VO (hS.st.part 0 [] (by kernel_rfl)) (qh hM) (fun VQ w hM  hst => qn hS.ev hst.appF rfl fun hS => ?_))
 replace hS : Ss _ _ _ H [] F _ _ := hS
 refine sA hS rfl fun hS => qm <| wp_ret ?_
 exact qP (rs := [2]) hS rfl rfl (hret VQ _ (qG hM) (hS.st.pick [] (by kernel_rfl)))
theorem QF {H : z7} {F : List qj} {w : World} {R : Ending → World → Prop} {kr : ((List UInt8) × Int) → Prop} {kp : Value → Prop} (hG : Gl H) (K : Nat) (VO : List qd) (VT : Option Addr) (VU : Nat) (V8 : yU H [] F qd.cells VT VO) (Uz : VO.length ≤ VU)
    (hS : St w H [] F) (hm : (yo.m K VO).wp kr kp)
    (hret : ∀ (Ue : List UInt8) (Uf : Int) (w : World), kr (Ue, Uf) → St w H [] F → R (.returned (.tuple ⟨[qN Ue, .int .i64 Uf]⟩)) w) :
    Calls Tryz.prog 13 ⟨[.slice VT VO.length VU]⟩ w R := by
 refine enter Tryz.func13 rfl Tryz.ntmps13 rfl hS fun a w hS => ?_
 have hM := hm; clear hm
 rw [yo.m] at hM
 refine qe <| sA hS rfl fun hS => sA hS rfl fun hS => qm <| qe <| jz ([.pointer none, .slice none 0 0]) hS Tryz.zeroValue61 rfl rfl fun w VS V9 V3 hS => ?_
 replace V3 : QT 61 5 VS ([] : List Int) V9 := QT.new V3
 refine qm <| qe <| qq hS rfl Tryz.call32 (xe hG K ([] : List Int) ([137, 80, 78, 71, 13, 10, 26, 10] : List UInt8) VS V9 V3 (hS.st.part 1 [0] (by kernel_rfl)) (qh hM) (fun UE Ug Ua w hM Ut hst => qn hS.ev hst.appF rfl fun hS => ?_))
 replace hS : Ss _ _ _ H [Ua] F _ _ := hS
 refine qm <| qV (fun a w => ∃ (V1 : (List Int)) (V4 : qj), Ss 62 [] [(0, .slice VT VO.length VU), (4, qx VS 0)] H [V4] F a w ∧ (QT 61 5 VS V1 V4) ∧ (yo.j2 K VO V1).wp kr kp) (fun UB Ul => ?_) ?_
 ·refine wp_seq ?_
  refine zb <| sM hS rfl fun hS => sO hS (xw rfl Tryz.runUnderlying23) rfl fun hS => sM hS rfl fun hS => qm <| z3 <| q6 (fun Uc a w => ∃ (VX : (List Int)) (VY : qj) (VP : Int), Ss 62 [] [(0, .slice VT VO.length VU), (4, qx VS 0), (8, .slice VT VO.length VU), (9, .int .i64 (VO.length : Int)), (10, .int .i64 VP)] H [VY] F a w ∧ (QT 61 5 VS VX VY) ∧ (yo.l1 K VO Uc VX VP).wp kr kp) K ?_ ?_ ?_
  ·exact ⟨Ug, Ua, (0 : Int), hS.to [0] (by kernel_rfl) ⟨rfl, rfl, rfl, rfl, rfl, trivial⟩, Ut, hM⟩
  ·intro a w hI; obtain ⟨_, _, _, _, _, hM⟩ := hI; exact qX hM
  ·intro Uc a w hI UA Uk
   obtain ⟨VX, VY, VP, hS, V6, hM⟩ := hI
   rw [yo.l1] at hM
   refine qe <| sB hS rfl fun hS => qm <| wp_seq <| qo hS rfl hM (fun Un hM => ?_) (fun Un hM => ?_)
   ·refine wp_skip ?_
    refine qc <| wp_seq <| z3 <| qe <| sM hS rfl fun hS => ?_
    obtain ⟨V7, hM⟩ := qt hM
    refine sO hS (xF rfl rfl Tryz.runUnderlying23 Tryz.sizeOf30 V8.wk (fun _ => rfl) rfl V7) rfl fun hS => sO hS (jj rfl V8.wk (fun _ => rfl) V7 Tryz.isAgg30 Tryz.sizeOf30 rfl) rfl fun hS => jz ([qN ([] : List UInt8), qN ([] : List UInt8)]) hS Tryz.zeroValue30 rfl rfl fun w VQ UC Uj hS => sA hS rfl fun hS => jn 0 ([qN ((rd VO VP).Type_), qN ((rd VO VP).Data_)]) ([qN ((rd VO VP).Type_), qN ((rd VO VP).Data_)]) hS rfl rfl Uj rfl rfl Tryz.sizeOf30 (by simp [Value.oneCell']) (Nat.le_of_ble_eq_true rfl) rfl fun w VZ VR hS => qm <| wp_seq <| qe <| sO hS (zz rfl Tryz.runUnderlying30 rfl Tryz.sizeOf9 rfl) rfl fun hS => sO hS (zU 0 rfl VR rfl rfl Tryz.isAgg9) rfl fun hS => qq hS rfl Tryz.call26 (uN hG K ((rd VO VP).Type_) (hS.st.part 0 [0, 1] (by kernel_rfl)) (qh hM) (fun Ud w hM  hst => qn hS.ev hst.appF rfl fun hS => ?_))
    replace hS : Ss _ _ _ H [VZ, VY] F _ _ := hS
    refine sO hS (un rfl rfl) rfl fun hS => sM hS rfl fun hS => xm 4 false 19 (b := (!Ud)) (r := (decide ((((rd VO VP).Data_).length : Int) > (2147483647 : Int)))) hS rfl rfl rfl rfl rfl rfl rfl (fun hb a w hS K hK => ?_) rfl fun a w hS => ?_
    ·refine qI hS rfl rfl rfl hb (zz rfl Tryz.runUnderlying30 rfl Tryz.sizeOf9 rfl) rfl fun a w hS => ?_
     refine qI hS rfl rfl rfl hb (zU 0 rfl VR rfl rfl Tryz.isAgg9) rfl fun a w hS => qI hS rfl rfl rfl hb (ye rfl Tryz.runUnderlying9) rfl fun a w hS => qI hS rfl rfl rfl hb (xN rfl rfl rfl) rfl fun a w hS => ?_
     exact qL (hK _ _ (hS.up 4 rfl rfl))
    refine sM hS rfl fun hS => xm 9 false 25 (b := ((!Ud) || (decide ((((rd VO VP).Data_).length : Int) > (2147483647 : Int))))) (r := (!(((rd VO VP).Type_ == ([73, 69, 78, 68] : List UInt8)) == (VP == (qi ((VO.length : Int) - (1 : Int))))))) hS rfl rfl rfl rfl rfl rfl rfl (fun hb a w hS K hK => ?_) rfl fun a w hS => ?_
    ·refine qI hS rfl rfl rfl hb (zz rfl Tryz.runUnderlying30 rfl Tryz.sizeOf9 rfl) rfl fun a w hS => ?_
     refine qI hS rfl rfl rfl hb (zU 0 rfl VR rfl rfl Tryz.isAgg9) rfl fun a w hS => qI hS rfl rfl rfl hb (ua rfl rfl rfl) rfl fun a w hS => qI hS rfl rfl rfl hb (mv rfl) rfl fun a w hS => qI hS rfl rfl rfl hb (mv rfl) rfl fun a w hS => qI hS rfl rfl rfl hb (xw rfl Tryz.runUnderlying23) rfl fun a w hS => qI hS rfl rfl rfl hb (xN rfl rfl rfl) rfl fun a w hS => qI hS rfl rfl rfl hb (xN rfl rfl rfl) rfl fun a w hS => qI hS rfl rfl rfl hb (JT rfl rfl Tryz.runUnderlying4 rfl) rfl fun a w hS => ?_
     exact qL (hK _ _ (hS.up 9 rfl rfl))
    refine qm <| qo hS rfl hM (fun Uo hM => ?_) (fun Uo hM => ?_)
    ·refine wp_seq ?_
     refine zb <| sA hS rfl fun hS => sA hS rfl fun hS => qm <| wp_ret <| qu (zc (qu (qu (zc (qu ?_)))))
     exact qP (rs := [2, 3]) hS rfl rfl (hret ([] : List UInt8) (1 : Int) _ (qG hM) (hS.st.pick [] (by kernel_rfl)))
    ·refine wp_skip ?_
     refine qc <| wp_seq <| qM (vals := [some (qx VQ 1), some (qN ((rd VO VP).Data_)), some (.int .i64 (((rd VO VP).Data_).length : Int)), some (.int .u64 (wr .u64 (((rd VO VP).Data_).length : Int))), none, some (qx VQ 0), some (qN ((rd VO VP).Type_)), none, some (qx VQ 1), some (qN ((rd VO VP).Data_)), none, none]) hS zV rfl ?_
     intro l w ho hcl hA hst
     refine x4 hA hst ho hcl zO zW 4 [0, 1, 2, 3, 5, 6, 8, 9] rfl rfl rfl rfl rfl (by exact ⟨nQ rfl (by exact qJ (zz rfl Tryz.runUnderlying30 rfl Tryz.sizeOf9 rfl) rfl), nQ rfl (by exact qJ (zU 0 rfl VR rfl rfl Tryz.isAgg9) rfl), nQ rfl (by exact qJ (ye rfl Tryz.runUnderlying9) rfl), nQ rfl (by exact qJ (yT rfl Tryz.runUnderlying3 Tryz.runUnderlying50) rfl), nQ rfl (by exact qJ (zz rfl Tryz.runUnderlying30 rfl Tryz.sizeOf9 rfl) rfl), nQ rfl (by exact qJ (zU 0 rfl VR rfl rfl Tryz.isAgg9) rfl), nQ rfl (by exact qJ (zz rfl Tryz.runUnderlying30 rfl Tryz.sizeOf9 rfl) rfl), nQ rfl (by exact qJ (zU 0 rfl VR rfl rfl Tryz.isAgg9) rfl), trivial⟩) fun D l a w ho hcl hav hpre hm hE hk hA hst => ?_
     have hS := (Ss.mk hE hst).env2 (e' := [(39, .int .u64 (wr .u64 (((rd VO VP).Data_).length : Int)))]) ⟨rfl, trivial⟩
     refine qC rfl <| qq hS rfl Tryz.call33 (yv hG K (wr .u64 (((rd VO VP).Data_).length : Int)) (hS.st.part 0 [0, 1] (by kernel_rfl)) (qh hM) (fun VV w hM  hst => qn hS.ev hst.appF rfl fun hS => ?_))
     replace hS : Ss _ _ _ H [VZ, VY] F _ _ := hS
     refine qm ?_
     replace hst := hS.st
     obtain ⟨Uq, hM⟩ := qt hM
     obtain ⟨Ur, hM⟩ := qt hM
     obtain ⟨hcl, hmust, hav2, hA⟩ := dn (vals' := [some (qx VQ 1), some (qN ((rd VO VP).Data_)), some (.int .i64 (((rd VO VP).Data_).length : Int)), some (.int .u64 (wr .u64 (((rd VO VP).Data_).length : Int))), some (qN VV), some (qx VQ 0), some (qN ((rd VO VP).Type_)), some (qN (VV ++ (rd VO VP).Type_)), some (qx VQ 1), some (qN ((rd VO VP).Data_)), some (qN ((VV ++ (rd VO VP).Type_) ++ (rd VO VP).Data_)), none]) 4 [(3, 4), (2, 3), (1, 2), (0, 1)] hA hcl hav hm hpre hk rfl rfl rfl rfl rfl rfl rfl
     clear hm hav
     refine x4 hA hst ho hcl hav2 hmust 11 [5, 6, 7, 8, 9, 10] rfl rfl rfl rfl rfl (by exact ⟨nQ rfl (by exact qJ (zz rfl Tryz.runUnderlying30 rfl Tryz.sizeOf9 rfl) rfl), nQ rfl (by exact qJ (zU 0 rfl VR rfl rfl Tryz.isAgg9) rfl), nQ rfl (by exact qJ (XY rfl rfl Uq) rfl), nQ rfl (by exact qJ (zz rfl Tryz.runUnderlying30 rfl Tryz.sizeOf9 rfl) rfl), nQ rfl (by exact qJ (zU 0 rfl VR rfl rfl Tryz.isAgg9) rfl), nQ rfl (by exact qJ (XY rfl rfl Ur) rfl), trivial⟩) fun D l a w ho hcl hav hpre hm hE hk hA hst => ?_
     have hS := (Ss.mk hE hst).env2 (e' := [(4, qx VS 0), (46, qN ((VV ++ (rd VO VP).Type_) ++ (rd VO VP).Data_))]) ⟨rfl, rfl, trivial⟩
     refine qC rfl <| qq hS rfl Tryz.call32 (xe hG K VX ((VV ++ (rd VO VP).Type_) ++ (rd VO VP).Data_) VS VY V6 (hS.st.part 1 [1, 0] (by kernel_rfl)) (qh hM) (fun Uw Uh V2 w hM Uu hst => qn hS.ev hst.appF rfl fun hS => ?_))
     replace hS : Ss _ _ _ H [V2, VZ] F _ _ := hS
     refine qm ?_
     replace hst := hS.st
     obtain ⟨hcl, hmust, hav2, hA⟩ := dn (vals' := [some (qx VQ 1), some (qN ((rd VO VP).Data_)), some (.int .i64 (((rd VO VP).Data_).length : Int)), some (.int .u64 (wr .u64 (((rd VO VP).Data_).length : Int))), some (qN VV), some (qx VQ 0), some (qN ((rd VO VP).Type_)), some (qN (VV ++ (rd VO VP).Type_)), some (qx VQ 1), some (qN ((rd VO VP).Data_)), some (qN ((VV ++ (rd VO VP).Type_) ++ (rd VO VP).Data_)), some (.tuple ⟨[.int .i64 Uw, .nilIface]⟩)]) 11 [(4, 11), (10, 11), (3, 4), (7, 10), (9, 10), (2, 3), (6, 7), (8, 9), (1, 2), (5, 6), (0, 1)] hA hcl hav hm hpre hk rfl rfl rfl rfl rfl rfl rfl
     clear hm hav
     refine xq hA hst ho hcl hmust [] rfl rfl rfl trivial fun a w hS => ?_
     replace hS := hS.env2 (e' := [(0, .slice VT VO.length VU), (4, qx VS 0), (6, qx VQ 0), (8, .slice VT VO.length VU), (9, .int .i64 (VO.length : Int)), (10, .int .i64 VP)]) ⟨rfl, rfl, rfl, rfl, rfl, rfl, trivial⟩
     refine qc <| qM (vals := [some (qx VQ 0), some (qN ((rd VO VP).Type_)), none, some (qx VQ 1), some (qN ((rd VO VP).Data_)), none, none, none, none]) hS zV rfl ?_
     intro l w ho hcl hA hst
     refine x4 hA hst ho hcl zO zW 2 [0, 1, 3, 4] rfl rfl rfl rfl rfl (by exact ⟨nQ rfl (by exact qJ (zz rfl Tryz.runUnderlying30 rfl Tryz.sizeOf9 rfl) rfl), nQ rfl (by exact qJ (zU 1 rfl VR rfl rfl Tryz.isAgg9) rfl), nQ rfl (by exact qJ (zz rfl Tryz.runUnderlying30 rfl Tryz.sizeOf9 rfl) rfl), nQ rfl (by exact qJ (zU 1 rfl VR rfl rfl Tryz.isAgg9) rfl), trivial⟩) fun D l a w ho hcl hav hpre hm hE hk hA hst => ?_
     have hS := (Ss.mk hE hst).env2 (e' := [(49, qN ((rd VO VP).Type_))]) ⟨rfl, trivial⟩
     refine qC rfl <| qq hS rfl Tryz.call28 (QM hG K ((rd VO VP).Type_) (hS.st.part 0 [0, 1] (by kernel_rfl)) (qh hM) (fun V0 w hM  hst => qn hS.ev hst.appF rfl fun hS => ?_))
     replace hS : Ss _ _ _ H [V2, VZ] F _ _ := hS
     refine qm ?_
     replace hst := hS.st
     obtain ⟨hcl, hmust, hav2, hA⟩ := dn (vals' := [some (qx VQ 0), some (qN ((rd VO VP).Type_)), some (.int .u32 V0), some (qx VQ 1), some (qN ((rd VO VP).Data_)), none, none, none, none]) 2 [(1, 2), (0, 1)] hA hcl hav hm hpre hk rfl rfl rfl rfl rfl rfl rfl
     clear hm hav
     refine x4 hA hst ho hcl hav2 hmust 5 [3, 4] rfl rfl rfl rfl rfl (by exact ⟨nQ rfl (by exact qJ (zz rfl Tryz.runUnderlying30 rfl Tryz.sizeOf9 rfl) rfl), nQ rfl (by exact qJ (zU 1 rfl VR rfl rfl Tryz.isAgg9) rfl), trivial⟩) fun D l a w ho hcl hav hpre hm hE hk hA hst => ?_
     have hS := (Ss.mk hE hst).env2 (e' := [(50, .int .u32 V0), (52, qN ((rd VO VP).Data_))]) ⟨rfl, rfl, trivial⟩
     refine qC rfl <| qq hS rfl Tryz.call34 (Qe hG K V0 ((rd VO VP).Data_) (hS.st.part 0 [0, 1] (by kernel_rfl)) (qh hM) (fun VW w hM  hst => qn hS.ev hst.appF rfl fun hS => ?_))
     replace hS : Ss _ _ _ H [V2, VZ] F _ _ := hS
     refine qm ?_
     replace hst := hS.st
     obtain ⟨hcl, hmust, hav2, hA⟩ := dn (vals' := [some (qx VQ 0), some (qN ((rd VO VP).Type_)), some (.int .u32 V0), some (qx VQ 1), some (qN ((rd VO VP).Data_)), some (.int .u32 VW), some (.int .u64 (wr .u64 VW)), none, none]) 5 [(2, 5), (4, 5), (1, 2), (3, 4), (0, 1)] hA hcl hav hm hpre hk rfl rfl rfl rfl rfl rfl rfl
     clear hm hav
     refine x4 hA hst ho hcl hav2 hmust 7 [6] rfl rfl rfl rfl rfl (by exact ⟨nQ rfl (by exact qJ (yT rfl Tryz.runUnderlying56 Tryz.runUnderlying50) rfl), trivial⟩) fun D l a w ho hcl hav hpre hm hE hk hA hst => ?_
     have hS := (Ss.mk hE hst).env2 (e' := [(54, .int .u64 (wr .u64 VW))]) ⟨rfl, trivial⟩
     refine qC rfl <| qq hS rfl Tryz.call33 (yv hG K (wr .u64 VW) (hS.st.part 0 [0, 1] (by kernel_rfl)) (qh hM) (fun V5 w hM  hst => qn hS.ev hst.appF rfl fun hS => ?_))
     replace hS : Ss _ _ _ H [V2, VZ] F _ _ := hS
     refine qm ?_
     replace hst := hS.st
     obtain ⟨hcl, hmust, hav2, hA⟩ := dn (vals' := [some (qx VQ 0), some (qN ((rd VO VP).Type_)), some (.int .u32 V0), some (qx VQ 1), some (qN ((rd VO VP).Data_)), some (.int .u32 VW), some (.int .u64 (wr .u64 VW)), some (qN V5), none]) 7 [(5, 7), (6, 7), (2, 5), (4, 5), (1, 2), (3, 4), (0, 1)] hA hcl hav hm hpre hk rfl rfl rfl rfl rfl rfl rfl
     clear hm hav
     refine x4 hA hst ho hcl hav2 hmust 8 [] rfl rfl rfl rfl rfl trivial fun D l a w ho hcl hav hpre hm hE hk hA hst => ?_
     have hS := (Ss.mk hE hst).env2 (e' := [(4, qx VS 0), (55, qN V5)]) ⟨rfl, rfl, trivial⟩
     refine qC rfl <| qq hS rfl Tryz.call32 (xe hG K Uh V5 VS V2 Uu (hS.st.part 1 [0, 1] (by kernel_rfl)) (qh hM) (fun Ux Ui Ub w hM Uv hst => qn hS.ev hst.appF rfl fun hS => ?_))
     replace hS : Ss _ _ _ H [Ub, VZ] F _ _ := hS
     refine qm ?_
     replace hst := hS.st
     obtain ⟨hcl, hmust, hav2, hA⟩ := dn (vals' := [some (qx VQ 0), some (qN ((rd VO VP).Type_)), some (.int .u32 V0), some (qx VQ 1), some (qN ((rd VO VP).Data_)), some (.int .u32 VW), some (.int .u64 (wr .u64 VW)), some (qN V5), some (.tuple ⟨[.int .i64 Ux, .nilIface]⟩)]) 8 [(7, 8), (5, 7), (6, 7), (2, 5), (4, 5), (1, 2), (3, 4), (0, 1)] hA hcl hav hm hpre hk rfl rfl rfl rfl rfl rfl rfl
     clear hm hav
     refine xq hA hst ho hcl hmust [] rfl rfl rfl trivial fun a w hS => ?_
     replace hS := hS.env2 (e' := [(0, .slice VT VO.length VU), (4, qx VS 0), (8, .slice VT VO.length VU), (9, .int .i64 (VO.length : Int)), (10, .int .i64 VP)]) ⟨rfl, rfl, rfl, rfl, rfl, trivial⟩
     refine qW (qc ?_)
     refine zb <| sB hS rfl fun hS => sM hS rfl fun hS => qL <| qc ?_
     exact Uk _ _ ⟨Ui, Ub, (qi (VP + (1 : Int))), hS.to [0] (by kernel_rfl) ⟨rfl, rfl, rfl, rfl, rfl, trivial⟩, Uv, hM⟩
   ·refine wp_exit ?_
    refine qv (qv (qO (qc ?_)))
    exact Ul _ _ ⟨VX, VY, hS.to [0] (by kernel_rfl) ⟨rfl, rfl, trivial⟩, V6, hM⟩
 ·intro a w hI
  obtain ⟨V1, V4, hS, Um, hM⟩ := hI
  rw [yo.j2] at hM
  refine wp_seq <| qe <| sM hS rfl fun hS => sO hS (xw rfl Tryz.runUnderlying23) rfl fun hS => sB hS rfl fun hS => qm <| qo hS rfl hM (fun Up hM => ?_) (fun Up hM => ?_)
  ·refine wp_seq ?_
   refine zb <| sA hS rfl fun hS => sA hS rfl fun hS => qm <| wp_ret <| qu ?_
   exact qP (rs := [2, 3]) hS rfl rfl (hret ([] : List UInt8) (1 : Int) _ (qG hM) (hS.st.pick [] (by kernel_rfl)))
  ·refine wp_skip ?_
   refine qc <| qe <| qq hS rfl Tryz.call35 (yh hG K V1 VS V4 Um (hS.st.part 1 [0] (by kernel_rfl)) (qh hM) (fun Uy Us w hM UD hst => qn hS.ev hst.appF rfl fun hS => ?_))
   replace hS : Ss _ _ _ H [Us] F _ _ := hS
   refine sA hS rfl fun hS => sA hS rfl fun hS => qm <| wp_ret ?_
   exact qP (rs := [2, 3]) hS rfl rfl (hret Uy (0 : Int) _ (qG hM) (hS.st.pick [] (by kernel_rfl)))
theorem Zy {H : z7} {F : List qj} {w : World} {R : Ending → World → Prop} {kr : ((List UInt8) × Int) → Prop} {kp : Value → Prop} (hG : Gl H) (K : Nat) (m8 : xk)
    (hS : St w H [] F) (hm : (zJ.m K m8).wp kr kp)
    (hret : ∀ (Uk : List UInt8) (Ul : Int) (w : World), kr (Uk, Ul) → St w H [] F → R (.returned (.tuple ⟨[qN Uk, .int .i64 Ul]⟩)) w)
    (hpan : ∀ v w, kp v → St w H [] F → R (.panicked [⟨v, false, false⟩]) w) :
    Calls Tryz.prog 17 ⟨[.agg ⟨[.int .i64 m8.W_, .int .i64 m8.H_, .int .i64 m8.Samples_, qN m8.Pixels_]⟩]⟩ w R := by
 refine enter Tryz.func17 rfl Tryz.ntmps17 rfl hS fun a w hS => ?_
 have hM := hm; clear hm
 rw [zJ.m] at hM
 refine qe <| bx ([.int .i64 m8.W_, .int .i64 m8.H_, .int .i64 m8.Samples_, qN m8.Pixels_]) hS rfl rfl rfl fun w b9 V4 VV hS => sA hS rfl fun hS => sA hS rfl fun hS => qm <| wp_seq <| qe <| sO hS (yz 0 rfl VV rfl ([.int .i64 m8.W_, .int .i64 m8.H_, .int .i64 m8.Samples_, qN m8.Pixels_]) rfl rfl Tryz.isAgg35 Tryz.sizeOf35) rfl fun hS => qq hS rfl Tryz.call46 (Xu hG K m8 (hS.st.part 0 [0] (by kernel_rfl)) (qh hM) (fun Ki w hM  hst => qn hS.ev hst.appF rfl fun hS => ?_))
 replace hS : Ss _ _ _ H [V4] F _ _ := hS
 refine sO hS (un rfl rfl) rfl fun hS => qm <| qo hS rfl hM (fun U0 hM => ?_) (fun U0 hM => ?_)
 ·refine wp_seq ?_
  refine zb <| sA hS rfl fun hS => sA hS rfl fun hS => qm <| wp_ret <| qu ?_
  exact qP (rs := [2, 3]) hS rfl rfl (hret ([] : List UInt8) (1 : Int) _ (qG hM) (hS.st.pick [] (by kernel_rfl)))
 ·refine wp_skip ?_
  refine qc <| qe <| sA hS rfl fun hS => qm <| qV (fun a w => ∃ (VO : Int), Ss 66 [] [(1, qx b9 0), (4, .int .u8 VO)] H [V4] F a w ∧ (zJ.j2 K m8 VO).wp kr kp) (fun Ke UZ => ?_) ?_
  ·refine wp_seq ?_
   refine zb <| sO hS (XH rfl hG.g0 (by rfl) Tryz.isAgg78 Tryz.sizeOf78) rfl fun hS => sM hS rfl fun hS => qm <| z3 <| q6 (fun U6 a w => ∃ (VW : Int) (Ua : Int), Ss 66 [] [(1, qx b9 0), (4, .int .u8 VW), (14, .agg ⟨tab_png_colors.flatMap yq.cells⟩), (15, .int .i64 Ua)] H [V4] F a w ∧ (zJ.l1 K m8 U6 VW Ua).wp kr kp) K ?_ ?_ ?_
   ·exact ⟨(0 : Int), (0 : Int), hS.to [0] (by kernel_rfl) ⟨rfl, rfl, rfl, rfl, trivial⟩, hM⟩
   ·intro a w hI; obtain ⟨_, _, _, hM⟩ := hI; exact qX hM
   ·intro U6 a w hI Kd UE
    obtain ⟨VW, Ua, hS, hM⟩ := hI
    rw [zJ.l1] at hM
    refine qe <| sB hS rfl fun hS => qm <| wp_seq <| qo hS rfl hM (fun U1 hM => ?_) (fun U1 hM => ?_)
    ·refine wp_skip ?_
     refine qc <| wp_seq <| z3 <| wp_seq <| zb ?_
     obtain ⟨U3, hM⟩ := qt hM
     refine sO hS (Jx rfl rfl Tryz.runUnderlying78 Tryz.isAgg77 Tryz.sizeOf77 (fun _ => rfl) jZ U3) rfl fun hS => jz ([.int .u8 (0 : Int), .int .i64 (0 : Int)]) hS Tryz.zeroValue77 rfl rfl fun w Kf Kg UY hS => jn 0 ([.int .u8 ((rd tab_png_colors Ua).kind_), .int .i64 ((rd tab_png_colors Ua).samples_)]) ([.int .u8 ((rd tab_png_colors Ua).kind_), .int .i64 ((rd tab_png_colors Ua).samples_)]) hS rfl rfl UY rfl rfl Tryz.sizeOf77 (by simp [Value.oneCell']) (Nat.le_of_ble_eq_true rfl) rfl fun w Kh UB hS => qm <| qe <| sO hS (zz rfl Tryz.runUnderlying77 rfl Tryz.sizeOf3 rfl) rfl fun hS => sO hS (zU 0 rfl UB rfl rfl Tryz.isAgg3) rfl fun hS => sO hS (zz rfl Tryz.runUnderlying35 rfl Tryz.sizeOf3 rfl) rfl fun hS => sO hS (zU 1 rfl VV rfl rfl Tryz.isAgg3) rfl fun hS => sB hS rfl fun hS => qm <| qo hS rfl hM (fun U2 hM => ?_) (fun U2 hM => ?_)
     ·refine zb ?_
      refine sO hS (zz rfl Tryz.runUnderlying77 rfl Tryz.sizeOf5 rfl) rfl fun hS => sO hS (zU 0 rfl UB rfl rfl Tryz.isAgg5) rfl fun hS => qY (v := Value.int .u8) (x0 := (rd tab_png_colors Ua).kind_) hS (zE rfl) rfl fun Uq a w hz hS => ?_
      have hM := qp hz hM; clear hz
      refine qL <| qW (qc ?_)
      refine zb <| sB hS rfl fun hS => sM hS rfl fun hS => qL <| qc ?_
      exact UE _ _ ⟨Uq, (qi (Ua + (1 : Int))), hS.to [1] (by kernel_rfl) ⟨rfl, rfl, rfl, rfl, trivial⟩, hM⟩
     ·refine wp_skip ?_
      refine qW (qc ?_)
      refine zb <| sB hS rfl fun hS => sM hS rfl fun hS => qL <| qc ?_
      exact UE _ _ ⟨VW, (qi (Ua + (1 : Int))), hS.to [1] (by kernel_rfl) ⟨rfl, rfl, rfl, rfl, trivial⟩, hM⟩
    ·refine wp_exit ?_
     refine qv (qv (qO (qc ?_)))
     exact UZ _ _ ⟨VW, hS.to [0] (by kernel_rfl) ⟨rfl, rfl, trivial⟩, hM⟩
  ·intro a w hI
   obtain ⟨VO, hS, hM⟩ := hI
   rw [zJ.j2] at hM
   refine qe <| jz ([.pointer none, .slice none 0 0]) hS Tryz.zeroValue61 rfl rfl fun w V2 U5 Up hS => ?_
   replace Up : QT 61 5 V2 ([] : List Int) U5 := QT.new Up
   refine qm <| qV (fun a w => ∃ (VS : (List Int)) (VX : qj), Ss 66 [] [(1, qx b9 0), (4, .int .u8 VO), (7, qx V2 0)] H [V4, VX] F a w ∧ (QT 61 5 V2 VS VX) ∧ (zJ.j4 K m8 VO VS).wp kr kp) (fun U8 UD => ?_) ?_
   ·refine wp_seq ?_
    obtain ⟨VT, UP⟩ : ∃ x, x = (qi (m8.W_ * m8.Samples_)) := ⟨_, rfl⟩
    replace hM := qp UP hM
    refine qM (vals := [some (qx b9 0), some (.int .i64 m8.W_), some (qx b9 2), some (.int .i64 m8.Samples_), some (.int .i64 (qi (m8.W_ * m8.Samples_))), some (qx b9 3), some (qN m8.Pixels_), some (.int .i64 VT), some (qN m8.Pixels_)]) hS zV rfl ?_
    intro l w ho hcl hA hst
    refine xq hA hst ho hcl zW [0, 1, 2, 3, 4, 5, 6, 7, 8] rfl rfl rfl (by exact ⟨nQ rfl (by exact qJ (zz rfl Tryz.runUnderlying35 rfl Tryz.sizeOf3 rfl) rfl), nQ rfl (by exact qJ (zU 1 rfl VV rfl rfl Tryz.isAgg3) rfl), nQ rfl (by exact qJ (zz rfl Tryz.runUnderlying35 rfl Tryz.sizeOf3 rfl) rfl), nQ rfl (by exact qJ (zU 1 rfl VV rfl rfl Tryz.isAgg3) rfl), nB rfl, nQ rfl (by exact qJ (zz rfl Tryz.runUnderlying35 rfl Tryz.sizeOf9 rfl) rfl), nQ rfl (by exact qJ (zU 1 rfl VV rfl rfl Tryz.isAgg9) rfl), nQ rfl (by exact qJ (zE rfl) (congrArg (Value.int .i64) UP.symm)), nA rfl, trivial⟩) fun a w hS => ?_
    replace hS := hS.env2 (e' := [(1, qx b9 0), (4, .int .u8 VO), (7, qx V2 0), (8, .int .i64 VT), (9, qN m8.Pixels_)]) ⟨rfl, rfl, rfl, rfl, rfl, trivial⟩
    refine qc <| z3 <| q6 (fun UQ a w => ∃ (VR : (List Int)) (V5 : qj) (VQ : List UInt8), Ss 66 [] [(1, qx b9 0), (4, .int .u8 VO), (7, qx V2 0), (8, .int .i64 VT), (9, qN VQ)] H [V4, V5] F a w ∧ (QT 61 5 V2 VR V5) ∧ (zJ.l3 K m8 VO VT UQ VR VQ).wp kr kp) K ?_ ?_ ?_
    ·exact ⟨([] : List Int), U5, m8.Pixels_, hS.to [1, 0] (by kernel_rfl) ⟨rfl, rfl, rfl, rfl, rfl, trivial⟩, Up, hM⟩
    ·intro a w hI; obtain ⟨_, _, _, _, _, hM⟩ := hI; exact qX hM
    ·intro UQ a w hI U7 UC
     obtain ⟨VR, V5, VQ, hS, Ue, hM⟩ := hI
     rw [zJ.l3] at hM
     refine wp_seq <| qe <| sM hS rfl fun hS => sO hS (ua rfl rfl rfl) rfl fun hS => qm <| qo hS rfl hM (fun UH hM => ?_) (fun UH hM => ?_)
     ·refine wp_skip ?_
      refine qc <| wp_seq <| z3 <| qe <| qq hS rfl Tryz.call47 (jI hG K VR (0 : Int) V2 V5 Ue (hS.st.part 1 [1, 0] (by kernel_rfl)) (qh hM) (fun Ut Ux w hM UW hst => qn hS.ev hst.appF rfl fun hS => ?_))
      replace hS : Ss _ _ _ H [Ux, V4] F _ _ := hS
      refine qm <| zb <| sM hS rfl fun hS => sM hS rfl fun hS => ?_
      obtain ⟨UI, hM⟩ := qt hM
      refine sO hS (Xj rfl Tryz.runUnderlying9 YF (Xn rfl) UI) rfl fun hS => qq hS rfl Tryz.call32 (xe hG K Ut (sub VQ (0 : Int) VT) V2 Ux UW (hS.st.part 1 [0, 1] (by kernel_rfl)) (qh hM) (fun Kc Uu Uy w hM UX hst => qn hS.ev hst.appF rfl fun hS => ?_))
      replace hS : Ss _ _ _ H [Uy, V4] F _ _ := hS
      refine qL <| qW (qc ?_)
      refine zb <| sM hS rfl fun hS => sM hS rfl fun hS => ?_
      obtain ⟨UJ, hM⟩ := qt hM
      refine sO hS (Xj rfl Tryz.runUnderlying9 (XI rfl) Yy UJ) rfl fun hS => qY (v := qN) (x0 := (sub VQ VT (VQ.length : Int))) hS (zE rfl) rfl fun Ub a w hz hS => ?_
      have hM := qp hz hM; clear hz
      refine qL <| qc ?_
      exact UC _ _ ⟨Uu, Uy, Ub, hS.to [1, 0] (by kernel_rfl) ⟨rfl, rfl, rfl, rfl, rfl, trivial⟩, UX, hM⟩
     ·refine wp_exit ?_
      refine qv (qv (qO (qc ?_)))
      exact UD _ _ ⟨VR, V5, hS.to [0, 1] (by kernel_rfl) ⟨rfl, rfl, rfl, trivial⟩, Ue, hM⟩
   ·intro a w hI
    obtain ⟨VS, VX, hS, UF, hM⟩ := hI
    rw [zJ.j4] at hM
    refine qV (fun a w => ∃ (VP : List UInt8), Ss 66 [] [(7, qx V2 0), (10, qN VP)] H [VX] F a w ∧ (zJ.j5 K VS VP).wp kr kp) (fun U9 V6 => ?_) ?_
    ·refine qM (vals := [some (qx b9 0), some (.int .i64 m8.W_), some (.int .u64 (wr .u64 m8.W_)), none, some (qx b9 1), some (.int .i64 m8.H_), some (.int .u64 (wr .u64 m8.H_)), none, none, some (.int .u8 VO), none, none, none, none]) hS zV rfl ?_
     intro l w ho hcl hA hst
     refine Xt (vals := [some (qx b9 0), some (.int .i64 m8.W_), some (.int .u64 (wr .u64 m8.W_)), none, some (qx b9 1), some (.int .i64 m8.H_), some (.int .u64 (wr .u64 m8.H_)), none, none, some (.int .u8 VO), none, none, none, none]) 3 10 [] [0, 1, 2, 4, 5, 6, 9] rfl rfl rfl rfl rfl (by exact ⟨nQ rfl (by exact qJ (zz rfl Tryz.runUnderlying35 rfl Tryz.sizeOf3 rfl) rfl), nQ rfl (by exact qJ (zU 0 rfl VV rfl rfl Tryz.isAgg3) rfl), nQ rfl (by exact qJ (yT rfl Tryz.runUnderlying3 Tryz.runUnderlying50) rfl), nQ rfl (by exact qJ (zz rfl Tryz.runUnderlying35 rfl Tryz.sizeOf3 rfl) rfl), nQ rfl (by exact qJ (zU 0 rfl VV rfl rfl Tryz.isAgg3) rfl), nQ rfl (by exact qJ (yT rfl Tryz.runUnderlying3 Tryz.runUnderlying50) rfl), nM rfl, trivial⟩) (fun D l a w ho hcl hav hpre hm hE hk hA hst => ?_) (fun D l a w ho hcl hav hpre hm hE hk hA hst => ?_) ho hcl zO zW List.not_mem_nil List.not_mem_nil hA hst
     ·have hS := (Ss.mk hE hst).env2 (e' := [(45, .int .u64 (wr .u64 m8.W_))]) ⟨rfl, trivial⟩
      refine qC rfl <| qq hS rfl Tryz.call33 (yv hG K (wr .u64 m8.W_) (hS.st.part 0 [0, 1] (by kernel_rfl)) (qh hM) (fun VU w hM  hst => qn hS.ev hst.appF rfl fun hS => ?_))
      replace hS : Ss _ _ _ H [V4, VX] F _ _ := hS
      refine qm ?_
      replace hst := hS.st
      obtain ⟨hcl, hmust, hav2, hA⟩ := dn (vals' := [some (qx b9 0), some (.int .i64 m8.W_), some (.int .u64 (wr .u64 m8.W_)), some (qN VU), some (qx b9 1), some (.int .i64 m8.H_), some (.int .u64 (wr .u64 m8.H_)), none, none, some (.int .u8 VO), none, none, none, none]) 3 [(2, 3), (1, 2), (0, 1)] hA hcl hav hm hpre hk rfl rfl rfl rfl rfl rfl rfl
      clear hm hav
      refine Xt (vals := [some (qx b9 0), some (.int .i64 m8.W_), some (.int .u64 (wr .u64 m8.W_)), some (qN VU), some (qx b9 1), some (.int .i64 m8.H_), some (.int .u64 (wr .u64 m8.H_)), none, none, some (.int .u8 VO), none, none, none, none]) 7 10 [3, 2, 1, 0] [4, 5, 6, 9] rfl rfl rfl rfl rfl (by exact ⟨nQ rfl (by exact qJ (zz rfl Tryz.runUnderlying35 rfl Tryz.sizeOf3 rfl) rfl), nQ rfl (by exact qJ (zU 0 rfl VV rfl rfl Tryz.isAgg3) rfl), nQ rfl (by exact qJ (yT rfl Tryz.runUnderlying3 Tryz.runUnderlying50) rfl), nM rfl, trivial⟩) (fun D l a w ho hcl hav hpre hm hE hk hA hst => ?_) (fun D l a w ho hcl hav hpre hm hE hk hA hst => ?_) ho hcl hav2 hmust (hav2.notin rfl) (hav2.notin rfl) hA hst
      ·have hS := (Ss.mk hE hst).env2 (e' := [(49, .int .u64 (wr .u64 m8.H_))]) ⟨rfl, trivial⟩
       refine qC rfl <| qq hS rfl Tryz.call33 (yv hG K (wr .u64 m8.H_) (hS.st.part 0 [0, 1] (by kernel_rfl)) (qh hM) (fun V3 w hM  hst => qn hS.ev hst.appF rfl fun hS => ?_))
       replace hS : Ss _ _ _ H [V4, VX] F _ _ := hS
       refine qm ?_
       replace hst := hS.st
       obtain ⟨Ug, hM⟩ := qt hM
       obtain ⟨hcl, hmust, hav2, hA⟩ := dn (vals' := [some (qx b9 0), some (.int .i64 m8.W_), some (.int .u64 (wr .u64 m8.W_)), some (qN VU), some (qx b9 1), some (.int .i64 m8.H_), some (.int .u64 (wr .u64 m8.H_)), some (qN V3), some (qN (VU ++ V3)), some (.int .u8 VO), none, none, none, none]) 7 [(3, 7), (6, 7), (2, 3), (5, 6), (1, 2), (4, 5), (0, 1)] hA hcl hav hm hpre hk rfl rfl rfl rfl rfl rfl rfl
       clear hm hav
       refine x4 hA hst ho hcl hav2 hmust 10 [8, 9] rfl rfl rfl rfl rfl (by exact ⟨nQ rfl (by exact qJ (XY rfl rfl Ug) rfl), nM rfl, trivial⟩) fun D l a w ho hcl hav hpre hm hE hk hA hst => ?_
       have hS := (Ss.mk hE hst).env2 (e' := [(52, .int .u8 VO)]) ⟨rfl, trivial⟩
       refine qC rfl <| Qh (g := (ci .u8)) ([(8 : Int), VO, (0 : Int), (0 : Int), (0 : Int)] : List Int) [.int .u8 (8 : Int), .int .u8 VO, .int .u8 (0 : Int), .int .u8 (0 : Int), .int .u8 (0 : Int)] hS Tryz.runUnderlying44 Tryz.sizeOf5 X.el5 rfl rfl rfl (by simp [Value.cells]) rfl rfl rfl rfl rfl fun w UT UU Ka UG hS => qm ?_
       replace hst := hS.st
       obtain ⟨UK, hM⟩ := qt hM
       obtain ⟨VY, Uh⟩ : ∃ x, x = ((VU ++ V3) ++ (([(8 : Int), VO, (0 : Int), (0 : Int), (0 : Int)] : List Int).map jo)) := ⟨_, rfl⟩
       replace hM := qp Uh hM
       obtain ⟨hcl, hmust, hav2, hA⟩ := dn (vals' := [some (qx b9 0), some (.int .i64 m8.W_), some (.int .u64 (wr .u64 m8.W_)), some (qN VU), some (qx b9 1), some (.int .i64 m8.H_), some (.int .u64 (wr .u64 m8.H_)), some (qN V3), some (qN (VU ++ V3)), some (.int .u8 VO), some (.slice UT ([(8 : Int), VO, (0 : Int), (0 : Int), (0 : Int)] : List Int).length UU), some (qN (([(8 : Int), VO, (0 : Int), (0 : Int), (0 : Int)] : List Int).map jo)), some (qN ((VU ++ V3) ++ (([(8 : Int), VO, (0 : Int), (0 : Int), (0 : Int)] : List Int).map jo))), some (qN VY)]) 10 [(9, 10)] hA hcl hav hm hpre hk rfl rfl rfl rfl rfl rfl rfl
       clear hm hav
       refine xq hA hst ho hcl hmust [8, 11, 12, 13] rfl rfl rfl (by exact ⟨nQ rfl (by exact qJ (XY rfl rfl Ug) rfl), nQ rfl (by exact qJ (XZ rfl Tryz.runUnderlying44 Tryz.runUnderlying5 Tryz.runUnderlying9 (UG.rd (i := 0) rfl)) rfl), nQ rfl (by exact qJ (XY rfl rfl UK) rfl), nQ rfl (by exact qJ (zE rfl) (congrArg (qN) Uh.symm)), trivial⟩) fun a w hS => ?_
       replace hS := hS.env2 (e' := [(7, qx V2 0), (10, qN VY)]) ⟨rfl, rfl, trivial⟩
       refine qc ?_
       exact V6 _ _ ⟨VY, hS.to [2] (by kernel_rfl) ⟨rfl, rfl, trivial⟩, hM⟩
      ·have hS := (Ss.mk hE hst).env2 (e' := [(52, .int .u8 VO)]) ⟨rfl, trivial⟩
       refine qC rfl <| Qh (g := (ci .u8)) ([(8 : Int), VO, (0 : Int), (0 : Int), (0 : Int)] : List Int) [.int .u8 (8 : Int), .int .u8 VO, .int .u8 (0 : Int), .int .u8 (0 : Int), .int .u8 (0 : Int)] hS Tryz.runUnderlying44 Tryz.sizeOf5 X.el5 rfl rfl rfl (by simp [Value.cells]) rfl rfl rfl rfl rfl fun w Ur Uv UV Uf hS => qm ?_
       replace hst := hS.st
       obtain ⟨hcl, hmust, hav2, hA⟩ := dn (vals' := [some (qx b9 0), some (.int .i64 m8.W_), some (.int .u64 (wr .u64 m8.W_)), some (qN VU), some (qx b9 1), some (.int .i64 m8.H_), some (.int .u64 (wr .u64 m8.H_)), none, none, some (.int .u8 VO), some (.slice Ur ([(8 : Int), VO, (0 : Int), (0 : Int), (0 : Int)] : List Int).length Uv), some (qN (([(8 : Int), VO, (0 : Int), (0 : Int), (0 : Int)] : List Int).map jo)), none, none]) 10 [(9, 10)] hA hcl hav hm hpre hk rfl rfl rfl rfl rfl rfl rfl
       clear hm hav
       refine x4 hA hst ho hcl hav2 hmust 7 [4, 5, 6, 11] rfl rfl rfl rfl rfl (by exact ⟨nQ rfl (by exact qJ (zz rfl Tryz.runUnderlying35 rfl Tryz.sizeOf3 rfl) rfl), nQ rfl (by exact qJ (zU 1 rfl VV rfl rfl Tryz.isAgg3) rfl), nQ rfl (by exact qJ (yT rfl Tryz.runUnderlying3 Tryz.runUnderlying50) rfl), nQ rfl (by exact qJ (XZ rfl Tryz.runUnderlying44 Tryz.runUnderlying5 Tryz.runUnderlying9 (Uf.rd (i := 0) rfl)) rfl), trivial⟩) fun D l a w ho hcl hav hpre hm hE hk hA hst => ?_
       have hS := (Ss.mk hE hst).env2 (e' := [(49, .int .u64 (wr .u64 m8.H_))]) ⟨rfl, trivial⟩
       refine qC rfl <| qq hS rfl Tryz.call33 (yv hG K (wr .u64 m8.H_) (hS.st.part 0 [0, 1, 2] (by kernel_rfl)) (qh hM) (fun Uc w hM  hst => qn hS.ev hst.appF rfl fun hS => ?_))
       replace hS : Ss _ _ _ H [UV, V4, VX] F _ _ := hS
       refine qm ?_
       replace hst := hS.st
       obtain ⟨UL, hM⟩ := qt hM
       obtain ⟨UM, hM⟩ := qt hM
       obtain ⟨VZ, Ui⟩ : ∃ x, x = ((VU ++ Uc) ++ (([(8 : Int), VO, (0 : Int), (0 : Int), (0 : Int)] : List Int).map jo)) := ⟨_, rfl⟩
       replace hM := qp Ui hM
       obtain ⟨hcl, hmust, hav2, hA⟩ := dn (vals' := [some (qx b9 0), some (.int .i64 m8.W_), some (.int .u64 (wr .u64 m8.W_)), some (qN VU), some (qx b9 1), some (.int .i64 m8.H_), some (.int .u64 (wr .u64 m8.H_)), some (qN Uc), some (qN (VU ++ Uc)), some (.int .u8 VO), some (.slice Ur ([(8 : Int), VO, (0 : Int), (0 : Int), (0 : Int)] : List Int).length Uv), some (qN (([(8 : Int), VO, (0 : Int), (0 : Int), (0 : Int)] : List Int).map jo)), some (qN ((VU ++ Uc) ++ (([(8 : Int), VO, (0 : Int), (0 : Int), (0 : Int)] : List Int).map jo))), some (qN VZ)]) 7 [(3, 7), (6, 7), (2, 3), (5, 6), (1, 2), (4, 5), (0, 1)] hA hcl hav hm hpre hk rfl rfl rfl rfl rfl rfl rfl
       clear hm hav
       refine xq hA hst ho hcl hmust [8, 11, 12, 13] rfl rfl rfl (by exact ⟨nQ rfl (by exact qJ (XY rfl rfl UL) rfl), nQ rfl (by exact qJ (XZ rfl Tryz.runUnderlying44 Tryz.runUnderlying5 Tryz.runUnderlying9 (Uf.rd (i := 0) rfl)) rfl), nQ rfl (by exact qJ (XY rfl rfl UM) rfl), nQ rfl (by exact qJ (zE rfl) (congrArg (qN) Ui.symm)), trivial⟩) fun a w hS => ?_
       replace hS := hS.env2 (e' := [(7, qx V2 0), (10, qN VZ)]) ⟨rfl, rfl, trivial⟩
       refine qc ?_
       exact V6 _ _ ⟨VZ, hS.to [2] (by kernel_rfl) ⟨rfl, rfl, trivial⟩, hM⟩
     ·have hS := (Ss.mk hE hst).env2 (e' := [(52, .int .u8 VO)]) ⟨rfl, trivial⟩
      refine qC rfl <| Qh (g := (ci .u8)) ([(8 : Int), VO, (0 : Int), (0 : Int), (0 : Int)] : List Int) [.int .u8 (8 : Int), .int .u8 VO, .int .u8 (0 : Int), .int .u8 (0 : Int), .int .u8 (0 : Int)] hS Tryz.runUnderlying44 Tryz.sizeOf5 X.el5 rfl rfl rfl (by simp [Value.cells]) rfl rfl rfl rfl rfl fun w Um Un Uz V7 hS => qm ?_
      replace hst := hS.st
      obtain ⟨hcl, hmust, hav2, hA⟩ := dn (vals' := [some (qx b9 0), some (.int .i64 m8.W_), some (.int .u64 (wr .u64 m8.W_)), none, some (qx b9 1), some (.int .i64 m8.H_), some (.int .u64 (wr .u64 m8.H_)), none, none, some (.int .u8 VO), some (.slice Um ([(8 : Int), VO, (0 : Int), (0 : Int), (0 : Int)] : List Int).length Un), some (qN (([(8 : Int), VO, (0 : Int), (0 : Int), (0 : Int)] : List Int).map jo)), none, none]) 10 [(9, 10)] hA hcl hav hm hpre hk rfl rfl rfl rfl rfl rfl rfl
      clear hm hav
      refine x4 hA hst ho hcl hav2 hmust 3 [0, 1, 2, 4, 5, 6, 11] rfl rfl rfl rfl rfl (by exact ⟨nQ rfl (by exact qJ (zz rfl Tryz.runUnderlying35 rfl Tryz.sizeOf3 rfl) rfl), nQ rfl (by exact qJ (zU 1 rfl VV rfl rfl Tryz.isAgg3) rfl), nQ rfl (by exact qJ (yT rfl Tryz.runUnderlying3 Tryz.runUnderlying50) rfl), nQ rfl (by exact qJ (zz rfl Tryz.runUnderlying35 rfl Tryz.sizeOf3 rfl) rfl), nQ rfl (by exact qJ (zU 1 rfl VV rfl rfl Tryz.isAgg3) rfl), nQ rfl (by exact qJ (yT rfl Tryz.runUnderlying3 Tryz.runUnderlying50) rfl), nQ rfl (by exact qJ (XZ rfl Tryz.runUnderlying44 Tryz.runUnderlying5 Tryz.runUnderlying9 (V7.rd (i := 0) rfl)) rfl), trivial⟩) fun D l a w ho hcl hav hpre hm hE hk hA hst => ?_
      have hS := (Ss.mk hE hst).env2 (e' := [(45, .int .u64 (wr .u64 m8.W_))]) ⟨rfl, trivial⟩
      refine qC rfl <| qq hS rfl Tryz.call33 (yv hG K (wr .u64 m8.W_) (hS.st.part 0 [0, 1, 2] (by kernel_rfl)) (qh hM) (fun V9 w hM  hst => qn hS.ev hst.appF rfl fun hS => ?_))
      replace hS : Ss _ _ _ H [Uz, V4, VX] F _ _ := hS
      refine qm ?_
      replace hst := hS.st
      obtain ⟨hcl, hmust, hav2, hA⟩ := dn (vals' := [some (qx b9 0), some (.int .i64 m8.W_), some (.int .u64 (wr .u64 m8.W_)), some (qN V9), some (qx b9 1), some (.int .i64 m8.H_), some (.int .u64 (wr .u64 m8.H_)), none, none, some (.int .u8 VO), some (.slice Um ([(8 : Int), VO, (0 : Int), (0 : Int), (0 : Int)] : List Int).length Un), some (qN (([(8 : Int), VO, (0 : Int), (0 : Int), (0 : Int)] : List Int).map jo)), none, none]) 3 [(2, 3), (1, 2), (0, 1)] hA hcl hav hm hpre hk rfl rfl rfl rfl rfl rfl rfl
      clear hm hav
      refine x4 hA hst ho hcl hav2 hmust 7 [4, 5, 6, 11] rfl rfl rfl rfl rfl (by exact ⟨nQ rfl (by exact qJ (zz rfl Tryz.runUnderlying35 rfl Tryz.sizeOf3 rfl) rfl), nQ rfl (by exact qJ (zU 1 rfl VV rfl rfl Tryz.isAgg3) rfl), nQ rfl (by exact qJ (yT rfl Tryz.runUnderlying3 Tryz.runUnderlying50) rfl), nQ rfl (by exact qJ (XZ rfl Tryz.runUnderlying44 Tryz.runUnderlying5 Tryz.runUnderlying9 (V7.rd (i := 0) rfl)) rfl), trivial⟩) fun D l a w ho hcl hav hpre hm hE hk hA hst => ?_
      have hS := (Ss.mk hE hst).env2 (e' := [(49, .int .u64 (wr .u64 m8.H_))]) ⟨rfl, trivial⟩
      refine qC rfl <| qq hS rfl Tryz.call33 (yv hG K (wr .u64 m8.H_) (hS.st.part 0 [0, 1, 2] (by kernel_rfl)) (qh hM) (fun Ud w hM  hst => qn hS.ev hst.appF rfl fun hS => ?_))
      replace hS : Ss _ _ _ H [Uz, V4, VX] F _ _ := hS
      refine qm ?_
      replace hst := hS.st
      obtain ⟨UN, hM⟩ := qt hM
      obtain ⟨UO, hM⟩ := qt hM
      obtain ⟨V0, Uj⟩ : ∃ x, x = ((V9 ++ Ud) ++ (([(8 : Int), VO, (0 : Int), (0 : Int), (0 : Int)] : List Int).map jo)) := ⟨_, rfl⟩
      replace hM := qp Uj hM
      obtain ⟨hcl, hmust, hav2, hA⟩ := dn (vals' := [some (qx b9 0), some (.int .i64 m8.W_), some (.int .u64 (wr .u64 m8.W_)), some (qN V9), some (qx b9 1), some (.int .i64 m8.H_), some (.int .u64 (wr .u64 m8.H_)), some (qN Ud), some (qN (V9 ++ Ud)), some (.int .u8 VO), some (.slice Um ([(8 : Int), VO, (0 : Int), (0 : Int), (0 : Int)] : List Int).length Un), some (qN (([(8 : Int), VO, (0 : Int), (0 : Int), (0 : Int)] : List Int).map jo)), some (qN ((V9 ++ Ud) ++ (([(8 : Int), VO, (0 : Int), (0 : Int), (0 : Int)] : List Int).map jo))), some (qN V0)]) 7 [(3, 7), (6, 7), (2, 3), (5, 6), (1, 2), (4, 5), (0, 1)] hA hcl hav hm hpre hk rfl rfl rfl rfl rfl rfl rfl
      clear hm hav
      refine xq hA hst ho hcl hmust [8, 11, 12, 13] rfl rfl rfl (by exact ⟨nQ rfl (by exact qJ (XY rfl rfl UN) rfl), nQ rfl (by exact qJ (XZ rfl Tryz.runUnderlying44 Tryz.runUnderlying5 Tryz.runUnderlying9 (V7.rd (i := 0) rfl)) rfl), nQ rfl (by exact qJ (XY rfl rfl UO) rfl), nQ rfl (by exact qJ (zE rfl) (congrArg (qN) Uj.symm)), trivial⟩) fun a w hS => ?_
      replace hS := hS.env2 (e' := [(7, qx V2 0), (10, qN V0)]) ⟨rfl, rfl, trivial⟩
      refine qc ?_
      exact V6 _ _ ⟨V0, hS.to [2] (by kernel_rfl) ⟨rfl, rfl, trivial⟩, hM⟩
    ·intro a w hI
     obtain ⟨VP, hS, hM⟩ := hI
     rw [zJ.j5] at hM
     refine qe <| sM hS rfl fun hS => sO hS (vI ([qN ([73, 72, 68, 82] : List UInt8), qN VP]) [(0, 1), (1, 1)] Tryz.zeroValue30 Tryz.runUnderlying30 (by intro w; simp [Tryz.sizeOf9]) rfl rfl) rfl fun hS => qq hS rfl Tryz.call35 (yh hG K VS V2 VX UF (hS.st.part 1 [0] (by kernel_rfl)) (qh hM) (fun U4 Uo w hM Kb hst => qn hS.ev hst.appF rfl fun hS => ?_))
     replace hS : Ss _ _ _ H [Uo] F _ _ := hS
     refine qq hS rfl Tryz.call20 (Xy hG K U4 (hS.st.part 0 [0] (by kernel_rfl)) (qh hM) (fun V1 w hM  hst => qn hS.ev hst.appF rfl fun hS => ?_) (fun v w hk hst => zY (qB (⟨hS.ev.defs, hpan _ _ hk hst.appF.frame⟩))))
     replace hS : Ss _ _ _ H [Uo] F _ _ := hS
     refine sO hS (vI ([qN ([73, 68, 65, 84] : List UInt8), qN V1]) [(0, 1), (1, 1)] Tryz.zeroValue30 Tryz.runUnderlying30 (by intro w; simp [Tryz.sizeOf9]) rfl rfl) rfl fun hS => sO hS (vI ([qN ([73, 69, 78, 68] : List UInt8), qN ([] : List UInt8)]) [(0, 1), (1, 1)] Tryz.zeroValue30 Tryz.runUnderlying30 (by intro w; simp [Tryz.sizeOf9]) rfl rfl) rfl fun hS => Qh (g := qd.cells) ([(qd.mk ([73, 72, 68, 82] : List UInt8) VP), (qd.mk ([73, 68, 65, 84] : List UInt8) V1), (qd.mk ([73, 69, 78, 68] : List UInt8) ([] : List UInt8))] : List qd) [.agg ⟨[qN ([73, 72, 68, 82] : List UInt8), qN VP]⟩, .agg ⟨[qN ([73, 68, 65, 84] : List UInt8), qN V1]⟩, .agg ⟨[qN ([73, 69, 78, 68] : List UInt8), qN ([] : List UInt8)]⟩] hS Tryz.runUnderlying23 Tryz.sizeOf30 X.el30 rfl rfl rfl (by simp [Value.cells]) rfl rfl rfl rfl rfl fun w Us Uw UA V8 hS => qq hS rfl Tryz.call13 (QF hG K ([(qd.mk ([73, 72, 68, 82] : List UInt8) VP), (qd.mk ([73, 68, 65, 84] : List UInt8) V1), (qd.mk ([73, 69, 78, 68] : List UInt8) ([] : List UInt8))] : List qd) Us Uw (V8.rdF (i := 0) rfl) (V8.cap (fun _ => rfl) rfl) (hS.st.part 0 [0, 1] (by kernel_rfl)) (qh hM) (fun UR US w hM  hst => qn hS.ev hst.appF rfl fun hS => ?_))
     replace hS : Ss _ _ _ H [UA, Uo] F _ _ := hS
     refine sO hS (ex rfl rfl) rfl fun hS => sO hS (ex rfl rfl) rfl fun hS => sA hS rfl fun hS => sA hS rfl fun hS => qm <| wp_ret ?_
     exact qP (rs := [2, 3]) hS rfl rfl (hret UR US _ (qG hM) (hS.st.pick [] (by kernel_rfl)))
theorem y9 {H : z7} {F : List qj} {w : World} {R : Ending → World → Prop} {kr : Bool → Prop} {kp : Value → Prop} (hG : Gl H) (K : Nat) (VP : List UInt8) (VO : List UInt8)
    (hS : St w H [] F) (hm : (xn.m K VP VO).wp kr kp)
    (hret : ∀ (VQ : Bool) (w : World), kr VQ → St w H [] F → R (.returned (.bool VQ)) w) :
    Calls Tryz.prog 51 ⟨[qN VP, qN VO]⟩ w R := by
 refine enter Tryz.func51 rfl Tryz.ntmps51 rfl hS fun a w hS => ?_
 have hM := hm; clear hm
 rw [xn.m] at hM
 refine qe <| sA hS rfl fun hS => qm <| qe <| sM hS rfl fun hS => sO hS (ye rfl Tryz.runUnderlying9) rfl fun hS => sM hS rfl fun hS => sO hS (ye rfl Tryz.runUnderlying9) rfl fun hS => sB hS rfl fun hS => sM hS rfl fun hS => ?_
 obtain ⟨VS, hM⟩ := qt hM
 refine xm 6 true 10 (b := (decide ((VP.length : Int) ≥ (VO.length : Int)))) (r := ((sub VP (0 : Int) (VO.length : Int)) == VO)) hS rfl rfl rfl rfl rfl rfl rfl (fun hb a w hS K hK => ?_) rfl fun a w hS => ?_
 ·refine qI hS rfl rfl rfl hb (mv rfl) rfl fun a w hS => ?_
  refine qI hS rfl rfl rfl hb (mv rfl) rfl fun a w hS => qI hS rfl rfl rfl hb (ye rfl Tryz.runUnderlying9) rfl fun a w hS => ?_
  have VR := Zt VS hb
  refine qI hS rfl rfl rfl hb (Xj rfl Tryz.runUnderlying9 YF (Xn rfl) VR) rfl fun a w hS => qI hS rfl rfl rfl hb (mv rfl) rfl fun a w hS => qI hS rfl rfl rfl hb (ua rfl rfl rfl) rfl fun a w hS => ?_
  exact qL (hK _ _ (hS.up 6 rfl rfl))
 refine qY (v := Value.bool) (x0 := ((decide ((VP.length : Int) ≥ (VO.length : Int))) && ((sub VP (0 : Int) (VO.length : Int)) == VO))) hS (zE rfl) rfl fun VT a w hz hS => ?_
 have hM := qp hz hM; clear hz
 refine qm <| wp_ret ?_
 exact qP (rs := [4]) hS rfl rfl (hret VT _ (qG hM) (hS.st.pick [] (by kernel_rfl)))
theorem uj {H : z7} {F : List qj} {w : World} {R : Ending → World → Prop} {kr : Bool → Prop} {kp : Value → Prop} (hG : Gl H) (K : Nat) (VP : List UInt8) (VO : List UInt8)
    (hS : St w H [] F) (hm : (yF.m K VP VO).wp kr kp)
    (hret : ∀ (VQ : Bool) (w : World), kr VQ → St w H [] F → R (.returned (.bool VQ)) w) :
    Calls Tryz.prog 22 ⟨[qN VP, qN VO]⟩ w R := by
 refine enter Tryz.func22 rfl Tryz.ntmps22 rfl hS fun a w hS => ?_
 have hM := hm; clear hm
 rw [yF.m] at hM
 refine qe <| sA hS rfl fun hS => qm <| qe <| sM hS rfl fun hS => sM hS rfl fun hS => qq hS rfl Tryz.call51 (y9 hG K VP VO (hS.st.part 0 [] (by kernel_rfl)) (qh hM) (fun VR w hM  hst => qn hS.ev hst.appF rfl fun hS => ?_))
 replace hS : Ss _ _ _ H [] F _ _ := hS
 refine sA hS rfl fun hS => qm <| wp_ret ?_
 exact qP (rs := [4]) hS rfl rfl (hret VR _ (qG hM) (hS.st.pick [] (by kernel_rfl)))
theorem uR {H : z7} {F : List qj} {w : World} {R : Ending → World → Prop} {kr : Unit → Prop} {kp : Value → Prop} (hG : Gl H) (K : Nat) (VO : List UInt8)
    (hS : St w H [] F) (hm : (uv.m K VO).wp kr kp)
    (hret : ∀ (w : World), kr () → St w H [] F → R (.returned (.agg ⟨[qN VO, .int .i64 (0 : Int)]⟩)) w) :
    Calls Tryz.prog 23 ⟨[qN VO]⟩ w R := by
 refine enter Tryz.func23 rfl Tryz.ntmps23 rfl hS fun a w hS => ?_
 have hM := hm; clear hm
 rw [uv.m] at hM
 refine qe <| jz ([qN ([] : List UInt8), .int .i64 (0 : Int)]) hS Tryz.zeroValue48 rfl rfl fun w VR VS VP hS => qm <| qe <| sM hS rfl fun hS => sO hS (vI ([qN VO, .int .i64 (0 : Int)]) [(0, 1), (1, 1)] Tryz.zeroValue48 Tryz.runUnderlying48 (by intro w; simp [Tryz.sizeOf3, Tryz.sizeOf9]) rfl rfl) rfl fun hS => jn 0 ([qN VO, .int .i64 (0 : Int)]) ([qN VO, .int .i64 (0 : Int)]) hS rfl rfl VP rfl rfl Tryz.sizeOf48 (by simp [Value.oneCell']) (Nat.le_of_ble_eq_true rfl) rfl fun w VT VQ hS => qm <| wp_ret ?_
 exact xI (vs := [.agg ⟨[qN VO, .int .i64 (0 : Int)]⟩]) hS rfl (by exact ⟨Qq 0 ([qN VO, .int .i64 (0 : Int)]) rfl VQ rfl rfl rfl Tryz.isAgg48 Tryz.sizeOf48, trivial⟩) (hret _ (qG hM) (hS.st.pick [] (by kernel_rfl)))
theorem jp {H : z7} {F : List qj} {w : World} {R : Ending → World → Prop} {kr : ((List UInt8) × Int × Int) → Prop} {kp : Value → Prop} (hG : Gl H) (K : Nat) (VP : ze) (VO : Int) (VQ : Int)
    (hS : St w H [] F) (hm : (x2.m K VP VO VQ).wp kr kp)
    (hret : ∀ (VT : List UInt8) (VS : Int) (VX : Int) (w : World), kr (VT, VS, VX) → St w H [] F → R (.returned (.tuple ⟨[.agg ⟨[qN VT, .int .i64 VS]⟩, .int .i64 VX]⟩)) w) :
    Calls Tryz.prog 25 ⟨[.agg ⟨[qN VP.text_, .int .i64 VP.base_]⟩, .int .i64 VO, .int .i64 VQ]⟩ w R := by
 refine enter Tryz.func25 rfl Tryz.ntmps25 rfl hS fun a w hS => ?_
 have hM := hm; clear hm
 rw [x2.m] at hM
 refine qe <| bx ([qN VP.text_, .int .i64 VP.base_]) hS rfl rfl rfl fun w VV V4 VR hS => jz ([qN ([] : List UInt8), .int .i64 (0 : Int)]) hS Tryz.zeroValue48 rfl rfl fun w VW V5 VU hS => sA hS rfl fun hS => qm <| wp_seq <| qe <| sM hS rfl fun hS => sB hS rfl fun hS => sM hS rfl fun hS => xm 2 false 10 (b := (decide (VO < (0 : Int)))) (r := (decide (VQ < (0 : Int)))) hS rfl rfl rfl rfl rfl rfl rfl (fun hb a w hS K hK => ?_) rfl fun a w hS => ?_
 ·refine qI hS rfl rfl rfl hb (mv rfl) rfl fun a w hS => ?_
  refine qI hS rfl rfl rfl hb (xN rfl rfl rfl) rfl fun a w hS => ?_
  exact qL (hK _ _ (hS.up 2 rfl rfl))
 refine qm <| qo hS rfl hM (fun V1 hM => ?_) (fun V1 hM => ?_)
 ·refine wp_seq ?_
  refine zb <| sO hS (vI ([qN ([] : List UInt8), .int .i64 (0 : Int)]) [(0, 1), (1, 1)] Tryz.zeroValue48 Tryz.runUnderlying48 (by intro w; simp [Tryz.sizeOf3, Tryz.sizeOf9]) rfl rfl) rfl fun hS => jn 0 ([qN ([] : List UInt8), .int .i64 (0 : Int)]) ([qN ([] : List UInt8), .int .i64 (0 : Int)]) hS rfl rfl VU rfl rfl Tryz.sizeOf48 (by simp [Value.oneCell']) (Nat.le_of_ble_eq_true rfl) rfl fun w V6 VY hS => sA hS rfl fun hS => qm <| wp_ret <| qu ?_
  exact xI (vs := [.agg ⟨[qN ([] : List UInt8), .int .i64 (0 : Int)]⟩, .int .i64 (1 : Int)]) hS rfl (by exact ⟨Qq 0 ([qN ([] : List UInt8), .int .i64 (0 : Int)]) rfl VY rfl rfl rfl Tryz.isAgg48 Tryz.sizeOf48, Xc rfl, trivial⟩) (hret ([] : List UInt8) (0 : Int) (1 : Int) _ (qG hM) (hS.st.pick [] (by kernel_rfl)))
 ·refine wp_skip ?_
  refine qc <| wp_seq <| qe <| sM hS rfl fun hS => sO hS (zz rfl Tryz.runUnderlying48 rfl Tryz.sizeOf9 rfl) rfl fun hS => sO hS (zU 1 rfl VR rfl rfl Tryz.isAgg9) rfl fun hS => sO hS (ye rfl Tryz.runUnderlying9) rfl fun hS => sB hS rfl fun hS => sM hS rfl fun hS => xm 7 false 20 (b := (decide (VO > (VP.text_.length : Int)))) (r := (decide (VQ > (qi ((VP.text_.length : Int) - VO))))) hS rfl rfl rfl rfl rfl rfl rfl (fun hb a w hS K hK => ?_) rfl fun a w hS => ?_
  ·refine qI hS rfl rfl rfl hb (mv rfl) rfl fun a w hS => ?_
   refine qI hS rfl rfl rfl hb (zz rfl Tryz.runUnderlying48 rfl Tryz.sizeOf9 rfl) rfl fun a w hS => qI hS rfl rfl rfl hb (zU 1 rfl VR rfl rfl Tryz.isAgg9) rfl fun a w hS => qI hS rfl rfl rfl hb (ye rfl Tryz.runUnderlying9) rfl fun a w hS => qI hS rfl rfl rfl hb (mv rfl) rfl fun a w hS => qI hS rfl rfl rfl hb (xN rfl rfl rfl) rfl fun a w hS => qI hS rfl rfl rfl hb (xN rfl rfl rfl) rfl fun a w hS => ?_
   exact qL (hK _ _ (hS.up 7 rfl rfl))
  refine qm <| qo hS rfl hM (fun V2 hM => ?_) (fun V2 hM => ?_)
  ·refine wp_seq ?_
   refine zb <| sO hS (vI ([qN ([] : List UInt8), .int .i64 (0 : Int)]) [(0, 1), (1, 1)] Tryz.zeroValue48 Tryz.runUnderlying48 (by intro w; simp [Tryz.sizeOf3, Tryz.sizeOf9]) rfl rfl) rfl fun hS => jn 0 ([qN ([] : List UInt8), .int .i64 (0 : Int)]) ([qN ([] : List UInt8), .int .i64 (0 : Int)]) hS rfl rfl VU rfl rfl Tryz.sizeOf48 (by simp [Value.oneCell']) (Nat.le_of_ble_eq_true rfl) rfl fun w V7 VZ hS => sA hS rfl fun hS => qm <| wp_ret <| qu ?_
   exact xI (vs := [.agg ⟨[qN ([] : List UInt8), .int .i64 (0 : Int)]⟩, .int .i64 (2 : Int)]) hS rfl (by exact ⟨Qq 0 ([qN ([] : List UInt8), .int .i64 (0 : Int)]) rfl VZ rfl rfl rfl Tryz.isAgg48 Tryz.sizeOf48, Xc rfl, trivial⟩) (hret ([] : List UInt8) (0 : Int) (2 : Int) _ (qG hM) (hS.st.pick [] (by kernel_rfl)))
  ·refine wp_skip ?_
   refine qc <| wp_seq ?_
   obtain ⟨V3, hM⟩ := qt hM
   refine qM (vals := [some (qx VV 0), some (qN VP.text_), some (.int .i64 VO), some (.int .i64 VO), some (.int .i64 VQ), some (.int .i64 (qi (VO + VQ))), some (qN (sub VP.text_ VO (qi (VO + VQ)))), some (qx VV 1), some (.int .i64 VP.base_), some (.int .i64 VO), some (.int .i64 (qi (VP.base_ + VO))), some (.agg ⟨[qN (sub VP.text_ VO (qi (VO + VQ))), .int .i64 (qi (VP.base_ + VO))]⟩), none, none]) hS zV rfl ?_
   intro l w ho hcl hA hst
   refine x4 hA hst ho hcl zO zW 12 [0, 1, 2, 3, 4, 5, 6, 7, 8, 9, 10, 11] rfl rfl rfl rfl rfl (by exact ⟨nQ rfl (by exact qJ (zz rfl Tryz.runUnderlying48 rfl Tryz.sizeOf9 rfl) rfl), nQ rfl (by exact qJ (zU 1 rfl VR rfl rfl Tryz.isAgg9) rfl), nM rfl, nM rfl, nM rfl, nB rfl, nQ rfl (by exact qJ (Xj rfl Tryz.runUnderlying9 (XI rfl) (Xn rfl) V3) rfl), nQ rfl (by exact qJ (zz rfl Tryz.runUnderlying48 rfl Tryz.sizeOf3 rfl) rfl), nQ rfl (by exact qJ (zU 1 rfl VR rfl rfl Tryz.isAgg3) rfl), nM rfl, nB rfl, nQ rfl (by exact qJ (vI ([qN (sub VP.text_ VO (qi (VO + VQ))), .int .i64 (qi (VP.base_ + VO))]) [(0, 1), (1, 1)] Tryz.zeroValue48 Tryz.runUnderlying48 (by intro w; simp [Tryz.sizeOf3, Tryz.sizeOf9]) rfl rfl) rfl), trivial⟩) fun D l a w ho hcl hav hpre hm hE hk hA hst => ?_
   have hS := (Ss.mk hE hst).env2 (e' := [(6, qx VW 0), (41, .agg ⟨[qN (sub VP.text_ VO (qi (VO + VQ))), .int .i64 (qi (VP.base_ + VO))]⟩)]) ⟨rfl, rfl, trivial⟩
   refine qC rfl <| jn 0 ([qN (sub VP.text_ VO (qi (VO + VQ))), .int .i64 (qi (VP.base_ + VO))]) ([qN (sub VP.text_ VO (qi (VO + VQ))), .int .i64 (qi (VP.base_ + VO))]) hS rfl rfl VU rfl rfl Tryz.sizeOf48 (by simp [Value.oneCell']) (Nat.le_of_ble_eq_true rfl) rfl fun w V8 V0 hS => qm ?_
   replace hst := hS.st
   obtain ⟨hcl, hmust, hav2, hA⟩ := Qt (vals' := [some (qx VV 0), some (qN VP.text_), some (.int .i64 VO), some (.int .i64 VO), some (.int .i64 VQ), some (.int .i64 (qi (VO + VQ))), some (qN (sub VP.text_ VO (qi (VO + VQ)))), some (qx VV 1), some (.int .i64 VP.base_), some (.int .i64 VO), some (.int .i64 (qi (VP.base_ + VO))), some (.agg ⟨[qN (sub VP.text_ VO (qi (VO + VQ))), .int .i64 (qi (VP.base_ + VO))]⟩), some undef, some (.int .i64 (0 : Int))]) 12 [(0, 12), (1, 12), (2, 12), (3, 12), (4, 12), (5, 12), (6, 12), (7, 12), (8, 12), (9, 12), (10, 12), (11, 12)] hA hcl hav hm hpre rfl rfl rfl rfl rfl
   clear hm hav
   refine xq hA hst ho hcl hmust [13] rfl rfl rfl (by exact ⟨nA rfl, trivial⟩) fun a w hS => ?_
   replace hS := hS.env2 (e' := [(6, qx VW 0), (7, .int .i64 (0 : Int))]) ⟨rfl, rfl, trivial⟩
   refine qc <| wp_ret ?_
   exact xI (vs := [.agg ⟨[qN (sub VP.text_ VO (qi (VO + VQ))), .int .i64 (qi (VP.base_ + VO))]⟩, .int .i64 (0 : Int)]) hS rfl (by exact ⟨Qq 0 ([qN (sub VP.text_ VO (qi (VO + VQ))), .int .i64 (qi (VP.base_ + VO))]) rfl V0 rfl rfl rfl Tryz.isAgg48 Tryz.sizeOf48, Xc rfl, trivial⟩) (hret (sub VP.text_ VO (qi (VO + VQ))) (qi (VP.base_ + VO)) (0 : Int) _ (qG hM) (hS.st.pick [] (by kernel_rfl)))
theorem xo {H : z7} {F : List qj} {w : World} {R : Ending → World → Prop} {kr : (Int × Int) → Prop} {kp : Value → Prop} (hG : Gl H) (K : Nat) (VS : ze) (VV : Int) (VO : Int)
    (hS : St w H [] F) (hm : (zi.m K VS VV VO).wp kr kp)
    (hret : ∀ (V5 : Int) (V6 : Int) (w : World), kr (V5, V6) → St w H [] F → R (.returned (.tuple ⟨[.int .u64 V5, .int .i64 V6]⟩)) w) :
    Calls Tryz.prog 24 ⟨[.agg ⟨[qN VS.text_, .int .i64 VS.base_]⟩, .int .i64 VV, .int .i64 VO, .bool true]⟩ w R := by
 refine enter Tryz.func24 rfl Tryz.ntmps24 rfl hS fun a w hS => ?_
 have hM := hm; clear hm
 rw [zi.m] at hM
 refine qe <| bx ([qN VS.text_, .int .i64 VS.base_]) hS rfl rfl rfl fun w Ui V0 V7 hS => sA hS rfl fun hS => sA hS rfl fun hS => qm <| wp_seq <| qe <| sM hS rfl fun hS => qq hS rfl Tryz.call52 (um hG K VO (hS.st.part 0 [0] (by kernel_rfl)) (qh hM) (fun Uk w hM  hst => qn hS.ev hst.appF rfl fun hS => ?_))
 replace hS : Ss _ _ _ H [V0] F _ _ := hS
 refine sO hS (un rfl rfl) rfl fun hS => qm <| qo hS rfl hM (fun Ua hM => ?_) (fun Ua hM => ?_)
 ·refine wp_seq ?_
  refine zb <| sA hS rfl fun hS => sA hS rfl fun hS => qm <| wp_ret <| qu ?_
  exact qP (rs := [8, 9]) hS rfl rfl (hret (0 : Int) (1 : Int) _ (qG hM) (hS.st.pick [] (by kernel_rfl)))
 ·refine wp_skip ?_
  refine qc <| qe <| sO hS (yz 0 rfl V7 rfl ([qN VS.text_, .int .i64 VS.base_]) rfl rfl Tryz.isAgg48 Tryz.sizeOf48) rfl fun hS => sO hS (JL rfl rfl) rfl fun hS => sA hS rfl fun hS => qm <| qe <| sM hS rfl fun hS => sM hS rfl fun hS => sM hS rfl fun hS => yY hS rfl rfl Tryz.call25 (jp hG K VS VV VO (hS.st.part 0 [0] (by kernel_rfl)) (qh hM) (fun VP VW Ug w hM  hst => qn hS.ev hst.appF rfl fun hS => ?_))
  replace hS : Ss _ _ _ H [V0] F _ _ := hS
  refine sM hS rfl fun hS => sO hS (ex rfl rfl) rfl fun hS => sO hS (ex rfl rfl) rfl fun hS => jz ([qN ([] : List UInt8), .int .i64 (0 : Int)]) hS Tryz.zeroValue48 rfl rfl fun w VY Uj V8 hS => jn 0 ([qN VP, .int .i64 VW]) ([qN VP, .int .i64 VW]) hS rfl rfl V8 rfl rfl Tryz.sizeOf48 (by simp [Value.oneCell']) (Nat.le_of_ble_eq_true rfl) rfl fun w V1 V2 hS => sA hS rfl fun hS => qm <| wp_seq <| qe <| sM hS rfl fun hS => sB hS rfl fun hS => qm <| qo hS rfl hM (fun Ub hM => ?_) (fun Ub hM => ?_)
  ·refine wp_seq ?_
   refine zb <| sM hS rfl fun hS => sA hS rfl fun hS => sA hS rfl fun hS => qm <| wp_ret <| qu ?_
   exact qP (rs := [8, 9]) hS rfl rfl (hret (0 : Int) Ug _ (qG hM) (hS.st.pick [] (by kernel_rfl)))
  ·refine wp_skip ?_
   refine qc <| qe <| sM hS rfl fun hS => sM hS rfl fun hS => qq hS rfl Tryz.call53 (vy hG K VO (hS.st.part 0 [0, 1] (by kernel_rfl)) (qh hM) (fun VT VZ w hM Uf hst => qn hS.ev hst.appF rfl fun hS => ?_))
   replace hS : Ss _ _ _ H [VZ, V1, V0] F _ _ := hS
   refine sA hS rfl fun hS => qm <| qe <| sA hS rfl fun hS => qm <| wp_seq <| qe <| sM hS rfl fun hS => sM hS rfl fun hS => qm <| z3 <| q6 (fun V4 a w => ∃ (VR : Int) (VQ : Int), Ss 52 [] [(11, qx VY 0), (13, yH 71 [] [qx VT 0]), (14, .int .u64 VR), (34, .int .i64 VO), (35, .int .i64 VQ)] H [V1, VZ] F a w ∧ (zi.l1 K VO VP V4 VR VQ).wp kr kp) K ?_ ?_ ?_
   ·exact ⟨(0 : Int), (0 : Int), hS.to [1, 0] (by kernel_rfl) ⟨rfl, rfl, rfl, rfl, rfl, trivial⟩, hM⟩
   ·intro a w hI; obtain ⟨_, _, _, hM⟩ := hI; exact qX hM
   ·intro V4 a w hI Uh V9
    obtain ⟨VR, VQ, hS, hM⟩ := hI
    rw [zi.l1] at hM
    refine qe <| sB hS rfl fun hS => qm <| wp_seq <| qo hS rfl hM (fun Uc hM => ?_) (fun Uc hM => ?_)
    ·refine wp_skip ?_
     refine qc <| wp_seq <| z3 <| qe <| sM hS rfl fun hS => sA hS rfl fun hS => qm <| qM (vals := [some (.int .u64 VR), some (qx VY 0), some (qN VP), some (yH 71 [] [qx VT 0]), some (.int .i64 VQ), none, none, none, some (.int .i64 VQ), some (.int .i64 (qi ((8 : Int) * VQ))), none, none, none]) hS zV rfl ?_
     intro l w ho hcl hA hst
     refine x4 hA hst ho hcl zO zW 5 [0, 1, 2, 3, 4, 8, 9] rfl rfl rfl rfl rfl (by exact ⟨nM rfl, nQ rfl (by exact qJ (zz rfl Tryz.runUnderlying48 rfl Tryz.sizeOf9 rfl) rfl), nQ rfl (by exact qJ (zU 0 rfl V2 rfl rfl Tryz.isAgg9) rfl), nM rfl, nM rfl, nM rfl, nB rfl, trivial⟩) fun D l a w ho hcl hav hpre hm hE hk hA hst => ?_
     have hS := (Ss.mk hE hst).env2 (e' := [(41, yH 71 [] [qx VT 0]), (42, .int .i64 VQ)]) ⟨rfl, rfl, trivial⟩
     refine qC rfl <| yY hS rfl rfl Tryz.call71 (j0 hG K VQ VO VT VZ Uf (hS.st.part 1 [1, 0] (by kernel_rfl)) (qh hM) (fun VU w hM  hst => qn hS.ev hst.appF rfl fun hS => ?_))
     replace hS : Ss _ _ _ H [VZ, V1] F _ _ := hS
     refine qm ?_
     replace hst := hS.st
     obtain ⟨Ud, hM⟩ := qt hM
     obtain ⟨Ue, hM⟩ := qt hM
     obtain ⟨VX, V3⟩ : ∃ x, x = (uk .u64 VR (z1 .u64 (wr .u64 ((rd VP VU).toNat : Int)) (qi ((8 : Int) * VQ)))) := ⟨_, rfl⟩
     replace hM := qp V3 hM
     obtain ⟨hcl, hmust, hav2, hA⟩ := dn (vals' := [some (.int .u64 VR), some (qx VY 0), some (qN VP), some (yH 71 [] [qx VT 0]), some (.int .i64 VQ), some (.int .i64 VU), some (.int .u8 ((rd VP VU).toNat : Int)), some (.int .u64 (wr .u64 ((rd VP VU).toNat : Int))), some (.int .i64 VQ), some (.int .i64 (qi ((8 : Int) * VQ))), some (.int .u64 (z1 .u64 (wr .u64 ((rd VP VU).toNat : Int)) (qi ((8 : Int) * VQ)))), some (.int .u64 (uk .u64 VR (z1 .u64 (wr .u64 ((rd VP VU).toNat : Int)) (qi ((8 : Int) * VQ))))), some (.int .u64 VX)]) 5 [(3, 5), (4, 5)] hA hcl hav hm hpre hk rfl rfl rfl rfl rfl rfl rfl
     clear hm hav
     refine xq hA hst ho hcl hmust [0, 1, 2, 6, 7, 8, 9, 10, 11, 12] rfl rfl rfl (by exact ⟨nM rfl, nQ rfl (by exact qJ (zz rfl Tryz.runUnderlying48 rfl Tryz.sizeOf9 rfl) rfl), nQ rfl (by exact qJ (zU 1 rfl V2 rfl rfl Tryz.isAgg9) rfl), nQ rfl (by exact qJ (u1 rfl rfl Tryz.runUnderlying9 Ud) rfl), nQ rfl (by exact qJ (yT rfl Tryz.runUnderlying5 Tryz.runUnderlying50) rfl), nM rfl, nB rfl, nQ rfl (by exact qJ (shl rfl rfl Ue) rfl), nB rfl, nQ rfl (by exact qJ (zE rfl) (congrArg (Value.int .u64) V3.symm)), trivial⟩) fun a w hS => ?_
     replace hS := hS.env2 (e' := [(11, qx VY 0), (13, yH 71 [] [qx VT 0]), (14, .int .u64 VX), (34, .int .i64 VO), (35, .int .i64 VQ)]) ⟨rfl, rfl, rfl, rfl, rfl, trivial⟩
     refine qW (qc ?_)
     refine zb <| sB hS rfl fun hS => sM hS rfl fun hS => qL <| qc ?_
     exact V9 _ _ ⟨VX, (qi (VQ + (1 : Int))), hS.to [1, 0] (by kernel_rfl) ⟨rfl, rfl, rfl, rfl, rfl, trivial⟩, hM⟩
    ·refine wp_exit ?_
     refine qv (qv (qO (qc ?_)))
     refine qe <| sM hS rfl fun hS => sA hS rfl fun hS => sA hS rfl fun hS => qm <| wp_ret ?_
     exact qP (rs := [8, 9]) hS rfl rfl (hret VR (0 : Int) _ (qG hM) (hS.st.pick [] (by kernel_rfl)))
theorem x9 {H : z7} {F : List qj} {w : World} {R : Ending → World → Prop} {kr : Unit → Prop} {kp : Value → Prop} (hG : Gl H) (K : Nat) (VO : ze)
    (hS : St w H [] F) (hm : (xx.m K VO).wp kr kp)
    (hret : ∀ (w : World), kr () → St w H [] F → R (.returned (qN VO.text_)) w) :
    Calls Tryz.prog 27 ⟨[.agg ⟨[qN VO.text_, .int .i64 VO.base_]⟩]⟩ w R := by
 refine enter Tryz.func27 rfl Tryz.ntmps27 rfl hS fun a w hS => ?_
 have hM := hm; clear hm
 rw [xx.m] at hM
 refine qe <| bx ([qN VO.text_, .int .i64 VO.base_]) hS rfl rfl rfl fun w VQ VR VP hS => sA hS rfl fun hS => qm <| qe <| sO hS (zz rfl Tryz.runUnderlying48 rfl Tryz.sizeOf9 rfl) rfl fun hS => sO hS (zU 0 rfl VP rfl rfl Tryz.isAgg9) rfl fun hS => sA hS rfl fun hS => qm <| wp_ret ?_
 exact qP (rs := [2]) hS rfl rfl (hret _ (qG hM) (hS.st.pick [] (by kernel_rfl)))
theorem v2 {H : z7} {F : List qj} {w : World} {R : Ending → World → Prop} {kr : ((List qd) × Int) → Prop} {kp : Value → Prop} (hG : Gl H) (K : Nat) (VS : List UInt8)
    (hS : St w H [] F) (hm : (z5.m K VS).wp kr kp)
    (hret : ∀ (Uk : Option Addr) (Um : Nat) (Uj : (List qd)) (Uo : qj) (Ur : Int) (w : World), kr (Uj, Ur) → (zM 30 qd.cells 2 Uk Uj Um Uo) → St w H [Uo] F → R (.returned (.tuple ⟨[.slice Uk Uj.length Um, .int .i64 Ur]⟩)) w) :
    Calls Tryz.prog 10 ⟨[qN VS]⟩ w R := by
 refine enter Tryz.func10 rfl Tryz.ntmps10 rfl hS fun a w hS => ?_
 have hM := hm; clear hm
 rw [z5.m] at hM
 refine qe <| sA hS rfl fun hS => ?_
 obtain ⟨Un, Ka, hS⟩ := hS.nilV 30 qd.cells 2
 refine sA hS rfl fun hS => qm <| wp_seq <| qe <| sM hS rfl fun hS => sO hS (ye rfl Tryz.runUnderlying9) rfl fun hS => sB hS rfl fun hS => qm <| qo hS rfl hM (fun UI hM => ?_) (fun UI hM => ?_)
 ·refine wp_seq ?_
  refine zb <| sA hS rfl fun hS => ?_
  obtain ⟨UU, Uw, hS⟩ := hS.nilV 30 qd.cells 2
  refine sA hS rfl fun hS => qm <| wp_ret <| qu ?_
  exact qP (rs := [2, 3]) hS rfl rfl (hret none (0) ([] : List qd) UU (2 : Int) _ (qG hM) Uw (hS.st.pick [0] (by kernel_rfl)))
 ·refine wp_skip ?_
  refine qc <| wp_seq <| qe <| sM hS rfl fun hS => qq hS rfl Tryz.call22 (uj hG K VS ([137, 80, 78, 71, 13, 10, 26, 10] : List UInt8) (hS.st.part 0 [0] (by kernel_rfl)) (qh hM) (fun Kk w hM  hst => qn hS.ev hst.appF rfl fun hS => ?_))
  replace hS : Ss _ _ _ H [Un] F _ _ := hS
  refine sO hS (un rfl rfl) rfl fun hS => qm <| qo hS rfl hM (fun UJ hM => ?_) (fun UJ hM => ?_)
  ·refine wp_seq ?_
   refine zb <| sA hS rfl fun hS => ?_
   obtain ⟨UV, Ux, hS⟩ := hS.nilV 30 qd.cells 2
   refine sA hS rfl fun hS => qm <| wp_ret <| qu ?_
   exact qP (rs := [2, 3]) hS rfl rfl (hret none (0) ([] : List qd) UV (3 : Int) _ (qG hM) Ux (hS.st.pick [0] (by kernel_rfl)))
  ·refine wp_skip ?_
   refine qc <| qe <| sM hS rfl fun hS => qq hS rfl Tryz.call23 (uR hG K VS (hS.st.part 0 [0] (by kernel_rfl)) (qh hM) (fun  w hM  hst => qn hS.ev hst.appF rfl fun hS => ?_))
   replace hS : Ss _ _ _ H [Un] F _ _ := hS
   refine jz ([qN ([] : List UInt8), .int .i64 (0 : Int)]) hS Tryz.zeroValue48 rfl rfl fun w Uc Ke Us hS => jn 0 ([qN VS, .int .i64 (0 : Int)]) ([qN VS, .int .i64 (0 : Int)]) hS rfl rfl Us rfl rfl Tryz.sizeOf48 (by simp [Value.oneCell']) (Nat.le_of_ble_eq_true rfl) rfl fun w VW V3 hS => qm <| qe <| sA hS rfl fun hS => ?_
   obtain ⟨UW, Uy, hS⟩ := hS.nilV 30 qd.cells 2
   refine qm <| qe <| sA hS rfl fun hS => qm <| z3 <| q6 (fun Uh a w => ∃ (VX : Option Addr) (VY : Nat) (VT : (List qd)) (VV : qj) (VU : Int), Ss 103 [] [(0, qN VS), (4, qx Uc 0), (5, .slice VX VT.length VY), (6, .int .i64 VU)] H [VW, VV] F a w ∧ (zM 30 qd.cells 2 VX VT VY VV) ∧ (z5.l1 K VS Uh VT VU).wp kr kp) K ?_ ?_ ?_
   ·exact ⟨none, 0, ([] : List qd), UW, (8 : Int), hS.to [1, 0] (by kernel_rfl) ⟨rfl, rfl, rfl, rfl, trivial⟩, Uy, hM⟩
   ·intro a w hI; obtain ⟨_, _, _, _, _, _, _, hM⟩ := hI; exact qX hM
   ·intro Uh a w hI Kc Uv
    obtain ⟨VX, VY, VT, VV, VU, hS, Uz, hM⟩ := hI
    rw [z5.l1] at hM
    refine z3 <| qe <| sO hS (yz 0 rfl V3 rfl ([qN VS, .int .i64 (0 : Int)]) rfl rfl Tryz.isAgg48 Tryz.sizeOf48) rfl fun hS => sM hS rfl fun hS => qq hS rfl Tryz.call24 (xo hG K (ze.mk VS (0 : Int)) VU (4 : Int) (hS.st.part 0 [0, 1] (by kernel_rfl)) (qh hM) (fun V6 U5 w hM  hst => qn hS.ev hst.appF rfl fun hS => ?_))
    replace hS : Ss _ _ _ H [VW, VV] F _ _ := hS
    refine sM hS rfl fun hS => sO hS (ex rfl rfl) rfl fun hS => sO hS (ex rfl rfl) rfl fun hS => sA hS rfl fun hS => sA hS rfl fun hS => qm <| wp_seq <| qe <| sM hS rfl fun hS => sB hS rfl fun hS => qm <| qo hS rfl hM (fun UK hM => ?_) (fun UK hM => ?_)
    ·refine wp_seq ?_
     refine zb <| sM hS rfl fun hS => sA hS rfl fun hS => ?_
     obtain ⟨UX, UA, hS⟩ := hS.nilV 30 qd.cells 2
     refine sA hS rfl fun hS => qm <| wp_ret <| qu (zc (qu (zc ?_)))
     exact qP (rs := [2, 3]) hS rfl rfl (hret none (0) ([] : List qd) UX U5 _ (qG hM) UA (hS.st.pick [0] (by kernel_rfl)))
    ·refine wp_skip ?_
     refine qc <| qe <| sO hS (yz 0 rfl V3 rfl ([qN VS, .int .i64 (0 : Int)]) rfl rfl Tryz.isAgg48 Tryz.sizeOf48) rfl fun hS => sM hS rfl fun hS => sB hS rfl fun hS => qq hS rfl Tryz.call25 (jp hG K (ze.mk VS (0 : Int)) (qi (VU + (4 : Int))) (4 : Int) (hS.st.part 0 [0, 1] (by kernel_rfl)) (qh hM) (fun VP VQ Up w hM  hst => qn hS.ev hst.appF rfl fun hS => ?_))
     replace hS : Ss _ _ _ H [VW, VV] F _ _ := hS
     refine sM hS rfl fun hS => sO hS (ex rfl rfl) rfl fun hS => sO hS (ex rfl rfl) rfl fun hS => jz ([qN ([] : List UInt8), .int .i64 (0 : Int)]) hS Tryz.zeroValue48 rfl rfl fun w Ul Kf Ut hS => jn 0 ([qN VP, .int .i64 VQ]) ([qN VP, .int .i64 VQ]) hS rfl rfl Ut rfl rfl Tryz.sizeOf48 (by simp [Value.oneCell']) (Nat.le_of_ble_eq_true rfl) rfl fun w VZ V7 hS => sA hS rfl fun hS => qm <| wp_seq <| z3 <| qe <| sM hS rfl fun hS => sB hS rfl fun hS => qY (v := Value.bool) (x0 := (Up != (0 : Int))) hS (zE rfl) rfl fun Kh a w hz hS => ?_
     have hM := qp hz hM; clear hz
     refine qm <| qo hS rfl hM (fun UL hM => ?_) (fun UL hM => ?_)
     ·refine wp_seq ?_
      refine zb <| sM hS rfl fun hS => sA hS rfl fun hS => ?_
      obtain ⟨UY, UB, hS⟩ := hS.nilV 30 qd.cells 2
      refine sA hS rfl fun hS => qm <| wp_ret <| zc (qu (zc (qu (zc ?_))))
      exact qP (rs := [2, 3]) hS rfl rfl (hret none (0) ([] : List qd) UY Up _ (qG hM) UB (hS.st.pick [0] (by kernel_rfl)))
     ·refine wp_seq ?_
      refine zb <| sM hS rfl fun hS => sB hS rfl fun hS => sM hS rfl fun hS => yA (fun a w => ∃ (Ui : Bool), Ss 103 [] [(0, qN VS), (4, qx Uc 0), (5, .slice VX VT.length VY), (6, .int .i64 VU), (7, .int .u64 V6), (9, qx Ul 0), (48, .bool Ui)] H [VW, VV, VZ] F a w ∧ (z5.j2 K (z5.l1 K VS Uh) VS VT VU V6 VP VQ Ui).wp kr kp) 5 (fun Kb Uf => ?_) ?_
      ·refine Xi (b := (decide (V6 > (2147483647 : Int)))) hM (fun V0 hM => ?_) (fun V0 hM => ?_)
       ·replace hS := hS.re 42 (v := .bool true) rfl (congrArg Value.bool V0)
        replace hS := hS.re 43 (v := .bool true) rfl (congrArg Value.bool V0)
        refine vL 4 hS rfl fun a w hS => sO hS (pk rfl rfl rfl) rfl fun hS => qL <| qc ?_
        exact Uf _ _ ⟨true, hS.to [1, 2, 0] (by kernel_rfl) ⟨rfl, rfl, rfl, rfl, rfl, rfl, rfl, trivial⟩, hM⟩
       ·replace hS := hS.re 42 (v := .bool false) rfl (congrArg Value.bool V0)
        replace hS := hS.re 43 (v := .bool false) rfl (congrArg Value.bool V0)
        refine qI hS rfl rfl rfl rfl (yz 0 rfl V7 rfl ([qN VP, .int .i64 VQ]) rfl rfl Tryz.isAgg48 Tryz.sizeOf48) rfl fun a w hS => vH hS rfl rfl rfl rfl <| qq hS rfl Tryz.call27 (x9 hG K (ze.mk VP VQ) (hS.st.part 0 [0, 1, 2] (by kernel_rfl)) (qh hM) (fun  w hM  hst => qn hS.ev hst.appF rfl fun hS => ?_))
        replace hS : Ss _ _ _ H [VZ, VW, VV] F _ _ := hS
        refine vH hS rfl rfl rfl rfl <| qq hS rfl Tryz.call26 (uN hG K VP (hS.st.part 0 [0, 1, 2] (by kernel_rfl)) (qh hM) (fun U6 w hM  hst => qn hS.ev hst.appF rfl fun hS => ?_))
        replace hS : Ss _ _ _ H [VZ, VW, VV] F _ _ := hS
        refine qI hS rfl rfl rfl rfl (un rfl rfl) rfl fun a w hS => sO hS (pk rfl rfl rfl) rfl fun hS => qL <| qc ?_
        exact Uf _ _ ⟨(!U6), hS.to [1, 2, 0] (by kernel_rfl) ⟨rfl, rfl, rfl, rfl, rfl, rfl, rfl, trivial⟩, hM⟩
      ·intro a w hI
       obtain ⟨Ui, hS, hM⟩ := hI
       rw [z5.j2] at hM
       refine sA hS rfl fun hS => qm <| qo hS rfl hM (fun UM hM => ?_) (fun UM hM => ?_)
       ·refine wp_seq ?_
        refine zb <| sA hS rfl fun hS => ?_
        obtain ⟨UZ, UC, hS⟩ := hS.nilV 30 qd.cells 2
        refine sA hS rfl fun hS => qm <| wp_ret <| zc (qu (zc (qu (zc ?_))))
        exact qP (rs := [2, 3]) hS rfl rfl (hret none (0) ([] : List qd) UZ (3 : Int) _ (qG hM) UC (hS.st.pick [0] (by kernel_rfl)))
       ·refine wp_skip ?_
        refine qW (qc ?_)
        refine qe <| sO hS (yz 0 rfl V3 rfl ([qN VS, .int .i64 (0 : Int)]) rfl rfl Tryz.isAgg48 Tryz.sizeOf48) rfl fun hS => sM hS rfl fun hS => sB hS rfl fun hS => sM hS rfl fun hS => sO hS (yT rfl Tryz.runUnderlying50 Tryz.runUnderlying3) rfl fun hS => sB hS rfl fun hS => qq hS rfl Tryz.call25 (jp hG K (ze.mk VS (0 : Int)) (qi (VU + (4 : Int))) (qi ((4 : Int) + (wr .i64 V6))) (hS.st.part 0 [0, 1, 2] (by kernel_rfl)) (qh hM) (fun VO VR U7 w hM  hst => qn hS.ev hst.appF rfl fun hS => ?_))
        replace hS : Ss _ _ _ H [VW, VV, VZ] F _ _ := hS
        refine sM hS rfl fun hS => sO hS (ex rfl rfl) rfl fun hS => sO hS (ex rfl rfl) rfl fun hS => jz ([qN ([] : List UInt8), .int .i64 (0 : Int)]) hS Tryz.zeroValue48 rfl rfl fun w Kd Kg Uu hS => jn 0 ([qN VO, .int .i64 VR]) ([qN VO, .int .i64 VR]) hS rfl rfl Uu rfl rfl Tryz.sizeOf48 (by simp [Value.oneCell']) (Nat.le_of_ble_eq_true rfl) rfl fun w V2 V8 hS => sA hS rfl fun hS => qm <| wp_seq <| qe <| sM hS rfl fun hS => sB hS rfl fun hS => qm <| qo hS rfl hM (fun UN hM => ?_) (fun UN hM => ?_)
        ·refine wp_seq ?_
         refine zb <| sM hS rfl fun hS => sA hS rfl fun hS => ?_
         obtain ⟨U0, UD, hS⟩ := hS.nilV 30 qd.cells 2
         refine sA hS rfl fun hS => qm <| wp_ret <| qu (zc (qu (zc ?_)))
         exact qP (rs := [2, 3]) hS rfl rfl (hret none (0) ([] : List qd) U0 U7 _ (qG hM) UD (hS.st.pick [0] (by kernel_rfl)))
        ·refine wp_skip ?_
         refine qc <| qe <| sM hS rfl fun hS => sM hS rfl fun hS => sO hS (yT rfl Tryz.runUnderlying50 Tryz.runUnderlying3) rfl fun hS => sB hS rfl fun hS => sB hS rfl fun hS => qY (v := Value.int .i64) (x0 := (qi (VU + (qi ((8 : Int) + (wr .i64 V6)))))) hS (zE rfl) rfl fun V9 a w hz hS => ?_
         have hM := qp hz hM; clear hz
         refine qm <| qe <| sO hS (yz 1 rfl V3 rfl ([qN VS, .int .i64 (0 : Int)]) rfl rfl Tryz.isAgg48 Tryz.sizeOf48) rfl fun hS => sM hS rfl fun hS => qq hS rfl Tryz.call24 (xo hG K (ze.mk VS (0 : Int)) V9 (4 : Int) (hS.st.part 0 [0, 1, 2, 3] (by kernel_rfl)) (qh hM) (fun U8 Uq w hM  hst => qn hS.ev hst.appF rfl fun hS => ?_))
         replace hS : Ss _ _ _ H [V2, VW, VV, VZ] F _ _ := hS
         refine sM hS rfl fun hS => sO hS (ex rfl rfl) rfl fun hS => sO hS (ex rfl rfl) rfl fun hS => sA hS rfl fun hS => sA hS rfl fun hS => qm <| wp_seq <| z3 <| qe <| sM hS rfl fun hS => sB hS rfl fun hS => qY (v := Value.bool) (x0 := (Uq != (0 : Int))) hS (zE rfl) rfl fun Ki a w hz hS => ?_
         have hM := qp hz hM; clear hz
         refine qm <| qo hS rfl hM (fun UO hM => ?_) (fun UO hM => ?_)
         ·refine wp_seq ?_
          refine zb <| sM hS rfl fun hS => sA hS rfl fun hS => ?_
          obtain ⟨U1, UE, hS⟩ := hS.nilV 30 qd.cells 2
          refine sA hS rfl fun hS => qm <| wp_ret <| zc (qu (zc (qu (zc ?_))))
          exact qP (rs := [2, 3]) hS rfl rfl (hret none (0) ([] : List qd) U1 Uq _ (qG hM) UE (hS.st.pick [0] (by kernel_rfl)))
         ·refine wp_seq ?_
          refine zb <| sM hS rfl fun hS => sO hS (yT rfl Tryz.runUnderlying50 Tryz.runUnderlying56) rfl fun hS => sO hS (yz 0 rfl V8 rfl ([qN VO, .int .i64 VR]) rfl rfl Tryz.isAgg48 Tryz.sizeOf48) rfl fun hS => qq hS rfl Tryz.call27 (x9 hG K (ze.mk VO VR) (hS.st.part 0 [0, 1, 2, 3] (by kernel_rfl)) (qh hM) (fun  w hM  hst => qn hS.ev hst.appF rfl fun hS => ?_))
          replace hS : Ss _ _ _ H [V2, VW, VV, VZ] F _ _ := hS
          refine qq hS rfl Tryz.call28 (QM hG K VO (hS.st.part 0 [0, 1, 2, 3] (by kernel_rfl)) (qh hM) (fun U9 w hM  hst => qn hS.ev hst.appF rfl fun hS => ?_))
          replace hS : Ss _ _ _ H [V2, VW, VV, VZ] F _ _ := hS
          refine sB hS rfl fun hS => qY (v := Value.bool) (x0 := ((wr .u32 U8) != U9)) hS (zE rfl) rfl fun Kj a w hz hS => ?_
          have hM := qp hz hM; clear hz
          refine qm <| qo hS rfl hM (fun UP hM => ?_) (fun UP hM => ?_)
          ·refine wp_seq ?_
           refine zb <| sA hS rfl fun hS => ?_
           obtain ⟨U2, UF, hS⟩ := hS.nilV 30 qd.cells 2
           refine sA hS rfl fun hS => qm <| wp_ret <| zc (qu (zc (qu (zc ?_))))
           exact qP (rs := [2, 3]) hS rfl rfl (hret none (0) ([] : List qd) U2 (4 : Int) _ (qG hM) UF (hS.st.pick [0] (by kernel_rfl)))
          ·refine wp_skip ?_
           refine qW (qc ?_)
           refine qe <| sM hS rfl fun hS => sB hS rfl fun hS => qY (v := Value.int .i64) (x0 := (qi (V9 + (4 : Int)))) hS (zE rfl) rfl fun Ua a w hz hS => ?_
           have hM := qp hz hM; clear hz
           refine qm <| wp_seq <| qM (vals := [some (.slice VX VT.length VY), some (.agg ⟨[qN VP, .int .i64 VQ]⟩), none, some (.agg ⟨[qN VO, .int .i64 VR]⟩), none, none, none, none, none, none]) hS zV rfl ?_
           intro l w ho hcl hA hst
           refine x4 hA hst ho hcl zO zW 2 [0, 1, 3] rfl rfl rfl rfl rfl (by exact ⟨nM rfl, nQ rfl (by exact qJ (yz 3 rfl V7 rfl ([qN VP, .int .i64 VQ]) rfl rfl Tryz.isAgg48 Tryz.sizeOf48) rfl), nQ rfl (by exact qJ (yz 0 rfl V8 rfl ([qN VO, .int .i64 VR]) rfl rfl Tryz.isAgg48 Tryz.sizeOf48) rfl), trivial⟩) fun D l a w ho hcl hav hpre hm hE hk hA hst => ?_
           have hS := (Ss.mk hE hst).env2 (e' := [(87, .agg ⟨[qN VP, .int .i64 VQ]⟩)]) ⟨rfl, trivial⟩
           refine qC rfl <| qq hS rfl Tryz.call27 (x9 hG K (ze.mk VP VQ) (hS.st.part 0 [0, 1, 2, 3] (by kernel_rfl)) (qh hM) (fun  w hM  hst => qn hS.ev hst.appF rfl fun hS => ?_))
           replace hS : Ss _ _ _ H [V2, VW, VV, VZ] F _ _ := hS
           refine qm ?_
           replace hst := hS.st
           obtain ⟨hcl, hmust, hav2, hA⟩ := dn (vals' := [some (.slice VX VT.length VY), some (.agg ⟨[qN VP, .int .i64 VQ]⟩), some (qN VP), some (.agg ⟨[qN VO, .int .i64 VR]⟩), none, none, none, none, none, none]) 2 [(1, 2)] hA hcl hav hm hpre hk rfl rfl rfl rfl rfl rfl rfl
           clear hm hav
           refine x4 hA hst ho hcl hav2 hmust 4 [0, 3] rfl rfl rfl rfl rfl (by exact ⟨nM rfl, nQ rfl (by exact qJ (yz 0 rfl V8 rfl ([qN VO, .int .i64 VR]) rfl rfl Tryz.isAgg48 Tryz.sizeOf48) rfl), trivial⟩) fun D l a w ho hcl hav hpre hm hE hk hA hst => ?_
           have hS := (Ss.mk hE hst).env2 (e' := [(89, .agg ⟨[qN VO, .int .i64 VR]⟩)]) ⟨rfl, trivial⟩
           refine qC rfl <| qq hS rfl Tryz.call27 (x9 hG K (ze.mk VO VR) (hS.st.part 0 [0, 1, 2, 3] (by kernel_rfl)) (qh hM) (fun  w hM  hst => qn hS.ev hst.appF rfl fun hS => ?_))
           replace hS : Ss _ _ _ H [V2, VW, VV, VZ] F _ _ := hS
           refine qm ?_
           replace hst := hS.st
           obtain ⟨US, hM⟩ := qt hM
           obtain ⟨hcl, hmust, hav2, hA⟩ := dn (vals' := [some (.slice VX VT.length VY), some (.agg ⟨[qN VP, .int .i64 VQ]⟩), some (qN VP), some (.agg ⟨[qN VO, .int .i64 VR]⟩), some (qN VO), some (qN (sub VO (4 : Int) (VO.length : Int))), some (.agg ⟨[qN VP, qN (sub VO (4 : Int) (VO.length : Int))]⟩), none, none, none]) 4 [(2, 4), (3, 4), (1, 2)] hA hcl hav hm hpre hk rfl rfl rfl rfl rfl rfl rfl
           clear hm hav
           refine x4 hA hst ho hcl hav2 hmust 7 [0, 5, 6] rfl rfl rfl rfl rfl (by exact ⟨nM rfl, nQ rfl (by exact qJ (Xj rfl Tryz.runUnderlying9 (XI rfl) Yy US) rfl), nQ rfl (by exact qJ (vI ([qN VP, qN (sub VO (4 : Int) (VO.length : Int))]) [(0, 1), (1, 1)] Tryz.zeroValue30 Tryz.runUnderlying30 (by intro w; simp [Tryz.sizeOf9]) rfl rfl) rfl), trivial⟩) fun D l a w ho hcl hav hpre hm hE hk hA hst => ?_
           have hS := (Ss.mk hE hst).env2 (e' := [(92, .agg ⟨[qN VP, qN (sub VO (4 : Int) (VO.length : Int))]⟩)]) ⟨rfl, trivial⟩
           refine qC rfl <| Qh (g := qd.cells) ([(qd.mk VP (sub VO (4 : Int) (VO.length : Int)))] : List qd) [.agg ⟨[qN VP, qN (sub VO (4 : Int) (VO.length : Int))]⟩] hS Tryz.runUnderlying23 Tryz.sizeOf30 X.el30 rfl rfl rfl (by simp [Value.cells]) rfl rfl rfl rfl rfl fun w Ub Ud U3 UG hS => qm ?_
           replace hst := hS.st
           obtain ⟨hcl, hmust, hav2, hA⟩ := dn (vals' := [some (.slice VX VT.length VY), some (.agg ⟨[qN VP, .int .i64 VQ]⟩), some (qN VP), some (.agg ⟨[qN VO, .int .i64 VR]⟩), some (qN VO), some (qN (sub VO (4 : Int) (VO.length : Int))), some (.agg ⟨[qN VP, qN (sub VO (4 : Int) (VO.length : Int))]⟩), some (.slice Ub ([(qd.mk VP (sub VO (4 : Int) (VO.length : Int)))] : List qd).length Ud), none, none]) 7 [(6, 7), (2, 6), (5, 6), (1, 2), (4, 5), (3, 4)] hA hcl hav hm hpre hk rfl rfl rfl rfl rfl rfl rfl
           clear hm hav
           refine x4 hA hst ho hcl hav2 hmust 8 [0] rfl rfl rfl rfl rfl (by exact ⟨nM rfl, trivial⟩) fun D l a w ho hcl hav hpre hm hE hk hA hst => ?_
           have hS := (Ss.mk hE hst).env2 (e' := [(86, .slice VX VT.length VY), (93, .slice Ub ([(qd.mk VP (sub VO (4 : Int) (VO.length : Int)))] : List qd).length Ud)]) ⟨rfl, rfl, trivial⟩
           refine qC rfl ?_
           obtain ⟨UT, hM⟩ := qt hM
           refine QR (ys := ([(qd.mk VP (sub VO (4 : Int) (VO.length : Int)))] : List qd)) 3 hS rfl rfl Uz rfl (UG.rd (i := 0) rfl) Tryz.runUnderlying23 Tryz.runUnderlying23 X.el30 (fun _ => rfl) rfl XJ UT rfl fun V1 w V4 V5 Ue hz Ug hS => ?_
           have hM := qp hz hM; clear hz
           refine qm ?_
           replace hst := hS.st
           obtain ⟨hcl, hmust, hav2, hA⟩ := dn (vals' := [some (.slice VX VT.length VY), some (.agg ⟨[qN VP, .int .i64 VQ]⟩), some (qN VP), some (.agg ⟨[qN VO, .int .i64 VR]⟩), some (qN VO), some (qN (sub VO (4 : Int) (VO.length : Int))), some (.agg ⟨[qN VP, qN (sub VO (4 : Int) (VO.length : Int))]⟩), some (.slice Ub ([(qd.mk VP (sub VO (4 : Int) (VO.length : Int)))] : List qd).length Ud), some (.slice V4 V1.length V5), some (.slice V4 V1.length V5)]) 8 [(0, 8), (4, 8), (7, 8), (2, 4), (3, 4), (6, 7), (1, 2), (5, 6)] hA hcl hav hm hpre hk rfl rfl rfl rfl rfl rfl rfl
           clear hm hav
           refine xq hA hst ho hcl hmust [9] rfl rfl rfl (by exact ⟨nA rfl, trivial⟩) fun a w hS => ?_
           replace hS := hS.env2 (e' := [(0, qN VS), (4, qx Uc 0), (5, .slice V4 V1.length V5), (6, .int .i64 Ua), (9, qx Ul 0)]) ⟨rfl, rfl, rfl, rfl, rfl, trivial⟩
           refine qc <| wp_seq <| qe <| sO hS (yz 4 rfl V7 rfl ([qN VP, .int .i64 VQ]) rfl rfl Tryz.isAgg48 Tryz.sizeOf48) rfl fun hS => qq hS rfl Tryz.call27 (x9 hG K (ze.mk VP VQ) (hS.st.part 0 [0, 1, 2, 3, 4] (by kernel_rfl)) (qh hM) (fun  w hM  hst => qn hS.ev hst.appF rfl fun hS => ?_))
           replace hS : Ss _ _ _ H [U3, V2, VW, Ue, VZ] F _ _ := hS
           refine sO hS (ua rfl rfl rfl) rfl fun hS => qm <| qo hS rfl hM (fun UQ hM => ?_) (fun UQ hM => ?_)
           ·refine wp_exit ?_
            refine qv (qO (qc ?_))
            exact Uv _ _ ⟨V4, V5, V1, Ue, Ua, hS.to [2, 3] (by kernel_rfl) ⟨rfl, rfl, rfl, rfl, trivial⟩, Ug, hM⟩
           ·refine wp_skip ?_
            refine qc <| wp_seq <| qe <| sM hS rfl fun hS => sM hS rfl fun hS => sO hS (ye rfl Tryz.runUnderlying9) rfl fun hS => sB hS rfl fun hS => qm <| qo hS rfl hM (fun UR hM => ?_) (fun UR hM => ?_)
            ·refine wp_seq ?_
             refine zb <| sA hS rfl fun hS => ?_
             obtain ⟨U4, UH, hS⟩ := hS.nilV 30 qd.cells 2
             refine sA hS rfl fun hS => qm <| wp_ret <| qu (zc (qu (zc ?_)))
             exact qP (rs := [2, 3]) hS rfl rfl (hret none (0) ([] : List qd) U4 (3 : Int) _ (qG hM) UH (hS.st.pick [0] (by kernel_rfl)))
            ·refine wp_skip ?_
             refine qc <| qe <| sM hS rfl fun hS => sA hS rfl fun hS => sA hS rfl fun hS => qm <| wp_ret <| zc (qu (zc ?_))
             exact qP (rs := [2, 3]) hS rfl rfl (hret V4 V5 V1 Ue (0 : Int) _ (qG hM) Ug (hS.st.pick [3] (by kernel_rfl)))
theorem Z4 {H : z7} {F : List qj} {w : World} {R : Ending → World → Prop} {kr : (Int × Int × Int × Int) → Prop} {kp : Value → Prop} (hG : Gl H) (K : Nat) (VP : qd)
    (hS : St w H [] F) (hm : (xX.m K VP).wp kr kp)
    (hret : ∀ (V9 : Int) (Uc : Int) (VV : Int) (Ue : Int) (w : World), kr (V9, Uc, VV, Ue) → St w H [] F → R (.returned (.tuple ⟨[.agg ⟨[.int .i64 V9, .int .i64 Uc, .int .i64 VV, qN ([] : List UInt8)]⟩, .int .i64 Ue]⟩)) w) :
    Calls Tryz.prog 38 ⟨[.agg ⟨[qN VP.Type_, qN VP.Data_]⟩]⟩ w R := by
 refine enter Tryz.func38 rfl Tryz.ntmps38 rfl hS fun a w hS => ?_
 have hM := hm; clear hm
 rw [xX.m] at hM
 refine qe <| bx ([qN VP.Type_, qN VP.Data_]) hS rfl rfl rfl fun w V2 VY VU hS => jz ([.int .i64 (0 : Int), .int .i64 (0 : Int), .int .i64 (0 : Int), qN ([] : List UInt8)]) hS Tryz.zeroValue35 rfl rfl fun w VX V3 V0 hS => sA hS rfl fun hS => qm <| wp_seq <| qe <| sO hS (zz rfl Tryz.runUnderlying30 rfl Tryz.sizeOf9 rfl) rfl fun hS => sO hS (zU 1 rfl VU rfl rfl Tryz.isAgg9) rfl fun hS => sO hS (ua rfl rfl rfl) rfl fun hS => sM hS rfl fun hS => xm 4 false 14 (b := (!(VP.Type_ == ([73, 72, 68, 82] : List UInt8)))) (r := ((VP.Data_.length : Int) != (13 : Int))) hS rfl rfl rfl rfl rfl rfl rfl (fun hb a w hS K hK => ?_) rfl fun a w hS => ?_
 ·refine qI hS rfl rfl rfl hb (zz rfl Tryz.runUnderlying30 rfl Tryz.sizeOf9 rfl) rfl fun a w hS => ?_
  refine qI hS rfl rfl rfl hb (zU 1 rfl VU rfl rfl Tryz.isAgg9) rfl fun a w hS => qI hS rfl rfl rfl hb (ye rfl Tryz.runUnderlying9) rfl fun a w hS => qI hS rfl rfl rfl hb (xN rfl rfl rfl) rfl fun a w hS => ?_
  exact qL (hK _ _ (hS.up 4 rfl rfl))
 refine qm <| qo hS rfl hM (fun Uo hM => ?_) (fun Uo hM => ?_)
 ·refine wp_seq ?_
  refine zb <| sO hS (yz 0 rfl V0 rfl ([.int .i64 (0 : Int), .int .i64 (0 : Int), .int .i64 (0 : Int), qN ([] : List UInt8)]) rfl rfl Tryz.isAgg35 Tryz.sizeOf35) rfl fun hS => jn 0 ([.int .i64 (0 : Int), .int .i64 (0 : Int), .int .i64 (0 : Int), qN ([] : List UInt8)]) ([.int .i64 (0 : Int), .int .i64 (0 : Int), .int .i64 (0 : Int), qN ([] : List UInt8)]) hS rfl rfl V0 rfl rfl Tryz.sizeOf35 (by simp [Value.oneCell']) (Nat.le_of_ble_eq_true rfl) rfl fun w UC Uf hS => sA hS rfl fun hS => qm <| wp_ret <| qu ?_
  exact xI (vs := [.agg ⟨[.int .i64 (0 : Int), .int .i64 (0 : Int), .int .i64 (0 : Int), qN ([] : List UInt8)]⟩, .int .i64 (3 : Int)]) hS rfl (by exact ⟨Qq 0 ([.int .i64 (0 : Int), .int .i64 (0 : Int), .int .i64 (0 : Int), qN ([] : List UInt8)]) rfl Uf rfl rfl rfl Tryz.isAgg35 Tryz.sizeOf35, Xc rfl, trivial⟩) (hret (0 : Int) (0 : Int) (0 : Int) (3 : Int) _ (qG hM) (hS.st.pick [] (by kernel_rfl)))
 ·refine wp_skip ?_
  refine qc <| qe <| sO hS (zz rfl Tryz.runUnderlying30 rfl Tryz.sizeOf9 rfl) rfl fun hS => sO hS (zU 1 rfl VU rfl rfl Tryz.isAgg9) rfl fun hS => qq hS rfl Tryz.call23 (uR hG K VP.Data_ (hS.st.part 0 [0, 1] (by kernel_rfl)) (qh hM) (fun  w hM  hst => qn hS.ev hst.appF rfl fun hS => ?_))
  replace hS : Ss _ _ _ H [V3, VY] F _ _ := hS
  refine jz ([qN ([] : List UInt8), .int .i64 (0 : Int)]) hS Tryz.zeroValue48 rfl rfl fun w UB UD Ug hS => jn 0 ([qN VP.Data_, .int .i64 (0 : Int)]) ([qN VP.Data_, .int .i64 (0 : Int)]) hS rfl rfl Ug rfl rfl Tryz.sizeOf48 (by simp [Value.oneCell']) (Nat.le_of_ble_eq_true rfl) rfl fun w Ub V5 hS => qm <| qe <| sO hS (yz 0 rfl V5 rfl ([qN VP.Data_, .int .i64 (0 : Int)]) rfl rfl Tryz.isAgg48 Tryz.sizeOf48) rfl fun hS => qq hS rfl Tryz.call24 (xo hG K (ze.mk VP.Data_ (0 : Int)) (0 : Int) (4 : Int) (hS.st.part 0 [0, 1, 2] (by kernel_rfl)) (qh hM) (fun VQ UN w hM  hst => qn hS.ev hst.appF rfl fun hS => ?_))
  replace hS : Ss _ _ _ H [Ub, V3, VY] F _ _ := hS
  refine sM hS rfl fun hS => sO hS (ex rfl rfl) rfl fun hS => sO hS (ex rfl rfl) rfl fun hS => sA hS rfl fun hS => sA hS rfl fun hS => qm <| qe <| sO hS (yz 0 rfl V5 rfl ([qN VP.Data_, .int .i64 (0 : Int)]) rfl rfl Tryz.isAgg48 Tryz.sizeOf48) rfl fun hS => qq hS rfl Tryz.call24 (xo hG K (ze.mk VP.Data_ (0 : Int)) (4 : Int) (4 : Int) (hS.st.part 0 [0, 1, 2] (by kernel_rfl)) (qh hM) (fun VR UO w hM  hst => qn hS.ev hst.appF rfl fun hS => ?_))
  replace hS : Ss _ _ _ H [Ub, V3, VY] F _ _ := hS
  refine sM hS rfl fun hS => sO hS (ex rfl rfl) rfl fun hS => sO hS (ex rfl rfl) rfl fun hS => sA hS rfl fun hS => sA hS rfl fun hS => qm <| qV (fun a w => ∃ (VO : Int) (V4 : qj), Ss 99 [] [(1, qx V2 0), (2, qx VX 0), (5, .int .u64 VQ), (7, .int .u64 VR)] H [VY, V4] F a w ∧ (xf V4 VX ([.int .i64 (0 : Int), .int .i64 (0 : Int), .int .i64 VO, qN ([] : List UInt8)]) 35) ∧ (xX.j2 K VP VQ VR VO).wp kr kp) (fun UA Un => ?_) ?_
  ·refine wp_seq ?_
   refine zb <| sO hS (XH rfl hG.g0 (by rfl) Tryz.isAgg78 Tryz.sizeOf78) rfl fun hS => sM hS rfl fun hS => qm <| z3 <| q6 (fun Ud a w => ∃ (VS : Int) (VZ : qj) (VT : Int), Ss 99 [] [(1, qx V2 0), (2, qx VX 0), (5, .int .u64 VQ), (7, .int .u64 VR), (34, .agg ⟨tab_png_colors.flatMap yq.cells⟩), (35, .int .i64 VT)] H [VY, VZ] F a w ∧ (xf VZ VX ([.int .i64 (0 : Int), .int .i64 (0 : Int), .int .i64 VS, qN ([] : List UInt8)]) 35) ∧ (xX.l1 K VP VQ VR Ud VS VT).wp kr kp) K ?_ ?_ ?_
   ·exact ⟨(0 : Int), V3, (0 : Int), hS.to [2, 1] (by kernel_rfl) ⟨rfl, rfl, rfl, rfl, rfl, rfl, trivial⟩, V0, hM⟩
   ·intro a w hI; obtain ⟨_, _, _, _, _, hM⟩ := hI; exact qX hM
   ·intro Ud a w hI Uz V8
    obtain ⟨VS, VZ, VT, hS, V1, hM⟩ := hI
    rw [xX.l1] at hM
    refine qe <| sB hS rfl fun hS => qm <| wp_seq <| qo hS rfl hM (fun Up hM => ?_) (fun Up hM => ?_)
    ·refine wp_skip ?_
     refine qc <| wp_seq <| z3 <| wp_seq <| zb ?_
     obtain ⟨Ut, hM⟩ := qt hM
     refine sO hS (Jx rfl rfl Tryz.runUnderlying78 Tryz.isAgg77 Tryz.sizeOf77 (fun _ => rfl) jZ Ut) rfl fun hS => jz ([.int .u8 (0 : Int), .int .i64 (0 : Int)]) hS Tryz.zeroValue77 rfl rfl fun w Ua UE Uh hS => jn 0 ([.int .u8 ((rd tab_png_colors VT).kind_), .int .i64 ((rd tab_png_colors VT).samples_)]) ([.int .u8 ((rd tab_png_colors VT).kind_), .int .i64 ((rd tab_png_colors VT).samples_)]) hS rfl rfl Uh rfl rfl Tryz.sizeOf77 (by simp [Value.oneCell']) (Nat.le_of_ble_eq_true rfl) rfl fun w UF V6 hS => qm <| wp_seq ?_
     obtain ⟨Uu, hM⟩ := qt hM
     refine qM (vals := [some (qx Ua 0), some (.int .u8 ((rd tab_png_colors VT).kind_)), some (qx V2 1), some (qN VP.Data_), some (.int .u8 ((rd VP.Data_ (9 : Int)).toNat : Int)), some (.bool ((rd tab_png_colors VT).kind_ == ((rd VP.Data_ (9 : Int)).toNat : Int)))]) hS zV rfl ?_
     intro l w ho hcl hA hst
     refine xq hA hst ho hcl zW [0, 1, 2, 3, 4, 5] rfl rfl rfl (by exact ⟨nQ rfl (by exact qJ (zz rfl Tryz.runUnderlying77 rfl Tryz.sizeOf5 rfl) rfl), nQ rfl (by exact qJ (zU 0 rfl V6 rfl rfl Tryz.isAgg5) rfl), nQ rfl (by exact qJ (zz rfl Tryz.runUnderlying30 rfl Tryz.sizeOf9 rfl) rfl), nQ rfl (by exact qJ (zU 1 rfl VU rfl rfl Tryz.isAgg9) rfl), nQ rfl (by exact qJ (u1 rfl rfl Tryz.runUnderlying9 Uu) rfl), nB rfl, trivial⟩) fun a w hS => ?_
     replace hS := hS.env2 (e' := [(1, qx V2 0), (2, qx VX 0), (5, .int .u64 VQ), (7, .int .u64 VR), (10, qx Ua 0), (34, .agg ⟨tab_png_colors.flatMap yq.cells⟩), (35, .int .i64 VT), (43, .bool ((rd tab_png_colors VT).kind_ == ((rd VP.Data_ (9 : Int)).toNat : Int)))]) ⟨rfl, rfl, rfl, rfl, rfl, rfl, rfl, rfl, trivial⟩
     refine qc <| qo hS rfl hM (fun Uq hM => ?_) (fun Uq hM => ?_)
     ·refine zb ?_
      refine sO hS (zz rfl Tryz.runUnderlying77 rfl Tryz.sizeOf3 rfl) rfl fun hS => sO hS (zU 0 rfl V6 rfl rfl Tryz.isAgg3) rfl fun hS => sO hS (zz rfl Tryz.runUnderlying35 rfl Tryz.sizeOf3 rfl) rfl fun hS => Qr 2 ([.int .i64 (0 : Int), .int .i64 (0 : Int), .int .i64 ((rd tab_png_colors VT).samples_), qN ([] : List UInt8)]) hS rfl rfl V1 rfl rfl rfl rfl Tryz.sizeOf3 fun w Uy Ui hS => qL <| qW (qc ?_)
      refine zb <| sB hS rfl fun hS => sM hS rfl fun hS => qL <| qc ?_
      exact V8 _ _ ⟨(rd tab_png_colors VT).samples_, Uy, (qi (VT + (1 : Int))), hS.to [1, 2] (by kernel_rfl) ⟨rfl, rfl, rfl, rfl, rfl, rfl, trivial⟩, Ui, hM⟩
     ·refine wp_skip ?_
      refine qW (qc ?_)
      refine zb <| sB hS rfl fun hS => sM hS rfl fun hS => qL <| qc ?_
      exact V8 _ _ ⟨VS, VZ, (qi (VT + (1 : Int))), hS.to [1, 2] (by kernel_rfl) ⟨rfl, rfl, rfl, rfl, rfl, rfl, trivial⟩, V1, hM⟩
    ·refine wp_exit ?_
     refine qv (qv (qO (qc ?_)))
     exact Un _ _ ⟨VS, VZ, hS.to [0, 1] (by kernel_rfl) ⟨rfl, rfl, rfl, rfl, trivial⟩, V1, hM⟩
  ·intro a w hI
   obtain ⟨VO, V4, hS, VW, hM⟩ := hI
   rw [xX.j2] at hM
   refine wp_seq <| z3 <| qe <| sO hS (zz rfl Tryz.runUnderlying30 rfl Tryz.sizeOf9 rfl) rfl fun hS => sO hS (zU 0 rfl VU rfl rfl Tryz.isAgg9) rfl fun hS => ?_
   obtain ⟨Uv, hM⟩ := qt hM
   refine sO hS (u1 rfl rfl Tryz.runUnderlying9 Uv) rfl fun hS => sB hS rfl fun hS => sM hS rfl fun hS => xm 3 false 53 (b := (((rd VP.Data_ (8 : Int)).toNat : Int) != (8 : Int))) (r := (VO == (0 : Int))) hS rfl rfl rfl rfl rfl rfl rfl (fun hb a w hS K hK => ?_) rfl fun a w hS => ?_
   ·refine qI hS rfl rfl rfl hb (zz rfl Tryz.runUnderlying35 rfl Tryz.sizeOf3 rfl) rfl fun a w hS => ?_
    refine qI hS rfl rfl rfl hb (zU 1 rfl VW rfl rfl Tryz.isAgg3) rfl fun a w hS => qI hS rfl rfl rfl hb (xN rfl rfl rfl) rfl fun a w hS => ?_
    exact qL (hK _ _ (hS.up 3 rfl rfl))
   refine sM hS rfl fun hS => ?_
   obtain ⟨Ux, hM⟩ := qt hM
   refine xm 4 false 58 (b := ((((rd VP.Data_ (8 : Int)).toNat : Int) != (8 : Int)) || (VO == (0 : Int)))) (r := (!((sub VP.Data_ (10 : Int) (VP.Data_.length : Int)) == ([0, 0, 0] : List UInt8)))) hS rfl rfl rfl rfl rfl rfl rfl (fun hb a w hS K hK => ?_) rfl fun a w hS => ?_
   ·refine qI hS rfl rfl rfl hb (zz rfl Tryz.runUnderlying30 rfl Tryz.sizeOf9 rfl) rfl fun a w hS => ?_
    refine qI hS rfl rfl rfl hb (zU 0 rfl VU rfl rfl Tryz.isAgg9) rfl fun a w hS => ?_
    have Uw := Zt Ux hb
    refine qI hS rfl rfl rfl hb (Xj rfl Tryz.runUnderlying9 (XI rfl) Yy Uw) rfl fun a w hS => qI hS rfl rfl rfl hb (ua rfl rfl rfl) rfl fun a w hS => ?_
    exact qL (hK _ _ (hS.up 4 rfl rfl))
   refine sM hS rfl fun hS => xm 2 false 64 (b := (((((rd VP.Data_ (8 : Int)).toNat : Int) != (8 : Int)) || (VO == (0 : Int))) || (!((sub VP.Data_ (10 : Int) (VP.Data_.length : Int)) == ([0, 0, 0] : List UInt8))))) (r := (VQ == (0 : Int))) hS rfl rfl rfl rfl rfl rfl rfl (fun hb a w hS K hK => ?_) rfl fun a w hS => ?_
   ·refine qI hS rfl rfl rfl hb (mv rfl) rfl fun a w hS => ?_
    refine qI hS rfl rfl rfl hb (xN rfl rfl rfl) rfl fun a w hS => ?_
    exact qL (hK _ _ (hS.up 2 rfl rfl))
   refine sM hS rfl fun hS => xm 2 false 68 (b := ((((((rd VP.Data_ (8 : Int)).toNat : Int) != (8 : Int)) || (VO == (0 : Int))) || (!((sub VP.Data_ (10 : Int) (VP.Data_.length : Int)) == ([0, 0, 0] : List UInt8)))) || (VQ == (0 : Int)))) (r := (VR == (0 : Int))) hS rfl rfl rfl rfl rfl rfl rfl (fun hb a w hS K hK => ?_) rfl fun a w hS => ?_
   ·refine qI hS rfl rfl rfl hb (mv rfl) rfl fun a w hS => ?_
    refine qI hS rfl rfl rfl hb (xN rfl rfl rfl) rfl fun a w hS => ?_
    exact qL (hK _ _ (hS.up 2 rfl rfl))
   refine qY (v := Value.bool) (x0 := (((((((rd VP.Data_ (8 : Int)).toNat : Int) != (8 : Int)) || (VO == (0 : Int))) || (!((sub VP.Data_ (10 : Int) (VP.Data_.length : Int)) == ([0, 0, 0] : List UInt8)))) || (VQ == (0 : Int))) || (VR == (0 : Int)))) hS (zE rfl) rfl fun UL a w hz hS => ?_
   have hM := qp hz hM; clear hz
   refine qm <| qo hS rfl hM (fun Ur hM => ?_) (fun Ur hM => ?_)
   ·refine wp_seq ?_
    refine zb <| sO hS (vI ([.int .i64 (0 : Int), .int .i64 (0 : Int), .int .i64 (0 : Int), qN ([] : List UInt8)]) [(0, 1), (1, 1), (2, 1), (3, 1)] Tryz.zeroValue35 Tryz.runUnderlying35 (by intro w; simp [Tryz.sizeOf3, Tryz.sizeOf9]) rfl rfl) rfl fun hS => jn 1 ([.int .i64 (0 : Int), .int .i64 (0 : Int), .int .i64 (0 : Int), qN ([] : List UInt8)]) ([.int .i64 (0 : Int), .int .i64 (0 : Int), .int .i64 (0 : Int), qN ([] : List UInt8)]) hS rfl rfl VW rfl rfl Tryz.sizeOf35 (by simp [Value.oneCell']) (Nat.le_of_ble_eq_true rfl) rfl fun w UG Uj hS => sA hS rfl fun hS => qm <| wp_ret <| zc (qu ?_)
    exact xI (vs := [.agg ⟨[.int .i64 (0 : Int), .int .i64 (0 : Int), .int .i64 (0 : Int), qN ([] : List UInt8)]⟩, .int .i64 (3 : Int)]) hS rfl (by exact ⟨Qq 1 ([.int .i64 (0 : Int), .int .i64 (0 : Int), .int .i64 (0 : Int), qN ([] : List UInt8)]) rfl Uj rfl rfl rfl Tryz.isAgg35 Tryz.sizeOf35, Xc rfl, trivial⟩) (hret (0 : Int) (0 : Int) (0 : Int) (3 : Int) _ (qG hM) (hS.st.pick [] (by kernel_rfl)))
   ·refine wp_seq ?_
    refine zb <| sM hS rfl fun hS => sB hS rfl fun hS => sM hS rfl fun hS => xm 2 false 76 (b := (decide (VQ > (4096 : Int)))) (r := (decide (VR > (4096 : Int)))) hS rfl rfl rfl rfl rfl rfl rfl (fun hb a w hS K hK => ?_) rfl fun a w hS => ?_
    ·refine qI hS rfl rfl rfl hb (mv rfl) rfl fun a w hS => ?_
     refine qI hS rfl rfl rfl hb (xN rfl rfl rfl) rfl fun a w hS => ?_
     exact qL (hK _ _ (hS.up 2 rfl rfl))
    refine sM hS rfl fun hS => xm 9 false 80 (b := ((decide (VQ > (4096 : Int))) || (decide (VR > (4096 : Int))))) (r := (decide ((qi ((qi ((wr .i64 VQ) * (wr .i64 VR))) * VO)) > (16777216 : Int)))) hS rfl rfl rfl rfl rfl rfl rfl (fun hb a w hS K hK => ?_) rfl fun a w hS => ?_
    ·refine qI hS rfl rfl rfl hb (mv rfl) rfl fun a w hS => ?_
     refine qI hS rfl rfl rfl hb (yT rfl Tryz.runUnderlying50 Tryz.runUnderlying3) rfl fun a w hS => qI hS rfl rfl rfl hb (mv rfl) rfl fun a w hS => qI hS rfl rfl rfl hb (yT rfl Tryz.runUnderlying50 Tryz.runUnderlying3) rfl fun a w hS => qI hS rfl rfl rfl hb (xN rfl rfl rfl) rfl fun a w hS => qI hS rfl rfl rfl hb (zz rfl Tryz.runUnderlying35 rfl Tryz.sizeOf3 rfl) rfl fun a w hS => qI hS rfl rfl rfl hb (zU 1 rfl VW rfl rfl Tryz.isAgg3) rfl fun a w hS => qI hS rfl rfl rfl hb (xN rfl rfl rfl) rfl fun a w hS => qI hS rfl rfl rfl hb (xN rfl rfl rfl) rfl fun a w hS => ?_
     exact qL (hK _ _ (hS.up 9 rfl rfl))
    refine qY (v := Value.bool) (x0 := (((decide (VQ > (4096 : Int))) || (decide (VR > (4096 : Int)))) || (decide ((qi ((qi ((wr .i64 VQ) * (wr .i64 VR))) * VO)) > (16777216 : Int))))) hS (zE rfl) rfl fun UM a w hz hS => ?_
    have hM := qp hz hM; clear hz
    refine qm <| qo hS rfl hM (fun Us hM => ?_) (fun Us hM => ?_)
    ·refine wp_seq ?_
     refine zb <| sO hS (vI ([.int .i64 (0 : Int), .int .i64 (0 : Int), .int .i64 (0 : Int), qN ([] : List UInt8)]) [(0, 1), (1, 1), (2, 1), (3, 1)] Tryz.zeroValue35 Tryz.runUnderlying35 (by intro w; simp [Tryz.sizeOf3, Tryz.sizeOf9]) rfl rfl) rfl fun hS => jn 1 ([.int .i64 (0 : Int), .int .i64 (0 : Int), .int .i64 (0 : Int), qN ([] : List UInt8)]) ([.int .i64 (0 : Int), .int .i64 (0 : Int), .int .i64 (0 : Int), qN ([] : List UInt8)]) hS rfl rfl VW rfl rfl Tryz.sizeOf35 (by simp [Value.oneCell']) (Nat.le_of_ble_eq_true rfl) rfl fun w UH Uk hS => sA hS rfl fun hS => qm <| wp_ret <| zc (qu ?_)
     exact xI (vs := [.agg ⟨[.int .i64 (0 : Int), .int .i64 (0 : Int), .int .i64 (0 : Int), qN ([] : List UInt8)]⟩, .int .i64 (11 : Int)]) hS rfl (by exact ⟨Qq 1 ([.int .i64 (0 : Int), .int .i64 (0 : Int), .int .i64 (0 : Int), qN ([] : List UInt8)]) rfl Uk rfl rfl rfl Tryz.isAgg35 Tryz.sizeOf35, Xc rfl, trivial⟩) (hret (0 : Int) (0 : Int) (0 : Int) (11 : Int) _ (qG hM) (hS.st.pick [] (by kernel_rfl)))
    ·refine wp_skip ?_
     refine qW (qc ?_)
     refine qe <| sM hS rfl fun hS => sO hS (yT rfl Tryz.runUnderlying50 Tryz.runUnderlying3) rfl fun hS => sM hS rfl fun hS => sO hS (yT rfl Tryz.runUnderlying50 Tryz.runUnderlying3) rfl fun hS => sO hS (zz rfl Tryz.runUnderlying35 rfl Tryz.sizeOf3 rfl) rfl fun hS => Qr 1 ([.int .i64 (wr .i64 VQ), .int .i64 (0 : Int), .int .i64 VO, qN ([] : List UInt8)]) hS rfl rfl VW rfl rfl rfl rfl Tryz.sizeOf3 fun w UI Ul hS => sO hS (zz rfl Tryz.runUnderlying35 rfl Tryz.sizeOf3 rfl) rfl fun hS => Qr 1 ([.int .i64 (wr .i64 VQ), .int .i64 (wr .i64 VR), .int .i64 VO, qN ([] : List UInt8)]) hS rfl rfl Ul rfl rfl rfl rfl Tryz.sizeOf3 fun w UJ V7 hS => qm <| qe <| sO hS (yz 1 rfl V7 rfl ([.int .i64 (wr .i64 VQ), .int .i64 (wr .i64 VR), .int .i64 VO, qN ([] : List UInt8)]) rfl rfl Tryz.isAgg35 Tryz.sizeOf35) rfl fun hS => jn 1 ([.int .i64 (wr .i64 VQ), .int .i64 (wr .i64 VR), .int .i64 VO, qN ([] : List UInt8)]) ([.int .i64 (wr .i64 VQ), .int .i64 (wr .i64 VR), .int .i64 VO, qN ([] : List UInt8)]) hS rfl rfl V7 rfl rfl Tryz.sizeOf35 (by simp [Value.oneCell']) (Nat.le_of_ble_eq_true rfl) rfl fun w UK Um hS => sA hS rfl fun hS => qm <| wp_ret ?_
     exact xI (vs := [.agg ⟨[.int .i64 (wr .i64 VQ), .int .i64 (wr .i64 VR), .int .i64 VO, qN ([] : List UInt8)]⟩, .int .i64 (0 : Int)]) hS rfl (by exact ⟨Qq 1 ([.int .i64 (wr .i64 VQ), .int .i64 (wr .i64 VR), .int .i64 VO, qN ([] : List UInt8)]) rfl Um rfl rfl rfl Tryz.isAgg35 Tryz.sizeOf35, Xc rfl, trivial⟩) (hret (wr .i64 VQ) (wr .i64 VR) VO (0 : Int) _ (qG hM) (hS.st.pick [] (by kernel_rfl)))
theorem Zz {H : z7} {F : List qj} {w : World} {R : Ending → World → Prop} {kr : ((List UInt8) × Bool) → Prop} {kp : Value → Prop} (hG : Gl H) (K : Nat) (VO : List qd) (V0 : Option Addr) (V1 : Nat) (Ud : yU H [] F qd.cells V0 VO) (Ux : VO.length ≤ V1)
    (hS : St w H [] F) (hm : (zG.m K VO).wp kr kp)
    (hret : ∀ (Uh : List UInt8) (Ui : Bool) (w : World), kr (Uh, Ui) → St w H [] F → R (.returned (.tuple ⟨[qN Uh, .bool Ui]⟩)) w) :
    Calls Tryz.prog 39 ⟨[.slice V0 VO.length V1]⟩ w R := by
 refine enter Tryz.func39 rfl Tryz.ntmps39 rfl hS fun a w hS => ?_
 have hM := hm; clear hm
 rw [zG.m] at hM
 refine qe <| sA hS rfl fun hS => sA hS rfl fun hS => qm <| qe <| jz ([.pointer none, .slice none 0 0]) hS Tryz.zeroValue61 rfl rfl fun w VU Uf V2 hS => ?_
 replace V2 : QT 61 5 VU ([] : List Int) Uf := QT.new V2
 refine qm <| qe <| sA hS rfl fun hS => qm <| qV (fun a w => ∃ (VY : (List Int)) (V4 : qj) (VT : Int), Ss 65 [] [(4, qx VU 0), (5, .int .i64 VT)] H [V4] F a w ∧ (QT 61 5 VU VY V4) ∧ (zG.j4 K VY VT).wp kr kp) (fun UB Ul => ?_) ?_
 ·refine wp_seq ?_
  refine zb <| sM hS rfl fun hS => sO hS (xw rfl Tryz.runUnderlying23) rfl fun hS => sM hS rfl fun hS => qm <| z3 <| q6 (fun V5 a w => ∃ (VR : (List Int)) (VV : qj) (VQ : Int) (VP : Int), Ss 65 [] [(4, qx VU 0), (5, .int .i64 VQ), (8, .slice V0 VO.length V1), (9, .int .i64 (VO.length : Int)), (10, .int .i64 VP)] H [VV] F a w ∧ (QT 61 5 VU VR VV) ∧ (zG.l1 K VO V5 VR VQ VP).wp kr kp) K ?_ ?_ ?_
  ·exact ⟨([] : List Int), Uf, (0 : Int), (0 : Int), hS.to [0] (by kernel_rfl) ⟨rfl, rfl, rfl, rfl, rfl, trivial⟩, V2, hM⟩
  ·intro a w hI; obtain ⟨_, _, _, _, _, _, hM⟩ := hI; exact qX hM
  ·intro V5 a w hI UA V3
   obtain ⟨VR, VV, VQ, VP, hS, VZ, hM⟩ := hI
   rw [zG.l1] at hM
   refine qe <| sB hS rfl fun hS => qm <| wp_seq <| qo hS rfl hM (fun Un hM => ?_) (fun Un hM => ?_)
   ·refine wp_skip ?_
    refine qc <| wp_seq <| z3 <| wp_seq <| zb ?_
    obtain ⟨Uc, hM⟩ := qt hM
    refine sO hS (xF rfl rfl Tryz.runUnderlying23 Tryz.sizeOf30 Ud.wk (fun _ => rfl) rfl Uc) rfl fun hS => sO hS (jj rfl Ud.wk (fun _ => rfl) Uc Tryz.isAgg30 Tryz.sizeOf30 rfl) rfl fun hS => jz ([qN ([] : List UInt8), qN ([] : List UInt8)]) hS Tryz.zeroValue30 rfl rfl fun w V8 UC Uk hS => jn 0 ([qN ((rd VO VP).Type_), qN ((rd VO VP).Data_)]) ([qN ((rd VO VP).Type_), qN ((rd VO VP).Data_)]) hS rfl rfl Uk rfl rfl Tryz.sizeOf30 (by simp [Value.oneCell']) (Nat.le_of_ble_eq_true rfl) rfl fun w V9 VS hS => qm <| wp_seq <| z3 <| qe <| sO hS (zz rfl Tryz.runUnderlying30 rfl Tryz.sizeOf9 rfl) rfl fun hS => sO hS (zU 0 rfl VS rfl rfl Tryz.isAgg9) rfl fun hS => sO hS (ua rfl rfl rfl) rfl fun hS => sM hS rfl fun hS => xm 2 true 18 (b := ((rd VO VP).Type_ == ([73, 68, 65, 84] : List UInt8))) (r := (decide (VQ < (2 : Int)))) hS rfl rfl rfl rfl rfl rfl rfl (fun hb a w hS K hK => ?_) rfl fun a w hS => ?_
    ·refine qI hS rfl rfl rfl hb (mv rfl) rfl fun a w hS => ?_
     refine qI hS rfl rfl rfl hb (xN rfl rfl rfl) rfl fun a w hS => ?_
     exact qL (hK _ _ (hS.up 2 rfl rfl))
    refine qY (v := Value.bool) (x0 := (((rd VO VP).Type_ == ([73, 68, 65, 84] : List UInt8)) && (decide (VQ < (2 : Int))))) hS (zE rfl) rfl fun UE a w hz hS => ?_
    have hM := qp hz hM; clear hz
    refine qm <| qo hS rfl hM (fun Uo hM => ?_) (fun Uo hM => ?_)
    ·refine wp_seq ?_
     refine zb <| sA hS rfl fun hS => qm <| qe <| sO hS (zz rfl Tryz.runUnderlying30 rfl Tryz.sizeOf9 rfl) rfl fun hS => sO hS (zU 0 rfl VS rfl rfl Tryz.isAgg9) rfl fun hS => qq hS rfl Tryz.call32 (xe hG K VR ((rd VO VP).Data_) VU VV VZ (hS.st.part 1 [1, 0] (by kernel_rfl)) (qh hM) (fun UG Uj Ug w hM Uu hst => qn hS.ev hst.appF rfl fun hS => ?_))
     replace hS : Ss _ _ _ H [Ug, V9] F _ _ := hS
     refine qm <| wp_exit <| Zk rfl (qv (qO (qc ?_)))
     refine zb <| sB hS rfl fun hS => sM hS rfl fun hS => qL <| qc ?_
     exact V3 _ _ ⟨Uj, Ug, (1 : Int), (qi (VP + (1 : Int))), hS.to [0] (by kernel_rfl) ⟨rfl, rfl, rfl, rfl, rfl, trivial⟩, Uu, hM⟩
    ·refine wp_seq ?_
     refine zb <| sO hS (zz rfl Tryz.runUnderlying30 rfl Tryz.sizeOf9 rfl) rfl fun hS => sO hS (zU 0 rfl VS rfl rfl Tryz.isAgg9) rfl fun hS => sO hS (ua rfl rfl rfl) rfl fun hS => sM hS rfl fun hS => xm 3 false 29 (b := ((rd VO VP).Type_ == ([73, 68, 65, 84] : List UInt8))) (r := ((rd VO VP).Type_ == ([73, 72, 68, 82] : List UInt8))) hS rfl rfl rfl rfl rfl rfl rfl (fun hb a w hS K hK => ?_) rfl fun a w hS => ?_
     ·refine qI hS rfl rfl rfl hb (zz rfl Tryz.runUnderlying30 rfl Tryz.sizeOf9 rfl) rfl fun a w hS => ?_
      refine qI hS rfl rfl rfl hb (zU 0 rfl VS rfl rfl Tryz.isAgg9) rfl fun a w hS => qI hS rfl rfl rfl hb (ua rfl rfl rfl) rfl fun a w hS => ?_
      exact qL (hK _ _ (hS.up 3 rfl rfl))
     refine sM hS rfl fun hS => yA (fun a w => ∃ (Ue : Bool), Ss 65 [] [(4, qx VU 0), (5, .int .i64 VQ), (7, qx V8 0), (8, .slice V0 VO.length V1), (9, .int .i64 (VO.length : Int)), (10, .int .i64 VP), (43, .bool Ue)] H [VV, V9] F a w ∧ (zG.j3 K (zG.l1 K VO V5) VO VR VQ VP Ue).wp kr kp) 9 (fun Uz Ub => ?_) ?_
     ·refine Xi (b := (((rd VO VP).Type_ == ([73, 68, 65, 84] : List UInt8)) || ((rd VO VP).Type_ == ([73, 72, 68, 82] : List UInt8)))) hM (fun VW hM => ?_) (fun VW hM => ?_)
      ·replace hS := hS.re 33 (v := .bool true) rfl (congrArg Value.bool VW)
       replace hS := hS.re 34 (v := .bool true) rfl (congrArg Value.bool VW)
       refine vL 8 hS rfl fun a w hS => sO hS (pk rfl rfl rfl) rfl fun hS => qL <| qc ?_
       exact Ub _ _ ⟨true, hS.to [1, 0] (by kernel_rfl) ⟨rfl, rfl, rfl, rfl, rfl, rfl, rfl, trivial⟩, hM⟩
      ·replace hS := hS.re 33 (v := .bool false) rfl (congrArg Value.bool VW)
       replace hS := hS.re 34 (v := .bool false) rfl (congrArg Value.bool VW)
       refine qI hS rfl rfl rfl rfl (zz rfl Tryz.runUnderlying30 rfl Tryz.sizeOf9 rfl) rfl fun a w hS => qI hS rfl rfl rfl rfl (zU 0 rfl VS rfl rfl Tryz.isAgg9) rfl fun a w hS => qI hS rfl rfl rfl rfl (ua rfl rfl rfl) rfl fun a w hS => qI hS rfl rfl rfl rfl (mv rfl) rfl fun a w hS => yA (fun a w => ∃ (V6 : Bool) (V7 : Bool), Ss 65 [] [(4, qx VU 0), (5, .int .i64 VQ), (7, qx V8 0), (8, .slice V0 VO.length V1), (9, .int .i64 (VO.length : Int)), (10, .int .i64 VP), (34, .bool false), (35, qx V8 0), (36, qN ((rd VO VP).Type_)), (37, .bool V6), (38, .bool V6), (42, .bool V7)] H [VV, V9] F a w ∧ (zG.j2 K (zG.l1 K VO V5) VO VR VQ VP V6 V7).wp kr kp) 4 (fun Uy Ua => ?_) ?_
       ·refine Xi (b := ((rd VO VP).Type_ == ([73, 69, 78, 68] : List UInt8))) hM (fun VX hM => ?_) (fun VX hM => ?_)
        ·replace hS := hS.re 37 (v := .bool true) rfl (congrArg Value.bool VX)
         replace hS := hS.re 38 (v := .bool true) rfl (congrArg Value.bool VX)
         refine qI hS rfl rfl rfl rfl (zz rfl Tryz.runUnderlying30 rfl Tryz.sizeOf9 rfl) rfl fun a w hS => qI hS rfl rfl rfl rfl (zU 0 rfl VS rfl rfl Tryz.isAgg9) rfl fun a w hS => qI hS rfl rfl rfl rfl (ua rfl rfl rfl) rfl fun a w hS => qI hS rfl rfl rfl rfl (pk rfl rfl rfl) rfl fun a w hS => qL <| qc ?_
         exact Ua _ _ ⟨true, (!((rd VO VP).Data_ == ([] : List UInt8))), hS.to [1, 0] (by kernel_rfl) ⟨rfl, rfl, rfl, rfl, rfl, rfl, rfl, rfl, rfl, rfl, rfl, rfl, trivial⟩, hM⟩
        ·replace hS := hS.re 37 (v := .bool false) rfl (congrArg Value.bool VX)
         replace hS := hS.re 38 (v := .bool false) rfl (congrArg Value.bool VX)
         refine vL 3 hS rfl fun a w hS => qI hS rfl rfl rfl rfl (pk rfl rfl rfl) rfl fun a w hS => qL <| qc ?_
         exact Ua _ _ ⟨false, false, hS.to [1, 0] (by kernel_rfl) ⟨rfl, rfl, rfl, rfl, rfl, rfl, rfl, rfl, rfl, rfl, rfl, rfl, trivial⟩, hM⟩
       ·intro a w hI
        obtain ⟨V6, V7, hS, hM⟩ := hI
        rw [zG.j2] at hM
        refine sO hS (pk rfl rfl rfl) rfl fun hS => qL <| qc ?_
        exact Ub _ _ ⟨V7, hS.to [0, 1] (by kernel_rfl) ⟨rfl, rfl, rfl, rfl, rfl, rfl, rfl, trivial⟩, hM⟩
     ·intro a w hI
      obtain ⟨Ue, hS, hM⟩ := hI
      rw [zG.j3] at hM
      refine sA hS rfl fun hS => qm <| qo hS rfl hM (fun Up hM => ?_) (fun Up hM => ?_)
      ·refine wp_seq ?_
       refine zb <| sA hS rfl fun hS => sA hS rfl fun hS => qm <| wp_ret <| zc (qu (zc (qu (qu (zc (qu ?_))))))
       exact qP (rs := [2, 3]) hS rfl rfl (hret ([] : List UInt8) false _ (qG hM) (hS.st.pick [] (by kernel_rfl)))
      ·refine wp_seq ?_
       refine zb <| sO hS (zz rfl Tryz.runUnderlying30 rfl Tryz.sizeOf9 rfl) rfl fun hS => sO hS (zU 1 rfl VS rfl rfl Tryz.isAgg9) rfl fun hS => ?_
       obtain ⟨Us, hM⟩ := qt hM
       refine sO hS (u1 rfl rfl Tryz.runUnderlying9 Us) rfl fun hS => sB hS rfl fun hS => sM hS rfl fun hS => xm 3 true 49 (b := (decide (((rd ((rd VO VP).Type_) (0 : Int)).toNat : Int) ≤ (90 : Int)))) (r := (!((rd VO VP).Type_ == ([80, 76, 84, 69] : List UInt8)))) hS rfl rfl rfl rfl rfl rfl rfl (fun hb a w hS K hK => ?_) rfl fun a w hS => ?_
       ·refine qI hS rfl rfl rfl hb (zz rfl Tryz.runUnderlying30 rfl Tryz.sizeOf9 rfl) rfl fun a w hS => ?_
        refine qI hS rfl rfl rfl hb (zU 1 rfl VS rfl rfl Tryz.isAgg9) rfl fun a w hS => qI hS rfl rfl rfl hb (ua rfl rfl rfl) rfl fun a w hS => ?_
        exact qL (hK _ _ (hS.up 3 rfl rfl))
       refine sM hS rfl fun hS => xm 3 true 54 (b := ((decide (((rd ((rd VO VP).Type_) (0 : Int)).toNat : Int) ≤ (90 : Int))) && (!((rd VO VP).Type_ == ([80, 76, 84, 69] : List UInt8))))) (r := (!((rd VO VP).Type_ == ([73, 69, 78, 68] : List UInt8)))) hS rfl rfl rfl rfl rfl rfl rfl (fun hb a w hS K hK => ?_) rfl fun a w hS => ?_
       ·refine qI hS rfl rfl rfl hb (zz rfl Tryz.runUnderlying30 rfl Tryz.sizeOf9 rfl) rfl fun a w hS => ?_
        refine qI hS rfl rfl rfl hb (zU 1 rfl VS rfl rfl Tryz.isAgg9) rfl fun a w hS => qI hS rfl rfl rfl hb (ua rfl rfl rfl) rfl fun a w hS => ?_
        exact qL (hK _ _ (hS.up 3 rfl rfl))
       refine qY (v := Value.bool) (x0 := (((decide (((rd ((rd VO VP).Type_) (0 : Int)).toNat : Int) ≤ (90 : Int))) && (!((rd VO VP).Type_ == ([80, 76, 84, 69] : List UInt8)))) && (!((rd VO VP).Type_ == ([73, 69, 78, 68] : List UInt8))))) hS (zE rfl) rfl fun UF a w hz hS => ?_
       have hM := qp hz hM; clear hz
       refine qm <| qo hS rfl hM (fun Uq hM => ?_) (fun Uq hM => ?_)
       ·refine wp_seq ?_
        refine zb <| sA hS rfl fun hS => sA hS rfl fun hS => qm <| wp_ret <| zc (qu (zc (qu (qu (zc (qu ?_))))))
        exact qP (rs := [2, 3]) hS rfl rfl (hret ([] : List UInt8) false _ (qG hM) (hS.st.pick [] (by kernel_rfl)))
       ·refine wp_skip ?_
        refine qW (qc ?_)
        refine qe <| sM hS rfl fun hS => sB hS rfl fun hS => qm <| qo hS rfl hM (fun Ur hM => ?_) (fun Ur hM => ?_)
        ·refine zb ?_
         refine sA hS rfl fun hS => qL <| qW (qc ?_)
         refine zb <| sB hS rfl fun hS => sM hS rfl fun hS => qL <| qc ?_
         exact V3 _ _ ⟨VR, VV, (2 : Int), (qi (VP + (1 : Int))), hS.to [0] (by kernel_rfl) ⟨rfl, rfl, rfl, rfl, rfl, trivial⟩, VZ, hM⟩
        ·refine wp_skip ?_
         refine qW (qc ?_)
         refine zb <| sB hS rfl fun hS => sM hS rfl fun hS => qL <| qc ?_
         exact V3 _ _ ⟨VR, VV, VQ, (qi (VP + (1 : Int))), hS.to [0] (by kernel_rfl) ⟨rfl, rfl, rfl, rfl, rfl, trivial⟩, VZ, hM⟩
   ·refine wp_exit ?_
    refine qv (qv (qO (qc ?_)))
    exact Ul _ _ ⟨VR, VV, VQ, hS.to [0] (by kernel_rfl) ⟨rfl, rfl, trivial⟩, VZ, hM⟩
 ·intro a w hI
  obtain ⟨VY, V4, VT, hS, Um, hM⟩ := hI
  rw [zG.j4] at hM
  refine qe <| qq hS rfl Tryz.call35 (yh hG K VY VU V4 Um (hS.st.part 1 [0] (by kernel_rfl)) (qh hM) (fun Uw Ut w hM UD hst => qn hS.ev hst.appF rfl fun hS => ?_))
  replace hS : Ss _ _ _ H [Ut] F _ _ := hS
  refine sM hS rfl fun hS => sB hS rfl fun hS => sA hS rfl fun hS => qY (v := Value.bool) (x0 := (decide (VT > (0 : Int)))) hS (zE rfl) rfl fun Uv a w hz hS => ?_
  have hM := qp hz hM; clear hz
  refine qm <| wp_ret ?_
  exact qP (rs := [2, 3]) hS rfl rfl (hret Uw Uv _ (qG hM) (hS.st.pick [] (by kernel_rfl)))
theorem Xk {H : z7} {F : List qj} {w : World} {R : Ending → World → Prop} {kr : Unit → Prop} {kp : Value → Prop} (hG : Gl H) (K : Nat) (VO : List UInt8)
    (hS : St w H [] F) (hm : (Qx.m K VO).wp kr kp)
    (hret : ∀ (VP : Nat) (VQ : qj) (w : World), kr () → (xf VQ VP ([.int .i64 (0 : Int), qN VO]) 151) → St w H [VQ] F → R (.returned (qx VP 0)) w) :
    Calls Tryz.prog 75 ⟨[qN VO]⟩ w R := by
 refine enter Tryz.func75 rfl Tryz.ntmps75 rfl hS fun a w hS => ?_
 have hM := hm; clear hm
 rw [Qx.m] at hM
 refine qe <| sA hS rfl fun hS => qm <| qe <| sM hS rfl fun hS => sO hS (vI ([.int .i64 (0 : Int), qN VO]) [(0, 1), (1, 1)] Tryz.zeroValue151 Tryz.runUnderlying151 (by intro w; simp [Tryz.sizeOf125, Tryz.sizeOf9]) rfl rfl) rfl fun hS => bx ([.int .i64 (0 : Int), qN VO]) hS rfl rfl rfl fun w VS VT VR hS => sA hS rfl fun hS => qm <| wp_ret ?_
 exact qP (rs := [2]) hS rfl rfl (hret VS VT _ (qG hM) VR (hS.st.pick [0] (by kernel_rfl)))
theorem jM {H : z7} {F : List qj} {w : World} {R : Ending → World → Prop} {kr : (Int × Int × Int) → Prop} {kp : Value → Prop} (hG : Gl H) (K : Nat) (VO : qE) (VP : Int) (VR : Nat) (VT : qj) (VQ : xf VT VR ([.int .i64 VO.place_.at_, qN VO.text_]) 151)
    (hS : St w H [VT] F) (hm : (zR.m K VO VP).wp kr kp)
    (hret : ∀ (V2 : Int) (V3 : Int) (VW : Int) (VZ : qj) (w : World), kr (V2, V3, VW) → (xf VZ VR ([.int .i64 VW, qN VO.text_]) 151) → St w H [VZ] F → R (.returned (.tuple ⟨[.int .u32 V2, .int .i64 V3]⟩)) w) :
    Calls Tryz.prog 120 ⟨[qx VR 0, .int .i64 VP]⟩ w R := by
 refine enter Tryz.func120 rfl Tryz.ntmps120 rfl hS fun a w hS => ?_
 have hM := hm; clear hm
 rw [zR.m] at hM
 refine qe <| sA hS rfl fun hS => sA hS rfl fun hS => qm <| wp_seq <| z3 <| qe <| sM hS rfl fun hS => sO hS (uD rfl rfl Tryz.runUnderlying100) rfl fun hS => sM hS rfl fun hS => qI hS rfl rfl rfl rfl (mv rfl) rfl fun a w hS => qI hS rfl rfl rfl rfl (xN rfl rfl rfl) rfl fun a w hS => sO hS (pk rfl rfl rfl) rfl fun hS => sM hS rfl fun hS => xm 2 false 16 (b := (decide (VP < (0 : Int)))) (r := (decide (VP > (32 : Int)))) hS rfl rfl rfl rfl rfl rfl rfl (fun hb a w hS K hK => ?_) rfl fun a w hS => ?_
 ·refine qI hS rfl rfl rfl hb (mv rfl) rfl fun a w hS => ?_
  refine qI hS rfl rfl rfl hb (xN rfl rfl rfl) rfl fun a w hS => ?_
  exact qL (hK _ _ (hS.up 2 rfl rfl))
 refine qY (v := Value.bool) (x0 := ((decide (VP < (0 : Int))) || (decide (VP > (32 : Int))))) hS (zE rfl) rfl fun Ul a w hz hS => ?_
 have hM := qp hz hM; clear hz
 refine qm <| qo hS rfl hM (fun V7 hM => ?_) (fun V7 hM => ?_)
 ·refine wp_seq ?_
  refine zb <| sA hS rfl fun hS => sA hS rfl fun hS => qm <| wp_ret <| zc (qu ?_)
  exact qP (rs := [4, 5]) hS rfl rfl (hret (0 : Int) (1 : Int) VO.place_.at_ VT _ (qG hM) VQ (hS.st.pick [0] (by kernel_rfl)))
 ·refine wp_seq ?_
  obtain ⟨V1, VY⟩ : ∃ x, x = (decide (VP > (qi ((qi ((8 : Int) * (VO.text_.length : Int))) - VO.place_.at_)))) := ⟨_, rfl⟩
  replace hM := qp VY hM
  refine qM (vals := [some (.int .i64 VP), some (qx VR 0), some (qx VR 0), some (qx VR 1), some (qN VO.text_), some (.int .i64 (VO.text_.length : Int)), some (.int .i64 (qi ((8 : Int) * (VO.text_.length : Int)))), some (qx VR 0), some (qx VR 0), some (qx VR 0), some (qx VR 0), some (.int .i64 VO.place_.at_), some (.int .i64 (qi ((qi ((8 : Int) * (VO.text_.length : Int))) - VO.place_.at_))), some (.bool (decide (VP > (qi ((qi ((8 : Int) * (VO.text_.length : Int))) - VO.place_.at_))))), some (.bool V1)]) hS zV rfl ?_
  intro l w ho hcl hA hst
  refine xq hA hst ho hcl zW [0, 1, 2, 3, 4, 5, 6, 7, 8, 9, 10, 11, 12, 13, 14] rfl rfl rfl (by exact ⟨nM rfl, nM rfl, nQ rfl (by exact qJ (xM rfl) rfl), nQ rfl (by exact qJ (zz rfl Tryz.runUnderlying151 rfl Tryz.sizeOf9 rfl) rfl), nQ rfl (by exact qJ (zU 0 rfl VQ rfl rfl Tryz.isAgg9) rfl), nQ rfl (by exact qJ (ye rfl Tryz.runUnderlying9) rfl), nB rfl, nM rfl, nQ rfl (by exact qJ (xM rfl) rfl), nQ rfl (by exact qJ (zz rfl Tryz.runUnderlying151 rfl Tryz.sizeOf125 rfl) rfl), nQ rfl (by exact qJ (zz rfl Tryz.runUnderlying125 rfl Tryz.sizeOf3 rfl) rfl), nQ rfl (by exact qJ (zU 0 rfl VQ rfl rfl Tryz.isAgg3) rfl), nB rfl, nB rfl, nQ rfl (by exact qJ (zE rfl) (congrArg (Value.bool) VY.symm)), trivial⟩) fun a w hS => ?_
  replace hS := hS.env2 (e' := [(0, qx VR 0), (1, .int .i64 VP), (20, .bool V1)]) ⟨rfl, rfl, rfl, trivial⟩
  refine qc <| qo hS rfl hM (fun V8 hM => ?_) (fun V8 hM => ?_)
  ·refine wp_seq ?_
   refine zb <| sA hS rfl fun hS => sA hS rfl fun hS => qm <| wp_ret <| zc (qu ?_)
   exact qP (rs := [4, 5]) hS rfl rfl (hret (0 : Int) (2 : Int) VO.place_.at_ VT _ (qG hM) VQ (hS.st.pick [0] (by kernel_rfl)))
  ·refine wp_skip ?_
   refine qW (qc ?_)
   refine qe <| sA hS rfl fun hS => qm <| qe <| sM hS rfl fun hS => sO hS (xM rfl) rfl fun hS => sO hS (zz rfl Tryz.runUnderlying151 rfl Tryz.sizeOf125 rfl) rfl fun hS => sO hS (zz rfl Tryz.runUnderlying125 rfl Tryz.sizeOf3 rfl) rfl fun hS => sO hS (zU 0 rfl VQ rfl rfl Tryz.isAgg3) rfl fun hS => sO hS (quo rfl rfl rfl) rfl fun hS => qY (v := Value.int .i64) (x0 := (x5 .i64 VO.place_.at_ (8 : Int))) hS (zE rfl) rfl fun VS a w hz hS => ?_
   have hM := qp hz hM; clear hz
   refine qm <| qV (fun a w => ∃ (VX : Int), Ss 93 [] [(0, qx VR 0), (1, .int .i64 VP), (6, .int .u64 VX)] H [VT] F a w ∧ (zR.j2 K VO VP VX).wp kr kp) (fun Uk V6 => ?_) ?_
   ·refine wp_seq ?_
    refine zb <| sA hS rfl fun hS => qm <| z3 <| q6 (fun V0 a w => ∃ (VV : Int) (VU : Int), Ss 93 [] [(0, qx VR 0), (1, .int .i64 VP), (6, .int .u64 VV), (7, .int .i64 VS), (8, .int .i64 VU)] H [VT] F a w ∧ (zR.l1 K VO VP VS V0 VV VU).wp kr kp) K ?_ ?_ ?_
    ·exact ⟨(0 : Int), (0 : Int), hS.to [0] (by kernel_rfl) ⟨rfl, rfl, rfl, rfl, rfl, trivial⟩, hM⟩
    ·intro a w hI; obtain ⟨_, _, _, hM⟩ := hI; exact qX hM
    ·intro V0 a w hI Uj V5
     obtain ⟨VV, VU, hS, hM⟩ := hI
     rw [zR.l1] at hM
     refine wp_seq <| qe <| sM hS rfl fun hS => sM hS rfl fun hS => sB hS rfl fun hS => sB hS rfl fun hS => sM hS rfl fun hS => sO hS (xM rfl) rfl fun hS => sO hS (zz rfl Tryz.runUnderlying151 rfl Tryz.sizeOf125 rfl) rfl fun hS => sO hS (zz rfl Tryz.runUnderlying125 rfl Tryz.sizeOf3 rfl) rfl fun hS => sO hS (zU 0 rfl VQ rfl rfl Tryz.isAgg3) rfl fun hS => sM hS rfl fun hS => sB hS rfl fun hS => sB hS rfl fun hS => qm <| qo hS rfl hM (fun V9 hM => ?_) (fun V9 hM => ?_)
     ·refine wp_skip ?_
      refine qc <| wp_seq <| z3 <| zb <| sM hS rfl fun hS => sM hS rfl fun hS => sO hS (xM rfl) rfl fun hS => sO hS (zz rfl Tryz.runUnderlying151 rfl Tryz.sizeOf9 rfl) rfl fun hS => sO hS (zU 0 rfl VQ rfl rfl Tryz.isAgg9) rfl fun hS => sM hS rfl fun hS => sM hS rfl fun hS => sB hS rfl fun hS => ?_
      obtain ⟨Ua, hM⟩ := qt hM
      refine sO hS (u1 rfl rfl Tryz.runUnderlying9 Ua) rfl fun hS => sO hS (yT rfl Tryz.runUnderlying5 Tryz.runUnderlying50) rfl fun hS => sM hS rfl fun hS => sB hS rfl fun hS => ?_
      obtain ⟨Ub, hM⟩ := qt hM
      refine sO hS (shl rfl rfl Ub) rfl fun hS => sB hS rfl fun hS => qY (v := Value.int .u64) (x0 := (uk .u64 VV (z1 .u64 (wr .u64 ((rd VO.text_ (qi (VS + VU))).toNat : Int)) (qi ((8 : Int) * VU))))) hS (zE rfl) rfl fun Ug a w hz hS => ?_
      have hM := qp hz hM; clear hz
      refine qL <| qW (qc ?_)
      refine zb <| sM hS rfl fun hS => sB hS rfl fun hS => qY (v := Value.int .i64) (x0 := (qi (VU + (1 : Int)))) hS (zE rfl) rfl fun Uf a w hz hS => ?_
      have hM := qp hz hM; clear hz
      refine qL <| qc ?_
      exact V5 _ _ ⟨Ug, Uf, hS.to [0] (by kernel_rfl) ⟨rfl, rfl, rfl, rfl, rfl, trivial⟩, hM⟩
     ·refine wp_exit ?_
      refine qv (qv (qO (qc ?_)))
      exact V6 _ _ ⟨VV, hS.to [0] (by kernel_rfl) ⟨rfl, rfl, rfl, trivial⟩, hM⟩
   ·intro a w hI
    obtain ⟨VX, hS, hM⟩ := hI
    rw [zR.j2] at hM
    refine qe <| sM hS rfl fun hS => sM hS rfl fun hS => sO hS (xM rfl) rfl fun hS => sO hS (zz rfl Tryz.runUnderlying151 rfl Tryz.sizeOf125 rfl) rfl fun hS => sO hS (zz rfl Tryz.runUnderlying125 rfl Tryz.sizeOf3 rfl) rfl fun hS => sO hS (zU 0 rfl VQ rfl rfl Tryz.isAgg3) rfl fun hS => sB hS rfl fun hS => ?_
    obtain ⟨Uc, hM⟩ := qt hM
    refine sO hS (shr rfl rfl Uc) rfl fun hS => qY (v := Value.int .u64) (x0 := (zX .u64 VX (xi .i64 VO.place_.at_ (7 : Int)))) hS (zE rfl) rfl fun Uh a w hz hS => ?_
    have hM := qp hz hM; clear hz
    refine qm <| qe <| sM hS rfl fun hS => sO hS (xM rfl) rfl fun hS => sO hS (zz rfl Tryz.runUnderlying151 rfl Tryz.sizeOf125 rfl) rfl fun hS => sO hS (zz rfl Tryz.runUnderlying125 rfl Tryz.sizeOf3 rfl) rfl fun hS => sO hS (zU 0 rfl VQ rfl rfl Tryz.isAgg3) rfl fun hS => sM hS rfl fun hS => sB hS rfl fun hS => sO hS (xM rfl) rfl fun hS => sO hS (zz rfl Tryz.runUnderlying151 rfl Tryz.sizeOf125 rfl) rfl fun hS => sO hS (zz rfl Tryz.runUnderlying125 rfl Tryz.sizeOf3 rfl) rfl fun hS => Qr 0 ([.int .i64 (qi (VO.place_.at_ + VP)), qN VO.text_]) hS rfl rfl VQ rfl rfl rfl rfl Tryz.sizeOf3 fun w Ue V4 hS => qm <| qe <| sM hS rfl fun hS => sM hS rfl fun hS => ?_
    obtain ⟨Ud, hM⟩ := qt hM
    refine sO hS (shl rfl rfl Ud) rfl fun hS => sB hS rfl fun hS => sB hS rfl fun hS => sO hS (yT rfl Tryz.runUnderlying50 Tryz.runUnderlying56) rfl fun hS => qY (v := Value.int .u32) (x0 := (wr .u32 (xi .u64 Uh (wr .u64 ((z1 .u64 (1 : Int) VP) - (1 : Int)))))) hS (zE rfl) rfl fun Ui a w hz hS => ?_
    have hM := qp hz hM; clear hz
    refine sA hS rfl fun hS => qm <| wp_ret ?_
    exact qP (rs := [4, 5]) hS rfl rfl (hret Ui (0 : Int) (qi (VO.place_.at_ + VP)) Ue _ (qG hM) V4 (hS.st.pick [0] (by kernel_rfl)))
theorem y8 {H : z7} {F : List qj} {w : World} {R : Ending → World → Prop} {kr : Unit → Prop} {kp : Value → Prop} (hG : Gl H) (K : Nat) (VO : Int)
    (hS : St w H [] F) (hm : (yO.m K VO).wp kr kp)
    (hret : ∀ (w : World), kr () → St w H [] F → R (.returned (.tuple ⟨[]⟩)) w)
    (hpan : ∀ v w, kp v → St w H [] F → R (.panicked [⟨v, false, false⟩]) w) :
    Calls Tryz.prog 121 ⟨[.int .i64 VO]⟩ w R := by
 refine enter Tryz.func121 rfl Tryz.ntmps121 rfl hS fun a w hS => ?_
 have hM := hm; clear hm
 rw [yO.m] at hM
 refine qe <| sM hS rfl fun hS => sB hS rfl fun hS => qm <| qo hS rfl hM (fun VP hM => ?_) (fun VP hM => ?_)
 ·refine zb ?_
  refine sM hS rfl fun hS => sO hS (vI ([.int .i64 VO]) [(0, 1)] Tryz.zeroValue98 Tryz.runUnderlying98 (by intro w; simp [Tryz.sizeOf24]) rfl rfl) rfl fun hS => sO hS (Jq rfl Tryz.runUnderlying98 rfl) rfl fun hS => v8 hS rfl ?_
  exact ⟨hS.ev.defs, hpan _ _ (Qa hM) hS.st.frame⟩
 ·refine wp_skip ?_
  exact yW (rs := []) hS rfl rfl (hret _ (qG hM) (hS.st.pick [] (by kernel_rfl)))
theorem zD {H : z7} {F : List qj} {w : World} {R : Ending → World → Prop} {kr : (Int × Int) → Prop} {kp : Value → Prop} (hG : Gl H) (K : Nat) (VO : qw) (VR : Int) (VY : Nat) (VP : qj) (VT : Nat) (VU : qj) (VX : Option Addr) (VZ : Nat) (VQ : qj) (V2 : xf VP VY ([qx VT 0, .slice VX VO.out_.length VZ, .int .i64 VO.limit_]) 103) (V3 : xf VU VT ([.int .i64 VO.Reader_.place_.at_, qN VO.Reader_.text_]) 151) (V8 : zM 5 (ci .u8) 1 VX VO.out_ VZ VQ)
    (hS : St w H [VP, VU, VQ] F) (hm : (zB.m K VO VR).wp kr kp)
    (hret : ∀ (V1 : Int) (VS : Int) (V0 : qj) (w : World), kr (V1, VS) → (xf V0 VT ([.int .i64 VS, qN VO.Reader_.text_]) 151) → St w H [VP, V0, VQ] F → R (.returned (.int .i64 V1)) w)
    (hpan : ∀ v w, kp v → St w H [] F → R (.panicked [⟨v, false, false⟩]) w) :
    Calls Tryz.prog 95 ⟨[qx VY 0, .int .i64 VR]⟩ w R := by
 refine enter Tryz.func95 rfl Tryz.ntmps95 rfl hS fun a w hS => ?_
 have hM := hm; clear hm
 rw [zB.m] at hM
 refine qe <| sA hS rfl fun hS => qm <| qe <| sM hS rfl fun hS => sO hS (xM rfl) rfl fun hS => sO hS (zz rfl Tryz.runUnderlying103 rfl Tryz.sizeOf100 rfl) rfl fun hS => sO hS (zU 0 rfl V2 rfl rfl Tryz.isAgg100) rfl fun hS => sM hS rfl fun hS => qq hS rfl Tryz.call120 (jM hG K VO.Reader_ VR VT VU V3 (hS.st.part 1 [1, 0, 2] (by kernel_rfl)) (qh hM) (fun V6 V7 VW VV w hM V4 hst => qn hS.ev hst.appF rfl fun hS => ?_))
 replace hS : Ss _ _ _ H [VV, VP, VQ] F _ _ := hS
 refine sM hS rfl fun hS => sO hS (ex rfl rfl) rfl fun hS => sO hS (ex rfl rfl) rfl fun hS => sA hS rfl fun hS => sA hS rfl fun hS => qm <| qe <| sM hS rfl fun hS => qq hS rfl Tryz.call121 (y8 hG K V7 (hS.st.part 0 [0, 1, 2] (by kernel_rfl)) (qh hM) (fun  w hM  hst => qn hS.ev hst.appF rfl fun hS => ?_) (fun v w hk hst => zY (qB (⟨hS.ev.defs, hpan _ _ hk hst.appF.frame⟩))))
 replace hS : Ss _ _ _ H [VV, VP, VQ] F _ _ := hS
 refine qm <| qe <| sM hS rfl fun hS => sO hS (yT rfl Tryz.runUnderlying56 Tryz.runUnderlying3) rfl fun hS => qY (v := Value.int .i64) (x0 := (wr .i64 V6)) hS (zE rfl) rfl fun V5 a w hz hS => ?_
 have hM := qp hz hM; clear hz
 refine qm <| wp_ret ?_
 exact qP (rs := [4]) hS rfl rfl (hret V5 VW VV _ (qG hM) V4 (hS.st.pick [1, 0, 2] (by kernel_rfl)))
end Go.TryzS

