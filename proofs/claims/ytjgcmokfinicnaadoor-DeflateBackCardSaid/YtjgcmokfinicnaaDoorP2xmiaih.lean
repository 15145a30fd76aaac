/- Printed by a program of mine: each Go function answers what its model answers; conditions: what each theorem asks of memory. -/
import Derived.Test.YtjgcmokfinicnaaDoorP1xnfeji
set_option linter.unusedVariables false
set_option linter.unusedSimpArgs false
set_option maxRecDepth 100000
namespace Go.TrydS
open Go Go.Sl Go.Mo Go.Proofs
attribute [local irreducible] qN.wp
theorem Yf {H : xU} {F : List qm} {w : World} {R : Ending → World → Prop} {kr : (List qb) → Prop} {kp : Value → Prop} (hG : Gl H) (K : Nat) (LO : List qb) (LP : List qb) (LB : qm) (LT : Option Addr) (LV : Nat) (LD : List (z2 2)) (LU : Option Addr) (LW : Nat) (LE : List (z2 2)) (LK : zN (ql LB) LO LD) (LI : Pl LB (z2.v (sz := 2)) LT LD) (Mc : LD.length ≤ LV) (LL : zN (ql LB) LP LE) (LJ : Pl LB (z2.v (sz := 2)) LU LE) (Md : LE.length ≤ LW)
    (hS : St w H [LB] F) (hm : (yK.m K LO LP).wp kr kp)
    (hret : ∀ (L4 : qm) (L5 : Option Addr) (L6 : Nat) (LZ : List (z2 2)) (Mb : (List qb)) (Ma : qm) (w : World), kr Mb → (∀ q ∈ LB, q ∈ L4) → (xh 112 (z2.v (sz := 2)) 2 L5 LZ L6 Ma) → (zN (ql L4) Mb LZ) → St w H [L4, Ma] F → R (.returned (.slice L5 LZ.length L6)) w)
    (hpan : ∀ v w, kp v → St w H [] F → R (.panicked [⟨v, false, false⟩]) w) :
    Calls Tryd.prog 59 ⟨[.slice LT LD.length LV, .slice LU LE.length LW]⟩ w R := by
 refine enter Tryd.func59 rfl Tryd.ntmps59 rfl hS fun a w hS => ?_
 have hM := hm; clear hm
 rw [yK.m] at hM
 have LN : ∀ q ∈ LB, q ∈ LB := fun _ h => h
 refine qk <| sA hS rfl fun hS => ?_
 obtain ⟨L7, Mq, hS⟩ := hS.nilV 112 (z2.v (sz := 2)) 2
 have LQ : zN (ql LB) ([] : List qb) ([] : List (z2 2)) := zN.nil
 refine qz <| qk <| sM hS rfl fun hS => sM hS rfl fun hS => ?_
 obtain ⟨LY, hrw⟩ : ∃ r, r = ([(⟨[.slice LT LD.length LV], by simp, by simp [Value.oneCell']⟩ : z2 1), (⟨[.slice LU LE.length LW], by simp, by simp [Value.oneCell']⟩ : z2 1)] : List (z2 1)) := ⟨_, rfl⟩
 have LM : zN (xP LB) ([LO, LP] : List (List qb)) LY := by rw [hrw]; exact (zN.cons (show xP LB _ _ from ⟨LT, LV, LD, rfl, LK, LI, Mc⟩) (zN.cons (show xP LB _ _ from ⟨LU, LW, LE, rfl, LL, LJ, Md⟩) zN.nil))
 refine Xs (g := (z2.v (sz := 1))) LY [.slice LT LD.length LV, .slice LU LE.length LW] hS Tryd.runUnderlying165 Tryd.sizeOf110 X.el110 rfl rfl rfl (by simp [Value.cells]) (by rw [hrw]; rfl) (by rw [hrw]; rfl) rfl rfl rfl fun w Mg Mh Mr L3 hS => ?_
 clear hrw
 replace hS := hS.front [0, 2, 1] (by kernel_rfl)
 obtain ⟨Mm, Mf, LC, hS⟩ := hS.poolF
 have Me := L3.cap z2.len rfl
 have LX := L3.pl.mono Mf
 replace LI := LI.mono LC
 replace LJ := LJ.mono LC
 replace LK := zN.mono (fun _ _ h => ql.mono LC h) LK
 replace LL := zN.mono (fun _ _ h => ql.mono LC h) LL
 replace LQ := zN.mono (fun _ _ h => ql.mono LC h) LQ
 replace LM := zN.mono (fun _ _ h => xP.mono LC h) LM
 replace LN := fun q h => LC q (LN q h)
 refine qK hS rfl Tryd.call83 (yQ hG K ([LO, LP] : List (List qb)) Mm Mg Mh LY LM LX Me (hS.st.part 1 [0, 1] (by kernel_rfl)) (qx hM) (fun L0 LF LG LR Mn L8 w hM LH Mi Mj hst => qJ hS.ev hst.appF rfl fun hS => ?_) (fun v w hk hst => vr (xf (⟨hS.ev.defs, hpan _ _ hk hst.appF.frame⟩))))
 replace hS : Ss _ _ _ H [L0, L8, L7] F _ _ := hS
 replace LI := LI.mono LH
 replace LJ := LJ.mono LH
 replace LX := LX.mono LH
 replace LK := zN.mono (fun _ _ h => ql.mono LH h) LK
 replace LL := zN.mono (fun _ _ h => ql.mono LH h) LL
 replace LQ := zN.mono (fun _ _ h => ql.mono LH h) LQ
 replace LM := zN.mono (fun _ _ h => xP.mono LH h) LM
 replace LN := fun q h => LH q (LN q h)
 refine sA hS rfl fun hS => qz <| qk <| sM hS rfl fun hS => qK hS rfl Tryd.call56 (xu 84 (.inr rfl) hG K Mn L0 LF LG LR L8 Mj Mi (hS.st.part 2 [0, 1, 2] (by kernel_rfl)) (qx hM) (fun LS Mp L9 w hM Mk Ml L1 hst => qJ hS.ev hst.appF rfl fun hS => ?_))
 replace hS : Ss _ _ _ H [L0, L9, L7] F _ _ := hS
 replace hS := hS.re 5 (u := .slice LF LR.length LG) (v := .slice LF LS.length LG) rfl (by rw [L1])
 replace hS := hS.re 9 (u := .slice LF LR.length LG) (v := .slice LF LS.length LG) rfl (by rw [L1])
 replace hS := hS.re 10 (u := .slice LF LR.length LG) (v := .slice LF LS.length LG) rfl (by rw [L1])
 refine qz <| qk <| sM hS rfl fun hS => sA hS rfl fun hS => qz <| wp_ret ?_
 exact zm (rs := [4]) hS rfl rfl (hret L0 LF LG LS Mp L9 _ (qU hM) LN Mk Ml (hS.st.pick [0, 1] (by kernel_rfl)))
theorem Qq {H : xU} {F : List qm} {w : World} {R : Ending → World → Prop} {kr : ((List Int) × Int) → Prop} {kp : Value → Prop} (hG : Gl H) (K : Nat) (LB : List Int) (LC : Int) (L7 : Option Addr) (L8 : Nat) (MC : jn H [] F (ci .i64) L7 LB) (NW : LB.length ≤ L8)
    (hS : St w H [] F) (hm : (qD.m K LB LC).wp kr kp)
    (hret : ∀ (Nn : Option Addr) (Np : Nat) (Nl : (List Int)) (Nq : qm) (Ny : Int) (w : World), kr (Nl, Ny) → (xh 3 (ci .i64) 1 Nn Nl Np Nq) → St w H [Nq] F → R (.returned (.tuple ⟨[.slice Nn Nl.length Np, .int .i64 Ny]⟩)) w)
    (hpan : ∀ v w, kp v → St w H [] F → R (.panicked [⟨v, false, false⟩]) w) :
    Calls Tryd.prog 40 ⟨[.slice L7 LB.length L8, .int .i64 LC]⟩ w R := by
 refine enter Tryd.func40 rfl Tryd.ntmps40 rfl hS fun a w hS => ?_
 have hM := hm; clear hm
 rw [qD.m] at hM
 refine qk <| sA hS rfl fun hS => ?_
 obtain ⟨Ps, PN, hS⟩ := hS.nilV 3 (ci .i64) 1
 refine sA hS rfl fun hS => qz <| wp_seq <| qk <| sM hS rfl fun hS => sB hS rfl fun hS => sM hS rfl fun hS => yw 2 false 17 (b := (decide (LC < (1 : Int)))) (r := (decide (LC > (15 : Int)))) hS rfl rfl rfl rfl rfl rfl rfl (fun hb a w hS K hK => ?_) rfl fun a w hS => ?_
 ·refine zK hS rfl rfl rfl hb (mv rfl) rfl fun a w hS => ?_
  refine zK hS rfl rfl rfl hb (yZ rfl rfl rfl) rfl fun a w hS => ?_
  exact zd (hK _ _ (hS.up 2 rfl rfl))
 refine sM hS rfl fun hS => yw 3 false 21 (b := ((decide (LC < (1 : Int))) || (decide (LC > (15 : Int))))) (r := (decide ((LB.length : Int) > (320 : Int)))) hS rfl rfl rfl rfl rfl rfl rfl (fun hb a w hS K hK => ?_) rfl fun a w hS => ?_
 ·refine zK hS rfl rfl rfl hb (mv rfl) rfl fun a w hS => ?_
  refine zK hS rfl rfl rfl hb (ya rfl Tryd.runUnderlying45) rfl fun a w hS => zK hS rfl rfl rfl hb (yZ rfl rfl rfl) rfl fun a w hS => ?_
  exact zd (hK _ _ (hS.up 3 rfl rfl))
 refine sM hS rfl fun hS => v4 (fun a w => ∃ (Nk : Bool), Ss 109 [] [(0, .slice L7 LB.length L8), (1, .int .i64 LC), (29, .bool Nk)] H [] F a w ∧ (qD.j1 K LB LC Nk).wp kr kp) 3 (fun PW MS => ?_) ?_
 ·refine UM (b := (((decide (LC < (1 : Int))) || (decide (LC > (15 : Int)))) || (decide ((LB.length : Int) > (320 : Int))))) hM (fun Mb hM => ?_) (fun Mb hM => ?_)
  ·replace hS := hS.re 25 (v := .bool true) rfl (congrArg Value.bool Mb)
   replace hS := hS.re 26 (v := .bool true) rfl (congrArg Value.bool Mb)
   refine X4 2 hS rfl fun a w hS => sO hS (pk rfl rfl rfl) rfl fun hS => zd <| qc ?_
   exact MS _ _ ⟨true, hS.to [] (by kernel_rfl) ⟨rfl, rfl, rfl, trivial⟩, hM⟩
  ·replace hS := hS.re 25 (v := .bool false) rfl (congrArg Value.bool Mb)
   replace hS := hS.re 26 (v := .bool false) rfl (congrArg Value.bool Mb)
   refine zK hS rfl rfl rfl rfl (mv rfl) rfl fun a w hS => Xk hS rfl rfl rfl rfl <| qK hS rfl Tryd.call54 (jl hG K LB L7 L8 (MC.app _) NW (hS.st.part 0 [0] (by kernel_rfl)) (qx hM) (fun PJ w hM  hst => qJ hS.ev hst.appF rfl fun hS => ?_))
   replace hS : Ss _ _ _ H [Ps] F _ _ := hS
   refine sO hS (pk rfl rfl rfl) rfl fun hS => zd <| qc ?_
   exact MS _ _ ⟨PJ, hS.to [] (by kernel_rfl) ⟨rfl, rfl, rfl, trivial⟩, hM⟩
 ·intro a w hI
  obtain ⟨Nk, hS, hM⟩ := hI
  rw [qD.j1] at hM
  refine qz <| qy hS rfl hM (fun NN hM => ?_) (fun NN hM => ?_)
  ·refine wp_seq ?_
   refine zI <| sA hS rfl fun hS => ?_
   obtain ⟨Pt, NG, hS⟩ := hS.nilV 3 (ci .i64) 1
   refine sA hS rfl fun hS => qz <| wp_ret <| qA ?_
   exact zm (rs := [4, 5]) hS rfl rfl (hret none (0) ([] : List Int) Pt (1 : Int) _ (qU hM) NG (hS.st.pick [0] (by kernel_rfl)))
  ·refine wp_skip ?_
   refine qc <| qk <| sA hS rfl fun hS => ?_
   obtain ⟨Nx, hS⟩ := hS.pool0
   obtain ⟨Pv, NH, hS⟩ := hS.nilV 112 (z2.v (sz := 2)) 2
   have N7 : zN (ql Nx) ([] : List qb) ([] : List (z2 2)) := zN.nil
   refine qz <| zx (fun a w => ∃ (Mi : qm) (LK : Option Addr) (LL : Nat) (LR : List (z2 2)) (LD : (List qb)) (Mu : qm), Ss 109 [] [(0, .slice L7 LB.length L8), (1, .int .i64 LC), (6, .slice LK LR.length LL)] H [Mi, Mu] F a w ∧ (xh 112 (z2.v (sz := 2)) 2 LK LR LL Mu) ∧ (zN (ql Mi) LD LR) ∧ (qD.j3 K LB LC LD).wp kr kp) (fun PY NB => ?_) ?_
   ·refine wp_seq ?_
    refine zI <| sM hS rfl fun hS => sO hS (ya rfl Tryd.runUnderlying45) rfl fun hS => sM hS rfl fun hS => qz <| xJ <| zv (fun Nu a w => ∃ (Mw : qm) (Mp : Option Addr) (Mr : Nat) (L3 : List (z2 2)) (LH : (List qb)) (Mt : qm) (LS : Int), Ss 109 [] [(0, .slice L7 LB.length L8), (1, .int .i64 LC), (6, .slice Mp L3.length Mr), (30, .slice L7 LB.length L8), (31, .int .i64 (LB.length : Int)), (32, .int .i64 LS)] H [Mw, Mt] F a w ∧ (xh 112 (z2.v (sz := 2)) 2 Mp L3 Mr Mt) ∧ (zN (ql Mw) LH L3) ∧ (qD.l2 K LB LC Nu LH LS).wp kr kp) K ?_ ?_ ?_
    ·exact ⟨Nx, none, 0, ([] : List (z2 2)), ([] : List qb), Pv, (0 : Int), hS.to [1, 0] (by kernel_rfl) ⟨rfl, rfl, rfl, rfl, rfl, rfl, trivial⟩, NH, N7, hM⟩
    ·intro a w hI; obtain ⟨_, _, _, _, _, _, _, _, _, _, hM⟩ := hI; exact zr hM
    ·intro Nu a w hI PX MT
     obtain ⟨Mw, Mp, Mr, L3, LH, Mt, LS, hS, My, L1, hM⟩ := hI
     rw [qD.l2] at hM
     refine qk <| sB hS rfl fun hS => qz <| wp_seq <| qy hS rfl hM (fun NO hM => ?_) (fun NO hM => ?_)
     ·refine wp_skip ?_
      refine qc <| wp_seq <| xJ <| qk <| sM hS rfl fun hS => ?_
      obtain ⟨M3, hM⟩ := qE hM
      refine sO hS (x6 rfl rfl Tryd.runUnderlying45 Tryd.sizeOf3 MC.wk (fun _ => rfl) rfl M3) rfl fun hS => sO hS (x9 rfl MC.wk (fun _ => rfl) M3 rfl Tryd.isAgg3) rfl fun hS => sA hS rfl fun hS => zH (v := Value.int .i64) (x0 := (rd LB LS)) hS (xv rfl) rfl fun Mf a w hz hS => ?_
      have hM := qB hz hM; clear hz
      refine qz <| qk <| sM hS rfl fun hS => sB hS rfl fun hS => qz <| qy hS rfl hM (fun NP hM => ?_) (fun NP hM => ?_)
      ·refine zI ?_
       refine sM hS rfl fun hS => sM hS rfl fun hS => sM hS rfl fun hS => Xs (g := (ci .i64)) ([LS] : List Int) [.int .i64 LS] hS Tryd.runUnderlying45 Tryd.sizeOf3 X.el3 rfl rfl rfl (by simp [Value.cells]) rfl rfl rfl rfl rfl fun w MG MH P7 MV hS => sO hS (Zq ([.int .i64 Mf, .slice MG ([LS] : List Int).length MH]) [(0, 1), (1, 1)] Tryd.zeroValue112 Tryd.runUnderlying112 (by intro w; simp [Tryd.sizeOf3, Tryd.sizeOf45]) rfl rfl) rfl fun hS => ?_
       replace hS := hS.front [0, 1, 2] (by kernel_rfl)
       obtain ⟨Nh, N9, Pa, hS⟩ := hS.poolF
       have NX := MV.cap (fun _ => rfl) rfl
       have N5 := MV.pl.mono N9
       replace L1 := zN.mono (fun _ _ h => ql.mono Pa h) L1
       obtain ⟨ME, hrw⟩ : ∃ r, r = ([(⟨[.int .i64 Mf, .slice MG ([LS] : List Int).length MH], by simp, by simp [Value.oneCell']⟩ : z2 2)] : List (z2 2)) := ⟨_, rfl⟩
       have Nb : zN (ql Nh) ([(qb.mk Mf ([LS] : List Int))] : List qb) ME := by rw [hrw]; exact (zN.cons (show ql Nh _ _ from ⟨MG, MH, rfl, N5, NX⟩) zN.nil)
       refine Xs (g := (z2.v (sz := 2))) ME [.agg ⟨[.int .i64 Mf, .slice MG ([LS] : List Int).length MH]⟩] hS Tryd.runUnderlying110 Tryd.sizeOf112 X.el112 rfl rfl rfl (by simp [Value.cells]) (by rw [hrw]; rfl) (by rw [hrw]; rfl) rfl rfl rfl fun w PU P5 P8 NI hS => ?_
       clear hrw
       obtain ⟨N1, hM⟩ := qE hM
       refine Yk (ys := ME) 2 hS rfl rfl My rfl (NI.rd (i := 0) rfl) Tryd.runUnderlying110 Tryd.runUnderlying110 X.el112 z2.len rfl Xc (L1.room Nb N1) rfl fun Ph w Pm Pp Pw hz NJ hS => ?_
       obtain ⟨Pk, hzm⟩ := ur (LH ++ ([(qb.mk Mf ([LS] : List Int))] : List qb))
       replace hM := qB hzm hM
       have Nc := zN.append L1 Nb
       rw [← hz, ← hzm] at Nc; clear hz hzm
       refine sA hS rfl fun hS => zd <| zz (qc ?_)
       refine zI <| sB hS rfl fun hS => sM hS rfl fun hS => zd <| qc ?_
       exact MT _ _ ⟨Nh, Pm, Pp, Ph, Pk, Pw, (qi (LS + (1 : Int))), hS.to [1, 2] (by kernel_rfl) ⟨rfl, rfl, rfl, rfl, rfl, rfl, trivial⟩, NJ, Nc, hM⟩
      ·refine wp_skip ?_
       refine zz (qc ?_)
       refine zI <| sB hS rfl fun hS => sM hS rfl fun hS => zd <| qc ?_
       exact MT _ _ ⟨Mw, Mp, Mr, L3, LH, Mt, (qi (LS + (1 : Int))), hS.to [0, 1] (by kernel_rfl) ⟨rfl, rfl, rfl, rfl, rfl, rfl, trivial⟩, My, L1, hM⟩
     ·refine wp_exit ?_
      refine qC (qC (q9 (qc ?_)))
      exact NB _ _ ⟨Mw, Mp, Mr, L3, LH, Mt, hS.to [0, 1] (by kernel_rfl) ⟨rfl, rfl, rfl, trivial⟩, My, L1, hM⟩
   ·intro a w hI
    obtain ⟨Mi, LK, LL, LR, LD, Mu, hS, Mj, LU, hM⟩ := hI
    rw [qD.j3] at hM
    refine wp_seq <| qk <| sM hS rfl fun hS => sO hS (qY (v' := .int .i64 (LD.length : Int)) (ya rfl Tryd.runUnderlying110) (by rw [LU.len])) rfl fun hS => sM hS rfl fun hS => ?_
    obtain ⟨N2, hM⟩ := qE hM
    refine sO hS (shl rfl rfl N2) rfl fun hS => sB hS rfl fun hS => qz <| qy hS rfl hM (fun NQ hM => ?_) (fun NQ hM => ?_)
    ·refine wp_seq ?_
     refine zI <| sA hS rfl fun hS => ?_
     obtain ⟨Px, NK, hS⟩ := hS.nilV 3 (ci .i64) 1
     refine sA hS rfl fun hS => qz <| wp_ret <| qA ?_
     exact zm (rs := [4, 5]) hS rfl rfl (hret none (0) ([] : List Int) Px (1 : Int) _ (qU hM) NK (hS.st.pick [0] (by kernel_rfl)))
    ·refine wp_skip ?_
     refine qc <| qk <| sM hS rfl fun hS => sO hS (ya rfl Tryd.runUnderlying45) rfl fun hS => ?_
     obtain ⟨N3, hM⟩ := qE hM
     refine Ui (g := (ci .i64)) (m := (LB.length : Int)) (0 : Int) hS rfl rfl (by simp) Tryd.runUnderlying45 X.el3 (fun w => ⟨_, Tryd.zeroValue3 w, rfl⟩) (fun _ => rfl) rfl rfl N3 rfl fun Mm w LE LF Py hz Mz hS => ?_
     have hM := qB hz hM; clear hz
     refine sA hS rfl fun hS => qz <| zx (fun a w => ∃ (LJ : (List Int)) (LW : qm), Ss 109 [] [(1, .int .i64 LC), (6, .slice LK LR.length LL), (9, .slice LE LJ.length LF)] H [Mi, Mu, LW] F a w ∧ (xh 3 (ci .i64) 1 LE LJ LF LW) ∧ (qD.j4 K LC LD LJ).wp kr kp) (fun PZ MU => ?_) ?_
     ·refine wp_seq ?_
      refine zI <| sM hS rfl fun hS => sO hS (qY (v' := .int .i64 (LD.length : Int)) (ya rfl Tryd.runUnderlying110) (by rw [LU.len])) rfl fun hS => sB hS rfl fun hS => qz <| qy hS rfl hM (fun NR hM => ?_) (fun NR hM => ?_)
      ·refine zI ?_
       refine sM hS rfl fun hS => sM hS rfl fun hS => ?_
       obtain ⟨Mk, hM⟩ := qE hM
       refine sO hS (x6 rfl rfl Tryd.runUnderlying110 Tryd.sizeOf112 (Mj.rd (i := 2) rfl) z2.len rfl (LU.inb Mk)) rfl fun hS => sO hS (YV rfl (Mj.rd (i := 2) rfl) z2.len rfl (LU.inb Mk) Tryd.runUnderlying112 rfl Tryd.sizeOf45 rfl) rfl fun hS => ?_
       obtain ⟨PV, P6, Pf, M7, PP⟩ := LU.get Mk
       refine sO hS (BB 1 rfl (Mj.rd (i := 2) rfl) z2.len (LU.inb Mk) (by rw [show z2.v (rd LR (0 : Int)) = _ from Pf]; rfl) Tryd.isAgg45) rfl fun hS => ?_
       obtain ⟨M4, hM⟩ := qE hM
       refine sO hS (x6 rfl rfl Tryd.runUnderlying45 Tryd.sizeOf3 (M7.rd (i := 1) rfl) (fun _ => rfl) rfl M4) rfl fun hS => sO hS (x9 rfl (M7.rd (i := 1) rfl) (fun _ => rfl) M4 rfl Tryd.isAgg3) rfl fun hS => ?_
       obtain ⟨M5, hM⟩ := qE hM
       refine sO hS (x6 rfl rfl Tryd.runUnderlying45 Tryd.sizeOf3 (Mz.rd (i := 0) rfl) (fun _ => rfl) rfl M5) rfl fun hS => Xj (i := (rd ((rd LD (0 : Int)).symbols_) (0 : Int))) (sz := 1) 0 0 ((1 : Int)) hS rfl rfl Mz rfl Tryd.sizeOf3 (xG (1 : Int)) (fun _ => rfl) M5 rfl rfl fun Mn w Pz hz MD NL hS => ?_
       have hM := qB hz hM; clear hz
       replace hS := hS.re 9 (u := .slice LE Mm.length LF) (v := .slice LE Mn.length LF) rfl (by rw [MD])
       replace hS := hS.re 54 (u := .slice LE Mm.length LF) (v := .slice LE Mn.length LF) rfl (by rw [MD])
       replace hS := hS.re 58 (u := .slice LE Mm.length LF) (v := .slice LE Mn.length LF) rfl (by rw [MD])
       refine zd <| qc ?_
       exact MU _ _ ⟨Mn, Pz, hS.to [1, 2, 0] (by kernel_rfl) ⟨rfl, rfl, rfl, trivial⟩, NL, hM⟩
      ·refine wp_skip ?_
       refine qc ?_
       exact MU _ _ ⟨Mm, Py, hS.to [1, 2, 0] (by kernel_rfl) ⟨rfl, rfl, rfl, trivial⟩, Mz, hM⟩
     ·intro a w hI
      obtain ⟨LJ, LW, hS, MW, hM⟩ := hI
      rw [qD.j4] at hM
      refine wp_seq <| qk <| sM hS rfl fun hS => sO hS (qY (v' := .int .i64 (LD.length : Int)) (ya rfl Tryd.runUnderlying110) (by rw [LU.len])) rfl fun hS => sB hS rfl fun hS => qz <| qy hS rfl hM (fun NS hM => ?_) (fun NS hM => ?_)
      ·refine wp_seq ?_
       refine zI <| sM hS rfl fun hS => sA hS rfl fun hS => sA hS rfl fun hS => qz <| wp_ret <| qA ?_
       exact zm (rs := [4, 5]) hS rfl rfl (hret LE LF LJ LW (0 : Int) _ (qU hM) MW (hS.st.pick [2] (by kernel_rfl)))
      ·refine wp_skip ?_
       refine qc <| qk <| sM hS rfl fun hS => qK hS rfl Tryd.call56 (xu 57 (.inl rfl) hG K LD Mi LK LL LR Mu LU Mj (hS.st.part 2 [0, 1, 2] (by kernel_rfl)) (qx hM) (fun LG LX PA w hM Nr MJ MQ hst => qJ hS.ev hst.appF rfl fun hS => ?_))
       replace hS : Ss _ _ _ H [Mi, PA, LW] F _ _ := hS
       replace hS := hS.re 6 (u := .slice LK LR.length LL) (v := .slice LK LG.length LL) rfl (by rw [MQ])
       replace hS := hS.re 66 (u := .slice LK LR.length LL) (v := .slice LK LG.length LL) rfl (by rw [MQ])
       replace hS := hS.re 70 (u := .slice LK LR.length LL) (v := .slice LK LG.length LL) rfl (by rw [MQ])
       refine qz <| qk <| sM hS rfl fun hS => sA hS rfl fun hS => qz <| zx (fun a w => ∃ (L5 : qm) (MM : Option Addr) (MO : Nat) (Mg : List (z2 2)) (L6 : (List qb)), Ss 109 [] [(6, .slice LK LG.length LL), (9, .slice LE LJ.length LF), (10, .slice MM Mg.length MO)] H [L5, LW] F a w ∧ (zN (ql L5) LX LG) ∧ (Pl L5 (z2.v (sz := 2)) LK LG) ∧ (LG.length ≤ LL) ∧ (zN (ql L5) L6 Mg) ∧ (Pl L5 (z2.v (sz := 2)) MM Mg) ∧ (Mg.length ≤ MO) ∧ (qD.j6 K LJ LX L6).wp kr kp) (fun P1 ND => ?_) ?_
       ·refine wp_seq ?_
        refine zI <| sM hS rfl fun hS => sB hS rfl fun hS => sM hS rfl fun hS => qz <| xJ <| zv (fun Nv a w => ∃ (L4 : qm) (Mq : Option Addr) (Ms : Nat) (LZ : List (z2 2)) (L0 : (List qb)) (ML : Int), Ss 109 [] [(6, .slice LK LG.length LL), (9, .slice LE LJ.length LF), (10, .slice Mq LZ.length Ms), (74, .int .i64 (qi (LC - (1 : Int)))), (75, .int .i64 ML)] H [L4, LW] F a w ∧ (zN (ql L4) LX LG) ∧ (Pl L4 (z2.v (sz := 2)) LK LG) ∧ (LG.length ≤ LL) ∧ (zN (ql L4) L0 LZ) ∧ (Pl L4 (z2.v (sz := 2)) Mq LZ) ∧ (LZ.length ≤ Ms) ∧ (qD.l5 K LC LJ LX Nv L0 ML).wp kr kp) K ?_ ?_ ?_
        ·replace hS := hS.front [1, 0, 2] (by kernel_rfl)
         obtain ⟨PH, Pc, Pd, hS⟩ := hS.poolF
         have MZ := Nr.cap z2.len rfl
         have M8 := Nr.pl.mono Pc
         replace MJ := zN.mono (fun _ _ h => ql.mono Pd h) MJ
         exact ⟨PH, LK, LL, LG, LX, (0 : Int), hS.to [0, 1] (by kernel_rfl) ⟨rfl, rfl, rfl, rfl, rfl, trivial⟩, MJ, M8, MZ, MJ, M8, MZ, hM⟩
        ·intro a w hI; obtain ⟨_, _, _, _, _, _, _, _, _, _, _, _, _, hM⟩ := hI; exact zr hM
        ·intro Nv a w hI P0 NC
         obtain ⟨L4, Mq, Ms, LZ, L0, ML, hS, LO, LN, MA, LQ, LP, MY, hM⟩ := hI
         rw [qD.l5] at hM
         refine qk <| sB hS rfl fun hS => qz <| wp_seq <| qy hS rfl hM (fun NT hM => ?_) (fun NT hM => ?_)
         ·refine wp_skip ?_
          refine qc <| wp_seq <| xJ <| zI <| sM hS rfl fun hS => sM hS rfl fun hS => qK hS rfl Tryd.call60 (YZ hG K L0 L4 Mq Ms LZ LQ LP MY (hS.st.part 1 [0, 1] (by kernel_rfl)) (qx hM) (fun PE Pn Pq Pi PL PB w hM MK Ns L9 hst => qJ hS.ev hst.appF rfl fun hS => ?_) (fun v w hk hst => vr (jS (xf (xf (jS (xf (⟨hS.ev.defs, hpan _ _ hk hst.appF.frame⟩))))))))
          replace hS : Ss _ _ _ H [PE, PB, LW] F _ _ := hS
          replace LN := LN.mono MK
          replace LP := LP.mono MK
          replace LO := zN.mono (fun _ _ h => ql.mono MK h) LO
          replace LQ := zN.mono (fun _ _ h => ql.mono MK h) LQ
          replace hS := hS.front [1, 0, 2] (by kernel_rfl)
          obtain ⟨PF, Pb, Me, hS⟩ := hS.poolF
          have NY := Ns.cap z2.len rfl
          have Mc := Ns.pl.mono Pb
          replace L9 := zN.mono (fun _ _ h => ql.mono Me h) L9
          replace LN := LN.mono Me
          replace LP := LP.mono Me
          replace LO := zN.mono (fun _ _ h => ql.mono Me h) LO
          replace LQ := zN.mono (fun _ _ h => ql.mono Me h) LQ
          refine qK hS rfl Tryd.call59 (Yf hG K LX PL PF LK LL LG Pn Pq Pi LO LN MA L9 Mc NY (hS.st.part 1 [0, 1] (by kernel_rfl)) (qx hM) (fun PG Po Pr Pj PM PC w hM Mh Nt MR hst => qJ hS.ev hst.appF rfl fun hS => ?_) (fun v w hk hst => vr (jS (xf (xf (jS (xf (⟨hS.ev.defs, hpan _ _ hk hst.appF.frame⟩))))))))
          replace hS : Ss _ _ _ H [PG, PC, LW] F _ _ := hS
          replace L9 := zN.mono (fun _ _ h => ql.mono Mh h) L9
          replace LN := LN.mono Mh
          replace LP := LP.mono Mh
          replace Mc := Mc.mono Mh
          replace LO := zN.mono (fun _ _ h => ql.mono Mh h) LO
          replace LQ := zN.mono (fun _ _ h => ql.mono Mh h) LQ
          refine sA hS rfl fun hS => zd <| zz (qc ?_)
          refine zI <| sB hS rfl fun hS => sM hS rfl fun hS => zd <| qc ?_
          replace hS := hS.front [1, 0, 2] (by kernel_rfl)
          obtain ⟨PI, Pe, LY, hS⟩ := hS.poolF
          have NZ := Nt.cap z2.len rfl
          have N6 := Nt.pl.mono Pe
          replace L9 := zN.mono (fun _ _ h => ql.mono LY h) L9
          replace MR := zN.mono (fun _ _ h => ql.mono LY h) MR
          replace LN := LN.mono LY
          replace LP := LP.mono LY
          replace Mc := Mc.mono LY
          replace LO := zN.mono (fun _ _ h => ql.mono LY h) LO
          replace LQ := zN.mono (fun _ _ h => ql.mono LY h) LQ
          exact NC _ _ ⟨PI, Po, Pr, Pj, PM, (qi (ML + (1 : Int))), hS.to [0, 1] (by kernel_rfl) ⟨rfl, rfl, rfl, rfl, rfl, trivial⟩, LO, LN, MA, MR, N6, NZ, hM⟩
         ·refine wp_exit ?_
          refine qC (qC (q9 (qc ?_)))
          exact ND _ _ ⟨L4, Mq, Ms, LZ, L0, hS.to [0, 1] (by kernel_rfl) ⟨rfl, rfl, rfl, trivial⟩, LO, LN, MA, LQ, LP, MY, hM⟩
       ·intro a w hI
        obtain ⟨L5, MM, MO, Mg, L6, hS, N8, PT, PQ, Nd, M9, N0, hM⟩ := hI
        rw [qD.j6] at hM
        refine wp_seq <| qk <| sM hS rfl fun hS => sM hS rfl fun hS => sO hS (qY (v' := .int .i64 (LX.length : Int)) (ya rfl Tryd.runUnderlying110) (by rw [N8.len])) rfl fun hS => sB hS rfl fun hS => sB hS rfl fun hS => ?_
        obtain ⟨N4, hM⟩ := qE hM
        refine Gc (g := (z2.v (sz := 2))) hS rfl Tryd.runUnderlying110 Tryd.sizeOf112 Gg (BR rfl) z2.len N0 (Nd.subok N4) rfl fun Ni Nm No a w hz M0 PR hS => ?_
        obtain ⟨LI, hzm⟩ := ur (sub L6 (0 : Int) (qi ((qi ((2 : Int) * (LX.length : Int))) - (2 : Int))))
        replace hM := qB hzm hM
        have Md := Nd.sub (0 : Int) (qi ((qi ((2 : Int) * (LX.length : Int))) - (2 : Int))) (qi ((qi ((2 : Int) * (LX.length : Int))) - (2 : Int))) rfl
        rw [← hz, ← hzm] at Md; clear hz hzm
        refine sO hS (qY (v' := .int .i64 (LI.length : Int)) (ya rfl Tryd.runUnderlying110) (by rw [Md.len])) rfl fun hS => sM hS rfl fun hS => qz <| xJ <| zv (fun Ng a w => ∃ (LV : (List Int)) (Mv : qm) (LT : Int), Ss 109 [] [(9, .slice LE LV.length LF), (87, .slice Nm Ni.length No), (88, .int .i64 (LI.length : Int)), (89, .int .i64 LT)] H [Mv, L5] F a w ∧ (xh 3 (ci .i64) 1 LE LV LF Mv) ∧ (qD.l7 K LI Ng LV LT).wp kr kp) K ?_ ?_ ?_
        ·exact ⟨LJ, LW, (0 : Int), hS.to [1, 0] (by kernel_rfl) ⟨rfl, rfl, rfl, rfl, trivial⟩, MW, hM⟩
        ·intro a w hI; obtain ⟨_, _, _, _, _, hM⟩ := hI; exact zr hM
        ·intro Ng a w hI P3 NF
         obtain ⟨LV, Mv, LT, hS, MX, hM⟩ := hI
         rw [qD.l7] at hM
         refine qk <| sB hS rfl fun hS => qz <| wp_seq <| qy hS rfl hM (fun NU hM => ?_) (fun NU hM => ?_)
         ·refine wp_skip ?_
          refine qc <| wp_seq <| xJ <| wp_seq <| zI ?_
          obtain ⟨MB, hM⟩ := qE hM
          refine sO hS (x6 rfl rfl Tryd.runUnderlying110 Tryd.sizeOf112 (M0 _ _ _ (M9.rd (i := 1) rfl)) z2.len rfl (Md.inb MB)) rfl fun hS => ?_
          obtain ⟨MN, MP, Pg, Na, PS⟩ := Md.get MB
          refine sO hS (qY (vS rfl (M0 _ _ _ (M9.rd (i := 1) rfl)) z2.len (Md.inb MB) Tryd.isAgg112 Tryd.sizeOf112 rfl) (congrArg (fun l => Value.agg ⟨l⟩) Pg)) rfl fun hS => QJ ([.int .i64 (0 : Int), .slice none 0 0]) hS Tryd.zeroValue112 rfl rfl fun w P4 P9 Nz hS => ?_
          obtain ⟨Sa, PO, hS⟩ := hS.nilV 3 (ci .i64) 1
          refine u5 1 ([.int .i64 ((rd LI LT).often_), .slice MN ((rd LI LT).symbols_).length MP]) ([.int .i64 ((rd LI LT).often_), .slice MN ((rd LI LT).symbols_).length MP]) hS rfl rfl Nz rfl rfl Tryd.sizeOf112 (by simp [Value.oneCell']) (Nat.le_of_ble_eq_true rfl) rfl fun w Sb NA hS => qz <| qk <| sO hS (xr rfl Tryd.runUnderlying112 rfl Tryd.sizeOf45 rfl) rfl fun hS => sO hS (xW 1 rfl NA rfl rfl Tryd.isAgg45) rfl fun hS => sO hS (ya rfl Tryd.runUnderlying45) rfl fun hS => sM hS rfl fun hS => qz <| xJ <| zv (fun Nw a w => ∃ (LM : (List Int)) (MI : qm) (Mx : Int), Ss 109 [] [(9, .slice LE LM.length LF), (87, .slice Nm Ni.length No), (88, .int .i64 (LI.length : Int)), (89, .int .i64 LT), (94, .slice MN ((rd LI LT).symbols_).length MP), (95, .int .i64 (((rd LI LT).symbols_).length : Int)), (96, .int .i64 Mx)] H [MI, L5] F a w ∧ (xh 3 (ci .i64) 1 LE LM LF MI) ∧ (qD.l8 K (qD.l7 K LI Ng) LI LT Nw LM Mx).wp kr kp) K ?_ ?_ ?_
          ·exact ⟨LV, Mv, (0 : Int), hS.to [2, 3] (by kernel_rfl) ⟨rfl, rfl, rfl, rfl, rfl, rfl, rfl, trivial⟩, MX, hM⟩
          ·intro a w hI; obtain ⟨_, _, _, _, _, hM⟩ := hI; exact zr hM
          ·intro Nw a w hI P2 NE
           obtain ⟨LM, MI, Mx, hS, Ma, hM⟩ := hI
           rw [qD.l8] at hM
           refine qk <| sB hS rfl fun hS => qz <| wp_seq <| qy hS rfl hM (fun NV hM => ?_) (fun NV hM => ?_)
           ·refine wp_skip ?_
            refine qc <| wp_seq <| xJ <| wp_seq <| zI ?_
            obtain ⟨M6, hM⟩ := qE hM
            refine sO hS (x6 rfl rfl Tryd.runUnderlying45 Tryd.sizeOf3 (Na.rd (i := 1) rfl) (fun _ => rfl) rfl M6) rfl fun hS => sO hS (x9 rfl (Na.rd (i := 1) rfl) (fun _ => rfl) M6 rfl Tryd.isAgg3) rfl fun hS => zH (v := Value.int .i64) (x0 := (rd ((rd LI LT).symbols_) Mx)) hS (xv rfl) rfl fun Nj a w hz hS => ?_
            have hM := qB hz hM; clear hz
            refine qz <| zI <| sM hS rfl fun hS => sM hS rfl fun hS => ?_
            obtain ⟨Ml, hM⟩ := qE hM
            refine sO hS (x6 rfl rfl Tryd.runUnderlying45 Tryd.sizeOf3 (Ma.rd (i := 0) rfl) (fun _ => rfl) rfl Ml) rfl fun hS => sO hS (x9 rfl (Ma.rd (i := 0) rfl) (fun _ => rfl) Ml rfl Tryd.isAgg3) rfl fun hS => sB hS rfl fun hS => sO hS (x6 rfl rfl Tryd.runUnderlying45 Tryd.sizeOf3 (Ma.rd (i := 0) rfl) (fun _ => rfl) rfl Ml) rfl fun hS => Xj (i := Nj) (sz := 1) 0 0 ((qi ((rd LM Nj) + (1 : Int)))) hS rfl rfl Ma rfl Tryd.sizeOf3 (xG (qi ((rd LM Nj) + (1 : Int)))) (fun _ => rfl) Ml rfl rfl fun MF w PD hz Nf NM hS => ?_
            have hM := qB hz hM; clear hz
            replace hS := hS.re 9 (u := .slice LE LM.length LF) (v := .slice LE MF.length LF) rfl (by rw [Nf])
            replace hS := hS.re 100 (u := .slice LE LM.length LF) (v := .slice LE MF.length LF) rfl (by rw [Nf])
            refine zd <| zz (qc ?_)
            refine zI <| sB hS rfl fun hS => sM hS rfl fun hS => zd <| qc ?_
            exact NE _ _ ⟨MF, PD, (qi (Mx + (1 : Int))), hS.to [0, 1] (by kernel_rfl) ⟨rfl, rfl, rfl, rfl, rfl, rfl, rfl, trivial⟩, NM, hM⟩
           ·refine wp_exit ?_
            refine qC (qC (q9 (zz (qc ?_))))
            refine zI <| sB hS rfl fun hS => sM hS rfl fun hS => zd <| qc ?_
            exact NF _ _ ⟨LM, MI, (qi (LT + (1 : Int))), hS.to [0, 1] (by kernel_rfl) ⟨rfl, rfl, rfl, rfl, trivial⟩, Ma, hM⟩
         ·refine wp_exit ?_
          refine qC (qC (q9 (qc ?_)))
          refine qk <| sM hS rfl fun hS => sA hS rfl fun hS => sA hS rfl fun hS => qz <| wp_ret ?_
          exact zm (rs := [4, 5]) hS rfl rfl (hret LE LF LV Mv (0 : Int) _ (qU hM) MX (hS.st.pick [0] (by kernel_rfl)))
theorem vK {H : xU} {F : List qm} {w : World} {R : Ending → World → Prop} {kr : ((List Int) × (List Int)) → Prop} {kp : Value → Prop} (hG : Gl H) (K : Nat) (LB : List Int) (LE : Option Addr) (LF : Nat) (LP : qm) (LT : xh 3 (ci .i64) 1 LE LB LF LP)
    (hS : St w H [LP] F) (hm : (qX.m K LB).wp kr kp)
    (hret : ∀ (L0 : Option Addr) (L1 : Nat) (LZ : (List Int)) (L4 : qm) (LI : (List Int)) (L5 : qm) (w : World), kr (LZ, LI) → (xh 3 (ci .i64) 1 L0 LZ L1 L4) → (xh 3 (ci .i64) 1 LE LI LF L5) → (LI.length = LB.length) → St w H [L4, L5] F → R (.returned (.slice L0 LZ.length L1)) w)
    (hpan : ∀ v w, kp v → St w H [] F → R (.panicked [⟨v, false, false⟩]) w) :
    Calls Tryd.prog 38 ⟨[.slice LE LB.length LF]⟩ w R := by
 refine enter Tryd.func38 rfl Tryd.ntmps38 rfl hS fun a w hS => ?_
 have hM := hm; clear hm
 rw [qX.m] at hM
 have Mf : LB.length = LB.length := rfl
 refine qk <| sA hS rfl fun hS => ?_
 obtain ⟨Mx, Ms, hS⟩ := hS.nilV 3 (ci .i64) 1
 refine qz <| qk <| sA hS rfl fun hS => qz <| zx (fun a w => ∃ (LN : Int), Ss 43 [] [(0, .slice LE LB.length LF), (3, .int .i64 LN)] H [LP] F a w ∧ (qX.j2 K LB LN).wp kr kp) (fun Mu L9 => ?_) ?_
 ·refine wp_seq ?_
  refine zI <| sM hS rfl fun hS => sO hS (ya rfl Tryd.runUnderlying45) rfl fun hS => sM hS rfl fun hS => qz <| xJ <| zv (fun L6 a w => ∃ (LK : Int) (LS : Int), Ss 43 [] [(0, .slice LE LB.length LF), (3, .int .i64 LK), (9, .slice LE LB.length LF), (10, .int .i64 (LB.length : Int)), (11, .int .i64 LS)] H [LP] F a w ∧ (qX.l1 K LB L6 LK LS).wp kr kp) K ?_ ?_ ?_
  ·exact ⟨(0 : Int), (0 : Int), hS.to [1] (by kernel_rfl) ⟨rfl, rfl, rfl, rfl, rfl, trivial⟩, hM⟩
  ·intro a w hI; obtain ⟨_, _, _, hM⟩ := hI; exact zr hM
  ·intro L6 a w hI Mt L8
   obtain ⟨LK, LS, hS, hM⟩ := hI
   rw [qX.l1] at hM
   refine qk <| sB hS rfl fun hS => qz <| wp_seq <| qy hS rfl hM (fun Mc hM => ?_) (fun Mc hM => ?_)
   ·refine wp_skip ?_
    refine qc <| wp_seq <| xJ <| wp_seq <| zI ?_
    obtain ⟨LX, hM⟩ := qE hM
    refine sO hS (x6 rfl rfl Tryd.runUnderlying45 Tryd.sizeOf3 (LT.rd (i := 0) rfl) (fun _ => rfl) rfl LX) rfl fun hS => sO hS (x9 rfl (LT.rd (i := 0) rfl) (fun _ => rfl) LX rfl Tryd.isAgg3) rfl fun hS => zH (v := Value.int .i64) (x0 := (rd LB LS)) hS (xv rfl) rfl fun LY a w hz hS => ?_
    have hM := qB hz hM; clear hz
    refine qz <| zI <| sM hS rfl fun hS => sM hS rfl fun hS => sO hS (Vx rfl rfl) rfl fun hS => sB hS rfl fun hS => zH (v := Value.int .i64) (x0 := (qi (LK + (if (1 : Int) < LY then (1 : Int) else LY)))) hS (xv rfl) rfl fun Mi a w hz hS => ?_
    have hM := qB hz hM; clear hz
    refine zd <| zz (qc ?_)
    refine zI <| sB hS rfl fun hS => sM hS rfl fun hS => zd <| qc ?_
    exact L8 _ _ ⟨Mi, (qi (LS + (1 : Int))), hS.to [0] (by kernel_rfl) ⟨rfl, rfl, rfl, rfl, rfl, trivial⟩, hM⟩
   ·refine wp_exit ?_
    refine qC (qC (q9 (qc ?_)))
    exact L9 _ _ ⟨LK, hS.to [0] (by kernel_rfl) ⟨rfl, rfl, trivial⟩, hM⟩
 ·intro a w hI
  obtain ⟨LN, hS, hM⟩ := hI
  rw [qX.j2] at hM
  refine zx (fun a w => ∃ (LD : (List Int)) (LR : qm), Ss 43 [] [(0, .slice LE LD.length LF)] H [LR] F a w ∧ (xh 3 (ci .i64) 1 LE LD LF LR) ∧ (LD.length = LB.length) ∧ (qX.j4 K LD).wp kr kp) (fun Mw Ma => ?_) ?_
  ·refine wp_seq ?_
   refine zI <| sA hS rfl fun hS => qz <| xJ <| zv (fun L7 a w => ∃ (LC : (List Int)) (LQ : qm) (LL : Int) (LJ : Int), Ss 43 [] [(0, .slice LE LC.length LF), (3, .int .i64 LL), (6, .int .i64 LJ)] H [LQ] F a w ∧ (xh 3 (ci .i64) 1 LE LC LF LQ) ∧ (LC.length = LB.length) ∧ (qX.l3 K L7 LC LL LJ).wp kr kp) K ?_ ?_ ?_
   ·exact ⟨LB, LP, LN, (0 : Int), hS.to [0] (by kernel_rfl) ⟨rfl, rfl, rfl, trivial⟩, LT, Mf, hM⟩
   ·intro a w hI; obtain ⟨_, _, _, _, _, _, _, hM⟩ := hI; exact zr hM
   ·intro L7 a w hI Mv LW
    obtain ⟨LC, LQ, LL, LJ, hS, LG, LV, hM⟩ := hI
    rw [qX.l3] at hM
    refine wp_seq <| qk <| sM hS rfl fun hS => sB hS rfl fun hS => qz <| qy hS rfl hM (fun Md hM => ?_) (fun Md hM => ?_)
    ·refine wp_skip ?_
     refine qc <| wp_seq <| xJ <| qk <| sM hS rfl fun hS => sM hS rfl fun hS => ?_
     obtain ⟨LH, hM⟩ := qE hM
     refine sO hS (x6 rfl rfl Tryd.runUnderlying45 Tryd.sizeOf3 (LG.rd (i := 0) rfl) (fun _ => rfl) rfl LH) rfl fun hS => sO hS (x9 rfl (LG.rd (i := 0) rfl) (fun _ => rfl) LH rfl Tryd.isAgg3) rfl fun hS => sB hS rfl fun hS => qz <| qy hS rfl hM (fun Me hM => ?_) (fun Me hM => ?_)
     ·refine wp_seq ?_
      refine zI <| sM hS rfl fun hS => sM hS rfl fun hS => sO hS (x6 rfl rfl Tryd.runUnderlying45 Tryd.sizeOf3 (LG.rd (i := 0) rfl) (fun _ => rfl) rfl LH) rfl fun hS => sO hS (x9 rfl (LG.rd (i := 0) rfl) (fun _ => rfl) LH rfl Tryd.isAgg3) rfl fun hS => sB hS rfl fun hS => sO hS (x6 rfl rfl Tryd.runUnderlying45 Tryd.sizeOf3 (LG.rd (i := 0) rfl) (fun _ => rfl) rfl LH) rfl fun hS => Xj (i := LJ) (sz := 1) 0 0 ((qi ((rd LC LJ) + (1 : Int)))) hS rfl rfl LG rfl Tryd.sizeOf3 (xG (qi ((rd LC LJ) + (1 : Int)))) (fun _ => rfl) LH rfl rfl fun LO w Mm hz LM Mb hS => ?_
      have hM := qB hz hM; clear hz
      have Mg := Eq.trans LM LV
      replace hS := hS.re 0 (u := .slice LE LC.length LF) (v := .slice LE LO.length LF) rfl (by rw [LM])
      replace hS := hS.re 24 (u := .slice LE LC.length LF) (v := .slice LE LO.length LF) rfl (by rw [LM])
      replace hS := hS.re 29 (u := .slice LE LC.length LF) (v := .slice LE LO.length LF) rfl (by rw [LM])
      refine qz <| zI <| sM hS rfl fun hS => sB hS rfl fun hS => zH (v := Value.int .i64) (x0 := (qi (LL + (1 : Int)))) hS (xv rfl) rfl fun Mj a w hz hS => ?_
      have hM := qB hz hM; clear hz
      refine zd <| zz (qc ?_)
      refine zI <| sM hS rfl fun hS => sB hS rfl fun hS => zH (v := Value.int .i64) (x0 := (qi (LJ + (1 : Int)))) hS (xv rfl) rfl fun Mp a w hz hS => ?_
      have hM := qB hz hM; clear hz
      refine zd <| qc ?_
      exact LW _ _ ⟨LO, Mm, Mj, Mp, hS.to [0] (by kernel_rfl) ⟨rfl, rfl, rfl, trivial⟩, Mb, Mg, hM⟩
     ·refine wp_skip ?_
      refine zz (qc ?_)
      refine zI <| sM hS rfl fun hS => sB hS rfl fun hS => zH (v := Value.int .i64) (x0 := (qi (LJ + (1 : Int)))) hS (xv rfl) rfl fun Mq a w hz hS => ?_
      have hM := qB hz hM; clear hz
      refine zd <| qc ?_
      exact LW _ _ ⟨LC, LQ, LL, Mq, hS.to [0] (by kernel_rfl) ⟨rfl, rfl, rfl, trivial⟩, LG, LV, hM⟩
    ·refine wp_exit ?_
     refine qC (qC (q9 (qc ?_)))
     exact Ma _ _ ⟨LC, LQ, hS.to [0] (by kernel_rfl) ⟨rfl, trivial⟩, LG, LV, hM⟩
  ·intro a w hI
   obtain ⟨LD, LR, hS, LU, Mh, hM⟩ := hI
   rw [qX.j4] at hM
   refine qk <| sM hS rfl fun hS => qK hS rfl Tryd.call40 (Qq hG K LD (15 : Int) LE LF (LU.rdF (i := 0) rfl) (LU.cap (fun _ => rfl) rfl) (hS.st.part 0 [0] (by kernel_rfl)) (qx hM) (fun Mk Ml Mr L3 My w hM Mn hst => qJ hS.ev hst.appF rfl fun hS => ?_) (fun v w hk hst => vr (xf (⟨hS.ev.defs, hpan _ _ hk hst.appF.frame⟩))))
   replace hS : Ss _ _ _ H [L3, LR] F _ _ := hS
   refine sM hS rfl fun hS => sO hS (ex rfl rfl) rfl fun hS => sO hS (ex rfl rfl) rfl fun hS => sA hS rfl fun hS => sA hS rfl fun hS => qz <| qk <| sM hS rfl fun hS => sA hS rfl fun hS => qz <| wp_ret ?_
   exact zm (rs := [2]) hS rfl rfl (hret Mk Ml Mr L3 LD LR _ (qU hM) Mn LU Mh (hS.st.pick [0, 1] (by kernel_rfl)))
theorem Zt {H : xU} {F : List qm} {w : World} {R : Ending → World → Prop} {kr : (List qh) → Prop} {kp : Value → Prop} (hG : Gl H) (K : Nat) (LB : List Int) (LH : Option Addr) (LI : Nat) (LG : jn H [] F (ci .i64) LH LB) (ML : LB.length ≤ LI)
    (hS : St w H [] F) (hm : (qP.m K LB).wp kr kp)
    (hret : ∀ (LZ : Option Addr) (L0 : Nat) (LY : (List qh)) (L1 : qm) (w : World), kr LY → (xh 75 qh.cells 3 LZ LY L0 L1) → St w H [L1] F → R (.returned (.slice LZ LY.length L0)) w) :
    Calls Tryd.prog 39 ⟨[.slice LH LB.length LI]⟩ w R := by
 refine enter Tryd.func39 rfl Tryd.ntmps39 rfl hS fun a w hS => ?_
 have hM := hm; clear hm
 rw [qP.m] at hM
 refine qk <| sA hS rfl fun hS => ?_
 obtain ⟨MY, MK, hS⟩ := hS.nilV 75 qh.cells 3
 refine qz <| qk <| sA hS rfl fun hS => ?_
 obtain ⟨MB, L5, hS⟩ := hS.nilV 75 qh.cells 3
 refine qz <| wp_seq <| qk <| sA hS rfl fun hS => qz <| xJ <| zv (fun LQ a w => ∃ (LK : Option Addr) (LL : Nat) (LE : (List qh)) (LM : qm) (LC : Int), Ss 93 [] [(0, .slice LH LB.length LI), (3, .slice LK LE.length LL), (4, .int .i64 LC)] H [LM] F a w ∧ (xh 75 qh.cells 3 LK LE LL LM) ∧ (qP.l1 K LB LQ LE LC).wp kr kp) K ?_ ?_ ?_
 ·exact ⟨none, 0, ([] : List qh), MB, (0 : Int), hS.to [0] (by kernel_rfl) ⟨rfl, rfl, rfl, trivial⟩, L5, hM⟩
 ·intro a w hI; obtain ⟨_, _, _, _, _, _, _, hM⟩ := hI; exact zr hM
 ·intro LQ a w hI MT LR
  obtain ⟨LK, LL, LE, LM, LC, hS, LN, hM⟩ := hI
  rw [qP.l1] at hM
  refine wp_seq <| qk <| sM hS rfl fun hS => sM hS rfl fun hS => sO hS (ya rfl Tryd.runUnderlying45) rfl fun hS => sB hS rfl fun hS => qz <| qy hS rfl hM (fun Me hM => ?_) (fun Me hM => ?_)
  ·refine wp_skip ?_
   refine qc <| xJ <| qk <| sA hS rfl fun hS => qz <| zx (fun a w => ∃ (LF : Int), Ss 93 [] [(0, .slice LH LB.length LI), (3, .slice LK LE.length LL), (4, .int .i64 LC), (5, .int .i64 LF)] H [LM] F a w ∧ (qP.j4 K (qP.l1 K LB LQ) LB LE LC LF).wp kr kp) (fun MS L4 => ?_) ?_
   ·refine xJ ?_
    refine zv (fun LW a w => ∃ (LD : Int), Ss 93 [] [(0, .slice LH LB.length LI), (3, .slice LK LE.length LL), (4, .int .i64 LC), (5, .int .i64 LD)] H [LM] F a w ∧ (qP.l2 K (qP.l1 K LB LQ) LB LE LC LW LD).wp kr kp) K ?_ ?_ ?_
    ·exact ⟨(1 : Int), hS.to [0] (by kernel_rfl) ⟨rfl, rfl, rfl, rfl, trivial⟩, hM⟩
    ·intro a w hI; obtain ⟨_, _, hM⟩ := hI; exact zr hM
    ·intro LW a w hI MR L3
     obtain ⟨LD, hS, hM⟩ := hI
     rw [qP.l2] at hM
     refine wp_seq <| zx (fun a w => ∃ (LX : Bool), Ss 93 [] [(0, .slice LH LB.length LI), (3, .slice LK LE.length LL), (4, .int .i64 LC), (5, .int .i64 LD), (28, .bool LX)] H [LM] F a w ∧ (qP.j3 K (qP.l1 K LB LQ) (qP.l2 K (qP.l1 K LB LQ) LB LE LC LW) LB LE LC LD LX).wp kr kp) (fun MQ LT => ?_) ?_
     ·refine UM (b := (decide ((qi (LC + LD)) < (LB.length : Int)))) hM (fun LS hM => ?_) (fun LS hM => ?_)
      ·obtain ⟨LU, hM⟩ := qE hM
       obtain ⟨LV, hM⟩ := qE hM
       refine zh (vals := [some (.int .i64 LC), some (.int .i64 LD), some (.int .i64 (qi (LC + LD))), some (.slice LH LB.length LI), some (.int .i64 (LB.length : Int)), some (.bool true), some (.bool true), some (.slice LH LB.length LI), some (.int .i64 LC), some (.int .i64 LD), some (.int .i64 (qi (LC + LD))), some (xz LH (Int.toNat (qi (LC + LD)) * 1)), some (.int .i64 (rd LB (qi (LC + LD)))), some (.slice LH LB.length LI), some (.int .i64 LC), some (xz LH (Int.toNat LC * 1)), some (.int .i64 (rd LB LC)), some (.bool ((rd LB (qi (LC + LD))) == (rd LB LC))), some (.bool ((rd LB (qi (LC + LD))) == (rd LB LC)))]) hS xH rfl ?_
       intro l w ho hcl hA hst
       refine yo hA hst ho hcl xI [0, 1, 2, 3, 4, 5, 6, 7, 8, 9, 10, 11, 12, 13, 14, 15, 16, 17, 18] rfl rfl rfl (by exact ⟨nM rfl, nM rfl, nB rfl, nM rfl, nQ rfl (by exact qY (ya rfl Tryd.runUnderlying45) rfl), nQ rfl (by exact qY (yZ rfl rfl rfl) (congrArg Value.bool LS)), nM rfl, nW rfl rfl rfl rfl rfl rfl rfl rfl (by exact qY (mv rfl) rfl), nW rfl rfl rfl rfl rfl rfl rfl rfl (by exact qY (mv rfl) rfl), nW rfl rfl rfl rfl rfl rfl rfl rfl (by exact qY (mv rfl) rfl), nW rfl rfl rfl rfl rfl rfl rfl rfl (by exact qY (yZ rfl rfl rfl) rfl), nW rfl rfl rfl rfl rfl rfl rfl rfl (by exact qY (x6 rfl rfl Tryd.runUnderlying45 Tryd.sizeOf3 LG.wk (fun _ => rfl) rfl LU) rfl), nW rfl rfl rfl rfl rfl rfl rfl rfl (by exact qY (x9 rfl LG.wk (fun _ => rfl) LU rfl Tryd.isAgg3) rfl), nW rfl rfl rfl rfl rfl rfl rfl rfl (by exact qY (mv rfl) rfl), nW rfl rfl rfl rfl rfl rfl rfl rfl (by exact qY (mv rfl) rfl), nW rfl rfl rfl rfl rfl rfl rfl rfl (by exact qY (x6 rfl rfl Tryd.runUnderlying45 Tryd.sizeOf3 LG.wk (fun _ => rfl) rfl LV) rfl), nW rfl rfl rfl rfl rfl rfl rfl rfl (by exact qY (x9 rfl LG.wk (fun _ => rfl) LV rfl Tryd.isAgg3) rfl), nW rfl rfl rfl rfl rfl rfl rfl rfl (by exact qY (yZ rfl rfl rfl) rfl), nQ rfl (by exact qY (pk rfl rfl rfl) rfl), trivial⟩) fun a w hS => ?_
       replace hS := hS.env2 (e' := [(0, .slice LH LB.length LI), (3, .slice LK LE.length LL), (4, .int .i64 LC), (5, .int .i64 LD), (28, .bool ((rd LB (qi (LC + LD))) == (rd LB LC)))]) ⟨rfl, rfl, rfl, rfl, rfl, trivial⟩
       refine qc ?_
       exact LT _ _ ⟨((rd LB (qi (LC + LD))) == (rd LB LC)), hS.to [0] (by kernel_rfl) ⟨rfl, rfl, rfl, rfl, rfl, trivial⟩, hM⟩
      ·refine zh (vals := [some (.int .i64 LC), some (.int .i64 LD), some (.int .i64 (qi (LC + LD))), some (.slice LH LB.length LI), some (.int .i64 (LB.length : Int)), some (.bool false), some (.bool false), some (undef), some (undef), some (undef), some (undef), some (undef), some (undef), some (undef), some (undef), some (undef), some (undef), some (undef), some (.bool false)]) hS xH rfl ?_
       intro l w ho hcl hA hst
       refine yo hA hst ho hcl xI [0, 1, 2, 3, 4, 5, 6, 7, 8, 9, 10, 11, 12, 13, 14, 15, 16, 17, 18] rfl rfl rfl (by exact ⟨nM rfl, nM rfl, nB rfl, nM rfl, nQ rfl (by exact qY (ya rfl Tryd.runUnderlying45) rfl), nQ rfl (by exact qY (yZ rfl rfl rfl) (congrArg Value.bool LS)), nM rfl, nS rfl rfl rfl rfl rfl rfl rfl rfl rfl, nS rfl rfl rfl rfl rfl rfl rfl rfl rfl, nS rfl rfl rfl rfl rfl rfl rfl rfl rfl, nS rfl rfl rfl rfl rfl rfl rfl rfl rfl, nS rfl rfl rfl rfl rfl rfl rfl rfl rfl, nS rfl rfl rfl rfl rfl rfl rfl rfl rfl, nS rfl rfl rfl rfl rfl rfl rfl rfl rfl, nS rfl rfl rfl rfl rfl rfl rfl rfl rfl, nS rfl rfl rfl rfl rfl rfl rfl rfl rfl, nS rfl rfl rfl rfl rfl rfl rfl rfl rfl, nS rfl rfl rfl rfl rfl rfl rfl rfl rfl, nQ rfl (by exact qY (pk rfl rfl rfl) rfl), trivial⟩) fun a w hS => ?_
       replace hS := hS.env2 (e' := [(0, .slice LH LB.length LI), (3, .slice LK LE.length LL), (4, .int .i64 LC), (5, .int .i64 LD), (28, .bool false)]) ⟨rfl, rfl, rfl, rfl, rfl, trivial⟩
       refine qc ?_
       exact LT _ _ ⟨false, hS.to [0] (by kernel_rfl) ⟨rfl, rfl, rfl, rfl, rfl, trivial⟩, hM⟩
     ·intro a w hI
      obtain ⟨LX, hS, hM⟩ := hI
      rw [qP.j3] at hM
      refine qy hS rfl hM (fun Mf hM => ?_) (fun Mf hM => ?_)
      ·refine wp_skip ?_
       refine qc <| xJ <| zI <| sM hS rfl fun hS => sB hS rfl fun hS => zH (v := Value.int .i64) (x0 := (qi (LD + (1 : Int)))) hS (xv rfl) rfl fun Mn a w hz hS => ?_
       have hM := qB hz hM; clear hz
       refine zd <| zz (qc ?_)
       exact L3 _ _ ⟨Mn, hS.to [0] (by kernel_rfl) ⟨rfl, rfl, rfl, rfl, trivial⟩, hM⟩
      ·refine wp_exit ?_
       refine qC (qC (q9 (qc ?_)))
       exact L4 _ _ ⟨LD, hS.to [0] (by kernel_rfl) ⟨rfl, rfl, rfl, rfl, trivial⟩, hM⟩
   ·intro a w hI
    obtain ⟨LF, hS, hM⟩ := hI
    rw [qP.j4] at hM
    refine wp_seq <| xJ <| qk <| sM hS rfl fun hS => sM hS rfl fun hS => ?_
    obtain ⟨LJ, hM⟩ := qE hM
    refine sO hS (x6 rfl rfl Tryd.runUnderlying45 Tryd.sizeOf3 LG.wk (fun _ => rfl) rfl LJ) rfl fun hS => sO hS (x9 rfl LG.wk (fun _ => rfl) LJ rfl Tryd.isAgg3) rfl fun hS => sB hS rfl fun hS => sM hS rfl fun hS => yw 2 true 45 (b := ((rd LB LC) == (0 : Int))) (r := (decide (LF ≥ (11 : Int)))) hS rfl rfl rfl rfl rfl rfl rfl (fun hb a w hS K hK => ?_) rfl fun a w hS => ?_
    ·refine zK hS rfl rfl rfl hb (mv rfl) rfl fun a w hS => ?_
     refine zK hS rfl rfl rfl hb (yZ rfl rfl rfl) rfl fun a w hS => ?_
     exact zd (hK _ _ (hS.up 2 rfl rfl))
    refine zH (v := Value.bool) (x0 := (((rd LB LC) == (0 : Int)) && (decide (LF ≥ (11 : Int))))) hS (xv rfl) rfl fun M5 a w hz hS => ?_
    have hM := qB hz hM; clear hz
    refine qz <| qy hS rfl hM (fun Mg hM => ?_) (fun Mg hM => ?_)
    ·refine wp_seq ?_
     refine zI <| sM hS rfl fun hS => sO hS (Vx rfl rfl) rfl fun hS => zH (v := Value.int .i64) (x0 := (if (138 : Int) < LF then (138 : Int) else LF)) hS (xv rfl) rfl fun LO a w hz hS => ?_
     have hM := qB hz hM; clear hz
     refine qz <| zI <| sM hS rfl fun hS => sM hS rfl fun hS => sB hS rfl fun hS => sO hS (Zq ([.int .i64 (18 : Int), .int .i64 (qi (LO - (11 : Int))), .int .i64 (7 : Int)]) [(0, 1), (1, 1), (2, 1)] Tryd.zeroValue75 Tryd.runUnderlying75 (by intro w; simp [Tryd.sizeOf3]) rfl rfl) rfl fun hS => Xs (g := qh.cells) ([(qh.mk (18 : Int) (qi (LO - (11 : Int))) (7 : Int))] : List qh) [.agg ⟨[.int .i64 (18 : Int), .int .i64 (qi (LO - (11 : Int))), .int .i64 (7 : Int)]⟩] hS Tryd.runUnderlying72 Tryd.sizeOf75 X.el75 rfl rfl rfl (by simp [Value.cells]) rfl rfl rfl rfl rfl fun w MM MU MZ L6 hS => ?_
     obtain ⟨Mj, hM⟩ := qE hM
     refine Yk (ys := ([(qh.mk (18 : Int) (qi (LO - (11 : Int))) (7 : Int))] : List qh)) 1 hS rfl rfl LN rfl (L6.rd (i := 0) rfl) Tryd.runUnderlying72 Tryd.runUnderlying72 X.el75 (fun _ => rfl) rfl Xd Mj rfl fun Mp w Mt Mx MC hz L7 hS => ?_
     have hM := qB hz hM; clear hz
     refine sA hS rfl fun hS => zd <| zz (qc ?_)
     refine zI <| sM hS rfl fun hS => sM hS rfl fun hS => sB hS rfl fun hS => zH (v := Value.int .i64) (x0 := (qi (LC + LO))) hS (xv rfl) rfl fun MG a w hz hS => ?_
     have hM := qB hz hM; clear hz
     refine zd <| zz (qc ?_)
     exact LR _ _ ⟨Mt, Mx, Mp, MC, MG, hS.to [1] (by kernel_rfl) ⟨rfl, rfl, rfl, trivial⟩, L7, hM⟩
    ·refine wp_seq ?_
     refine zI <| sM hS rfl fun hS => sM hS rfl fun hS => sO hS (x6 rfl rfl Tryd.runUnderlying45 Tryd.sizeOf3 LG.wk (fun _ => rfl) rfl LJ) rfl fun hS => sO hS (x9 rfl LG.wk (fun _ => rfl) LJ rfl Tryd.isAgg3) rfl fun hS => sB hS rfl fun hS => sM hS rfl fun hS => yw 2 true 63 (b := ((rd LB LC) == (0 : Int))) (r := (decide (LF ≥ (3 : Int)))) hS rfl rfl rfl rfl rfl rfl rfl (fun hb a w hS K hK => ?_) rfl fun a w hS => ?_
     ·refine zK hS rfl rfl rfl hb (mv rfl) rfl fun a w hS => ?_
      refine zK hS rfl rfl rfl hb (yZ rfl rfl rfl) rfl fun a w hS => ?_
      exact zd (hK _ _ (hS.up 2 rfl rfl))
     refine zH (v := Value.bool) (x0 := (((rd LB LC) == (0 : Int)) && (decide (LF ≥ (3 : Int))))) hS (xv rfl) rfl fun M6 a w hz hS => ?_
     have hM := qB hz hM; clear hz
     refine qz <| qy hS rfl hM (fun Mh hM => ?_) (fun Mh hM => ?_)
     ·refine zI ?_
      refine sM hS rfl fun hS => sM hS rfl fun hS => sB hS rfl fun hS => sO hS (Zq ([.int .i64 (17 : Int), .int .i64 (qi (LF - (3 : Int))), .int .i64 (3 : Int)]) [(0, 1), (1, 1), (2, 1)] Tryd.zeroValue75 Tryd.runUnderlying75 (by intro w; simp [Tryd.sizeOf3]) rfl rfl) rfl fun hS => Xs (g := qh.cells) ([(qh.mk (17 : Int) (qi (LF - (3 : Int))) (3 : Int))] : List qh) [.agg ⟨[.int .i64 (17 : Int), .int .i64 (qi (LF - (3 : Int))), .int .i64 (3 : Int)]⟩] hS Tryd.runUnderlying72 Tryd.sizeOf75 X.el75 rfl rfl rfl (by simp [Value.cells]) rfl rfl rfl rfl rfl fun w MN MV M0 L8 hS => ?_
      obtain ⟨Mk, hM⟩ := qE hM
      refine Yk (ys := ([(qh.mk (17 : Int) (qi (LF - (3 : Int))) (3 : Int))] : List qh)) 1 hS rfl rfl LN rfl (L8.rd (i := 0) rfl) Tryd.runUnderlying72 Tryd.runUnderlying72 X.el75 (fun _ => rfl) rfl Xd Mk rfl fun Mq w Mu My MD hz L9 hS => ?_
      have hM := qB hz hM; clear hz
      refine sA hS rfl fun hS => zd <| zz (qc ?_)
      refine zI <| sM hS rfl fun hS => sM hS rfl fun hS => sB hS rfl fun hS => zH (v := Value.int .i64) (x0 := (qi (LC + LF))) hS (xv rfl) rfl fun MH a w hz hS => ?_
      have hM := qB hz hM; clear hz
      refine zd <| zz (qc ?_)
      exact LR _ _ ⟨Mu, My, Mq, MD, MH, hS.to [1] (by kernel_rfl) ⟨rfl, rfl, rfl, trivial⟩, L9, hM⟩
     ·refine wp_seq ?_
      refine zI <| sM hS rfl fun hS => sB hS rfl fun hS => zH (v := Value.bool) (x0 := (decide (LF ≥ (4 : Int)))) hS (xv rfl) rfl fun M7 a w hz hS => ?_
      have hM := qB hz hM; clear hz
      refine qz <| qy hS rfl hM (fun Mi hM => ?_) (fun Mi hM => ?_)
      ·refine wp_seq ?_
       refine zI <| sM hS rfl fun hS => sO hS (Vx rfl rfl) rfl fun hS => zH (v := Value.int .i64) (x0 := (if (7 : Int) < LF then (7 : Int) else LF)) hS (xv rfl) rfl fun LP a w hz hS => ?_
       have hM := qB hz hM; clear hz
       refine qz <| zI <| sM hS rfl fun hS => sM hS rfl fun hS => sM hS rfl fun hS => sO hS (x6 rfl rfl Tryd.runUnderlying45 Tryd.sizeOf3 LG.wk (fun _ => rfl) rfl LJ) rfl fun hS => sO hS (x9 rfl LG.wk (fun _ => rfl) LJ rfl Tryd.isAgg3) rfl fun hS => sO hS (Zq ([.int .i64 (rd LB LC), .int .i64 (0 : Int), .int .i64 (0 : Int)]) [(0, 1), (1, 1), (2, 1)] Tryd.zeroValue75 Tryd.runUnderlying75 (by intro w; simp [Tryd.sizeOf3]) rfl rfl) rfl fun hS => sM hS rfl fun hS => sB hS rfl fun hS => sO hS (Zq ([.int .i64 (16 : Int), .int .i64 (qi (LP - (4 : Int))), .int .i64 (2 : Int)]) [(0, 1), (1, 1), (2, 1)] Tryd.zeroValue75 Tryd.runUnderlying75 (by intro w; simp [Tryd.sizeOf3]) rfl rfl) rfl fun hS => Xs (g := qh.cells) ([(qh.mk (rd LB LC) (0 : Int) (0 : Int)), (qh.mk (16 : Int) (qi (LP - (4 : Int))) (2 : Int))] : List qh) [.agg ⟨[.int .i64 (rd LB LC), .int .i64 (0 : Int), .int .i64 (0 : Int)]⟩, .agg ⟨[.int .i64 (16 : Int), .int .i64 (qi (LP - (4 : Int))), .int .i64 (2 : Int)]⟩] hS Tryd.runUnderlying72 Tryd.sizeOf75 X.el75 rfl rfl rfl (by simp [Value.cells]) rfl rfl rfl rfl rfl fun w MO MW M3 Ma hS => ?_
       obtain ⟨Ml, hM⟩ := qE hM
       refine Yk (ys := ([(qh.mk (rd LB LC) (0 : Int) (0 : Int)), (qh.mk (16 : Int) (qi (LP - (4 : Int))) (2 : Int))] : List qh)) 1 hS rfl rfl LN rfl (Ma.rd (i := 0) rfl) Tryd.runUnderlying72 Tryd.runUnderlying72 X.el75 (fun _ => rfl) rfl Xd Ml rfl fun Mr w Mv Mz ME hz Mb hS => ?_
       have hM := qB hz hM; clear hz
       refine sA hS rfl fun hS => zd <| zz (qc ?_)
       refine zI <| sM hS rfl fun hS => sM hS rfl fun hS => sB hS rfl fun hS => zH (v := Value.int .i64) (x0 := (qi (LC + LP))) hS (xv rfl) rfl fun MI a w hz hS => ?_
       have hM := qB hz hM; clear hz
       refine zd <| zz (qc ?_)
       exact LR _ _ ⟨Mv, Mz, Mr, ME, MI, hS.to [1] (by kernel_rfl) ⟨rfl, rfl, rfl, trivial⟩, Mb, hM⟩
      ·refine wp_seq ?_
       refine zI <| sA hS rfl fun hS => qz <| zI <| sM hS rfl fun hS => sM hS rfl fun hS => sM hS rfl fun hS => sO hS (x6 rfl rfl Tryd.runUnderlying45 Tryd.sizeOf3 LG.wk (fun _ => rfl) rfl LJ) rfl fun hS => sO hS (x9 rfl LG.wk (fun _ => rfl) LJ rfl Tryd.isAgg3) rfl fun hS => sO hS (Zq ([.int .i64 (rd LB LC), .int .i64 (0 : Int), .int .i64 (0 : Int)]) [(0, 1), (1, 1), (2, 1)] Tryd.zeroValue75 Tryd.runUnderlying75 (by intro w; simp [Tryd.sizeOf3]) rfl rfl) rfl fun hS => Xs (g := qh.cells) ([(qh.mk (rd LB LC) (0 : Int) (0 : Int))] : List qh) [.agg ⟨[.int .i64 (rd LB LC), .int .i64 (0 : Int), .int .i64 (0 : Int)]⟩] hS Tryd.runUnderlying72 Tryd.sizeOf75 X.el75 rfl rfl rfl (by simp [Value.cells]) rfl rfl rfl rfl rfl fun w MP MX M4 Mc hS => ?_
       obtain ⟨Mm, hM⟩ := qE hM
       refine Yk (ys := ([(qh.mk (rd LB LC) (0 : Int) (0 : Int))] : List qh)) 1 hS rfl rfl LN rfl (Mc.rd (i := 0) rfl) Tryd.runUnderlying72 Tryd.runUnderlying72 X.el75 (fun _ => rfl) rfl Xd Mm rfl fun Ms w Mw MA MF hz Md hS => ?_
       have hM := qB hz hM; clear hz
       refine sA hS rfl fun hS => zd <| zz (qc ?_)
       refine zI <| sM hS rfl fun hS => sM hS rfl fun hS => sB hS rfl fun hS => zH (v := Value.int .i64) (x0 := (qi (LC + (1 : Int)))) hS (xv rfl) rfl fun MJ a w hz hS => ?_
       have hM := qB hz hM; clear hz
       refine zd <| zz (qc ?_)
       exact LR _ _ ⟨Mw, MA, Ms, MF, MJ, hS.to [1] (by kernel_rfl) ⟨rfl, rfl, rfl, trivial⟩, Md, hM⟩
  ·refine wp_exit ?_
   refine qC (qC (q9 (qc ?_)))
   refine qk <| sM hS rfl fun hS => sA hS rfl fun hS => qz <| wp_ret ?_
   exact zm (rs := [2]) hS rfl rfl (hret LK LL LE LM _ (qU hM) LN (hS.st.pick [0] (by kernel_rfl)))
theorem uH {H : xU} {F : List qm} {w : World} {R : Ending → World → Prop} {kr : (Int × (List Int)) → Prop} {kp : Value → Prop} (hG : Gl H) (K : Nat) (LB : qp) (LC : qu) (LD : Int) (LG : Nat) (L9 : qm) (L5 : Option Addr) (L7 : Nat) (Ma : qm) (LO : Option Addr) (LT : Nat) (LK : qm) (LP : Option Addr) (LU : Nat) (LL : qm) (LQ : Option Addr) (LV : Nat) (LM : qm) (LR : Option Addr) (LW : Nat) (LN : qm) (L6 : Option Addr) (L8 : Nat) (LJ : Option Addr) (LX : Nat) (Ms : xZ L9 LG ([.int .i64 LB.Writer_.place_.at_, .slice L5 LB.Writer_.bytes_.length L7, .slice LO LB.literals_.lengths_.length LT, .slice LP LB.literals_.codes_.length LU, .slice LQ LB.distances_.lengths_.length LV, .slice LR LB.distances_.codes_.length LW]) 49) (Mu : xh 5 (ci .u8) 1 L5 LB.Writer_.bytes_ L7 Ma) (Mv : xh 3 (ci .i64) 1 LO LB.literals_.lengths_ LT LK) (Mw : xh 3 (ci .i64) 1 LP LB.literals_.codes_ LU LL) (Mx : xh 3 (ci .i64) 1 LQ LB.distances_.lengths_ LV LM) (My : xh 3 (ci .i64) 1 LR LB.distances_.codes_ LW LN) (Mg : jn H [] F (ci .i64) L6 LC.lengths_) (MI : LC.lengths_.length ≤ L8) (Mh : jn H [] F (ci .i64) LJ LC.codes_) (MJ : LC.codes_.length ≤ LX)
    (hS : St w H [L9, Ma, LK, LL, LM, LN] F) (hm : (zV.m K LB LC LD).wp kr kp)
    (hret : ∀ (L1 : Int) (Mj : Option Addr) (Mk : Nat) (LI : (List Int)) (Mp : qm) (Mq : qm) (w : World), kr (L1, LI) → (xh 5 (ci .u8) 1 Mj LI Mk Mp) → (xZ Mq LG ([.int .i64 L1, .slice Mj LI.length Mk, .slice LO LB.literals_.lengths_.length LT, .slice LP LB.literals_.codes_.length LU, .slice LQ LB.distances_.lengths_.length LV, .slice LR LB.distances_.codes_.length LW]) 49) → St w H [Mq, Mp, LK, LL, LM, LN] F → R (.returned (.tuple ⟨[]⟩)) w) :
    Calls Tryd.prog 41 ⟨[qO LG 0, .agg ⟨[.slice L6 LC.lengths_.length L8, .slice LJ LC.codes_.length LX]⟩, .int .i64 LD]⟩ w R := by
 refine enter Tryd.func41 rfl Tryd.ntmps41 rfl hS fun a w hS => ?_
 have hM := hm; clear hm
 rw [zV.m] at hM
 refine qk <| bx ([.slice L6 LC.lengths_.length L8, .slice LJ LC.codes_.length LX]) hS rfl rfl rfl fun w L3 Ml Mb hS => qz <| qk <| sO hS (xr rfl Tryd.runUnderlying47 rfl Tryd.sizeOf45 rfl) rfl fun hS => sO hS (xW 0 rfl Mb rfl rfl Tryd.isAgg45) rfl fun hS => sM hS rfl fun hS => ?_
 obtain ⟨Me, hM⟩ := qE hM
 refine sO hS (x6 rfl rfl Tryd.runUnderlying45 Tryd.sizeOf3 Mg.wk (fun _ => rfl) rfl Me) rfl fun hS => sO hS (x9 rfl Mg.wk (fun _ => rfl) Me rfl Tryd.isAgg3) rfl fun hS => sB hS rfl fun hS => zH (v := Value.int .i64) (x0 := (qi ((rd LC.lengths_ LD) - (1 : Int)))) hS (xv rfl) rfl fun MF a w hz hS => ?_
 have hM := qB hz hM; clear hz
 refine qz <| xJ <| zv (fun Mr a w => ∃ (LH : Int) (LS : Option Addr) (LY : Nat) (LE : (List Int)) (LZ : qm) (L0 : qm) (LF : Int), Ss 30 [] [(0, qO LG 0), (2, .int .i64 LD), (4, qO L3 0), (6, .int .i64 LF)] H [L0, LZ, LK, LL, LM, LN, Ml] F a w ∧ (xh 5 (ci .u8) 1 LS LE LY LZ) ∧ (xZ L0 LG ([.int .i64 LH, .slice LS LE.length LY, .slice LO LB.literals_.lengths_.length LT, .slice LP LB.literals_.codes_.length LU, .slice LQ LB.distances_.lengths_.length LV, .slice LR LB.distances_.codes_.length LW]) 49) ∧ (zV.l1 K LB LC LD Mr LH LE LF).wp kr kp) K ?_ ?_ ?_
 ·exact ⟨LB.Writer_.place_.at_, L5, L7, LB.Writer_.bytes_, Ma, L9, MF, hS.to [1, 2, 3, 4, 5, 6, 0] (by kernel_rfl) ⟨rfl, rfl, rfl, rfl, trivial⟩, Mu, Ms, hM⟩
 ·intro a w hI; obtain ⟨_, _, _, _, _, _, _, _, _, _, hM⟩ := hI; exact zr hM
 ·intro Mr a w hI MK Mt
  obtain ⟨LH, LS, LY, LE, LZ, L0, LF, hS, Md, Mc, hM⟩ := hI
  rw [zV.l1] at hM
  refine wp_seq <| qk <| sM hS rfl fun hS => sB hS rfl fun hS => qz <| qy hS rfl hM (fun Mz hM => ?_) (fun Mz hM => ?_)
  ·refine wp_skip ?_
   refine qc <| wp_seq <| xJ ?_
   obtain ⟨Mf, hM⟩ := qE hM
   obtain ⟨MA, hM⟩ := qE hM
   refine zh (vals := [some (qO LG 0), some (qO LG 0), some (qO LG 0), some (qO L3 1), some (.slice LJ LC.codes_.length LX), some (.int .i64 LD), some (xz LJ (Int.toNat LD * 1)), some (.int .i64 (rd LC.codes_ LD)), some (.int .i64 LF), some (.int .i64 (xF .i64 (rd LC.codes_ LD) LF)), some (.int .i64 (ye .i64 (xF .i64 (rd LC.codes_ LD) LF) (1 : Int))), some (.int .u32 (wr .u32 (ye .i64 (xF .i64 (rd LC.codes_ LD) LF) (1 : Int)))), none]) hS xH rfl ?_
   intro l w ho hcl hA hst
   refine jQ hA hst ho hcl xQ xI 12 [0, 1, 2, 3, 4, 5, 6, 7, 8, 9, 10, 11] rfl rfl rfl rfl rfl (by exact ⟨nM rfl, nQ rfl (by exact qY (yu rfl) rfl), nQ rfl (by exact qY (xr rfl Tryd.runUnderlying49 rfl Tryd.sizeOf44 rfl) rfl), nQ rfl (by exact qY (xr rfl Tryd.runUnderlying47 rfl Tryd.sizeOf45 rfl) rfl), nQ rfl (by exact qY (xW 6 rfl Mb rfl rfl Tryd.isAgg45) rfl), nM rfl, nQ rfl (by exact qY (x6 rfl rfl Tryd.runUnderlying45 Tryd.sizeOf3 Mh.wk (fun _ => rfl) rfl Mf) rfl), nQ rfl (by exact qY (x9 rfl Mh.wk (fun _ => rfl) Mf rfl Tryd.isAgg3) rfl), nM rfl, nQ rfl (by exact qY (shr rfl rfl MA) rfl), nB rfl, nQ rfl (by exact qY (vH rfl Tryd.runUnderlying3 Tryd.runUnderlying53) rfl), trivial⟩) fun D l a w ho hcl hav hpre hm hE hk hA hst => ?_
   have hS := (Ss.mk hE hst).env2 (e' := [(19, qO LG 0), (28, .int .u32 (wr .u32 (ye .i64 (xF .i64 (rd LC.codes_ LD) LF) (1 : Int))))]) ⟨rfl, rfl, trivial⟩
   refine zi rfl <| qK hS rfl Tryd.call23 (zk hG K (qp.mk (qR.mk (qW.mk LH) LE) LB.literals_ LB.distances_) (wr .u32 (ye .i64 (xF .i64 (rd LC.codes_ LD) LF) (1 : Int))) (1 : Int) LG L0 LS LY LZ LO LT LK LP LU LL LQ LV LM LR LW LN Mc Md Mv Mw Mx My (hS.st.part 6 [0, 1, 2, 3, 4, 5, 6] (by kernel_rfl)) (qx hM) (fun MH Mi MB MC L4 Mm Mn w hM MD ME hst => qJ hS.ev hst.appF rfl fun hS => ?_))
   replace hS : Ss _ _ _ H [Mn, Mm, LK, LL, LM, LN, Ml] F _ _ := hS
   refine qz ?_
   replace hst := hS.st
   obtain ⟨hcl, hmust, hav2, hA⟩ := dn (vals' := [some (qO LG 0), some (qO LG 0), some (qO LG 0), some (qO L3 1), some (.slice LJ LC.codes_.length LX), some (.int .i64 LD), some (xz LJ (Int.toNat LD * 1)), some (.int .i64 (rd LC.codes_ LD)), some (.int .i64 LF), some (.int .i64 (xF .i64 (rd LC.codes_ LD) LF)), some (.int .i64 (ye .i64 (xF .i64 (rd LC.codes_ LD) LF) (1 : Int))), some (.int .u32 (wr .u32 (ye .i64 (xF .i64 (rd LC.codes_ LD) LF) (1 : Int)))), some (.int .i64 MH)]) 12 [(2, 12), (11, 12), (1, 2), (10, 11), (0, 1), (9, 10), (7, 9), (8, 9), (6, 7), (4, 6), (5, 6), (3, 4)] hA hcl hav hm hpre hk rfl rfl rfl rfl rfl rfl rfl
   clear hm hav
   refine yo hA hst ho hcl hmust [] rfl rfl rfl trivial fun a w hS => ?_
   replace hS := hS.env2 (e' := [(0, qO LG 0), (2, .int .i64 LD), (4, qO L3 0), (6, .int .i64 LF)]) ⟨rfl, rfl, rfl, rfl, trivial⟩
   refine zz (qc ?_)
   refine zI <| sM hS rfl fun hS => sB hS rfl fun hS => zH (v := Value.int .i64) (x0 := (qi (LF - (1 : Int)))) hS (xv rfl) rfl fun MG a w hz hS => ?_
   have hM := qB hz hM; clear hz
   refine zd <| qc ?_
   exact Mt _ _ ⟨Mi, MB, MC, L4, Mm, Mn, MG, hS.to [0, 1, 2, 3, 4, 5, 6] (by kernel_rfl) ⟨rfl, rfl, rfl, rfl, trivial⟩, MD, ME, hM⟩
  ·refine wp_exit ?_
   refine qC (qC (q9 ?_))
   exact vg (rs := []) hS rfl rfl (hret LH LS LY LE LZ L0 _ (qU hM) Md Mc (hS.st.pick [0, 1, 2, 3, 4, 5] (by kernel_rfl)))
theorem uh {H : xU} {F : List qm} {w : World} {R : Ending → World → Prop} {kr : ((List UInt8) × Int) → Prop} {kp : Value → Prop} (hG : Gl H) (K : Nat) (LD : List qv) (LW : Option Addr) (LX : Nat) (Na : jn H [] F qv.cells LW LD) (Pp : LD.length ≤ LX)
    (hS : St w H [] F) (hm : (qg.m K LD).wp kr kp)
    (hret : ∀ (Sg : List UInt8) (Sh : Int) (w : World), kr (Sg, Sh) → St w H [] F → R (.returned (.tuple ⟨[yb Sg, .int .i64 Sh]⟩)) w)
    (hpan : ∀ v w, kp v → St w H [] F → R (.panicked [⟨v, false, false⟩]) w) :
    Calls Tryd.prog 14 ⟨[.slice LW LD.length LX]⟩ w R := by
 refine enter Tryd.func14 rfl Tryd.ntmps14 rfl hS fun a w hS => ?_
 have hM := hm; clear hm
 rw [qg.m] at hM
 refine qk <| sA hS rfl fun hS => sA hS rfl fun hS => qz <| wp_seq <| qk <| sM hS rfl fun hS => qK hS rfl Tryd.call21 (Qj hG K LD LW LX (Na.app _) Pp (hS.st.part 0 [] (by kernel_rfl)) (qx hM) (fun Wx w hM  hst => qJ hS.ev hst.appF rfl fun hS => ?_))
 replace hS : Ss _ _ _ H [] F _ _ := hS
 refine sO hS (un rfl rfl) rfl fun hS => qz <| qy hS rfl hM (fun SW hM => ?_) (fun SW hM => ?_)
 ·refine wp_seq ?_
  refine zI <| sA hS rfl fun hS => sA hS rfl fun hS => qz <| wp_ret <| qA ?_
  exact zm (rs := [2, 3]) hS rfl rfl (hret ([] : List UInt8) (1 : Int) _ (qU hM) (hS.st.pick [] (by kernel_rfl)))
 ·refine wp_skip ?_
  refine qc <| zx (fun a w => ∃ (LU : Option Addr) (LV : Nat) (LQ : (List Int)) (N9 : qm) (L8 : Option Addr) (L9 : Nat) (L5 : (List Int)) (NR : qm), Ss 196 [] [(0, .slice LW LD.length LX), (4, .slice LU LQ.length LV), (5, .slice L8 L5.length L9)] H [N9, NR] F a w ∧ (xh 3 (ci .i64) 1 LU LQ LV N9) ∧ (xh 3 (ci .i64) 1 L8 L5 L9 NR) ∧ (qg.j1 K LD LQ L5).wp kr kp) (fun T9 Pg => ?_) ?_
  ·refine zh (vals := [none, none, none, none]) hS xH rfl ?_
   intro l w ho hcl hA hst
   obtain ⟨Pq, hM⟩ := qE hM
   obtain ⟨Mk, Nu⟩ := ur (List.replicate (Int.toNat (286 : Int)) (0 : Int))
   replace hM := qB Nu hM
   obtain ⟨Pr, hM⟩ := qE hM
   obtain ⟨Ms, Nv⟩ := ur (List.replicate (Int.toNat (30 : Int)) (0 : Int))
   replace hM := qB Nv hM
   refine D5 (vals := [none, none, none, none]) 0 1 [] [] rfl rfl rfl rfl rfl trivial (fun D l a w ho hcl hav hpre hm hE hk hA hst => ?_) (fun D l a w ho hcl hav hpre hm hE hk hA hst => ?_) ho hcl xQ xI List.not_mem_nil List.not_mem_nil hA hst
   ·have hS := (Ss.mk hE hst).env2 (e' := []) trivial
    refine zi rfl <| Ui (g := (ci .i64)) (m := (286 : Int)) (0 : Int) hS rfl rfl (by simp) Tryd.runUnderlying45 X.el3 (fun w => ⟨_, Tryd.zeroValue3 w, rfl⟩) (fun _ => rfl) rfl rfl Pq rfl fun T4 w MS MT Tu hz SB hS => ?_
    rw [← Nu] at hz; replace hz := hz.symm; subst hz
    refine qz ?_
    replace hst := hS.st
    obtain ⟨hcl, hmust, hav2, hA⟩ := dn (vals' := [some (.slice MS Mk.length MT), none, some (.slice MS Mk.length MT), none]) 0 [] hA hcl hav hm hpre hk rfl rfl rfl rfl rfl rfl rfl
    clear hm hav
    refine jQ hA hst ho hcl hav2 hmust 1 [2] rfl rfl rfl rfl rfl (by exact ⟨nA rfl, trivial⟩) fun D l a w ho hcl hav hpre hm hE hk hA hst => ?_
    have hS := (Ss.mk hE hst).env2 (e' := []) trivial
    refine zi rfl <| Ui (g := (ci .i64)) (m := (30 : Int)) (0 : Int) hS rfl rfl (by simp) Tryd.runUnderlying45 X.el3 (fun w => ⟨_, Tryd.zeroValue3 w, rfl⟩) (fun _ => rfl) rfl rfl Pr rfl fun T5 w NC NK Tv hz SC hS => ?_
    rw [← Nv] at hz; replace hz := hz.symm; subst hz
    refine qz ?_
    replace hst := hS.st
    obtain ⟨hcl, hmust, hav2, hA⟩ := dn (vals' := [some (.slice MS Mk.length MT), some (.slice NC Ms.length NK), some (.slice MS Mk.length MT), some (.slice NC Ms.length NK)]) 1 [] hA hcl hav hm hpre hk rfl rfl rfl rfl rfl rfl rfl
    clear hm hav
    refine yo hA hst ho hcl hmust [2, 3] rfl rfl rfl (by exact ⟨nA rfl, nA rfl, trivial⟩) fun a w hS => ?_
    replace hS := hS.env2 (e' := [(0, .slice LW LD.length LX), (4, .slice MS Mk.length MT), (5, .slice NC Ms.length NK)]) ⟨rfl, rfl, rfl, trivial⟩
    refine qc ?_
    exact Pg _ _ ⟨MS, MT, Mk, Tu, NC, NK, Ms, Tv, hS.to [1, 0] (by kernel_rfl) ⟨rfl, rfl, rfl, trivial⟩, SB, SC, hM⟩
   ·have hS := (Ss.mk hE hst).env2 (e' := []) trivial
    refine zi rfl <| Ui (g := (ci .i64)) (m := (30 : Int)) (0 : Int) hS rfl rfl (by simp) Tryd.runUnderlying45 X.el3 (fun w => ⟨_, Tryd.zeroValue3 w, rfl⟩) (fun _ => rfl) rfl rfl Pr rfl fun T6 w Nd Ni Tw hz SD hS => ?_
    rw [← Nv] at hz; replace hz := hz.symm; subst hz
    refine qz ?_
    replace hst := hS.st
    obtain ⟨hcl, hmust, hav2, hA⟩ := dn (vals' := [none, some (.slice Nd Ms.length Ni), none, none]) 1 [] hA hcl hav hm hpre hk rfl rfl rfl rfl rfl rfl rfl
    clear hm hav
    refine jQ hA hst ho hcl hav2 hmust 0 [] rfl rfl rfl rfl rfl trivial fun D l a w ho hcl hav hpre hm hE hk hA hst => ?_
    have hS := (Ss.mk hE hst).env2 (e' := []) trivial
    refine zi rfl <| Ui (g := (ci .i64)) (m := (286 : Int)) (0 : Int) hS rfl rfl (by simp) Tryd.runUnderlying45 X.el3 (fun w => ⟨_, Tryd.zeroValue3 w, rfl⟩) (fun _ => rfl) rfl rfl Pq rfl fun T7 w ND NL Tx hz SE hS => ?_
    rw [← Nu] at hz; replace hz := hz.symm; subst hz
    refine qz ?_
    replace hst := hS.st
    obtain ⟨hcl, hmust, hav2, hA⟩ := dn (vals' := [some (.slice ND Mk.length NL), some (.slice Nd Ms.length Ni), some (.slice ND Mk.length NL), some (.slice Nd Ms.length Ni)]) 0 [] hA hcl hav hm hpre hk rfl rfl rfl rfl rfl rfl rfl
    clear hm hav
    refine yo hA hst ho hcl hmust [2, 3] rfl rfl rfl (by exact ⟨nA rfl, nA rfl, trivial⟩) fun a w hS => ?_
    replace hS := hS.env2 (e' := [(0, .slice LW LD.length LX), (4, .slice ND Mk.length NL), (5, .slice Nd Ms.length Ni)]) ⟨rfl, rfl, rfl, trivial⟩
    refine qc ?_
    exact Pg _ _ ⟨ND, NL, Mk, Tx, Nd, Ni, Ms, Tw, hS.to [0, 1] (by kernel_rfl) ⟨rfl, rfl, rfl, trivial⟩, SE, SD, hM⟩
  ·intro a w hI
   obtain ⟨LU, LV, LQ, N9, L8, L9, L5, NR, hS, M3, SG, hM⟩ := hI
   rw [qg.j1] at hM
   refine qk <| sM hS rfl fun hS => ?_
   obtain ⟨M4, hM⟩ := qE hM
   refine sO hS (x6 rfl rfl Tryd.runUnderlying45 Tryd.sizeOf3 (M3.rd (i := 0) rfl) (fun _ => rfl) rfl M4) rfl fun hS => sO hS (x9 rfl (M3.rd (i := 0) rfl) (fun _ => rfl) M4 rfl Tryd.isAgg3) rfl fun hS => sB hS rfl fun hS => sO hS (x6 rfl rfl Tryd.runUnderlying45 Tryd.sizeOf3 (M3.rd (i := 0) rfl) (fun _ => rfl) rfl M4) rfl fun hS => Xj (i := (256 : Int)) (sz := 1) 0 0 ((qi ((rd LQ (256 : Int)) + (1 : Int)))) hS rfl rfl M3 rfl Tryd.sizeOf3 (xG (qi ((rd LQ (256 : Int)) + (1 : Int)))) (fun _ => rfl) M4 rfl rfl fun Nx w Ty hz PA SH hS => ?_
   have hM := qB hz hM; clear hz
   replace hS := hS.re 4 (u := .slice LU LQ.length LV) (v := .slice LU Nx.length LV) rfl (by rw [PA])
   replace hS := hS.re 28 (u := .slice LU LQ.length LV) (v := .slice LU Nx.length LV) rfl (by rw [PA])
   refine qz <| zx (fun a w => ∃ (LT : (List Int)) (NS : qm) (LR : (List Int)) (MU : qm), Ss 196 [] [(0, .slice LW LD.length LX), (4, .slice LU LT.length LV), (5, .slice L8 LR.length L9)] H [NS, MU] F a w ∧ (xh 3 (ci .i64) 1 LU LT LV NS) ∧ (xh 3 (ci .i64) 1 L8 LR L9 MU) ∧ (qg.j3 K LD LT LR).wp kr kp) (fun Wb Sq => ?_) ?_
   ·refine wp_seq ?_
    refine zI <| sM hS rfl fun hS => sO hS (ya rfl Tryd.runUnderlying25) rfl fun hS => sM hS rfl fun hS => qz <| xJ <| zv (fun Sb a w => ∃ (LH : (List Int)) (Nm : qm) (LJ : (List Int)) (MP : qm) (Ma : Int), Ss 196 [] [(0, .slice LW LD.length LX), (4, .slice LU LH.length LV), (5, .slice L8 LJ.length L9), (33, .slice LW LD.length LX), (34, .int .i64 (LD.length : Int)), (35, .int .i64 Ma)] H [Nm, MP] F a w ∧ (xh 3 (ci .i64) 1 LU LH LV Nm) ∧ (xh 3 (ci .i64) 1 L8 LJ L9 MP) ∧ (qg.l2 K LD Sb LH LJ Ma).wp kr kp) K ?_ ?_ ?_
    ·exact ⟨Nx, Ty, L5, NR, (0 : Int), hS.to [0, 1] (by kernel_rfl) ⟨rfl, rfl, rfl, rfl, rfl, rfl, trivial⟩, SH, SG, hM⟩
    ·intro a w hI; obtain ⟨_, _, _, _, _, _, _, _, hM⟩ := hI; exact zr hM
    ·intro Sb a w hI Wa Ph
     obtain ⟨LH, Nm, LJ, MP, Ma, hS, Mq, MK, hM⟩ := hI
     rw [qg.l2] at hM
     refine qk <| sB hS rfl fun hS => qz <| wp_seq <| qy hS rfl hM (fun SX hM => ?_) (fun SX hM => ?_)
     ·refine wp_skip ?_
      refine qc <| wp_seq <| xJ <| wp_seq <| zI ?_
      obtain ⟨Ps, hM⟩ := qE hM
      refine sO hS (x6 rfl rfl Tryd.runUnderlying25 Tryd.sizeOf32 Na.wk (fun _ => rfl) rfl Ps) rfl fun hS => sO hS (vS rfl Na.wk (fun _ => rfl) Ps Tryd.isAgg32 Tryd.sizeOf32 rfl) rfl fun hS => QJ ([.int .u8 (0 : Int), .int .i64 (0 : Int), .int .i64 (0 : Int)]) hS Tryd.zeroValue32 rfl rfl fun w Wl Wn Si hS => u5 0 ([.int .u8 ((rd LD Ma).Lit_), .int .i64 ((rd LD Ma).Len_), .int .i64 ((rd LD Ma).Dist_)]) ([.int .u8 ((rd LD Ma).Lit_), .int .i64 ((rd LD Ma).Len_), .int .i64 ((rd LD Ma).Dist_)]) hS rfl rfl Si rfl rfl Tryd.sizeOf32 (by simp [Value.oneCell']) (Nat.le_of_ble_eq_true rfl) rfl fun w PR M0 hS => qz <| qk <| sO hS (xr rfl Tryd.runUnderlying32 rfl Tryd.sizeOf3 rfl) rfl fun hS => sO hS (xW 0 rfl M0 rfl rfl Tryd.isAgg3) rfl fun hS => sB hS rfl fun hS => qz <| qy hS rfl hM (fun SY hM => ?_) (fun SY hM => ?_)
      ·refine zI ?_
       refine sM hS rfl fun hS => sO hS (xr rfl Tryd.runUnderlying32 rfl Tryd.sizeOf5 rfl) rfl fun hS => sO hS (xW 0 rfl M0 rfl rfl Tryd.isAgg5) rfl fun hS => ?_
       obtain ⟨M5, hM⟩ := qE hM
       refine sO hS (x6 rfl rfl Tryd.runUnderlying45 Tryd.sizeOf3 (Mq.rd (i := 1) rfl) (fun _ => rfl) rfl M5) rfl fun hS => sO hS (x9 rfl (Mq.rd (i := 1) rfl) (fun _ => rfl) M5 rfl Tryd.isAgg3) rfl fun hS => sB hS rfl fun hS => sO hS (x6 rfl rfl Tryd.runUnderlying45 Tryd.sizeOf3 (Mq.rd (i := 1) rfl) (fun _ => rfl) rfl M5) rfl fun hS => Xj (i := (rd LD Ma).Lit_) (sz := 1) 1 0 ((qi ((rd LH (rd LD Ma).Lit_) + (1 : Int)))) hS rfl rfl Mq rfl Tryd.sizeOf3 (xG (qi ((rd LH (rd LD Ma).Lit_) + (1 : Int)))) (fun _ => rfl) M5 rfl rfl fun Ny w Tz hz PB SI hS => ?_
       have hM := qB hz hM; clear hz
       replace hS := hS.re 4 (u := .slice LU LH.length LV) (v := .slice LU Ny.length LV) rfl (by rw [PB])
       replace hS := hS.re 42 (u := .slice LU LH.length LV) (v := .slice LU Ny.length LV) rfl (by rw [PB])
       refine zd <| zz (qc ?_)
       refine zI <| sB hS rfl fun hS => sM hS rfl fun hS => zd <| qc ?_
       exact Ph _ _ ⟨Ny, Tz, LJ, MP, (qi (Ma + (1 : Int))), hS.to [1, 2] (by kernel_rfl) ⟨rfl, rfl, rfl, rfl, rfl, rfl, trivial⟩, SI, MK, hM⟩
      ·refine wp_seq ?_
       refine zI <| sM hS rfl fun hS => sO hS (xr rfl Tryd.runUnderlying32 rfl Tryd.sizeOf3 rfl) rfl fun hS => sO hS (xW 0 rfl M0 rfl rfl Tryd.isAgg3) rfl fun hS => qK hS rfl Tryd.call35 (uF hG K ((rd LD Ma).Len_) (hS.st.part 0 [0, 1, 2] (by kernel_rfl)) (qx hM) (fun Mz Tk TV w hM  hst => qJ hS.ev hst.appF rfl fun hS => ?_))
       replace hS : Ss _ _ _ H [PR, Nm, MP] F _ _ := hS
       refine sO hS (G6 rfl Tryd.runUnderlying68 rfl Tryd.isAgg3 rfl) rfl fun hS => ?_
       obtain ⟨M6, hM⟩ := qE hM
       refine sO hS (x6 rfl rfl Tryd.runUnderlying45 Tryd.sizeOf3 (Mq.rd (i := 1) rfl) (fun _ => rfl) rfl M6) rfl fun hS => sO hS (x9 rfl (Mq.rd (i := 1) rfl) (fun _ => rfl) M6 rfl Tryd.isAgg3) rfl fun hS => sB hS rfl fun hS => sO hS (x6 rfl rfl Tryd.runUnderlying45 Tryd.sizeOf3 (Mq.rd (i := 1) rfl) (fun _ => rfl) rfl M6) rfl fun hS => Xj (i := Mz) (sz := 1) 1 0 ((qi ((rd LH Mz) + (1 : Int)))) hS rfl rfl Mq rfl Tryd.sizeOf3 (xG (qi ((rd LH Mz) + (1 : Int)))) (fun _ => rfl) M6 rfl rfl fun Nz w PS hz PC SJ hS => ?_
       have hM := qB hz hM; clear hz
       replace hS := hS.re 4 (u := .slice LU LH.length LV) (v := .slice LU Nz.length LV) rfl (by rw [PC])
       replace hS := hS.re 49 (u := .slice LU LH.length LV) (v := .slice LU Nz.length LV) rfl (by rw [PC])
       refine qz <| zI <| sM hS rfl fun hS => sO hS (xr rfl Tryd.runUnderlying32 rfl Tryd.sizeOf3 rfl) rfl fun hS => sO hS (xW 0 rfl M0 rfl rfl Tryd.isAgg3) rfl fun hS => qK hS rfl Tryd.call36 (vJ hG K ((rd LD Ma).Dist_) (hS.st.part 0 [0, 1, 2] (by kernel_rfl)) (qx hM) (fun MA Tl TW w hM  hst => qJ hS.ev hst.appF rfl fun hS => ?_))
       replace hS : Ss _ _ _ H [PR, PS, MP] F _ _ := hS
       refine sO hS (G6 rfl Tryd.runUnderlying68 rfl Tryd.isAgg3 rfl) rfl fun hS => ?_
       obtain ⟨M7, hM⟩ := qE hM
       refine sO hS (x6 rfl rfl Tryd.runUnderlying45 Tryd.sizeOf3 (MK.rd (i := 2) rfl) (fun _ => rfl) rfl M7) rfl fun hS => sO hS (x9 rfl (MK.rd (i := 2) rfl) (fun _ => rfl) M7 rfl Tryd.isAgg3) rfl fun hS => sB hS rfl fun hS => sO hS (x6 rfl rfl Tryd.runUnderlying45 Tryd.sizeOf3 (MK.rd (i := 2) rfl) (fun _ => rfl) rfl M7) rfl fun hS => Xj (i := MA) (sz := 1) 2 0 ((qi ((rd LJ MA) + (1 : Int)))) hS rfl rfl MK rfl Tryd.sizeOf3 (xG (qi ((rd LJ MA) + (1 : Int)))) (fun _ => rfl) M7 rfl rfl fun NA w TA hz PD SK hS => ?_
       have hM := qB hz hM; clear hz
       replace hS := hS.re 5 (u := .slice L8 LJ.length L9) (v := .slice L8 NA.length L9) rfl (by rw [PD])
       replace hS := hS.re 58 (u := .slice L8 LJ.length L9) (v := .slice L8 NA.length L9) rfl (by rw [PD])
       refine zd <| zz (qc ?_)
       refine zI <| sB hS rfl fun hS => sM hS rfl fun hS => zd <| qc ?_
       exact Ph _ _ ⟨Nz, PS, NA, TA, (qi (Ma + (1 : Int))), hS.to [1, 2] (by kernel_rfl) ⟨rfl, rfl, rfl, rfl, rfl, rfl, trivial⟩, SJ, SK, hM⟩
     ·refine wp_exit ?_
      refine qC (qC (q9 (qc ?_)))
      exact Sq _ _ ⟨LH, Nm, LJ, MP, hS.to [0, 1] (by kernel_rfl) ⟨rfl, rfl, rfl, trivial⟩, Mq, MK, hM⟩
   ·intro a w hI
    obtain ⟨LT, NS, LR, MU, hS, SL, SM, hM⟩ := hI
    rw [qg.j3] at hM
    refine qk <| sM hS rfl fun hS => qK hS rfl Tryd.call38 (vK hG K LT LU LV NS SL (hS.st.part 1 [0, 1] (by kernel_rfl)) (qx hM) (fun LZ L1 LN LK MX Nn w hM Mu Wv P8 hst => qJ hS.ev hst.appF rfl fun hS => ?_) (fun v w hk hst => vr (xf (⟨hS.ev.defs, hpan _ _ hk hst.appF.frame⟩))))
    replace hS : Ss _ _ _ H [LK, Nn, MU] F _ _ := hS
    replace hS := hS.re 4 (u := .slice LU LT.length LV) (v := .slice LU MX.length LV) rfl (by rw [P8])
    replace hS := hS.re 68 (u := .slice LU LT.length LV) (v := .slice LU MX.length LV) rfl (by rw [P8])
    refine qK hS rfl Tryd.call37 (yR hG K LN LZ L1 (Mu.rdF (i := 0) rfl) (Mu.cap (fun _ => rfl) rfl) (hS.st.part 0 [0, 1, 2] (by kernel_rfl)) (qx hM) (fun Me Mh LE LL w hM MH hst => qJ hS.ev hst.appF rfl fun hS => ?_))
    replace hS : Ss _ _ _ H [LL, LK, Nn, MU] F _ _ := hS
    refine sM hS rfl fun hS => qK hS rfl Tryd.call38 (vK hG K LR L8 L9 MU SM (hS.st.part 1 [3, 0, 1, 2] (by kernel_rfl)) (qx hM) (fun L0 L3 LO LM MY Pa w hM Mv Ww P9 hst => qJ hS.ev hst.appF rfl fun hS => ?_) (fun v w hk hst => vr (xf (⟨hS.ev.defs, hpan _ _ hk hst.appF.frame⟩))))
    replace hS : Ss _ _ _ H [LM, Pa, LL, LK, Nn] F _ _ := hS
    replace hS := hS.re 5 (u := .slice L8 LR.length L9) (v := .slice L8 MY.length L9) rfl (by rw [P9])
    replace hS := hS.re 71 (u := .slice L8 LR.length L9) (v := .slice L8 MY.length L9) rfl (by rw [P9])
    refine qK hS rfl Tryd.call37 (yR hG K LO L0 L3 (Mv.rdF (i := 0) rfl) (Mv.cap (fun _ => rfl) rfl) (hS.st.part 0 [0, 1, 2, 3, 4] (by kernel_rfl)) (qx hM) (fun Mf Mi LF LP w hM MI hst => qJ hS.ev hst.appF rfl fun hS => ?_))
    replace hS : Ss _ _ _ H [LP, LM, Pa, LL, LK, Nn] F _ _ := hS
    refine sO hS (Zq ([.int .i64 (0 : Int), .slice none 0 0, .slice LZ LN.length L1, .slice Me LE.length Mh, .slice L0 LO.length L3, .slice Mf LF.length Mi]) [(0, 2), (2, 2), (4, 2)] Tryd.zeroValue49 Tryd.runUnderlying49 (by intro w; simp [Tryd.sizeOf44, Tryd.sizeOf47]) rfl rfl) rfl fun hS => bx ([.int .i64 (0 : Int), .slice none 0 0, .slice LZ LN.length L1, .slice Me LE.length Mh, .slice L0 LO.length L3, .slice Mf LF.length Mi]) hS rfl rfl rfl fun w LC ME MJ hS => ?_
    obtain ⟨MF, SN, hS⟩ := hS.nilV 5 (ci .u8) 1
    refine sA hS rfl fun hS => qz <| wp_seq <| zh (vals := [none, some (qO LC 0), some (qO LC 0), some (qO LC 2), some (qO LC 2), some (.slice LZ LN.length L1), none, some (qO LC 0), some (qO LC 0), some (qO LC 4), some (qO LC 4), some (.slice L0 LO.length L3), none, none, none]) hS xH rfl ?_
    intro l w ho hcl hA hst
    refine jQ hA hst ho hcl xQ xI 0 [1, 2, 3, 4, 5, 7, 8, 9, 10, 11] rfl rfl rfl rfl rfl (by exact ⟨nM rfl, nQ rfl (by exact qY (yu rfl) rfl), nQ rfl (by exact qY (xr rfl Tryd.runUnderlying49 rfl Tryd.sizeOf47 rfl) rfl), nQ rfl (by exact qY (xr rfl Tryd.runUnderlying47 rfl Tryd.sizeOf45 rfl) rfl), nQ rfl (by exact qY (xW 1 rfl MJ rfl rfl Tryd.isAgg45) rfl), nM rfl, nQ rfl (by exact qY (yu rfl) rfl), nQ rfl (by exact qY (xr rfl Tryd.runUnderlying49 rfl Tryd.sizeOf47 rfl) rfl), nQ rfl (by exact qY (xr rfl Tryd.runUnderlying47 rfl Tryd.sizeOf45 rfl) rfl), nQ rfl (by exact qY (xW 1 rfl MJ rfl rfl Tryd.isAgg45) rfl), trivial⟩) fun D l a w ho hcl hav hpre hm hE hk hA hst => ?_
    have hS := (Ss.mk hE hst).env2 (e' := []) trivial
    refine zi rfl <| Xs (g := (ci .i64)) ([] : List Int) [] hS Tryd.runUnderlying45 Tryd.sizeOf3 X.el3 rfl rfl rfl (by simp [Value.cells]) rfl rfl rfl rfl rfl fun w Nf Nj Wo SO hS => qz ?_
    replace hst := hS.st
    obtain ⟨hcl, hmust, hav2, hA⟩ := dn (vals' := [some (.slice Nf ([] : List Int).length Nj), some (qO LC 0), some (qO LC 0), some (qO LC 2), some (qO LC 2), some (.slice LZ LN.length L1), none, some (qO LC 0), some (qO LC 0), some (qO LC 4), some (qO LC 4), some (.slice L0 LO.length L3), none, none, none]) 0 [] hA hcl hav hm hpre hk rfl rfl rfl rfl rfl rfl rfl
    clear hm hav
    refine jQ hA hst ho hcl hav2 hmust 6 [1, 2, 3, 4, 5, 7, 8, 9, 10, 11] rfl rfl rfl rfl rfl (by exact ⟨nM rfl, nQ rfl (by exact qY (yu rfl) rfl), nQ rfl (by exact qY (xr rfl Tryd.runUnderlying49 rfl Tryd.sizeOf47 rfl) rfl), nQ rfl (by exact qY (xr rfl Tryd.runUnderlying47 rfl Tryd.sizeOf45 rfl) rfl), nQ rfl (by exact qY (xW 2 rfl MJ rfl rfl Tryd.isAgg45) rfl), nM rfl, nQ rfl (by exact qY (yu rfl) rfl), nQ rfl (by exact qY (xr rfl Tryd.runUnderlying49 rfl Tryd.sizeOf47 rfl) rfl), nQ rfl (by exact qY (xr rfl Tryd.runUnderlying47 rfl Tryd.sizeOf45 rfl) rfl), nQ rfl (by exact qY (xW 2 rfl MJ rfl rfl Tryd.isAgg45) rfl), trivial⟩) fun D l a w ho hcl hav hpre hm hE hk hA hst => ?_
    have hS := (Ss.mk hE hst).env2 (e' := [(76, .slice Nf ([] : List Int).length Nj), (81, .slice LZ LN.length L1)]) ⟨rfl, rfl, trivial⟩
    refine zi rfl ?_
    obtain ⟨S5, hM⟩ := qE hM
    refine Yk (ys := LN) 0 hS rfl rfl SO rfl (Mu.rd (i := 7) rfl) Tryd.runUnderlying45 Tryd.runUnderlying45 X.el3 (fun _ => rfl) rfl xG S5 rfl fun Nb w NE NM Wp hz SP hS => ?_
    have hM := qB hz hM; clear hz
    refine qz ?_
    replace hst := hS.st
    obtain ⟨hcl, hmust, hav2, hA⟩ := dn (vals' := [some (.slice Nf ([] : List Int).length Nj), some (qO LC 0), some (qO LC 0), some (qO LC 2), some (qO LC 2), some (.slice LZ LN.length L1), some (.slice NE Nb.length NM), some (qO LC 0), some (qO LC 0), some (qO LC 4), some (qO LC 4), some (.slice L0 LO.length L3), none, none, none]) 6 [(0, 6), (5, 6), (4, 5), (3, 4), (2, 3), (1, 2)] hA hcl hav hm hpre hk rfl rfl rfl rfl rfl rfl rfl
    clear hm hav
    refine jQ hA hst ho hcl hav2 hmust 12 [7, 8, 9, 10, 11] rfl rfl rfl rfl rfl (by exact ⟨nM rfl, nQ rfl (by exact qY (yu rfl) rfl), nQ rfl (by exact qY (xr rfl Tryd.runUnderlying49 rfl Tryd.sizeOf47 rfl) rfl), nQ rfl (by exact qY (xr rfl Tryd.runUnderlying47 rfl Tryd.sizeOf45 rfl) rfl), nQ rfl (by exact qY (xW 2 rfl MJ rfl rfl Tryd.isAgg45) rfl), trivial⟩) fun D l a w ho hcl hav hpre hm hE hk hA hst => ?_
    have hS := (Ss.mk hE hst).env2 (e' := [(82, .slice NE Nb.length NM), (87, .slice L0 LO.length L3)]) ⟨rfl, rfl, trivial⟩
    refine zi rfl ?_
    obtain ⟨S6, hM⟩ := qE hM
    refine Yk (ys := LO) 0 hS rfl rfl SP rfl (Mv.rd (i := 4) rfl) Tryd.runUnderlying45 Tryd.runUnderlying45 X.el3 (fun _ => rfl) rfl xG S6 rfl fun Nc w NF NN TB hz Pj hS => ?_
    have hM := qB hz hM; clear hz
    refine qz ?_
    replace hst := hS.st
    obtain ⟨hcl, hmust, hav2, hA⟩ := dn (vals' := [some (.slice Nf ([] : List Int).length Nj), some (qO LC 0), some (qO LC 0), some (qO LC 2), some (qO LC 2), some (.slice LZ LN.length L1), some (.slice NE Nb.length NM), some (qO LC 0), some (qO LC 0), some (qO LC 4), some (qO LC 4), some (.slice L0 LO.length L3), some (.slice NF Nc.length NN), none, none]) 12 [(6, 12), (11, 12), (0, 6), (5, 6), (10, 11), (4, 5), (9, 10), (3, 4), (8, 9), (2, 3), (7, 8), (1, 2)] hA hcl hav hm hpre hk rfl rfl rfl rfl rfl rfl rfl
    clear hm hav
    refine jQ hA hst ho hcl hav2 hmust 13 [] rfl rfl rfl rfl rfl trivial fun D l a w ho hcl hav hpre hm hE hk hA hst => ?_
    have hS := (Ss.mk hE hst).env2 (e' := [(88, .slice NF Nc.length NN)]) ⟨rfl, trivial⟩
    refine zi rfl <| qK hS rfl Tryd.call39 (Zt hG K Nc NF NN (Pj.rdF (i := 0) rfl) (Pj.cap (fun _ => rfl) rfl) (hS.st.part 0 [0, 1, 2, 3, 4, 5, 6, 7, 8] (by kernel_rfl)) (qx hM) (fun Mg Mj LG L6 w hM N0 hst => qJ hS.ev hst.appF rfl fun hS => ?_))
    replace hS : Ss _ _ _ H [L6, TB, MF, ME, LP, LM, Pa, LL, LK, Nn] F _ _ := hS
    refine qz ?_
    replace hst := hS.st
    obtain ⟨hcl, hmust, hav2, hA⟩ := dn (vals' := [some (.slice Nf ([] : List Int).length Nj), some (qO LC 0), some (qO LC 0), some (qO LC 2), some (qO LC 2), some (.slice LZ LN.length L1), some (.slice NE Nb.length NM), some (qO LC 0), some (qO LC 0), some (qO LC 4), some (qO LC 4), some (.slice L0 LO.length L3), some (.slice NF Nc.length NN), some (.slice Mg LG.length Mj), some (.slice Mg LG.length Mj)]) 13 [(12, 13), (6, 12), (11, 12), (0, 6), (5, 6), (10, 11), (4, 5), (9, 10), (3, 4), (8, 9), (2, 3), (7, 8), (1, 2)] hA hcl hav hm hpre hk rfl rfl rfl rfl rfl rfl rfl
    clear hm hav
    refine yo hA hst ho hcl hmust [14] rfl rfl rfl (by exact ⟨nA rfl, trivial⟩) fun a w hS => ?_
    replace hS := hS.env2 (e' := [(0, .slice LW LD.length LX), (8, qO LC 0), (9, .slice Mg LG.length Mj)]) ⟨rfl, rfl, rfl, trivial⟩
    refine qc <| wp_seq <| zI ?_
    obtain ⟨S7, hM⟩ := qE hM
    refine Ui (g := (ci .i64)) (m := (19 : Int)) (0 : Int) hS rfl rfl (by simp) Tryd.runUnderlying45 X.el3 (fun w => ⟨_, Tryd.zeroValue3 w, rfl⟩) (fun _ => rfl) rfl rfl S7 rfl fun Tb w LI LS TC hz SQ hS => ?_
    have hM := qB hz hM; clear hz
    refine sA hS rfl fun hS => qz <| zx (fun a w => ∃ (LB : (List Int)) (MV : qm), Ss 196 [] [(0, .slice LW LD.length LX), (8, qO LC 0), (9, .slice Mg LG.length Mj), (10, .slice LI LB.length LS)] H [ME, MF, LK, LL, LM, LP, L6, MV] F a w ∧ (xh 3 (ci .i64) 1 LI LB LS MV) ∧ (qg.j5 K LD LN LE LO LF LG LB).wp kr kp) (fun Wd Su => ?_) ?_
    ·refine wp_seq ?_
     refine zI <| sM hS rfl fun hS => sO hS (ya rfl Tryd.runUnderlying72) rfl fun hS => sM hS rfl fun hS => qz <| xJ <| zv (fun Sc a w => ∃ (LY : (List Int)) (NT : qm) (Mp : Int), Ss 196 [] [(0, .slice LW LD.length LX), (8, qO LC 0), (9, .slice Mg LG.length Mj), (10, .slice LI LY.length LS), (91, .slice Mg LG.length Mj), (92, .int .i64 (LG.length : Int)), (93, .int .i64 Mp)] H [ME, MF, LK, LL, LM, LP, L6, NT] F a w ∧ (xh 3 (ci .i64) 1 LI LY LS NT) ∧ (qg.l4 K LD LN LE LO LF LG Sc LY Mp).wp kr kp) K ?_ ?_ ?_
     ·exact ⟨Tb, TC, (0 : Int), hS.to [4, 3, 9, 8, 6, 5, 1, 0] (by kernel_rfl) ⟨rfl, rfl, rfl, rfl, rfl, rfl, rfl, trivial⟩, SQ, hM⟩
     ·intro a w hI; obtain ⟨_, _, _, _, _, hM⟩ := hI; exact zr hM
     ·intro Sc a w hI Wc Sr
      obtain ⟨LY, NT, Mp, hS, MQ, hM⟩ := hI
      rw [qg.l4] at hM
      refine qk <| sB hS rfl fun hS => qz <| wp_seq <| qy hS rfl hM (fun SZ hM => ?_) (fun SZ hM => ?_)
      ·refine wp_skip ?_
       refine qc <| wp_seq <| xJ <| wp_seq <| zI ?_
       obtain ⟨Pt, hM⟩ := qE hM
       refine sO hS (x6 rfl rfl Tryd.runUnderlying72 Tryd.sizeOf75 (N0.rd (i := 6) rfl) (fun _ => rfl) rfl Pt) rfl fun hS => sO hS (vS rfl (N0.rd (i := 6) rfl) (fun _ => rfl) Pt Tryd.isAgg75 Tryd.sizeOf75 rfl) rfl fun hS => QJ ([.int .i64 (0 : Int), .int .i64 (0 : Int), .int .i64 (0 : Int)]) hS Tryd.zeroValue75 rfl rfl fun w Wm Wq Sj hS => u5 0 ([.int .i64 ((rd LG Mp).symbol_), .int .i64 ((rd LG Mp).more_), .int .i64 ((rd LG Mp).bits_)]) ([.int .i64 ((rd LG Mp).symbol_), .int .i64 ((rd LG Mp).more_), .int .i64 ((rd LG Mp).bits_)]) hS rfl rfl Sj rfl rfl Tryd.sizeOf75 (by simp [Value.oneCell']) (Nat.le_of_ble_eq_true rfl) rfl fun w Wr Sk hS => qz <| zI <| sM hS rfl fun hS => sO hS (xr rfl Tryd.runUnderlying75 rfl Tryd.sizeOf3 rfl) rfl fun hS => sO hS (xW 0 rfl Sk rfl rfl Tryd.isAgg3) rfl fun hS => ?_
       obtain ⟨M8, hM⟩ := qE hM
       refine sO hS (x6 rfl rfl Tryd.runUnderlying45 Tryd.sizeOf3 (MQ.rd (i := 8) rfl) (fun _ => rfl) rfl M8) rfl fun hS => sO hS (x9 rfl (MQ.rd (i := 8) rfl) (fun _ => rfl) M8 rfl Tryd.isAgg3) rfl fun hS => sB hS rfl fun hS => sO hS (x6 rfl rfl Tryd.runUnderlying45 Tryd.sizeOf3 (MQ.rd (i := 8) rfl) (fun _ => rfl) rfl M8) rfl fun hS => Xj (i := (rd LG Mp).symbol_) (sz := 1) 8 0 ((qi ((rd LY (rd LG Mp).symbol_) + (1 : Int)))) hS rfl rfl MQ rfl Tryd.sizeOf3 (xG (qi ((rd LY (rd LG Mp).symbol_) + (1 : Int)))) (fun _ => rfl) M8 rfl rfl fun NB w TD hz PE SR hS => ?_
       have hM := qB hz hM; clear hz
       replace hS := hS.re 10 (u := .slice LI LY.length LS) (v := .slice LI NB.length LS) rfl (by rw [PE])
       replace hS := hS.re 97 (u := .slice LI LY.length LS) (v := .slice LI NB.length LS) rfl (by rw [PE])
       refine zd <| zz (qc ?_)
       refine zI <| sB hS rfl fun hS => sM hS rfl fun hS => zd <| qc ?_
       exact Sr _ _ ⟨NB, TD, (qi (Mp + (1 : Int))), hS.to [1, 2, 3, 4, 5, 6, 7, 8] (by kernel_rfl) ⟨rfl, rfl, rfl, rfl, rfl, rfl, rfl, trivial⟩, SR, hM⟩
      ·refine wp_exit ?_
       refine qC (qC (q9 (qc ?_)))
       exact Su _ _ ⟨LY, NT, hS.to [0, 1, 2, 3, 4, 5, 6, 7] (by kernel_rfl) ⟨rfl, rfl, rfl, rfl, trivial⟩, MQ, hM⟩
    ·intro a w hI
     obtain ⟨LB, MV, hS, Mr, hM⟩ := hI
     rw [qg.j5] at hM
     refine qk <| sA hS rfl fun hS => qz <| zx (fun a w => ∃ (Nw : Int), Ss 196 [] [(0, .slice LW LD.length LX), (8, qO LC 0), (9, .slice Mg LG.length Mj), (10, .slice LI LB.length LS), (13, .int .i64 Nw)] H [ME, MF, LK, LL, LM, LP, L6, MV] F a w ∧ (qg.j7 K LD LN LE LO LF LG LB Nw).wp kr kp) (fun Wf Sw => ?_) ?_
     ·refine wp_seq ?_
      refine zI <| sM hS rfl fun hS => sO hS (ya rfl Tryd.runUnderlying45) rfl fun hS => sM hS rfl fun hS => qz <| xJ <| zv (fun Sd a w => ∃ (MR : Int) (Ns : Int), Ss 196 [] [(0, .slice LW LD.length LX), (8, qO LC 0), (9, .slice Mg LG.length Mj), (10, .slice LI LB.length LS), (13, .int .i64 MR), (105, .slice LI LB.length LS), (106, .int .i64 (LB.length : Int)), (107, .int .i64 Ns)] H [ME, MF, LK, LL, LM, LP, L6, MV] F a w ∧ (qg.l6 K LD LN LE LO LF LG LB Sd MR Ns).wp kr kp) K ?_ ?_ ?_
      ·exact ⟨(0 : Int), (0 : Int), hS.to [0, 1, 2, 3, 4, 5, 6, 7] (by kernel_rfl) ⟨rfl, rfl, rfl, rfl, rfl, rfl, rfl, rfl, trivial⟩, hM⟩
      ·intro a w hI; obtain ⟨_, _, _, hM⟩ := hI; exact zr hM
      ·intro Sd a w hI We Sv
       obtain ⟨MR, Ns, hS, hM⟩ := hI
       rw [qg.l6] at hM
       refine qk <| sB hS rfl fun hS => qz <| wp_seq <| qy hS rfl hM (fun S1 hM => ?_) (fun S1 hM => ?_)
       ·refine wp_skip ?_
        refine qc <| wp_seq <| xJ <| wp_seq <| zI ?_
        obtain ⟨Pv, hM⟩ := qE hM
        refine sO hS (x6 rfl rfl Tryd.runUnderlying45 Tryd.sizeOf3 (Mr.rd (i := 7) rfl) (fun _ => rfl) rfl Pv) rfl fun hS => sO hS (x9 rfl (Mr.rd (i := 7) rfl) (fun _ => rfl) Pv rfl Tryd.isAgg3) rfl fun hS => zH (v := Value.int .i64) (x0 := (rd LB Ns)) hS (xv rfl) rfl fun PG a w hz hS => ?_
        have hM := qB hz hM; clear hz
        refine qz <| zI <| sM hS rfl fun hS => sM hS rfl fun hS => sO hS (Vx rfl rfl) rfl fun hS => sB hS rfl fun hS => zH (v := Value.int .i64) (x0 := (qi (MR + (if (1 : Int) < PG then (1 : Int) else PG)))) hS (xv rfl) rfl fun Ta a w hz hS => ?_
        have hM := qB hz hM; clear hz
        refine zd <| zz (qc ?_)
        refine zI <| sB hS rfl fun hS => sM hS rfl fun hS => zd <| qc ?_
        exact Sv _ _ ⟨Ta, (qi (Ns + (1 : Int))), hS.to [0, 1, 2, 3, 4, 5, 6, 7] (by kernel_rfl) ⟨rfl, rfl, rfl, rfl, rfl, rfl, rfl, rfl, trivial⟩, hM⟩
       ·refine wp_exit ?_
        refine qC (qC (q9 (qc ?_)))
        exact Sw _ _ ⟨MR, hS.to [0, 1, 2, 3, 4, 5, 6, 7] (by kernel_rfl) ⟨rfl, rfl, rfl, rfl, rfl, trivial⟩, hM⟩
     ·intro a w hI
      obtain ⟨Nw, hS, hM⟩ := hI
      rw [qg.j7] at hM
      refine zx (fun a w => ∃ (Mn : (List Int)) (MG : qm), Ss 196 [] [(0, .slice LW LD.length LX), (8, qO LC 0), (9, .slice Mg LG.length Mj), (10, .slice LI Mn.length LS)] H [ME, MF, LK, LL, LM, LP, L6, MG] F a w ∧ (xh 3 (ci .i64) 1 LI Mn LS MG) ∧ (qg.j8 K LD LN LE LO LF LG Mn).wp kr kp) (fun Wg Pi => ?_) ?_
      ·refine wp_seq ?_
       refine zI <| sM hS rfl fun hS => sB hS rfl fun hS => qz <| qy hS rfl hM (fun S2 hM => ?_) (fun S2 hM => ?_)
       ·obtain ⟨M9, hM⟩ := qE hM
        obtain ⟨Pw, hM⟩ := qE hM
        refine zh (vals := [some (.slice LI LB.length LS), some (.slice LI LB.length LS), some (.slice LI LB.length LS), some (xz LI (Int.toNat (0 : Int) * 1)), some (.int .i64 (rd LB (0 : Int))), some (.int .i64 (if (1 : Int) > (rd LB (0 : Int)) then (1 : Int) else (rd LB (0 : Int)))), some (.slice LI LB.length LS), some (xz LI (Int.toNat (1 : Int) * 1)), some (.int .i64 (rd LB (1 : Int))), some (.int .i64 (if (1 : Int) > (rd LB (1 : Int)) then (1 : Int) else (rd LB (1 : Int)))), some (xz LI (Int.toNat (0 : Int) * 1)), none, none, none]) hS xH rfl ?_
        intro l w ho hcl hA hst
        refine jQ hA hst ho hcl xQ xI 11 [0, 1, 2, 3, 4, 5, 6, 7, 8, 9, 10] rfl rfl rfl rfl rfl (by exact ⟨nM rfl, nM rfl, nM rfl, nQ rfl (by exact qY (x6 rfl rfl Tryd.runUnderlying45 Tryd.sizeOf3 (Mr.rd (i := 7) rfl) (fun _ => rfl) rfl M9) rfl), nQ rfl (by exact qY (x9 rfl (Mr.rd (i := 7) rfl) (fun _ => rfl) M9 rfl Tryd.isAgg3) rfl), nQ rfl (by exact qY (B0 rfl rfl) rfl), nM rfl, nQ rfl (by exact qY (x6 rfl rfl Tryd.runUnderlying45 Tryd.sizeOf3 (Mr.rd (i := 7) rfl) (fun _ => rfl) rfl Pw) rfl), nQ rfl (by exact qY (x9 rfl (Mr.rd (i := 7) rfl) (fun _ => rfl) Pw rfl Tryd.isAgg3) rfl), nQ rfl (by exact qY (B0 rfl rfl) rfl), nQ rfl (by exact qY (x6 rfl rfl Tryd.runUnderlying45 Tryd.sizeOf3 (Mr.rd (i := 7) rfl) (fun _ => rfl) rfl M9) rfl), trivial⟩) fun D l a w ho hcl hav hpre hm hE hk hA hst => ?_
        have hS := (Ss.mk hE hst).env2 (e' := [(123, .int .i64 (if (1 : Int) > (rd LB (0 : Int)) then (1 : Int) else (rd LB (0 : Int)))), (128, xz LI (Int.toNat (0 : Int) * 1))]) ⟨rfl, rfl, trivial⟩
        refine zi rfl <| Xj (i := (0 : Int)) (sz := 1) 7 0 ((if (1 : Int) > (rd LB (0 : Int)) then (1 : Int) else (rd LB (0 : Int)))) hS rfl rfl Mr rfl Tryd.sizeOf3 (xG (if (1 : Int) > (rd LB (0 : Int)) then (1 : Int) else (rd LB (0 : Int)))) (fun _ => rfl) M9 rfl rfl fun T8 w Ws hz PF Pk hS => ?_
        have hM := qB hz hM; clear hz
        refine qz ?_
        replace hst := hS.st
        obtain ⟨Px, hM⟩ := qE hM
        obtain ⟨hcl, hmust, hav2, hA⟩ := Jy (vals' := [some (.slice LI LB.length LS), some (.slice LI LB.length LS), some (.slice LI LB.length LS), some (xz LI (Int.toNat (0 : Int) * 1)), some (.int .i64 (rd LB (0 : Int))), some (.int .i64 (if (1 : Int) > (rd LB (0 : Int)) then (1 : Int) else (rd LB (0 : Int)))), some (.slice LI LB.length LS), some (xz LI (Int.toNat (1 : Int) * 1)), some (.int .i64 (rd LB (1 : Int))), some (.int .i64 (if (1 : Int) > (rd LB (1 : Int)) then (1 : Int) else (rd LB (1 : Int)))), some (xz LI (Int.toNat (0 : Int) * 1)), some undef, some (xz LI (Int.toNat (1 : Int) * 1)), none]) 11 [(0, 11), (2, 11), (3, 11), (4, 11), (5, 11), (8, 11), (10, 11), (7, 8), (6, 7)] hA hcl hav hm hpre rfl rfl rfl rfl rfl
        clear hm hav
        refine jQ hA hst ho hcl hav2 hmust 13 [1, 9, 12] rfl rfl rfl rfl rfl (by exact ⟨nM rfl, nQ rfl (by exact qY (B0 rfl rfl) rfl), nQ rfl (by exact qY (x6 (KN PF rfl) rfl Tryd.runUnderlying45 Tryd.sizeOf3 (Pk.rd (i := 7) rfl) (fun _ => rfl) rfl Px) rfl), trivial⟩) fun D l a w ho hcl hav hpre hm hE hk hA hst => ?_
        have hS := (Ss.mk hE hst).env2 (e' := [(127, .int .i64 (if (1 : Int) > (rd LB (1 : Int)) then (1 : Int) else (rd LB (1 : Int)))), (129, xz LI (Int.toNat (1 : Int) * 1))]) ⟨rfl, rfl, trivial⟩
        refine zi rfl <| Xj (i := (1 : Int)) (sz := 1) 7 0 ((if (1 : Int) > (rd LB (1 : Int)) then (1 : Int) else (rd LB (1 : Int)))) hS rfl rfl Pk rfl Tryd.sizeOf3 (xG (if (1 : Int) > (rd LB (1 : Int)) then (1 : Int) else (rd LB (1 : Int)))) (fun _ => rfl) Px rfl rfl fun PH w TE hz S9 ST hS => ?_
        have hM := qB hz hM; clear hz
        refine qz ?_
        replace hst := hS.st
        obtain ⟨hcl, hmust, hav2, hA⟩ := Jy (vals' := [some (.slice LI LB.length LS), some (.slice LI LB.length LS), some (.slice LI LB.length LS), some (xz LI (Int.toNat (0 : Int) * 1)), some (.int .i64 (rd LB (0 : Int))), some (.int .i64 (if (1 : Int) > (rd LB (0 : Int)) then (1 : Int) else (rd LB (0 : Int)))), some (.slice LI LB.length LS), some (xz LI (Int.toNat (1 : Int) * 1)), some (.int .i64 (rd LB (1 : Int))), some (.int .i64 (if (1 : Int) > (rd LB (1 : Int)) then (1 : Int) else (rd LB (1 : Int)))), some (xz LI (Int.toNat (0 : Int) * 1)), some undef, some (xz LI (Int.toNat (1 : Int) * 1)), some undef]) 13 [(0, 13), (1, 13), (2, 13), (3, 13), (4, 13), (5, 13), (6, 13), (7, 13), (8, 13), (9, 13), (10, 13), (11, 13), (12, 13)] hA hcl hav hm hpre rfl rfl rfl rfl rfl
        clear hm hav
        refine yo hA hst ho hcl hmust [] rfl rfl rfl trivial fun a w hS => ?_
        replace hS := hS.env2 (e' := [(0, .slice LW LD.length LX), (8, qO LC 0), (9, .slice Mg LG.length Mj), (10, .slice LI PH.length LS)]) ⟨rfl, rfl, rfl, (U1 (u := .slice LI LB.length LS) rfl (by rw [S9, PF])), trivial⟩
        refine qc ?_
        exact Pi _ _ ⟨PH, TE, hS.to [0, 1, 2, 3, 4, 5, 6, 7] (by kernel_rfl) ⟨rfl, rfl, rfl, rfl, trivial⟩, ST, hM⟩
       ·refine wp_skip ?_
        refine qc ?_
        exact Pi _ _ ⟨LB, MV, hS.to [0, 1, 2, 3, 4, 5, 6, 7] (by kernel_rfl) ⟨rfl, rfl, rfl, rfl, trivial⟩, Mr, hM⟩
      ·intro a w hI
       obtain ⟨Mn, MG, hS, Pm, hM⟩ := hI
       rw [qg.j8] at hM
       refine qk <| sM hS rfl fun hS => qK hS rfl Tryd.call40 (Qq hG K Mn (7 : Int) LI LS (Pm.rdF (i := 7) rfl) (Pm.cap (fun _ => rfl) rfl) (hS.st.part 0 [0, 1, 2, 3, 4, 5, 6, 7] (by kernel_rfl)) (qx hM) (fun MB MO Mb Mt Wy w hM MW hst => qJ hS.ev hst.appF rfl fun hS => ?_) (fun v w hk hst => vr (xf (⟨hS.ev.defs, hpan _ _ hk hst.appF.frame⟩))))
       replace hS : Ss _ _ _ H [Mt, ME, MF, LK, LL, LM, LP, L6, MG] F _ _ := hS
       refine sM hS rfl fun hS => sO hS (ex rfl rfl) rfl fun hS => sO hS (ex rfl rfl) rfl fun hS => sA hS rfl fun hS => sA hS rfl fun hS => qz <| qk <| sM hS rfl fun hS => qK hS rfl Tryd.call37 (yR hG K Mb MB MO (MW.rdF (i := 0) rfl) (MW.cap (fun _ => rfl) rfl) (hS.st.part 0 [0, 1, 2, 3, 4, 5, 6, 7, 8] (by kernel_rfl)) (qx hM) (fun NG NO L7 Mw w hM Sa hst => qJ hS.ev hst.appF rfl fun hS => ?_))
       replace hS : Ss _ _ _ H [Mw, Mt, ME, MF, LK, LL, LM, LP, L6, MG] F _ _ := hS
       refine QJ ([.slice none 0 0, .slice none 0 0]) hS Tryd.zeroValue47 rfl rfl fun w MN Wt Sm hS => ?_
       obtain ⟨NU, T0, hS⟩ := hS.nilV 3 (ci .i64) 1
       obtain ⟨NV, T3, hS⟩ := hS.nilV 3 (ci .i64) 1
       refine u5 2 ([.slice MB Mb.length MO, .slice NG L7.length NO]) ([.slice MB Mb.length MO, .slice NG L7.length NO]) hS rfl rfl Sm rfl rfl Tryd.sizeOf47 (by simp [Value.oneCell']) (Nat.le_of_ble_eq_true rfl) rfl fun w Mx Pd hS => qz <| qk <| sM hS rfl fun hS => sO hS (yu rfl) rfl fun hS => sO hS (xr rfl Tryd.runUnderlying49 rfl Tryd.sizeOf44 rfl) rfl fun hS => qK hS rfl Tryd.call23 (zk hG K (qp.mk (qR.mk (qW.mk (0 : Int)) ([] : List Int)) (qu.mk LN LE) (qu.mk LO LF)) (5 : Int) (3 : Int) LC ME none (0) MF LZ L1 LK Me Mh LL L0 L3 LM Mf Mi LP MJ SN Mu MH Mv MI (hS.st.part 6 [5, 6, 7, 8, 9, 10, 0, 1, 2, 3, 4, 11, 12] (by kernel_rfl)) (qx hM) (fun Wz PI Tc Tm N1 PT PU w hM TF TG hst => qJ hS.ev hst.appF rfl fun hS => ?_))
       replace hS : Ss _ _ _ H [PU, PT, LK, LL, LM, LP, NV, NU, Mx, Mw, Mt, L6, MG] F _ _ := hS
       refine qz <| qk <| sM hS rfl fun hS => sO hS (yu rfl) rfl fun hS => sO hS (xr rfl Tryd.runUnderlying49 rfl Tryd.sizeOf44 rfl) rfl fun hS => qK hS rfl Tryd.call23 (zk hG K (qp.mk (qR.mk (qW.mk PI) N1) (qu.mk LN LE) (qu.mk LO LF)) (29 : Int) (5 : Int) LC PU Tc Tm PT LZ L1 LK Me Mh LL L0 L3 LM Mf Mi LP TG TF Mu MH Mv MI (hS.st.part 6 [0, 1, 2, 3, 4, 5, 6, 7, 8, 9, 10, 11, 12] (by kernel_rfl)) (qx hM) (fun WA PJ Td Tn N2 PV PW w hM TH TI hst => qJ hS.ev hst.appF rfl fun hS => ?_))
       replace hS : Ss _ _ _ H [PW, PV, LK, LL, LM, LP, NV, NU, Mx, Mw, Mt, L6, MG] F _ _ := hS
       refine qz <| qk <| sM hS rfl fun hS => sO hS (yu rfl) rfl fun hS => sO hS (xr rfl Tryd.runUnderlying49 rfl Tryd.sizeOf44 rfl) rfl fun hS => qK hS rfl Tryd.call23 (zk hG K (qp.mk (qR.mk (qW.mk PJ) N2) (qu.mk LN LE) (qu.mk LO LF)) (29 : Int) (5 : Int) LC PW Td Tn PV LZ L1 LK Me Mh LL L0 L3 LM Mf Mi LP TI TH Mu MH Mv MI (hS.st.part 6 [0, 1, 2, 3, 4, 5, 6, 7, 8, 9, 10, 11, 12] (by kernel_rfl)) (qx hM) (fun WB PL Te To N3 PX PY w hM TJ TK hst => qJ hS.ev hst.appF rfl fun hS => ?_))
       replace hS : Ss _ _ _ H [PY, PX, LK, LL, LM, LP, NV, NU, Mx, Mw, Mt, L6, MG] F _ _ := hS
       refine qz <| qk <| sM hS rfl fun hS => sO hS (yu rfl) rfl fun hS => sO hS (xr rfl Tryd.runUnderlying49 rfl Tryd.sizeOf44 rfl) rfl fun hS => qK hS rfl Tryd.call23 (zk hG K (qp.mk (qR.mk (qW.mk PL) N3) (qu.mk LN LE) (qu.mk LO LF)) (15 : Int) (4 : Int) LC PY Te To PX LZ L1 LK Me Mh LL L0 L3 LM Mf Mi LP TK TJ Mu MH Mv MI (hS.st.part 6 [0, 1, 2, 3, 4, 5, 6, 7, 8, 9, 10, 11, 12] (by kernel_rfl)) (qx hM) (fun WC PM Tf Tp N4 PZ P0 w hM TL TM hst => qJ hS.ev hst.appF rfl fun hS => ?_))
       replace hS : Ss _ _ _ H [P0, PZ, LK, LL, LM, LP, NV, NU, Mx, Mw, Mt, L6, MG] F _ _ := hS
       refine qz <| zx (fun a w => ∃ (ML : Int) (NH : Option Addr) (NP : Nat) (Ml : (List Int)) (NW : qm) (NX : qm), Ss 196 [] [(0, .slice LW LD.length LX), (8, qO LC 0), (9, .slice Mg LG.length Mj), (18, qO MN 0)] H [NX, NW, LK, LL, LM, LP, L6, Mx, Mt, Mw] F a w ∧ (xh 5 (ci .u8) 1 NH Ml NP NW) ∧ (xZ NX LC ([.int .i64 ML, .slice NH Ml.length NP, .slice LZ LN.length L1, .slice Me LE.length Mh, .slice L0 LO.length L3, .slice Mf LF.length Mi]) 49) ∧ (qg.j10 K LD LN LE LO LF LG Mb L7 ML Ml).wp kr kp) (fun Wi Sy => ?_) ?_
       ·refine wp_seq ?_
        refine zI <| sO hS (Gw rfl hG.g0 (by rfl) Tryd.isAgg77 Tryd.sizeOf77) rfl fun hS => sM hS rfl fun hS => qz <| xJ <| zv (fun Se a w => ∃ (MC : Int) (Ng : Option Addr) (Nk : Nat) (Mc : (List Int)) (No : qm) (Np : qm) (MZ : Int), Ss 196 [] [(0, .slice LW LD.length LX), (8, qO LC 0), (9, .slice Mg LG.length Mj), (18, qO MN 0), (153, .agg ⟨tab_deflate_order.flatMap (ci .i64)⟩), (154, .int .i64 MZ)] H [Np, No, LK, LL, LM, LP, L6, Mx, Mt, Mw] F a w ∧ (xh 5 (ci .u8) 1 Ng Mc Nk No) ∧ (xZ Np LC ([.int .i64 MC, .slice Ng Mc.length Nk, .slice LZ LN.length L1, .slice Me LE.length Mh, .slice L0 LO.length L3, .slice Mf LF.length Mi]) 49) ∧ (qg.l9 K LD LN LE LO LF LG Mb L7 Se MC Mc MZ).wp kr kp) K ?_ ?_ ?_
        ·exact ⟨PM, Tf, Tp, N4, PZ, P0, (0 : Int), hS.to [0, 1, 2, 3, 4, 5, 11, 8, 10, 9] (by kernel_rfl) ⟨rfl, rfl, rfl, rfl, rfl, rfl, trivial⟩, TL, TM, hM⟩
        ·intro a w hI; obtain ⟨_, _, _, _, _, _, _, _, _, _, hM⟩ := hI; exact zr hM
        ·intro Se a w hI Wh Sx
         obtain ⟨MC, Ng, Nk, Mc, No, Np, MZ, hS, Pn, Pe, hM⟩ := hI
         rw [qg.l9] at hM
         refine qk <| sB hS rfl fun hS => qz <| wp_seq <| qy hS rfl hM (fun S3 hM => ?_) (fun S3 hM => ?_)
         ·refine wp_skip ?_
          refine qc <| wp_seq <| xJ <| wp_seq <| zI ?_
          obtain ⟨S8, hM⟩ := qE hM
          refine sO hS (G9 rfl rfl Tryd.runUnderlying77 Tryd.isAgg3 Tryd.sizeOf3 (fun _ => rfl) Qi S8 rfl) rfl fun hS => zH (v := Value.int .i64) (x0 := (rd tab_deflate_order MZ)) hS (xv rfl) rfl fun My a w hz hS => ?_
          have hM := qB hz hM; clear hz
          refine zd <| qc ?_
          obtain ⟨Py, hM⟩ := qE hM
          refine zh (vals := [some (qO LC 0), some (qO LC 0), some (qO LC 0), some (qO MN 0), some (.slice MB Mb.length MO), some (.int .i64 My), some (xz MB (Int.toNat My * 1)), some (.int .i64 (rd Mb My)), some (.int .u32 (wr .u32 (rd Mb My))), none]) hS xH rfl ?_
          intro l w ho hcl hA hst
          refine jQ hA hst ho hcl xQ xI 9 [0, 1, 2, 3, 4, 5, 6, 7, 8] rfl rfl rfl rfl rfl (by exact ⟨nM rfl, nQ rfl (by exact qY (yu rfl) rfl), nQ rfl (by exact qY (xr rfl Tryd.runUnderlying49 rfl Tryd.sizeOf44 rfl) rfl), nQ rfl (by exact qY (xr rfl Tryd.runUnderlying47 rfl Tryd.sizeOf45 rfl) rfl), nQ rfl (by exact qY (xW 7 rfl Pd rfl rfl Tryd.isAgg45) rfl), nM rfl, nQ rfl (by exact qY (x6 rfl rfl Tryd.runUnderlying45 Tryd.sizeOf3 (MW.rd (i := 8) rfl) (fun _ => rfl) rfl Py) rfl), nQ rfl (by exact qY (x9 rfl (MW.rd (i := 8) rfl) (fun _ => rfl) Py rfl Tryd.isAgg3) rfl), nQ rfl (by exact qY (vH rfl Tryd.runUnderlying3 Tryd.runUnderlying53) rfl), trivial⟩) fun D l a w ho hcl hav hpre hm hE hk hA hst => ?_
          have hS := (Ss.mk hE hst).env2 (e' := [(159, qO LC 0), (165, .int .u32 (wr .u32 (rd Mb My)))]) ⟨rfl, rfl, trivial⟩
          refine zi rfl <| qK hS rfl Tryd.call23 (zk hG K (qp.mk (qR.mk (qW.mk MC) Mc) (qu.mk LN LE) (qu.mk LO LF)) (wr .u32 (rd Mb My)) (3 : Int) LC Np Ng Nk No LZ L1 LK Me Mh LL L0 L3 LM Mf Mi LP Pe Pn Mu MH Mv MI (hS.st.part 6 [0, 1, 2, 3, 4, 5, 6, 7, 8, 9] (by kernel_rfl)) (qx hM) (fun TX PN Tg Tq N5 P1 P2 w hM TN TO hst => qJ hS.ev hst.appF rfl fun hS => ?_))
          replace hS : Ss _ _ _ H [P2, P1, LK, LL, LM, LP, L6, Mx, Mt, Mw] F _ _ := hS
          refine qz ?_
          replace hst := hS.st
          obtain ⟨hcl, hmust, hav2, hA⟩ := dn (vals' := [some (qO LC 0), some (qO LC 0), some (qO LC 0), some (qO MN 0), some (.slice MB Mb.length MO), some (.int .i64 My), some (xz MB (Int.toNat My * 1)), some (.int .i64 (rd Mb My)), some (.int .u32 (wr .u32 (rd Mb My))), some (.int .i64 TX)]) 9 [(2, 9), (8, 9), (1, 2), (7, 8), (0, 1), (6, 7), (4, 6), (5, 6), (3, 4)] hA hcl hav hm hpre hk rfl rfl rfl rfl rfl rfl rfl
          clear hm hav
          refine yo hA hst ho hcl hmust [] rfl rfl rfl trivial fun a w hS => ?_
          replace hS := hS.env2 (e' := [(0, .slice LW LD.length LX), (8, qO LC 0), (9, .slice Mg LG.length Mj), (18, qO MN 0), (153, .agg ⟨tab_deflate_order.flatMap (ci .i64)⟩), (154, .int .i64 MZ)]) ⟨rfl, rfl, rfl, rfl, rfl, rfl, trivial⟩
          refine zz (qc ?_)
          refine zI <| sB hS rfl fun hS => sM hS rfl fun hS => zd <| qc ?_
          exact Sx _ _ ⟨PN, Tg, Tq, N5, P1, P2, (qi (MZ + (1 : Int))), hS.to [0, 1, 2, 3, 4, 5, 6, 7, 8, 9] (by kernel_rfl) ⟨rfl, rfl, rfl, rfl, rfl, rfl, trivial⟩, TN, TO, hM⟩
         ·refine wp_exit ?_
          refine qC (qC (q9 (qc ?_)))
          exact Sy _ _ ⟨MC, Ng, Nk, Mc, No, Np, hS.to [0, 1, 2, 3, 4, 5, 6, 7, 8, 9] (by kernel_rfl) ⟨rfl, rfl, rfl, rfl, trivial⟩, Pn, Pe, hM⟩
       ·intro a w hI
        obtain ⟨ML, NH, NP, Ml, NW, NX, hS, SU, Sn, hM⟩ := hI
        rw [qg.j10] at hM
        refine zx (fun a w => ∃ (MM : Int) (NI : Option Addr) (NQ : Nat) (Mm : (List Int)) (NY : qm) (NZ : qm), Ss 196 [] [(0, .slice LW LD.length LX), (8, qO LC 0)] H [NZ, NY, LK, LL, LM, LP] F a w ∧ (xh 5 (ci .u8) 1 NI Mm NQ NY) ∧ (xZ NZ LC ([.int .i64 MM, .slice NI Mm.length NQ, .slice LZ LN.length L1, .slice Me LE.length Mh, .slice L0 LO.length L3, .slice Mf LF.length Mi]) 49) ∧ (qg.j12 K LD LN LE LO LF MM Mm).wp kr kp) (fun Wk SA => ?_) ?_
        ·refine wp_seq ?_
         refine zI <| sM hS rfl fun hS => sO hS (ya rfl Tryd.runUnderlying72) rfl fun hS => sM hS rfl fun hS => qz <| xJ <| zv (fun Sf a w => ∃ (MD : Int) (Nh : Option Addr) (Nl : Nat) (Md : (List Int)) (Nq : qm) (Nr : qm) (L4 : Int), Ss 196 [] [(0, .slice LW LD.length LX), (8, qO LC 0), (18, qO MN 0), (168, .slice Mg LG.length Mj), (169, .int .i64 (LG.length : Int)), (170, .int .i64 L4)] H [Nr, Nq, LK, LL, LM, LP, Mx, Mt, Mw, L6] F a w ∧ (xh 5 (ci .u8) 1 Nh Md Nl Nq) ∧ (xZ Nr LC ([.int .i64 MD, .slice Nh Md.length Nl, .slice LZ LN.length L1, .slice Me LE.length Mh, .slice L0 LO.length L3, .slice Mf LF.length Mi]) 49) ∧ (qg.l11 K LD LN LE LO LF LG Mb L7 Sf MD Md L4).wp kr kp) K ?_ ?_ ?_
         ·exact ⟨ML, NH, NP, Ml, NW, NX, (0 : Int), hS.to [0, 1, 2, 3, 4, 5, 7, 8, 9, 6] (by kernel_rfl) ⟨rfl, rfl, rfl, rfl, rfl, rfl, trivial⟩, SU, Sn, hM⟩
         ·intro a w hI; obtain ⟨_, _, _, _, _, _, _, _, _, _, hM⟩ := hI; exact zr hM
         ·intro Sf a w hI Wj Sz
          obtain ⟨MD, Nh, Nl, Md, Nq, Nr, L4, hS, Po, Pf, hM⟩ := hI
          rw [qg.l11] at hM
          refine qk <| sB hS rfl fun hS => qz <| wp_seq <| qy hS rfl hM (fun S4 hM => ?_) (fun S4 hM => ?_)
          ·refine wp_skip ?_
           refine qc <| wp_seq <| xJ <| wp_seq <| zI ?_
           obtain ⟨Pz, hM⟩ := qE hM
           refine sO hS (x6 rfl rfl Tryd.runUnderlying72 Tryd.sizeOf75 (N0.rd (i := 9) rfl) (fun _ => rfl) rfl Pz) rfl fun hS => sO hS (vS rfl (N0.rd (i := 9) rfl) (fun _ => rfl) Pz Tryd.isAgg75 Tryd.sizeOf75 rfl) rfl fun hS => QJ ([.int .i64 (0 : Int), .int .i64 (0 : Int), .int .i64 (0 : Int)]) hS Tryd.zeroValue75 rfl rfl fun w NJ Wu So hS => u5 0 ([.int .i64 ((rd LG L4).symbol_), .int .i64 ((rd LG L4).more_), .int .i64 ((rd LG L4).bits_)]) ([.int .i64 ((rd LG L4).symbol_), .int .i64 ((rd LG L4).more_), .int .i64 ((rd LG L4).bits_)]) hS rfl rfl So rfl rfl Tryd.sizeOf75 (by simp [Value.oneCell']) (Nat.le_of_ble_eq_true rfl) rfl fun w P3 Nt hS => qz <| qk <| sM hS rfl fun hS => sO hS (vT 7 rfl Pd rfl ([.slice MB Mb.length MO, .slice NG L7.length NO]) rfl rfl Tryd.isAgg47 Tryd.sizeOf47) rfl fun hS => sO hS (xr rfl Tryd.runUnderlying75 rfl Tryd.sizeOf3 rfl) rfl fun hS => sO hS (xW 0 rfl Nt rfl rfl Tryd.isAgg3) rfl fun hS => qK hS rfl Tryd.call41 (uH hG K (qp.mk (qR.mk (qW.mk MD) Md) (qu.mk LN LE) (qu.mk LO LF)) (qu.mk Mb L7) ((rd LG L4).symbol_) LC Nr Nh Nl Nq LZ L1 LK Me Mh LL L0 L3 LM Mf Mi LP MB MO NG NO Pf Po Mu MH Mv MI (MW.rdF (i := 2) rfl) (MW.cap (fun _ => rfl) rfl) (Sa.rdF (i := 3) rfl) (Sa.cap (fun _ => rfl) rfl) (hS.st.part 6 [1, 2, 3, 4, 5, 6, 0, 7, 8, 9, 10] (by kernel_rfl)) (qx hM) (fun PO Th Tr N6 P4 P5 w hM TP TQ hst => qJ hS.ev hst.appF rfl fun hS => ?_))
           replace hS : Ss _ _ _ H [P5, P4, LK, LL, LM, LP, P3, Mx, Mt, Mw, L6] F _ _ := hS
           refine qz <| zh (vals := [some (qO LC 0), some (qO LC 0), some (qO LC 0), some (qO NJ 1), some (.int .i64 ((rd LG L4).more_)), some (.int .u32 (wr .u32 (rd LG L4).more_)), some (qO NJ 2), some (.int .i64 ((rd LG L4).bits_)), none]) hS xH rfl ?_
           intro l w ho hcl hA hst
           refine jQ hA hst ho hcl xQ xI 8 [0, 1, 2, 3, 4, 5, 6, 7] rfl rfl rfl rfl rfl (by exact ⟨nM rfl, nQ rfl (by exact qY (yu rfl) rfl), nQ rfl (by exact qY (xr rfl Tryd.runUnderlying49 rfl Tryd.sizeOf44 rfl) rfl), nQ rfl (by exact qY (xr rfl Tryd.runUnderlying75 rfl Tryd.sizeOf3 rfl) rfl), nQ rfl (by exact qY (xW 6 rfl Nt rfl rfl Tryd.isAgg3) rfl), nQ rfl (by exact qY (vH rfl Tryd.runUnderlying3 Tryd.runUnderlying53) rfl), nQ rfl (by exact qY (xr rfl Tryd.runUnderlying75 rfl Tryd.sizeOf3 rfl) rfl), nQ rfl (by exact qY (xW 6 rfl Nt rfl rfl Tryd.isAgg3) rfl), trivial⟩) fun D l a w ho hcl hav hpre hm hE hk hA hst => ?_
           have hS := (Ss.mk hE hst).env2 (e' := [(181, qO LC 0), (184, .int .u32 (wr .u32 (rd LG L4).more_)), (186, .int .i64 ((rd LG L4).bits_))]) ⟨rfl, rfl, rfl, trivial⟩
           refine zi rfl <| qK hS rfl Tryd.call23 (zk hG K (qp.mk (qR.mk (qW.mk PO) N6) (qu.mk LN LE) (qu.mk LO LF)) (wr .u32 (rd LG L4).more_) ((rd LG L4).bits_) LC P5 Th Tr P4 LZ L1 LK Me Mh LL L0 L3 LM Mf Mi LP TQ TP Mu MH Mv MI (hS.st.part 6 [0, 1, 2, 3, 4, 5, 6, 7, 8, 9, 10] (by kernel_rfl)) (qx hM) (fun TY PP Ti Ts N7 P6 P7 w hM TR TS hst => qJ hS.ev hst.appF rfl fun hS => ?_))
           replace hS : Ss _ _ _ H [P7, P6, LK, LL, LM, LP, P3, Mx, Mt, Mw, L6] F _ _ := hS
           refine qz ?_
           replace hst := hS.st
           obtain ⟨hcl, hmust, hav2, hA⟩ := dn (vals' := [some (qO LC 0), some (qO LC 0), some (qO LC 0), some (qO NJ 1), some (.int .i64 ((rd LG L4).more_)), some (.int .u32 (wr .u32 (rd LG L4).more_)), some (qO NJ 2), some (.int .i64 ((rd LG L4).bits_)), some (.int .i64 TY)]) 8 [(2, 8), (5, 8), (7, 8), (1, 2), (4, 5), (6, 7), (0, 1), (3, 4)] hA hcl hav hm hpre hk rfl rfl rfl rfl rfl rfl rfl
           clear hm hav
           refine yo hA hst ho hcl hmust [] rfl rfl rfl trivial fun a w hS => ?_
           replace hS := hS.env2 (e' := [(0, .slice LW LD.length LX), (8, qO LC 0), (18, qO MN 0), (168, .slice Mg LG.length Mj), (169, .int .i64 (LG.length : Int)), (170, .int .i64 L4)]) ⟨rfl, rfl, rfl, rfl, rfl, rfl, trivial⟩
           refine zz (qc ?_)
           refine zI <| sB hS rfl fun hS => sM hS rfl fun hS => zd <| qc ?_
           exact Sz _ _ ⟨PP, Ti, Ts, N7, P6, P7, (qi (L4 + (1 : Int))), hS.to [0, 1, 2, 3, 4, 5, 7, 8, 9, 10] (by kernel_rfl) ⟨rfl, rfl, rfl, rfl, rfl, rfl, trivial⟩, TR, TS, hM⟩
          ·refine wp_exit ?_
           refine qC (qC (q9 (qc ?_)))
           exact SA _ _ ⟨MD, Nh, Nl, Md, Nq, Nr, hS.to [0, 1, 2, 3, 4, 5] (by kernel_rfl) ⟨rfl, rfl, trivial⟩, Po, Pf, hM⟩
        ·intro a w hI
         obtain ⟨MM, NI, NQ, Mm, NY, NZ, hS, SV, Sp, hM⟩ := hI
         rw [qg.j12] at hM
         refine qk <| sM hS rfl fun hS => sM hS rfl fun hS => qK hS rfl Tryd.call24 (jz hG K (qp.mk (qR.mk (qW.mk MM) Mm) (qu.mk LN LE) (qu.mk LO LF)) LD LC NZ NI NQ NY LZ L1 LK Me Mh LL L0 L3 LM Mf Mi LP LW LX Sp SV Mu MH Mv MI (Na.app _) Pp (hS.st.part 6 [0, 1, 2, 3, 4, 5] (by kernel_rfl)) (qx hM) (fun PQ Tj Tt N8 Pb Pc w hM TT TU hst => qJ hS.ev hst.appF rfl fun hS => ?_))
         replace hS : Ss _ _ _ H [Pc, Pb, LK, LL, LM, LP] F _ _ := hS
         refine qz <| qk <| sM hS rfl fun hS => sO hS (yu rfl) rfl fun hS => sO hS (xr rfl Tryd.runUnderlying49 rfl Tryd.sizeOf44 rfl) rfl fun hS => qK hS rfl Tryd.call25 (yt hG K (qp.mk (qR.mk (qW.mk PQ) N8) (qu.mk LN LE) (qu.mk LO LF)) LC Pc Tj Tt Pb LZ L1 LK Me Mh LL L0 L3 LM Mf Mi LP TU TT Mu MH Mv MI (hS.st.part 6 [0, 1, 2, 3, 4, 5] (by kernel_rfl)) (qx hM) (fun TZ w hM  hst => qJ hS.ev hst.appF rfl fun hS => ?_))
         replace hS : Ss _ _ _ H [Pc, Pb, LK, LL, LM, LP] F _ _ := hS
         refine sA hS rfl fun hS => sA hS rfl fun hS => qz <| wp_ret ?_
         exact zm (rs := [2, 3]) hS rfl rfl (hret TZ (0 : Int) _ (qU hM) (hS.st.pick [] (by kernel_rfl)))
theorem uE {H : xU} {F : List qm} {w : World} {R : Ending → World → Prop} {kr : (List UInt8) → Prop} {kp : Value → Prop} (hG : Gl H) (K : Nat) (LL : List UInt8)
    (hS : St w H [] F) (hm : (zT.m K LL).wp kr kp)
    (hret : ∀ (LN : List UInt8) (w : World), kr LN → St w H [] F → R (.returned (yb LN)) w) :
    Calls Tryd.prog 10 ⟨[yb LL]⟩ w R := by
 refine enter Tryd.func10 rfl Tryd.ntmps10 rfl hS fun a w hS => ?_
 have hM := hm; clear hm
 rw [zT.m] at hM
 refine qk <| sA hS rfl fun hS => qz <| qk <| sA hS rfl fun hS => ?_
 obtain ⟨L1, LP, hS⟩ := hS.nilV 5 (ci .u8) 1
 refine qz <| xJ <| zv (fun LK a w => ∃ (LD : List UInt8) (LF : Option Addr) (LG : Nat) (LE : (List Int)) (LH : qm), Ss 41 [] [(0, yb LD), (3, .slice LF LE.length LG)] H [LH] F a w ∧ (xh 5 (ci .u8) 1 LF LE LG LH) ∧ (zT.l1 K LK LD LE).wp kr kp) K ?_ ?_ ?_
 ·exact ⟨LL, none, 0, ([] : List Int), L1, hS.to [0] (by kernel_rfl) ⟨rfl, rfl, trivial⟩, LP, hM⟩
 ·intro a w hI; obtain ⟨_, _, _, _, _, _, _, hM⟩ := hI; exact zr hM
 ·intro LK a w hI Ma LO
  obtain ⟨LD, LF, LG, LE, LH, hS, LQ, hM⟩ := hI
  rw [zT.l1] at hM
  refine xJ <| qk <| sM hS rfl fun hS => sO hS (v8 rfl Tryd.runUnderlying9) rfl fun hS => sO hS (Vx rfl rfl) rfl fun hS => zH (v := Value.int .i64) (x0 := (if (LD.length : Int) < (65535 : Int) then (LD.length : Int) else (65535 : Int))) hS (xv rfl) rfl fun LB a w hz hS => ?_
  have hM := qB hz hM; clear hz
  refine qz <| qk <| sA hS rfl fun hS => qz <| zx (fun a w => ∃ (LC : Int), Ss 41 [] [(0, yb LD), (3, .slice LF LE.length LG), (4, .int .i64 LB), (5, .int .u8 LC)] H [LH] F a w ∧ (zT.j2 K (zT.l1 K LK) LD LE LB LC).wp kr kp) (fun L9 LI => ?_) ?_
  ·refine wp_seq ?_
   refine zI <| sM hS rfl fun hS => sM hS rfl fun hS => sO hS (v8 rfl Tryd.runUnderlying9) rfl fun hS => sB hS rfl fun hS => qz <| qy hS rfl hM (fun LT hM => ?_) (fun LT hM => ?_)
   ·refine zI ?_
    refine sA hS rfl fun hS => zd <| qc ?_
    exact LI _ _ ⟨(1 : Int), hS.to [0] (by kernel_rfl) ⟨rfl, rfl, rfl, rfl, trivial⟩, hM⟩
   ·refine wp_skip ?_
    refine qc ?_
    exact LI _ _ ⟨(0 : Int), hS.to [0] (by kernel_rfl) ⟨rfl, rfl, rfl, rfl, trivial⟩, hM⟩
  ·intro a w hI
   obtain ⟨LC, hS, hM⟩ := hI
   rw [zT.j2] at hM
   refine qk <| sM hS rfl fun hS => sM hS rfl fun hS => sM hS rfl fun hS => sO hS (vH rfl Tryd.runUnderlying3 Tryd.runUnderlying5) rfl fun hS => sM hS rfl fun hS => sO hS (shr rfl rfl rfl) rfl fun hS => sO hS (vH rfl Tryd.runUnderlying3 Tryd.runUnderlying5) rfl fun hS => sM hS rfl fun hS => sO hS (vH rfl Tryd.runUnderlying3 Tryd.runUnderlying5) rfl fun hS => sO hS (un rfl rfl) rfl fun hS => sM hS rfl fun hS => sO hS (shr rfl rfl rfl) rfl fun hS => sO hS (vH rfl Tryd.runUnderlying3 Tryd.runUnderlying5) rfl fun hS => sO hS (un rfl rfl) rfl fun hS => Xs (g := (ci .u8)) ([LC, (wr .u8 LB), (wr .u8 (xF .i64 LB (8 : Int))), (QK .u8 (wr .u8 LB)), (QK .u8 (wr .u8 (xF .i64 LB (8 : Int))))] : List Int) [.int .u8 LC, .int .u8 (wr .u8 LB), .int .u8 (wr .u8 (xF .i64 LB (8 : Int))), .int .u8 (QK .u8 (wr .u8 LB)), .int .u8 (QK .u8 (wr .u8 (xF .i64 LB (8 : Int))))] hS Tryd.runUnderlying38 Tryd.sizeOf5 X.el5 rfl rfl rfl (by simp [Value.cells]) rfl rfl rfl rfl rfl fun w L7 Mb Md LR hS => ?_
   obtain ⟨LV, hM⟩ := qE hM
   refine Yk (ys := ([LC, (wr .u8 LB), (wr .u8 (xF .i64 LB (8 : Int))), (QK .u8 (wr .u8 LB)), (QK .u8 (wr .u8 (xF .i64 LB (8 : Int))))] : List Int)) 1 hS rfl rfl LQ rfl (LR.rd (i := 0) rfl) Tryd.runUnderlying38 Tryd.runUnderlying38 X.el5 (fun _ => rfl) rfl uA LV rfl fun L6 w L8 Mc Me hz LS hS => ?_
   have hM := qB hz hM; clear hz
   refine sA hS rfl fun hS => qz <| qk <| sM hS rfl fun hS => sM hS rfl fun hS => sM hS rfl fun hS => ?_
   obtain ⟨LW, hM⟩ := qE hM
   refine sO hS (GF rfl Tryd.runUnderlying9 Gg (BR rfl) LW) rfl fun hS => ?_
   obtain ⟨LX, hM⟩ := qE hM
   refine GV 1 hS rfl rfl LS rfl Tryd.runUnderlying38 Tryd.runUnderlying9 X.el5 rfl LX rfl fun LM w LZ L0 L3 hz LJ hS => ?_
   have hM := qB hz hM; clear hz
   refine sA hS rfl fun hS => qz <| qk <| sM hS rfl fun hS => sM hS rfl fun hS => ?_
   obtain ⟨LY, hM⟩ := qE hM
   refine sO hS (GF rfl Tryd.runUnderlying9 (GP rfl) DF LY) rfl fun hS => zH (v := yb) (x0 := (sub LD LB (LD.length : Int))) hS (xv rfl) rfl fun L4 a w hz hS => ?_
   have hM := qB hz hM; clear hz
   refine qz <| qk <| sM hS rfl fun hS => sB hS rfl fun hS => qz <| qy hS rfl hM (fun LU hM => ?_) (fun LU hM => ?_)
   ·refine wp_seq ?_
    refine zI <| sM hS rfl fun hS => sO hS (Gq rfl Tryd.runUnderlying38 Tryd.runUnderlying5 Tryd.runUnderlying9 (LJ.rd (i := 1) rfl)) rfl fun hS => zH (v := yb) (x0 := (LM.map Q5)) hS (xv rfl) rfl fun L5 a w hz hS => ?_
    have hM := qB hz hM; clear hz
    refine qz <| wp_ret <| z3 (qA (z3 ?_))
    exact zm (rs := [2]) hS rfl rfl (hret L5 _ (qU hM) (hS.st.pick [] (by kernel_rfl)))
   ·refine wp_skip ?_
    refine zz (qc ?_)
    exact LO _ _ ⟨L4, LZ, L0, LM, L3, hS.to [1] (by kernel_rfl) ⟨rfl, rfl, trivial⟩, LJ, hM⟩
end Go.TrydS

