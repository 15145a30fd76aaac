/- Printed by a program of mine: each Go function answers what its model answers; conditions: what each theorem asks of memory. -/
import Derived.Test.YtojcnkhcdcegkaaDoorP3xmkgfm
set_option linter.unusedVariables false
set_option linter.unusedSimpArgs false
set_option maxRecDepth 100000
namespace Go.TrydS
open Go Go.Sl Go.Mo Go.Proofs
attribute [local irreducible] qN.wp
theorem Zi {H : xT} {F : List qk} {w : World} {R : Ending → World → Prop} {kr : ((List UInt8) × Int) → Prop} {kp : Value → Prop} (hG : Gl H) (K : Nat) (MT : List qM) (Nf : Option Addr) (Ng : Nat) (Pq : jT H [] F qM.cells Nf MT) (SJ : MT.length ≤ Ng)
    (hS : St w H [] F) (hm : (qg.m K MT).wp kr kp)
    (hret : ∀ (TA : List UInt8) (TB : Int) (w : World), kr (TA, TB) → St w H [] F → R (.returned (.tuple ⟨[xi TA, .int .i64 TB]⟩)) w)
    (hpan : ∀ v w, kp v → St w H [] F → R (.panicked [⟨v, false, false⟩]) w) :
    Calls Tryd.prog 17 ⟨[.slice Nf MT.length Ng]⟩ w R := by
 refine enter Tryd.func17 rfl Tryd.ntmps17 rfl hS fun a w hS => ?_
 have hM := hm; clear hm
 rw [qg.m] at hM
 refine qm <| sA hS rfl fun hS => sA hS rfl fun hS => qA <| wp_seq <| qm <| sM hS rfl fun hS => qJ hS rfl Tryd.call28 (Qh hG K MT Nf Ng (Pq.app _) SJ (hS.st.part 0 [] (by kernel_rfl)) (qt hM) (fun gO w hM  hst => qz hS.ev hst.appF rfl fun hS => ?_))
 replace hS : Ss _ _ _ H [] F _ _ := hS
 refine sO hS (un rfl rfl) rfl fun hS => qA <| qF hS rfl hM (fun Wd hM => ?_) (fun Wd hM => ?_)
 ·refine wp_seq ?_
  refine zP <| sA hS rfl fun hS => sA hS rfl fun hS => qA <| wp_ret <| zl ?_
  exact zD (rs := [2, 3]) hS rfl rfl (hret ([] : List UInt8) (1 : Int) _ (q8 hM) (hS.st.pick [] (by kernel_rfl)))
 ·refine wp_skip ?_
  refine qe <| zm (fun a w => ∃ (Nc : Option Addr) (Nd : Nat) (M8 : (List Int)) (Sr : qk) (Nq : Option Addr) (Nr : Nat) (Nn : (List Int)) (P8 : qk), Ss 196 [] [(0, .slice Nf MT.length Ng), (4, .slice Nc M8.length Nd), (5, .slice Nq Nn.length Nr)] H [Sr, P8] F a w ∧ (xj 3 (ci .i64) 1 Nc M8 Nd Sr) ∧ (xj 3 (ci .i64) 1 Nq Nn Nr P8) ∧ (qg.j1 K MT M8 Nn).wp kr kp) (fun gp SA => ?_) ?_
  ·refine za (vals := [none, none, none, none]) hS xG rfl ?_
   intro l w ho hcl hA hst
   obtain ⟨SK, hM⟩ := qK hM
   obtain ⟨NC, PL⟩ := uh (List.replicate (Int.toNat (286 : Int)) (0 : Int))
   replace hM := qB PL hM
   obtain ⟨SL, hM⟩ := qK hM
   obtain ⟨NJ, PM⟩ := uh (List.replicate (Int.toNat (30 : Int)) (0 : Int))
   replace hM := qB PM hM
   refine G7 (vals := [none, none, none, none]) 0 1 [] [] rfl rfl rfl rfl rfl trivial (fun D l a w ho hcl hav hpre hm hE hk hA hst => ?_) (fun D l a w ho hcl hav hpre hm hE hk hA hst => ?_) ho hcl xx xH List.not_mem_nil List.not_mem_nil hA hst
   ·have hS := (Ss.mk hE hst).env2 (e' := []) trivial
    refine qQ rfl <| Dw (g := (ci .i64)) (m := (286 : Int)) (0 : Int) hS rfl rfl (by simp) Tryd.runUnderlying66 X.el3 (fun w => ⟨_, Tryd.zeroValue3 w, rfl⟩) (fun _ => rfl) rfl rfl SK rfl fun gj w N9 Pa WK hz TS hS => ?_
    rw [← PL] at hz; replace hz := hz.symm; subst hz
    refine qA ?_
    replace hst := hS.st
    obtain ⟨hcl, hmust, hav2, hA⟩ := dn (vals' := [some (.slice N9 NC.length Pa), none, some (.slice N9 NC.length Pa), none]) 0 [] hA hcl hav hm hpre hk rfl rfl rfl rfl rfl rfl rfl
    clear hm hav
    refine jg hA hst ho hcl hav2 hmust 1 [2] rfl rfl rfl rfl rfl (by exact ⟨nA rfl, trivial⟩) fun D l a w ho hcl hav hpre hm hE hk hA hst => ?_
    have hS := (Ss.mk hE hst).env2 (e' := []) trivial
    refine qQ rfl <| Dw (g := (ci .i64)) (m := (30 : Int)) (0 : Int) hS rfl rfl (by simp) Tryd.runUnderlying66 X.el3 (fun w => ⟨_, Tryd.zeroValue3 w, rfl⟩) (fun _ => rfl) rfl rfl SL rfl fun gk w PT P1 WL hz TT hS => ?_
    rw [← PM] at hz; replace hz := hz.symm; subst hz
    refine qA ?_
    replace hst := hS.st
    obtain ⟨hcl, hmust, hav2, hA⟩ := dn (vals' := [some (.slice N9 NC.length Pa), some (.slice PT NJ.length P1), some (.slice N9 NC.length Pa), some (.slice PT NJ.length P1)]) 1 [] hA hcl hav hm hpre hk rfl rfl rfl rfl rfl rfl rfl
    clear hm hav
    refine ym hA hst ho hcl hmust [2, 3] rfl rfl rfl (by exact ⟨nA rfl, nA rfl, trivial⟩) fun a w hS => ?_
    replace hS := hS.env2 (e' := [(0, .slice Nf MT.length Ng), (4, .slice N9 NC.length Pa), (5, .slice PT NJ.length P1)]) ⟨rfl, rfl, rfl, trivial⟩
    refine qe ?_
    exact SA _ _ ⟨N9, Pa, NC, WK, PT, P1, NJ, WL, hS.to [1, 0] (by kernel_rfl) ⟨rfl, rfl, rfl, trivial⟩, TS, TT, hM⟩
   ·have hS := (Ss.mk hE hst).env2 (e' := []) trivial
    refine qQ rfl <| Dw (g := (ci .i64)) (m := (30 : Int)) (0 : Int) hS rfl rfl (by simp) Tryd.runUnderlying66 X.el3 (fun w => ⟨_, Tryd.zeroValue3 w, rfl⟩) (fun _ => rfl) rfl rfl SL rfl fun gl w Pt Py WM hz TU hS => ?_
    rw [← PM] at hz; replace hz := hz.symm; subst hz
    refine qA ?_
    replace hst := hS.st
    obtain ⟨hcl, hmust, hav2, hA⟩ := dn (vals' := [none, some (.slice Pt NJ.length Py), none, none]) 1 [] hA hcl hav hm hpre hk rfl rfl rfl rfl rfl rfl rfl
    clear hm hav
    refine jg hA hst ho hcl hav2 hmust 0 [] rfl rfl rfl rfl rfl trivial fun D l a w ho hcl hav hpre hm hE hk hA hst => ?_
    have hS := (Ss.mk hE hst).env2 (e' := []) trivial
    refine qQ rfl <| Dw (g := (ci .i64)) (m := (286 : Int)) (0 : Int) hS rfl rfl (by simp) Tryd.runUnderlying66 X.el3 (fun w => ⟨_, Tryd.zeroValue3 w, rfl⟩) (fun _ => rfl) rfl rfl SK rfl fun gm w PU P2 WN hz TV hS => ?_
    rw [← PL] at hz; replace hz := hz.symm; subst hz
    refine qA ?_
    replace hst := hS.st
    obtain ⟨hcl, hmust, hav2, hA⟩ := dn (vals' := [some (.slice PU NC.length P2), some (.slice Pt NJ.length Py), some (.slice PU NC.length P2), some (.slice Pt NJ.length Py)]) 0 [] hA hcl hav hm hpre hk rfl rfl rfl rfl rfl rfl rfl
    clear hm hav
    refine ym hA hst ho hcl hmust [2, 3] rfl rfl rfl (by exact ⟨nA rfl, nA rfl, trivial⟩) fun a w hS => ?_
    replace hS := hS.env2 (e' := [(0, .slice Nf MT.length Ng), (4, .slice PU NC.length P2), (5, .slice Pt NJ.length Py)]) ⟨rfl, rfl, rfl, trivial⟩
    refine qe ?_
    exact SA _ _ ⟨PU, P2, NC, WN, Pt, Py, NJ, WM, hS.to [0, 1] (by kernel_rfl) ⟨rfl, rfl, rfl, trivial⟩, TV, TU, hM⟩
  ·intro a w hI
   obtain ⟨Nc, Nd, M8, Sr, Nq, Nr, Nn, P8, hS, Pi, TW, hM⟩ := hI
   rw [qg.j1] at hM
   refine qm <| sM hS rfl fun hS => ?_
   obtain ⟨Pj, hM⟩ := qK hM
   refine sO hS (yv rfl rfl Tryd.runUnderlying66 Tryd.sizeOf3 (Pi.rd (i := 0) rfl) (fun _ => rfl) rfl Pj) rfl fun hS => sO hS (yG rfl (Pi.rd (i := 0) rfl) (fun _ => rfl) Pj rfl Tryd.isAgg3) rfl fun hS => sB hS rfl fun hS => sO hS (yv rfl rfl Tryd.runUnderlying66 Tryd.sizeOf3 (Pi.rd (i := 0) rfl) (fun _ => rfl) rfl Pj) rfl fun hS => J4 (i := (256 : Int)) (sz := 1) 0 0 ((qh ((rd M8 (256 : Int)) + (1 : Int)))) hS rfl rfl Pi rfl Tryd.sizeOf3 (xJ (qh ((rd M8 (256 : Int)) + (1 : Int)))) (fun _ => rfl) Pj rfl rfl fun PO w WO hz SU TX hS => ?_
   have hM := qB hz hM; clear hz
   replace hS := hS.re 4 (u := .slice Nc M8.length Nd) (v := .slice Nc PO.length Nd) rfl (by rw [SU])
   replace hS := hS.re 28 (u := .slice Nc M8.length Nd) (v := .slice Nc PO.length Nd) rfl (by rw [SU])
   refine qA <| zm (fun a w => ∃ (Nb : (List Int)) (P9 : qk) (M9 : (List Int)) (Pb : qk), Ss 196 [] [(0, .slice Nf MT.length Ng), (4, .slice Nc Nb.length Nd), (5, .slice Nq M9.length Nr)] H [P9, Pb] F a w ∧ (xj 3 (ci .i64) 1 Nc Nb Nd P9) ∧ (xj 3 (ci .i64) 1 Nq M9 Nr Pb) ∧ (qg.j3 K MT Nb M9).wp kr kp) (fun gr TJ => ?_) ?_
   ·refine wp_seq ?_
    refine zP <| sM hS rfl fun hS => sO hS (yk rfl Tryd.runUnderlying37) rfl fun hS => sM hS rfl fun hS => qA <| xS <| zv (fun Tv a w => ∃ (MX : (List Int)) (PC : qk) (MZ : (List Int)) (N6 : qk) (Ns : Int), Ss 196 [] [(0, .slice Nf MT.length Ng), (4, .slice Nc MX.length Nd), (5, .slice Nq MZ.length Nr), (33, .slice Nf MT.length Ng), (34, .int .i64 (MT.length : Int)), (35, .int .i64 Ns)] H [PC, N6] F a w ∧ (xj 3 (ci .i64) 1 Nc MX Nd PC) ∧ (xj 3 (ci .i64) 1 Nq MZ Nr N6) ∧ (qg.l2 K MT Tv MX MZ Ns).wp kr kp) K ?_ ?_ ?_
    ·exact ⟨PO, WO, Nn, P8, (0 : Int), hS.to [0, 1] (by kernel_rfl) ⟨rfl, rfl, rfl, rfl, rfl, rfl, trivial⟩, TX, TW, hM⟩
    ·intro a w hI; obtain ⟨_, _, _, _, _, _, _, _, hM⟩ := hI; exact zt hM
    ·intro Tv a w hI gq SB
     obtain ⟨MX, PC, MZ, N6, Ns, hS, NH, N1, hM⟩ := hI
     rw [qg.l2] at hM
     refine qm <| sB hS rfl fun hS => qA <| wp_seq <| qF hS rfl hM (fun We hM => ?_) (fun We hM => ?_)
     ·refine wp_skip ?_
      refine qe <| wp_seq <| xS <| wp_seq <| zP ?_
      obtain ⟨SM, hM⟩ := qK hM
      refine sO hS (yv rfl rfl Tryd.runUnderlying37 Tryd.sizeOf57 Pq.wk (fun _ => rfl) rfl SM) rfl fun hS => sO hS (v7 rfl Pq.wk (fun _ => rfl) SM Tryd.isAgg57 Tryd.sizeOf57 rfl) rfl fun hS => QF ([.int .u8 (0 : Int), .int .i64 (0 : Int), .int .i64 (0 : Int)]) hS Tryd.zeroValue57 rfl rfl fun w gC gE TC hS => QU 0 ([.int .u8 ((rd MT Ns).Lit_), .int .i64 ((rd MT Ns).Len_), .int .i64 ((rd MT Ns).Dist_)]) ([.int .u8 ((rd MT Ns).Lit_), .int .i64 ((rd MT Ns).Len_), .int .i64 ((rd MT Ns).Dist_)]) hS rfl rfl TC rfl rfl Tryd.sizeOf57 (by simp [Value.oneCell']) (Nat.le_of_ble_eq_true rfl) rfl fun w Tb Ph hS => qA <| qm <| sO hS (xv rfl Tryd.runUnderlying57 rfl Tryd.sizeOf3 rfl) rfl fun hS => sO hS (x5 0 rfl Ph rfl rfl Tryd.isAgg3) rfl fun hS => sB hS rfl fun hS => qA <| qF hS rfl hM (fun Wf hM => ?_) (fun Wf hM => ?_)
      ·refine zP ?_
       refine sM hS rfl fun hS => sO hS (xv rfl Tryd.runUnderlying57 rfl Tryd.sizeOf5 rfl) rfl fun hS => sO hS (x5 0 rfl Ph rfl rfl Tryd.isAgg5) rfl fun hS => ?_
       obtain ⟨Pk, hM⟩ := qK hM
       refine sO hS (yv rfl rfl Tryd.runUnderlying66 Tryd.sizeOf3 (NH.rd (i := 1) rfl) (fun _ => rfl) rfl Pk) rfl fun hS => sO hS (yG rfl (NH.rd (i := 1) rfl) (fun _ => rfl) Pk rfl Tryd.isAgg3) rfl fun hS => sB hS rfl fun hS => sO hS (yv rfl rfl Tryd.runUnderlying66 Tryd.sizeOf3 (NH.rd (i := 1) rfl) (fun _ => rfl) rfl Pk) rfl fun hS => J4 (i := (rd MT Ns).Lit_) (sz := 1) 1 0 ((qh ((rd MX (rd MT Ns).Lit_) + (1 : Int)))) hS rfl rfl NH rfl Tryd.sizeOf3 (xJ (qh ((rd MX (rd MT Ns).Lit_) + (1 : Int)))) (fun _ => rfl) Pk rfl rfl fun PP w WP hz SV TY hS => ?_
       have hM := qB hz hM; clear hz
       replace hS := hS.re 4 (u := .slice Nc MX.length Nd) (v := .slice Nc PP.length Nd) rfl (by rw [SV])
       replace hS := hS.re 42 (u := .slice Nc MX.length Nd) (v := .slice Nc PP.length Nd) rfl (by rw [SV])
       refine zn <| zy (qe ?_)
       refine zP <| sB hS rfl fun hS => sM hS rfl fun hS => zn <| qe ?_
       exact SB _ _ ⟨PP, WP, MZ, N6, (qh (Ns + (1 : Int))), hS.to [1, 2] (by kernel_rfl) ⟨rfl, rfl, rfl, rfl, rfl, rfl, trivial⟩, TY, N1, hM⟩
      ·refine wp_seq ?_
       refine zP <| sM hS rfl fun hS => sO hS (xv rfl Tryd.runUnderlying57 rfl Tryd.sizeOf3 rfl) rfl fun hS => sO hS (x5 0 rfl Ph rfl rfl Tryd.isAgg3) rfl fun hS => qJ hS rfl Tryd.call33 (uw hG K ((rd MT Ns).Len_) (hS.st.part 0 [0, 1, 2] (by kernel_rfl)) (qt hM) (fun NQ WA gb w hM  hst => qz hS.ev hst.appF rfl fun hS => ?_))
       replace hS : Ss _ _ _ H [Tb, PC, N6] F _ _ := hS
       refine sO hS (LB rfl Tryd.runUnderlying77 rfl Tryd.isAgg3 rfl) rfl fun hS => ?_
       obtain ⟨Pm, hM⟩ := qK hM
       refine sO hS (yv rfl rfl Tryd.runUnderlying66 Tryd.sizeOf3 (NH.rd (i := 1) rfl) (fun _ => rfl) rfl Pm) rfl fun hS => sO hS (yG rfl (NH.rd (i := 1) rfl) (fun _ => rfl) Pm rfl Tryd.isAgg3) rfl fun hS => sB hS rfl fun hS => sO hS (yv rfl rfl Tryd.runUnderlying66 Tryd.sizeOf3 (NH.rd (i := 1) rfl) (fun _ => rfl) rfl Pm) rfl fun hS => J4 (i := NQ) (sz := 1) 1 0 ((qh ((rd MX NQ) + (1 : Int)))) hS rfl rfl NH rfl Tryd.sizeOf3 (xJ (qh ((rd MX NQ) + (1 : Int)))) (fun _ => rfl) Pm rfl rfl fun PQ w Tc hz SW TZ hS => ?_
       have hM := qB hz hM; clear hz
       replace hS := hS.re 4 (u := .slice Nc MX.length Nd) (v := .slice Nc PQ.length Nd) rfl (by rw [SW])
       replace hS := hS.re 49 (u := .slice Nc MX.length Nd) (v := .slice Nc PQ.length Nd) rfl (by rw [SW])
       refine qA <| zP <| sM hS rfl fun hS => sO hS (xv rfl Tryd.runUnderlying57 rfl Tryd.sizeOf3 rfl) rfl fun hS => sO hS (x5 0 rfl Ph rfl rfl Tryd.isAgg3) rfl fun hS => qJ hS rfl Tryd.call34 (vK hG K ((rd MT Ns).Dist_) (hS.st.part 0 [0, 1, 2] (by kernel_rfl)) (qt hM) (fun NR WB gc w hM  hst => qz hS.ev hst.appF rfl fun hS => ?_))
       replace hS : Ss _ _ _ H [Tb, Tc, N6] F _ _ := hS
       refine sO hS (LB rfl Tryd.runUnderlying77 rfl Tryd.isAgg3 rfl) rfl fun hS => ?_
       obtain ⟨Pn, hM⟩ := qK hM
       refine sO hS (yv rfl rfl Tryd.runUnderlying66 Tryd.sizeOf3 (N1.rd (i := 2) rfl) (fun _ => rfl) rfl Pn) rfl fun hS => sO hS (yG rfl (N1.rd (i := 2) rfl) (fun _ => rfl) Pn rfl Tryd.isAgg3) rfl fun hS => sB hS rfl fun hS => sO hS (yv rfl rfl Tryd.runUnderlying66 Tryd.sizeOf3 (N1.rd (i := 2) rfl) (fun _ => rfl) rfl Pn) rfl fun hS => J4 (i := NR) (sz := 1) 2 0 ((qh ((rd MZ NR) + (1 : Int)))) hS rfl rfl N1 rfl Tryd.sizeOf3 (xJ (qh ((rd MZ NR) + (1 : Int)))) (fun _ => rfl) Pn rfl rfl fun PR w WQ hz SX T0 hS => ?_
       have hM := qB hz hM; clear hz
       replace hS := hS.re 5 (u := .slice Nq MZ.length Nr) (v := .slice Nq PR.length Nr) rfl (by rw [SX])
       replace hS := hS.re 58 (u := .slice Nq MZ.length Nr) (v := .slice Nq PR.length Nr) rfl (by rw [SX])
       refine zn <| zy (qe ?_)
       refine zP <| sB hS rfl fun hS => sM hS rfl fun hS => zn <| qe ?_
       exact SB _ _ ⟨PQ, Tc, PR, WQ, (qh (Ns + (1 : Int))), hS.to [1, 2] (by kernel_rfl) ⟨rfl, rfl, rfl, rfl, rfl, rfl, trivial⟩, TZ, T0, hM⟩
     ·refine wp_exit ?_
      refine qE (qE (zd (qe ?_)))
      exact TJ _ _ ⟨MX, PC, MZ, N6, hS.to [0, 1] (by kernel_rfl) ⟨rfl, rfl, rfl, trivial⟩, NH, N1, hM⟩
   ·intro a w hI
    obtain ⟨Nb, P9, M9, Pb, hS, T3, T4, hM⟩ := hI
    rw [qg.j3] at hM
    refine qm <| sM hS rfl fun hS => qJ hS rfl Tryd.call36 (vL hG K Nb Nc Nd P9 T3 (hS.st.part 1 [0, 1] (by kernel_rfl)) (qt hM) (fun Ni Nk M5 M0 Pe PD w hM NL gM Ts hst => qz hS.ev hst.appF rfl fun hS => ?_) (fun v w hk hst => xo (qD (⟨hS.ev.defs, hpan _ _ hk hst.appF.frame⟩))))
    replace hS : Ss _ _ _ H [M0, PD, Pb] F _ _ := hS
    replace hS := hS.re 4 (u := .slice Nc Nb.length Nd) (v := .slice Nc Pe.length Nd) rfl (by rw [Ts])
    replace hS := hS.re 68 (u := .slice Nc Nb.length Nd) (v := .slice Nc Pe.length Nd) rfl (by rw [Ts])
    refine qJ hS rfl Tryd.call35 (y4 hG K M5 Ni Nk (NL.rdF (i := 0) rfl) (NL.cap (fun _ => rfl) rfl) (hS.st.part 0 [0, 1, 2] (by kernel_rfl)) (qt hM) (fun Nw Nz MU M3 w hM NY hst => qz hS.ev hst.appF rfl fun hS => ?_))
    replace hS : Ss _ _ _ H [M3, M0, PD, Pb] F _ _ := hS
    refine sM hS rfl fun hS => qJ hS rfl Tryd.call36 (vL hG K M9 Nq Nr Pb T4 (hS.st.part 1 [3, 0, 1, 2] (by kernel_rfl)) (qt hM) (fun Nj Nl M6 M4 Pf Su w hM NM gN Tt hst => qz hS.ev hst.appF rfl fun hS => ?_) (fun v w hk hst => xo (qD (⟨hS.ev.defs, hpan _ _ hk hst.appF.frame⟩))))
    replace hS : Ss _ _ _ H [M4, Su, M3, M0, PD] F _ _ := hS
    replace hS := hS.re 5 (u := .slice Nq M9.length Nr) (v := .slice Nq Pf.length Nr) rfl (by rw [Tt])
    replace hS := hS.re 71 (u := .slice Nq M9.length Nr) (v := .slice Nq Pf.length Nr) rfl (by rw [Tt])
    refine qJ hS rfl Tryd.call35 (y4 hG K M6 Nj Nl (NM.rdF (i := 0) rfl) (NM.cap (fun _ => rfl) rfl) (hS.st.part 0 [0, 1, 2, 3, 4] (by kernel_rfl)) (qt hM) (fun Nx NA MV M7 w hM NZ hst => qz hS.ev hst.appF rfl fun hS => ?_))
    replace hS : Ss _ _ _ H [M7, M4, Su, M3, M0, PD] F _ _ := hS
    refine sO hS (Xr ([.int .i64 (0 : Int), .slice none 0 0, .slice Ni M5.length Nk, .slice Nw MU.length Nz, .slice Nj M6.length Nl, .slice Nx MV.length NA]) [(0, 2), (2, 2), (4, 2)] Tryd.zeroValue70 Tryd.runUnderlying70 (by intro w; simp [Tryd.sizeOf65, Tryd.sizeOf68]) rfl rfl) rfl fun hS => bx ([.int .i64 (0 : Int), .slice none 0 0, .slice Ni M5.length Nk, .slice Nw MU.length Nz, .slice Nj M6.length Nl, .slice Nx MV.length NA]) hS rfl rfl rfl fun w MS NV N0 hS => ?_
    obtain ⟨NW, T5, hS⟩ := hS.nilV 5 (ci .u8) 1
    refine sA hS rfl fun hS => qA <| wp_seq <| za (vals := [none, some (qL MS 0), some (qL MS 0), some (qL MS 2), some (qL MS 2), some (.slice Ni M5.length Nk), none, some (qL MS 0), some (qL MS 0), some (qL MS 4), some (qL MS 4), some (.slice Nj M6.length Nl), none, none, none]) hS xG rfl ?_
    intro l w ho hcl hA hst
    refine jg hA hst ho hcl xx xH 0 [1, 2, 3, 4, 5, 7, 8, 9, 10, 11] rfl rfl rfl rfl rfl (by exact ⟨nM rfl, nQ rfl (by exact qW (yy rfl) rfl), nQ rfl (by exact qW (xv rfl Tryd.runUnderlying70 rfl Tryd.sizeOf68 rfl) rfl), nQ rfl (by exact qW (xv rfl Tryd.runUnderlying68 rfl Tryd.sizeOf66 rfl) rfl), nQ rfl (by exact qW (x5 1 rfl N0 rfl rfl Tryd.isAgg66) rfl), nM rfl, nQ rfl (by exact qW (yy rfl) rfl), nQ rfl (by exact qW (xv rfl Tryd.runUnderlying70 rfl Tryd.sizeOf68 rfl) rfl), nQ rfl (by exact qW (xv rfl Tryd.runUnderlying68 rfl Tryd.sizeOf66 rfl) rfl), nQ rfl (by exact qW (x5 1 rfl N0 rfl rfl Tryd.isAgg66) rfl), trivial⟩) fun D l a w ho hcl hav hpre hm hE hk hA hst => ?_
    have hS := (Ss.mk hE hst).env2 (e' := []) trivial
    refine qQ rfl <| J2 (g := (ci .i64)) ([] : List Int) [] hS Tryd.runUnderlying66 Tryd.sizeOf3 X.el3 rfl rfl rfl (by simp [Value.cells]) rfl rfl rfl rfl rfl fun w Pv Pz gF T6 hS => qA ?_
    replace hst := hS.st
    obtain ⟨hcl, hmust, hav2, hA⟩ := dn (vals' := [some (.slice Pv ([] : List Int).length Pz), some (qL MS 0), some (qL MS 0), some (qL MS 2), some (qL MS 2), some (.slice Ni M5.length Nk), none, some (qL MS 0), some (qL MS 0), some (qL MS 4), some (qL MS 4), some (.slice Nj M6.length Nl), none, none, none]) 0 [] hA hcl hav hm hpre hk rfl rfl rfl rfl rfl rfl rfl
    clear hm hav
    refine jg hA hst ho hcl hav2 hmust 6 [1, 2, 3, 4, 5, 7, 8, 9, 10, 11] rfl rfl rfl rfl rfl (by exact ⟨nM rfl, nQ rfl (by exact qW (yy rfl) rfl), nQ rfl (by exact qW (xv rfl Tryd.runUnderlying70 rfl Tryd.sizeOf68 rfl) rfl), nQ rfl (by exact qW (xv rfl Tryd.runUnderlying68 rfl Tryd.sizeOf66 rfl) rfl), nQ rfl (by exact qW (x5 2 rfl N0 rfl rfl Tryd.isAgg66) rfl), nM rfl, nQ rfl (by exact qW (yy rfl) rfl), nQ rfl (by exact qW (xv rfl Tryd.runUnderlying70 rfl Tryd.sizeOf68 rfl) rfl), nQ rfl (by exact qW (xv rfl Tryd.runUnderlying68 rfl Tryd.sizeOf66 rfl) rfl), nQ rfl (by exact qW (x5 2 rfl N0 rfl rfl Tryd.isAgg66) rfl), trivial⟩) fun D l a w ho hcl hav hpre hm hE hk hA hst => ?_
    have hS := (Ss.mk hE hst).env2 (e' := [(76, .slice Pv ([] : List Int).length Pz), (81, .slice Ni M5.length Nk)]) ⟨rfl, rfl, trivial⟩
    refine qQ rfl ?_
    obtain ⟨Wl, hM⟩ := qK hM
    refine J1 (ys := M5) 0 hS rfl rfl T6 rfl (NL.rd (i := 7) rfl) Tryd.runUnderlying66 Tryd.runUnderlying66 X.el3 (fun _ => rfl) rfl xJ Wl rfl fun Pr w PV P3 gG hz T7 hS => ?_
    have hM := qB hz hM; clear hz
    refine qA ?_
    replace hst := hS.st
    obtain ⟨hcl, hmust, hav2, hA⟩ := dn (vals' := [some (.slice Pv ([] : List Int).length Pz), some (qL MS 0), some (qL MS 0), some (qL MS 2), some (qL MS 2), some (.slice Ni M5.length Nk), some (.slice PV Pr.length P3), some (qL MS 0), some (qL MS 0), some (qL MS 4), some (qL MS 4), some (.slice Nj M6.length Nl), none, none, none]) 6 [(0, 6), (5, 6), (4, 5), (3, 4), (2, 3), (1, 2)] hA hcl hav hm hpre hk rfl rfl rfl rfl rfl rfl rfl
    clear hm hav
    refine jg hA hst ho hcl hav2 hmust 12 [7, 8, 9, 10, 11] rfl rfl rfl rfl rfl (by exact ⟨nM rfl, nQ rfl (by exact qW (yy rfl) rfl), nQ rfl (by exact qW (xv rfl Tryd.runUnderlying70 rfl Tryd.sizeOf68 rfl) rfl), nQ rfl (by exact qW (xv rfl Tryd.runUnderlying68 rfl Tryd.sizeOf66 rfl) rfl), nQ rfl (by exact qW (x5 2 rfl N0 rfl rfl Tryd.isAgg66) rfl), trivial⟩) fun D l a w ho hcl hav hpre hm hE hk hA hst => ?_
    have hS := (Ss.mk hE hst).env2 (e' := [(82, .slice PV Pr.length P3), (87, .slice Nj M6.length Nl)]) ⟨rfl, rfl, trivial⟩
    refine qQ rfl ?_
    obtain ⟨Wm, hM⟩ := qK hM
    refine J1 (ys := M6) 0 hS rfl rfl T7 rfl (NM.rd (i := 4) rfl) Tryd.runUnderlying66 Tryd.runUnderlying66 X.el3 (fun _ => rfl) rfl xJ Wm rfl fun Ps w PW P4 WR hz SD hS => ?_
    have hM := qB hz hM; clear hz
    refine qA ?_
    replace hst := hS.st
    obtain ⟨hcl, hmust, hav2, hA⟩ := dn (vals' := [some (.slice Pv ([] : List Int).length Pz), some (qL MS 0), some (qL MS 0), some (qL MS 2), some (qL MS 2), some (.slice Ni M5.length Nk), some (.slice PV Pr.length P3), some (qL MS 0), some (qL MS 0), some (qL MS 4), some (qL MS 4), some (.slice Nj M6.length Nl), some (.slice PW Ps.length P4), none, none]) 12 [(6, 12), (11, 12), (0, 6), (5, 6), (10, 11), (4, 5), (9, 10), (3, 4), (8, 9), (2, 3), (7, 8), (1, 2)] hA hcl hav hm hpre hk rfl rfl rfl rfl rfl rfl rfl
    clear hm hav
    refine jg hA hst ho hcl hav2 hmust 13 [] rfl rfl rfl rfl rfl trivial fun D l a w ho hcl hav hpre hm hE hk hA hst => ?_
    have hS := (Ss.mk hE hst).env2 (e' := [(88, .slice PW Ps.length P4)]) ⟨rfl, trivial⟩
    refine qQ rfl <| qJ hS rfl Tryd.call37 (ZH hG K Ps PW P4 (SD.rdF (i := 0) rfl) (SD.cap (fun _ => rfl) rfl) (hS.st.part 0 [0, 1, 2, 3, 4, 5, 6, 7, 8] (by kernel_rfl)) (qt hM) (fun Ny NB MW No w hM Sh hst => qz hS.ev hst.appF rfl fun hS => ?_))
    replace hS : Ss _ _ _ H [No, WR, NW, NV, M7, M4, Su, M3, M0, PD] F _ _ := hS
    refine qA ?_
    replace hst := hS.st
    obtain ⟨hcl, hmust, hav2, hA⟩ := dn (vals' := [some (.slice Pv ([] : List Int).length Pz), some (qL MS 0), some (qL MS 0), some (qL MS 2), some (qL MS 2), some (.slice Ni M5.length Nk), some (.slice PV Pr.length P3), some (qL MS 0), some (qL MS 0), some (qL MS 4), some (qL MS 4), some (.slice Nj M6.length Nl), some (.slice PW Ps.length P4), some (.slice Ny MW.length NB), some (.slice Ny MW.length NB)]) 13 [(12, 13), (6, 12), (11, 12), (0, 6), (5, 6), (10, 11), (4, 5), (9, 10), (3, 4), (8, 9), (2, 3), (7, 8), (1, 2)] hA hcl hav hm hpre hk rfl rfl rfl rfl rfl rfl rfl
    clear hm hav
    refine ym hA hst ho hcl hmust [14] rfl rfl rfl (by exact ⟨nA rfl, trivial⟩) fun a w hS => ?_
    replace hS := hS.env2 (e' := [(0, .slice Nf MT.length Ng), (8, qL MS 0), (9, .slice Ny MW.length NB)]) ⟨rfl, rfl, rfl, trivial⟩
    refine qe <| wp_seq <| zP ?_
    obtain ⟨Wn, hM⟩ := qK hM
    refine Dw (g := (ci .i64)) (m := (19 : Int)) (0 : Int) hS rfl rfl (by simp) Tryd.runUnderlying66 X.el3 (fun w => ⟨_, Tryd.zeroValue3 w, rfl⟩) (fun _ => rfl) rfl rfl Wn rfl fun Wr w MY Na WS hz T8 hS => ?_
    have hM := qB hz hM; clear hz
    refine sA hS rfl fun hS => qA <| zm (fun a w => ∃ (MR : (List Int)) (Pc : qk), Ss 196 [] [(0, .slice Nf MT.length Ng), (8, qL MS 0), (9, .slice Ny MW.length NB), (10, .slice MY MR.length Na)] H [NV, NW, M0, M3, M4, M7, No, Pc] F a w ∧ (xj 3 (ci .i64) 1 MY MR Na Pc) ∧ (qg.j5 K MT M5 MU M6 MV MW MR).wp kr kp) (fun gu TL => ?_) ?_
    ·refine wp_seq ?_
     refine zP <| sM hS rfl fun hS => sO hS (yk rfl Tryd.runUnderlying81) rfl fun hS => sM hS rfl fun hS => qA <| xS <| zv (fun Tw a w => ∃ (Nh : (List Int)) (Sa : qk) (NG : Int), Ss 196 [] [(0, .slice Nf MT.length Ng), (8, qL MS 0), (9, .slice Ny MW.length NB), (10, .slice MY Nh.length Na), (91, .slice Ny MW.length NB), (92, .int .i64 (MW.length : Int)), (93, .int .i64 NG)] H [NV, NW, M0, M3, M4, M7, No, Sa] F a w ∧ (xj 3 (ci .i64) 1 MY Nh Na Sa) ∧ (qg.l4 K MT M5 MU M6 MV MW Tw Nh NG).wp kr kp) K ?_ ?_ ?_
     ·exact ⟨Wr, WS, (0 : Int), hS.to [4, 3, 9, 8, 6, 5, 1, 0] (by kernel_rfl) ⟨rfl, rfl, rfl, rfl, rfl, rfl, rfl, trivial⟩, T8, hM⟩
     ·intro a w hI; obtain ⟨_, _, _, _, _, hM⟩ := hI; exact zt hM
     ·intro Tw a w hI gt TK
      obtain ⟨Nh, Sa, NG, hS, N7, hM⟩ := hI
      rw [qg.l4] at hM
      refine qm <| sB hS rfl fun hS => qA <| wp_seq <| qF hS rfl hM (fun Wg hM => ?_) (fun Wg hM => ?_)
      ·refine wp_skip ?_
       refine qe <| wp_seq <| xS <| wp_seq <| zP ?_
       obtain ⟨SN, hM⟩ := qK hM
       refine sO hS (yv rfl rfl Tryd.runUnderlying81 Tryd.sizeOf84 (Sh.rd (i := 6) rfl) (fun _ => rfl) rfl SN) rfl fun hS => sO hS (v7 rfl (Sh.rd (i := 6) rfl) (fun _ => rfl) SN Tryd.isAgg84 Tryd.sizeOf84 rfl) rfl fun hS => QF ([.int .i64 (0 : Int), .int .i64 (0 : Int), .int .i64 (0 : Int)]) hS Tryd.zeroValue84 rfl rfl fun w gD gH TD hS => QU 0 ([.int .i64 ((rd MW NG).symbol_), .int .i64 ((rd MW NG).more_), .int .i64 ((rd MW NG).bits_)]) ([.int .i64 ((rd MW NG).symbol_), .int .i64 ((rd MW NG).more_), .int .i64 ((rd MW NG).bits_)]) hS rfl rfl TD rfl rfl Tryd.sizeOf84 (by simp [Value.oneCell']) (Nat.le_of_ble_eq_true rfl) rfl fun w gI TE hS => qA <| zP <| sM hS rfl fun hS => sO hS (xv rfl Tryd.runUnderlying84 rfl Tryd.sizeOf3 rfl) rfl fun hS => sO hS (x5 0 rfl TE rfl rfl Tryd.isAgg3) rfl fun hS => ?_
       obtain ⟨Po, hM⟩ := qK hM
       refine sO hS (yv rfl rfl Tryd.runUnderlying66 Tryd.sizeOf3 (N7.rd (i := 8) rfl) (fun _ => rfl) rfl Po) rfl fun hS => sO hS (yG rfl (N7.rd (i := 8) rfl) (fun _ => rfl) Po rfl Tryd.isAgg3) rfl fun hS => sB hS rfl fun hS => sO hS (yv rfl rfl Tryd.runUnderlying66 Tryd.sizeOf3 (N7.rd (i := 8) rfl) (fun _ => rfl) rfl Po) rfl fun hS => J4 (i := (rd MW NG).symbol_) (sz := 1) 8 0 ((qh ((rd Nh (rd MW NG).symbol_) + (1 : Int)))) hS rfl rfl N7 rfl Tryd.sizeOf3 (xJ (qh ((rd Nh (rd MW NG).symbol_) + (1 : Int)))) (fun _ => rfl) Po rfl rfl fun PS w WT hz SY T9 hS => ?_
       have hM := qB hz hM; clear hz
       replace hS := hS.re 10 (u := .slice MY Nh.length Na) (v := .slice MY PS.length Na) rfl (by rw [SY])
       replace hS := hS.re 97 (u := .slice MY Nh.length Na) (v := .slice MY PS.length Na) rfl (by rw [SY])
       refine zn <| zy (qe ?_)
       refine zP <| sB hS rfl fun hS => sM hS rfl fun hS => zn <| qe ?_
       exact TK _ _ ⟨PS, WT, (qh (NG + (1 : Int))), hS.to [1, 2, 3, 4, 5, 6, 7, 8] (by kernel_rfl) ⟨rfl, rfl, rfl, rfl, rfl, rfl, rfl, trivial⟩, T9, hM⟩
      ·refine wp_exit ?_
       refine qE (qE (zd (qe ?_)))
       exact TL _ _ ⟨Nh, Sa, hS.to [0, 1, 2, 3, 4, 5, 6, 7] (by kernel_rfl) ⟨rfl, rfl, rfl, rfl, trivial⟩, N7, hM⟩
    ·intro a w hI
     obtain ⟨MR, Pc, hS, NI, hM⟩ := hI
     rw [qg.j5] at hM
     refine qm <| sA hS rfl fun hS => qA <| zm (fun a w => ∃ (PN : Int), Ss 196 [] [(0, .slice Nf MT.length Ng), (8, qL MS 0), (9, .slice Ny MW.length NB), (10, .slice MY MR.length Na), (13, .int .i64 PN)] H [NV, NW, M0, M3, M4, M7, No, Pc] F a w ∧ (qg.j7 K MT M5 MU M6 MV MW MR PN).wp kr kp) (fun gw TN => ?_) ?_
     ·refine wp_seq ?_
      refine zP <| sM hS rfl fun hS => sO hS (yk rfl Tryd.runUnderlying66) rfl fun hS => sM hS rfl fun hS => qA <| xS <| zv (fun Tx a w => ∃ (N8 : Int) (PI : Int), Ss 196 [] [(0, .slice Nf MT.length Ng), (8, qL MS 0), (9, .slice Ny MW.length NB), (10, .slice MY MR.length Na), (13, .int .i64 N8), (105, .slice MY MR.length Na), (106, .int .i64 (MR.length : Int)), (107, .int .i64 PI)] H [NV, NW, M0, M3, M4, M7, No, Pc] F a w ∧ (qg.l6 K MT M5 MU M6 MV MW MR Tx N8 PI).wp kr kp) K ?_ ?_ ?_
      ·exact ⟨(0 : Int), (0 : Int), hS.to [0, 1, 2, 3, 4, 5, 6, 7] (by kernel_rfl) ⟨rfl, rfl, rfl, rfl, rfl, rfl, rfl, rfl, trivial⟩, hM⟩
      ·intro a w hI; obtain ⟨_, _, _, hM⟩ := hI; exact zt hM
      ·intro Tx a w hI gv TM
       obtain ⟨N8, PI, hS, hM⟩ := hI
       rw [qg.l6] at hM
       refine qm <| sB hS rfl fun hS => qA <| wp_seq <| qF hS rfl hM (fun Wh hM => ?_) (fun Wh hM => ?_)
       ·refine wp_skip ?_
        refine qe <| wp_seq <| xS <| wp_seq <| zP ?_
        obtain ⟨SO, hM⟩ := qK hM
        refine sO hS (yv rfl rfl Tryd.runUnderlying66 Tryd.sizeOf3 (NI.rd (i := 7) rfl) (fun _ => rfl) rfl SO) rfl fun hS => sO hS (yG rfl (NI.rd (i := 7) rfl) (fun _ => rfl) SO rfl Tryd.isAgg3) rfl fun hS => zG (v := Value.int .i64) (x0 := (rd MR PI)) hS (xD rfl) rfl fun S1 a w hz hS => ?_
        have hM := qB hz hM; clear hz
        refine qA <| zP <| sM hS rfl fun hS => sM hS rfl fun hS => sO hS (Ul rfl rfl) rfl fun hS => sB hS rfl fun hS => zG (v := Value.int .i64) (x0 := (qh (N8 + (if (1 : Int) < S1 then (1 : Int) else S1)))) hS (xD rfl) rfl fun Wq a w hz hS => ?_
        have hM := qB hz hM; clear hz
        refine zn <| zy (qe ?_)
        refine zP <| sB hS rfl fun hS => sM hS rfl fun hS => zn <| qe ?_
        exact TM _ _ ⟨Wq, (qh (PI + (1 : Int))), hS.to [0, 1, 2, 3, 4, 5, 6, 7] (by kernel_rfl) ⟨rfl, rfl, rfl, rfl, rfl, rfl, rfl, rfl, trivial⟩, hM⟩
       ·refine wp_exit ?_
        refine qE (qE (zd (qe ?_)))
        exact TN _ _ ⟨N8, hS.to [0, 1, 2, 3, 4, 5, 6, 7] (by kernel_rfl) ⟨rfl, rfl, rfl, rfl, rfl, trivial⟩, hM⟩
     ·intro a w hI
      obtain ⟨PN, hS, hM⟩ := hI
      rw [qg.j7] at hM
      refine zm (fun a w => ∃ (NF : (List Int)) (NX : qk), Ss 196 [] [(0, .slice Nf MT.length Ng), (8, qL MS 0), (9, .slice Ny MW.length NB), (10, .slice MY NF.length Na)] H [NV, NW, M0, M3, M4, M7, No, NX] F a w ∧ (xj 3 (ci .i64) 1 MY NF Na NX) ∧ (qg.j8 K MT M5 MU M6 MV MW NF).wp kr kp) (fun gx SC => ?_) ?_
      ·refine wp_seq ?_
       refine zP <| sM hS rfl fun hS => sB hS rfl fun hS => qA <| qF hS rfl hM (fun Wi hM => ?_) (fun Wi hM => ?_)
       ·obtain ⟨Pp, hM⟩ := qK hM
        obtain ⟨SP, hM⟩ := qK hM
        refine za (vals := [some (.slice MY MR.length Na), some (.slice MY MR.length Na), some (.slice MY MR.length Na), some (xI MY (Int.toNat (0 : Int) * 1)), some (.int .i64 (rd MR (0 : Int))), some (.int .i64 (if (1 : Int) > (rd MR (0 : Int)) then (1 : Int) else (rd MR (0 : Int)))), some (.slice MY MR.length Na), some (xI MY (Int.toNat (1 : Int) * 1)), some (.int .i64 (rd MR (1 : Int))), some (.int .i64 (if (1 : Int) > (rd MR (1 : Int)) then (1 : Int) else (rd MR (1 : Int)))), some (xI MY (Int.toNat (0 : Int) * 1)), none, none, none]) hS xG rfl ?_
        intro l w ho hcl hA hst
        refine jg hA hst ho hcl xx xH 11 [0, 1, 2, 3, 4, 5, 6, 7, 8, 9, 10] rfl rfl rfl rfl rfl (by exact ⟨nM rfl, nM rfl, nM rfl, nQ rfl (by exact qW (yv rfl rfl Tryd.runUnderlying66 Tryd.sizeOf3 (NI.rd (i := 7) rfl) (fun _ => rfl) rfl Pp) rfl), nQ rfl (by exact qW (yG rfl (NI.rd (i := 7) rfl) (fun _ => rfl) Pp rfl Tryd.isAgg3) rfl), nQ rfl (by exact qW (DT rfl rfl) rfl), nM rfl, nQ rfl (by exact qW (yv rfl rfl Tryd.runUnderlying66 Tryd.sizeOf3 (NI.rd (i := 7) rfl) (fun _ => rfl) rfl SP) rfl), nQ rfl (by exact qW (yG rfl (NI.rd (i := 7) rfl) (fun _ => rfl) SP rfl Tryd.isAgg3) rfl), nQ rfl (by exact qW (DT rfl rfl) rfl), nQ rfl (by exact qW (yv rfl rfl Tryd.runUnderlying66 Tryd.sizeOf3 (NI.rd (i := 7) rfl) (fun _ => rfl) rfl Pp) rfl), trivial⟩) fun D l a w ho hcl hav hpre hm hE hk hA hst => ?_
        have hS := (Ss.mk hE hst).env2 (e' := [(123, .int .i64 (if (1 : Int) > (rd MR (0 : Int)) then (1 : Int) else (rd MR (0 : Int)))), (128, xI MY (Int.toNat (0 : Int) * 1))]) ⟨rfl, rfl, trivial⟩
        refine qQ rfl <| J4 (i := (0 : Int)) (sz := 1) 7 0 ((if (1 : Int) > (rd MR (0 : Int)) then (1 : Int) else (rd MR (0 : Int)))) hS rfl rfl NI rfl Tryd.sizeOf3 (xJ (if (1 : Int) > (rd MR (0 : Int)) then (1 : Int) else (rd MR (0 : Int)))) (fun _ => rfl) Pp rfl rfl fun gn w gJ hz SZ SE hS => ?_
        have hM := qB hz hM; clear hz
        refine qA ?_
        replace hst := hS.st
        obtain ⟨SQ, hM⟩ := qK hM
        obtain ⟨hcl, hmust, hav2, hA⟩ := XQ (vals' := [some (.slice MY MR.length Na), some (.slice MY MR.length Na), some (.slice MY MR.length Na), some (xI MY (Int.toNat (0 : Int) * 1)), some (.int .i64 (rd MR (0 : Int))), some (.int .i64 (if (1 : Int) > (rd MR (0 : Int)) then (1 : Int) else (rd MR (0 : Int)))), some (.slice MY MR.length Na), some (xI MY (Int.toNat (1 : Int) * 1)), some (.int .i64 (rd MR (1 : Int))), some (.int .i64 (if (1 : Int) > (rd MR (1 : Int)) then (1 : Int) else (rd MR (1 : Int)))), some (xI MY (Int.toNat (0 : Int) * 1)), some undef, some (xI MY (Int.toNat (1 : Int) * 1)), none]) 11 [(0, 11), (2, 11), (3, 11), (4, 11), (5, 11), (8, 11), (10, 11), (7, 8), (6, 7)] hA hcl hav hm hpre rfl rfl rfl rfl rfl
        clear hm hav
        refine jg hA hst ho hcl hav2 hmust 13 [1, 9, 12] rfl rfl rfl rfl rfl (by exact ⟨nM rfl, nQ rfl (by exact qW (DT rfl rfl) rfl), nQ rfl (by exact qW (yv (BH SZ rfl) rfl Tryd.runUnderlying66 Tryd.sizeOf3 (SE.rd (i := 7) rfl) (fun _ => rfl) rfl SQ) rfl), trivial⟩) fun D l a w ho hcl hav hpre hm hE hk hA hst => ?_
        have hS := (Ss.mk hE hst).env2 (e' := [(127, .int .i64 (if (1 : Int) > (rd MR (1 : Int)) then (1 : Int) else (rd MR (1 : Int)))), (129, xI MY (Int.toNat (1 : Int) * 1))]) ⟨rfl, rfl, trivial⟩
        refine qQ rfl <| J4 (i := (1 : Int)) (sz := 1) 7 0 ((if (1 : Int) > (rd MR (1 : Int)) then (1 : Int) else (rd MR (1 : Int)))) hS rfl rfl SE rfl Tryd.sizeOf3 (xJ (if (1 : Int) > (rd MR (1 : Int)) then (1 : Int) else (rd MR (1 : Int)))) (fun _ => rfl) SQ rfl rfl fun S2 w WU hz Wp Wa hS => ?_
        have hM := qB hz hM; clear hz
        refine qA ?_
        replace hst := hS.st
        obtain ⟨hcl, hmust, hav2, hA⟩ := XQ (vals' := [some (.slice MY MR.length Na), some (.slice MY MR.length Na), some (.slice MY MR.length Na), some (xI MY (Int.toNat (0 : Int) * 1)), some (.int .i64 (rd MR (0 : Int))), some (.int .i64 (if (1 : Int) > (rd MR (0 : Int)) then (1 : Int) else (rd MR (0 : Int)))), some (.slice MY MR.length Na), some (xI MY (Int.toNat (1 : Int) * 1)), some (.int .i64 (rd MR (1 : Int))), some (.int .i64 (if (1 : Int) > (rd MR (1 : Int)) then (1 : Int) else (rd MR (1 : Int)))), some (xI MY (Int.toNat (0 : Int) * 1)), some undef, some (xI MY (Int.toNat (1 : Int) * 1)), some undef]) 13 [(0, 13), (1, 13), (2, 13), (3, 13), (4, 13), (5, 13), (6, 13), (7, 13), (8, 13), (9, 13), (10, 13), (11, 13), (12, 13)] hA hcl hav hm hpre rfl rfl rfl rfl rfl
        clear hm hav
        refine ym hA hst ho hcl hmust [] rfl rfl rfl trivial fun a w hS => ?_
        replace hS := hS.env2 (e' := [(0, .slice Nf MT.length Ng), (8, qL MS 0), (9, .slice Ny MW.length NB), (10, .slice MY S2.length Na)]) ⟨rfl, rfl, rfl, (KP (u := .slice MY MR.length Na) rfl (by rw [Wp, SZ])), trivial⟩
        refine qe ?_
        exact SC _ _ ⟨S2, WU, hS.to [0, 1, 2, 3, 4, 5, 6, 7] (by kernel_rfl) ⟨rfl, rfl, rfl, rfl, trivial⟩, Wa, hM⟩
       ·refine wp_skip ?_
        refine qe ?_
        exact SC _ _ ⟨MR, Pc, hS.to [0, 1, 2, 3, 4, 5, 6, 7] (by kernel_rfl) ⟨rfl, rfl, rfl, rfl, trivial⟩, NI, hM⟩
      ·intro a w hI
       obtain ⟨NF, NX, hS, SG, hM⟩ := hI
       rw [qg.j8] at hM
       refine qm <| sM hS rfl fun hS => qJ hS rfl Tryd.call38 (Qp hG K NF (7 : Int) MY Na (SG.rdF (i := 7) rfl) (SG.cap (fun _ => rfl) rfl) (hS.st.part 0 [0, 1, 2, 3, 4, 5, 6, 7] (by kernel_rfl)) (qt hM) (fun NS N5 Nt NK gP w hM Pd hst => qz hS.ev hst.appF rfl fun hS => ?_) (fun v w hk hst => xo (qD (⟨hS.ev.defs, hpan _ _ hk hst.appF.frame⟩))))
       replace hS : Ss _ _ _ H [NK, NV, NW, M0, M3, M4, M7, No, NX] F _ _ := hS
       refine sM hS rfl fun hS => sO hS (ex rfl rfl) rfl fun hS => sO hS (ex rfl rfl) rfl fun hS => sA hS rfl fun hS => sA hS rfl fun hS => qA <| qm <| sM hS rfl fun hS => qJ hS rfl Tryd.call35 (y4 hG K Nt NS N5 (Pd.rdF (i := 0) rfl) (Pd.cap (fun _ => rfl) rfl) (hS.st.part 0 [0, 1, 2, 3, 4, 5, 6, 7, 8] (by kernel_rfl)) (qt hM) (fun PX P5 Np NN w hM Tu hst => qz hS.ev hst.appF rfl fun hS => ?_))
       replace hS : Ss _ _ _ H [NN, NK, NV, NW, M0, M3, M4, M7, No, NX] F _ _ := hS
       refine QF ([.slice none 0 0, .slice none 0 0]) hS Tryd.zeroValue68 rfl rfl fun w N4 gK TF hS => ?_
       obtain ⟨Sb, gh, hS⟩ := hS.nilV 3 (ci .i64) 1
       obtain ⟨Sc, gi, hS⟩ := hS.nilV 3 (ci .i64) 1
       refine QU 2 ([.slice NS Nt.length N5, .slice PX Np.length P5]) ([.slice NS Nt.length N5, .slice PX Np.length P5]) hS rfl rfl TF rfl rfl Tryd.sizeOf68 (by simp [Value.oneCell']) (Nat.le_of_ble_eq_true rfl) rfl fun w NO Sx hS => qA <| qm <| sM hS rfl fun hS => sO hS (yy rfl) rfl fun hS => sO hS (xv rfl Tryd.runUnderlying70 rfl Tryd.sizeOf65 rfl) rfl fun hS => qJ hS rfl Tryd.call30 (zj hG K (qp.mk (qR.mk (qr.mk (0 : Int)) ([] : List Int)) (qv.mk M5 MU) (qv.mk M6 MV)) (5 : Int) (3 : Int) MS NV none (0) NW Ni Nk M0 Nw Nz M3 Nj Nl M4 Nx NA M7 N0 T5 NL NY NM NZ (hS.st.part 6 [5, 6, 7, 8, 9, 10, 0, 1, 2, 3, 4, 11, 12] (by kernel_rfl)) (qt hM) (fun gQ S3 Ws WC Si Td Te w hM WV WW hst => qz hS.ev hst.appF rfl fun hS => ?_))
       replace hS : Ss _ _ _ H [Te, Td, M0, M3, M4, M7, Sc, Sb, NO, NN, NK, No, NX] F _ _ := hS
       refine qA <| qm <| sM hS rfl fun hS => sO hS (yy rfl) rfl fun hS => sO hS (xv rfl Tryd.runUnderlying70 rfl Tryd.sizeOf65 rfl) rfl fun hS => qJ hS rfl Tryd.call30 (zj hG K (qp.mk (qR.mk (qr.mk S3) Si) (qv.mk M5 MU) (qv.mk M6 MV)) (29 : Int) (5 : Int) MS Te Ws WC Td Ni Nk M0 Nw Nz M3 Nj Nl M4 Nx NA M7 WW WV NL NY NM NZ (hS.st.part 6 [0, 1, 2, 3, 4, 5, 6, 7, 8, 9, 10, 11, 12] (by kernel_rfl)) (qt hM) (fun gR S4 Wt WD Sj Tf Tg w hM WX WY hst => qz hS.ev hst.appF rfl fun hS => ?_))
       replace hS : Ss _ _ _ H [Tg, Tf, M0, M3, M4, M7, Sc, Sb, NO, NN, NK, No, NX] F _ _ := hS
       refine qA <| qm <| sM hS rfl fun hS => sO hS (yy rfl) rfl fun hS => sO hS (xv rfl Tryd.runUnderlying70 rfl Tryd.sizeOf65 rfl) rfl fun hS => qJ hS rfl Tryd.call30 (zj hG K (qp.mk (qR.mk (qr.mk S4) Sj) (qv.mk M5 MU) (qv.mk M6 MV)) (29 : Int) (5 : Int) MS Tg Wt WD Tf Ni Nk M0 Nw Nz M3 Nj Nl M4 Nx NA M7 WY WX NL NY NM NZ (hS.st.part 6 [0, 1, 2, 3, 4, 5, 6, 7, 8, 9, 10, 11, 12] (by kernel_rfl)) (qt hM) (fun gS S5 Wu WE Sk Th Ti w hM WZ W0 hst => qz hS.ev hst.appF rfl fun hS => ?_))
       replace hS : Ss _ _ _ H [Ti, Th, M0, M3, M4, M7, Sc, Sb, NO, NN, NK, No, NX] F _ _ := hS
       refine qA <| qm <| sM hS rfl fun hS => sO hS (yy rfl) rfl fun hS => sO hS (xv rfl Tryd.runUnderlying70 rfl Tryd.sizeOf65 rfl) rfl fun hS => qJ hS rfl Tryd.call30 (zj hG K (qp.mk (qR.mk (qr.mk S5) Sk) (qv.mk M5 MU) (qv.mk M6 MV)) (15 : Int) (4 : Int) MS Ti Wu WE Th Ni Nk M0 Nw Nz M3 Nj Nl M4 Nx NA M7 W0 WZ NL NY NM NZ (hS.st.part 6 [0, 1, 2, 3, 4, 5, 6, 7, 8, 9, 10, 11, 12] (by kernel_rfl)) (qt hM) (fun gT S6 Wv WF Sm Tj Tk w hM W1 W2 hst => qz hS.ev hst.appF rfl fun hS => ?_))
       replace hS : Ss _ _ _ H [Tk, Tj, M0, M3, M4, M7, Sc, Sb, NO, NN, NK, No, NX] F _ _ := hS
       refine qA <| zm (fun a w => ∃ (N2 : Int) (PY : Option Addr) (P6 : Nat) (ND : (List Int)) (Sd : qk) (Se : qk), Ss 196 [] [(0, .slice Nf MT.length Ng), (8, qL MS 0), (9, .slice Ny MW.length NB), (18, qL N4 0)] H [Se, Sd, M0, M3, M4, M7, No, NO, NK, NN] F a w ∧ (xj 5 (ci .u8) 1 PY ND P6 Sd) ∧ (xM Se MS ([.int .i64 N2, .slice PY ND.length P6, .slice Ni M5.length Nk, .slice Nw MU.length Nz, .slice Nj M6.length Nl, .slice Nx MV.length NA]) 70) ∧ (qg.j10 K MT M5 MU M6 MV MW Nt Np N2 ND).wp kr kp) (fun gz TP => ?_) ?_
       ·refine wp_seq ?_
        refine zP <| sO hS (GA rfl hG.g0 (by rfl) Tryd.isAgg87 Tryd.sizeOf87) rfl fun hS => sM hS rfl fun hS => qA <| xS <| zv (fun Ty a w => ∃ (NT : Int) (Pw : Option Addr) (PA : Nat) (Nu : (List Int)) (PE : qk) (PF : qk) (Pg : Int), Ss 196 [] [(0, .slice Nf MT.length Ng), (8, qL MS 0), (9, .slice Ny MW.length NB), (18, qL N4 0), (153, .agg ⟨tab_deflate_order.flatMap (ci .i64)⟩), (154, .int .i64 Pg)] H [PF, PE, M0, M3, M4, M7, No, NO, NK, NN] F a w ∧ (xj 5 (ci .u8) 1 Pw Nu PA PE) ∧ (xM PF MS ([.int .i64 NT, .slice Pw Nu.length PA, .slice Ni M5.length Nk, .slice Nw MU.length Nz, .slice Nj M6.length Nl, .slice Nx MV.length NA]) 70) ∧ (qg.l9 K MT M5 MU M6 MV MW Nt Np Ty NT Nu Pg).wp kr kp) K ?_ ?_ ?_
        ·exact ⟨S6, Wv, WF, Sm, Tj, Tk, (0 : Int), hS.to [0, 1, 2, 3, 4, 5, 11, 8, 10, 9] (by kernel_rfl) ⟨rfl, rfl, rfl, rfl, rfl, rfl, trivial⟩, W1, W2, hM⟩
        ·intro a w hI; obtain ⟨_, _, _, _, _, _, _, _, _, _, hM⟩ := hI; exact zt hM
        ·intro Ty a w hI gy TO
         obtain ⟨NT, Pw, PA, Nu, PE, PF, Pg, hS, SH, Sy, hM⟩ := hI
         rw [qg.l9] at hM
         refine qm <| sB hS rfl fun hS => qA <| wp_seq <| qF hS rfl hM (fun Wj hM => ?_) (fun Wj hM => ?_)
         ·refine wp_skip ?_
          refine qe <| wp_seq <| xS <| wp_seq <| zP ?_
          obtain ⟨Wo, hM⟩ := qK hM
          refine sO hS (Mc rfl rfl Tryd.runUnderlying87 Tryd.isAgg3 Tryd.sizeOf3 (fun _ => rfl) Qe Wo rfl) rfl fun hS => zG (v := Value.int .i64) (x0 := (rd tab_deflate_order Pg)) hS (xD rfl) rfl fun NP a w hz hS => ?_
          have hM := qB hz hM; clear hz
          refine zn <| qe ?_
          obtain ⟨SR, hM⟩ := qK hM
          refine za (vals := [some (qL MS 0), some (qL MS 0), some (qL MS 0), some (qL N4 0), some (.slice NS Nt.length N5), some (.int .i64 NP), some (xI NS (Int.toNat NP * 1)), some (.int .i64 (rd Nt NP)), some (.int .u32 (wr .u32 (rd Nt NP))), none]) hS xG rfl ?_
          intro l w ho hcl hA hst
          refine jg hA hst ho hcl xx xH 9 [0, 1, 2, 3, 4, 5, 6, 7, 8] rfl rfl rfl rfl rfl (by exact ⟨nM rfl, nQ rfl (by exact qW (yy rfl) rfl), nQ rfl (by exact qW (xv rfl Tryd.runUnderlying70 rfl Tryd.sizeOf65 rfl) rfl), nQ rfl (by exact qW (xv rfl Tryd.runUnderlying68 rfl Tryd.sizeOf66 rfl) rfl), nQ rfl (by exact qW (x5 7 rfl Sx rfl rfl Tryd.isAgg66) rfl), nM rfl, nQ rfl (by exact qW (yv rfl rfl Tryd.runUnderlying66 Tryd.sizeOf3 (Pd.rd (i := 8) rfl) (fun _ => rfl) rfl SR) rfl), nQ rfl (by exact qW (yG rfl (Pd.rd (i := 8) rfl) (fun _ => rfl) SR rfl Tryd.isAgg3) rfl), nQ rfl (by exact qW (u7 rfl Tryd.runUnderlying3 Tryd.runUnderlying25) rfl), trivial⟩) fun D l a w ho hcl hav hpre hm hE hk hA hst => ?_
          have hS := (Ss.mk hE hst).env2 (e' := [(159, qL MS 0), (165, .int .u32 (wr .u32 (rd Nt NP)))]) ⟨rfl, rfl, trivial⟩
          refine qQ rfl <| qJ hS rfl Tryd.call30 (zj hG K (qp.mk (qR.mk (qr.mk NT) Nu) (qv.mk M5 MU) (qv.mk M6 MV)) (wr .u32 (rd Nt NP)) (3 : Int) MS PF Pw PA PE Ni Nk M0 Nw Nz M3 Nj Nl M4 Nx NA M7 Sy SH NL NY NM NZ (hS.st.part 6 [0, 1, 2, 3, 4, 5, 6, 7, 8, 9] (by kernel_rfl)) (qt hM) (fun ge S7 Ww WG Sn Tl Tm w hM W3 W4 hst => qz hS.ev hst.appF rfl fun hS => ?_))
          replace hS : Ss _ _ _ H [Tm, Tl, M0, M3, M4, M7, No, NO, NK, NN] F _ _ := hS
          refine qA ?_
          replace hst := hS.st
          obtain ⟨hcl, hmust, hav2, hA⟩ := dn (vals' := [some (qL MS 0), some (qL MS 0), some (qL MS 0), some (qL N4 0), some (.slice NS Nt.length N5), some (.int .i64 NP), some (xI NS (Int.toNat NP * 1)), some (.int .i64 (rd Nt NP)), some (.int .u32 (wr .u32 (rd Nt NP))), some (.int .i64 ge)]) 9 [(2, 9), (8, 9), (1, 2), (7, 8), (0, 1), (6, 7), (4, 6), (5, 6), (3, 4)] hA hcl hav hm hpre hk rfl rfl rfl rfl rfl rfl rfl
          clear hm hav
          refine ym hA hst ho hcl hmust [] rfl rfl rfl trivial fun a w hS => ?_
          replace hS := hS.env2 (e' := [(0, .slice Nf MT.length Ng), (8, qL MS 0), (9, .slice Ny MW.length NB), (18, qL N4 0), (153, .agg ⟨tab_deflate_order.flatMap (ci .i64)⟩), (154, .int .i64 Pg)]) ⟨rfl, rfl, rfl, rfl, rfl, rfl, trivial⟩
          refine zy (qe ?_)
          refine zP <| sB hS rfl fun hS => sM hS rfl fun hS => zn <| qe ?_
          exact TO _ _ ⟨S7, Ww, WG, Sn, Tl, Tm, (qh (Pg + (1 : Int))), hS.to [0, 1, 2, 3, 4, 5, 6, 7, 8, 9] (by kernel_rfl) ⟨rfl, rfl, rfl, rfl, rfl, rfl, trivial⟩, W3, W4, hM⟩
         ·refine wp_exit ?_
          refine qE (qE (zd (qe ?_)))
          exact TP _ _ ⟨NT, Pw, PA, Nu, PE, PF, hS.to [0, 1, 2, 3, 4, 5, 6, 7, 8, 9] (by kernel_rfl) ⟨rfl, rfl, rfl, rfl, trivial⟩, SH, Sy, hM⟩
       ·intro a w hI
        obtain ⟨N2, PY, P6, ND, Sd, Se, hS, Wb, TG, hM⟩ := hI
        rw [qg.j10] at hM
        refine zm (fun a w => ∃ (N3 : Int) (PZ : Option Addr) (P7 : Nat) (NE : (List Int)) (Sf : qk) (Sg : qk), Ss 196 [] [(0, .slice Nf MT.length Ng), (8, qL MS 0)] H [Sg, Sf, M0, M3, M4, M7] F a w ∧ (xj 5 (ci .u8) 1 PZ NE P7 Sf) ∧ (xM Sg MS ([.int .i64 N3, .slice PZ NE.length P7, .slice Ni M5.length Nk, .slice Nw MU.length Nz, .slice Nj M6.length Nl, .slice Nx MV.length NA]) 70) ∧ (qg.j12 K MT M5 MU M6 MV N3 NE).wp kr kp) (fun gB TR => ?_) ?_
        ·refine wp_seq ?_
         refine zP <| sM hS rfl fun hS => sO hS (yk rfl Tryd.runUnderlying81) rfl fun hS => sM hS rfl fun hS => qA <| xS <| zv (fun Tz a w => ∃ (NU : Int) (Px : Option Addr) (PB : Nat) (Nv : (List Int)) (PG : qk) (PH : qk) (Nm : Int), Ss 196 [] [(0, .slice Nf MT.length Ng), (8, qL MS 0), (18, qL N4 0), (168, .slice Ny MW.length NB), (169, .int .i64 (MW.length : Int)), (170, .int .i64 Nm)] H [PH, PG, M0, M3, M4, M7, NO, NK, NN, No] F a w ∧ (xj 5 (ci .u8) 1 Px Nv PB PG) ∧ (xM PH MS ([.int .i64 NU, .slice Px Nv.length PB, .slice Ni M5.length Nk, .slice Nw MU.length Nz, .slice Nj M6.length Nl, .slice Nx MV.length NA]) 70) ∧ (qg.l11 K MT M5 MU M6 MV MW Nt Np Tz NU Nv Nm).wp kr kp) K ?_ ?_ ?_
         ·exact ⟨N2, PY, P6, ND, Sd, Se, (0 : Int), hS.to [0, 1, 2, 3, 4, 5, 7, 8, 9, 6] (by kernel_rfl) ⟨rfl, rfl, rfl, rfl, rfl, rfl, trivial⟩, Wb, TG, hM⟩
         ·intro a w hI; obtain ⟨_, _, _, _, _, _, _, _, _, _, hM⟩ := hI; exact zt hM
         ·intro Tz a w hI gA TQ
          obtain ⟨NU, Px, PB, Nv, PG, PH, Nm, hS, SI, Sz, hM⟩ := hI
          rw [qg.l11] at hM
          refine qm <| sB hS rfl fun hS => qA <| wp_seq <| qF hS rfl hM (fun Wk hM => ?_) (fun Wk hM => ?_)
          ·refine wp_skip ?_
           refine qe <| wp_seq <| xS <| wp_seq <| zP ?_
           obtain ⟨ST, hM⟩ := qK hM
           refine sO hS (yv rfl rfl Tryd.runUnderlying81 Tryd.sizeOf84 (Sh.rd (i := 9) rfl) (fun _ => rfl) rfl ST) rfl fun hS => sO hS (v7 rfl (Sh.rd (i := 9) rfl) (fun _ => rfl) ST Tryd.isAgg84 Tryd.sizeOf84 rfl) rfl fun hS => QF ([.int .i64 (0 : Int), .int .i64 (0 : Int), .int .i64 (0 : Int)]) hS Tryd.zeroValue84 rfl rfl fun w P0 gL TH hS => QU 0 ([.int .i64 ((rd MW Nm).symbol_), .int .i64 ((rd MW Nm).more_), .int .i64 ((rd MW Nm).bits_)]) ([.int .i64 ((rd MW Nm).symbol_), .int .i64 ((rd MW Nm).more_), .int .i64 ((rd MW Nm).bits_)]) hS rfl rfl TH rfl rfl Tryd.sizeOf84 (by simp [Value.oneCell']) (Nat.le_of_ble_eq_true rfl) rfl fun w Tn PJ hS => qA <| qm <| sM hS rfl fun hS => sO hS (uS 7 rfl Sx rfl ([.slice NS Nt.length N5, .slice PX Np.length P5]) rfl rfl Tryd.isAgg68 Tryd.sizeOf68) rfl fun hS => sO hS (xv rfl Tryd.runUnderlying84 rfl Tryd.sizeOf3 rfl) rfl fun hS => sO hS (x5 0 rfl PJ rfl rfl Tryd.isAgg3) rfl fun hS => qJ hS rfl Tryd.call39 (uy hG K (qp.mk (qR.mk (qr.mk NU) Nv) (qv.mk M5 MU) (qv.mk M6 MV)) (qv.mk Nt Np) ((rd MW Nm).symbol_) MS PH Px PB PG Ni Nk M0 Nw Nz M3 Nj Nl M4 Nx NA M7 NS N5 PX P5 Sz SI NL NY NM NZ (Pd.rdF (i := 2) rfl) (Pd.cap (fun _ => rfl) rfl) (Tu.rdF (i := 3) rfl) (Tu.cap (fun _ => rfl) rfl) (hS.st.part 6 [1, 2, 3, 4, 5, 6, 0, 7, 8, 9, 10] (by kernel_rfl)) (qt hM) (fun S8 Wx WH So To Tp w hM W5 W6 hst => qz hS.ev hst.appF rfl fun hS => ?_))
           replace hS : Ss _ _ _ H [Tp, To, M0, M3, M4, M7, Tn, NO, NK, NN, No] F _ _ := hS
           refine qA <| za (vals := [some (qL MS 0), some (qL MS 0), some (qL MS 0), some (qL P0 1), some (.int .i64 ((rd MW Nm).more_)), some (.int .u32 (wr .u32 (rd MW Nm).more_)), some (qL P0 2), some (.int .i64 ((rd MW Nm).bits_)), none]) hS xG rfl ?_
           intro l w ho hcl hA hst
           refine jg hA hst ho hcl xx xH 8 [0, 1, 2, 3, 4, 5, 6, 7] rfl rfl rfl rfl rfl (by exact ⟨nM rfl, nQ rfl (by exact qW (yy rfl) rfl), nQ rfl (by exact qW (xv rfl Tryd.runUnderlying70 rfl Tryd.sizeOf65 rfl) rfl), nQ rfl (by exact qW (xv rfl Tryd.runUnderlying84 rfl Tryd.sizeOf3 rfl) rfl), nQ rfl (by exact qW (x5 6 rfl PJ rfl rfl Tryd.isAgg3) rfl), nQ rfl (by exact qW (u7 rfl Tryd.runUnderlying3 Tryd.runUnderlying25) rfl), nQ rfl (by exact qW (xv rfl Tryd.runUnderlying84 rfl Tryd.sizeOf3 rfl) rfl), nQ rfl (by exact qW (x5 6 rfl PJ rfl rfl Tryd.isAgg3) rfl), trivial⟩) fun D l a w ho hcl hav hpre hm hE hk hA hst => ?_
           have hS := (Ss.mk hE hst).env2 (e' := [(181, qL MS 0), (184, .int .u32 (wr .u32 (rd MW Nm).more_)), (186, .int .i64 ((rd MW Nm).bits_))]) ⟨rfl, rfl, rfl, trivial⟩
           refine qQ rfl <| qJ hS rfl Tryd.call30 (zj hG K (qp.mk (qR.mk (qr.mk S8) So) (qv.mk M5 MU) (qv.mk M6 MV)) (wr .u32 (rd MW Nm).more_) ((rd MW Nm).bits_) MS Tp Wx WH To Ni Nk M0 Nw Nz M3 Nj Nl M4 Nx NA M7 W6 W5 NL NY NM NZ (hS.st.part 6 [0, 1, 2, 3, 4, 5, 6, 7, 8, 9, 10] (by kernel_rfl)) (qt hM) (fun gf S9 Wy WI Sp Tq Tr w hM W7 W8 hst => qz hS.ev hst.appF rfl fun hS => ?_))
           replace hS : Ss _ _ _ H [Tr, Tq, M0, M3, M4, M7, Tn, NO, NK, NN, No] F _ _ := hS
           refine qA ?_
           replace hst := hS.st
           obtain ⟨hcl, hmust, hav2, hA⟩ := dn (vals' := [some (qL MS 0), some (qL MS 0), some (qL MS 0), some (qL P0 1), some (.int .i64 ((rd MW Nm).more_)), some (.int .u32 (wr .u32 (rd MW Nm).more_)), some (qL P0 2), some (.int .i64 ((rd MW Nm).bits_)), some (.int .i64 gf)]) 8 [(2, 8), (5, 8), (7, 8), (1, 2), (4, 5), (6, 7), (0, 1), (3, 4)] hA hcl hav hm hpre hk rfl rfl rfl rfl rfl rfl rfl
           clear hm hav
           refine ym hA hst ho hcl hmust [] rfl rfl rfl trivial fun a w hS => ?_
           replace hS := hS.env2 (e' := [(0, .slice Nf MT.length Ng), (8, qL MS 0), (18, qL N4 0), (168, .slice Ny MW.length NB), (169, .int .i64 (MW.length : Int)), (170, .int .i64 Nm)]) ⟨rfl, rfl, rfl, rfl, rfl, rfl, trivial⟩
           refine zy (qe ?_)
           refine zP <| sB hS rfl fun hS => sM hS rfl fun hS => zn <| qe ?_
           exact TQ _ _ ⟨S9, Wy, WI, Sp, Tq, Tr, (qh (Nm + (1 : Int))), hS.to [0, 1, 2, 3, 4, 5, 7, 8, 9, 10] (by kernel_rfl) ⟨rfl, rfl, rfl, rfl, rfl, rfl, trivial⟩, W7, W8, hM⟩
          ·refine wp_exit ?_
           refine qE (qE (zd (qe ?_)))
           exact TR _ _ ⟨NU, Px, PB, Nv, PG, PH, hS.to [0, 1, 2, 3, 4, 5] (by kernel_rfl) ⟨rfl, rfl, trivial⟩, SI, Sz, hM⟩
        ·intro a w hI
         obtain ⟨N3, PZ, P7, NE, Sf, Sg, hS, Wc, TI, hM⟩ := hI
         rw [qg.j12] at hM
         refine qm <| sM hS rfl fun hS => sM hS rfl fun hS => qJ hS rfl Tryd.call31 (jD hG K (qp.mk (qR.mk (qr.mk N3) NE) (qv.mk M5 MU) (qv.mk M6 MV)) MT MS Sg PZ P7 Sf Ni Nk M0 Nw Nz M3 Nj Nl M4 Nx NA M7 Nf Ng TI Wc NL NY NM NZ (Pq.app _) SJ (hS.st.part 6 [0, 1, 2, 3, 4, 5] (by kernel_rfl)) (qt hM) (fun Ta Wz WJ Sq Sv Sw w hM W9 ga hst => qz hS.ev hst.appF rfl fun hS => ?_))
         replace hS : Ss _ _ _ H [Sw, Sv, M0, M3, M4, M7] F _ _ := hS
         refine qA <| qm <| sM hS rfl fun hS => sO hS (yy rfl) rfl fun hS => sO hS (xv rfl Tryd.runUnderlying70 rfl Tryd.sizeOf65 rfl) rfl fun hS => qJ hS rfl Tryd.call32 (yw hG K (qp.mk (qR.mk (qr.mk Ta) Sq) (qv.mk M5 MU) (qv.mk M6 MV)) MS Sw Wz WJ Sv Ni Nk M0 Nw Nz M3 Nj Nl M4 Nx NA M7 ga W9 NL NY NM NZ (hS.st.part 6 [0, 1, 2, 3, 4, 5] (by kernel_rfl)) (qt hM) (fun gg w hM  hst => qz hS.ev hst.appF rfl fun hS => ?_))
         replace hS : Ss _ _ _ H [Sw, Sv, M0, M3, M4, M7] F _ _ := hS
         refine sA hS rfl fun hS => sA hS rfl fun hS => qA <| wp_ret ?_
         exact zD (rs := [2, 3]) hS rfl rfl (hret gg (0 : Int) _ (q8 hM) (hS.st.pick [] (by kernel_rfl)))
theorem Zh {H : xT} {F : List qk} {w : World} {R : Ending → World → Prop} {kr : (List UInt8) → Prop} {kp : Value → Prop} (hG : Gl H) (K : Nat) (MU : List UInt8)
    (hS : St w H [] F) (hm : (z2.m K MU).wp kr kp)
    (hret : ∀ (M4 : List UInt8) (w : World), kr M4 → St w H [] F → R (.returned (xi M4)) w)
    (hpan : ∀ v w, kp v → St w H [] F → R (.panicked [⟨v, false, false⟩]) w) :
    Calls Tryd.prog 8 ⟨[xi MU]⟩ w R := by
 refine enter Tryd.func8 rfl Tryd.ntmps8 rfl hS fun a w hS => ?_
 have hM := hm; clear hm
 rw [z2.m] at hM
 refine qm <| sA hS rfl fun hS => qA <| qm <| sM hS rfl fun hS => qJ hS rfl Tryd.call14 (JL hG K MU (hS.st.part 0 [] (by kernel_rfl)) (qt hM) (fun MW MX MV MS w hM MT hst => qz hS.ev hst.appF rfl fun hS => ?_))
 replace hS : Ss _ _ _ H [MS] F _ _ := hS
 refine sA hS rfl fun hS => qA <| qm <| sM hS rfl fun hS => qJ hS rfl Tryd.call15 (ZG hG K MU (hS.st.part 0 [0] (by kernel_rfl)) (qt hM) (fun MZ w hM  hst => qz hS.ev hst.appF rfl fun hS => ?_))
 replace hS : Ss _ _ _ H [MS] F _ _ := hS
 refine sA hS rfl fun hS => qA <| zm (fun a w => ∃ (MR : List UInt8), Ss 44 [] [(3, .slice MW MV.length MX), (4, xi MR)] H [MS] F a w ∧ (z2.j1 K MV MR).wp kr kp) (fun M9 MY => ?_) ?_
 ·refine wp_seq ?_
  refine zP <| sM hS rfl fun hS => qJ hS rfl Tryd.call16 (Xi hG K MV MW MX (MT.rdF (i := 0) rfl) (MT.cap (fun _ => rfl) rfl) (hS.st.part 0 [0] (by kernel_rfl)) (qt hM) (fun M0 M7 w hM  hst => qz hS.ev hst.appF rfl fun hS => ?_))
  replace hS : Ss _ _ _ H [MS] F _ _ := hS
  refine sM hS rfl fun hS => sO hS (ex rfl rfl) rfl fun hS => sO hS (ex rfl rfl) rfl fun hS => sA hS rfl fun hS => sA hS rfl fun hS => qA <| qm <| sM hS rfl fun hS => sB hS rfl fun hS => sM hS rfl fun hS => yJ 5 true 20 (b := (M7 == (0 : Int))) (r := (decide ((M0.length : Int) < (MZ.length : Int)))) hS rfl rfl rfl rfl rfl rfl rfl (fun hb a w hS K hK => ?_) rfl fun a w hS => ?_
  ·refine zW hS rfl rfl rfl hb (mv rfl) rfl fun a w hS => ?_
   refine zW hS rfl rfl rfl hb (ul rfl Tryd.runUnderlying9) rfl fun a w hS => zW hS rfl rfl rfl hb (mv rfl) rfl fun a w hS => zW hS rfl rfl rfl hb (ul rfl Tryd.runUnderlying9) rfl fun a w hS => zW hS rfl rfl rfl hb (js rfl rfl rfl) rfl fun a w hS => ?_
   exact zn (hK _ _ (hS.up 5 rfl rfl))
  refine qA <| qF hS rfl hM (fun M5 hM => ?_) (fun M5 hM => ?_)
  ·refine zP ?_
   refine sM hS rfl fun hS => sA hS rfl fun hS => zn <| qe ?_
   exact MY _ _ ⟨M0, hS.to [0] (by kernel_rfl) ⟨rfl, rfl, trivial⟩, hM⟩
  ·refine wp_skip ?_
   refine qe ?_
   exact MY _ _ ⟨MZ, hS.to [0] (by kernel_rfl) ⟨rfl, rfl, trivial⟩, hM⟩
 ·intro a w hI
  obtain ⟨MR, hS, hM⟩ := hI
  rw [z2.j1] at hM
  refine wp_seq <| qm <| sM hS rfl fun hS => qJ hS rfl Tryd.call17 (Zi hG K MV MW MX (MT.rdF (i := 0) rfl) (MT.cap (fun _ => rfl) rfl) (hS.st.part 0 [0] (by kernel_rfl)) (qt hM) (fun M3 M8 w hM  hst => qz hS.ev hst.appF rfl fun hS => ?_) (fun v w hk hst => xo (qD (qD (⟨hS.ev.defs, hpan _ _ hk hst.appF.frame⟩)))))
  replace hS : Ss _ _ _ H [MS] F _ _ := hS
  refine sM hS rfl fun hS => sO hS (ex rfl rfl) rfl fun hS => sO hS (ex rfl rfl) rfl fun hS => sA hS rfl fun hS => sA hS rfl fun hS => qA <| qm <| sM hS rfl fun hS => sB hS rfl fun hS => sM hS rfl fun hS => yJ 5 true 35 (b := (M8 == (0 : Int))) (r := (decide ((M3.length : Int) < (MR.length : Int)))) hS rfl rfl rfl rfl rfl rfl rfl (fun hb a w hS K hK => ?_) rfl fun a w hS => ?_
  ·refine zW hS rfl rfl rfl hb (mv rfl) rfl fun a w hS => ?_
   refine zW hS rfl rfl rfl hb (ul rfl Tryd.runUnderlying9) rfl fun a w hS => zW hS rfl rfl rfl hb (mv rfl) rfl fun a w hS => zW hS rfl rfl rfl hb (ul rfl Tryd.runUnderlying9) rfl fun a w hS => zW hS rfl rfl rfl hb (js rfl rfl rfl) rfl fun a w hS => ?_
   exact zn (hK _ _ (hS.up 5 rfl rfl))
  refine qA <| qF hS rfl hM (fun M6 hM => ?_) (fun M6 hM => ?_)
  ·refine zP ?_
   refine sM hS rfl fun hS => sA hS rfl fun hS => qA <| qm <| sM hS rfl fun hS => sA hS rfl fun hS => qA <| wp_ret ?_
   exact zD (rs := [2]) hS rfl rfl (hret M3 _ (q8 hM) (hS.st.pick [] (by kernel_rfl)))
  ·refine wp_skip ?_
   refine qe <| qm <| sM hS rfl fun hS => sA hS rfl fun hS => qA <| wp_ret ?_
   exact zD (rs := [2]) hS rfl rfl (hret MR _ (q8 hM) (hS.st.pick [] (by kernel_rfl)))
theorem UL {H : xT} {F : List qk} {w : World} {R : Ending → World → Prop} {kr : (List UInt8) → Prop} {kp : Value → Prop} (hG : Gl H) (K : Nat) (MR : List UInt8)
    (hS : St w H [] F) (hm : (QE.m K MR).wp kr kp)
    (hret : ∀ (MS : List UInt8) (w : World), kr MS → St w H [] F → R (.returned (xi MS)) w)
    (hpan : ∀ v w, kp v → St w H [] F → R (.panicked [⟨v, false, false⟩]) w) :
    Calls Tryd.prog 7 ⟨[xi MR]⟩ w R := by
 refine enter Tryd.func7 rfl Tryd.ntmps7 rfl hS fun a w hS => ?_
 have hM := hm; clear hm
 rw [QE.m] at hM
 refine qm <| sA hS rfl fun hS => qA <| qm <| sM hS rfl fun hS => qJ hS rfl Tryd.call13 (ZA hG K MR (hS.st.part 0 [] (by kernel_rfl)) (qt hM) (fun MW w hM  hst => qz hS.ev hst.appF rfl fun hS => ?_))
 replace hS : Ss _ _ _ H [] F _ _ := hS
 refine sO hS (u7 rfl Tryd.runUnderlying25 Tryd.runUnderlying36) rfl fun hS => qJ hS rfl Tryd.call12 (Z4 hG K (wr .u64 MW) (4 : Int) (hS.st.part 0 [] (by kernel_rfl)) (qt hM) (fun MX MZ w hM  hst => qz hS.ev hst.appF rfl fun hS => ?_))
 replace hS : Ss _ _ _ H [] F _ _ := hS
 refine sM hS rfl fun hS => sO hS (ex rfl rfl) rfl fun hS => sO hS (ex rfl rfl) rfl fun hS => sA hS rfl fun hS => sA hS rfl fun hS => qA <| qm <| sM hS rfl fun hS => qJ hS rfl Tryd.call8 (Zh hG K MR (hS.st.part 0 [] (by kernel_rfl)) (qt hM) (fun MY w hM  hst => qz hS.ev hst.appF rfl fun hS => ?_) (fun v w hk hst => xo (qD (⟨hS.ev.defs, hpan _ _ hk hst.appF.frame⟩))))
 replace hS : Ss _ _ _ H [] F _ _ := hS
 obtain ⟨MT, hM⟩ := qK hM
 refine sO hS (L7 rfl rfl MT) rfl fun hS => sM hS rfl fun hS => ?_
 obtain ⟨MU, hM⟩ := qK hM
 refine sO hS (L7 rfl rfl MU) rfl fun hS => zG (v := xi) (x0 := ((([120, 156] : List UInt8) ++ MY) ++ MX)) hS (xD rfl) rfl fun MV a w hz hS => ?_
 have hM := qB hz hM; clear hz
 refine qA <| wp_ret ?_
 exact zD (rs := [2]) hS rfl rfl (hret MV _ (q8 hM) (hS.st.pick [] (by kernel_rfl)))
theorem uA {H : xT} {F : List qk} {w : World} {R : Ending → World → Prop} {kr : Bool → Prop} {kp : Value → Prop} (hG : Gl H) (K : Nat) (s1 : List UInt8) (more2 : List UInt8)
    (hS : St w H [] F) (hm : (xd.m K s1 more2).wp kr kp)
    (hret : ∀ (MY : Bool) (w : World), kr MY → St w H [] F → R (.returned (.bool MY)) w)
    (hpan : ∀ v w, kp v → St w H [] F → R (.panicked [⟨v, false, false⟩]) w) :
    Calls Tryd.prog 4 ⟨[xi s1, xi more2]⟩ w R := by
 refine enter Tryd.func4 rfl Tryd.ntmps4 rfl hS fun a w hS => ?_
 have hM := hm; clear hm
 rw [xd.m] at hM
 refine qm <| sA hS rfl fun hS => qA <| wp_seq <| qm <| sM hS rfl fun hS => sO hS (ul rfl Tryd.runUnderlying9) rfl fun hS => sB hS rfl fun hS => sM hS rfl fun hS => yJ 3 false 12 (b := (decide ((s1.length : Int) > (20000 : Int)))) (r := (decide ((more2.length : Int) > (20000 : Int)))) hS rfl rfl rfl rfl rfl rfl rfl (fun hb a w hS K hK => ?_) rfl fun a w hS => ?_
 ·refine zW hS rfl rfl rfl hb (mv rfl) rfl fun a w hS => ?_
  refine zW hS rfl rfl rfl hb (ul rfl Tryd.runUnderlying9) rfl fun a w hS => zW hS rfl rfl rfl hb (js rfl rfl rfl) rfl fun a w hS => ?_
  exact zn (hK _ _ (hS.up 3 rfl rfl))
 refine qA <| qF hS rfl hM (fun hb3 hM => ?_) (fun hb3 hM => ?_)
 ·refine wp_seq ?_
  refine zP <| qJ hS rfl Tryd.call6 (vx hG K  (hS.st.part 0 [] (by kernel_rfl)) (qt hM) (fun M0 w hM  hst => qz hS.ev hst.appF rfl fun hS => ?_))
  replace hS : Ss _ _ _ H [] F _ _ := hS
  refine sA hS rfl fun hS => qA <| wp_ret <| zl ?_
  exact zD (rs := [4]) hS rfl rfl (hret M0 _ (q8 hM) (hS.st.pick [] (by kernel_rfl)))
 ·refine wp_skip ?_
  refine qe <| qm <| sM hS rfl fun hS => qJ hS rfl Tryd.call7 (UL hG K s1 (hS.st.part 0 [] (by kernel_rfl)) (qt hM) (fun MT w hM  hst => qz hS.ev hst.appF rfl fun hS => ?_) (fun v w hk hst => xo (qD (⟨hS.ev.defs, hpan _ _ hk hst.appF.frame⟩))))
  replace hS : Ss _ _ _ H [] F _ _ := hS
  refine sA hS rfl fun hS => qA <| qm <| sM hS rfl fun hS => sM hS rfl fun hS => ?_
  obtain ⟨MZ, hM⟩ := qK hM
  refine sO hS (L7 rfl rfl MZ) rfl fun hS => sM hS rfl fun hS => sO hS (ul rfl Tryd.runUnderlying9) rfl fun hS => qJ hS rfl Tryd.call11 (vB hG K (MT ++ more2) (s1.length : Int) (hS.st.part 0 [] (by kernel_rfl)) (qt hM) (fun MV MW MX w hM  hst => qz hS.ev hst.appF rfl fun hS => ?_))
  replace hS : Ss _ _ _ H [] F _ _ := hS
  refine sM hS rfl fun hS => sO hS (ex rfl rfl) rfl fun hS => sO hS (ex rfl rfl) rfl fun hS => sO hS (ex rfl rfl) rfl fun hS => sA hS rfl fun hS => sA hS rfl fun hS => sA hS rfl fun hS => qA <| qm <| sM hS rfl fun hS => sM hS rfl fun hS => sO hS (Lt rfl rfl rfl) rfl fun hS => sM hS rfl fun hS => yJ 4 true 33 (b := (MV == s1)) (r := (MW == (MT.length : Int))) hS rfl rfl rfl rfl rfl rfl rfl (fun hb a w hS K hK => ?_) rfl fun a w hS => ?_
  ·refine zW hS rfl rfl rfl hb (mv rfl) rfl fun a w hS => ?_
   refine zW hS rfl rfl rfl hb (mv rfl) rfl fun a w hS => zW hS rfl rfl rfl hb (ul rfl Tryd.runUnderlying9) rfl fun a w hS => zW hS rfl rfl rfl hb (js rfl rfl rfl) rfl fun a w hS => ?_
   exact zn (hK _ _ (hS.up 4 rfl rfl))
  refine sM hS rfl fun hS => yJ 2 true 39 (b := ((MV == s1) && (MW == (MT.length : Int)))) (r := (MX == (0 : Int))) hS rfl rfl rfl rfl rfl rfl rfl (fun hb a w hS K hK => ?_) rfl fun a w hS => ?_
  ·refine zW hS rfl rfl rfl hb (mv rfl) rfl fun a w hS => ?_
   refine zW hS rfl rfl rfl hb (js rfl rfl rfl) rfl fun a w hS => ?_
   exact zn (hK _ _ (hS.up 2 rfl rfl))
  refine sM hS rfl fun hS => VY (fun a w => ∃ (MS : Bool), Ss 46 [] [(45, .bool MS)] H [] F a w ∧ (xd.j1 K MS).wp kr kp) 2 (fun M4 MU => ?_) ?_
  ·refine Li (b := (((MV == s1) && (MW == (MT.length : Int))) && (MX == (0 : Int)))) hM (fun MR hM => ?_) (fun MR hM => ?_)
   ·replace hS := hS.re 42 (v := .bool true) rfl (congrArg Value.bool MR)
    replace hS := hS.re 43 (v := .bool true) rfl (congrArg Value.bool MR)
    refine J0 hS rfl rfl rfl rfl <| qJ hS rfl Tryd.call6 (vx hG K  (hS.st.part 0 [] (by kernel_rfl)) (qt hM) (fun M3 w hM  hst => qz hS.ev hst.appF rfl fun hS => ?_))
    replace hS : Ss _ _ _ H [] F _ _ := hS
    refine sO hS (pk rfl rfl rfl) rfl fun hS => zn <| qe ?_
    exact MU _ _ ⟨M3, hS.to [] (by kernel_rfl) ⟨rfl, trivial⟩, hM⟩
   ·replace hS := hS.re 42 (v := .bool false) rfl (congrArg Value.bool MR)
    replace hS := hS.re 43 (v := .bool false) rfl (congrArg Value.bool MR)
    refine GE 1 hS rfl fun a w hS => sO hS (pk rfl rfl rfl) rfl fun hS => zn <| qe ?_
    exact MU _ _ ⟨false, hS.to [] (by kernel_rfl) ⟨rfl, trivial⟩, hM⟩
  ·intro a w hI
   obtain ⟨MS, hS, hM⟩ := hI
   rw [xd.j1] at hM
   refine sA hS rfl fun hS => qA <| wp_ret ?_
   exact zD (rs := [4]) hS rfl rfl (hret MS _ (q8 hM) (hS.st.pick [] (by kernel_rfl)))
end Go.TrydS

