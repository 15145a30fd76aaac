/- Printed by a program of mine: each Go function answers what its model answers; conditions: what each theorem asks of memory. -/
import Derived.Test.YtojcnkhcdcegkaaDoorP3xjdafo
set_option linter.unusedVariables false
set_option linter.unusedSimpArgs false
set_option maxRecDepth 100000
namespace Go.TrydS
open Go Go.Sl Go.Mo Go.Proofs
attribute [local irreducible] qN.wp
theorem Zm {H : xT} {F : List qk} {w : World} {R : Ending → World → Prop} {kr : ((List UInt8) × Int) → Prop} {kp : Value → Prop} (hG : Gl H) (K : Nat) (M5 : List qM) (Np : Option Addr) (Nq : Nat) (PB : jU H [] F qM.cells Np M5) (SW : M5.length ≤ Nq)
    (hS : St w H [] F) (hm : (qh.m K M5).wp kr kp)
    (hret : ∀ (TM : List UInt8) (TN : Int) (w : World), kr (TM, TN) → St w H [] F → R (.returned (.tuple ⟨[xf TM, .int .i64 TN]⟩)) w)
    (hpan : ∀ v w, kp v → St w H [] F → R (.panicked [⟨v, false, false⟩]) w) :
    Calls Tryd.prog 17 ⟨[.slice Np M5.length Nq]⟩ w R := by
 refine enter Tryd.func17 rfl Tryd.ntmps17 rfl hS fun a w hS => ?_
 have hM := hm; clear hm
 rw [qh.m] at hM
 refine qm <| sA hS rfl fun hS => sA hS rfl fun hS => qA <| wp_seq <| qm <| sM hS rfl fun hS => qI hS rfl Tryd.call28 (Ql hG K M5 Np Nq (PB.app _) SW (hS.st.part 0 [] (by kernel_rfl)) (qt hM) (fun hJ w hM  hst => qB hS.ev hst.appF rfl fun hS => ?_))
 replace hS : Ss _ _ _ H [] F _ _ := hS
 refine sO hS (un rfl rfl) rfl fun hS => qA <| qF hS rfl hM (fun Wp hM => ?_) (fun Wp hM => ?_)
 ·refine wp_seq ?_
  refine zM <| sA hS rfl fun hS => sA hS rfl fun hS => qA <| wp_ret <| zk ?_
  exact zE (rs := [2, 3]) hS rfl rfl (hret ([] : List UInt8) (1 : Int) _ (q8 hM) (hS.st.pick [] (by kernel_rfl)))
 ·refine wp_skip ?_
  refine qe <| zl (fun a w => ∃ (Nn : Option Addr) (No : Nat) (Nj : (List Int)) (SG : qk) (NA : Option Addr) (NB : Nat) (Nx : (List Int)) (Sk : qk), Ss 196 [] [(0, .slice Np M5.length Nq), (4, .slice Nn Nj.length No), (5, .slice NA Nx.length NB)] H [SG, Sk] F a w ∧ (xj 3 (ci .i64) 1 Nn Nj No SG) ∧ (xj 3 (ci .i64) 1 NA Nx NB Sk) ∧ (qh.j1 K M5 Nj Nx).wp kr kp) (fun gC SN => ?_) ?_
  ·refine q9 (vals := [none, none, none, none]) hS xF rfl ?_
   intro l w ho hcl hA hst
   obtain ⟨SX, hM⟩ := qK hM
   obtain ⟨NM, PV⟩ := um (List.replicate (Int.toNat (286 : Int)) (0 : Int))
   replace hM := qz PV hM
   obtain ⟨SY, hM⟩ := qK hM
   obtain ⟨NT, PW⟩ := um (List.replicate (Int.toNat (30 : Int)) (0 : Int))
   replace hM := qz PW hM
   refine Lg (vals := [none, none, none, none]) 0 1 [] [] rfl rfl rfl rfl rfl trivial (fun D l a w ho hcl hav hpre hm hE hk hA hst => ?_) (fun D l a w ho hcl hav hpre hm hE hk hA hst => ?_) ho hcl xu xG List.not_mem_nil List.not_mem_nil hA hst
   ·have hS := (Ss.mk hE hst).env2 (e' := []) trivial
    refine qR rfl <| DD (g := (ci .i64)) (m := (286 : Int)) (0 : Int) hS rfl rfl (by simp) Tryd.runUnderlying66 X.el3 (fun w => ⟨_, Tryd.zeroValue3 w, rfl⟩) (fun _ => rfl) rfl rfl SX rfl fun gx w Pj Pk WW hz T6 hS => ?_
    rw [← PV] at hz; replace hz := hz.symm; subst hz
    refine qA ?_
    replace hst := hS.st
    obtain ⟨hcl, hmust, hav2, hA⟩ := dn (vals' := [some (.slice Pj NM.length Pk), none, some (.slice Pj NM.length Pk), none]) 0 [] hA hcl hav hm hpre hk rfl rfl rfl rfl rfl rfl rfl
    clear hm hav
    refine jf hA hst ho hcl hav2 hmust 1 [2] rfl rfl rfl rfl rfl (by exact ⟨nA rfl, trivial⟩) fun D l a w ho hcl hav hpre hm hE hk hA hst => ?_
    have hS := (Ss.mk hE hst).env2 (e' := []) trivial
    refine qR rfl <| DD (g := (ci .i64)) (m := (30 : Int)) (0 : Int) hS rfl rfl (by simp) Tryd.runUnderlying66 X.el3 (fun w => ⟨_, Tryd.zeroValue3 w, rfl⟩) (fun _ => rfl) rfl rfl SY rfl fun gy w P5 Sd WX hz T7 hS => ?_
    rw [← PW] at hz; replace hz := hz.symm; subst hz
    refine qA ?_
    replace hst := hS.st
    obtain ⟨hcl, hmust, hav2, hA⟩ := dn (vals' := [some (.slice Pj NM.length Pk), some (.slice P5 NT.length Sd), some (.slice Pj NM.length Pk), some (.slice P5 NT.length Sd)]) 1 [] hA hcl hav hm hpre hk rfl rfl rfl rfl rfl rfl rfl
    clear hm hav
    refine yk hA hst ho hcl hmust [2, 3] rfl rfl rfl (by exact ⟨nA rfl, nA rfl, trivial⟩) fun a w hS => ?_
    replace hS := hS.env2 (e' := [(0, .slice Np M5.length Nq), (4, .slice Pj NM.length Pk), (5, .slice P5 NT.length Sd)]) ⟨rfl, rfl, rfl, trivial⟩
    refine qe ?_
    exact SN _ _ ⟨Pj, Pk, NM, WW, P5, Sd, NT, WX, hS.to [1, 0] (by kernel_rfl) ⟨rfl, rfl, rfl, trivial⟩, T6, T7, hM⟩
   ·have hS := (Ss.mk hE hst).env2 (e' := []) trivial
    refine qR rfl <| DD (g := (ci .i64)) (m := (30 : Int)) (0 : Int) hS rfl rfl (by simp) Tryd.runUnderlying66 X.el3 (fun w => ⟨_, Tryd.zeroValue3 w, rfl⟩) (fun _ => rfl) rfl rfl SY rfl fun gz w PE PI WY hz T8 hS => ?_
    rw [← PW] at hz; replace hz := hz.symm; subst hz
    refine qA ?_
    replace hst := hS.st
    obtain ⟨hcl, hmust, hav2, hA⟩ := dn (vals' := [none, some (.slice PE NT.length PI), none, none]) 1 [] hA hcl hav hm hpre hk rfl rfl rfl rfl rfl rfl rfl
    clear hm hav
    refine jf hA hst ho hcl hav2 hmust 0 [] rfl rfl rfl rfl rfl trivial fun D l a w ho hcl hav hpre hm hE hk hA hst => ?_
    have hS := (Ss.mk hE hst).env2 (e' := []) trivial
    refine qR rfl <| DD (g := (ci .i64)) (m := (286 : Int)) (0 : Int) hS rfl rfl (by simp) Tryd.runUnderlying66 X.el3 (fun w => ⟨_, Tryd.zeroValue3 w, rfl⟩) (fun _ => rfl) rfl rfl SX rfl fun gA w P6 Se WZ hz T9 hS => ?_
    rw [← PV] at hz; replace hz := hz.symm; subst hz
    refine qA ?_
    replace hst := hS.st
    obtain ⟨hcl, hmust, hav2, hA⟩ := dn (vals' := [some (.slice P6 NM.length Se), some (.slice PE NT.length PI), some (.slice P6 NM.length Se), some (.slice PE NT.length PI)]) 0 [] hA hcl hav hm hpre hk rfl rfl rfl rfl rfl rfl rfl
    clear hm hav
    refine yk hA hst ho hcl hmust [2, 3] rfl rfl rfl (by exact ⟨nA rfl, nA rfl, trivial⟩) fun a w hS => ?_
    replace hS := hS.env2 (e' := [(0, .slice Np M5.length Nq), (4, .slice P6 NM.length Se), (5, .slice PE NT.length PI)]) ⟨rfl, rfl, rfl, trivial⟩
    refine qe ?_
    exact SN _ _ ⟨P6, Se, NM, WZ, PE, PI, NT, WY, hS.to [0, 1] (by kernel_rfl) ⟨rfl, rfl, rfl, trivial⟩, T9, T8, hM⟩
  ·intro a w hI
   obtain ⟨Nn, No, Nj, SG, NA, NB, Nx, Sk, hS, Pt, Wa, hM⟩ := hI
   rw [qh.j1] at hM
   refine qm <| sM hS rfl fun hS => ?_
   obtain ⟨Pv, hM⟩ := qK hM
   refine sO hS (yu rfl rfl Tryd.runUnderlying66 Tryd.sizeOf3 (Pt.rd (i := 0) rfl) (fun _ => rfl) rfl Pv) rfl fun hS => sO hS (yG rfl (Pt.rd (i := 0) rfl) (fun _ => rfl) Pv rfl Tryd.isAgg3) rfl fun hS => sB hS rfl fun hS => sO hS (yu rfl rfl Tryd.runUnderlying66 Tryd.sizeOf3 (Pt.rd (i := 0) rfl) (fun _ => rfl) rfl Pv) rfl fun hS => J1 (i := (256 : Int)) (sz := 1) 0 0 ((qg ((rd Nj (256 : Int)) + (1 : Int)))) hS rfl rfl Pt rfl Tryd.sizeOf3 (xJ (qg ((rd Nj (256 : Int)) + (1 : Int)))) (fun _ => rfl) Pv rfl rfl fun PY w W0 hz S7 Wb hS => ?_
   have hM := qz hz hM; clear hz
   replace hS := hS.re 4 (u := .slice Nn Nj.length No) (v := .slice Nn PY.length No) rfl (by rw [S7])
   replace hS := hS.re 28 (u := .slice Nn Nj.length No) (v := .slice Nn PY.length No) rfl (by rw [S7])
   refine qA <| zl (fun a w => ∃ (Nm : (List Int)) (Sm : qk) (Nk : (List Int)) (Pm : qk), Ss 196 [] [(0, .slice Np M5.length Nq), (4, .slice Nn Nm.length No), (5, .slice NA Nk.length NB)] H [Sm, Pm] F a w ∧ (xj 3 (ci .i64) 1 Nn Nm No Sm) ∧ (xj 3 (ci .i64) 1 NA Nk NB Pm) ∧ (qh.j3 K M5 Nm Nk).wp kr kp) (fun gE TV => ?_) ?_
   ·refine wp_seq ?_
    refine zM <| sM hS rfl fun hS => sO hS (yc rfl Tryd.runUnderlying37) rfl fun hS => sM hS rfl fun hS => qA <| xQ <| zv (fun TH a w => ∃ (M9 : (List Int)) (PN : qk) (Nb : (List Int)) (Pg : qk) (NC : Int), Ss 196 [] [(0, .slice Np M5.length Nq), (4, .slice Nn M9.length No), (5, .slice NA Nb.length NB), (33, .slice Np M5.length Nq), (34, .int .i64 (M5.length : Int)), (35, .int .i64 NC)] H [PN, Pg] F a w ∧ (xj 3 (ci .i64) 1 Nn M9 No PN) ∧ (xj 3 (ci .i64) 1 NA Nb NB Pg) ∧ (qh.l2 K M5 TH M9 Nb NC).wp kr kp) K ?_ ?_ ?_
    ·exact ⟨PY, W0, Nx, Sk, (0 : Int), hS.to [0, 1] (by kernel_rfl) ⟨rfl, rfl, rfl, rfl, rfl, rfl, trivial⟩, Wb, Wa, hM⟩
    ·intro a w hI; obtain ⟨_, _, _, _, _, _, _, _, hM⟩ := hI; exact zu hM
    ·intro TH a w hI gD SO
     obtain ⟨M9, PN, Nb, Pg, NC, hS, NR, Pb, hM⟩ := hI
     rw [qh.l2] at hM
     refine qm <| sB hS rfl fun hS => qA <| wp_seq <| qF hS rfl hM (fun Wq hM => ?_) (fun Wq hM => ?_)
     ·refine wp_skip ?_
      refine qe <| wp_seq <| xQ <| wp_seq <| zM ?_
      obtain ⟨SZ, hM⟩ := qK hM
      refine sO hS (yu rfl rfl Tryd.runUnderlying37 Tryd.sizeOf57 PB.wk (fun _ => rfl) rfl SZ) rfl fun hS => sO hS (uc rfl PB.wk (fun _ => rfl) SZ Tryd.isAgg57 Tryd.sizeOf57 rfl) rfl fun hS => QI ([.int .u8 (0 : Int), .int .i64 (0 : Int), .int .i64 (0 : Int)]) hS Tryd.zeroValue57 rfl rfl fun w gO gQ TO hS => QX 0 ([.int .u8 ((rd M5 NC).Lit_), .int .i64 ((rd M5 NC).Len_), .int .i64 ((rd M5 NC).Dist_)]) ([.int .u8 ((rd M5 NC).Lit_), .int .i64 ((rd M5 NC).Len_), .int .i64 ((rd M5 NC).Dist_)]) hS rfl rfl TO rfl rfl Tryd.sizeOf57 (by simp [Value.oneCell']) (Nat.le_of_ble_eq_true rfl) rfl fun w Tn Ps hS => qA <| qm <| sO hS (xw rfl Tryd.runUnderlying57 rfl Tryd.sizeOf3 rfl) rfl fun hS => sO hS (x5 0 rfl Ps rfl rfl Tryd.isAgg3) rfl fun hS => sB hS rfl fun hS => qA <| qF hS rfl hM (fun Wr hM => ?_) (fun Wr hM => ?_)
      ·refine zM ?_
       refine sM hS rfl fun hS => sO hS (xw rfl Tryd.runUnderlying57 rfl Tryd.sizeOf5 rfl) rfl fun hS => sO hS (x5 0 rfl Ps rfl rfl Tryd.isAgg5) rfl fun hS => ?_
       obtain ⟨Pw, hM⟩ := qK hM
       refine sO hS (yu rfl rfl Tryd.runUnderlying66 Tryd.sizeOf3 (NR.rd (i := 1) rfl) (fun _ => rfl) rfl Pw) rfl fun hS => sO hS (yG rfl (NR.rd (i := 1) rfl) (fun _ => rfl) Pw rfl Tryd.isAgg3) rfl fun hS => sB hS rfl fun hS => sO hS (yu rfl rfl Tryd.runUnderlying66 Tryd.sizeOf3 (NR.rd (i := 1) rfl) (fun _ => rfl) rfl Pw) rfl fun hS => J1 (i := (rd M5 NC).Lit_) (sz := 1) 1 0 ((qg ((rd M9 (rd M5 NC).Lit_) + (1 : Int)))) hS rfl rfl NR rfl Tryd.sizeOf3 (xJ (qg ((rd M9 (rd M5 NC).Lit_) + (1 : Int)))) (fun _ => rfl) Pw rfl rfl fun PZ w W1 hz S8 Wc hS => ?_
       have hM := qz hz hM; clear hz
       replace hS := hS.re 4 (u := .slice Nn M9.length No) (v := .slice Nn PZ.length No) rfl (by rw [S8])
       replace hS := hS.re 42 (u := .slice Nn M9.length No) (v := .slice Nn PZ.length No) rfl (by rw [S8])
       refine zo <| zx (qe ?_)
       refine zM <| sB hS rfl fun hS => sM hS rfl fun hS => zo <| qe ?_
       exact SO _ _ ⟨PZ, W1, Nb, Pg, (qg (NC + (1 : Int))), hS.to [1, 2] (by kernel_rfl) ⟨rfl, rfl, rfl, rfl, rfl, rfl, trivial⟩, Wc, Pb, hM⟩
      ·refine wp_seq ?_
       refine zM <| sM hS rfl fun hS => sO hS (xw rfl Tryd.runUnderlying57 rfl Tryd.sizeOf3 rfl) rfl fun hS => sO hS (x5 0 rfl Ps rfl rfl Tryd.isAgg3) rfl fun hS => qI hS rfl Tryd.call33 (uB hG K ((rd M5 NC).Len_) (hS.st.part 0 [0, 1, 2] (by kernel_rfl)) (qt hM) (fun N0 WM gp w hM  hst => qB hS.ev hst.appF rfl fun hS => ?_))
       replace hS : Ss _ _ _ H [Tn, PN, Pg] F _ _ := hS
       refine sO hS (LJ rfl Tryd.runUnderlying77 rfl Tryd.isAgg3 rfl) rfl fun hS => ?_
       obtain ⟨Px, hM⟩ := qK hM
       refine sO hS (yu rfl rfl Tryd.runUnderlying66 Tryd.sizeOf3 (NR.rd (i := 1) rfl) (fun _ => rfl) rfl Px) rfl fun hS => sO hS (yG rfl (NR.rd (i := 1) rfl) (fun _ => rfl) Px rfl Tryd.isAgg3) rfl fun hS => sB hS rfl fun hS => sO hS (yu rfl rfl Tryd.runUnderlying66 Tryd.sizeOf3 (NR.rd (i := 1) rfl) (fun _ => rfl) rfl Px) rfl fun hS => J1 (i := N0) (sz := 1) 1 0 ((qg ((rd M9 N0) + (1 : Int)))) hS rfl rfl NR rfl Tryd.sizeOf3 (xJ (qg ((rd M9 N0) + (1 : Int)))) (fun _ => rfl) Px rfl rfl fun P0 w To hz S9 Wd hS => ?_
       have hM := qz hz hM; clear hz
       replace hS := hS.re 4 (u := .slice Nn M9.length No) (v := .slice Nn P0.length No) rfl (by rw [S9])
       replace hS := hS.re 49 (u := .slice Nn M9.length No) (v := .slice Nn P0.length No) rfl (by rw [S9])
       refine qA <| zM <| sM hS rfl fun hS => sO hS (xw rfl Tryd.runUnderlying57 rfl Tryd.sizeOf3 rfl) rfl fun hS => sO hS (x5 0 rfl Ps rfl rfl Tryd.isAgg3) rfl fun hS => qI hS rfl Tryd.call34 (vN hG K ((rd M5 NC).Dist_) (hS.st.part 0 [0, 1, 2] (by kernel_rfl)) (qt hM) (fun N1 WN gq w hM  hst => qB hS.ev hst.appF rfl fun hS => ?_))
       replace hS : Ss _ _ _ H [Tn, To, Pg] F _ _ := hS
       refine sO hS (LJ rfl Tryd.runUnderlying77 rfl Tryd.isAgg3 rfl) rfl fun hS => ?_
       obtain ⟨Py, hM⟩ := qK hM
       refine sO hS (yu rfl rfl Tryd.runUnderlying66 Tryd.sizeOf3 (Pb.rd (i := 2) rfl) (fun _ => rfl) rfl Py) rfl fun hS => sO hS (yG rfl (Pb.rd (i := 2) rfl) (fun _ => rfl) Py rfl Tryd.isAgg3) rfl fun hS => sB hS rfl fun hS => sO hS (yu rfl rfl Tryd.runUnderlying66 Tryd.sizeOf3 (Pb.rd (i := 2) rfl) (fun _ => rfl) rfl Py) rfl fun hS => J1 (i := N1) (sz := 1) 2 0 ((qg ((rd Nb N1) + (1 : Int)))) hS rfl rfl Pb rfl Tryd.sizeOf3 (xJ (qg ((rd Nb N1) + (1 : Int)))) (fun _ => rfl) Py rfl rfl fun P3 w W2 hz Ta We hS => ?_
       have hM := qz hz hM; clear hz
       replace hS := hS.re 5 (u := .slice NA Nb.length NB) (v := .slice NA P3.length NB) rfl (by rw [Ta])
       replace hS := hS.re 58 (u := .slice NA Nb.length NB) (v := .slice NA P3.length NB) rfl (by rw [Ta])
       refine zo <| zx (qe ?_)
       refine zM <| sB hS rfl fun hS => sM hS rfl fun hS => zo <| qe ?_
       exact SO _ _ ⟨P0, To, P3, W2, (qg (NC + (1 : Int))), hS.to [1, 2] (by kernel_rfl) ⟨rfl, rfl, rfl, rfl, rfl, rfl, trivial⟩, Wd, We, hM⟩
     ·refine wp_exit ?_
      refine qE (qE (zd (qe ?_)))
      exact TV _ _ ⟨M9, PN, Nb, Pg, hS.to [0, 1] (by kernel_rfl) ⟨rfl, rfl, rfl, trivial⟩, NR, Pb, hM⟩
   ·intro a w hI
    obtain ⟨Nm, Sm, Nk, Pm, hS, Wf, Wg, hM⟩ := hI
    rw [qh.j3] at hM
    refine qm <| sM hS rfl fun hS => qI hS rfl Tryd.call36 (vO hG K Nm Nn No Sm Wf (hS.st.part 1 [0, 1] (by kernel_rfl)) (qt hM) (fun Ns Nu Ng Nc Pp PO w hM NV gY TE hst => qB hS.ev hst.appF rfl fun hS => ?_) (fun v w hk hst => xo (qD (⟨hS.ev.defs, hpan _ _ hk hst.appF.frame⟩))))
    replace hS : Ss _ _ _ H [Nc, PO, Pm] F _ _ := hS
    replace hS := hS.re 4 (u := .slice Nn Nm.length No) (v := .slice Nn Pp.length No) rfl (by rw [TE])
    replace hS := hS.re 68 (u := .slice Nn Nm.length No) (v := .slice Nn Pp.length No) rfl (by rw [TE])
    refine qI hS rfl Tryd.call35 (y7 hG K Ng Ns Nu (NV.rdF (i := 0) rfl) (NV.cap (fun _ => rfl) rfl) (hS.st.part 0 [0, 1, 2] (by kernel_rfl)) (qt hM) (fun NG NJ M6 Nd w hM N8 hst => qB hS.ev hst.appF rfl fun hS => ?_))
    replace hS : Ss _ _ _ H [Nd, Nc, PO, Pm] F _ _ := hS
    refine sM hS rfl fun hS => qI hS rfl Tryd.call36 (vO hG K Nk NA NB Pm Wg (hS.st.part 1 [3, 0, 1, 2] (by kernel_rfl)) (qt hM) (fun Nt Nv Nh Nf Pq SH w hM NW gZ TF hst => qB hS.ev hst.appF rfl fun hS => ?_) (fun v w hk hst => xo (qD (⟨hS.ev.defs, hpan _ _ hk hst.appF.frame⟩))))
    replace hS : Ss _ _ _ H [Nf, SH, Nd, Nc, PO] F _ _ := hS
    replace hS := hS.re 5 (u := .slice NA Nk.length NB) (v := .slice NA Pq.length NB) rfl (by rw [TF])
    replace hS := hS.re 71 (u := .slice NA Nk.length NB) (v := .slice NA Pq.length NB) rfl (by rw [TF])
    refine qI hS rfl Tryd.call35 (y7 hG K Nh Nt Nv (NW.rdF (i := 0) rfl) (NW.cap (fun _ => rfl) rfl) (hS.st.part 0 [0, 1, 2, 3, 4] (by kernel_rfl)) (qt hM) (fun NH NK M7 Ni w hM N9 hst => qB hS.ev hst.appF rfl fun hS => ?_))
    replace hS : Ss _ _ _ H [Ni, Nf, SH, Nd, Nc, PO] F _ _ := hS
    refine sO hS (Xw ([.int .i64 (0 : Int), .slice none 0 0, .slice Ns Ng.length Nu, .slice NG M6.length NJ, .slice Nt Nh.length Nv, .slice NH M7.length NK]) [(0, 2), (2, 2), (4, 2)] Tryd.zeroValue70 Tryd.runUnderlying70 (by intro w; simp [Tryd.sizeOf65, Tryd.sizeOf68]) rfl rfl) rfl fun hS => bx ([.int .i64 (0 : Int), .slice none 0 0, .slice Ns Ng.length Nu, .slice NG M6.length NJ, .slice Nt Nh.length Nv, .slice NH M7.length NK]) hS rfl rfl rfl fun w M4 N5 Pa hS => ?_
    obtain ⟨N6, Wh, hS⟩ := hS.nilV 5 (ci .u8) 1
    refine sA hS rfl fun hS => qA <| wp_seq <| q9 (vals := [none, some (qL M4 0), some (qL M4 0), some (qL M4 2), some (qL M4 2), some (.slice Ns Ng.length Nu), none, some (qL M4 0), some (qL M4 0), some (qL M4 4), some (qL M4 4), some (.slice Nt Nh.length Nv), none, none, none]) hS xF rfl ?_
    intro l w ho hcl hA hst
    refine jf hA hst ho hcl xu xG 0 [1, 2, 3, 4, 5, 7, 8, 9, 10, 11] rfl rfl rfl rfl rfl (by exact ⟨nM rfl, nQ rfl (by exact qX (yz rfl) rfl), nQ rfl (by exact qX (xw rfl Tryd.runUnderlying70 rfl Tryd.sizeOf68 rfl) rfl), nQ rfl (by exact qX (xw rfl Tryd.runUnderlying68 rfl Tryd.sizeOf66 rfl) rfl), nQ rfl (by exact qX (x5 1 rfl Pa rfl rfl Tryd.isAgg66) rfl), nM rfl, nQ rfl (by exact qX (yz rfl) rfl), nQ rfl (by exact qX (xw rfl Tryd.runUnderlying70 rfl Tryd.sizeOf68 rfl) rfl), nQ rfl (by exact qX (xw rfl Tryd.runUnderlying68 rfl Tryd.sizeOf66 rfl) rfl), nQ rfl (by exact qX (x5 1 rfl Pa rfl rfl Tryd.isAgg66) rfl), trivial⟩) fun D l a w ho hcl hav hpre hm hE hk hA hst => ?_
    have hS := (Ss.mk hE hst).env2 (e' := []) trivial
    refine qR rfl <| Jv (g := (ci .i64)) ([] : List Int) [] hS Tryd.runUnderlying66 Tryd.sizeOf3 X.el3 rfl rfl rfl (by simp [Value.cells]) rfl rfl rfl rfl rfl fun w PF PJ gR Wi hS => qA ?_
    replace hst := hS.st
    obtain ⟨hcl, hmust, hav2, hA⟩ := dn (vals' := [some (.slice PF ([] : List Int).length PJ), some (qL M4 0), some (qL M4 0), some (qL M4 2), some (qL M4 2), some (.slice Ns Ng.length Nu), none, some (qL M4 0), some (qL M4 0), some (qL M4 4), some (qL M4 4), some (.slice Nt Nh.length Nv), none, none, none]) 0 [] hA hcl hav hm hpre hk rfl rfl rfl rfl rfl rfl rfl
    clear hm hav
    refine jf hA hst ho hcl hav2 hmust 6 [1, 2, 3, 4, 5, 7, 8, 9, 10, 11] rfl rfl rfl rfl rfl (by exact ⟨nM rfl, nQ rfl (by exact qX (yz rfl) rfl), nQ rfl (by exact qX (xw rfl Tryd.runUnderlying70 rfl Tryd.sizeOf68 rfl) rfl), nQ rfl (by exact qX (xw rfl Tryd.runUnderlying68 rfl Tryd.sizeOf66 rfl) rfl), nQ rfl (by exact qX (x5 2 rfl Pa rfl rfl Tryd.isAgg66) rfl), nM rfl, nQ rfl (by exact qX (yz rfl) rfl), nQ rfl (by exact qX (xw rfl Tryd.runUnderlying70 rfl Tryd.sizeOf68 rfl) rfl), nQ rfl (by exact qX (xw rfl Tryd.runUnderlying68 rfl Tryd.sizeOf66 rfl) rfl), nQ rfl (by exact qX (x5 2 rfl Pa rfl rfl Tryd.isAgg66) rfl), trivial⟩) fun D l a w ho hcl hav hpre hm hE hk hA hst => ?_
    have hS := (Ss.mk hE hst).env2 (e' := [(76, .slice PF ([] : List Int).length PJ), (81, .slice Ns Ng.length Nu)]) ⟨rfl, rfl, trivial⟩
    refine qR rfl ?_
    obtain ⟨Wx, hM⟩ := qK hM
    refine J5 (ys := Ng) 0 hS rfl rfl Wi rfl (NV.rd (i := 7) rfl) Tryd.runUnderlying66 Tryd.runUnderlying66 X.el3 (fun _ => rfl) rfl xJ Wx rfl fun PC w P7 Sf gS hz Wj hS => ?_
    have hM := qz hz hM; clear hz
    refine qA ?_
    replace hst := hS.st
    obtain ⟨hcl, hmust, hav2, hA⟩ := dn (vals' := [some (.slice PF ([] : List Int).length PJ), some (qL M4 0), some (qL M4 0), some (qL M4 2), some (qL M4 2), some (.slice Ns Ng.length Nu), some (.slice P7 PC.length Sf), some (qL M4 0), some (qL M4 0), some (qL M4 4), some (qL M4 4), some (.slice Nt Nh.length Nv), none, none, none]) 6 [(0, 6), (5, 6), (4, 5), (3, 4), (2, 3), (1, 2)] hA hcl hav hm hpre hk rfl rfl rfl rfl rfl rfl rfl
    clear hm hav
    refine jf hA hst ho hcl hav2 hmust 12 [7, 8, 9, 10, 11] rfl rfl rfl rfl rfl (by exact ⟨nM rfl, nQ rfl (by exact qX (yz rfl) rfl), nQ rfl (by exact qX (xw rfl Tryd.runUnderlying70 rfl Tryd.sizeOf68 rfl) rfl), nQ rfl (by exact qX (xw rfl Tryd.runUnderlying68 rfl Tryd.sizeOf66 rfl) rfl), nQ rfl (by exact qX (x5 2 rfl Pa rfl rfl Tryd.isAgg66) rfl), trivial⟩) fun D l a w ho hcl hav hpre hm hE hk hA hst => ?_
    have hS := (Ss.mk hE hst).env2 (e' := [(82, .slice P7 PC.length Sf), (87, .slice Nt Nh.length Nv)]) ⟨rfl, rfl, trivial⟩
    refine qR rfl ?_
    obtain ⟨Wy, hM⟩ := qK hM
    refine J5 (ys := Nh) 0 hS rfl rfl Wj rfl (NW.rd (i := 4) rfl) Tryd.runUnderlying66 Tryd.runUnderlying66 X.el3 (fun _ => rfl) rfl xJ Wy rfl fun PD w P8 Sg W3 hz SQ hS => ?_
    have hM := qz hz hM; clear hz
    refine qA ?_
    replace hst := hS.st
    obtain ⟨hcl, hmust, hav2, hA⟩ := dn (vals' := [some (.slice PF ([] : List Int).length PJ), some (qL M4 0), some (qL M4 0), some (qL M4 2), some (qL M4 2), some (.slice Ns Ng.length Nu), some (.slice P7 PC.length Sf), some (qL M4 0), some (qL M4 0), some (qL M4 4), some (qL M4 4), some (.slice Nt Nh.length Nv), some (.slice P8 PD.length Sg), none, none]) 12 [(6, 12), (11, 12), (0, 6), (5, 6), (10, 11), (4, 5), (9, 10), (3, 4), (8, 9), (2, 3), (7, 8), (1, 2)] hA hcl hav hm hpre hk rfl rfl rfl rfl rfl rfl rfl
    clear hm hav
    refine jf hA hst ho hcl hav2 hmust 13 [] rfl rfl rfl rfl rfl trivial fun D l a w ho hcl hav hpre hm hE hk hA hst => ?_
    have hS := (Ss.mk hE hst).env2 (e' := [(88, .slice P8 PD.length Sg)]) ⟨rfl, trivial⟩
    refine qR rfl <| qI hS rfl Tryd.call37 (ZM hG K PD P8 Sg (SQ.rdF (i := 0) rfl) (SQ.cap (fun _ => rfl) rfl) (hS.st.part 0 [0, 1, 2, 3, 4, 5, 6, 7, 8] (by kernel_rfl)) (qt hM) (fun NI NL M8 Ny w hM Sw hst => qB hS.ev hst.appF rfl fun hS => ?_))
    replace hS : Ss _ _ _ H [Ny, W3, N6, N5, Ni, Nf, SH, Nd, Nc, PO] F _ _ := hS
    refine qA ?_
    replace hst := hS.st
    obtain ⟨hcl, hmust, hav2, hA⟩ := dn (vals' := [some (.slice PF ([] : List Int).length PJ), some (qL M4 0), some (qL M4 0), some (qL M4 2), some (qL M4 2), some (.slice Ns Ng.length Nu), some (.slice P7 PC.length Sf), some (qL M4 0), some (qL M4 0), some (qL M4 4), some (qL M4 4), some (.slice Nt Nh.length Nv), some (.slice P8 PD.length Sg), some (.slice NI M8.length NL), some (.slice NI M8.length NL)]) 13 [(12, 13), (6, 12), (11, 12), (0, 6), (5, 6), (10, 11), (4, 5), (9, 10), (3, 4), (8, 9), (2, 3), (7, 8), (1, 2)] hA hcl hav hm hpre hk rfl rfl rfl rfl rfl rfl rfl
    clear hm hav
    refine yk hA hst ho hcl hmust [14] rfl rfl rfl (by exact ⟨nA rfl, trivial⟩) fun a w hS => ?_
    replace hS := hS.env2 (e' := [(0, .slice Np M5.length Nq), (8, qL M4 0), (9, .slice NI M8.length NL)]) ⟨rfl, rfl, rfl, trivial⟩
    refine qe <| wp_seq <| zM ?_
    obtain ⟨Wz, hM⟩ := qK hM
    refine DD (g := (ci .i64)) (m := (19 : Int)) (0 : Int) hS rfl rfl (by simp) Tryd.runUnderlying66 X.el3 (fun w => ⟨_, Tryd.zeroValue3 w, rfl⟩) (fun _ => rfl) rfl rfl Wz rfl fun WD w Na Nl W4 hz Wk hS => ?_
    have hM := qz hz hM; clear hz
    refine sA hS rfl fun hS => qA <| zl (fun a w => ∃ (M3 : (List Int)) (Pn : qk), Ss 196 [] [(0, .slice Np M5.length Nq), (8, qL M4 0), (9, .slice NI M8.length NL), (10, .slice Na M3.length Nl)] H [N5, N6, Nc, Nd, Nf, Ni, Ny, Pn] F a w ∧ (xj 3 (ci .i64) 1 Na M3 Nl Pn) ∧ (qh.j5 K M5 Ng M6 Nh M7 M8 M3).wp kr kp) (fun gG TX => ?_) ?_
    ·refine wp_seq ?_
     refine zM <| sM hS rfl fun hS => sO hS (yc rfl Tryd.runUnderlying81) rfl fun hS => sM hS rfl fun hS => qA <| xQ <| zv (fun TI a w => ∃ (Nr : (List Int)) (Sn : qk) (NQ : Int), Ss 196 [] [(0, .slice Np M5.length Nq), (8, qL M4 0), (9, .slice NI M8.length NL), (10, .slice Na Nr.length Nl), (91, .slice NI M8.length NL), (92, .int .i64 (M8.length : Int)), (93, .int .i64 NQ)] H [N5, N6, Nc, Nd, Nf, Ni, Ny, Sn] F a w ∧ (xj 3 (ci .i64) 1 Na Nr Nl Sn) ∧ (qh.l4 K M5 Ng M6 Nh M7 M8 TI Nr NQ).wp kr kp) K ?_ ?_ ?_
     ·exact ⟨WD, W4, (0 : Int), hS.to [4, 3, 9, 8, 6, 5, 1, 0] (by kernel_rfl) ⟨rfl, rfl, rfl, rfl, rfl, rfl, rfl, trivial⟩, Wk, hM⟩
     ·intro a w hI; obtain ⟨_, _, _, _, _, hM⟩ := hI; exact zu hM
     ·intro TI a w hI gF TW
      obtain ⟨Nr, Sn, NQ, hS, Ph, hM⟩ := hI
      rw [qh.l4] at hM
      refine qm <| sB hS rfl fun hS => qA <| wp_seq <| qF hS rfl hM (fun Ws hM => ?_) (fun Ws hM => ?_)
      ·refine wp_skip ?_
       refine qe <| wp_seq <| xQ <| wp_seq <| zM ?_
       obtain ⟨S1, hM⟩ := qK hM
       refine sO hS (yu rfl rfl Tryd.runUnderlying81 Tryd.sizeOf84 (Sw.rd (i := 6) rfl) (fun _ => rfl) rfl S1) rfl fun hS => sO hS (uc rfl (Sw.rd (i := 6) rfl) (fun _ => rfl) S1 Tryd.isAgg84 Tryd.sizeOf84 rfl) rfl fun hS => QI ([.int .i64 (0 : Int), .int .i64 (0 : Int), .int .i64 (0 : Int)]) hS Tryd.zeroValue84 rfl rfl fun w gP gT TP hS => QX 0 ([.int .i64 ((rd M8 NQ).symbol_), .int .i64 ((rd M8 NQ).more_), .int .i64 ((rd M8 NQ).bits_)]) ([.int .i64 ((rd M8 NQ).symbol_), .int .i64 ((rd M8 NQ).more_), .int .i64 ((rd M8 NQ).bits_)]) hS rfl rfl TP rfl rfl Tryd.sizeOf84 (by simp [Value.oneCell']) (Nat.le_of_ble_eq_true rfl) rfl fun w gU TQ hS => qA <| zM <| sM hS rfl fun hS => sO hS (xw rfl Tryd.runUnderlying84 rfl Tryd.sizeOf3 rfl) rfl fun hS => sO hS (x5 0 rfl TQ rfl rfl Tryd.isAgg3) rfl fun hS => ?_
       obtain ⟨Pz, hM⟩ := qK hM
       refine sO hS (yu rfl rfl Tryd.runUnderlying66 Tryd.sizeOf3 (Ph.rd (i := 8) rfl) (fun _ => rfl) rfl Pz) rfl fun hS => sO hS (yG rfl (Ph.rd (i := 8) rfl) (fun _ => rfl) Pz rfl Tryd.isAgg3) rfl fun hS => sB hS rfl fun hS => sO hS (yu rfl rfl Tryd.runUnderlying66 Tryd.sizeOf3 (Ph.rd (i := 8) rfl) (fun _ => rfl) rfl Pz) rfl fun hS => J1 (i := (rd M8 NQ).symbol_) (sz := 1) 8 0 ((qg ((rd Nr (rd M8 NQ).symbol_) + (1 : Int)))) hS rfl rfl Ph rfl Tryd.sizeOf3 (xJ (qg ((rd Nr (rd M8 NQ).symbol_) + (1 : Int)))) (fun _ => rfl) Pz rfl rfl fun P4 w W5 hz Tb Wl hS => ?_
       have hM := qz hz hM; clear hz
       replace hS := hS.re 10 (u := .slice Na Nr.length Nl) (v := .slice Na P4.length Nl) rfl (by rw [Tb])
       replace hS := hS.re 97 (u := .slice Na Nr.length Nl) (v := .slice Na P4.length Nl) rfl (by rw [Tb])
       refine zo <| zx (qe ?_)
       refine zM <| sB hS rfl fun hS => sM hS rfl fun hS => zo <| qe ?_
       exact TW _ _ ⟨P4, W5, (qg (NQ + (1 : Int))), hS.to [1, 2, 3, 4, 5, 6, 7, 8] (by kernel_rfl) ⟨rfl, rfl, rfl, rfl, rfl, rfl, rfl, trivial⟩, Wl, hM⟩
      ·refine wp_exit ?_
       refine qE (qE (zd (qe ?_)))
       exact TX _ _ ⟨Nr, Sn, hS.to [0, 1, 2, 3, 4, 5, 6, 7] (by kernel_rfl) ⟨rfl, rfl, rfl, rfl, trivial⟩, Ph, hM⟩
    ·intro a w hI
     obtain ⟨M3, Pn, hS, NS, hM⟩ := hI
     rw [qh.j5] at hM
     refine qm <| sA hS rfl fun hS => qA <| zl (fun a w => ∃ (PX : Int), Ss 196 [] [(0, .slice Np M5.length Nq), (8, qL M4 0), (9, .slice NI M8.length NL), (10, .slice Na M3.length Nl), (13, .int .i64 PX)] H [N5, N6, Nc, Nd, Nf, Ni, Ny, Pn] F a w ∧ (qh.j7 K M5 Ng M6 Nh M7 M8 M3 PX).wp kr kp) (fun gI TZ => ?_) ?_
     ·refine wp_seq ?_
      refine zM <| sM hS rfl fun hS => sO hS (yc rfl Tryd.runUnderlying66) rfl fun hS => sM hS rfl fun hS => qA <| xQ <| zv (fun TJ a w => ∃ (Pi : Int) (PT : Int), Ss 196 [] [(0, .slice Np M5.length Nq), (8, qL M4 0), (9, .slice NI M8.length NL), (10, .slice Na M3.length Nl), (13, .int .i64 Pi), (105, .slice Na M3.length Nl), (106, .int .i64 (M3.length : Int)), (107, .int .i64 PT)] H [N5, N6, Nc, Nd, Nf, Ni, Ny, Pn] F a w ∧ (qh.l6 K M5 Ng M6 Nh M7 M8 M3 TJ Pi PT).wp kr kp) K ?_ ?_ ?_
      ·exact ⟨(0 : Int), (0 : Int), hS.to [0, 1, 2, 3, 4, 5, 6, 7] (by kernel_rfl) ⟨rfl, rfl, rfl, rfl, rfl, rfl, rfl, rfl, trivial⟩, hM⟩
      ·intro a w hI; obtain ⟨_, _, _, hM⟩ := hI; exact zu hM
      ·intro TJ a w hI gH TY
       obtain ⟨Pi, PT, hS, hM⟩ := hI
       rw [qh.l6] at hM
       refine qm <| sB hS rfl fun hS => qA <| wp_seq <| qF hS rfl hM (fun Wt hM => ?_) (fun Wt hM => ?_)
       ·refine wp_skip ?_
        refine qe <| wp_seq <| xQ <| wp_seq <| zM ?_
        obtain ⟨S2, hM⟩ := qK hM
        refine sO hS (yu rfl rfl Tryd.runUnderlying66 Tryd.sizeOf3 (NS.rd (i := 7) rfl) (fun _ => rfl) rfl S2) rfl fun hS => sO hS (yG rfl (NS.rd (i := 7) rfl) (fun _ => rfl) S2 rfl Tryd.isAgg3) rfl fun hS => zF (v := Value.int .i64) (x0 := (rd M3 PT)) hS (xA rfl) rfl fun Td a w hz hS => ?_
        have hM := qz hz hM; clear hz
        refine qA <| zM <| sM hS rfl fun hS => sM hS rfl fun hS => sO hS (Us rfl rfl) rfl fun hS => sB hS rfl fun hS => zF (v := Value.int .i64) (x0 := (qg (Pi + (if (1 : Int) < Td then (1 : Int) else Td)))) hS (xA rfl) rfl fun WC a w hz hS => ?_
        have hM := qz hz hM; clear hz
        refine zo <| zx (qe ?_)
        refine zM <| sB hS rfl fun hS => sM hS rfl fun hS => zo <| qe ?_
        exact TY _ _ ⟨WC, (qg (PT + (1 : Int))), hS.to [0, 1, 2, 3, 4, 5, 6, 7] (by kernel_rfl) ⟨rfl, rfl, rfl, rfl, rfl, rfl, rfl, rfl, trivial⟩, hM⟩
       ·refine wp_exit ?_
        refine qE (qE (zd (qe ?_)))
        exact TZ _ _ ⟨Pi, hS.to [0, 1, 2, 3, 4, 5, 6, 7] (by kernel_rfl) ⟨rfl, rfl, rfl, rfl, rfl, trivial⟩, hM⟩
     ·intro a w hI
      obtain ⟨PX, hS, hM⟩ := hI
      rw [qh.j7] at hM
      refine zl (fun a w => ∃ (NP : (List Int)) (N7 : qk), Ss 196 [] [(0, .slice Np M5.length Nq), (8, qL M4 0), (9, .slice NI M8.length NL), (10, .slice Na NP.length Nl)] H [N5, N6, Nc, Nd, Nf, Ni, Ny, N7] F a w ∧ (xj 3 (ci .i64) 1 Na NP Nl N7) ∧ (qh.j8 K M5 Ng M6 Nh M7 M8 NP).wp kr kp) (fun gJ SP => ?_) ?_
      ·refine wp_seq ?_
       refine zM <| sM hS rfl fun hS => sB hS rfl fun hS => qA <| qF hS rfl hM (fun Wu hM => ?_) (fun Wu hM => ?_)
       ·obtain ⟨PA, hM⟩ := qK hM
        obtain ⟨S3, hM⟩ := qK hM
        refine q9 (vals := [some (.slice Na M3.length Nl), some (.slice Na M3.length Nl), some (.slice Na M3.length Nl), some (xE Na (Int.toNat (0 : Int) * 1)), some (.int .i64 (rd M3 (0 : Int))), some (.int .i64 (if (1 : Int) > (rd M3 (0 : Int)) then (1 : Int) else (rd M3 (0 : Int)))), some (.slice Na M3.length Nl), some (xE Na (Int.toNat (1 : Int) * 1)), some (.int .i64 (rd M3 (1 : Int))), some (.int .i64 (if (1 : Int) > (rd M3 (1 : Int)) then (1 : Int) else (rd M3 (1 : Int)))), some (xE Na (Int.toNat (0 : Int) * 1)), none, none, none]) hS xF rfl ?_
        intro l w ho hcl hA hst
        refine jf hA hst ho hcl xu xG 11 [0, 1, 2, 3, 4, 5, 6, 7, 8, 9, 10] rfl rfl rfl rfl rfl (by exact ⟨nM rfl, nM rfl, nM rfl, nQ rfl (by exact qX (yu rfl rfl Tryd.runUnderlying66 Tryd.sizeOf3 (NS.rd (i := 7) rfl) (fun _ => rfl) rfl PA) rfl), nQ rfl (by exact qX (yG rfl (NS.rd (i := 7) rfl) (fun _ => rfl) PA rfl Tryd.isAgg3) rfl), nQ rfl (by exact qX (D1 rfl rfl) rfl), nM rfl, nQ rfl (by exact qX (yu rfl rfl Tryd.runUnderlying66 Tryd.sizeOf3 (NS.rd (i := 7) rfl) (fun _ => rfl) rfl S3) rfl), nQ rfl (by exact qX (yG rfl (NS.rd (i := 7) rfl) (fun _ => rfl) S3 rfl Tryd.isAgg3) rfl), nQ rfl (by exact qX (D1 rfl rfl) rfl), nQ rfl (by exact qX (yu rfl rfl Tryd.runUnderlying66 Tryd.sizeOf3 (NS.rd (i := 7) rfl) (fun _ => rfl) rfl PA) rfl), trivial⟩) fun D l a w ho hcl hav hpre hm hE hk hA hst => ?_
        have hS := (Ss.mk hE hst).env2 (e' := [(123, .int .i64 (if (1 : Int) > (rd M3 (0 : Int)) then (1 : Int) else (rd M3 (0 : Int)))), (128, xE Na (Int.toNat (0 : Int) * 1))]) ⟨rfl, rfl, trivial⟩
        refine qR rfl <| J1 (i := (0 : Int)) (sz := 1) 7 0 ((if (1 : Int) > (rd M3 (0 : Int)) then (1 : Int) else (rd M3 (0 : Int)))) hS rfl rfl NS rfl Tryd.sizeOf3 (xJ (if (1 : Int) > (rd M3 (0 : Int)) then (1 : Int) else (rd M3 (0 : Int)))) (fun _ => rfl) PA rfl rfl fun gB w gV hz Tc SR hS => ?_
        have hM := qz hz hM; clear hz
        refine qA ?_
        replace hst := hS.st
        obtain ⟨S4, hM⟩ := qK hM
        obtain ⟨hcl, hmust, hav2, hA⟩ := Xy (vals' := [some (.slice Na M3.length Nl), some (.slice Na M3.length Nl), some (.slice Na M3.length Nl), some (xE Na (Int.toNat (0 : Int) * 1)), some (.int .i64 (rd M3 (0 : Int))), some (.int .i64 (if (1 : Int) > (rd M3 (0 : Int)) then (1 : Int) else (rd M3 (0 : Int)))), some (.slice Na M3.length Nl), some (xE Na (Int.toNat (1 : Int) * 1)), some (.int .i64 (rd M3 (1 : Int))), some (.int .i64 (if (1 : Int) > (rd M3 (1 : Int)) then (1 : Int) else (rd M3 (1 : Int)))), some (xE Na (Int.toNat (0 : Int) * 1)), some undef, some (xE Na (Int.toNat (1 : Int) * 1)), none]) 11 [(0, 11), (2, 11), (3, 11), (4, 11), (5, 11), (8, 11), (10, 11), (7, 8), (6, 7)] hA hcl hav hm hpre rfl rfl rfl rfl rfl
        clear hm hav
        refine jf hA hst ho hcl hav2 hmust 13 [1, 9, 12] rfl rfl rfl rfl rfl (by exact ⟨nM rfl, nQ rfl (by exact qX (D1 rfl rfl) rfl), nQ rfl (by exact qX (yu (BO Tc rfl) rfl Tryd.runUnderlying66 Tryd.sizeOf3 (SR.rd (i := 7) rfl) (fun _ => rfl) rfl S4) rfl), trivial⟩) fun D l a w ho hcl hav hpre hm hE hk hA hst => ?_
        have hS := (Ss.mk hE hst).env2 (e' := [(127, .int .i64 (if (1 : Int) > (rd M3 (1 : Int)) then (1 : Int) else (rd M3 (1 : Int)))), (129, xE Na (Int.toNat (1 : Int) * 1))]) ⟨rfl, rfl, trivial⟩
        refine qR rfl <| J1 (i := (1 : Int)) (sz := 1) 7 0 ((if (1 : Int) > (rd M3 (1 : Int)) then (1 : Int) else (rd M3 (1 : Int)))) hS rfl rfl SR rfl Tryd.sizeOf3 (xJ (if (1 : Int) > (rd M3 (1 : Int)) then (1 : Int) else (rd M3 (1 : Int)))) (fun _ => rfl) S4 rfl rfl fun Te w W6 hz WB Wm hS => ?_
        have hM := qz hz hM; clear hz
        refine qA ?_
        replace hst := hS.st
        obtain ⟨hcl, hmust, hav2, hA⟩ := Xy (vals' := [some (.slice Na M3.length Nl), some (.slice Na M3.length Nl), some (.slice Na M3.length Nl), some (xE Na (Int.toNat (0 : Int) * 1)), some (.int .i64 (rd M3 (0 : Int))), some (.int .i64 (if (1 : Int) > (rd M3 (0 : Int)) then (1 : Int) else (rd M3 (0 : Int)))), some (.slice Na M3.length Nl), some (xE Na (Int.toNat (1 : Int) * 1)), some (.int .i64 (rd M3 (1 : Int))), some (.int .i64 (if (1 : Int) > (rd M3 (1 : Int)) then (1 : Int) else (rd M3 (1 : Int)))), some (xE Na (Int.toNat (0 : Int) * 1)), some undef, some (xE Na (Int.toNat (1 : Int) * 1)), some undef]) 13 [(0, 13), (1, 13), (2, 13), (3, 13), (4, 13), (5, 13), (6, 13), (7, 13), (8, 13), (9, 13), (10, 13), (11, 13), (12, 13)] hA hcl hav hm hpre rfl rfl rfl rfl rfl
        clear hm hav
        refine yk hA hst ho hcl hmust [] rfl rfl rfl trivial fun a w hS => ?_
        replace hS := hS.env2 (e' := [(0, .slice Np M5.length Nq), (8, qL M4 0), (9, .slice NI M8.length NL), (10, .slice Na Te.length Nl)]) ⟨rfl, rfl, rfl, (UD (u := .slice Na M3.length Nl) rfl (by rw [WB, Tc])), trivial⟩
        refine qe ?_
        exact SP _ _ ⟨Te, W6, hS.to [0, 1, 2, 3, 4, 5, 6, 7] (by kernel_rfl) ⟨rfl, rfl, rfl, rfl, trivial⟩, Wm, hM⟩
       ·refine wp_skip ?_
        refine qe ?_
        exact SP _ _ ⟨M3, Pn, hS.to [0, 1, 2, 3, 4, 5, 6, 7] (by kernel_rfl) ⟨rfl, rfl, rfl, rfl, trivial⟩, NS, hM⟩
      ·intro a w hI
       obtain ⟨NP, N7, hS, ST, hM⟩ := hI
       rw [qh.j8] at hM
       refine qm <| sM hS rfl fun hS => qI hS rfl Tryd.call38 (Qt hG K NP (7 : Int) Na Nl (ST.rdF (i := 7) rfl) (ST.cap (fun _ => rfl) rfl) (hS.st.part 0 [0, 1, 2, 3, 4, 5, 6, 7] (by kernel_rfl)) (qt hM) (fun N2 Pf ND NU hQ w hM Po hst => qB hS.ev hst.appF rfl fun hS => ?_) (fun v w hk hst => xo (qD (⟨hS.ev.defs, hpan _ _ hk hst.appF.frame⟩))))
       replace hS : Ss _ _ _ H [NU, N5, N6, Nc, Nd, Nf, Ni, Ny, N7] F _ _ := hS
       refine sM hS rfl fun hS => sO hS (ex rfl rfl) rfl fun hS => sO hS (ex rfl rfl) rfl fun hS => sA hS rfl fun hS => sA hS rfl fun hS => qA <| qm <| sM hS rfl fun hS => qI hS rfl Tryd.call35 (y7 hG K ND N2 Pf (Po.rdF (i := 0) rfl) (Po.cap (fun _ => rfl) rfl) (hS.st.part 0 [0, 1, 2, 3, 4, 5, 6, 7, 8] (by kernel_rfl)) (qt hM) (fun P9 Sh Nz NX w hM TG hst => qB hS.ev hst.appF rfl fun hS => ?_))
       replace hS : Ss _ _ _ H [NX, NU, N5, N6, Nc, Nd, Nf, Ni, Ny, N7] F _ _ := hS
       refine QI ([.slice none 0 0, .slice none 0 0]) hS Tryd.zeroValue68 rfl rfl fun w Pe gW TR hS => ?_
       obtain ⟨So, gv, hS⟩ := hS.nilV 3 (ci .i64) 1
       obtain ⟨Sp, gw, hS⟩ := hS.nilV 3 (ci .i64) 1
       refine QX 2 ([.slice N2 ND.length Pf, .slice P9 Nz.length Sh]) ([.slice N2 ND.length Pf, .slice P9 Nz.length Sh]) hS rfl rfl TR rfl rfl Tryd.sizeOf68 (by simp [Value.oneCell']) (Nat.le_of_ble_eq_true rfl) rfl fun w NY SK hS => qA <| qm <| sM hS rfl fun hS => sO hS (yz rfl) rfl fun hS => sO hS (xw rfl Tryd.runUnderlying70 rfl Tryd.sizeOf65 rfl) rfl fun hS => qI hS rfl Tryd.call30 (zm hG K (qp.mk (qS.mk (qr.mk (0 : Int)) ([] : List Int)) (qv.mk Ng M6) (qv.mk Nh M7)) (5 : Int) (3 : Int) M4 N5 none (0) N6 Ns Nu Nc NG NJ Nd Nt Nv Nf NH NK Ni Pa Wh NV N8 NW N9 (hS.st.part 6 [5, 6, 7, 8, 9, 10, 0, 1, 2, 3, 4, 11, 12] (by kernel_rfl)) (qt hM) (fun hU Tf WE WO Sx Tp Tq w hM W7 W8 hst => qB hS.ev hst.appF rfl fun hS => ?_))
       replace hS : Ss _ _ _ H [Tq, Tp, Nc, Nd, Nf, Ni, Sp, So, NY, NX, NU, Ny, N7] F _ _ := hS
       refine qA <| qm <| sM hS rfl fun hS => sO hS (yz rfl) rfl fun hS => sO hS (xw rfl Tryd.runUnderlying70 rfl Tryd.sizeOf65 rfl) rfl fun hS => qI hS rfl Tryd.call30 (zm hG K (qp.mk (qS.mk (qr.mk Tf) Sx) (qv.mk Ng M6) (qv.mk Nh M7)) (29 : Int) (5 : Int) M4 Tq WE WO Tp Ns Nu Nc NG NJ Nd Nt Nv Nf NH NK Ni W8 W7 NV N8 NW N9 (hS.st.part 6 [0, 1, 2, 3, 4, 5, 6, 7, 8, 9, 10, 11, 12] (by kernel_rfl)) (qt hM) (fun hZ Tg WF WP Sy Tr Ts w hM W9 ga hst => qB hS.ev hst.appF rfl fun hS => ?_))
       replace hS : Ss _ _ _ H [Ts, Tr, Nc, Nd, Nf, Ni, Sp, So, NY, NX, NU, Ny, N7] F _ _ := hS
       refine qA <| qm <| sM hS rfl fun hS => sO hS (yz rfl) rfl fun hS => sO hS (xw rfl Tryd.runUnderlying70 rfl Tryd.sizeOf65 rfl) rfl fun hS => qI hS rfl Tryd.call30 (zm hG K (qp.mk (qS.mk (qr.mk Tg) Sy) (qv.mk Ng M6) (qv.mk Nh M7)) (29 : Int) (5 : Int) M4 Ts WF WP Tr Ns Nu Nc NG NJ Nd Nt Nv Nf NH NK Ni ga W9 NV N8 NW N9 (hS.st.part 6 [0, 1, 2, 3, 4, 5, 6, 7, 8, 9, 10, 11, 12] (by kernel_rfl)) (qt hM) (fun ka Th WG WQ Sz Tt Tu w hM gb gc hst => qB hS.ev hst.appF rfl fun hS => ?_))
       replace hS : Ss _ _ _ H [Tu, Tt, Nc, Nd, Nf, Ni, Sp, So, NY, NX, NU, Ny, N7] F _ _ := hS
       refine qA <| qm <| sM hS rfl fun hS => sO hS (yz rfl) rfl fun hS => sO hS (xw rfl Tryd.runUnderlying70 rfl Tryd.sizeOf65 rfl) rfl fun hS => qI hS rfl Tryd.call30 (zm hG K (qp.mk (qS.mk (qr.mk Th) Sz) (qv.mk Ng M6) (qv.mk Nh M7)) (15 : Int) (4 : Int) M4 Tu WG WQ Tt Ns Nu Nc NG NJ Nd Nt Nv Nf NH NK Ni gc gb NV N8 NW N9 (hS.st.part 6 [0, 1, 2, 3, 4, 5, 6, 7, 8, 9, 10, 11, 12] (by kernel_rfl)) (qt hM) (fun kb Ti WH WR SA Tv Tw w hM ge gf hst => qB hS.ev hst.appF rfl fun hS => ?_))
       replace hS : Ss _ _ _ H [Tw, Tv, Nc, Nd, Nf, Ni, Sp, So, NY, NX, NU, Ny, N7] F _ _ := hS
       refine qA <| zl (fun a w => ∃ (Pc : Int) (Sa : Option Addr) (Si : Nat) (NN : (List Int)) (Sq : qk) (Sr : qk), Ss 196 [] [(0, .slice Np M5.length Nq), (8, qL M4 0), (9, .slice NI M8.length NL), (18, qL Pe 0)] H [Sr, Sq, Nc, Nd, Nf, Ni, Ny, NY, NU, NX] F a w ∧ (xj 5 (ci .u8) 1 Sa NN Si Sq) ∧ (xM Sr M4 ([.int .i64 Pc, .slice Sa NN.length Si, .slice Ns Ng.length Nu, .slice NG M6.length NJ, .slice Nt Nh.length Nv, .slice NH M7.length NK]) 70) ∧ (qh.j10 K M5 Ng M6 Nh M7 M8 ND Nz Pc NN).wp kr kp) (fun gL T3 => ?_) ?_
       ·refine wp_seq ?_
        refine zM <| sO hS (GJ rfl hG.g0 (by rfl) Tryd.isAgg87 Tryd.sizeOf87) rfl fun hS => sM hS rfl fun hS => qA <| xQ <| zv (fun TK a w => ∃ (N3 : Int) (PG : Option Addr) (PL : Nat) (NE : (List Int)) (PP : qk) (PQ : qk) (Pr : Int), Ss 196 [] [(0, .slice Np M5.length Nq), (8, qL M4 0), (9, .slice NI M8.length NL), (18, qL Pe 0), (153, .agg ⟨tab_deflate_order.flatMap (ci .i64)⟩), (154, .int .i64 Pr)] H [PQ, PP, Nc, Nd, Nf, Ni, Ny, NY, NU, NX] F a w ∧ (xj 5 (ci .u8) 1 PG NE PL PP) ∧ (xM PQ M4 ([.int .i64 N3, .slice PG NE.length PL, .slice Ns Ng.length Nu, .slice NG M6.length NJ, .slice Nt Nh.length Nv, .slice NH M7.length NK]) 70) ∧ (qh.l9 K M5 Ng M6 Nh M7 M8 ND Nz TK N3 NE Pr).wp kr kp) K ?_ ?_ ?_
        ·exact ⟨Ti, WH, WR, SA, Tv, Tw, (0 : Int), hS.to [0, 1, 2, 3, 4, 5, 11, 8, 10, 9] (by kernel_rfl) ⟨rfl, rfl, rfl, rfl, rfl, rfl, trivial⟩, ge, gf, hM⟩
        ·intro a w hI; obtain ⟨_, _, _, _, _, _, _, _, _, _, hM⟩ := hI; exact zu hM
        ·intro TK a w hI gK T0
         obtain ⟨N3, PG, PL, NE, PP, PQ, Pr, hS, SU, SL, hM⟩ := hI
         rw [qh.l9] at hM
         refine qm <| sB hS rfl fun hS => qA <| wp_seq <| qF hS rfl hM (fun Wv hM => ?_) (fun Wv hM => ?_)
         ·refine wp_skip ?_
          refine qe <| wp_seq <| xQ <| wp_seq <| zM ?_
          obtain ⟨WA, hM⟩ := qK hM
          refine sO hS (Mk rfl rfl Tryd.runUnderlying87 Tryd.isAgg3 Tryd.sizeOf3 (fun _ => rfl) Qi WA rfl) rfl fun hS => zF (v := Value.int .i64) (x0 := (rd tab_deflate_order Pr)) hS (xA rfl) rfl fun NZ a w hz hS => ?_
          have hM := qz hz hM; clear hz
          refine zo <| qe ?_
          obtain ⟨S5, hM⟩ := qK hM
          refine q9 (vals := [some (qL M4 0), some (qL M4 0), some (qL M4 0), some (qL Pe 0), some (.slice N2 ND.length Pf), some (.int .i64 NZ), some (xE N2 (Int.toNat NZ * 1)), some (.int .i64 (rd ND NZ)), some (.int .u32 (wr .u32 (rd ND NZ))), none]) hS xF rfl ?_
          intro l w ho hcl hA hst
          refine jf hA hst ho hcl xu xG 9 [0, 1, 2, 3, 4, 5, 6, 7, 8] rfl rfl rfl rfl rfl (by exact ⟨nM rfl, nQ rfl (by exact qX (yz rfl) rfl), nQ rfl (by exact qX (xw rfl Tryd.runUnderlying70 rfl Tryd.sizeOf65 rfl) rfl), nQ rfl (by exact qX (xw rfl Tryd.runUnderlying68 rfl Tryd.sizeOf66 rfl) rfl), nQ rfl (by exact qX (x5 7 rfl SK rfl rfl Tryd.isAgg66) rfl), nM rfl, nQ rfl (by exact qX (yu rfl rfl Tryd.runUnderlying66 Tryd.sizeOf3 (Po.rd (i := 8) rfl) (fun _ => rfl) rfl S5) rfl), nQ rfl (by exact qX (yG rfl (Po.rd (i := 8) rfl) (fun _ => rfl) S5 rfl Tryd.isAgg3) rfl), nQ rfl (by exact qX (ux rfl Tryd.runUnderlying3 Tryd.runUnderlying25) rfl), trivial⟩) fun D l a w ho hcl hav hpre hm hE hk hA hst => ?_
          have hS := (Ss.mk hE hst).env2 (e' := [(159, qL M4 0), (165, .int .u32 (wr .u32 (rd ND NZ)))]) ⟨rfl, rfl, trivial⟩
          refine qR rfl <| qI hS rfl Tryd.call30 (zm hG K (qp.mk (qS.mk (qr.mk N3) NE) (qv.mk Ng M6) (qv.mk Nh M7)) (wr .u32 (rd ND NZ)) (3 : Int) M4 PQ PG PL PP Ns Nu Nc NG NJ Nd Nt Nv Nf NH NK Ni SL SU NV N8 NW N9 (hS.st.part 6 [0, 1, 2, 3, 4, 5, 6, 7, 8, 9] (by kernel_rfl)) (qt hM) (fun gr Tj WI WS SB Tx Ty w hM gg gh hst => qB hS.ev hst.appF rfl fun hS => ?_))
          replace hS : Ss _ _ _ H [Ty, Tx, Nc, Nd, Nf, Ni, Ny, NY, NU, NX] F _ _ := hS
          refine qA ?_
          replace hst := hS.st
          obtain ⟨hcl, hmust, hav2, hA⟩ := dn (vals' := [some (qL M4 0), some (qL M4 0), some (qL M4 0), some (qL Pe 0), some (.slice N2 ND.length Pf), some (.int .i64 NZ), some (xE N2 (Int.toNat NZ * 1)), some (.int .i64 (rd ND NZ)), some (.int .u32 (wr .u32 (rd ND NZ))), some (.int .i64 gr)]) 9 [(2, 9), (8, 9), (1, 2), (7, 8), (0, 1), (6, 7), (4, 6), (5, 6), (3, 4)] hA hcl hav hm hpre hk rfl rfl rfl rfl rfl rfl rfl
          clear hm hav
          refine yk hA hst ho hcl hmust [] rfl rfl rfl trivial fun a w hS => ?_
          replace hS := hS.env2 (e' := [(0, .slice Np M5.length Nq), (8, qL M4 0), (9, .slice NI M8.length NL), (18, qL Pe 0), (153, .agg ⟨tab_deflate_order.flatMap (ci .i64)⟩), (154, .int .i64 Pr)]) ⟨rfl, rfl, rfl, rfl, rfl, rfl, trivial⟩
          refine zx (qe ?_)
          refine zM <| sB hS rfl fun hS => sM hS rfl fun hS => zo <| qe ?_
          exact T0 _ _ ⟨Tj, WI, WS, SB, Tx, Ty, (qg (Pr + (1 : Int))), hS.to [0, 1, 2, 3, 4, 5, 6, 7, 8, 9] (by kernel_rfl) ⟨rfl, rfl, rfl, rfl, rfl, rfl, trivial⟩, gg, gh, hM⟩
         ·refine wp_exit ?_
          refine qE (qE (zd (qe ?_)))
          exact T3 _ _ ⟨N3, PG, PL, NE, PP, PQ, hS.to [0, 1, 2, 3, 4, 5, 6, 7, 8, 9] (by kernel_rfl) ⟨rfl, rfl, rfl, rfl, trivial⟩, SU, SL, hM⟩
       ·intro a w hI
        obtain ⟨Pc, Sa, Si, NN, Sq, Sr, hS, Wn, TS, hM⟩ := hI
        rw [qh.j10] at hM
        refine zl (fun a w => ∃ (Pd : Int) (Sb : Option Addr) (Sj : Nat) (NO : (List Int)) (Su : qk) (Sv : qk), Ss 196 [] [(0, .slice Np M5.length Nq), (8, qL M4 0)] H [Sv, Su, Nc, Nd, Nf, Ni] F a w ∧ (xj 5 (ci .u8) 1 Sb NO Sj Su) ∧ (xM Sv M4 ([.int .i64 Pd, .slice Sb NO.length Sj, .slice Ns Ng.length Nu, .slice NG M6.length NJ, .slice Nt Nh.length Nv, .slice NH M7.length NK]) 70) ∧ (qh.j12 K M5 Ng M6 Nh M7 Pd NO).wp kr kp) (fun gN T5 => ?_) ?_
        ·refine wp_seq ?_
         refine zM <| sM hS rfl fun hS => sO hS (yc rfl Tryd.runUnderlying81) rfl fun hS => sM hS rfl fun hS => qA <| xQ <| zv (fun TL a w => ∃ (N4 : Int) (PH : Option Addr) (PM : Nat) (NF : (List Int)) (PR : qk) (PS : qk) (Nw : Int), Ss 196 [] [(0, .slice Np M5.length Nq), (8, qL M4 0), (18, qL Pe 0), (168, .slice NI M8.length NL), (169, .int .i64 (M8.length : Int)), (170, .int .i64 Nw)] H [PS, PR, Nc, Nd, Nf, Ni, NY, NU, NX, Ny] F a w ∧ (xj 5 (ci .u8) 1 PH NF PM PR) ∧ (xM PS M4 ([.int .i64 N4, .slice PH NF.length PM, .slice Ns Ng.length Nu, .slice NG M6.length NJ, .slice Nt Nh.length Nv, .slice NH M7.length NK]) 70) ∧ (qh.l11 K M5 Ng M6 Nh M7 M8 ND Nz TL N4 NF Nw).wp kr kp) K ?_ ?_ ?_
         ·exact ⟨Pc, Sa, Si, NN, Sq, Sr, (0 : Int), hS.to [0, 1, 2, 3, 4, 5, 7, 8, 9, 6] (by kernel_rfl) ⟨rfl, rfl, rfl, rfl, rfl, rfl, trivial⟩, Wn, TS, hM⟩
         ·intro a w hI; obtain ⟨_, _, _, _, _, _, _, _, _, _, hM⟩ := hI; exact zu hM
         ·intro TL a w hI gM T4
          obtain ⟨N4, PH, PM, NF, PR, PS, Nw, hS, SV, SM, hM⟩ := hI
          rw [qh.l11] at hM
          refine qm <| sB hS rfl fun hS => qA <| wp_seq <| qF hS rfl hM (fun Ww hM => ?_) (fun Ww hM => ?_)
          ·refine wp_skip ?_
           refine qe <| wp_seq <| xQ <| wp_seq <| zM ?_
           obtain ⟨S6, hM⟩ := qK hM
           refine sO hS (yu rfl rfl Tryd.runUnderlying81 Tryd.sizeOf84 (Sw.rd (i := 9) rfl) (fun _ => rfl) rfl S6) rfl fun hS => sO hS (uc rfl (Sw.rd (i := 9) rfl) (fun _ => rfl) S6 Tryd.isAgg84 Tryd.sizeOf84 rfl) rfl fun hS => QI ([.int .i64 (0 : Int), .int .i64 (0 : Int), .int .i64 (0 : Int)]) hS Tryd.zeroValue84 rfl rfl fun w Sc gX TT hS => QX 0 ([.int .i64 ((rd M8 Nw).symbol_), .int .i64 ((rd M8 Nw).more_), .int .i64 ((rd M8 Nw).bits_)]) ([.int .i64 ((rd M8 Nw).symbol_), .int .i64 ((rd M8 Nw).more_), .int .i64 ((rd M8 Nw).bits_)]) hS rfl rfl TT rfl rfl Tryd.sizeOf84 (by simp [Value.oneCell']) (Nat.le_of_ble_eq_true rfl) rfl fun w Tz PU hS => qA <| qm <| sM hS rfl fun hS => sO hS (uX 7 rfl SK rfl ([.slice N2 ND.length Pf, .slice P9 Nz.length Sh]) rfl rfl Tryd.isAgg68 Tryd.sizeOf68) rfl fun hS => sO hS (xw rfl Tryd.runUnderlying84 rfl Tryd.sizeOf3 rfl) rfl fun hS => sO hS (x5 0 rfl PU rfl rfl Tryd.isAgg3) rfl fun hS => qI hS rfl Tryd.call39 (uD hG K (qp.mk (qS.mk (qr.mk N4) NF) (qv.mk Ng M6) (qv.mk Nh M7)) (qv.mk ND Nz) ((rd M8 Nw).symbol_) M4 PS PH PM PR Ns Nu Nc NG NJ Nd Nt Nv Nf NH NK Ni N2 Pf P9 Sh SM SV NV N8 NW N9 (Po.rdF (i := 2) rfl) (Po.cap (fun _ => rfl) rfl) (TG.rdF (i := 3) rfl) (TG.cap (fun _ => rfl) rfl) (hS.st.part 6 [1, 2, 3, 4, 5, 6, 0, 7, 8, 9, 10] (by kernel_rfl)) (qt hM) (fun Tk WJ WT SC TA TB w hM gi gj hst => qB hS.ev hst.appF rfl fun hS => ?_))
           replace hS : Ss _ _ _ H [TB, TA, Nc, Nd, Nf, Ni, Tz, NY, NU, NX, Ny] F _ _ := hS
           refine qA <| q9 (vals := [some (qL M4 0), some (qL M4 0), some (qL M4 0), some (qL Sc 1), some (.int .i64 ((rd M8 Nw).more_)), some (.int .u32 (wr .u32 (rd M8 Nw).more_)), some (qL Sc 2), some (.int .i64 ((rd M8 Nw).bits_)), none]) hS xF rfl ?_
           intro l w ho hcl hA hst
           refine jf hA hst ho hcl xu xG 8 [0, 1, 2, 3, 4, 5, 6, 7] rfl rfl rfl rfl rfl (by exact ⟨nM rfl, nQ rfl (by exact qX (yz rfl) rfl), nQ rfl (by exact qX (xw rfl Tryd.runUnderlying70 rfl Tryd.sizeOf65 rfl) rfl), nQ rfl (by exact qX (xw rfl Tryd.runUnderlying84 rfl Tryd.sizeOf3 rfl) rfl), nQ rfl (by exact qX (x5 6 rfl PU rfl rfl Tryd.isAgg3) rfl), nQ rfl (by exact qX (ux rfl Tryd.runUnderlying3 Tryd.runUnderlying25) rfl), nQ rfl (by exact qX (xw rfl Tryd.runUnderlying84 rfl Tryd.sizeOf3 rfl) rfl), nQ rfl (by exact qX (x5 6 rfl PU rfl rfl Tryd.isAgg3) rfl), trivial⟩) fun D l a w ho hcl hav hpre hm hE hk hA hst => ?_
           have hS := (Ss.mk hE hst).env2 (e' := [(181, qL M4 0), (184, .int .u32 (wr .u32 (rd M8 Nw).more_)), (186, .int .i64 ((rd M8 Nw).bits_))]) ⟨rfl, rfl, rfl, trivial⟩
           refine qR rfl <| qI hS rfl Tryd.call30 (zm hG K (qp.mk (qS.mk (qr.mk Tk) SC) (qv.mk Ng M6) (qv.mk Nh M7)) (wr .u32 (rd M8 Nw).more_) ((rd M8 Nw).bits_) M4 TB WJ WT TA Ns Nu Nc NG NJ Nd Nt Nv Nf NH NK Ni gj gi NV N8 NW N9 (hS.st.part 6 [0, 1, 2, 3, 4, 5, 6, 7, 8, 9, 10] (by kernel_rfl)) (qt hM) (fun gt Tl WK WU SD TC TD w hM gk gl hst => qB hS.ev hst.appF rfl fun hS => ?_))
           replace hS : Ss _ _ _ H [TD, TC, Nc, Nd, Nf, Ni, Tz, NY, NU, NX, Ny] F _ _ := hS
           refine qA ?_
           replace hst := hS.st
           obtain ⟨hcl, hmust, hav2, hA⟩ := dn (vals' := [some (qL M4 0), some (qL M4 0), some (qL M4 0), some (qL Sc 1), some (.int .i64 ((rd M8 Nw).more_)), some (.int .u32 (wr .u32 (rd M8 Nw).more_)), some (qL Sc 2), some (.int .i64 ((rd M8 Nw).bits_)), some (.int .i64 gt)]) 8 [(2, 8), (5, 8), (7, 8), (1, 2), (4, 5), (6, 7), (0, 1), (3, 4)] hA hcl hav hm hpre hk rfl rfl rfl rfl rfl rfl rfl
           clear hm hav
           refine yk hA hst ho hcl hmust [] rfl rfl rfl trivial fun a w hS => ?_
           replace hS := hS.env2 (e' := [(0, .slice Np M5.length Nq), (8, qL M4 0), (18, qL Pe 0), (168, .slice NI M8.length NL), (169, .int .i64 (M8.length : Int)), (170, .int .i64 Nw)]) ⟨rfl, rfl, rfl, rfl, rfl, rfl, trivial⟩
           refine zx (qe ?_)
           refine zM <| sB hS rfl fun hS => sM hS rfl fun hS => zo <| qe ?_
           exact T4 _ _ ⟨Tl, WK, WU, SD, TC, TD, (qg (Nw + (1 : Int))), hS.to [0, 1, 2, 3, 4, 5, 7, 8, 9, 10] (by kernel_rfl) ⟨rfl, rfl, rfl, rfl, rfl, rfl, trivial⟩, gk, gl, hM⟩
          ·refine wp_exit ?_
           refine qE (qE (zd (qe ?_)))
           exact T5 _ _ ⟨N4, PH, PM, NF, PR, PS, hS.to [0, 1, 2, 3, 4, 5] (by kernel_rfl) ⟨rfl, rfl, trivial⟩, SV, SM, hM⟩
        ·intro a w hI
         obtain ⟨Pd, Sb, Sj, NO, Su, Sv, hS, Wo, TU, hM⟩ := hI
         rw [qh.j12] at hM
         refine qm <| sM hS rfl fun hS => sM hS rfl fun hS => qI hS rfl Tryd.call31 (jE hG K (qp.mk (qS.mk (qr.mk Pd) NO) (qv.mk Ng M6) (qv.mk Nh M7)) M5 M4 Sv Sb Sj Su Ns Nu Nc NG NJ Nd Nt Nv Nf NH NK Ni Np Nq TU Wo NV N8 NW N9 (PB.app _) SW (hS.st.part 6 [0, 1, 2, 3, 4, 5] (by kernel_rfl)) (qt hM) (fun Tm WL WV SE SI SJ w hM gm gn hst => qB hS.ev hst.appF rfl fun hS => ?_))
         replace hS : Ss _ _ _ H [SJ, SI, Nc, Nd, Nf, Ni] F _ _ := hS
         refine qA <| qm <| sM hS rfl fun hS => sO hS (yz rfl) rfl fun hS => sO hS (xw rfl Tryd.runUnderlying70 rfl Tryd.sizeOf65 rfl) rfl fun hS => qI hS rfl Tryd.call32 (yx hG K (qp.mk (qS.mk (qr.mk Tm) SE) (qv.mk Ng M6) (qv.mk Nh M7)) M4 SJ WL WV SI Ns Nu Nc NG NJ Nd Nt Nv Nf NH NK Ni gn gm NV N8 NW N9 (hS.st.part 6 [0, 1, 2, 3, 4, 5] (by kernel_rfl)) (qt hM) (fun gu w hM  hst => qB hS.ev hst.appF rfl fun hS => ?_))
         replace hS : Ss _ _ _ H [SJ, SI, Nc, Nd, Nf, Ni] F _ _ := hS
         refine sA hS rfl fun hS => sA hS rfl fun hS => qA <| wp_ret ?_
         exact zE (rs := [2, 3]) hS rfl rfl (hret gu (0 : Int) _ (q8 hM) (hS.st.pick [] (by kernel_rfl)))
theorem Zl {H : xT} {F : List qk} {w : World} {R : Ending → World → Prop} {kr : (List UInt8) → Prop} {kp : Value → Prop} (hG : Gl H) (K : Nat) (M6 : List UInt8)
    (hS : St w H [] F) (hm : (z3.m K M6).wp kr kp)
    (hret : ∀ (Nf : List UInt8) (w : World), kr Nf → St w H [] F → R (.returned (xf Nf)) w)
    (hpan : ∀ v w, kp v → St w H [] F → R (.panicked [⟨v, false, false⟩]) w) :
    Calls Tryd.prog 8 ⟨[xf M6]⟩ w R := by
 refine enter Tryd.func8 rfl Tryd.ntmps8 rfl hS fun a w hS => ?_
 have hM := hm; clear hm
 rw [z3.m] at hM
 refine qm <| sA hS rfl fun hS => qA <| qm <| sM hS rfl fun hS => qI hS rfl Tryd.call14 (JN hG K M6 (hS.st.part 0 [] (by kernel_rfl)) (qt hM) (fun M8 M9 M7 M4 w hM M5 hst => qB hS.ev hst.appF rfl fun hS => ?_))
 replace hS : Ss _ _ _ H [M4] F _ _ := hS
 refine sA hS rfl fun hS => qA <| qm <| sM hS rfl fun hS => qI hS rfl Tryd.call15 (ZL hG K M6 (hS.st.part 0 [0] (by kernel_rfl)) (qt hM) (fun Nb w hM  hst => qB hS.ev hst.appF rfl fun hS => ?_))
 replace hS : Ss _ _ _ H [M4] F _ _ := hS
 refine sA hS rfl fun hS => qA <| zl (fun a w => ∃ (M3 : List UInt8), Ss 44 [] [(3, .slice M8 M7.length M9), (4, xf M3)] H [M4] F a w ∧ (z3.j1 K M7 M3).wp kr kp) (fun Nk Na => ?_) ?_
 ·refine wp_seq ?_
  refine zM <| sM hS rfl fun hS => qI hS rfl Tryd.call16 (Xm hG K M7 M8 M9 (M5.rdF (i := 0) rfl) (M5.cap (fun _ => rfl) rfl) (hS.st.part 0 [0] (by kernel_rfl)) (qt hM) (fun Nc Ni w hM  hst => qB hS.ev hst.appF rfl fun hS => ?_))
  replace hS : Ss _ _ _ H [M4] F _ _ := hS
  refine sM hS rfl fun hS => sO hS (ex rfl rfl) rfl fun hS => sO hS (ex rfl rfl) rfl fun hS => sA hS rfl fun hS => sA hS rfl fun hS => qA <| qm <| sM hS rfl fun hS => sB hS rfl fun hS => sM hS rfl fun hS => y4 5 true 20 (b := (Ni == (0 : Int))) (r := (decide ((Nc.length : Int) < (Nb.length : Int)))) hS rfl rfl rfl rfl rfl rfl rfl (fun hb a w hS K hK => ?_) rfl fun a w hS => ?_
  ·refine z2 hS rfl rfl rfl hb (mv rfl) rfl fun a w hS => ?_
   refine z2 hS rfl rfl rfl hb (uY rfl Tryd.runUnderlying9) rfl fun a w hS => z2 hS rfl rfl rfl hb (mv rfl) rfl fun a w hS => z2 hS rfl rfl rfl hb (uY rfl Tryd.runUnderlying9) rfl fun a w hS => z2 hS rfl rfl rfl hb (jv rfl rfl rfl) rfl fun a w hS => ?_
   exact zo (hK _ _ (hS.up 5 rfl rfl))
  refine qA <| qF hS rfl hM (fun Ng hM => ?_) (fun Ng hM => ?_)
  ·refine zM ?_
   refine sM hS rfl fun hS => sA hS rfl fun hS => zo <| qe ?_
   exact Na _ _ ⟨Nc, hS.to [0] (by kernel_rfl) ⟨rfl, rfl, trivial⟩, hM⟩
  ·refine wp_skip ?_
   refine qe ?_
   exact Na _ _ ⟨Nb, hS.to [0] (by kernel_rfl) ⟨rfl, rfl, trivial⟩, hM⟩
 ·intro a w hI
  obtain ⟨M3, hS, hM⟩ := hI
  rw [z3.j1] at hM
  refine wp_seq <| qm <| sM hS rfl fun hS => qI hS rfl Tryd.call17 (Zm hG K M7 M8 M9 (M5.rdF (i := 0) rfl) (M5.cap (fun _ => rfl) rfl) (hS.st.part 0 [0] (by kernel_rfl)) (qt hM) (fun Nd Nj w hM  hst => qB hS.ev hst.appF rfl fun hS => ?_) (fun v w hk hst => xo (qD (qD (⟨hS.ev.defs, hpan _ _ hk hst.appF.frame⟩)))))
  replace hS : Ss _ _ _ H [M4] F _ _ := hS
  refine sM hS rfl fun hS => sO hS (ex rfl rfl) rfl fun hS => sO hS (ex rfl rfl) rfl fun hS => sA hS rfl fun hS => sA hS rfl fun hS => qA <| qm <| sM hS rfl fun hS => sB hS rfl fun hS => sM hS rfl fun hS => y4 5 true 35 (b := (Nj == (0 : Int))) (r := (decide ((Nd.length : Int) < (M3.length : Int)))) hS rfl rfl rfl rfl rfl rfl rfl (fun hb a w hS K hK => ?_) rfl fun a w hS => ?_
  ·refine z2 hS rfl rfl rfl hb (mv rfl) rfl fun a w hS => ?_
   refine z2 hS rfl rfl rfl hb (uY rfl Tryd.runUnderlying9) rfl fun a w hS => z2 hS rfl rfl rfl hb (mv rfl) rfl fun a w hS => z2 hS rfl rfl rfl hb (uY rfl Tryd.runUnderlying9) rfl fun a w hS => z2 hS rfl rfl rfl hb (jv rfl rfl rfl) rfl fun a w hS => ?_
   exact zo (hK _ _ (hS.up 5 rfl rfl))
  refine qA <| qF hS rfl hM (fun Nh hM => ?_) (fun Nh hM => ?_)
  ·refine zM ?_
   refine sM hS rfl fun hS => sA hS rfl fun hS => qA <| qm <| sM hS rfl fun hS => sA hS rfl fun hS => qA <| wp_ret ?_
   exact zE (rs := [2]) hS rfl rfl (hret Nd _ (q8 hM) (hS.st.pick [] (by kernel_rfl)))
  ·refine wp_skip ?_
   refine qe <| qm <| sM hS rfl fun hS => sA hS rfl fun hS => qA <| wp_ret ?_
   exact zE (rs := [2]) hS rfl rfl (hret M3 _ (q8 hM) (hS.st.pick [] (by kernel_rfl)))
theorem US {H : xT} {F : List qk} {w : World} {R : Ending → World → Prop} {kr : (List UInt8) → Prop} {kp : Value → Prop} (hG : Gl H) (K : Nat) (M3 : List UInt8)
    (hS : St w H [] F) (hm : (QH.m K M3).wp kr kp)
    (hret : ∀ (M4 : List UInt8) (w : World), kr M4 → St w H [] F → R (.returned (xf M4)) w)
    (hpan : ∀ v w, kp v → St w H [] F → R (.panicked [⟨v, false, false⟩]) w) :
    Calls Tryd.prog 7 ⟨[xf M3]⟩ w R := by
 refine enter Tryd.func7 rfl Tryd.ntmps7 rfl hS fun a w hS => ?_
 have hM := hm; clear hm
 rw [QH.m] at hM
 refine qm <| sA hS rfl fun hS => qA <| qm <| sM hS rfl fun hS => qI hS rfl Tryd.call13 (ZE hG K M3 (hS.st.part 0 [] (by kernel_rfl)) (qt hM) (fun M8 w hM  hst => qB hS.ev hst.appF rfl fun hS => ?_))
 replace hS : Ss _ _ _ H [] F _ _ := hS
 refine sO hS (ux rfl Tryd.runUnderlying25 Tryd.runUnderlying36) rfl fun hS => qI hS rfl Tryd.call12 (Z8 hG K (wr .u64 M8) (4 : Int) (hS.st.part 0 [] (by kernel_rfl)) (qt hM) (fun M9 Nb w hM  hst => qB hS.ev hst.appF rfl fun hS => ?_))
 replace hS : Ss _ _ _ H [] F _ _ := hS
 refine sM hS rfl fun hS => sO hS (ex rfl rfl) rfl fun hS => sO hS (ex rfl rfl) rfl fun hS => sA hS rfl fun hS => sA hS rfl fun hS => qA <| qm <| sM hS rfl fun hS => qI hS rfl Tryd.call8 (Zl hG K M3 (hS.st.part 0 [] (by kernel_rfl)) (qt hM) (fun Na w hM  hst => qB hS.ev hst.appF rfl fun hS => ?_) (fun v w hk hst => xo (qD (⟨hS.ev.defs, hpan _ _ hk hst.appF.frame⟩))))
 replace hS : Ss _ _ _ H [] F _ _ := hS
 obtain ⟨M5, hM⟩ := qK hM
 refine sO hS (Mx rfl rfl M5) rfl fun hS => sM hS rfl fun hS => ?_
 obtain ⟨M6, hM⟩ := qK hM
 refine sO hS (Mx rfl rfl M6) rfl fun hS => zF (v := xf) (x0 := ((([120, 156] : List UInt8) ++ Na) ++ M9)) hS (xA rfl) rfl fun M7 a w hz hS => ?_
 have hM := qz hz hM; clear hz
 refine qA <| wp_ret ?_
 exact zE (rs := [2]) hS rfl rfl (hret M7 _ (q8 hM) (hS.st.pick [] (by kernel_rfl)))
theorem Q6 {H : xT} {F : List qk} {w : World} {R : Ending → World → Prop} {kr : (List UInt8) → Prop} {kp : Value → Prop} (hG : Gl H) (K : Nat) (M3 : Int)
    (hS : St w H [] F) (hm : (yS.m K M3).wp kr kp)
    (hret : ∀ (M4 : List UInt8) (w : World), kr M4 → St w H [] F → R (.returned (xf M4)) w) :
    Calls Tryd.prog 9 ⟨[.int .u32 M3]⟩ w R := by
 refine enter Tryd.func9 rfl Tryd.ntmps9 rfl hS fun a w hS => ?_
 have hM := hm; clear hm
 rw [yS.m] at hM
 refine qm <| sA hS rfl fun hS => qA <| qm <| sM hS rfl fun hS => sO hS (quo rfl rfl rfl) rfl fun hS => sO hS (ux rfl Tryd.runUnderlying25 Tryd.runUnderlying5) rfl fun hS => sM hS rfl fun hS => sO hS (quo rfl rfl rfl) rfl fun hS => sO hS (ux rfl Tryd.runUnderlying25 Tryd.runUnderlying5) rfl fun hS => sM hS rfl fun hS => sO hS (quo rfl rfl rfl) rfl fun hS => sO hS (ux rfl Tryd.runUnderlying25 Tryd.runUnderlying5) rfl fun hS => sM hS rfl fun hS => sO hS (ux rfl Tryd.runUnderlying25 Tryd.runUnderlying5) rfl fun hS => Jv (g := (ci .u8)) ([(wr .u8 (yb .u32 M3 (16777216 : Int))), (wr .u8 (yb .u32 M3 (65536 : Int))), (wr .u8 (yb .u32 M3 (256 : Int))), (wr .u8 M3)] : List Int) [.int .u8 (wr .u8 (yb .u32 M3 (16777216 : Int))), .int .u8 (wr .u8 (yb .u32 M3 (65536 : Int))), .int .u8 (wr .u8 (yb .u32 M3 (256 : Int))), .int .u8 (wr .u8 M3)] hS Tryd.runUnderlying32 Tryd.sizeOf5 X.el5 rfl rfl rfl (by simp [Value.cells]) rfl rfl rfl rfl rfl fun w M7 M8 M9 M5 hS => sO hS (GV rfl Tryd.runUnderlying32 Tryd.runUnderlying5 Tryd.runUnderlying9 (M5.rd (i := 0) rfl)) rfl fun hS => zF (v := xf) (x0 := (([(wr .u8 (yb .u32 M3 (16777216 : Int))), (wr .u8 (yb .u32 M3 (65536 : Int))), (wr .u8 (yb .u32 M3 (256 : Int))), (wr .u8 M3)] : List Int).map v8)) hS (xA rfl) rfl fun M6 a w hz hS => ?_
 have hM := qz hz hM; clear hz
 refine qA <| wp_ret ?_
 exact zE (rs := [2]) hS rfl rfl (hret M6 _ (q8 hM) (hS.st.pick [] (by kernel_rfl)))
theorem ue {H : xT} {F : List qk} {w : World} {R : Ending → World → Prop} {kr : Bool → Prop} {kp : Value → Prop} (hG : Gl H) (K : Nat) (s1 : List UInt8) (pattern2 : Int)
    (hS : St w H [] F) (hm : (qQ.m K s1 pattern2).wp kr kp)
    (hret : ∀ (Nm : Bool) (w : World), kr Nm → St w H [] F → R (.returned (.bool Nm)) w)
    (hpan : ∀ v w, kp v → St w H [] F → R (.panicked [⟨v, false, false⟩]) w) :
    Calls Tryd.prog 5 ⟨[xf s1, .int .u32 pattern2]⟩ w R := by
 refine enter Tryd.func5 rfl Tryd.ntmps5 rfl hS fun a w hS => ?_
 have hM := hm; clear hm
 rw [qQ.m] at hM
 refine qm <| sA hS rfl fun hS => qA <| wp_seq <| qm <| sM hS rfl fun hS => sO hS (uY rfl Tryd.runUnderlying9) rfl fun hS => sB hS rfl fun hS => qA <| qF hS rfl hM (fun hb3 hM => ?_) (fun hb3 hM => ?_)
 ·refine wp_seq ?_
  refine zM <| qI hS rfl Tryd.call6 (vz hG K  (hS.st.part 0 [] (by kernel_rfl)) (qt hM) (fun Nz w hM  hst => qB hS.ev hst.appF rfl fun hS => ?_))
  replace hS : Ss _ _ _ H [] F _ _ := hS
  refine sA hS rfl fun hS => qA <| wp_ret <| zk ?_
  exact zE (rs := [4]) hS rfl rfl (hret Nz _ (q8 hM) (hS.st.pick [] (by kernel_rfl)))
 ·refine wp_skip ?_
  refine qe <| qm <| sM hS rfl fun hS => qI hS rfl Tryd.call7 (US hG K s1 (hS.st.part 0 [] (by kernel_rfl)) (qt hM) (fun NF w hM  hst => qB hS.ev hst.appF rfl fun hS => ?_) (fun v w hk hst => xo (qD (⟨hS.ev.defs, hpan _ _ hk hst.appF.frame⟩))))
  replace hS : Ss _ _ _ H [] F _ _ := hS
  obtain ⟨Nu, hM⟩ := qK hM
  refine MH hS rfl Tryd.underlying9 Tryd.underlying32 Tryd.underlying5 Nu rfl fun Ni w M6 M8 Nk hz Np hS => ?_
  have hM := qz hz hM; clear hz
  refine sA hS rfl fun hS => qA <| wp_seq <| qm <| sM hS rfl fun hS => sO hS (yc rfl Tryd.runUnderlying32) rfl fun hS => sB hS rfl fun hS => qA <| qF hS rfl hM (fun Ns hM => ?_) (fun Ns hM => ?_)
  ·refine wp_seq ?_
   refine zM <| sA hS rfl fun hS => qA <| wp_ret <| zk ?_
   exact zE (rs := [4]) hS rfl rfl (hret false _ (q8 hM) (hS.st.pick [] (by kernel_rfl)))
  ·refine wp_skip ?_
   refine qe <| qm <| sM hS rfl fun hS => sO hS (yc rfl Tryd.runUnderlying32) rfl fun hS => sB hS rfl fun hS => zF (v := Value.int .i64) (x0 := (qg ((Ni.length : Int) - (4 : Int)))) hS (xA rfl) rfl fun M4 a w hz hS => ?_
   have hM := qz hz hM; clear hz
   refine qA <| qm <| sM hS rfl fun hS => qI hS rfl Tryd.call9 (Q6 hG K pattern2 (hS.st.part 0 [0] (by kernel_rfl)) (qt hM) (fun M7 w hM  hst => qB hS.ev hst.appF rfl fun hS => ?_))
   replace hS : Ss _ _ _ H [Nk] F _ _ := hS
   refine sA hS rfl fun hS => qA <| zl (fun a w => ∃ (Nd : (List Int)) (Nc : qk), Ss 63 [] [(0, xf s1), (1, .int .u32 pattern2), (5, .slice M6 Nd.length M8)] H [Nc] F a w ∧ (xj 5 (ci .u8) 1 M6 Nd M8 Nc) ∧ (qQ.j2 K s1 pattern2 Nd).wp kr kp) (fun ND No => ?_) ?_
   ·refine wp_seq ?_
    refine zM <| sA hS rfl fun hS => qA <| xQ <| zv (fun Nl a w => ∃ (M5 : (List Int)) (Nf : qk) (M3 : Int), Ss 63 [] [(0, xf s1), (1, .int .u32 pattern2), (5, .slice M6 M5.length M8), (6, .int .i64 M4), (7, xf M7), (8, .int .i64 M3)] H [Nf] F a w ∧ (xj 5 (ci .u8) 1 M6 M5 M8 Nf) ∧ (qQ.l1 K s1 pattern2 M4 M7 Nl M5 M3).wp kr kp) K ?_ ?_ ?_
    ·exact ⟨Ni, Nk, (0 : Int), hS.to [0] (by kernel_rfl) ⟨rfl, rfl, rfl, rfl, rfl, rfl, trivial⟩, Np, hM⟩
    ·intro a w hI; obtain ⟨_, _, _, _, _, hM⟩ := hI; exact zu hM
    ·intro Nl a w hI NC Nn
     obtain ⟨M5, Nf, M3, hS, M9, hM⟩ := hI
     rw [qQ.l1] at hM
     refine wp_seq <| qm <| sM hS rfl fun hS => sB hS rfl fun hS => qA <| qF hS rfl hM (fun Nt hM => ?_) (fun Nt hM => ?_)
     ·refine wp_skip ?_
      refine qe <| wp_seq <| xQ ?_
      obtain ⟨Nb, hM⟩ := qK hM
      obtain ⟨Nv, hM⟩ := qK hM
      refine q9 (vals := [some (.slice M6 M5.length M8), some (.int .i64 M4), some (.int .i64 M3), some (.int .i64 (qg (M4 + M3))), some (.slice M6 M5.length M8), some (.int .i64 M4), some (.int .i64 M3), some (.int .i64 (qg (M4 + M3))), some (xE M6 (Int.toNat (qg (M4 + M3)) * 1)), some (.int .u8 (rd M5 (qg (M4 + M3)))), some (xf M7), some (.int .i64 M3), some (.int .u8 ((rd M7 M3).toNat : Int)), some (.int .u8 (ub .u8 (rd M5 (qg (M4 + M3))) ((rd M7 M3).toNat : Int))), some (xE M6 (Int.toNat (qg (M4 + M3)) * 1)), none]) hS xF rfl ?_
      intro l w ho hcl hA hst
      refine jf hA hst ho hcl xu xG 15 [0, 1, 2, 3, 4, 5, 6, 7, 8, 9, 10, 11, 12, 13, 14] rfl rfl rfl rfl rfl (by exact ⟨nM rfl, nM rfl, nM rfl, nB rfl, nM rfl, nM rfl, nM rfl, nB rfl, nQ rfl (by exact qX (yu rfl rfl Tryd.runUnderlying32 Tryd.sizeOf5 (M9.rd (i := 0) rfl) (fun _ => rfl) rfl Nb) rfl), nQ rfl (by exact qX (yG rfl (M9.rd (i := 0) rfl) (fun _ => rfl) Nb rfl Tryd.isAgg5) rfl), nM rfl, nM rfl, nQ rfl (by exact qX (Up rfl rfl Tryd.runUnderlying9 Nv) rfl), nB rfl, nQ rfl (by exact qX (yu rfl rfl Tryd.runUnderlying32 Tryd.sizeOf5 (M9.rd (i := 0) rfl) (fun _ => rfl) rfl Nb) rfl), trivial⟩) fun D l a w ho hcl hav hpre hm hE hk hA hst => ?_
      have hS := (Ss.mk hE hst).env2 (e' := [(44, .int .u8 (ub .u8 (rd M5 (qg (M4 + M3))) ((rd M7 M3).toNat : Int))), (45, xE M6 (Int.toNat (qg (M4 + M3)) * 1))]) ⟨rfl, rfl, trivial⟩
      refine qR rfl <| J1 (i := (qg (M4 + M3))) (sz := 1) 0 0 ((ub .u8 (rd M5 (qg (M4 + M3))) ((rd M7 M3).toNat : Int))) hS rfl rfl M9 rfl Tryd.sizeOf5 (u4 (ub .u8 (rd M5 (qg (M4 + M3))) ((rd M7 M3).toNat : Int))) (fun _ => rfl) Nb rfl rfl fun Nj w Nx hz Nw Nq hS => ?_
      have hM := qz hz hM; clear hz
      refine qA ?_
      replace hst := hS.st
      obtain ⟨hcl, hmust, hav2, hA⟩ := Xy (vals' := [some (.slice M6 M5.length M8), some (.int .i64 M4), some (.int .i64 M3), some (.int .i64 (qg (M4 + M3))), some (.slice M6 M5.length M8), some (.int .i64 M4), some (.int .i64 M3), some (.int .i64 (qg (M4 + M3))), some (xE M6 (Int.toNat (qg (M4 + M3)) * 1)), some (.int .u8 (rd M5 (qg (M4 + M3)))), some (xf M7), some (.int .i64 M3), some (.int .u8 ((rd M7 M3).toNat : Int)), some (.int .u8 (ub .u8 (rd M5 (qg (M4 + M3))) ((rd M7 M3).toNat : Int))), some (xE M6 (Int.toNat (qg (M4 + M3)) * 1)), some undef]) 15 [(0, 15), (1, 15), (2, 15), (3, 15), (4, 15), (5, 15), (6, 15), (7, 15), (8, 15), (9, 15), (10, 15), (11, 15), (12, 15), (13, 15), (14, 15)] hA hcl hav hm hpre rfl rfl rfl rfl rfl
      clear hm hav
      refine yk hA hst ho hcl hmust [] rfl rfl rfl trivial fun a w hS => ?_
      replace hS := hS.env2 (e' := [(0, xf s1), (1, .int .u32 pattern2), (5, .slice M6 Nj.length M8), (6, .int .i64 M4), (7, xf M7), (8, .int .i64 M3)]) ⟨rfl, rfl, (UD (u := .slice M6 M5.length M8) rfl (by rw [Nw])), rfl, rfl, rfl, trivial⟩
      refine zx (qe ?_)
      refine zM <| sM hS rfl fun hS => sB hS rfl fun hS => zF (v := Value.int .i64) (x0 := (qg (M3 + (1 : Int)))) hS (xA rfl) rfl fun Ny a w hz hS => ?_
      have hM := qz hz hM; clear hz
      refine zo <| qe ?_
      exact Nn _ _ ⟨Nj, Nx, Ny, hS.to [0] (by kernel_rfl) ⟨rfl, rfl, rfl, rfl, rfl, rfl, trivial⟩, Nq, hM⟩
     ·refine wp_exit ?_
      refine qE (qE (zd (qe ?_)))
      exact No _ _ ⟨M5, Nf, hS.to [0] (by kernel_rfl) ⟨rfl, rfl, rfl, trivial⟩, M9, hM⟩
   ·intro a w hI
    obtain ⟨Nd, Nc, hS, Nr, hM⟩ := hI
    rw [qQ.j2] at hM
    refine qm <| sM hS rfl fun hS => sO hS (GV rfl Tryd.runUnderlying32 Tryd.runUnderlying5 Tryd.runUnderlying9 (Nr.rd (i := 0) rfl)) rfl fun hS => sM hS rfl fun hS => sO hS (uY rfl Tryd.runUnderlying9) rfl fun hS => qI hS rfl Tryd.call11 (vE hG K (Nd.map v8) (s1.length : Int) (hS.st.part 0 [0] (by kernel_rfl)) (qt hM) (fun NG NH NA w hM  hst => qB hS.ev hst.appF rfl fun hS => ?_))
    replace hS : Ss _ _ _ H [Nc] F _ _ := hS
    refine sM hS rfl fun hS => sO hS (ex rfl rfl) rfl fun hS => sO hS (ex rfl rfl) rfl fun hS => sO hS (ex rfl rfl) rfl fun hS => sA hS rfl fun hS => sA hS rfl fun hS => sA hS rfl fun hS => qA <| qm <| sM hS rfl fun hS => sB hS rfl fun hS => sM hS rfl fun hS => sB hS rfl fun hS => sO hS (Me rfl rfl Tryd.runUnderlying4 rfl) rfl fun hS => sM hS rfl fun hS => V2 (fun a w => ∃ (Ng : Bool), Ss 63 [] [(62, .bool Ng)] H [] F a w ∧ (qQ.j3 K Ng).wp kr kp) 2 (fun NE Nh => ?_) ?_
    ·refine Lt (b := ((NA == (4 : Int)) == (pattern2 != (0 : Int)))) hM (fun Na hM => ?_) (fun Na hM => ?_)
     ·replace hS := hS.re 59 (v := .bool true) rfl (congrArg Value.bool Na)
      replace hS := hS.re 60 (v := .bool true) rfl (congrArg Value.bool Na)
      refine J3 hS rfl rfl rfl rfl <| qI hS rfl Tryd.call6 (vz hG K  (hS.st.part 0 [0] (by kernel_rfl)) (qt hM) (fun NB w hM  hst => qB hS.ev hst.appF rfl fun hS => ?_))
      replace hS : Ss _ _ _ H [Nc] F _ _ := hS
      refine sO hS (pk rfl rfl rfl) rfl fun hS => zo <| qe ?_
      exact Nh _ _ ⟨NB, hS.to [] (by kernel_rfl) ⟨rfl, trivial⟩, hM⟩
     ·replace hS := hS.re 59 (v := .bool false) rfl (congrArg Value.bool Na)
      replace hS := hS.re 60 (v := .bool false) rfl (congrArg Value.bool Na)
      refine GN 1 hS rfl fun a w hS => sO hS (pk rfl rfl rfl) rfl fun hS => zo <| qe ?_
      exact Nh _ _ ⟨false, hS.to [] (by kernel_rfl) ⟨rfl, trivial⟩, hM⟩
    ·intro a w hI
     obtain ⟨Ng, hS, hM⟩ := hI
     rw [qQ.j3] at hM
     refine sA hS rfl fun hS => qA <| wp_ret ?_
     exact zE (rs := [4]) hS rfl rfl (hret Ng _ (q8 hM) (hS.st.pick [] (by kernel_rfl)))
end Go.TrydS

