/- Printed by a program of mine: each Go function answers what its model answers; conditions: what each theorem asks of memory. -/
import Derived.Test.YtojcnkhcdcegkaaDoorP3xchkkm
set_option linter.unusedVariables false
set_option linter.unusedSimpArgs false
set_option maxRecDepth 100000
namespace Go.TrydS
open Go Go.Sl Go.Mo Go.Proofs
attribute [local irreducible] qN.wp
theorem QS {H : xR} {F : List qk} {w : World} {R : Ending → World → Prop} {kr : ((List UInt8) × Int) → Prop} {kp : Value → Prop} (hG : Gl H) (K : Nat) (L0 : List qM) (Mk : Option Addr) (Ml : Nat) (Ny : jG H [] F qM.cells Mk L0) (PO : L0.length ≤ Ml)
    (hS : St w H [] F) (hm : (qg.m K L0).wp kr kp)
    (hret : ∀ (SH : List UInt8) (SI : Int) (w : World), kr (SH, SI) → St w H [] F → R (.returned (.tuple ⟨[xf SH, .int .i64 SI]⟩)) w)
    (hpan : ∀ v w, kp v → St w H [] F → R (.panicked [⟨v, false, false⟩]) w) :
    Calls Tryd.prog 17 ⟨[.slice Mk L0.length Ml]⟩ w R := by
 refine enter Tryd.func17 rfl Tryd.ntmps17 rfl hS fun a w hS => ?_
 have hM := hm; clear hm
 rw [qg.m] at hM
 refine qm <| sA hS rfl fun hS => sA hS rfl fun hS => qB <| wp_seq <| qm <| sM hS rfl fun hS => qF hS rfl Tryd.call28 (uQ hG K L0 Mk Ml (Ny.app _) PO (hS.st.part 0 [] (by kernel_rfl)) (qs hM) (fun WU w hM  hst => qA hS.ev hst.appF rfl fun hS => ?_))
 replace hS : Ss _ _ _ H [] F _ _ := hS
 refine sO hS (un rfl rfl) rfl fun hS => qB <| qG hS rfl hM (fun Tk hM => ?_) (fun Tk hM => ?_)
 ·refine wp_seq ?_
  refine zN <| sA hS rfl fun hS => sA hS rfl fun hS => qB <| wp_ret <| zm ?_
  exact zD (rs := [2, 3]) hS rfl rfl (hret ([] : List UInt8) (1 : Int) _ (q7 hM) (hS.st.pick [] (by kernel_rfl)))
 ·refine wp_skip ?_
  refine qe <| zj (fun a w => ∃ (Mi : Option Addr) (Mj : Nat) (Me : (List Int)) (Py : qk) (Mw : Option Addr) (Mx : Nat) (Mt : (List Int)) (Pe : qk), Ss 196 [] [(0, .slice Mk L0.length Ml), (4, .slice Mi Me.length Mj), (5, .slice Mw Mt.length Mx)] H [Py, Pe] F a w ∧ (xi 3 (ci .i64) 1 Mi Me Mj Py) ∧ (xi 3 (ci .i64) 1 Mw Mt Mx Pe) ∧ (qg.j1 K L0 Me Mt).wp kr kp) (fun Ww PF => ?_) ?_
  ·refine za (vals := [none, none, none, none]) hS xE rfl ?_
   intro l w ho hcl hA hst
   obtain ⟨PP, hM⟩ := qK hM
   obtain ⟨MI, NR⟩ := vR (List.replicate (Int.toNat (286 : Int)) (0 : Int))
   replace hM := qy NR hM
   obtain ⟨PQ, hM⟩ := qK hM
   obtain ⟨MP, NS⟩ := vR (List.replicate (Int.toNat (30 : Int)) (0 : Int))
   replace hM := qy NS hM
   refine Gc (vals := [none, none, none, none]) 0 1 [] [] rfl rfl rfl rfl rfl trivial (fun D l a w ho hcl hav hpre hm hE hk hA hst => ?_) (fun D l a w ho hcl hav hpre hm hE hk hA hst => ?_) ho hcl xx xF List.not_mem_nil List.not_mem_nil hA hst
   ·have hS := (Ss.mk hE hst).env2 (e' := []) trivial
    refine qQ rfl <| BC (g := (ci .i64)) (m := (286 : Int)) (0 : Int) hS rfl rfl (by simp) Tryd.runUnderlying66 X.el3 (fun w => ⟨_, Tryd.zeroValue3 w, rfl⟩) (fun _ => rfl) rfl rfl PP rfl fun Wr w Ni Nj TR hz S1 hS => ?_
    rw [← NR] at hz; replace hz := hz.symm; subst hz
    refine qB ?_
    replace hst := hS.st
    obtain ⟨hcl, hmust, hav2, hA⟩ := dn (vals' := [some (.slice Ni MI.length Nj), none, some (.slice Ni MI.length Nj), none]) 0 [] hA hcl hav hm hpre hk rfl rfl rfl rfl rfl rfl rfl
    clear hm hav
    refine y9 hA hst ho hcl hav2 hmust 1 [2] rfl rfl rfl rfl rfl (by exact ⟨nA rfl, trivial⟩) fun D l a w ho hcl hav hpre hm hE hk hA hst => ?_
    have hS := (Ss.mk hE hst).env2 (e' := []) trivial
    refine qQ rfl <| BC (g := (ci .i64)) (m := (30 : Int)) (0 : Int) hS rfl rfl (by simp) Tryd.runUnderlying66 X.el3 (fun w => ⟨_, Tryd.zeroValue3 w, rfl⟩) (fun _ => rfl) rfl rfl PQ rfl fun Ws w NZ N7 TS hz S2 hS => ?_
    rw [← NS] at hz; replace hz := hz.symm; subst hz
    refine qB ?_
    replace hst := hS.st
    obtain ⟨hcl, hmust, hav2, hA⟩ := dn (vals' := [some (.slice Ni MI.length Nj), some (.slice NZ MP.length N7), some (.slice Ni MI.length Nj), some (.slice NZ MP.length N7)]) 1 [] hA hcl hav hm hpre hk rfl rfl rfl rfl rfl rfl rfl
    clear hm hav
    refine yk hA hst ho hcl hmust [2, 3] rfl rfl rfl (by exact ⟨nA rfl, nA rfl, trivial⟩) fun a w hS => ?_
    replace hS := hS.env2 (e' := [(0, .slice Mk L0.length Ml), (4, .slice Ni MI.length Nj), (5, .slice NZ MP.length N7)]) ⟨rfl, rfl, rfl, trivial⟩
    refine qe ?_
    exact PF _ _ ⟨Ni, Nj, MI, TR, NZ, N7, MP, TS, hS.to [1, 0] (by kernel_rfl) ⟨rfl, rfl, rfl, trivial⟩, S1, S2, hM⟩
   ·have hS := (Ss.mk hE hst).env2 (e' := []) trivial
    refine qQ rfl <| BC (g := (ci .i64)) (m := (30 : Int)) (0 : Int) hS rfl rfl (by simp) Tryd.runUnderlying66 X.el3 (fun w => ⟨_, Tryd.zeroValue3 w, rfl⟩) (fun _ => rfl) rfl rfl PQ rfl fun Wt w NB NF TT hz S3 hS => ?_
    rw [← NS] at hz; replace hz := hz.symm; subst hz
    refine qB ?_
    replace hst := hS.st
    obtain ⟨hcl, hmust, hav2, hA⟩ := dn (vals' := [none, some (.slice NB MP.length NF), none, none]) 1 [] hA hcl hav hm hpre hk rfl rfl rfl rfl rfl rfl rfl
    clear hm hav
    refine y9 hA hst ho hcl hav2 hmust 0 [] rfl rfl rfl rfl rfl trivial fun D l a w ho hcl hav hpre hm hE hk hA hst => ?_
    have hS := (Ss.mk hE hst).env2 (e' := []) trivial
    refine qQ rfl <| BC (g := (ci .i64)) (m := (286 : Int)) (0 : Int) hS rfl rfl (by simp) Tryd.runUnderlying66 X.el3 (fun w => ⟨_, Tryd.zeroValue3 w, rfl⟩) (fun _ => rfl) rfl rfl PP rfl fun Wu w N0 N8 TU hz S4 hS => ?_
    rw [← NR] at hz; replace hz := hz.symm; subst hz
    refine qB ?_
    replace hst := hS.st
    obtain ⟨hcl, hmust, hav2, hA⟩ := dn (vals' := [some (.slice N0 MI.length N8), some (.slice NB MP.length NF), some (.slice N0 MI.length N8), some (.slice NB MP.length NF)]) 0 [] hA hcl hav hm hpre hk rfl rfl rfl rfl rfl rfl rfl
    clear hm hav
    refine yk hA hst ho hcl hmust [2, 3] rfl rfl rfl (by exact ⟨nA rfl, nA rfl, trivial⟩) fun a w hS => ?_
    replace hS := hS.env2 (e' := [(0, .slice Mk L0.length Ml), (4, .slice N0 MI.length N8), (5, .slice NB MP.length NF)]) ⟨rfl, rfl, rfl, trivial⟩
    refine qe ?_
    exact PF _ _ ⟨N0, N8, MI, TU, NB, NF, MP, TT, hS.to [0, 1] (by kernel_rfl) ⟨rfl, rfl, rfl, trivial⟩, S4, S3, hM⟩
  ·intro a w hI
   obtain ⟨Mi, Mj, Me, Py, Mw, Mx, Mt, Pe, hS, Nr, S5, hM⟩ := hI
   rw [qg.j1] at hM
   refine qm <| sM hS rfl fun hS => ?_
   obtain ⟨Ns, hM⟩ := qK hM
   refine sO hS (yu rfl rfl Tryd.runUnderlying66 Tryd.sizeOf3 (Nr.rd (i := 0) rfl) (fun _ => rfl) rfl Ns) rfl fun hS => sO hS (yD rfl (Nr.rd (i := 0) rfl) (fun _ => rfl) Ns rfl Tryd.isAgg3) rfl fun hS => sB hS rfl fun hS => sO hS (yu rfl rfl Tryd.runUnderlying66 Tryd.sizeOf3 (Nr.rd (i := 0) rfl) (fun _ => rfl) rfl Ns) rfl fun hS => JB (i := (256 : Int)) (sz := 1) 0 0 ((qh ((rd Me (256 : Int)) + (1 : Int)))) hS rfl rfl Nr rfl Tryd.sizeOf3 (xH (qh ((rd Me (256 : Int)) + (1 : Int)))) (fun _ => rfl) Ns rfl rfl fun NU w TV hz PY S6 hS => ?_
   have hM := qy hz hM; clear hz
   replace hS := hS.re 4 (u := .slice Mi Me.length Mj) (v := .slice Mi NU.length Mj) rfl (by rw [PY])
   replace hS := hS.re 28 (u := .slice Mi Me.length Mj) (v := .slice Mi NU.length Mj) rfl (by rw [PY])
   refine qB <| zj (fun a w => ∃ (Mh : (List Int)) (Pf : qk) (Mf : (List Int)) (Nk : qk), Ss 196 [] [(0, .slice Mk L0.length Ml), (4, .slice Mi Mh.length Mj), (5, .slice Mw Mf.length Mx)] H [Pf, Nk] F a w ∧ (xi 3 (ci .i64) 1 Mi Mh Mj Pf) ∧ (xi 3 (ci .i64) 1 Mw Mf Mx Nk) ∧ (qg.j3 K L0 Mh Mf).wp kr kp) (fun Wy SQ => ?_) ?_
   ·refine wp_seq ?_
    refine zN <| sM hS rfl fun hS => sO hS (yj rfl Tryd.runUnderlying37) rfl fun hS => sM hS rfl fun hS => qB <| xO <| zu (fun SB a w => ∃ (L5 : (List Int)) (NJ : qk) (L7 : (List Int)) (Nf : qk) (My : Int), Ss 196 [] [(0, .slice Mk L0.length Ml), (4, .slice Mi L5.length Mj), (5, .slice Mw L7.length Mx), (33, .slice Mk L0.length Ml), (34, .int .i64 (L0.length : Int)), (35, .int .i64 My)] H [NJ, Nf] F a w ∧ (xi 3 (ci .i64) 1 Mi L5 Mj NJ) ∧ (xi 3 (ci .i64) 1 Mw L7 Mx Nf) ∧ (qg.l2 K L0 SB L5 L7 My).wp kr kp) K ?_ ?_ ?_
    ·exact ⟨NU, TV, Mt, Pe, (0 : Int), hS.to [0, 1] (by kernel_rfl) ⟨rfl, rfl, rfl, rfl, rfl, rfl, trivial⟩, S6, S5, hM⟩
    ·intro a w hI; obtain ⟨_, _, _, _, _, _, _, _, hM⟩ := hI; exact zt hM
    ·intro SB a w hI Wx PG
     obtain ⟨L5, NJ, L7, Nf, My, hS, MN, M9, hM⟩ := hI
     rw [qg.l2] at hM
     refine qm <| sB hS rfl fun hS => qB <| wp_seq <| qG hS rfl hM (fun Tl hM => ?_) (fun Tl hM => ?_)
     ·refine wp_skip ?_
      refine qe <| wp_seq <| xO <| wp_seq <| zN ?_
      obtain ⟨PR, hM⟩ := qK hM
      refine sO hS (yu rfl rfl Tryd.runUnderlying37 Tryd.sizeOf57 Ny.wk (fun _ => rfl) rfl PR) rfl fun hS => sO hS (vK rfl Ny.wk (fun _ => rfl) PR Tryd.isAgg57 Tryd.sizeOf57 rfl) rfl fun hS => Qf ([.int .u8 (0 : Int), .int .i64 (0 : Int), .int .i64 (0 : Int)]) hS Tryd.zeroValue57 rfl rfl fun w WI WK SJ hS => Qs 0 ([.int .u8 ((rd L0 My).Lit_), .int .i64 ((rd L0 My).Len_), .int .i64 ((rd L0 My).Dist_)]) ([.int .u8 ((rd L0 My).Lit_), .int .i64 ((rd L0 My).Len_), .int .i64 ((rd L0 My).Dist_)]) hS rfl rfl SJ rfl rfl Tryd.sizeOf57 (by simp [Value.oneCell']) (Nat.le_of_ble_eq_true rfl) rfl fun w Se Nq hS => qB <| qm <| sO hS (xv rfl Tryd.runUnderlying57 rfl Tryd.sizeOf3 rfl) rfl fun hS => sO hS (xY 0 rfl Nq rfl rfl Tryd.isAgg3) rfl fun hS => sB hS rfl fun hS => qB <| qG hS rfl hM (fun Tm hM => ?_) (fun Tm hM => ?_)
      ·refine zN ?_
       refine sM hS rfl fun hS => sO hS (xv rfl Tryd.runUnderlying57 rfl Tryd.sizeOf5 rfl) rfl fun hS => sO hS (xY 0 rfl Nq rfl rfl Tryd.isAgg5) rfl fun hS => ?_
       obtain ⟨Nt, hM⟩ := qK hM
       refine sO hS (yu rfl rfl Tryd.runUnderlying66 Tryd.sizeOf3 (MN.rd (i := 1) rfl) (fun _ => rfl) rfl Nt) rfl fun hS => sO hS (yD rfl (MN.rd (i := 1) rfl) (fun _ => rfl) Nt rfl Tryd.isAgg3) rfl fun hS => sB hS rfl fun hS => sO hS (yu rfl rfl Tryd.runUnderlying66 Tryd.sizeOf3 (MN.rd (i := 1) rfl) (fun _ => rfl) rfl Nt) rfl fun hS => JB (i := (rd L0 My).Lit_) (sz := 1) 1 0 ((qh ((rd L5 (rd L0 My).Lit_) + (1 : Int)))) hS rfl rfl MN rfl Tryd.sizeOf3 (xH (qh ((rd L5 (rd L0 My).Lit_) + (1 : Int)))) (fun _ => rfl) Nt rfl rfl fun NV w TW hz PZ S7 hS => ?_
       have hM := qy hz hM; clear hz
       replace hS := hS.re 4 (u := .slice Mi L5.length Mj) (v := .slice Mi NV.length Mj) rfl (by rw [PZ])
       replace hS := hS.re 42 (u := .slice Mi L5.length Mj) (v := .slice Mi NV.length Mj) rfl (by rw [PZ])
       refine zp <| zy (qe ?_)
       refine zN <| sB hS rfl fun hS => sM hS rfl fun hS => zp <| qe ?_
       exact PG _ _ ⟨NV, TW, L7, Nf, (qh (My + (1 : Int))), hS.to [1, 2] (by kernel_rfl) ⟨rfl, rfl, rfl, rfl, rfl, rfl, trivial⟩, S7, M9, hM⟩
      ·refine wp_seq ?_
       refine zN <| sM hS rfl fun hS => sO hS (xv rfl Tryd.runUnderlying57 rfl Tryd.sizeOf3 rfl) rfl fun hS => sO hS (xY 0 rfl Nq rfl rfl Tryd.isAgg3) rfl fun hS => qF hS rfl Tryd.call33 (v3 hG K ((rd L0 My).Len_) (hS.st.part 0 [0, 1, 2] (by kernel_rfl)) (qs hM) (fun MW TH Wk w hM  hst => qA hS.ev hst.appF rfl fun hS => ?_))
       replace hS : Ss _ _ _ H [Se, NJ, Nf] F _ _ := hS
       refine sO hS (GJ rfl Tryd.runUnderlying77 rfl Tryd.isAgg3 rfl) rfl fun hS => ?_
       obtain ⟨Nu, hM⟩ := qK hM
       refine sO hS (yu rfl rfl Tryd.runUnderlying66 Tryd.sizeOf3 (MN.rd (i := 1) rfl) (fun _ => rfl) rfl Nu) rfl fun hS => sO hS (yD rfl (MN.rd (i := 1) rfl) (fun _ => rfl) Nu rfl Tryd.isAgg3) rfl fun hS => sB hS rfl fun hS => sO hS (yu rfl rfl Tryd.runUnderlying66 Tryd.sizeOf3 (MN.rd (i := 1) rfl) (fun _ => rfl) rfl Nu) rfl fun hS => JB (i := MW) (sz := 1) 1 0 ((qh ((rd L5 MW) + (1 : Int)))) hS rfl rfl MN rfl Tryd.sizeOf3 (xH (qh ((rd L5 MW) + (1 : Int)))) (fun _ => rfl) Nu rfl rfl fun NW w Sf hz P0 S8 hS => ?_
       have hM := qy hz hM; clear hz
       replace hS := hS.re 4 (u := .slice Mi L5.length Mj) (v := .slice Mi NW.length Mj) rfl (by rw [P0])
       replace hS := hS.re 49 (u := .slice Mi L5.length Mj) (v := .slice Mi NW.length Mj) rfl (by rw [P0])
       refine qB <| zN <| sM hS rfl fun hS => sO hS (xv rfl Tryd.runUnderlying57 rfl Tryd.sizeOf3 rfl) rfl fun hS => sO hS (xY 0 rfl Nq rfl rfl Tryd.isAgg3) rfl fun hS => qF hS rfl Tryd.call34 (vp hG K ((rd L0 My).Dist_) (hS.st.part 0 [0, 1, 2] (by kernel_rfl)) (qs hM) (fun MX TI Wl w hM  hst => qA hS.ev hst.appF rfl fun hS => ?_))
       replace hS : Ss _ _ _ H [Se, Sf, Nf] F _ _ := hS
       refine sO hS (GJ rfl Tryd.runUnderlying77 rfl Tryd.isAgg3 rfl) rfl fun hS => ?_
       obtain ⟨Nv, hM⟩ := qK hM
       refine sO hS (yu rfl rfl Tryd.runUnderlying66 Tryd.sizeOf3 (M9.rd (i := 2) rfl) (fun _ => rfl) rfl Nv) rfl fun hS => sO hS (yD rfl (M9.rd (i := 2) rfl) (fun _ => rfl) Nv rfl Tryd.isAgg3) rfl fun hS => sB hS rfl fun hS => sO hS (yu rfl rfl Tryd.runUnderlying66 Tryd.sizeOf3 (M9.rd (i := 2) rfl) (fun _ => rfl) rfl Nv) rfl fun hS => JB (i := MX) (sz := 1) 2 0 ((qh ((rd L7 MX) + (1 : Int)))) hS rfl rfl M9 rfl Tryd.sizeOf3 (xH (qh ((rd L7 MX) + (1 : Int)))) (fun _ => rfl) Nv rfl rfl fun NX w TX hz P1 S9 hS => ?_
       have hM := qy hz hM; clear hz
       replace hS := hS.re 5 (u := .slice Mw L7.length Mx) (v := .slice Mw NX.length Mx) rfl (by rw [P1])
       replace hS := hS.re 58 (u := .slice Mw L7.length Mx) (v := .slice Mw NX.length Mx) rfl (by rw [P1])
       refine zp <| zy (qe ?_)
       refine zN <| sB hS rfl fun hS => sM hS rfl fun hS => zp <| qe ?_
       exact PG _ _ ⟨NW, Sf, NX, TX, (qh (My + (1 : Int))), hS.to [1, 2] (by kernel_rfl) ⟨rfl, rfl, rfl, rfl, rfl, rfl, trivial⟩, S8, S9, hM⟩
     ·refine wp_exit ?_
      refine qE (qE (ze (qe ?_)))
      exact SQ _ _ ⟨L5, NJ, L7, Nf, hS.to [0, 1] (by kernel_rfl) ⟨rfl, rfl, rfl, trivial⟩, MN, M9, hM⟩
   ·intro a w hI
    obtain ⟨Mh, Pf, Mf, Nk, hS, Ta, Tb, hM⟩ := hI
    rw [qg.j3] at hM
    refine qm <| sM hS rfl fun hS => qF hS rfl Tryd.call36 (vr hG K Mh Mi Mj Pf Ta (hS.st.part 1 [0, 1] (by kernel_rfl)) (qs hM) (fun Mn Mq Mb L8 Nn NK w hM MR WS Sy hst => qA hS.ev hst.appF rfl fun hS => ?_) (fun v w hk hst => xo (qD (⟨hS.ev.defs, hpan _ _ hk hst.appF.frame⟩))))
    replace hS : Ss _ _ _ H [L8, NK, Nk] F _ _ := hS
    replace hS := hS.re 4 (u := .slice Mi Mh.length Mj) (v := .slice Mi Nn.length Mj) rfl (by rw [Sy])
    replace hS := hS.re 68 (u := .slice Mi Mh.length Mj) (v := .slice Mi Nn.length Mj) rfl (by rw [Sy])
    refine qF hS rfl Tryd.call35 (yU hG K Mb Mn Mq (MR.rdF (i := 0) rfl) (MR.cap (fun _ => rfl) rfl) (hS.st.part 0 [0, 1, 2] (by kernel_rfl)) (qs hM) (fun MC MF L1 L9 w hM M6 hst => qA hS.ev hst.appF rfl fun hS => ?_))
    replace hS : Ss _ _ _ H [L9, L8, NK, Nk] F _ _ := hS
    refine sM hS rfl fun hS => qF hS rfl Tryd.call36 (vr hG K Mf Mw Mx Nk Tb (hS.st.part 1 [3, 0, 1, 2] (by kernel_rfl)) (qs hM) (fun Mp Mr Mc Ma No Pz w hM MS WT Sz hst => qA hS.ev hst.appF rfl fun hS => ?_) (fun v w hk hst => xo (qD (⟨hS.ev.defs, hpan _ _ hk hst.appF.frame⟩))))
    replace hS : Ss _ _ _ H [Ma, Pz, L9, L8, NK] F _ _ := hS
    replace hS := hS.re 5 (u := .slice Mw Mf.length Mx) (v := .slice Mw No.length Mx) rfl (by rw [Sz])
    replace hS := hS.re 71 (u := .slice Mw Mf.length Mx) (v := .slice Mw No.length Mx) rfl (by rw [Sz])
    refine qF hS rfl Tryd.call35 (yU hG K Mc Mp Mr (MS.rdF (i := 0) rfl) (MS.cap (fun _ => rfl) rfl) (hS.st.part 0 [0, 1, 2, 3, 4] (by kernel_rfl)) (qs hM) (fun MD MG L3 Md w hM M7 hst => qA hS.ev hst.appF rfl fun hS => ?_))
    replace hS : Ss _ _ _ H [Md, Ma, Pz, L9, L8, NK] F _ _ := hS
    refine sO hS (Z9 ([.int .i64 (0 : Int), .slice none 0 0, .slice Mn Mb.length Mq, .slice MC L1.length MF, .slice Mp Mc.length Mr, .slice MD L3.length MG]) [(0, 2), (2, 2), (4, 2)] Tryd.zeroValue70 Tryd.runUnderlying70 (by intro w; simp [Tryd.sizeOf65, Tryd.sizeOf68]) rfl rfl) rfl fun hS => bx ([.int .i64 (0 : Int), .slice none 0 0, .slice Mn Mb.length Mq, .slice MC L1.length MF, .slice Mp Mc.length Mr, .slice MD L3.length MG]) hS rfl rfl rfl fun w LZ M3 M8 hS => ?_
    obtain ⟨M4, Tc, hS⟩ := hS.nilV 5 (ci .u8) 1
    refine sA hS rfl fun hS => qB <| wp_seq <| za (vals := [none, some (qL LZ 0), some (qL LZ 0), some (qL LZ 2), some (qL LZ 2), some (.slice Mn Mb.length Mq), none, some (qL LZ 0), some (qL LZ 0), some (qL LZ 4), some (qL LZ 4), some (.slice Mp Mc.length Mr), none, none, none]) hS xE rfl ?_
    intro l w ho hcl hA hst
    refine y9 hA hst ho hcl xx xF 0 [1, 2, 3, 4, 5, 7, 8, 9, 10, 11] rfl rfl rfl rfl rfl (by exact ⟨nM rfl, nQ rfl (by exact qX (yw rfl) rfl), nQ rfl (by exact qX (xv rfl Tryd.runUnderlying70 rfl Tryd.sizeOf68 rfl) rfl), nQ rfl (by exact qX (xv rfl Tryd.runUnderlying68 rfl Tryd.sizeOf66 rfl) rfl), nQ rfl (by exact qX (xY 1 rfl M8 rfl rfl Tryd.isAgg66) rfl), nM rfl, nQ rfl (by exact qX (yw rfl) rfl), nQ rfl (by exact qX (xv rfl Tryd.runUnderlying70 rfl Tryd.sizeOf68 rfl) rfl), nQ rfl (by exact qX (xv rfl Tryd.runUnderlying68 rfl Tryd.sizeOf66 rfl) rfl), nQ rfl (by exact qX (xY 1 rfl M8 rfl rfl Tryd.isAgg66) rfl), trivial⟩) fun D l a w ho hcl hav hpre hm hE hk hA hst => ?_
    have hS := (Ss.mk hE hst).env2 (e' := []) trivial
    refine qQ rfl <| Y3 (g := (ci .i64)) ([] : List Int) [] hS Tryd.runUnderlying66 Tryd.sizeOf3 X.el3 rfl rfl rfl (by simp [Value.cells]) rfl rfl rfl rfl rfl fun w NC NG WL Td hS => qB ?_
    replace hst := hS.st
    obtain ⟨hcl, hmust, hav2, hA⟩ := dn (vals' := [some (.slice NC ([] : List Int).length NG), some (qL LZ 0), some (qL LZ 0), some (qL LZ 2), some (qL LZ 2), some (.slice Mn Mb.length Mq), none, some (qL LZ 0), some (qL LZ 0), some (qL LZ 4), some (qL LZ 4), some (.slice Mp Mc.length Mr), none, none, none]) 0 [] hA hcl hav hm hpre hk rfl rfl rfl rfl rfl rfl rfl
    clear hm hav
    refine y9 hA hst ho hcl hav2 hmust 6 [1, 2, 3, 4, 5, 7, 8, 9, 10, 11] rfl rfl rfl rfl rfl (by exact ⟨nM rfl, nQ rfl (by exact qX (yw rfl) rfl), nQ rfl (by exact qX (xv rfl Tryd.runUnderlying70 rfl Tryd.sizeOf68 rfl) rfl), nQ rfl (by exact qX (xv rfl Tryd.runUnderlying68 rfl Tryd.sizeOf66 rfl) rfl), nQ rfl (by exact qX (xY 2 rfl M8 rfl rfl Tryd.isAgg66) rfl), nM rfl, nQ rfl (by exact qX (yw rfl) rfl), nQ rfl (by exact qX (xv rfl Tryd.runUnderlying70 rfl Tryd.sizeOf68 rfl) rfl), nQ rfl (by exact qX (xv rfl Tryd.runUnderlying68 rfl Tryd.sizeOf66 rfl) rfl), nQ rfl (by exact qX (xY 2 rfl M8 rfl rfl Tryd.isAgg66) rfl), trivial⟩) fun D l a w ho hcl hav hpre hm hE hk hA hst => ?_
    have hS := (Ss.mk hE hst).env2 (e' := [(76, .slice NC ([] : List Int).length NG), (81, .slice Mn Mb.length Mq)]) ⟨rfl, rfl, trivial⟩
    refine qQ rfl ?_
    obtain ⟨Ts, hM⟩ := qK hM
    refine JA (ys := Mb) 0 hS rfl rfl Td rfl (MR.rd (i := 7) rfl) Tryd.runUnderlying66 Tryd.runUnderlying66 X.el3 (fun _ => rfl) rfl xH Ts rfl fun Nz w N1 N9 WM hz Te hS => ?_
    have hM := qy hz hM; clear hz
    refine qB ?_
    replace hst := hS.st
    obtain ⟨hcl, hmust, hav2, hA⟩ := dn (vals' := [some (.slice NC ([] : List Int).length NG), some (qL LZ 0), some (qL LZ 0), some (qL LZ 2), some (qL LZ 2), some (.slice Mn Mb.length Mq), some (.slice N1 Nz.length N9), some (qL LZ 0), some (qL LZ 0), some (qL LZ 4), some (qL LZ 4), some (.slice Mp Mc.length Mr), none, none, none]) 6 [(0, 6), (5, 6), (4, 5), (3, 4), (2, 3), (1, 2)] hA hcl hav hm hpre hk rfl rfl rfl rfl rfl rfl rfl
    clear hm hav
    refine y9 hA hst ho hcl hav2 hmust 12 [7, 8, 9, 10, 11] rfl rfl rfl rfl rfl (by exact ⟨nM rfl, nQ rfl (by exact qX (yw rfl) rfl), nQ rfl (by exact qX (xv rfl Tryd.runUnderlying70 rfl Tryd.sizeOf68 rfl) rfl), nQ rfl (by exact qX (xv rfl Tryd.runUnderlying68 rfl Tryd.sizeOf66 rfl) rfl), nQ rfl (by exact qX (xY 2 rfl M8 rfl rfl Tryd.isAgg66) rfl), trivial⟩) fun D l a w ho hcl hav hpre hm hE hk hA hst => ?_
    have hS := (Ss.mk hE hst).env2 (e' := [(82, .slice N1 Nz.length N9), (87, .slice Mp Mc.length Mr)]) ⟨rfl, rfl, trivial⟩
    refine qQ rfl ?_
    obtain ⟨Tt, hM⟩ := qK hM
    refine JA (ys := Mc) 0 hS rfl rfl Te rfl (MS.rd (i := 4) rfl) Tryd.runUnderlying66 Tryd.runUnderlying66 X.el3 (fun _ => rfl) rfl xH Tt rfl fun NA w N2 Pa TY hz PI hS => ?_
    have hM := qy hz hM; clear hz
    refine qB ?_
    replace hst := hS.st
    obtain ⟨hcl, hmust, hav2, hA⟩ := dn (vals' := [some (.slice NC ([] : List Int).length NG), some (qL LZ 0), some (qL LZ 0), some (qL LZ 2), some (qL LZ 2), some (.slice Mn Mb.length Mq), some (.slice N1 Nz.length N9), some (qL LZ 0), some (qL LZ 0), some (qL LZ 4), some (qL LZ 4), some (.slice Mp Mc.length Mr), some (.slice N2 NA.length Pa), none, none]) 12 [(6, 12), (11, 12), (0, 6), (5, 6), (10, 11), (4, 5), (9, 10), (3, 4), (8, 9), (2, 3), (7, 8), (1, 2)] hA hcl hav hm hpre hk rfl rfl rfl rfl rfl rfl rfl
    clear hm hav
    refine y9 hA hst ho hcl hav2 hmust 13 [] rfl rfl rfl rfl rfl trivial fun D l a w ho hcl hav hpre hm hE hk hA hst => ?_
    have hS := (Ss.mk hE hst).env2 (e' := [(88, .slice N2 NA.length Pa)]) ⟨rfl, trivial⟩
    refine qQ rfl <| qF hS rfl Tryd.call37 (Zi hG K NA N2 Pa (PI.rdF (i := 0) rfl) (PI.cap (fun _ => rfl) rfl) (hS.st.part 0 [0, 1, 2, 3, 4, 5, 6, 7, 8] (by kernel_rfl)) (qs hM) (fun ME MH L4 Mu w hM Po hst => qA hS.ev hst.appF rfl fun hS => ?_))
    replace hS : Ss _ _ _ H [Mu, TY, M4, M3, Md, Ma, Pz, L9, L8, NK] F _ _ := hS
    refine qB ?_
    replace hst := hS.st
    obtain ⟨hcl, hmust, hav2, hA⟩ := dn (vals' := [some (.slice NC ([] : List Int).length NG), some (qL LZ 0), some (qL LZ 0), some (qL LZ 2), some (qL LZ 2), some (.slice Mn Mb.length Mq), some (.slice N1 Nz.length N9), some (qL LZ 0), some (qL LZ 0), some (qL LZ 4), some (qL LZ 4), some (.slice Mp Mc.length Mr), some (.slice N2 NA.length Pa), some (.slice ME L4.length MH), some (.slice ME L4.length MH)]) 13 [(12, 13), (6, 12), (11, 12), (0, 6), (5, 6), (10, 11), (4, 5), (9, 10), (3, 4), (8, 9), (2, 3), (7, 8), (1, 2)] hA hcl hav hm hpre hk rfl rfl rfl rfl rfl rfl rfl
    clear hm hav
    refine yk hA hst ho hcl hmust [14] rfl rfl rfl (by exact ⟨nA rfl, trivial⟩) fun a w hS => ?_
    replace hS := hS.env2 (e' := [(0, .slice Mk L0.length Ml), (8, qL LZ 0), (9, .slice ME L4.length MH)]) ⟨rfl, rfl, rfl, trivial⟩
    refine qe <| wp_seq <| zN ?_
    obtain ⟨Tu, hM⟩ := qK hM
    refine BC (g := (ci .i64)) (m := (19 : Int)) (0 : Int) hS rfl rfl (by simp) Tryd.runUnderlying66 X.el3 (fun w => ⟨_, Tryd.zeroValue3 w, rfl⟩) (fun _ => rfl) rfl rfl Tu rfl fun Ty w L6 Mg TZ hz Tf hS => ?_
    have hM := qy hz hM; clear hz
    refine sA hS rfl fun hS => qB <| zj (fun a w => ∃ (LY : (List Int)) (Nl : qk), Ss 196 [] [(0, .slice Mk L0.length Ml), (8, qL LZ 0), (9, .slice ME L4.length MH), (10, .slice L6 LY.length Mg)] H [M3, M4, L8, L9, Ma, Md, Mu, Nl] F a w ∧ (xi 3 (ci .i64) 1 L6 LY Mg Nl) ∧ (qg.j5 K L0 Mb L1 Mc L3 L4 LY).wp kr kp) (fun WA ST => ?_) ?_
    ·refine wp_seq ?_
     refine zN <| sM hS rfl fun hS => sO hS (yj rfl Tryd.runUnderlying81) rfl fun hS => sM hS rfl fun hS => qB <| xO <| zu (fun SC a w => ∃ (Mm : (List Int)) (Pg : qk) (MM : Int), Ss 196 [] [(0, .slice Mk L0.length Ml), (8, qL LZ 0), (9, .slice ME L4.length MH), (10, .slice L6 Mm.length Mg), (91, .slice ME L4.length MH), (92, .int .i64 (L4.length : Int)), (93, .int .i64 MM)] H [M3, M4, L8, L9, Ma, Md, Mu, Pg] F a w ∧ (xi 3 (ci .i64) 1 L6 Mm Mg Pg) ∧ (qg.l4 K L0 Mb L1 Mc L3 L4 SC Mm MM).wp kr kp) K ?_ ?_ ?_
     ·exact ⟨Ty, TZ, (0 : Int), hS.to [4, 3, 9, 8, 6, 5, 1, 0] (by kernel_rfl) ⟨rfl, rfl, rfl, rfl, rfl, rfl, rfl, trivial⟩, Tf, hM⟩
     ·intro a w hI; obtain ⟨_, _, _, _, _, hM⟩ := hI; exact zt hM
     ·intro SC a w hI Wz SR
      obtain ⟨Mm, Pg, MM, hS, Ng, hM⟩ := hI
      rw [qg.l4] at hM
      refine qm <| sB hS rfl fun hS => qB <| wp_seq <| qG hS rfl hM (fun Tn hM => ?_) (fun Tn hM => ?_)
      ·refine wp_skip ?_
       refine qe <| wp_seq <| xO <| wp_seq <| zN ?_
       obtain ⟨PS, hM⟩ := qK hM
       refine sO hS (yu rfl rfl Tryd.runUnderlying81 Tryd.sizeOf84 (Po.rd (i := 6) rfl) (fun _ => rfl) rfl PS) rfl fun hS => sO hS (vK rfl (Po.rd (i := 6) rfl) (fun _ => rfl) PS Tryd.isAgg84 Tryd.sizeOf84 rfl) rfl fun hS => Qf ([.int .i64 (0 : Int), .int .i64 (0 : Int), .int .i64 (0 : Int)]) hS Tryd.zeroValue84 rfl rfl fun w WJ WN SK hS => Qs 0 ([.int .i64 ((rd L4 MM).symbol_), .int .i64 ((rd L4 MM).more_), .int .i64 ((rd L4 MM).bits_)]) ([.int .i64 ((rd L4 MM).symbol_), .int .i64 ((rd L4 MM).more_), .int .i64 ((rd L4 MM).bits_)]) hS rfl rfl SK rfl rfl Tryd.sizeOf84 (by simp [Value.oneCell']) (Nat.le_of_ble_eq_true rfl) rfl fun w WO SL hS => qB <| zN <| sM hS rfl fun hS => sO hS (xv rfl Tryd.runUnderlying84 rfl Tryd.sizeOf3 rfl) rfl fun hS => sO hS (xY 0 rfl SL rfl rfl Tryd.isAgg3) rfl fun hS => ?_
       obtain ⟨Nw, hM⟩ := qK hM
       refine sO hS (yu rfl rfl Tryd.runUnderlying66 Tryd.sizeOf3 (Ng.rd (i := 8) rfl) (fun _ => rfl) rfl Nw) rfl fun hS => sO hS (yD rfl (Ng.rd (i := 8) rfl) (fun _ => rfl) Nw rfl Tryd.isAgg3) rfl fun hS => sB hS rfl fun hS => sO hS (yu rfl rfl Tryd.runUnderlying66 Tryd.sizeOf3 (Ng.rd (i := 8) rfl) (fun _ => rfl) rfl Nw) rfl fun hS => JB (i := (rd L4 MM).symbol_) (sz := 1) 8 0 ((qh ((rd Mm (rd L4 MM).symbol_) + (1 : Int)))) hS rfl rfl Ng rfl Tryd.sizeOf3 (xH (qh ((rd Mm (rd L4 MM).symbol_) + (1 : Int)))) (fun _ => rfl) Nw rfl rfl fun NY w T0 hz P2 Tg hS => ?_
       have hM := qy hz hM; clear hz
       replace hS := hS.re 10 (u := .slice L6 Mm.length Mg) (v := .slice L6 NY.length Mg) rfl (by rw [P2])
       replace hS := hS.re 97 (u := .slice L6 Mm.length Mg) (v := .slice L6 NY.length Mg) rfl (by rw [P2])
       refine zp <| zy (qe ?_)
       refine zN <| sB hS rfl fun hS => sM hS rfl fun hS => zp <| qe ?_
       exact SR _ _ ⟨NY, T0, (qh (MM + (1 : Int))), hS.to [1, 2, 3, 4, 5, 6, 7, 8] (by kernel_rfl) ⟨rfl, rfl, rfl, rfl, rfl, rfl, rfl, trivial⟩, Tg, hM⟩
      ·refine wp_exit ?_
       refine qE (qE (ze (qe ?_)))
       exact ST _ _ ⟨Mm, Pg, hS.to [0, 1, 2, 3, 4, 5, 6, 7] (by kernel_rfl) ⟨rfl, rfl, rfl, rfl, trivial⟩, Ng, hM⟩
    ·intro a w hI
     obtain ⟨LY, Nl, hS, MO, hM⟩ := hI
     rw [qg.j5] at hM
     refine qm <| sA hS rfl fun hS => qB <| zj (fun a w => ∃ (NT : Int), Ss 196 [] [(0, .slice Mk L0.length Ml), (8, qL LZ 0), (9, .slice ME L4.length MH), (10, .slice L6 LY.length Mg), (13, .int .i64 NT)] H [M3, M4, L8, L9, Ma, Md, Mu, Nl] F a w ∧ (qg.j7 K L0 Mb L1 Mc L3 L4 LY NT).wp kr kp) (fun WC SV => ?_) ?_
     ·refine wp_seq ?_
      refine zN <| sM hS rfl fun hS => sO hS (yj rfl Tryd.runUnderlying66) rfl fun hS => sM hS rfl fun hS => qB <| xO <| zu (fun SD a w => ∃ (Nh : Int) (NP : Int), Ss 196 [] [(0, .slice Mk L0.length Ml), (8, qL LZ 0), (9, .slice ME L4.length MH), (10, .slice L6 LY.length Mg), (13, .int .i64 Nh), (105, .slice L6 LY.length Mg), (106, .int .i64 (LY.length : Int)), (107, .int .i64 NP)] H [M3, M4, L8, L9, Ma, Md, Mu, Nl] F a w ∧ (qg.l6 K L0 Mb L1 Mc L3 L4 LY SD Nh NP).wp kr kp) K ?_ ?_ ?_
      ·exact ⟨(0 : Int), (0 : Int), hS.to [0, 1, 2, 3, 4, 5, 6, 7] (by kernel_rfl) ⟨rfl, rfl, rfl, rfl, rfl, rfl, rfl, rfl, trivial⟩, hM⟩
      ·intro a w hI; obtain ⟨_, _, _, hM⟩ := hI; exact zt hM
      ·intro SD a w hI WB SU
       obtain ⟨Nh, NP, hS, hM⟩ := hI
       rw [qg.l6] at hM
       refine qm <| sB hS rfl fun hS => qB <| wp_seq <| qG hS rfl hM (fun To hM => ?_) (fun To hM => ?_)
       ·refine wp_skip ?_
        refine qe <| wp_seq <| xO <| wp_seq <| zN ?_
        obtain ⟨PT, hM⟩ := qK hM
        refine sO hS (yu rfl rfl Tryd.runUnderlying66 Tryd.sizeOf3 (MO.rd (i := 7) rfl) (fun _ => rfl) rfl PT) rfl fun hS => sO hS (yD rfl (MO.rd (i := 7) rfl) (fun _ => rfl) PT rfl Tryd.isAgg3) rfl fun hS => zE (v := Value.int .i64) (x0 := (rd LY NP)) hS (xy rfl) rfl fun P4 a w hz hS => ?_
        have hM := qy hz hM; clear hz
        refine qB <| zN <| sM hS rfl fun hS => sM hS rfl fun hS => sO hS (VS rfl rfl) rfl fun hS => sB hS rfl fun hS => zE (v := Value.int .i64) (x0 := (qh (Nh + (if (1 : Int) < P4 then (1 : Int) else P4)))) hS (xy rfl) rfl fun Tx a w hz hS => ?_
        have hM := qy hz hM; clear hz
        refine zp <| zy (qe ?_)
        refine zN <| sB hS rfl fun hS => sM hS rfl fun hS => zp <| qe ?_
        exact SU _ _ ⟨Tx, (qh (NP + (1 : Int))), hS.to [0, 1, 2, 3, 4, 5, 6, 7] (by kernel_rfl) ⟨rfl, rfl, rfl, rfl, rfl, rfl, rfl, rfl, trivial⟩, hM⟩
       ·refine wp_exit ?_
        refine qE (qE (ze (qe ?_)))
        exact SV _ _ ⟨Nh, hS.to [0, 1, 2, 3, 4, 5, 6, 7] (by kernel_rfl) ⟨rfl, rfl, rfl, rfl, rfl, trivial⟩, hM⟩
     ·intro a w hI
      obtain ⟨NT, hS, hM⟩ := hI
      rw [qg.j7] at hM
      refine zj (fun a w => ∃ (ML : (List Int)) (M5 : qk), Ss 196 [] [(0, .slice Mk L0.length Ml), (8, qL LZ 0), (9, .slice ME L4.length MH), (10, .slice L6 ML.length Mg)] H [M3, M4, L8, L9, Ma, Md, Mu, M5] F a w ∧ (xi 3 (ci .i64) 1 L6 ML Mg M5) ∧ (qg.j8 K L0 Mb L1 Mc L3 L4 ML).wp kr kp) (fun WD PH => ?_) ?_
      ·refine wp_seq ?_
       refine zN <| sM hS rfl fun hS => sB hS rfl fun hS => qB <| qG hS rfl hM (fun Tp hM => ?_) (fun Tp hM => ?_)
       ·obtain ⟨Nx, hM⟩ := qK hM
        obtain ⟨PU, hM⟩ := qK hM
        refine za (vals := [some (.slice L6 LY.length Mg), some (.slice L6 LY.length Mg), some (.slice L6 LY.length Mg), some (xG L6 (Int.toNat (0 : Int) * 1)), some (.int .i64 (rd LY (0 : Int))), some (.int .i64 (if (1 : Int) > (rd LY (0 : Int)) then (1 : Int) else (rd LY (0 : Int)))), some (.slice L6 LY.length Mg), some (xG L6 (Int.toNat (1 : Int) * 1)), some (.int .i64 (rd LY (1 : Int))), some (.int .i64 (if (1 : Int) > (rd LY (1 : Int)) then (1 : Int) else (rd LY (1 : Int)))), some (xG L6 (Int.toNat (0 : Int) * 1)), none, none, none]) hS xE rfl ?_
        intro l w ho hcl hA hst
        refine y9 hA hst ho hcl xx xF 11 [0, 1, 2, 3, 4, 5, 6, 7, 8, 9, 10] rfl rfl rfl rfl rfl (by exact ⟨nM rfl, nM rfl, nM rfl, nQ rfl (by exact qX (yu rfl rfl Tryd.runUnderlying66 Tryd.sizeOf3 (MO.rd (i := 7) rfl) (fun _ => rfl) rfl Nx) rfl), nQ rfl (by exact qX (yD rfl (MO.rd (i := 7) rfl) (fun _ => rfl) Nx rfl Tryd.isAgg3) rfl), nQ rfl (by exact qX (B3 rfl rfl) rfl), nM rfl, nQ rfl (by exact qX (yu rfl rfl Tryd.runUnderlying66 Tryd.sizeOf3 (MO.rd (i := 7) rfl) (fun _ => rfl) rfl PU) rfl), nQ rfl (by exact qX (yD rfl (MO.rd (i := 7) rfl) (fun _ => rfl) PU rfl Tryd.isAgg3) rfl), nQ rfl (by exact qX (B3 rfl rfl) rfl), nQ rfl (by exact qX (yu rfl rfl Tryd.runUnderlying66 Tryd.sizeOf3 (MO.rd (i := 7) rfl) (fun _ => rfl) rfl Nx) rfl), trivial⟩) fun D l a w ho hcl hav hpre hm hE hk hA hst => ?_
        have hS := (Ss.mk hE hst).env2 (e' := [(123, .int .i64 (if (1 : Int) > (rd LY (0 : Int)) then (1 : Int) else (rd LY (0 : Int)))), (128, xG L6 (Int.toNat (0 : Int) * 1))]) ⟨rfl, rfl, trivial⟩
        refine qQ rfl <| JB (i := (0 : Int)) (sz := 1) 7 0 ((if (1 : Int) > (rd LY (0 : Int)) then (1 : Int) else (rd LY (0 : Int)))) hS rfl rfl MO rfl Tryd.sizeOf3 (xH (if (1 : Int) > (rd LY (0 : Int)) then (1 : Int) else (rd LY (0 : Int)))) (fun _ => rfl) Nx rfl rfl fun Wv w WP hz P3 PJ hS => ?_
        have hM := qy hz hM; clear hz
        refine qB ?_
        replace hst := hS.st
        obtain ⟨PV, hM⟩ := qK hM
        obtain ⟨hcl, hmust, hav2, hA⟩ := Xx (vals' := [some (.slice L6 LY.length Mg), some (.slice L6 LY.length Mg), some (.slice L6 LY.length Mg), some (xG L6 (Int.toNat (0 : Int) * 1)), some (.int .i64 (rd LY (0 : Int))), some (.int .i64 (if (1 : Int) > (rd LY (0 : Int)) then (1 : Int) else (rd LY (0 : Int)))), some (.slice L6 LY.length Mg), some (xG L6 (Int.toNat (1 : Int) * 1)), some (.int .i64 (rd LY (1 : Int))), some (.int .i64 (if (1 : Int) > (rd LY (1 : Int)) then (1 : Int) else (rd LY (1 : Int)))), some (xG L6 (Int.toNat (0 : Int) * 1)), some undef, some (xG L6 (Int.toNat (1 : Int) * 1)), none]) 11 [(0, 11), (2, 11), (3, 11), (4, 11), (5, 11), (8, 11), (10, 11), (7, 8), (6, 7)] hA hcl hav hm hpre rfl rfl rfl rfl rfl
        clear hm hav
        refine y9 hA hst ho hcl hav2 hmust 13 [1, 9, 12] rfl rfl rfl rfl rfl (by exact ⟨nM rfl, nQ rfl (by exact qX (B3 rfl rfl) rfl), nQ rfl (by exact qX (yu (KY P3 rfl) rfl Tryd.runUnderlying66 Tryd.sizeOf3 (PJ.rd (i := 7) rfl) (fun _ => rfl) rfl PV) rfl), trivial⟩) fun D l a w ho hcl hav hpre hm hE hk hA hst => ?_
        have hS := (Ss.mk hE hst).env2 (e' := [(127, .int .i64 (if (1 : Int) > (rd LY (1 : Int)) then (1 : Int) else (rd LY (1 : Int)))), (129, xG L6 (Int.toNat (1 : Int) * 1))]) ⟨rfl, rfl, trivial⟩
        refine qQ rfl <| JB (i := (1 : Int)) (sz := 1) 7 0 ((if (1 : Int) > (rd LY (1 : Int)) then (1 : Int) else (rd LY (1 : Int)))) hS rfl rfl PJ rfl Tryd.sizeOf3 (xH (if (1 : Int) > (rd LY (1 : Int)) then (1 : Int) else (rd LY (1 : Int)))) (fun _ => rfl) PV rfl rfl fun P5 w T3 hz Tw Th hS => ?_
        have hM := qy hz hM; clear hz
        refine qB ?_
        replace hst := hS.st
        obtain ⟨hcl, hmust, hav2, hA⟩ := Xx (vals' := [some (.slice L6 LY.length Mg), some (.slice L6 LY.length Mg), some (.slice L6 LY.length Mg), some (xG L6 (Int.toNat (0 : Int) * 1)), some (.int .i64 (rd LY (0 : Int))), some (.int .i64 (if (1 : Int) > (rd LY (0 : Int)) then (1 : Int) else (rd LY (0 : Int)))), some (.slice L6 LY.length Mg), some (xG L6 (Int.toNat (1 : Int) * 1)), some (.int .i64 (rd LY (1 : Int))), some (.int .i64 (if (1 : Int) > (rd LY (1 : Int)) then (1 : Int) else (rd LY (1 : Int)))), some (xG L6 (Int.toNat (0 : Int) * 1)), some undef, some (xG L6 (Int.toNat (1 : Int) * 1)), some undef]) 13 [(0, 13), (1, 13), (2, 13), (3, 13), (4, 13), (5, 13), (6, 13), (7, 13), (8, 13), (9, 13), (10, 13), (11, 13), (12, 13)] hA hcl hav hm hpre rfl rfl rfl rfl rfl
        clear hm hav
        refine yk hA hst ho hcl hmust [] rfl rfl rfl trivial fun a w hS => ?_
        replace hS := hS.env2 (e' := [(0, .slice Mk L0.length Ml), (8, qL LZ 0), (9, .slice ME L4.length MH), (10, .slice L6 P5.length Mg)]) ⟨rfl, rfl, rfl, (Kc (u := .slice L6 LY.length Mg) rfl (by rw [Tw, P3])), trivial⟩
        refine qe ?_
        exact PH _ _ ⟨P5, T3, hS.to [0, 1, 2, 3, 4, 5, 6, 7] (by kernel_rfl) ⟨rfl, rfl, rfl, rfl, trivial⟩, Th, hM⟩
       ·refine wp_skip ?_
        refine qe ?_
        exact PH _ _ ⟨LY, Nl, hS.to [0, 1, 2, 3, 4, 5, 6, 7] (by kernel_rfl) ⟨rfl, rfl, rfl, rfl, trivial⟩, MO, hM⟩
      ·intro a w hI
       obtain ⟨ML, M5, hS, PL, hM⟩ := hI
       rw [qg.j8] at hM
       refine qm <| sM hS rfl fun hS => qF hS rfl Tryd.call38 (uV hG K ML (7 : Int) L6 Mg (PL.rdF (i := 7) rfl) (PL.cap (fun _ => rfl) rfl) (hS.st.part 0 [0, 1, 2, 3, 4, 5, 6, 7] (by kernel_rfl)) (qs hM) (fun MY Nd Mz MQ WV w hM Nm hst => qA hS.ev hst.appF rfl fun hS => ?_) (fun v w hk hst => xo (qD (⟨hS.ev.defs, hpan _ _ hk hst.appF.frame⟩))))
       replace hS : Ss _ _ _ H [MQ, M3, M4, L8, L9, Ma, Md, Mu, M5] F _ _ := hS
       refine sM hS rfl fun hS => sO hS (ex rfl rfl) rfl fun hS => sO hS (ex rfl rfl) rfl fun hS => sA hS rfl fun hS => sA hS rfl fun hS => qB <| qm <| sM hS rfl fun hS => qF hS rfl Tryd.call35 (yU hG K Mz MY Nd (Nm.rdF (i := 0) rfl) (Nm.cap (fun _ => rfl) rfl) (hS.st.part 0 [0, 1, 2, 3, 4, 5, 6, 7, 8] (by kernel_rfl)) (qs hM) (fun N3 Pb Mv MT w hM SA hst => qA hS.ev hst.appF rfl fun hS => ?_))
       replace hS : Ss _ _ _ H [MT, MQ, M3, M4, L8, L9, Ma, Md, Mu, M5] F _ _ := hS
       refine Qf ([.slice none 0 0, .slice none 0 0]) hS Tryd.zeroValue68 rfl rfl fun w Nc WQ SM hS => ?_
       obtain ⟨Ph, Wp, hS⟩ := hS.nilV 3 (ci .i64) 1
       obtain ⟨Pi, Wq, hS⟩ := hS.nilV 3 (ci .i64) 1
       refine Qs 2 ([.slice MY Mz.length Nd, .slice N3 Mv.length Pb]) ([.slice MY Mz.length Nd, .slice N3 Mv.length Pb]) hS rfl rfl SM rfl rfl Tryd.sizeOf68 (by simp [Value.oneCell']) (Nat.le_of_ble_eq_true rfl) rfl fun w MU PC hS => qB <| qm <| sM hS rfl fun hS => sO hS (yw rfl) rfl fun hS => sO hS (xv rfl Tryd.runUnderlying70 rfl Tryd.sizeOf65 rfl) rfl fun hS => qF hS rfl Tryd.call30 (zk hG K (qp.mk (qR.mk (qr.mk (0 : Int)) ([] : List Int)) (qv.mk Mb L1) (qv.mk Mc L3)) (5 : Int) (3 : Int) LZ M3 none (0) M4 Mn Mq L8 MC MF L9 Mp Mr Ma MD MG Md M8 Tc MR M6 MS M7 (hS.st.part 6 [5, 6, 7, 8, 9, 10, 0, 1, 2, 3, 4, 11, 12] (by kernel_rfl)) (qs hM) (fun WW P6 Tz TJ Pp Sg Sh w hM T4 T5 hst => qA hS.ev hst.appF rfl fun hS => ?_))
       replace hS : Ss _ _ _ H [Sh, Sg, L8, L9, Ma, Md, Pi, Ph, MU, MT, MQ, Mu, M5] F _ _ := hS
       refine qB <| qm <| sM hS rfl fun hS => sO hS (yw rfl) rfl fun hS => sO hS (xv rfl Tryd.runUnderlying70 rfl Tryd.sizeOf65 rfl) rfl fun hS => qF hS rfl Tryd.call30 (zk hG K (qp.mk (qR.mk (qr.mk P6) Pp) (qv.mk Mb L1) (qv.mk Mc L3)) (29 : Int) (5 : Int) LZ Sh Tz TJ Sg Mn Mq L8 MC MF L9 Mp Mr Ma MD MG Md T5 T4 MR M6 MS M7 (hS.st.part 6 [0, 1, 2, 3, 4, 5, 6, 7, 8, 9, 10, 11, 12] (by kernel_rfl)) (qs hM) (fun WX P7 TA TK Pq Si Sj w hM T6 T7 hst => qA hS.ev hst.appF rfl fun hS => ?_))
       replace hS : Ss _ _ _ H [Sj, Si, L8, L9, Ma, Md, Pi, Ph, MU, MT, MQ, Mu, M5] F _ _ := hS
       refine qB <| qm <| sM hS rfl fun hS => sO hS (yw rfl) rfl fun hS => sO hS (xv rfl Tryd.runUnderlying70 rfl Tryd.sizeOf65 rfl) rfl fun hS => qF hS rfl Tryd.call30 (zk hG K (qp.mk (qR.mk (qr.mk P7) Pq) (qv.mk Mb L1) (qv.mk Mc L3)) (29 : Int) (5 : Int) LZ Sj TA TK Si Mn Mq L8 MC MF L9 Mp Mr Ma MD MG Md T7 T6 MR M6 MS M7 (hS.st.part 6 [0, 1, 2, 3, 4, 5, 6, 7, 8, 9, 10, 11, 12] (by kernel_rfl)) (qs hM) (fun WY P8 TB TL Pr Sk Sm w hM T8 T9 hst => qA hS.ev hst.appF rfl fun hS => ?_))
       replace hS : Ss _ _ _ H [Sm, Sk, L8, L9, Ma, Md, Pi, Ph, MU, MT, MQ, Mu, M5] F _ _ := hS
       refine qB <| qm <| sM hS rfl fun hS => sO hS (yw rfl) rfl fun hS => sO hS (xv rfl Tryd.runUnderlying70 rfl Tryd.sizeOf65 rfl) rfl fun hS => qF hS rfl Tryd.call30 (zk hG K (qp.mk (qR.mk (qr.mk P8) Pr) (qv.mk Mb L1) (qv.mk Mc L3)) (15 : Int) (4 : Int) LZ Sm TB TL Sk Mn Mq L8 MC MF L9 Mp Mr Ma MD MG Md T9 T8 MR M6 MS M7 (hS.st.part 6 [0, 1, 2, 3, 4, 5, 6, 7, 8, 9, 10, 11, 12] (by kernel_rfl)) (qs hM) (fun WZ P9 TC TM Ps Sn So w hM Wa Wb hst => qA hS.ev hst.appF rfl fun hS => ?_))
       replace hS : Ss _ _ _ H [So, Sn, L8, L9, Ma, Md, Pi, Ph, MU, MT, MQ, Mu, M5] F _ _ := hS
       refine qB <| zj (fun a w => ∃ (Na : Int) (N4 : Option Addr) (Pc : Nat) (MJ : (List Int)) (Pj : qk) (Pk : qk), Ss 196 [] [(0, .slice Mk L0.length Ml), (8, qL LZ 0), (9, .slice ME L4.length MH), (18, qL Nc 0)] H [Pk, Pj, L8, L9, Ma, Md, Mu, MU, MQ, MT] F a w ∧ (xi 5 (ci .u8) 1 N4 MJ Pc Pj) ∧ (xJ Pk LZ ([.int .i64 Na, .slice N4 MJ.length Pc, .slice Mn Mb.length Mq, .slice MC L1.length MF, .slice Mp Mc.length Mr, .slice MD L3.length MG]) 70) ∧ (qg.j10 K L0 Mb L1 Mc L3 L4 Mz Mv Na MJ).wp kr kp) (fun WF SX => ?_) ?_
       ·refine wp_seq ?_
        refine zN <| sO hS (DG rfl hG.g0 (by rfl) Tryd.isAgg87 Tryd.sizeOf87) rfl fun hS => sM hS rfl fun hS => qB <| xO <| zu (fun SE a w => ∃ (MZ : Int) (ND : Option Addr) (NH : Nat) (MA : (List Int)) (NL : qk) (NM : qk) (Np : Int), Ss 196 [] [(0, .slice Mk L0.length Ml), (8, qL LZ 0), (9, .slice ME L4.length MH), (18, qL Nc 0), (153, .agg ⟨tab_deflate_order.flatMap (ci .i64)⟩), (154, .int .i64 Np)] H [NM, NL, L8, L9, Ma, Md, Mu, MU, MQ, MT] F a w ∧ (xi 5 (ci .u8) 1 ND MA NH NL) ∧ (xJ NM LZ ([.int .i64 MZ, .slice ND MA.length NH, .slice Mn Mb.length Mq, .slice MC L1.length MF, .slice Mp Mc.length Mr, .slice MD L3.length MG]) 70) ∧ (qg.l9 K L0 Mb L1 Mc L3 L4 Mz Mv SE MZ MA Np).wp kr kp) K ?_ ?_ ?_
        ·exact ⟨P9, TC, TM, Ps, Sn, So, (0 : Int), hS.to [0, 1, 2, 3, 4, 5, 11, 8, 10, 9] (by kernel_rfl) ⟨rfl, rfl, rfl, rfl, rfl, rfl, trivial⟩, Wa, Wb, hM⟩
        ·intro a w hI; obtain ⟨_, _, _, _, _, _, _, _, _, _, hM⟩ := hI; exact zt hM
        ·intro SE a w hI WE SW
         obtain ⟨MZ, ND, NH, MA, NL, NM, Np, hS, PM, PD, hM⟩ := hI
         rw [qg.l9] at hM
         refine qm <| sB hS rfl fun hS => qB <| wp_seq <| qG hS rfl hM (fun Tq hM => ?_) (fun Tq hM => ?_)
         ·refine wp_skip ?_
          refine qe <| wp_seq <| xO <| wp_seq <| zN ?_
          obtain ⟨Tv, hM⟩ := qK hM
          refine sO hS (Lh rfl rfl Tryd.runUnderlying87 Tryd.isAgg3 Tryd.sizeOf3 (fun _ => rfl) uO Tv rfl) rfl fun hS => zE (v := Value.int .i64) (x0 := (rd tab_deflate_order Np)) hS (xy rfl) rfl fun MV a w hz hS => ?_
          have hM := qy hz hM; clear hz
          refine zp <| qe ?_
          obtain ⟨PW, hM⟩ := qK hM
          refine za (vals := [some (qL LZ 0), some (qL LZ 0), some (qL LZ 0), some (qL Nc 0), some (.slice MY Mz.length Nd), some (.int .i64 MV), some (xG MY (Int.toNat MV * 1)), some (.int .i64 (rd Mz MV)), some (.int .u32 (wr .u32 (rd Mz MV))), none]) hS xE rfl ?_
          intro l w ho hcl hA hst
          refine y9 hA hst ho hcl xx xF 9 [0, 1, 2, 3, 4, 5, 6, 7, 8] rfl rfl rfl rfl rfl (by exact ⟨nM rfl, nQ rfl (by exact qX (yw rfl) rfl), nQ rfl (by exact qX (xv rfl Tryd.runUnderlying70 rfl Tryd.sizeOf65 rfl) rfl), nQ rfl (by exact qX (xv rfl Tryd.runUnderlying68 rfl Tryd.sizeOf66 rfl) rfl), nQ rfl (by exact qX (xY 7 rfl PC rfl rfl Tryd.isAgg66) rfl), nM rfl, nQ rfl (by exact qX (yu rfl rfl Tryd.runUnderlying66 Tryd.sizeOf3 (Nm.rd (i := 8) rfl) (fun _ => rfl) rfl PW) rfl), nQ rfl (by exact qX (yD rfl (Nm.rd (i := 8) rfl) (fun _ => rfl) PW rfl Tryd.isAgg3) rfl), nQ rfl (by exact qX (vU rfl Tryd.runUnderlying3 Tryd.runUnderlying25) rfl), trivial⟩) fun D l a w ho hcl hav hpre hm hE hk hA hst => ?_
          have hS := (Ss.mk hE hst).env2 (e' := [(159, qL LZ 0), (165, .int .u32 (wr .u32 (rd Mz MV)))]) ⟨rfl, rfl, trivial⟩
          refine qQ rfl <| qF hS rfl Tryd.call30 (zk hG K (qp.mk (qR.mk (qr.mk MZ) MA) (qv.mk Mb L1) (qv.mk Mc L3)) (wr .u32 (rd Mz MV)) (3 : Int) LZ NM ND NH NL Mn Mq L8 MC MF L9 Mp Mr Ma MD MG Md PD PM MR M6 MS M7 (hS.st.part 6 [0, 1, 2, 3, 4, 5, 6, 7, 8, 9] (by kernel_rfl)) (qs hM) (fun Wm Sa TD TN Pt Sp Sq w hM Wc Wd hst => qA hS.ev hst.appF rfl fun hS => ?_))
          replace hS : Ss _ _ _ H [Sq, Sp, L8, L9, Ma, Md, Mu, MU, MQ, MT] F _ _ := hS
          refine qB ?_
          replace hst := hS.st
          obtain ⟨hcl, hmust, hav2, hA⟩ := dn (vals' := [some (qL LZ 0), some (qL LZ 0), some (qL LZ 0), some (qL Nc 0), some (.slice MY Mz.length Nd), some (.int .i64 MV), some (xG MY (Int.toNat MV * 1)), some (.int .i64 (rd Mz MV)), some (.int .u32 (wr .u32 (rd Mz MV))), some (.int .i64 Wm)]) 9 [(2, 9), (8, 9), (1, 2), (7, 8), (0, 1), (6, 7), (4, 6), (5, 6), (3, 4)] hA hcl hav hm hpre hk rfl rfl rfl rfl rfl rfl rfl
          clear hm hav
          refine yk hA hst ho hcl hmust [] rfl rfl rfl trivial fun a w hS => ?_
          replace hS := hS.env2 (e' := [(0, .slice Mk L0.length Ml), (8, qL LZ 0), (9, .slice ME L4.length MH), (18, qL Nc 0), (153, .agg ⟨tab_deflate_order.flatMap (ci .i64)⟩), (154, .int .i64 Np)]) ⟨rfl, rfl, rfl, rfl, rfl, rfl, trivial⟩
          refine zy (qe ?_)
          refine zN <| sB hS rfl fun hS => sM hS rfl fun hS => zp <| qe ?_
          exact SW _ _ ⟨Sa, TD, TN, Pt, Sp, Sq, (qh (Np + (1 : Int))), hS.to [0, 1, 2, 3, 4, 5, 6, 7, 8, 9] (by kernel_rfl) ⟨rfl, rfl, rfl, rfl, rfl, rfl, trivial⟩, Wc, Wd, hM⟩
         ·refine wp_exit ?_
          refine qE (qE (ze (qe ?_)))
          exact SX _ _ ⟨MZ, ND, NH, MA, NL, NM, hS.to [0, 1, 2, 3, 4, 5, 6, 7, 8, 9] (by kernel_rfl) ⟨rfl, rfl, rfl, rfl, trivial⟩, PM, PD, hM⟩
       ·intro a w hI
        obtain ⟨Na, N4, Pc, MJ, Pj, Pk, hS, Ti, SN, hM⟩ := hI
        rw [qg.j10] at hM
        refine zj (fun a w => ∃ (Nb : Int) (N5 : Option Addr) (Pd : Nat) (MK : (List Int)) (Pm : qk) (Pn : qk), Ss 196 [] [(0, .slice Mk L0.length Ml), (8, qL LZ 0)] H [Pn, Pm, L8, L9, Ma, Md] F a w ∧ (xi 5 (ci .u8) 1 N5 MK Pd Pm) ∧ (xJ Pn LZ ([.int .i64 Nb, .slice N5 MK.length Pd, .slice Mn Mb.length Mq, .slice MC L1.length MF, .slice Mp Mc.length Mr, .slice MD L3.length MG]) 70) ∧ (qg.j12 K L0 Mb L1 Mc L3 Nb MK).wp kr kp) (fun WH SZ => ?_) ?_
        ·refine wp_seq ?_
         refine zN <| sM hS rfl fun hS => sO hS (yj rfl Tryd.runUnderlying81) rfl fun hS => sM hS rfl fun hS => qB <| xO <| zu (fun SG a w => ∃ (M0 : Int) (NE : Option Addr) (NI : Nat) (MB : (List Int)) (NN : qk) (NO : qk) (Ms : Int), Ss 196 [] [(0, .slice Mk L0.length Ml), (8, qL LZ 0), (18, qL Nc 0), (168, .slice ME L4.length MH), (169, .int .i64 (L4.length : Int)), (170, .int .i64 Ms)] H [NO, NN, L8, L9, Ma, Md, MU, MQ, MT, Mu] F a w ∧ (xi 5 (ci .u8) 1 NE MB NI NN) ∧ (xJ NO LZ ([.int .i64 M0, .slice NE MB.length NI, .slice Mn Mb.length Mq, .slice MC L1.length MF, .slice Mp Mc.length Mr, .slice MD L3.length MG]) 70) ∧ (qg.l11 K L0 Mb L1 Mc L3 L4 Mz Mv SG M0 MB Ms).wp kr kp) K ?_ ?_ ?_
         ·exact ⟨Na, N4, Pc, MJ, Pj, Pk, (0 : Int), hS.to [0, 1, 2, 3, 4, 5, 7, 8, 9, 6] (by kernel_rfl) ⟨rfl, rfl, rfl, rfl, rfl, rfl, trivial⟩, Ti, SN, hM⟩
         ·intro a w hI; obtain ⟨_, _, _, _, _, _, _, _, _, _, hM⟩ := hI; exact zt hM
         ·intro SG a w hI WG SY
          obtain ⟨M0, NE, NI, MB, NN, NO, Ms, hS, PN, PE, hM⟩ := hI
          rw [qg.l11] at hM
          refine qm <| sB hS rfl fun hS => qB <| wp_seq <| qG hS rfl hM (fun Tr hM => ?_) (fun Tr hM => ?_)
          ·refine wp_skip ?_
           refine qe <| wp_seq <| xO <| wp_seq <| zN ?_
           obtain ⟨PX, hM⟩ := qK hM
           refine sO hS (yu rfl rfl Tryd.runUnderlying81 Tryd.sizeOf84 (Po.rd (i := 9) rfl) (fun _ => rfl) rfl PX) rfl fun hS => sO hS (vK rfl (Po.rd (i := 9) rfl) (fun _ => rfl) PX Tryd.isAgg84 Tryd.sizeOf84 rfl) rfl fun hS => Qf ([.int .i64 (0 : Int), .int .i64 (0 : Int), .int .i64 (0 : Int)]) hS Tryd.zeroValue84 rfl rfl fun w N6 WR SO hS => Qs 0 ([.int .i64 ((rd L4 Ms).symbol_), .int .i64 ((rd L4 Ms).more_), .int .i64 ((rd L4 Ms).bits_)]) ([.int .i64 ((rd L4 Ms).symbol_), .int .i64 ((rd L4 Ms).more_), .int .i64 ((rd L4 Ms).bits_)]) hS rfl rfl SO rfl rfl Tryd.sizeOf84 (by simp [Value.oneCell']) (Nat.le_of_ble_eq_true rfl) rfl fun w Sr NQ hS => qB <| qm <| sM hS rfl fun hS => sO hS (ut 7 rfl PC rfl ([.slice MY Mz.length Nd, .slice N3 Mv.length Pb]) rfl rfl Tryd.isAgg68 Tryd.sizeOf68) rfl fun hS => sO hS (xv rfl Tryd.runUnderlying84 rfl Tryd.sizeOf3 rfl) rfl fun hS => sO hS (xY 0 rfl NQ rfl rfl Tryd.isAgg3) rfl fun hS => qF hS rfl Tryd.call39 (v5 hG K (qp.mk (qR.mk (qr.mk M0) MB) (qv.mk Mb L1) (qv.mk Mc L3)) (qv.mk Mz Mv) ((rd L4 Ms).symbol_) LZ NO NE NI NN Mn Mq L8 MC MF L9 Mp Mr Ma MD MG Md MY Nd N3 Pb PE PN MR M6 MS M7 (Nm.rdF (i := 2) rfl) (Nm.cap (fun _ => rfl) rfl) (SA.rdF (i := 3) rfl) (SA.cap (fun _ => rfl) rfl) (hS.st.part 6 [1, 2, 3, 4, 5, 6, 0, 7, 8, 9, 10] (by kernel_rfl)) (qs hM) (fun Sb TE TO Pv Su Sv w hM We Wf hst => qA hS.ev hst.appF rfl fun hS => ?_))
           replace hS : Ss _ _ _ H [Sv, Su, L8, L9, Ma, Md, Sr, MU, MQ, MT, Mu] F _ _ := hS
           refine qB <| za (vals := [some (qL LZ 0), some (qL LZ 0), some (qL LZ 0), some (qL N6 1), some (.int .i64 ((rd L4 Ms).more_)), some (.int .u32 (wr .u32 (rd L4 Ms).more_)), some (qL N6 2), some (.int .i64 ((rd L4 Ms).bits_)), none]) hS xE rfl ?_
           intro l w ho hcl hA hst
           refine y9 hA hst ho hcl xx xF 8 [0, 1, 2, 3, 4, 5, 6, 7] rfl rfl rfl rfl rfl (by exact ⟨nM rfl, nQ rfl (by exact qX (yw rfl) rfl), nQ rfl (by exact qX (xv rfl Tryd.runUnderlying70 rfl Tryd.sizeOf65 rfl) rfl), nQ rfl (by exact qX (xv rfl Tryd.runUnderlying84 rfl Tryd.sizeOf3 rfl) rfl), nQ rfl (by exact qX (xY 6 rfl NQ rfl rfl Tryd.isAgg3) rfl), nQ rfl (by exact qX (vU rfl Tryd.runUnderlying3 Tryd.runUnderlying25) rfl), nQ rfl (by exact qX (xv rfl Tryd.runUnderlying84 rfl Tryd.sizeOf3 rfl) rfl), nQ rfl (by exact qX (xY 6 rfl NQ rfl rfl Tryd.isAgg3) rfl), trivial⟩) fun D l a w ho hcl hav hpre hm hE hk hA hst => ?_
           have hS := (Ss.mk hE hst).env2 (e' := [(181, qL LZ 0), (184, .int .u32 (wr .u32 (rd L4 Ms).more_)), (186, .int .i64 ((rd L4 Ms).bits_))]) ⟨rfl, rfl, rfl, trivial⟩
           refine qQ rfl <| qF hS rfl Tryd.call30 (zk hG K (qp.mk (qR.mk (qr.mk Sb) Pv) (qv.mk Mb L1) (qv.mk Mc L3)) (wr .u32 (rd L4 Ms).more_) ((rd L4 Ms).bits_) LZ Sv TE TO Su Mn Mq L8 MC MF L9 Mp Mr Ma MD MG Md Wf We MR M6 MS M7 (hS.st.part 6 [0, 1, 2, 3, 4, 5, 6, 7, 8, 9, 10] (by kernel_rfl)) (qs hM) (fun Wn Sc TF TP Pw Sw Sx w hM Wg Wh hst => qA hS.ev hst.appF rfl fun hS => ?_))
           replace hS : Ss _ _ _ H [Sx, Sw, L8, L9, Ma, Md, Sr, MU, MQ, MT, Mu] F _ _ := hS
           refine qB ?_
           replace hst := hS.st
           obtain ⟨hcl, hmust, hav2, hA⟩ := dn (vals' := [some (qL LZ 0), some (qL LZ 0), some (qL LZ 0), some (qL N6 1), some (.int .i64 ((rd L4 Ms).more_)), some (.int .u32 (wr .u32 (rd L4 Ms).more_)), some (qL N6 2), some (.int .i64 ((rd L4 Ms).bits_)), some (.int .i64 Wn)]) 8 [(2, 8), (5, 8), (7, 8), (1, 2), (4, 5), (6, 7), (0, 1), (3, 4)] hA hcl hav hm hpre hk rfl rfl rfl rfl rfl rfl rfl
           clear hm hav
           refine yk hA hst ho hcl hmust [] rfl rfl rfl trivial fun a w hS => ?_
           replace hS := hS.env2 (e' := [(0, .slice Mk L0.length Ml), (8, qL LZ 0), (18, qL Nc 0), (168, .slice ME L4.length MH), (169, .int .i64 (L4.length : Int)), (170, .int .i64 Ms)]) ⟨rfl, rfl, rfl, rfl, rfl, rfl, trivial⟩
           refine zy (qe ?_)
           refine zN <| sB hS rfl fun hS => sM hS rfl fun hS => zp <| qe ?_
           exact SY _ _ ⟨Sc, TF, TP, Pw, Sw, Sx, (qh (Ms + (1 : Int))), hS.to [0, 1, 2, 3, 4, 5, 7, 8, 9, 10] (by kernel_rfl) ⟨rfl, rfl, rfl, rfl, rfl, rfl, trivial⟩, Wg, Wh, hM⟩
          ·refine wp_exit ?_
           refine qE (qE (ze (qe ?_)))
           exact SZ _ _ ⟨M0, NE, NI, MB, NN, NO, hS.to [0, 1, 2, 3, 4, 5] (by kernel_rfl) ⟨rfl, rfl, trivial⟩, PN, PE, hM⟩
        ·intro a w hI
         obtain ⟨Nb, N5, Pd, MK, Pm, Pn, hS, Tj, SP, hM⟩ := hI
         rw [qg.j12] at hM
         refine qm <| sM hS rfl fun hS => sM hS rfl fun hS => qF hS rfl Tryd.call31 (js hG K (qp.mk (qR.mk (qr.mk Nb) MK) (qv.mk Mb L1) (qv.mk Mc L3)) L0 LZ Pn N5 Pd Pm Mn Mq L8 MC MF L9 Mp Mr Ma MD MG Md Mk Ml SP Tj MR M6 MS M7 (Ny.app _) PO (hS.st.part 6 [0, 1, 2, 3, 4, 5] (by kernel_rfl)) (qs hM) (fun Sd TG TQ Px PA PB w hM Wi Wj hst => qA hS.ev hst.appF rfl fun hS => ?_))
         replace hS : Ss _ _ _ H [PB, PA, L8, L9, Ma, Md] F _ _ := hS
         refine qB <| qm <| sM hS rfl fun hS => sO hS (yw rfl) rfl fun hS => sO hS (xv rfl Tryd.runUnderlying70 rfl Tryd.sizeOf65 rfl) rfl fun hS => qF hS rfl Tryd.call32 (yv hG K (qp.mk (qR.mk (qr.mk Sd) Px) (qv.mk Mb L1) (qv.mk Mc L3)) LZ PB TG TQ PA Mn Mq L8 MC MF L9 Mp Mr Ma MD MG Md Wj Wi MR M6 MS M7 (hS.st.part 6 [0, 1, 2, 3, 4, 5] (by kernel_rfl)) (qs hM) (fun Wo w hM  hst => qA hS.ev hst.appF rfl fun hS => ?_))
         replace hS : Ss _ _ _ H [PB, PA, L8, L9, Ma, Md] F _ _ := hS
         refine sA hS rfl fun hS => sA hS rfl fun hS => qB <| wp_ret ?_
         exact zD (rs := [2, 3]) hS rfl rfl (hret Wo (0 : Int) _ (q7 hM) (hS.st.pick [] (by kernel_rfl)))
theorem vM {H : xR} {F : List qk} {w : World} {R : Ending → World → Prop} {kr : (List UInt8) → Prop} {kp : Value → Prop} (hG : Gl H) (K : Nat) (L1 : List UInt8)
    (hS : St w H [] F) (hm : (zY.m K L1).wp kr kp)
    (hret : ∀ (Ma : List UInt8) (w : World), kr Ma → St w H [] F → R (.returned (xf Ma)) w)
    (hpan : ∀ v w, kp v → St w H [] F → R (.panicked [⟨v, false, false⟩]) w) :
    Calls Tryd.prog 8 ⟨[xf L1]⟩ w R := by
 refine enter Tryd.func8 rfl Tryd.ntmps8 rfl hS fun a w hS => ?_
 have hM := hm; clear hm
 rw [zY.m] at hM
 refine qm <| sA hS rfl fun hS => qB <| qm <| sM hS rfl fun hS => qF hS rfl Tryd.call14 (Jl hG K L1 (hS.st.part 0 [] (by kernel_rfl)) (qs hM) (fun L4 L5 L3 LZ w hM L0 hst => qA hS.ev hst.appF rfl fun hS => ?_))
 replace hS : Ss _ _ _ H [LZ] F _ _ := hS
 refine sA hS rfl fun hS => qB <| qm <| sM hS rfl fun hS => qF hS rfl Tryd.call15 (Zh hG K L1 (hS.st.part 0 [0] (by kernel_rfl)) (qs hM) (fun L7 w hM  hst => qA hS.ev hst.appF rfl fun hS => ?_))
 replace hS : Ss _ _ _ H [LZ] F _ _ := hS
 refine sA hS rfl fun hS => qB <| zj (fun a w => ∃ (LY : List UInt8), Ss 44 [] [(3, .slice L4 L3.length L5), (4, xf LY)] H [LZ] F a w ∧ (zY.j1 K L3 LY).wp kr kp) (fun Mf L6 => ?_) ?_
 ·refine wp_seq ?_
  refine zN <| sM hS rfl fun hS => qF hS rfl Tryd.call16 (Z0 hG K L3 L4 L5 (L0.rdF (i := 0) rfl) (L0.cap (fun _ => rfl) rfl) (hS.st.part 0 [0] (by kernel_rfl)) (qs hM) (fun L8 Md w hM  hst => qA hS.ev hst.appF rfl fun hS => ?_))
  replace hS : Ss _ _ _ H [LZ] F _ _ := hS
  refine sM hS rfl fun hS => sO hS (ex rfl rfl) rfl fun hS => sO hS (ex rfl rfl) rfl fun hS => sA hS rfl fun hS => sA hS rfl fun hS => qB <| qm <| sM hS rfl fun hS => sB hS rfl fun hS => sM hS rfl fun hS => yS 5 true 20 (b := (Md == (0 : Int))) (r := (decide ((L8.length : Int) < (L7.length : Int)))) hS rfl rfl rfl rfl rfl rfl rfl (fun hb a w hS K hK => ?_) rfl fun a w hS => ?_
  ·refine z2 hS rfl rfl rfl hb (mv rfl) rfl fun a w hS => ?_
   refine z2 hS rfl rfl rfl hb (uu rfl Tryd.runUnderlying9) rfl fun a w hS => z2 hS rfl rfl rfl hb (mv rfl) rfl fun a w hS => z2 hS rfl rfl rfl hb (uu rfl Tryd.runUnderlying9) rfl fun a w hS => z2 hS rfl rfl rfl hb (jk rfl rfl rfl) rfl fun a w hS => ?_
   exact zp (hK _ _ (hS.up 5 rfl rfl))
  refine qB <| qG hS rfl hM (fun Mb hM => ?_) (fun Mb hM => ?_)
  ·refine zN ?_
   refine sM hS rfl fun hS => sA hS rfl fun hS => zp <| qe ?_
   exact L6 _ _ ⟨L8, hS.to [0] (by kernel_rfl) ⟨rfl, rfl, trivial⟩, hM⟩
  ·refine wp_skip ?_
   refine qe ?_
   exact L6 _ _ ⟨L7, hS.to [0] (by kernel_rfl) ⟨rfl, rfl, trivial⟩, hM⟩
 ·intro a w hI
  obtain ⟨LY, hS, hM⟩ := hI
  rw [zY.j1] at hM
  refine wp_seq <| qm <| sM hS rfl fun hS => qF hS rfl Tryd.call17 (QS hG K L3 L4 L5 (L0.rdF (i := 0) rfl) (L0.cap (fun _ => rfl) rfl) (hS.st.part 0 [0] (by kernel_rfl)) (qs hM) (fun L9 Me w hM  hst => qA hS.ev hst.appF rfl fun hS => ?_) (fun v w hk hst => xo (qD (qD (⟨hS.ev.defs, hpan _ _ hk hst.appF.frame⟩)))))
  replace hS : Ss _ _ _ H [LZ] F _ _ := hS
  refine sM hS rfl fun hS => sO hS (ex rfl rfl) rfl fun hS => sO hS (ex rfl rfl) rfl fun hS => sA hS rfl fun hS => sA hS rfl fun hS => qB <| qm <| sM hS rfl fun hS => sB hS rfl fun hS => sM hS rfl fun hS => yS 5 true 35 (b := (Me == (0 : Int))) (r := (decide ((L9.length : Int) < (LY.length : Int)))) hS rfl rfl rfl rfl rfl rfl rfl (fun hb a w hS K hK => ?_) rfl fun a w hS => ?_
  ·refine z2 hS rfl rfl rfl hb (mv rfl) rfl fun a w hS => ?_
   refine z2 hS rfl rfl rfl hb (uu rfl Tryd.runUnderlying9) rfl fun a w hS => z2 hS rfl rfl rfl hb (mv rfl) rfl fun a w hS => z2 hS rfl rfl rfl hb (uu rfl Tryd.runUnderlying9) rfl fun a w hS => z2 hS rfl rfl rfl hb (jk rfl rfl rfl) rfl fun a w hS => ?_
   exact zp (hK _ _ (hS.up 5 rfl rfl))
  refine qB <| qG hS rfl hM (fun Mc hM => ?_) (fun Mc hM => ?_)
  ·refine zN ?_
   refine sM hS rfl fun hS => sA hS rfl fun hS => qB <| qm <| sM hS rfl fun hS => sA hS rfl fun hS => qB <| wp_ret ?_
   exact zD (rs := [2]) hS rfl rfl (hret L9 _ (q7 hM) (hS.st.pick [] (by kernel_rfl)))
  ·refine wp_skip ?_
   refine qe <| qm <| sM hS rfl fun hS => sA hS rfl fun hS => qB <| wp_ret ?_
   exact zD (rs := [2]) hS rfl rfl (hret LY _ (q7 hM) (hS.st.pick [] (by kernel_rfl)))
theorem Ud {H : xR} {F : List qk} {w : World} {R : Ending → World → Prop} {kr : (List UInt8) → Prop} {kp : Value → Prop} (hG : Gl H) (K : Nat) (LY : List UInt8)
    (hS : St w H [] F) (hm : (Qe.m K LY).wp kr kp)
    (hret : ∀ (LZ : List UInt8) (w : World), kr LZ → St w H [] F → R (.returned (xf LZ)) w)
    (hpan : ∀ v w, kp v → St w H [] F → R (.panicked [⟨v, false, false⟩]) w) :
    Calls Tryd.prog 7 ⟨[xf LY]⟩ w R := by
 refine enter Tryd.func7 rfl Tryd.ntmps7 rfl hS fun a w hS => ?_
 have hM := hm; clear hm
 rw [Qe.m] at hM
 refine qm <| sA hS rfl fun hS => qB <| qm <| sM hS rfl fun hS => qF hS rfl Tryd.call13 (Q9 hG K LY (hS.st.part 0 [] (by kernel_rfl)) (qs hM) (fun L4 w hM  hst => qA hS.ev hst.appF rfl fun hS => ?_))
 replace hS : Ss _ _ _ H [] F _ _ := hS
 refine sO hS (vU rfl Tryd.runUnderlying25 Tryd.runUnderlying36) rfl fun hS => qF hS rfl Tryd.call12 (ZJ hG K (wr .u64 L4) (4 : Int) (hS.st.part 0 [] (by kernel_rfl)) (qs hM) (fun L5 L7 w hM  hst => qA hS.ev hst.appF rfl fun hS => ?_))
 replace hS : Ss _ _ _ H [] F _ _ := hS
 refine sM hS rfl fun hS => sO hS (ex rfl rfl) rfl fun hS => sO hS (ex rfl rfl) rfl fun hS => sA hS rfl fun hS => sA hS rfl fun hS => qB <| qm <| sM hS rfl fun hS => qF hS rfl Tryd.call8 (vM hG K LY (hS.st.part 0 [] (by kernel_rfl)) (qs hM) (fun L6 w hM  hst => qA hS.ev hst.appF rfl fun hS => ?_) (fun v w hk hst => xo (qD (⟨hS.ev.defs, hpan _ _ hk hst.appF.frame⟩))))
 replace hS : Ss _ _ _ H [] F _ _ := hS
 obtain ⟨L0, hM⟩ := qK hM
 refine sO hS (G4 rfl rfl L0) rfl fun hS => sM hS rfl fun hS => ?_
 obtain ⟨L1, hM⟩ := qK hM
 refine sO hS (G4 rfl rfl L1) rfl fun hS => zE (v := xf) (x0 := ((([120, 156] : List UInt8) ++ L6) ++ L5)) hS (xy rfl) rfl fun L3 a w hz hS => ?_
 have hM := qy hz hM; clear hz
 refine qB <| wp_ret ?_
 exact zD (rs := [2]) hS rfl rfl (hret L3 _ (q7 hM) (hS.st.pick [] (by kernel_rfl)))
theorem vX {H : xR} {F : List qk} {w : World} {R : Ending → World → Prop} {kr : Int → Prop} {kp : Value → Prop} (hG : Gl H) (K : Nat) (LY : Int) (L0 : List UInt8)
    (hS : St w H [] F) (hm : (zr.m K LY L0).wp kr kp)
    (hret : ∀ (L8 : Int) (w : World), kr L8 → St w H [] F → R (.returned (.int .u32 L8)) w) :
    Calls Tryd.prog 18 ⟨[.int .u32 LY, xf L0]⟩ w R := by
 refine enter Tryd.func18 rfl Tryd.ntmps18 rfl hS fun a w hS => ?_
 have hM := hm; clear hm
 rw [zr.m] at hM
 refine qm <| sA hS rfl fun hS => qB <| qm <| sM hS rfl fun hS => sO hS (rem rfl rfl rfl) rfl fun hS => sO hS (rem rfl rfl rfl) rfl fun hS => zE (v := Value.int .u32) (x0 := (yW (yW LY (65536 : Int)) (65521 : Int))) hS (xy rfl) rfl fun Mf a w hz hS => ?_
 have hM := qy hz hM; clear hz
 refine qB <| qm <| sM hS rfl fun hS => sO hS (quo rfl rfl rfl) rfl fun hS => sO hS (rem rfl rfl rfl) rfl fun hS => zE (v := Value.int .u32) (x0 := (yW (xX .u32 LY (65536 : Int)) (65521 : Int))) hS (xy rfl) rfl fun Mg a w hz hS => ?_
 have hM := qy hz hM; clear hz
 refine qB <| zj (fun a w => ∃ (L4 : Int) (L5 : Int), Ss 35 [] [(5, .int .u32 L4), (6, .int .u32 L5)] H [] F a w ∧ (zr.j2 K L4 L5).wp kr kp) (fun Mj Ma => ?_) ?_
 ·refine wp_seq ?_
  refine zN <| sA hS rfl fun hS => qB <| xO <| zu (fun L6 a w => ∃ (L1 : Int) (L3 : Int) (LZ : Int), Ss 35 [] [(1, xf L0), (5, .int .u32 L1), (6, .int .u32 L3), (7, .int .i64 LZ)] H [] F a w ∧ (zr.l1 K L0 L6 L1 L3 LZ).wp kr kp) K ?_ ?_ ?_
  ·exact ⟨Mf, Mg, (0 : Int), hS.to [] (by kernel_rfl) ⟨rfl, rfl, rfl, rfl, trivial⟩, hM⟩
  ·intro a w hI; obtain ⟨_, _, _, _, hM⟩ := hI; exact zt hM
  ·intro L6 a w hI Mi L9
   obtain ⟨L1, L3, LZ, hS, hM⟩ := hI
   rw [zr.l1] at hM
   refine wp_seq <| qm <| sM hS rfl fun hS => sM hS rfl fun hS => sO hS (uu rfl Tryd.runUnderlying9) rfl fun hS => sB hS rfl fun hS => qB <| qG hS rfl hM (fun Mb hM => ?_) (fun Mb hM => ?_)
   ·refine wp_skip ?_
    refine qe <| wp_seq <| xO <| qm <| sM hS rfl fun hS => sM hS rfl fun hS => sM hS rfl fun hS => ?_
    obtain ⟨Mc, hM⟩ := qK hM
    refine sO hS (VQ rfl rfl Tryd.runUnderlying9 Mc) rfl fun hS => sO hS (vU rfl Tryd.runUnderlying5 Tryd.runUnderlying25) rfl fun hS => sB hS rfl fun hS => sO hS (rem rfl rfl rfl) rfl fun hS => zE (v := Value.int .u32) (x0 := (yW (wr .u32 (L1 + (wr .u32 ((rd L0 LZ).toNat : Int)))) (65521 : Int))) hS (xy rfl) rfl fun L7 a w hz hS => ?_
    have hM := qy hz hM; clear hz
    refine qB <| zN <| sM hS rfl fun hS => sM hS rfl fun hS => sB hS rfl fun hS => sO hS (rem rfl rfl rfl) rfl fun hS => zE (v := Value.int .u32) (x0 := (yW (wr .u32 (L3 + L7)) (65521 : Int))) hS (xy rfl) rfl fun Mh a w hz hS => ?_
    have hM := qy hz hM; clear hz
    refine zp <| zy (qe ?_)
    refine zN <| sM hS rfl fun hS => sB hS rfl fun hS => zE (v := Value.int .i64) (x0 := (qh (LZ + (1 : Int)))) hS (xy rfl) rfl fun Md a w hz hS => ?_
    have hM := qy hz hM; clear hz
    refine zp <| qe ?_
    exact L9 _ _ ⟨L7, Mh, Md, hS.to [] (by kernel_rfl) ⟨rfl, rfl, rfl, rfl, trivial⟩, hM⟩
   ·refine wp_exit ?_
    refine qE (qE (ze (qe ?_)))
    exact Ma _ _ ⟨L1, L3, hS.to [] (by kernel_rfl) ⟨rfl, rfl, trivial⟩, hM⟩
 ·intro a w hI
  obtain ⟨L4, L5, hS, hM⟩ := hI
  rw [zr.j2] at hM
  refine qm <| sM hS rfl fun hS => sB hS rfl fun hS => sM hS rfl fun hS => sB hS rfl fun hS => zE (v := Value.int .u32) (x0 := (wr .u32 ((wr .u32 ((65536 : Int) * L5)) + L4))) hS (xy rfl) rfl fun Me a w hz hS => ?_
  have hM := qy hz hM; clear hz
  refine qB <| wp_ret ?_
  exact zD (rs := [4]) hS rfl rfl (hret Me _ (q7 hM) (hS.st.pick [] (by kernel_rfl)))
theorem uZ {H : xR} {F : List qk} {w : World} {R : Ending → World → Prop} {kr : Int → Prop} {kp : Value → Prop} (hG : Gl H) (K : Nat) (LY : List UInt8)
    (hS : St w H [] F) (hm : (yy.m K LY).wp kr kp)
    (hret : ∀ (LZ : Int) (w : World), kr LZ → St w H [] F → R (.returned (.int .u32 LZ)) w) :
    Calls Tryd.prog 10 ⟨[xf LY]⟩ w R := by
 refine enter Tryd.func10 rfl Tryd.ntmps10 rfl hS fun a w hS => ?_
 have hM := hm; clear hm
 rw [yy.m] at hM
 refine qm <| sA hS rfl fun hS => qB <| qm <| sM hS rfl fun hS => qF hS rfl Tryd.call18 (vX hG K (1 : Int) LY (hS.st.part 0 [] (by kernel_rfl)) (qs hM) (fun L0 w hM  hst => qA hS.ev hst.appF rfl fun hS => ?_))
 replace hS : Ss _ _ _ H [] F _ _ := hS
 refine sA hS rfl fun hS => qB <| wp_ret ?_
 exact zD (rs := [2]) hS rfl rfl (hret L0 _ (q7 hM) (hS.st.pick [] (by kernel_rfl)))
theorem QE {H : xR} {F : List qk} {w : World} {R : Ending → World → Prop} {kr : (List UInt8) → Prop} {kp : Value → Prop} (hG : Gl H) (K : Nat) (LY : Int)
    (hS : St w H [] F) (hm : (yO.m K LY).wp kr kp)
    (hret : ∀ (LZ : List UInt8) (w : World), kr LZ → St w H [] F → R (.returned (xf LZ)) w) :
    Calls Tryd.prog 9 ⟨[.int .u32 LY]⟩ w R := by
 refine enter Tryd.func9 rfl Tryd.ntmps9 rfl hS fun a w hS => ?_
 have hM := hm; clear hm
 rw [yO.m] at hM
 refine qm <| sA hS rfl fun hS => qB <| qm <| sM hS rfl fun hS => sO hS (quo rfl rfl rfl) rfl fun hS => sO hS (vU rfl Tryd.runUnderlying25 Tryd.runUnderlying5) rfl fun hS => sM hS rfl fun hS => sO hS (quo rfl rfl rfl) rfl fun hS => sO hS (vU rfl Tryd.runUnderlying25 Tryd.runUnderlying5) rfl fun hS => sM hS rfl fun hS => sO hS (quo rfl rfl rfl) rfl fun hS => sO hS (vU rfl Tryd.runUnderlying25 Tryd.runUnderlying5) rfl fun hS => sM hS rfl fun hS => sO hS (vU rfl Tryd.runUnderlying25 Tryd.runUnderlying5) rfl fun hS => Y3 (g := (ci .u8)) ([(wr .u8 (xX .u32 LY (16777216 : Int))), (wr .u8 (xX .u32 LY (65536 : Int))), (wr .u8 (xX .u32 LY (256 : Int))), (wr .u8 LY)] : List Int) [.int .u8 (wr .u8 (xX .u32 LY (16777216 : Int))), .int .u8 (wr .u8 (xX .u32 LY (65536 : Int))), .int .u8 (wr .u8 (xX .u32 LY (256 : Int))), .int .u8 (wr .u8 LY)] hS Tryd.runUnderlying32 Tryd.sizeOf5 X.el5 rfl rfl rfl (by simp [Value.cells]) rfl rfl rfl rfl rfl fun w L3 L4 L5 L0 hS => sO hS (Gr rfl Tryd.runUnderlying32 Tryd.runUnderlying5 Tryd.runUnderlying9 (L0.rd (i := 0) rfl)) rfl fun hS => zE (v := xf) (x0 := (([(wr .u8 (xX .u32 LY (16777216 : Int))), (wr .u8 (xX .u32 LY (65536 : Int))), (wr .u8 (xX .u32 LY (256 : Int))), (wr .u8 LY)] : List Int).map uh)) hS (xy rfl) rfl fun L1 a w hz hS => ?_
 have hM := qy hz hM; clear hz
 refine qB <| wp_ret ?_
 exact zD (rs := [2]) hS rfl rfl (hret L1 _ (q7 hM) (hS.st.pick [] (by kernel_rfl)))
theorem v7 {H : xR} {F : List qk} {w : World} {R : Ending → World → Prop} {kr : Bool → Prop} {kp : Value → Prop} (hG : Gl H) (K : Nat) (s1 : List UInt8)
    (hS : St w H [] F) (hm : (xc.m K s1).wp kr kp)
    (hret : ∀ (L1 : Bool) (w : World), kr L1 → St w H [] F → R (.returned (.bool L1)) w)
    (hpan : ∀ v w, kp v → St w H [] F → R (.panicked [⟨v, false, false⟩]) w) :
    Calls Tryd.prog 3 ⟨[xf s1]⟩ w R := by
 refine enter Tryd.func3 rfl Tryd.ntmps3 rfl hS fun a w hS => ?_
 have hM := hm; clear hm
 rw [xc.m] at hM
 refine qm <| sA hS rfl fun hS => qB <| wp_seq <| qm <| sM hS rfl fun hS => sO hS (uu rfl Tryd.runUnderlying9) rfl fun hS => sB hS rfl fun hS => qB <| qG hS rfl hM (fun hb2 hM => ?_) (fun hb2 hM => ?_)
 ·refine wp_seq ?_
  refine zN <| qF hS rfl Tryd.call6 (vf hG K  (hS.st.part 0 [] (by kernel_rfl)) (qs hM) (fun L5 w hM  hst => qA hS.ev hst.appF rfl fun hS => ?_))
  replace hS : Ss _ _ _ H [] F _ _ := hS
  refine sA hS rfl fun hS => qB <| wp_ret <| zm ?_
  exact zD (rs := [2]) hS rfl rfl (hret L5 _ (q7 hM) (hS.st.pick [] (by kernel_rfl)))
 ·refine wp_skip ?_
  refine qe <| qm <| sM hS rfl fun hS => qF hS rfl Tryd.call7 (Ud hG K s1 (hS.st.part 0 [] (by kernel_rfl)) (qs hM) (fun L6 w hM  hst => qA hS.ev hst.appF rfl fun hS => ?_) (fun v w hk hst => xo (qD (⟨hS.ev.defs, hpan _ _ hk hst.appF.frame⟩))))
  replace hS : Ss _ _ _ H [] F _ _ := hS
  refine sM hS rfl fun hS => qF hS rfl Tryd.call8 (vM hG K s1 (hS.st.part 0 [] (by kernel_rfl)) (qs hM) (fun L7 w hM  hst => qA hS.ev hst.appF rfl fun hS => ?_) (fun v w hk hst => xo (qD (⟨hS.ev.defs, hpan _ _ hk hst.appF.frame⟩))))
  replace hS : Ss _ _ _ H [] F _ _ := hS
  obtain ⟨L3, hM⟩ := qK hM
  refine sO hS (G4 rfl rfl L3) rfl fun hS => sM hS rfl fun hS => qF hS rfl Tryd.call10 (uZ hG K s1 (hS.st.part 0 [] (by kernel_rfl)) (qs hM) (fun L8 w hM  hst => qA hS.ev hst.appF rfl fun hS => ?_))
  replace hS : Ss _ _ _ H [] F _ _ := hS
  refine qF hS rfl Tryd.call9 (QE hG K L8 (hS.st.part 0 [] (by kernel_rfl)) (qs hM) (fun L9 w hM  hst => qA hS.ev hst.appF rfl fun hS => ?_))
  replace hS : Ss _ _ _ H [] F _ _ := hS
  obtain ⟨L4, hM⟩ := qK hM
  refine sO hS (G4 rfl rfl L4) rfl fun hS => sO hS (GD rfl rfl rfl) rfl fun hS => sM hS rfl fun hS => Vs (fun a w => ∃ (LZ : Bool), Ss 20 [] [(19, .bool LZ)] H [] F a w ∧ (xc.j1 K LZ).wp kr kp) 2 (fun Mb L0 => ?_) ?_
  ·refine Gs (b := (L6 == ((([120, 156] : List UInt8) ++ L7) ++ L9))) hM (fun LY hM => ?_) (fun LY hM => ?_)
   ·replace hS := hS.re 16 (v := .bool true) rfl (congrArg Value.bool LY)
    replace hS := hS.re 17 (v := .bool true) rfl (congrArg Value.bool LY)
    refine Jz hS rfl rfl rfl rfl <| qF hS rfl Tryd.call6 (vf hG K  (hS.st.part 0 [] (by kernel_rfl)) (qs hM) (fun Ma w hM  hst => qA hS.ev hst.appF rfl fun hS => ?_))
    replace hS : Ss _ _ _ H [] F _ _ := hS
    refine sO hS (pk rfl rfl rfl) rfl fun hS => zp <| qe ?_
    exact L0 _ _ ⟨Ma, hS.to [] (by kernel_rfl) ⟨rfl, trivial⟩, hM⟩
   ·replace hS := hS.re 16 (v := .bool false) rfl (congrArg Value.bool LY)
    replace hS := hS.re 17 (v := .bool false) rfl (congrArg Value.bool LY)
    refine DK 1 hS rfl fun a w hS => sO hS (pk rfl rfl rfl) rfl fun hS => zp <| qe ?_
    exact L0 _ _ ⟨false, hS.to [] (by kernel_rfl) ⟨rfl, trivial⟩, hM⟩
  ·intro a w hI
   obtain ⟨LZ, hS, hM⟩ := hI
   rw [xc.j1] at hM
   refine sA hS rfl fun hS => qB <| wp_ret ?_
   exact zD (rs := [2]) hS rfl rfl (hret LZ _ (q7 hM) (hS.st.pick [] (by kernel_rfl)))
end Go.TrydS

