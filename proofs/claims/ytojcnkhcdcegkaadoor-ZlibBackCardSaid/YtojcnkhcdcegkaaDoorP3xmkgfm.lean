/- Printed by a program of mine: each Go function answers what its model answers; conditions: what each theorem asks of memory. -/
import Derived.Test.YtojcnkhcdcegkaaDoorP2xjiofn
set_option linter.unusedVariables false
set_option linter.unusedSimpArgs false
set_option maxRecDepth 100000
namespace Go.TrydS
open Go Go.Sl Go.Mo Go.Proofs
attribute [local irreducible] qN.wp
theorem jD {H : xT} {F : List qk} {w : World} {R : Ending → World → Prop} {kr : (Int × (List Int)) → Prop} {kp : Value → Prop} (hG : Gl H) (K : Nat) (MR : qp) (MT : List qM) (MS : Nat) (NL : qk) (NJ : Option Addr) (NK : Nat) (NM : qk) (MV : Option Addr) (MX : Nat) (M6 : qk) (MW : Option Addr) (MY : Nat) (M7 : qk) (M0 : Option Addr) (M4 : Nat) (M8 : qk) (M3 : Option Addr) (M5 : Nat) (M9 : qk) (Np : Option Addr) (Nr : Nat) (N9 : xM NL MS ([.int .i64 MR.Writer_.place_.at_, .slice NJ MR.Writer_.bytes_.length NK, .slice MV MR.literals_.lengths_.length MX, .slice MW MR.literals_.codes_.length MY, .slice M0 MR.distances_.lengths_.length M4, .slice M3 MR.distances_.codes_.length M5]) 70) (Pc : xj 5 (ci .u8) 1 NJ MR.Writer_.bytes_ NK NM) (Nu : xj 3 (ci .i64) 1 MV MR.literals_.lengths_ MX M6) (Nv : xj 3 (ci .i64) 1 MW MR.literals_.codes_ MY M7) (Nw : xj 3 (ci .i64) 1 M0 MR.distances_.lengths_ M4 M8) (Nx : xj 3 (ci .i64) 1 M3 MR.distances_.codes_ M5 M9) (NT : jT H [] F qM.cells Np MT) (Px : MT.length ≤ Nr)
    (hS : St w H [NL, NM, M6, M7, M8, M9] F) (hm : (zi.m K MR MT).wp kr kp)
    (hret : ∀ (NB : Int) (NY : Option Addr) (NZ : Nat) (Nk : (List Int)) (N6 : qk) (N7 : qk) (w : World), kr (NB, Nk) → (xj 5 (ci .u8) 1 NY Nk NZ N6) → (xM N7 MS ([.int .i64 NB, .slice NY Nk.length NZ, .slice MV MR.literals_.lengths_.length MX, .slice MW MR.literals_.codes_.length MY, .slice M0 MR.distances_.lengths_.length M4, .slice M3 MR.distances_.codes_.length M5]) 70) → St w H [N7, N6, M6, M7, M8, M9] F → R (.returned (.tuple ⟨[]⟩)) w) :
    Calls Tryd.prog 31 ⟨[qL MS 0, .slice Np MT.length Nr]⟩ w R := by
 refine enter Tryd.func31 rfl Tryd.ntmps31 rfl hS fun a w hS => ?_
 have hM := hm; clear hm
 rw [zi.m] at hM
 refine zm (fun a w => ∃ (Nm : Int) (NA : Option Addr) (NC : Nat) (Na : (List Int)) (ND : qk) (NE : qk), Ss 49 [] [(0, qL MS 0)] H [NE, ND, M6, M7, M8, M9] F a w ∧ (xj 5 (ci .u8) 1 NA Na NC ND) ∧ (xM NE MS ([.int .i64 Nm, .slice NA Na.length NC, .slice MV MR.literals_.lengths_.length MX, .slice MW MR.literals_.codes_.length MY, .slice M0 MR.distances_.lengths_.length M4, .slice M3 MR.distances_.codes_.length M5]) 70) ∧ (zi.j2 K MR Nm Na).wp kr kp) (fun Pz Pb => ?_) ?_
 ·refine wp_seq ?_
  refine zP <| sM hS rfl fun hS => sO hS (yk rfl Tryd.runUnderlying37) rfl fun hS => sM hS rfl fun hS => qA <| xS <| zv (fun N8 a w => ∃ (Nd : Int) (Nq : Option Addr) (Ns : Nat) (MZ : (List Int)) (Nn : qk) (No : qk) (MU : Int), Ss 49 [] [(0, qL MS 0), (6, .slice Np MT.length Nr), (7, .int .i64 (MT.length : Int)), (8, .int .i64 MU)] H [No, Nn, M6, M7, M8, M9] F a w ∧ (xj 5 (ci .u8) 1 Nq MZ Ns Nn) ∧ (xM No MS ([.int .i64 Nd, .slice Nq MZ.length Ns, .slice MV MR.literals_.lengths_.length MX, .slice MW MR.literals_.codes_.length MY, .slice M0 MR.distances_.lengths_.length M4, .slice M3 MR.distances_.codes_.length M5]) 70) ∧ (zi.l1 K MR MT N8 Nd MZ MU).wp kr kp) K ?_ ?_ ?_
  ·exact ⟨MR.Writer_.place_.at_, NJ, NK, MR.Writer_.bytes_, NM, NL, (0 : Int), hS.to [0, 1, 2, 3, 4, 5] (by kernel_rfl) ⟨rfl, rfl, rfl, rfl, trivial⟩, Pc, N9, hM⟩
  ·intro a w hI; obtain ⟨_, _, _, _, _, _, _, _, _, _, hM⟩ := hI; exact zt hM
  ·intro N8 a w hI Py NR
   obtain ⟨Nd, Nq, Ns, MZ, Nn, No, MU, hS, Nz, Nl, hM⟩ := hI
   rw [zi.l1] at hM
   refine qm <| sB hS rfl fun hS => qA <| wp_seq <| qF hS rfl hM (fun Pe hM => ?_) (fun Pe hM => ?_)
   ·refine wp_skip ?_
    refine qe <| wp_seq <| xS <| wp_seq <| zP ?_
    obtain ⟨NS, hM⟩ := qK hM
    refine sO hS (yv rfl rfl Tryd.runUnderlying37 Tryd.sizeOf57 NT.wk (fun _ => rfl) rfl NS) rfl fun hS => sO hS (v7 rfl NT.wk (fun _ => rfl) NS Tryd.isAgg57 Tryd.sizeOf57 rfl) rfl fun hS => QF ([.int .u8 (0 : Int), .int .i64 (0 : Int), .int .i64 (0 : Int)]) hS Tryd.zeroValue57 rfl rfl fun w Nf PA Pa hS => QU 0 ([.int .u8 ((rd MT MU).Lit_), .int .i64 ((rd MT MU).Len_), .int .i64 ((rd MT MU).Dist_)]) ([.int .u8 ((rd MT MU).Lit_), .int .i64 ((rd MT MU).Len_), .int .i64 ((rd MT MU).Dist_)]) hS rfl rfl Pa rfl rfl Tryd.sizeOf57 (by simp [Value.oneCell']) (Nat.le_of_ble_eq_true rfl) rfl fun w Ny Nt hS => qA <| wp_seq <| qm <| sO hS (xv rfl Tryd.runUnderlying57 rfl Tryd.sizeOf3 rfl) rfl fun hS => sO hS (x5 0 rfl Nt rfl rfl Tryd.isAgg3) rfl fun hS => sB hS rfl fun hS => qA <| qF hS rfl hM (fun Pf hM => ?_) (fun Pf hM => ?_)
    ·refine wp_seq ?_
     refine za (vals := [some (qL MS 0), some (qL MS 0), some (qL MS 0), some (qL MS 2), some (.agg ⟨[.slice MV MR.literals_.lengths_.length MX, .slice MW MR.literals_.codes_.length MY]⟩), some (qL Nf 0), some (.int .u8 ((rd MT MU).Lit_)), some (.int .i64 (wr .i64 (rd MT MU).Lit_)), none]) hS xG rfl ?_
     intro l w ho hcl hA hst
     refine jg hA hst ho hcl xx xH 8 [0, 1, 2, 3, 4, 5, 6, 7] rfl rfl rfl rfl rfl (by exact ⟨nM rfl, nM rfl, nQ rfl (by exact qW (yy rfl) rfl), nQ rfl (by exact qW (xv rfl Tryd.runUnderlying70 rfl Tryd.sizeOf68 rfl) rfl), nQ rfl (by exact qW (uS 1 rfl Nl rfl ([.slice MV MR.literals_.lengths_.length MX, .slice MW MR.literals_.codes_.length MY]) rfl rfl Tryd.isAgg68 Tryd.sizeOf68) rfl), nQ rfl (by exact qW (xv rfl Tryd.runUnderlying57 rfl Tryd.sizeOf5 rfl) rfl), nQ rfl (by exact qW (x5 0 rfl Nt rfl rfl Tryd.isAgg5) rfl), nQ rfl (by exact qW (u7 rfl Tryd.runUnderlying5 Tryd.runUnderlying3) rfl), trivial⟩) fun D l a w ho hcl hav hpre hm hE hk hA hst => ?_
     have hS := (Ss.mk hE hst).env2 (e' := [(15, qL MS 0), (19, .agg ⟨[.slice MV MR.literals_.lengths_.length MX, .slice MW MR.literals_.codes_.length MY]⟩), (22, .int .i64 (wr .i64 (rd MT MU).Lit_))]) ⟨rfl, rfl, rfl, trivial⟩
     refine qQ rfl <| qJ hS rfl Tryd.call39 (yq hG K (qp.mk (qR.mk (qr.mk Nd) MZ) MR.literals_ MR.distances_) MR.literals_ (wr .i64 (rd MT MU).Lit_) MS No Nq Ns Nn MV MX M6 MW MY M7 M0 M4 M8 M3 M5 M9 Nl Nz Nu Nv Nw Nx (hS.st.part 6 [1, 2, 3, 4, 5, 6, 0] (by kernel_rfl)) (qt hM) (fun NU Pg Pk NF N0 N1 w hM Pp Pq hst => qz hS.ev hst.appF rfl fun hS => ?_))
     replace hS : Ss _ _ _ H [N1, N0, M6, M7, M8, M9, Ny] F _ _ := hS
     refine qA ?_
     replace hst := hS.st
     obtain ⟨hcl, hmust, hav2, hA⟩ := dn (vals' := [some (qL MS 0), some (qL MS 0), some (qL MS 0), some (qL MS 2), some (.agg ⟨[.slice MV MR.literals_.lengths_.length MX, .slice MW MR.literals_.codes_.length MY]⟩), some (qL Nf 0), some (.int .u8 ((rd MT MU).Lit_)), some (.int .i64 (wr .i64 (rd MT MU).Lit_)), some (.tuple ⟨[]⟩)]) 8 [(0, 8), (4, 8), (7, 8), (3, 4), (6, 7), (2, 3), (5, 6), (1, 2)] hA hcl hav hm hpre hk rfl rfl rfl rfl rfl rfl rfl
     clear hm hav
     refine ym hA hst ho hcl hmust [] rfl rfl rfl trivial fun a w hS => ?_
     replace hS := hS.env2 (e' := [(0, qL MS 0), (6, .slice Np MT.length Nr), (7, .int .i64 (MT.length : Int)), (8, .int .i64 MU)]) ⟨rfl, rfl, rfl, rfl, trivial⟩
     refine qe <| wp_exit <| qE (zd (qe ?_))
     refine zP <| sB hS rfl fun hS => sM hS rfl fun hS => zn <| qe ?_
     exact NR _ _ ⟨NU, Pg, Pk, NF, N0, N1, (qh (MU + (1 : Int))), hS.to [0, 1, 2, 3, 4, 5] (by kernel_rfl) ⟨rfl, rfl, rfl, rfl, trivial⟩, Pp, Pq, hM⟩
    ·refine wp_skip ?_
     refine qe <| wp_seq <| za (vals := [some (qL MS 0), some (qL MS 0), some (qL MS 0), some (qL MS 2), some (.agg ⟨[.slice MV MR.literals_.lengths_.length MX, .slice MW MR.literals_.codes_.length MY]⟩), some (qL Nf 1), some (.int .i64 ((rd MT MU).Len_)), none, none]) hS xG rfl ?_
     intro l w ho hcl hA hst
     refine jg hA hst ho hcl xx xH 7 [0, 1, 2, 3, 4, 5, 6] rfl rfl rfl rfl rfl (by exact ⟨nM rfl, nM rfl, nQ rfl (by exact qW (yy rfl) rfl), nQ rfl (by exact qW (xv rfl Tryd.runUnderlying70 rfl Tryd.sizeOf68 rfl) rfl), nQ rfl (by exact qW (uS 1 rfl Nl rfl ([.slice MV MR.literals_.lengths_.length MX, .slice MW MR.literals_.codes_.length MY]) rfl rfl Tryd.isAgg68 Tryd.sizeOf68) rfl), nQ rfl (by exact qW (xv rfl Tryd.runUnderlying57 rfl Tryd.sizeOf3 rfl) rfl), nQ rfl (by exact qW (x5 0 rfl Nt rfl rfl Tryd.isAgg3) rfl), trivial⟩) fun D l a w ho hcl hav hpre hm hE hk hA hst => ?_
     have hS := (Ss.mk hE hst).env2 (e' := [(30, .int .i64 ((rd MT MU).Len_))]) ⟨rfl, trivial⟩
     refine qQ rfl <| qJ hS rfl Tryd.call33 (uw hG K ((rd MT MU).Len_) (hS.st.part 0 [0, 1, 2, 3, 4, 5, 6] (by kernel_rfl)) (qt hM) (fun Nb Ng Ni w hM  hst => qz hS.ev hst.appF rfl fun hS => ?_))
     replace hS : Ss _ _ _ H [Ny, No, Nn, M6, M7, M8, M9] F _ _ := hS
     refine qA ?_
     replace hst := hS.st
     obtain ⟨hcl, hmust, hav2, hA⟩ := dn (vals' := [some (qL MS 0), some (qL MS 0), some (qL MS 0), some (qL MS 2), some (.agg ⟨[.slice MV MR.literals_.lengths_.length MX, .slice MW MR.literals_.codes_.length MY]⟩), some (qL Nf 1), some (.int .i64 ((rd MT MU).Len_)), some (.agg ⟨[.int .i64 Nb, .int .i64 Ng, .int .u32 Ni]⟩), none]) 7 [(6, 7), (5, 6)] hA hcl hav hm hpre hk rfl rfl rfl rfl rfl rfl rfl
     clear hm hav
     refine jg hA hst ho hcl hav2 hmust 8 [0, 1, 2, 3, 4] rfl rfl rfl rfl rfl (by exact ⟨nM rfl, nM rfl, nQ rfl (by exact qW (yy rfl) rfl), nQ rfl (by exact qW (xv rfl Tryd.runUnderlying70 rfl Tryd.sizeOf68 rfl) rfl), nQ rfl (by exact qW (uS 1 rfl Nl rfl ([.slice MV MR.literals_.lengths_.length MX, .slice MW MR.literals_.codes_.length MY]) rfl rfl Tryd.isAgg68 Tryd.sizeOf68) rfl), trivial⟩) fun D l a w ho hcl hav hpre hm hE hk hA hst => ?_
     have hS := (Ss.mk hE hst).env2 (e' := [(24, qL MS 0), (28, .agg ⟨[.slice MV MR.literals_.lengths_.length MX, .slice MW MR.literals_.codes_.length MY]⟩), (31, .agg ⟨[.int .i64 Nb, .int .i64 Ng, .int .u32 Ni]⟩)]) ⟨rfl, rfl, rfl, trivial⟩
     refine qQ rfl <| qJ hS rfl Tryd.call50 (vM hG K (qp.mk (qR.mk (qr.mk Nd) MZ) MR.literals_ MR.distances_) MR.literals_ (xV.mk Nb Ng Ni) MS No Nq Ns Nn MV MX M6 MW MY M7 M0 M4 M8 M3 M5 M9 Nl Nz Nu Nv Nw Nx (hS.st.part 6 [1, 2, 3, 4, 5, 6, 0] (by kernel_rfl)) (qt hM) (fun NV Ph Pm NG NN NO w hM Pr NP hst => qz hS.ev hst.appF rfl fun hS => ?_))
     replace hS : Ss _ _ _ H [NO, NN, M6, M7, M8, M9, Ny] F _ _ := hS
     refine qA ?_
     replace hst := hS.st
     obtain ⟨hcl, hmust, hav2, hA⟩ := dn (vals' := [some (qL MS 0), some (qL MS 0), some (qL MS 0), some (qL MS 2), some (.agg ⟨[.slice MV MR.literals_.lengths_.length MX, .slice MW MR.literals_.codes_.length MY]⟩), some (qL Nf 1), some (.int .i64 ((rd MT MU).Len_)), some (.agg ⟨[.int .i64 Nb, .int .i64 Ng, .int .u32 Ni]⟩), some (.tuple ⟨[]⟩)]) 8 [(0, 8), (4, 8), (7, 8), (3, 4), (6, 7), (2, 3), (5, 6), (1, 2)] hA hcl hav hm hpre hk rfl rfl rfl rfl rfl rfl rfl
     clear hm hav
     refine ym hA hst ho hcl hmust [] rfl rfl rfl trivial fun a w hS => ?_
     replace hS := hS.env2 (e' := [(0, qL MS 0), (5, qL Nf 0), (6, .slice Np MT.length Nr), (7, .int .i64 (MT.length : Int)), (8, .int .i64 MU)]) ⟨rfl, rfl, rfl, rfl, rfl, trivial⟩
     refine qe <| za (vals := [some (qL MS 0), some (qL MS 0), some (qL MS 0), some (qL MS 4), some (.agg ⟨[.slice M0 MR.distances_.lengths_.length M4, .slice M3 MR.distances_.codes_.length M5]⟩), some (qL Nf 2), some (.int .i64 ((rd MT MU).Dist_)), none, none]) hS xG rfl ?_
     intro l w ho hcl hA hst
     refine jg hA hst ho hcl xx xH 7 [0, 1, 2, 3, 4, 5, 6] rfl rfl rfl rfl rfl (by exact ⟨nM rfl, nM rfl, nQ rfl (by exact qW (yy rfl) rfl), nQ rfl (by exact qW (xv rfl Tryd.runUnderlying70 rfl Tryd.sizeOf68 rfl) rfl), nQ rfl (by exact qW (uS 0 rfl NP rfl ([.slice M0 MR.distances_.lengths_.length M4, .slice M3 MR.distances_.codes_.length M5]) rfl rfl Tryd.isAgg68 Tryd.sizeOf68) rfl), nQ rfl (by exact qW (xv rfl Tryd.runUnderlying57 rfl Tryd.sizeOf3 rfl) rfl), nQ rfl (by exact qW (x5 6 rfl Nt rfl rfl Tryd.isAgg3) rfl), trivial⟩) fun D l a w ho hcl hav hpre hm hE hk hA hst => ?_
     have hS := (Ss.mk hE hst).env2 (e' := [(39, .int .i64 ((rd MT MU).Dist_))]) ⟨rfl, trivial⟩
     refine qQ rfl <| qJ hS rfl Tryd.call34 (vK hG K ((rd MT MU).Dist_) (hS.st.part 0 [0, 1, 2, 3, 4, 5, 6] (by kernel_rfl)) (qt hM) (fun Nc Nh Nj w hM  hst => qz hS.ev hst.appF rfl fun hS => ?_))
     replace hS : Ss _ _ _ H [NO, NN, M6, M7, M8, M9, Ny] F _ _ := hS
     refine qA ?_
     replace hst := hS.st
     obtain ⟨hcl, hmust, hav2, hA⟩ := dn (vals' := [some (qL MS 0), some (qL MS 0), some (qL MS 0), some (qL MS 4), some (.agg ⟨[.slice M0 MR.distances_.lengths_.length M4, .slice M3 MR.distances_.codes_.length M5]⟩), some (qL Nf 2), some (.int .i64 ((rd MT MU).Dist_)), some (.agg ⟨[.int .i64 Nc, .int .i64 Nh, .int .u32 Nj]⟩), none]) 7 [(6, 7), (5, 6)] hA hcl hav hm hpre hk rfl rfl rfl rfl rfl rfl rfl
     clear hm hav
     refine jg hA hst ho hcl hav2 hmust 8 [0, 1, 2, 3, 4] rfl rfl rfl rfl rfl (by exact ⟨nM rfl, nM rfl, nQ rfl (by exact qW (yy rfl) rfl), nQ rfl (by exact qW (xv rfl Tryd.runUnderlying70 rfl Tryd.sizeOf68 rfl) rfl), nQ rfl (by exact qW (uS 0 rfl NP rfl ([.slice M0 MR.distances_.lengths_.length M4, .slice M3 MR.distances_.codes_.length M5]) rfl rfl Tryd.isAgg68 Tryd.sizeOf68) rfl), trivial⟩) fun D l a w ho hcl hav hpre hm hE hk hA hst => ?_
     have hS := (Ss.mk hE hst).env2 (e' := [(33, qL MS 0), (37, .agg ⟨[.slice M0 MR.distances_.lengths_.length M4, .slice M3 MR.distances_.codes_.length M5]⟩), (40, .agg ⟨[.int .i64 Nc, .int .i64 Nh, .int .u32 Nj]⟩)]) ⟨rfl, rfl, rfl, trivial⟩
     refine qQ rfl <| qJ hS rfl Tryd.call50 (vN hG K (qp.mk (qR.mk (qr.mk NV) NG) MR.literals_ MR.distances_) MR.distances_ (xV.mk Nc Nh Nj) MS NO Ph Pm NN MV MX M6 MW MY M7 M0 M4 M8 M3 M5 M9 NP Pr Nu Nv Nw Nx (hS.st.part 6 [0, 1, 2, 3, 4, 5, 6] (by kernel_rfl)) (qt hM) (fun NW Pi Pn NH N2 N3 w hM Ps Pt hst => qz hS.ev hst.appF rfl fun hS => ?_))
     replace hS : Ss _ _ _ H [N3, N2, M6, M7, M8, M9, Ny] F _ _ := hS
     refine qA ?_
     replace hst := hS.st
     obtain ⟨hcl, hmust, hav2, hA⟩ := dn (vals' := [some (qL MS 0), some (qL MS 0), some (qL MS 0), some (qL MS 4), some (.agg ⟨[.slice M0 MR.distances_.lengths_.length M4, .slice M3 MR.distances_.codes_.length M5]⟩), some (qL Nf 2), some (.int .i64 ((rd MT MU).Dist_)), some (.agg ⟨[.int .i64 Nc, .int .i64 Nh, .int .u32 Nj]⟩), some (.tuple ⟨[]⟩)]) 8 [(0, 8), (4, 8), (7, 8), (3, 4), (6, 7), (2, 3), (5, 6), (1, 2)] hA hcl hav hm hpre hk rfl rfl rfl rfl rfl rfl rfl
     clear hm hav
     refine ym hA hst ho hcl hmust [] rfl rfl rfl trivial fun a w hS => ?_
     replace hS := hS.env2 (e' := [(0, qL MS 0), (6, .slice Np MT.length Nr), (7, .int .i64 (MT.length : Int)), (8, .int .i64 MU)]) ⟨rfl, rfl, rfl, rfl, trivial⟩
     refine zy (qe ?_)
     refine zP <| sB hS rfl fun hS => sM hS rfl fun hS => zn <| qe ?_
     exact NR _ _ ⟨NW, Pi, Pn, NH, N2, N3, (qh (MU + (1 : Int))), hS.to [0, 1, 2, 3, 4, 5] (by kernel_rfl) ⟨rfl, rfl, rfl, rfl, trivial⟩, Ps, Pt, hM⟩
   ·refine wp_exit ?_
    refine qE (qE (zd (qe ?_)))
    exact Pb _ _ ⟨Nd, Nq, Ns, MZ, Nn, No, hS.to [0, 1, 2, 3, 4, 5] (by kernel_rfl) ⟨rfl, trivial⟩, Nz, Nl, hM⟩
 ·intro a w hI
  obtain ⟨Nm, NA, NC, Na, ND, NE, hS, Pd, NQ, hM⟩ := hI
  rw [zi.j2] at hM
  refine zP <| sM hS rfl fun hS => sM hS rfl fun hS => sO hS (yy rfl) rfl fun hS => sO hS (xv rfl Tryd.runUnderlying70 rfl Tryd.sizeOf68 rfl) rfl fun hS => sO hS (uS 0 rfl NQ rfl ([.slice MV MR.literals_.lengths_.length MX, .slice MW MR.literals_.codes_.length MY]) rfl rfl Tryd.isAgg68 Tryd.sizeOf68) rfl fun hS => qJ hS rfl Tryd.call39 (yq hG K (qp.mk (qR.mk (qr.mk Nm) Na) MR.literals_ MR.distances_) MR.literals_ (256 : Int) MS NE NA NC ND MV MX M6 MW MY M7 M0 M4 M8 M3 M5 M9 NQ Pd Nu Nv Nw Nx (hS.st.part 6 [0, 1, 2, 3, 4, 5] (by kernel_rfl)) (qt hM) (fun NX Pj Po NI N4 N5 w hM Pv Pw hst => qz hS.ev hst.appF rfl fun hS => ?_))
  replace hS : Ss _ _ _ H [N5, N4, M6, M7, M8, M9] F _ _ := hS
  refine zn ?_
  exact jR (rs := []) hS rfl rfl (hret NX Pj Po NI N4 N5 _ (q8 hM) Pv Pw (hS.st.pick [0, 1, 2, 3, 4, 5] (by kernel_rfl)))
theorem yw {H : xT} {F : List qk} {w : World} {R : Ending → World → Prop} {kr : (List UInt8) → Prop} {kp : Value → Prop} (hG : Gl H) (K : Nat) (MR : qp) (M5 : Nat) (MS : qk) (MY : Option Addr) (M6 : Nat) (MT : qk) (MZ : Option Addr) (M7 : Nat) (MU : qk) (M0 : Option Addr) (M8 : Nat) (MV : qk) (M3 : Option Addr) (M9 : Nat) (MW : qk) (M4 : Option Addr) (Na : Nat) (MX : qk) (Nc : xM MS M5 ([.int .i64 MR.Writer_.place_.at_, .slice MY MR.Writer_.bytes_.length M6, .slice MZ MR.literals_.lengths_.length M7, .slice M0 MR.literals_.codes_.length M8, .slice M3 MR.distances_.lengths_.length M9, .slice M4 MR.distances_.codes_.length Na]) 70) (Nd : xj 5 (ci .u8) 1 MY MR.Writer_.bytes_ M6 MT) (Ng : xj 3 (ci .i64) 1 MZ MR.literals_.lengths_ M7 MU) (Nh : xj 3 (ci .i64) 1 M0 MR.literals_.codes_ M8 MV) (Ni : xj 3 (ci .i64) 1 M3 MR.distances_.lengths_ M9 MW) (Nj : xj 3 (ci .i64) 1 M4 MR.distances_.codes_ Na MX)
    (hS : St w H [MS, MT, MU, MV, MW, MX] F) (hm : (zX.m K MR).wp kr kp)
    (hret : ∀ (Nb : List UInt8) (w : World), kr Nb → St w H [MS, MT, MU, MV, MW, MX] F → R (.returned (xi Nb)) w) :
    Calls Tryd.prog 32 ⟨[qL M5 0]⟩ w R := by
 refine enter Tryd.func32 rfl Tryd.ntmps32 rfl hS fun a w hS => ?_
 have hM := hm; clear hm
 rw [zX.m] at hM
 refine qm <| sA hS rfl fun hS => qA <| wp_seq <| qm <| sM hS rfl fun hS => sO hS (XR rfl rfl Tryd.runUnderlying105) rfl fun hS => qA <| XC hS rfl <| wp_skip <| qe <| qm <| sM hS rfl fun hS => sO hS (yy rfl) rfl fun hS => sO hS (xv rfl Tryd.runUnderlying65 rfl Tryd.sizeOf32 rfl) rfl fun hS => sO hS (x5 0 rfl Nc rfl rfl Tryd.isAgg32) rfl fun hS => sO hS (Lv rfl Tryd.runUnderlying32 Tryd.runUnderlying5 Tryd.runUnderlying9 (Nd.rd (i := 1) rfl)) rfl fun hS => zG (v := xi) (x0 := (MR.Writer_.bytes_.map ur)) hS (xD rfl) rfl fun Nf a w hz hS => ?_
 have hM := qB hz hM; clear hz
 refine qA <| wp_ret ?_
 exact zD (rs := [2]) hS rfl rfl (hret Nf _ (q8 hM) (hS.st.pick [0, 1, 2, 3, 4, 5] (by kernel_rfl)))
theorem Xi {H : xT} {F : List qk} {w : World} {R : Ending → World → Prop} {kr : ((List UInt8) × Int) → Prop} {kp : Value → Prop} (hG : Gl H) (K : Nat) (MV : List qM) (Na : Option Addr) (Nb : Nat) (Nr : jT H [] F qM.cells Na MV) (Nq : MV.length ≤ Nb)
    (hS : St w H [] F) (hm : (jw.m K MV).wp kr kp)
    (hret : ∀ (Nx : List UInt8) (Ny : Int) (w : World), kr (Nx, Ny) → St w H [] F → R (.returned (.tuple ⟨[xi Nx, .int .i64 Ny]⟩)) w) :
    Calls Tryd.prog 16 ⟨[.slice Na MV.length Nb]⟩ w R := by
 refine enter Tryd.func16 rfl Tryd.ntmps16 rfl hS fun a w hS => ?_
 have hM := hm; clear hm
 rw [jw.m] at hM
 refine qm <| sA hS rfl fun hS => sA hS rfl fun hS => qA <| wp_seq <| qm <| sM hS rfl fun hS => qJ hS rfl Tryd.call28 (Qh hG K MV Na Nb (Nr.app _) Nq (hS.st.part 0 [] (by kernel_rfl)) (qt hM) (fun NU w hM  hst => qz hS.ev hst.appF rfl fun hS => ?_))
 replace hS : Ss _ _ _ H [] F _ _ := hS
 refine sO hS (un rfl rfl) rfl fun hS => qA <| qF hS rfl hM (fun ND hM => ?_) (fun ND hM => ?_)
 ·refine wp_seq ?_
  refine zP <| sA hS rfl fun hS => sA hS rfl fun hS => qA <| wp_ret <| zl ?_
  exact zD (rs := [2, 3]) hS rfl rfl (hret ([] : List UInt8) (1 : Int) _ (q8 hM) (hS.st.pick [] (by kernel_rfl)))
 ·refine wp_skip ?_
  refine qe <| qm <| sO hS (Xr ([.int .i64 (0 : Int), .slice none 0 0, .slice none 0 0, .slice none 0 0, .slice none 0 0, .slice none 0 0]) [(0, 2), (2, 2), (4, 2)] Tryd.zeroValue70 Tryd.runUnderlying70 (by intro w; simp [Tryd.sizeOf65, Tryd.sizeOf68]) rfl rfl) rfl fun hS => bx ([.int .i64 (0 : Int), .slice none 0 0, .slice none 0 0, .slice none 0 0, .slice none 0 0, .slice none 0 0]) hS rfl rfl rfl fun w Nj NI Nz hS => ?_
  obtain ⟨Nu, NC, hS⟩ := hS.nilV 5 (ci .u8) 1
  obtain ⟨Nc, NP, hS⟩ := hS.nilV 3 (ci .i64) 1
  obtain ⟨Nd, NQ, hS⟩ := hS.nilV 3 (ci .i64) 1
  obtain ⟨Nf, NR, hS⟩ := hS.nilV 3 (ci .i64) 1
  obtain ⟨Ng, NS, hS⟩ := hS.nilV 3 (ci .i64) 1
  refine sA hS rfl fun hS => qA <| qm <| sM hS rfl fun hS => sM hS rfl fun hS => qJ hS rfl Tryd.call29 (Qi hG K  (hS.st.part 0 [0, 1, 2, 3, 4, 5] (by kernel_rfl)) (qt hM) (fun M0 M4 MR MW M3 M5 MT MX M6 M8 MS MY M7 M9 MU MZ w hM Nm Nn No Np hst => qz hS.ev hst.appF rfl fun hS => ?_))
  replace hS : Ss _ _ _ H [MW, MX, MY, MZ, Ng, Nf, Nd, Nc, Nu, NI] F _ _ := hS
  refine sM hS rfl fun hS => sO hS (ex rfl rfl) rfl fun hS => sO hS (ex rfl rfl) rfl fun hS => sO hS (yy rfl) rfl fun hS => sO hS (xv rfl Tryd.runUnderlying70 rfl Tryd.sizeOf68 rfl) rfl fun hS => QU 9 ([.slice M0 MR.length M4, .slice M3 MT.length M5]) ([.int .i64 (0 : Int), .slice none ([] : List Int).length (0), .slice M0 MR.length M4, .slice M3 MT.length M5, .slice none ([] : List Int).length (0), .slice none ([] : List Int).length (0)]) hS rfl rfl Nz rfl rfl Tryd.sizeOf68 (by simp [Value.oneCell']) (Nat.le_of_ble_eq_true rfl) rfl fun w NT NA hS => sO hS (yy rfl) rfl fun hS => sO hS (xv rfl Tryd.runUnderlying70 rfl Tryd.sizeOf68 rfl) rfl fun hS => QU 9 ([.slice M6 MS.length M8, .slice M7 MU.length M9]) ([.int .i64 (0 : Int), .slice none ([] : List Int).length (0), .slice M0 MR.length M4, .slice M3 MT.length M5, .slice M6 MS.length M8, .slice M7 MU.length M9]) hS rfl rfl NA rfl rfl Tryd.sizeOf68 (by simp [Value.oneCell']) (Nat.le_of_ble_eq_true rfl) rfl fun w NJ NB hS => qA <| qm <| sM hS rfl fun hS => sO hS (yy rfl) rfl fun hS => sO hS (xv rfl Tryd.runUnderlying70 rfl Tryd.sizeOf65 rfl) rfl fun hS => qJ hS rfl Tryd.call30 (zj hG K (qp.mk (qR.mk (qr.mk (0 : Int)) ([] : List Int)) (qv.mk MR MT) (qv.mk MS MU)) (3 : Int) (3 : Int) Nj NJ none (0) Nu M0 M4 MW M3 M5 MX M6 M8 MY M7 M9 MZ NB NC Nm Nn No Np (hS.st.part 6 [9, 8, 0, 1, 2, 3, 4, 5, 6, 7] (by kernel_rfl)) (qt hM) (fun NV Ns NE NG Nh Nv Nw w hM NK NL hst => qz hS.ev hst.appF rfl fun hS => ?_))
  replace hS : Ss _ _ _ H [Nw, Nv, MW, MX, MY, MZ, Ng, Nf, Nd, Nc] F _ _ := hS
  refine qA <| qm <| sM hS rfl fun hS => sM hS rfl fun hS => qJ hS rfl Tryd.call31 (jD hG K (qp.mk (qR.mk (qr.mk Ns) Nh) (qv.mk MR MT) (qv.mk MS MU)) MV Nj Nw NE NG Nv M0 M4 MW M3 M5 MX M6 M8 MY M7 M9 MZ Na Nb NL NK Nm Nn No Np (Nr.app _) Nq (hS.st.part 6 [0, 1, 2, 3, 4, 5, 6, 7, 8, 9] (by kernel_rfl)) (qt hM) (fun Nt NF NH Ni Nk Nl w hM NM NN hst => qz hS.ev hst.appF rfl fun hS => ?_))
  replace hS : Ss _ _ _ H [Nl, Nk, MW, MX, MY, MZ, Ng, Nf, Nd, Nc] F _ _ := hS
  refine qA <| qm <| sM hS rfl fun hS => sO hS (yy rfl) rfl fun hS => sO hS (xv rfl Tryd.runUnderlying70 rfl Tryd.sizeOf65 rfl) rfl fun hS => qJ hS rfl Tryd.call32 (yw hG K (qp.mk (qR.mk (qr.mk Nt) Ni) (qv.mk MR MT) (qv.mk MS MU)) Nj Nl NF NH Nk M0 M4 MW M3 M5 MX M6 M8 MY M7 M9 MZ NN NM Nm Nn No Np (hS.st.part 6 [0, 1, 2, 3, 4, 5, 6, 7, 8, 9] (by kernel_rfl)) (qt hM) (fun NO w hM  hst => qz hS.ev hst.appF rfl fun hS => ?_))
  replace hS : Ss _ _ _ H [Nl, Nk, MW, MX, MY, MZ, Ng, Nf, Nd, Nc] F _ _ := hS
  refine sA hS rfl fun hS => sA hS rfl fun hS => qA <| wp_ret ?_
  exact zD (rs := [2, 3]) hS rfl rfl (hret NO (0 : Int) _ (q8 hM) (hS.st.pick [] (by kernel_rfl)))
theorem ZP {H : xT} {F : List qk} {w : World} {R : Ending → World → Prop} {kr : Bool → Prop} {kp : Value → Prop} (hG : Gl H) (K : Nat) (MR : Int)
    (hS : St w H [] F) (hm : (jM.m K MR).wp kr kp)
    (hret : ∀ (MS : Bool) (w : World), kr MS → St w H [] F → R (.returned (.bool MS)) w) :
    Calls Tryd.prog 54 ⟨[.int .i64 MR]⟩ w R := by
 refine enter Tryd.func54 rfl Tryd.ntmps54 rfl hS fun a w hS => ?_
 have hM := hm; clear hm
 rw [jM.m] at hM
 refine qm <| sA hS rfl fun hS => qA <| qm <| sM hS rfl fun hS => sB hS rfl fun hS => sM hS rfl fun hS => yJ 2 false 5 (b := (decide (MR < (0 : Int)))) (r := (decide (MR > (1099511627776 : Int)))) hS rfl rfl rfl rfl rfl rfl rfl (fun hb a w hS K hK => ?_) rfl fun a w hS => ?_
 ·refine zW hS rfl rfl rfl hb (mv rfl) rfl fun a w hS => ?_
  refine zW hS rfl rfl rfl hb (js rfl rfl rfl) rfl fun a w hS => ?_
  exact zn (hK _ _ (hS.up 2 rfl rfl))
 refine zG (v := Value.bool) (x0 := ((decide (MR < (0 : Int))) || (decide (MR > (1099511627776 : Int))))) hS (xD rfl) rfl fun MT a w hz hS => ?_
 have hM := qB hz hM; clear hz
 refine qA <| wp_ret ?_
 exact zD (rs := [2]) hS rfl rfl (hret MT _ (q8 hM) (hS.st.pick [] (by kernel_rfl)))
theorem jB {H : xT} {F : List qk} {w : World} {R : Ending → World → Prop} {kr : Int → Prop} {kp : Value → Prop} (hG : Gl H) (K : Nat) (MR : List Int) (MT : Option Addr) (MU : Nat) (MW : jT H [] F (ci .i64) MT MR) (M4 : MR.length ≤ MU)
    (hS : St w H [] F) (hm : (zx.m K MR).wp kr kp)
    (hret : ∀ (MY : Int) (w : World), kr MY → St w H [] F → R (.returned (.int .i64 MY)) w) :
    Calls Tryd.prog 72 ⟨[.slice MT MR.length MU, jE 54 [] []]⟩ w R := by
 refine enter Tryd.func72 rfl Tryd.ntmps72 rfl hS fun a w hS => ?_
 have hM := hm; clear hm
 rw [zx.m] at hM
 refine qm <| sA hS rfl fun hS => qA <| wp_seq <| qm <| sM hS rfl fun hS => sO hS (yk rfl Tryd.runUnderlying66) rfl fun hS => sM hS rfl fun hS => qA <| xS <| zv (fun MX a w => ∃ (MS : Int), Ss 19 [] [(0, .slice MT MR.length MU), (1, jE 54 [] []), (7, .int .i64 (MR.length : Int)), (8, .int .i64 MS)] H [] F a w ∧ (zx.l1 K MR MX MS).wp kr kp) K ?_ ?_ ?_
 ·exact ⟨(0 : Int), hS.to [] (by kernel_rfl) ⟨rfl, rfl, rfl, rfl, trivial⟩, hM⟩
 ·intro a w hI; obtain ⟨_, _, hM⟩ := hI; exact zt hM
 ·intro MX a w hI M5 MZ
  obtain ⟨MS, hS, hM⟩ := hI
  rw [zx.l1] at hM
  refine qm <| sB hS rfl fun hS => qA <| wp_seq <| qF hS rfl hM (fun M0 hM => ?_) (fun M0 hM => ?_)
  ·refine wp_skip ?_
   refine qe <| wp_seq <| xS <| qm <| sM hS rfl fun hS => sA hS rfl fun hS => qA <| qm <| sM hS rfl fun hS => sM hS rfl fun hS => sM hS rfl fun hS => ?_
   obtain ⟨MV, hM⟩ := qK hM
   refine sO hS (yv rfl rfl Tryd.runUnderlying66 Tryd.sizeOf3 MW.wk (fun _ => rfl) rfl MV) rfl fun hS => sO hS (yG rfl MW.wk (fun _ => rfl) MV rfl Tryd.isAgg3) rfl fun hS => ve hS rfl rfl Tryd.call54 (ZP hG K (rd MR MS) (hS.st.part 0 [] (by kernel_rfl)) (qt hM) (fun M6 w hM  hst => qz hS.ev hst.appF rfl fun hS => ?_))
   replace hS : Ss _ _ _ H [] F _ _ := hS
   refine qA <| qF hS rfl hM (fun M3 hM => ?_) (fun M3 hM => ?_)
   ·refine wp_seq ?_
    refine zP <| sM hS rfl fun hS => sA hS rfl fun hS => qA <| wp_ret <| x6 (zl (zl (x6 (zl ?_))))
    exact zD (rs := [4]) hS rfl rfl (hret MS _ (q8 hM) (hS.st.pick [] (by kernel_rfl)))
   ·refine wp_skip ?_
    refine zy (qe ?_)
    refine zP <| sB hS rfl fun hS => sM hS rfl fun hS => zn <| qe ?_
    exact MZ _ _ ⟨(qh (MS + (1 : Int))), hS.to [] (by kernel_rfl) ⟨rfl, rfl, rfl, rfl, trivial⟩, hM⟩
  ·refine wp_exit ?_
   refine qE (qE (zd (qe ?_)))
   refine qm <| sA hS rfl fun hS => qA <| wp_ret ?_
   exact zD (rs := [4]) hS rfl rfl (hret (-1 : Int) _ (q8 hM) (hS.st.pick [] (by kernel_rfl)))
theorem jq {H : xT} {F : List qk} {w : World} {R : Ending → World → Prop} {kr : Bool → Prop} {kp : Value → Prop} (hG : Gl H) (K : Nat) (MR : List Int) (MS : Option Addr) (MT : Nat) (MW : jT H [] F (ci .i64) MS MR) (MV : MR.length ≤ MT)
    (hS : St w H [] F) (hm : (xB.m K MR).wp kr kp)
    (hret : ∀ (MU : Bool) (w : World), kr MU → St w H [] F → R (.returned (.bool MU)) w) :
    Calls Tryd.prog 53 ⟨[.slice MS MR.length MT, jE 54 [] []]⟩ w R := by
 refine enter Tryd.func53 rfl Tryd.ntmps53 rfl hS fun a w hS => ?_
 have hM := hm; clear hm
 rw [xB.m] at hM
 refine qm <| sA hS rfl fun hS => qA <| qm <| sM hS rfl fun hS => sM hS rfl fun hS => qJ hS rfl Tryd.call72 (jB hG K MR MS MT (MW.app _) MV (hS.st.part 0 [] (by kernel_rfl)) (qt hM) (fun MY w hM  hst => qz hS.ev hst.appF rfl fun hS => ?_))
 replace hS : Ss _ _ _ H [] F _ _ := hS
 refine sB hS rfl fun hS => zG (v := Value.bool) (x0 := (decide (MY ≥ (0 : Int)))) hS (xD rfl) rfl fun MX a w hz hS => ?_
 have hM := qB hz hM; clear hz
 refine qA <| wp_ret ?_
 exact zD (rs := [4]) hS rfl rfl (hret MX _ (q8 hM) (hS.st.pick [] (by kernel_rfl)))
def qj (p : qk) (x : qb) (vs : List Value) : Prop :=
  ∃ (A0 : Option Addr) (c0 : Nat), vs = [.int .i64 x.often_, .slice A0 x.symbols_.length c0] ∧ Pl p (ci .i64) A0 x.symbols_ ∧ x.symbols_.length ≤ c0
theorem qj.mono {p p' : qk} (hs : ∀ q ∈ p, q ∈ p') {x : qb} {vs : List Value} (h : qj p x vs) : qj p' x vs := by
  obtain ⟨A0, c0, h0, h1, h2⟩ := h
  exact ⟨A0, c0, h0, h1.mono hs, h2⟩
theorem uu {H : xT} {F : List qk} {w : World} {R : Ending → World → Prop} {kr : Bool → Prop} {kp : Value → Prop} (hG : Gl H) (K : Nat) (MR : Int)
    (hS : St w H [] F) (hm : (jd.m K MR).wp kr kp)
    (hret : ∀ (MS : Bool) (w : World), kr MS → St w H [] F → R (.returned (.bool MS)) w) :
    Calls Tryd.prog 74 ⟨[.int .i64 MR]⟩ w R := by
 refine enter Tryd.func74 rfl Tryd.ntmps74 rfl hS fun a w hS => ?_
 have hM := hm; clear hm
 rw [jd.m] at hM
 refine qm <| sA hS rfl fun hS => qA <| qm <| sM hS rfl fun hS => sM hS rfl fun hS => sB hS rfl fun hS => zG (v := Value.bool) (x0 := (MR != MR)) hS (xD rfl) rfl fun MT a w hz hS => ?_
 have hM := qB hz hM; clear hz
 refine qA <| wp_ret ?_
 exact zD (rs := [2]) hS rfl rfl (hret MT _ (q8 hM) (hS.st.pick [] (by kernel_rfl)))
theorem vJ {H : xT} {F : List qk} {w : World} {R : Ending → World → Prop} {kr : Int → Prop} {kp : Value → Prop} (hG : Gl H) (K : Nat) (MR : Int) (MS : Int)
    (hS : St w H [] F) (hm : (yO.m K MR MS).wp kr kp)
    (hret : ∀ (MT : Int) (w : World), kr MT → St w H [] F → R (.returned (.int .i64 MT)) w) :
    Calls Tryd.prog 57 ⟨[.int .i64 MR, .int .i64 MS]⟩ w R := by
 refine enter Tryd.func57 rfl Tryd.ntmps57 rfl hS fun a w hS => ?_
 have hM := hm; clear hm
 rw [yO.m] at hM
 refine qm <| sA hS rfl fun hS => qA <| qm <| sM hS rfl fun hS => qJ hS rfl Tryd.call74 (uu hG K MR (hS.st.part 0 [] (by kernel_rfl)) (qt hM) (fun MZ w hM  hst => qz hS.ev hst.appF rfl fun hS => ?_))
 replace hS : Ss _ _ _ H [] F _ _ := hS
 refine sA hS rfl fun hS => qA <| qm <| sM hS rfl fun hS => qJ hS rfl Tryd.call74 (uu hG K MS (hS.st.part 0 [] (by kernel_rfl)) (qt hM) (fun M0 w hM  hst => qz hS.ev hst.appF rfl fun hS => ?_))
 replace hS : Ss _ _ _ H [] F _ _ := hS
 refine sA hS rfl fun hS => qA <| wp_seq <| qm <| sM hS rfl fun hS => qA <| qF hS rfl hM (fun MU hM => ?_) (fun MU hM => ?_)
 ·refine wp_seq ?_
  refine qm <| sM hS rfl fun hS => qA <| qF hS rfl hM (fun MV hM => ?_) (fun MV hM => ?_)
  ·refine wp_seq ?_
   refine zP <| sA hS rfl fun hS => qA <| wp_ret <| zl (zl ?_)
   exact zD (rs := [4]) hS rfl rfl (hret (0 : Int) _ (q8 hM) (hS.st.pick [] (by kernel_rfl)))
  ·refine wp_skip ?_
   refine qe <| qm <| sA hS rfl fun hS => qA <| wp_ret <| zl ?_
   exact zD (rs := [4]) hS rfl rfl (hret (-1 : Int) _ (q8 hM) (hS.st.pick [] (by kernel_rfl)))
 ·refine wp_skip ?_
  refine qe <| wp_seq <| qm <| sM hS rfl fun hS => qA <| qF hS rfl hM (fun MW hM => ?_) (fun MW hM => ?_)
  ·refine wp_seq ?_
   refine zP <| sA hS rfl fun hS => qA <| wp_ret <| zl ?_
   exact zD (rs := [4]) hS rfl rfl (hret (1 : Int) _ (q8 hM) (hS.st.pick [] (by kernel_rfl)))
  ·refine wp_skip ?_
   refine qe <| wp_seq <| qm <| sM hS rfl fun hS => sM hS rfl fun hS => sB hS rfl fun hS => qA <| qF hS rfl hM (fun MX hM => ?_) (fun MX hM => ?_)
   ·refine wp_seq ?_
    refine zP <| sA hS rfl fun hS => qA <| wp_ret <| zl ?_
    exact zD (rs := [4]) hS rfl rfl (hret (-1 : Int) _ (q8 hM) (hS.st.pick [] (by kernel_rfl)))
   ·refine wp_skip ?_
    refine qe <| wp_seq <| qm <| sM hS rfl fun hS => sM hS rfl fun hS => sB hS rfl fun hS => qA <| qF hS rfl hM (fun MY hM => ?_) (fun MY hM => ?_)
    ·refine wp_seq ?_
     refine zP <| sA hS rfl fun hS => qA <| wp_ret <| zl ?_
     exact zD (rs := [4]) hS rfl rfl (hret (1 : Int) _ (q8 hM) (hS.st.pick [] (by kernel_rfl)))
    ·refine wp_skip ?_
     refine qe <| qm <| sA hS rfl fun hS => qA <| wp_ret ?_
     exact zD (rs := [4]) hS rfl rfl (hret (0 : Int) _ (q8 hM) (hS.st.pick [] (by kernel_rfl)))
theorem ZQ {H : xT} {F : List qk} {w : World} {R : Ending → World → Prop} {kr : Int → Prop} {kp : Value → Prop} (hG : Gl H) (K : Nat) (MR : qb) (MS : qb) (MT : Option Addr) (MV : Nat) (MU : Option Addr) (MW : Nat) (M7 : jT H [] F (ci .i64) MT MR.symbols_) (M5 : MR.symbols_.length ≤ MV) (M8 : jT H [] F (ci .i64) MU MS.symbols_) (M6 : MS.symbols_.length ≤ MW)
    (hS : St w H [] F) (hm : (xQ.m K MR MS).wp kr kp)
    (hret : ∀ (MX : Int) (w : World), kr MX → St w H [] F → R (.returned (.int .i64 MX)) w) :
    Calls Tryd.prog 56 ⟨[.agg ⟨[.int .i64 MR.often_, .slice MT MR.symbols_.length MV]⟩, .agg ⟨[.int .i64 MS.often_, .slice MU MS.symbols_.length MW]⟩]⟩ w R := by
 refine enter Tryd.func56 rfl Tryd.ntmps56 rfl hS fun a w hS => ?_
 have hM := hm; clear hm
 rw [xQ.m] at hM
 refine qm <| bx ([.int .i64 MR.often_, .slice MT MR.symbols_.length MV]) hS rfl rfl rfl fun w M9 M0 MY hS => bx ([.int .i64 MS.often_, .slice MU MS.symbols_.length MW]) hS rfl rfl rfl fun w Na M3 MZ hS => sA hS rfl fun hS => qA <| qm <| sO hS (xv rfl Tryd.runUnderlying112 rfl Tryd.sizeOf3 rfl) rfl fun hS => sO hS (x5 1 rfl MY rfl rfl Tryd.isAgg3) rfl fun hS => sO hS (xv rfl Tryd.runUnderlying112 rfl Tryd.sizeOf3 rfl) rfl fun hS => sO hS (x5 0 rfl MZ rfl rfl Tryd.isAgg3) rfl fun hS => qJ hS rfl Tryd.call57 (vJ hG K MR.often_ MS.often_ (hS.st.part 0 [0, 1] (by kernel_rfl)) (qt hM) (fun M4 w hM  hst => qz hS.ev hst.appF rfl fun hS => ?_))
 replace hS : Ss _ _ _ H [M3, M0] F _ _ := hS
 refine sA hS rfl fun hS => qA <| wp_ret ?_
 exact zD (rs := [4]) hS rfl rfl (hret M4 _ (q8 hM) (hS.st.pick [] (by kernel_rfl)))
theorem Xo {H : xT} {F : List qk} {w : World} {R : Ending → World → Prop} {kr : Int → Prop} {kp : Value → Prop} (hG : Gl H) (K : Nat) (MR : qb) (MS : qb) (MT : Option Addr) (MV : Nat) (MU : Option Addr) (MW : Nat) (M7 : jT H [] F (ci .i64) MT MR.symbols_) (M5 : MR.symbols_.length ≤ MV) (M8 : jT H [] F (ci .i64) MU MS.symbols_) (M6 : MS.symbols_.length ≤ MW)
    (hS : St w H [] F) (hm : (xQ.m K MR MS).wp kr kp)
    (hret : ∀ (MX : Int) (w : World), kr MX → St w H [] F → R (.returned (.int .i64 MX)) w) :
    Calls Tryd.prog 76 ⟨[.agg ⟨[.int .i64 MR.often_, .slice MT MR.symbols_.length MV]⟩, .agg ⟨[.int .i64 MS.often_, .slice MU MS.symbols_.length MW]⟩]⟩ w R := by
 refine enter Tryd.func76 rfl Tryd.ntmps76 rfl hS fun a w hS => ?_
 have hM := hm; clear hm
 rw [xQ.m] at hM
 refine qm <| bx ([.int .i64 MR.often_, .slice MT MR.symbols_.length MV]) hS rfl rfl rfl fun w M9 M0 MY hS => bx ([.int .i64 MS.often_, .slice MU MS.symbols_.length MW]) hS rfl rfl rfl fun w Na M3 MZ hS => sA hS rfl fun hS => qA <| qm <| sO hS (xv rfl Tryd.runUnderlying112 rfl Tryd.sizeOf3 rfl) rfl fun hS => sO hS (x5 1 rfl MY rfl rfl Tryd.isAgg3) rfl fun hS => sO hS (xv rfl Tryd.runUnderlying112 rfl Tryd.sizeOf3 rfl) rfl fun hS => sO hS (x5 0 rfl MZ rfl rfl Tryd.isAgg3) rfl fun hS => qJ hS rfl Tryd.call57 (vJ hG K MR.often_ MS.often_ (hS.st.part 0 [0, 1] (by kernel_rfl)) (qt hM) (fun M4 w hM  hst => qz hS.ev hst.appF rfl fun hS => ?_))
 replace hS : Ss _ _ _ H [M3, M0] F _ _ := hS
 refine sA hS rfl fun hS => qA <| wp_ret ?_
 exact zD (rs := [4]) hS rfl rfl (hret M4 _ (q8 hM) (hS.st.pick [] (by kernel_rfl)))
theorem Xs (cq : Nat) (hcq : cq = 56 ∨ cq = 76) {H : xT} {F : List qk} {w : World} {R : Ending → World → Prop} {kr : Int → Prop} {kp : Value → Prop} (hG : Gl H) (K : Nat) (MR : qb) (MS : qb) (MT : Option Addr) (MV : Nat) (MU : Option Addr) (MW : Nat) (MZ : jT H [] F (ci .i64) MT MR.symbols_) (MX : MR.symbols_.length ≤ MV) (M0 : jT H [] F (ci .i64) MU MS.symbols_) (MY : MS.symbols_.length ≤ MW)
    (hS : St w H [] F) (hm : (xQ.m K MR MS).wp kr kp)
    (hret : ∀ (M3 : Int) (w : World), kr M3 → St w H [] F → R (.returned (.int .i64 M3)) w) :
    Calls Tryd.prog cq ⟨[.agg ⟨[.int .i64 MR.often_, .slice MT MR.symbols_.length MV]⟩, .agg ⟨[.int .i64 MS.often_, .slice MU MS.symbols_.length MW]⟩]⟩ w R := by
 rcases hcq with rfl | rfl
 · exact ZQ hG K MR MS MT MV MU MW MZ MX M0 MY hS hm hret
 · exact Xo hG K MR MS MT MV MU MW MZ MX M0 MY hS hm hret
theorem Zc {cq : Nat} (hcq : cq = 56 ∨ cq = 76) (args : Array Value) (w : World) : (callFunc cq args).run Tryd.prog w = .ok (.enter cq args) w := by
 rcases hcq with rfl | rfl
 · exact Tryd.call56 args w
 · exact Tryd.call76 args w
theorem xP (cq : Nat) (hcq : cq = 56 ∨ cq = 76) {H : xT} {F : List qk} {w : World} {R : Ending → World → Prop} {kr : (List qb) → Prop} {kp : Value → Prop} (hG : Gl H) (K : Nat) (Nb : List qb) (MW : Int) (MY : Int) (M0 : qk) (MT : Option Addr) (MV : Nat) (M4 : List (zS 2)) (Nv : qk) (NX : zF (qj M0) Nb M4) (NL : xj 112 (zS.v (sz := 2)) 2 MT M4 MV Nv)
    (hS : St w H [M0, Nv] F) (hm : (qc.m K Nb MW MY).wp kr kp)
    (hret : ∀ (Nq : List (zS 2)) (Ng : (List qb)) (NI : qk) (w : World), kr Ng → (xj 112 (zS.v (sz := 2)) 2 MT Nq MV NI) → (zF (qj M0) Ng Nq) → (Nq.length = M4.length) → St w H [M0, NI] F → R (.returned (.tuple ⟨[]⟩)) w) :
    Calls Tryd.prog 85 ⟨[.slice MT M4.length MV, .int .i64 MW, .int .i64 MY, jE cq [] []]⟩ w R := by
 refine enter Tryd.func85 rfl Tryd.ntmps85 rfl hS fun a w hS => ?_
 have hM := hm; clear hm
 rw [qc.m] at hM
 have Pb : ∀ q ∈ M0, q ∈ M0 := fun _ h => h
 have N2 : M4.length = M4.length := rfl
 refine qm <| sM hS rfl fun hS => sB hS rfl fun hS => zG (v := Value.int .i64) (x0 := (qh (MW + (1 : Int)))) hS (xD rfl) rfl fun N8 a w hz hS => ?_
 have hM := qB hz hM; clear hz
 refine qA <| xS <| zv (fun Ni a w => ∃ (M6 : List (zS 2)) (M5 : (List qb)) (Nh : qk) (M3 : Int), Ss 53 [] [(0, .slice MT M6.length MV), (1, .int .i64 MW), (2, .int .i64 MY), (3, jE cq [] []), (8, .int .i64 M3)] H [M0, Nh] F a w ∧ (xj 112 (zS.v (sz := 2)) 2 MT M6 MV Nh) ∧ (zF (qj M0) M5 M6) ∧ (M6.length = M4.length) ∧ (qc.l1 K MW MY Ni M5 M3).wp kr kp) K ?_ ?_ ?_
 ·exact ⟨M4, Nb, Nv, N8, hS.to [0, 1] (by kernel_rfl) ⟨rfl, rfl, rfl, rfl, rfl, trivial⟩, NL, NX, N2, hM⟩
 ·intro a w hI; obtain ⟨_, _, _, _, _, _, _, _, hM⟩ := hI; exact zt hM
 ·intro Ni a w hI Pe NK
  obtain ⟨M6, M5, Nh, M3, hS, Nx, NA, NC, hM⟩ := hI
  rw [qc.l1] at hM
  refine wp_seq <| qm <| sM hS rfl fun hS => sM hS rfl fun hS => sB hS rfl fun hS => qA <| qF hS rfl hM (fun NN hM => ?_) (fun NN hM => ?_)
  ·refine wp_skip ?_
   refine qe <| wp_seq <| xS <| qm <| sM hS rfl fun hS => sA hS rfl fun hS => qA <| xS <| zv (fun NF a w => ∃ (MU : List (zS 2)) (MR : (List qb)) (Nd : qk) (MS : Int), Ss 53 [] [(0, .slice MT MU.length MV), (1, .int .i64 MW), (2, .int .i64 MY), (3, jE cq [] []), (8, .int .i64 M3), (9, .int .i64 MS)] H [M0, Nd] F a w ∧ (xj 112 (zS.v (sz := 2)) 2 MT MU MV Nd) ∧ (zF (qj M0) MR MU) ∧ (MU.length = M4.length) ∧ (qc.l2 K (qc.l1 K MW MY Ni) MW M3 NF MR MS).wp kr kp) K ?_ ?_ ?_
   ·exact ⟨M6, M5, Nh, M3, hS.to [0, 1] (by kernel_rfl) ⟨rfl, rfl, rfl, rfl, rfl, rfl, trivial⟩, Nx, NA, NC, hM⟩
   ·intro a w hI; obtain ⟨_, _, _, _, _, _, _, _, hM⟩ := hI; exact zt hM
   ·intro NF a w hI Pd NJ
    obtain ⟨MU, MR, Nd, MS, hS, MZ, MX, ND, hM⟩ := hI
    rw [qc.l2] at hM
    refine wp_seq <| zm (fun a w => ∃ (NH : Bool), Ss 53 [] [(0, .slice MT MU.length MV), (1, .int .i64 MW), (2, .int .i64 MY), (3, jE cq [] []), (8, .int .i64 M3), (9, .int .i64 MS), (34, .bool NH)] H [M0, Nd] F a w ∧ (qc.j3 K (qc.l1 K MW MY Ni) (qc.l2 K (qc.l1 K MW MY Ni) MW M3 NF) M3 MR MS NH).wp kr kp) (fun Pc Nw => ?_) ?_
    ·refine Li (b := (decide (MS > MW))) hM (fun Nk hM => ?_) (fun Nk hM => ?_)
     ·obtain ⟨Nl, hM⟩ := qK hM
      obtain ⟨Nr, Nt, NY, NT, NP⟩ := MX.get Nl
      obtain ⟨Nm, hM⟩ := qK hM
      obtain ⟨Ns, Nu, NZ, NU, NQ⟩ := MX.get Nm
      refine za (vals := [some (.int .i64 MS), some (.int .i64 MW), some (.bool true), some (.bool true), some (jE cq [] []), some (.slice MT MU.length MV), some (.int .i64 MS), some (xI MT (Int.toNat MS * 2)), some (.agg ⟨[.int .i64 ((rd MR MS).often_), .slice Nr ((rd MR MS).symbols_).length Nt]⟩), some (.slice MT MU.length MV), some (.int .i64 MS), some (.int .i64 (qh (MS - (1 : Int)))), some (xI MT (Int.toNat (qh (MS - (1 : Int))) * 2)), some (.agg ⟨[.int .i64 ((rd MR (qh (MS - (1 : Int)))).often_), .slice Ns ((rd MR (qh (MS - (1 : Int)))).symbols_).length Nu]⟩), none, none, none]) hS xG rfl ?_
      intro l w ho hcl hA hst
      refine jg hA hst ho hcl xx xH 14 [0, 1, 2, 3, 4, 5, 6, 7, 8, 9, 10, 11, 12, 13] rfl rfl rfl rfl rfl (by exact ⟨nM rfl, nM rfl, nQ rfl (by exact qW (js rfl rfl rfl) (congrArg Value.bool Nk)), nM rfl, nW rfl rfl rfl rfl rfl rfl rfl rfl (by exact qW (mv rfl) rfl), nW rfl rfl rfl rfl rfl rfl rfl rfl (by exact qW (mv rfl) rfl), nW rfl rfl rfl rfl rfl rfl rfl rfl (by exact qW (mv rfl) rfl), nW rfl rfl rfl rfl rfl rfl rfl rfl (by exact qW (yv rfl rfl Tryd.runUnderlying110 Tryd.sizeOf112 (MZ.rd (i := 1) rfl) zS.len rfl (MX.inb Nl)) rfl), nW rfl rfl rfl rfl rfl rfl rfl rfl (by exact qW (qW (v7 rfl (MZ.rd (i := 1) rfl) zS.len (MX.inb Nl) Tryd.isAgg112 Tryd.sizeOf112 rfl) (congrArg (fun l => Value.agg ⟨l⟩) NY)) rfl), nW rfl rfl rfl rfl rfl rfl rfl rfl (by exact qW (mv rfl) rfl), nW rfl rfl rfl rfl rfl rfl rfl rfl (by exact qW (mv rfl) rfl), nW rfl rfl rfl rfl rfl rfl rfl rfl (by exact qW (js rfl rfl rfl) rfl), nW rfl rfl rfl rfl rfl rfl rfl rfl (by exact qW (yv rfl rfl Tryd.runUnderlying110 Tryd.sizeOf112 (MZ.rd (i := 1) rfl) zS.len rfl (MX.inb Nm)) rfl), nW rfl rfl rfl rfl rfl rfl rfl rfl (by exact qW (qW (v7 rfl (MZ.rd (i := 1) rfl) zS.len (MX.inb Nm) Tryd.isAgg112 Tryd.sizeOf112 rfl) (congrArg (fun l => Value.agg ⟨l⟩) NZ)) rfl), trivial⟩) fun D l a w ho hcl hav hpre hm hE hk hA hst => ?_
      have hS := (Ss.mk hE hst).env2 (e' := [(21, .bool true), (22, jE cq [] []), (26, .agg ⟨[.int .i64 ((rd MR MS).often_), .slice Nr ((rd MR MS).symbols_).length Nt]⟩), (31, .agg ⟨[.int .i64 ((rd MR (qh (MS - (1 : Int)))).often_), .slice Ns ((rd MR (qh (MS - (1 : Int)))).symbols_).length Nu]⟩)]) ⟨rfl, rfl, rfl, rfl, trivial⟩
      refine qQ rfl <| J0 hS rfl rfl rfl rfl <| ve hS rfl rfl (Zc hcq) (Xs cq hcq hG K (qb.mk ((rd MR MS).often_) ((rd MR MS).symbols_)) (qb.mk ((rd MR (qh (MS - (1 : Int)))).often_) ((rd MR (qh (MS - (1 : Int)))).symbols_)) Nr Nt Ns Nu (NT.rdF (i := 0) rfl) NP (NU.rdF (i := 0) rfl) NQ (hS.st.part 0 [0, 1] (by kernel_rfl)) (qt hM) (fun Nj w hM  hst => qz hS.ev hst.appF rfl fun hS => ?_))
      replace hS : Ss _ _ _ H [M0, Nd] F _ _ := hS
      refine qA ?_
      replace hst := hS.st
      obtain ⟨hcl, hmust, hav2, hA⟩ := dn (vals' := [some (.int .i64 MS), some (.int .i64 MW), some (.bool true), some (.bool true), some (jE cq [] []), some (.slice MT MU.length MV), some (.int .i64 MS), some (xI MT (Int.toNat MS * 2)), some (.agg ⟨[.int .i64 ((rd MR MS).often_), .slice Nr ((rd MR MS).symbols_).length Nt]⟩), some (.slice MT MU.length MV), some (.int .i64 MS), some (.int .i64 (qh (MS - (1 : Int)))), some (xI MT (Int.toNat (qh (MS - (1 : Int))) * 2)), some (.agg ⟨[.int .i64 ((rd MR (qh (MS - (1 : Int)))).often_), .slice Ns ((rd MR (qh (MS - (1 : Int)))).symbols_).length Nu]⟩), some (.int .i64 Nj), some (.bool (decide (Nj < (0 : Int)))), some (.bool (decide (Nj < (0 : Int))))]) 14 [(3, 14), (4, 14), (8, 14), (13, 14), (2, 3), (7, 8), (12, 13), (0, 2), (1, 2), (5, 7), (6, 7), (9, 12), (11, 12), (10, 11)] hA hcl hav hm hpre hk rfl rfl rfl rfl rfl rfl rfl
      clear hm hav
      refine ym hA hst ho hcl hmust [15, 16] rfl rfl rfl (by exact ⟨nW rfl rfl rfl rfl rfl rfl rfl rfl (by exact qW (js rfl rfl rfl) rfl), nQ rfl (by exact qW (pk rfl rfl rfl) rfl), trivial⟩) fun a w hS => ?_
      replace hS := hS.env2 (e' := [(0, .slice MT MU.length MV), (1, .int .i64 MW), (2, .int .i64 MY), (3, jE cq [] []), (8, .int .i64 M3), (9, .int .i64 MS), (34, .bool (decide (Nj < (0 : Int))))]) ⟨rfl, rfl, rfl, rfl, rfl, rfl, rfl, trivial⟩
      refine qe ?_
      exact Nw _ _ ⟨(decide (Nj < (0 : Int))), hS.to [0, 1] (by kernel_rfl) ⟨rfl, rfl, rfl, rfl, rfl, rfl, rfl, trivial⟩, hM⟩
     ·refine za (vals := [some (.int .i64 MS), some (.int .i64 MW), some (.bool false), some (.bool false), some (undef), some (undef), some (undef), some (undef), some (undef), some (undef), some (undef), some (undef), some (undef), some (undef), some (undef), some (undef), some (.bool false)]) hS xG rfl ?_
      intro l w ho hcl hA hst
      refine ym hA hst ho hcl xH [0, 1, 2, 3, 4, 5, 6, 7, 8, 9, 10, 11, 12, 13, 14, 15, 16] rfl rfl rfl (by exact ⟨nM rfl, nM rfl, nQ rfl (by exact qW (js rfl rfl rfl) (congrArg Value.bool Nk)), nM rfl, nS rfl rfl rfl rfl rfl rfl rfl rfl rfl, nS rfl rfl rfl rfl rfl rfl rfl rfl rfl, nS rfl rfl rfl rfl rfl rfl rfl rfl rfl, nS rfl rfl rfl rfl rfl rfl rfl rfl rfl, nS rfl rfl rfl rfl rfl rfl rfl rfl rfl, nS rfl rfl rfl rfl rfl rfl rfl rfl rfl, nS rfl rfl rfl rfl rfl rfl rfl rfl rfl, nS rfl rfl rfl rfl rfl rfl rfl rfl rfl, nS rfl rfl rfl rfl rfl rfl rfl rfl rfl, nS rfl rfl rfl rfl rfl rfl rfl rfl rfl, nS rfl rfl rfl rfl rfl rfl rfl rfl rfl, nS rfl rfl rfl rfl rfl rfl rfl rfl rfl, nQ rfl (by exact qW (pk rfl rfl rfl) rfl), trivial⟩) fun a w hS => ?_
      replace hS := hS.env2 (e' := [(0, .slice MT MU.length MV), (1, .int .i64 MW), (2, .int .i64 MY), (3, jE cq [] []), (8, .int .i64 M3), (9, .int .i64 MS), (34, .bool false)]) ⟨rfl, rfl, rfl, rfl, rfl, rfl, rfl, trivial⟩
      refine qe ?_
      exact Nw _ _ ⟨false, hS.to [0, 1] (by kernel_rfl) ⟨rfl, rfl, rfl, rfl, rfl, rfl, rfl, trivial⟩, hM⟩
    ·intro a w hI
     obtain ⟨NH, hS, hM⟩ := hI
     rw [qc.j3] at hM
     refine qF hS rfl hM (fun NO hM => ?_) (fun NO hM => ?_)
     ·refine wp_skip ?_
      refine qe <| wp_seq <| xS ?_
      obtain ⟨Nn, hM⟩ := qK hM
      obtain ⟨M7, M9, N0, NV, NR⟩ := MX.get Nn
      obtain ⟨Nc, hM⟩ := qK hM
      obtain ⟨M8, Na, N1, NW, NS⟩ := MX.get Nc
      refine za (vals := [some (.slice MT MU.length MV), some (.int .i64 MS), some (.slice MT MU.length MV), some (.int .i64 MS), some (.int .i64 (qh (MS - (1 : Int)))), some (.slice MT MU.length MV), some (.int .i64 MS), some (.int .i64 (qh (MS - (1 : Int)))), some (xI MT (Int.toNat (qh (MS - (1 : Int))) * 2)), some (.agg ⟨[.int .i64 ((rd MR (qh (MS - (1 : Int)))).often_), .slice M7 ((rd MR (qh (MS - (1 : Int)))).symbols_).length M9]⟩), some (.slice MT MU.length MV), some (.int .i64 MS), some (xI MT (Int.toNat MS * 2)), some (.agg ⟨[.int .i64 ((rd MR MS).often_), .slice M8 ((rd MR MS).symbols_).length Na]⟩), some (xI MT (Int.toNat MS * 2)), none, none, none]) hS xG rfl ?_
      intro l w ho hcl hA hst
      refine jg hA hst ho hcl xx xH 15 [0, 1, 2, 3, 4, 5, 6, 7, 8, 9, 10, 11, 12, 13, 14] rfl rfl rfl rfl rfl (by exact ⟨nM rfl, nM rfl, nM rfl, nM rfl, nB rfl, nM rfl, nM rfl, nB rfl, nQ rfl (by exact qW (yv rfl rfl Tryd.runUnderlying110 Tryd.sizeOf112 (MZ.rd (i := 1) rfl) zS.len rfl (MX.inb Nn)) rfl), nQ rfl (by exact qW (qW (v7 rfl (MZ.rd (i := 1) rfl) zS.len (MX.inb Nn) Tryd.isAgg112 Tryd.sizeOf112 rfl) (congrArg (fun l => Value.agg ⟨l⟩) N0)) rfl), nM rfl, nM rfl, nQ rfl (by exact qW (yv rfl rfl Tryd.runUnderlying110 Tryd.sizeOf112 (MZ.rd (i := 1) rfl) zS.len rfl (MX.inb Nc)) rfl), nQ rfl (by exact qW (qW (v7 rfl (MZ.rd (i := 1) rfl) zS.len (MX.inb Nc) Tryd.isAgg112 Tryd.sizeOf112 rfl) (congrArg (fun l => Value.agg ⟨l⟩) N1)) rfl), nQ rfl (by exact qW (yv rfl rfl Tryd.runUnderlying110 Tryd.sizeOf112 (MZ.rd (i := 1) rfl) zS.len rfl (MX.inb Nc)) rfl), trivial⟩) fun D l a w ho hcl hav hpre hm hE hk hA hst => ?_
      have hS := (Ss.mk hE hst).env2 (e' := [(46, .agg ⟨[.int .i64 ((rd MR (qh (MS - (1 : Int)))).often_), .slice M7 ((rd MR (qh (MS - (1 : Int)))).symbols_).length M9]⟩), (51, xI MT (Int.toNat MS * 2))]) ⟨rfl, rfl, trivial⟩
      refine qQ rfl <| VZ (i := MS) (sz := 2) 1 (⟨[.int .i64 ((rd MR (qh (MS - (1 : Int)))).often_), .slice M7 ((rd MR (qh (MS - (1 : Int)))).symbols_).length M9], by simp, by simp [Value.oneCell']⟩ : zS 2) hS rfl rfl MZ rfl Tryd.sizeOf112 rfl (MX.inb Nc) fun NG w Pf hz Ny hS => ?_
      obtain ⟨N5, hzm⟩ := uh (MR.set (Int.toNat MS) (qb.mk ((rd MR (qh (MS - (1 : Int)))).often_) ((rd MR (qh (MS - (1 : Int)))).symbols_)))
      replace hM := qB hzm hM
      have Nf := zF.set (x := (qb.mk ((rd MR (qh (MS - (1 : Int)))).often_) ((rd MR (qh (MS - (1 : Int)))).symbols_))) (r := (⟨[.int .i64 ((rd MR (qh (MS - (1 : Int)))).often_), .slice M7 ((rd MR (qh (MS - (1 : Int)))).symbols_).length M9], by simp, by simp [Value.oneCell']⟩ : zS 2)) (Int.toNat MS) MX (show qj M0 _ _ from ⟨M7, M9, rfl, NV, NR⟩)
      have No : NG.length = MU.length := by rw [hz]; exact List.length_set ..
      rw [← hz, ← hzm] at Nf; clear hz hzm
      have N3 := Eq.trans No ND
      refine qA ?_
      replace hst := hS.st
      obtain ⟨Nz, hM⟩ := qK hM
      obtain ⟨hcl, hmust, hav2, hA⟩ := XQ (vals' := [some (.slice MT MU.length MV), some (.int .i64 MS), some (.slice MT MU.length MV), some (.int .i64 MS), some (.int .i64 (qh (MS - (1 : Int)))), some (.slice MT MU.length MV), some (.int .i64 MS), some (.int .i64 (qh (MS - (1 : Int)))), some (xI MT (Int.toNat (qh (MS - (1 : Int))) * 2)), some (.agg ⟨[.int .i64 ((rd MR (qh (MS - (1 : Int)))).often_), .slice M7 ((rd MR (qh (MS - (1 : Int)))).symbols_).length M9]⟩), some (.slice MT MU.length MV), some (.int .i64 MS), some (xI MT (Int.toNat MS * 2)), some (.agg ⟨[.int .i64 ((rd MR MS).often_), .slice M8 ((rd MR MS).symbols_).length Na]⟩), some (xI MT (Int.toNat MS * 2)), some undef, some (xI MT (Int.toNat (qh (MS - (1 : Int))) * 2)), none]) 15 [(0, 15), (1, 15), (5, 15), (6, 15), (7, 15), (8, 15), (9, 15), (13, 15), (14, 15), (12, 13), (10, 12), (11, 12)] hA hcl hav hm hpre rfl rfl rfl rfl rfl
      clear hm hav
      refine jg hA hst ho hcl hav2 hmust 17 [2, 3, 4, 16] rfl rfl rfl rfl rfl (by exact ⟨nM rfl, nM rfl, nB rfl, nQ rfl (by exact qW (yv (BH No rfl) rfl Tryd.runUnderlying110 Tryd.sizeOf112 (Ny.rd (i := 1) rfl) zS.len rfl (Nf.inb Nz)) rfl), trivial⟩) fun D l a w ho hcl hav hpre hm hE hk hA hst => ?_
      have hS := (Ss.mk hE hst).env2 (e' := [(50, .agg ⟨[.int .i64 ((rd MR MS).often_), .slice M8 ((rd MR MS).symbols_).length Na]⟩), (52, xI MT (Int.toNat (qh (MS - (1 : Int))) * 2))]) ⟨rfl, rfl, trivial⟩
      refine qQ rfl <| VZ (i := (qh (MS - (1 : Int)))) (sz := 2) 1 (⟨[.int .i64 ((rd MR MS).often_), .slice M8 ((rd MR MS).symbols_).length Na], by simp, by simp [Value.oneCell']⟩ : zS 2) hS rfl rfl Ny rfl Tryd.sizeOf112 rfl (Nf.inb Nz) fun Np w N7 hz NM hS => ?_
      obtain ⟨N6, hzm⟩ := uh (N5.set (Int.toNat (qh (MS - (1 : Int)))) (qb.mk ((rd MR MS).often_) ((rd MR MS).symbols_)))
      replace hM := qB hzm hM
      have NB := zF.set (x := (qb.mk ((rd MR MS).often_) ((rd MR MS).symbols_))) (r := (⟨[.int .i64 ((rd MR MS).often_), .slice M8 ((rd MR MS).symbols_).length Na], by simp, by simp [Value.oneCell']⟩ : zS 2)) (Int.toNat (qh (MS - (1 : Int)))) Nf (show qj M0 _ _ from ⟨M8, Na, rfl, NW, NS⟩)
      have NE : Np.length = NG.length := by rw [hz]; exact List.length_set ..
      rw [← hz, ← hzm] at NB; clear hz hzm
      have N4 := Eq.trans NE N3
      refine qA ?_
      replace hst := hS.st
      obtain ⟨hcl, hmust, hav2, hA⟩ := XQ (vals' := [some (.slice MT MU.length MV), some (.int .i64 MS), some (.slice MT MU.length MV), some (.int .i64 MS), some (.int .i64 (qh (MS - (1 : Int)))), some (.slice MT MU.length MV), some (.int .i64 MS), some (.int .i64 (qh (MS - (1 : Int)))), some (xI MT (Int.toNat (qh (MS - (1 : Int))) * 2)), some (.agg ⟨[.int .i64 ((rd MR (qh (MS - (1 : Int)))).often_), .slice M7 ((rd MR (qh (MS - (1 : Int)))).symbols_).length M9]⟩), some (.slice MT MU.length MV), some (.int .i64 MS), some (xI MT (Int.toNat MS * 2)), some (.agg ⟨[.int .i64 ((rd MR MS).often_), .slice M8 ((rd MR MS).symbols_).length Na]⟩), some (xI MT (Int.toNat MS * 2)), some undef, some (xI MT (Int.toNat (qh (MS - (1 : Int))) * 2)), some undef]) 17 [(0, 17), (1, 17), (2, 17), (3, 17), (4, 17), (5, 17), (6, 17), (7, 17), (8, 17), (9, 17), (10, 17), (11, 17), (12, 17), (13, 17), (14, 17), (15, 17), (16, 17)] hA hcl hav hm hpre rfl rfl rfl rfl rfl
      clear hm hav
      refine ym hA hst ho hcl hmust [] rfl rfl rfl trivial fun a w hS => ?_
      replace hS := hS.env2 (e' := [(0, .slice MT Np.length MV), (1, .int .i64 MW), (2, .int .i64 MY), (3, jE cq [] []), (8, .int .i64 M3), (9, .int .i64 MS)]) ⟨(KP (u := .slice MT MU.length MV) rfl (by rw [NE, No])), rfl, rfl, rfl, rfl, rfl, trivial⟩
      refine zy (qe ?_)
      refine zP <| sM hS rfl fun hS => sB hS rfl fun hS => zG (v := Value.int .i64) (x0 := (qh (MS - (1 : Int)))) hS (xD rfl) rfl fun Pa a w hz hS => ?_
      have hM := qB hz hM; clear hz
      refine zn <| qe ?_
      exact NJ _ _ ⟨Np, N6, N7, Pa, hS.to [0, 1] (by kernel_rfl) ⟨rfl, rfl, rfl, rfl, rfl, rfl, trivial⟩, NM, NB, N4, hM⟩
     ·refine wp_exit ?_
      refine qE (qE (zd (zy (qe ?_))))
      refine zP <| sM hS rfl fun hS => sB hS rfl fun hS => zG (v := Value.int .i64) (x0 := (qh (M3 + (1 : Int)))) hS (xD rfl) rfl fun N9 a w hz hS => ?_
      have hM := qB hz hM; clear hz
      refine zn <| qe ?_
      exact NK _ _ ⟨MU, MR, Nd, N9, hS.to [0, 1] (by kernel_rfl) ⟨rfl, rfl, rfl, rfl, rfl, trivial⟩, MZ, MX, ND, hM⟩
  ·refine wp_exit ?_
   refine qE (qE (zd ?_))
   exact jR (rs := []) hS rfl rfl (hret M6 M5 Nh _ (q8 hM) Nx NA NC (hS.st.pick [0, 1] (by kernel_rfl)))
theorem xm (cq : Nat) (hcq : cq = 56 ∨ cq = 76) {H : xT} {F : List qk} {w : World} {R : Ending → World → Prop} {kr : (List qb) → Prop} {kp : Value → Prop} (hG : Gl H) (K : Nat) (M8 : List qb) (MT : Int) (MU : Int) (Na : Int) (M0 : qk) (MV : Option Addr) (MX : Nat) (MZ : List (zS 2)) (Nj : qk) (NA : zF (qj M0) M8 MZ) (Nt : xj 112 (zS.v (sz := 2)) 2 MV MZ MX Nj)
    (hS : St w H [M0, Nj] F) (hm : (qI.m K M8 MT MU Na).wp kr kp)
    (hret : ∀ (Nh : List (zS 2)) (Nc : (List qb)) (Nq : qk) (w : World), kr Nc → (xj 112 (zS.v (sz := 2)) 2 MV Nh MX Nq) → (zF (qj M0) Nc Nh) → (Nh.length = MZ.length) → St w H [M0, Nq] F → R (.returned (.tuple ⟨[]⟩)) w) :
    Calls Tryd.prog 93 ⟨[.slice MV MZ.length MX, .int .i64 MT, .int .i64 MU, .int .i64 Na, jE cq [] []]⟩ w R := by
 refine enter Tryd.func93 rfl Tryd.ntmps93 rfl hS fun a w hS => ?_
 have hM := hm; clear hm
 rw [qI.m] at hM
 have NK : ∀ q ∈ M0, q ∈ M0 := fun _ h => h
 have ND : MZ.length = MZ.length := rfl
 refine qm <| sA hS rfl fun hS => qA <| xS <| zv (fun Nr a w => ∃ (MW : List (zS 2)) (MS : (List qb)) (Ni : qk) (MR : Int), Ss 38 [] [(0, .slice MV MW.length MX), (1, .int .i64 MT), (2, .int .i64 MU), (3, .int .i64 Na), (10, .int .i64 MR)] H [M0, Ni] F a w ∧ (xj 112 (zS.v (sz := 2)) 2 MV MW MX Ni) ∧ (zF (qj M0) MS MW) ∧ (MW.length = MZ.length) ∧ (qI.l1 K MT MU Na Nr MS MR).wp kr kp) K ?_ ?_ ?_
 ·exact ⟨MZ, M8, Nj, (0 : Int), hS.to [0, 1] (by kernel_rfl) ⟨rfl, rfl, rfl, rfl, rfl, trivial⟩, Nt, NA, ND, hM⟩
 ·intro a w hI; obtain ⟨_, _, _, _, _, _, _, _, hM⟩ := hI; exact zt hM
 ·intro Nr a w hI NL Ns
  obtain ⟨MW, MS, Ni, MR, hS, M3, MY, Nn, hM⟩ := hI
  rw [qI.l1] at hM
  refine wp_seq <| qm <| sM hS rfl fun hS => sM hS rfl fun hS => sB hS rfl fun hS => qA <| qF hS rfl hM (fun Nv hM => ?_) (fun Nv hM => ?_)
  ·refine wp_skip ?_
   refine qe <| wp_seq <| xS ?_
   obtain ⟨Nd, hM⟩ := qK hM
   obtain ⟨M4, M6, NB, Ny, Nw⟩ := MY.get Nd
   obtain ⟨M9, hM⟩ := qK hM
   obtain ⟨M5, M7, NC, Nz, Nx⟩ := MY.get M9
   refine za (vals := [some (.slice MV MW.length MX), some (.int .i64 MT), some (.int .i64 MR), some (.int .i64 (qh (MT + MR))), some (.slice MV MW.length MX), some (.int .i64 MU), some (.int .i64 MR), some (.int .i64 (qh (MU + MR))), some (.slice MV MW.length MX), some (.int .i64 MU), some (.int .i64 MR), some (.int .i64 (qh (MU + MR))), some (xI MV (Int.toNat (qh (MU + MR)) * 2)), some (.agg ⟨[.int .i64 ((rd MS (qh (MU + MR))).often_), .slice M4 ((rd MS (qh (MU + MR))).symbols_).length M6]⟩), some (.slice MV MW.length MX), some (.int .i64 MT), some (.int .i64 MR), some (.int .i64 (qh (MT + MR))), some (xI MV (Int.toNat (qh (MT + MR)) * 2)), some (.agg ⟨[.int .i64 ((rd MS (qh (MT + MR))).often_), .slice M5 ((rd MS (qh (MT + MR))).symbols_).length M7]⟩), some (xI MV (Int.toNat (qh (MT + MR)) * 2)), none, none, none]) hS xG rfl ?_
   intro l w ho hcl hA hst
   refine jg hA hst ho hcl xx xH 21 [0, 1, 2, 3, 4, 5, 6, 7, 8, 9, 10, 11, 12, 13, 14, 15, 16, 17, 18, 19, 20] rfl rfl rfl rfl rfl (by exact ⟨nM rfl, nM rfl, nM rfl, nB rfl, nM rfl, nM rfl, nM rfl, nB rfl, nM rfl, nM rfl, nM rfl, nB rfl, nQ rfl (by exact qW (yv rfl rfl Tryd.runUnderlying110 Tryd.sizeOf112 (M3.rd (i := 1) rfl) zS.len rfl (MY.inb Nd)) rfl), nQ rfl (by exact qW (qW (v7 rfl (M3.rd (i := 1) rfl) zS.len (MY.inb Nd) Tryd.isAgg112 Tryd.sizeOf112 rfl) (congrArg (fun l => Value.agg ⟨l⟩) NB)) rfl), nM rfl, nM rfl, nM rfl, nB rfl, nQ rfl (by exact qW (yv rfl rfl Tryd.runUnderlying110 Tryd.sizeOf112 (M3.rd (i := 1) rfl) zS.len rfl (MY.inb M9)) rfl), nQ rfl (by exact qW (qW (v7 rfl (M3.rd (i := 1) rfl) zS.len (MY.inb M9) Tryd.isAgg112 Tryd.sizeOf112 rfl) (congrArg (fun l => Value.agg ⟨l⟩) NC)) rfl), nQ rfl (by exact qW (yv rfl rfl Tryd.runUnderlying110 Tryd.sizeOf112 (M3.rd (i := 1) rfl) zS.len rfl (MY.inb M9)) rfl), trivial⟩) fun D l a w ho hcl hav hpre hm hE hk hA hst => ?_
   have hS := (Ss.mk hE hst).env2 (e' := [(29, .agg ⟨[.int .i64 ((rd MS (qh (MU + MR))).often_), .slice M4 ((rd MS (qh (MU + MR))).symbols_).length M6]⟩), (36, xI MV (Int.toNat (qh (MT + MR)) * 2))]) ⟨rfl, rfl, trivial⟩
   refine qQ rfl <| VZ (i := (qh (MT + MR))) (sz := 2) 1 (⟨[.int .i64 ((rd MS (qh (MU + MR))).often_), .slice M4 ((rd MS (qh (MU + MR))).symbols_).length M6], by simp, by simp [Value.oneCell']⟩ : zS 2) hS rfl rfl M3 rfl Tryd.sizeOf112 rfl (MY.inb M9) fun Np w NM hz Nk hS => ?_
   obtain ⟨NG, hzm⟩ := uh (MS.set (Int.toNat (qh (MT + MR))) (qb.mk ((rd MS (qh (MU + MR))).often_) ((rd MS (qh (MU + MR))).symbols_)))
   replace hM := qB hzm hM
   have Nb := zF.set (x := (qb.mk ((rd MS (qh (MU + MR))).often_) ((rd MS (qh (MU + MR))).symbols_))) (r := (⟨[.int .i64 ((rd MS (qh (MU + MR))).often_), .slice M4 ((rd MS (qh (MU + MR))).symbols_).length M6], by simp, by simp [Value.oneCell']⟩ : zS 2)) (Int.toNat (qh (MT + MR))) MY (show qj M0 _ _ from ⟨M4, M6, rfl, Ny, Nw⟩)
   have Nf : Np.length = MW.length := by rw [hz]; exact List.length_set ..
   rw [← hz, ← hzm] at Nb; clear hz hzm
   have NE := Eq.trans Nf Nn
   refine qA ?_
   replace hst := hS.st
   obtain ⟨Nl, hM⟩ := qK hM
   obtain ⟨hcl, hmust, hav2, hA⟩ := XQ (vals' := [some (.slice MV MW.length MX), some (.int .i64 MT), some (.int .i64 MR), some (.int .i64 (qh (MT + MR))), some (.slice MV MW.length MX), some (.int .i64 MU), some (.int .i64 MR), some (.int .i64 (qh (MU + MR))), some (.slice MV MW.length MX), some (.int .i64 MU), some (.int .i64 MR), some (.int .i64 (qh (MU + MR))), some (xI MV (Int.toNat (qh (MU + MR)) * 2)), some (.agg ⟨[.int .i64 ((rd MS (qh (MU + MR))).often_), .slice M4 ((rd MS (qh (MU + MR))).symbols_).length M6]⟩), some (.slice MV MW.length MX), some (.int .i64 MT), some (.int .i64 MR), some (.int .i64 (qh (MT + MR))), some (xI MV (Int.toNat (qh (MT + MR)) * 2)), some (.agg ⟨[.int .i64 ((rd MS (qh (MT + MR))).often_), .slice M5 ((rd MS (qh (MT + MR))).symbols_).length M7]⟩), some (xI MV (Int.toNat (qh (MT + MR)) * 2)), some undef, some (xI MV (Int.toNat (qh (MU + MR)) * 2)), none]) 21 [(0, 21), (1, 21), (2, 21), (3, 21), (8, 21), (9, 21), (10, 21), (11, 21), (12, 21), (13, 21), (19, 21), (20, 21), (18, 19), (14, 18), (17, 18), (15, 17), (16, 17)] hA hcl hav hm hpre rfl rfl rfl rfl rfl
   clear hm hav
   refine jg hA hst ho hcl hav2 hmust 23 [4, 5, 6, 7, 22] rfl rfl rfl rfl rfl (by exact ⟨nM rfl, nM rfl, nM rfl, nB rfl, nQ rfl (by exact qW (yv (BH Nf rfl) rfl Tryd.runUnderlying110 Tryd.sizeOf112 (Nk.rd (i := 1) rfl) zS.len rfl (Nb.inb Nl)) rfl), trivial⟩) fun D l a w ho hcl hav hpre hm hE hk hA hst => ?_
   have hS := (Ss.mk hE hst).env2 (e' := [(35, .agg ⟨[.int .i64 ((rd MS (qh (MT + MR))).often_), .slice M5 ((rd MS (qh (MT + MR))).symbols_).length M7]⟩), (37, xI MV (Int.toNat (qh (MU + MR)) * 2))]) ⟨rfl, rfl, trivial⟩
   refine qQ rfl <| VZ (i := (qh (MU + MR))) (sz := 2) 1 (⟨[.int .i64 ((rd MS (qh (MT + MR))).often_), .slice M5 ((rd MS (qh (MT + MR))).symbols_).length M7], by simp, by simp [Value.oneCell']⟩ : zS 2) hS rfl rfl Nk rfl Tryd.sizeOf112 rfl (Nb.inb Nl) fun Ng w NI hz Nu hS => ?_
   obtain ⟨NH, hzm⟩ := uh (NG.set (Int.toNat (qh (MU + MR))) (qb.mk ((rd MS (qh (MT + MR))).often_) ((rd MS (qh (MT + MR))).symbols_)))
   replace hM := qB hzm hM
   have Nm := zF.set (x := (qb.mk ((rd MS (qh (MT + MR))).often_) ((rd MS (qh (MT + MR))).symbols_))) (r := (⟨[.int .i64 ((rd MS (qh (MT + MR))).often_), .slice M5 ((rd MS (qh (MT + MR))).symbols_).length M7], by simp, by simp [Value.oneCell']⟩ : zS 2)) (Int.toNat (qh (MU + MR))) Nb (show qj M0 _ _ from ⟨M5, M7, rfl, Nz, Nx⟩)
   have No : Ng.length = Np.length := by rw [hz]; exact List.length_set ..
   rw [← hz, ← hzm] at Nm; clear hz hzm
   have NF := Eq.trans No NE
   refine qA ?_
   replace hst := hS.st
   obtain ⟨hcl, hmust, hav2, hA⟩ := XQ (vals' := [some (.slice MV MW.length MX), some (.int .i64 MT), some (.int .i64 MR), some (.int .i64 (qh (MT + MR))), some (.slice MV MW.length MX), some (.int .i64 MU), some (.int .i64 MR), some (.int .i64 (qh (MU + MR))), some (.slice MV MW.length MX), some (.int .i64 MU), some (.int .i64 MR), some (.int .i64 (qh (MU + MR))), some (xI MV (Int.toNat (qh (MU + MR)) * 2)), some (.agg ⟨[.int .i64 ((rd MS (qh (MU + MR))).often_), .slice M4 ((rd MS (qh (MU + MR))).symbols_).length M6]⟩), some (.slice MV MW.length MX), some (.int .i64 MT), some (.int .i64 MR), some (.int .i64 (qh (MT + MR))), some (xI MV (Int.toNat (qh (MT + MR)) * 2)), some (.agg ⟨[.int .i64 ((rd MS (qh (MT + MR))).often_), .slice M5 ((rd MS (qh (MT + MR))).symbols_).length M7]⟩), some (xI MV (Int.toNat (qh (MT + MR)) * 2)), some undef, some (xI MV (Int.toNat (qh (MU + MR)) * 2)), some undef]) 23 [(0, 23), (1, 23), (2, 23), (3, 23), (4, 23), (5, 23), (6, 23), (7, 23), (8, 23), (9, 23), (10, 23), (11, 23), (12, 23), (13, 23), (14, 23), (15, 23), (16, 23), (17, 23), (18, 23), (19, 23), (20, 23), (21, 23), (22, 23)] hA hcl hav hm hpre rfl rfl rfl rfl rfl
   clear hm hav
   refine ym hA hst ho hcl hmust [] rfl rfl rfl trivial fun a w hS => ?_
   replace hS := hS.env2 (e' := [(0, .slice MV Ng.length MX), (1, .int .i64 MT), (2, .int .i64 MU), (3, .int .i64 Na), (10, .int .i64 MR)]) ⟨(KP (u := .slice MV MW.length MX) rfl (by rw [No, Nf])), rfl, rfl, rfl, rfl, trivial⟩
   refine zy (qe ?_)
   refine zP <| sM hS rfl fun hS => sB hS rfl fun hS => zG (v := Value.int .i64) (x0 := (qh (MR + (1 : Int)))) hS (xD rfl) rfl fun NJ a w hz hS => ?_
   have hM := qB hz hM; clear hz
   refine zn <| qe ?_
   exact Ns _ _ ⟨Ng, NH, NI, NJ, hS.to [0, 1] (by kernel_rfl) ⟨rfl, rfl, rfl, rfl, rfl, trivial⟩, Nu, Nm, NF, hM⟩
  ·refine wp_exit ?_
   refine qE (qE (zd ?_))
   exact jR (rs := []) hS rfl rfl (hret MW MS Ni _ (q8 hM) M3 MY Nn (hS.st.pick [0, 1] (by kernel_rfl)))
theorem yL (cq : Nat) (hcq : cq = 56 ∨ cq = 76) {H : xT} {F : List qk} {w : World} {R : Ending → World → Prop} {kr : (List qb) → Prop} {kp : Value → Prop} (hG : Gl H) (K : Nat) (M4 : List qb) (M8 : Int) (MV : Int) (M9 : Int) (MU : qk) (MR : Option Addr) (MS : Nat) (MX : List (zS 2)) (Nm : qk) (NB : zF (qj MU) M4 MX) (Nx : xj 112 (zS.v (sz := 2)) 2 MR MX MS Nm)
    (hS : St w H [MU, Nm] F) (hm : (qw.m K M4 M8 MV M9).wp kr kp)
    (hret : ∀ (Nh : List (zS 2)) (M6 : (List qb)) (Nu : qk) (w : World), kr M6 → (xj 112 (zS.v (sz := 2)) 2 MR Nh MS Nu) → (zF (qj MU) M6 Nh) → (Nh.length = MX.length) → St w H [MU, Nu] F → R (.returned (.tuple ⟨[]⟩)) w) :
    Calls Tryd.prog 92 ⟨[.slice MR MX.length MS, .int .i64 M8, .int .i64 MV, .int .i64 M9, jE cq [] []]⟩ w R := by
 refine enter Tryd.func92 rfl Tryd.ntmps92 rfl hS fun a w hS => ?_
 have hM := hm; clear hm
 rw [qw.m] at hM
 have NS : ∀ q ∈ MU, q ∈ MU := fun _ h => h
 have ND : MX.length = MX.length := rfl
 refine qm <| sM hS rfl fun hS => sM hS rfl fun hS => sB hS rfl fun hS => zG (v := Value.int .i64) (x0 := (qh (MV - M8))) hS (xD rfl) rfl fun NO a w hz hS => ?_
 have hM := qB hz hM; clear hz
 refine qA <| qm <| sM hS rfl fun hS => sM hS rfl fun hS => sB hS rfl fun hS => zG (v := Value.int .i64) (x0 := (qh (M9 - MV))) hS (xD rfl) rfl fun NQ a w hz hS => ?_
 have hM := qB hz hM; clear hz
 refine qA <| zm (fun a w => ∃ (MZ : List (zS 2)) (M0 : (List qb)) (Ni : qk) (M7 : Int), Ss 58 [] [(0, .slice MR MZ.length MS), (2, .int .i64 MV), (4, jE cq [] []), (10, .int .i64 M7)] H [MU, Ni] F a w ∧ (xj 112 (zS.v (sz := 2)) 2 MR MZ MS Ni) ∧ (zF (qj MU) M0 MZ) ∧ (MZ.length = MX.length) ∧ (qw.j2 K MV M0 M7).wp kr kp) (fun NU Nw => ?_) ?_
 ·refine xS ?_
  refine zv (fun Nv a w => ∃ (MT : List (zS 2)) (MW : (List qb)) (M5 : qk) (MY : Int) (M3 : Int), Ss 58 [] [(0, .slice MR MT.length MS), (2, .int .i64 MV), (4, jE cq [] []), (10, .int .i64 MY), (11, .int .i64 M3)] H [MU, M5] F a w ∧ (xj 112 (zS.v (sz := 2)) 2 MR MT MS M5) ∧ (zF (qj MU) MW MT) ∧ (MT.length = MX.length) ∧ (qw.l1 K MV Nv MW MY M3).wp kr kp) K ?_ ?_ ?_
  ·exact ⟨MX, M4, Nm, NO, NQ, hS.to [0, 1] (by kernel_rfl) ⟨rfl, rfl, rfl, rfl, rfl, trivial⟩, Nx, NB, ND, hM⟩
  ·intro a w hI; obtain ⟨_, _, _, _, _, _, _, _, _, hM⟩ := hI; exact zt hM
  ·intro Nv a w hI NT Nq
   obtain ⟨MT, MW, M5, MY, M3, hS, Na, Nb, Nc, hM⟩ := hI
   rw [qw.l1] at hM
   refine wp_seq <| qm <| sM hS rfl fun hS => sM hS rfl fun hS => sB hS rfl fun hS => qA <| qF hS rfl hM (fun Nz hM => ?_) (fun Nz hM => ?_)
   ·refine wp_skip ?_
    refine qe <| xS <| qm <| sM hS rfl fun hS => sM hS rfl fun hS => sB hS rfl fun hS => qA <| qF hS rfl hM (fun NA hM => ?_) (fun NA hM => ?_)
    ·refine wp_seq ?_
     refine zP <| sM hS rfl fun hS => sM hS rfl fun hS => sM hS rfl fun hS => sB hS rfl fun hS => sM hS rfl fun hS => sM hS rfl fun hS => sM hS rfl fun hS => qJ hS rfl Tryd.call93 (xm cq hcq hG K MW (qh (MV - MY)) MV M3 MU MR MS MT M5 Nb Na (hS.st.part 2 [0, 1] (by kernel_rfl)) (qt hM) (fun Nd Nj Nr w hM NI NJ Nn hst => qz hS.ev hst.appF rfl fun hS => ?_))
     replace hS : Ss _ _ _ H [MU, Nr] F _ _ := hS
     have NE := Eq.trans Nn Nc
     replace hS := hS.re 0 (u := .slice MR MT.length MS) (v := .slice MR Nd.length MS) rfl (by rw [Nn])
     replace hS := hS.re 24 (u := .slice MR MT.length MS) (v := .slice MR Nd.length MS) rfl (by rw [Nn])
     refine qA <| zP <| sM hS rfl fun hS => sM hS rfl fun hS => sB hS rfl fun hS => zG (v := Value.int .i64) (x0 := (qh (MY - M3))) hS (xD rfl) rfl fun NP a w hz hS => ?_
     have hM := qB hz hM; clear hz
     refine zn <| zy (qe ?_)
     exact Nq _ _ ⟨Nd, Nj, Nr, NP, M3, hS.to [0, 1] (by kernel_rfl) ⟨rfl, rfl, rfl, rfl, rfl, trivial⟩, NI, NJ, NE, hM⟩
    ·refine wp_seq ?_
     refine zP <| sM hS rfl fun hS => sM hS rfl fun hS => sM hS rfl fun hS => sB hS rfl fun hS => sM hS rfl fun hS => sM hS rfl fun hS => sB hS rfl fun hS => sM hS rfl fun hS => sB hS rfl fun hS => sM hS rfl fun hS => sM hS rfl fun hS => qJ hS rfl Tryd.call93 (xm cq hcq hG K MW (qh (MV - MY)) (qh ((qh (MV + M3)) - MY)) MY MU MR MS MT M5 Nb Na (hS.st.part 2 [0, 1] (by kernel_rfl)) (qt hM) (fun Nf Nk Ns w hM NK NL No hst => qz hS.ev hst.appF rfl fun hS => ?_))
     replace hS : Ss _ _ _ H [MU, Ns] F _ _ := hS
     have NF := Eq.trans No Nc
     replace hS := hS.re 0 (u := .slice MR MT.length MS) (v := .slice MR Nf.length MS) rfl (by rw [No])
     replace hS := hS.re 35 (u := .slice MR MT.length MS) (v := .slice MR Nf.length MS) rfl (by rw [No])
     refine qA <| zP <| sM hS rfl fun hS => sM hS rfl fun hS => sB hS rfl fun hS => zG (v := Value.int .i64) (x0 := (qh (M3 - MY))) hS (xD rfl) rfl fun NR a w hz hS => ?_
     have hM := qB hz hM; clear hz
     refine zn <| zy (qe ?_)
     exact Nq _ _ ⟨Nf, Nk, Ns, MY, NR, hS.to [0, 1] (by kernel_rfl) ⟨rfl, rfl, rfl, rfl, rfl, trivial⟩, NK, NL, NF, hM⟩
   ·refine wp_exit ?_
    refine qE (qE (zd (qe ?_)))
    exact Nw _ _ ⟨MT, MW, M5, MY, hS.to [0, 1] (by kernel_rfl) ⟨rfl, rfl, rfl, rfl, trivial⟩, Na, Nb, Nc, hM⟩
 ·intro a w hI
  obtain ⟨MZ, M0, Ni, M7, hS, Ny, NC, NG, hM⟩ := hI
  rw [qw.j2] at hM
  refine zP <| sM hS rfl fun hS => sM hS rfl fun hS => sM hS rfl fun hS => sB hS rfl fun hS => sM hS rfl fun hS => sM hS rfl fun hS => sM hS rfl fun hS => qJ hS rfl Tryd.call93 (xm cq hcq hG K M0 (qh (MV - M7)) MV M7 MU MR MS MZ Ni NC Ny (hS.st.part 2 [0, 1] (by kernel_rfl)) (qt hM) (fun Ng Nl Nt w hM NM NN Np hst => qz hS.ev hst.appF rfl fun hS => ?_))
  replace hS : Ss _ _ _ H [MU, Nt] F _ _ := hS
  have NH := Eq.trans Np NG
  replace hS := hS.re 0 (u := .slice MR MZ.length MS) (v := .slice MR Ng.length MS) rfl (by rw [Np])
  replace hS := hS.re 50 (u := .slice MR MZ.length MS) (v := .slice MR Ng.length MS) rfl (by rw [Np])
  refine zn ?_
  exact jR (rs := []) hS rfl rfl (hret Ng Nl Nt _ (q8 hM) NM NN NH (hS.st.pick [0, 1] (by kernel_rfl)))
theorem yC (cq : Nat) (hcq : cq = 56 ∨ cq = 76) (K : Nat) : ∀ (d : Nat) {H : xT} {F : List qk} {w : World} {R : Ending → World → Prop} {kr : (List qb) → Prop} {kp : Value → Prop} (hG : Gl H) (MR : List qb) (MZ : Int) (M0 : Int) (M5 : Int) (M4 : qk) (MS : Option Addr) (MV : Nat) (MY : List (zS 2)) (Nc : qk) (M6 : zF (qj M4) MR MY) (Nb : xj 112 (zS.v (sz := 2)) 2 MS MY MV Nc)
    (hS : St w H [M4, Nc] F) (hm : (qa.r K d MR MZ M0 M5).wp kr kp)
    (hret : ∀ (N5 : List (zS 2)) (NN : (List qb)) (P0 : qk) (w : World), kr NN → (xj 112 (zS.v (sz := 2)) 2 MS N5 MV P0) → (zF (qj M4) NN N5) → (N5.length = MY.length) → St w H [M4, P0] F → R (.returned (.tuple ⟨[]⟩)) w),
    Calls Tryd.prog 86 ⟨[.slice MS MY.length MV, .int .i64 MZ, .int .i64 M0, .int .i64 M5, jE cq [] []]⟩ w R := by
  intro d
  induction d with
  | zero => intro H F w R kr kp hG MR MZ M0 M5 M4 MS MV MY Nc M6 Nb hS hm hret; exact (zt hm).elim
  | succ d ih =>
  intro H F w R kr kp hG MR MZ M0 M5 M4 MS MV MY Nc M6 Nb hS hm hret
  have hM := hm; clear hm
  rw [qa.r] at hM; rw [qa.b] at hM
  refine enter Tryd.func86 rfl Tryd.ntmps86 rfl hS fun a w hS => ?_
  have Tq : ∀ q ∈ M4, q ∈ M4 := fun _ h => h
  have NM : MY.length = MY.length := rfl
  refine zm (fun a w => Ss 220 [] [(0, .slice MS MY.length MV), (1, .int .i64 MZ), (2, .int .i64 M0), (3, .int .i64 M5), (4, jE cq [] [])] H [M4, Nc] F a w ∧ (qa.j4 K (qa.r K d) MR MZ M0 M5).wp kr kp) (fun Tu P8 => ?_) ?_
  ·refine wp_seq ?_
   refine zP <| sM hS rfl fun hS => sM hS rfl fun hS => sB hS rfl fun hS => sB hS rfl fun hS => qA <| qF hS rfl hM (fun Sf hM => ?_) (fun Sf hM => ?_)
   ·refine wp_seq ?_
    refine zP <| sM hS rfl fun hS => sA hS rfl fun hS => qA <| qm <| sM hS rfl fun hS => sA hS rfl fun hS => qA <| zm (fun a w => ∃ (NF : Int), Ss 220 [] [(0, .slice MS MY.length MV), (1, .int .i64 MZ), (10, .int .i64 NF)] H [M4, Nc] F a w ∧ (qa.j2 K (qa.r K d) MR MZ NF).wp kr kp) (fun Ts P6 => ?_) ?_
    ·refine xS ?_
     refine zv (fun P1 a w => ∃ (ND : Int) (NH : Int), Ss 220 [] [(0, .slice MS MY.length MV), (1, .int .i64 MZ), (4, jE cq [] []), (10, .int .i64 ND), (11, .int .i64 NH)] H [M4, Nc] F a w ∧ (qa.l1 K (qa.r K d) MR MZ P1 ND NH).wp kr kp) K ?_ ?_ ?_
     ·exact ⟨M0, M5, hS.to [0, 1] (by kernel_rfl) ⟨rfl, rfl, rfl, rfl, rfl, trivial⟩, hM⟩
     ·intro a w hI; obtain ⟨_, _, _, hM⟩ := hI; exact zt hM
     ·intro P1 a w hI Tr Px
      obtain ⟨ND, NH, hS, hM⟩ := hI
      rw [qa.l1] at hM
      refine wp_seq <| qm <| sM hS rfl fun hS => sM hS rfl fun hS => sB hS rfl fun hS => qA <| qF hS rfl hM (fun Sg hM => ?_) (fun Sg hM => ?_)
      ·refine wp_skip ?_
       refine qe <| xS <| qm <| sM hS rfl fun hS => sM hS rfl fun hS => sB hS rfl fun hS => sO hS (u7 rfl Tryd.runUnderlying3 Tryd.runUnderlying47) rfl fun hS => sO hS (shr rfl rfl rfl) rfl fun hS => sO hS (u7 rfl Tryd.runUnderlying47 Tryd.runUnderlying3) rfl fun hS => zG (v := Value.int .i64) (x0 := (wr .i64 (xa .u64 (wr .u64 (qh (ND + NH))) (1 : Int)))) hS (xD rfl) rfl fun Nh a w hz hS => ?_
       have hM := qB hz hM; clear hz
       refine qA <| wp_seq ?_
       obtain ⟨NQ, hM⟩ := qK hM
       obtain ⟨N6, Pc, SR, SH, Sw⟩ := M6.get NQ
       obtain ⟨NR, hM⟩ := qK hM
       obtain ⟨N7, Pd, ST, SI, Sx⟩ := M6.get NR
       refine za (vals := [some (jE cq [] []), some (.slice MS MY.length MV), some (.int .i64 Nh), some (xI MS (Int.toNat Nh * 2)), some (.agg ⟨[.int .i64 ((rd MR Nh).often_), .slice N6 ((rd MR Nh).symbols_).length Pc]⟩), some (.slice MS MY.length MV), some (.int .i64 MZ), some (xI MS (Int.toNat MZ * 2)), some (.agg ⟨[.int .i64 ((rd MR MZ).often_), .slice N7 ((rd MR MZ).symbols_).length Pd]⟩), none, none]) hS xG rfl ?_
       intro l w ho hcl hA hst
       refine jg hA hst ho hcl xx xH 9 [0, 1, 2, 3, 4, 5, 6, 7, 8] rfl rfl rfl rfl rfl (by exact ⟨nM rfl, nM rfl, nM rfl, nQ rfl (by exact qW (yv rfl rfl Tryd.runUnderlying110 Tryd.sizeOf112 (Nb.rd (i := 1) rfl) zS.len rfl (M6.inb NQ)) rfl), nQ rfl (by exact qW (qW (v7 rfl (Nb.rd (i := 1) rfl) zS.len (M6.inb NQ) Tryd.isAgg112 Tryd.sizeOf112 rfl) (congrArg (fun l => Value.agg ⟨l⟩) SR)) rfl), nM rfl, nM rfl, nQ rfl (by exact qW (yv rfl rfl Tryd.runUnderlying110 Tryd.sizeOf112 (Nb.rd (i := 1) rfl) zS.len rfl (M6.inb NR)) rfl), nQ rfl (by exact qW (qW (v7 rfl (Nb.rd (i := 1) rfl) zS.len (M6.inb NR) Tryd.isAgg112 Tryd.sizeOf112 rfl) (congrArg (fun l => Value.agg ⟨l⟩) ST)) rfl), trivial⟩) fun D l a w ho hcl hav hpre hm hE hk hA hst => ?_
       have hS := (Ss.mk hE hst).env2 (e' := [(40, jE cq [] []), (44, .agg ⟨[.int .i64 ((rd MR Nh).often_), .slice N6 ((rd MR Nh).symbols_).length Pc]⟩), (48, .agg ⟨[.int .i64 ((rd MR MZ).often_), .slice N7 ((rd MR MZ).symbols_).length Pd]⟩)]) ⟨rfl, rfl, rfl, trivial⟩
       refine qQ rfl <| ve hS rfl rfl (Zc hcq) (Xs cq hcq hG K (qb.mk ((rd MR Nh).often_) ((rd MR Nh).symbols_)) (qb.mk ((rd MR MZ).often_) ((rd MR MZ).symbols_)) N6 Pc N7 Pd (SH.rdF (i := 0) rfl) Sw (SI.rdF (i := 0) rfl) Sx (hS.st.part 0 [0, 1] (by kernel_rfl)) (qt hM) (fun PW w hM  hst => qz hS.ev hst.appF rfl fun hS => ?_))
       replace hS : Ss _ _ _ H [M4, Nc] F _ _ := hS
       refine qA ?_
       replace hst := hS.st
       obtain ⟨hcl, hmust, hav2, hA⟩ := dn (vals' := [some (jE cq [] []), some (.slice MS MY.length MV), some (.int .i64 Nh), some (xI MS (Int.toNat Nh * 2)), some (.agg ⟨[.int .i64 ((rd MR Nh).often_), .slice N6 ((rd MR Nh).symbols_).length Pc]⟩), some (.slice MS MY.length MV), some (.int .i64 MZ), some (xI MS (Int.toNat MZ * 2)), some (.agg ⟨[.int .i64 ((rd MR MZ).often_), .slice N7 ((rd MR MZ).symbols_).length Pd]⟩), some (.int .i64 PW), some (.bool (decide (PW < (0 : Int))))]) 9 [(0, 9), (4, 9), (8, 9), (3, 4), (7, 8), (1, 3), (2, 3), (5, 7), (6, 7)] hA hcl hav hm hpre hk rfl rfl rfl rfl rfl rfl rfl
       clear hm hav
       refine ym hA hst ho hcl hmust [10] rfl rfl rfl (by exact ⟨nB rfl, trivial⟩) fun a w hS => ?_
       replace hS := hS.env2 (e' := [(0, .slice MS MY.length MV), (1, .int .i64 MZ), (4, jE cq [] []), (10, .int .i64 ND), (11, .int .i64 NH), (12, .int .i64 Nh), (50, .bool (decide (PW < (0 : Int))))]) ⟨rfl, rfl, rfl, rfl, rfl, rfl, rfl, trivial⟩
       refine qe <| qF hS rfl hM (fun Sh hM => ?_) (fun Sh hM => ?_)
       ·refine zP ?_
        refine sM hS rfl fun hS => sB hS rfl fun hS => zG (v := Value.int .i64) (x0 := (qh (Nh + (1 : Int)))) hS (xD rfl) rfl fun To a w hz hS => ?_
        have hM := qB hz hM; clear hz
        refine zn <| zy (qe ?_)
        exact Px _ _ ⟨To, NH, hS.to [0, 1] (by kernel_rfl) ⟨rfl, rfl, rfl, rfl, rfl, trivial⟩, hM⟩
       ·refine zP ?_
        refine sM hS rfl fun hS => sA hS rfl fun hS => zn <| zy (qe ?_)
        exact Px _ _ ⟨ND, Nh, hS.to [0, 1] (by kernel_rfl) ⟨rfl, rfl, rfl, rfl, rfl, trivial⟩, hM⟩
      ·refine wp_exit ?_
       refine qE (qE (zd (qe ?_)))
       exact P6 _ _ ⟨ND, hS.to [0, 1] (by kernel_rfl) ⟨rfl, rfl, rfl, trivial⟩, hM⟩
    ·intro a w hI
     obtain ⟨NF, hS, hM⟩ := hI
     rw [qa.j2] at hM
     refine wp_seq <| qm <| sM hS rfl fun hS => sA hS rfl fun hS => qA <| xS <| zv (fun P2 a w => ∃ (M8 : List (zS 2)) (MW : (List qb)) (Pi : qk) (MT : Int), Ss 220 [] [(0, .slice MS M8.length MV), (10, .int .i64 NF), (13, .int .i64 MT)] H [M4, Pi] F a w ∧ (xj 112 (zS.v (sz := 2)) 2 MS M8 MV Pi) ∧ (zF (qj M4) MW M8) ∧ (M8.length = MY.length) ∧ (qa.l3 K (qa.r K d) NF P2 MW MT).wp kr kp) K ?_ ?_ ?_
     ·exact ⟨MY, MR, Nc, MZ, hS.to [0, 1] (by kernel_rfl) ⟨rfl, rfl, rfl, trivial⟩, Nb, M6, NM, hM⟩
     ·intro a w hI; obtain ⟨_, _, _, _, _, _, _, _, hM⟩ := hI; exact zt hM
     ·intro P2 a w hI Tt P7
      obtain ⟨M8, MW, Pi, MT, hS, Nr, Nj, PO, hM⟩ := hI
      rw [qa.l3] at hM
      refine wp_seq <| qm <| sM hS rfl fun hS => sM hS rfl fun hS => sB hS rfl fun hS => sB hS rfl fun hS => qA <| qF hS rfl hM (fun Si hM => ?_) (fun Si hM => ?_)
      ·refine wp_skip ?_
       refine qe <| wp_seq <| xS ?_
       obtain ⟨NS, hM⟩ := qK hM
       obtain ⟨Nt, Nx, SU, SJ, Sy⟩ := Nj.get NS
       obtain ⟨NB, hM⟩ := qK hM
       obtain ⟨Nu, Ny, SV, SK, Sz⟩ := Nj.get NB
       refine za (vals := [some (.slice MS M8.length MV), some (.int .i64 MT), some (.slice MS M8.length MV), some (.int .i64 MT), some (.int .i64 (qh (MT + (1 : Int)))), some (.slice MS M8.length MV), some (.int .i64 MT), some (.int .i64 (qh (MT + (1 : Int)))), some (xI MS (Int.toNat (qh (MT + (1 : Int))) * 2)), some (.agg ⟨[.int .i64 ((rd MW (qh (MT + (1 : Int)))).often_), .slice Nt ((rd MW (qh (MT + (1 : Int)))).symbols_).length Nx]⟩), some (.slice MS M8.length MV), some (.int .i64 MT), some (xI MS (Int.toNat MT * 2)), some (.agg ⟨[.int .i64 ((rd MW MT).often_), .slice Nu ((rd MW MT).symbols_).length Ny]⟩), some (xI MS (Int.toNat MT * 2)), none, none, none]) hS xG rfl ?_
       intro l w ho hcl hA hst
       refine jg hA hst ho hcl xx xH 15 [0, 1, 2, 3, 4, 5, 6, 7, 8, 9, 10, 11, 12, 13, 14] rfl rfl rfl rfl rfl (by exact ⟨nM rfl, nM rfl, nM rfl, nM rfl, nB rfl, nM rfl, nM rfl, nB rfl, nQ rfl (by exact qW (yv rfl rfl Tryd.runUnderlying110 Tryd.sizeOf112 (Nr.rd (i := 1) rfl) zS.len rfl (Nj.inb NS)) rfl), nQ rfl (by exact qW (qW (v7 rfl (Nr.rd (i := 1) rfl) zS.len (Nj.inb NS) Tryd.isAgg112 Tryd.sizeOf112 rfl) (congrArg (fun l => Value.agg ⟨l⟩) SU)) rfl), nM rfl, nM rfl, nQ rfl (by exact qW (yv rfl rfl Tryd.runUnderlying110 Tryd.sizeOf112 (Nr.rd (i := 1) rfl) zS.len rfl (Nj.inb NB)) rfl), nQ rfl (by exact qW (qW (v7 rfl (Nr.rd (i := 1) rfl) zS.len (Nj.inb NB) Tryd.isAgg112 Tryd.sizeOf112 rfl) (congrArg (fun l => Value.agg ⟨l⟩) SV)) rfl), nQ rfl (by exact qW (yv rfl rfl Tryd.runUnderlying110 Tryd.sizeOf112 (Nr.rd (i := 1) rfl) zS.len rfl (Nj.inb NB)) rfl), trivial⟩) fun D l a w ho hcl hav hpre hm hE hk hA hst => ?_
       have hS := (Ss.mk hE hst).env2 (e' := [(70, .agg ⟨[.int .i64 ((rd MW (qh (MT + (1 : Int)))).often_), .slice Nt ((rd MW (qh (MT + (1 : Int)))).symbols_).length Nx]⟩), (75, xI MS (Int.toNat MT * 2))]) ⟨rfl, rfl, trivial⟩
       refine qQ rfl <| VZ (i := MT) (sz := 2) 1 (⟨[.int .i64 ((rd MW (qh (MT + (1 : Int)))).often_), .slice Nt ((rd MW (qh (MT + (1 : Int)))).symbols_).length Nx], by simp, by simp [Value.oneCell']⟩ : zS 2) hS rfl rfl Nr rfl Tryd.sizeOf112 rfl (Nj.inb NB) fun PU w TE hz PD hS => ?_
       obtain ⟨Tc, hzm⟩ := uh (MW.set (Int.toNat MT) (qb.mk ((rd MW (qh (MT + (1 : Int)))).often_) ((rd MW (qh (MT + (1 : Int)))).symbols_)))
       replace hM := qB hzm hM
       have NK := zF.set (x := (qb.mk ((rd MW (qh (MT + (1 : Int)))).often_) ((rd MW (qh (MT + (1 : Int)))).symbols_))) (r := (⟨[.int .i64 ((rd MW (qh (MT + (1 : Int)))).often_), .slice Nt ((rd MW (qh (MT + (1 : Int)))).symbols_).length Nx], by simp, by simp [Value.oneCell']⟩ : zS 2)) (Int.toNat MT) Nj (show qj M4 _ _ from ⟨Nt, Nx, rfl, SJ, Sy⟩)
       have NY : PU.length = M8.length := by rw [hz]; exact List.length_set ..
       rw [← hz, ← hzm] at NK; clear hz hzm
       have S3 := Eq.trans NY PO
       refine qA ?_
       replace hst := hS.st
       obtain ⟨PH, hM⟩ := qK hM
       obtain ⟨hcl, hmust, hav2, hA⟩ := XQ (vals' := [some (.slice MS M8.length MV), some (.int .i64 MT), some (.slice MS M8.length MV), some (.int .i64 MT), some (.int .i64 (qh (MT + (1 : Int)))), some (.slice MS M8.length MV), some (.int .i64 MT), some (.int .i64 (qh (MT + (1 : Int)))), some (xI MS (Int.toNat (qh (MT + (1 : Int))) * 2)), some (.agg ⟨[.int .i64 ((rd MW (qh (MT + (1 : Int)))).often_), .slice Nt ((rd MW (qh (MT + (1 : Int)))).symbols_).length Nx]⟩), some (.slice MS M8.length MV), some (.int .i64 MT), some (xI MS (Int.toNat MT * 2)), some (.agg ⟨[.int .i64 ((rd MW MT).often_), .slice Nu ((rd MW MT).symbols_).length Ny]⟩), some (xI MS (Int.toNat MT * 2)), some undef, some (xI MS (Int.toNat (qh (MT + (1 : Int))) * 2)), none]) 15 [(0, 15), (1, 15), (5, 15), (6, 15), (7, 15), (8, 15), (9, 15), (13, 15), (14, 15), (12, 13), (10, 12), (11, 12)] hA hcl hav hm hpre rfl rfl rfl rfl rfl
       clear hm hav
       refine jg hA hst ho hcl hav2 hmust 17 [2, 3, 4, 16] rfl rfl rfl rfl rfl (by exact ⟨nM rfl, nM rfl, nB rfl, nQ rfl (by exact qW (yv (BH NY rfl) rfl Tryd.runUnderlying110 Tryd.sizeOf112 (PD.rd (i := 1) rfl) zS.len rfl (NK.inb PH)) rfl), trivial⟩) fun D l a w ho hcl hav hpre hm hE hk hA hst => ?_
       have hS := (Ss.mk hE hst).env2 (e' := [(74, .agg ⟨[.int .i64 ((rd MW MT).often_), .slice Nu ((rd MW MT).symbols_).length Ny]⟩), (76, xI MS (Int.toNat (qh (MT + (1 : Int))) * 2))]) ⟨rfl, rfl, trivial⟩
       refine qQ rfl <| VZ (i := (qh (MT + (1 : Int)))) (sz := 2) 1 (⟨[.int .i64 ((rd MW MT).often_), .slice Nu ((rd MW MT).symbols_).length Ny], by simp, by simp [Value.oneCell']⟩ : zS 2) hS rfl rfl PD rfl Tryd.sizeOf112 rfl (NK.inb PH) fun N0 w Tg hz Sd hS => ?_
       obtain ⟨Td, hzm⟩ := uh (Tc.set (Int.toNat (qh (MT + (1 : Int)))) (qb.mk ((rd MW MT).often_) ((rd MW MT).symbols_)))
       replace hM := qB hzm hM
       have PJ := zF.set (x := (qb.mk ((rd MW MT).often_) ((rd MW MT).symbols_))) (r := (⟨[.int .i64 ((rd MW MT).often_), .slice Nu ((rd MW MT).symbols_).length Ny], by simp, by simp [Value.oneCell']⟩ : zS 2)) (Int.toNat (qh (MT + (1 : Int)))) NK (show qj M4 _ _ from ⟨Nu, Ny, rfl, SK, Sz⟩)
       have PP : N0.length = PU.length := by rw [hz]; exact List.length_set ..
       rw [← hz, ← hzm] at PJ; clear hz hzm
       have S4 := Eq.trans PP S3
       refine qA ?_
       replace hst := hS.st
       obtain ⟨hcl, hmust, hav2, hA⟩ := XQ (vals' := [some (.slice MS M8.length MV), some (.int .i64 MT), some (.slice MS M8.length MV), some (.int .i64 MT), some (.int .i64 (qh (MT + (1 : Int)))), some (.slice MS M8.length MV), some (.int .i64 MT), some (.int .i64 (qh (MT + (1 : Int)))), some (xI MS (Int.toNat (qh (MT + (1 : Int))) * 2)), some (.agg ⟨[.int .i64 ((rd MW (qh (MT + (1 : Int)))).often_), .slice Nt ((rd MW (qh (MT + (1 : Int)))).symbols_).length Nx]⟩), some (.slice MS M8.length MV), some (.int .i64 MT), some (xI MS (Int.toNat MT * 2)), some (.agg ⟨[.int .i64 ((rd MW MT).often_), .slice Nu ((rd MW MT).symbols_).length Ny]⟩), some (xI MS (Int.toNat MT * 2)), some undef, some (xI MS (Int.toNat (qh (MT + (1 : Int))) * 2)), some undef]) 17 [(0, 17), (1, 17), (2, 17), (3, 17), (4, 17), (5, 17), (6, 17), (7, 17), (8, 17), (9, 17), (10, 17), (11, 17), (12, 17), (13, 17), (14, 17), (15, 17), (16, 17)] hA hcl hav hm hpre rfl rfl rfl rfl rfl
       clear hm hav
       refine ym hA hst ho hcl hmust [] rfl rfl rfl trivial fun a w hS => ?_
       replace hS := hS.env2 (e' := [(0, .slice MS N0.length MV), (10, .int .i64 NF), (13, .int .i64 MT)]) ⟨(KP (u := .slice MS M8.length MV) rfl (by rw [PP, NY])), rfl, rfl, trivial⟩
       refine zy (qe ?_)
       refine zP <| sM hS rfl fun hS => sB hS rfl fun hS => zG (v := Value.int .i64) (x0 := (qh (MT + (1 : Int)))) hS (xD rfl) rfl fun Ta a w hz hS => ?_
       have hM := qB hz hM; clear hz
       refine zn <| qe ?_
       exact P7 _ _ ⟨N0, Td, Tg, Ta, hS.to [0, 1] (by kernel_rfl) ⟨rfl, rfl, rfl, trivial⟩, Sd, PJ, S4, hM⟩
      ·refine wp_exit ?_
       refine qE (qE (zd (qe ?_)))
       refine wp_ret <| zl ?_
       exact zD (rs := []) hS rfl rfl (hret M8 MW Pi _ (q8 hM) Nr Nj PO (hS.st.pick [0, 1] (by kernel_rfl)))
   ·refine wp_skip ?_
    refine qe ?_
    exact P8 _ _ ⟨hS.to [0, 1] (by kernel_rfl) ⟨rfl, rfl, rfl, rfl, rfl, trivial⟩, hM⟩
  ·intro a w hI
   obtain ⟨hS, hM⟩ := hI
   rw [qa.j4] at hM
   refine zm (fun a w => Ss 220 [] [(0, .slice MS MY.length MV), (1, .int .i64 MZ), (2, .int .i64 M0), (3, .int .i64 M5), (4, jE cq [] [])] H [M4, Nc] F a w ∧ (qa.j8 K (qa.r K d) MR MZ M0 M5).wp kr kp) (fun Ty Sb => ?_) ?_
   ·refine wp_seq ?_
    refine zP <| sM hS rfl fun hS => sM hS rfl fun hS => sB hS rfl fun hS => sB hS rfl fun hS => qA <| qF hS rfl hM (fun Sj hM => ?_) (fun Sj hM => ?_)
    ·refine wp_seq ?_
     refine zP <| sM hS rfl fun hS => sA hS rfl fun hS => qA <| qm <| sM hS rfl fun hS => sA hS rfl fun hS => qA <| zm (fun a w => ∃ (NG : Int), Ss 220 [] [(0, .slice MS MY.length MV), (2, .int .i64 M0), (14, .int .i64 NG)] H [M4, Nc] F a w ∧ (qa.j6 K (qa.r K d) MR M0 NG).wp kr kp) (fun Tw P9 => ?_) ?_
     ·refine xS ?_
      refine zv (fun P3 a w => ∃ (NE : Int) (NI : Int), Ss 220 [] [(0, .slice MS MY.length MV), (2, .int .i64 M0), (4, jE cq [] []), (14, .int .i64 NE), (15, .int .i64 NI)] H [M4, Nc] F a w ∧ (qa.l5 K (qa.r K d) MR M0 P3 NE NI).wp kr kp) K ?_ ?_ ?_
      ·exact ⟨MZ, M0, hS.to [0, 1] (by kernel_rfl) ⟨rfl, rfl, rfl, rfl, rfl, trivial⟩, hM⟩
      ·intro a w hI; obtain ⟨_, _, _, hM⟩ := hI; exact zt hM
      ·intro P3 a w hI Tv Py
       obtain ⟨NE, NI, hS, hM⟩ := hI
       rw [qa.l5] at hM
       refine wp_seq <| qm <| sM hS rfl fun hS => sM hS rfl fun hS => sB hS rfl fun hS => qA <| qF hS rfl hM (fun Sk hM => ?_) (fun Sk hM => ?_)
       ·refine wp_skip ?_
        refine qe <| xS <| qm <| sM hS rfl fun hS => sM hS rfl fun hS => sB hS rfl fun hS => sO hS (u7 rfl Tryd.runUnderlying3 Tryd.runUnderlying47) rfl fun hS => sO hS (shr rfl rfl rfl) rfl fun hS => sO hS (u7 rfl Tryd.runUnderlying47 Tryd.runUnderlying3) rfl fun hS => zG (v := Value.int .i64) (x0 := (wr .i64 (xa .u64 (wr .u64 (qh (NE + NI))) (1 : Int)))) hS (xD rfl) rfl fun Ni a w hz hS => ?_
        have hM := qB hz hM; clear hz
        refine qA <| wp_seq ?_
        obtain ⟨NT, hM⟩ := qK hM
        obtain ⟨N8, Pe, SW, SL, SA⟩ := M6.get NT
        obtain ⟨NU, hM⟩ := qK hM
        obtain ⟨N9, Pf, SX, SM, SB⟩ := M6.get NU
        refine za (vals := [some (jE cq [] []), some (.slice MS MY.length MV), some (.int .i64 M0), some (xI MS (Int.toNat M0 * 2)), some (.agg ⟨[.int .i64 ((rd MR M0).often_), .slice N8 ((rd MR M0).symbols_).length Pe]⟩), some (.slice MS MY.length MV), some (.int .i64 Ni), some (xI MS (Int.toNat Ni * 2)), some (.agg ⟨[.int .i64 ((rd MR Ni).often_), .slice N9 ((rd MR Ni).symbols_).length Pf]⟩), none, none, none]) hS xG rfl ?_
        intro l w ho hcl hA hst
        refine jg hA hst ho hcl xx xH 9 [0, 1, 2, 3, 4, 5, 6, 7, 8] rfl rfl rfl rfl rfl (by exact ⟨nM rfl, nM rfl, nM rfl, nQ rfl (by exact qW (yv rfl rfl Tryd.runUnderlying110 Tryd.sizeOf112 (Nb.rd (i := 1) rfl) zS.len rfl (M6.inb NT)) rfl), nQ rfl (by exact qW (qW (v7 rfl (Nb.rd (i := 1) rfl) zS.len (M6.inb NT) Tryd.isAgg112 Tryd.sizeOf112 rfl) (congrArg (fun l => Value.agg ⟨l⟩) SW)) rfl), nM rfl, nM rfl, nQ rfl (by exact qW (yv rfl rfl Tryd.runUnderlying110 Tryd.sizeOf112 (Nb.rd (i := 1) rfl) zS.len rfl (M6.inb NU)) rfl), nQ rfl (by exact qW (qW (v7 rfl (Nb.rd (i := 1) rfl) zS.len (M6.inb NU) Tryd.isAgg112 Tryd.sizeOf112 rfl) (congrArg (fun l => Value.agg ⟨l⟩) SX)) rfl), trivial⟩) fun D l a w ho hcl hav hpre hm hE hk hA hst => ?_
        have hS := (Ss.mk hE hst).env2 (e' := [(92, jE cq [] []), (96, .agg ⟨[.int .i64 ((rd MR M0).often_), .slice N8 ((rd MR M0).symbols_).length Pe]⟩), (100, .agg ⟨[.int .i64 ((rd MR Ni).often_), .slice N9 ((rd MR Ni).symbols_).length Pf]⟩)]) ⟨rfl, rfl, rfl, trivial⟩
        refine qQ rfl <| ve hS rfl rfl (Zc hcq) (Xs cq hcq hG K (qb.mk ((rd MR M0).often_) ((rd MR M0).symbols_)) (qb.mk ((rd MR Ni).often_) ((rd MR Ni).symbols_)) N8 Pe N9 Pf (SL.rdF (i := 0) rfl) SA (SM.rdF (i := 0) rfl) SB (hS.st.part 0 [0, 1] (by kernel_rfl)) (qt hM) (fun Pm w hM  hst => qz hS.ev hst.appF rfl fun hS => ?_))
        replace hS : Ss _ _ _ H [M4, Nc] F _ _ := hS
        refine qA ?_
        replace hst := hS.st
        obtain ⟨hcl, hmust, hav2, hA⟩ := dn (vals' := [some (jE cq [] []), some (.slice MS MY.length MV), some (.int .i64 M0), some (xI MS (Int.toNat M0 * 2)), some (.agg ⟨[.int .i64 ((rd MR M0).often_), .slice N8 ((rd MR M0).symbols_).length Pe]⟩), some (.slice MS MY.length MV), some (.int .i64 Ni), some (xI MS (Int.toNat Ni * 2)), some (.agg ⟨[.int .i64 ((rd MR Ni).often_), .slice N9 ((rd MR Ni).symbols_).length Pf]⟩), some (.int .i64 Pm), some (.bool (decide (Pm < (0 : Int)))), some (.bool (!(decide (Pm < (0 : Int)))))]) 9 [(0, 9), (4, 9), (8, 9), (3, 4), (7, 8), (1, 3), (2, 3), (5, 7), (6, 7)] hA hcl hav hm hpre hk rfl rfl rfl rfl rfl rfl rfl
        clear hm hav
        refine ym hA hst ho hcl hmust [10, 11] rfl rfl rfl (by exact ⟨nB rfl, nQ rfl (by exact qW (un rfl rfl) rfl), trivial⟩) fun a w hS => ?_
        replace hS := hS.env2 (e' := [(0, .slice MS MY.length MV), (2, .int .i64 M0), (4, jE cq [] []), (14, .int .i64 NE), (15, .int .i64 NI), (16, .int .i64 Ni), (103, .bool (!(decide (Pm < (0 : Int)))))]) ⟨rfl, rfl, rfl, rfl, rfl, rfl, rfl, trivial⟩
        refine qe <| qF hS rfl hM (fun Sm hM => ?_) (fun Sm hM => ?_)
        ·refine zP ?_
         refine sM hS rfl fun hS => sB hS rfl fun hS => zG (v := Value.int .i64) (x0 := (qh (Ni + (1 : Int)))) hS (xD rfl) rfl fun Tp a w hz hS => ?_
         have hM := qB hz hM; clear hz
         refine zn <| zy (qe ?_)
         exact Py _ _ ⟨Tp, NI, hS.to [0, 1] (by kernel_rfl) ⟨rfl, rfl, rfl, rfl, rfl, trivial⟩, hM⟩
        ·refine zP ?_
         refine sM hS rfl fun hS => sA hS rfl fun hS => zn <| zy (qe ?_)
         exact Py _ _ ⟨NE, Ni, hS.to [0, 1] (by kernel_rfl) ⟨rfl, rfl, rfl, rfl, rfl, trivial⟩, hM⟩
       ·refine wp_exit ?_
        refine qE (qE (zd (qe ?_)))
        exact P9 _ _ ⟨NE, hS.to [0, 1] (by kernel_rfl) ⟨rfl, rfl, rfl, trivial⟩, hM⟩
     ·intro a w hI
      obtain ⟨NG, hS, hM⟩ := hI
      rw [qa.j6] at hM
      refine wp_seq <| qm <| sM hS rfl fun hS => sA hS rfl fun hS => qA <| xS <| zv (fun P4 a w => ∃ (M9 : List (zS 2)) (MX : (List qb)) (Pj : qk) (MU : Int), Ss 220 [] [(0, .slice MS M9.length MV), (14, .int .i64 NG), (17, .int .i64 MU)] H [M4, Pj] F a w ∧ (xj 112 (zS.v (sz := 2)) 2 MS M9 MV Pj) ∧ (zF (qj M4) MX M9) ∧ (M9.length = MY.length) ∧ (qa.l7 K (qa.r K d) NG P4 MX MU).wp kr kp) K ?_ ?_ ?_
      ·exact ⟨MY, MR, Nc, M0, hS.to [0, 1] (by kernel_rfl) ⟨rfl, rfl, rfl, trivial⟩, Nb, M6, NM, hM⟩
      ·intro a w hI; obtain ⟨_, _, _, _, _, _, _, _, hM⟩ := hI; exact zt hM
      ·intro P4 a w hI Tx Sa
       obtain ⟨M9, MX, Pj, MU, hS, Ns, Nk, PQ, hM⟩ := hI
       rw [qa.l7] at hM
       refine wp_seq <| qm <| sM hS rfl fun hS => sM hS rfl fun hS => sB hS rfl fun hS => qA <| qF hS rfl hM (fun Sn hM => ?_) (fun Sn hM => ?_)
       ·refine wp_skip ?_
        refine qe <| wp_seq <| xS ?_
        obtain ⟨NV, hM⟩ := qK hM
        obtain ⟨Nv, Nz, SY, SN, SC⟩ := Nk.get NV
        obtain ⟨NC, hM⟩ := qK hM
        obtain ⟨Nw, NA, SZ, SO, SD⟩ := Nk.get NC
        refine za (vals := [some (.slice MS M9.length MV), some (.int .i64 MU), some (.slice MS M9.length MV), some (.int .i64 MU), some (.int .i64 (qh (MU - (1 : Int)))), some (.slice MS M9.length MV), some (.int .i64 MU), some (.int .i64 (qh (MU - (1 : Int)))), some (xI MS (Int.toNat (qh (MU - (1 : Int))) * 2)), some (.agg ⟨[.int .i64 ((rd MX (qh (MU - (1 : Int)))).often_), .slice Nv ((rd MX (qh (MU - (1 : Int)))).symbols_).length Nz]⟩), some (.slice MS M9.length MV), some (.int .i64 MU), some (xI MS (Int.toNat MU * 2)), some (.agg ⟨[.int .i64 ((rd MX MU).often_), .slice Nw ((rd MX MU).symbols_).length NA]⟩), some (xI MS (Int.toNat MU * 2)), none, none, none]) hS xG rfl ?_
        intro l w ho hcl hA hst
        refine jg hA hst ho hcl xx xH 15 [0, 1, 2, 3, 4, 5, 6, 7, 8, 9, 10, 11, 12, 13, 14] rfl rfl rfl rfl rfl (by exact ⟨nM rfl, nM rfl, nM rfl, nM rfl, nB rfl, nM rfl, nM rfl, nB rfl, nQ rfl (by exact qW (yv rfl rfl Tryd.runUnderlying110 Tryd.sizeOf112 (Ns.rd (i := 1) rfl) zS.len rfl (Nk.inb NV)) rfl), nQ rfl (by exact qW (qW (v7 rfl (Ns.rd (i := 1) rfl) zS.len (Nk.inb NV) Tryd.isAgg112 Tryd.sizeOf112 rfl) (congrArg (fun l => Value.agg ⟨l⟩) SY)) rfl), nM rfl, nM rfl, nQ rfl (by exact qW (yv rfl rfl Tryd.runUnderlying110 Tryd.sizeOf112 (Ns.rd (i := 1) rfl) zS.len rfl (Nk.inb NC)) rfl), nQ rfl (by exact qW (qW (v7 rfl (Ns.rd (i := 1) rfl) zS.len (Nk.inb NC) Tryd.isAgg112 Tryd.sizeOf112 rfl) (congrArg (fun l => Value.agg ⟨l⟩) SZ)) rfl), nQ rfl (by exact qW (yv rfl rfl Tryd.runUnderlying110 Tryd.sizeOf112 (Ns.rd (i := 1) rfl) zS.len rfl (Nk.inb NC)) rfl), trivial⟩) fun D l a w ho hcl hav hpre hm hE hk hA hst => ?_
        have hS := (Ss.mk hE hst).env2 (e' := [(122, .agg ⟨[.int .i64 ((rd MX (qh (MU - (1 : Int)))).often_), .slice Nv ((rd MX (qh (MU - (1 : Int)))).symbols_).length Nz]⟩), (127, xI MS (Int.toNat MU * 2))]) ⟨rfl, rfl, trivial⟩
        refine qQ rfl <| VZ (i := MU) (sz := 2) 1 (⟨[.int .i64 ((rd MX (qh (MU - (1 : Int)))).often_), .slice Nv ((rd MX (qh (MU - (1 : Int)))).symbols_).length Nz], by simp, by simp [Value.oneCell']⟩ : zS 2) hS rfl rfl Ns rfl Tryd.sizeOf112 rfl (Nk.inb NC) fun PV w TF hz PE hS => ?_
        obtain ⟨Te, hzm⟩ := uh (MX.set (Int.toNat MU) (qb.mk ((rd MX (qh (MU - (1 : Int)))).often_) ((rd MX (qh (MU - (1 : Int)))).symbols_)))
        replace hM := qB hzm hM
        have NL := zF.set (x := (qb.mk ((rd MX (qh (MU - (1 : Int)))).often_) ((rd MX (qh (MU - (1 : Int)))).symbols_))) (r := (⟨[.int .i64 ((rd MX (qh (MU - (1 : Int)))).often_), .slice Nv ((rd MX (qh (MU - (1 : Int)))).symbols_).length Nz], by simp, by simp [Value.oneCell']⟩ : zS 2)) (Int.toNat MU) Nk (show qj M4 _ _ from ⟨Nv, Nz, rfl, SN, SC⟩)
        have NZ : PV.length = M9.length := by rw [hz]; exact List.length_set ..
        rw [← hz, ← hzm] at NL; clear hz hzm
        have S5 := Eq.trans NZ PQ
        refine qA ?_
        replace hst := hS.st
        obtain ⟨PI, hM⟩ := qK hM
        obtain ⟨hcl, hmust, hav2, hA⟩ := XQ (vals' := [some (.slice MS M9.length MV), some (.int .i64 MU), some (.slice MS M9.length MV), some (.int .i64 MU), some (.int .i64 (qh (MU - (1 : Int)))), some (.slice MS M9.length MV), some (.int .i64 MU), some (.int .i64 (qh (MU - (1 : Int)))), some (xI MS (Int.toNat (qh (MU - (1 : Int))) * 2)), some (.agg ⟨[.int .i64 ((rd MX (qh (MU - (1 : Int)))).often_), .slice Nv ((rd MX (qh (MU - (1 : Int)))).symbols_).length Nz]⟩), some (.slice MS M9.length MV), some (.int .i64 MU), some (xI MS (Int.toNat MU * 2)), some (.agg ⟨[.int .i64 ((rd MX MU).often_), .slice Nw ((rd MX MU).symbols_).length NA]⟩), some (xI MS (Int.toNat MU * 2)), some undef, some (xI MS (Int.toNat (qh (MU - (1 : Int))) * 2)), none]) 15 [(0, 15), (1, 15), (5, 15), (6, 15), (7, 15), (8, 15), (9, 15), (13, 15), (14, 15), (12, 13), (10, 12), (11, 12)] hA hcl hav hm hpre rfl rfl rfl rfl rfl
        clear hm hav
        refine jg hA hst ho hcl hav2 hmust 17 [2, 3, 4, 16] rfl rfl rfl rfl rfl (by exact ⟨nM rfl, nM rfl, nB rfl, nQ rfl (by exact qW (yv (BH NZ rfl) rfl Tryd.runUnderlying110 Tryd.sizeOf112 (PE.rd (i := 1) rfl) zS.len rfl (NL.inb PI)) rfl), trivial⟩) fun D l a w ho hcl hav hpre hm hE hk hA hst => ?_
        have hS := (Ss.mk hE hst).env2 (e' := [(126, .agg ⟨[.int .i64 ((rd MX MU).often_), .slice Nw ((rd MX MU).symbols_).length NA]⟩), (128, xI MS (Int.toNat (qh (MU - (1 : Int))) * 2))]) ⟨rfl, rfl, trivial⟩
        refine qQ rfl <| VZ (i := (qh (MU - (1 : Int)))) (sz := 2) 1 (⟨[.int .i64 ((rd MX MU).often_), .slice Nw ((rd MX MU).symbols_).length NA], by simp, by simp [Value.oneCell']⟩ : zS 2) hS rfl rfl PE rfl Tryd.sizeOf112 rfl (NL.inb PI) fun N1 w Th hz Se hS => ?_
        obtain ⟨Tf, hzm⟩ := uh (Te.set (Int.toNat (qh (MU - (1 : Int)))) (qb.mk ((rd MX MU).often_) ((rd MX MU).symbols_)))
        replace hM := qB hzm hM
        have PL := zF.set (x := (qb.mk ((rd MX MU).often_) ((rd MX MU).symbols_))) (r := (⟨[.int .i64 ((rd MX MU).often_), .slice Nw ((rd MX MU).symbols_).length NA], by simp, by simp [Value.oneCell']⟩ : zS 2)) (Int.toNat (qh (MU - (1 : Int)))) NL (show qj M4 _ _ from ⟨Nw, NA, rfl, SO, SD⟩)
        have PR : N1.length = PV.length := by rw [hz]; exact List.length_set ..
        rw [← hz, ← hzm] at PL; clear hz hzm
        have S6 := Eq.trans PR S5
        refine qA ?_
        replace hst := hS.st
        obtain ⟨hcl, hmust, hav2, hA⟩ := XQ (vals' := [some (.slice MS M9.length MV), some (.int .i64 MU), some (.slice MS M9.length MV), some (.int .i64 MU), some (.int .i64 (qh (MU - (1 : Int)))), some (.slice MS M9.length MV), some (.int .i64 MU), some (.int .i64 (qh (MU - (1 : Int)))), some (xI MS (Int.toNat (qh (MU - (1 : Int))) * 2)), some (.agg ⟨[.int .i64 ((rd MX (qh (MU - (1 : Int)))).often_), .slice Nv ((rd MX (qh (MU - (1 : Int)))).symbols_).length Nz]⟩), some (.slice MS M9.length MV), some (.int .i64 MU), some (xI MS (Int.toNat MU * 2)), some (.agg ⟨[.int .i64 ((rd MX MU).often_), .slice Nw ((rd MX MU).symbols_).length NA]⟩), some (xI MS (Int.toNat MU * 2)), some undef, some (xI MS (Int.toNat (qh (MU - (1 : Int))) * 2)), some undef]) 17 [(0, 17), (1, 17), (2, 17), (3, 17), (4, 17), (5, 17), (6, 17), (7, 17), (8, 17), (9, 17), (10, 17), (11, 17), (12, 17), (13, 17), (14, 17), (15, 17), (16, 17)] hA hcl hav hm hpre rfl rfl rfl rfl rfl
        clear hm hav
        refine ym hA hst ho hcl hmust [] rfl rfl rfl trivial fun a w hS => ?_
        replace hS := hS.env2 (e' := [(0, .slice MS N1.length MV), (14, .int .i64 NG), (17, .int .i64 MU)]) ⟨(KP (u := .slice MS M9.length MV) rfl (by rw [PR, NZ])), rfl, rfl, trivial⟩
        refine zy (qe ?_)
        refine zP <| sM hS rfl fun hS => sB hS rfl fun hS => zG (v := Value.int .i64) (x0 := (qh (MU - (1 : Int)))) hS (xD rfl) rfl fun Tb a w hz hS => ?_
        have hM := qB hz hM; clear hz
        refine zn <| qe ?_
        exact Sa _ _ ⟨N1, Tf, Th, Tb, hS.to [0, 1] (by kernel_rfl) ⟨rfl, rfl, rfl, trivial⟩, Se, PL, S6, hM⟩
       ·refine wp_exit ?_
        refine qE (qE (zd (qe ?_)))
        refine wp_ret <| zl ?_
        exact zD (rs := []) hS rfl rfl (hret M9 MX Pj _ (q8 hM) Ns Nk PQ (hS.st.pick [0, 1] (by kernel_rfl)))
    ·refine wp_skip ?_
     refine qe ?_
     exact Sb _ _ ⟨hS.to [0, 1] (by kernel_rfl) ⟨rfl, rfl, rfl, rfl, rfl, trivial⟩, hM⟩
   ·intro a w hI
    obtain ⟨hS, hM⟩ := hI
    rw [qa.j8] at hM
    refine qm <| sM hS rfl fun hS => sM hS rfl fun hS => sB hS rfl fun hS => sO hS (u7 rfl Tryd.runUnderlying3 Tryd.runUnderlying47) rfl fun hS => sO hS (shr rfl rfl rfl) rfl fun hS => sO hS (u7 rfl Tryd.runUnderlying47 Tryd.runUnderlying3) rfl fun hS => zG (v := Value.int .i64) (x0 := (wr .i64 (xa .u64 (wr .u64 (qh (MZ + M5))) (1 : Int)))) hS (xD rfl) rfl fun M7 a w hz hS => ?_
    have hM := qB hz hM; clear hz
    refine qA <| qm <| sM hS rfl fun hS => sM hS rfl fun hS => sB hS rfl fun hS => zG (v := Value.int .i64) (x0 := (qh (M7 + M0))) hS (xD rfl) rfl fun Nl a w hz hS => ?_
    have hM := qB hz hM; clear hz
    refine qA <| qm <| sA hS rfl fun hS => sA hS rfl fun hS => qA <| zm (fun a w => ∃ (Nq : Int) (Pk : Int), Ss 220 [] [(0, .slice MS MY.length MV), (1, .int .i64 MZ), (2, .int .i64 M0), (3, .int .i64 M5), (4, jE cq [] []), (18, .int .i64 M7), (19, .int .i64 Nl), (20, .int .i64 Nq), (21, .int .i64 Pk)] H [M4, Nc] F a w ∧ (qa.j9 K (qa.r K d) MR MZ M0 M5 M7 Nl Nq Pk).wp kr kp) (fun Tz Pz => ?_) ?_
    ·refine wp_seq ?_
     refine zP <| sM hS rfl fun hS => sM hS rfl fun hS => sB hS rfl fun hS => qA <| qF hS rfl hM (fun So hM => ?_) (fun So hM => ?_)
     ·refine wp_seq ?_
      refine zP <| sM hS rfl fun hS => sM hS rfl fun hS => sB hS rfl fun hS => zG (v := Value.int .i64) (x0 := (qh (Nl - M5))) hS (xD rfl) rfl fun Po a w hz hS => ?_
      have hM := qB hz hM; clear hz
      refine qA <| zP <| sM hS rfl fun hS => sA hS rfl fun hS => zn <| qe ?_
      exact Pz _ _ ⟨Po, M7, hS.to [0, 1] (by kernel_rfl) ⟨rfl, rfl, rfl, rfl, rfl, rfl, rfl, rfl, rfl, trivial⟩, hM⟩
     ·refine wp_seq ?_
      refine zP <| sM hS rfl fun hS => sA hS rfl fun hS => qA <| zP <| sM hS rfl fun hS => sA hS rfl fun hS => zn <| qe ?_
      exact Pz _ _ ⟨MZ, M0, hS.to [0, 1] (by kernel_rfl) ⟨rfl, rfl, rfl, rfl, rfl, rfl, rfl, rfl, rfl, trivial⟩, hM⟩
    ·intro a w hI
     obtain ⟨Nq, Pk, hS, hM⟩ := hI
     rw [qa.j9] at hM
     refine qm <| sM hS rfl fun hS => sB hS rfl fun hS => zG (v := Value.int .i64) (x0 := (qh (Nl - (1 : Int)))) hS (xD rfl) rfl fun Ng a w hz hS => ?_
     have hM := qB hz hM; clear hz
     refine qA <| zm (fun a w => ∃ (Na : Int), Ss 220 [] [(0, .slice MS MY.length MV), (1, .int .i64 MZ), (2, .int .i64 M0), (3, .int .i64 M5), (4, jE cq [] []), (18, .int .i64 M7), (19, .int .i64 Nl), (20, .int .i64 Na)] H [M4, Nc] F a w ∧ (qa.j11 K (qa.r K d) MR MZ M0 M5 M7 Nl Na).wp kr kp) (fun TB Sc => ?_) ?_
     ·refine xS ?_
      refine zv (fun P5 a w => ∃ (Nf : Int) (NJ : Int), Ss 220 [] [(0, .slice MS MY.length MV), (1, .int .i64 MZ), (2, .int .i64 M0), (3, .int .i64 M5), (4, jE cq [] []), (18, .int .i64 M7), (19, .int .i64 Nl), (20, .int .i64 Nf), (21, .int .i64 NJ), (22, .int .i64 Ng)] H [M4, Nc] F a w ∧ (qa.l10 K (qa.r K d) MR MZ M0 M5 M7 Nl Ng P5 Nf NJ).wp kr kp) K ?_ ?_ ?_
      ·exact ⟨Nq, Pk, hS.to [0, 1] (by kernel_rfl) ⟨rfl, rfl, rfl, rfl, rfl, rfl, rfl, rfl, rfl, rfl, trivial⟩, hM⟩
      ·intro a w hI; obtain ⟨_, _, _, hM⟩ := hI; exact zt hM
      ·intro P5 a w hI TA PA
       obtain ⟨Nf, NJ, hS, hM⟩ := hI
       rw [qa.l10] at hM
       refine wp_seq <| qm <| sM hS rfl fun hS => sM hS rfl fun hS => sB hS rfl fun hS => qA <| qF hS rfl hM (fun Sp hM => ?_) (fun Sp hM => ?_)
       ·refine wp_skip ?_
        refine qe <| xS <| qm <| sM hS rfl fun hS => sM hS rfl fun hS => sB hS rfl fun hS => sO hS (u7 rfl Tryd.runUnderlying3 Tryd.runUnderlying47) rfl fun hS => sO hS (shr rfl rfl rfl) rfl fun hS => sO hS (u7 rfl Tryd.runUnderlying47 Tryd.runUnderlying3) rfl fun hS => zG (v := Value.int .i64) (x0 := (wr .i64 (xa .u64 (wr .u64 (qh (Nf + NJ))) (1 : Int)))) hS (xD rfl) rfl fun M3 a w hz hS => ?_
        have hM := qB hz hM; clear hz
        refine qA <| wp_seq ?_
        obtain ⟨NW, hM⟩ := qK hM
        obtain ⟨Pa, Pg, S1, SP, SE⟩ := M6.get NW
        obtain ⟨NX, hM⟩ := qK hM
        obtain ⟨Pb, Ph, S2, SQ, SG⟩ := M6.get NX
        refine za (vals := [some (jE cq [] []), some (.slice MS MY.length MV), some (.int .i64 Ng), some (.int .i64 M3), some (.int .i64 (qh (Ng - M3))), some (xI MS (Int.toNat (qh (Ng - M3)) * 2)), some (.agg ⟨[.int .i64 ((rd MR (qh (Ng - M3))).often_), .slice Pa ((rd MR (qh (Ng - M3))).symbols_).length Pg]⟩), some (.slice MS MY.length MV), some (.int .i64 M3), some (xI MS (Int.toNat M3 * 2)), some (.agg ⟨[.int .i64 ((rd MR M3).often_), .slice Pb ((rd MR M3).symbols_).length Ph]⟩), none, none, none]) hS xG rfl ?_
        intro l w ho hcl hA hst
        refine jg hA hst ho hcl xx xH 11 [0, 1, 2, 3, 4, 5, 6, 7, 8, 9, 10] rfl rfl rfl rfl rfl (by exact ⟨nM rfl, nM rfl, nM rfl, nM rfl, nB rfl, nQ rfl (by exact qW (yv rfl rfl Tryd.runUnderlying110 Tryd.sizeOf112 (Nb.rd (i := 1) rfl) zS.len rfl (M6.inb NW)) rfl), nQ rfl (by exact qW (qW (v7 rfl (Nb.rd (i := 1) rfl) zS.len (M6.inb NW) Tryd.isAgg112 Tryd.sizeOf112 rfl) (congrArg (fun l => Value.agg ⟨l⟩) S1)) rfl), nM rfl, nM rfl, nQ rfl (by exact qW (yv rfl rfl Tryd.runUnderlying110 Tryd.sizeOf112 (Nb.rd (i := 1) rfl) zS.len rfl (M6.inb NX)) rfl), nQ rfl (by exact qW (qW (v7 rfl (Nb.rd (i := 1) rfl) zS.len (M6.inb NX) Tryd.isAgg112 Tryd.sizeOf112 rfl) (congrArg (fun l => Value.agg ⟨l⟩) S2)) rfl), trivial⟩) fun D l a w ho hcl hav hpre hm hE hk hA hst => ?_
        have hS := (Ss.mk hE hst).env2 (e' := [(158, jE cq [] []), (164, .agg ⟨[.int .i64 ((rd MR (qh (Ng - M3))).often_), .slice Pa ((rd MR (qh (Ng - M3))).symbols_).length Pg]⟩), (168, .agg ⟨[.int .i64 ((rd MR M3).often_), .slice Pb ((rd MR M3).symbols_).length Ph]⟩)]) ⟨rfl, rfl, rfl, trivial⟩
        refine qQ rfl <| ve hS rfl rfl (Zc hcq) (Xs cq hcq hG K (qb.mk ((rd MR (qh (Ng - M3))).often_) ((rd MR (qh (Ng - M3))).symbols_)) (qb.mk ((rd MR M3).often_) ((rd MR M3).symbols_)) Pa Pg Pb Ph (SP.rdF (i := 0) rfl) SE (SQ.rdF (i := 0) rfl) SG (hS.st.part 0 [0, 1] (by kernel_rfl)) (qt hM) (fun Pn w hM  hst => qz hS.ev hst.appF rfl fun hS => ?_))
        replace hS : Ss _ _ _ H [M4, Nc] F _ _ := hS
        refine qA ?_
        replace hst := hS.st
        obtain ⟨hcl, hmust, hav2, hA⟩ := dn (vals' := [some (jE cq [] []), some (.slice MS MY.length MV), some (.int .i64 Ng), some (.int .i64 M3), some (.int .i64 (qh (Ng - M3))), some (xI MS (Int.toNat (qh (Ng - M3)) * 2)), some (.agg ⟨[.int .i64 ((rd MR (qh (Ng - M3))).often_), .slice Pa ((rd MR (qh (Ng - M3))).symbols_).length Pg]⟩), some (.slice MS MY.length MV), some (.int .i64 M3), some (xI MS (Int.toNat M3 * 2)), some (.agg ⟨[.int .i64 ((rd MR M3).often_), .slice Pb ((rd MR M3).symbols_).length Ph]⟩), some (.int .i64 Pn), some (.bool (decide (Pn < (0 : Int)))), some (.bool (!(decide (Pn < (0 : Int)))))]) 11 [(0, 11), (6, 11), (10, 11), (5, 6), (9, 10), (1, 5), (4, 5), (7, 9), (8, 9), (2, 4), (3, 4)] hA hcl hav hm hpre hk rfl rfl rfl rfl rfl rfl rfl
        clear hm hav
        refine ym hA hst ho hcl hmust [12, 13] rfl rfl rfl (by exact ⟨nB rfl, nQ rfl (by exact qW (un rfl rfl) rfl), trivial⟩) fun a w hS => ?_
        replace hS := hS.env2 (e' := [(0, .slice MS MY.length MV), (1, .int .i64 MZ), (2, .int .i64 M0), (3, .int .i64 M5), (4, jE cq [] []), (18, .int .i64 M7), (19, .int .i64 Nl), (20, .int .i64 Nf), (21, .int .i64 NJ), (22, .int .i64 Ng), (23, .int .i64 M3), (171, .bool (!(decide (Pn < (0 : Int)))))]) ⟨rfl, rfl, rfl, rfl, rfl, rfl, rfl, rfl, rfl, rfl, rfl, rfl, trivial⟩
        refine qe <| qF hS rfl hM (fun Sq hM => ?_) (fun Sq hM => ?_)
        ·refine zP ?_
         refine sM hS rfl fun hS => sB hS rfl fun hS => zG (v := Value.int .i64) (x0 := (qh (M3 + (1 : Int)))) hS (xD rfl) rfl fun Pp a w hz hS => ?_
         have hM := qB hz hM; clear hz
         refine zn <| zy (qe ?_)
         exact PA _ _ ⟨Pp, NJ, hS.to [0, 1] (by kernel_rfl) ⟨rfl, rfl, rfl, rfl, rfl, rfl, rfl, rfl, rfl, rfl, trivial⟩, hM⟩
        ·refine zP ?_
         refine sM hS rfl fun hS => sA hS rfl fun hS => zn <| zy (qe ?_)
         exact PA _ _ ⟨Nf, M3, hS.to [0, 1] (by kernel_rfl) ⟨rfl, rfl, rfl, rfl, rfl, rfl, rfl, rfl, rfl, rfl, trivial⟩, hM⟩
       ·refine wp_exit ?_
        refine qE (qE (zd (qe ?_)))
        exact Sc _ _ ⟨Nf, hS.to [0, 1] (by kernel_rfl) ⟨rfl, rfl, rfl, rfl, rfl, rfl, rfl, rfl, trivial⟩, hM⟩
     ·intro a w hI
      obtain ⟨Na, hS, hM⟩ := hI
      rw [qa.j11] at hM
      refine qm <| sM hS rfl fun hS => sM hS rfl fun hS => sB hS rfl fun hS => zG (v := Value.int .i64) (x0 := (qh (Nl - Na))) hS (xD rfl) rfl fun Nd a w hz hS => ?_
      have hM := qB hz hM; clear hz
      refine qA <| zm (fun a w => ∃ (Nm : List (zS 2)) (No : (List qb)) (NO : qk), Ss 220 [] [(0, .slice MS Nm.length MV), (1, .int .i64 MZ), (3, .int .i64 M5), (4, jE cq [] []), (18, .int .i64 M7), (20, .int .i64 Na), (24, .int .i64 Nd)] H [M4, NO] F a w ∧ (xj 112 (zS.v (sz := 2)) 2 MS Nm MV NO) ∧ (zF (qj M4) No Nm) ∧ (Nm.length = MY.length) ∧ (qa.j12 K (qa.r K d) MZ M5 M7 Na Nd No).wp kr kp) (fun TC PB => ?_) ?_
      ·refine wp_seq ?_
       refine zP <| sM hS rfl fun hS => sM hS rfl fun hS => sB hS rfl fun hS => sM hS rfl fun hS => yJ 3 true 181 (b := (decide (Na < M0))) (r := (decide (M0 < Nd))) hS rfl rfl rfl rfl rfl rfl rfl (fun hb a w hS K hK => ?_) rfl fun a w hS => ?_
       ·refine zW hS rfl rfl rfl hb (mv rfl) rfl fun a w hS => ?_
        refine zW hS rfl rfl rfl hb (mv rfl) rfl fun a w hS => zW hS rfl rfl rfl hb (js rfl rfl rfl) rfl fun a w hS => ?_
        exact zn (hK _ _ (hS.up 3 rfl rfl))
       refine qA <| qF hS rfl hM (fun Sr hM => ?_) (fun Sr hM => ?_)
       ·refine zP ?_
        refine sM hS rfl fun hS => sM hS rfl fun hS => sM hS rfl fun hS => sM hS rfl fun hS => sM hS rfl fun hS => qJ hS rfl Tryd.call92 (yL cq hcq hG K MR Na M0 Nd M4 MS MV MY Nc M6 Nb (hS.st.part 2 [0, 1] (by kernel_rfl)) (qt hM) (fun N2 Pq PX w hM Ti Tj Pt hst => qz hS.ev hst.appF rfl fun hS => ?_))
        replace hS : Ss _ _ _ H [M4, PX] F _ _ := hS
        have S7 := Eq.trans Pt NM
        replace hS := hS.re 0 (u := .slice MS MY.length MV) (v := .slice MS N2.length MV) rfl (by rw [Pt])
        replace hS := hS.re 186 (u := .slice MS MY.length MV) (v := .slice MS N2.length MV) rfl (by rw [Pt])
        refine zn <| qe ?_
        exact PB _ _ ⟨N2, Pq, PX, hS.to [0, 1] (by kernel_rfl) ⟨rfl, rfl, rfl, rfl, rfl, rfl, rfl, trivial⟩, Ti, Tj, S7, hM⟩
       ·refine wp_skip ?_
        refine qe ?_
        exact PB _ _ ⟨MY, MR, Nc, hS.to [0, 1] (by kernel_rfl) ⟨rfl, rfl, rfl, rfl, rfl, rfl, rfl, trivial⟩, Nb, M6, NM, hM⟩
      ·intro a w hI
       obtain ⟨Nm, No, NO, hS, PF, PM, PS, hM⟩ := hI
       rw [qa.j12] at hM
       refine zm (fun a w => ∃ (Nn : List (zS 2)) (Np : (List qb)) (NP : qk), Ss 220 [] [(0, .slice MS Nn.length MV), (3, .int .i64 M5), (4, jE cq [] []), (18, .int .i64 M7), (24, .int .i64 Nd)] H [M4, NP] F a w ∧ (xj 112 (zS.v (sz := 2)) 2 MS Nn MV NP) ∧ (zF (qj M4) Np Nn) ∧ (Nn.length = MY.length) ∧ (qa.j13 K (qa.r K d) M5 M7 Nd Np).wp kr kp) (fun TD PC => ?_) ?_
       ·refine wp_seq ?_
        refine zP <| sM hS rfl fun hS => sM hS rfl fun hS => sB hS rfl fun hS => sM hS rfl fun hS => yJ 3 true 195 (b := (decide (MZ < Na))) (r := (decide (Na < M7))) hS rfl rfl rfl rfl rfl rfl rfl (fun hb a w hS K hK => ?_) rfl fun a w hS => ?_
        ·refine zW hS rfl rfl rfl hb (mv rfl) rfl fun a w hS => ?_
         refine zW hS rfl rfl rfl hb (mv rfl) rfl fun a w hS => zW hS rfl rfl rfl hb (js rfl rfl rfl) rfl fun a w hS => ?_
         exact zn (hK _ _ (hS.up 3 rfl rfl))
        refine qA <| qF hS rfl hM (fun Su hM => ?_) (fun Su hM => ?_)
        ·refine zP ?_
         refine sM hS rfl fun hS => sM hS rfl fun hS => sM hS rfl fun hS => sM hS rfl fun hS => sM hS rfl fun hS => qJ hS rfl Tryd.call86 (ih hG  No MZ Na M7 M4 MS MV Nm NO PM PF (hS.st.part 2 [0, 1] (by kernel_rfl)) (qt hM) (fun N3 Pr PY w hM Tk Tl Pv hst => qz hS.ev hst.appF rfl fun hS => ?_))
         replace hS : Ss _ _ _ H [M4, PY] F _ _ := hS
         have S8 := Eq.trans Pv PS
         replace hS := hS.re 0 (u := .slice MS Nm.length MV) (v := .slice MS N3.length MV) rfl (by rw [Pv])
         replace hS := hS.re 200 (u := .slice MS Nm.length MV) (v := .slice MS N3.length MV) rfl (by rw [Pv])
         refine zn <| qe ?_
         exact PC _ _ ⟨N3, Pr, PY, hS.to [0, 1] (by kernel_rfl) ⟨rfl, rfl, rfl, rfl, rfl, trivial⟩, Tk, Tl, S8, hM⟩
        ·refine wp_skip ?_
         refine qe ?_
         exact PC _ _ ⟨Nm, No, NO, hS.to [0, 1] (by kernel_rfl) ⟨rfl, rfl, rfl, rfl, rfl, trivial⟩, PF, PM, PS, hM⟩
       ·intro a w hI
        obtain ⟨Nn, Np, NP, hS, PG, PN, PT, hM⟩ := hI
        rw [qa.j13] at hM
        refine qm <| sM hS rfl fun hS => sM hS rfl fun hS => sB hS rfl fun hS => sM hS rfl fun hS => yJ 3 true 209 (b := (decide (M7 < Nd))) (r := (decide (Nd < M5))) hS rfl rfl rfl rfl rfl rfl rfl (fun hb a w hS K hK => ?_) rfl fun a w hS => ?_
        ·refine zW hS rfl rfl rfl hb (mv rfl) rfl fun a w hS => ?_
         refine zW hS rfl rfl rfl hb (mv rfl) rfl fun a w hS => zW hS rfl rfl rfl hb (js rfl rfl rfl) rfl fun a w hS => ?_
         exact zn (hK _ _ (hS.up 3 rfl rfl))
        refine qA <| qF hS rfl hM (fun Sv hM => ?_) (fun Sv hM => ?_)
        ·refine zP ?_
         refine sM hS rfl fun hS => sM hS rfl fun hS => sM hS rfl fun hS => sM hS rfl fun hS => sM hS rfl fun hS => qJ hS rfl Tryd.call86 (ih hG  Np M7 Nd M5 M4 MS MV Nn NP PN PG (hS.st.part 2 [0, 1] (by kernel_rfl)) (qt hM) (fun N4 Ps PZ w hM Tm Tn Pw hst => qz hS.ev hst.appF rfl fun hS => ?_))
         replace hS : Ss _ _ _ H [M4, PZ] F _ _ := hS
         have S9 := Eq.trans Pw PT
         replace hS := hS.re 0 (u := .slice MS Nn.length MV) (v := .slice MS N4.length MV) rfl (by rw [Pw])
         replace hS := hS.re 214 (u := .slice MS Nn.length MV) (v := .slice MS N4.length MV) rfl (by rw [Pw])
         refine zn ?_
         exact jR (rs := []) hS rfl rfl (hret N4 Ps PZ _ (q8 hM) Tm Tn S9 (hS.st.pick [0, 1] (by kernel_rfl)))
        ·refine wp_skip ?_
         exact jR (rs := []) hS rfl rfl (hret Nn Np NP _ (q8 hM) PG PN PT (hS.st.pick [0, 1] (by kernel_rfl)))
theorem xU (cq : Nat) (hcq : cq = 56 ∨ cq = 76) {H : xT} {F : List qk} {w : World} {R : Ending → World → Prop} {kr : (List qb) → Prop} {kp : Value → Prop} (hG : Gl H) (K : Nat) (MR : List qb) (MV : Int) (M3 : Int) (MW : Int) (MU : qk) (MY : Option Addr) (MZ : Nat) (MS : List (zS 2)) (M0 : qk) (M6 : zF (qj MU) MR MS) (M5 : xj 112 (zS.v (sz := 2)) 2 MY MS MZ M0)
    (hS : St w H [MU, M0] F) (hm : (qa.m K MR MV M3 MW).wp kr kp)
    (hret : ∀ (MX : List (zS 2)) (MT : (List qb)) (M4 : qk) (w : World), kr MT → (xj 112 (zS.v (sz := 2)) 2 MY MX MZ M4) → (zF (qj MU) MT MX) → (MX.length = MS.length) → St w H [MU, M4] F → R (.returned (.tuple ⟨[]⟩)) w) :
    Calls Tryd.prog 86 ⟨[.slice MY MS.length MZ, .int .i64 MV, .int .i64 M3, .int .i64 MW, jE cq [] []]⟩ w R := yC cq hcq K K hG MR MV M3 MW MU MY MZ MS M0 M6 M5 hS hm hret
theorem yM (cq : Nat) (hcq : cq = 56 ∨ cq = 76) {H : xT} {F : List qk} {w : World} {R : Ending → World → Prop} {kr : (List qb) → Prop} {kp : Value → Prop} (hG : Gl H) (K : Nat) (Nf : List qb) (MV : Int) (MU : qk) (MS : Option Addr) (MT : Nat) (MW : List (zS 2)) (Nz : qk) (Pb : zF (qj MU) Nf MW) (N5 : xj 112 (zS.v (sz := 2)) 2 MS MW MT Nz)
    (hS : St w H [MU, Nz] F) (hm : (qd.m K Nf MV).wp kr kp)
    (hret : ∀ (Ns : List (zS 2)) (Nj : (List qb)) (NV : qk) (w : World), kr Nj → (xj 112 (zS.v (sz := 2)) 2 MS Ns MT NV) → (zF (qj MU) Nj Ns) → (Ns.length = MW.length) → St w H [MU, NV] F → R (.returned (.tuple ⟨[]⟩)) w) :
    Calls Tryd.prog 73 ⟨[.slice MS MW.length MT, .int .i64 MV, jE cq [] []]⟩ w R := by
 refine enter Tryd.func73 rfl Tryd.ntmps73 rfl hS fun a w hS => ?_
 have hM := hm; clear hm
 rw [qd.m] at hM
 have Pt : ∀ q ∈ MU, q ∈ MU := fun _ h => h
 have Pd : MW.length = MW.length := rfl
 refine qm <| sA hS rfl fun hS => qA <| qm <| sM hS rfl fun hS => sA hS rfl fun hS => sA hS rfl fun hS => qA <| zm (fun a w => ∃ (M6 : List (zS 2)) (M8 : (List qb)) (Nt : qk) (Ni : Int), Ss 63 [] [(0, .slice MS M6.length MT), (1, .int .i64 MV), (2, jE cq [] []), (6, .int .i64 (20 : Int)), (7, .int .i64 Ni)] H [MU, Nt] F a w ∧ (xj 112 (zS.v (sz := 2)) 2 MS M6 MT Nt) ∧ (zF (qj MU) M8 M6) ∧ (M6.length = MW.length) ∧ (qd.j2 K MV M8 Ni).wp kr kp) (fun Pw N2 => ?_) ?_
 ·refine xS ?_
  refine zv (fun NW a w => ∃ (MX : List (zS 2)) (M0 : (List qb)) (Nk : qk) (Nc : Int) (Na : Int), Ss 63 [] [(0, .slice MS MX.length MT), (1, .int .i64 MV), (2, jE cq [] []), (6, .int .i64 (20 : Int)), (7, .int .i64 Nc), (8, .int .i64 Na)] H [MU, Nk] F a w ∧ (xj 112 (zS.v (sz := 2)) 2 MS MX MT Nk) ∧ (zF (qj MU) M0 MX) ∧ (MX.length = MW.length) ∧ (qd.l1 K MV NW M0 Nc Na).wp kr kp) K ?_ ?_ ?_
  ·exact ⟨MW, Nf, Nz, (0 : Int), (20 : Int), hS.to [0, 1] (by kernel_rfl) ⟨rfl, rfl, rfl, rfl, rfl, rfl, trivial⟩, N5, Pb, Pd, hM⟩
  ·intro a w hI; obtain ⟨_, _, _, _, _, _, _, _, _, hM⟩ := hI; exact zt hM
  ·intro NW a w hI Pv N1
   obtain ⟨MX, M0, Nk, Nc, Na, hS, NF, NJ, NN, hM⟩ := hI
   rw [qd.l1] at hM
   refine wp_seq <| qm <| sM hS rfl fun hS => sM hS rfl fun hS => sB hS rfl fun hS => qA <| qF hS rfl hM (fun N7 hM => ?_) (fun N7 hM => ?_)
   ·refine wp_skip ?_
    refine qe <| xS <| qm <| sM hS rfl fun hS => sM hS rfl fun hS => sM hS rfl fun hS => sM hS rfl fun hS => qJ hS rfl Tryd.call85 (xP cq hcq hG K M0 Nc Na MU MS MT MX Nk NJ NF (hS.st.part 2 [0, 1] (by kernel_rfl)) (qt hM) (fun No Nv NR w hM Pj Pk NA hst => qz hS.ev hst.appF rfl fun hS => ?_))
    replace hS : Ss _ _ _ H [MU, NR] F _ _ := hS
    have Pe := Eq.trans NA NN
    replace hS := hS.re 0 (u := .slice MS MX.length MT) (v := .slice MS No.length MT) rfl (by rw [NA])
    replace hS := hS.re 14 (u := .slice MS MX.length MT) (v := .slice MS No.length MT) rfl (by rw [NA])
    refine qA <| qm <| sM hS rfl fun hS => sA hS rfl fun hS => qA <| zP <| sM hS rfl fun hS => sM hS rfl fun hS => sB hS rfl fun hS => zG (v := Value.int .i64) (x0 := (qh (Na + (20 : Int)))) hS (xD rfl) rfl fun NY a w hz hS => ?_
    have hM := qB hz hM; clear hz
    refine zn <| zy (qe ?_)
    exact N1 _ _ ⟨No, Nv, NR, Na, NY, hS.to [0, 1] (by kernel_rfl) ⟨rfl, rfl, rfl, rfl, rfl, rfl, trivial⟩, Pj, Pk, Pe, hM⟩
   ·refine wp_exit ?_
    refine qE (qE (zd (qe ?_)))
    exact N2 _ _ ⟨MX, M0, Nk, Nc, hS.to [0, 1] (by kernel_rfl) ⟨rfl, rfl, rfl, rfl, rfl, trivial⟩, NF, NJ, NN, hM⟩
 ·intro a w hI
  obtain ⟨M6, M8, Nt, Ni, hS, N6, Pc, Pf, hM⟩ := hI
  rw [qd.j2] at hM
  refine qm <| sM hS rfl fun hS => sM hS rfl fun hS => sM hS rfl fun hS => sM hS rfl fun hS => qJ hS rfl Tryd.call85 (xP cq hcq hG K M8 Ni MV MU MS MT M6 Nt Pc N6 (hS.st.part 2 [0, 1] (by kernel_rfl)) (qt hM) (fun Np Nw NS w hM Pm Pn NB hst => qz hS.ev hst.appF rfl fun hS => ?_))
  replace hS : Ss _ _ _ H [MU, NS] F _ _ := hS
  have Pg := Eq.trans NB Pf
  replace hS := hS.re 0 (u := .slice MS M6.length MT) (v := .slice MS Np.length MT) rfl (by rw [NB])
  replace hS := hS.re 23 (u := .slice MS M6.length MT) (v := .slice MS Np.length MT) rfl (by rw [NB])
  refine qA <| xS <| zv (fun Nu a w => ∃ (M7 : List (zS 2)) (M3 : (List qb)) (Nl : qk) (MR : Int), Ss 63 [] [(0, .slice MS M7.length MT), (1, .int .i64 MV), (2, jE cq [] []), (6, .int .i64 MR)] H [MU, Nl] F a w ∧ (xj 112 (zS.v (sz := 2)) 2 MS M7 MT Nl) ∧ (zF (qj MU) M3 M7) ∧ (M7.length = MW.length) ∧ (qd.l3 K MV Nu M3 MR).wp kr kp) K ?_ ?_ ?_
  ·exact ⟨Np, Nw, NS, (20 : Int), hS.to [0, 1] (by kernel_rfl) ⟨rfl, rfl, rfl, rfl, trivial⟩, Pm, Pn, Pg, hM⟩
  ·intro a w hI; obtain ⟨_, _, _, _, _, _, _, _, hM⟩ := hI; exact zt hM
  ·intro Nu a w hI Pz NE
   obtain ⟨M7, M3, Nl, MR, hS, NG, NK, NO, hM⟩ := hI
   rw [qd.l3] at hM
   refine wp_seq <| qm <| sM hS rfl fun hS => sM hS rfl fun hS => sB hS rfl fun hS => qA <| qF hS rfl hM (fun N8 hM => ?_) (fun N8 hM => ?_)
   ·refine wp_skip ?_
    refine qe <| xS <| qm <| sM hS rfl fun hS => sB hS rfl fun hS => sA hS rfl fun hS => zG (v := Value.int .i64) (x0 := (qh ((2 : Int) * MR))) hS (xD rfl) rfl fun NZ a w hz hS => ?_
    have hM := qB hz hM; clear hz
    refine qA <| zm (fun a w => ∃ (MZ : List (zS 2)) (M5 : (List qb)) (Nn : qk) (Nd : Int), Ss 63 [] [(0, .slice MS MZ.length MT), (1, .int .i64 MV), (2, jE cq [] []), (6, .int .i64 MR), (7, .int .i64 Nd)] H [MU, Nn] F a w ∧ (xj 112 (zS.v (sz := 2)) 2 MS MZ MT Nn) ∧ (zF (qj MU) M5 MZ) ∧ (MZ.length = MW.length) ∧ (qd.j5 K (qd.l3 K MV Nu) MV MR M5 Nd).wp kr kp) (fun Py N4 => ?_) ?_
    ·refine xS ?_
     refine zv (fun NX a w => ∃ (MY : List (zS 2)) (M4 : (List qb)) (Nm : qk) (M9 : Int) (Nb : Int), Ss 63 [] [(0, .slice MS MY.length MT), (1, .int .i64 MV), (2, jE cq [] []), (6, .int .i64 MR), (7, .int .i64 M9), (8, .int .i64 Nb)] H [MU, Nm] F a w ∧ (xj 112 (zS.v (sz := 2)) 2 MS MY MT Nm) ∧ (zF (qj MU) M4 MY) ∧ (MY.length = MW.length) ∧ (qd.l4 K (qd.l3 K MV Nu) MV MR NX M4 M9 Nb).wp kr kp) K ?_ ?_ ?_
     ·exact ⟨M7, M3, Nl, (0 : Int), NZ, hS.to [0, 1] (by kernel_rfl) ⟨rfl, rfl, rfl, rfl, rfl, rfl, trivial⟩, NG, NK, NO, hM⟩
     ·intro a w hI; obtain ⟨_, _, _, _, _, _, _, _, _, hM⟩ := hI; exact zt hM
     ·intro NX a w hI Px N3
      obtain ⟨MY, M4, Nm, M9, Nb, hS, NH, NL, NP, hM⟩ := hI
      rw [qd.l4] at hM
      refine wp_seq <| qm <| sM hS rfl fun hS => sM hS rfl fun hS => sB hS rfl fun hS => qA <| qF hS rfl hM (fun N9 hM => ?_) (fun N9 hM => ?_)
      ·refine wp_skip ?_
       refine qe <| xS <| qm <| sM hS rfl fun hS => sM hS rfl fun hS => sM hS rfl fun hS => sM hS rfl fun hS => sB hS rfl fun hS => sM hS rfl fun hS => sM hS rfl fun hS => qJ hS rfl Tryd.call86 (xU cq hcq hG K M4 M9 (qh (M9 + MR)) Nb MU MS MT MY Nm NL NH (hS.st.part 2 [0, 1] (by kernel_rfl)) (qt hM) (fun Nq Nx NT w hM Po Pp NC hst => qz hS.ev hst.appF rfl fun hS => ?_))
       replace hS : Ss _ _ _ H [MU, NT] F _ _ := hS
       have Ph := Eq.trans NC NP
       replace hS := hS.re 0 (u := .slice MS MY.length MT) (v := .slice MS Nq.length MT) rfl (by rw [NC])
       replace hS := hS.re 36 (u := .slice MS MY.length MT) (v := .slice MS Nq.length MT) rfl (by rw [NC])
       refine qA <| qm <| sM hS rfl fun hS => sA hS rfl fun hS => qA <| zP <| sM hS rfl fun hS => sM hS rfl fun hS => sB hS rfl fun hS => sB hS rfl fun hS => zG (v := Value.int .i64) (x0 := (qh (Nb + (qh ((2 : Int) * MR))))) hS (xD rfl) rfl fun N0 a w hz hS => ?_
       have hM := qB hz hM; clear hz
       refine zn <| zy (qe ?_)
       exact N3 _ _ ⟨Nq, Nx, NT, Nb, N0, hS.to [0, 1] (by kernel_rfl) ⟨rfl, rfl, rfl, rfl, rfl, rfl, trivial⟩, Po, Pp, Ph, hM⟩
      ·refine wp_exit ?_
       refine qE (qE (zd (qe ?_)))
       exact N4 _ _ ⟨MY, M4, Nm, M9, hS.to [0, 1] (by kernel_rfl) ⟨rfl, rfl, rfl, rfl, rfl, trivial⟩, NH, NL, NP, hM⟩
    ·intro a w hI
     obtain ⟨MZ, M5, Nn, Nd, hS, NI, NM, NQ, hM⟩ := hI
     rw [qd.j5] at hM
     refine wp_seq <| qm <| sM hS rfl fun hS => sM hS rfl fun hS => sB hS rfl fun hS => zG (v := Value.int .i64) (x0 := (qh (Nd + MR))) hS (xD rfl) rfl fun Ps a w hz hS => ?_
     have hM := qB hz hM; clear hz
     refine qA <| qm <| sM hS rfl fun hS => sM hS rfl fun hS => sB hS rfl fun hS => qA <| qF hS rfl hM (fun Pa hM => ?_) (fun Pa hM => ?_)
     ·refine zP ?_
      refine sM hS rfl fun hS => sM hS rfl fun hS => sM hS rfl fun hS => sM hS rfl fun hS => sM hS rfl fun hS => qJ hS rfl Tryd.call86 (xU cq hcq hG K M5 Nd Ps MV MU MS MT MZ Nn NM NI (hS.st.part 2 [0, 1] (by kernel_rfl)) (qt hM) (fun Nr Ny NU w hM Pq Pr ND hst => qz hS.ev hst.appF rfl fun hS => ?_))
      replace hS : Ss _ _ _ H [MU, NU] F _ _ := hS
      have Pi := Eq.trans ND NQ
      replace hS := hS.re 0 (u := .slice MS MZ.length MT) (v := .slice MS Nr.length MT) rfl (by rw [ND])
      replace hS := hS.re 55 (u := .slice MS MZ.length MT) (v := .slice MS Nr.length MT) rfl (by rw [ND])
      refine qA <| zP <| sM hS rfl fun hS => sB hS rfl fun hS => zG (v := Value.int .i64) (x0 := (qh (MR * (2 : Int)))) hS (xD rfl) rfl fun Ng a w hz hS => ?_
      have hM := qB hz hM; clear hz
      refine zn <| zy (qe ?_)
      exact NE _ _ ⟨Nr, Ny, NU, Ng, hS.to [0, 1] (by kernel_rfl) ⟨rfl, rfl, rfl, rfl, trivial⟩, Pq, Pr, Pi, hM⟩
     ·refine wp_skip ?_
      refine qe <| zP <| sM hS rfl fun hS => sB hS rfl fun hS => zG (v := Value.int .i64) (x0 := (qh (MR * (2 : Int)))) hS (xD rfl) rfl fun Nh a w hz hS => ?_
      have hM := qB hz hM; clear hz
      refine zn <| zy (qe ?_)
      exact NE _ _ ⟨MZ, M5, Nn, Nh, hS.to [0, 1] (by kernel_rfl) ⟨rfl, rfl, rfl, rfl, trivial⟩, NI, NM, NQ, hM⟩
   ·refine wp_exit ?_
    refine qE (qE (zd ?_))
    exact jR (rs := []) hS rfl rfl (hret M7 M3 Nl _ (q8 hM) NG NK NO (hS.st.pick [0, 1] (by kernel_rfl)))
theorem xw (cq : Nat) (hcq : cq = 56 ∨ cq = 76) {H : xT} {F : List qk} {w : World} {R : Ending → World → Prop} {kr : (List qb) → Prop} {kp : Value → Prop} (hG : Gl H) (K : Nat) (MW : List qb) (MU : qk) (MS : Option Addr) (MT : Nat) (MR : List (zS 2)) (M0 : qk) (M3 : zF (qj MU) MW MR) (M7 : xj 112 (zS.v (sz := 2)) 2 MS MR MT M0)
    (hS : St w H [MU, M0] F) (hm : (qT.m K MW).wp kr kp)
    (hret : ∀ (MX : List (zS 2)) (M6 : (List qb)) (M5 : qk) (w : World), kr M6 → (xj 112 (zS.v (sz := 2)) 2 MS MX MT M5) → (zF (qj MU) M6 MX) → (MX.length = MR.length) → St w H [MU, M5] F → R (.returned (.tuple ⟨[]⟩)) w) :
    Calls Tryd.prog 55 ⟨[.slice MS MR.length MT, jE cq [] []]⟩ w R := by
 refine enter Tryd.func55 rfl Tryd.ntmps55 rfl hS fun a w hS => ?_
 have hM := hm; clear hm
 rw [qT.m] at hM
 have Nc : ∀ q ∈ MU, q ∈ MU := fun _ h => h
 have M8 : MR.length = MR.length := rfl
 refine zP <| sM hS rfl fun hS => sM hS rfl fun hS => sO hS (qW (v' := .int .i64 (MW.length : Int)) (yk rfl Tryd.runUnderlying110) (by rw [M3.len])) rfl fun hS => sM hS rfl fun hS => qJ hS rfl Tryd.call73 (yM cq hcq hG K MW (MW.length : Int) MU MS MT MR M0 M3 M7 (hS.st.part 2 [0, 1] (by kernel_rfl)) (qt hM) (fun MV MZ M4 w hM Na Nb MY hst => qz hS.ev hst.appF rfl fun hS => ?_))
 replace hS : Ss _ _ _ H [MU, M4] F _ _ := hS
 have M9 := Eq.trans MY M8
 replace hS := hS.re 0 (u := .slice MS MR.length MT) (v := .slice MS MV.length MT) rfl (by rw [MY])
 replace hS := hS.re 4 (u := .slice MS MR.length MT) (v := .slice MS MV.length MT) rfl (by rw [MY])
 replace hS := hS.re 5 (u := .slice MS MR.length MT) (v := .slice MS MV.length MT) rfl (by rw [MY])
 refine zn ?_
 exact jR (rs := []) hS rfl rfl (hret MV MZ M4 _ (q8 hM) Na Nb M9 (hS.st.pick [0, 1] (by kernel_rfl)))
def vy (p : qk) (x : (List Int)) (vs : List Value) : Prop :=
  ∃ (A0 : Option Addr) (c0 : Nat), vs = [.slice A0 x.length c0] ∧ Pl p (ci .i64) A0 x ∧ x.length ≤ c0
theorem vy.mono {p p' : qk} (hs : ∀ q ∈ p, q ∈ p') {x : (List Int)} {vs : List Value} (h : vy p x vs) : vy p' x vs := by
  obtain ⟨A0, c0, h0, h1, h2⟩ := h
  exact ⟨A0, c0, h0, h1.mono hs, h2⟩
theorem vm {H : xT} {F : List qk} {w : World} {R : Ending → World → Prop} {kr : Unit → Prop} {kp : Value → Prop} (hG : Gl H) (K : Nat) (MR : Int)
    (hS : St w H [] F) (hm : (xO.m K MR).wp kr kp)
    (hret : ∀ (MS : Option Addr) (MT : Nat) (MU : qk) (w : World), kr () → (xj 3 (ci .i64) 1 MS ([] : List Int) MT MU) → St w H [MU] F → R (.returned (.slice MS ([] : List Int).length MT)) w)
    (hpan : ∀ v w, kp v → St w H [] F → R (.panicked [⟨v, false, false⟩]) w) :
    Calls Tryd.prog 88 ⟨[.slice none 0 0, .int .i64 MR]⟩ w R := by
 refine enter Tryd.func88 rfl Tryd.ntmps88 rfl hS fun a w hS => ?_
 have hM := hm; clear hm
 rw [xO.m] at hM
 refine qm <| sA hS rfl fun hS => ?_
 obtain ⟨Na, M8, hS⟩ := hS.nilV 3 (ci .i64) 1
 refine qA <| wp_seq <| qm <| sM hS rfl fun hS => sB hS rfl fun hS => qA <| qF hS rfl hM (fun MY hM => ?_) (fun MY hM => ?_)
 ·refine zP ?_
  refine sO hS (Lk rfl Tryd.runUnderlying9 rfl) rfl fun hS => QL hS rfl <| qD ?_
  exact ⟨hS.ev.defs, hpan _ _ (Z6 hM) hS.st.frame⟩
 ·refine wp_skip ?_
  refine qe <| wp_seq <| qm <| sM hS rfl fun hS => sM hS rfl fun hS => sO hS (DA rfl Tryd.runUnderlying66) rfl fun hS => sM hS rfl fun hS => sO hS (yk rfl Tryd.runUnderlying66) rfl fun hS => sB hS rfl fun hS => sB hS rfl fun hS => zG (v := Value.int .i64) (x0 := (qh (MR - (qh ((0 : Int) - (0 : Int)))))) hS (xD rfl) rfl fun M9 a w hz hS => ?_
  have hM := qB hz hM; clear hz
  refine qA <| qm <| sM hS rfl fun hS => sB hS rfl fun hS => qA <| qF hS rfl hM (fun MZ hM => ?_) (fun MZ hM => ?_)
  ·refine zP ?_
   refine sM hS rfl fun hS => sM hS rfl fun hS => sO hS (DA rfl Tryd.runUnderlying66) rfl fun hS => sO hS (Mu rfl Tryd.runUnderlying66 Tryd.sizeOf3 (DK rfl)) rfl fun hS => sM hS rfl fun hS => ?_
   obtain ⟨M3, hM⟩ := qK hM
   refine Ml (g := (ci .i64)) hS rfl rfl Tryd.runUnderlying66 Tryd.runUnderlying3 X.el3 rfl rfl M3 rfl fun w M4 M5 M6 MW M0 MV hS => sM hS rfl fun hS => sO hS (yk rfl Tryd.runUnderlying66) rfl fun hS => sO hS (Mt rfl Tryd.runUnderlying66 Tryd.sizeOf3 (fun _ => DK rfl) M0 MV) rfl fun hS => sA hS rfl fun hS => qA <| qm <| sM hS rfl fun hS => sA hS rfl fun hS => qA <| wp_ret ?_
   exact zD (rs := [4]) hS rfl rfl (hret M4 M5 M6 _ (q8 hM) MW (hS.st.pick [0] (by kernel_rfl)))
  ·refine wp_skip ?_
   refine qe <| qm <| sM hS rfl fun hS => sA hS rfl fun hS => ?_
   obtain ⟨M7, MX, hS⟩ := hS.nilV 3 (ci .i64) 1
   refine qA <| wp_ret ?_
   exact zD (rs := [4]) hS rfl rfl (hret none (0) M7 _ (q8 hM) MX (hS.st.pick [0] (by kernel_rfl)))
theorem vX {H : xT} {F : List qk} {w : World} {R : Ending → World → Prop} {kr : (List Int) → Prop} {kp : Value → Prop} (hG : Gl H) (K : Nat) (MR : List (List Int)) (MW : qk) (MY : Option Addr) (MZ : Nat) (MT : List (zS 1)) (MU : zF (vy MW) MR MT) (M4 : Pl MW (zS.v (sz := 1)) MY MT) (ND : MT.length ≤ MZ)
    (hS : St w H [MW] F) (hm : (qS.m K MR).wp kr kp)
    (hret : ∀ (Nd : Option Addr) (Nf : Nat) (Nc : (List Int)) (Nh : qk) (w : World), kr Nc → (xj 3 (ci .i64) 1 Nd Nc Nf Nh) → St w H [MW, Nh] F → R (.returned (.slice Nd Nc.length Nf)) w)
    (hpan : ∀ v w, kp v → St w H [] F → R (.panicked [⟨v, false, false⟩]) w) :
    Calls Tryd.prog 77 ⟨[.slice MY MT.length MZ]⟩ w R := by
 refine enter Tryd.func77 rfl Tryd.ntmps77 rfl hS fun a w hS => ?_
 have hM := hm; clear hm
 rw [qS.m] at hM
 have NH : ∀ q ∈ MW, q ∈ MW := fun _ h => h
 refine qm <| sA hS rfl fun hS => ?_
 obtain ⟨NP, NC, hS⟩ := hS.nilV 3 (ci .i64) 1
 refine qA <| qm <| sA hS rfl fun hS => qA <| zm (fun a w => ∃ (MX : Int), Ss 36 [] [(0, .slice MY MT.length MZ), (3, .int .i64 MX)] H [MW] F a w ∧ (qS.j2 K MR MX).wp kr kp) (fun NL Nl => ?_) ?_
 ·refine wp_seq ?_
  refine zP <| sM hS rfl fun hS => sO hS (qW (v' := .int .i64 (MR.length : Int)) (yk rfl Tryd.runUnderlying153) (by rw [MU.len])) rfl fun hS => sM hS rfl fun hS => qA <| xS <| zv (fun Ni a w => ∃ (MV : Int) (M0 : Int), Ss 36 [] [(0, .slice MY MT.length MZ), (3, .int .i64 MV), (9, .slice MY MT.length MZ), (10, .int .i64 (MR.length : Int)), (11, .int .i64 M0)] H [MW] F a w ∧ (qS.l1 K MR Ni MV M0).wp kr kp) K ?_ ?_ ?_
  ·exact ⟨(0 : Int), (0 : Int), hS.to [1] (by kernel_rfl) ⟨rfl, rfl, rfl, rfl, rfl, trivial⟩, hM⟩
  ·intro a w hI; obtain ⟨_, _, _, hM⟩ := hI; exact zt hM
  ·intro Ni a w hI NK Nk
   obtain ⟨MV, M0, hS, hM⟩ := hI
   rw [qS.l1] at hM
   refine qm <| sB hS rfl fun hS => qA <| wp_seq <| qF hS rfl hM (fun No hM => ?_) (fun No hM => ?_)
   ·refine wp_skip ?_
    refine qe <| wp_seq <| xS <| wp_seq <| zP ?_
    obtain ⟨M5, hM⟩ := qK hM
    refine sO hS (yv rfl rfl Tryd.runUnderlying153 Tryd.sizeOf66 (M4.rd (i := 0) rfl) zS.len rfl (MU.inb M5)) rfl fun hS => ?_
    obtain ⟨NI, NN, Nt, NG, NE⟩ := MU.get M5
    refine sO hS (yG rfl (M4.rd (i := 0) rfl) zS.len (MU.inb M5) (by rw [show zS.v (rd MT M0) = _ from Nt]; rfl) Tryd.isAgg66) rfl fun hS => sA hS rfl fun hS => qA <| qm <| sM hS rfl fun hS => sM hS rfl fun hS => sO hS (yk rfl Tryd.runUnderlying66) rfl fun hS => sB hS rfl fun hS => zG (v := Value.int .i64) (x0 := (qh (MV + ((rd MR M0).length : Int)))) hS (xD rfl) rfl fun Nb a w hz hS => ?_
    have hM := qB hz hM; clear hz
    refine qA <| qm <| sM hS rfl fun hS => sB hS rfl fun hS => qA <| qF hS rfl hM (fun Np hM => ?_) (fun Np hM => ?_)
    ·refine zP ?_
     refine sO hS (Lk rfl Tryd.runUnderlying9 rfl) rfl fun hS => QL hS rfl <| zQ (qD (qD (zQ (qD ?_))))
     exact ⟨hS.ev.defs, hpan _ _ (Z6 hM) hS.st.frame⟩
    ·refine wp_skip ?_
     refine zy (qe ?_)
     refine zP <| sB hS rfl fun hS => sM hS rfl fun hS => zn <| qe ?_
     exact Nk _ _ ⟨Nb, (qh (M0 + (1 : Int))), hS.to [0] (by kernel_rfl) ⟨rfl, rfl, rfl, rfl, rfl, trivial⟩, hM⟩
   ·refine wp_exit ?_
    refine qE (qE (zd (qe ?_)))
    exact Nl _ _ ⟨MV, hS.to [0] (by kernel_rfl) ⟨rfl, rfl, trivial⟩, hM⟩
 ·intro a w hI
  obtain ⟨MX, hS, hM⟩ := hI
  rw [qS.j2] at hM
  refine qm <| sM hS rfl fun hS => qJ hS rfl Tryd.call88 (vm hG K MX (hS.st.part 0 [0] (by kernel_rfl)) (qt hM) (fun Nw Ny Ng w hM NB hst => qz hS.ev hst.appF rfl fun hS => ?_) (fun v w hk hst => xo (qD (⟨hS.ev.defs, hpan _ _ hk hst.appF.frame⟩))))
  replace hS : Ss _ _ _ H [Ng, MW] F _ _ := hS
  refine sA hS rfl fun hS => qA <| wp_seq <| qm <| sM hS rfl fun hS => sO hS (qW (v' := .int .i64 (MR.length : Int)) (yk rfl Tryd.runUnderlying153) (by rw [MU.len])) rfl fun hS => sM hS rfl fun hS => qA <| xS <| zv (fun Nj a w => ∃ (M7 : Option Addr) (M8 : Nat) (MS : (List Int)) (M9 : qk) (M3 : Int), Ss 36 [] [(6, .slice M7 MS.length M8), (25, .slice MY MT.length MZ), (26, .int .i64 (MR.length : Int)), (27, .int .i64 M3)] H [MW, M9] F a w ∧ (xj 3 (ci .i64) 1 M7 MS M8 M9) ∧ (qS.l3 K MR Nj MS M3).wp kr kp) K ?_ ?_ ?_
  ·exact ⟨Nw, Ny, ([] : List Int), Ng, (0 : Int), hS.to [1, 0] (by kernel_rfl) ⟨rfl, rfl, rfl, rfl, trivial⟩, NB, hM⟩
  ·intro a w hI; obtain ⟨_, _, _, _, _, _, _, hM⟩ := hI; exact zt hM
  ·intro Nj a w hI NM Nm
   obtain ⟨M7, M8, MS, M9, M3, hS, Na, hM⟩ := hI
   rw [qS.l3] at hM
   refine qm <| sB hS rfl fun hS => qA <| wp_seq <| qF hS rfl hM (fun Nq hM => ?_) (fun Nq hM => ?_)
   ·refine wp_skip ?_
    refine qe <| wp_seq <| xS <| wp_seq <| zP ?_
    obtain ⟨M6, hM⟩ := qK hM
    refine sO hS (yv rfl rfl Tryd.runUnderlying153 Tryd.sizeOf66 (M4.rd (i := 0) rfl) zS.len rfl (MU.inb M6)) rfl fun hS => ?_
    obtain ⟨NJ, NO, Nu, Ns, NF⟩ := MU.get M6
    refine sO hS (yG rfl (M4.rd (i := 0) rfl) zS.len (MU.inb M6) (by rw [show zS.v (rd MT M3) = _ from Nu]; rfl) Tryd.isAgg66) rfl fun hS => sA hS rfl fun hS => qA <| zP <| sM hS rfl fun hS => sM hS rfl fun hS => ?_
    obtain ⟨Nr, hM⟩ := qK hM
    refine J1 (ys := (rd MR M3)) 1 hS rfl rfl Na rfl (Ns.rd (i := 0) rfl) Tryd.runUnderlying66 Tryd.runUnderlying66 X.el3 (fun _ => rfl) rfl xJ Nr rfl fun Nv w Nx Nz NA hz Nn hS => ?_
    have hM := qB hz hM; clear hz
    refine sA hS rfl fun hS => zn <| zy (qe ?_)
    refine zP <| sB hS rfl fun hS => sM hS rfl fun hS => zn <| qe ?_
    exact Nm _ _ ⟨Nx, Nz, Nv, NA, (qh (M3 + (1 : Int))), hS.to [0, 1] (by kernel_rfl) ⟨rfl, rfl, rfl, rfl, trivial⟩, Nn, hM⟩
   ·refine wp_exit ?_
    refine qE (qE (zd (qe ?_)))
    refine qm <| sM hS rfl fun hS => sA hS rfl fun hS => qA <| wp_ret ?_
    exact zD (rs := [2]) hS rfl rfl (hret M7 M8 MS M9 _ (q8 hM) Na (hS.st.pick [0, 1] (by kernel_rfl)))
theorem JD {H : xT} {F : List qk} {w : World} {R : Ending → World → Prop} {kr : (List qb) → Prop} {kp : Value → Prop} (hG : Gl H) (K : Nat) (MS : List qb) (Na : qk) (MT : Option Addr) (MX : Nat) (MU : List (zS 2)) (N2 : zF (qj Na) MS MU) (N0 : Pl Na (zS.v (sz := 2)) MT MU) (NT : MU.length ≤ MX)
    (hS : St w H [Na] F) (hm : (xX.m K MS).wp kr kp)
    (hret : ∀ (NG : qk) (NH : Option Addr) (NI : Nat) (Nw : List (zS 2)) (NN : (List qb)) (NJ : qk) (w : World), kr NN → (∀ q ∈ Na, q ∈ NG) → (xj 112 (zS.v (sz := 2)) 2 NH Nw NI NJ) → (zF (qj NG) NN Nw) → St w H [NG, NJ] F → R (.returned (.slice NH Nw.length NI)) w)
    (hpan : ∀ v w, kp v → St w H [] F → R (.panicked [⟨v, false, false⟩]) w) :
    Calls Tryd.prog 59 ⟨[.slice MT MU.length MX]⟩ w R := by
 refine enter Tryd.func59 rfl Tryd.ntmps59 rfl hS fun a w hS => ?_
 have hM := hm; clear hm
 rw [xX.m] at hM
 have N4 : ∀ q ∈ Na, q ∈ Na := fun _ h => h
 refine qm <| sA hS rfl fun hS => ?_
 obtain ⟨Pq, Pe, hS⟩ := hS.nilV 112 (zS.v (sz := 2)) 2
 have Pj : zF (qj Na) ([] : List qb) ([] : List (zS 2)) := zF.nil
 refine qA <| qm <| sA hS rfl fun hS => ?_
 obtain ⟨Pa, NP, hS⟩ := hS.nilV 112 (zS.v (sz := 2)) 2
 have N3 : zF (qj Na) ([] : List qb) ([] : List (zS 2)) := zF.nil
 refine qA <| wp_seq <| qm <| sA hS rfl fun hS => qA <| xS <| zv (fun NL a w => ∃ (Nb : qk) (M8 : Option Addr) (M9 : Nat) (M0 : List (zS 2)) (Nj : (List qb)) (Ns : qk) (MR : Int), Ss 42 [] [(0, .slice MT MU.length MX), (3, .slice M8 M0.length M9), (4, .int .i64 MR)] H [Nb, Ns] F a w ∧ (∀ q ∈ Na, q ∈ Nb) ∧ (zF (qj Nb) MS MU) ∧ (Pl Nb (zS.v (sz := 2)) MT MU) ∧ (MU.length ≤ MX) ∧ (xj 112 (zS.v (sz := 2)) 2 M8 M0 M9 Ns) ∧ (zF (qj Nb) Nj M0) ∧ (xX.l1 K MS NL Nj MR).wp kr kp) K ?_ ?_ ?_
 ·exact ⟨Na, none, 0, ([] : List (zS 2)), ([] : List qb), Pa, (0 : Int), hS.to [2, 0] (by kernel_rfl) ⟨rfl, rfl, rfl, trivial⟩, N4, N2, N0, NT, NP, N3, hM⟩
 ·intro a w hI; obtain ⟨_, _, _, _, _, _, _, _, _, _, _, _, _, _, hM⟩ := hI; exact zt hM
 ·intro NL a w hI Pn NO
  obtain ⟨Nb, M8, M9, M0, Nj, Ns, MR, hS, Nk, MV, MW, NU, NB, Nc, hM⟩ := hI
  rw [xX.l1] at hM
  refine wp_seq <| qm <| sM hS rfl fun hS => sB hS rfl fun hS => sM hS rfl fun hS => sO hS (qW (v' := .int .i64 (MS.length : Int)) (yk rfl Tryd.runUnderlying110) (by rw [MV.len])) rfl fun hS => sB hS rfl fun hS => qA <| qF hS rfl hM (fun NS hM => ?_) (fun NS hM => ?_)
  ·refine wp_skip ?_
   refine qe <| wp_seq <| xS ?_
   obtain ⟨MY, hM⟩ := qK hM
   obtain ⟨Pk, Po, Nu, Ph, Pf⟩ := MV.get MY
   obtain ⟨MZ, hM⟩ := qK hM
   obtain ⟨Pm, Pp, Nv, Pi, Pg⟩ := MV.get MZ
   obtain ⟨Nf, Nh, N7, Nm, NV⟩ := MV.get MY
   obtain ⟨Ng, Ni, N8, Nn, NW⟩ := MV.get MZ
   refine za (vals := [some (.slice M8 M0.length M9), some (.slice MT MU.length MX), some (.int .i64 MR), some (xI MT (Int.toNat MR * 2)), some (xI MT (Int.toNat MR * 2 + 0)), some (.int .i64 ((rd MS MR).often_)), some (.slice MT MU.length MX), some (.int .i64 MR), some (.int .i64 (qh (MR + (1 : Int)))), some (xI MT (Int.toNat (qh (MR + (1 : Int))) * 2)), some (xI MT (Int.toNat (qh (MR + (1 : Int))) * 2 + 0)), some (.int .i64 ((rd MS (qh (MR + (1 : Int)))).often_)), some (.int .i64 (qh ((rd MS MR).often_ + (rd MS (qh (MR + (1 : Int)))).often_))), some (.slice MT MU.length MX), some (.int .i64 MR), some (xI MT (Int.toNat MR * 2)), some (xI MT (Int.toNat MR * 2 + 1)), some (.slice Nf ((rd MS MR).symbols_).length Nh), some (.slice MT MU.length MX), some (.int .i64 MR), some (.int .i64 (qh (MR + (1 : Int)))), some (xI MT (Int.toNat (qh (MR + (1 : Int))) * 2)), some (xI MT (Int.toNat (qh (MR + (1 : Int))) * 2 + 1)), some (.slice Ng ((rd MS (qh (MR + (1 : Int)))).symbols_).length Ni), none, none, none, none, none, none]) hS xG rfl ?_
   intro l w ho hcl hA hst
   refine jg hA hst ho hcl xx xH 24 [0, 1, 2, 3, 4, 5, 6, 7, 8, 9, 10, 11, 12, 13, 14, 15, 16, 17, 18, 19, 20, 21, 22, 23] rfl rfl rfl rfl rfl (by exact ⟨nM rfl, nM rfl, nM rfl, nQ rfl (by exact qW (yv rfl rfl Tryd.runUnderlying110 Tryd.sizeOf112 (MW.rd (i := 0) rfl) zS.len rfl (MV.inb MY)) rfl), nQ rfl (by exact qW (Jx rfl (MW.rd (i := 0) rfl) zS.len rfl (MV.inb MY) Tryd.runUnderlying112 rfl Tryd.sizeOf3 rfl) rfl), nQ rfl (by exact qW (Dv 0 rfl (MW.rd (i := 0) rfl) zS.len (MV.inb MY) (by rw [show zS.v (rd MU MR) = _ from Nu]; rfl) Tryd.isAgg3) rfl), nM rfl, nM rfl, nB rfl, nQ rfl (by exact qW (yv rfl rfl Tryd.runUnderlying110 Tryd.sizeOf112 (MW.rd (i := 0) rfl) zS.len rfl (MV.inb MZ)) rfl), nQ rfl (by exact qW (Jx rfl (MW.rd (i := 0) rfl) zS.len rfl (MV.inb MZ) Tryd.runUnderlying112 rfl Tryd.sizeOf3 rfl) rfl), nQ rfl (by exact qW (Dv 0 rfl (MW.rd (i := 0) rfl) zS.len (MV.inb MZ) (by rw [show zS.v (rd MU (qh (MR + (1 : Int)))) = _ from Nv]; rfl) Tryd.isAgg3) rfl), nB rfl, nM rfl, nM rfl, nQ rfl (by exact qW (yv rfl rfl Tryd.runUnderlying110 Tryd.sizeOf112 (MW.rd (i := 0) rfl) zS.len rfl (MV.inb MY)) rfl), nQ rfl (by exact qW (Jx rfl (MW.rd (i := 0) rfl) zS.len rfl (MV.inb MY) Tryd.runUnderlying112 rfl Tryd.sizeOf66 rfl) rfl), nQ rfl (by exact qW (Dv 1 rfl (MW.rd (i := 0) rfl) zS.len (MV.inb MY) (by rw [show zS.v (rd MU MR) = _ from N7]; rfl) Tryd.isAgg66) rfl), nM rfl, nM rfl, nB rfl, nQ rfl (by exact qW (yv rfl rfl Tryd.runUnderlying110 Tryd.sizeOf112 (MW.rd (i := 0) rfl) zS.len rfl (MV.inb MZ)) rfl), nQ rfl (by exact qW (Jx rfl (MW.rd (i := 0) rfl) zS.len rfl (MV.inb MZ) Tryd.runUnderlying112 rfl Tryd.sizeOf66 rfl) rfl), nQ rfl (by exact qW (Dv 1 rfl (MW.rd (i := 0) rfl) zS.len (MV.inb MZ) (by rw [show zS.v (rd MU (qh (MR + (1 : Int)))) = _ from N8]; rfl) Tryd.isAgg66) rfl), trivial⟩) fun D l a w ho hcl hav hpre hm hE hk hA hst => ?_
   have hS := (Ss.mk hE hst).env2 (e' := [(29, .slice Nf ((rd MS MR).symbols_).length Nh), (35, .slice Ng ((rd MS (qh (MR + (1 : Int)))).symbols_).length Ni)]) ⟨rfl, rfl, trivial⟩
   refine qQ rfl ?_
   obtain ⟨M7, hrw⟩ : ∃ r, r = ([(⟨[.slice Nf ((rd MS MR).symbols_).length Nh], by simp, by simp [Value.oneCell']⟩ : zS 1), (⟨[.slice Ng ((rd MS (qh (MR + (1 : Int)))).symbols_).length Ni], by simp, by simp [Value.oneCell']⟩ : zS 1)] : List (zS 1)) := ⟨_, rfl⟩
   have No : zF (vy Nb) ([(rd MS MR).symbols_, (rd MS (qh (MR + (1 : Int)))).symbols_] : List (List Int)) M7 := by rw [hrw]; exact (zF.cons (show vy Nb _ _ from ⟨Nf, Nh, rfl, Nm, NV⟩) (zF.cons (show vy Nb _ _ from ⟨Ng, Ni, rfl, Nn, NW⟩) zF.nil))
   refine J2 (g := (zS.v (sz := 1))) M7 [.slice Nf ((rd MS MR).symbols_).length Nh, .slice Ng ((rd MS (qh (MR + (1 : Int)))).symbols_).length Ni] hS Tryd.runUnderlying153 Tryd.sizeOf66 X.el66 rfl rfl rfl (by simp [Value.cells]) (by rw [hrw]; rfl) (by rw [hrw]; rfl) rfl rfl rfl fun w Np Nq Pr NC hS => ?_
   clear hrw
   refine qA ?_
   replace hst := hS.st
   obtain ⟨hcl, hmust, hav2, hA⟩ := dn (vals' := [some (.slice M8 M0.length M9), some (.slice MT MU.length MX), some (.int .i64 MR), some (xI MT (Int.toNat MR * 2)), some (xI MT (Int.toNat MR * 2 + 0)), some (.int .i64 ((rd MS MR).often_)), some (.slice MT MU.length MX), some (.int .i64 MR), some (.int .i64 (qh (MR + (1 : Int)))), some (xI MT (Int.toNat (qh (MR + (1 : Int))) * 2)), some (xI MT (Int.toNat (qh (MR + (1 : Int))) * 2 + 0)), some (.int .i64 ((rd MS (qh (MR + (1 : Int)))).often_)), some (.int .i64 (qh ((rd MS MR).often_ + (rd MS (qh (MR + (1 : Int)))).often_))), some (.slice MT MU.length MX), some (.int .i64 MR), some (xI MT (Int.toNat MR * 2)), some (xI MT (Int.toNat MR * 2 + 1)), some (.slice Nf ((rd MS MR).symbols_).length Nh), some (.slice MT MU.length MX), some (.int .i64 MR), some (.int .i64 (qh (MR + (1 : Int)))), some (xI MT (Int.toNat (qh (MR + (1 : Int))) * 2)), some (xI MT (Int.toNat (qh (MR + (1 : Int))) * 2 + 1)), some (.slice Ng ((rd MS (qh (MR + (1 : Int)))).symbols_).length Ni), some (.slice Np M7.length Nq), none, none, none, none, none]) 24 [(17, 24), (23, 24), (16, 17), (22, 23), (15, 16), (21, 22), (13, 15), (14, 15), (18, 21), (20, 21), (19, 20)] hA hcl hav hm hpre hk rfl rfl rfl rfl rfl rfl rfl
   clear hm hav
   refine jg hA hst ho hcl hav2 hmust 25 [0, 1, 2, 3, 4, 5, 6, 7, 8, 9, 10, 11, 12] rfl rfl rfl rfl rfl (by exact ⟨nM rfl, nM rfl, nM rfl, nQ rfl (by exact qW (yv rfl rfl Tryd.runUnderlying110 Tryd.sizeOf112 (MW.rd (i := 1) rfl) zS.len rfl (MV.inb MY)) rfl), nQ rfl (by exact qW (Jx rfl (MW.rd (i := 1) rfl) zS.len rfl (MV.inb MY) Tryd.runUnderlying112 rfl Tryd.sizeOf3 rfl) rfl), nQ rfl (by exact qW (Dv 0 rfl (MW.rd (i := 1) rfl) zS.len (MV.inb MY) (by rw [show zS.v (rd MU MR) = _ from Nu]; rfl) Tryd.isAgg3) rfl), nM rfl, nM rfl, nB rfl, nQ rfl (by exact qW (yv rfl rfl Tryd.runUnderlying110 Tryd.sizeOf112 (MW.rd (i := 1) rfl) zS.len rfl (MV.inb MZ)) rfl), nQ rfl (by exact qW (Jx rfl (MW.rd (i := 1) rfl) zS.len rfl (MV.inb MZ) Tryd.runUnderlying112 rfl Tryd.sizeOf3 rfl) rfl), nQ rfl (by exact qW (Dv 0 rfl (MW.rd (i := 1) rfl) zS.len (MV.inb MZ) (by rw [show zS.v (rd MU (qh (MR + (1 : Int)))) = _ from Nv]; rfl) Tryd.isAgg3) rfl), nB rfl, trivial⟩) fun D l a w ho hcl hav hpre hm hE hk hA hst => ?_
   have hS := (Ss.mk hE hst).env2 (e' := [(36, .slice Np M7.length Nq)]) ⟨rfl, trivial⟩
   refine qQ rfl ?_
   replace hS := hS.front [0, 1, 2] (by kernel_rfl)
   obtain ⟨NM, N5, Nd, hS⟩ := hS.poolF
   have NX := NC.cap zS.len rfl
   have Nt := NC.pl.mono N5
   replace MW := MW.mono Nd
   replace Nm := Nm.mono Nd
   replace Nn := Nn.mono Nd
   replace MV := zF.mono (fun _ _ h => qj.mono Nd h) MV
   replace Nc := zF.mono (fun _ _ h => qj.mono Nd h) Nc
   replace No := zF.mono (fun _ _ h => vy.mono Nd h) No
   replace Nk := fun q h => Nd q (Nk q h)
   refine qJ hS rfl Tryd.call77 (vX hG K ([(rd MS MR).symbols_, (rd MS (qh (MR + (1 : Int)))).symbols_] : List (List Int)) NM Np Nq M7 No Nt NX (hS.st.part 1 [0, 1] (by kernel_rfl)) (qt hM) (fun M4 M5 M3 Pb w hM NK hst => qz hS.ev hst.appF rfl fun hS => ?_) (fun v w hk hst => xo (qD (zQ (qD (qD (zQ (qD (⟨hS.ev.defs, hpan _ _ hk hst.appF.frame⟩)))))))))
   replace hS : Ss _ _ _ H [NM, Pb, Ns] F _ _ := hS
   refine qA ?_
   replace hst := hS.st
   obtain ⟨hcl, hmust, hav2, hA⟩ := dn (vals' := [some (.slice M8 M0.length M9), some (.slice MT MU.length MX), some (.int .i64 MR), some (xI MT (Int.toNat MR * 2)), some (xI MT (Int.toNat MR * 2 + 0)), some (.int .i64 ((rd MS MR).often_)), some (.slice MT MU.length MX), some (.int .i64 MR), some (.int .i64 (qh (MR + (1 : Int)))), some (xI MT (Int.toNat (qh (MR + (1 : Int))) * 2)), some (xI MT (Int.toNat (qh (MR + (1 : Int))) * 2 + 0)), some (.int .i64 ((rd MS (qh (MR + (1 : Int)))).often_)), some (.int .i64 (qh ((rd MS MR).often_ + (rd MS (qh (MR + (1 : Int)))).often_))), some (.slice MT MU.length MX), some (.int .i64 MR), some (xI MT (Int.toNat MR * 2)), some (xI MT (Int.toNat MR * 2 + 1)), some (.slice Nf ((rd MS MR).symbols_).length Nh), some (.slice MT MU.length MX), some (.int .i64 MR), some (.int .i64 (qh (MR + (1 : Int)))), some (xI MT (Int.toNat (qh (MR + (1 : Int))) * 2)), some (xI MT (Int.toNat (qh (MR + (1 : Int))) * 2 + 1)), some (.slice Ng ((rd MS (qh (MR + (1 : Int)))).symbols_).length Ni), some (.slice Np M7.length Nq), some (.slice M4 M3.length M5), some (.agg ⟨[.int .i64 (qh ((rd MS MR).often_ + (rd MS (qh (MR + (1 : Int)))).often_)), .slice M4 M3.length M5]⟩), none, none, none]) 25 [(24, 25), (17, 24), (23, 24), (16, 17), (22, 23), (15, 16), (21, 22), (13, 15), (14, 15), (18, 21), (20, 21), (19, 20)] hA hcl hav hm hpre hk rfl rfl rfl rfl rfl rfl rfl
   clear hm hav
   refine jg hA hst ho hcl hav2 hmust 27 [0, 1, 2, 3, 4, 5, 6, 7, 8, 9, 10, 11, 12, 26] rfl rfl rfl rfl rfl (by exact ⟨nM rfl, nM rfl, nM rfl, nQ rfl (by exact qW (yv rfl rfl Tryd.runUnderlying110 Tryd.sizeOf112 (MW.rd (i := 0) rfl) zS.len rfl (MV.inb MY)) rfl), nQ rfl (by exact qW (Jx rfl (MW.rd (i := 0) rfl) zS.len rfl (MV.inb MY) Tryd.runUnderlying112 rfl Tryd.sizeOf3 rfl) rfl), nQ rfl (by exact qW (Dv 0 rfl (MW.rd (i := 0) rfl) zS.len (MV.inb MY) (by rw [show zS.v (rd MU MR) = _ from Nu]; rfl) Tryd.isAgg3) rfl), nM rfl, nM rfl, nB rfl, nQ rfl (by exact qW (yv rfl rfl Tryd.runUnderlying110 Tryd.sizeOf112 (MW.rd (i := 0) rfl) zS.len rfl (MV.inb MZ)) rfl), nQ rfl (by exact qW (Jx rfl (MW.rd (i := 0) rfl) zS.len rfl (MV.inb MZ) Tryd.runUnderlying112 rfl Tryd.sizeOf3 rfl) rfl), nQ rfl (by exact qW (Dv 0 rfl (MW.rd (i := 0) rfl) zS.len (MV.inb MZ) (by rw [show zS.v (rd MU (qh (MR + (1 : Int)))) = _ from Nv]; rfl) Tryd.isAgg3) rfl), nB rfl, nQ rfl (by exact qW (Xr ([.int .i64 (qh ((rd MS MR).often_ + (rd MS (qh (MR + (1 : Int)))).often_)), .slice M4 M3.length M5]) [(0, 1), (1, 1)] Tryd.zeroValue112 Tryd.runUnderlying112 (by intro w; simp [Tryd.sizeOf3, Tryd.sizeOf66]) rfl rfl) rfl), trivial⟩) fun D l a w ho hcl hav hpre hm hE hk hA hst => ?_
   have hS := (Ss.mk hE hst).env2 (e' := [(38, .agg ⟨[.int .i64 (qh ((rd MS MR).often_ + (rd MS (qh (MR + (1 : Int)))).often_)), .slice M4 M3.length M5]⟩)]) ⟨rfl, trivial⟩
   refine qQ rfl ?_
   replace hS := hS.front [1, 0, 2] (by kernel_rfl)
   obtain ⟨NF, N6, M6, hS⟩ := hS.poolF
   have NY := NK.cap (fun _ => rfl) rfl
   have N1 := NK.pl.mono N6
   replace MW := MW.mono M6
   replace Nm := Nm.mono M6
   replace Nn := Nn.mono M6
   replace Nt := Nt.mono M6
   replace MV := zF.mono (fun _ _ h => qj.mono M6 h) MV
   replace Nc := zF.mono (fun _ _ h => qj.mono M6 h) Nc
   replace No := zF.mono (fun _ _ h => vy.mono M6 h) No
   replace Nk := fun q h => M6 q (Nk q h)
   obtain ⟨Nl, hrw⟩ : ∃ r, r = ([(⟨[.int .i64 (qh ((rd MS MR).often_ + (rd MS (qh (MR + (1 : Int)))).often_)), .slice M4 M3.length M5], by simp, by simp [Value.oneCell']⟩ : zS 2)] : List (zS 2)) := ⟨_, rfl⟩
   have ND : zF (qj NF) ([(qb.mk (qh ((rd MS MR).often_ + (rd MS (qh (MR + (1 : Int)))).often_)) M3)] : List qb) Nl := by rw [hrw]; exact (zF.cons (show qj NF _ _ from ⟨M4, M5, rfl, N1, NY⟩) zF.nil)
   refine J2 (g := (zS.v (sz := 2))) Nl [.agg ⟨[.int .i64 (qh ((rd MS MR).often_ + (rd MS (qh (MR + (1 : Int)))).often_)), .slice M4 M3.length M5]⟩] hS Tryd.runUnderlying110 Tryd.sizeOf112 X.el112 rfl rfl rfl (by simp [Value.cells]) (by rw [hrw]; rfl) (by rw [hrw]; rfl) rfl rfl rfl fun w Nz NA Ps NQ hS => ?_
   clear hrw
   refine qA ?_
   replace hst := hS.st
   obtain ⟨hcl, hmust, hav2, hA⟩ := dn (vals' := [some (.slice M8 M0.length M9), some (.slice MT MU.length MX), some (.int .i64 MR), some (xI MT (Int.toNat MR * 2)), some (xI MT (Int.toNat MR * 2 + 0)), some (.int .i64 ((rd MS MR).often_)), some (.slice MT MU.length MX), some (.int .i64 MR), some (.int .i64 (qh (MR + (1 : Int)))), some (xI MT (Int.toNat (qh (MR + (1 : Int))) * 2)), some (xI MT (Int.toNat (qh (MR + (1 : Int))) * 2 + 0)), some (.int .i64 ((rd MS (qh (MR + (1 : Int)))).often_)), some (.int .i64 (qh ((rd MS MR).often_ + (rd MS (qh (MR + (1 : Int)))).often_))), some (.slice MT MU.length MX), some (.int .i64 MR), some (xI MT (Int.toNat MR * 2)), some (xI MT (Int.toNat MR * 2 + 1)), some (.slice Nf ((rd MS MR).symbols_).length Nh), some (.slice MT MU.length MX), some (.int .i64 MR), some (.int .i64 (qh (MR + (1 : Int)))), some (xI MT (Int.toNat (qh (MR + (1 : Int))) * 2)), some (xI MT (Int.toNat (qh (MR + (1 : Int))) * 2 + 1)), some (.slice Ng ((rd MS (qh (MR + (1 : Int)))).symbols_).length Ni), some (.slice Np M7.length Nq), some (.slice M4 M3.length M5), some (.agg ⟨[.int .i64 (qh ((rd MS MR).often_ + (rd MS (qh (MR + (1 : Int)))).often_)), .slice M4 M3.length M5]⟩), some (.slice Nz Nl.length NA), none, none]) 27 [(26, 27), (12, 26), (25, 26), (5, 12), (11, 12), (24, 25), (4, 5), (10, 11), (17, 24), (23, 24), (3, 4), (9, 10), (16, 17), (22, 23), (1, 3), (2, 3), (6, 9), (8, 9), (15, 16), (21, 22), (7, 8), (13, 15), (14, 15), (18, 21), (20, 21), (19, 20)] hA hcl hav hm hpre hk rfl rfl rfl rfl rfl rfl rfl
   clear hm hav
   refine jg hA hst ho hcl hav2 hmust 28 [0] rfl rfl rfl rfl rfl (by exact ⟨nM rfl, trivial⟩) fun D l a w ho hcl hav hpre hm hE hk hA hst => ?_
   have hS := (Ss.mk hE hst).env2 (e' := [(12, .slice M8 M0.length M9), (39, .slice Nz Nl.length NA)]) ⟨rfl, rfl, trivial⟩
   refine qQ rfl ?_
   obtain ⟨NZ, hM⟩ := qK hM
   refine J1 (ys := Nl) 2 hS rfl rfl NB rfl (NQ.rd (i := 0) rfl) Tryd.runUnderlying110 Tryd.runUnderlying110 X.el112 zS.len rfl Xz (Nc.room ND NZ) rfl fun Nr w Nx Ny Pc hz NR hS => ?_
   obtain ⟨N9, hzm⟩ := uh (Nj ++ ([(qb.mk (qh ((rd MS MR).often_ + (rd MS (qh (MR + (1 : Int)))).often_)) M3)] : List qb))
   replace hM := qB hzm hM
   have NE := zF.append Nc ND
   rw [← hz, ← hzm] at NE; clear hz hzm
   refine qA ?_
   replace hst := hS.st
   obtain ⟨hcl, hmust, hav2, hA⟩ := dn (vals' := [some (.slice M8 M0.length M9), some (.slice MT MU.length MX), some (.int .i64 MR), some (xI MT (Int.toNat MR * 2)), some (xI MT (Int.toNat MR * 2 + 0)), some (.int .i64 ((rd MS MR).often_)), some (.slice MT MU.length MX), some (.int .i64 MR), some (.int .i64 (qh (MR + (1 : Int)))), some (xI MT (Int.toNat (qh (MR + (1 : Int))) * 2)), some (xI MT (Int.toNat (qh (MR + (1 : Int))) * 2 + 0)), some (.int .i64 ((rd MS (qh (MR + (1 : Int)))).often_)), some (.int .i64 (qh ((rd MS MR).often_ + (rd MS (qh (MR + (1 : Int)))).often_))), some (.slice MT MU.length MX), some (.int .i64 MR), some (xI MT (Int.toNat MR * 2)), some (xI MT (Int.toNat MR * 2 + 1)), some (.slice Nf ((rd MS MR).symbols_).length Nh), some (.slice MT MU.length MX), some (.int .i64 MR), some (.int .i64 (qh (MR + (1 : Int)))), some (xI MT (Int.toNat (qh (MR + (1 : Int))) * 2)), some (xI MT (Int.toNat (qh (MR + (1 : Int))) * 2 + 1)), some (.slice Ng ((rd MS (qh (MR + (1 : Int)))).symbols_).length Ni), some (.slice Np M7.length Nq), some (.slice M4 M3.length M5), some (.agg ⟨[.int .i64 (qh ((rd MS MR).often_ + (rd MS (qh (MR + (1 : Int)))).often_)), .slice M4 M3.length M5]⟩), some (.slice Nz Nl.length NA), some (.slice Nx Nr.length Ny), some (.slice Nx Nr.length Ny)]) 28 [(0, 28), (25, 28), (27, 28), (24, 25), (26, 27), (17, 24), (23, 24), (12, 26), (16, 17), (22, 23), (5, 12), (11, 12), (15, 16), (21, 22), (4, 5), (10, 11), (13, 15), (14, 15), (18, 21), (20, 21), (3, 4), (9, 10), (19, 20), (1, 3), (2, 3), (6, 9), (8, 9), (7, 8)] hA hcl hav hm hpre hk rfl rfl rfl rfl rfl rfl rfl
   clear hm hav
   refine ym hA hst ho hcl hmust [29] rfl rfl rfl (by exact ⟨nA rfl, trivial⟩) fun a w hS => ?_
   replace hS := hS.env2 (e' := [(0, .slice MT MU.length MX), (3, .slice Nx Nr.length Ny), (4, .int .i64 MR)]) ⟨rfl, rfl, rfl, trivial⟩
   refine zy (qe ?_)
   refine zP <| sM hS rfl fun hS => sB hS rfl fun hS => zG (v := Value.int .i64) (x0 := (qh (MR + (2 : Int)))) hS (xD rfl) rfl fun Pd a w hz hS => ?_
   have hM := qB hz hM; clear hz
   refine zn <| qe ?_
   exact NO _ _ ⟨NF, Nx, Ny, Nr, N9, Pc, Pd, hS.to [1, 2] (by kernel_rfl) ⟨rfl, rfl, rfl, trivial⟩, Nk, MV, MW, NU, NR, NE, hM⟩
  ·refine wp_exit ?_
   refine qE (qE (zd (qe ?_)))
   refine qm <| sM hS rfl fun hS => sA hS rfl fun hS => qA <| wp_ret ?_
   exact zD (rs := [2]) hS rfl rfl (hret Nb M8 M9 M0 Nj Ns _ (q8 hM) Nk NB Nc (hS.st.pick [0, 1] (by kernel_rfl)))
def xR (p : qk) (x : (List qb)) (vs : List Value) : Prop :=
  ∃ (A0 : Option Addr) (c0 : Nat) (r0 : List (zS 2)), vs = [.slice A0 r0.length c0] ∧ zF (qj p) x r0 ∧ Pl p (zS.v (sz := 2)) A0 r0 ∧ r0.length ≤ c0
theorem xR.mono {p p' : qk} (hs : ∀ q ∈ p, q ∈ p') {x : (List qb)} {vs : List Value} (h : xR p x vs) : xR p' x vs := by
  obtain ⟨A0, c0, r0, h0, h1, h2, h3⟩ := h
  exact ⟨A0, c0, r0, h0, zF.mono (fun _ _ h => qj.mono hs h) h1, h2.mono hs, h3⟩
theorem yK {H : xT} {F : List qk} {w : World} {R : Ending → World → Prop} {kr : Unit → Prop} {kp : Value → Prop} (hG : Gl H) (K : Nat) (MS : Int)
    (hS : St w H [] F) (hm : (zY.m K MS).wp kr kp)
    (hret : ∀ (MW : qk) (MT : Option Addr) (MU : Nat) (MV : qk) (w : World), kr () → (xj 112 (zS.v (sz := 2)) 2 MT ([] : List (zS 2)) MU MV) → (zF (qj MW) ([] : List qb) ([] : List (zS 2))) → St w H [MW, MV] F → R (.returned (.slice MT ([] : List (zS 2)).length MU)) w)
    (hpan : ∀ v w, kp v → St w H [] F → R (.panicked [⟨v, false, false⟩]) w) :
    Calls Tryd.prog 87 ⟨[.slice none 0 0, .int .i64 MS]⟩ w R := by
 refine enter Tryd.func87 rfl Tryd.ntmps87 rfl hS fun a w hS => ?_
 have hM := hm; clear hm
 rw [zY.m] at hM
 refine qm <| sA hS rfl fun hS => ?_
 obtain ⟨MR, hS⟩ := hS.pool0
 obtain ⟨Ng, Nc, hS⟩ := hS.nilV 112 (zS.v (sz := 2)) 2
 have Nd : zF (qj MR) ([] : List qb) ([] : List (zS 2)) := zF.nil
 refine qA <| wp_seq <| qm <| sM hS rfl fun hS => sB hS rfl fun hS => qA <| qF hS rfl hM (fun M0 hM => ?_) (fun M0 hM => ?_)
 ·refine zP ?_
  refine sO hS (Lk rfl Tryd.runUnderlying9 rfl) rfl fun hS => QL hS rfl <| qD ?_
  exact ⟨hS.ev.defs, hpan _ _ (Z6 hM) hS.st.frame⟩
 ·refine wp_skip ?_
  refine qe <| wp_seq <| qm <| sM hS rfl fun hS => sM hS rfl fun hS => sO hS (DA rfl Tryd.runUnderlying110) rfl fun hS => sM hS rfl fun hS => sO hS (yk rfl Tryd.runUnderlying110) rfl fun hS => sB hS rfl fun hS => sB hS rfl fun hS => zG (v := Value.int .i64) (x0 := (qh (MS - (qh ((0 : Int) - (0 : Int)))))) hS (xD rfl) rfl fun Nf a w hz hS => ?_
  have hM := qB hz hM; clear hz
  refine qA <| qm <| sM hS rfl fun hS => sB hS rfl fun hS => qA <| qF hS rfl hM (fun M3 hM => ?_) (fun M3 hM => ?_)
  ·refine zP ?_
   refine sM hS rfl fun hS => sM hS rfl fun hS => sO hS (DA rfl Tryd.runUnderlying110) rfl fun hS => sO hS (Mu rfl Tryd.runUnderlying110 Tryd.sizeOf112 (DK rfl)) rfl fun hS => sM hS rfl fun hS => ?_
   obtain ⟨M5, hM⟩ := qK hM
   refine Ml (g := (zS.v (sz := 2))) hS rfl rfl Tryd.runUnderlying110 Tryd.runUnderlying3 X.el112 rfl rfl M5 rfl fun w M8 M9 Na MY M4 MX hS => ?_
   have M6 : zF (qj MR) ([] : List qb) ([] : List (zS 2)) := zF.nil
   refine sM hS rfl fun hS => sO hS (yk rfl Tryd.runUnderlying110) rfl fun hS => sO hS (Mt rfl Tryd.runUnderlying110 Tryd.sizeOf112 (fun _ => DK rfl) M4 MX) rfl fun hS => sA hS rfl fun hS => qA <| qm <| sM hS rfl fun hS => sA hS rfl fun hS => qA <| wp_ret ?_
   exact zD (rs := [4]) hS rfl rfl (hret MR M8 M9 Na _ (q8 hM) MY M6 (hS.st.pick [2, 0] (by kernel_rfl)))
  ·refine wp_skip ?_
   refine qe <| qm <| sM hS rfl fun hS => sA hS rfl fun hS => ?_
   obtain ⟨Nb, MZ, hS⟩ := hS.nilV 112 (zS.v (sz := 2)) 2
   have M7 : zF (qj MR) ([] : List qb) ([] : List (zS 2)) := zF.nil
   refine qA <| wp_ret ?_
   exact zD (rs := [4]) hS rfl rfl (hret MR none (0) Nb _ (q8 hM) MZ M7 (hS.st.pick [2, 0] (by kernel_rfl)))
theorem y3 {H : xT} {F : List qk} {w : World} {R : Ending → World → Prop} {kr : (List qb) → Prop} {kp : Value → Prop} (hG : Gl H) (K : Nat) (MR : List (List qb)) (MW : qk) (M3 : Option Addr) (M4 : Nat) (MU : List (zS 1)) (MT : zF (xR MW) MR MU) (MY : Pl MW (zS.v (sz := 1)) M3 MU) (NS : MU.length ≤ M4)
    (hS : St w H [MW] F) (hm : (qs.m K MR).wp kr kp)
    (hret : ∀ (Nl : qk) (Nn : Option Addr) (No : Nat) (Nb : List (zS 2)) (Nt : (List qb)) (Nq : qk) (w : World), kr Nt → (∀ q ∈ MW, q ∈ Nl) → (xj 112 (zS.v (sz := 2)) 2 Nn Nb No Nq) → (zF (qj Nl) Nt Nb) → St w H [Nl, Nq] F → R (.returned (.slice Nn Nb.length No)) w)
    (hpan : ∀ v w, kp v → St w H [] F → R (.panicked [⟨v, false, false⟩]) w) :
    Calls Tryd.prog 75 ⟨[.slice M3 MU.length M4]⟩ w R := by
 refine enter Tryd.func75 rfl Tryd.ntmps75 rfl hS fun a w hS => ?_
 have hM := hm; clear hm
 rw [qs.m] at hM
 have M9 : ∀ q ∈ MW, q ∈ MW := fun _ h => h
 refine qm <| sA hS rfl fun hS => ?_
 obtain ⟨N5, NR, hS⟩ := hS.nilV 112 (zS.v (sz := 2)) 2
 have NW : zF (qj MW) ([] : List qb) ([] : List (zS 2)) := zF.nil
 refine qA <| qm <| sA hS rfl fun hS => qA <| zm (fun a w => ∃ (MX : Int), Ss 36 [] [(0, .slice M3 MU.length M4), (3, .int .i64 MX)] H [MW] F a w ∧ (qs.j2 K MR MX).wp kr kp) (fun N1 Nv => ?_) ?_
 ·refine wp_seq ?_
  refine zP <| sM hS rfl fun hS => sO hS (qW (v' := .int .i64 (MR.length : Int)) (yk rfl Tryd.runUnderlying151) (by rw [MT.len])) rfl fun hS => sM hS rfl fun hS => qA <| xS <| zv (fun Nr a w => ∃ (MV : Int) (M0 : Int), Ss 36 [] [(0, .slice M3 MU.length M4), (3, .int .i64 MV), (9, .slice M3 MU.length M4), (10, .int .i64 (MR.length : Int)), (11, .int .i64 M0)] H [MW] F a w ∧ (qs.l1 K MR Nr MV M0).wp kr kp) K ?_ ?_ ?_
  ·exact ⟨(0 : Int), (0 : Int), hS.to [1] (by kernel_rfl) ⟨rfl, rfl, rfl, rfl, rfl, trivial⟩, hM⟩
  ·intro a w hI; obtain ⟨_, _, _, hM⟩ := hI; exact zt hM
  ·intro Nr a w hI N0 Nu
   obtain ⟨MV, M0, hS, hM⟩ := hI
   rw [qs.l1] at hM
   refine qm <| sB hS rfl fun hS => qA <| wp_seq <| qF hS rfl hM (fun Ny hM => ?_) (fun Ny hM => ?_)
   ·refine wp_skip ?_
    refine qe <| wp_seq <| xS <| wp_seq <| zP ?_
    obtain ⟨M6, hM⟩ := qK hM
    refine sO hS (yv rfl rfl Tryd.runUnderlying151 Tryd.sizeOf110 (MY.rd (i := 0) rfl) zS.len rfl (MT.inb M6)) rfl fun hS => ?_
    obtain ⟨NY, N3, NX, NF, ND, NV, NT⟩ := MT.get M6
    refine sO hS (yG rfl (MY.rd (i := 0) rfl) zS.len (MT.inb M6) (by rw [show zS.v (rd MU M0) = _ from NF]; rfl) Tryd.isAgg110) rfl fun hS => sA hS rfl fun hS => qA <| qm <| sM hS rfl fun hS => sM hS rfl fun hS => sO hS (qW (v' := .int .i64 ((rd MR M0).length : Int)) (yk rfl Tryd.runUnderlying110) (by rw [ND.len])) rfl fun hS => sB hS rfl fun hS => zG (v := Value.int .i64) (x0 := (qh (MV + ((rd MR M0).length : Int)))) hS (xD rfl) rfl fun Nm a w hz hS => ?_
    have hM := qB hz hM; clear hz
    refine qA <| qm <| sM hS rfl fun hS => sB hS rfl fun hS => qA <| qF hS rfl hM (fun Nz hM => ?_) (fun Nz hM => ?_)
    ·refine zP ?_
     refine sO hS (Lk rfl Tryd.runUnderlying9 rfl) rfl fun hS => QL hS rfl <| zQ (qD (qD (zQ (qD ?_))))
     exact ⟨hS.ev.defs, hpan _ _ (Z6 hM) hS.st.frame⟩
    ·refine wp_skip ?_
     refine zy (qe ?_)
     refine zP <| sB hS rfl fun hS => sM hS rfl fun hS => zn <| qe ?_
     exact Nu _ _ ⟨Nm, (qh (M0 + (1 : Int))), hS.to [0] (by kernel_rfl) ⟨rfl, rfl, rfl, rfl, rfl, trivial⟩, hM⟩
   ·refine wp_exit ?_
    refine qE (qE (zd (qe ?_)))
    exact Nv _ _ ⟨MV, hS.to [0] (by kernel_rfl) ⟨rfl, rfl, trivial⟩, hM⟩
 ·intro a w hI
  obtain ⟨MX, hS, hM⟩ := hI
  rw [qs.j2] at hM
  refine qm <| sM hS rfl fun hS => qJ hS rfl Tryd.call87 (yK hG K MX (hS.st.part 0 [0] (by kernel_rfl)) (qt hM) (fun NQ NK NM Np w hM NP Ng hst => qz hS.ev hst.appF rfl fun hS => ?_) (fun v w hk hst => xo (qD (⟨hS.ev.defs, hpan _ _ hk hst.appF.frame⟩))))
  replace hS : Ss _ _ _ H [NQ, Np, MW] F _ _ := hS
  replace hS := hS.front [0, 2, 1] (by kernel_rfl)
  obtain ⟨Nk, NE, Na, hS⟩ := hS.poolF
  replace Ng := zF.mono (fun _ _ h => qj.mono NE h) Ng
  replace MY := MY.mono Na
  replace MT := zF.mono (fun _ _ h => xR.mono Na h) MT
  replace M9 := fun q h => Na q (M9 q h)
  refine sA hS rfl fun hS => qA <| wp_seq <| qm <| sM hS rfl fun hS => sO hS (qW (v' := .int .i64 (MR.length : Int)) (yk rfl Tryd.runUnderlying151) (by rw [MT.len])) rfl fun hS => sM hS rfl fun hS => qA <| xS <| zv (fun Ns a w => ∃ (Nc : Option Addr) (Nd : Nat) (MZ : List (zS 2)) (MS : (List qb)) (Nf : qk) (M5 : Int), Ss 36 [] [(6, .slice Nc MZ.length Nd), (25, .slice M3 MU.length M4), (26, .int .i64 (MR.length : Int)), (27, .int .i64 M5)] H [Nk, Nf] F a w ∧ (xj 112 (zS.v (sz := 2)) 2 Nc MZ Nd Nf) ∧ (zF (qj Nk) MS MZ) ∧ (qs.l3 K MR Ns MS M5).wp kr kp) K ?_ ?_ ?_
  ·exact ⟨NK, NM, ([] : List (zS 2)), ([] : List qb), Np, (0 : Int), hS.to [0, 1] (by kernel_rfl) ⟨rfl, rfl, rfl, rfl, trivial⟩, NP, Ng, hM⟩
  ·intro a w hI; obtain ⟨_, _, _, _, _, _, _, _, _, hM⟩ := hI; exact zt hM
  ·intro Ns a w hI N2 Nw
   obtain ⟨Nc, Nd, MZ, MS, Nf, M5, hS, Nh, M8, hM⟩ := hI
   rw [qs.l3] at hM
   refine qm <| sB hS rfl fun hS => qA <| wp_seq <| qF hS rfl hM (fun NA hM => ?_) (fun NA hM => ?_)
   ·refine wp_skip ?_
    refine qe <| wp_seq <| xS <| wp_seq <| zP ?_
    obtain ⟨M7, hM⟩ := qK hM
    refine sO hS (yv rfl rfl Tryd.runUnderlying151 Tryd.sizeOf110 (MY.rd (i := 0) rfl) zS.len rfl (MT.inb M7)) rfl fun hS => ?_
    obtain ⟨NZ, N4, NH, NG, Ni, NC, NU⟩ := MT.get M7
    refine sO hS (yG rfl (MY.rd (i := 0) rfl) zS.len (MT.inb M7) (by rw [show zS.v (rd MU M5) = _ from NG]; rfl) Tryd.isAgg110) rfl fun hS => sA hS rfl fun hS => qA <| zP <| sM hS rfl fun hS => sM hS rfl fun hS => ?_
    obtain ⟨NB, hM⟩ := qK hM
    refine J1 (ys := NH) 1 hS rfl rfl Nh rfl (NC.rd (i := 0) rfl) Tryd.runUnderlying110 Tryd.runUnderlying110 X.el112 zS.len rfl Xz (M8.room Ni NB) rfl fun NI w NL NN NO hz Nx hS => ?_
    obtain ⟨NJ, hzm⟩ := uh (MS ++ (rd MR M5))
    replace hM := qB hzm hM
    have Nj := zF.append M8 Ni
    rw [← hz, ← hzm] at Nj; clear hz hzm
    refine sA hS rfl fun hS => zn <| zy (qe ?_)
    refine zP <| sB hS rfl fun hS => sM hS rfl fun hS => zn <| qe ?_
    exact Nw _ _ ⟨NL, NN, NI, NJ, NO, (qh (M5 + (1 : Int))), hS.to [0, 1] (by kernel_rfl) ⟨rfl, rfl, rfl, rfl, trivial⟩, Nx, Nj, hM⟩
   ·refine wp_exit ?_
    refine qE (qE (zd (qe ?_)))
    refine qm <| sM hS rfl fun hS => sA hS rfl fun hS => qA <| wp_ret ?_
    exact zD (rs := [2]) hS rfl rfl (hret Nk Nc Nd MZ MS Nf _ (q8 hM) M9 Nh M8 (hS.st.pick [0, 1] (by kernel_rfl)))
end Go.TrydS

set_option maxRecDepth 100000
namespace Go.TrydS
open Go Go.Sl Go.Mo Go.Proofs
attribute [local irreducible] qN.wp
theorem YE {H : xT} {F : List qk} {w : World} {R : Ending → World → Prop} {kr : (List qb) → Prop} {kp : Value → Prop} (hG : Gl H) (K : Nat) (M6 : List qb) (M7 : List qb) (MR : qk) (Nb : Option Addr) (Nd : Nat) (MT : List (zS 2)) (Nc : Option Addr) (Nf : Nat) (MU : List (zS 2)) (M0 : zF (qj MR) M6 MT) (MY : Pl MR (zS.v (sz := 2)) Nb MT) (Nu : MT.length ≤ Nd) (M3 : zF (qj MR) M7 MU) (MZ : Pl MR (zS.v (sz := 2)) Nc MU) (Nv : MU.length ≤ Nf)
    (hS : St w H [MR] F) (hm : (yY.m K M6 M7).wp kr kp)
    (hret : ∀ (Nm : qk) (Nn : Option Addr) (No : Nat) (Ni : List (zS 2)) (Nt : (List qb)) (Ns : qk) (w : World), kr Nt → (∀ q ∈ MR, q ∈ Nm) → (xj 112 (zS.v (sz := 2)) 2 Nn Ni No Ns) → (zF (qj Nm) Nt Ni) → St w H [Nm, Ns] F → R (.returned (.slice Nn Ni.length No)) w)
    (hpan : ∀ v w, kp v → St w H [] F → R (.panicked [⟨v, false, false⟩]) w) :
    Calls Tryd.prog 58 ⟨[.slice Nb MT.length Nd, .slice Nc MU.length Nf]⟩ w R := by
 refine enter Tryd.func58 rfl Tryd.ntmps58 rfl hS fun a w hS => ?_
 have hM := hm; clear hm
 rw [yY.m] at hM
 have M5 : ∀ q ∈ MR, q ∈ MR := fun _ h => h
 refine qm <| sA hS rfl fun hS => ?_
 obtain ⟨Np, NH, hS⟩ := hS.nilV 112 (zS.v (sz := 2)) 2
 have M8 : zF (qj MR) ([] : List qb) ([] : List (zS 2)) := zF.nil
 refine qA <| qm <| sM hS rfl fun hS => sM hS rfl fun hS => ?_
 obtain ⟨Nh, hrw⟩ : ∃ r, r = ([(⟨[.slice Nb MT.length Nd], by simp, by simp [Value.oneCell']⟩ : zS 1), (⟨[.slice Nc MU.length Nf], by simp, by simp [Value.oneCell']⟩ : zS 1)] : List (zS 1)) := ⟨_, rfl⟩
 have M4 : zF (xR MR) ([M6, M7] : List (List qb)) Nh := by rw [hrw]; exact (zF.cons (show xR MR _ _ from ⟨Nb, Nd, MT, rfl, M0, MY, Nu⟩) (zF.cons (show xR MR _ _ from ⟨Nc, Nf, MU, rfl, M3, MZ, Nv⟩) zF.nil))
 refine J2 (g := (zS.v (sz := 1))) Nh [.slice Nb MT.length Nd, .slice Nc MU.length Nf] hS Tryd.runUnderlying151 Tryd.sizeOf110 X.el110 rfl rfl rfl (by simp [Value.cells]) (by rw [hrw]; rfl) (by rw [hrw]; rfl) rfl rfl rfl fun w Ny Nz NI Nl hS => ?_
 clear hrw
 replace hS := hS.front [0, 2, 1] (by kernel_rfl)
 obtain ⟨NE, Nx, MS, hS⟩ := hS.poolF
 have Nw := Nl.cap zS.len rfl
 have Ng := Nl.pl.mono Nx
 replace MY := MY.mono MS
 replace MZ := MZ.mono MS
 replace M0 := zF.mono (fun _ _ h => qj.mono MS h) M0
 replace M3 := zF.mono (fun _ _ h => qj.mono MS h) M3
 replace M8 := zF.mono (fun _ _ h => qj.mono MS h) M8
 replace M4 := zF.mono (fun _ _ h => xR.mono MS h) M4
 replace M5 := fun q h => MS q (M5 q h)
 refine qJ hS rfl Tryd.call75 (y3 hG K ([M6, M7] : List (List qb)) NE Ny Nz Nh M4 Ng Nw (hS.st.part 1 [0, 1] (by kernel_rfl)) (qt hM) (fun Nj MV MW M9 NF Nq w hM MX NA NB hst => qz hS.ev hst.appF rfl fun hS => ?_) (fun v w hk hst => xo (qD (⟨hS.ev.defs, hpan _ _ hk hst.appF.frame⟩))))
 replace hS : Ss _ _ _ H [Nj, Nq, Np] F _ _ := hS
 replace MY := MY.mono MX
 replace MZ := MZ.mono MX
 replace Ng := Ng.mono MX
 replace M0 := zF.mono (fun _ _ h => qj.mono MX h) M0
 replace M3 := zF.mono (fun _ _ h => qj.mono MX h) M3
 replace M8 := zF.mono (fun _ _ h => qj.mono MX h) M8
 replace M4 := zF.mono (fun _ _ h => xR.mono MX h) M4
 replace M5 := fun q h => MX q (M5 q h)
 refine sA hS rfl fun hS => qA <| qm <| sM hS rfl fun hS => qJ hS rfl Tryd.call55 (xw 76 (.inr rfl) hG K NF Nj MV MW M9 Nq NB NA (hS.st.part 2 [0, 1, 2] (by kernel_rfl)) (qt hM) (fun Na NG Nr w hM NC ND Nk hst => qz hS.ev hst.appF rfl fun hS => ?_))
 replace hS : Ss _ _ _ H [Nj, Nr, Np] F _ _ := hS
 replace hS := hS.re 5 (u := .slice MV M9.length MW) (v := .slice MV Na.length MW) rfl (by rw [Nk])
 replace hS := hS.re 9 (u := .slice MV M9.length MW) (v := .slice MV Na.length MW) rfl (by rw [Nk])
 replace hS := hS.re 10 (u := .slice MV M9.length MW) (v := .slice MV Na.length MW) rfl (by rw [Nk])
 refine qA <| qm <| sM hS rfl fun hS => sA hS rfl fun hS => qA <| wp_ret ?_
 exact zD (rs := [4]) hS rfl rfl (hret Nj MV MW Na NG Nr _ (q8 hM) M5 NC ND (hS.st.pick [0, 1] (by kernel_rfl)))
theorem Qp {H : xT} {F : List qk} {w : World} {R : Ending → World → Prop} {kr : ((List Int) × Int) → Prop} {kp : Value → Prop} (hG : Gl H) (K : Nat) (MR : List Int) (MS : Int) (Np : Option Addr) (Nq : Nat) (NT : jT H [] F (ci .i64) Np MR) (Sd : MR.length ≤ Nq)
    (hS : St w H [] F) (hm : (qy.m K MR MS).wp kr kp)
    (hret : ∀ (PD : Option Addr) (PF : Nat) (PB : (List Int)) (PG : qk) (PP : Int) (w : World), kr (PB, PP) → (xj 3 (ci .i64) 1 PD PB PF PG) → St w H [PG] F → R (.returned (.tuple ⟨[.slice PD PB.length PF, .int .i64 PP]⟩)) w)
    (hpan : ∀ v w, kp v → St w H [] F → R (.panicked [⟨v, false, false⟩]) w) :
    Calls Tryd.prog 38 ⟨[.slice Np MR.length Nq, .int .i64 MS]⟩ w R := by
 refine enter Tryd.func38 rfl Tryd.ntmps38 rfl hS fun a w hS => ?_
 have hM := hm; clear hm
 rw [qy.m] at hM
 refine qm <| sA hS rfl fun hS => ?_
 obtain ⟨SM, S7, hS⟩ := hS.nilV 3 (ci .i64) 1
 refine sA hS rfl fun hS => qA <| wp_seq <| qm <| sM hS rfl fun hS => sB hS rfl fun hS => sM hS rfl fun hS => yJ 2 false 17 (b := (decide (MS < (1 : Int)))) (r := (decide (MS > (15 : Int)))) hS rfl rfl rfl rfl rfl rfl rfl (fun hb a w hS K hK => ?_) rfl fun a w hS => ?_
 ·refine zW hS rfl rfl rfl hb (mv rfl) rfl fun a w hS => ?_
  refine zW hS rfl rfl rfl hb (js rfl rfl rfl) rfl fun a w hS => ?_
  exact zn (hK _ _ (hS.up 2 rfl rfl))
 refine sM hS rfl fun hS => yJ 3 false 21 (b := ((decide (MS < (1 : Int))) || (decide (MS > (15 : Int))))) (r := (decide ((MR.length : Int) > (320 : Int)))) hS rfl rfl rfl rfl rfl rfl rfl (fun hb a w hS K hK => ?_) rfl fun a w hS => ?_
 ·refine zW hS rfl rfl rfl hb (mv rfl) rfl fun a w hS => ?_
  refine zW hS rfl rfl rfl hb (yk rfl Tryd.runUnderlying66) rfl fun a w hS => zW hS rfl rfl rfl hb (js rfl rfl rfl) rfl fun a w hS => ?_
  exact zn (hK _ _ (hS.up 3 rfl rfl))
 refine sM hS rfl fun hS => VY (fun a w => ∃ (PA : Bool), Ss 109 [] [(0, .slice Np MR.length Nq), (1, .int .i64 MS), (29, .bool PA)] H [] F a w ∧ (qy.j1 K MR MS PA).wp kr kp) 3 (fun Tg N9 => ?_) ?_
 ·refine Li (b := (((decide (MS < (1 : Int))) || (decide (MS > (15 : Int)))) || (decide ((MR.length : Int) > (320 : Int))))) hM (fun Nt hM => ?_) (fun Nt hM => ?_)
  ·replace hS := hS.re 25 (v := .bool true) rfl (congrArg Value.bool Nt)
   replace hS := hS.re 26 (v := .bool true) rfl (congrArg Value.bool Nt)
   refine GE 2 hS rfl fun a w hS => sO hS (pk rfl rfl rfl) rfl fun hS => zn <| qe ?_
   exact N9 _ _ ⟨true, hS.to [] (by kernel_rfl) ⟨rfl, rfl, rfl, trivial⟩, hM⟩
  ·replace hS := hS.re 25 (v := .bool false) rfl (congrArg Value.bool Nt)
   replace hS := hS.re 26 (v := .bool false) rfl (congrArg Value.bool Nt)
   refine zW hS rfl rfl rfl rfl (mv rfl) rfl fun a w hS => J0 hS rfl rfl rfl rfl <| qJ hS rfl Tryd.call53 (jq hG K MR Np Nq (NT.app _) Sd (hS.st.part 0 [0] (by kernel_rfl)) (qt hM) (fun S4 w hM  hst => qz hS.ev hst.appF rfl fun hS => ?_))
   replace hS : Ss _ _ _ H [SM] F _ _ := hS
   refine sO hS (pk rfl rfl rfl) rfl fun hS => zn <| qe ?_
   exact N9 _ _ ⟨S4, hS.to [] (by kernel_rfl) ⟨rfl, rfl, rfl, trivial⟩, hM⟩
 ·intro a w hI
  obtain ⟨PA, hS, hM⟩ := hI
  rw [qy.j1] at hM
  refine qA <| qF hS rfl hM (fun P4 hM => ?_) (fun P4 hM => ?_)
  ·refine wp_seq ?_
   refine zP <| sA hS rfl fun hS => ?_
   obtain ⟨SN, PX, hS⟩ := hS.nilV 3 (ci .i64) 1
   refine sA hS rfl fun hS => qA <| wp_ret <| zl ?_
   exact zD (rs := [4, 5]) hS rfl rfl (hret none (0) ([] : List Int) SN (1 : Int) _ (q8 hM) PX (hS.st.pick [0] (by kernel_rfl)))
  ·refine wp_skip ?_
   refine qe <| qm <| sA hS rfl fun hS => ?_
   obtain ⟨PO, hS⟩ := hS.pool0
   obtain ⟨SO, PY, hS⟩ := hS.nilV 112 (zS.v (sz := 2)) 2
   have Sp : zF (qj PO) ([] : List qb) ([] : List (zS 2)) := zF.nil
   refine qA <| zm (fun a w => ∃ (NA : qk) (M0 : Option Addr) (M3 : Nat) (M9 : List (zS 2)) (MT : (List qb)) (NL : qk), Ss 109 [] [(0, .slice Np MR.length Nq), (1, .int .i64 MS), (6, .slice M0 M9.length M3)] H [NA, NL] F a w ∧ (xj 112 (zS.v (sz := 2)) 2 M0 M9 M3 NL) ∧ (zF (qj NA) MT M9) ∧ (qy.j3 K MR MS MT).wp kr kp) (fun Ti PS => ?_) ?_
   ·refine wp_seq ?_
    refine zP <| sM hS rfl fun hS => sO hS (yk rfl Tryd.runUnderlying66) rfl fun hS => sM hS rfl fun hS => qA <| xS <| zv (fun PL a w => ∃ (NN : qk) (NG : Option Addr) (NI : Nat) (Nl : List (zS 2)) (MX : (List qb)) (NK : qk) (Na : Int), Ss 109 [] [(0, .slice Np MR.length Nq), (1, .int .i64 MS), (6, .slice NG Nl.length NI), (30, .slice Np MR.length Nq), (31, .int .i64 (MR.length : Int)), (32, .int .i64 Na)] H [NN, NK] F a w ∧ (xj 112 (zS.v (sz := 2)) 2 NG Nl NI NK) ∧ (zF (qj NN) MX Nl) ∧ (qy.l2 K MR MS PL MX Na).wp kr kp) K ?_ ?_ ?_
    ·exact ⟨PO, none, 0, ([] : List (zS 2)), ([] : List qb), SO, (0 : Int), hS.to [1, 0] (by kernel_rfl) ⟨rfl, rfl, rfl, rfl, rfl, rfl, trivial⟩, PY, Sp, hM⟩
    ·intro a w hI; obtain ⟨_, _, _, _, _, _, _, _, _, _, hM⟩ := hI; exact zt hM
    ·intro PL a w hI Th Pa
     obtain ⟨NN, NG, NI, Nl, MX, NK, Na, hS, NP, Nk, hM⟩ := hI
     rw [qy.l2] at hM
     refine qm <| sB hS rfl fun hS => qA <| wp_seq <| qF hS rfl hM (fun P5 hM => ?_) (fun P5 hM => ?_)
     ·refine wp_skip ?_
      refine qe <| wp_seq <| xS <| qm <| sM hS rfl fun hS => ?_
      obtain ⟨Pi, hM⟩ := qK hM
      refine sO hS (yv rfl rfl Tryd.runUnderlying66 Tryd.sizeOf3 NT.wk (fun _ => rfl) rfl Pi) rfl fun hS => sO hS (yG rfl NT.wk (fun _ => rfl) Pi rfl Tryd.isAgg3) rfl fun hS => sA hS rfl fun hS => zG (v := Value.int .i64) (x0 := (rd MR Na)) hS (xD rfl) rfl fun Nx a w hz hS => ?_
      have hM := qB hz hM; clear hz
      refine qA <| qm <| sM hS rfl fun hS => sB hS rfl fun hS => qA <| qF hS rfl hM (fun P6 hM => ?_) (fun P6 hM => ?_)
      ·refine zP ?_
       refine sM hS rfl fun hS => sM hS rfl fun hS => sM hS rfl fun hS => J2 (g := (ci .i64)) ([Na] : List Int) [.int .i64 Na] hS Tryd.runUnderlying66 Tryd.sizeOf3 X.el3 rfl rfl rfl (by simp [Value.cells]) rfl rfl rfl rfl rfl fun w NX NY Tr Pc hS => sO hS (Xr ([.int .i64 Nx, .slice NX ([Na] : List Int).length NY]) [(0, 1), (1, 1)] Tryd.zeroValue112 Tryd.runUnderlying112 (by intro w; simp [Tryd.sizeOf3, Tryd.sizeOf66]) rfl rfl) rfl fun hS => ?_
       replace hS := hS.front [0, 1, 2] (by kernel_rfl)
       obtain ⟨Px, Sr, Su, hS⟩ := hS.poolF
       have Se := Pc.cap (fun _ => rfl) rfl
       have Sn := Pc.pl.mono Sr
       replace Nk := zF.mono (fun _ _ h => qj.mono Su h) Nk
       obtain ⟨NV, hrw⟩ : ∃ r, r = ([(⟨[.int .i64 Nx, .slice NX ([Na] : List Int).length NY], by simp, by simp [Value.oneCell']⟩ : zS 2)] : List (zS 2)) := ⟨_, rfl⟩
       have Pr : zF (qj Px) ([(qb.mk Nx ([Na] : List Int))] : List qb) NV := by rw [hrw]; exact (zF.cons (show qj Px _ _ from ⟨NX, NY, rfl, Sn, Se⟩) zF.nil)
       refine J2 (g := (zS.v (sz := 2))) NV [.agg ⟨[.int .i64 Nx, .slice NX ([Na] : List Int).length NY]⟩] hS Tryd.runUnderlying110 Tryd.sizeOf112 X.el112 rfl rfl rfl (by simp [Value.cells]) (by rw [hrw]; rfl) (by rw [hrw]; rfl) rfl rfl rfl fun w Te Tp Ts PZ hS => ?_
       clear hrw
       obtain ⟨Si, hM⟩ := qK hM
       refine J1 (ys := NV) 2 hS rfl rfl NP rfl (PZ.rd (i := 0) rfl) Tryd.runUnderlying110 Tryd.runUnderlying110 X.el112 zS.len rfl Xz (Nk.room Pr Si) rfl fun SB w SG SJ SP hz P0 hS => ?_
       obtain ⟨SE, hzm⟩ := uh (MX ++ ([(qb.mk Nx ([Na] : List Int))] : List qb))
       replace hM := qB hzm hM
       have Ps := zF.append Nk Pr
       rw [← hz, ← hzm] at Ps; clear hz hzm
       refine sA hS rfl fun hS => zn <| zy (qe ?_)
       refine zP <| sB hS rfl fun hS => sM hS rfl fun hS => zn <| qe ?_
       exact Pa _ _ ⟨Px, SG, SJ, SB, SE, SP, (qh (Na + (1 : Int))), hS.to [1, 2] (by kernel_rfl) ⟨rfl, rfl, rfl, rfl, rfl, rfl, trivial⟩, P0, Ps, hM⟩
      ·refine wp_skip ?_
       refine zy (qe ?_)
       refine zP <| sB hS rfl fun hS => sM hS rfl fun hS => zn <| qe ?_
       exact Pa _ _ ⟨NN, NG, NI, Nl, MX, NK, (qh (Na + (1 : Int))), hS.to [0, 1] (by kernel_rfl) ⟨rfl, rfl, rfl, rfl, rfl, rfl, trivial⟩, NP, Nk, hM⟩
     ·refine wp_exit ?_
      refine qE (qE (zd (qe ?_)))
      exact PS _ _ ⟨NN, NG, NI, Nl, MX, NK, hS.to [0, 1] (by kernel_rfl) ⟨rfl, rfl, rfl, trivial⟩, NP, Nk, hM⟩
   ·intro a w hI
    obtain ⟨NA, M0, M3, M9, MT, NL, hS, NB, Nc, hM⟩ := hI
    rw [qy.j3] at hM
    refine wp_seq <| qm <| sM hS rfl fun hS => sO hS (qW (v' := .int .i64 (MT.length : Int)) (yk rfl Tryd.runUnderlying110) (by rw [Nc.len])) rfl fun hS => sM hS rfl fun hS => ?_
    obtain ⟨Sj, hM⟩ := qK hM
    refine sO hS (shl rfl rfl Sj) rfl fun hS => sB hS rfl fun hS => qA <| qF hS rfl hM (fun P7 hM => ?_) (fun P7 hM => ?_)
    ·refine wp_seq ?_
     refine zP <| sA hS rfl fun hS => ?_
     obtain ⟨SQ, P1, hS⟩ := hS.nilV 3 (ci .i64) 1
     refine sA hS rfl fun hS => qA <| wp_ret <| zl ?_
     exact zD (rs := [4, 5]) hS rfl rfl (hret none (0) ([] : List Int) SQ (1 : Int) _ (q8 hM) P1 (hS.st.pick [0] (by kernel_rfl)))
    ·refine wp_skip ?_
     refine qe <| qm <| sM hS rfl fun hS => sO hS (yk rfl Tryd.runUnderlying66) rfl fun hS => ?_
     obtain ⟨Sk, hM⟩ := qK hM
     refine Dw (g := (ci .i64)) (m := (MR.length : Int)) (0 : Int) hS rfl rfl (by simp) Tryd.runUnderlying66 X.el3 (fun w => ⟨_, Tryd.zeroValue3 w, rfl⟩) (fun _ => rfl) rfl rfl Sk rfl fun NE w MU MV SR hz NQ hS => ?_
     have hM := qB hz hM; clear hz
     refine sA hS rfl fun hS => qA <| zm (fun a w => ∃ (MZ : (List Int)) (Nf : qk), Ss 109 [] [(1, .int .i64 MS), (6, .slice M0 M9.length M3), (9, .slice MU MZ.length MV)] H [NA, NL, Nf] F a w ∧ (xj 3 (ci .i64) 1 MU MZ MV Nf) ∧ (qy.j4 K MS MT MZ).wp kr kp) (fun Tj Pb => ?_) ?_
     ·refine wp_seq ?_
      refine zP <| sM hS rfl fun hS => sO hS (qW (v' := .int .i64 (MT.length : Int)) (yk rfl Tryd.runUnderlying110) (by rw [Nc.len])) rfl fun hS => sB hS rfl fun hS => qA <| qF hS rfl hM (fun P8 hM => ?_) (fun P8 hM => ?_)
      ·refine zP ?_
       refine sM hS rfl fun hS => sM hS rfl fun hS => ?_
       obtain ⟨NC, hM⟩ := qK hM
       refine sO hS (yv rfl rfl Tryd.runUnderlying110 Tryd.sizeOf112 (NB.rd (i := 2) rfl) zS.len rfl (Nc.inb NC)) rfl fun hS => sO hS (Jx rfl (NB.rd (i := 2) rfl) zS.len rfl (Nc.inb NC) Tryd.runUnderlying112 rfl Tryd.sizeOf66 rfl) rfl fun hS => ?_
       obtain ⟨Tf, Tq, Sz, Pn, S9⟩ := Nc.get NC
       refine sO hS (Dv 1 rfl (NB.rd (i := 2) rfl) zS.len (Nc.inb NC) (by rw [show zS.v (rd M9 (0 : Int)) = _ from Sz]; rfl) Tryd.isAgg66) rfl fun hS => ?_
       obtain ⟨Pj, hM⟩ := qK hM
       refine sO hS (yv rfl rfl Tryd.runUnderlying66 Tryd.sizeOf3 (Pn.rd (i := 1) rfl) (fun _ => rfl) rfl Pj) rfl fun hS => sO hS (yG rfl (Pn.rd (i := 1) rfl) (fun _ => rfl) Pj rfl Tryd.isAgg3) rfl fun hS => ?_
       obtain ⟨Pk, hM⟩ := qK hM
       refine sO hS (yv rfl rfl Tryd.runUnderlying66 Tryd.sizeOf3 (NQ.rd (i := 0) rfl) (fun _ => rfl) rfl Pk) rfl fun hS => J4 (i := (rd ((rd MT (0 : Int)).symbols_) (0 : Int))) (sz := 1) 0 0 ((1 : Int)) hS rfl rfl NQ rfl Tryd.sizeOf3 (xJ (1 : Int)) (fun _ => rfl) Pk rfl rfl fun NF w ST hz NU P2 hS => ?_
       have hM := qB hz hM; clear hz
       replace hS := hS.re 9 (u := .slice MU NE.length MV) (v := .slice MU NF.length MV) rfl (by rw [NU])
       replace hS := hS.re 54 (u := .slice MU NE.length MV) (v := .slice MU NF.length MV) rfl (by rw [NU])
       replace hS := hS.re 58 (u := .slice MU NE.length MV) (v := .slice MU NF.length MV) rfl (by rw [NU])
       refine zn <| qe ?_
       exact Pb _ _ ⟨NF, ST, hS.to [1, 2, 0] (by kernel_rfl) ⟨rfl, rfl, rfl, trivial⟩, P2, hM⟩
      ·refine wp_skip ?_
       refine qe ?_
       exact Pb _ _ ⟨NE, SR, hS.to [1, 2, 0] (by kernel_rfl) ⟨rfl, rfl, rfl, trivial⟩, NQ, hM⟩
     ·intro a w hI
      obtain ⟨MZ, Nf, hS, Pd, hM⟩ := hI
      rw [qy.j4] at hM
      refine wp_seq <| qm <| sM hS rfl fun hS => sO hS (qW (v' := .int .i64 (MT.length : Int)) (yk rfl Tryd.runUnderlying110) (by rw [Nc.len])) rfl fun hS => sB hS rfl fun hS => qA <| qF hS rfl hM (fun P9 hM => ?_) (fun P9 hM => ?_)
      ·refine wp_seq ?_
       refine zP <| sM hS rfl fun hS => sA hS rfl fun hS => sA hS rfl fun hS => qA <| wp_ret <| zl ?_
       exact zD (rs := [4, 5]) hS rfl rfl (hret MU MV MZ Nf (0 : Int) _ (q8 hM) Pd (hS.st.pick [2] (by kernel_rfl)))
      ·refine wp_skip ?_
       refine qe <| qm <| sM hS rfl fun hS => qJ hS rfl Tryd.call55 (xw 56 (.inl rfl) hG K MT NA M0 M3 M9 NL Nc NB (hS.st.part 2 [0, 1, 2] (by kernel_rfl)) (qt hM) (fun MW Ng SU w hM PH N0 N7 hst => qz hS.ev hst.appF rfl fun hS => ?_))
       replace hS : Ss _ _ _ H [NA, SU, Nf] F _ _ := hS
       replace hS := hS.re 6 (u := .slice M0 M9.length M3) (v := .slice M0 MW.length M3) rfl (by rw [N7])
       replace hS := hS.re 66 (u := .slice M0 M9.length M3) (v := .slice M0 MW.length M3) rfl (by rw [N7])
       replace hS := hS.re 70 (u := .slice M0 M9.length M3) (v := .slice M0 MW.length M3) rfl (by rw [N7])
       refine qA <| qm <| sM hS rfl fun hS => sA hS rfl fun hS => qA <| zm (fun a w => ∃ (Nn : qk) (N3 : Option Addr) (N5 : Nat) (Ny : List (zS 2)) (No : (List qb)), Ss 109 [] [(6, .slice M0 MW.length M3), (9, .slice MU MZ.length MV), (10, .slice N3 Ny.length N5)] H [Nn, Nf] F a w ∧ (zF (qj Nn) Ng MW) ∧ (Pl Nn (zS.v (sz := 2)) M0 MW) ∧ (MW.length ≤ M3) ∧ (zF (qj Nn) No Ny) ∧ (Pl Nn (zS.v (sz := 2)) N3 Ny) ∧ (Ny.length ≤ N5) ∧ (qy.j6 K MZ Ng No).wp kr kp) (fun Tl PU => ?_) ?_
       ·refine wp_seq ?_
        refine zP <| sM hS rfl fun hS => sB hS rfl fun hS => sM hS rfl fun hS => qA <| xS <| zv (fun PM a w => ∃ (Nm : qk) (NH : Option Addr) (NJ : Nat) (Ni : List (zS 2)) (Nj : (List qb)) (N2 : Int), Ss 109 [] [(6, .slice M0 MW.length M3), (9, .slice MU MZ.length MV), (10, .slice NH Ni.length NJ), (74, .int .i64 (qh (MS - (1 : Int)))), (75, .int .i64 N2)] H [Nm, Nf] F a w ∧ (zF (qj Nm) Ng MW) ∧ (Pl Nm (zS.v (sz := 2)) M0 MW) ∧ (MW.length ≤ M3) ∧ (zF (qj Nm) Nj Ni) ∧ (Pl Nm (zS.v (sz := 2)) NH Ni) ∧ (Ni.length ≤ NJ) ∧ (qy.l5 K MS MZ Ng PM Nj N2).wp kr kp) K ?_ ?_ ?_
        ·replace hS := hS.front [1, 0, 2] (by kernel_rfl)
         obtain ⟨S2, Sw, Sx, hS⟩ := hS.poolF
         have Pg := PH.cap zS.len rfl
         have Po := PH.pl.mono Sw
         replace N0 := zF.mono (fun _ _ h => qj.mono Sx h) N0
         exact ⟨S2, M0, M3, MW, Ng, (0 : Int), hS.to [0, 1] (by kernel_rfl) ⟨rfl, rfl, rfl, rfl, rfl, trivial⟩, N0, Po, Pg, N0, Po, Pg, hM⟩
        ·intro a w hI; obtain ⟨_, _, _, _, _, _, _, _, _, _, _, _, _, hM⟩ := hI; exact zt hM
        ·intro PM a w hI Tk PT
         obtain ⟨Nm, NH, NJ, Ni, Nj, N2, hS, M6, M5, NR, M8, M7, Pf, hM⟩ := hI
         rw [qy.l5] at hM
         refine qm <| sB hS rfl fun hS => qA <| wp_seq <| qF hS rfl hM (fun Sa hM => ?_) (fun Sa hM => ?_)
         ·refine wp_skip ?_
          refine qe <| wp_seq <| xS <| zP <| sM hS rfl fun hS => sM hS rfl fun hS => qJ hS rfl Tryd.call59 (JD hG K Nj Nm NH NJ Ni M8 M7 Pf (hS.st.part 1 [0, 1] (by kernel_rfl)) (qt hM) (fun SY SH SK SC S5 SV w hM N1 PI Nr hst => qz hS.ev hst.appF rfl fun hS => ?_) (fun v w hk hst => xo (zQ (qD (qD (zQ (qD (⟨hS.ev.defs, hpan _ _ hk hst.appF.frame⟩))))))))
          replace hS : Ss _ _ _ H [SY, SV, Nf] F _ _ := hS
          replace M5 := M5.mono N1
          replace M7 := M7.mono N1
          replace M6 := zF.mono (fun _ _ h => qj.mono N1 h) M6
          replace M8 := zF.mono (fun _ _ h => qj.mono N1 h) M8
          replace hS := hS.front [1, 0, 2] (by kernel_rfl)
          obtain ⟨SZ, Sv, Nw, hS⟩ := hS.poolF
          have Sf := PI.cap zS.len rfl
          have Nu := PI.pl.mono Sv
          replace Nr := zF.mono (fun _ _ h => qj.mono Nw h) Nr
          replace M5 := M5.mono Nw
          replace M7 := M7.mono Nw
          replace M6 := zF.mono (fun _ _ h => qj.mono Nw h) M6
          replace M8 := zF.mono (fun _ _ h => qj.mono Nw h) M8
          refine qJ hS rfl Tryd.call58 (YE hG K Ng S5 SZ M0 M3 MW SH SK SC M6 M5 NR Nr Nu Sf (hS.st.part 1 [0, 1] (by kernel_rfl)) (qt hM) (fun S1 SI SL SD S6 SW w hM Nz PJ N8 hst => qz hS.ev hst.appF rfl fun hS => ?_) (fun v w hk hst => xo (zQ (qD (qD (zQ (qD (⟨hS.ev.defs, hpan _ _ hk hst.appF.frame⟩))))))))
          replace hS : Ss _ _ _ H [S1, SW, Nf] F _ _ := hS
          replace Nr := zF.mono (fun _ _ h => qj.mono Nz h) Nr
          replace M5 := M5.mono Nz
          replace M7 := M7.mono Nz
          replace Nu := Nu.mono Nz
          replace M6 := zF.mono (fun _ _ h => qj.mono Nz h) M6
          replace M8 := zF.mono (fun _ _ h => qj.mono Nz h) M8
          refine sA hS rfl fun hS => zn <| zy (qe ?_)
          refine zP <| sB hS rfl fun hS => sM hS rfl fun hS => zn <| qe ?_
          replace hS := hS.front [1, 0, 2] (by kernel_rfl)
          obtain ⟨S3, Sy, Nh, hS⟩ := hS.poolF
          have Sg := PJ.cap zS.len rfl
          have So := PJ.pl.mono Sy
          replace Nr := zF.mono (fun _ _ h => qj.mono Nh h) Nr
          replace N8 := zF.mono (fun _ _ h => qj.mono Nh h) N8
          replace M5 := M5.mono Nh
          replace M7 := M7.mono Nh
          replace Nu := Nu.mono Nh
          replace M6 := zF.mono (fun _ _ h => qj.mono Nh h) M6
          replace M8 := zF.mono (fun _ _ h => qj.mono Nh h) M8
          exact PT _ _ ⟨S3, SI, SL, SD, S6, (qh (N2 + (1 : Int))), hS.to [0, 1] (by kernel_rfl) ⟨rfl, rfl, rfl, rfl, rfl, trivial⟩, M6, M5, NR, N8, So, Sg, hM⟩
         ·refine wp_exit ?_
          refine qE (qE (zd (qe ?_)))
          exact PU _ _ ⟨Nm, NH, NJ, Ni, Nj, hS.to [0, 1] (by kernel_rfl) ⟨rfl, rfl, rfl, trivial⟩, M6, M5, NR, M8, M7, Pf, hM⟩
       ·intro a w hI
        obtain ⟨Nn, N3, N5, Ny, No, hS, Sq, Td, Ta, Pt, Pp, Sh, hM⟩ := hI
        rw [qy.j6] at hM
        refine wp_seq <| qm <| sM hS rfl fun hS => sM hS rfl fun hS => sO hS (qW (v' := .int .i64 (Ng.length : Int)) (yk rfl Tryd.runUnderlying110) (by rw [Sq.len])) rfl fun hS => sB hS rfl fun hS => sB hS rfl fun hS => ?_
        obtain ⟨Sm, hM⟩ := qK hM
        refine Mh (g := (zS.v (sz := 2))) hS rfl Tryd.runUnderlying110 Tryd.sizeOf112 Lj (DK rfl) zS.len Sh (Pt.subok Sm) rfl fun Py PC PE a w hz Ph Tb hS => ?_
        obtain ⟨MY, hzm⟩ := uh (sub No (0 : Int) (qh ((qh ((2 : Int) * (Ng.length : Int))) - (2 : Int))))
        replace hM := qB hzm hM
        have Nv := Pt.sub (0 : Int) (qh ((qh ((2 : Int) * (Ng.length : Int))) - (2 : Int))) (qh ((qh ((2 : Int) * (Ng.length : Int))) - (2 : Int))) rfl
        rw [← hz, ← hzm] at Nv; clear hz hzm
        refine sO hS (qW (v' := .int .i64 (MY.length : Int)) (yk rfl Tryd.runUnderlying110) (by rw [Nv.len])) rfl fun hS => sM hS rfl fun hS => qA <| xS <| zv (fun Pw a w => ∃ (Nd : (List Int)) (NM : qk) (Nb : Int), Ss 109 [] [(9, .slice MU Nd.length MV), (87, .slice PC Py.length PE), (88, .int .i64 (MY.length : Int)), (89, .int .i64 Nb)] H [NM, Nn] F a w ∧ (xj 3 (ci .i64) 1 MU Nd MV NM) ∧ (qy.l7 K MY Pw Nd Nb).wp kr kp) K ?_ ?_ ?_
        ·exact ⟨MZ, Nf, (0 : Int), hS.to [1, 0] (by kernel_rfl) ⟨rfl, rfl, rfl, rfl, trivial⟩, Pd, hM⟩
        ·intro a w hI; obtain ⟨_, _, _, _, _, hM⟩ := hI; exact zt hM
        ·intro Pw a w hI Tn PW
         obtain ⟨Nd, NM, Nb, hS, Pe, hM⟩ := hI
         rw [qy.l7] at hM
         refine qm <| sB hS rfl fun hS => qA <| wp_seq <| qF hS rfl hM (fun Sb hM => ?_) (fun Sb hM => ?_)
         ·refine wp_skip ?_
          refine qe <| wp_seq <| xS <| wp_seq <| zP ?_
          obtain ⟨NS, hM⟩ := qK hM
          refine sO hS (yv rfl rfl Tryd.runUnderlying110 Tryd.sizeOf112 (Ph _ _ _ (Pp.rd (i := 1) rfl)) zS.len rfl (Nv.inb NS)) rfl fun hS => ?_
          obtain ⟨N4, N6, SA, Pq, Tc⟩ := Nv.get NS
          refine sO hS (qW (v7 rfl (Ph _ _ _ (Pp.rd (i := 1) rfl)) zS.len (Nv.inb NS) Tryd.isAgg112 Tryd.sizeOf112 rfl) (congrArg (fun l => Value.agg ⟨l⟩) SA)) rfl fun hS => QF ([.int .i64 (0 : Int), .slice none 0 0]) hS Tryd.zeroValue112 rfl rfl fun w To Tt PQ hS => ?_
          obtain ⟨Tu, S8, hS⟩ := hS.nilV 3 (ci .i64) 1
          refine QU 1 ([.int .i64 ((rd MY Nb).often_), .slice N4 ((rd MY Nb).symbols_).length N6]) ([.int .i64 ((rd MY Nb).often_), .slice N4 ((rd MY Nb).symbols_).length N6]) hS rfl rfl PQ rfl rfl Tryd.sizeOf112 (by simp [Value.oneCell']) (Nat.le_of_ble_eq_true rfl) rfl fun w Tv PR hS => qA <| qm <| sO hS (xv rfl Tryd.runUnderlying112 rfl Tryd.sizeOf66 rfl) rfl fun hS => sO hS (x5 1 rfl PR rfl rfl Tryd.isAgg66) rfl fun hS => sO hS (yk rfl Tryd.runUnderlying66) rfl fun hS => sM hS rfl fun hS => qA <| xS <| zv (fun PN a w => ∃ (M4 : (List Int)) (NZ : qk) (NO : Int), Ss 109 [] [(9, .slice MU M4.length MV), (87, .slice PC Py.length PE), (88, .int .i64 (MY.length : Int)), (89, .int .i64 Nb), (94, .slice N4 ((rd MY Nb).symbols_).length N6), (95, .int .i64 (((rd MY Nb).symbols_).length : Int)), (96, .int .i64 NO)] H [NZ, Nn] F a w ∧ (xj 3 (ci .i64) 1 MU M4 MV NZ) ∧ (qy.l8 K (qy.l7 K MY Pw) MY Nb PN M4 NO).wp kr kp) K ?_ ?_ ?_
          ·exact ⟨Nd, NM, (0 : Int), hS.to [2, 3] (by kernel_rfl) ⟨rfl, rfl, rfl, rfl, rfl, rfl, rfl, trivial⟩, Pe, hM⟩
          ·intro a w hI; obtain ⟨_, _, _, _, _, hM⟩ := hI; exact zt hM
          ·intro PN a w hI Tm PV
           obtain ⟨M4, NZ, NO, hS, Ns, hM⟩ := hI
           rw [qy.l8] at hM
           refine qm <| sB hS rfl fun hS => qA <| wp_seq <| qF hS rfl hM (fun Sc hM => ?_) (fun Sc hM => ?_)
           ·refine wp_skip ?_
            refine qe <| wp_seq <| xS <| wp_seq <| zP ?_
            obtain ⟨Pm, hM⟩ := qK hM
            refine sO hS (yv rfl rfl Tryd.runUnderlying66 Tryd.sizeOf3 (Pq.rd (i := 1) rfl) (fun _ => rfl) rfl Pm) rfl fun hS => sO hS (yG rfl (Pq.rd (i := 1) rfl) (fun _ => rfl) Pm rfl Tryd.isAgg3) rfl fun hS => zG (v := Value.int .i64) (x0 := (rd ((rd MY Nb).symbols_) NO)) hS (xD rfl) rfl fun Pz a w hz hS => ?_
            have hM := qB hz hM; clear hz
            refine qA <| zP <| sM hS rfl fun hS => sM hS rfl fun hS => ?_
            obtain ⟨ND, hM⟩ := qK hM
            refine sO hS (yv rfl rfl Tryd.runUnderlying66 Tryd.sizeOf3 (Ns.rd (i := 0) rfl) (fun _ => rfl) rfl ND) rfl fun hS => sO hS (yG rfl (Ns.rd (i := 0) rfl) (fun _ => rfl) ND rfl Tryd.isAgg3) rfl fun hS => sB hS rfl fun hS => sO hS (yv rfl rfl Tryd.runUnderlying66 Tryd.sizeOf3 (Ns.rd (i := 0) rfl) (fun _ => rfl) rfl ND) rfl fun hS => J4 (i := Pz) (sz := 1) 0 0 ((qh ((rd M4 Pz) + (1 : Int)))) hS rfl rfl Ns rfl Tryd.sizeOf3 (xJ (qh ((rd M4 Pz) + (1 : Int)))) (fun _ => rfl) ND rfl rfl fun NW w SX hz Pv P3 hS => ?_
            have hM := qB hz hM; clear hz
            replace hS := hS.re 9 (u := .slice MU M4.length MV) (v := .slice MU NW.length MV) rfl (by rw [Pv])
            replace hS := hS.re 100 (u := .slice MU M4.length MV) (v := .slice MU NW.length MV) rfl (by rw [Pv])
            refine zn <| zy (qe ?_)
            refine zP <| sB hS rfl fun hS => sM hS rfl fun hS => zn <| qe ?_
            exact PV _ _ ⟨NW, SX, (qh (NO + (1 : Int))), hS.to [0, 1] (by kernel_rfl) ⟨rfl, rfl, rfl, rfl, rfl, rfl, rfl, trivial⟩, P3, hM⟩
           ·refine wp_exit ?_
            refine qE (qE (zd (zy (qe ?_))))
            refine zP <| sB hS rfl fun hS => sM hS rfl fun hS => zn <| qe ?_
            exact PW _ _ ⟨M4, NZ, (qh (Nb + (1 : Int))), hS.to [0, 1] (by kernel_rfl) ⟨rfl, rfl, rfl, rfl, trivial⟩, Ns, hM⟩
         ·refine wp_exit ?_
          refine qE (qE (zd (qe ?_)))
          refine qm <| sM hS rfl fun hS => sA hS rfl fun hS => sA hS rfl fun hS => qA <| wp_ret ?_
          exact zD (rs := [4, 5]) hS rfl rfl (hret MU MV Nd NM (0 : Int) _ (q8 hM) Pe (hS.st.pick [0] (by kernel_rfl)))
theorem vL {H : xT} {F : List qk} {w : World} {R : Ending → World → Prop} {kr : ((List Int) × (List Int)) → Prop} {kp : Value → Prop} (hG : Gl H) (K : Nat) (MR : List Int) (MU : Option Addr) (MV : Nat) (M7 : qk) (Nb : xj 3 (ci .i64) 1 MU MR MV M7)
    (hS : St w H [M7] F) (hm : (qV.m K MR).wp kr kp)
    (hret : ∀ (Nj : Option Addr) (Nk : Nat) (Ni : (List Int)) (Nm : qk) (MY : (List Int)) (Nn : qk) (w : World), kr (Ni, MY) → (xj 3 (ci .i64) 1 Nj Ni Nk Nm) → (xj 3 (ci .i64) 1 MU MY MV Nn) → (MY.length = MR.length) → St w H [Nm, Nn] F → R (.returned (.slice Nj Ni.length Nk)) w)
    (hpan : ∀ v w, kp v → St w H [] F → R (.panicked [⟨v, false, false⟩]) w) :
    Calls Tryd.prog 36 ⟨[.slice MU MR.length MV]⟩ w R := by
 refine enter Tryd.func36 rfl Tryd.ntmps36 rfl hS fun a w hS => ?_
 have hM := hm; clear hm
 rw [qV.m] at hM
 have Nx : MR.length = MR.length := rfl
 refine qm <| sA hS rfl fun hS => ?_
 obtain ⟨NO, NJ, hS⟩ := hS.nilV 3 (ci .i64) 1
 refine qA <| qm <| sA hS rfl fun hS => qA <| zm (fun a w => ∃ (M5 : Int), Ss 43 [] [(0, .slice MU MR.length MV), (3, .int .i64 M5)] H [M7] F a w ∧ (qV.j2 K MR M5).wp kr kp) (fun NL Nr => ?_) ?_
 ·refine wp_seq ?_
  refine zP <| sM hS rfl fun hS => sO hS (yk rfl Tryd.runUnderlying66) rfl fun hS => sM hS rfl fun hS => qA <| xS <| zv (fun No a w => ∃ (M0 : Int) (Na : Int), Ss 43 [] [(0, .slice MU MR.length MV), (3, .int .i64 M0), (9, .slice MU MR.length MV), (10, .int .i64 (MR.length : Int)), (11, .int .i64 Na)] H [M7] F a w ∧ (qV.l1 K MR No M0 Na).wp kr kp) K ?_ ?_ ?_
  ·exact ⟨(0 : Int), (0 : Int), hS.to [1] (by kernel_rfl) ⟨rfl, rfl, rfl, rfl, rfl, trivial⟩, hM⟩
  ·intro a w hI; obtain ⟨_, _, _, hM⟩ := hI; exact zt hM
  ·intro No a w hI NK Nq
   obtain ⟨M0, Na, hS, hM⟩ := hI
   rw [qV.l1] at hM
   refine qm <| sB hS rfl fun hS => qA <| wp_seq <| qF hS rfl hM (fun Nu hM => ?_) (fun Nu hM => ?_)
   ·refine wp_skip ?_
    refine qe <| wp_seq <| xS <| wp_seq <| zP ?_
    obtain ⟨Ng, hM⟩ := qK hM
    refine sO hS (yv rfl rfl Tryd.runUnderlying66 Tryd.sizeOf3 (Nb.rd (i := 0) rfl) (fun _ => rfl) rfl Ng) rfl fun hS => sO hS (yG rfl (Nb.rd (i := 0) rfl) (fun _ => rfl) Ng rfl Tryd.isAgg3) rfl fun hS => zG (v := Value.int .i64) (x0 := (rd MR Na)) hS (xD rfl) rfl fun Nh a w hz hS => ?_
    have hM := qB hz hM; clear hz
    refine qA <| zP <| sM hS rfl fun hS => sM hS rfl fun hS => sO hS (Ul rfl rfl) rfl fun hS => sB hS rfl fun hS => zG (v := Value.int .i64) (x0 := (qh (M0 + (if (1 : Int) < Nh then (1 : Int) else Nh)))) hS (xD rfl) rfl fun NA a w hz hS => ?_
    have hM := qB hz hM; clear hz
    refine zn <| zy (qe ?_)
    refine zP <| sB hS rfl fun hS => sM hS rfl fun hS => zn <| qe ?_
    exact Nq _ _ ⟨NA, (qh (Na + (1 : Int))), hS.to [0] (by kernel_rfl) ⟨rfl, rfl, rfl, rfl, rfl, trivial⟩, hM⟩
   ·refine wp_exit ?_
    refine qE (qE (zd (qe ?_)))
    exact Nr _ _ ⟨M0, hS.to [0] (by kernel_rfl) ⟨rfl, rfl, trivial⟩, hM⟩
 ·intro a w hI
  obtain ⟨M5, hS, hM⟩ := hI
  rw [qV.j2] at hM
  refine zm (fun a w => ∃ (MT : (List Int)) (M9 : qk), Ss 43 [] [(0, .slice MU MT.length MV)] H [M9] F a w ∧ (xj 3 (ci .i64) 1 MU MT MV M9) ∧ (MT.length = MR.length) ∧ (qV.j4 K MT).wp kr kp) (fun NN Ns => ?_) ?_
  ·refine wp_seq ?_
   refine zP <| sA hS rfl fun hS => qA <| xS <| zv (fun Np a w => ∃ (MS : (List Int)) (M8 : qk) (M3 : Int) (MZ : Int), Ss 43 [] [(0, .slice MU MS.length MV), (3, .int .i64 M3), (6, .int .i64 MZ)] H [M8] F a w ∧ (xj 3 (ci .i64) 1 MU MS MV M8) ∧ (MS.length = MR.length) ∧ (qV.l3 K Np MS M3 MZ).wp kr kp) K ?_ ?_ ?_
   ·exact ⟨MR, M7, M5, (0 : Int), hS.to [0] (by kernel_rfl) ⟨rfl, rfl, rfl, trivial⟩, Nb, Nx, hM⟩
   ·intro a w hI; obtain ⟨_, _, _, _, _, _, _, hM⟩ := hI; exact zt hM
   ·intro Np a w hI NM Nf
    obtain ⟨MS, M8, M3, MZ, hS, MW, Nd, hM⟩ := hI
    rw [qV.l3] at hM
    refine wp_seq <| qm <| sM hS rfl fun hS => sB hS rfl fun hS => qA <| qF hS rfl hM (fun Nv hM => ?_) (fun Nv hM => ?_)
    ·refine wp_skip ?_
     refine qe <| wp_seq <| xS <| qm <| sM hS rfl fun hS => sM hS rfl fun hS => ?_
     obtain ⟨MX, hM⟩ := qK hM
     refine sO hS (yv rfl rfl Tryd.runUnderlying66 Tryd.sizeOf3 (MW.rd (i := 0) rfl) (fun _ => rfl) rfl MX) rfl fun hS => sO hS (yG rfl (MW.rd (i := 0) rfl) (fun _ => rfl) MX rfl Tryd.isAgg3) rfl fun hS => sB hS rfl fun hS => qA <| qF hS rfl hM (fun Nw hM => ?_) (fun Nw hM => ?_)
     ·refine wp_seq ?_
      refine zP <| sM hS rfl fun hS => sM hS rfl fun hS => sO hS (yv rfl rfl Tryd.runUnderlying66 Tryd.sizeOf3 (MW.rd (i := 0) rfl) (fun _ => rfl) rfl MX) rfl fun hS => sO hS (yG rfl (MW.rd (i := 0) rfl) (fun _ => rfl) MX rfl Tryd.isAgg3) rfl fun hS => sB hS rfl fun hS => sO hS (yv rfl rfl Tryd.runUnderlying66 Tryd.sizeOf3 (MW.rd (i := 0) rfl) (fun _ => rfl) rfl MX) rfl fun hS => J4 (i := MZ) (sz := 1) 0 0 ((qh ((rd MS MZ) + (1 : Int)))) hS rfl rfl MW rfl Tryd.sizeOf3 (xJ (qh ((rd MS MZ) + (1 : Int)))) (fun _ => rfl) MX rfl rfl fun M6 w NE hz M4 Nt hS => ?_
      have hM := qB hz hM; clear hz
      have Ny := Eq.trans M4 Nd
      replace hS := hS.re 0 (u := .slice MU MS.length MV) (v := .slice MU M6.length MV) rfl (by rw [M4])
      replace hS := hS.re 24 (u := .slice MU MS.length MV) (v := .slice MU M6.length MV) rfl (by rw [M4])
      replace hS := hS.re 29 (u := .slice MU MS.length MV) (v := .slice MU M6.length MV) rfl (by rw [M4])
      refine qA <| zP <| sM hS rfl fun hS => sB hS rfl fun hS => zG (v := Value.int .i64) (x0 := (qh (M3 + (1 : Int)))) hS (xD rfl) rfl fun NB a w hz hS => ?_
      have hM := qB hz hM; clear hz
      refine zn <| zy (qe ?_)
      refine zP <| sM hS rfl fun hS => sB hS rfl fun hS => zG (v := Value.int .i64) (x0 := (qh (MZ + (1 : Int)))) hS (xD rfl) rfl fun NG a w hz hS => ?_
      have hM := qB hz hM; clear hz
      refine zn <| qe ?_
      exact Nf _ _ ⟨M6, NE, NB, NG, hS.to [0] (by kernel_rfl) ⟨rfl, rfl, rfl, trivial⟩, Nt, Ny, hM⟩
     ·refine wp_skip ?_
      refine zy (qe ?_)
      refine zP <| sM hS rfl fun hS => sB hS rfl fun hS => zG (v := Value.int .i64) (x0 := (qh (MZ + (1 : Int)))) hS (xD rfl) rfl fun NH a w hz hS => ?_
      have hM := qB hz hM; clear hz
      refine zn <| qe ?_
      exact Nf _ _ ⟨MS, M8, M3, NH, hS.to [0] (by kernel_rfl) ⟨rfl, rfl, rfl, trivial⟩, MW, Nd, hM⟩
    ·refine wp_exit ?_
     refine qE (qE (zd (qe ?_)))
     exact Ns _ _ ⟨MS, M8, hS.to [0] (by kernel_rfl) ⟨rfl, trivial⟩, MW, Nd, hM⟩
  ·intro a w hI
   obtain ⟨MT, M9, hS, Nc, Nz, hM⟩ := hI
   rw [qV.j4] at hM
   refine qm <| sM hS rfl fun hS => qJ hS rfl Tryd.call38 (Qp hG K MT (15 : Int) MU MV (Nc.rdF (i := 0) rfl) (Nc.cap (fun _ => rfl) rfl) (hS.st.part 0 [0] (by kernel_rfl)) (qt hM) (fun NC ND NI Nl NP w hM NF hst => qz hS.ev hst.appF rfl fun hS => ?_) (fun v w hk hst => xo (qD (⟨hS.ev.defs, hpan _ _ hk hst.appF.frame⟩))))
   replace hS : Ss _ _ _ H [Nl, M9] F _ _ := hS
   refine sM hS rfl fun hS => sO hS (ex rfl rfl) rfl fun hS => sO hS (ex rfl rfl) rfl fun hS => sA hS rfl fun hS => sA hS rfl fun hS => qA <| qm <| sM hS rfl fun hS => sA hS rfl fun hS => qA <| wp_ret ?_
   exact zD (rs := [2]) hS rfl rfl (hret NC ND NI Nl MT M9 _ (q8 hM) NF Nc Nz (hS.st.pick [0, 1] (by kernel_rfl)))
theorem ZH {H : xT} {F : List qk} {w : World} {R : Ending → World → Prop} {kr : (List qi) → Prop} {kp : Value → Prop} (hG : Gl H) (K : Nat) (MR : List Int) (MX : Option Addr) (MY : Nat) (MW : jT H [] F (ci .i64) MX MR) (N2 : MR.length ≤ MY)
    (hS : St w H [] F) (hm : (qP.m K MR).wp kr kp)
    (hret : ∀ (Ni : Option Addr) (Nj : Nat) (Nh : (List qi)) (Nk : qk) (w : World), kr Nh → (xj 84 qi.cells 3 Ni Nh Nj Nk) → St w H [Nk] F → R (.returned (.slice Ni Nh.length Nj)) w) :
    Calls Tryd.prog 37 ⟨[.slice MX MR.length MY]⟩ w R := by
 refine enter Tryd.func37 rfl Tryd.ntmps37 rfl hS fun a w hS => ?_
 have hM := hm; clear hm
 rw [qP.m] at hM
 refine qm <| sA hS rfl fun hS => ?_
 obtain ⟨Pf, N1, hS⟩ := hS.nilV 84 qi.cells 3
 refine qA <| qm <| sA hS rfl fun hS => ?_
 obtain ⟨NS, Nn, hS⟩ := hS.nilV 84 qi.cells 3
 refine qA <| wp_seq <| qm <| sA hS rfl fun hS => qA <| xS <| zv (fun M8 a w => ∃ (M0 : Option Addr) (M3 : Nat) (MU : (List qi)) (M4 : qk) (MS : Int), Ss 93 [] [(0, .slice MX MR.length MY), (3, .slice M0 MU.length M3), (4, .int .i64 MS)] H [M4] F a w ∧ (xj 84 qi.cells 3 M0 MU M3 M4) ∧ (qP.l1 K MR M8 MU MS).wp kr kp) K ?_ ?_ ?_
 ·exact ⟨none, 0, ([] : List qi), NS, (0 : Int), hS.to [0] (by kernel_rfl) ⟨rfl, rfl, rfl, trivial⟩, Nn, hM⟩
 ·intro a w hI; obtain ⟨_, _, _, _, _, _, _, hM⟩ := hI; exact zt hM
 ·intro M8 a w hI Pa M9
  obtain ⟨M0, M3, MU, M4, MS, hS, M5, hM⟩ := hI
  rw [qP.l1] at hM
  refine wp_seq <| qm <| sM hS rfl fun hS => sM hS rfl fun hS => sO hS (yk rfl Tryd.runUnderlying66) rfl fun hS => sB hS rfl fun hS => qA <| qF hS rfl hM (fun Nw hM => ?_) (fun Nw hM => ?_)
  ·refine wp_skip ?_
   refine qe <| xS <| qm <| sA hS rfl fun hS => qA <| zm (fun a w => ∃ (MV : Int), Ss 93 [] [(0, .slice MX MR.length MY), (3, .slice M0 MU.length M3), (4, .int .i64 MS), (5, .int .i64 MV)] H [M4] F a w ∧ (qP.j4 K (qP.l1 K MR M8) MR MU MS MV).wp kr kp) (fun N9 Nm => ?_) ?_
   ·refine xS ?_
    refine zv (fun Nf a w => ∃ (MT : Int), Ss 93 [] [(0, .slice MX MR.length MY), (3, .slice M0 MU.length M3), (4, .int .i64 MS), (5, .int .i64 MT)] H [M4] F a w ∧ (qP.l2 K (qP.l1 K MR M8) MR MU MS Nf MT).wp kr kp) K ?_ ?_ ?_
    ·exact ⟨(1 : Int), hS.to [0] (by kernel_rfl) ⟨rfl, rfl, rfl, rfl, trivial⟩, hM⟩
    ·intro a w hI; obtain ⟨_, _, hM⟩ := hI; exact zt hM
    ·intro Nf a w hI N8 Nl
     obtain ⟨MT, hS, hM⟩ := hI
     rw [qP.l2] at hM
     refine wp_seq <| zm (fun a w => ∃ (Ng : Bool), Ss 93 [] [(0, .slice MX MR.length MY), (3, .slice M0 MU.length M3), (4, .int .i64 MS), (5, .int .i64 MT), (28, .bool Ng)] H [M4] F a w ∧ (qP.j3 K (qP.l1 K MR M8) (qP.l2 K (qP.l1 K MR M8) MR MU MS Nf) MR MU MS MT Ng).wp kr kp) (fun N7 Nb => ?_) ?_
     ·refine Li (b := (decide ((qh (MS + MT)) < (MR.length : Int)))) hM (fun Na hM => ?_) (fun Na hM => ?_)
      ·obtain ⟨Nc, hM⟩ := qK hM
       obtain ⟨Nd, hM⟩ := qK hM
       refine za (vals := [some (.int .i64 MS), some (.int .i64 MT), some (.int .i64 (qh (MS + MT))), some (.slice MX MR.length MY), some (.int .i64 (MR.length : Int)), some (.bool true), some (.bool true), some (.slice MX MR.length MY), some (.int .i64 MS), some (.int .i64 MT), some (.int .i64 (qh (MS + MT))), some (xI MX (Int.toNat (qh (MS + MT)) * 1)), some (.int .i64 (rd MR (qh (MS + MT)))), some (.slice MX MR.length MY), some (.int .i64 MS), some (xI MX (Int.toNat MS * 1)), some (.int .i64 (rd MR MS)), some (.bool ((rd MR (qh (MS + MT))) == (rd MR MS))), some (.bool ((rd MR (qh (MS + MT))) == (rd MR MS)))]) hS xG rfl ?_
       intro l w ho hcl hA hst
       refine ym hA hst ho hcl xH [0, 1, 2, 3, 4, 5, 6, 7, 8, 9, 10, 11, 12, 13, 14, 15, 16, 17, 18] rfl rfl rfl (by exact ⟨nM rfl, nM rfl, nB rfl, nM rfl, nQ rfl (by exact qW (yk rfl Tryd.runUnderlying66) rfl), nQ rfl (by exact qW (js rfl rfl rfl) (congrArg Value.bool Na)), nM rfl, nW rfl rfl rfl rfl rfl rfl rfl rfl (by exact qW (mv rfl) rfl), nW rfl rfl rfl rfl rfl rfl rfl rfl (by exact qW (mv rfl) rfl), nW rfl rfl rfl rfl rfl rfl rfl rfl (by exact qW (mv rfl) rfl), nW rfl rfl rfl rfl rfl rfl rfl rfl (by exact qW (js rfl rfl rfl) rfl), nW rfl rfl rfl rfl rfl rfl rfl rfl (by exact qW (yv rfl rfl Tryd.runUnderlying66 Tryd.sizeOf3 MW.wk (fun _ => rfl) rfl Nc) rfl), nW rfl rfl rfl rfl rfl rfl rfl rfl (by exact qW (yG rfl MW.wk (fun _ => rfl) Nc rfl Tryd.isAgg3) rfl), nW rfl rfl rfl rfl rfl rfl rfl rfl (by exact qW (mv rfl) rfl), nW rfl rfl rfl rfl rfl rfl rfl rfl (by exact qW (mv rfl) rfl), nW rfl rfl rfl rfl rfl rfl rfl rfl (by exact qW (yv rfl rfl Tryd.runUnderlying66 Tryd.sizeOf3 MW.wk (fun _ => rfl) rfl Nd) rfl), nW rfl rfl rfl rfl rfl rfl rfl rfl (by exact qW (yG rfl MW.wk (fun _ => rfl) Nd rfl Tryd.isAgg3) rfl), nW rfl rfl rfl rfl rfl rfl rfl rfl (by exact qW (js rfl rfl rfl) rfl), nQ rfl (by exact qW (pk rfl rfl rfl) rfl), trivial⟩) fun a w hS => ?_
       replace hS := hS.env2 (e' := [(0, .slice MX MR.length MY), (3, .slice M0 MU.length M3), (4, .int .i64 MS), (5, .int .i64 MT), (28, .bool ((rd MR (qh (MS + MT))) == (rd MR MS)))]) ⟨rfl, rfl, rfl, rfl, rfl, trivial⟩
       refine qe ?_
       exact Nb _ _ ⟨((rd MR (qh (MS + MT))) == (rd MR MS)), hS.to [0] (by kernel_rfl) ⟨rfl, rfl, rfl, rfl, rfl, trivial⟩, hM⟩
      ·refine za (vals := [some (.int .i64 MS), some (.int .i64 MT), some (.int .i64 (qh (MS + MT))), some (.slice MX MR.length MY), some (.int .i64 (MR.length : Int)), some (.bool false), some (.bool false), some (undef), some (undef), some (undef), some (undef), some (undef), some (undef), some (undef), some (undef), some (undef), some (undef), some (undef), some (.bool false)]) hS xG rfl ?_
       intro l w ho hcl hA hst
       refine ym hA hst ho hcl xH [0, 1, 2, 3, 4, 5, 6, 7, 8, 9, 10, 11, 12, 13, 14, 15, 16, 17, 18] rfl rfl rfl (by exact ⟨nM rfl, nM rfl, nB rfl, nM rfl, nQ rfl (by exact qW (yk rfl Tryd.runUnderlying66) rfl), nQ rfl (by exact qW (js rfl rfl rfl) (congrArg Value.bool Na)), nM rfl, nS rfl rfl rfl rfl rfl rfl rfl rfl rfl, nS rfl rfl rfl rfl rfl rfl rfl rfl rfl, nS rfl rfl rfl rfl rfl rfl rfl rfl rfl, nS rfl rfl rfl rfl rfl rfl rfl rfl rfl, nS rfl rfl rfl rfl rfl rfl rfl rfl rfl, nS rfl rfl rfl rfl rfl rfl rfl rfl rfl, nS rfl rfl rfl rfl rfl rfl rfl rfl rfl, nS rfl rfl rfl rfl rfl rfl rfl rfl rfl, nS rfl rfl rfl rfl rfl rfl rfl rfl rfl, nS rfl rfl rfl rfl rfl rfl rfl rfl rfl, nS rfl rfl rfl rfl rfl rfl rfl rfl rfl, nQ rfl (by exact qW (pk rfl rfl rfl) rfl), trivial⟩) fun a w hS => ?_
       replace hS := hS.env2 (e' := [(0, .slice MX MR.length MY), (3, .slice M0 MU.length M3), (4, .int .i64 MS), (5, .int .i64 MT), (28, .bool false)]) ⟨rfl, rfl, rfl, rfl, rfl, trivial⟩
       refine qe ?_
       exact Nb _ _ ⟨false, hS.to [0] (by kernel_rfl) ⟨rfl, rfl, rfl, rfl, rfl, trivial⟩, hM⟩
     ·intro a w hI
      obtain ⟨Ng, hS, hM⟩ := hI
      rw [qP.j3] at hM
      refine qF hS rfl hM (fun Nx hM => ?_) (fun Nx hM => ?_)
      ·refine wp_skip ?_
       refine qe <| xS <| zP <| sM hS rfl fun hS => sB hS rfl fun hS => zG (v := Value.int .i64) (x0 := (qh (MT + (1 : Int)))) hS (xD rfl) rfl fun NF a w hz hS => ?_
       have hM := qB hz hM; clear hz
       refine zn <| zy (qe ?_)
       exact Nl _ _ ⟨NF, hS.to [0] (by kernel_rfl) ⟨rfl, rfl, rfl, rfl, trivial⟩, hM⟩
      ·refine wp_exit ?_
       refine qE (qE (zd (qe ?_)))
       exact Nm _ _ ⟨MT, hS.to [0] (by kernel_rfl) ⟨rfl, rfl, rfl, rfl, trivial⟩, hM⟩
   ·intro a w hI
    obtain ⟨MV, hS, hM⟩ := hI
    rw [qP.j4] at hM
    refine wp_seq <| xS <| qm <| sM hS rfl fun hS => sM hS rfl fun hS => ?_
    obtain ⟨MZ, hM⟩ := qK hM
    refine sO hS (yv rfl rfl Tryd.runUnderlying66 Tryd.sizeOf3 MW.wk (fun _ => rfl) rfl MZ) rfl fun hS => sO hS (yG rfl MW.wk (fun _ => rfl) MZ rfl Tryd.isAgg3) rfl fun hS => sB hS rfl fun hS => sM hS rfl fun hS => yJ 2 true 45 (b := ((rd MR MS) == (0 : Int))) (r := (decide (MV ≥ (11 : Int)))) hS rfl rfl rfl rfl rfl rfl rfl (fun hb a w hS K hK => ?_) rfl fun a w hS => ?_
    ·refine zW hS rfl rfl rfl hb (mv rfl) rfl fun a w hS => ?_
     refine zW hS rfl rfl rfl hb (js rfl rfl rfl) rfl fun a w hS => ?_
     exact zn (hK _ _ (hS.up 2 rfl rfl))
    refine zG (v := Value.bool) (x0 := (((rd MR MS) == (0 : Int)) && (decide (MV ≥ (11 : Int))))) hS (xD rfl) rfl fun Pk a w hz hS => ?_
    have hM := qB hz hM; clear hz
    refine qA <| qF hS rfl hM (fun Ny hM => ?_) (fun Ny hM => ?_)
    ·refine wp_seq ?_
     refine zP <| sM hS rfl fun hS => sO hS (Ul rfl rfl) rfl fun hS => zG (v := Value.int .i64) (x0 := (if (138 : Int) < MV then (138 : Int) else MV)) hS (xD rfl) rfl fun M6 a w hz hS => ?_
     have hM := qB hz hM; clear hz
     refine qA <| zP <| sM hS rfl fun hS => sM hS rfl fun hS => sB hS rfl fun hS => sO hS (Xr ([.int .i64 (18 : Int), .int .i64 (qh (M6 - (11 : Int))), .int .i64 (7 : Int)]) [(0, 1), (1, 1), (2, 1)] Tryd.zeroValue84 Tryd.runUnderlying84 (by intro w; simp [Tryd.sizeOf3]) rfl rfl) rfl fun hS => J2 (g := qi.cells) ([(qi.mk (18 : Int) (qh (M6 - (11 : Int))) (7 : Int))] : List qi) [.agg ⟨[.int .i64 (18 : Int), .int .i64 (qh (M6 - (11 : Int))), .int .i64 (7 : Int)]⟩] hS Tryd.runUnderlying81 Tryd.sizeOf84 X.el84 rfl rfl rfl (by simp [Value.cells]) rfl rfl rfl rfl rfl fun w N3 Pb Pg No hS => ?_
     obtain ⟨NB, hM⟩ := qK hM
     refine J1 (ys := ([(qi.mk (18 : Int) (qh (M6 - (11 : Int))) (7 : Int))] : List qi)) 1 hS rfl rfl M5 rfl (No.rd (i := 0) rfl) Tryd.runUnderlying81 Tryd.runUnderlying81 X.el84 (fun _ => rfl) rfl XA NB rfl fun NG w NK NO NT hz Np hS => ?_
     have hM := qB hz hM; clear hz
     refine sA hS rfl fun hS => zn <| zy (qe ?_)
     refine zP <| sM hS rfl fun hS => sM hS rfl fun hS => sB hS rfl fun hS => zG (v := Value.int .i64) (x0 := (qh (MS + M6))) hS (xD rfl) rfl fun NX a w hz hS => ?_
     have hM := qB hz hM; clear hz
     refine zn <| zy (qe ?_)
     exact M9 _ _ ⟨NK, NO, NG, NT, NX, hS.to [1] (by kernel_rfl) ⟨rfl, rfl, rfl, trivial⟩, Np, hM⟩
    ·refine wp_seq ?_
     refine zP <| sM hS rfl fun hS => sM hS rfl fun hS => sO hS (yv rfl rfl Tryd.runUnderlying66 Tryd.sizeOf3 MW.wk (fun _ => rfl) rfl MZ) rfl fun hS => sO hS (yG rfl MW.wk (fun _ => rfl) MZ rfl Tryd.isAgg3) rfl fun hS => sB hS rfl fun hS => sM hS rfl fun hS => yJ 2 true 63 (b := ((rd MR MS) == (0 : Int))) (r := (decide (MV ≥ (3 : Int)))) hS rfl rfl rfl rfl rfl rfl rfl (fun hb a w hS K hK => ?_) rfl fun a w hS => ?_
     ·refine zW hS rfl rfl rfl hb (mv rfl) rfl fun a w hS => ?_
      refine zW hS rfl rfl rfl hb (js rfl rfl rfl) rfl fun a w hS => ?_
      exact zn (hK _ _ (hS.up 2 rfl rfl))
     refine zG (v := Value.bool) (x0 := (((rd MR MS) == (0 : Int)) && (decide (MV ≥ (3 : Int))))) hS (xD rfl) rfl fun Pm a w hz hS => ?_
     have hM := qB hz hM; clear hz
     refine qA <| qF hS rfl hM (fun Nz hM => ?_) (fun Nz hM => ?_)
     ·refine zP ?_
      refine sM hS rfl fun hS => sM hS rfl fun hS => sB hS rfl fun hS => sO hS (Xr ([.int .i64 (17 : Int), .int .i64 (qh (MV - (3 : Int))), .int .i64 (3 : Int)]) [(0, 1), (1, 1), (2, 1)] Tryd.zeroValue84 Tryd.runUnderlying84 (by intro w; simp [Tryd.sizeOf3]) rfl rfl) rfl fun hS => J2 (g := qi.cells) ([(qi.mk (17 : Int) (qh (MV - (3 : Int))) (3 : Int))] : List qi) [.agg ⟨[.int .i64 (17 : Int), .int .i64 (qh (MV - (3 : Int))), .int .i64 (3 : Int)]⟩] hS Tryd.runUnderlying81 Tryd.sizeOf84 X.el84 rfl rfl rfl (by simp [Value.cells]) rfl rfl rfl rfl rfl fun w N4 Pc Ph Nq hS => ?_
      obtain ⟨NC, hM⟩ := qK hM
      refine J1 (ys := ([(qi.mk (17 : Int) (qh (MV - (3 : Int))) (3 : Int))] : List qi)) 1 hS rfl rfl M5 rfl (Nq.rd (i := 0) rfl) Tryd.runUnderlying81 Tryd.runUnderlying81 X.el84 (fun _ => rfl) rfl XA NC rfl fun NH w NL NP NU hz Nr hS => ?_
      have hM := qB hz hM; clear hz
      refine sA hS rfl fun hS => zn <| zy (qe ?_)
      refine zP <| sM hS rfl fun hS => sM hS rfl fun hS => sB hS rfl fun hS => zG (v := Value.int .i64) (x0 := (qh (MS + MV))) hS (xD rfl) rfl fun NY a w hz hS => ?_
      have hM := qB hz hM; clear hz
      refine zn <| zy (qe ?_)
      exact M9 _ _ ⟨NL, NP, NH, NU, NY, hS.to [1] (by kernel_rfl) ⟨rfl, rfl, rfl, trivial⟩, Nr, hM⟩
     ·refine wp_seq ?_
      refine zP <| sM hS rfl fun hS => sB hS rfl fun hS => zG (v := Value.bool) (x0 := (decide (MV ≥ (4 : Int)))) hS (xD rfl) rfl fun Pn a w hz hS => ?_
      have hM := qB hz hM; clear hz
      refine qA <| qF hS rfl hM (fun NA hM => ?_) (fun NA hM => ?_)
      ·refine wp_seq ?_
       refine zP <| sM hS rfl fun hS => sO hS (Ul rfl rfl) rfl fun hS => zG (v := Value.int .i64) (x0 := (if (7 : Int) < MV then (7 : Int) else MV)) hS (xD rfl) rfl fun M7 a w hz hS => ?_
       have hM := qB hz hM; clear hz
       refine qA <| zP <| sM hS rfl fun hS => sM hS rfl fun hS => sM hS rfl fun hS => sO hS (yv rfl rfl Tryd.runUnderlying66 Tryd.sizeOf3 MW.wk (fun _ => rfl) rfl MZ) rfl fun hS => sO hS (yG rfl MW.wk (fun _ => rfl) MZ rfl Tryd.isAgg3) rfl fun hS => sO hS (Xr ([.int .i64 (rd MR MS), .int .i64 (0 : Int), .int .i64 (0 : Int)]) [(0, 1), (1, 1), (2, 1)] Tryd.zeroValue84 Tryd.runUnderlying84 (by intro w; simp [Tryd.sizeOf3]) rfl rfl) rfl fun hS => sM hS rfl fun hS => sB hS rfl fun hS => sO hS (Xr ([.int .i64 (16 : Int), .int .i64 (qh (M7 - (4 : Int))), .int .i64 (2 : Int)]) [(0, 1), (1, 1), (2, 1)] Tryd.zeroValue84 Tryd.runUnderlying84 (by intro w; simp [Tryd.sizeOf3]) rfl rfl) rfl fun hS => J2 (g := qi.cells) ([(qi.mk (rd MR MS) (0 : Int) (0 : Int)), (qi.mk (16 : Int) (qh (M7 - (4 : Int))) (2 : Int))] : List qi) [.agg ⟨[.int .i64 (rd MR MS), .int .i64 (0 : Int), .int .i64 (0 : Int)]⟩, .agg ⟨[.int .i64 (16 : Int), .int .i64 (qh (M7 - (4 : Int))), .int .i64 (2 : Int)]⟩] hS Tryd.runUnderlying81 Tryd.sizeOf84 X.el84 rfl rfl rfl (by simp [Value.cells]) rfl rfl rfl rfl rfl fun w N5 Pd Pi Ns hS => ?_
       obtain ⟨ND, hM⟩ := qK hM
       refine J1 (ys := ([(qi.mk (rd MR MS) (0 : Int) (0 : Int)), (qi.mk (16 : Int) (qh (M7 - (4 : Int))) (2 : Int))] : List qi)) 1 hS rfl rfl M5 rfl (Ns.rd (i := 0) rfl) Tryd.runUnderlying81 Tryd.runUnderlying81 X.el84 (fun _ => rfl) rfl XA ND rfl fun NI w NM NQ NV hz Nt hS => ?_
       have hM := qB hz hM; clear hz
       refine sA hS rfl fun hS => zn <| zy (qe ?_)
       refine zP <| sM hS rfl fun hS => sM hS rfl fun hS => sB hS rfl fun hS => zG (v := Value.int .i64) (x0 := (qh (MS + M7))) hS (xD rfl) rfl fun NZ a w hz hS => ?_
       have hM := qB hz hM; clear hz
       refine zn <| zy (qe ?_)
       exact M9 _ _ ⟨NM, NQ, NI, NV, NZ, hS.to [1] (by kernel_rfl) ⟨rfl, rfl, rfl, trivial⟩, Nt, hM⟩
      ·refine wp_seq ?_
       refine zP <| sA hS rfl fun hS => qA <| zP <| sM hS rfl fun hS => sM hS rfl fun hS => sM hS rfl fun hS => sO hS (yv rfl rfl Tryd.runUnderlying66 Tryd.sizeOf3 MW.wk (fun _ => rfl) rfl MZ) rfl fun hS => sO hS (yG rfl MW.wk (fun _ => rfl) MZ rfl Tryd.isAgg3) rfl fun hS => sO hS (Xr ([.int .i64 (rd MR MS), .int .i64 (0 : Int), .int .i64 (0 : Int)]) [(0, 1), (1, 1), (2, 1)] Tryd.zeroValue84 Tryd.runUnderlying84 (by intro w; simp [Tryd.sizeOf3]) rfl rfl) rfl fun hS => J2 (g := qi.cells) ([(qi.mk (rd MR MS) (0 : Int) (0 : Int))] : List qi) [.agg ⟨[.int .i64 (rd MR MS), .int .i64 (0 : Int), .int .i64 (0 : Int)]⟩] hS Tryd.runUnderlying81 Tryd.sizeOf84 X.el84 rfl rfl rfl (by simp [Value.cells]) rfl rfl rfl rfl rfl fun w N6 Pe Pj Nu hS => ?_
       obtain ⟨NE, hM⟩ := qK hM
       refine J1 (ys := ([(qi.mk (rd MR MS) (0 : Int) (0 : Int))] : List qi)) 1 hS rfl rfl M5 rfl (Nu.rd (i := 0) rfl) Tryd.runUnderlying81 Tryd.runUnderlying81 X.el84 (fun _ => rfl) rfl XA NE rfl fun NJ w NN NR NW hz Nv hS => ?_
       have hM := qB hz hM; clear hz
       refine sA hS rfl fun hS => zn <| zy (qe ?_)
       refine zP <| sM hS rfl fun hS => sM hS rfl fun hS => sB hS rfl fun hS => zG (v := Value.int .i64) (x0 := (qh (MS + (1 : Int)))) hS (xD rfl) rfl fun N0 a w hz hS => ?_
       have hM := qB hz hM; clear hz
       refine zn <| zy (qe ?_)
       exact M9 _ _ ⟨NN, NR, NJ, NW, N0, hS.to [1] (by kernel_rfl) ⟨rfl, rfl, rfl, trivial⟩, Nv, hM⟩
  ·refine wp_exit ?_
   refine qE (qE (zd (qe ?_)))
   refine qm <| sM hS rfl fun hS => sA hS rfl fun hS => qA <| wp_ret ?_
   exact zD (rs := [2]) hS rfl rfl (hret M0 M3 MU M4 _ (q8 hM) M5 (hS.st.pick [0] (by kernel_rfl)))
theorem uy {H : xT} {F : List qk} {w : World} {R : Ending → World → Prop} {kr : (Int × (List Int)) → Prop} {kp : Value → Prop} (hG : Gl H) (K : Nat) (MR : qp) (MS : qv) (MT : Int) (MW : Nat) (Nr : qk) (Nn : Option Addr) (Np : Nat) (Ns : qk) (M6 : Option Addr) (Nb : Nat) (M0 : qk) (M7 : Option Addr) (Nc : Nat) (M3 : qk) (M8 : Option Addr) (Nd : Nat) (M4 : qk) (M9 : Option Addr) (Nf : Nat) (M5 : qk) (No : Option Addr) (Nq : Nat) (MZ : Option Addr) (Ng : Nat) (NJ : xM Nr MW ([.int .i64 MR.Writer_.place_.at_, .slice Nn MR.Writer_.bytes_.length Np, .slice M6 MR.literals_.lengths_.length Nb, .slice M7 MR.literals_.codes_.length Nc, .slice M8 MR.distances_.lengths_.length Nd, .slice M9 MR.distances_.codes_.length Nf]) 70) (NL : xj 5 (ci .u8) 1 Nn MR.Writer_.bytes_ Np Ns) (NM : xj 3 (ci .i64) 1 M6 MR.literals_.lengths_ Nb M0) (NN : xj 3 (ci .i64) 1 M7 MR.literals_.codes_ Nc M3) (NO : xj 3 (ci .i64) 1 M8 MR.distances_.lengths_ Nd M4) (NP : xj 3 (ci .i64) 1 M9 MR.distances_.codes_ Nf M5) (Ny : jT H [] F (ci .i64) No MS.lengths_) (NZ : MS.lengths_.length ≤ Nq) (Nz : jT H [] F (ci .i64) MZ MS.codes_) (N0 : MS.codes_.length ≤ Ng)
    (hS : St w H [Nr, Ns, M0, M3, M4, M5] F) (hm : (zL.m K MR MS MT).wp kr kp)
    (hret : ∀ (Nk : Int) (NB : Option Addr) (NC : Nat) (MY : (List Int)) (NG : qk) (NH : qk) (w : World), kr (Nk, MY) → (xj 5 (ci .u8) 1 NB MY NC NG) → (xM NH MW ([.int .i64 Nk, .slice NB MY.length NC, .slice M6 MR.literals_.lengths_.length Nb, .slice M7 MR.literals_.codes_.length Nc, .slice M8 MR.distances_.lengths_.length Nd, .slice M9 MR.distances_.codes_.length Nf]) 70) → St w H [NH, NG, M0, M3, M4, M5] F → R (.returned (.tuple ⟨[]⟩)) w) :
    Calls Tryd.prog 39 ⟨[qL MW 0, .agg ⟨[.slice No MS.lengths_.length Nq, .slice MZ MS.codes_.length Ng]⟩, .int .i64 MT]⟩ w R := by
 refine enter Tryd.func39 rfl Tryd.ntmps39 rfl hS fun a w hS => ?_
 have hM := hm; clear hm
 rw [zL.m] at hM
 refine qm <| bx ([.slice No MS.lengths_.length Nq, .slice MZ MS.codes_.length Ng]) hS rfl rfl rfl fun w Nl ND Nt hS => qA <| qm <| sO hS (xv rfl Tryd.runUnderlying68 rfl Tryd.sizeOf66 rfl) rfl fun hS => sO hS (x5 0 rfl Nt rfl rfl Tryd.isAgg66) rfl fun hS => sM hS rfl fun hS => ?_
 obtain ⟨Nw, hM⟩ := qK hM
 refine sO hS (yv rfl rfl Tryd.runUnderlying66 Tryd.sizeOf3 Ny.wk (fun _ => rfl) rfl Nw) rfl fun hS => sO hS (yG rfl Ny.wk (fun _ => rfl) Nw rfl Tryd.isAgg3) rfl fun hS => sB hS rfl fun hS => zG (v := Value.int .i64) (x0 := (qh ((rd MS.lengths_ MT) - (1 : Int)))) hS (xD rfl) rfl fun NW a w hz hS => ?_
 have hM := qB hz hM; clear hz
 refine qA <| xS <| zv (fun NI a w => ∃ (MX : Int) (Na : Option Addr) (Nh : Nat) (MU : (List Int)) (Ni : qk) (Nj : qk) (MV : Int), Ss 30 [] [(0, qL MW 0), (2, .int .i64 MT), (4, qL Nl 0), (6, .int .i64 MV)] H [Nj, Ni, M0, M3, M4, M5, ND] F a w ∧ (xj 5 (ci .u8) 1 Na MU Nh Ni) ∧ (xM Nj MW ([.int .i64 MX, .slice Na MU.length Nh, .slice M6 MR.literals_.lengths_.length Nb, .slice M7 MR.literals_.codes_.length Nc, .slice M8 MR.distances_.lengths_.length Nd, .slice M9 MR.distances_.codes_.length Nf]) 70) ∧ (zL.l1 K MR MS MT NI MX MU MV).wp kr kp) K ?_ ?_ ?_
 ·exact ⟨MR.Writer_.place_.at_, Nn, Np, MR.Writer_.bytes_, Ns, Nr, NW, hS.to [1, 2, 3, 4, 5, 6, 0] (by kernel_rfl) ⟨rfl, rfl, rfl, rfl, trivial⟩, NL, NJ, hM⟩
 ·intro a w hI; obtain ⟨_, _, _, _, _, _, _, _, _, _, hM⟩ := hI; exact zt hM
 ·intro NI a w hI N1 NK
  obtain ⟨MX, Na, Nh, MU, Ni, Nj, MV, hS, Nv, Nu, hM⟩ := hI
  rw [zL.l1] at hM
  refine wp_seq <| qm <| sM hS rfl fun hS => sB hS rfl fun hS => qA <| qF hS rfl hM (fun NQ hM => ?_) (fun NQ hM => ?_)
  ·refine wp_skip ?_
   refine qe <| wp_seq <| xS ?_
   obtain ⟨Nx, hM⟩ := qK hM
   obtain ⟨NR, hM⟩ := qK hM
   refine za (vals := [some (qL MW 0), some (qL MW 0), some (qL MW 0), some (qL Nl 1), some (.slice MZ MS.codes_.length Ng), some (.int .i64 MT), some (xI MZ (Int.toNat MT * 1)), some (.int .i64 (rd MS.codes_ MT)), some (.int .i64 MV), some (.int .i64 (xa .i64 (rd MS.codes_ MT) MV)), some (.int .i64 (xE .i64 (xa .i64 (rd MS.codes_ MT) MV) (1 : Int))), some (.int .u32 (wr .u32 (xE .i64 (xa .i64 (rd MS.codes_ MT) MV) (1 : Int)))), none]) hS xG rfl ?_
   intro l w ho hcl hA hst
   refine jg hA hst ho hcl xx xH 12 [0, 1, 2, 3, 4, 5, 6, 7, 8, 9, 10, 11] rfl rfl rfl rfl rfl (by exact ⟨nM rfl, nQ rfl (by exact qW (yy rfl) rfl), nQ rfl (by exact qW (xv rfl Tryd.runUnderlying70 rfl Tryd.sizeOf65 rfl) rfl), nQ rfl (by exact qW (xv rfl Tryd.runUnderlying68 rfl Tryd.sizeOf66 rfl) rfl), nQ rfl (by exact qW (x5 6 rfl Nt rfl rfl Tryd.isAgg66) rfl), nM rfl, nQ rfl (by exact qW (yv rfl rfl Tryd.runUnderlying66 Tryd.sizeOf3 Nz.wk (fun _ => rfl) rfl Nx) rfl), nQ rfl (by exact qW (yG rfl Nz.wk (fun _ => rfl) Nx rfl Tryd.isAgg3) rfl), nM rfl, nQ rfl (by exact qW (shr rfl rfl NR) rfl), nB rfl, nQ rfl (by exact qW (u7 rfl Tryd.runUnderlying3 Tryd.runUnderlying25) rfl), trivial⟩) fun D l a w ho hcl hav hpre hm hE hk hA hst => ?_
   have hS := (Ss.mk hE hst).env2 (e' := [(19, qL MW 0), (28, .int .u32 (wr .u32 (xE .i64 (xa .i64 (rd MS.codes_ MT) MV) (1 : Int))))]) ⟨rfl, rfl, trivial⟩
   refine qQ rfl <| qJ hS rfl Tryd.call30 (zj hG K (qp.mk (qR.mk (qr.mk MX) MU) MR.literals_ MR.distances_) (wr .u32 (xE .i64 (xa .i64 (rd MS.codes_ MT) MV) (1 : Int))) (1 : Int) MW Nj Na Nh Ni M6 Nb M0 M7 Nc M3 M8 Nd M4 M9 Nf M5 Nu Nv NM NN NO NP (hS.st.part 6 [0, 1, 2, 3, 4, 5, 6] (by kernel_rfl)) (qt hM) (fun NY NA NS NT Nm NE NF w hM NU NV hst => qz hS.ev hst.appF rfl fun hS => ?_))
   replace hS : Ss _ _ _ H [NF, NE, M0, M3, M4, M5, ND] F _ _ := hS
   refine qA ?_
   replace hst := hS.st
   obtain ⟨hcl, hmust, hav2, hA⟩ := dn (vals' := [some (qL MW 0), some (qL MW 0), some (qL MW 0), some (qL Nl 1), some (.slice MZ MS.codes_.length Ng), some (.int .i64 MT), some (xI MZ (Int.toNat MT * 1)), some (.int .i64 (rd MS.codes_ MT)), some (.int .i64 MV), some (.int .i64 (xa .i64 (rd MS.codes_ MT) MV)), some (.int .i64 (xE .i64 (xa .i64 (rd MS.codes_ MT) MV) (1 : Int))), some (.int .u32 (wr .u32 (xE .i64 (xa .i64 (rd MS.codes_ MT) MV) (1 : Int)))), some (.int .i64 NY)]) 12 [(2, 12), (11, 12), (1, 2), (10, 11), (0, 1), (9, 10), (7, 9), (8, 9), (6, 7), (4, 6), (5, 6), (3, 4)] hA hcl hav hm hpre hk rfl rfl rfl rfl rfl rfl rfl
   clear hm hav
   refine ym hA hst ho hcl hmust [] rfl rfl rfl trivial fun a w hS => ?_
   replace hS := hS.env2 (e' := [(0, qL MW 0), (2, .int .i64 MT), (4, qL Nl 0), (6, .int .i64 MV)]) ⟨rfl, rfl, rfl, rfl, trivial⟩
   refine zy (qe ?_)
   refine zP <| sM hS rfl fun hS => sB hS rfl fun hS => zG (v := Value.int .i64) (x0 := (qh (MV - (1 : Int)))) hS (xD rfl) rfl fun NX a w hz hS => ?_
   have hM := qB hz hM; clear hz
   refine zn <| qe ?_
   exact NK _ _ ⟨NA, NS, NT, Nm, NE, NF, NX, hS.to [0, 1, 2, 3, 4, 5, 6] (by kernel_rfl) ⟨rfl, rfl, rfl, rfl, trivial⟩, NU, NV, hM⟩
  ·refine wp_exit ?_
   refine qE (qE (zd ?_))
   exact jR (rs := []) hS rfl rfl (hret MX Na Nh MU Ni Nj _ (q8 hM) Nv Nu (hS.st.pick [0, 1, 2, 3, 4, 5] (by kernel_rfl)))
end Go.TrydS

