/- Printed by a program of mine: each Go function answers what its model answers; conditions: what each theorem asks of memory. -/
import Derived.Test.YtojcnkhcdcegkaaDoorP2xehmdc
set_option linter.unusedVariables false
set_option linter.unusedSimpArgs false
set_option maxRecDepth 100000
namespace Go.TrydS
open Go Go.Sl Go.Mo Go.Proofs
attribute [local irreducible] qN.wp
theorem js {H : xR} {F : List qk} {w : World} {R : Ending → World → Prop} {kr : (Int × (List Int)) → Prop} {kp : Value → Prop} (hG : Gl H) (K : Nat) (LY : qp) (L0 : List qM) (LZ : Nat) (MR : qk) (MP : Option Addr) (MQ : Nat) (MS : qk) (L3 : Option Addr) (L5 : Nat) (Mc : qk) (L4 : Option Addr) (L6 : Nat) (Md : qk) (L8 : Option Addr) (Ma : Nat) (Me : qk) (L9 : Option Addr) (Mb : Nat) (Mf : qk) (Mv : Option Addr) (Mx : Nat) (Ni : xJ MR LZ ([.int .i64 LY.Writer_.place_.at_, .slice MP LY.Writer_.bytes_.length MQ, .slice L3 LY.literals_.lengths_.length L5, .slice L4 LY.literals_.codes_.length L6, .slice L8 LY.distances_.lengths_.length Ma, .slice L9 LY.distances_.codes_.length Mb]) 70) (Nl : xi 5 (ci .u8) 1 MP LY.Writer_.bytes_ MQ MS) (MA : xi 3 (ci .i64) 1 L3 LY.literals_.lengths_ L5 Mc) (MB : xi 3 (ci .i64) 1 L4 LY.literals_.codes_ L6 Md) (MC : xi 3 (ci .i64) 1 L8 LY.distances_.lengths_ Ma Me) (MD : xi 3 (ci .i64) 1 L9 LY.distances_.codes_ Mb Mf) (MZ : jG H [] F qM.cells Mv L0) (NE : L0.length ≤ Mx)
    (hS : St w H [MR, MS, Mc, Md, Me, Mf] F) (hm : (zi.m K LY L0).wp kr kp)
    (hret : ∀ (MH : Int) (M6 : Option Addr) (M7 : Nat) (Mq : (List Int)) (Nf : qk) (Ng : qk) (w : World), kr (MH, Mq) → (xi 5 (ci .u8) 1 M6 Mq M7 Nf) → (xJ Ng LZ ([.int .i64 MH, .slice M6 Mq.length M7, .slice L3 LY.literals_.lengths_.length L5, .slice L4 LY.literals_.codes_.length L6, .slice L8 LY.distances_.lengths_.length Ma, .slice L9 LY.distances_.codes_.length Mb]) 70) → St w H [Ng, Nf, Mc, Md, Me, Mf] F → R (.returned (.tuple ⟨[]⟩)) w) :
    Calls Tryd.prog 31 ⟨[qL LZ 0, .slice Mv L0.length Mx]⟩ w R := by
 refine enter Tryd.func31 rfl Tryd.ntmps31 rfl hS fun a w hS => ?_
 have hM := hm; clear hm
 rw [zi.m] at hM
 refine zj (fun a w => ∃ (Ms : Int) (MG : Option Addr) (MI : Nat) (Mg : (List Int)) (MJ : qk) (MK : qk), Ss 49 [] [(0, qL LZ 0)] H [MK, MJ, Mc, Md, Me, Mf] F a w ∧ (xi 5 (ci .u8) 1 MG Mg MI MJ) ∧ (xJ MK LZ ([.int .i64 Ms, .slice MG Mg.length MI, .slice L3 LY.literals_.lengths_.length L5, .slice L4 LY.literals_.codes_.length L6, .slice L8 LY.distances_.lengths_.length Ma, .slice L9 LY.distances_.codes_.length Mb]) 70) ∧ (zi.j2 K LY Ms Mg).wp kr kp) (fun NG Nk => ?_) ?_
 ·refine wp_seq ?_
  refine zN <| sM hS rfl fun hS => sO hS (yj rfl Tryd.runUnderlying37) rfl fun hS => sM hS rfl fun hS => qB <| xO <| zu (fun Nh a w => ∃ (Mj : Int) (Mw : Option Addr) (My : Nat) (L7 : (List Int)) (Mt : qk) (Mu : qk) (L1 : Int), Ss 49 [] [(0, qL LZ 0), (6, .slice Mv L0.length Mx), (7, .int .i64 (L0.length : Int)), (8, .int .i64 L1)] H [Mu, Mt, Mc, Md, Me, Mf] F a w ∧ (xi 5 (ci .u8) 1 Mw L7 My Mt) ∧ (xJ Mu LZ ([.int .i64 Mj, .slice Mw L7.length My, .slice L3 LY.literals_.lengths_.length L5, .slice L4 LY.literals_.codes_.length L6, .slice L8 LY.distances_.lengths_.length Ma, .slice L9 LY.distances_.codes_.length Mb]) 70) ∧ (zi.l1 K LY L0 Nh Mj L7 L1).wp kr kp) K ?_ ?_ ?_
  ·exact ⟨LY.Writer_.place_.at_, MP, MQ, LY.Writer_.bytes_, MS, MR, (0 : Int), hS.to [0, 1, 2, 3, 4, 5] (by kernel_rfl) ⟨rfl, rfl, rfl, rfl, trivial⟩, Nl, Ni, hM⟩
  ·intro a w hI; obtain ⟨_, _, _, _, _, _, _, _, _, _, hM⟩ := hI; exact zt hM
  ·intro Nh a w hI NF MX
   obtain ⟨Mj, Mw, My, L7, Mt, Mu, L1, hS, MF, Mr, hM⟩ := hI
   rw [zi.l1] at hM
   refine qm <| sB hS rfl fun hS => qB <| wp_seq <| qG hS rfl hM (fun Nn hM => ?_) (fun Nn hM => ?_)
   ·refine wp_skip ?_
    refine qe <| wp_seq <| xO <| wp_seq <| zN ?_
    obtain ⟨MY, hM⟩ := qK hM
    refine sO hS (yu rfl rfl Tryd.runUnderlying37 Tryd.sizeOf57 MZ.wk (fun _ => rfl) rfl MY) rfl fun hS => sO hS (vK rfl MZ.wk (fun _ => rfl) MY Tryd.isAgg57 Tryd.sizeOf57 rfl) rfl fun hS => Qf ([.int .u8 (0 : Int), .int .i64 (0 : Int), .int .i64 (0 : Int)]) hS Tryd.zeroValue57 rfl rfl fun w Mk NH Nj hS => Qs 0 ([.int .u8 ((rd L0 L1).Lit_), .int .i64 ((rd L0 L1).Len_), .int .i64 ((rd L0 L1).Dist_)]) ([.int .u8 ((rd L0 L1).Lit_), .int .i64 ((rd L0 L1).Len_), .int .i64 ((rd L0 L1).Dist_)]) hS rfl rfl Nj rfl rfl Tryd.sizeOf57 (by simp [Value.oneCell']) (Nat.le_of_ble_eq_true rfl) rfl fun w ME Mz hS => qB <| wp_seq <| qm <| sO hS (xv rfl Tryd.runUnderlying57 rfl Tryd.sizeOf3 rfl) rfl fun hS => sO hS (xY 0 rfl Mz rfl rfl Tryd.isAgg3) rfl fun hS => sB hS rfl fun hS => qB <| qG hS rfl hM (fun No hM => ?_) (fun No hM => ?_)
    ·refine wp_seq ?_
     refine za (vals := [some (qL LZ 0), some (qL LZ 0), some (qL LZ 0), some (qL LZ 2), some (.agg ⟨[.slice L3 LY.literals_.lengths_.length L5, .slice L4 LY.literals_.codes_.length L6]⟩), some (qL Mk 0), some (.int .u8 ((rd L0 L1).Lit_)), some (.int .i64 (wr .i64 (rd L0 L1).Lit_)), none]) hS xE rfl ?_
     intro l w ho hcl hA hst
     refine y9 hA hst ho hcl xx xF 8 [0, 1, 2, 3, 4, 5, 6, 7] rfl rfl rfl rfl rfl (by exact ⟨nM rfl, nM rfl, nQ rfl (by exact qX (yw rfl) rfl), nQ rfl (by exact qX (xv rfl Tryd.runUnderlying70 rfl Tryd.sizeOf68 rfl) rfl), nQ rfl (by exact qX (ut 1 rfl Mr rfl ([.slice L3 LY.literals_.lengths_.length L5, .slice L4 LY.literals_.codes_.length L6]) rfl rfl Tryd.isAgg68 Tryd.sizeOf68) rfl), nQ rfl (by exact qX (xv rfl Tryd.runUnderlying57 rfl Tryd.sizeOf5 rfl) rfl), nQ rfl (by exact qX (xY 0 rfl Mz rfl rfl Tryd.isAgg5) rfl), nQ rfl (by exact qX (vU rfl Tryd.runUnderlying5 Tryd.runUnderlying3) rfl), trivial⟩) fun D l a w ho hcl hav hpre hm hE hk hA hst => ?_
     have hS := (Ss.mk hE hst).env2 (e' := [(15, qL LZ 0), (19, .agg ⟨[.slice L3 LY.literals_.lengths_.length L5, .slice L4 LY.literals_.codes_.length L6]⟩), (22, .int .i64 (wr .i64 (rd L0 L1).Lit_))]) ⟨rfl, rfl, rfl, trivial⟩
     refine qQ rfl <| qF hS rfl Tryd.call39 (yp hG K (qp.mk (qR.mk (qr.mk Mj) L7) LY.literals_ LY.distances_) LY.literals_ (wr .i64 (rd L0 L1).Lit_) LZ Mu Mw My Mt L3 L5 Mc L4 L6 Md L8 Ma Me L9 Mb Mf Mr MF MA MB MC MD (hS.st.part 6 [1, 2, 3, 4, 5, 6, 0] (by kernel_rfl)) (qs hM) (fun M0 Np Nt ML M8 M9 w hM Nx Ny hst => qA hS.ev hst.appF rfl fun hS => ?_))
     replace hS : Ss _ _ _ H [M9, M8, Mc, Md, Me, Mf, ME] F _ _ := hS
     refine qB ?_
     replace hst := hS.st
     obtain ⟨hcl, hmust, hav2, hA⟩ := dn (vals' := [some (qL LZ 0), some (qL LZ 0), some (qL LZ 0), some (qL LZ 2), some (.agg ⟨[.slice L3 LY.literals_.lengths_.length L5, .slice L4 LY.literals_.codes_.length L6]⟩), some (qL Mk 0), some (.int .u8 ((rd L0 L1).Lit_)), some (.int .i64 (wr .i64 (rd L0 L1).Lit_)), some (.tuple ⟨[]⟩)]) 8 [(0, 8), (4, 8), (7, 8), (3, 4), (6, 7), (2, 3), (5, 6), (1, 2)] hA hcl hav hm hpre hk rfl rfl rfl rfl rfl rfl rfl
     clear hm hav
     refine yk hA hst ho hcl hmust [] rfl rfl rfl trivial fun a w hS => ?_
     replace hS := hS.env2 (e' := [(0, qL LZ 0), (6, .slice Mv L0.length Mx), (7, .int .i64 (L0.length : Int)), (8, .int .i64 L1)]) ⟨rfl, rfl, rfl, rfl, trivial⟩
     refine qe <| wp_exit <| qE (ze (qe ?_))
     refine zN <| sB hS rfl fun hS => sM hS rfl fun hS => zp <| qe ?_
     exact MX _ _ ⟨M0, Np, Nt, ML, M8, M9, (qh (L1 + (1 : Int))), hS.to [0, 1, 2, 3, 4, 5] (by kernel_rfl) ⟨rfl, rfl, rfl, rfl, trivial⟩, Nx, Ny, hM⟩
    ·refine wp_skip ?_
     refine qe <| wp_seq <| za (vals := [some (qL LZ 0), some (qL LZ 0), some (qL LZ 0), some (qL LZ 2), some (.agg ⟨[.slice L3 LY.literals_.lengths_.length L5, .slice L4 LY.literals_.codes_.length L6]⟩), some (qL Mk 1), some (.int .i64 ((rd L0 L1).Len_)), none, none]) hS xE rfl ?_
     intro l w ho hcl hA hst
     refine y9 hA hst ho hcl xx xF 7 [0, 1, 2, 3, 4, 5, 6] rfl rfl rfl rfl rfl (by exact ⟨nM rfl, nM rfl, nQ rfl (by exact qX (yw rfl) rfl), nQ rfl (by exact qX (xv rfl Tryd.runUnderlying70 rfl Tryd.sizeOf68 rfl) rfl), nQ rfl (by exact qX (ut 1 rfl Mr rfl ([.slice L3 LY.literals_.lengths_.length L5, .slice L4 LY.literals_.codes_.length L6]) rfl rfl Tryd.isAgg68 Tryd.sizeOf68) rfl), nQ rfl (by exact qX (xv rfl Tryd.runUnderlying57 rfl Tryd.sizeOf3 rfl) rfl), nQ rfl (by exact qX (xY 0 rfl Mz rfl rfl Tryd.isAgg3) rfl), trivial⟩) fun D l a w ho hcl hav hpre hm hE hk hA hst => ?_
     have hS := (Ss.mk hE hst).env2 (e' := [(30, .int .i64 ((rd L0 L1).Len_))]) ⟨rfl, trivial⟩
     refine qQ rfl <| qF hS rfl Tryd.call33 (v3 hG K ((rd L0 L1).Len_) (hS.st.part 0 [0, 1, 2, 3, 4, 5, 6] (by kernel_rfl)) (qs hM) (fun Mh Ml Mn w hM  hst => qA hS.ev hst.appF rfl fun hS => ?_))
     replace hS : Ss _ _ _ H [ME, Mu, Mt, Mc, Md, Me, Mf] F _ _ := hS
     refine qB ?_
     replace hst := hS.st
     obtain ⟨hcl, hmust, hav2, hA⟩ := dn (vals' := [some (qL LZ 0), some (qL LZ 0), some (qL LZ 0), some (qL LZ 2), some (.agg ⟨[.slice L3 LY.literals_.lengths_.length L5, .slice L4 LY.literals_.codes_.length L6]⟩), some (qL Mk 1), some (.int .i64 ((rd L0 L1).Len_)), some (.agg ⟨[.int .i64 Mh, .int .i64 Ml, .int .u32 Mn]⟩), none]) 7 [(6, 7), (5, 6)] hA hcl hav hm hpre hk rfl rfl rfl rfl rfl rfl rfl
     clear hm hav
     refine y9 hA hst ho hcl hav2 hmust 8 [0, 1, 2, 3, 4] rfl rfl rfl rfl rfl (by exact ⟨nM rfl, nM rfl, nQ rfl (by exact qX (yw rfl) rfl), nQ rfl (by exact qX (xv rfl Tryd.runUnderlying70 rfl Tryd.sizeOf68 rfl) rfl), nQ rfl (by exact qX (ut 1 rfl Mr rfl ([.slice L3 LY.literals_.lengths_.length L5, .slice L4 LY.literals_.codes_.length L6]) rfl rfl Tryd.isAgg68 Tryd.sizeOf68) rfl), trivial⟩) fun D l a w ho hcl hav hpre hm hE hk hA hst => ?_
     have hS := (Ss.mk hE hst).env2 (e' := [(24, qL LZ 0), (28, .agg ⟨[.slice L3 LY.literals_.lengths_.length L5, .slice L4 LY.literals_.codes_.length L6]⟩), (31, .agg ⟨[.int .i64 Mh, .int .i64 Ml, .int .u32 Mn]⟩)]) ⟨rfl, rfl, rfl, trivial⟩
     refine qQ rfl <| qF hS rfl Tryd.call50 (vt hG K (qp.mk (qR.mk (qr.mk Mj) L7) LY.literals_ LY.distances_) LY.literals_ (xT.mk Mh Ml Mn) LZ Mu Mw My Mt L3 L5 Mc L4 L6 Md L8 Ma Me L9 Mb Mf Mr MF MA MB MC MD (hS.st.part 6 [1, 2, 3, 4, 5, 6, 0] (by kernel_rfl)) (qs hM) (fun M3 Nq Nu MM MT MU w hM Nz MV hst => qA hS.ev hst.appF rfl fun hS => ?_))
     replace hS : Ss _ _ _ H [MU, MT, Mc, Md, Me, Mf, ME] F _ _ := hS
     refine qB ?_
     replace hst := hS.st
     obtain ⟨hcl, hmust, hav2, hA⟩ := dn (vals' := [some (qL LZ 0), some (qL LZ 0), some (qL LZ 0), some (qL LZ 2), some (.agg ⟨[.slice L3 LY.literals_.lengths_.length L5, .slice L4 LY.literals_.codes_.length L6]⟩), some (qL Mk 1), some (.int .i64 ((rd L0 L1).Len_)), some (.agg ⟨[.int .i64 Mh, .int .i64 Ml, .int .u32 Mn]⟩), some (.tuple ⟨[]⟩)]) 8 [(0, 8), (4, 8), (7, 8), (3, 4), (6, 7), (2, 3), (5, 6), (1, 2)] hA hcl hav hm hpre hk rfl rfl rfl rfl rfl rfl rfl
     clear hm hav
     refine yk hA hst ho hcl hmust [] rfl rfl rfl trivial fun a w hS => ?_
     replace hS := hS.env2 (e' := [(0, qL LZ 0), (5, qL Mk 0), (6, .slice Mv L0.length Mx), (7, .int .i64 (L0.length : Int)), (8, .int .i64 L1)]) ⟨rfl, rfl, rfl, rfl, rfl, trivial⟩
     refine qe <| za (vals := [some (qL LZ 0), some (qL LZ 0), some (qL LZ 0), some (qL LZ 4), some (.agg ⟨[.slice L8 LY.distances_.lengths_.length Ma, .slice L9 LY.distances_.codes_.length Mb]⟩), some (qL Mk 2), some (.int .i64 ((rd L0 L1).Dist_)), none, none]) hS xE rfl ?_
     intro l w ho hcl hA hst
     refine y9 hA hst ho hcl xx xF 7 [0, 1, 2, 3, 4, 5, 6] rfl rfl rfl rfl rfl (by exact ⟨nM rfl, nM rfl, nQ rfl (by exact qX (yw rfl) rfl), nQ rfl (by exact qX (xv rfl Tryd.runUnderlying70 rfl Tryd.sizeOf68 rfl) rfl), nQ rfl (by exact qX (ut 0 rfl MV rfl ([.slice L8 LY.distances_.lengths_.length Ma, .slice L9 LY.distances_.codes_.length Mb]) rfl rfl Tryd.isAgg68 Tryd.sizeOf68) rfl), nQ rfl (by exact qX (xv rfl Tryd.runUnderlying57 rfl Tryd.sizeOf3 rfl) rfl), nQ rfl (by exact qX (xY 6 rfl Mz rfl rfl Tryd.isAgg3) rfl), trivial⟩) fun D l a w ho hcl hav hpre hm hE hk hA hst => ?_
     have hS := (Ss.mk hE hst).env2 (e' := [(39, .int .i64 ((rd L0 L1).Dist_))]) ⟨rfl, trivial⟩
     refine qQ rfl <| qF hS rfl Tryd.call34 (vp hG K ((rd L0 L1).Dist_) (hS.st.part 0 [0, 1, 2, 3, 4, 5, 6] (by kernel_rfl)) (qs hM) (fun Mi Mm Mp w hM  hst => qA hS.ev hst.appF rfl fun hS => ?_))
     replace hS : Ss _ _ _ H [MU, MT, Mc, Md, Me, Mf, ME] F _ _ := hS
     refine qB ?_
     replace hst := hS.st
     obtain ⟨hcl, hmust, hav2, hA⟩ := dn (vals' := [some (qL LZ 0), some (qL LZ 0), some (qL LZ 0), some (qL LZ 4), some (.agg ⟨[.slice L8 LY.distances_.lengths_.length Ma, .slice L9 LY.distances_.codes_.length Mb]⟩), some (qL Mk 2), some (.int .i64 ((rd L0 L1).Dist_)), some (.agg ⟨[.int .i64 Mi, .int .i64 Mm, .int .u32 Mp]⟩), none]) 7 [(6, 7), (5, 6)] hA hcl hav hm hpre hk rfl rfl rfl rfl rfl rfl rfl
     clear hm hav
     refine y9 hA hst ho hcl hav2 hmust 8 [0, 1, 2, 3, 4] rfl rfl rfl rfl rfl (by exact ⟨nM rfl, nM rfl, nQ rfl (by exact qX (yw rfl) rfl), nQ rfl (by exact qX (xv rfl Tryd.runUnderlying70 rfl Tryd.sizeOf68 rfl) rfl), nQ rfl (by exact qX (ut 0 rfl MV rfl ([.slice L8 LY.distances_.lengths_.length Ma, .slice L9 LY.distances_.codes_.length Mb]) rfl rfl Tryd.isAgg68 Tryd.sizeOf68) rfl), trivial⟩) fun D l a w ho hcl hav hpre hm hE hk hA hst => ?_
     have hS := (Ss.mk hE hst).env2 (e' := [(33, qL LZ 0), (37, .agg ⟨[.slice L8 LY.distances_.lengths_.length Ma, .slice L9 LY.distances_.codes_.length Mb]⟩), (40, .agg ⟨[.int .i64 Mi, .int .i64 Mm, .int .u32 Mp]⟩)]) ⟨rfl, rfl, rfl, trivial⟩
     refine qQ rfl <| qF hS rfl Tryd.call50 (vu hG K (qp.mk (qR.mk (qr.mk M3) MM) LY.literals_ LY.distances_) LY.distances_ (xT.mk Mi Mm Mp) LZ MU Nq Nu MT L3 L5 Mc L4 L6 Md L8 Ma Me L9 Mb Mf MV Nz MA MB MC MD (hS.st.part 6 [0, 1, 2, 3, 4, 5, 6] (by kernel_rfl)) (qs hM) (fun M4 Nr Nv MN Na Nb w hM NA NB hst => qA hS.ev hst.appF rfl fun hS => ?_))
     replace hS : Ss _ _ _ H [Nb, Na, Mc, Md, Me, Mf, ME] F _ _ := hS
     refine qB ?_
     replace hst := hS.st
     obtain ⟨hcl, hmust, hav2, hA⟩ := dn (vals' := [some (qL LZ 0), some (qL LZ 0), some (qL LZ 0), some (qL LZ 4), some (.agg ⟨[.slice L8 LY.distances_.lengths_.length Ma, .slice L9 LY.distances_.codes_.length Mb]⟩), some (qL Mk 2), some (.int .i64 ((rd L0 L1).Dist_)), some (.agg ⟨[.int .i64 Mi, .int .i64 Mm, .int .u32 Mp]⟩), some (.tuple ⟨[]⟩)]) 8 [(0, 8), (4, 8), (7, 8), (3, 4), (6, 7), (2, 3), (5, 6), (1, 2)] hA hcl hav hm hpre hk rfl rfl rfl rfl rfl rfl rfl
     clear hm hav
     refine yk hA hst ho hcl hmust [] rfl rfl rfl trivial fun a w hS => ?_
     replace hS := hS.env2 (e' := [(0, qL LZ 0), (6, .slice Mv L0.length Mx), (7, .int .i64 (L0.length : Int)), (8, .int .i64 L1)]) ⟨rfl, rfl, rfl, rfl, trivial⟩
     refine zy (qe ?_)
     refine zN <| sB hS rfl fun hS => sM hS rfl fun hS => zp <| qe ?_
     exact MX _ _ ⟨M4, Nr, Nv, MN, Na, Nb, (qh (L1 + (1 : Int))), hS.to [0, 1, 2, 3, 4, 5] (by kernel_rfl) ⟨rfl, rfl, rfl, rfl, trivial⟩, NA, NB, hM⟩
   ·refine wp_exit ?_
    refine qE (qE (ze (qe ?_)))
    exact Nk _ _ ⟨Mj, Mw, My, L7, Mt, Mu, hS.to [0, 1, 2, 3, 4, 5] (by kernel_rfl) ⟨rfl, trivial⟩, MF, Mr, hM⟩
 ·intro a w hI
  obtain ⟨Ms, MG, MI, Mg, MJ, MK, hS, Nm, MW, hM⟩ := hI
  rw [zi.j2] at hM
  refine zN <| sM hS rfl fun hS => sM hS rfl fun hS => sO hS (yw rfl) rfl fun hS => sO hS (xv rfl Tryd.runUnderlying70 rfl Tryd.sizeOf68 rfl) rfl fun hS => sO hS (ut 0 rfl MW rfl ([.slice L3 LY.literals_.lengths_.length L5, .slice L4 LY.literals_.codes_.length L6]) rfl rfl Tryd.isAgg68 Tryd.sizeOf68) rfl fun hS => qF hS rfl Tryd.call39 (yp hG K (qp.mk (qR.mk (qr.mk Ms) Mg) LY.literals_ LY.distances_) LY.literals_ (256 : Int) LZ MK MG MI MJ L3 L5 Mc L4 L6 Md L8 Ma Me L9 Mb Mf MW Nm MA MB MC MD (hS.st.part 6 [0, 1, 2, 3, 4, 5] (by kernel_rfl)) (qs hM) (fun M5 Ns Nw MO Nc Nd w hM NC ND hst => qA hS.ev hst.appF rfl fun hS => ?_))
  replace hS : Ss _ _ _ H [Nd, Nc, Mc, Md, Me, Mf] F _ _ := hS
  refine zp ?_
  exact jE (rs := []) hS rfl rfl (hret M5 Ns Nw MO Nc Nd _ (q7 hM) NC ND (hS.st.pick [0, 1, 2, 3, 4, 5] (by kernel_rfl)))
theorem yv {H : xR} {F : List qk} {w : World} {R : Ending → World → Prop} {kr : (List UInt8) → Prop} {kp : Value → Prop} (hG : Gl H) (K : Nat) (LY : qp) (Mb : Nat) (LZ : qk) (L6 : Option Addr) (Mc : Nat) (L0 : qk) (L7 : Option Addr) (Md : Nat) (L1 : qk) (L8 : Option Addr) (Me : Nat) (L3 : qk) (L9 : Option Addr) (Mf : Nat) (L4 : qk) (Ma : Option Addr) (Mg : Nat) (L5 : qk) (Mi : xJ LZ Mb ([.int .i64 LY.Writer_.place_.at_, .slice L6 LY.Writer_.bytes_.length Mc, .slice L7 LY.literals_.lengths_.length Md, .slice L8 LY.literals_.codes_.length Me, .slice L9 LY.distances_.lengths_.length Mf, .slice Ma LY.distances_.codes_.length Mg]) 70) (Mj : xi 5 (ci .u8) 1 L6 LY.Writer_.bytes_ Mc L0) (Ml : xi 3 (ci .i64) 1 L7 LY.literals_.lengths_ Md L1) (Mm : xi 3 (ci .i64) 1 L8 LY.literals_.codes_ Me L3) (Mn : xi 3 (ci .i64) 1 L9 LY.distances_.lengths_ Mf L4) (Mp : xi 3 (ci .i64) 1 Ma LY.distances_.codes_ Mg L5)
    (hS : St w H [LZ, L0, L1, L3, L4, L5] F) (hm : (zX.m K LY).wp kr kp)
    (hret : ∀ (Mh : List UInt8) (w : World), kr Mh → St w H [LZ, L0, L1, L3, L4, L5] F → R (.returned (xf Mh)) w) :
    Calls Tryd.prog 32 ⟨[qL Mb 0]⟩ w R := by
 refine enter Tryd.func32 rfl Tryd.ntmps32 rfl hS fun a w hS => ?_
 have hM := hm; clear hm
 rw [zX.m] at hM
 refine qm <| sA hS rfl fun hS => qB <| wp_seq <| qm <| sM hS rfl fun hS => sO hS (Xz rfl rfl Tryd.runUnderlying105) rfl fun hS => qB <| Xl hS rfl <| wp_skip <| qe <| qm <| sM hS rfl fun hS => sO hS (yw rfl) rfl fun hS => sO hS (xv rfl Tryd.runUnderlying65 rfl Tryd.sizeOf32 rfl) rfl fun hS => sO hS (xY 0 rfl Mi rfl rfl Tryd.isAgg32) rfl fun hS => sO hS (Gr rfl Tryd.runUnderlying32 Tryd.runUnderlying5 Tryd.runUnderlying9 (Mj.rd (i := 1) rfl)) rfl fun hS => zE (v := xf) (x0 := (LY.Writer_.bytes_.map uh)) hS (xy rfl) rfl fun Mk a w hz hS => ?_
 have hM := qy hz hM; clear hz
 refine qB <| wp_ret ?_
 exact zD (rs := [2]) hS rfl rfl (hret Mk _ (q7 hM) (hS.st.pick [0, 1, 2, 3, 4, 5] (by kernel_rfl)))
theorem Z0 {H : xR} {F : List qk} {w : World} {R : Ending → World → Prop} {kr : ((List UInt8) × Int) → Prop} {kp : Value → Prop} (hG : Gl H) (K : Nat) (L3 : List qM) (Mg : Option Addr) (Mh : Nat) (Mx : jG H [] F qM.cells Mg L3) (Mw : L3.length ≤ Mh)
    (hS : St w H [] F) (hm : (jm.m K L3).wp kr kp)
    (hret : ∀ (MD : List UInt8) (ME : Int) (w : World), kr (MD, ME) → St w H [] F → R (.returned (.tuple ⟨[xf MD, .int .i64 ME]⟩)) w) :
    Calls Tryd.prog 16 ⟨[.slice Mg L3.length Mh]⟩ w R := by
 refine enter Tryd.func16 rfl Tryd.ntmps16 rfl hS fun a w hS => ?_
 have hM := hm; clear hm
 rw [jm.m] at hM
 refine qm <| sA hS rfl fun hS => sA hS rfl fun hS => qB <| wp_seq <| qm <| sM hS rfl fun hS => qF hS rfl Tryd.call28 (uQ hG K L3 Mg Mh (Mx.app _) Mw (hS.st.part 0 [] (by kernel_rfl)) (qs hM) (fun M0 w hM  hst => qA hS.ev hst.appF rfl fun hS => ?_))
 replace hS : Ss _ _ _ H [] F _ _ := hS
 refine sO hS (un rfl rfl) rfl fun hS => qB <| qG hS rfl hM (fun MJ hM => ?_) (fun MJ hM => ?_)
 ·refine wp_seq ?_
  refine zN <| sA hS rfl fun hS => sA hS rfl fun hS => qB <| wp_ret <| zm ?_
  exact zD (rs := [2, 3]) hS rfl rfl (hret ([] : List UInt8) (1 : Int) _ (q7 hM) (hS.st.pick [] (by kernel_rfl)))
 ·refine wp_skip ?_
  refine qe <| qm <| sO hS (Z9 ([.int .i64 (0 : Int), .slice none 0 0, .slice none 0 0, .slice none 0 0, .slice none 0 0, .slice none 0 0]) [(0, 2), (2, 2), (4, 2)] Tryd.zeroValue70 Tryd.runUnderlying70 (by intro w; simp [Tryd.sizeOf65, Tryd.sizeOf68]) rfl rfl) rfl fun hS => bx ([.int .i64 (0 : Int), .slice none 0 0, .slice none 0 0, .slice none 0 0, .slice none 0 0, .slice none 0 0]) hS rfl rfl rfl fun w Mp MO MF hS => ?_
  obtain ⟨MA, MI, hS⟩ := hS.nilV 5 (ci .u8) 1
  obtain ⟨Mi, MV, hS⟩ := hS.nilV 3 (ci .i64) 1
  obtain ⟨Mj, MW, hS⟩ := hS.nilV 3 (ci .i64) 1
  obtain ⟨Mk, MX, hS⟩ := hS.nilV 3 (ci .i64) 1
  obtain ⟨Ml, MY, hS⟩ := hS.nilV 3 (ci .i64) 1
  refine sA hS rfl fun hS => qB <| qm <| sM hS rfl fun hS => sM hS rfl fun hS => qF hS rfl Tryd.call29 (uR hG K  (hS.st.part 0 [0, 1, 2, 3, 4, 5] (by kernel_rfl)) (qs hM) (fun L8 Ma LY L4 L9 Mb L0 L5 Mc Me LZ L6 Md Mf L1 L7 w hM Ms Mt Mu Mv hst => qA hS.ev hst.appF rfl fun hS => ?_))
  replace hS : Ss _ _ _ H [L4, L5, L6, L7, Ml, Mk, Mj, Mi, MA, MO] F _ _ := hS
  refine sM hS rfl fun hS => sO hS (ex rfl rfl) rfl fun hS => sO hS (ex rfl rfl) rfl fun hS => sO hS (yw rfl) rfl fun hS => sO hS (xv rfl Tryd.runUnderlying70 rfl Tryd.sizeOf68 rfl) rfl fun hS => Qs 9 ([.slice L8 LY.length Ma, .slice L9 L0.length Mb]) ([.int .i64 (0 : Int), .slice none ([] : List Int).length (0), .slice L8 LY.length Ma, .slice L9 L0.length Mb, .slice none ([] : List Int).length (0), .slice none ([] : List Int).length (0)]) hS rfl rfl MF rfl rfl Tryd.sizeOf68 (by simp [Value.oneCell']) (Nat.le_of_ble_eq_true rfl) rfl fun w MZ MG hS => sO hS (yw rfl) rfl fun hS => sO hS (xv rfl Tryd.runUnderlying70 rfl Tryd.sizeOf68 rfl) rfl fun hS => Qs 9 ([.slice Mc LZ.length Me, .slice Md L1.length Mf]) ([.int .i64 (0 : Int), .slice none ([] : List Int).length (0), .slice L8 LY.length Ma, .slice L9 L0.length Mb, .slice Mc LZ.length Me, .slice Md L1.length Mf]) hS rfl rfl MG rfl rfl Tryd.sizeOf68 (by simp [Value.oneCell']) (Nat.le_of_ble_eq_true rfl) rfl fun w MP MH hS => qB <| qm <| sM hS rfl fun hS => sO hS (yw rfl) rfl fun hS => sO hS (xv rfl Tryd.runUnderlying70 rfl Tryd.sizeOf65 rfl) rfl fun hS => qF hS rfl Tryd.call30 (zk hG K (qp.mk (qR.mk (qr.mk (0 : Int)) ([] : List Int)) (qv.mk LY L0) (qv.mk LZ L1)) (3 : Int) (3 : Int) Mp MP none (0) MA L8 Ma L4 L9 Mb L5 Mc Me L6 Md Mf L7 MH MI Ms Mt Mu Mv (hS.st.part 6 [9, 8, 0, 1, 2, 3, 4, 5, 6, 7] (by kernel_rfl)) (qs hM) (fun M3 My MK MM Mm MB MC w hM MQ MR hst => qA hS.ev hst.appF rfl fun hS => ?_))
  replace hS : Ss _ _ _ H [MC, MB, L4, L5, L6, L7, Ml, Mk, Mj, Mi] F _ _ := hS
  refine qB <| qm <| sM hS rfl fun hS => sM hS rfl fun hS => qF hS rfl Tryd.call31 (js hG K (qp.mk (qR.mk (qr.mk My) Mm) (qv.mk LY L0) (qv.mk LZ L1)) L3 Mp MC MK MM MB L8 Ma L4 L9 Mb L5 Mc Me L6 Md Mf L7 Mg Mh MR MQ Ms Mt Mu Mv (Mx.app _) Mw (hS.st.part 6 [0, 1, 2, 3, 4, 5, 6, 7, 8, 9] (by kernel_rfl)) (qs hM) (fun Mz ML MN Mn Mq Mr w hM MS MT hst => qA hS.ev hst.appF rfl fun hS => ?_))
  replace hS : Ss _ _ _ H [Mr, Mq, L4, L5, L6, L7, Ml, Mk, Mj, Mi] F _ _ := hS
  refine qB <| qm <| sM hS rfl fun hS => sO hS (yw rfl) rfl fun hS => sO hS (xv rfl Tryd.runUnderlying70 rfl Tryd.sizeOf65 rfl) rfl fun hS => qF hS rfl Tryd.call32 (yv hG K (qp.mk (qR.mk (qr.mk Mz) Mn) (qv.mk LY L0) (qv.mk LZ L1)) Mp Mr ML MN Mq L8 Ma L4 L9 Mb L5 Mc Me L6 Md Mf L7 MT MS Ms Mt Mu Mv (hS.st.part 6 [0, 1, 2, 3, 4, 5, 6, 7, 8, 9] (by kernel_rfl)) (qs hM) (fun MU w hM  hst => qA hS.ev hst.appF rfl fun hS => ?_))
  replace hS : Ss _ _ _ H [Mr, Mq, L4, L5, L6, L7, Ml, Mk, Mj, Mi] F _ _ := hS
  refine sA hS rfl fun hS => sA hS rfl fun hS => qB <| wp_ret ?_
  exact zD (rs := [2, 3]) hS rfl rfl (hret MU (0 : Int) _ (q7 hM) (hS.st.pick [] (by kernel_rfl)))
theorem Zq {H : xR} {F : List qk} {w : World} {R : Ending → World → Prop} {kr : Bool → Prop} {kp : Value → Prop} (hG : Gl H) (K : Nat) (LY : Int)
    (hS : St w H [] F) (hm : (jA.m K LY).wp kr kp)
    (hret : ∀ (LZ : Bool) (w : World), kr LZ → St w H [] F → R (.returned (.bool LZ)) w) :
    Calls Tryd.prog 54 ⟨[.int .i64 LY]⟩ w R := by
 refine enter Tryd.func54 rfl Tryd.ntmps54 rfl hS fun a w hS => ?_
 have hM := hm; clear hm
 rw [jA.m] at hM
 refine qm <| sA hS rfl fun hS => qB <| qm <| sM hS rfl fun hS => sB hS rfl fun hS => sM hS rfl fun hS => yS 2 false 5 (b := (decide (LY < (0 : Int)))) (r := (decide (LY > (1099511627776 : Int)))) hS rfl rfl rfl rfl rfl rfl rfl (fun hb a w hS K hK => ?_) rfl fun a w hS => ?_
 ·refine z2 hS rfl rfl rfl hb (mv rfl) rfl fun a w hS => ?_
  refine z2 hS rfl rfl rfl hb (jk rfl rfl rfl) rfl fun a w hS => ?_
  exact zp (hK _ _ (hS.up 2 rfl rfl))
 refine zE (v := Value.bool) (x0 := ((decide (LY < (0 : Int))) || (decide (LY > (1099511627776 : Int))))) hS (xy rfl) rfl fun L0 a w hz hS => ?_
 have hM := qy hz hM; clear hz
 refine qB <| wp_ret ?_
 exact zD (rs := [2]) hS rfl rfl (hret L0 _ (q7 hM) (hS.st.pick [] (by kernel_rfl)))
theorem jq {H : xR} {F : List qk} {w : World} {R : Ending → World → Prop} {kr : Int → Prop} {kp : Value → Prop} (hG : Gl H) (K : Nat) (LY : List Int) (L0 : Option Addr) (L1 : Nat) (L4 : jG H [] F (ci .i64) L0 LY) (Ma : LY.length ≤ L1)
    (hS : St w H [] F) (hm : (zB.m K LY).wp kr kp)
    (hret : ∀ (L6 : Int) (w : World), kr L6 → St w H [] F → R (.returned (.int .i64 L6)) w) :
    Calls Tryd.prog 72 ⟨[.slice L0 LY.length L1, jt 54 [] []]⟩ w R := by
 refine enter Tryd.func72 rfl Tryd.ntmps72 rfl hS fun a w hS => ?_
 have hM := hm; clear hm
 rw [zB.m] at hM
 refine qm <| sA hS rfl fun hS => qB <| wp_seq <| qm <| sM hS rfl fun hS => sO hS (yj rfl Tryd.runUnderlying66) rfl fun hS => sM hS rfl fun hS => qB <| xO <| zu (fun L5 a w => ∃ (LZ : Int), Ss 19 [] [(0, .slice L0 LY.length L1), (1, jt 54 [] []), (7, .int .i64 (LY.length : Int)), (8, .int .i64 LZ)] H [] F a w ∧ (zB.l1 K LY L5 LZ).wp kr kp) K ?_ ?_ ?_
 ·exact ⟨(0 : Int), hS.to [] (by kernel_rfl) ⟨rfl, rfl, rfl, rfl, trivial⟩, hM⟩
 ·intro a w hI; obtain ⟨_, _, hM⟩ := hI; exact zt hM
 ·intro L5 a w hI Mb L7
  obtain ⟨LZ, hS, hM⟩ := hI
  rw [zB.l1] at hM
  refine qm <| sB hS rfl fun hS => qB <| wp_seq <| qG hS rfl hM (fun L8 hM => ?_) (fun L8 hM => ?_)
  ·refine wp_skip ?_
   refine qe <| wp_seq <| xO <| qm <| sM hS rfl fun hS => sA hS rfl fun hS => qB <| qm <| sM hS rfl fun hS => sM hS rfl fun hS => sM hS rfl fun hS => ?_
   obtain ⟨L3, hM⟩ := qK hM
   refine sO hS (yu rfl rfl Tryd.runUnderlying66 Tryd.sizeOf3 L4.wk (fun _ => rfl) rfl L3) rfl fun hS => sO hS (yD rfl L4.wk (fun _ => rfl) L3 rfl Tryd.isAgg3) rfl fun hS => jR hS rfl rfl Tryd.call54 (Zq hG K (rd LY LZ) (hS.st.part 0 [] (by kernel_rfl)) (qs hM) (fun Mc w hM  hst => qA hS.ev hst.appF rfl fun hS => ?_))
   replace hS : Ss _ _ _ H [] F _ _ := hS
   refine qB <| qG hS rfl hM (fun L9 hM => ?_) (fun L9 hM => ?_)
   ·refine wp_seq ?_
    refine zN <| sM hS rfl fun hS => sA hS rfl fun hS => qB <| wp_ret <| x3 (zm (zm (x3 (zm ?_))))
    exact zD (rs := [4]) hS rfl rfl (hret LZ _ (q7 hM) (hS.st.pick [] (by kernel_rfl)))
   ·refine wp_skip ?_
    refine zy (qe ?_)
    refine zN <| sB hS rfl fun hS => sM hS rfl fun hS => zp <| qe ?_
    exact L7 _ _ ⟨(qh (LZ + (1 : Int))), hS.to [] (by kernel_rfl) ⟨rfl, rfl, rfl, rfl, trivial⟩, hM⟩
  ·refine wp_exit ?_
   refine qE (qE (ze (qe ?_)))
   refine qm <| sA hS rfl fun hS => qB <| wp_ret ?_
   exact zD (rs := [4]) hS rfl rfl (hret (-1 : Int) _ (q7 hM) (hS.st.pick [] (by kernel_rfl)))
theorem jh {H : xR} {F : List qk} {w : World} {R : Ending → World → Prop} {kr : Bool → Prop} {kp : Value → Prop} (hG : Gl H) (K : Nat) (LY : List Int) (LZ : Option Addr) (L0 : Nat) (L4 : jG H [] F (ci .i64) LZ LY) (L3 : LY.length ≤ L0)
    (hS : St w H [] F) (hm : (xB.m K LY).wp kr kp)
    (hret : ∀ (L1 : Bool) (w : World), kr L1 → St w H [] F → R (.returned (.bool L1)) w) :
    Calls Tryd.prog 53 ⟨[.slice LZ LY.length L0, jt 54 [] []]⟩ w R := by
 refine enter Tryd.func53 rfl Tryd.ntmps53 rfl hS fun a w hS => ?_
 have hM := hm; clear hm
 rw [xB.m] at hM
 refine qm <| sA hS rfl fun hS => qB <| qm <| sM hS rfl fun hS => sM hS rfl fun hS => qF hS rfl Tryd.call72 (jq hG K LY LZ L0 (L4.app _) L3 (hS.st.part 0 [] (by kernel_rfl)) (qs hM) (fun L6 w hM  hst => qA hS.ev hst.appF rfl fun hS => ?_))
 replace hS : Ss _ _ _ H [] F _ _ := hS
 refine sB hS rfl fun hS => zE (v := Value.bool) (x0 := (decide (L6 ≥ (0 : Int)))) hS (xy rfl) rfl fun L5 a w hz hS => ?_
 have hM := qy hz hM; clear hz
 refine qB <| wp_ret ?_
 exact zD (rs := [4]) hS rfl rfl (hret L5 _ (q7 hM) (hS.st.pick [] (by kernel_rfl)))
def qj (p : qk) (x : qb) (vs : List Value) : Prop :=
  ∃ (A0 : Option Addr) (c0 : Nat), vs = [.int .i64 x.often_, .slice A0 x.symbols_.length c0] ∧ Pl p (ci .i64) A0 x.symbols_ ∧ x.symbols_.length ≤ c0
theorem qj.mono {p p' : qk} (hs : ∀ q ∈ p, q ∈ p') {x : qb} {vs : List Value} (h : qj p x vs) : qj p' x vs := by
  obtain ⟨A0, c0, h0, h1, h2⟩ := h
  exact ⟨A0, c0, h0, h1.mono hs, h2⟩
theorem v2 {H : xR} {F : List qk} {w : World} {R : Ending → World → Prop} {kr : Bool → Prop} {kp : Value → Prop} (hG : Gl H) (K : Nat) (LY : Int)
    (hS : St w H [] F) (hm : (y6.m K LY).wp kr kp)
    (hret : ∀ (LZ : Bool) (w : World), kr LZ → St w H [] F → R (.returned (.bool LZ)) w) :
    Calls Tryd.prog 74 ⟨[.int .i64 LY]⟩ w R := by
 refine enter Tryd.func74 rfl Tryd.ntmps74 rfl hS fun a w hS => ?_
 have hM := hm; clear hm
 rw [y6.m] at hM
 refine qm <| sA hS rfl fun hS => qB <| qm <| sM hS rfl fun hS => sM hS rfl fun hS => sB hS rfl fun hS => zE (v := Value.bool) (x0 := (LY != LY)) hS (xy rfl) rfl fun L0 a w hz hS => ?_
 have hM := qy hz hM; clear hz
 refine qB <| wp_ret ?_
 exact zD (rs := [2]) hS rfl rfl (hret L0 _ (q7 hM) (hS.st.pick [] (by kernel_rfl)))
theorem vo {H : xR} {F : List qk} {w : World} {R : Ending → World → Prop} {kr : Int → Prop} {kp : Value → Prop} (hG : Gl H) (K : Nat) (LY : Int) (LZ : Int)
    (hS : St w H [] F) (hm : (yK.m K LY LZ).wp kr kp)
    (hret : ∀ (L0 : Int) (w : World), kr L0 → St w H [] F → R (.returned (.int .i64 L0)) w) :
    Calls Tryd.prog 57 ⟨[.int .i64 LY, .int .i64 LZ]⟩ w R := by
 refine enter Tryd.func57 rfl Tryd.ntmps57 rfl hS fun a w hS => ?_
 have hM := hm; clear hm
 rw [yK.m] at hM
 refine qm <| sA hS rfl fun hS => qB <| qm <| sM hS rfl fun hS => qF hS rfl Tryd.call74 (v2 hG K LY (hS.st.part 0 [] (by kernel_rfl)) (qs hM) (fun L7 w hM  hst => qA hS.ev hst.appF rfl fun hS => ?_))
 replace hS : Ss _ _ _ H [] F _ _ := hS
 refine sA hS rfl fun hS => qB <| qm <| sM hS rfl fun hS => qF hS rfl Tryd.call74 (v2 hG K LZ (hS.st.part 0 [] (by kernel_rfl)) (qs hM) (fun L8 w hM  hst => qA hS.ev hst.appF rfl fun hS => ?_))
 replace hS : Ss _ _ _ H [] F _ _ := hS
 refine sA hS rfl fun hS => qB <| wp_seq <| qm <| sM hS rfl fun hS => qB <| qG hS rfl hM (fun L1 hM => ?_) (fun L1 hM => ?_)
 ·refine wp_seq ?_
  refine qm <| sM hS rfl fun hS => qB <| qG hS rfl hM (fun L3 hM => ?_) (fun L3 hM => ?_)
  ·refine wp_seq ?_
   refine zN <| sA hS rfl fun hS => qB <| wp_ret <| zm (zm ?_)
   exact zD (rs := [4]) hS rfl rfl (hret (0 : Int) _ (q7 hM) (hS.st.pick [] (by kernel_rfl)))
  ·refine wp_skip ?_
   refine qe <| qm <| sA hS rfl fun hS => qB <| wp_ret <| zm ?_
   exact zD (rs := [4]) hS rfl rfl (hret (-1 : Int) _ (q7 hM) (hS.st.pick [] (by kernel_rfl)))
 ·refine wp_skip ?_
  refine qe <| wp_seq <| qm <| sM hS rfl fun hS => qB <| qG hS rfl hM (fun L4 hM => ?_) (fun L4 hM => ?_)
  ·refine wp_seq ?_
   refine zN <| sA hS rfl fun hS => qB <| wp_ret <| zm ?_
   exact zD (rs := [4]) hS rfl rfl (hret (1 : Int) _ (q7 hM) (hS.st.pick [] (by kernel_rfl)))
  ·refine wp_skip ?_
   refine qe <| wp_seq <| qm <| sM hS rfl fun hS => sM hS rfl fun hS => sB hS rfl fun hS => qB <| qG hS rfl hM (fun L5 hM => ?_) (fun L5 hM => ?_)
   ·refine wp_seq ?_
    refine zN <| sA hS rfl fun hS => qB <| wp_ret <| zm ?_
    exact zD (rs := [4]) hS rfl rfl (hret (-1 : Int) _ (q7 hM) (hS.st.pick [] (by kernel_rfl)))
   ·refine wp_skip ?_
    refine qe <| wp_seq <| qm <| sM hS rfl fun hS => sM hS rfl fun hS => sB hS rfl fun hS => qB <| qG hS rfl hM (fun L6 hM => ?_) (fun L6 hM => ?_)
    ·refine wp_seq ?_
     refine zN <| sA hS rfl fun hS => qB <| wp_ret <| zm ?_
     exact zD (rs := [4]) hS rfl rfl (hret (1 : Int) _ (q7 hM) (hS.st.pick [] (by kernel_rfl)))
    ·refine wp_skip ?_
     refine qe <| qm <| sA hS rfl fun hS => qB <| wp_ret ?_
     exact zD (rs := [4]) hS rfl rfl (hret (0 : Int) _ (q7 hM) (hS.st.pick [] (by kernel_rfl)))
theorem Zr {H : xR} {F : List qk} {w : World} {R : Ending → World → Prop} {kr : Int → Prop} {kp : Value → Prop} (hG : Gl H) (K : Nat) (LY : qb) (LZ : qb) (L0 : Option Addr) (L3 : Nat) (L1 : Option Addr) (L4 : Nat) (Md : jG H [] F (ci .i64) L0 LY.symbols_) (Mb : LY.symbols_.length ≤ L3) (Me : jG H [] F (ci .i64) L1 LZ.symbols_) (Mc : LZ.symbols_.length ≤ L4)
    (hS : St w H [] F) (hm : (xP.m K LY LZ).wp kr kp)
    (hret : ∀ (L5 : Int) (w : World), kr L5 → St w H [] F → R (.returned (.int .i64 L5)) w) :
    Calls Tryd.prog 56 ⟨[.agg ⟨[.int .i64 LY.often_, .slice L0 LY.symbols_.length L3]⟩, .agg ⟨[.int .i64 LZ.often_, .slice L1 LZ.symbols_.length L4]⟩]⟩ w R := by
 refine enter Tryd.func56 rfl Tryd.ntmps56 rfl hS fun a w hS => ?_
 have hM := hm; clear hm
 rw [xP.m] at hM
 refine qm <| bx ([.int .i64 LY.often_, .slice L0 LY.symbols_.length L3]) hS rfl rfl rfl fun w Mf L8 L6 hS => bx ([.int .i64 LZ.often_, .slice L1 LZ.symbols_.length L4]) hS rfl rfl rfl fun w Mg L9 L7 hS => sA hS rfl fun hS => qB <| qm <| sO hS (xv rfl Tryd.runUnderlying112 rfl Tryd.sizeOf3 rfl) rfl fun hS => sO hS (xY 1 rfl L6 rfl rfl Tryd.isAgg3) rfl fun hS => sO hS (xv rfl Tryd.runUnderlying112 rfl Tryd.sizeOf3 rfl) rfl fun hS => sO hS (xY 0 rfl L7 rfl rfl Tryd.isAgg3) rfl fun hS => qF hS rfl Tryd.call57 (vo hG K LY.often_ LZ.often_ (hS.st.part 0 [0, 1] (by kernel_rfl)) (qs hM) (fun Ma w hM  hst => qA hS.ev hst.appF rfl fun hS => ?_))
 replace hS : Ss _ _ _ H [L9, L8] F _ _ := hS
 refine sA hS rfl fun hS => qB <| wp_ret ?_
 exact zD (rs := [4]) hS rfl rfl (hret Ma _ (q7 hM) (hS.st.pick [] (by kernel_rfl)))
theorem Z5 {H : xR} {F : List qk} {w : World} {R : Ending → World → Prop} {kr : Int → Prop} {kp : Value → Prop} (hG : Gl H) (K : Nat) (LY : qb) (LZ : qb) (L0 : Option Addr) (L3 : Nat) (L1 : Option Addr) (L4 : Nat) (Md : jG H [] F (ci .i64) L0 LY.symbols_) (Mb : LY.symbols_.length ≤ L3) (Me : jG H [] F (ci .i64) L1 LZ.symbols_) (Mc : LZ.symbols_.length ≤ L4)
    (hS : St w H [] F) (hm : (xP.m K LY LZ).wp kr kp)
    (hret : ∀ (L5 : Int) (w : World), kr L5 → St w H [] F → R (.returned (.int .i64 L5)) w) :
    Calls Tryd.prog 76 ⟨[.agg ⟨[.int .i64 LY.often_, .slice L0 LY.symbols_.length L3]⟩, .agg ⟨[.int .i64 LZ.often_, .slice L1 LZ.symbols_.length L4]⟩]⟩ w R := by
 refine enter Tryd.func76 rfl Tryd.ntmps76 rfl hS fun a w hS => ?_
 have hM := hm; clear hm
 rw [xP.m] at hM
 refine qm <| bx ([.int .i64 LY.often_, .slice L0 LY.symbols_.length L3]) hS rfl rfl rfl fun w Mf L8 L6 hS => bx ([.int .i64 LZ.often_, .slice L1 LZ.symbols_.length L4]) hS rfl rfl rfl fun w Mg L9 L7 hS => sA hS rfl fun hS => qB <| qm <| sO hS (xv rfl Tryd.runUnderlying112 rfl Tryd.sizeOf3 rfl) rfl fun hS => sO hS (xY 1 rfl L6 rfl rfl Tryd.isAgg3) rfl fun hS => sO hS (xv rfl Tryd.runUnderlying112 rfl Tryd.sizeOf3 rfl) rfl fun hS => sO hS (xY 0 rfl L7 rfl rfl Tryd.isAgg3) rfl fun hS => qF hS rfl Tryd.call57 (vo hG K LY.often_ LZ.often_ (hS.st.part 0 [0, 1] (by kernel_rfl)) (qs hM) (fun Ma w hM  hst => qA hS.ev hst.appF rfl fun hS => ?_))
 replace hS : Ss _ _ _ H [L9, L8] F _ _ := hS
 refine sA hS rfl fun hS => qB <| wp_ret ?_
 exact zD (rs := [4]) hS rfl rfl (hret Ma _ (q7 hM) (hS.st.pick [] (by kernel_rfl)))
theorem Xa (cq : Nat) (hcq : cq = 56 ∨ cq = 76) {H : xR} {F : List qk} {w : World} {R : Ending → World → Prop} {kr : Int → Prop} {kp : Value → Prop} (hG : Gl H) (K : Nat) (LY : qb) (LZ : qb) (L0 : Option Addr) (L3 : Nat) (L1 : Option Addr) (L4 : Nat) (L7 : jG H [] F (ci .i64) L0 LY.symbols_) (L5 : LY.symbols_.length ≤ L3) (L8 : jG H [] F (ci .i64) L1 LZ.symbols_) (L6 : LZ.symbols_.length ≤ L4)
    (hS : St w H [] F) (hm : (xP.m K LY LZ).wp kr kp)
    (hret : ∀ (L9 : Int) (w : World), kr L9 → St w H [] F → R (.returned (.int .i64 L9)) w) :
    Calls Tryd.prog cq ⟨[.agg ⟨[.int .i64 LY.often_, .slice L0 LY.symbols_.length L3]⟩, .agg ⟨[.int .i64 LZ.often_, .slice L1 LZ.symbols_.length L4]⟩]⟩ w R := by
 rcases hcq with rfl | rfl
 · exact Zr hG K LY LZ L0 L3 L1 L4 L7 L5 L8 L6 hS hm hret
 · exact Z5 hG K LY LZ L0 L3 L1 L4 L7 L5 L8 L6 hS hm hret
theorem QN {cq : Nat} (hcq : cq = 56 ∨ cq = 76) (args : Array Value) (w : World) : (callFunc cq args).run Tryd.prog w = .ok (.enter cq args) w := by
 rcases hcq with rfl | rfl
 · exact Tryd.call56 args w
 · exact Tryd.call76 args w
theorem xM (cq : Nat) (hcq : cq = 56 ∨ cq = 76) {H : xR} {F : List qk} {w : World} {R : Ending → World → Prop} {kr : (List qb) → Prop} {kp : Value → Prop} (hG : Gl H) (K : Nat) (Mh : List qb) (L4 : Int) (L6 : Int) (L8 : qk) (L0 : Option Addr) (L3 : Nat) (Ma : List (zT 2)) (MB : qk) (M5 : zH (qj L8) Mh Ma) (MR : xi 112 (zT.v (sz := 2)) 2 L0 Ma L3 MB)
    (hS : St w H [L8, MB] F) (hm : (qc.m K Mh L4 L6).wp kr kp)
    (hret : ∀ (Mw : List (zT 2)) (Ml : (List qb)) (MO : qk) (w : World), kr Ml → (xi 112 (zT.v (sz := 2)) 2 L0 Mw L3 MO) → (zH (qj L8) Ml Mw) → (Mw.length = Ma.length) → St w H [L8, MO] F → R (.returned (.tuple ⟨[]⟩)) w) :
    Calls Tryd.prog 85 ⟨[.slice L0 Ma.length L3, .int .i64 L4, .int .i64 L6, jt cq [] []]⟩ w R := by
 refine enter Tryd.func85 rfl Tryd.ntmps85 rfl hS fun a w hS => ?_
 have hM := hm; clear hm
 rw [qc.m] at hM
 have Nk : ∀ q ∈ L8, q ∈ L8 := fun _ h => h
 have Na : Ma.length = Ma.length := rfl
 refine qm <| sM hS rfl fun hS => sB hS rfl fun hS => zE (v := Value.int .i64) (x0 := (qh (L4 + (1 : Int)))) hS (xy rfl) rfl fun Nh a w hz hS => ?_
 have hM := qy hz hM; clear hz
 refine qB <| xO <| zu (fun Mn a w => ∃ (Mc : List (zT 2)) (Mb : (List qb)) (Mm : qk) (L9 : Int), Ss 53 [] [(0, .slice L0 Mc.length L3), (1, .int .i64 L4), (2, .int .i64 L6), (3, jt cq [] []), (8, .int .i64 L9)] H [L8, Mm] F a w ∧ (xi 112 (zT.v (sz := 2)) 2 L0 Mc L3 Mm) ∧ (zH (qj L8) Mb Mc) ∧ (Mc.length = Ma.length) ∧ (qc.l1 K L4 L6 Mn Mb L9).wp kr kp) K ?_ ?_ ?_
 ·exact ⟨Ma, Mh, MB, Nh, hS.to [0, 1] (by kernel_rfl) ⟨rfl, rfl, rfl, rfl, rfl, trivial⟩, MR, M5, Na, hM⟩
 ·intro a w hI; obtain ⟨_, _, _, _, _, _, _, _, hM⟩ := hI; exact zt hM
 ·intro Mn a w hI Nn MQ
  obtain ⟨Mc, Mb, Mm, L9, hS, MD, MG, MI, hM⟩ := hI
  rw [qc.l1] at hM
  refine wp_seq <| qm <| sM hS rfl fun hS => sM hS rfl fun hS => sB hS rfl fun hS => qB <| qG hS rfl hM (fun MT hM => ?_) (fun MT hM => ?_)
  ·refine wp_skip ?_
   refine qe <| wp_seq <| xO <| qm <| sM hS rfl fun hS => sA hS rfl fun hS => qB <| xO <| zu (fun ML a w => ∃ (L1 : List (zT 2)) (LY : (List qb)) (Mj : qk) (LZ : Int), Ss 53 [] [(0, .slice L0 L1.length L3), (1, .int .i64 L4), (2, .int .i64 L6), (3, jt cq [] []), (8, .int .i64 L9), (9, .int .i64 LZ)] H [L8, Mj] F a w ∧ (xi 112 (zT.v (sz := 2)) 2 L0 L1 L3 Mj) ∧ (zH (qj L8) LY L1) ∧ (L1.length = Ma.length) ∧ (qc.l2 K (qc.l1 K L4 L6 Mn) L4 L9 ML LY LZ).wp kr kp) K ?_ ?_ ?_
   ·exact ⟨Mc, Mb, Mm, L9, hS.to [0, 1] (by kernel_rfl) ⟨rfl, rfl, rfl, rfl, rfl, rfl, trivial⟩, MD, MG, MI, hM⟩
   ·intro a w hI; obtain ⟨_, _, _, _, _, _, _, _, hM⟩ := hI; exact zt hM
   ·intro ML a w hI Nm MP
    obtain ⟨L1, LY, Mj, LZ, hS, L7, L5, MJ, hM⟩ := hI
    rw [qc.l2] at hM
    refine wp_seq <| zj (fun a w => ∃ (MN : Bool), Ss 53 [] [(0, .slice L0 L1.length L3), (1, .int .i64 L4), (2, .int .i64 L6), (3, jt cq [] []), (8, .int .i64 L9), (9, .int .i64 LZ), (34, .bool MN)] H [L8, Mj] F a w ∧ (qc.j3 K (qc.l1 K L4 L6 Mn) (qc.l2 K (qc.l1 K L4 L6 Mn) L4 L9 ML) L9 LY LZ MN).wp kr kp) (fun Nl MC => ?_) ?_
    ·refine Gs (b := (decide (LZ > L4))) hM (fun Mq hM => ?_) (fun Mq hM => ?_)
     ·obtain ⟨Mr, hM⟩ := qK hM
      obtain ⟨Mx, Mz, M6, MZ, MV⟩ := L5.get Mr
      obtain ⟨Ms, hM⟩ := qK hM
      obtain ⟨My, MA, M7, M0, MW⟩ := L5.get Ms
      refine za (vals := [some (.int .i64 LZ), some (.int .i64 L4), some (.bool true), some (.bool true), some (jt cq [] []), some (.slice L0 L1.length L3), some (.int .i64 LZ), some (xG L0 (Int.toNat LZ * 2)), some (.agg ⟨[.int .i64 ((rd LY LZ).often_), .slice Mx ((rd LY LZ).symbols_).length Mz]⟩), some (.slice L0 L1.length L3), some (.int .i64 LZ), some (.int .i64 (qh (LZ - (1 : Int)))), some (xG L0 (Int.toNat (qh (LZ - (1 : Int))) * 2)), some (.agg ⟨[.int .i64 ((rd LY (qh (LZ - (1 : Int)))).often_), .slice My ((rd LY (qh (LZ - (1 : Int)))).symbols_).length MA]⟩), none, none, none]) hS xE rfl ?_
      intro l w ho hcl hA hst
      refine y9 hA hst ho hcl xx xF 14 [0, 1, 2, 3, 4, 5, 6, 7, 8, 9, 10, 11, 12, 13] rfl rfl rfl rfl rfl (by exact ⟨nM rfl, nM rfl, nQ rfl (by exact qX (jk rfl rfl rfl) (congrArg Value.bool Mq)), nM rfl, nW rfl rfl rfl rfl rfl rfl rfl rfl (by exact qX (mv rfl) rfl), nW rfl rfl rfl rfl rfl rfl rfl rfl (by exact qX (mv rfl) rfl), nW rfl rfl rfl rfl rfl rfl rfl rfl (by exact qX (mv rfl) rfl), nW rfl rfl rfl rfl rfl rfl rfl rfl (by exact qX (yu rfl rfl Tryd.runUnderlying110 Tryd.sizeOf112 (L7.rd (i := 1) rfl) zT.len rfl (L5.inb Mr)) rfl), nW rfl rfl rfl rfl rfl rfl rfl rfl (by exact qX (qX (vK rfl (L7.rd (i := 1) rfl) zT.len (L5.inb Mr) Tryd.isAgg112 Tryd.sizeOf112 rfl) (congrArg (fun l => Value.agg ⟨l⟩) M6)) rfl), nW rfl rfl rfl rfl rfl rfl rfl rfl (by exact qX (mv rfl) rfl), nW rfl rfl rfl rfl rfl rfl rfl rfl (by exact qX (mv rfl) rfl), nW rfl rfl rfl rfl rfl rfl rfl rfl (by exact qX (jk rfl rfl rfl) rfl), nW rfl rfl rfl rfl rfl rfl rfl rfl (by exact qX (yu rfl rfl Tryd.runUnderlying110 Tryd.sizeOf112 (L7.rd (i := 1) rfl) zT.len rfl (L5.inb Ms)) rfl), nW rfl rfl rfl rfl rfl rfl rfl rfl (by exact qX (qX (vK rfl (L7.rd (i := 1) rfl) zT.len (L5.inb Ms) Tryd.isAgg112 Tryd.sizeOf112 rfl) (congrArg (fun l => Value.agg ⟨l⟩) M7)) rfl), trivial⟩) fun D l a w ho hcl hav hpre hm hE hk hA hst => ?_
      have hS := (Ss.mk hE hst).env2 (e' := [(21, .bool true), (22, jt cq [] []), (26, .agg ⟨[.int .i64 ((rd LY LZ).often_), .slice Mx ((rd LY LZ).symbols_).length Mz]⟩), (31, .agg ⟨[.int .i64 ((rd LY (qh (LZ - (1 : Int)))).often_), .slice My ((rd LY (qh (LZ - (1 : Int)))).symbols_).length MA]⟩)]) ⟨rfl, rfl, rfl, rfl, trivial⟩
      refine qQ rfl <| Jz hS rfl rfl rfl rfl <| jR hS rfl rfl (QN hcq) (Xa cq hcq hG K (qb.mk ((rd LY LZ).often_) ((rd LY LZ).symbols_)) (qb.mk ((rd LY (qh (LZ - (1 : Int)))).often_) ((rd LY (qh (LZ - (1 : Int)))).symbols_)) Mx Mz My MA (MZ.rdF (i := 0) rfl) MV (M0.rdF (i := 0) rfl) MW (hS.st.part 0 [0, 1] (by kernel_rfl)) (qs hM) (fun Mp w hM  hst => qA hS.ev hst.appF rfl fun hS => ?_))
      replace hS : Ss _ _ _ H [L8, Mj] F _ _ := hS
      refine qB ?_
      replace hst := hS.st
      obtain ⟨hcl, hmust, hav2, hA⟩ := dn (vals' := [some (.int .i64 LZ), some (.int .i64 L4), some (.bool true), some (.bool true), some (jt cq [] []), some (.slice L0 L1.length L3), some (.int .i64 LZ), some (xG L0 (Int.toNat LZ * 2)), some (.agg ⟨[.int .i64 ((rd LY LZ).often_), .slice Mx ((rd LY LZ).symbols_).length Mz]⟩), some (.slice L0 L1.length L3), some (.int .i64 LZ), some (.int .i64 (qh (LZ - (1 : Int)))), some (xG L0 (Int.toNat (qh (LZ - (1 : Int))) * 2)), some (.agg ⟨[.int .i64 ((rd LY (qh (LZ - (1 : Int)))).often_), .slice My ((rd LY (qh (LZ - (1 : Int)))).symbols_).length MA]⟩), some (.int .i64 Mp), some (.bool (decide (Mp < (0 : Int)))), some (.bool (decide (Mp < (0 : Int))))]) 14 [(3, 14), (4, 14), (8, 14), (13, 14), (2, 3), (7, 8), (12, 13), (0, 2), (1, 2), (5, 7), (6, 7), (9, 12), (11, 12), (10, 11)] hA hcl hav hm hpre hk rfl rfl rfl rfl rfl rfl rfl
      clear hm hav
      refine yk hA hst ho hcl hmust [15, 16] rfl rfl rfl (by exact ⟨nW rfl rfl rfl rfl rfl rfl rfl rfl (by exact qX (jk rfl rfl rfl) rfl), nQ rfl (by exact qX (pk rfl rfl rfl) rfl), trivial⟩) fun a w hS => ?_
      replace hS := hS.env2 (e' := [(0, .slice L0 L1.length L3), (1, .int .i64 L4), (2, .int .i64 L6), (3, jt cq [] []), (8, .int .i64 L9), (9, .int .i64 LZ), (34, .bool (decide (Mp < (0 : Int))))]) ⟨rfl, rfl, rfl, rfl, rfl, rfl, rfl, trivial⟩
      refine qe ?_
      exact MC _ _ ⟨(decide (Mp < (0 : Int))), hS.to [0, 1] (by kernel_rfl) ⟨rfl, rfl, rfl, rfl, rfl, rfl, rfl, trivial⟩, hM⟩
     ·refine za (vals := [some (.int .i64 LZ), some (.int .i64 L4), some (.bool false), some (.bool false), some (undef), some (undef), some (undef), some (undef), some (undef), some (undef), some (undef), some (undef), some (undef), some (undef), some (undef), some (undef), some (.bool false)]) hS xE rfl ?_
      intro l w ho hcl hA hst
      refine yk hA hst ho hcl xF [0, 1, 2, 3, 4, 5, 6, 7, 8, 9, 10, 11, 12, 13, 14, 15, 16] rfl rfl rfl (by exact ⟨nM rfl, nM rfl, nQ rfl (by exact qX (jk rfl rfl rfl) (congrArg Value.bool Mq)), nM rfl, nS rfl rfl rfl rfl rfl rfl rfl rfl rfl, nS rfl rfl rfl rfl rfl rfl rfl rfl rfl, nS rfl rfl rfl rfl rfl rfl rfl rfl rfl, nS rfl rfl rfl rfl rfl rfl rfl rfl rfl, nS rfl rfl rfl rfl rfl rfl rfl rfl rfl, nS rfl rfl rfl rfl rfl rfl rfl rfl rfl, nS rfl rfl rfl rfl rfl rfl rfl rfl rfl, nS rfl rfl rfl rfl rfl rfl rfl rfl rfl, nS rfl rfl rfl rfl rfl rfl rfl rfl rfl, nS rfl rfl rfl rfl rfl rfl rfl rfl rfl, nS rfl rfl rfl rfl rfl rfl rfl rfl rfl, nS rfl rfl rfl rfl rfl rfl rfl rfl rfl, nQ rfl (by exact qX (pk rfl rfl rfl) rfl), trivial⟩) fun a w hS => ?_
      replace hS := hS.env2 (e' := [(0, .slice L0 L1.length L3), (1, .int .i64 L4), (2, .int .i64 L6), (3, jt cq [] []), (8, .int .i64 L9), (9, .int .i64 LZ), (34, .bool false)]) ⟨rfl, rfl, rfl, rfl, rfl, rfl, rfl, trivial⟩
      refine qe ?_
      exact MC _ _ ⟨false, hS.to [0, 1] (by kernel_rfl) ⟨rfl, rfl, rfl, rfl, rfl, rfl, rfl, trivial⟩, hM⟩
    ·intro a w hI
     obtain ⟨MN, hS, hM⟩ := hI
     rw [qc.j3] at hM
     refine qG hS rfl hM (fun MU hM => ?_) (fun MU hM => ?_)
     ·refine wp_skip ?_
      refine qe <| wp_seq <| xO ?_
      obtain ⟨Mt, hM⟩ := qK hM
      obtain ⟨Md, Mf, M8, M3, MX⟩ := L5.get Mt
      obtain ⟨Mi, hM⟩ := qK hM
      obtain ⟨Me, Mg, M9, M4, MY⟩ := L5.get Mi
      refine za (vals := [some (.slice L0 L1.length L3), some (.int .i64 LZ), some (.slice L0 L1.length L3), some (.int .i64 LZ), some (.int .i64 (qh (LZ - (1 : Int)))), some (.slice L0 L1.length L3), some (.int .i64 LZ), some (.int .i64 (qh (LZ - (1 : Int)))), some (xG L0 (Int.toNat (qh (LZ - (1 : Int))) * 2)), some (.agg ⟨[.int .i64 ((rd LY (qh (LZ - (1 : Int)))).often_), .slice Md ((rd LY (qh (LZ - (1 : Int)))).symbols_).length Mf]⟩), some (.slice L0 L1.length L3), some (.int .i64 LZ), some (xG L0 (Int.toNat LZ * 2)), some (.agg ⟨[.int .i64 ((rd LY LZ).often_), .slice Me ((rd LY LZ).symbols_).length Mg]⟩), some (xG L0 (Int.toNat LZ * 2)), none, none, none]) hS xE rfl ?_
      intro l w ho hcl hA hst
      refine y9 hA hst ho hcl xx xF 15 [0, 1, 2, 3, 4, 5, 6, 7, 8, 9, 10, 11, 12, 13, 14] rfl rfl rfl rfl rfl (by exact ⟨nM rfl, nM rfl, nM rfl, nM rfl, nB rfl, nM rfl, nM rfl, nB rfl, nQ rfl (by exact qX (yu rfl rfl Tryd.runUnderlying110 Tryd.sizeOf112 (L7.rd (i := 1) rfl) zT.len rfl (L5.inb Mt)) rfl), nQ rfl (by exact qX (qX (vK rfl (L7.rd (i := 1) rfl) zT.len (L5.inb Mt) Tryd.isAgg112 Tryd.sizeOf112 rfl) (congrArg (fun l => Value.agg ⟨l⟩) M8)) rfl), nM rfl, nM rfl, nQ rfl (by exact qX (yu rfl rfl Tryd.runUnderlying110 Tryd.sizeOf112 (L7.rd (i := 1) rfl) zT.len rfl (L5.inb Mi)) rfl), nQ rfl (by exact qX (qX (vK rfl (L7.rd (i := 1) rfl) zT.len (L5.inb Mi) Tryd.isAgg112 Tryd.sizeOf112 rfl) (congrArg (fun l => Value.agg ⟨l⟩) M9)) rfl), nQ rfl (by exact qX (yu rfl rfl Tryd.runUnderlying110 Tryd.sizeOf112 (L7.rd (i := 1) rfl) zT.len rfl (L5.inb Mi)) rfl), trivial⟩) fun D l a w ho hcl hav hpre hm hE hk hA hst => ?_
      have hS := (Ss.mk hE hst).env2 (e' := [(46, .agg ⟨[.int .i64 ((rd LY (qh (LZ - (1 : Int)))).often_), .slice Md ((rd LY (qh (LZ - (1 : Int)))).symbols_).length Mf]⟩), (51, xG L0 (Int.toNat LZ * 2))]) ⟨rfl, rfl, trivial⟩
      refine qQ rfl <| Vt (i := LZ) (sz := 2) 1 (⟨[.int .i64 ((rd LY (qh (LZ - (1 : Int)))).often_), .slice Md ((rd LY (qh (LZ - (1 : Int)))).symbols_).length Mf], by simp, by simp [Value.oneCell']⟩ : zT 2) hS rfl rfl L7 rfl Tryd.sizeOf112 rfl (L5.inb Mi) fun MM w No hz ME hS => ?_
      obtain ⟨Nd, hzm⟩ := vR (LY.set (Int.toNat LZ) (qb.mk ((rd LY (qh (LZ - (1 : Int)))).often_) ((rd LY (qh (LZ - (1 : Int)))).symbols_)))
      replace hM := qy hzm hM
      have Mk := zH.set (x := (qb.mk ((rd LY (qh (LZ - (1 : Int)))).often_) ((rd LY (qh (LZ - (1 : Int)))).symbols_))) (r := (⟨[.int .i64 ((rd LY (qh (LZ - (1 : Int)))).often_), .slice Md ((rd LY (qh (LZ - (1 : Int)))).symbols_).length Mf], by simp, by simp [Value.oneCell']⟩ : zT 2)) (Int.toNat LZ) L5 (show qj L8 _ _ from ⟨Md, Mf, rfl, M3, MX⟩)
      have Mu : MM.length = L1.length := by rw [hz]; exact List.length_set ..
      rw [← hz, ← hzm] at Mk; clear hz hzm
      have Nb := Eq.trans Mu MJ
      refine qB ?_
      replace hst := hS.st
      obtain ⟨MF, hM⟩ := qK hM
      obtain ⟨hcl, hmust, hav2, hA⟩ := Xx (vals' := [some (.slice L0 L1.length L3), some (.int .i64 LZ), some (.slice L0 L1.length L3), some (.int .i64 LZ), some (.int .i64 (qh (LZ - (1 : Int)))), some (.slice L0 L1.length L3), some (.int .i64 LZ), some (.int .i64 (qh (LZ - (1 : Int)))), some (xG L0 (Int.toNat (qh (LZ - (1 : Int))) * 2)), some (.agg ⟨[.int .i64 ((rd LY (qh (LZ - (1 : Int)))).often_), .slice Md ((rd LY (qh (LZ - (1 : Int)))).symbols_).length Mf]⟩), some (.slice L0 L1.length L3), some (.int .i64 LZ), some (xG L0 (Int.toNat LZ * 2)), some (.agg ⟨[.int .i64 ((rd LY LZ).often_), .slice Me ((rd LY LZ).symbols_).length Mg]⟩), some (xG L0 (Int.toNat LZ * 2)), some undef, some (xG L0 (Int.toNat (qh (LZ - (1 : Int))) * 2)), none]) 15 [(0, 15), (1, 15), (5, 15), (6, 15), (7, 15), (8, 15), (9, 15), (13, 15), (14, 15), (12, 13), (10, 12), (11, 12)] hA hcl hav hm hpre rfl rfl rfl rfl rfl
      clear hm hav
      refine y9 hA hst ho hcl hav2 hmust 17 [2, 3, 4, 16] rfl rfl rfl rfl rfl (by exact ⟨nM rfl, nM rfl, nB rfl, nQ rfl (by exact qX (yu (KY Mu rfl) rfl Tryd.runUnderlying110 Tryd.sizeOf112 (ME.rd (i := 1) rfl) zT.len rfl (Mk.inb MF)) rfl), trivial⟩) fun D l a w ho hcl hav hpre hm hE hk hA hst => ?_
      have hS := (Ss.mk hE hst).env2 (e' := [(50, .agg ⟨[.int .i64 ((rd LY LZ).often_), .slice Me ((rd LY LZ).symbols_).length Mg]⟩), (52, xG L0 (Int.toNat (qh (LZ - (1 : Int))) * 2))]) ⟨rfl, rfl, trivial⟩
      refine qQ rfl <| Vt (i := (qh (LZ - (1 : Int)))) (sz := 2) 1 (⟨[.int .i64 ((rd LY LZ).often_), .slice Me ((rd LY LZ).symbols_).length Mg], by simp, by simp [Value.oneCell']⟩ : zT 2) hS rfl rfl ME rfl Tryd.sizeOf112 rfl (Mk.inb MF) fun Mv w Ng hz MS hS => ?_
      obtain ⟨Nf, hzm⟩ := vR (Nd.set (Int.toNat (qh (LZ - (1 : Int)))) (qb.mk ((rd LY LZ).often_) ((rd LY LZ).symbols_)))
      replace hM := qy hzm hM
      have MH := zH.set (x := (qb.mk ((rd LY LZ).often_) ((rd LY LZ).symbols_))) (r := (⟨[.int .i64 ((rd LY LZ).often_), .slice Me ((rd LY LZ).symbols_).length Mg], by simp, by simp [Value.oneCell']⟩ : zT 2)) (Int.toNat (qh (LZ - (1 : Int)))) Mk (show qj L8 _ _ from ⟨Me, Mg, rfl, M4, MY⟩)
      have MK : Mv.length = MM.length := by rw [hz]; exact List.length_set ..
      rw [← hz, ← hzm] at MH; clear hz hzm
      have Nc := Eq.trans MK Nb
      refine qB ?_
      replace hst := hS.st
      obtain ⟨hcl, hmust, hav2, hA⟩ := Xx (vals' := [some (.slice L0 L1.length L3), some (.int .i64 LZ), some (.slice L0 L1.length L3), some (.int .i64 LZ), some (.int .i64 (qh (LZ - (1 : Int)))), some (.slice L0 L1.length L3), some (.int .i64 LZ), some (.int .i64 (qh (LZ - (1 : Int)))), some (xG L0 (Int.toNat (qh (LZ - (1 : Int))) * 2)), some (.agg ⟨[.int .i64 ((rd LY (qh (LZ - (1 : Int)))).often_), .slice Md ((rd LY (qh (LZ - (1 : Int)))).symbols_).length Mf]⟩), some (.slice L0 L1.length L3), some (.int .i64 LZ), some (xG L0 (Int.toNat LZ * 2)), some (.agg ⟨[.int .i64 ((rd LY LZ).often_), .slice Me ((rd LY LZ).symbols_).length Mg]⟩), some (xG L0 (Int.toNat LZ * 2)), some undef, some (xG L0 (Int.toNat (qh (LZ - (1 : Int))) * 2)), some undef]) 17 [(0, 17), (1, 17), (2, 17), (3, 17), (4, 17), (5, 17), (6, 17), (7, 17), (8, 17), (9, 17), (10, 17), (11, 17), (12, 17), (13, 17), (14, 17), (15, 17), (16, 17)] hA hcl hav hm hpre rfl rfl rfl rfl rfl
      clear hm hav
      refine yk hA hst ho hcl hmust [] rfl rfl rfl trivial fun a w hS => ?_
      replace hS := hS.env2 (e' := [(0, .slice L0 Mv.length L3), (1, .int .i64 L4), (2, .int .i64 L6), (3, jt cq [] []), (8, .int .i64 L9), (9, .int .i64 LZ)]) ⟨(Kc (u := .slice L0 L1.length L3) rfl (by rw [MK, Mu])), rfl, rfl, rfl, rfl, rfl, trivial⟩
      refine zy (qe ?_)
      refine zN <| sM hS rfl fun hS => sB hS rfl fun hS => zE (v := Value.int .i64) (x0 := (qh (LZ - (1 : Int)))) hS (xy rfl) rfl fun Nj a w hz hS => ?_
      have hM := qy hz hM; clear hz
      refine zp <| qe ?_
      exact MP _ _ ⟨Mv, Nf, Ng, Nj, hS.to [0, 1] (by kernel_rfl) ⟨rfl, rfl, rfl, rfl, rfl, rfl, trivial⟩, MS, MH, Nc, hM⟩
     ·refine wp_exit ?_
      refine qE (qE (ze (zy (qe ?_))))
      refine zN <| sM hS rfl fun hS => sB hS rfl fun hS => zE (v := Value.int .i64) (x0 := (qh (L9 + (1 : Int)))) hS (xy rfl) rfl fun Ni a w hz hS => ?_
      have hM := qy hz hM; clear hz
      refine zp <| qe ?_
      exact MQ _ _ ⟨L1, LY, Mj, Ni, hS.to [0, 1] (by kernel_rfl) ⟨rfl, rfl, rfl, rfl, rfl, trivial⟩, L7, L5, MJ, hM⟩
  ·refine wp_exit ?_
   refine qE (qE (ze ?_))
   exact jE (rs := []) hS rfl rfl (hret Mc Mb Mm _ (q7 hM) MD MG MI (hS.st.pick [0, 1] (by kernel_rfl)))
theorem xm (cq : Nat) (hcq : cq = 56 ∨ cq = 76) {H : xR} {F : List qk} {w : World} {R : Ending → World → Prop} {kr : (List qb) → Prop} {kp : Value → Prop} (hG : Gl H) (K : Nat) (Me : List qb) (L0 : Int) (L1 : Int) (Mg : Int) (L8 : qk) (L3 : Option Addr) (L5 : Nat) (L7 : List (zT 2)) (Mp : qk) (MG : zH (qj L8) Me L7) (Mz : xi 112 (zT.v (sz := 2)) 2 L3 L7 L5 Mp)
    (hS : St w H [L8, Mp] F) (hm : (qJ.m K Me L0 L1 Mg).wp kr kp)
    (hret : ∀ (Mm : List (zT 2)) (Mi : (List qb)) (Mw : qk) (w : World), kr Mi → (xi 112 (zT.v (sz := 2)) 2 L3 Mm L5 Mw) → (zH (qj L8) Mi Mm) → (Mm.length = L7.length) → St w H [L8, Mw] F → R (.returned (.tuple ⟨[]⟩)) w) :
    Calls Tryd.prog 93 ⟨[.slice L3 L7.length L5, .int .i64 L0, .int .i64 L1, .int .i64 Mg, jt cq [] []]⟩ w R := by
 refine enter Tryd.func93 rfl Tryd.ntmps93 rfl hS fun a w hS => ?_
 have hM := hm; clear hm
 rw [qJ.m] at hM
 have MQ : ∀ q ∈ L8, q ∈ L8 := fun _ h => h
 have MJ : L7.length = L7.length := rfl
 refine qm <| sA hS rfl fun hS => qB <| xO <| zu (fun Mx a w => ∃ (L4 : List (zT 2)) (LZ : (List qb)) (Mn : qk) (LY : Int), Ss 38 [] [(0, .slice L3 L4.length L5), (1, .int .i64 L0), (2, .int .i64 L1), (3, .int .i64 Mg), (10, .int .i64 LY)] H [L8, Mn] F a w ∧ (xi 112 (zT.v (sz := 2)) 2 L3 L4 L5 Mn) ∧ (zH (qj L8) LZ L4) ∧ (L4.length = L7.length) ∧ (qJ.l1 K L0 L1 Mg Mx LZ LY).wp kr kp) K ?_ ?_ ?_
 ·exact ⟨L7, Me, Mp, (0 : Int), hS.to [0, 1] (by kernel_rfl) ⟨rfl, rfl, rfl, rfl, rfl, trivial⟩, Mz, MG, MJ, hM⟩
 ·intro a w hI; obtain ⟨_, _, _, _, _, _, _, _, hM⟩ := hI; exact zt hM
 ·intro Mx a w hI MR My
  obtain ⟨L4, LZ, Mn, LY, hS, L9, L6, Mt, hM⟩ := hI
  rw [qJ.l1] at hM
  refine wp_seq <| qm <| sM hS rfl fun hS => sM hS rfl fun hS => sB hS rfl fun hS => qB <| qG hS rfl hM (fun MB hM => ?_) (fun MB hM => ?_)
  ·refine wp_skip ?_
   refine qe <| wp_seq <| xO ?_
   obtain ⟨Mj, hM⟩ := qK hM
   obtain ⟨Ma, Mc, MH, ME, MC⟩ := L6.get Mj
   obtain ⟨Mf, hM⟩ := qK hM
   obtain ⟨Mb, Md, MI, MF, MD⟩ := L6.get Mf
   refine za (vals := [some (.slice L3 L4.length L5), some (.int .i64 L0), some (.int .i64 LY), some (.int .i64 (qh (L0 + LY))), some (.slice L3 L4.length L5), some (.int .i64 L1), some (.int .i64 LY), some (.int .i64 (qh (L1 + LY))), some (.slice L3 L4.length L5), some (.int .i64 L1), some (.int .i64 LY), some (.int .i64 (qh (L1 + LY))), some (xG L3 (Int.toNat (qh (L1 + LY)) * 2)), some (.agg ⟨[.int .i64 ((rd LZ (qh (L1 + LY))).often_), .slice Ma ((rd LZ (qh (L1 + LY))).symbols_).length Mc]⟩), some (.slice L3 L4.length L5), some (.int .i64 L0), some (.int .i64 LY), some (.int .i64 (qh (L0 + LY))), some (xG L3 (Int.toNat (qh (L0 + LY)) * 2)), some (.agg ⟨[.int .i64 ((rd LZ (qh (L0 + LY))).often_), .slice Mb ((rd LZ (qh (L0 + LY))).symbols_).length Md]⟩), some (xG L3 (Int.toNat (qh (L0 + LY)) * 2)), none, none, none]) hS xE rfl ?_
   intro l w ho hcl hA hst
   refine y9 hA hst ho hcl xx xF 21 [0, 1, 2, 3, 4, 5, 6, 7, 8, 9, 10, 11, 12, 13, 14, 15, 16, 17, 18, 19, 20] rfl rfl rfl rfl rfl (by exact ⟨nM rfl, nM rfl, nM rfl, nB rfl, nM rfl, nM rfl, nM rfl, nB rfl, nM rfl, nM rfl, nM rfl, nB rfl, nQ rfl (by exact qX (yu rfl rfl Tryd.runUnderlying110 Tryd.sizeOf112 (L9.rd (i := 1) rfl) zT.len rfl (L6.inb Mj)) rfl), nQ rfl (by exact qX (qX (vK rfl (L9.rd (i := 1) rfl) zT.len (L6.inb Mj) Tryd.isAgg112 Tryd.sizeOf112 rfl) (congrArg (fun l => Value.agg ⟨l⟩) MH)) rfl), nM rfl, nM rfl, nM rfl, nB rfl, nQ rfl (by exact qX (yu rfl rfl Tryd.runUnderlying110 Tryd.sizeOf112 (L9.rd (i := 1) rfl) zT.len rfl (L6.inb Mf)) rfl), nQ rfl (by exact qX (qX (vK rfl (L9.rd (i := 1) rfl) zT.len (L6.inb Mf) Tryd.isAgg112 Tryd.sizeOf112 rfl) (congrArg (fun l => Value.agg ⟨l⟩) MI)) rfl), nQ rfl (by exact qX (yu rfl rfl Tryd.runUnderlying110 Tryd.sizeOf112 (L9.rd (i := 1) rfl) zT.len rfl (L6.inb Mf)) rfl), trivial⟩) fun D l a w ho hcl hav hpre hm hE hk hA hst => ?_
   have hS := (Ss.mk hE hst).env2 (e' := [(29, .agg ⟨[.int .i64 ((rd LZ (qh (L1 + LY))).often_), .slice Ma ((rd LZ (qh (L1 + LY))).symbols_).length Mc]⟩), (36, xG L3 (Int.toNat (qh (L0 + LY)) * 2))]) ⟨rfl, rfl, trivial⟩
   refine qQ rfl <| Vt (i := (qh (L0 + LY))) (sz := 2) 1 (⟨[.int .i64 ((rd LZ (qh (L1 + LY))).often_), .slice Ma ((rd LZ (qh (L1 + LY))).symbols_).length Mc], by simp, by simp [Value.oneCell']⟩ : zT 2) hS rfl rfl L9 rfl Tryd.sizeOf112 rfl (L6.inb Mf) fun Mv w MS hz Mq hS => ?_
   obtain ⟨MM, hzm⟩ := vR (LZ.set (Int.toNat (qh (L0 + LY))) (qb.mk ((rd LZ (qh (L1 + LY))).often_) ((rd LZ (qh (L1 + LY))).symbols_)))
   replace hM := qy hzm hM
   have Mh := zH.set (x := (qb.mk ((rd LZ (qh (L1 + LY))).often_) ((rd LZ (qh (L1 + LY))).symbols_))) (r := (⟨[.int .i64 ((rd LZ (qh (L1 + LY))).often_), .slice Ma ((rd LZ (qh (L1 + LY))).symbols_).length Mc], by simp, by simp [Value.oneCell']⟩ : zT 2)) (Int.toNat (qh (L0 + LY))) L6 (show qj L8 _ _ from ⟨Ma, Mc, rfl, ME, MC⟩)
   have Mk : Mv.length = L4.length := by rw [hz]; exact List.length_set ..
   rw [← hz, ← hzm] at Mh; clear hz hzm
   have MK := Eq.trans Mk Mt
   refine qB ?_
   replace hst := hS.st
   obtain ⟨Mr, hM⟩ := qK hM
   obtain ⟨hcl, hmust, hav2, hA⟩ := Xx (vals' := [some (.slice L3 L4.length L5), some (.int .i64 L0), some (.int .i64 LY), some (.int .i64 (qh (L0 + LY))), some (.slice L3 L4.length L5), some (.int .i64 L1), some (.int .i64 LY), some (.int .i64 (qh (L1 + LY))), some (.slice L3 L4.length L5), some (.int .i64 L1), some (.int .i64 LY), some (.int .i64 (qh (L1 + LY))), some (xG L3 (Int.toNat (qh (L1 + LY)) * 2)), some (.agg ⟨[.int .i64 ((rd LZ (qh (L1 + LY))).often_), .slice Ma ((rd LZ (qh (L1 + LY))).symbols_).length Mc]⟩), some (.slice L3 L4.length L5), some (.int .i64 L0), some (.int .i64 LY), some (.int .i64 (qh (L0 + LY))), some (xG L3 (Int.toNat (qh (L0 + LY)) * 2)), some (.agg ⟨[.int .i64 ((rd LZ (qh (L0 + LY))).often_), .slice Mb ((rd LZ (qh (L0 + LY))).symbols_).length Md]⟩), some (xG L3 (Int.toNat (qh (L0 + LY)) * 2)), some undef, some (xG L3 (Int.toNat (qh (L1 + LY)) * 2)), none]) 21 [(0, 21), (1, 21), (2, 21), (3, 21), (8, 21), (9, 21), (10, 21), (11, 21), (12, 21), (13, 21), (19, 21), (20, 21), (18, 19), (14, 18), (17, 18), (15, 17), (16, 17)] hA hcl hav hm hpre rfl rfl rfl rfl rfl
   clear hm hav
   refine y9 hA hst ho hcl hav2 hmust 23 [4, 5, 6, 7, 22] rfl rfl rfl rfl rfl (by exact ⟨nM rfl, nM rfl, nM rfl, nB rfl, nQ rfl (by exact qX (yu (KY Mk rfl) rfl Tryd.runUnderlying110 Tryd.sizeOf112 (Mq.rd (i := 1) rfl) zT.len rfl (Mh.inb Mr)) rfl), trivial⟩) fun D l a w ho hcl hav hpre hm hE hk hA hst => ?_
   have hS := (Ss.mk hE hst).env2 (e' := [(35, .agg ⟨[.int .i64 ((rd LZ (qh (L0 + LY))).often_), .slice Mb ((rd LZ (qh (L0 + LY))).symbols_).length Md]⟩), (37, xG L3 (Int.toNat (qh (L1 + LY)) * 2))]) ⟨rfl, rfl, trivial⟩
   refine qQ rfl <| Vt (i := (qh (L1 + LY))) (sz := 2) 1 (⟨[.int .i64 ((rd LZ (qh (L0 + LY))).often_), .slice Mb ((rd LZ (qh (L0 + LY))).symbols_).length Md], by simp, by simp [Value.oneCell']⟩ : zT 2) hS rfl rfl Mq rfl Tryd.sizeOf112 rfl (Mh.inb Mr) fun Ml w MO hz MA hS => ?_
   obtain ⟨MN, hzm⟩ := vR (MM.set (Int.toNat (qh (L1 + LY))) (qb.mk ((rd LZ (qh (L0 + LY))).often_) ((rd LZ (qh (L0 + LY))).symbols_)))
   replace hM := qy hzm hM
   have Ms := zH.set (x := (qb.mk ((rd LZ (qh (L0 + LY))).often_) ((rd LZ (qh (L0 + LY))).symbols_))) (r := (⟨[.int .i64 ((rd LZ (qh (L0 + LY))).often_), .slice Mb ((rd LZ (qh (L0 + LY))).symbols_).length Md], by simp, by simp [Value.oneCell']⟩ : zT 2)) (Int.toNat (qh (L1 + LY))) Mh (show qj L8 _ _ from ⟨Mb, Md, rfl, MF, MD⟩)
   have Mu : Ml.length = Mv.length := by rw [hz]; exact List.length_set ..
   rw [← hz, ← hzm] at Ms; clear hz hzm
   have ML := Eq.trans Mu MK
   refine qB ?_
   replace hst := hS.st
   obtain ⟨hcl, hmust, hav2, hA⟩ := Xx (vals' := [some (.slice L3 L4.length L5), some (.int .i64 L0), some (.int .i64 LY), some (.int .i64 (qh (L0 + LY))), some (.slice L3 L4.length L5), some (.int .i64 L1), some (.int .i64 LY), some (.int .i64 (qh (L1 + LY))), some (.slice L3 L4.length L5), some (.int .i64 L1), some (.int .i64 LY), some (.int .i64 (qh (L1 + LY))), some (xG L3 (Int.toNat (qh (L1 + LY)) * 2)), some (.agg ⟨[.int .i64 ((rd LZ (qh (L1 + LY))).often_), .slice Ma ((rd LZ (qh (L1 + LY))).symbols_).length Mc]⟩), some (.slice L3 L4.length L5), some (.int .i64 L0), some (.int .i64 LY), some (.int .i64 (qh (L0 + LY))), some (xG L3 (Int.toNat (qh (L0 + LY)) * 2)), some (.agg ⟨[.int .i64 ((rd LZ (qh (L0 + LY))).often_), .slice Mb ((rd LZ (qh (L0 + LY))).symbols_).length Md]⟩), some (xG L3 (Int.toNat (qh (L0 + LY)) * 2)), some undef, some (xG L3 (Int.toNat (qh (L1 + LY)) * 2)), some undef]) 23 [(0, 23), (1, 23), (2, 23), (3, 23), (4, 23), (5, 23), (6, 23), (7, 23), (8, 23), (9, 23), (10, 23), (11, 23), (12, 23), (13, 23), (14, 23), (15, 23), (16, 23), (17, 23), (18, 23), (19, 23), (20, 23), (21, 23), (22, 23)] hA hcl hav hm hpre rfl rfl rfl rfl rfl
   clear hm hav
   refine yk hA hst ho hcl hmust [] rfl rfl rfl trivial fun a w hS => ?_
   replace hS := hS.env2 (e' := [(0, .slice L3 Ml.length L5), (1, .int .i64 L0), (2, .int .i64 L1), (3, .int .i64 Mg), (10, .int .i64 LY)]) ⟨(Kc (u := .slice L3 L4.length L5) rfl (by rw [Mu, Mk])), rfl, rfl, rfl, rfl, trivial⟩
   refine zy (qe ?_)
   refine zN <| sM hS rfl fun hS => sB hS rfl fun hS => zE (v := Value.int .i64) (x0 := (qh (LY + (1 : Int)))) hS (xy rfl) rfl fun MP a w hz hS => ?_
   have hM := qy hz hM; clear hz
   refine zp <| qe ?_
   exact My _ _ ⟨Ml, MN, MO, MP, hS.to [0, 1] (by kernel_rfl) ⟨rfl, rfl, rfl, rfl, rfl, trivial⟩, MA, Ms, ML, hM⟩
  ·refine wp_exit ?_
   refine qE (qE (ze ?_))
   exact jE (rs := []) hS rfl rfl (hret L4 LZ Mn _ (q7 hM) L9 L6 Mt (hS.st.pick [0, 1] (by kernel_rfl)))
theorem yI (cq : Nat) (hcq : cq = 56 ∨ cq = 76) {H : xR} {F : List qk} {w : World} {R : Ending → World → Prop} {kr : (List qb) → Prop} {kp : Value → Prop} (hG : Gl H) (K : Nat) (Ma : List qb) (Me : Int) (L3 : Int) (Mf : Int) (L1 : qk) (LY : Option Addr) (LZ : Nat) (L5 : List (zT 2)) (Ms : qk) (MH : zH (qj L1) Ma L5) (MD : xi 112 (zT.v (sz := 2)) 2 LY L5 LZ Ms)
    (hS : St w H [L1, Ms] F) (hm : (qw.m K Ma Me L3 Mf).wp kr kp)
    (hret : ∀ (Mm : List (zT 2)) (Mc : (List qb)) (MA : qk) (w : World), kr Mc → (xi 112 (zT.v (sz := 2)) 2 LY Mm LZ MA) → (zH (qj L1) Mc Mm) → (Mm.length = L5.length) → St w H [L1, MA] F → R (.returned (.tuple ⟨[]⟩)) w) :
    Calls Tryd.prog 92 ⟨[.slice LY L5.length LZ, .int .i64 Me, .int .i64 L3, .int .i64 Mf, jt cq [] []]⟩ w R := by
 refine enter Tryd.func92 rfl Tryd.ntmps92 rfl hS fun a w hS => ?_
 have hM := hm; clear hm
 rw [qw.m] at hM
 have MY : ∀ q ∈ L1, q ∈ L1 := fun _ h => h
 have MJ : L5.length = L5.length := rfl
 refine qm <| sM hS rfl fun hS => sM hS rfl fun hS => sB hS rfl fun hS => zE (v := Value.int .i64) (x0 := (qh (L3 - Me))) hS (xy rfl) rfl fun MU a w hz hS => ?_
 have hM := qy hz hM; clear hz
 refine qB <| qm <| sM hS rfl fun hS => sM hS rfl fun hS => sB hS rfl fun hS => zE (v := Value.int .i64) (x0 := (qh (Mf - L3))) hS (xy rfl) rfl fun MW a w hz hS => ?_
 have hM := qy hz hM; clear hz
 refine qB <| zj (fun a w => ∃ (L7 : List (zT 2)) (L8 : (List qb)) (Mn : qk) (Md : Int), Ss 58 [] [(0, .slice LY L7.length LZ), (2, .int .i64 L3), (4, jt cq [] []), (10, .int .i64 Md)] H [L1, Mn] F a w ∧ (xi 112 (zT.v (sz := 2)) 2 LY L7 LZ Mn) ∧ (zH (qj L1) L8 L7) ∧ (L7.length = L5.length) ∧ (qw.j2 K L3 L8 Md).wp kr kp) (fun M0 MC => ?_) ?_
 ·refine xO ?_
  refine zu (fun MB a w => ∃ (L0 : List (zT 2)) (L4 : (List qb)) (Mb : qk) (L6 : Int) (L9 : Int), Ss 58 [] [(0, .slice LY L0.length LZ), (2, .int .i64 L3), (4, jt cq [] []), (10, .int .i64 L6), (11, .int .i64 L9)] H [L1, Mb] F a w ∧ (xi 112 (zT.v (sz := 2)) 2 LY L0 LZ Mb) ∧ (zH (qj L1) L4 L0) ∧ (L0.length = L5.length) ∧ (qw.l1 K L3 MB L4 L6 L9).wp kr kp) K ?_ ?_ ?_
  ·exact ⟨L5, Ma, Ms, MU, MW, hS.to [0, 1] (by kernel_rfl) ⟨rfl, rfl, rfl, rfl, rfl, trivial⟩, MD, MH, MJ, hM⟩
  ·intro a w hI; obtain ⟨_, _, _, _, _, _, _, _, _, hM⟩ := hI; exact zt hM
  ·intro MB a w hI MZ Mw
   obtain ⟨L0, L4, Mb, L6, L9, hS, Mg, Mh, Mi, hM⟩ := hI
   rw [qw.l1] at hM
   refine wp_seq <| qm <| sM hS rfl fun hS => sM hS rfl fun hS => sB hS rfl fun hS => qB <| qG hS rfl hM (fun MF hM => ?_) (fun MF hM => ?_)
   ·refine wp_skip ?_
    refine qe <| xO <| qm <| sM hS rfl fun hS => sM hS rfl fun hS => sB hS rfl fun hS => qB <| qG hS rfl hM (fun MG hM => ?_) (fun MG hM => ?_)
    ·refine wp_seq ?_
     refine zN <| sM hS rfl fun hS => sM hS rfl fun hS => sM hS rfl fun hS => sB hS rfl fun hS => sM hS rfl fun hS => sM hS rfl fun hS => sM hS rfl fun hS => qF hS rfl Tryd.call93 (xm cq hcq hG K L4 (qh (L3 - L6)) L3 L9 L1 LY LZ L0 Mb Mh Mg (hS.st.part 2 [0, 1] (by kernel_rfl)) (qs hM) (fun Mj Mp Mx w hM MO MP Mt hst => qA hS.ev hst.appF rfl fun hS => ?_))
     replace hS : Ss _ _ _ H [L1, Mx] F _ _ := hS
     have MK := Eq.trans Mt Mi
     replace hS := hS.re 0 (u := .slice LY L0.length LZ) (v := .slice LY Mj.length LZ) rfl (by rw [Mt])
     replace hS := hS.re 24 (u := .slice LY L0.length LZ) (v := .slice LY Mj.length LZ) rfl (by rw [Mt])
     refine qB <| zN <| sM hS rfl fun hS => sM hS rfl fun hS => sB hS rfl fun hS => zE (v := Value.int .i64) (x0 := (qh (L6 - L9))) hS (xy rfl) rfl fun MV a w hz hS => ?_
     have hM := qy hz hM; clear hz
     refine zp <| zy (qe ?_)
     exact Mw _ _ ⟨Mj, Mp, Mx, MV, L9, hS.to [0, 1] (by kernel_rfl) ⟨rfl, rfl, rfl, rfl, rfl, trivial⟩, MO, MP, MK, hM⟩
    ·refine wp_seq ?_
     refine zN <| sM hS rfl fun hS => sM hS rfl fun hS => sM hS rfl fun hS => sB hS rfl fun hS => sM hS rfl fun hS => sM hS rfl fun hS => sB hS rfl fun hS => sM hS rfl fun hS => sB hS rfl fun hS => sM hS rfl fun hS => sM hS rfl fun hS => qF hS rfl Tryd.call93 (xm cq hcq hG K L4 (qh (L3 - L6)) (qh ((qh (L3 + L9)) - L6)) L6 L1 LY LZ L0 Mb Mh Mg (hS.st.part 2 [0, 1] (by kernel_rfl)) (qs hM) (fun Mk Mq My w hM MQ MR Mu hst => qA hS.ev hst.appF rfl fun hS => ?_))
     replace hS : Ss _ _ _ H [L1, My] F _ _ := hS
     have ML := Eq.trans Mu Mi
     replace hS := hS.re 0 (u := .slice LY L0.length LZ) (v := .slice LY Mk.length LZ) rfl (by rw [Mu])
     replace hS := hS.re 35 (u := .slice LY L0.length LZ) (v := .slice LY Mk.length LZ) rfl (by rw [Mu])
     refine qB <| zN <| sM hS rfl fun hS => sM hS rfl fun hS => sB hS rfl fun hS => zE (v := Value.int .i64) (x0 := (qh (L9 - L6))) hS (xy rfl) rfl fun MX a w hz hS => ?_
     have hM := qy hz hM; clear hz
     refine zp <| zy (qe ?_)
     exact Mw _ _ ⟨Mk, Mq, My, L6, MX, hS.to [0, 1] (by kernel_rfl) ⟨rfl, rfl, rfl, rfl, rfl, trivial⟩, MQ, MR, ML, hM⟩
   ·refine wp_exit ?_
    refine qE (qE (ze (qe ?_)))
    exact MC _ _ ⟨L0, L4, Mb, L6, hS.to [0, 1] (by kernel_rfl) ⟨rfl, rfl, rfl, rfl, trivial⟩, Mg, Mh, Mi, hM⟩
 ·intro a w hI
  obtain ⟨L7, L8, Mn, Md, hS, ME, MI, MM, hM⟩ := hI
  rw [qw.j2] at hM
  refine zN <| sM hS rfl fun hS => sM hS rfl fun hS => sM hS rfl fun hS => sB hS rfl fun hS => sM hS rfl fun hS => sM hS rfl fun hS => sM hS rfl fun hS => qF hS rfl Tryd.call93 (xm cq hcq hG K L8 (qh (L3 - Md)) L3 Md L1 LY LZ L7 Mn MI ME (hS.st.part 2 [0, 1] (by kernel_rfl)) (qs hM) (fun Ml Mr Mz w hM MS MT Mv hst => qA hS.ev hst.appF rfl fun hS => ?_))
  replace hS : Ss _ _ _ H [L1, Mz] F _ _ := hS
  have MN := Eq.trans Mv MM
  replace hS := hS.re 0 (u := .slice LY L7.length LZ) (v := .slice LY Ml.length LZ) rfl (by rw [Mv])
  replace hS := hS.re 50 (u := .slice LY L7.length LZ) (v := .slice LY Ml.length LZ) rfl (by rw [Mv])
  refine zp ?_
  exact jE (rs := []) hS rfl rfl (hret Ml Mr Mz _ (q7 hM) MS MT MN (hS.st.pick [0, 1] (by kernel_rfl)))
theorem yz (cq : Nat) (hcq : cq = 56 ∨ cq = 76) (K : Nat) : ∀ (d : Nat) {H : xR} {F : List qk} {w : World} {R : Ending → World → Prop} {kr : (List qb) → Prop} {kp : Value → Prop} (hG : Gl H) (LY : List qb) (L7 : Int) (L8 : Int) (Mb : Int) (Ma : qk) (LZ : Option Addr) (L3 : Nat) (L6 : List (zT 2)) (Mi : qk) (Mc : zH (qj Ma) LY L6) (Mh : xi 112 (zT.v (sz := 2)) 2 LZ L6 L3 Mi)
    (hS : St w H [Ma, Mi] F) (hm : (qa.r K d LY L7 L8 Mb).wp kr kp)
    (hret : ∀ (Nd : List (zT 2)) (MT : (List qb)) (N6 : qk) (w : World), kr MT → (xi 112 (zT.v (sz := 2)) 2 LZ Nd L3 N6) → (zH (qj Ma) MT Nd) → (Nd.length = L6.length) → St w H [Ma, N6] F → R (.returned (.tuple ⟨[]⟩)) w),
    Calls Tryd.prog 86 ⟨[.slice LZ L6.length L3, .int .i64 L7, .int .i64 L8, .int .i64 Mb, jt cq [] []]⟩ w R := by
  intro d
  induction d with
  | zero => intro H F w R kr kp hG LY L7 L8 Mb Ma LZ L3 L6 Mi Mc Mh hS hm hret; exact (zt hm).elim
  | succ d ih =>
  intro H F w R kr kp hG LY L7 L8 Mb Ma LZ L3 L6 Mi Mc Mh hS hm hret
  have hM := hm; clear hm
  rw [qa.r] at hM; rw [qa.b] at hM
  refine enter Tryd.func86 rfl Tryd.ntmps86 rfl hS fun a w hS => ?_
  have Sw : ∀ q ∈ Ma, q ∈ Ma := fun _ h => h
  have MS : L6.length = L6.length := rfl
  refine zj (fun a w => Ss 220 [] [(0, .slice LZ L6.length L3), (1, .int .i64 L7), (2, .int .i64 L8), (3, .int .i64 Mb), (4, jt cq [] [])] H [Ma, Mi] F a w ∧ (qa.j4 K (qa.r K d) LY L7 L8 Mb).wp kr kp) (fun SA Pe => ?_) ?_
  ·refine wp_seq ?_
   refine zN <| sM hS rfl fun hS => sM hS rfl fun hS => sB hS rfl fun hS => sB hS rfl fun hS => qB <| qG hS rfl hM (fun Pm hM => ?_) (fun Pm hM => ?_)
   ·refine wp_seq ?_
    refine zN <| sM hS rfl fun hS => sA hS rfl fun hS => qB <| qm <| sM hS rfl fun hS => sA hS rfl fun hS => qB <| zj (fun a w => ∃ (ML : Int), Ss 220 [] [(0, .slice LZ L6.length L3), (1, .int .i64 L7), (10, .int .i64 ML)] H [Ma, Mi] F a w ∧ (qa.j2 K (qa.r K d) LY L7 ML).wp kr kp) (fun Sy Pc => ?_) ?_
    ·refine xO ?_
     refine zu (fun N7 a w => ∃ (MJ : Int) (MN : Int), Ss 220 [] [(0, .slice LZ L6.length L3), (1, .int .i64 L7), (4, jt cq [] []), (10, .int .i64 MJ), (11, .int .i64 MN)] H [Ma, Mi] F a w ∧ (qa.l1 K (qa.r K d) LY L7 N7 MJ MN).wp kr kp) K ?_ ?_ ?_
     ·exact ⟨L8, Mb, hS.to [0, 1] (by kernel_rfl) ⟨rfl, rfl, rfl, rfl, rfl, trivial⟩, hM⟩
     ·intro a w hI; obtain ⟨_, _, _, hM⟩ := hI; exact zt hM
     ·intro N7 a w hI Sx NE
      obtain ⟨MJ, MN, hS, hM⟩ := hI
      rw [qa.l1] at hM
      refine wp_seq <| qm <| sM hS rfl fun hS => sM hS rfl fun hS => sB hS rfl fun hS => qB <| qG hS rfl hM (fun Pn hM => ?_) (fun Pn hM => ?_)
      ·refine wp_skip ?_
       refine qe <| xO <| qm <| sM hS rfl fun hS => sM hS rfl fun hS => sB hS rfl fun hS => sO hS (vU rfl Tryd.runUnderlying3 Tryd.runUnderlying47) rfl fun hS => sO hS (shr rfl rfl rfl) rfl fun hS => sO hS (vU rfl Tryd.runUnderlying47 Tryd.runUnderlying3) rfl fun hS => zE (v := Value.int .i64) (x0 := (wr .i64 (z9 .u64 (wr .u64 (qh (MJ + MN))) (1 : Int)))) hS (xy rfl) rfl fun Mm a w hz hS => ?_
       have hM := qy hz hM; clear hz
       refine qB <| wp_seq ?_
       obtain ⟨MW, hM⟩ := qK hM
       obtain ⟨Nf, Nl, PW, PM, PB⟩ := Mc.get MW
       obtain ⟨MX, hM⟩ := qK hM
       obtain ⟨Ng, Nm, PX, PN, PC⟩ := Mc.get MX
       refine za (vals := [some (jt cq [] []), some (.slice LZ L6.length L3), some (.int .i64 Mm), some (xG LZ (Int.toNat Mm * 2)), some (.agg ⟨[.int .i64 ((rd LY Mm).often_), .slice Nf ((rd LY Mm).symbols_).length Nl]⟩), some (.slice LZ L6.length L3), some (.int .i64 L7), some (xG LZ (Int.toNat L7 * 2)), some (.agg ⟨[.int .i64 ((rd LY L7).often_), .slice Ng ((rd LY L7).symbols_).length Nm]⟩), none, none]) hS xE rfl ?_
       intro l w ho hcl hA hst
       refine y9 hA hst ho hcl xx xF 9 [0, 1, 2, 3, 4, 5, 6, 7, 8] rfl rfl rfl rfl rfl (by exact ⟨nM rfl, nM rfl, nM rfl, nQ rfl (by exact qX (yu rfl rfl Tryd.runUnderlying110 Tryd.sizeOf112 (Mh.rd (i := 1) rfl) zT.len rfl (Mc.inb MW)) rfl), nQ rfl (by exact qX (qX (vK rfl (Mh.rd (i := 1) rfl) zT.len (Mc.inb MW) Tryd.isAgg112 Tryd.sizeOf112 rfl) (congrArg (fun l => Value.agg ⟨l⟩) PW)) rfl), nM rfl, nM rfl, nQ rfl (by exact qX (yu rfl rfl Tryd.runUnderlying110 Tryd.sizeOf112 (Mh.rd (i := 1) rfl) zT.len rfl (Mc.inb MX)) rfl), nQ rfl (by exact qX (qX (vK rfl (Mh.rd (i := 1) rfl) zT.len (Mc.inb MX) Tryd.isAgg112 Tryd.sizeOf112 rfl) (congrArg (fun l => Value.agg ⟨l⟩) PX)) rfl), trivial⟩) fun D l a w ho hcl hav hpre hm hE hk hA hst => ?_
       have hS := (Ss.mk hE hst).env2 (e' := [(40, jt cq [] []), (44, .agg ⟨[.int .i64 ((rd LY Mm).often_), .slice Nf ((rd LY Mm).symbols_).length Nl]⟩), (48, .agg ⟨[.int .i64 ((rd LY L7).often_), .slice Ng ((rd LY L7).symbols_).length Nm]⟩)]) ⟨rfl, rfl, rfl, trivial⟩
       refine qQ rfl <| jR hS rfl rfl (QN hcq) (Xa cq hcq hG K (qb.mk ((rd LY Mm).often_) ((rd LY Mm).symbols_)) (qb.mk ((rd LY L7).often_) ((rd LY L7).symbols_)) Nf Nl Ng Nm (PM.rdF (i := 0) rfl) PB (PN.rdF (i := 0) rfl) PC (hS.st.part 0 [0, 1] (by kernel_rfl)) (qs hM) (fun N2 w hM  hst => qA hS.ev hst.appF rfl fun hS => ?_))
       replace hS : Ss _ _ _ H [Ma, Mi] F _ _ := hS
       refine qB ?_
       replace hst := hS.st
       obtain ⟨hcl, hmust, hav2, hA⟩ := dn (vals' := [some (jt cq [] []), some (.slice LZ L6.length L3), some (.int .i64 Mm), some (xG LZ (Int.toNat Mm * 2)), some (.agg ⟨[.int .i64 ((rd LY Mm).often_), .slice Nf ((rd LY Mm).symbols_).length Nl]⟩), some (.slice LZ L6.length L3), some (.int .i64 L7), some (xG LZ (Int.toNat L7 * 2)), some (.agg ⟨[.int .i64 ((rd LY L7).often_), .slice Ng ((rd LY L7).symbols_).length Nm]⟩), some (.int .i64 N2), some (.bool (decide (N2 < (0 : Int))))]) 9 [(0, 9), (4, 9), (8, 9), (3, 4), (7, 8), (1, 3), (2, 3), (5, 7), (6, 7)] hA hcl hav hm hpre hk rfl rfl rfl rfl rfl rfl rfl
       clear hm hav
       refine yk hA hst ho hcl hmust [10] rfl rfl rfl (by exact ⟨nB rfl, trivial⟩) fun a w hS => ?_
       replace hS := hS.env2 (e' := [(0, .slice LZ L6.length L3), (1, .int .i64 L7), (4, jt cq [] []), (10, .int .i64 MJ), (11, .int .i64 MN), (12, .int .i64 Mm), (50, .bool (decide (N2 < (0 : Int))))]) ⟨rfl, rfl, rfl, rfl, rfl, rfl, rfl, trivial⟩
       refine qe <| qG hS rfl hM (fun Po hM => ?_) (fun Po hM => ?_)
       ·refine zN ?_
        refine sM hS rfl fun hS => sB hS rfl fun hS => zE (v := Value.int .i64) (x0 := (qh (Mm + (1 : Int)))) hS (xy rfl) rfl fun Su a w hz hS => ?_
        have hM := qy hz hM; clear hz
        refine zp <| zy (qe ?_)
        exact NE _ _ ⟨Su, MN, hS.to [0, 1] (by kernel_rfl) ⟨rfl, rfl, rfl, rfl, rfl, trivial⟩, hM⟩
       ·refine zN ?_
        refine sM hS rfl fun hS => sA hS rfl fun hS => zp <| zy (qe ?_)
        exact NE _ _ ⟨MJ, Mm, hS.to [0, 1] (by kernel_rfl) ⟨rfl, rfl, rfl, rfl, rfl, trivial⟩, hM⟩
      ·refine wp_exit ?_
       refine qE (qE (ze (qe ?_)))
       exact Pc _ _ ⟨MJ, hS.to [0, 1] (by kernel_rfl) ⟨rfl, rfl, rfl, trivial⟩, hM⟩
    ·intro a w hI
     obtain ⟨ML, hS, hM⟩ := hI
     rw [qa.j2] at hM
     refine wp_seq <| qm <| sM hS rfl fun hS => sA hS rfl fun hS => qB <| xO <| zu (fun N8 a w => ∃ (Me : List (zT 2)) (L4 : (List qb)) (Nr : qk) (L0 : Int), Ss 220 [] [(0, .slice LZ Me.length L3), (10, .int .i64 ML), (13, .int .i64 L0)] H [Ma, Nr] F a w ∧ (xi 112 (zT.v (sz := 2)) 2 LZ Me L3 Nr) ∧ (zH (qj Ma) L4 Me) ∧ (Me.length = L6.length) ∧ (qa.l3 K (qa.r K d) ML N8 L4 L0).wp kr kp) K ?_ ?_ ?_
     ·exact ⟨L6, LY, Mi, L7, hS.to [0, 1] (by kernel_rfl) ⟨rfl, rfl, rfl, trivial⟩, Mh, Mc, MS, hM⟩
     ·intro a w hI; obtain ⟨_, _, _, _, _, _, _, _, hM⟩ := hI; exact zt hM
     ·intro N8 a w hI Sz Pd
      obtain ⟨Me, L4, Nr, L0, hS, Mx, Mp, NU, hM⟩ := hI
      rw [qa.l3] at hM
      refine wp_seq <| qm <| sM hS rfl fun hS => sM hS rfl fun hS => sB hS rfl fun hS => sB hS rfl fun hS => qB <| qG hS rfl hM (fun Pp hM => ?_) (fun Pp hM => ?_)
      ·refine wp_skip ?_
       refine qe <| wp_seq <| xO ?_
       obtain ⟨MY, hM⟩ := qK hM
       obtain ⟨Mz, MD, PY, PO, PD⟩ := Mp.get MY
       obtain ⟨MH, hM⟩ := qK hM
       obtain ⟨MA, ME, PZ, PP, PE⟩ := Mp.get MH
       refine za (vals := [some (.slice LZ Me.length L3), some (.int .i64 L0), some (.slice LZ Me.length L3), some (.int .i64 L0), some (.int .i64 (qh (L0 + (1 : Int)))), some (.slice LZ Me.length L3), some (.int .i64 L0), some (.int .i64 (qh (L0 + (1 : Int)))), some (xG LZ (Int.toNat (qh (L0 + (1 : Int))) * 2)), some (.agg ⟨[.int .i64 ((rd L4 (qh (L0 + (1 : Int)))).often_), .slice Mz ((rd L4 (qh (L0 + (1 : Int)))).symbols_).length MD]⟩), some (.slice LZ Me.length L3), some (.int .i64 L0), some (xG LZ (Int.toNat L0 * 2)), some (.agg ⟨[.int .i64 ((rd L4 L0).often_), .slice MA ((rd L4 L0).symbols_).length ME]⟩), some (xG LZ (Int.toNat L0 * 2)), none, none, none]) hS xE rfl ?_
       intro l w ho hcl hA hst
       refine y9 hA hst ho hcl xx xF 15 [0, 1, 2, 3, 4, 5, 6, 7, 8, 9, 10, 11, 12, 13, 14] rfl rfl rfl rfl rfl (by exact ⟨nM rfl, nM rfl, nM rfl, nM rfl, nB rfl, nM rfl, nM rfl, nB rfl, nQ rfl (by exact qX (yu rfl rfl Tryd.runUnderlying110 Tryd.sizeOf112 (Mx.rd (i := 1) rfl) zT.len rfl (Mp.inb MY)) rfl), nQ rfl (by exact qX (qX (vK rfl (Mx.rd (i := 1) rfl) zT.len (Mp.inb MY) Tryd.isAgg112 Tryd.sizeOf112 rfl) (congrArg (fun l => Value.agg ⟨l⟩) PY)) rfl), nM rfl, nM rfl, nQ rfl (by exact qX (yu rfl rfl Tryd.runUnderlying110 Tryd.sizeOf112 (Mx.rd (i := 1) rfl) zT.len rfl (Mp.inb MH)) rfl), nQ rfl (by exact qX (qX (vK rfl (Mx.rd (i := 1) rfl) zT.len (Mp.inb MH) Tryd.isAgg112 Tryd.sizeOf112 rfl) (congrArg (fun l => Value.agg ⟨l⟩) PZ)) rfl), nQ rfl (by exact qX (yu rfl rfl Tryd.runUnderlying110 Tryd.sizeOf112 (Mx.rd (i := 1) rfl) zT.len rfl (Mp.inb MH)) rfl), trivial⟩) fun D l a w ho hcl hav hpre hm hE hk hA hst => ?_
       have hS := (Ss.mk hE hst).env2 (e' := [(70, .agg ⟨[.int .i64 ((rd L4 (qh (L0 + (1 : Int)))).often_), .slice Mz ((rd L4 (qh (L0 + (1 : Int)))).symbols_).length MD]⟩), (75, xG LZ (Int.toNat L0 * 2))]) ⟨rfl, rfl, trivial⟩
       refine qQ rfl <| Vt (i := L0) (sz := 2) 1 (⟨[.int .i64 ((rd L4 (qh (L0 + (1 : Int)))).often_), .slice Mz ((rd L4 (qh (L0 + (1 : Int)))).symbols_).length MD], by simp, by simp [Value.oneCell']⟩ : zT 2) hS rfl rfl Mx rfl Tryd.sizeOf112 rfl (Mp.inb MH) fun N0 w SL hz NK hS => ?_
       obtain ⟨Sf, hzm⟩ := vR (L4.set (Int.toNat L0) (qb.mk ((rd L4 (qh (L0 + (1 : Int)))).often_) ((rd L4 (qh (L0 + (1 : Int)))).symbols_)))
       replace hM := qy hzm hM
       have MQ := zH.set (x := (qb.mk ((rd L4 (qh (L0 + (1 : Int)))).often_) ((rd L4 (qh (L0 + (1 : Int)))).symbols_))) (r := (⟨[.int .i64 ((rd L4 (qh (L0 + (1 : Int)))).often_), .slice Mz ((rd L4 (qh (L0 + (1 : Int)))).symbols_).length MD], by simp, by simp [Value.oneCell']⟩ : zT 2)) (Int.toNat L0) Mp (show qj Ma _ _ from ⟨Mz, MD, rfl, PO, PD⟩)
       have M6 : N0.length = Me.length := by rw [hz]; exact List.length_set ..
       rw [← hz, ← hzm] at MQ; clear hz hzm
       have P6 := Eq.trans M6 NU
       refine qB ?_
       replace hst := hS.st
       obtain ⟨NO, hM⟩ := qK hM
       obtain ⟨hcl, hmust, hav2, hA⟩ := Xx (vals' := [some (.slice LZ Me.length L3), some (.int .i64 L0), some (.slice LZ Me.length L3), some (.int .i64 L0), some (.int .i64 (qh (L0 + (1 : Int)))), some (.slice LZ Me.length L3), some (.int .i64 L0), some (.int .i64 (qh (L0 + (1 : Int)))), some (xG LZ (Int.toNat (qh (L0 + (1 : Int))) * 2)), some (.agg ⟨[.int .i64 ((rd L4 (qh (L0 + (1 : Int)))).often_), .slice Mz ((rd L4 (qh (L0 + (1 : Int)))).symbols_).length MD]⟩), some (.slice LZ Me.length L3), some (.int .i64 L0), some (xG LZ (Int.toNat L0 * 2)), some (.agg ⟨[.int .i64 ((rd L4 L0).often_), .slice MA ((rd L4 L0).symbols_).length ME]⟩), some (xG LZ (Int.toNat L0 * 2)), some undef, some (xG LZ (Int.toNat (qh (L0 + (1 : Int))) * 2)), none]) 15 [(0, 15), (1, 15), (5, 15), (6, 15), (7, 15), (8, 15), (9, 15), (13, 15), (14, 15), (12, 13), (10, 12), (11, 12)] hA hcl hav hm hpre rfl rfl rfl rfl rfl
       clear hm hav
       refine y9 hA hst ho hcl hav2 hmust 17 [2, 3, 4, 16] rfl rfl rfl rfl rfl (by exact ⟨nM rfl, nM rfl, nB rfl, nQ rfl (by exact qX (yu (KY M6 rfl) rfl Tryd.runUnderlying110 Tryd.sizeOf112 (NK.rd (i := 1) rfl) zT.len rfl (MQ.inb NO)) rfl), trivial⟩) fun D l a w ho hcl hav hpre hm hE hk hA hst => ?_
       have hS := (Ss.mk hE hst).env2 (e' := [(74, .agg ⟨[.int .i64 ((rd L4 L0).often_), .slice MA ((rd L4 L0).symbols_).length ME]⟩), (76, xG LZ (Int.toNat (qh (L0 + (1 : Int))) * 2))]) ⟨rfl, rfl, trivial⟩
       refine qQ rfl <| Vt (i := (qh (L0 + (1 : Int)))) (sz := 2) 1 (⟨[.int .i64 ((rd L4 L0).often_), .slice MA ((rd L4 L0).symbols_).length ME], by simp, by simp [Value.oneCell']⟩ : zT 2) hS rfl rfl NK rfl Tryd.sizeOf112 rfl (MQ.inb NO) fun M8 w Sj hz Pj hS => ?_
       obtain ⟨Sg, hzm⟩ := vR (Sf.set (Int.toNat (qh (L0 + (1 : Int)))) (qb.mk ((rd L4 L0).often_) ((rd L4 L0).symbols_)))
       replace hM := qy hzm hM
       have NQ := zH.set (x := (qb.mk ((rd L4 L0).often_) ((rd L4 L0).symbols_))) (r := (⟨[.int .i64 ((rd L4 L0).often_), .slice MA ((rd L4 L0).symbols_).length ME], by simp, by simp [Value.oneCell']⟩ : zT 2)) (Int.toNat (qh (L0 + (1 : Int)))) MQ (show qj Ma _ _ from ⟨MA, ME, rfl, PP, PE⟩)
       have NV : M8.length = N0.length := by rw [hz]; exact List.length_set ..
       rw [← hz, ← hzm] at NQ; clear hz hzm
       have P7 := Eq.trans NV P6
       refine qB ?_
       replace hst := hS.st
       obtain ⟨hcl, hmust, hav2, hA⟩ := Xx (vals' := [some (.slice LZ Me.length L3), some (.int .i64 L0), some (.slice LZ Me.length L3), some (.int .i64 L0), some (.int .i64 (qh (L0 + (1 : Int)))), some (.slice LZ Me.length L3), some (.int .i64 L0), some (.int .i64 (qh (L0 + (1 : Int)))), some (xG LZ (Int.toNat (qh (L0 + (1 : Int))) * 2)), some (.agg ⟨[.int .i64 ((rd L4 (qh (L0 + (1 : Int)))).often_), .slice Mz ((rd L4 (qh (L0 + (1 : Int)))).symbols_).length MD]⟩), some (.slice LZ Me.length L3), some (.int .i64 L0), some (xG LZ (Int.toNat L0 * 2)), some (.agg ⟨[.int .i64 ((rd L4 L0).often_), .slice MA ((rd L4 L0).symbols_).length ME]⟩), some (xG LZ (Int.toNat L0 * 2)), some undef, some (xG LZ (Int.toNat (qh (L0 + (1 : Int))) * 2)), some undef]) 17 [(0, 17), (1, 17), (2, 17), (3, 17), (4, 17), (5, 17), (6, 17), (7, 17), (8, 17), (9, 17), (10, 17), (11, 17), (12, 17), (13, 17), (14, 17), (15, 17), (16, 17)] hA hcl hav hm hpre rfl rfl rfl rfl rfl
       clear hm hav
       refine yk hA hst ho hcl hmust [] rfl rfl rfl trivial fun a w hS => ?_
       replace hS := hS.env2 (e' := [(0, .slice LZ M8.length L3), (10, .int .i64 ML), (13, .int .i64 L0)]) ⟨(Kc (u := .slice LZ Me.length L3) rfl (by rw [NV, M6])), rfl, rfl, trivial⟩
       refine zy (qe ?_)
       refine zN <| sM hS rfl fun hS => sB hS rfl fun hS => zE (v := Value.int .i64) (x0 := (qh (L0 + (1 : Int)))) hS (xy rfl) rfl fun Sd a w hz hS => ?_
       have hM := qy hz hM; clear hz
       refine zp <| qe ?_
       exact Pd _ _ ⟨M8, Sg, Sj, Sd, hS.to [0, 1] (by kernel_rfl) ⟨rfl, rfl, rfl, trivial⟩, Pj, NQ, P7, hM⟩
      ·refine wp_exit ?_
       refine qE (qE (ze (qe ?_)))
       refine wp_ret <| zm ?_
       exact zD (rs := []) hS rfl rfl (hret Me L4 Nr _ (q7 hM) Mx Mp NU (hS.st.pick [0, 1] (by kernel_rfl)))
   ·refine wp_skip ?_
    refine qe ?_
    exact Pe _ _ ⟨hS.to [0, 1] (by kernel_rfl) ⟨rfl, rfl, rfl, rfl, rfl, trivial⟩, hM⟩
  ·intro a w hI
   obtain ⟨hS, hM⟩ := hI
   rw [qa.j4] at hM
   refine zj (fun a w => Ss 220 [] [(0, .slice LZ L6.length L3), (1, .int .i64 L7), (2, .int .i64 L8), (3, .int .i64 Mb), (4, jt cq [] [])] H [Ma, Mi] F a w ∧ (qa.j8 K (qa.r K d) LY L7 L8 Mb).wp kr kp) (fun SE Ph => ?_) ?_
   ·refine wp_seq ?_
    refine zN <| sM hS rfl fun hS => sM hS rfl fun hS => sB hS rfl fun hS => sB hS rfl fun hS => qB <| qG hS rfl hM (fun Pq hM => ?_) (fun Pq hM => ?_)
    ·refine wp_seq ?_
     refine zN <| sM hS rfl fun hS => sA hS rfl fun hS => qB <| qm <| sM hS rfl fun hS => sA hS rfl fun hS => qB <| zj (fun a w => ∃ (MM : Int), Ss 220 [] [(0, .slice LZ L6.length L3), (2, .int .i64 L8), (14, .int .i64 MM)] H [Ma, Mi] F a w ∧ (qa.j6 K (qa.r K d) LY L8 MM).wp kr kp) (fun SC Pf => ?_) ?_
     ·refine xO ?_
      refine zu (fun N9 a w => ∃ (MK : Int) (MO : Int), Ss 220 [] [(0, .slice LZ L6.length L3), (2, .int .i64 L8), (4, jt cq [] []), (14, .int .i64 MK), (15, .int .i64 MO)] H [Ma, Mi] F a w ∧ (qa.l5 K (qa.r K d) LY L8 N9 MK MO).wp kr kp) K ?_ ?_ ?_
      ·exact ⟨L7, L8, hS.to [0, 1] (by kernel_rfl) ⟨rfl, rfl, rfl, rfl, rfl, trivial⟩, hM⟩
      ·intro a w hI; obtain ⟨_, _, _, hM⟩ := hI; exact zt hM
      ·intro N9 a w hI SB NF
       obtain ⟨MK, MO, hS, hM⟩ := hI
       rw [qa.l5] at hM
       refine wp_seq <| qm <| sM hS rfl fun hS => sM hS rfl fun hS => sB hS rfl fun hS => qB <| qG hS rfl hM (fun Pr hM => ?_) (fun Pr hM => ?_)
       ·refine wp_skip ?_
        refine qe <| xO <| qm <| sM hS rfl fun hS => sM hS rfl fun hS => sB hS rfl fun hS => sO hS (vU rfl Tryd.runUnderlying3 Tryd.runUnderlying47) rfl fun hS => sO hS (shr rfl rfl rfl) rfl fun hS => sO hS (vU rfl Tryd.runUnderlying47 Tryd.runUnderlying3) rfl fun hS => zE (v := Value.int .i64) (x0 := (wr .i64 (z9 .u64 (wr .u64 (qh (MK + MO))) (1 : Int)))) hS (xy rfl) rfl fun Mn a w hz hS => ?_
        have hM := qy hz hM; clear hz
        refine qB <| wp_seq ?_
        obtain ⟨MZ, hM⟩ := qK hM
        obtain ⟨Nh, Nn, P0, PQ, PF⟩ := Mc.get MZ
        obtain ⟨M0, hM⟩ := qK hM
        obtain ⟨Ni, No, P1, PR, PG⟩ := Mc.get M0
        refine za (vals := [some (jt cq [] []), some (.slice LZ L6.length L3), some (.int .i64 L8), some (xG LZ (Int.toNat L8 * 2)), some (.agg ⟨[.int .i64 ((rd LY L8).often_), .slice Nh ((rd LY L8).symbols_).length Nn]⟩), some (.slice LZ L6.length L3), some (.int .i64 Mn), some (xG LZ (Int.toNat Mn * 2)), some (.agg ⟨[.int .i64 ((rd LY Mn).often_), .slice Ni ((rd LY Mn).symbols_).length No]⟩), none, none, none]) hS xE rfl ?_
        intro l w ho hcl hA hst
        refine y9 hA hst ho hcl xx xF 9 [0, 1, 2, 3, 4, 5, 6, 7, 8] rfl rfl rfl rfl rfl (by exact ⟨nM rfl, nM rfl, nM rfl, nQ rfl (by exact qX (yu rfl rfl Tryd.runUnderlying110 Tryd.sizeOf112 (Mh.rd (i := 1) rfl) zT.len rfl (Mc.inb MZ)) rfl), nQ rfl (by exact qX (qX (vK rfl (Mh.rd (i := 1) rfl) zT.len (Mc.inb MZ) Tryd.isAgg112 Tryd.sizeOf112 rfl) (congrArg (fun l => Value.agg ⟨l⟩) P0)) rfl), nM rfl, nM rfl, nQ rfl (by exact qX (yu rfl rfl Tryd.runUnderlying110 Tryd.sizeOf112 (Mh.rd (i := 1) rfl) zT.len rfl (Mc.inb M0)) rfl), nQ rfl (by exact qX (qX (vK rfl (Mh.rd (i := 1) rfl) zT.len (Mc.inb M0) Tryd.isAgg112 Tryd.sizeOf112 rfl) (congrArg (fun l => Value.agg ⟨l⟩) P1)) rfl), trivial⟩) fun D l a w ho hcl hav hpre hm hE hk hA hst => ?_
        have hS := (Ss.mk hE hst).env2 (e' := [(92, jt cq [] []), (96, .agg ⟨[.int .i64 ((rd LY L8).often_), .slice Nh ((rd LY L8).symbols_).length Nn]⟩), (100, .agg ⟨[.int .i64 ((rd LY Mn).often_), .slice Ni ((rd LY Mn).symbols_).length No]⟩)]) ⟨rfl, rfl, rfl, trivial⟩
        refine qQ rfl <| jR hS rfl rfl (QN hcq) (Xa cq hcq hG K (qb.mk ((rd LY L8).often_) ((rd LY L8).symbols_)) (qb.mk ((rd LY Mn).often_) ((rd LY Mn).symbols_)) Nh Nn Ni No (PQ.rdF (i := 0) rfl) PF (PR.rdF (i := 0) rfl) PG (hS.st.part 0 [0, 1] (by kernel_rfl)) (qs hM) (fun Nu w hM  hst => qA hS.ev hst.appF rfl fun hS => ?_))
        replace hS : Ss _ _ _ H [Ma, Mi] F _ _ := hS
        refine qB ?_
        replace hst := hS.st
        obtain ⟨hcl, hmust, hav2, hA⟩ := dn (vals' := [some (jt cq [] []), some (.slice LZ L6.length L3), some (.int .i64 L8), some (xG LZ (Int.toNat L8 * 2)), some (.agg ⟨[.int .i64 ((rd LY L8).often_), .slice Nh ((rd LY L8).symbols_).length Nn]⟩), some (.slice LZ L6.length L3), some (.int .i64 Mn), some (xG LZ (Int.toNat Mn * 2)), some (.agg ⟨[.int .i64 ((rd LY Mn).often_), .slice Ni ((rd LY Mn).symbols_).length No]⟩), some (.int .i64 Nu), some (.bool (decide (Nu < (0 : Int)))), some (.bool (!(decide (Nu < (0 : Int)))))]) 9 [(0, 9), (4, 9), (8, 9), (3, 4), (7, 8), (1, 3), (2, 3), (5, 7), (6, 7)] hA hcl hav hm hpre hk rfl rfl rfl rfl rfl rfl rfl
        clear hm hav
        refine yk hA hst ho hcl hmust [10, 11] rfl rfl rfl (by exact ⟨nB rfl, nQ rfl (by exact qX (un rfl rfl) rfl), trivial⟩) fun a w hS => ?_
        replace hS := hS.env2 (e' := [(0, .slice LZ L6.length L3), (2, .int .i64 L8), (4, jt cq [] []), (14, .int .i64 MK), (15, .int .i64 MO), (16, .int .i64 Mn), (103, .bool (!(decide (Nu < (0 : Int)))))]) ⟨rfl, rfl, rfl, rfl, rfl, rfl, rfl, trivial⟩
        refine qe <| qG hS rfl hM (fun Ps hM => ?_) (fun Ps hM => ?_)
        ·refine zN ?_
         refine sM hS rfl fun hS => sB hS rfl fun hS => zE (v := Value.int .i64) (x0 := (qh (Mn + (1 : Int)))) hS (xy rfl) rfl fun Sv a w hz hS => ?_
         have hM := qy hz hM; clear hz
         refine zp <| zy (qe ?_)
         exact NF _ _ ⟨Sv, MO, hS.to [0, 1] (by kernel_rfl) ⟨rfl, rfl, rfl, rfl, rfl, trivial⟩, hM⟩
        ·refine zN ?_
         refine sM hS rfl fun hS => sA hS rfl fun hS => zp <| zy (qe ?_)
         exact NF _ _ ⟨MK, Mn, hS.to [0, 1] (by kernel_rfl) ⟨rfl, rfl, rfl, rfl, rfl, trivial⟩, hM⟩
       ·refine wp_exit ?_
        refine qE (qE (ze (qe ?_)))
        exact Pf _ _ ⟨MK, hS.to [0, 1] (by kernel_rfl) ⟨rfl, rfl, rfl, trivial⟩, hM⟩
     ·intro a w hI
      obtain ⟨MM, hS, hM⟩ := hI
      rw [qa.j6] at hM
      refine wp_seq <| qm <| sM hS rfl fun hS => sA hS rfl fun hS => qB <| xO <| zu (fun Pa a w => ∃ (Mf : List (zT 2)) (L5 : (List qb)) (Ns : qk) (L1 : Int), Ss 220 [] [(0, .slice LZ Mf.length L3), (14, .int .i64 MM), (17, .int .i64 L1)] H [Ma, Ns] F a w ∧ (xi 112 (zT.v (sz := 2)) 2 LZ Mf L3 Ns) ∧ (zH (qj Ma) L5 Mf) ∧ (Mf.length = L6.length) ∧ (qa.l7 K (qa.r K d) MM Pa L5 L1).wp kr kp) K ?_ ?_ ?_
      ·exact ⟨L6, LY, Mi, L8, hS.to [0, 1] (by kernel_rfl) ⟨rfl, rfl, rfl, trivial⟩, Mh, Mc, MS, hM⟩
      ·intro a w hI; obtain ⟨_, _, _, _, _, _, _, _, hM⟩ := hI; exact zt hM
      ·intro Pa a w hI SD Pg
       obtain ⟨Mf, L5, Ns, L1, hS, My, Mq, NW, hM⟩ := hI
       rw [qa.l7] at hM
       refine wp_seq <| qm <| sM hS rfl fun hS => sM hS rfl fun hS => sB hS rfl fun hS => qB <| qG hS rfl hM (fun Pt hM => ?_) (fun Pt hM => ?_)
       ·refine wp_skip ?_
        refine qe <| wp_seq <| xO ?_
        obtain ⟨M3, hM⟩ := qK hM
        obtain ⟨MB, MF, P2, PS, PH⟩ := Mq.get M3
        obtain ⟨MI, hM⟩ := qK hM
        obtain ⟨MC, MG, P3, PT, PI⟩ := Mq.get MI
        refine za (vals := [some (.slice LZ Mf.length L3), some (.int .i64 L1), some (.slice LZ Mf.length L3), some (.int .i64 L1), some (.int .i64 (qh (L1 - (1 : Int)))), some (.slice LZ Mf.length L3), some (.int .i64 L1), some (.int .i64 (qh (L1 - (1 : Int)))), some (xG LZ (Int.toNat (qh (L1 - (1 : Int))) * 2)), some (.agg ⟨[.int .i64 ((rd L5 (qh (L1 - (1 : Int)))).often_), .slice MB ((rd L5 (qh (L1 - (1 : Int)))).symbols_).length MF]⟩), some (.slice LZ Mf.length L3), some (.int .i64 L1), some (xG LZ (Int.toNat L1 * 2)), some (.agg ⟨[.int .i64 ((rd L5 L1).often_), .slice MC ((rd L5 L1).symbols_).length MG]⟩), some (xG LZ (Int.toNat L1 * 2)), none, none, none]) hS xE rfl ?_
        intro l w ho hcl hA hst
        refine y9 hA hst ho hcl xx xF 15 [0, 1, 2, 3, 4, 5, 6, 7, 8, 9, 10, 11, 12, 13, 14] rfl rfl rfl rfl rfl (by exact ⟨nM rfl, nM rfl, nM rfl, nM rfl, nB rfl, nM rfl, nM rfl, nB rfl, nQ rfl (by exact qX (yu rfl rfl Tryd.runUnderlying110 Tryd.sizeOf112 (My.rd (i := 1) rfl) zT.len rfl (Mq.inb M3)) rfl), nQ rfl (by exact qX (qX (vK rfl (My.rd (i := 1) rfl) zT.len (Mq.inb M3) Tryd.isAgg112 Tryd.sizeOf112 rfl) (congrArg (fun l => Value.agg ⟨l⟩) P2)) rfl), nM rfl, nM rfl, nQ rfl (by exact qX (yu rfl rfl Tryd.runUnderlying110 Tryd.sizeOf112 (My.rd (i := 1) rfl) zT.len rfl (Mq.inb MI)) rfl), nQ rfl (by exact qX (qX (vK rfl (My.rd (i := 1) rfl) zT.len (Mq.inb MI) Tryd.isAgg112 Tryd.sizeOf112 rfl) (congrArg (fun l => Value.agg ⟨l⟩) P3)) rfl), nQ rfl (by exact qX (yu rfl rfl Tryd.runUnderlying110 Tryd.sizeOf112 (My.rd (i := 1) rfl) zT.len rfl (Mq.inb MI)) rfl), trivial⟩) fun D l a w ho hcl hav hpre hm hE hk hA hst => ?_
        have hS := (Ss.mk hE hst).env2 (e' := [(122, .agg ⟨[.int .i64 ((rd L5 (qh (L1 - (1 : Int)))).often_), .slice MB ((rd L5 (qh (L1 - (1 : Int)))).symbols_).length MF]⟩), (127, xG LZ (Int.toNat L1 * 2))]) ⟨rfl, rfl, trivial⟩
        refine qQ rfl <| Vt (i := L1) (sz := 2) 1 (⟨[.int .i64 ((rd L5 (qh (L1 - (1 : Int)))).often_), .slice MB ((rd L5 (qh (L1 - (1 : Int)))).symbols_).length MF], by simp, by simp [Value.oneCell']⟩ : zT 2) hS rfl rfl My rfl Tryd.sizeOf112 rfl (Mq.inb MI) fun N1 w SM hz NL hS => ?_
        obtain ⟨Sh, hzm⟩ := vR (L5.set (Int.toNat L1) (qb.mk ((rd L5 (qh (L1 - (1 : Int)))).often_) ((rd L5 (qh (L1 - (1 : Int)))).symbols_)))
        replace hM := qy hzm hM
        have MR := zH.set (x := (qb.mk ((rd L5 (qh (L1 - (1 : Int)))).often_) ((rd L5 (qh (L1 - (1 : Int)))).symbols_))) (r := (⟨[.int .i64 ((rd L5 (qh (L1 - (1 : Int)))).often_), .slice MB ((rd L5 (qh (L1 - (1 : Int)))).symbols_).length MF], by simp, by simp [Value.oneCell']⟩ : zT 2)) (Int.toNat L1) Mq (show qj Ma _ _ from ⟨MB, MF, rfl, PS, PH⟩)
        have M7 : N1.length = Mf.length := by rw [hz]; exact List.length_set ..
        rw [← hz, ← hzm] at MR; clear hz hzm
        have P8 := Eq.trans M7 NW
        refine qB ?_
        replace hst := hS.st
        obtain ⟨NP, hM⟩ := qK hM
        obtain ⟨hcl, hmust, hav2, hA⟩ := Xx (vals' := [some (.slice LZ Mf.length L3), some (.int .i64 L1), some (.slice LZ Mf.length L3), some (.int .i64 L1), some (.int .i64 (qh (L1 - (1 : Int)))), some (.slice LZ Mf.length L3), some (.int .i64 L1), some (.int .i64 (qh (L1 - (1 : Int)))), some (xG LZ (Int.toNat (qh (L1 - (1 : Int))) * 2)), some (.agg ⟨[.int .i64 ((rd L5 (qh (L1 - (1 : Int)))).often_), .slice MB ((rd L5 (qh (L1 - (1 : Int)))).symbols_).length MF]⟩), some (.slice LZ Mf.length L3), some (.int .i64 L1), some (xG LZ (Int.toNat L1 * 2)), some (.agg ⟨[.int .i64 ((rd L5 L1).often_), .slice MC ((rd L5 L1).symbols_).length MG]⟩), some (xG LZ (Int.toNat L1 * 2)), some undef, some (xG LZ (Int.toNat (qh (L1 - (1 : Int))) * 2)), none]) 15 [(0, 15), (1, 15), (5, 15), (6, 15), (7, 15), (8, 15), (9, 15), (13, 15), (14, 15), (12, 13), (10, 12), (11, 12)] hA hcl hav hm hpre rfl rfl rfl rfl rfl
        clear hm hav
        refine y9 hA hst ho hcl hav2 hmust 17 [2, 3, 4, 16] rfl rfl rfl rfl rfl (by exact ⟨nM rfl, nM rfl, nB rfl, nQ rfl (by exact qX (yu (KY M7 rfl) rfl Tryd.runUnderlying110 Tryd.sizeOf112 (NL.rd (i := 1) rfl) zT.len rfl (MR.inb NP)) rfl), trivial⟩) fun D l a w ho hcl hav hpre hm hE hk hA hst => ?_
        have hS := (Ss.mk hE hst).env2 (e' := [(126, .agg ⟨[.int .i64 ((rd L5 L1).often_), .slice MC ((rd L5 L1).symbols_).length MG]⟩), (128, xG LZ (Int.toNat (qh (L1 - (1 : Int))) * 2))]) ⟨rfl, rfl, trivial⟩
        refine qQ rfl <| Vt (i := (qh (L1 - (1 : Int)))) (sz := 2) 1 (⟨[.int .i64 ((rd L5 L1).often_), .slice MC ((rd L5 L1).symbols_).length MG], by simp, by simp [Value.oneCell']⟩ : zT 2) hS rfl rfl NL rfl Tryd.sizeOf112 rfl (MR.inb NP) fun M9 w Sk hz Pk hS => ?_
        obtain ⟨Si, hzm⟩ := vR (Sh.set (Int.toNat (qh (L1 - (1 : Int)))) (qb.mk ((rd L5 L1).often_) ((rd L5 L1).symbols_)))
        replace hM := qy hzm hM
        have NR := zH.set (x := (qb.mk ((rd L5 L1).often_) ((rd L5 L1).symbols_))) (r := (⟨[.int .i64 ((rd L5 L1).often_), .slice MC ((rd L5 L1).symbols_).length MG], by simp, by simp [Value.oneCell']⟩ : zT 2)) (Int.toNat (qh (L1 - (1 : Int)))) MR (show qj Ma _ _ from ⟨MC, MG, rfl, PT, PI⟩)
        have NX : M9.length = N1.length := by rw [hz]; exact List.length_set ..
        rw [← hz, ← hzm] at NR; clear hz hzm
        have P9 := Eq.trans NX P8
        refine qB ?_
        replace hst := hS.st
        obtain ⟨hcl, hmust, hav2, hA⟩ := Xx (vals' := [some (.slice LZ Mf.length L3), some (.int .i64 L1), some (.slice LZ Mf.length L3), some (.int .i64 L1), some (.int .i64 (qh (L1 - (1 : Int)))), some (.slice LZ Mf.length L3), some (.int .i64 L1), some (.int .i64 (qh (L1 - (1 : Int)))), some (xG LZ (Int.toNat (qh (L1 - (1 : Int))) * 2)), some (.agg ⟨[.int .i64 ((rd L5 (qh (L1 - (1 : Int)))).often_), .slice MB ((rd L5 (qh (L1 - (1 : Int)))).symbols_).length MF]⟩), some (.slice LZ Mf.length L3), some (.int .i64 L1), some (xG LZ (Int.toNat L1 * 2)), some (.agg ⟨[.int .i64 ((rd L5 L1).often_), .slice MC ((rd L5 L1).symbols_).length MG]⟩), some (xG LZ (Int.toNat L1 * 2)), some undef, some (xG LZ (Int.toNat (qh (L1 - (1 : Int))) * 2)), some undef]) 17 [(0, 17), (1, 17), (2, 17), (3, 17), (4, 17), (5, 17), (6, 17), (7, 17), (8, 17), (9, 17), (10, 17), (11, 17), (12, 17), (13, 17), (14, 17), (15, 17), (16, 17)] hA hcl hav hm hpre rfl rfl rfl rfl rfl
        clear hm hav
        refine yk hA hst ho hcl hmust [] rfl rfl rfl trivial fun a w hS => ?_
        replace hS := hS.env2 (e' := [(0, .slice LZ M9.length L3), (14, .int .i64 MM), (17, .int .i64 L1)]) ⟨(Kc (u := .slice LZ Mf.length L3) rfl (by rw [NX, M7])), rfl, rfl, trivial⟩
        refine zy (qe ?_)
        refine zN <| sM hS rfl fun hS => sB hS rfl fun hS => zE (v := Value.int .i64) (x0 := (qh (L1 - (1 : Int)))) hS (xy rfl) rfl fun Se a w hz hS => ?_
        have hM := qy hz hM; clear hz
        refine zp <| qe ?_
        exact Pg _ _ ⟨M9, Si, Sk, Se, hS.to [0, 1] (by kernel_rfl) ⟨rfl, rfl, rfl, trivial⟩, Pk, NR, P9, hM⟩
       ·refine wp_exit ?_
        refine qE (qE (ze (qe ?_)))
        refine wp_ret <| zm ?_
        exact zD (rs := []) hS rfl rfl (hret Mf L5 Ns _ (q7 hM) My Mq NW (hS.st.pick [0, 1] (by kernel_rfl)))
    ·refine wp_skip ?_
     refine qe ?_
     exact Ph _ _ ⟨hS.to [0, 1] (by kernel_rfl) ⟨rfl, rfl, rfl, rfl, rfl, trivial⟩, hM⟩
   ·intro a w hI
    obtain ⟨hS, hM⟩ := hI
    rw [qa.j8] at hM
    refine qm <| sM hS rfl fun hS => sM hS rfl fun hS => sB hS rfl fun hS => sO hS (vU rfl Tryd.runUnderlying3 Tryd.runUnderlying47) rfl fun hS => sO hS (shr rfl rfl rfl) rfl fun hS => sO hS (vU rfl Tryd.runUnderlying47 Tryd.runUnderlying3) rfl fun hS => zE (v := Value.int .i64) (x0 := (wr .i64 (z9 .u64 (wr .u64 (qh (L7 + Mb))) (1 : Int)))) hS (xy rfl) rfl fun Md a w hz hS => ?_
    have hM := qy hz hM; clear hz
    refine qB <| qm <| sM hS rfl fun hS => sM hS rfl fun hS => sB hS rfl fun hS => zE (v := Value.int .i64) (x0 := (qh (Md + L8))) hS (xy rfl) rfl fun Mr a w hz hS => ?_
    have hM := qy hz hM; clear hz
    refine qB <| qm <| sA hS rfl fun hS => sA hS rfl fun hS => qB <| zj (fun a w => ∃ (Mw : Int) (Nt : Int), Ss 220 [] [(0, .slice LZ L6.length L3), (1, .int .i64 L7), (2, .int .i64 L8), (3, .int .i64 Mb), (4, jt cq [] []), (18, .int .i64 Md), (19, .int .i64 Mr), (20, .int .i64 Mw), (21, .int .i64 Nt)] H [Ma, Mi] F a w ∧ (qa.j9 K (qa.r K d) LY L7 L8 Mb Md Mr Mw Nt).wp kr kp) (fun SG NG => ?_) ?_
    ·refine wp_seq ?_
     refine zN <| sM hS rfl fun hS => sM hS rfl fun hS => sB hS rfl fun hS => qB <| qG hS rfl hM (fun Pv hM => ?_) (fun Pv hM => ?_)
     ·refine wp_seq ?_
      refine zN <| sM hS rfl fun hS => sM hS rfl fun hS => sB hS rfl fun hS => zE (v := Value.int .i64) (x0 := (qh (Mr - Mb))) hS (xy rfl) rfl fun Nw a w hz hS => ?_
      have hM := qy hz hM; clear hz
      refine qB <| zN <| sM hS rfl fun hS => sA hS rfl fun hS => zp <| qe ?_
      exact NG _ _ ⟨Nw, Md, hS.to [0, 1] (by kernel_rfl) ⟨rfl, rfl, rfl, rfl, rfl, rfl, rfl, rfl, rfl, trivial⟩, hM⟩
     ·refine wp_seq ?_
      refine zN <| sM hS rfl fun hS => sA hS rfl fun hS => qB <| zN <| sM hS rfl fun hS => sA hS rfl fun hS => zp <| qe ?_
      exact NG _ _ ⟨L7, L8, hS.to [0, 1] (by kernel_rfl) ⟨rfl, rfl, rfl, rfl, rfl, rfl, rfl, rfl, rfl, trivial⟩, hM⟩
    ·intro a w hI
     obtain ⟨Mw, Nt, hS, hM⟩ := hI
     rw [qa.j9] at hM
     refine qm <| sM hS rfl fun hS => sB hS rfl fun hS => zE (v := Value.int .i64) (x0 := (qh (Mr - (1 : Int)))) hS (xy rfl) rfl fun Ml a w hz hS => ?_
     have hM := qy hz hM; clear hz
     refine qB <| zj (fun a w => ∃ (Mg : Int), Ss 220 [] [(0, .slice LZ L6.length L3), (1, .int .i64 L7), (2, .int .i64 L8), (3, .int .i64 Mb), (4, jt cq [] []), (18, .int .i64 Md), (19, .int .i64 Mr), (20, .int .i64 Mg)] H [Ma, Mi] F a w ∧ (qa.j11 K (qa.r K d) LY L7 L8 Mb Md Mr Mg).wp kr kp) (fun SI Pi => ?_) ?_
     ·refine xO ?_
      refine zu (fun Pb a w => ∃ (Mk : Int) (MP : Int), Ss 220 [] [(0, .slice LZ L6.length L3), (1, .int .i64 L7), (2, .int .i64 L8), (3, .int .i64 Mb), (4, jt cq [] []), (18, .int .i64 Md), (19, .int .i64 Mr), (20, .int .i64 Mk), (21, .int .i64 MP), (22, .int .i64 Ml)] H [Ma, Mi] F a w ∧ (qa.l10 K (qa.r K d) LY L7 L8 Mb Md Mr Ml Pb Mk MP).wp kr kp) K ?_ ?_ ?_
      ·exact ⟨Mw, Nt, hS.to [0, 1] (by kernel_rfl) ⟨rfl, rfl, rfl, rfl, rfl, rfl, rfl, rfl, rfl, rfl, trivial⟩, hM⟩
      ·intro a w hI; obtain ⟨_, _, _, hM⟩ := hI; exact zt hM
      ·intro Pb a w hI SH NH
       obtain ⟨Mk, MP, hS, hM⟩ := hI
       rw [qa.l10] at hM
       refine wp_seq <| qm <| sM hS rfl fun hS => sM hS rfl fun hS => sB hS rfl fun hS => qB <| qG hS rfl hM (fun Pw hM => ?_) (fun Pw hM => ?_)
       ·refine wp_skip ?_
        refine qe <| xO <| qm <| sM hS rfl fun hS => sM hS rfl fun hS => sB hS rfl fun hS => sO hS (vU rfl Tryd.runUnderlying3 Tryd.runUnderlying47) rfl fun hS => sO hS (shr rfl rfl rfl) rfl fun hS => sO hS (vU rfl Tryd.runUnderlying47 Tryd.runUnderlying3) rfl fun hS => zE (v := Value.int .i64) (x0 := (wr .i64 (z9 .u64 (wr .u64 (qh (Mk + MP))) (1 : Int)))) hS (xy rfl) rfl fun L9 a w hz hS => ?_
        have hM := qy hz hM; clear hz
        refine qB <| wp_seq ?_
        obtain ⟨M4, hM⟩ := qK hM
        obtain ⟨Nj, Np, P4, PU, PJ⟩ := Mc.get M4
        obtain ⟨M5, hM⟩ := qK hM
        obtain ⟨Nk, Nq, P5, PV, PL⟩ := Mc.get M5
        refine za (vals := [some (jt cq [] []), some (.slice LZ L6.length L3), some (.int .i64 Ml), some (.int .i64 L9), some (.int .i64 (qh (Ml - L9))), some (xG LZ (Int.toNat (qh (Ml - L9)) * 2)), some (.agg ⟨[.int .i64 ((rd LY (qh (Ml - L9))).often_), .slice Nj ((rd LY (qh (Ml - L9))).symbols_).length Np]⟩), some (.slice LZ L6.length L3), some (.int .i64 L9), some (xG LZ (Int.toNat L9 * 2)), some (.agg ⟨[.int .i64 ((rd LY L9).often_), .slice Nk ((rd LY L9).symbols_).length Nq]⟩), none, none, none]) hS xE rfl ?_
        intro l w ho hcl hA hst
        refine y9 hA hst ho hcl xx xF 11 [0, 1, 2, 3, 4, 5, 6, 7, 8, 9, 10] rfl rfl rfl rfl rfl (by exact ⟨nM rfl, nM rfl, nM rfl, nM rfl, nB rfl, nQ rfl (by exact qX (yu rfl rfl Tryd.runUnderlying110 Tryd.sizeOf112 (Mh.rd (i := 1) rfl) zT.len rfl (Mc.inb M4)) rfl), nQ rfl (by exact qX (qX (vK rfl (Mh.rd (i := 1) rfl) zT.len (Mc.inb M4) Tryd.isAgg112 Tryd.sizeOf112 rfl) (congrArg (fun l => Value.agg ⟨l⟩) P4)) rfl), nM rfl, nM rfl, nQ rfl (by exact qX (yu rfl rfl Tryd.runUnderlying110 Tryd.sizeOf112 (Mh.rd (i := 1) rfl) zT.len rfl (Mc.inb M5)) rfl), nQ rfl (by exact qX (qX (vK rfl (Mh.rd (i := 1) rfl) zT.len (Mc.inb M5) Tryd.isAgg112 Tryd.sizeOf112 rfl) (congrArg (fun l => Value.agg ⟨l⟩) P5)) rfl), trivial⟩) fun D l a w ho hcl hav hpre hm hE hk hA hst => ?_
        have hS := (Ss.mk hE hst).env2 (e' := [(158, jt cq [] []), (164, .agg ⟨[.int .i64 ((rd LY (qh (Ml - L9))).often_), .slice Nj ((rd LY (qh (Ml - L9))).symbols_).length Np]⟩), (168, .agg ⟨[.int .i64 ((rd LY L9).often_), .slice Nk ((rd LY L9).symbols_).length Nq]⟩)]) ⟨rfl, rfl, rfl, trivial⟩
        refine qQ rfl <| jR hS rfl rfl (QN hcq) (Xa cq hcq hG K (qb.mk ((rd LY (qh (Ml - L9))).often_) ((rd LY (qh (Ml - L9))).symbols_)) (qb.mk ((rd LY L9).often_) ((rd LY L9).symbols_)) Nj Np Nk Nq (PU.rdF (i := 0) rfl) PJ (PV.rdF (i := 0) rfl) PL (hS.st.part 0 [0, 1] (by kernel_rfl)) (qs hM) (fun Nv w hM  hst => qA hS.ev hst.appF rfl fun hS => ?_))
        replace hS : Ss _ _ _ H [Ma, Mi] F _ _ := hS
        refine qB ?_
        replace hst := hS.st
        obtain ⟨hcl, hmust, hav2, hA⟩ := dn (vals' := [some (jt cq [] []), some (.slice LZ L6.length L3), some (.int .i64 Ml), some (.int .i64 L9), some (.int .i64 (qh (Ml - L9))), some (xG LZ (Int.toNat (qh (Ml - L9)) * 2)), some (.agg ⟨[.int .i64 ((rd LY (qh (Ml - L9))).often_), .slice Nj ((rd LY (qh (Ml - L9))).symbols_).length Np]⟩), some (.slice LZ L6.length L3), some (.int .i64 L9), some (xG LZ (Int.toNat L9 * 2)), some (.agg ⟨[.int .i64 ((rd LY L9).often_), .slice Nk ((rd LY L9).symbols_).length Nq]⟩), some (.int .i64 Nv), some (.bool (decide (Nv < (0 : Int)))), some (.bool (!(decide (Nv < (0 : Int)))))]) 11 [(0, 11), (6, 11), (10, 11), (5, 6), (9, 10), (1, 5), (4, 5), (7, 9), (8, 9), (2, 4), (3, 4)] hA hcl hav hm hpre hk rfl rfl rfl rfl rfl rfl rfl
        clear hm hav
        refine yk hA hst ho hcl hmust [12, 13] rfl rfl rfl (by exact ⟨nB rfl, nQ rfl (by exact qX (un rfl rfl) rfl), trivial⟩) fun a w hS => ?_
        replace hS := hS.env2 (e' := [(0, .slice LZ L6.length L3), (1, .int .i64 L7), (2, .int .i64 L8), (3, .int .i64 Mb), (4, jt cq [] []), (18, .int .i64 Md), (19, .int .i64 Mr), (20, .int .i64 Mk), (21, .int .i64 MP), (22, .int .i64 Ml), (23, .int .i64 L9), (171, .bool (!(decide (Nv < (0 : Int)))))]) ⟨rfl, rfl, rfl, rfl, rfl, rfl, rfl, rfl, rfl, rfl, rfl, rfl, trivial⟩
        refine qe <| qG hS rfl hM (fun Px hM => ?_) (fun Px hM => ?_)
        ·refine zN ?_
         refine sM hS rfl fun hS => sB hS rfl fun hS => zE (v := Value.int .i64) (x0 := (qh (L9 + (1 : Int)))) hS (xy rfl) rfl fun Nx a w hz hS => ?_
         have hM := qy hz hM; clear hz
         refine zp <| zy (qe ?_)
         exact NH _ _ ⟨Nx, MP, hS.to [0, 1] (by kernel_rfl) ⟨rfl, rfl, rfl, rfl, rfl, rfl, rfl, rfl, rfl, rfl, trivial⟩, hM⟩
        ·refine zN ?_
         refine sM hS rfl fun hS => sA hS rfl fun hS => zp <| zy (qe ?_)
         exact NH _ _ ⟨Mk, L9, hS.to [0, 1] (by kernel_rfl) ⟨rfl, rfl, rfl, rfl, rfl, rfl, rfl, rfl, rfl, rfl, trivial⟩, hM⟩
       ·refine wp_exit ?_
        refine qE (qE (ze (qe ?_)))
        exact Pi _ _ ⟨Mk, hS.to [0, 1] (by kernel_rfl) ⟨rfl, rfl, rfl, rfl, rfl, rfl, rfl, rfl, trivial⟩, hM⟩
     ·intro a w hI
      obtain ⟨Mg, hS, hM⟩ := hI
      rw [qa.j11] at hM
      refine qm <| sM hS rfl fun hS => sM hS rfl fun hS => sB hS rfl fun hS => zE (v := Value.int .i64) (x0 := (qh (Mr - Mg))) hS (xy rfl) rfl fun Mj a w hz hS => ?_
      have hM := qy hz hM; clear hz
      refine qB <| zj (fun a w => ∃ (Ms : List (zT 2)) (Mu : (List qb)) (MU : qk), Ss 220 [] [(0, .slice LZ Ms.length L3), (1, .int .i64 L7), (3, .int .i64 Mb), (4, jt cq [] []), (18, .int .i64 Md), (20, .int .i64 Mg), (24, .int .i64 Mj)] H [Ma, MU] F a w ∧ (xi 112 (zT.v (sz := 2)) 2 LZ Ms L3 MU) ∧ (zH (qj Ma) Mu Ms) ∧ (Ms.length = L6.length) ∧ (qa.j12 K (qa.r K d) L7 Mb Md Mg Mj Mu).wp kr kp) (fun SJ NI => ?_) ?_
      ·refine wp_seq ?_
       refine zN <| sM hS rfl fun hS => sM hS rfl fun hS => sB hS rfl fun hS => sM hS rfl fun hS => yS 3 true 181 (b := (decide (Mg < L8))) (r := (decide (L8 < Mj))) hS rfl rfl rfl rfl rfl rfl rfl (fun hb a w hS K hK => ?_) rfl fun a w hS => ?_
       ·refine z2 hS rfl rfl rfl hb (mv rfl) rfl fun a w hS => ?_
        refine z2 hS rfl rfl rfl hb (mv rfl) rfl fun a w hS => z2 hS rfl rfl rfl hb (jk rfl rfl rfl) rfl fun a w hS => ?_
        exact zp (hK _ _ (hS.up 3 rfl rfl))
       refine qB <| qG hS rfl hM (fun Py hM => ?_) (fun Py hM => ?_)
       ·refine zN ?_
        refine sM hS rfl fun hS => sM hS rfl fun hS => sM hS rfl fun hS => sM hS rfl fun hS => sM hS rfl fun hS => qF hS rfl Tryd.call92 (yI cq hcq hG K LY Mg L8 Mj Ma LZ L3 L6 Mi Mc Mh (hS.st.part 2 [0, 1] (by kernel_rfl)) (qs hM) (fun Na Ny N3 w hM Sm Sn NB hst => qA hS.ev hst.appF rfl fun hS => ?_))
        replace hS : Ss _ _ _ H [Ma, N3] F _ _ := hS
        have Sa := Eq.trans NB MS
        replace hS := hS.re 0 (u := .slice LZ L6.length L3) (v := .slice LZ Na.length L3) rfl (by rw [NB])
        replace hS := hS.re 186 (u := .slice LZ L6.length L3) (v := .slice LZ Na.length L3) rfl (by rw [NB])
        refine zp <| qe ?_
        exact NI _ _ ⟨Na, Ny, N3, hS.to [0, 1] (by kernel_rfl) ⟨rfl, rfl, rfl, rfl, rfl, rfl, rfl, trivial⟩, Sm, Sn, Sa, hM⟩
       ·refine wp_skip ?_
        refine qe ?_
        exact NI _ _ ⟨L6, LY, Mi, hS.to [0, 1] (by kernel_rfl) ⟨rfl, rfl, rfl, rfl, rfl, rfl, rfl, trivial⟩, Mh, Mc, MS, hM⟩
      ·intro a w hI
       obtain ⟨Ms, Mu, MU, hS, NM, NS, NY, hM⟩ := hI
       rw [qa.j12] at hM
       refine zj (fun a w => ∃ (Mt : List (zT 2)) (Mv : (List qb)) (MV : qk), Ss 220 [] [(0, .slice LZ Mt.length L3), (3, .int .i64 Mb), (4, jt cq [] []), (18, .int .i64 Md), (24, .int .i64 Mj)] H [Ma, MV] F a w ∧ (xi 112 (zT.v (sz := 2)) 2 LZ Mt L3 MV) ∧ (zH (qj Ma) Mv Mt) ∧ (Mt.length = L6.length) ∧ (qa.j13 K (qa.r K d) Mb Md Mj Mv).wp kr kp) (fun SK NJ => ?_) ?_
       ·refine wp_seq ?_
        refine zN <| sM hS rfl fun hS => sM hS rfl fun hS => sB hS rfl fun hS => sM hS rfl fun hS => yS 3 true 195 (b := (decide (L7 < Mg))) (r := (decide (Mg < Md))) hS rfl rfl rfl rfl rfl rfl rfl (fun hb a w hS K hK => ?_) rfl fun a w hS => ?_
        ·refine z2 hS rfl rfl rfl hb (mv rfl) rfl fun a w hS => ?_
         refine z2 hS rfl rfl rfl hb (mv rfl) rfl fun a w hS => z2 hS rfl rfl rfl hb (jk rfl rfl rfl) rfl fun a w hS => ?_
         exact zp (hK _ _ (hS.up 3 rfl rfl))
        refine qB <| qG hS rfl hM (fun Pz hM => ?_) (fun Pz hM => ?_)
        ·refine zN ?_
         refine sM hS rfl fun hS => sM hS rfl fun hS => sM hS rfl fun hS => sM hS rfl fun hS => sM hS rfl fun hS => qF hS rfl Tryd.call86 (ih hG  Mu L7 Mg Md Ma LZ L3 Ms MU NS NM (hS.st.part 2 [0, 1] (by kernel_rfl)) (qs hM) (fun Nb Nz N4 w hM So Sp NC hst => qA hS.ev hst.appF rfl fun hS => ?_))
         replace hS : Ss _ _ _ H [Ma, N4] F _ _ := hS
         have Sb := Eq.trans NC NY
         replace hS := hS.re 0 (u := .slice LZ Ms.length L3) (v := .slice LZ Nb.length L3) rfl (by rw [NC])
         replace hS := hS.re 200 (u := .slice LZ Ms.length L3) (v := .slice LZ Nb.length L3) rfl (by rw [NC])
         refine zp <| qe ?_
         exact NJ _ _ ⟨Nb, Nz, N4, hS.to [0, 1] (by kernel_rfl) ⟨rfl, rfl, rfl, rfl, rfl, trivial⟩, So, Sp, Sb, hM⟩
        ·refine wp_skip ?_
         refine qe ?_
         exact NJ _ _ ⟨Ms, Mu, MU, hS.to [0, 1] (by kernel_rfl) ⟨rfl, rfl, rfl, rfl, rfl, trivial⟩, NM, NS, NY, hM⟩
       ·intro a w hI
        obtain ⟨Mt, Mv, MV, hS, NN, NT, NZ, hM⟩ := hI
        rw [qa.j13] at hM
        refine qm <| sM hS rfl fun hS => sM hS rfl fun hS => sB hS rfl fun hS => sM hS rfl fun hS => yS 3 true 209 (b := (decide (Md < Mj))) (r := (decide (Mj < Mb))) hS rfl rfl rfl rfl rfl rfl rfl (fun hb a w hS K hK => ?_) rfl fun a w hS => ?_
        ·refine z2 hS rfl rfl rfl hb (mv rfl) rfl fun a w hS => ?_
         refine z2 hS rfl rfl rfl hb (mv rfl) rfl fun a w hS => z2 hS rfl rfl rfl hb (jk rfl rfl rfl) rfl fun a w hS => ?_
         exact zp (hK _ _ (hS.up 3 rfl rfl))
        refine qB <| qG hS rfl hM (fun PA hM => ?_) (fun PA hM => ?_)
        ·refine zN ?_
         refine sM hS rfl fun hS => sM hS rfl fun hS => sM hS rfl fun hS => sM hS rfl fun hS => sM hS rfl fun hS => qF hS rfl Tryd.call86 (ih hG  Mv Md Mj Mb Ma LZ L3 Mt MV NT NN (hS.st.part 2 [0, 1] (by kernel_rfl)) (qs hM) (fun Nc NA N5 w hM Sq Sr ND hst => qA hS.ev hst.appF rfl fun hS => ?_))
         replace hS : Ss _ _ _ H [Ma, N5] F _ _ := hS
         have Sc := Eq.trans ND NZ
         replace hS := hS.re 0 (u := .slice LZ Mt.length L3) (v := .slice LZ Nc.length L3) rfl (by rw [ND])
         replace hS := hS.re 214 (u := .slice LZ Mt.length L3) (v := .slice LZ Nc.length L3) rfl (by rw [ND])
         refine zp ?_
         exact jE (rs := []) hS rfl rfl (hret Nc NA N5 _ (q7 hM) Sq Sr Sc (hS.st.pick [0, 1] (by kernel_rfl)))
        ·refine wp_skip ?_
         exact jE (rs := []) hS rfl rfl (hret Mt Mv MV _ (q7 hM) NN NT NZ (hS.st.pick [0, 1] (by kernel_rfl)))
theorem xS (cq : Nat) (hcq : cq = 56 ∨ cq = 76) {H : xR} {F : List qk} {w : World} {R : Ending → World → Prop} {kr : (List qb) → Prop} {kp : Value → Prop} (hG : Gl H) (K : Nat) (LY : List qb) (L3 : Int) (L9 : Int) (L4 : Int) (L1 : qk) (L6 : Option Addr) (L7 : Nat) (LZ : List (zT 2)) (L8 : qk) (Mc : zH (qj L1) LY LZ) (Mb : xi 112 (zT.v (sz := 2)) 2 L6 LZ L7 L8)
    (hS : St w H [L1, L8] F) (hm : (qa.m K LY L3 L9 L4).wp kr kp)
    (hret : ∀ (L5 : List (zT 2)) (L0 : (List qb)) (Ma : qk) (w : World), kr L0 → (xi 112 (zT.v (sz := 2)) 2 L6 L5 L7 Ma) → (zH (qj L1) L0 L5) → (L5.length = LZ.length) → St w H [L1, Ma] F → R (.returned (.tuple ⟨[]⟩)) w) :
    Calls Tryd.prog 86 ⟨[.slice L6 LZ.length L7, .int .i64 L3, .int .i64 L9, .int .i64 L4, jt cq [] []]⟩ w R := yz cq hcq K K hG LY L3 L9 L4 L1 L6 L7 LZ L8 Mc Mb hS hm hret
theorem yJ (cq : Nat) (hcq : cq = 56 ∨ cq = 76) {H : xR} {F : List qk} {w : World} {R : Ending → World → Prop} {kr : (List qb) → Prop} {kp : Value → Prop} (hG : Gl H) (K : Nat) (Mk : List qb) (L3 : Int) (L1 : qk) (LZ : Option Addr) (L0 : Nat) (L4 : List (zT 2)) (MF : qk) (Nk : zH (qj L1) Mk L4) (Nd : xi 112 (zT.v (sz := 2)) 2 LZ L4 L0 MF)
    (hS : St w H [L1, MF] F) (hm : (qd.m K Mk L3).wp kr kp)
    (hret : ∀ (My : List (zT 2)) (Mp : (List qb)) (M3 : qk) (w : World), kr Mp → (xi 112 (zT.v (sz := 2)) 2 LZ My L0 M3) → (zH (qj L1) Mp My) → (My.length = L4.length) → St w H [L1, M3] F → R (.returned (.tuple ⟨[]⟩)) w) :
    Calls Tryd.prog 73 ⟨[.slice LZ L4.length L0, .int .i64 L3, jt cq [] []]⟩ w R := by
 refine enter Tryd.func73 rfl Tryd.ntmps73 rfl hS fun a w hS => ?_
 have hM := hm; clear hm
 rw [qd.m] at hM
 have NB : ∀ q ∈ L1, q ∈ L1 := fun _ h => h
 have Nm : L4.length = L4.length := rfl
 refine qm <| sA hS rfl fun hS => qB <| qm <| sM hS rfl fun hS => sA hS rfl fun hS => sA hS rfl fun hS => qB <| zj (fun a w => ∃ (Mc : List (zT 2)) (Me : (List qb)) (Mz : qk) (Mn : Int), Ss 63 [] [(0, .slice LZ Mc.length L0), (1, .int .i64 L3), (2, jt cq [] []), (6, .int .i64 (20 : Int)), (7, .int .i64 Mn)] H [L1, Mz] F a w ∧ (xi 112 (zT.v (sz := 2)) 2 LZ Mc L0 Mz) ∧ (zH (qj L1) Me Mc) ∧ (Mc.length = L4.length) ∧ (qd.j2 K L3 Me Mn).wp kr kp) (fun ND Na => ?_) ?_
 ·refine xO ?_
  refine zu (fun M4 a w => ∃ (L5 : List (zT 2)) (L8 : (List qb)) (Mq : qk) (Mi : Int) (Mg : Int), Ss 63 [] [(0, .slice LZ L5.length L0), (1, .int .i64 L3), (2, jt cq [] []), (6, .int .i64 (20 : Int)), (7, .int .i64 Mi), (8, .int .i64 Mg)] H [L1, Mq] F a w ∧ (xi 112 (zT.v (sz := 2)) 2 LZ L5 L0 Mq) ∧ (zH (qj L1) L8 L5) ∧ (L5.length = L4.length) ∧ (qd.l1 K L3 M4 L8 Mi Mg).wp kr kp) K ?_ ?_ ?_
  ·exact ⟨L4, Mk, MF, (0 : Int), (20 : Int), hS.to [0, 1] (by kernel_rfl) ⟨rfl, rfl, rfl, rfl, rfl, rfl, trivial⟩, Nd, Nk, Nm, hM⟩
  ·intro a w hI; obtain ⟨_, _, _, _, _, _, _, _, _, hM⟩ := hI; exact zt hM
  ·intro M4 a w hI NC M9
   obtain ⟨L5, L8, Mq, Mi, Mg, hS, ML, MP, MT, hM⟩ := hI
   rw [qd.l1] at hM
   refine wp_seq <| qm <| sM hS rfl fun hS => sM hS rfl fun hS => sB hS rfl fun hS => qB <| qG hS rfl hM (fun Ng hM => ?_) (fun Ng hM => ?_)
   ·refine wp_skip ?_
    refine qe <| xO <| qm <| sM hS rfl fun hS => sM hS rfl fun hS => sM hS rfl fun hS => sM hS rfl fun hS => qF hS rfl Tryd.call85 (xM cq hcq hG K L8 Mi Mg L1 LZ L0 L5 Mq MP ML (hS.st.part 2 [0, 1] (by kernel_rfl)) (qs hM) (fun Mu MB MX w hM Ns Nt MG hst => qA hS.ev hst.appF rfl fun hS => ?_))
    replace hS : Ss _ _ _ H [L1, MX] F _ _ := hS
    have Nn := Eq.trans MG MT
    replace hS := hS.re 0 (u := .slice LZ L5.length L0) (v := .slice LZ Mu.length L0) rfl (by rw [MG])
    replace hS := hS.re 14 (u := .slice LZ L5.length L0) (v := .slice LZ Mu.length L0) rfl (by rw [MG])
    refine qB <| qm <| sM hS rfl fun hS => sA hS rfl fun hS => qB <| zN <| sM hS rfl fun hS => sM hS rfl fun hS => sB hS rfl fun hS => zE (v := Value.int .i64) (x0 := (qh (Mg + (20 : Int)))) hS (xy rfl) rfl fun M6 a w hz hS => ?_
    have hM := qy hz hM; clear hz
    refine zp <| zy (qe ?_)
    exact M9 _ _ ⟨Mu, MB, MX, Mg, M6, hS.to [0, 1] (by kernel_rfl) ⟨rfl, rfl, rfl, rfl, rfl, rfl, trivial⟩, Ns, Nt, Nn, hM⟩
   ·refine wp_exit ?_
    refine qE (qE (ze (qe ?_)))
    exact Na _ _ ⟨L5, L8, Mq, Mi, hS.to [0, 1] (by kernel_rfl) ⟨rfl, rfl, rfl, rfl, rfl, trivial⟩, ML, MP, MT, hM⟩
 ·intro a w hI
  obtain ⟨Mc, Me, Mz, Mn, hS, Nf, Nl, No, hM⟩ := hI
  rw [qd.j2] at hM
  refine qm <| sM hS rfl fun hS => sM hS rfl fun hS => sM hS rfl fun hS => sM hS rfl fun hS => qF hS rfl Tryd.call85 (xM cq hcq hG K Me Mn L3 L1 LZ L0 Mc Mz Nl Nf (hS.st.part 2 [0, 1] (by kernel_rfl)) (qs hM) (fun Mv MC MY w hM Nu Nv MH hst => qA hS.ev hst.appF rfl fun hS => ?_))
  replace hS : Ss _ _ _ H [L1, MY] F _ _ := hS
  have Np := Eq.trans MH No
  replace hS := hS.re 0 (u := .slice LZ Mc.length L0) (v := .slice LZ Mv.length L0) rfl (by rw [MH])
  replace hS := hS.re 23 (u := .slice LZ Mc.length L0) (v := .slice LZ Mv.length L0) rfl (by rw [MH])
  refine qB <| xO <| zu (fun MA a w => ∃ (Md : List (zT 2)) (L9 : (List qb)) (Mr : qk) (LY : Int), Ss 63 [] [(0, .slice LZ Md.length L0), (1, .int .i64 L3), (2, jt cq [] []), (6, .int .i64 LY)] H [L1, Mr] F a w ∧ (xi 112 (zT.v (sz := 2)) 2 LZ Md L0 Mr) ∧ (zH (qj L1) L9 Md) ∧ (Md.length = L4.length) ∧ (qd.l3 K L3 MA L9 LY).wp kr kp) K ?_ ?_ ?_
  ·exact ⟨Mv, MC, MY, (20 : Int), hS.to [0, 1] (by kernel_rfl) ⟨rfl, rfl, rfl, rfl, trivial⟩, Nu, Nv, Np, hM⟩
  ·intro a w hI; obtain ⟨_, _, _, _, _, _, _, _, hM⟩ := hI; exact zt hM
  ·intro MA a w hI NG MK
   obtain ⟨Md, L9, Mr, LY, hS, MM, MQ, MU, hM⟩ := hI
   rw [qd.l3] at hM
   refine wp_seq <| qm <| sM hS rfl fun hS => sM hS rfl fun hS => sB hS rfl fun hS => qB <| qG hS rfl hM (fun Nh hM => ?_) (fun Nh hM => ?_)
   ·refine wp_skip ?_
    refine qe <| xO <| qm <| sM hS rfl fun hS => sB hS rfl fun hS => sA hS rfl fun hS => zE (v := Value.int .i64) (x0 := (qh ((2 : Int) * LY))) hS (xy rfl) rfl fun M7 a w hz hS => ?_
    have hM := qy hz hM; clear hz
    refine qB <| zj (fun a w => ∃ (L7 : List (zT 2)) (Mb : (List qb)) (Mt : qk) (Mj : Int), Ss 63 [] [(0, .slice LZ L7.length L0), (1, .int .i64 L3), (2, jt cq [] []), (6, .int .i64 LY), (7, .int .i64 Mj)] H [L1, Mt] F a w ∧ (xi 112 (zT.v (sz := 2)) 2 LZ L7 L0 Mt) ∧ (zH (qj L1) Mb L7) ∧ (L7.length = L4.length) ∧ (qd.j5 K (qd.l3 K L3 MA) L3 LY Mb Mj).wp kr kp) (fun NF Nc => ?_) ?_
    ·refine xO ?_
     refine zu (fun M5 a w => ∃ (L6 : List (zT 2)) (Ma : (List qb)) (Ms : qk) (Mf : Int) (Mh : Int), Ss 63 [] [(0, .slice LZ L6.length L0), (1, .int .i64 L3), (2, jt cq [] []), (6, .int .i64 LY), (7, .int .i64 Mf), (8, .int .i64 Mh)] H [L1, Ms] F a w ∧ (xi 112 (zT.v (sz := 2)) 2 LZ L6 L0 Ms) ∧ (zH (qj L1) Ma L6) ∧ (L6.length = L4.length) ∧ (qd.l4 K (qd.l3 K L3 MA) L3 LY M5 Ma Mf Mh).wp kr kp) K ?_ ?_ ?_
     ·exact ⟨Md, L9, Mr, (0 : Int), M7, hS.to [0, 1] (by kernel_rfl) ⟨rfl, rfl, rfl, rfl, rfl, rfl, trivial⟩, MM, MQ, MU, hM⟩
     ·intro a w hI; obtain ⟨_, _, _, _, _, _, _, _, _, hM⟩ := hI; exact zt hM
     ·intro M5 a w hI NE Nb
      obtain ⟨L6, Ma, Ms, Mf, Mh, hS, MN, MR, MV, hM⟩ := hI
      rw [qd.l4] at hM
      refine wp_seq <| qm <| sM hS rfl fun hS => sM hS rfl fun hS => sB hS rfl fun hS => qB <| qG hS rfl hM (fun Ni hM => ?_) (fun Ni hM => ?_)
      ·refine wp_skip ?_
       refine qe <| xO <| qm <| sM hS rfl fun hS => sM hS rfl fun hS => sM hS rfl fun hS => sM hS rfl fun hS => sB hS rfl fun hS => sM hS rfl fun hS => sM hS rfl fun hS => qF hS rfl Tryd.call86 (xS cq hcq hG K Ma Mf (qh (Mf + LY)) Mh L1 LZ L0 L6 Ms MR MN (hS.st.part 2 [0, 1] (by kernel_rfl)) (qs hM) (fun Mw MD MZ w hM Nw Nx MI hst => qA hS.ev hst.appF rfl fun hS => ?_))
       replace hS : Ss _ _ _ H [L1, MZ] F _ _ := hS
       have Nq := Eq.trans MI MV
       replace hS := hS.re 0 (u := .slice LZ L6.length L0) (v := .slice LZ Mw.length L0) rfl (by rw [MI])
       replace hS := hS.re 36 (u := .slice LZ L6.length L0) (v := .slice LZ Mw.length L0) rfl (by rw [MI])
       refine qB <| qm <| sM hS rfl fun hS => sA hS rfl fun hS => qB <| zN <| sM hS rfl fun hS => sM hS rfl fun hS => sB hS rfl fun hS => sB hS rfl fun hS => zE (v := Value.int .i64) (x0 := (qh (Mh + (qh ((2 : Int) * LY))))) hS (xy rfl) rfl fun M8 a w hz hS => ?_
       have hM := qy hz hM; clear hz
       refine zp <| zy (qe ?_)
       exact Nb _ _ ⟨Mw, MD, MZ, Mh, M8, hS.to [0, 1] (by kernel_rfl) ⟨rfl, rfl, rfl, rfl, rfl, rfl, trivial⟩, Nw, Nx, Nq, hM⟩
      ·refine wp_exit ?_
       refine qE (qE (ze (qe ?_)))
       exact Nc _ _ ⟨L6, Ma, Ms, Mf, hS.to [0, 1] (by kernel_rfl) ⟨rfl, rfl, rfl, rfl, rfl, trivial⟩, MN, MR, MV, hM⟩
    ·intro a w hI
     obtain ⟨L7, Mb, Mt, Mj, hS, MO, MS, MW, hM⟩ := hI
     rw [qd.j5] at hM
     refine wp_seq <| qm <| sM hS rfl fun hS => sM hS rfl fun hS => sB hS rfl fun hS => zE (v := Value.int .i64) (x0 := (qh (Mj + LY))) hS (xy rfl) rfl fun NA a w hz hS => ?_
     have hM := qy hz hM; clear hz
     refine qB <| qm <| sM hS rfl fun hS => sM hS rfl fun hS => sB hS rfl fun hS => qB <| qG hS rfl hM (fun Nj hM => ?_) (fun Nj hM => ?_)
     ·refine zN ?_
      refine sM hS rfl fun hS => sM hS rfl fun hS => sM hS rfl fun hS => sM hS rfl fun hS => sM hS rfl fun hS => qF hS rfl Tryd.call86 (xS cq hcq hG K Mb Mj NA L3 L1 LZ L0 L7 Mt MS MO (hS.st.part 2 [0, 1] (by kernel_rfl)) (qs hM) (fun Mx ME M0 w hM Ny Nz MJ hst => qA hS.ev hst.appF rfl fun hS => ?_))
      replace hS : Ss _ _ _ H [L1, M0] F _ _ := hS
      have Nr := Eq.trans MJ MW
      replace hS := hS.re 0 (u := .slice LZ L7.length L0) (v := .slice LZ Mx.length L0) rfl (by rw [MJ])
      replace hS := hS.re 55 (u := .slice LZ L7.length L0) (v := .slice LZ Mx.length L0) rfl (by rw [MJ])
      refine qB <| zN <| sM hS rfl fun hS => sB hS rfl fun hS => zE (v := Value.int .i64) (x0 := (qh (LY * (2 : Int)))) hS (xy rfl) rfl fun Ml a w hz hS => ?_
      have hM := qy hz hM; clear hz
      refine zp <| zy (qe ?_)
      exact MK _ _ ⟨Mx, ME, M0, Ml, hS.to [0, 1] (by kernel_rfl) ⟨rfl, rfl, rfl, rfl, trivial⟩, Ny, Nz, Nr, hM⟩
     ·refine wp_skip ?_
      refine qe <| zN <| sM hS rfl fun hS => sB hS rfl fun hS => zE (v := Value.int .i64) (x0 := (qh (LY * (2 : Int)))) hS (xy rfl) rfl fun Mm a w hz hS => ?_
      have hM := qy hz hM; clear hz
      refine zp <| zy (qe ?_)
      exact MK _ _ ⟨L7, Mb, Mt, Mm, hS.to [0, 1] (by kernel_rfl) ⟨rfl, rfl, rfl, rfl, trivial⟩, MO, MS, MW, hM⟩
   ·refine wp_exit ?_
    refine qE (qE (ze ?_))
    exact jE (rs := []) hS rfl rfl (hret Md L9 Mr _ (q7 hM) MM MQ MU (hS.st.pick [0, 1] (by kernel_rfl)))
theorem xw (cq : Nat) (hcq : cq = 56 ∨ cq = 76) {H : xR} {F : List qk} {w : World} {R : Ending → World → Prop} {kr : (List qb) → Prop} {kp : Value → Prop} (hG : Gl H) (K : Nat) (L4 : List qb) (L1 : qk) (LZ : Option Addr) (L0 : Nat) (LY : List (zT 2)) (L8 : qk) (L9 : zH (qj L1) L4 LY) (Md : xi 112 (zT.v (sz := 2)) 2 LZ LY L0 L8)
    (hS : St w H [L1, L8] F) (hm : (qT.m K L4).wp kr kp)
    (hret : ∀ (L5 : List (zT 2)) (Mc : (List qb)) (Mb : qk) (w : World), kr Mc → (xi 112 (zT.v (sz := 2)) 2 LZ L5 L0 Mb) → (zH (qj L1) Mc L5) → (L5.length = LY.length) → St w H [L1, Mb] F → R (.returned (.tuple ⟨[]⟩)) w) :
    Calls Tryd.prog 55 ⟨[.slice LZ LY.length L0, jt cq [] []]⟩ w R := by
 refine enter Tryd.func55 rfl Tryd.ntmps55 rfl hS fun a w hS => ?_
 have hM := hm; clear hm
 rw [qT.m] at hM
 have Mi : ∀ q ∈ L1, q ∈ L1 := fun _ h => h
 have Me : LY.length = LY.length := rfl
 refine zN <| sM hS rfl fun hS => sM hS rfl fun hS => sO hS (qX (v' := .int .i64 (L4.length : Int)) (yj rfl Tryd.runUnderlying110) (by rw [L9.len])) rfl fun hS => sM hS rfl fun hS => qF hS rfl Tryd.call73 (yJ cq hcq hG K L4 (L4.length : Int) L1 LZ L0 LY L8 L9 Md (hS.st.part 2 [0, 1] (by kernel_rfl)) (qs hM) (fun L3 L7 Ma w hM Mg Mh L6 hst => qA hS.ev hst.appF rfl fun hS => ?_))
 replace hS : Ss _ _ _ H [L1, Ma] F _ _ := hS
 have Mf := Eq.trans L6 Me
 replace hS := hS.re 0 (u := .slice LZ LY.length L0) (v := .slice LZ L3.length L0) rfl (by rw [L6])
 replace hS := hS.re 4 (u := .slice LZ LY.length L0) (v := .slice LZ L3.length L0) rfl (by rw [L6])
 replace hS := hS.re 5 (u := .slice LZ LY.length L0) (v := .slice LZ L3.length L0) rfl (by rw [L6])
 refine zp ?_
 exact jE (rs := []) hS rfl rfl (hret L3 L7 Ma _ (q7 hM) Mg Mh Mf (hS.st.pick [0, 1] (by kernel_rfl)))
def vg (p : qk) (x : (List Int)) (vs : List Value) : Prop :=
  ∃ (A0 : Option Addr) (c0 : Nat), vs = [.slice A0 x.length c0] ∧ Pl p (ci .i64) A0 x ∧ x.length ≤ c0
theorem vg.mono {p p' : qk} (hs : ∀ q ∈ p, q ∈ p') {x : (List Int)} {vs : List Value} (h : vg p x vs) : vg p' x vs := by
  obtain ⟨A0, c0, h0, h1, h2⟩ := h
  exact ⟨A0, c0, h0, h1.mono hs, h2⟩
theorem jY {H : xR} {F : List qk} {w : World} {R : Ending → World → Prop} {kr : Unit → Prop} {kp : Value → Prop} (hG : Gl H) (K : Nat) (LY : Int)
    (hS : St w H [] F) (hm : (xL.m K LY).wp kr kp)
    (hret : ∀ (LZ : Option Addr) (L0 : Nat) (L1 : qk) (w : World), kr () → (xi 3 (ci .i64) 1 LZ ([] : List Int) L0 L1) → St w H [L1] F → R (.returned (.slice LZ ([] : List Int).length L0)) w)
    (hpan : ∀ v w, kp v → St w H [] F → R (.panicked [⟨v, false, false⟩]) w) :
    Calls Tryd.prog 88 ⟨[.slice none 0 0, .int .i64 LY]⟩ w R := by
 refine enter Tryd.func88 rfl Tryd.ntmps88 rfl hS fun a w hS => ?_
 have hM := hm; clear hm
 rw [xL.m] at hM
 refine qm <| sA hS rfl fun hS => ?_
 obtain ⟨Mg, Me, hS⟩ := hS.nilV 3 (ci .i64) 1
 refine qB <| wp_seq <| qm <| sM hS rfl fun hS => sB hS rfl fun hS => qB <| qG hS rfl hM (fun L6 hM => ?_) (fun L6 hM => ?_)
 ·refine zN ?_
  refine sO hS (Gu rfl Tryd.runUnderlying9 rfl) rfl fun hS => Qj hS rfl <| qD ?_
  exact ⟨hS.ev.defs, hpan _ _ (ZL hM) hS.st.frame⟩
 ·refine wp_skip ?_
  refine qe <| wp_seq <| qm <| sM hS rfl fun hS => sM hS rfl fun hS => sO hS (BG rfl Tryd.runUnderlying66) rfl fun hS => sM hS rfl fun hS => sO hS (yj rfl Tryd.runUnderlying66) rfl fun hS => sB hS rfl fun hS => sB hS rfl fun hS => zE (v := Value.int .i64) (x0 := (qh (LY - (qh ((0 : Int) - (0 : Int)))))) hS (xy rfl) rfl fun Mf a w hz hS => ?_
  have hM := qy hz hM; clear hz
  refine qB <| qm <| sM hS rfl fun hS => sB hS rfl fun hS => qB <| qG hS rfl hM (fun L7 hM => ?_) (fun L7 hM => ?_)
  ·refine zN ?_
   refine sM hS rfl fun hS => sM hS rfl fun hS => sO hS (BG rfl Tryd.runUnderlying66) rfl fun hS => sO hS (LB rfl Tryd.runUnderlying66 Tryd.sizeOf3 (BR rfl)) rfl fun hS => sM hS rfl fun hS => ?_
   obtain ⟨L9, hM⟩ := qK hM
   refine Lr (g := (ci .i64)) hS rfl rfl Tryd.runUnderlying66 Tryd.runUnderlying3 X.el3 rfl rfl L9 rfl fun w Ma Mb Mc L4 L8 L3 hS => sM hS rfl fun hS => sO hS (yj rfl Tryd.runUnderlying66) rfl fun hS => sO hS (LA rfl Tryd.runUnderlying66 Tryd.sizeOf3 (fun _ => BR rfl) L8 L3) rfl fun hS => sA hS rfl fun hS => qB <| qm <| sM hS rfl fun hS => sA hS rfl fun hS => qB <| wp_ret ?_
   exact zD (rs := [4]) hS rfl rfl (hret Ma Mb Mc _ (q7 hM) L4 (hS.st.pick [0] (by kernel_rfl)))
  ·refine wp_skip ?_
   refine qe <| qm <| sM hS rfl fun hS => sA hS rfl fun hS => ?_
   obtain ⟨Md, L5, hS⟩ := hS.nilV 3 (ci .i64) 1
   refine qB <| wp_ret ?_
   exact zD (rs := [4]) hS rfl rfl (hret none (0) Md _ (q7 hM) L5 (hS.st.pick [0] (by kernel_rfl)))
theorem vD {H : xR} {F : List qk} {w : World} {R : Ending → World → Prop} {kr : (List Int) → Prop} {kp : Value → Prop} (hG : Gl H) (K : Nat) (LY : List (List Int)) (L4 : qk) (L6 : Option Addr) (L7 : Nat) (L0 : List (zT 1)) (L1 : zH (vg L4) LY L0) (Ma : Pl L4 (zT.v (sz := 1)) L6 L0) (MJ : L0.length ≤ L7)
    (hS : St w H [L4] F) (hm : (qS.m K LY).wp kr kp)
    (hret : ∀ (Mj : Option Addr) (Mk : Nat) (Mi : (List Int)) (Mm : qk) (w : World), kr Mi → (xi 3 (ci .i64) 1 Mj Mi Mk Mm) → St w H [L4, Mm] F → R (.returned (.slice Mj Mi.length Mk)) w)
    (hpan : ∀ v w, kp v → St w H [] F → R (.panicked [⟨v, false, false⟩]) w) :
    Calls Tryd.prog 77 ⟨[.slice L6 L0.length L7]⟩ w R := by
 refine enter Tryd.func77 rfl Tryd.ntmps77 rfl hS fun a w hS => ?_
 have hM := hm; clear hm
 rw [qS.m] at hM
 have MN : ∀ q ∈ L4, q ∈ L4 := fun _ h => h
 refine qm <| sA hS rfl fun hS => ?_
 obtain ⟨MV, MI, hS⟩ := hS.nilV 3 (ci .i64) 1
 refine qB <| qm <| sA hS rfl fun hS => qB <| zj (fun a w => ∃ (L5 : Int), Ss 36 [] [(0, .slice L6 L0.length L7), (3, .int .i64 L5)] H [L4] F a w ∧ (qS.j2 K LY L5).wp kr kp) (fun MR Mr => ?_) ?_
 ·refine wp_seq ?_
  refine zN <| sM hS rfl fun hS => sO hS (qX (v' := .int .i64 (LY.length : Int)) (yj rfl Tryd.runUnderlying153) (by rw [L1.len])) rfl fun hS => sM hS rfl fun hS => qB <| xO <| zu (fun Mn a w => ∃ (L3 : Int) (L8 : Int), Ss 36 [] [(0, .slice L6 L0.length L7), (3, .int .i64 L3), (9, .slice L6 L0.length L7), (10, .int .i64 (LY.length : Int)), (11, .int .i64 L8)] H [L4] F a w ∧ (qS.l1 K LY Mn L3 L8).wp kr kp) K ?_ ?_ ?_
  ·exact ⟨(0 : Int), (0 : Int), hS.to [1] (by kernel_rfl) ⟨rfl, rfl, rfl, rfl, rfl, trivial⟩, hM⟩
  ·intro a w hI; obtain ⟨_, _, _, hM⟩ := hI; exact zt hM
  ·intro Mn a w hI MQ Mq
   obtain ⟨L3, L8, hS, hM⟩ := hI
   rw [qS.l1] at hM
   refine qm <| sB hS rfl fun hS => qB <| wp_seq <| qG hS rfl hM (fun Mu hM => ?_) (fun Mu hM => ?_)
   ·refine wp_skip ?_
    refine qe <| wp_seq <| xO <| wp_seq <| zN ?_
    obtain ⟨Mb, hM⟩ := qK hM
    refine sO hS (yu rfl rfl Tryd.runUnderlying153 Tryd.sizeOf66 (Ma.rd (i := 0) rfl) zT.len rfl (L1.inb Mb)) rfl fun hS => ?_
    obtain ⟨MO, MT, Mz, MM, MK⟩ := L1.get Mb
    refine sO hS (yD rfl (Ma.rd (i := 0) rfl) zT.len (L1.inb Mb) (by rw [show zT.v (rd L0 L8) = _ from Mz]; rfl) Tryd.isAgg66) rfl fun hS => sA hS rfl fun hS => qB <| qm <| sM hS rfl fun hS => sM hS rfl fun hS => sO hS (yj rfl Tryd.runUnderlying66) rfl fun hS => sB hS rfl fun hS => zE (v := Value.int .i64) (x0 := (qh (L3 + ((rd LY L8).length : Int)))) hS (xy rfl) rfl fun Mh a w hz hS => ?_
    have hM := qy hz hM; clear hz
    refine qB <| qm <| sM hS rfl fun hS => sB hS rfl fun hS => qB <| qG hS rfl hM (fun Mv hM => ?_) (fun Mv hM => ?_)
    ·refine zN ?_
     refine sO hS (Gu rfl Tryd.runUnderlying9 rfl) rfl fun hS => Qj hS rfl <| zR (qD (qD (zR (qD ?_))))
     exact ⟨hS.ev.defs, hpan _ _ (ZL hM) hS.st.frame⟩
    ·refine wp_skip ?_
     refine zy (qe ?_)
     refine zN <| sB hS rfl fun hS => sM hS rfl fun hS => zp <| qe ?_
     exact Mq _ _ ⟨Mh, (qh (L8 + (1 : Int))), hS.to [0] (by kernel_rfl) ⟨rfl, rfl, rfl, rfl, rfl, trivial⟩, hM⟩
   ·refine wp_exit ?_
    refine qE (qE (ze (qe ?_)))
    exact Mr _ _ ⟨L3, hS.to [0] (by kernel_rfl) ⟨rfl, rfl, trivial⟩, hM⟩
 ·intro a w hI
  obtain ⟨L5, hS, hM⟩ := hI
  rw [qS.j2] at hM
  refine qm <| sM hS rfl fun hS => qF hS rfl Tryd.call88 (jY hG K L5 (hS.st.part 0 [0] (by kernel_rfl)) (qs hM) (fun MC ME Ml w hM MH hst => qA hS.ev hst.appF rfl fun hS => ?_) (fun v w hk hst => xo (qD (⟨hS.ev.defs, hpan _ _ hk hst.appF.frame⟩))))
  replace hS : Ss _ _ _ H [Ml, L4] F _ _ := hS
  refine sA hS rfl fun hS => qB <| wp_seq <| qm <| sM hS rfl fun hS => sO hS (qX (v' := .int .i64 (LY.length : Int)) (yj rfl Tryd.runUnderlying153) (by rw [L1.len])) rfl fun hS => sM hS rfl fun hS => qB <| xO <| zu (fun Mp a w => ∃ (Md : Option Addr) (Me : Nat) (LZ : (List Int)) (Mf : qk) (L9 : Int), Ss 36 [] [(6, .slice Md LZ.length Me), (25, .slice L6 L0.length L7), (26, .int .i64 (LY.length : Int)), (27, .int .i64 L9)] H [L4, Mf] F a w ∧ (xi 3 (ci .i64) 1 Md LZ Me Mf) ∧ (qS.l3 K LY Mp LZ L9).wp kr kp) K ?_ ?_ ?_
  ·exact ⟨MC, ME, ([] : List Int), Ml, (0 : Int), hS.to [1, 0] (by kernel_rfl) ⟨rfl, rfl, rfl, rfl, trivial⟩, MH, hM⟩
  ·intro a w hI; obtain ⟨_, _, _, _, _, _, _, hM⟩ := hI; exact zt hM
  ·intro Mp a w hI MS Ms
   obtain ⟨Md, Me, LZ, Mf, L9, hS, Mg, hM⟩ := hI
   rw [qS.l3] at hM
   refine qm <| sB hS rfl fun hS => qB <| wp_seq <| qG hS rfl hM (fun Mw hM => ?_) (fun Mw hM => ?_)
   ·refine wp_skip ?_
    refine qe <| wp_seq <| xO <| wp_seq <| zN ?_
    obtain ⟨Mc, hM⟩ := qK hM
    refine sO hS (yu rfl rfl Tryd.runUnderlying153 Tryd.sizeOf66 (Ma.rd (i := 0) rfl) zT.len rfl (L1.inb Mc)) rfl fun hS => ?_
    obtain ⟨MP, MU, MA, My, ML⟩ := L1.get Mc
    refine sO hS (yD rfl (Ma.rd (i := 0) rfl) zT.len (L1.inb Mc) (by rw [show zT.v (rd L0 L9) = _ from MA]; rfl) Tryd.isAgg66) rfl fun hS => sA hS rfl fun hS => qB <| zN <| sM hS rfl fun hS => sM hS rfl fun hS => ?_
    obtain ⟨Mx, hM⟩ := qK hM
    refine JA (ys := (rd LY L9)) 1 hS rfl rfl Mg rfl (My.rd (i := 0) rfl) Tryd.runUnderlying66 Tryd.runUnderlying66 X.el3 (fun _ => rfl) rfl xH Mx rfl fun MB w MD MF MG hz Mt hS => ?_
    have hM := qy hz hM; clear hz
    refine sA hS rfl fun hS => zp <| zy (qe ?_)
    refine zN <| sB hS rfl fun hS => sM hS rfl fun hS => zp <| qe ?_
    exact Ms _ _ ⟨MD, MF, MB, MG, (qh (L9 + (1 : Int))), hS.to [0, 1] (by kernel_rfl) ⟨rfl, rfl, rfl, rfl, trivial⟩, Mt, hM⟩
   ·refine wp_exit ?_
    refine qE (qE (ze (qe ?_)))
    refine qm <| sM hS rfl fun hS => sA hS rfl fun hS => qB <| wp_ret ?_
    exact zD (rs := [2]) hS rfl rfl (hret Md Me LZ Mf _ (q7 hM) Mg (hS.st.pick [0, 1] (by kernel_rfl)))
theorem Je {H : xR} {F : List qk} {w : World} {R : Ending → World → Prop} {kr : (List qb) → Prop} {kp : Value → Prop} (hG : Gl H) (K : Nat) (LZ : List qb) (Mg : qk) (L0 : Option Addr) (L5 : Nat) (L1 : List (zT 2)) (Na : zH (qj Mg) LZ L1) (M8 : Pl Mg (zT.v (sz := 2)) L0 L1) (MZ : L1.length ≤ L5)
    (hS : St w H [Mg] F) (hm : (xV.m K LZ).wp kr kp)
    (hret : ∀ (MM : qk) (MN : Option Addr) (MO : Nat) (MC : List (zT 2)) (MT : (List qb)) (MP : qk) (w : World), kr MT → (∀ q ∈ Mg, q ∈ MM) → (xi 112 (zT.v (sz := 2)) 2 MN MC MO MP) → (zH (qj MM) MT MC) → St w H [MM, MP] F → R (.returned (.slice MN MC.length MO)) w)
    (hpan : ∀ v w, kp v → St w H [] F → R (.panicked [⟨v, false, false⟩]) w) :
    Calls Tryd.prog 59 ⟨[.slice L0 L1.length L5]⟩ w R := by
 refine enter Tryd.func59 rfl Tryd.ntmps59 rfl hS fun a w hS => ?_
 have hM := hm; clear hm
 rw [xV.m] at hM
 have Nc : ∀ q ∈ Mg, q ∈ Mg := fun _ h => h
 refine qm <| sA hS rfl fun hS => ?_
 obtain ⟨Ny, Nn, hS⟩ := hS.nilV 112 (zT.v (sz := 2)) 2
 have Ns : zH (qj Mg) ([] : List qb) ([] : List (zT 2)) := zH.nil
 refine qB <| qm <| sA hS rfl fun hS => ?_
 obtain ⟨Nj, MV, hS⟩ := hS.nilV 112 (zT.v (sz := 2)) 2
 have Nb : zH (qj Mg) ([] : List qb) ([] : List (zT 2)) := zH.nil
 refine qB <| wp_seq <| qm <| sA hS rfl fun hS => qB <| xO <| zu (fun MR a w => ∃ (Mh : qk) (Me : Option Addr) (Mf : Nat) (L8 : List (zT 2)) (Mp : (List qb)) (My : qk) (LY : Int), Ss 42 [] [(0, .slice L0 L1.length L5), (3, .slice Me L8.length Mf), (4, .int .i64 LY)] H [Mh, My] F a w ∧ (∀ q ∈ Mg, q ∈ Mh) ∧ (zH (qj Mh) LZ L1) ∧ (Pl Mh (zT.v (sz := 2)) L0 L1) ∧ (L1.length ≤ L5) ∧ (xi 112 (zT.v (sz := 2)) 2 Me L8 Mf My) ∧ (zH (qj Mh) Mp L8) ∧ (xV.l1 K LZ MR Mp LY).wp kr kp) K ?_ ?_ ?_
 ·exact ⟨Mg, none, 0, ([] : List (zT 2)), ([] : List qb), Nj, (0 : Int), hS.to [2, 0] (by kernel_rfl) ⟨rfl, rfl, rfl, trivial⟩, Nc, Na, M8, MZ, MV, Nb, hM⟩
 ·intro a w hI; obtain ⟨_, _, _, _, _, _, _, _, _, _, _, _, _, _, hM⟩ := hI; exact zt hM
 ·intro MR a w hI Nv MU
  obtain ⟨Mh, Me, Mf, L8, Mp, My, LY, hS, Mq, L3, L4, M0, MH, Mi, hM⟩ := hI
  rw [xV.l1] at hM
  refine wp_seq <| qm <| sM hS rfl fun hS => sB hS rfl fun hS => sM hS rfl fun hS => sO hS (qX (v' := .int .i64 (LZ.length : Int)) (yj rfl Tryd.runUnderlying110) (by rw [L3.len])) rfl fun hS => sB hS rfl fun hS => qB <| qG hS rfl hM (fun MY hM => ?_) (fun MY hM => ?_)
  ·refine wp_skip ?_
   refine qe <| wp_seq <| xO ?_
   obtain ⟨L6, hM⟩ := qK hM
   obtain ⟨Nt, Nw, MA, Nq, No⟩ := L3.get L6
   obtain ⟨L7, hM⟩ := qK hM
   obtain ⟨Nu, Nx, MB, Nr, Np⟩ := L3.get L7
   obtain ⟨Mk, Mm, Ng, Ms, M3⟩ := L3.get L6
   obtain ⟨Ml, Mn, Nh, Mt, M4⟩ := L3.get L7
   refine za (vals := [some (.slice Me L8.length Mf), some (.slice L0 L1.length L5), some (.int .i64 LY), some (xG L0 (Int.toNat LY * 2)), some (xG L0 (Int.toNat LY * 2 + 0)), some (.int .i64 ((rd LZ LY).often_)), some (.slice L0 L1.length L5), some (.int .i64 LY), some (.int .i64 (qh (LY + (1 : Int)))), some (xG L0 (Int.toNat (qh (LY + (1 : Int))) * 2)), some (xG L0 (Int.toNat (qh (LY + (1 : Int))) * 2 + 0)), some (.int .i64 ((rd LZ (qh (LY + (1 : Int)))).often_)), some (.int .i64 (qh ((rd LZ LY).often_ + (rd LZ (qh (LY + (1 : Int)))).often_))), some (.slice L0 L1.length L5), some (.int .i64 LY), some (xG L0 (Int.toNat LY * 2)), some (xG L0 (Int.toNat LY * 2 + 1)), some (.slice Mk ((rd LZ LY).symbols_).length Mm), some (.slice L0 L1.length L5), some (.int .i64 LY), some (.int .i64 (qh (LY + (1 : Int)))), some (xG L0 (Int.toNat (qh (LY + (1 : Int))) * 2)), some (xG L0 (Int.toNat (qh (LY + (1 : Int))) * 2 + 1)), some (.slice Ml ((rd LZ (qh (LY + (1 : Int)))).symbols_).length Mn), none, none, none, none, none, none]) hS xE rfl ?_
   intro l w ho hcl hA hst
   refine y9 hA hst ho hcl xx xF 24 [0, 1, 2, 3, 4, 5, 6, 7, 8, 9, 10, 11, 12, 13, 14, 15, 16, 17, 18, 19, 20, 21, 22, 23] rfl rfl rfl rfl rfl (by exact ⟨nM rfl, nM rfl, nM rfl, nQ rfl (by exact qX (yu rfl rfl Tryd.runUnderlying110 Tryd.sizeOf112 (L4.rd (i := 0) rfl) zT.len rfl (L3.inb L6)) rfl), nQ rfl (by exact qX (Y7 rfl (L4.rd (i := 0) rfl) zT.len rfl (L3.inb L6) Tryd.runUnderlying112 rfl Tryd.sizeOf3 rfl) rfl), nQ rfl (by exact qX (BB 0 rfl (L4.rd (i := 0) rfl) zT.len (L3.inb L6) (by rw [show zT.v (rd L1 LY) = _ from MA]; rfl) Tryd.isAgg3) rfl), nM rfl, nM rfl, nB rfl, nQ rfl (by exact qX (yu rfl rfl Tryd.runUnderlying110 Tryd.sizeOf112 (L4.rd (i := 0) rfl) zT.len rfl (L3.inb L7)) rfl), nQ rfl (by exact qX (Y7 rfl (L4.rd (i := 0) rfl) zT.len rfl (L3.inb L7) Tryd.runUnderlying112 rfl Tryd.sizeOf3 rfl) rfl), nQ rfl (by exact qX (BB 0 rfl (L4.rd (i := 0) rfl) zT.len (L3.inb L7) (by rw [show zT.v (rd L1 (qh (LY + (1 : Int)))) = _ from MB]; rfl) Tryd.isAgg3) rfl), nB rfl, nM rfl, nM rfl, nQ rfl (by exact qX (yu rfl rfl Tryd.runUnderlying110 Tryd.sizeOf112 (L4.rd (i := 0) rfl) zT.len rfl (L3.inb L6)) rfl), nQ rfl (by exact qX (Y7 rfl (L4.rd (i := 0) rfl) zT.len rfl (L3.inb L6) Tryd.runUnderlying112 rfl Tryd.sizeOf66 rfl) rfl), nQ rfl (by exact qX (BB 1 rfl (L4.rd (i := 0) rfl) zT.len (L3.inb L6) (by rw [show zT.v (rd L1 LY) = _ from Ng]; rfl) Tryd.isAgg66) rfl), nM rfl, nM rfl, nB rfl, nQ rfl (by exact qX (yu rfl rfl Tryd.runUnderlying110 Tryd.sizeOf112 (L4.rd (i := 0) rfl) zT.len rfl (L3.inb L7)) rfl), nQ rfl (by exact qX (Y7 rfl (L4.rd (i := 0) rfl) zT.len rfl (L3.inb L7) Tryd.runUnderlying112 rfl Tryd.sizeOf66 rfl) rfl), nQ rfl (by exact qX (BB 1 rfl (L4.rd (i := 0) rfl) zT.len (L3.inb L7) (by rw [show zT.v (rd L1 (qh (LY + (1 : Int)))) = _ from Nh]; rfl) Tryd.isAgg66) rfl), trivial⟩) fun D l a w ho hcl hav hpre hm hE hk hA hst => ?_
   have hS := (Ss.mk hE hst).env2 (e' := [(29, .slice Mk ((rd LZ LY).symbols_).length Mm), (35, .slice Ml ((rd LZ (qh (LY + (1 : Int)))).symbols_).length Mn)]) ⟨rfl, rfl, trivial⟩
   refine qQ rfl ?_
   obtain ⟨Md, hrw⟩ : ∃ r, r = ([(⟨[.slice Mk ((rd LZ LY).symbols_).length Mm], by simp, by simp [Value.oneCell']⟩ : zT 1), (⟨[.slice Ml ((rd LZ (qh (LY + (1 : Int)))).symbols_).length Mn], by simp, by simp [Value.oneCell']⟩ : zT 1)] : List (zT 1)) := ⟨_, rfl⟩
   have Mu : zH (vg Mh) ([(rd LZ LY).symbols_, (rd LZ (qh (LY + (1 : Int)))).symbols_] : List (List Int)) Md := by rw [hrw]; exact (zH.cons (show vg Mh _ _ from ⟨Mk, Mm, rfl, Ms, M3⟩) (zH.cons (show vg Mh _ _ from ⟨Ml, Mn, rfl, Mt, M4⟩) zH.nil))
   refine Y3 (g := (zT.v (sz := 1))) Md [.slice Mk ((rd LZ LY).symbols_).length Mm, .slice Ml ((rd LZ (qh (LY + (1 : Int)))).symbols_).length Mn] hS Tryd.runUnderlying153 Tryd.sizeOf66 X.el66 rfl rfl rfl (by simp [Value.cells]) (by rw [hrw]; rfl) (by rw [hrw]; rfl) rfl rfl rfl fun w Mv Mw Nz MI hS => ?_
   clear hrw
   refine qB ?_
   replace hst := hS.st
   obtain ⟨hcl, hmust, hav2, hA⟩ := dn (vals' := [some (.slice Me L8.length Mf), some (.slice L0 L1.length L5), some (.int .i64 LY), some (xG L0 (Int.toNat LY * 2)), some (xG L0 (Int.toNat LY * 2 + 0)), some (.int .i64 ((rd LZ LY).often_)), some (.slice L0 L1.length L5), some (.int .i64 LY), some (.int .i64 (qh (LY + (1 : Int)))), some (xG L0 (Int.toNat (qh (LY + (1 : Int))) * 2)), some (xG L0 (Int.toNat (qh (LY + (1 : Int))) * 2 + 0)), some (.int .i64 ((rd LZ (qh (LY + (1 : Int)))).often_)), some (.int .i64 (qh ((rd LZ LY).often_ + (rd LZ (qh (LY + (1 : Int)))).often_))), some (.slice L0 L1.length L5), some (.int .i64 LY), some (xG L0 (Int.toNat LY * 2)), some (xG L0 (Int.toNat LY * 2 + 1)), some (.slice Mk ((rd LZ LY).symbols_).length Mm), some (.slice L0 L1.length L5), some (.int .i64 LY), some (.int .i64 (qh (LY + (1 : Int)))), some (xG L0 (Int.toNat (qh (LY + (1 : Int))) * 2)), some (xG L0 (Int.toNat (qh (LY + (1 : Int))) * 2 + 1)), some (.slice Ml ((rd LZ (qh (LY + (1 : Int)))).symbols_).length Mn), some (.slice Mv Md.length Mw), none, none, none, none, none]) 24 [(17, 24), (23, 24), (16, 17), (22, 23), (15, 16), (21, 22), (13, 15), (14, 15), (18, 21), (20, 21), (19, 20)] hA hcl hav hm hpre hk rfl rfl rfl rfl rfl rfl rfl
   clear hm hav
   refine y9 hA hst ho hcl hav2 hmust 25 [0, 1, 2, 3, 4, 5, 6, 7, 8, 9, 10, 11, 12] rfl rfl rfl rfl rfl (by exact ⟨nM rfl, nM rfl, nM rfl, nQ rfl (by exact qX (yu rfl rfl Tryd.runUnderlying110 Tryd.sizeOf112 (L4.rd (i := 1) rfl) zT.len rfl (L3.inb L6)) rfl), nQ rfl (by exact qX (Y7 rfl (L4.rd (i := 1) rfl) zT.len rfl (L3.inb L6) Tryd.runUnderlying112 rfl Tryd.sizeOf3 rfl) rfl), nQ rfl (by exact qX (BB 0 rfl (L4.rd (i := 1) rfl) zT.len (L3.inb L6) (by rw [show zT.v (rd L1 LY) = _ from MA]; rfl) Tryd.isAgg3) rfl), nM rfl, nM rfl, nB rfl, nQ rfl (by exact qX (yu rfl rfl Tryd.runUnderlying110 Tryd.sizeOf112 (L4.rd (i := 1) rfl) zT.len rfl (L3.inb L7)) rfl), nQ rfl (by exact qX (Y7 rfl (L4.rd (i := 1) rfl) zT.len rfl (L3.inb L7) Tryd.runUnderlying112 rfl Tryd.sizeOf3 rfl) rfl), nQ rfl (by exact qX (BB 0 rfl (L4.rd (i := 1) rfl) zT.len (L3.inb L7) (by rw [show zT.v (rd L1 (qh (LY + (1 : Int)))) = _ from MB]; rfl) Tryd.isAgg3) rfl), nB rfl, trivial⟩) fun D l a w ho hcl hav hpre hm hE hk hA hst => ?_
   have hS := (Ss.mk hE hst).env2 (e' := [(36, .slice Mv Md.length Mw)]) ⟨rfl, trivial⟩
   refine qQ rfl ?_
   replace hS := hS.front [0, 1, 2] (by kernel_rfl)
   obtain ⟨MS, Nd, Mj, hS⟩ := hS.poolF
   have M5 := MI.cap zT.len rfl
   have Mz := MI.pl.mono Nd
   replace L4 := L4.mono Mj
   replace Ms := Ms.mono Mj
   replace Mt := Mt.mono Mj
   replace L3 := zH.mono (fun _ _ h => qj.mono Mj h) L3
   replace Mi := zH.mono (fun _ _ h => qj.mono Mj h) Mi
   replace Mu := zH.mono (fun _ _ h => vg.mono Mj h) Mu
   replace Mq := fun q h => Mj q (Mq q h)
   refine qF hS rfl Tryd.call77 (vD hG K ([(rd LZ LY).symbols_, (rd LZ (qh (LY + (1 : Int)))).symbols_] : List (List Int)) MS Mv Mw Md Mu Mz M5 (hS.st.part 1 [0, 1] (by kernel_rfl)) (qs hM) (fun Ma Mb L9 Nk w hM MQ hst => qA hS.ev hst.appF rfl fun hS => ?_) (fun v w hk hst => xo (qD (zR (qD (qD (zR (qD (⟨hS.ev.defs, hpan _ _ hk hst.appF.frame⟩)))))))))
   replace hS : Ss _ _ _ H [MS, Nk, My] F _ _ := hS
   refine qB ?_
   replace hst := hS.st
   obtain ⟨hcl, hmust, hav2, hA⟩ := dn (vals' := [some (.slice Me L8.length Mf), some (.slice L0 L1.length L5), some (.int .i64 LY), some (xG L0 (Int.toNat LY * 2)), some (xG L0 (Int.toNat LY * 2 + 0)), some (.int .i64 ((rd LZ LY).often_)), some (.slice L0 L1.length L5), some (.int .i64 LY), some (.int .i64 (qh (LY + (1 : Int)))), some (xG L0 (Int.toNat (qh (LY + (1 : Int))) * 2)), some (xG L0 (Int.toNat (qh (LY + (1 : Int))) * 2 + 0)), some (.int .i64 ((rd LZ (qh (LY + (1 : Int)))).often_)), some (.int .i64 (qh ((rd LZ LY).often_ + (rd LZ (qh (LY + (1 : Int)))).often_))), some (.slice L0 L1.length L5), some (.int .i64 LY), some (xG L0 (Int.toNat LY * 2)), some (xG L0 (Int.toNat LY * 2 + 1)), some (.slice Mk ((rd LZ LY).symbols_).length Mm), some (.slice L0 L1.length L5), some (.int .i64 LY), some (.int .i64 (qh (LY + (1 : Int)))), some (xG L0 (Int.toNat (qh (LY + (1 : Int))) * 2)), some (xG L0 (Int.toNat (qh (LY + (1 : Int))) * 2 + 1)), some (.slice Ml ((rd LZ (qh (LY + (1 : Int)))).symbols_).length Mn), some (.slice Mv Md.length Mw), some (.slice Ma L9.length Mb), some (.agg ⟨[.int .i64 (qh ((rd LZ LY).often_ + (rd LZ (qh (LY + (1 : Int)))).often_)), .slice Ma L9.length Mb]⟩), none, none, none]) 25 [(24, 25), (17, 24), (23, 24), (16, 17), (22, 23), (15, 16), (21, 22), (13, 15), (14, 15), (18, 21), (20, 21), (19, 20)] hA hcl hav hm hpre hk rfl rfl rfl rfl rfl rfl rfl
   clear hm hav
   refine y9 hA hst ho hcl hav2 hmust 27 [0, 1, 2, 3, 4, 5, 6, 7, 8, 9, 10, 11, 12, 26] rfl rfl rfl rfl rfl (by exact ⟨nM rfl, nM rfl, nM rfl, nQ rfl (by exact qX (yu rfl rfl Tryd.runUnderlying110 Tryd.sizeOf112 (L4.rd (i := 0) rfl) zT.len rfl (L3.inb L6)) rfl), nQ rfl (by exact qX (Y7 rfl (L4.rd (i := 0) rfl) zT.len rfl (L3.inb L6) Tryd.runUnderlying112 rfl Tryd.sizeOf3 rfl) rfl), nQ rfl (by exact qX (BB 0 rfl (L4.rd (i := 0) rfl) zT.len (L3.inb L6) (by rw [show zT.v (rd L1 LY) = _ from MA]; rfl) Tryd.isAgg3) rfl), nM rfl, nM rfl, nB rfl, nQ rfl (by exact qX (yu rfl rfl Tryd.runUnderlying110 Tryd.sizeOf112 (L4.rd (i := 0) rfl) zT.len rfl (L3.inb L7)) rfl), nQ rfl (by exact qX (Y7 rfl (L4.rd (i := 0) rfl) zT.len rfl (L3.inb L7) Tryd.runUnderlying112 rfl Tryd.sizeOf3 rfl) rfl), nQ rfl (by exact qX (BB 0 rfl (L4.rd (i := 0) rfl) zT.len (L3.inb L7) (by rw [show zT.v (rd L1 (qh (LY + (1 : Int)))) = _ from MB]; rfl) Tryd.isAgg3) rfl), nB rfl, nQ rfl (by exact qX (Z9 ([.int .i64 (qh ((rd LZ LY).often_ + (rd LZ (qh (LY + (1 : Int)))).often_)), .slice Ma L9.length Mb]) [(0, 1), (1, 1)] Tryd.zeroValue112 Tryd.runUnderlying112 (by intro w; simp [Tryd.sizeOf3, Tryd.sizeOf66]) rfl rfl) rfl), trivial⟩) fun D l a w ho hcl hav hpre hm hE hk hA hst => ?_
   have hS := (Ss.mk hE hst).env2 (e' := [(38, .agg ⟨[.int .i64 (qh ((rd LZ LY).often_ + (rd LZ (qh (LY + (1 : Int)))).often_)), .slice Ma L9.length Mb]⟩)]) ⟨rfl, trivial⟩
   refine qQ rfl ?_
   replace hS := hS.front [1, 0, 2] (by kernel_rfl)
   obtain ⟨ML, Nf, Mc, hS⟩ := hS.poolF
   have M6 := MQ.cap (fun _ => rfl) rfl
   have M9 := MQ.pl.mono Nf
   replace L4 := L4.mono Mc
   replace Ms := Ms.mono Mc
   replace Mt := Mt.mono Mc
   replace Mz := Mz.mono Mc
   replace L3 := zH.mono (fun _ _ h => qj.mono Mc h) L3
   replace Mi := zH.mono (fun _ _ h => qj.mono Mc h) Mi
   replace Mu := zH.mono (fun _ _ h => vg.mono Mc h) Mu
   replace Mq := fun q h => Mc q (Mq q h)
   obtain ⟨Mr, hrw⟩ : ∃ r, r = ([(⟨[.int .i64 (qh ((rd LZ LY).often_ + (rd LZ (qh (LY + (1 : Int)))).often_)), .slice Ma L9.length Mb], by simp, by simp [Value.oneCell']⟩ : zT 2)] : List (zT 2)) := ⟨_, rfl⟩
   have MJ : zH (qj ML) ([(qb.mk (qh ((rd LZ LY).often_ + (rd LZ (qh (LY + (1 : Int)))).often_)) L9)] : List qb) Mr := by rw [hrw]; exact (zH.cons (show qj ML _ _ from ⟨Ma, Mb, rfl, M9, M6⟩) zH.nil)
   refine Y3 (g := (zT.v (sz := 2))) Mr [.agg ⟨[.int .i64 (qh ((rd LZ LY).often_ + (rd LZ (qh (LY + (1 : Int)))).often_)), .slice Ma L9.length Mb]⟩] hS Tryd.runUnderlying110 Tryd.sizeOf112 X.el112 rfl rfl rfl (by simp [Value.cells]) (by rw [hrw]; rfl) (by rw [hrw]; rfl) rfl rfl rfl fun w MF MG NA MW hS => ?_
   clear hrw
   refine qB ?_
   replace hst := hS.st
   obtain ⟨hcl, hmust, hav2, hA⟩ := dn (vals' := [some (.slice Me L8.length Mf), some (.slice L0 L1.length L5), some (.int .i64 LY), some (xG L0 (Int.toNat LY * 2)), some (xG L0 (Int.toNat LY * 2 + 0)), some (.int .i64 ((rd LZ LY).often_)), some (.slice L0 L1.length L5), some (.int .i64 LY), some (.int .i64 (qh (LY + (1 : Int)))), some (xG L0 (Int.toNat (qh (LY + (1 : Int))) * 2)), some (xG L0 (Int.toNat (qh (LY + (1 : Int))) * 2 + 0)), some (.int .i64 ((rd LZ (qh (LY + (1 : Int)))).often_)), some (.int .i64 (qh ((rd LZ LY).often_ + (rd LZ (qh (LY + (1 : Int)))).often_))), some (.slice L0 L1.length L5), some (.int .i64 LY), some (xG L0 (Int.toNat LY * 2)), some (xG L0 (Int.toNat LY * 2 + 1)), some (.slice Mk ((rd LZ LY).symbols_).length Mm), some (.slice L0 L1.length L5), some (.int .i64 LY), some (.int .i64 (qh (LY + (1 : Int)))), some (xG L0 (Int.toNat (qh (LY + (1 : Int))) * 2)), some (xG L0 (Int.toNat (qh (LY + (1 : Int))) * 2 + 1)), some (.slice Ml ((rd LZ (qh (LY + (1 : Int)))).symbols_).length Mn), some (.slice Mv Md.length Mw), some (.slice Ma L9.length Mb), some (.agg ⟨[.int .i64 (qh ((rd LZ LY).often_ + (rd LZ (qh (LY + (1 : Int)))).often_)), .slice Ma L9.length Mb]⟩), some (.slice MF Mr.length MG), none, none]) 27 [(26, 27), (12, 26), (25, 26), (5, 12), (11, 12), (24, 25), (4, 5), (10, 11), (17, 24), (23, 24), (3, 4), (9, 10), (16, 17), (22, 23), (1, 3), (2, 3), (6, 9), (8, 9), (15, 16), (21, 22), (7, 8), (13, 15), (14, 15), (18, 21), (20, 21), (19, 20)] hA hcl hav hm hpre hk rfl rfl rfl rfl rfl rfl rfl
   clear hm hav
   refine y9 hA hst ho hcl hav2 hmust 28 [0] rfl rfl rfl rfl rfl (by exact ⟨nM rfl, trivial⟩) fun D l a w ho hcl hav hpre hm hE hk hA hst => ?_
   have hS := (Ss.mk hE hst).env2 (e' := [(12, .slice Me L8.length Mf), (39, .slice MF Mr.length MG)]) ⟨rfl, rfl, trivial⟩
   refine qQ rfl ?_
   obtain ⟨M7, hM⟩ := qK hM
   refine JA (ys := Mr) 2 hS rfl rfl MH rfl (MW.rd (i := 0) rfl) Tryd.runUnderlying110 Tryd.runUnderlying110 X.el112 zT.len rfl Xi (Mi.room MJ M7) rfl fun Mx w MD ME Nl hz MX hS => ?_
   obtain ⟨Ni, hzm⟩ := vR (Mp ++ ([(qb.mk (qh ((rd LZ LY).often_ + (rd LZ (qh (LY + (1 : Int)))).often_)) L9)] : List qb))
   replace hM := qy hzm hM
   have MK := zH.append Mi MJ
   rw [← hz, ← hzm] at MK; clear hz hzm
   refine qB ?_
   replace hst := hS.st
   obtain ⟨hcl, hmust, hav2, hA⟩ := dn (vals' := [some (.slice Me L8.length Mf), some (.slice L0 L1.length L5), some (.int .i64 LY), some (xG L0 (Int.toNat LY * 2)), some (xG L0 (Int.toNat LY * 2 + 0)), some (.int .i64 ((rd LZ LY).often_)), some (.slice L0 L1.length L5), some (.int .i64 LY), some (.int .i64 (qh (LY + (1 : Int)))), some (xG L0 (Int.toNat (qh (LY + (1 : Int))) * 2)), some (xG L0 (Int.toNat (qh (LY + (1 : Int))) * 2 + 0)), some (.int .i64 ((rd LZ (qh (LY + (1 : Int)))).often_)), some (.int .i64 (qh ((rd LZ LY).often_ + (rd LZ (qh (LY + (1 : Int)))).often_))), some (.slice L0 L1.length L5), some (.int .i64 LY), some (xG L0 (Int.toNat LY * 2)), some (xG L0 (Int.toNat LY * 2 + 1)), some (.slice Mk ((rd LZ LY).symbols_).length Mm), some (.slice L0 L1.length L5), some (.int .i64 LY), some (.int .i64 (qh (LY + (1 : Int)))), some (xG L0 (Int.toNat (qh (LY + (1 : Int))) * 2)), some (xG L0 (Int.toNat (qh (LY + (1 : Int))) * 2 + 1)), some (.slice Ml ((rd LZ (qh (LY + (1 : Int)))).symbols_).length Mn), some (.slice Mv Md.length Mw), some (.slice Ma L9.length Mb), some (.agg ⟨[.int .i64 (qh ((rd LZ LY).often_ + (rd LZ (qh (LY + (1 : Int)))).often_)), .slice Ma L9.length Mb]⟩), some (.slice MF Mr.length MG), some (.slice MD Mx.length ME), some (.slice MD Mx.length ME)]) 28 [(0, 28), (25, 28), (27, 28), (24, 25), (26, 27), (17, 24), (23, 24), (12, 26), (16, 17), (22, 23), (5, 12), (11, 12), (15, 16), (21, 22), (4, 5), (10, 11), (13, 15), (14, 15), (18, 21), (20, 21), (3, 4), (9, 10), (19, 20), (1, 3), (2, 3), (6, 9), (8, 9), (7, 8)] hA hcl hav hm hpre hk rfl rfl rfl rfl rfl rfl rfl
   clear hm hav
   refine yk hA hst ho hcl hmust [29] rfl rfl rfl (by exact ⟨nA rfl, trivial⟩) fun a w hS => ?_
   replace hS := hS.env2 (e' := [(0, .slice L0 L1.length L5), (3, .slice MD Mx.length ME), (4, .int .i64 LY)]) ⟨rfl, rfl, rfl, trivial⟩
   refine zy (qe ?_)
   refine zN <| sM hS rfl fun hS => sB hS rfl fun hS => zE (v := Value.int .i64) (x0 := (qh (LY + (2 : Int)))) hS (xy rfl) rfl fun Nm a w hz hS => ?_
   have hM := qy hz hM; clear hz
   refine zp <| qe ?_
   exact MU _ _ ⟨ML, MD, ME, Mx, Ni, Nl, Nm, hS.to [1, 2] (by kernel_rfl) ⟨rfl, rfl, rfl, trivial⟩, Mq, L3, L4, M0, MX, MK, hM⟩
  ·refine wp_exit ?_
   refine qE (qE (ze (qe ?_)))
   refine qm <| sM hS rfl fun hS => sA hS rfl fun hS => qB <| wp_ret ?_
   exact zD (rs := [2]) hS rfl rfl (hret Mh Me Mf L8 Mp My _ (q7 hM) Mq MH Mi (hS.st.pick [0, 1] (by kernel_rfl)))
def xQ (p : qk) (x : (List qb)) (vs : List Value) : Prop :=
  ∃ (A0 : Option Addr) (c0 : Nat) (r0 : List (zT 2)), vs = [.slice A0 r0.length c0] ∧ zH (qj p) x r0 ∧ Pl p (zT.v (sz := 2)) A0 r0 ∧ r0.length ≤ c0
theorem xQ.mono {p p' : qk} (hs : ∀ q ∈ p, q ∈ p') {x : (List qb)} {vs : List Value} (h : xQ p x vs) : xQ p' x vs := by
  obtain ⟨A0, c0, r0, h0, h1, h2, h3⟩ := h
  exact ⟨A0, c0, r0, h0, zH.mono (fun _ _ h => qj.mono hs h) h1, h2.mono hs, h3⟩
theorem yH {H : xR} {F : List qk} {w : World} {R : Ending → World → Prop} {kr : Unit → Prop} {kp : Value → Prop} (hG : Gl H) (K : Nat) (LZ : Int)
    (hS : St w H [] F) (hm : (zZ.m K LZ).wp kr kp)
    (hret : ∀ (L4 : qk) (L0 : Option Addr) (L1 : Nat) (L3 : qk) (w : World), kr () → (xi 112 (zT.v (sz := 2)) 2 L0 ([] : List (zT 2)) L1 L3) → (zH (qj L4) ([] : List qb) ([] : List (zT 2))) → St w H [L4, L3] F → R (.returned (.slice L0 ([] : List (zT 2)).length L1)) w)
    (hpan : ∀ v w, kp v → St w H [] F → R (.panicked [⟨v, false, false⟩]) w) :
    Calls Tryd.prog 87 ⟨[.slice none 0 0, .int .i64 LZ]⟩ w R := by
 refine enter Tryd.func87 rfl Tryd.ntmps87 rfl hS fun a w hS => ?_
 have hM := hm; clear hm
 rw [zZ.m] at hM
 refine qm <| sA hS rfl fun hS => ?_
 obtain ⟨LY, hS⟩ := hS.pool0
 obtain ⟨Ml, Mi, hS⟩ := hS.nilV 112 (zT.v (sz := 2)) 2
 have Mj : zH (qj LY) ([] : List qb) ([] : List (zT 2)) := zH.nil
 refine qB <| wp_seq <| qm <| sM hS rfl fun hS => sB hS rfl fun hS => qB <| qG hS rfl hM (fun L8 hM => ?_) (fun L8 hM => ?_)
 ·refine zN ?_
  refine sO hS (Gu rfl Tryd.runUnderlying9 rfl) rfl fun hS => Qj hS rfl <| qD ?_
  exact ⟨hS.ev.defs, hpan _ _ (ZL hM) hS.st.frame⟩
 ·refine wp_skip ?_
  refine qe <| wp_seq <| qm <| sM hS rfl fun hS => sM hS rfl fun hS => sO hS (BG rfl Tryd.runUnderlying110) rfl fun hS => sM hS rfl fun hS => sO hS (yj rfl Tryd.runUnderlying110) rfl fun hS => sB hS rfl fun hS => sB hS rfl fun hS => zE (v := Value.int .i64) (x0 := (qh (LZ - (qh ((0 : Int) - (0 : Int)))))) hS (xy rfl) rfl fun Mk a w hz hS => ?_
  have hM := qy hz hM; clear hz
  refine qB <| qm <| sM hS rfl fun hS => sB hS rfl fun hS => qB <| qG hS rfl hM (fun L9 hM => ?_) (fun L9 hM => ?_)
  ·refine zN ?_
   refine sM hS rfl fun hS => sM hS rfl fun hS => sO hS (BG rfl Tryd.runUnderlying110) rfl fun hS => sO hS (LB rfl Tryd.runUnderlying110 Tryd.sizeOf112 (BR rfl)) rfl fun hS => sM hS rfl fun hS => ?_
   obtain ⟨Mb, hM⟩ := qK hM
   refine Lr (g := (zT.v (sz := 2))) hS rfl rfl Tryd.runUnderlying110 Tryd.runUnderlying3 X.el112 rfl rfl Mb rfl fun w Me Mf Mg L6 Ma L5 hS => ?_
   have Mc : zH (qj LY) ([] : List qb) ([] : List (zT 2)) := zH.nil
   refine sM hS rfl fun hS => sO hS (yj rfl Tryd.runUnderlying110) rfl fun hS => sO hS (LA rfl Tryd.runUnderlying110 Tryd.sizeOf112 (fun _ => BR rfl) Ma L5) rfl fun hS => sA hS rfl fun hS => qB <| qm <| sM hS rfl fun hS => sA hS rfl fun hS => qB <| wp_ret ?_
   exact zD (rs := [4]) hS rfl rfl (hret LY Me Mf Mg _ (q7 hM) L6 Mc (hS.st.pick [2, 0] (by kernel_rfl)))
  ·refine wp_skip ?_
   refine qe <| qm <| sM hS rfl fun hS => sA hS rfl fun hS => ?_
   obtain ⟨Mh, L7, hS⟩ := hS.nilV 112 (zT.v (sz := 2)) 2
   have Md : zH (qj LY) ([] : List qb) ([] : List (zT 2)) := zH.nil
   refine qB <| wp_ret ?_
   exact zD (rs := [4]) hS rfl rfl (hret LY none (0) Mh _ (q7 hM) L7 Md (hS.st.pick [2, 0] (by kernel_rfl)))
theorem yT {H : xR} {F : List qk} {w : World} {R : Ending → World → Prop} {kr : (List qb) → Prop} {kp : Value → Prop} (hG : Gl H) (K : Nat) (LY : List (List qb)) (L4 : qk) (L9 : Option Addr) (Ma : Nat) (L1 : List (zT 1)) (L0 : zH (xQ L4) LY L1) (L6 : Pl L4 (zT.v (sz := 1)) L9 L1) (MY : L1.length ≤ Ma)
    (hS : St w H [L4] F) (hm : (qu.m K LY).wp kr kp)
    (hret : ∀ (Mr : qk) (Mt : Option Addr) (Mu : Nat) (Mh : List (zT 2)) (Mz : (List qb)) (Mw : qk) (w : World), kr Mz → (∀ q ∈ L4, q ∈ Mr) → (xi 112 (zT.v (sz := 2)) 2 Mt Mh Mu Mw) → (zH (qj Mr) Mz Mh) → St w H [Mr, Mw] F → R (.returned (.slice Mt Mh.length Mu)) w)
    (hpan : ∀ v w, kp v → St w H [] F → R (.panicked [⟨v, false, false⟩]) w) :
    Calls Tryd.prog 75 ⟨[.slice L9 L1.length Ma]⟩ w R := by
 refine enter Tryd.func75 rfl Tryd.ntmps75 rfl hS fun a w hS => ?_
 have hM := hm; clear hm
 rw [qu.m] at hM
 have Mf : ∀ q ∈ L4, q ∈ L4 := fun _ h => h
 refine qm <| sA hS rfl fun hS => ?_
 obtain ⟨Nd, MX, hS⟩ := hS.nilV 112 (zT.v (sz := 2)) 2
 have M4 : zH (qj L4) ([] : List qb) ([] : List (zT 2)) := zH.nil
 refine qB <| qm <| sA hS rfl fun hS => qB <| zj (fun a w => ∃ (L5 : Int), Ss 36 [] [(0, .slice L9 L1.length Ma), (3, .int .i64 L5)] H [L4] F a w ∧ (qu.j2 K LY L5).wp kr kp) (fun M9 MB => ?_) ?_
 ·refine wp_seq ?_
  refine zN <| sM hS rfl fun hS => sO hS (qX (v' := .int .i64 (LY.length : Int)) (yj rfl Tryd.runUnderlying151) (by rw [L0.len])) rfl fun hS => sM hS rfl fun hS => qB <| xO <| zu (fun Mx a w => ∃ (L3 : Int) (L8 : Int), Ss 36 [] [(0, .slice L9 L1.length Ma), (3, .int .i64 L3), (9, .slice L9 L1.length Ma), (10, .int .i64 (LY.length : Int)), (11, .int .i64 L8)] H [L4] F a w ∧ (qu.l1 K LY Mx L3 L8).wp kr kp) K ?_ ?_ ?_
  ·exact ⟨(0 : Int), (0 : Int), hS.to [1] (by kernel_rfl) ⟨rfl, rfl, rfl, rfl, rfl, trivial⟩, hM⟩
  ·intro a w hI; obtain ⟨_, _, _, hM⟩ := hI; exact zt hM
  ·intro Mx a w hI M8 MA
   obtain ⟨L3, L8, hS, hM⟩ := hI
   rw [qu.l1] at hM
   refine qm <| sB hS rfl fun hS => qB <| wp_seq <| qG hS rfl hM (fun ME hM => ?_) (fun ME hM => ?_)
   ·refine wp_skip ?_
    refine qe <| wp_seq <| xO <| wp_seq <| zN ?_
    obtain ⟨Mc, hM⟩ := qK hM
    refine sO hS (yu rfl rfl Tryd.runUnderlying151 Tryd.sizeOf110 (L6.rd (i := 0) rfl) zT.len rfl (L0.inb Mc)) rfl fun hS => ?_
    obtain ⟨M6, Nb, M5, ML, MJ, M3, MZ⟩ := L0.get Mc
    refine sO hS (yD rfl (L6.rd (i := 0) rfl) zT.len (L0.inb Mc) (by rw [show zT.v (rd L1 L8) = _ from ML]; rfl) Tryd.isAgg110) rfl fun hS => sA hS rfl fun hS => qB <| qm <| sM hS rfl fun hS => sM hS rfl fun hS => sO hS (qX (v' := .int .i64 ((rd LY L8).length : Int)) (yj rfl Tryd.runUnderlying110) (by rw [MJ.len])) rfl fun hS => sB hS rfl fun hS => zE (v := Value.int .i64) (x0 := (qh (L3 + ((rd LY L8).length : Int)))) hS (xy rfl) rfl fun Ms a w hz hS => ?_
    have hM := qy hz hM; clear hz
    refine qB <| qm <| sM hS rfl fun hS => sB hS rfl fun hS => qB <| qG hS rfl hM (fun MF hM => ?_) (fun MF hM => ?_)
    ·refine zN ?_
     refine sO hS (Gu rfl Tryd.runUnderlying9 rfl) rfl fun hS => Qj hS rfl <| zR (qD (qD (zR (qD ?_))))
     exact ⟨hS.ev.defs, hpan _ _ (ZL hM) hS.st.frame⟩
    ·refine wp_skip ?_
     refine zy (qe ?_)
     refine zN <| sB hS rfl fun hS => sM hS rfl fun hS => zp <| qe ?_
     exact MA _ _ ⟨Ms, (qh (L8 + (1 : Int))), hS.to [0] (by kernel_rfl) ⟨rfl, rfl, rfl, rfl, rfl, trivial⟩, hM⟩
   ·refine wp_exit ?_
    refine qE (qE (ze (qe ?_)))
    exact MB _ _ ⟨L3, hS.to [0] (by kernel_rfl) ⟨rfl, rfl, trivial⟩, hM⟩
 ·intro a w hI
  obtain ⟨L5, hS, hM⟩ := hI
  rw [qu.j2] at hM
  refine qm <| sM hS rfl fun hS => qF hS rfl Tryd.call87 (yH hG K L5 (hS.st.part 0 [0] (by kernel_rfl)) (qs hM) (fun MW MQ MS Mv w hM MV Ml hst => qA hS.ev hst.appF rfl fun hS => ?_) (fun v w hk hst => xo (qD (⟨hS.ev.defs, hpan _ _ hk hst.appF.frame⟩))))
  replace hS : Ss _ _ _ H [MW, Mv, L4] F _ _ := hS
  replace hS := hS.front [0, 2, 1] (by kernel_rfl)
  obtain ⟨Mq, MK, Mg, hS⟩ := hS.poolF
  replace Ml := zH.mono (fun _ _ h => qj.mono MK h) Ml
  replace L6 := L6.mono Mg
  replace L0 := zH.mono (fun _ _ h => xQ.mono Mg h) L0
  replace Mf := fun q h => Mg q (Mf q h)
  refine sA hS rfl fun hS => qB <| wp_seq <| qm <| sM hS rfl fun hS => sO hS (qX (v' := .int .i64 (LY.length : Int)) (yj rfl Tryd.runUnderlying151) (by rw [L0.len])) rfl fun hS => sM hS rfl fun hS => qB <| xO <| zu (fun My a w => ∃ (Mi : Option Addr) (Mj : Nat) (L7 : List (zT 2)) (LZ : (List qb)) (Mk : qk) (Mb : Int), Ss 36 [] [(6, .slice Mi L7.length Mj), (25, .slice L9 L1.length Ma), (26, .int .i64 (LY.length : Int)), (27, .int .i64 Mb)] H [Mq, Mk] F a w ∧ (xi 112 (zT.v (sz := 2)) 2 Mi L7 Mj Mk) ∧ (zH (qj Mq) LZ L7) ∧ (qu.l3 K LY My LZ Mb).wp kr kp) K ?_ ?_ ?_
  ·exact ⟨MQ, MS, ([] : List (zT 2)), ([] : List qb), Mv, (0 : Int), hS.to [0, 1] (by kernel_rfl) ⟨rfl, rfl, rfl, rfl, trivial⟩, MV, Ml, hM⟩
  ·intro a w hI; obtain ⟨_, _, _, _, _, _, _, _, _, hM⟩ := hI; exact zt hM
  ·intro My a w hI Na MC
   obtain ⟨Mi, Mj, L7, LZ, Mk, Mb, hS, Mm, Me, hM⟩ := hI
   rw [qu.l3] at hM
   refine qm <| sB hS rfl fun hS => qB <| wp_seq <| qG hS rfl hM (fun MG hM => ?_) (fun MG hM => ?_)
   ·refine wp_skip ?_
    refine qe <| wp_seq <| xO <| wp_seq <| zN ?_
    obtain ⟨Md, hM⟩ := qK hM
    refine sO hS (yu rfl rfl Tryd.runUnderlying151 Tryd.sizeOf110 (L6.rd (i := 0) rfl) zT.len rfl (L0.inb Md)) rfl fun hS => ?_
    obtain ⟨M7, Nc, MN, MM, Mn, MI, M0⟩ := L0.get Md
    refine sO hS (yD rfl (L6.rd (i := 0) rfl) zT.len (L0.inb Md) (by rw [show zT.v (rd L1 Mb) = _ from MM]; rfl) Tryd.isAgg110) rfl fun hS => sA hS rfl fun hS => qB <| zN <| sM hS rfl fun hS => sM hS rfl fun hS => ?_
    obtain ⟨MH, hM⟩ := qK hM
    refine JA (ys := MN) 1 hS rfl rfl Mm rfl (MI.rd (i := 0) rfl) Tryd.runUnderlying110 Tryd.runUnderlying110 X.el112 zT.len rfl Xi (Me.room Mn MH) rfl fun MO w MR MT MU hz MD hS => ?_
    obtain ⟨MP, hzm⟩ := vR (LZ ++ (rd LY Mb))
    replace hM := qy hzm hM
    have Mp := zH.append Me Mn
    rw [← hz, ← hzm] at Mp; clear hz hzm
    refine sA hS rfl fun hS => zp <| zy (qe ?_)
    refine zN <| sB hS rfl fun hS => sM hS rfl fun hS => zp <| qe ?_
    exact MC _ _ ⟨MR, MT, MO, MP, MU, (qh (Mb + (1 : Int))), hS.to [0, 1] (by kernel_rfl) ⟨rfl, rfl, rfl, rfl, trivial⟩, MD, Mp, hM⟩
   ·refine wp_exit ?_
    refine qE (qE (ze (qe ?_)))
    refine qm <| sM hS rfl fun hS => sA hS rfl fun hS => qB <| wp_ret ?_
    exact zD (rs := [2]) hS rfl rfl (hret Mq Mi Mj L7 LZ Mk _ (q7 hM) Mf Mm Me (hS.st.pick [0, 1] (by kernel_rfl)))
end Go.TrydS

set_option maxRecDepth 100000
namespace Go.TrydS
open Go Go.Sl Go.Mo Go.Proofs
attribute [local irreducible] qN.wp
theorem Ye {H : xR} {F : List qk} {w : World} {R : Ending → World → Prop} {kr : (List qb) → Prop} {kp : Value → Prop} (hG : Gl H) (K : Nat) (Mc : List qb) (Md : List qb) (LY : qk) (Mh : Option Addr) (Mj : Nat) (L0 : List (zT 2)) (Mi : Option Addr) (Mk : Nat) (L1 : List (zT 2)) (L8 : zH (qj LY) Mc L0) (L6 : Pl LY (zT.v (sz := 2)) Mh L0) (MA : L0.length ≤ Mj) (L9 : zH (qj LY) Md L1) (L7 : Pl LY (zT.v (sz := 2)) Mi L1) (MB : L1.length ≤ Mk)
    (hS : St w H [LY] F) (hm : (yQ.m K Mc Md).wp kr kp)
    (hret : ∀ (Ms : qk) (Mt : Option Addr) (Mu : Nat) (Mn : List (zT 2)) (Mz : (List qb)) (My : qk) (w : World), kr Mz → (∀ q ∈ LY, q ∈ Ms) → (xi 112 (zT.v (sz := 2)) 2 Mt Mn Mu My) → (zH (qj Ms) Mz Mn) → St w H [Ms, My] F → R (.returned (.slice Mt Mn.length Mu)) w)
    (hpan : ∀ v w, kp v → St w H [] F → R (.panicked [⟨v, false, false⟩]) w) :
    Calls Tryd.prog 58 ⟨[.slice Mh L0.length Mj, .slice Mi L1.length Mk]⟩ w R := by
 refine enter Tryd.func58 rfl Tryd.ntmps58 rfl hS fun a w hS => ?_
 have hM := hm; clear hm
 rw [yQ.m] at hM
 have Mb : ∀ q ∈ LY, q ∈ LY := fun _ h => h
 refine qm <| sA hS rfl fun hS => ?_
 obtain ⟨Mv, MN, hS⟩ := hS.nilV 112 (zT.v (sz := 2)) 2
 have Me : zH (qj LY) ([] : List qb) ([] : List (zT 2)) := zH.nil
 refine qB <| qm <| sM hS rfl fun hS => sM hS rfl fun hS => ?_
 obtain ⟨Mm, hrw⟩ : ∃ r, r = ([(⟨[.slice Mh L0.length Mj], by simp, by simp [Value.oneCell']⟩ : zT 1), (⟨[.slice Mi L1.length Mk], by simp, by simp [Value.oneCell']⟩ : zT 1)] : List (zT 1)) := ⟨_, rfl⟩
 have Ma : zH (xQ LY) ([Mc, Md] : List (List qb)) Mm := by rw [hrw]; exact (zH.cons (show xQ LY _ _ from ⟨Mh, Mj, L0, rfl, L8, L6, MA⟩) (zH.cons (show xQ LY _ _ from ⟨Mi, Mk, L1, rfl, L9, L7, MB⟩) zH.nil))
 refine Y3 (g := (zT.v (sz := 1))) Mm [.slice Mh L0.length Mj, .slice Mi L1.length Mk] hS Tryd.runUnderlying151 Tryd.sizeOf110 X.el110 rfl rfl rfl (by simp [Value.cells]) (by rw [hrw]; rfl) (by rw [hrw]; rfl) rfl rfl rfl fun w ME MF MO Mr hS => ?_
 clear hrw
 replace hS := hS.front [0, 2, 1] (by kernel_rfl)
 obtain ⟨MK, MD, LZ, hS⟩ := hS.poolF
 have MC := Mr.cap zT.len rfl
 have Ml := Mr.pl.mono MD
 replace L6 := L6.mono LZ
 replace L7 := L7.mono LZ
 replace L8 := zH.mono (fun _ _ h => qj.mono LZ h) L8
 replace L9 := zH.mono (fun _ _ h => qj.mono LZ h) L9
 replace Me := zH.mono (fun _ _ h => qj.mono LZ h) Me
 replace Ma := zH.mono (fun _ _ h => xQ.mono LZ h) Ma
 replace Mb := fun q h => LZ q (Mb q h)
 refine qF hS rfl Tryd.call75 (yT hG K ([Mc, Md] : List (List qb)) MK ME MF Mm Ma Ml MC (hS.st.part 1 [0, 1] (by kernel_rfl)) (qs hM) (fun Mp L3 L4 Mf ML Mw w hM L5 MG MH hst => qA hS.ev hst.appF rfl fun hS => ?_) (fun v w hk hst => xo (qD (⟨hS.ev.defs, hpan _ _ hk hst.appF.frame⟩))))
 replace hS : Ss _ _ _ H [Mp, Mw, Mv] F _ _ := hS
 replace L6 := L6.mono L5
 replace L7 := L7.mono L5
 replace Ml := Ml.mono L5
 replace L8 := zH.mono (fun _ _ h => qj.mono L5 h) L8
 replace L9 := zH.mono (fun _ _ h => qj.mono L5 h) L9
 replace Me := zH.mono (fun _ _ h => qj.mono L5 h) Me
 replace Ma := zH.mono (fun _ _ h => xQ.mono L5 h) Ma
 replace Mb := fun q h => L5 q (Mb q h)
 refine sA hS rfl fun hS => qB <| qm <| sM hS rfl fun hS => qF hS rfl Tryd.call55 (xw 76 (.inr rfl) hG K ML Mp L3 L4 Mf Mw MH MG (hS.st.part 2 [0, 1, 2] (by kernel_rfl)) (qs hM) (fun Mg MM Mx w hM MI MJ Mq hst => qA hS.ev hst.appF rfl fun hS => ?_))
 replace hS : Ss _ _ _ H [Mp, Mx, Mv] F _ _ := hS
 replace hS := hS.re 5 (u := .slice L3 Mf.length L4) (v := .slice L3 Mg.length L4) rfl (by rw [Mq])
 replace hS := hS.re 9 (u := .slice L3 Mf.length L4) (v := .slice L3 Mg.length L4) rfl (by rw [Mq])
 replace hS := hS.re 10 (u := .slice L3 Mf.length L4) (v := .slice L3 Mg.length L4) rfl (by rw [Mq])
 refine qB <| qm <| sM hS rfl fun hS => sA hS rfl fun hS => qB <| wp_ret ?_
 exact zD (rs := [4]) hS rfl rfl (hret Mp L3 L4 Mg MM Mx _ (q7 hM) Mb MI MJ (hS.st.pick [0, 1] (by kernel_rfl)))
theorem uV {H : xR} {F : List qk} {w : World} {R : Ending → World → Prop} {kr : ((List Int) × Int) → Prop} {kp : Value → Prop} (hG : Gl H) (K : Nat) (LY : List Int) (LZ : Int) (Mv : Option Addr) (Mw : Nat) (MZ : jG H [] F (ci .i64) Mv LY) (Pj : LY.length ≤ Mw)
    (hS : St w H [] F) (hm : (qz.m K LY LZ).wp kr kp)
    (hret : ∀ (NK : Option Addr) (NM : Nat) (NI : (List Int)) (NN : qk) (NV : Int) (w : World), kr (NI, NV) → (xi 3 (ci .i64) 1 NK NI NM NN) → St w H [NN] F → R (.returned (.tuple ⟨[.slice NK NI.length NM, .int .i64 NV]⟩)) w)
    (hpan : ∀ v w, kp v → St w H [] F → R (.panicked [⟨v, false, false⟩]) w) :
    Calls Tryd.prog 38 ⟨[.slice Mv LY.length Mw, .int .i64 LZ]⟩ w R := by
 refine enter Tryd.func38 rfl Tryd.ntmps38 rfl hS fun a w hS => ?_
 have hM := hm; clear hm
 rw [qz.m] at hM
 refine qm <| sA hS rfl fun hS => ?_
 obtain ⟨PR, Sa, hS⟩ := hS.nilV 3 (ci .i64) 1
 refine sA hS rfl fun hS => qB <| wp_seq <| qm <| sM hS rfl fun hS => sB hS rfl fun hS => sM hS rfl fun hS => yS 2 false 17 (b := (decide (LZ < (1 : Int)))) (r := (decide (LZ > (15 : Int)))) hS rfl rfl rfl rfl rfl rfl rfl (fun hb a w hS K hK => ?_) rfl fun a w hS => ?_
 ·refine z2 hS rfl rfl rfl hb (mv rfl) rfl fun a w hS => ?_
  refine z2 hS rfl rfl rfl hb (jk rfl rfl rfl) rfl fun a w hS => ?_
  exact zp (hK _ _ (hS.up 2 rfl rfl))
 refine sM hS rfl fun hS => yS 3 false 21 (b := ((decide (LZ < (1 : Int))) || (decide (LZ > (15 : Int))))) (r := (decide ((LY.length : Int) > (320 : Int)))) hS rfl rfl rfl rfl rfl rfl rfl (fun hb a w hS K hK => ?_) rfl fun a w hS => ?_
 ·refine z2 hS rfl rfl rfl hb (mv rfl) rfl fun a w hS => ?_
  refine z2 hS rfl rfl rfl hb (yj rfl Tryd.runUnderlying66) rfl fun a w hS => z2 hS rfl rfl rfl hb (jk rfl rfl rfl) rfl fun a w hS => ?_
  exact zp (hK _ _ (hS.up 3 rfl rfl))
 refine sM hS rfl fun hS => Vs (fun a w => ∃ (NH : Bool), Ss 109 [] [(0, .slice Mv LY.length Mw), (1, .int .i64 LZ), (29, .bool NH)] H [] F a w ∧ (qz.j1 K LY LZ NH).wp kr kp) 3 (fun Sj Ni => ?_) ?_
 ·refine Gs (b := (((decide (LZ < (1 : Int))) || (decide (LZ > (15 : Int)))) || (decide ((LY.length : Int) > (320 : Int))))) hM (fun Mz hM => ?_) (fun Mz hM => ?_)
  ·replace hS := hS.re 25 (v := .bool true) rfl (congrArg Value.bool Mz)
   replace hS := hS.re 26 (v := .bool true) rfl (congrArg Value.bool Mz)
   refine DK 2 hS rfl fun a w hS => sO hS (pk rfl rfl rfl) rfl fun hS => zp <| qe ?_
   exact Ni _ _ ⟨true, hS.to [] (by kernel_rfl) ⟨rfl, rfl, rfl, trivial⟩, hM⟩
  ·replace hS := hS.re 25 (v := .bool false) rfl (congrArg Value.bool Mz)
   replace hS := hS.re 26 (v := .bool false) rfl (congrArg Value.bool Mz)
   refine z2 hS rfl rfl rfl rfl (mv rfl) rfl fun a w hS => Jz hS rfl rfl rfl rfl <| qF hS rfl Tryd.call53 (jh hG K LY Mv Mw (MZ.app _) Pj (hS.st.part 0 [0] (by kernel_rfl)) (qs hM) (fun P7 w hM  hst => qA hS.ev hst.appF rfl fun hS => ?_))
   replace hS : Ss _ _ _ H [PR] F _ _ := hS
   refine sO hS (pk rfl rfl rfl) rfl fun hS => zp <| qe ?_
   exact Ni _ _ ⟨P7, hS.to [] (by kernel_rfl) ⟨rfl, rfl, rfl, trivial⟩, hM⟩
 ·intro a w hI
  obtain ⟨NH, hS, hM⟩ := hI
  rw [qz.j1] at hM
  refine qB <| qG hS rfl hM (fun Pa hM => ?_) (fun Pa hM => ?_)
  ·refine wp_seq ?_
   refine zN <| sA hS rfl fun hS => ?_
   obtain ⟨PS, N3, hS⟩ := hS.nilV 3 (ci .i64) 1
   refine sA hS rfl fun hS => qB <| wp_ret <| zm ?_
   exact zD (rs := [4, 5]) hS rfl rfl (hret none (0) ([] : List Int) PS (1 : Int) _ (q7 hM) N3 (hS.st.pick [0] (by kernel_rfl)))
  ·refine wp_skip ?_
   refine qe <| qm <| sA hS rfl fun hS => ?_
   obtain ⟨NU, hS⟩ := hS.pool0
   obtain ⟨PT, N4, hS⟩ := hS.nilV 112 (zT.v (sz := 2)) 2
   have Pw : zH (qj NU) ([] : List qb) ([] : List (zT 2)) := zH.nil
   refine qB <| zj (fun a w => ∃ (MG : qk) (L8 : Option Addr) (L9 : Nat) (Mf : List (zT 2)) (L0 : (List qb)) (MR : qk), Ss 109 [] [(0, .slice Mv LY.length Mw), (1, .int .i64 LZ), (6, .slice L8 Mf.length L9)] H [MG, MR] F a w ∧ (xi 112 (zT.v (sz := 2)) 2 L8 Mf L9 MR) ∧ (zH (qj MG) L0 Mf) ∧ (qz.j3 K LY LZ L0).wp kr kp) (fun Sm NY => ?_) ?_
   ·refine wp_seq ?_
    refine zN <| sM hS rfl fun hS => sO hS (yj rfl Tryd.runUnderlying66) rfl fun hS => sM hS rfl fun hS => qB <| xO <| zu (fun NR a w => ∃ (MT : qk) (MM : Option Addr) (MO : Nat) (Mr : List (zT 2)) (L5 : (List qb)) (MQ : qk) (Mg : Int), Ss 109 [] [(0, .slice Mv LY.length Mw), (1, .int .i64 LZ), (6, .slice MM Mr.length MO), (30, .slice Mv LY.length Mw), (31, .int .i64 (LY.length : Int)), (32, .int .i64 Mg)] H [MT, MQ] F a w ∧ (xi 112 (zT.v (sz := 2)) 2 MM Mr MO MQ) ∧ (zH (qj MT) L5 Mr) ∧ (qz.l2 K LY LZ NR L5 Mg).wp kr kp) K ?_ ?_ ?_
    ·exact ⟨NU, none, 0, ([] : List (zT 2)), ([] : List qb), PT, (0 : Int), hS.to [1, 0] (by kernel_rfl) ⟨rfl, rfl, rfl, rfl, rfl, rfl, trivial⟩, N4, Pw, hM⟩
    ·intro a w hI; obtain ⟨_, _, _, _, _, _, _, _, _, _, hM⟩ := hI; exact zt hM
    ·intro NR a w hI Sk Nj
     obtain ⟨MT, MM, MO, Mr, L5, MQ, Mg, hS, MV, Mq, hM⟩ := hI
     rw [qz.l2] at hM
     refine qm <| sB hS rfl fun hS => qB <| wp_seq <| qG hS rfl hM (fun Pb hM => ?_) (fun Pb hM => ?_)
     ·refine wp_skip ?_
      refine qe <| wp_seq <| xO <| qm <| sM hS rfl fun hS => ?_
      obtain ⟨Nr, hM⟩ := qK hM
      refine sO hS (yu rfl rfl Tryd.runUnderlying66 Tryd.sizeOf3 MZ.wk (fun _ => rfl) rfl Nr) rfl fun hS => sO hS (yD rfl MZ.wk (fun _ => rfl) Nr rfl Tryd.isAgg3) rfl fun hS => sA hS rfl fun hS => zE (v := Value.int .i64) (x0 := (rd LY Mg)) hS (xy rfl) rfl fun MD a w hz hS => ?_
      have hM := qy hz hM; clear hz
      refine qB <| qm <| sM hS rfl fun hS => sB hS rfl fun hS => qB <| qG hS rfl hM (fun Pc hM => ?_) (fun Pc hM => ?_)
      ·refine zN ?_
       refine sM hS rfl fun hS => sM hS rfl fun hS => sM hS rfl fun hS => Y3 (g := (ci .i64)) ([Mg] : List Int) [.int .i64 Mg] hS Tryd.runUnderlying66 Tryd.sizeOf3 X.el3 rfl rfl rfl (by simp [Value.cells]) rfl rfl rfl rfl rfl fun w M5 M6 Sx Nl hS => sO hS (Z9 ([.int .i64 MD, .slice M5 ([Mg] : List Int).length M6]) [(0, 1), (1, 1)] Tryd.zeroValue112 Tryd.runUnderlying112 (by intro w; simp [Tryd.sizeOf3, Tryd.sizeOf66]) rfl rfl) rfl fun hS => ?_
       replace hS := hS.front [0, 1, 2] (by kernel_rfl)
       obtain ⟨NE, Py, Pz, hS⟩ := hS.poolF
       have Pk := Nl.cap (fun _ => rfl) rfl
       have Pt := Nl.pl.mono Py
       replace Mq := zH.mono (fun _ _ h => qj.mono Pz h) Mq
       obtain ⟨M3, hrw⟩ : ∃ r, r = ([(⟨[.int .i64 MD, .slice M5 ([Mg] : List Int).length M6], by simp, by simp [Value.oneCell']⟩ : zT 2)] : List (zT 2)) := ⟨_, rfl⟩
       have Nz : zH (qj NE) ([(qb.mk MD ([Mg] : List Int))] : List qb) M3 := by rw [hrw]; exact (zH.cons (show qj NE _ _ from ⟨M5, M6, rfl, Pt, Pk⟩) zH.nil)
       refine Y3 (g := (zT.v (sz := 2))) M3 [.agg ⟨[.int .i64 MD, .slice M5 ([Mg] : List Int).length M6]⟩] hS Tryd.runUnderlying110 Tryd.sizeOf112 X.el112 rfl rfl rfl (by simp [Value.cells]) (by rw [hrw]; rfl) (by rw [hrw]; rfl) rfl rfl rfl fun w Sh Sv Sy N5 hS => ?_
       clear hrw
       obtain ⟨Pp, hM⟩ := qK hM
       refine JA (ys := M3) 2 hS rfl rfl MV rfl (N5.rd (i := 0) rfl) Tryd.runUnderlying110 Tryd.runUnderlying110 X.el112 zT.len rfl Xi (Mq.room Nz Pp) rfl fun PG w PL PO PU hz N6 hS => ?_
       obtain ⟨PJ, hzm⟩ := vR (L5 ++ ([(qb.mk MD ([Mg] : List Int))] : List qb))
       replace hM := qy hzm hM
       have NA := zH.append Mq Nz
       rw [← hz, ← hzm] at NA; clear hz hzm
       refine sA hS rfl fun hS => zp <| zy (qe ?_)
       refine zN <| sB hS rfl fun hS => sM hS rfl fun hS => zp <| qe ?_
       exact Nj _ _ ⟨NE, PL, PO, PG, PJ, PU, (qh (Mg + (1 : Int))), hS.to [1, 2] (by kernel_rfl) ⟨rfl, rfl, rfl, rfl, rfl, rfl, trivial⟩, N6, NA, hM⟩
      ·refine wp_skip ?_
       refine zy (qe ?_)
       refine zN <| sB hS rfl fun hS => sM hS rfl fun hS => zp <| qe ?_
       exact Nj _ _ ⟨MT, MM, MO, Mr, L5, MQ, (qh (Mg + (1 : Int))), hS.to [0, 1] (by kernel_rfl) ⟨rfl, rfl, rfl, rfl, rfl, rfl, trivial⟩, MV, Mq, hM⟩
     ·refine wp_exit ?_
      refine qE (qE (ze (qe ?_)))
      exact NY _ _ ⟨MT, MM, MO, Mr, L5, MQ, hS.to [0, 1] (by kernel_rfl) ⟨rfl, rfl, rfl, trivial⟩, MV, Mq, hM⟩
   ·intro a w hI
    obtain ⟨MG, L8, L9, Mf, L0, MR, hS, MH, Mi, hM⟩ := hI
    rw [qz.j3] at hM
    refine wp_seq <| qm <| sM hS rfl fun hS => sO hS (qX (v' := .int .i64 (L0.length : Int)) (yj rfl Tryd.runUnderlying110) (by rw [Mi.len])) rfl fun hS => sM hS rfl fun hS => ?_
    obtain ⟨Pq, hM⟩ := qK hM
    refine sO hS (shl rfl rfl Pq) rfl fun hS => sB hS rfl fun hS => qB <| qG hS rfl hM (fun Pd hM => ?_) (fun Pd hM => ?_)
    ·refine wp_seq ?_
     refine zN <| sA hS rfl fun hS => ?_
     obtain ⟨PV, N7, hS⟩ := hS.nilV 3 (ci .i64) 1
     refine sA hS rfl fun hS => qB <| wp_ret <| zm ?_
     exact zD (rs := [4, 5]) hS rfl rfl (hret none (0) ([] : List Int) PV (1 : Int) _ (q7 hM) N7 (hS.st.pick [0] (by kernel_rfl)))
    ·refine wp_skip ?_
     refine qe <| qm <| sM hS rfl fun hS => sO hS (yj rfl Tryd.runUnderlying66) rfl fun hS => ?_
     obtain ⟨Pr, hM⟩ := qK hM
     refine BC (g := (ci .i64)) (m := (LY.length : Int)) (0 : Int) hS rfl rfl (by simp) Tryd.runUnderlying66 X.el3 (fun w => ⟨_, Tryd.zeroValue3 w, rfl⟩) (fun _ => rfl) rfl rfl Pr rfl fun MK w L1 L3 PW hz MW hS => ?_
     have hM := qy hz hM; clear hz
     refine sA hS rfl fun hS => qB <| zj (fun a w => ∃ (L7 : (List Int)) (Mk : qk), Ss 109 [] [(1, .int .i64 LZ), (6, .slice L8 Mf.length L9), (9, .slice L1 L7.length L3)] H [MG, MR, Mk] F a w ∧ (xi 3 (ci .i64) 1 L1 L7 L3 Mk) ∧ (qz.j4 K LZ L0 L7).wp kr kp) (fun Sn Nk => ?_) ?_
     ·refine wp_seq ?_
      refine zN <| sM hS rfl fun hS => sO hS (qX (v' := .int .i64 (L0.length : Int)) (yj rfl Tryd.runUnderlying110) (by rw [Mi.len])) rfl fun hS => sB hS rfl fun hS => qB <| qG hS rfl hM (fun Pe hM => ?_) (fun Pe hM => ?_)
      ·refine zN ?_
       refine sM hS rfl fun hS => sM hS rfl fun hS => ?_
       obtain ⟨MI, hM⟩ := qK hM
       refine sO hS (yu rfl rfl Tryd.runUnderlying110 Tryd.sizeOf112 (MH.rd (i := 2) rfl) zT.len rfl (Mi.inb MI)) rfl fun hS => sO hS (Y7 rfl (MH.rd (i := 2) rfl) zT.len rfl (Mi.inb MI) Tryd.runUnderlying112 rfl Tryd.sizeOf66 rfl) rfl fun hS => ?_
       obtain ⟨Si, Sw, PE, Nv, Sc⟩ := Mi.get MI
       refine sO hS (BB 1 rfl (MH.rd (i := 2) rfl) zT.len (Mi.inb MI) (by rw [show zT.v (rd Mf (0 : Int)) = _ from PE]; rfl) Tryd.isAgg66) rfl fun hS => ?_
       obtain ⟨Ns, hM⟩ := qK hM
       refine sO hS (yu rfl rfl Tryd.runUnderlying66 Tryd.sizeOf3 (Nv.rd (i := 1) rfl) (fun _ => rfl) rfl Ns) rfl fun hS => sO hS (yD rfl (Nv.rd (i := 1) rfl) (fun _ => rfl) Ns rfl Tryd.isAgg3) rfl fun hS => ?_
       obtain ⟨Nt, hM⟩ := qK hM
       refine sO hS (yu rfl rfl Tryd.runUnderlying66 Tryd.sizeOf3 (MW.rd (i := 0) rfl) (fun _ => rfl) rfl Nt) rfl fun hS => JB (i := (rd ((rd L0 (0 : Int)).symbols_) (0 : Int))) (sz := 1) 0 0 ((1 : Int)) hS rfl rfl MW rfl Tryd.sizeOf3 (xH (1 : Int)) (fun _ => rfl) Nt rfl rfl fun ML w PX hz M0 N8 hS => ?_
       have hM := qy hz hM; clear hz
       replace hS := hS.re 9 (u := .slice L1 MK.length L3) (v := .slice L1 ML.length L3) rfl (by rw [M0])
       replace hS := hS.re 54 (u := .slice L1 MK.length L3) (v := .slice L1 ML.length L3) rfl (by rw [M0])
       replace hS := hS.re 58 (u := .slice L1 MK.length L3) (v := .slice L1 ML.length L3) rfl (by rw [M0])
       refine zp <| qe ?_
       exact Nk _ _ ⟨ML, PX, hS.to [1, 2, 0] (by kernel_rfl) ⟨rfl, rfl, rfl, trivial⟩, N8, hM⟩
      ·refine wp_skip ?_
       refine qe ?_
       exact Nk _ _ ⟨MK, PW, hS.to [1, 2, 0] (by kernel_rfl) ⟨rfl, rfl, rfl, trivial⟩, MW, hM⟩
     ·intro a w hI
      obtain ⟨L7, Mk, hS, Nm, hM⟩ := hI
      rw [qz.j4] at hM
      refine wp_seq <| qm <| sM hS rfl fun hS => sO hS (qX (v' := .int .i64 (L0.length : Int)) (yj rfl Tryd.runUnderlying110) (by rw [Mi.len])) rfl fun hS => sB hS rfl fun hS => qB <| qG hS rfl hM (fun Pf hM => ?_) (fun Pf hM => ?_)
      ·refine wp_seq ?_
       refine zN <| sM hS rfl fun hS => sA hS rfl fun hS => sA hS rfl fun hS => qB <| wp_ret <| zm ?_
       exact zD (rs := [4, 5]) hS rfl rfl (hret L1 L3 L7 Mk (0 : Int) _ (q7 hM) Nm (hS.st.pick [2] (by kernel_rfl)))
      ·refine wp_skip ?_
       refine qe <| qm <| sM hS rfl fun hS => qF hS rfl Tryd.call55 (xw 56 (.inl rfl) hG K L0 MG L8 L9 Mf MR Mi MH (hS.st.part 2 [0, 1, 2] (by kernel_rfl)) (qs hM) (fun L4 Ml PY w hM NO M8 Ng hst => qA hS.ev hst.appF rfl fun hS => ?_))
       replace hS : Ss _ _ _ H [MG, PY, Mk] F _ _ := hS
       replace hS := hS.re 6 (u := .slice L8 Mf.length L9) (v := .slice L8 L4.length L9) rfl (by rw [Ng])
       replace hS := hS.re 66 (u := .slice L8 Mf.length L9) (v := .slice L8 L4.length L9) rfl (by rw [Ng])
       replace hS := hS.re 70 (u := .slice L8 Mf.length L9) (v := .slice L8 L4.length L9) rfl (by rw [Ng])
       refine qB <| qm <| sM hS rfl fun hS => sA hS rfl fun hS => qB <| zj (fun a w => ∃ (Mt : qk) (Nb : Option Addr) (Nd : Nat) (ME : List (zT 2)) (Mu : (List qb)), Ss 109 [] [(6, .slice L8 L4.length L9), (9, .slice L1 L7.length L3), (10, .slice Nb ME.length Nd)] H [Mt, Mk] F a w ∧ (zH (qj Mt) Ml L4) ∧ (Pl Mt (zT.v (sz := 2)) L8 L4) ∧ (L4.length ≤ L9) ∧ (zH (qj Mt) Mu ME) ∧ (Pl Mt (zT.v (sz := 2)) Nb ME) ∧ (ME.length ≤ Nd) ∧ (qz.j6 K L7 Ml Mu).wp kr kp) (fun Sp N0 => ?_) ?_
       ·refine wp_seq ?_
        refine zN <| sM hS rfl fun hS => sB hS rfl fun hS => sM hS rfl fun hS => qB <| xO <| zu (fun NS a w => ∃ (Ms : qk) (MN : Option Addr) (MP : Nat) (Mn : List (zT 2)) (Mp : (List qb)) (Na : Int), Ss 109 [] [(6, .slice L8 L4.length L9), (9, .slice L1 L7.length L3), (10, .slice MN Mn.length MP), (74, .int .i64 (qh (LZ - (1 : Int)))), (75, .int .i64 Na)] H [Ms, Mk] F a w ∧ (zH (qj Ms) Ml L4) ∧ (Pl Ms (zT.v (sz := 2)) L8 L4) ∧ (L4.length ≤ L9) ∧ (zH (qj Ms) Mp Mn) ∧ (Pl Ms (zT.v (sz := 2)) MN Mn) ∧ (Mn.length ≤ MP) ∧ (qz.l5 K LZ L7 Ml NS Mp Na).wp kr kp) K ?_ ?_ ?_
        ·replace hS := hS.front [1, 0, 2] (by kernel_rfl)
         obtain ⟨P5, PB, PC, hS⟩ := hS.poolF
         have Np := NO.cap zT.len rfl
         have Nw := NO.pl.mono PB
         replace M8 := zH.mono (fun _ _ h => qj.mono PC h) M8
         exact ⟨P5, L8, L9, L4, Ml, (0 : Int), hS.to [0, 1] (by kernel_rfl) ⟨rfl, rfl, rfl, rfl, rfl, trivial⟩, M8, Nw, Np, M8, Nw, Np, hM⟩
        ·intro a w hI; obtain ⟨_, _, _, _, _, _, _, _, _, _, _, _, _, hM⟩ := hI; exact zt hM
        ·intro NS a w hI So NZ
         obtain ⟨Ms, MN, MP, Mn, Mp, Na, hS, Mc, Mb, MX, Me, Md, No, hM⟩ := hI
         rw [qz.l5] at hM
         refine qm <| sB hS rfl fun hS => qB <| wp_seq <| qG hS rfl hM (fun Pg hM => ?_) (fun Pg hM => ?_)
         ·refine wp_skip ?_
          refine qe <| wp_seq <| xO <| zN <| sM hS rfl fun hS => sM hS rfl fun hS => qF hS rfl Tryd.call59 (Je hG K Mp Ms MN MP Mn Me Md No (hS.st.part 1 [0, 1] (by kernel_rfl)) (qs hM) (fun P2 PM PP PH P8 PZ w hM M9 NP Mx hst => qA hS.ev hst.appF rfl fun hS => ?_) (fun v w hk hst => xo (zR (qD (qD (zR (qD (⟨hS.ev.defs, hpan _ _ hk hst.appF.frame⟩))))))))
          replace hS : Ss _ _ _ H [P2, PZ, Mk] F _ _ := hS
          replace Mb := Mb.mono M9
          replace Md := Md.mono M9
          replace Mc := zH.mono (fun _ _ h => qj.mono M9 h) Mc
          replace Me := zH.mono (fun _ _ h => qj.mono M9 h) Me
          replace hS := hS.front [1, 0, 2] (by kernel_rfl)
          obtain ⟨P3, PA, MC, hS⟩ := hS.poolF
          have Pm := NP.cap zT.len rfl
          have MA := NP.pl.mono PA
          replace Mx := zH.mono (fun _ _ h => qj.mono MC h) Mx
          replace Mb := Mb.mono MC
          replace Md := Md.mono MC
          replace Mc := zH.mono (fun _ _ h => qj.mono MC h) Mc
          replace Me := zH.mono (fun _ _ h => qj.mono MC h) Me
          refine qF hS rfl Tryd.call58 (Ye hG K Ml P8 P3 L8 L9 L4 PM PP PH Mc Mb MX Mx MA Pm (hS.st.part 1 [0, 1] (by kernel_rfl)) (qs hM) (fun P4 PN PQ PI P9 P0 w hM MF NQ Nh hst => qA hS.ev hst.appF rfl fun hS => ?_) (fun v w hk hst => xo (zR (qD (qD (zR (qD (⟨hS.ev.defs, hpan _ _ hk hst.appF.frame⟩))))))))
          replace hS : Ss _ _ _ H [P4, P0, Mk] F _ _ := hS
          replace Mx := zH.mono (fun _ _ h => qj.mono MF h) Mx
          replace Mb := Mb.mono MF
          replace Md := Md.mono MF
          replace MA := MA.mono MF
          replace Mc := zH.mono (fun _ _ h => qj.mono MF h) Mc
          replace Me := zH.mono (fun _ _ h => qj.mono MF h) Me
          refine sA hS rfl fun hS => zp <| zy (qe ?_)
          refine zN <| sB hS rfl fun hS => sM hS rfl fun hS => zp <| qe ?_
          replace hS := hS.front [1, 0, 2] (by kernel_rfl)
          obtain ⟨P6, PD, Mm, hS⟩ := hS.poolF
          have Pn := NQ.cap zT.len rfl
          have Pv := NQ.pl.mono PD
          replace Mx := zH.mono (fun _ _ h => qj.mono Mm h) Mx
          replace Nh := zH.mono (fun _ _ h => qj.mono Mm h) Nh
          replace Mb := Mb.mono Mm
          replace Md := Md.mono Mm
          replace MA := MA.mono Mm
          replace Mc := zH.mono (fun _ _ h => qj.mono Mm h) Mc
          replace Me := zH.mono (fun _ _ h => qj.mono Mm h) Me
          exact NZ _ _ ⟨P6, PN, PQ, PI, P9, (qh (Na + (1 : Int))), hS.to [0, 1] (by kernel_rfl) ⟨rfl, rfl, rfl, rfl, rfl, trivial⟩, Mc, Mb, MX, Nh, Pv, Pn, hM⟩
         ·refine wp_exit ?_
          refine qE (qE (ze (qe ?_)))
          exact N0 _ _ ⟨Ms, MN, MP, Mn, Mp, hS.to [0, 1] (by kernel_rfl) ⟨rfl, rfl, rfl, trivial⟩, Mc, Mb, MX, Me, Md, No, hM⟩
       ·intro a w hI
        obtain ⟨Mt, Nb, Nd, ME, Mu, hS, Px, Sg, Sd, NB, Nx, Po, hM⟩ := hI
        rw [qz.j6] at hM
        refine wp_seq <| qm <| sM hS rfl fun hS => sM hS rfl fun hS => sO hS (qX (v' := .int .i64 (Ml.length : Int)) (yj rfl Tryd.runUnderlying110) (by rw [Px.len])) rfl fun hS => sB hS rfl fun hS => sB hS rfl fun hS => ?_
        obtain ⟨Ps, hM⟩ := qK hM
        refine Lm (g := (zT.v (sz := 2))) hS rfl Tryd.runUnderlying110 Tryd.sizeOf112 Gt (BR rfl) zT.len Po (NB.subok Ps) rfl fun NF NJ NL a w hz Nq Se hS => ?_
        obtain ⟨L6, hzm⟩ := vR (sub Mu (0 : Int) (qh ((qh ((2 : Int) * (Ml.length : Int))) - (2 : Int))))
        replace hM := qy hzm hM
        have MB := NB.sub (0 : Int) (qh ((qh ((2 : Int) * (Ml.length : Int))) - (2 : Int))) (qh ((qh ((2 : Int) * (Ml.length : Int))) - (2 : Int))) rfl
        rw [← hz, ← hzm] at MB; clear hz hzm
        refine sO hS (qX (v' := .int .i64 (L6.length : Int)) (yj rfl Tryd.runUnderlying110) (by rw [MB.len])) rfl fun hS => sM hS rfl fun hS => qB <| xO <| zu (fun ND a w => ∃ (Mj : (List Int)) (MS : qk) (Mh : Int), Ss 109 [] [(9, .slice L1 Mj.length L3), (87, .slice NJ NF.length NL), (88, .int .i64 (L6.length : Int)), (89, .int .i64 Mh)] H [MS, Mt] F a w ∧ (xi 3 (ci .i64) 1 L1 Mj L3 MS) ∧ (qz.l7 K L6 ND Mj Mh).wp kr kp) K ?_ ?_ ?_
        ·exact ⟨L7, Mk, (0 : Int), hS.to [1, 0] (by kernel_rfl) ⟨rfl, rfl, rfl, rfl, trivial⟩, Nm, hM⟩
        ·intro a w hI; obtain ⟨_, _, _, _, _, hM⟩ := hI; exact zt hM
        ·intro ND a w hI Sr N2
         obtain ⟨Mj, MS, Mh, hS, Nn, hM⟩ := hI
         rw [qz.l7] at hM
         refine qm <| sB hS rfl fun hS => qB <| wp_seq <| qG hS rfl hM (fun Ph hM => ?_) (fun Ph hM => ?_)
         ·refine wp_skip ?_
          refine qe <| wp_seq <| xO <| wp_seq <| zN ?_
          obtain ⟨MY, hM⟩ := qK hM
          refine sO hS (yu rfl rfl Tryd.runUnderlying110 Tryd.sizeOf112 (Nq _ _ _ (Nx.rd (i := 1) rfl)) zT.len rfl (MB.inb MY)) rfl fun hS => ?_
          obtain ⟨Nc, Nf, PF, Ny, Sf⟩ := MB.get MY
          refine sO hS (qX (vK rfl (Nq _ _ _ (Nx.rd (i := 1) rfl)) zT.len (MB.inb MY) Tryd.isAgg112 Tryd.sizeOf112 rfl) (congrArg (fun l => Value.agg ⟨l⟩) PF)) rfl fun hS => Qf ([.int .i64 (0 : Int), .slice none 0 0]) hS Tryd.zeroValue112 rfl rfl fun w Su Sz NW hS => ?_
          obtain ⟨SA, Sb, hS⟩ := hS.nilV 3 (ci .i64) 1
          refine Qs 1 ([.int .i64 ((rd L6 Mh).often_), .slice Nc ((rd L6 Mh).symbols_).length Nf]) ([.int .i64 ((rd L6 Mh).often_), .slice Nc ((rd L6 Mh).symbols_).length Nf]) hS rfl rfl NW rfl rfl Tryd.sizeOf112 (by simp [Value.oneCell']) (Nat.le_of_ble_eq_true rfl) rfl fun w SB NX hS => qB <| qm <| sO hS (xv rfl Tryd.runUnderlying112 rfl Tryd.sizeOf66 rfl) rfl fun hS => sO hS (xY 1 rfl NX rfl rfl Tryd.isAgg66) rfl fun hS => sO hS (yj rfl Tryd.runUnderlying66) rfl fun hS => sM hS rfl fun hS => qB <| xO <| zu (fun NT a w => ∃ (Ma : (List Int)) (M7 : qk) (MU : Int), Ss 109 [] [(9, .slice L1 Ma.length L3), (87, .slice NJ NF.length NL), (88, .int .i64 (L6.length : Int)), (89, .int .i64 Mh), (94, .slice Nc ((rd L6 Mh).symbols_).length Nf), (95, .int .i64 (((rd L6 Mh).symbols_).length : Int)), (96, .int .i64 MU)] H [M7, Mt] F a w ∧ (xi 3 (ci .i64) 1 L1 Ma L3 M7) ∧ (qz.l8 K (qz.l7 K L6 ND) L6 Mh NT Ma MU).wp kr kp) K ?_ ?_ ?_
          ·exact ⟨Mj, MS, (0 : Int), hS.to [2, 3] (by kernel_rfl) ⟨rfl, rfl, rfl, rfl, rfl, rfl, rfl, trivial⟩, Nn, hM⟩
          ·intro a w hI; obtain ⟨_, _, _, _, _, hM⟩ := hI; exact zt hM
          ·intro NT a w hI Sq N1
           obtain ⟨Ma, M7, MU, hS, My, hM⟩ := hI
           rw [qz.l8] at hM
           refine qm <| sB hS rfl fun hS => qB <| wp_seq <| qG hS rfl hM (fun Pi hM => ?_) (fun Pi hM => ?_)
           ·refine wp_skip ?_
            refine qe <| wp_seq <| xO <| wp_seq <| zN ?_
            obtain ⟨Nu, hM⟩ := qK hM
            refine sO hS (yu rfl rfl Tryd.runUnderlying66 Tryd.sizeOf3 (Ny.rd (i := 1) rfl) (fun _ => rfl) rfl Nu) rfl fun hS => sO hS (yD rfl (Ny.rd (i := 1) rfl) (fun _ => rfl) Nu rfl Tryd.isAgg3) rfl fun hS => zE (v := Value.int .i64) (x0 := (rd ((rd L6 Mh).symbols_) MU)) hS (xy rfl) rfl fun NG a w hz hS => ?_
            have hM := qy hz hM; clear hz
            refine qB <| zN <| sM hS rfl fun hS => sM hS rfl fun hS => ?_
            obtain ⟨MJ, hM⟩ := qK hM
            refine sO hS (yu rfl rfl Tryd.runUnderlying66 Tryd.sizeOf3 (My.rd (i := 0) rfl) (fun _ => rfl) rfl MJ) rfl fun hS => sO hS (yD rfl (My.rd (i := 0) rfl) (fun _ => rfl) MJ rfl Tryd.isAgg3) rfl fun hS => sB hS rfl fun hS => sO hS (yu rfl rfl Tryd.runUnderlying66 Tryd.sizeOf3 (My.rd (i := 0) rfl) (fun _ => rfl) rfl MJ) rfl fun hS => JB (i := NG) (sz := 1) 0 0 ((qh ((rd Ma NG) + (1 : Int)))) hS rfl rfl My rfl Tryd.sizeOf3 (xH (qh ((rd Ma NG) + (1 : Int)))) (fun _ => rfl) MJ rfl rfl fun M4 w P1 hz NC N9 hS => ?_
            have hM := qy hz hM; clear hz
            replace hS := hS.re 9 (u := .slice L1 Ma.length L3) (v := .slice L1 M4.length L3) rfl (by rw [NC])
            replace hS := hS.re 100 (u := .slice L1 Ma.length L3) (v := .slice L1 M4.length L3) rfl (by rw [NC])
            refine zp <| zy (qe ?_)
            refine zN <| sB hS rfl fun hS => sM hS rfl fun hS => zp <| qe ?_
            exact N1 _ _ ⟨M4, P1, (qh (MU + (1 : Int))), hS.to [0, 1] (by kernel_rfl) ⟨rfl, rfl, rfl, rfl, rfl, rfl, rfl, trivial⟩, N9, hM⟩
           ·refine wp_exit ?_
            refine qE (qE (ze (zy (qe ?_))))
            refine zN <| sB hS rfl fun hS => sM hS rfl fun hS => zp <| qe ?_
            exact N2 _ _ ⟨Ma, M7, (qh (Mh + (1 : Int))), hS.to [0, 1] (by kernel_rfl) ⟨rfl, rfl, rfl, rfl, trivial⟩, My, hM⟩
         ·refine wp_exit ?_
          refine qE (qE (ze (qe ?_)))
          refine qm <| sM hS rfl fun hS => sA hS rfl fun hS => sA hS rfl fun hS => qB <| wp_ret ?_
          exact zD (rs := [4, 5]) hS rfl rfl (hret L1 L3 Mj MS (0 : Int) _ (q7 hM) Nn (hS.st.pick [0] (by kernel_rfl)))
theorem vr {H : xR} {F : List qk} {w : World} {R : Ending → World → Prop} {kr : ((List Int) × (List Int)) → Prop} {kp : Value → Prop} (hG : Gl H) (K : Nat) (LY : List Int) (L1 : Option Addr) (L3 : Nat) (Md : qk) (Mh : xi 3 (ci .i64) 1 L1 LY L3 Md)
    (hS : St w H [Md] F) (hm : (qV.m K LY).wp kr kp)
    (hret : ∀ (Mp : Option Addr) (Mq : Nat) (Mn : (List Int)) (Ms : qk) (L6 : (List Int)) (Mt : qk) (w : World), kr (Mn, L6) → (xi 3 (ci .i64) 1 Mp Mn Mq Ms) → (xi 3 (ci .i64) 1 L1 L6 L3 Mt) → (L6.length = LY.length) → St w H [Ms, Mt] F → R (.returned (.slice Mp Mn.length Mq)) w)
    (hpan : ∀ v w, kp v → St w H [] F → R (.panicked [⟨v, false, false⟩]) w) :
    Calls Tryd.prog 36 ⟨[.slice L1 LY.length L3]⟩ w R := by
 refine enter Tryd.func36 rfl Tryd.ntmps36 rfl hS fun a w hS => ?_
 have hM := hm; clear hm
 rw [qV.m] at hM
 have MD : LY.length = LY.length := rfl
 refine qm <| sA hS rfl fun hS => ?_
 obtain ⟨MU, MP, hS⟩ := hS.nilV 3 (ci .i64) 1
 refine qB <| qm <| sA hS rfl fun hS => qB <| zj (fun a w => ∃ (Mb : Int), Ss 43 [] [(0, .slice L1 LY.length L3), (3, .int .i64 Mb)] H [Md] F a w ∧ (qV.j2 K LY Mb).wp kr kp) (fun MR Mx => ?_) ?_
 ·refine wp_seq ?_
  refine zN <| sM hS rfl fun hS => sO hS (yj rfl Tryd.runUnderlying66) rfl fun hS => sM hS rfl fun hS => qB <| xO <| zu (fun Mu a w => ∃ (L8 : Int) (Mg : Int), Ss 43 [] [(0, .slice L1 LY.length L3), (3, .int .i64 L8), (9, .slice L1 LY.length L3), (10, .int .i64 (LY.length : Int)), (11, .int .i64 Mg)] H [Md] F a w ∧ (qV.l1 K LY Mu L8 Mg).wp kr kp) K ?_ ?_ ?_
  ·exact ⟨(0 : Int), (0 : Int), hS.to [1] (by kernel_rfl) ⟨rfl, rfl, rfl, rfl, rfl, trivial⟩, hM⟩
  ·intro a w hI; obtain ⟨_, _, _, hM⟩ := hI; exact zt hM
  ·intro Mu a w hI MQ Mw
   obtain ⟨L8, Mg, hS, hM⟩ := hI
   rw [qV.l1] at hM
   refine qm <| sB hS rfl fun hS => qB <| wp_seq <| qG hS rfl hM (fun MA hM => ?_) (fun MA hM => ?_)
   ·refine wp_skip ?_
    refine qe <| wp_seq <| xO <| wp_seq <| zN ?_
    obtain ⟨Ml, hM⟩ := qK hM
    refine sO hS (yu rfl rfl Tryd.runUnderlying66 Tryd.sizeOf3 (Mh.rd (i := 0) rfl) (fun _ => rfl) rfl Ml) rfl fun hS => sO hS (yD rfl (Mh.rd (i := 0) rfl) (fun _ => rfl) Ml rfl Tryd.isAgg3) rfl fun hS => zE (v := Value.int .i64) (x0 := (rd LY Mg)) hS (xy rfl) rfl fun Mm a w hz hS => ?_
    have hM := qy hz hM; clear hz
    refine qB <| zN <| sM hS rfl fun hS => sM hS rfl fun hS => sO hS (VS rfl rfl) rfl fun hS => sB hS rfl fun hS => zE (v := Value.int .i64) (x0 := (qh (L8 + (if (1 : Int) < Mm then (1 : Int) else Mm)))) hS (xy rfl) rfl fun MG a w hz hS => ?_
    have hM := qy hz hM; clear hz
    refine zp <| zy (qe ?_)
    refine zN <| sB hS rfl fun hS => sM hS rfl fun hS => zp <| qe ?_
    exact Mw _ _ ⟨MG, (qh (Mg + (1 : Int))), hS.to [0] (by kernel_rfl) ⟨rfl, rfl, rfl, rfl, rfl, trivial⟩, hM⟩
   ·refine wp_exit ?_
    refine qE (qE (ze (qe ?_)))
    exact Mx _ _ ⟨L8, hS.to [0] (by kernel_rfl) ⟨rfl, rfl, trivial⟩, hM⟩
 ·intro a w hI
  obtain ⟨Mb, hS, hM⟩ := hI
  rw [qV.j2] at hM
  refine zj (fun a w => ∃ (L0 : (List Int)) (Mf : qk), Ss 43 [] [(0, .slice L1 L0.length L3)] H [Mf] F a w ∧ (xi 3 (ci .i64) 1 L1 L0 L3 Mf) ∧ (L0.length = LY.length) ∧ (qV.j4 K L0).wp kr kp) (fun MT My => ?_) ?_
  ·refine wp_seq ?_
   refine zN <| sA hS rfl fun hS => qB <| xO <| zu (fun Mv a w => ∃ (LZ : (List Int)) (Me : qk) (L9 : Int) (L7 : Int), Ss 43 [] [(0, .slice L1 LZ.length L3), (3, .int .i64 L9), (6, .int .i64 L7)] H [Me] F a w ∧ (xi 3 (ci .i64) 1 L1 LZ L3 Me) ∧ (LZ.length = LY.length) ∧ (qV.l3 K Mv LZ L9 L7).wp kr kp) K ?_ ?_ ?_
   ·exact ⟨LY, Md, Mb, (0 : Int), hS.to [0] (by kernel_rfl) ⟨rfl, rfl, rfl, trivial⟩, Mh, MD, hM⟩
   ·intro a w hI; obtain ⟨_, _, _, _, _, _, _, hM⟩ := hI; exact zt hM
   ·intro Mv a w hI MS Mk
    obtain ⟨LZ, Me, L9, L7, hS, L4, Mj, hM⟩ := hI
    rw [qV.l3] at hM
    refine wp_seq <| qm <| sM hS rfl fun hS => sB hS rfl fun hS => qB <| qG hS rfl hM (fun MB hM => ?_) (fun MB hM => ?_)
    ·refine wp_skip ?_
     refine qe <| wp_seq <| xO <| qm <| sM hS rfl fun hS => sM hS rfl fun hS => ?_
     obtain ⟨L5, hM⟩ := qK hM
     refine sO hS (yu rfl rfl Tryd.runUnderlying66 Tryd.sizeOf3 (L4.rd (i := 0) rfl) (fun _ => rfl) rfl L5) rfl fun hS => sO hS (yD rfl (L4.rd (i := 0) rfl) (fun _ => rfl) L5 rfl Tryd.isAgg3) rfl fun hS => sB hS rfl fun hS => qB <| qG hS rfl hM (fun MC hM => ?_) (fun MC hM => ?_)
     ·refine wp_seq ?_
      refine zN <| sM hS rfl fun hS => sM hS rfl fun hS => sO hS (yu rfl rfl Tryd.runUnderlying66 Tryd.sizeOf3 (L4.rd (i := 0) rfl) (fun _ => rfl) rfl L5) rfl fun hS => sO hS (yD rfl (L4.rd (i := 0) rfl) (fun _ => rfl) L5 rfl Tryd.isAgg3) rfl fun hS => sB hS rfl fun hS => sO hS (yu rfl rfl Tryd.runUnderlying66 Tryd.sizeOf3 (L4.rd (i := 0) rfl) (fun _ => rfl) rfl L5) rfl fun hS => JB (i := L7) (sz := 1) 0 0 ((qh ((rd LZ L7) + (1 : Int)))) hS rfl rfl L4 rfl Tryd.sizeOf3 (xH (qh ((rd LZ L7) + (1 : Int)))) (fun _ => rfl) L5 rfl rfl fun Mc w MK hz Ma Mz hS => ?_
      have hM := qy hz hM; clear hz
      have ME := Eq.trans Ma Mj
      replace hS := hS.re 0 (u := .slice L1 LZ.length L3) (v := .slice L1 Mc.length L3) rfl (by rw [Ma])
      replace hS := hS.re 24 (u := .slice L1 LZ.length L3) (v := .slice L1 Mc.length L3) rfl (by rw [Ma])
      replace hS := hS.re 29 (u := .slice L1 LZ.length L3) (v := .slice L1 Mc.length L3) rfl (by rw [Ma])
      refine qB <| zN <| sM hS rfl fun hS => sB hS rfl fun hS => zE (v := Value.int .i64) (x0 := (qh (L9 + (1 : Int)))) hS (xy rfl) rfl fun MH a w hz hS => ?_
      have hM := qy hz hM; clear hz
      refine zp <| zy (qe ?_)
      refine zN <| sM hS rfl fun hS => sB hS rfl fun hS => zE (v := Value.int .i64) (x0 := (qh (L7 + (1 : Int)))) hS (xy rfl) rfl fun MM a w hz hS => ?_
      have hM := qy hz hM; clear hz
      refine zp <| qe ?_
      exact Mk _ _ ⟨Mc, MK, MH, MM, hS.to [0] (by kernel_rfl) ⟨rfl, rfl, rfl, trivial⟩, Mz, ME, hM⟩
     ·refine wp_skip ?_
      refine zy (qe ?_)
      refine zN <| sM hS rfl fun hS => sB hS rfl fun hS => zE (v := Value.int .i64) (x0 := (qh (L7 + (1 : Int)))) hS (xy rfl) rfl fun MN a w hz hS => ?_
      have hM := qy hz hM; clear hz
      refine zp <| qe ?_
      exact Mk _ _ ⟨LZ, Me, L9, MN, hS.to [0] (by kernel_rfl) ⟨rfl, rfl, rfl, trivial⟩, L4, Mj, hM⟩
    ·refine wp_exit ?_
     refine qE (qE (ze (qe ?_)))
     exact My _ _ ⟨LZ, Me, hS.to [0] (by kernel_rfl) ⟨rfl, trivial⟩, L4, Mj, hM⟩
  ·intro a w hI
   obtain ⟨L0, Mf, hS, Mi, MF, hM⟩ := hI
   rw [qV.j4] at hM
   refine qm <| sM hS rfl fun hS => qF hS rfl Tryd.call38 (uV hG K L0 (15 : Int) L1 L3 (Mi.rdF (i := 0) rfl) (Mi.cap (fun _ => rfl) rfl) (hS.st.part 0 [0] (by kernel_rfl)) (qs hM) (fun MI MJ MO Mr MV w hM ML hst => qA hS.ev hst.appF rfl fun hS => ?_) (fun v w hk hst => xo (qD (⟨hS.ev.defs, hpan _ _ hk hst.appF.frame⟩))))
   replace hS : Ss _ _ _ H [Mr, Mf] F _ _ := hS
   refine sM hS rfl fun hS => sO hS (ex rfl rfl) rfl fun hS => sO hS (ex rfl rfl) rfl fun hS => sA hS rfl fun hS => sA hS rfl fun hS => qB <| qm <| sM hS rfl fun hS => sA hS rfl fun hS => qB <| wp_ret ?_
   exact zD (rs := [2]) hS rfl rfl (hret MI MJ MO Mr L0 Mf _ (q7 hM) ML Mi MF (hS.st.pick [0, 1] (by kernel_rfl)))
theorem Zi {H : xR} {F : List qk} {w : World} {R : Ending → World → Prop} {kr : (List qi) → Prop} {kp : Value → Prop} (hG : Gl H) (K : Nat) (LY : List Int) (L5 : Option Addr) (L6 : Nat) (L4 : jG H [] F (ci .i64) L5 LY) (Na : LY.length ≤ L6)
    (hS : St w H [] F) (hm : (qP.m K LY).wp kr kp)
    (hret : ∀ (Mn : Option Addr) (Mp : Nat) (Mm : (List qi)) (Mq : qk) (w : World), kr Mm → (xi 84 qi.cells 3 Mn Mm Mp Mq) → St w H [Mq] F → R (.returned (.slice Mn Mm.length Mp)) w) :
    Calls Tryd.prog 37 ⟨[.slice L5 LY.length L6]⟩ w R := by
 refine enter Tryd.func37 rfl Tryd.ntmps37 rfl hS fun a w hS => ?_
 have hM := hm; clear hm
 rw [qP.m] at hM
 refine qm <| sA hS rfl fun hS => ?_
 obtain ⟨No, M9, hS⟩ := hS.nilV 84 qi.cells 3
 refine qB <| qm <| sA hS rfl fun hS => ?_
 obtain ⟨MY, Mt, hS⟩ := hS.nilV 84 qi.cells 3
 refine qB <| wp_seq <| qm <| sA hS rfl fun hS => qB <| xO <| zu (fun Me a w => ∃ (L8 : Option Addr) (L9 : Nat) (L1 : (List qi)) (Ma : qk) (LZ : Int), Ss 93 [] [(0, .slice L5 LY.length L6), (3, .slice L8 L1.length L9), (4, .int .i64 LZ)] H [Ma] F a w ∧ (xi 84 qi.cells 3 L8 L1 L9 Ma) ∧ (qP.l1 K LY Me L1 LZ).wp kr kp) K ?_ ?_ ?_
 ·exact ⟨none, 0, ([] : List qi), MY, (0 : Int), hS.to [0] (by kernel_rfl) ⟨rfl, rfl, rfl, trivial⟩, Mt, hM⟩
 ·intro a w hI; obtain ⟨_, _, _, _, _, _, _, hM⟩ := hI; exact zt hM
 ·intro Me a w hI Nj Mf
  obtain ⟨L8, L9, L1, Ma, LZ, hS, Mb, hM⟩ := hI
  rw [qP.l1] at hM
  refine wp_seq <| qm <| sM hS rfl fun hS => sM hS rfl fun hS => sO hS (yj rfl Tryd.runUnderlying66) rfl fun hS => sB hS rfl fun hS => qB <| qG hS rfl hM (fun MC hM => ?_) (fun MC hM => ?_)
  ·refine wp_skip ?_
   refine qe <| xO <| qm <| sA hS rfl fun hS => qB <| zj (fun a w => ∃ (L3 : Int), Ss 93 [] [(0, .slice L5 LY.length L6), (3, .slice L8 L1.length L9), (4, .int .i64 LZ), (5, .int .i64 L3)] H [Ma] F a w ∧ (qP.j4 K (qP.l1 K LY Me) LY L1 LZ L3).wp kr kp) (fun Ni Ms => ?_) ?_
   ·refine xO ?_
    refine zu (fun Mk a w => ∃ (L0 : Int), Ss 93 [] [(0, .slice L5 LY.length L6), (3, .slice L8 L1.length L9), (4, .int .i64 LZ), (5, .int .i64 L0)] H [Ma] F a w ∧ (qP.l2 K (qP.l1 K LY Me) LY L1 LZ Mk L0).wp kr kp) K ?_ ?_ ?_
    ·exact ⟨(1 : Int), hS.to [0] (by kernel_rfl) ⟨rfl, rfl, rfl, rfl, trivial⟩, hM⟩
    ·intro a w hI; obtain ⟨_, _, hM⟩ := hI; exact zt hM
    ·intro Mk a w hI Nh Mr
     obtain ⟨L0, hS, hM⟩ := hI
     rw [qP.l2] at hM
     refine wp_seq <| zj (fun a w => ∃ (Ml : Bool), Ss 93 [] [(0, .slice L5 LY.length L6), (3, .slice L8 L1.length L9), (4, .int .i64 LZ), (5, .int .i64 L0), (28, .bool Ml)] H [Ma] F a w ∧ (qP.j3 K (qP.l1 K LY Me) (qP.l2 K (qP.l1 K LY Me) LY L1 LZ Mk) LY L1 LZ L0 Ml).wp kr kp) (fun Ng Mh => ?_) ?_
     ·refine Gs (b := (decide ((qh (LZ + L0)) < (LY.length : Int)))) hM (fun Mg hM => ?_) (fun Mg hM => ?_)
      ·obtain ⟨Mi, hM⟩ := qK hM
       obtain ⟨Mj, hM⟩ := qK hM
       refine za (vals := [some (.int .i64 LZ), some (.int .i64 L0), some (.int .i64 (qh (LZ + L0))), some (.slice L5 LY.length L6), some (.int .i64 (LY.length : Int)), some (.bool true), some (.bool true), some (.slice L5 LY.length L6), some (.int .i64 LZ), some (.int .i64 L0), some (.int .i64 (qh (LZ + L0))), some (xG L5 (Int.toNat (qh (LZ + L0)) * 1)), some (.int .i64 (rd LY (qh (LZ + L0)))), some (.slice L5 LY.length L6), some (.int .i64 LZ), some (xG L5 (Int.toNat LZ * 1)), some (.int .i64 (rd LY LZ)), some (.bool ((rd LY (qh (LZ + L0))) == (rd LY LZ))), some (.bool ((rd LY (qh (LZ + L0))) == (rd LY LZ)))]) hS xE rfl ?_
       intro l w ho hcl hA hst
       refine yk hA hst ho hcl xF [0, 1, 2, 3, 4, 5, 6, 7, 8, 9, 10, 11, 12, 13, 14, 15, 16, 17, 18] rfl rfl rfl (by exact ⟨nM rfl, nM rfl, nB rfl, nM rfl, nQ rfl (by exact qX (yj rfl Tryd.runUnderlying66) rfl), nQ rfl (by exact qX (jk rfl rfl rfl) (congrArg Value.bool Mg)), nM rfl, nW rfl rfl rfl rfl rfl rfl rfl rfl (by exact qX (mv rfl) rfl), nW rfl rfl rfl rfl rfl rfl rfl rfl (by exact qX (mv rfl) rfl), nW rfl rfl rfl rfl rfl rfl rfl rfl (by exact qX (mv rfl) rfl), nW rfl rfl rfl rfl rfl rfl rfl rfl (by exact qX (jk rfl rfl rfl) rfl), nW rfl rfl rfl rfl rfl rfl rfl rfl (by exact qX (yu rfl rfl Tryd.runUnderlying66 Tryd.sizeOf3 L4.wk (fun _ => rfl) rfl Mi) rfl), nW rfl rfl rfl rfl rfl rfl rfl rfl (by exact qX (yD rfl L4.wk (fun _ => rfl) Mi rfl Tryd.isAgg3) rfl), nW rfl rfl rfl rfl rfl rfl rfl rfl (by exact qX (mv rfl) rfl), nW rfl rfl rfl rfl rfl rfl rfl rfl (by exact qX (mv rfl) rfl), nW rfl rfl rfl rfl rfl rfl rfl rfl (by exact qX (yu rfl rfl Tryd.runUnderlying66 Tryd.sizeOf3 L4.wk (fun _ => rfl) rfl Mj) rfl), nW rfl rfl rfl rfl rfl rfl rfl rfl (by exact qX (yD rfl L4.wk (fun _ => rfl) Mj rfl Tryd.isAgg3) rfl), nW rfl rfl rfl rfl rfl rfl rfl rfl (by exact qX (jk rfl rfl rfl) rfl), nQ rfl (by exact qX (pk rfl rfl rfl) rfl), trivial⟩) fun a w hS => ?_
       replace hS := hS.env2 (e' := [(0, .slice L5 LY.length L6), (3, .slice L8 L1.length L9), (4, .int .i64 LZ), (5, .int .i64 L0), (28, .bool ((rd LY (qh (LZ + L0))) == (rd LY LZ)))]) ⟨rfl, rfl, rfl, rfl, rfl, trivial⟩
       refine qe ?_
       exact Mh _ _ ⟨((rd LY (qh (LZ + L0))) == (rd LY LZ)), hS.to [0] (by kernel_rfl) ⟨rfl, rfl, rfl, rfl, rfl, trivial⟩, hM⟩
      ·refine za (vals := [some (.int .i64 LZ), some (.int .i64 L0), some (.int .i64 (qh (LZ + L0))), some (.slice L5 LY.length L6), some (.int .i64 (LY.length : Int)), some (.bool false), some (.bool false), some (undef), some (undef), some (undef), some (undef), some (undef), some (undef), some (undef), some (undef), some (undef), some (undef), some (undef), some (.bool false)]) hS xE rfl ?_
       intro l w ho hcl hA hst
       refine yk hA hst ho hcl xF [0, 1, 2, 3, 4, 5, 6, 7, 8, 9, 10, 11, 12, 13, 14, 15, 16, 17, 18] rfl rfl rfl (by exact ⟨nM rfl, nM rfl, nB rfl, nM rfl, nQ rfl (by exact qX (yj rfl Tryd.runUnderlying66) rfl), nQ rfl (by exact qX (jk rfl rfl rfl) (congrArg Value.bool Mg)), nM rfl, nS rfl rfl rfl rfl rfl rfl rfl rfl rfl, nS rfl rfl rfl rfl rfl rfl rfl rfl rfl, nS rfl rfl rfl rfl rfl rfl rfl rfl rfl, nS rfl rfl rfl rfl rfl rfl rfl rfl rfl, nS rfl rfl rfl rfl rfl rfl rfl rfl rfl, nS rfl rfl rfl rfl rfl rfl rfl rfl rfl, nS rfl rfl rfl rfl rfl rfl rfl rfl rfl, nS rfl rfl rfl rfl rfl rfl rfl rfl rfl, nS rfl rfl rfl rfl rfl rfl rfl rfl rfl, nS rfl rfl rfl rfl rfl rfl rfl rfl rfl, nS rfl rfl rfl rfl rfl rfl rfl rfl rfl, nQ rfl (by exact qX (pk rfl rfl rfl) rfl), trivial⟩) fun a w hS => ?_
       replace hS := hS.env2 (e' := [(0, .slice L5 LY.length L6), (3, .slice L8 L1.length L9), (4, .int .i64 LZ), (5, .int .i64 L0), (28, .bool false)]) ⟨rfl, rfl, rfl, rfl, rfl, trivial⟩
       refine qe ?_
       exact Mh _ _ ⟨false, hS.to [0] (by kernel_rfl) ⟨rfl, rfl, rfl, rfl, rfl, trivial⟩, hM⟩
     ·intro a w hI
      obtain ⟨Ml, hS, hM⟩ := hI
      rw [qP.j3] at hM
      refine qG hS rfl hM (fun MD hM => ?_) (fun MD hM => ?_)
      ·refine wp_skip ?_
       refine qe <| xO <| zN <| sM hS rfl fun hS => sB hS rfl fun hS => zE (v := Value.int .i64) (x0 := (qh (L0 + (1 : Int)))) hS (xy rfl) rfl fun ML a w hz hS => ?_
       have hM := qy hz hM; clear hz
       refine zp <| zy (qe ?_)
       exact Mr _ _ ⟨ML, hS.to [0] (by kernel_rfl) ⟨rfl, rfl, rfl, rfl, trivial⟩, hM⟩
      ·refine wp_exit ?_
       refine qE (qE (ze (qe ?_)))
       exact Ms _ _ ⟨L0, hS.to [0] (by kernel_rfl) ⟨rfl, rfl, rfl, rfl, trivial⟩, hM⟩
   ·intro a w hI
    obtain ⟨L3, hS, hM⟩ := hI
    rw [qP.j4] at hM
    refine wp_seq <| xO <| qm <| sM hS rfl fun hS => sM hS rfl fun hS => ?_
    obtain ⟨L7, hM⟩ := qK hM
    refine sO hS (yu rfl rfl Tryd.runUnderlying66 Tryd.sizeOf3 L4.wk (fun _ => rfl) rfl L7) rfl fun hS => sO hS (yD rfl L4.wk (fun _ => rfl) L7 rfl Tryd.isAgg3) rfl fun hS => sB hS rfl fun hS => sM hS rfl fun hS => yS 2 true 45 (b := ((rd LY LZ) == (0 : Int))) (r := (decide (L3 ≥ (11 : Int)))) hS rfl rfl rfl rfl rfl rfl rfl (fun hb a w hS K hK => ?_) rfl fun a w hS => ?_
    ·refine z2 hS rfl rfl rfl hb (mv rfl) rfl fun a w hS => ?_
     refine z2 hS rfl rfl rfl hb (jk rfl rfl rfl) rfl fun a w hS => ?_
     exact zp (hK _ _ (hS.up 2 rfl rfl))
    refine zE (v := Value.bool) (x0 := (((rd LY LZ) == (0 : Int)) && (decide (L3 ≥ (11 : Int))))) hS (xy rfl) rfl fun Nt a w hz hS => ?_
    have hM := qy hz hM; clear hz
    refine qB <| qG hS rfl hM (fun ME hM => ?_) (fun ME hM => ?_)
    ·refine wp_seq ?_
     refine zN <| sM hS rfl fun hS => sO hS (VS rfl rfl) rfl fun hS => zE (v := Value.int .i64) (x0 := (if (138 : Int) < L3 then (138 : Int) else L3)) hS (xy rfl) rfl fun Mc a w hz hS => ?_
     have hM := qy hz hM; clear hz
     refine qB <| zN <| sM hS rfl fun hS => sM hS rfl fun hS => sB hS rfl fun hS => sO hS (Z9 ([.int .i64 (18 : Int), .int .i64 (qh (Mc - (11 : Int))), .int .i64 (7 : Int)]) [(0, 1), (1, 1), (2, 1)] Tryd.zeroValue84 Tryd.runUnderlying84 (by intro w; simp [Tryd.sizeOf3]) rfl rfl) rfl fun hS => Y3 (g := qi.cells) ([(qi.mk (18 : Int) (qh (Mc - (11 : Int))) (7 : Int))] : List qi) [.agg ⟨[.int .i64 (18 : Int), .int .i64 (qh (Mc - (11 : Int))), .int .i64 (7 : Int)]⟩] hS Tryd.runUnderlying81 Tryd.sizeOf84 X.el84 rfl rfl rfl (by simp [Value.cells]) rfl rfl rfl rfl rfl fun w Nb Nk Np Mu hS => ?_
     obtain ⟨MH, hM⟩ := qK hM
     refine JA (ys := ([(qi.mk (18 : Int) (qh (Mc - (11 : Int))) (7 : Int))] : List qi)) 1 hS rfl rfl Mb rfl (Mu.rd (i := 0) rfl) Tryd.runUnderlying81 Tryd.runUnderlying81 X.el84 (fun _ => rfl) rfl Xj MH rfl fun MM w MQ MU MZ hz Mv hS => ?_
     have hM := qy hz hM; clear hz
     refine sA hS rfl fun hS => zp <| zy (qe ?_)
     refine zN <| sM hS rfl fun hS => sM hS rfl fun hS => sB hS rfl fun hS => zE (v := Value.int .i64) (x0 := (qh (LZ + Mc))) hS (xy rfl) rfl fun M5 a w hz hS => ?_
     have hM := qy hz hM; clear hz
     refine zp <| zy (qe ?_)
     exact Mf _ _ ⟨MQ, MU, MM, MZ, M5, hS.to [1] (by kernel_rfl) ⟨rfl, rfl, rfl, trivial⟩, Mv, hM⟩
    ·refine wp_seq ?_
     refine zN <| sM hS rfl fun hS => sM hS rfl fun hS => sO hS (yu rfl rfl Tryd.runUnderlying66 Tryd.sizeOf3 L4.wk (fun _ => rfl) rfl L7) rfl fun hS => sO hS (yD rfl L4.wk (fun _ => rfl) L7 rfl Tryd.isAgg3) rfl fun hS => sB hS rfl fun hS => sM hS rfl fun hS => yS 2 true 63 (b := ((rd LY LZ) == (0 : Int))) (r := (decide (L3 ≥ (3 : Int)))) hS rfl rfl rfl rfl rfl rfl rfl (fun hb a w hS K hK => ?_) rfl fun a w hS => ?_
     ·refine z2 hS rfl rfl rfl hb (mv rfl) rfl fun a w hS => ?_
      refine z2 hS rfl rfl rfl hb (jk rfl rfl rfl) rfl fun a w hS => ?_
      exact zp (hK _ _ (hS.up 2 rfl rfl))
     refine zE (v := Value.bool) (x0 := (((rd LY LZ) == (0 : Int)) && (decide (L3 ≥ (3 : Int))))) hS (xy rfl) rfl fun Nu a w hz hS => ?_
     have hM := qy hz hM; clear hz
     refine qB <| qG hS rfl hM (fun MF hM => ?_) (fun MF hM => ?_)
     ·refine zN ?_
      refine sM hS rfl fun hS => sM hS rfl fun hS => sB hS rfl fun hS => sO hS (Z9 ([.int .i64 (17 : Int), .int .i64 (qh (L3 - (3 : Int))), .int .i64 (3 : Int)]) [(0, 1), (1, 1), (2, 1)] Tryd.zeroValue84 Tryd.runUnderlying84 (by intro w; simp [Tryd.sizeOf3]) rfl rfl) rfl fun hS => Y3 (g := qi.cells) ([(qi.mk (17 : Int) (qh (L3 - (3 : Int))) (3 : Int))] : List qi) [.agg ⟨[.int .i64 (17 : Int), .int .i64 (qh (L3 - (3 : Int))), .int .i64 (3 : Int)]⟩] hS Tryd.runUnderlying81 Tryd.sizeOf84 X.el84 rfl rfl rfl (by simp [Value.cells]) rfl rfl rfl rfl rfl fun w Nc Nl Nq Mw hS => ?_
      obtain ⟨MI, hM⟩ := qK hM
      refine JA (ys := ([(qi.mk (17 : Int) (qh (L3 - (3 : Int))) (3 : Int))] : List qi)) 1 hS rfl rfl Mb rfl (Mw.rd (i := 0) rfl) Tryd.runUnderlying81 Tryd.runUnderlying81 X.el84 (fun _ => rfl) rfl Xj MI rfl fun MN w MR MV M0 hz Mx hS => ?_
      have hM := qy hz hM; clear hz
      refine sA hS rfl fun hS => zp <| zy (qe ?_)
      refine zN <| sM hS rfl fun hS => sM hS rfl fun hS => sB hS rfl fun hS => zE (v := Value.int .i64) (x0 := (qh (LZ + L3))) hS (xy rfl) rfl fun M6 a w hz hS => ?_
      have hM := qy hz hM; clear hz
      refine zp <| zy (qe ?_)
      exact Mf _ _ ⟨MR, MV, MN, M0, M6, hS.to [1] (by kernel_rfl) ⟨rfl, rfl, rfl, trivial⟩, Mx, hM⟩
     ·refine wp_seq ?_
      refine zN <| sM hS rfl fun hS => sB hS rfl fun hS => zE (v := Value.bool) (x0 := (decide (L3 ≥ (4 : Int)))) hS (xy rfl) rfl fun Nv a w hz hS => ?_
      have hM := qy hz hM; clear hz
      refine qB <| qG hS rfl hM (fun MG hM => ?_) (fun MG hM => ?_)
      ·refine wp_seq ?_
       refine zN <| sM hS rfl fun hS => sO hS (VS rfl rfl) rfl fun hS => zE (v := Value.int .i64) (x0 := (if (7 : Int) < L3 then (7 : Int) else L3)) hS (xy rfl) rfl fun Md a w hz hS => ?_
       have hM := qy hz hM; clear hz
       refine qB <| zN <| sM hS rfl fun hS => sM hS rfl fun hS => sM hS rfl fun hS => sO hS (yu rfl rfl Tryd.runUnderlying66 Tryd.sizeOf3 L4.wk (fun _ => rfl) rfl L7) rfl fun hS => sO hS (yD rfl L4.wk (fun _ => rfl) L7 rfl Tryd.isAgg3) rfl fun hS => sO hS (Z9 ([.int .i64 (rd LY LZ), .int .i64 (0 : Int), .int .i64 (0 : Int)]) [(0, 1), (1, 1), (2, 1)] Tryd.zeroValue84 Tryd.runUnderlying84 (by intro w; simp [Tryd.sizeOf3]) rfl rfl) rfl fun hS => sM hS rfl fun hS => sB hS rfl fun hS => sO hS (Z9 ([.int .i64 (16 : Int), .int .i64 (qh (Md - (4 : Int))), .int .i64 (2 : Int)]) [(0, 1), (1, 1), (2, 1)] Tryd.zeroValue84 Tryd.runUnderlying84 (by intro w; simp [Tryd.sizeOf3]) rfl rfl) rfl fun hS => Y3 (g := qi.cells) ([(qi.mk (rd LY LZ) (0 : Int) (0 : Int)), (qi.mk (16 : Int) (qh (Md - (4 : Int))) (2 : Int))] : List qi) [.agg ⟨[.int .i64 (rd LY LZ), .int .i64 (0 : Int), .int .i64 (0 : Int)]⟩, .agg ⟨[.int .i64 (16 : Int), .int .i64 (qh (Md - (4 : Int))), .int .i64 (2 : Int)]⟩] hS Tryd.runUnderlying81 Tryd.sizeOf84 X.el84 rfl rfl rfl (by simp [Value.cells]) rfl rfl rfl rfl rfl fun w Nd Nm Nr My hS => ?_
       obtain ⟨MJ, hM⟩ := qK hM
       refine JA (ys := ([(qi.mk (rd LY LZ) (0 : Int) (0 : Int)), (qi.mk (16 : Int) (qh (Md - (4 : Int))) (2 : Int))] : List qi)) 1 hS rfl rfl Mb rfl (My.rd (i := 0) rfl) Tryd.runUnderlying81 Tryd.runUnderlying81 X.el84 (fun _ => rfl) rfl Xj MJ rfl fun MO w MS MW M3 hz Mz hS => ?_
       have hM := qy hz hM; clear hz
       refine sA hS rfl fun hS => zp <| zy (qe ?_)
       refine zN <| sM hS rfl fun hS => sM hS rfl fun hS => sB hS rfl fun hS => zE (v := Value.int .i64) (x0 := (qh (LZ + Md))) hS (xy rfl) rfl fun M7 a w hz hS => ?_
       have hM := qy hz hM; clear hz
       refine zp <| zy (qe ?_)
       exact Mf _ _ ⟨MS, MW, MO, M3, M7, hS.to [1] (by kernel_rfl) ⟨rfl, rfl, rfl, trivial⟩, Mz, hM⟩
      ·refine wp_seq ?_
       refine zN <| sA hS rfl fun hS => qB <| zN <| sM hS rfl fun hS => sM hS rfl fun hS => sM hS rfl fun hS => sO hS (yu rfl rfl Tryd.runUnderlying66 Tryd.sizeOf3 L4.wk (fun _ => rfl) rfl L7) rfl fun hS => sO hS (yD rfl L4.wk (fun _ => rfl) L7 rfl Tryd.isAgg3) rfl fun hS => sO hS (Z9 ([.int .i64 (rd LY LZ), .int .i64 (0 : Int), .int .i64 (0 : Int)]) [(0, 1), (1, 1), (2, 1)] Tryd.zeroValue84 Tryd.runUnderlying84 (by intro w; simp [Tryd.sizeOf3]) rfl rfl) rfl fun hS => Y3 (g := qi.cells) ([(qi.mk (rd LY LZ) (0 : Int) (0 : Int))] : List qi) [.agg ⟨[.int .i64 (rd LY LZ), .int .i64 (0 : Int), .int .i64 (0 : Int)]⟩] hS Tryd.runUnderlying81 Tryd.sizeOf84 X.el84 rfl rfl rfl (by simp [Value.cells]) rfl rfl rfl rfl rfl fun w Nf Nn Ns MA hS => ?_
       obtain ⟨MK, hM⟩ := qK hM
       refine JA (ys := ([(qi.mk (rd LY LZ) (0 : Int) (0 : Int))] : List qi)) 1 hS rfl rfl Mb rfl (MA.rd (i := 0) rfl) Tryd.runUnderlying81 Tryd.runUnderlying81 X.el84 (fun _ => rfl) rfl Xj MK rfl fun MP w MT MX M4 hz MB hS => ?_
       have hM := qy hz hM; clear hz
       refine sA hS rfl fun hS => zp <| zy (qe ?_)
       refine zN <| sM hS rfl fun hS => sM hS rfl fun hS => sB hS rfl fun hS => zE (v := Value.int .i64) (x0 := (qh (LZ + (1 : Int)))) hS (xy rfl) rfl fun M8 a w hz hS => ?_
       have hM := qy hz hM; clear hz
       refine zp <| zy (qe ?_)
       exact Mf _ _ ⟨MT, MX, MP, M4, M8, hS.to [1] (by kernel_rfl) ⟨rfl, rfl, rfl, trivial⟩, MB, hM⟩
  ·refine wp_exit ?_
   refine qE (qE (ze (qe ?_)))
   refine qm <| sM hS rfl fun hS => sA hS rfl fun hS => qB <| wp_ret ?_
   exact zD (rs := [2]) hS rfl rfl (hret L8 L9 L1 Ma _ (q7 hM) Mb (hS.st.pick [0] (by kernel_rfl)))
theorem v5 {H : xR} {F : List qk} {w : World} {R : Ending → World → Prop} {kr : (Int × (List Int)) → Prop} {kp : Value → Prop} (hG : Gl H) (K : Nat) (LY : qp) (LZ : qv) (L0 : Int) (L4 : Nat) (Mx : qk) (Mt : Option Addr) (Mv : Nat) (My : qk) (Mc : Option Addr) (Mh : Nat) (L8 : qk) (Md : Option Addr) (Mi : Nat) (L9 : qk) (Me : Option Addr) (Mj : Nat) (Ma : qk) (Mf : Option Addr) (Mk : Nat) (Mb : qk) (Mu : Option Addr) (Mw : Nat) (L7 : Option Addr) (Ml : Nat) (MP : xJ Mx L4 ([.int .i64 LY.Writer_.place_.at_, .slice Mt LY.Writer_.bytes_.length Mv, .slice Mc LY.literals_.lengths_.length Mh, .slice Md LY.literals_.codes_.length Mi, .slice Me LY.distances_.lengths_.length Mj, .slice Mf LY.distances_.codes_.length Mk]) 70) (MR : xi 5 (ci .u8) 1 Mt LY.Writer_.bytes_ Mv My) (MS : xi 3 (ci .i64) 1 Mc LY.literals_.lengths_ Mh L8) (MT : xi 3 (ci .i64) 1 Md LY.literals_.codes_ Mi L9) (MU : xi 3 (ci .i64) 1 Me LY.distances_.lengths_ Mj Ma) (MV : xi 3 (ci .i64) 1 Mf LY.distances_.codes_ Mk Mb) (ME : jG H [] F (ci .i64) Mu LZ.lengths_) (M7 : LZ.lengths_.length ≤ Mw) (MF : jG H [] F (ci .i64) L7 LZ.codes_) (M8 : LZ.codes_.length ≤ Ml)
    (hS : St w H [Mx, My, L8, L9, Ma, Mb] F) (hm : (zO.m K LY LZ L0).wp kr kp)
    (hret : ∀ (Mq : Int) (MH : Option Addr) (MI : Nat) (L6 : (List Int)) (MM : qk) (MN : qk) (w : World), kr (Mq, L6) → (xi 5 (ci .u8) 1 MH L6 MI MM) → (xJ MN L4 ([.int .i64 Mq, .slice MH L6.length MI, .slice Mc LY.literals_.lengths_.length Mh, .slice Md LY.literals_.codes_.length Mi, .slice Me LY.distances_.lengths_.length Mj, .slice Mf LY.distances_.codes_.length Mk]) 70) → St w H [MN, MM, L8, L9, Ma, Mb] F → R (.returned (.tuple ⟨[]⟩)) w) :
    Calls Tryd.prog 39 ⟨[qL L4 0, .agg ⟨[.slice Mu LZ.lengths_.length Mw, .slice L7 LZ.codes_.length Ml]⟩, .int .i64 L0]⟩ w R := by
 refine enter Tryd.func39 rfl Tryd.ntmps39 rfl hS fun a w hS => ?_
 have hM := hm; clear hm
 rw [zO.m] at hM
 refine qm <| bx ([.slice Mu LZ.lengths_.length Mw, .slice L7 LZ.codes_.length Ml]) hS rfl rfl rfl fun w Mr MJ Mz hS => qB <| qm <| sO hS (xv rfl Tryd.runUnderlying68 rfl Tryd.sizeOf66 rfl) rfl fun hS => sO hS (xY 0 rfl Mz rfl rfl Tryd.isAgg66) rfl fun hS => sM hS rfl fun hS => ?_
 obtain ⟨MC, hM⟩ := qK hM
 refine sO hS (yu rfl rfl Tryd.runUnderlying66 Tryd.sizeOf3 ME.wk (fun _ => rfl) rfl MC) rfl fun hS => sO hS (yD rfl ME.wk (fun _ => rfl) MC rfl Tryd.isAgg3) rfl fun hS => sB hS rfl fun hS => zE (v := Value.int .i64) (x0 := (qh ((rd LZ.lengths_ L0) - (1 : Int)))) hS (xy rfl) rfl fun M4 a w hz hS => ?_
 have hM := qy hz hM; clear hz
 refine qB <| xO <| zu (fun MO a w => ∃ (L5 : Int) (Mg : Option Addr) (Mm : Nat) (L1 : (List Int)) (Mn : qk) (Mp : qk) (L3 : Int), Ss 30 [] [(0, qL L4 0), (2, .int .i64 L0), (4, qL Mr 0), (6, .int .i64 L3)] H [Mp, Mn, L8, L9, Ma, Mb, MJ] F a w ∧ (xi 5 (ci .u8) 1 Mg L1 Mm Mn) ∧ (xJ Mp L4 ([.int .i64 L5, .slice Mg L1.length Mm, .slice Mc LY.literals_.lengths_.length Mh, .slice Md LY.literals_.codes_.length Mi, .slice Me LY.distances_.lengths_.length Mj, .slice Mf LY.distances_.codes_.length Mk]) 70) ∧ (zO.l1 K LY LZ L0 MO L5 L1 L3).wp kr kp) K ?_ ?_ ?_
 ·exact ⟨LY.Writer_.place_.at_, Mt, Mv, LY.Writer_.bytes_, My, Mx, M4, hS.to [1, 2, 3, 4, 5, 6, 0] (by kernel_rfl) ⟨rfl, rfl, rfl, rfl, trivial⟩, MR, MP, hM⟩
 ·intro a w hI; obtain ⟨_, _, _, _, _, _, _, _, _, _, hM⟩ := hI; exact zt hM
 ·intro MO a w hI M9 MQ
  obtain ⟨L5, Mg, Mm, L1, Mn, Mp, L3, hS, MB, MA, hM⟩ := hI
  rw [zO.l1] at hM
  refine wp_seq <| qm <| sM hS rfl fun hS => sB hS rfl fun hS => qB <| qG hS rfl hM (fun MW hM => ?_) (fun MW hM => ?_)
  ·refine wp_skip ?_
   refine qe <| wp_seq <| xO ?_
   obtain ⟨MD, hM⟩ := qK hM
   obtain ⟨MX, hM⟩ := qK hM
   refine za (vals := [some (qL L4 0), some (qL L4 0), some (qL L4 0), some (qL Mr 1), some (.slice L7 LZ.codes_.length Ml), some (.int .i64 L0), some (xG L7 (Int.toNat L0 * 1)), some (.int .i64 (rd LZ.codes_ L0)), some (.int .i64 L3), some (.int .i64 (z9 .i64 (rd LZ.codes_ L0) L3)), some (.int .i64 (xD .i64 (z9 .i64 (rd LZ.codes_ L0) L3) (1 : Int))), some (.int .u32 (wr .u32 (xD .i64 (z9 .i64 (rd LZ.codes_ L0) L3) (1 : Int)))), none]) hS xE rfl ?_
   intro l w ho hcl hA hst
   refine y9 hA hst ho hcl xx xF 12 [0, 1, 2, 3, 4, 5, 6, 7, 8, 9, 10, 11] rfl rfl rfl rfl rfl (by exact ⟨nM rfl, nQ rfl (by exact qX (yw rfl) rfl), nQ rfl (by exact qX (xv rfl Tryd.runUnderlying70 rfl Tryd.sizeOf65 rfl) rfl), nQ rfl (by exact qX (xv rfl Tryd.runUnderlying68 rfl Tryd.sizeOf66 rfl) rfl), nQ rfl (by exact qX (xY 6 rfl Mz rfl rfl Tryd.isAgg66) rfl), nM rfl, nQ rfl (by exact qX (yu rfl rfl Tryd.runUnderlying66 Tryd.sizeOf3 MF.wk (fun _ => rfl) rfl MD) rfl), nQ rfl (by exact qX (yD rfl MF.wk (fun _ => rfl) MD rfl Tryd.isAgg3) rfl), nM rfl, nQ rfl (by exact qX (shr rfl rfl MX) rfl), nB rfl, nQ rfl (by exact qX (vU rfl Tryd.runUnderlying3 Tryd.runUnderlying25) rfl), trivial⟩) fun D l a w ho hcl hav hpre hm hE hk hA hst => ?_
   have hS := (Ss.mk hE hst).env2 (e' := [(19, qL L4 0), (28, .int .u32 (wr .u32 (xD .i64 (z9 .i64 (rd LZ.codes_ L0) L3) (1 : Int))))]) ⟨rfl, rfl, trivial⟩
   refine qQ rfl <| qF hS rfl Tryd.call30 (zk hG K (qp.mk (qR.mk (qr.mk L5) L1) LY.literals_ LY.distances_) (wr .u32 (xD .i64 (z9 .i64 (rd LZ.codes_ L0) L3) (1 : Int))) (1 : Int) L4 Mp Mg Mm Mn Mc Mh L8 Md Mi L9 Me Mj Ma Mf Mk Mb MA MB MS MT MU MV (hS.st.part 6 [0, 1, 2, 3, 4, 5, 6] (by kernel_rfl)) (qs hM) (fun M6 MG MY MZ Ms MK ML w hM M0 M3 hst => qA hS.ev hst.appF rfl fun hS => ?_))
   replace hS : Ss _ _ _ H [ML, MK, L8, L9, Ma, Mb, MJ] F _ _ := hS
   refine qB ?_
   replace hst := hS.st
   obtain ⟨hcl, hmust, hav2, hA⟩ := dn (vals' := [some (qL L4 0), some (qL L4 0), some (qL L4 0), some (qL Mr 1), some (.slice L7 LZ.codes_.length Ml), some (.int .i64 L0), some (xG L7 (Int.toNat L0 * 1)), some (.int .i64 (rd LZ.codes_ L0)), some (.int .i64 L3), some (.int .i64 (z9 .i64 (rd LZ.codes_ L0) L3)), some (.int .i64 (xD .i64 (z9 .i64 (rd LZ.codes_ L0) L3) (1 : Int))), some (.int .u32 (wr .u32 (xD .i64 (z9 .i64 (rd LZ.codes_ L0) L3) (1 : Int)))), some (.int .i64 M6)]) 12 [(2, 12), (11, 12), (1, 2), (10, 11), (0, 1), (9, 10), (7, 9), (8, 9), (6, 7), (4, 6), (5, 6), (3, 4)] hA hcl hav hm hpre hk rfl rfl rfl rfl rfl rfl rfl
   clear hm hav
   refine yk hA hst ho hcl hmust [] rfl rfl rfl trivial fun a w hS => ?_
   replace hS := hS.env2 (e' := [(0, qL L4 0), (2, .int .i64 L0), (4, qL Mr 0), (6, .int .i64 L3)]) ⟨rfl, rfl, rfl, rfl, trivial⟩
   refine zy (qe ?_)
   refine zN <| sM hS rfl fun hS => sB hS rfl fun hS => zE (v := Value.int .i64) (x0 := (qh (L3 - (1 : Int)))) hS (xy rfl) rfl fun M5 a w hz hS => ?_
   have hM := qy hz hM; clear hz
   refine zp <| qe ?_
   exact MQ _ _ ⟨MG, MY, MZ, Ms, MK, ML, M5, hS.to [0, 1, 2, 3, 4, 5, 6] (by kernel_rfl) ⟨rfl, rfl, rfl, rfl, trivial⟩, M0, M3, hM⟩
  ·refine wp_exit ?_
   refine qE (qE (ze ?_))
   exact jE (rs := []) hS rfl rfl (hret L5 Mg Mm L1 Mn Mp _ (q7 hM) MB MA (hS.st.pick [0, 1, 2, 3, 4, 5] (by kernel_rfl)))
end Go.TrydS

