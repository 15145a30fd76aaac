/- Printed by a program of mine: each Go function answers what its model answers; conditions: what each theorem asks of memory. -/
import Derived.Test.YtojcnkhcdcegkaaDoorP2xfgjnn
set_option linter.unusedVariables false
set_option linter.unusedSimpArgs false
set_option maxRecDepth 100000
namespace Go.TrydS
open Go Go.Sl Go.Mo Go.Proofs
attribute [local irreducible] qN.wp
theorem jE {H : xT} {F : List qk} {w : World} {R : Ending → World → Prop} {kr : (Int × (List Int)) → Prop} {kp : Value → Prop} (hG : Gl H) (K : Nat) (M3 : qp) (M5 : List qM) (M4 : Nat) (NV : qk) (NT : Option Addr) (NU : Nat) (NW : qk) (M7 : Option Addr) (M9 : Nat) (Nh : qk) (M8 : Option Addr) (Na : Nat) (Ni : qk) (Nc : Option Addr) (Nf : Nat) (Nj : qk) (Nd : Option Addr) (Ng : Nat) (Nk : qk) (Nz : Option Addr) (NB : Nat) (Pj : xM NV M4 ([.int .i64 M3.Writer_.place_.at_, .slice NT M3.Writer_.bytes_.length NU, .slice M7 M3.literals_.lengths_.length M9, .slice M8 M3.literals_.codes_.length Na, .slice Nc M3.distances_.lengths_.length Nf, .slice Nd M3.distances_.codes_.length Ng]) 70) (Pn : xj 5 (ci .u8) 1 NT M3.Writer_.bytes_ NU NW) (NE : xj 3 (ci .i64) 1 M7 M3.literals_.lengths_ M9 Nh) (NF : xj 3 (ci .i64) 1 M8 M3.literals_.codes_ Na Ni) (NG : xj 3 (ci .i64) 1 Nc M3.distances_.lengths_ Nf Nj) (NH : xj 3 (ci .i64) 1 Nd M3.distances_.codes_ Ng Nk) (N3 : jU H [] F qM.cells Nz M5) (PH : M5.length ≤ NB)
    (hS : St w H [NV, NW, Nh, Ni, Nj, Nk] F) (hm : (zj.m K M3 M5).wp kr kp)
    (hret : ∀ (NL : Int) (N8 : Option Addr) (N9 : Nat) (Nu : (List Int)) (Pg : qk) (Ph : qk) (w : World), kr (NL, Nu) → (xj 5 (ci .u8) 1 N8 Nu N9 Pg) → (xM Ph M4 ([.int .i64 NL, .slice N8 Nu.length N9, .slice M7 M3.literals_.lengths_.length M9, .slice M8 M3.literals_.codes_.length Na, .slice Nc M3.distances_.lengths_.length Nf, .slice Nd M3.distances_.codes_.length Ng]) 70) → St w H [Ph, Pg, Nh, Ni, Nj, Nk] F → R (.returned (.tuple ⟨[]⟩)) w) :
    Calls Tryd.prog 31 ⟨[qL M4 0, .slice Nz M5.length NB]⟩ w R := by
 refine enter Tryd.func31 rfl Tryd.ntmps31 rfl hS fun a w hS => ?_
 have hM := hm; clear hm
 rw [zj.m] at hM
 refine zl (fun a w => ∃ (Nw : Int) (NK : Option Addr) (NM : Nat) (Nl : (List Int)) (NN : qk) (NO : qk), Ss 49 [] [(0, qL M4 0)] H [NO, NN, Nh, Ni, Nj, Nk] F a w ∧ (xj 5 (ci .u8) 1 NK Nl NM NN) ∧ (xM NO M4 ([.int .i64 Nw, .slice NK Nl.length NM, .slice M7 M3.literals_.lengths_.length M9, .slice M8 M3.literals_.codes_.length Na, .slice Nc M3.distances_.lengths_.length Nf, .slice Nd M3.distances_.codes_.length Ng]) 70) ∧ (zj.j2 K M3 Nw Nl).wp kr kp) (fun PJ Pm => ?_) ?_
 ·refine wp_seq ?_
  refine zM <| sM hS rfl fun hS => sO hS (yc rfl Tryd.runUnderlying37) rfl fun hS => sM hS rfl fun hS => qA <| xQ <| zv (fun Pi a w => ∃ (No : Int) (NA : Option Addr) (NC : Nat) (Nb : (List Int)) (Nx : qk) (Ny : qk) (M6 : Int), Ss 49 [] [(0, qL M4 0), (6, .slice Nz M5.length NB), (7, .int .i64 (M5.length : Int)), (8, .int .i64 M6)] H [Ny, Nx, Nh, Ni, Nj, Nk] F a w ∧ (xj 5 (ci .u8) 1 NA Nb NC Nx) ∧ (xM Ny M4 ([.int .i64 No, .slice NA Nb.length NC, .slice M7 M3.literals_.lengths_.length M9, .slice M8 M3.literals_.codes_.length Na, .slice Nc M3.distances_.lengths_.length Nf, .slice Nd M3.distances_.codes_.length Ng]) 70) ∧ (zj.l1 K M3 M5 Pi No Nb M6).wp kr kp) K ?_ ?_ ?_
  ·exact ⟨M3.Writer_.place_.at_, NT, NU, M3.Writer_.bytes_, NW, NV, (0 : Int), hS.to [0, 1, 2, 3, 4, 5] (by kernel_rfl) ⟨rfl, rfl, rfl, rfl, trivial⟩, Pn, Pj, hM⟩
  ·intro a w hI; obtain ⟨_, _, _, _, _, _, _, _, _, _, hM⟩ := hI; exact zu hM
  ·intro Pi a w hI PI N1
   obtain ⟨No, NA, NC, Nb, Nx, Ny, M6, hS, NJ, Nv, hM⟩ := hI
   rw [zj.l1] at hM
   refine qm <| sB hS rfl fun hS => qA <| wp_seq <| qF hS rfl hM (fun Pp hM => ?_) (fun Pp hM => ?_)
   ·refine wp_skip ?_
    refine qe <| wp_seq <| xQ <| wp_seq <| zM ?_
    obtain ⟨N2, hM⟩ := qK hM
    refine sO hS (yu rfl rfl Tryd.runUnderlying37 Tryd.sizeOf57 N3.wk (fun _ => rfl) rfl N2) rfl fun hS => sO hS (uc rfl N3.wk (fun _ => rfl) N2 Tryd.isAgg57 Tryd.sizeOf57 rfl) rfl fun hS => QI ([.int .u8 (0 : Int), .int .i64 (0 : Int), .int .i64 (0 : Int)]) hS Tryd.zeroValue57 rfl rfl fun w Np PL Pk hS => QX 0 ([.int .u8 ((rd M5 M6).Lit_), .int .i64 ((rd M5 M6).Len_), .int .i64 ((rd M5 M6).Dist_)]) ([.int .u8 ((rd M5 M6).Lit_), .int .i64 ((rd M5 M6).Len_), .int .i64 ((rd M5 M6).Dist_)]) hS rfl rfl Pk rfl rfl Tryd.sizeOf57 (by simp [Value.oneCell']) (Nat.le_of_ble_eq_true rfl) rfl fun w NI ND hS => qA <| wp_seq <| qm <| sO hS (xw rfl Tryd.runUnderlying57 rfl Tryd.sizeOf3 rfl) rfl fun hS => sO hS (x5 0 rfl ND rfl rfl Tryd.isAgg3) rfl fun hS => sB hS rfl fun hS => qA <| qF hS rfl hM (fun Pq hM => ?_) (fun Pq hM => ?_)
    ·refine wp_seq ?_
     refine q9 (vals := [some (qL M4 0), some (qL M4 0), some (qL M4 0), some (qL M4 2), some (.agg ⟨[.slice M7 M3.literals_.lengths_.length M9, .slice M8 M3.literals_.codes_.length Na]⟩), some (qL Np 0), some (.int .u8 ((rd M5 M6).Lit_)), some (.int .i64 (wr .i64 (rd M5 M6).Lit_)), none]) hS xF rfl ?_
     intro l w ho hcl hA hst
     refine jf hA hst ho hcl xu xG 8 [0, 1, 2, 3, 4, 5, 6, 7] rfl rfl rfl rfl rfl (by exact ⟨nM rfl, nM rfl, nQ rfl (by exact qX (yz rfl) rfl), nQ rfl (by exact qX (xw rfl Tryd.runUnderlying70 rfl Tryd.sizeOf68 rfl) rfl), nQ rfl (by exact qX (uX 1 rfl Nv rfl ([.slice M7 M3.literals_.lengths_.length M9, .slice M8 M3.literals_.codes_.length Na]) rfl rfl Tryd.isAgg68 Tryd.sizeOf68) rfl), nQ rfl (by exact qX (xw rfl Tryd.runUnderlying57 rfl Tryd.sizeOf5 rfl) rfl), nQ rfl (by exact qX (x5 0 rfl ND rfl rfl Tryd.isAgg5) rfl), nQ rfl (by exact qX (ux rfl Tryd.runUnderlying5 Tryd.runUnderlying3) rfl), trivial⟩) fun D l a w ho hcl hav hpre hm hE hk hA hst => ?_
     have hS := (Ss.mk hE hst).env2 (e' := [(15, qL M4 0), (19, .agg ⟨[.slice M7 M3.literals_.lengths_.length M9, .slice M8 M3.literals_.codes_.length Na]⟩), (22, .int .i64 (wr .i64 (rd M5 M6).Lit_))]) ⟨rfl, rfl, rfl, trivial⟩
     refine qR rfl <| qI hS rfl Tryd.call39 (yr hG K (qp.mk (qS.mk (qr.mk No) Nb) M3.literals_ M3.distances_) M3.literals_ (wr .i64 (rd M5 M6).Lit_) M4 Ny NA NC Nx M7 M9 Nh M8 Na Ni Nc Nf Nj Nd Ng Nk Nv NJ NE NF NG NH (hS.st.part 6 [1, 2, 3, 4, 5, 6, 0] (by kernel_rfl)) (qt hM) (fun N4 Pr Pw NP Pa Pb w hM PA PB hst => qB hS.ev hst.appF rfl fun hS => ?_))
     replace hS : Ss _ _ _ H [Pb, Pa, Nh, Ni, Nj, Nk, NI] F _ _ := hS
     refine qA ?_
     replace hst := hS.st
     obtain ⟨hcl, hmust, hav2, hA⟩ := dn (vals' := [some (qL M4 0), some (qL M4 0), some (qL M4 0), some (qL M4 2), some (.agg ⟨[.slice M7 M3.literals_.lengths_.length M9, .slice M8 M3.literals_.codes_.length Na]⟩), some (qL Np 0), some (.int .u8 ((rd M5 M6).Lit_)), some (.int .i64 (wr .i64 (rd M5 M6).Lit_)), some (.tuple ⟨[]⟩)]) 8 [(0, 8), (4, 8), (7, 8), (3, 4), (6, 7), (2, 3), (5, 6), (1, 2)] hA hcl hav hm hpre hk rfl rfl rfl rfl rfl rfl rfl
     clear hm hav
     refine yk hA hst ho hcl hmust [] rfl rfl rfl trivial fun a w hS => ?_
     replace hS := hS.env2 (e' := [(0, qL M4 0), (6, .slice Nz M5.length NB), (7, .int .i64 (M5.length : Int)), (8, .int .i64 M6)]) ⟨rfl, rfl, rfl, rfl, trivial⟩
     refine qe <| wp_exit <| qE (zd (qe ?_))
     refine zM <| sB hS rfl fun hS => sM hS rfl fun hS => zo <| qe ?_
     exact N1 _ _ ⟨N4, Pr, Pw, NP, Pa, Pb, (qg (M6 + (1 : Int))), hS.to [0, 1, 2, 3, 4, 5] (by kernel_rfl) ⟨rfl, rfl, rfl, rfl, trivial⟩, PA, PB, hM⟩
    ·refine wp_skip ?_
     refine qe <| wp_seq <| q9 (vals := [some (qL M4 0), some (qL M4 0), some (qL M4 0), some (qL M4 2), some (.agg ⟨[.slice M7 M3.literals_.lengths_.length M9, .slice M8 M3.literals_.codes_.length Na]⟩), some (qL Np 1), some (.int .i64 ((rd M5 M6).Len_)), none, none]) hS xF rfl ?_
     intro l w ho hcl hA hst
     refine jf hA hst ho hcl xu xG 7 [0, 1, 2, 3, 4, 5, 6] rfl rfl rfl rfl rfl (by exact ⟨nM rfl, nM rfl, nQ rfl (by exact qX (yz rfl) rfl), nQ rfl (by exact qX (xw rfl Tryd.runUnderlying70 rfl Tryd.sizeOf68 rfl) rfl), nQ rfl (by exact qX (uX 1 rfl Nv rfl ([.slice M7 M3.literals_.lengths_.length M9, .slice M8 M3.literals_.codes_.length Na]) rfl rfl Tryd.isAgg68 Tryd.sizeOf68) rfl), nQ rfl (by exact qX (xw rfl Tryd.runUnderlying57 rfl Tryd.sizeOf3 rfl) rfl), nQ rfl (by exact qX (x5 0 rfl ND rfl rfl Tryd.isAgg3) rfl), trivial⟩) fun D l a w ho hcl hav hpre hm hE hk hA hst => ?_
     have hS := (Ss.mk hE hst).env2 (e' := [(30, .int .i64 ((rd M5 M6).Len_))]) ⟨rfl, trivial⟩
     refine qR rfl <| qI hS rfl Tryd.call33 (uB hG K ((rd M5 M6).Len_) (hS.st.part 0 [0, 1, 2, 3, 4, 5, 6] (by kernel_rfl)) (qt hM) (fun Nm Nq Ns w hM  hst => qB hS.ev hst.appF rfl fun hS => ?_))
     replace hS : Ss _ _ _ H [NI, Ny, Nx, Nh, Ni, Nj, Nk] F _ _ := hS
     refine qA ?_
     replace hst := hS.st
     obtain ⟨hcl, hmust, hav2, hA⟩ := dn (vals' := [some (qL M4 0), some (qL M4 0), some (qL M4 0), some (qL M4 2), some (.agg ⟨[.slice M7 M3.literals_.lengths_.length M9, .slice M8 M3.literals_.codes_.length Na]⟩), some (qL Np 1), some (.int .i64 ((rd M5 M6).Len_)), some (.agg ⟨[.int .i64 Nm, .int .i64 Nq, .int .u32 Ns]⟩), none]) 7 [(6, 7), (5, 6)] hA hcl hav hm hpre hk rfl rfl rfl rfl rfl rfl rfl
     clear hm hav
     refine jf hA hst ho hcl hav2 hmust 8 [0, 1, 2, 3, 4] rfl rfl rfl rfl rfl (by exact ⟨nM rfl, nM rfl, nQ rfl (by exact qX (yz rfl) rfl), nQ rfl (by exact qX (xw rfl Tryd.runUnderlying70 rfl Tryd.sizeOf68 rfl) rfl), nQ rfl (by exact qX (uX 1 rfl Nv rfl ([.slice M7 M3.literals_.lengths_.length M9, .slice M8 M3.literals_.codes_.length Na]) rfl rfl Tryd.isAgg68 Tryd.sizeOf68) rfl), trivial⟩) fun D l a w ho hcl hav hpre hm hE hk hA hst => ?_
     have hS := (Ss.mk hE hst).env2 (e' := [(24, qL M4 0), (28, .agg ⟨[.slice M7 M3.literals_.lengths_.length M9, .slice M8 M3.literals_.codes_.length Na]⟩), (31, .agg ⟨[.int .i64 Nm, .int .i64 Nq, .int .u32 Ns]⟩)]) ⟨rfl, rfl, rfl, trivial⟩
     refine qR rfl <| qI hS rfl Tryd.call50 (vP hG K (qp.mk (qS.mk (qr.mk No) Nb) M3.literals_ M3.distances_) M3.literals_ (xV.mk Nm Nq Ns) M4 Ny NA NC Nx M7 M9 Nh M8 Na Ni Nc Nf Nj Nd Ng Nk Nv NJ NE NF NG NH (hS.st.part 6 [1, 2, 3, 4, 5, 6, 0] (by kernel_rfl)) (qt hM) (fun N5 Ps Px NQ NX NY w hM PC NZ hst => qB hS.ev hst.appF rfl fun hS => ?_))
     replace hS : Ss _ _ _ H [NY, NX, Nh, Ni, Nj, Nk, NI] F _ _ := hS
     refine qA ?_
     replace hst := hS.st
     obtain ⟨hcl, hmust, hav2, hA⟩ := dn (vals' := [some (qL M4 0), some (qL M4 0), some (qL M4 0), some (qL M4 2), some (.agg ⟨[.slice M7 M3.literals_.lengths_.length M9, .slice M8 M3.literals_.codes_.length Na]⟩), some (qL Np 1), some (.int .i64 ((rd M5 M6).Len_)), some (.agg ⟨[.int .i64 Nm, .int .i64 Nq, .int .u32 Ns]⟩), some (.tuple ⟨[]⟩)]) 8 [(0, 8), (4, 8), (7, 8), (3, 4), (6, 7), (2, 3), (5, 6), (1, 2)] hA hcl hav hm hpre hk rfl rfl rfl rfl rfl rfl rfl
     clear hm hav
     refine yk hA hst ho hcl hmust [] rfl rfl rfl trivial fun a w hS => ?_
     replace hS := hS.env2 (e' := [(0, qL M4 0), (5, qL Np 0), (6, .slice Nz M5.length NB), (7, .int .i64 (M5.length : Int)), (8, .int .i64 M6)]) ⟨rfl, rfl, rfl, rfl, rfl, trivial⟩
     refine qe <| q9 (vals := [some (qL M4 0), some (qL M4 0), some (qL M4 0), some (qL M4 4), some (.agg ⟨[.slice Nc M3.distances_.lengths_.length Nf, .slice Nd M3.distances_.codes_.length Ng]⟩), some (qL Np 2), some (.int .i64 ((rd M5 M6).Dist_)), none, none]) hS xF rfl ?_
     intro l w ho hcl hA hst
     refine jf hA hst ho hcl xu xG 7 [0, 1, 2, 3, 4, 5, 6] rfl rfl rfl rfl rfl (by exact ⟨nM rfl, nM rfl, nQ rfl (by exact qX (yz rfl) rfl), nQ rfl (by exact qX (xw rfl Tryd.runUnderlying70 rfl Tryd.sizeOf68 rfl) rfl), nQ rfl (by exact qX (uX 0 rfl NZ rfl ([.slice Nc M3.distances_.lengths_.length Nf, .slice Nd M3.distances_.codes_.length Ng]) rfl rfl Tryd.isAgg68 Tryd.sizeOf68) rfl), nQ rfl (by exact qX (xw rfl Tryd.runUnderlying57 rfl Tryd.sizeOf3 rfl) rfl), nQ rfl (by exact qX (x5 6 rfl ND rfl rfl Tryd.isAgg3) rfl), trivial⟩) fun D l a w ho hcl hav hpre hm hE hk hA hst => ?_
     have hS := (Ss.mk hE hst).env2 (e' := [(39, .int .i64 ((rd M5 M6).Dist_))]) ⟨rfl, trivial⟩
     refine qR rfl <| qI hS rfl Tryd.call34 (vN hG K ((rd M5 M6).Dist_) (hS.st.part 0 [0, 1, 2, 3, 4, 5, 6] (by kernel_rfl)) (qt hM) (fun Nn Nr Nt w hM  hst => qB hS.ev hst.appF rfl fun hS => ?_))
     replace hS : Ss _ _ _ H [NY, NX, Nh, Ni, Nj, Nk, NI] F _ _ := hS
     refine qA ?_
     replace hst := hS.st
     obtain ⟨hcl, hmust, hav2, hA⟩ := dn (vals' := [some (qL M4 0), some (qL M4 0), some (qL M4 0), some (qL M4 4), some (.agg ⟨[.slice Nc M3.distances_.lengths_.length Nf, .slice Nd M3.distances_.codes_.length Ng]⟩), some (qL Np 2), some (.int .i64 ((rd M5 M6).Dist_)), some (.agg ⟨[.int .i64 Nn, .int .i64 Nr, .int .u32 Nt]⟩), none]) 7 [(6, 7), (5, 6)] hA hcl hav hm hpre hk rfl rfl rfl rfl rfl rfl rfl
     clear hm hav
     refine jf hA hst ho hcl hav2 hmust 8 [0, 1, 2, 3, 4] rfl rfl rfl rfl rfl (by exact ⟨nM rfl, nM rfl, nQ rfl (by exact qX (yz rfl) rfl), nQ rfl (by exact qX (xw rfl Tryd.runUnderlying70 rfl Tryd.sizeOf68 rfl) rfl), nQ rfl (by exact qX (uX 0 rfl NZ rfl ([.slice Nc M3.distances_.lengths_.length Nf, .slice Nd M3.distances_.codes_.length Ng]) rfl rfl Tryd.isAgg68 Tryd.sizeOf68) rfl), trivial⟩) fun D l a w ho hcl hav hpre hm hE hk hA hst => ?_
     have hS := (Ss.mk hE hst).env2 (e' := [(33, qL M4 0), (37, .agg ⟨[.slice Nc M3.distances_.lengths_.length Nf, .slice Nd M3.distances_.codes_.length Ng]⟩), (40, .agg ⟨[.int .i64 Nn, .int .i64 Nr, .int .u32 Nt]⟩)]) ⟨rfl, rfl, rfl, trivial⟩
     refine qR rfl <| qI hS rfl Tryd.call50 (vQ hG K (qp.mk (qS.mk (qr.mk N5) NQ) M3.literals_ M3.distances_) M3.distances_ (xV.mk Nn Nr Nt) M4 NY Ps Px NX M7 M9 Nh M8 Na Ni Nc Nf Nj Nd Ng Nk NZ PC NE NF NG NH (hS.st.part 6 [0, 1, 2, 3, 4, 5, 6] (by kernel_rfl)) (qt hM) (fun N6 Pt Py NR Pc Pd w hM PD PE hst => qB hS.ev hst.appF rfl fun hS => ?_))
     replace hS : Ss _ _ _ H [Pd, Pc, Nh, Ni, Nj, Nk, NI] F _ _ := hS
     refine qA ?_
     replace hst := hS.st
     obtain ⟨hcl, hmust, hav2, hA⟩ := dn (vals' := [some (qL M4 0), some (qL M4 0), some (qL M4 0), some (qL M4 4), some (.agg ⟨[.slice Nc M3.distances_.lengths_.length Nf, .slice Nd M3.distances_.codes_.length Ng]⟩), some (qL Np 2), some (.int .i64 ((rd M5 M6).Dist_)), some (.agg ⟨[.int .i64 Nn, .int .i64 Nr, .int .u32 Nt]⟩), some (.tuple ⟨[]⟩)]) 8 [(0, 8), (4, 8), (7, 8), (3, 4), (6, 7), (2, 3), (5, 6), (1, 2)] hA hcl hav hm hpre hk rfl rfl rfl rfl rfl rfl rfl
     clear hm hav
     refine yk hA hst ho hcl hmust [] rfl rfl rfl trivial fun a w hS => ?_
     replace hS := hS.env2 (e' := [(0, qL M4 0), (6, .slice Nz M5.length NB), (7, .int .i64 (M5.length : Int)), (8, .int .i64 M6)]) ⟨rfl, rfl, rfl, rfl, trivial⟩
     refine zx (qe ?_)
     refine zM <| sB hS rfl fun hS => sM hS rfl fun hS => zo <| qe ?_
     exact N1 _ _ ⟨N6, Pt, Py, NR, Pc, Pd, (qg (M6 + (1 : Int))), hS.to [0, 1, 2, 3, 4, 5] (by kernel_rfl) ⟨rfl, rfl, rfl, rfl, trivial⟩, PD, PE, hM⟩
   ·refine wp_exit ?_
    refine qE (qE (zd (qe ?_)))
    exact Pm _ _ ⟨No, NA, NC, Nb, Nx, Ny, hS.to [0, 1, 2, 3, 4, 5] (by kernel_rfl) ⟨rfl, trivial⟩, NJ, Nv, hM⟩
 ·intro a w hI
  obtain ⟨Nw, NK, NM, Nl, NN, NO, hS, Po, N0, hM⟩ := hI
  rw [zj.j2] at hM
  refine zM <| sM hS rfl fun hS => sM hS rfl fun hS => sO hS (yz rfl) rfl fun hS => sO hS (xw rfl Tryd.runUnderlying70 rfl Tryd.sizeOf68 rfl) rfl fun hS => sO hS (uX 0 rfl N0 rfl ([.slice M7 M3.literals_.lengths_.length M9, .slice M8 M3.literals_.codes_.length Na]) rfl rfl Tryd.isAgg68 Tryd.sizeOf68) rfl fun hS => qI hS rfl Tryd.call39 (yr hG K (qp.mk (qS.mk (qr.mk Nw) Nl) M3.literals_ M3.distances_) M3.literals_ (256 : Int) M4 NO NK NM NN M7 M9 Nh M8 Na Ni Nc Nf Nj Nd Ng Nk N0 Po NE NF NG NH (hS.st.part 6 [0, 1, 2, 3, 4, 5] (by kernel_rfl)) (qt hM) (fun N7 Pv Pz NS Pe Pf w hM PF PG hst => qB hS.ev hst.appF rfl fun hS => ?_))
  replace hS : Ss _ _ _ H [Pf, Pe, Nh, Ni, Nj, Nk] F _ _ := hS
  refine zo ?_
  exact jS (rs := []) hS rfl rfl (hret N7 Pv Pz NS Pe Pf _ (q8 hM) PF PG (hS.st.pick [0, 1, 2, 3, 4, 5] (by kernel_rfl)))
theorem yx {H : xT} {F : List qk} {w : World} {R : Ending → World → Prop} {kr : (List UInt8) → Prop} {kp : Value → Prop} (hG : Gl H) (K : Nat) (M3 : qp) (Ng : Nat) (M4 : qk) (Na : Option Addr) (Nh : Nat) (M5 : qk) (Nb : Option Addr) (Ni : Nat) (M6 : qk) (Nc : Option Addr) (Nj : Nat) (M7 : qk) (Nd : Option Addr) (Nk : Nat) (M8 : qk) (Nf : Option Addr) (Nl : Nat) (M9 : qk) (Nn : xM M4 Ng ([.int .i64 M3.Writer_.place_.at_, .slice Na M3.Writer_.bytes_.length Nh, .slice Nb M3.literals_.lengths_.length Ni, .slice Nc M3.literals_.codes_.length Nj, .slice Nd M3.distances_.lengths_.length Nk, .slice Nf M3.distances_.codes_.length Nl]) 70) (No : xj 5 (ci .u8) 1 Na M3.Writer_.bytes_ Nh M5) (Nq : xj 3 (ci .i64) 1 Nb M3.literals_.lengths_ Ni M6) (Nr : xj 3 (ci .i64) 1 Nc M3.literals_.codes_ Nj M7) (Ns : xj 3 (ci .i64) 1 Nd M3.distances_.lengths_ Nk M8) (Nt : xj 3 (ci .i64) 1 Nf M3.distances_.codes_ Nl M9)
    (hS : St w H [M4, M5, M6, M7, M8, M9] F) (hm : (zX.m K M3).wp kr kp)
    (hret : ∀ (Nm : List UInt8) (w : World), kr Nm → St w H [M4, M5, M6, M7, M8, M9] F → R (.returned (xf Nm)) w) :
    Calls Tryd.prog 32 ⟨[qL Ng 0]⟩ w R := by
 refine enter Tryd.func32 rfl Tryd.ntmps32 rfl hS fun a w hS => ?_
 have hM := hm; clear hm
 rw [zX.m] at hM
 refine qm <| sA hS rfl fun hS => qA <| wp_seq <| qm <| sM hS rfl fun hS => sO hS (XV rfl rfl Tryd.runUnderlying105) rfl fun hS => qA <| XH hS rfl <| wp_skip <| qe <| qm <| sM hS rfl fun hS => sO hS (yz rfl) rfl fun hS => sO hS (xw rfl Tryd.runUnderlying65 rfl Tryd.sizeOf32 rfl) rfl fun hS => sO hS (x5 0 rfl Nn rfl rfl Tryd.isAgg32) rfl fun hS => sO hS (GV rfl Tryd.runUnderlying32 Tryd.runUnderlying5 Tryd.runUnderlying9 (No.rd (i := 1) rfl)) rfl fun hS => zF (v := xf) (x0 := (M3.Writer_.bytes_.map v8)) hS (xA rfl) rfl fun Np a w hz hS => ?_
 have hM := qz hz hM; clear hz
 refine qA <| wp_ret ?_
 exact zE (rs := [2]) hS rfl rfl (hret Np _ (q8 hM) (hS.st.pick [0, 1, 2, 3, 4, 5] (by kernel_rfl)))
theorem Xm {H : xT} {F : List qk} {w : World} {R : Ending → World → Prop} {kr : ((List UInt8) × Int) → Prop} {kp : Value → Prop} (hG : Gl H) (K : Nat) (M7 : List qM) (Nl : Option Addr) (Nm : Nat) (NB : jU H [] F qM.cells Nl M7) (NA : M7.length ≤ Nm)
    (hS : St w H [] F) (hm : (jx.m K M7).wp kr kp)
    (hret : ∀ (NH : List UInt8) (NI : Int) (w : World), kr (NH, NI) → St w H [] F → R (.returned (.tuple ⟨[xf NH, .int .i64 NI]⟩)) w) :
    Calls Tryd.prog 16 ⟨[.slice Nl M7.length Nm]⟩ w R := by
 refine enter Tryd.func16 rfl Tryd.ntmps16 rfl hS fun a w hS => ?_
 have hM := hm; clear hm
 rw [jx.m] at hM
 refine qm <| sA hS rfl fun hS => sA hS rfl fun hS => qA <| wp_seq <| qm <| sM hS rfl fun hS => qI hS rfl Tryd.call28 (Ql hG K M7 Nl Nm (NB.app _) NA (hS.st.part 0 [] (by kernel_rfl)) (qt hM) (fun N4 w hM  hst => qB hS.ev hst.appF rfl fun hS => ?_))
 replace hS : Ss _ _ _ H [] F _ _ := hS
 refine sO hS (un rfl rfl) rfl fun hS => qA <| qF hS rfl hM (fun NN hM => ?_) (fun NN hM => ?_)
 ·refine wp_seq ?_
  refine zM <| sA hS rfl fun hS => sA hS rfl fun hS => qA <| wp_ret <| zk ?_
  exact zE (rs := [2, 3]) hS rfl rfl (hret ([] : List UInt8) (1 : Int) _ (q8 hM) (hS.st.pick [] (by kernel_rfl)))
 ·refine wp_skip ?_
  refine qe <| qm <| sO hS (Xw ([.int .i64 (0 : Int), .slice none 0 0, .slice none 0 0, .slice none 0 0, .slice none 0 0, .slice none 0 0]) [(0, 2), (2, 2), (4, 2)] Tryd.zeroValue70 Tryd.runUnderlying70 (by intro w; simp [Tryd.sizeOf65, Tryd.sizeOf68]) rfl rfl) rfl fun hS => bx ([.int .i64 (0 : Int), .slice none 0 0, .slice none 0 0, .slice none 0 0, .slice none 0 0, .slice none 0 0]) hS rfl rfl rfl fun w Nt NS NJ hS => ?_
  obtain ⟨NE, NM, hS⟩ := hS.nilV 5 (ci .u8) 1
  obtain ⟨Nn, NZ, hS⟩ := hS.nilV 3 (ci .i64) 1
  obtain ⟨No, N0, hS⟩ := hS.nilV 3 (ci .i64) 1
  obtain ⟨Np, N1, hS⟩ := hS.nilV 3 (ci .i64) 1
  obtain ⟨Nq, N2, hS⟩ := hS.nilV 3 (ci .i64) 1
  refine sA hS rfl fun hS => qA <| qm <| sM hS rfl fun hS => sM hS rfl fun hS => qI hS rfl Tryd.call29 (Qm hG K  (hS.st.part 0 [0, 1, 2, 3, 4, 5] (by kernel_rfl)) (qt hM) (fun Nc Nf M3 M8 Nd Ng M5 M9 Nh Nj M4 Na Ni Nk M6 Nb w hM Nw Nx Ny Nz hst => qB hS.ev hst.appF rfl fun hS => ?_))
  replace hS : Ss _ _ _ H [M8, M9, Na, Nb, Nq, Np, No, Nn, NE, NS] F _ _ := hS
  refine sM hS rfl fun hS => sO hS (ex rfl rfl) rfl fun hS => sO hS (ex rfl rfl) rfl fun hS => sO hS (yz rfl) rfl fun hS => sO hS (xw rfl Tryd.runUnderlying70 rfl Tryd.sizeOf68 rfl) rfl fun hS => QX 9 ([.slice Nc M3.length Nf, .slice Nd M5.length Ng]) ([.int .i64 (0 : Int), .slice none ([] : List Int).length (0), .slice Nc M3.length Nf, .slice Nd M5.length Ng, .slice none ([] : List Int).length (0), .slice none ([] : List Int).length (0)]) hS rfl rfl NJ rfl rfl Tryd.sizeOf68 (by simp [Value.oneCell']) (Nat.le_of_ble_eq_true rfl) rfl fun w N3 NK hS => sO hS (yz rfl) rfl fun hS => sO hS (xw rfl Tryd.runUnderlying70 rfl Tryd.sizeOf68 rfl) rfl fun hS => QX 9 ([.slice Nh M4.length Nj, .slice Ni M6.length Nk]) ([.int .i64 (0 : Int), .slice none ([] : List Int).length (0), .slice Nc M3.length Nf, .slice Nd M5.length Ng, .slice Nh M4.length Nj, .slice Ni M6.length Nk]) hS rfl rfl NK rfl rfl Tryd.sizeOf68 (by simp [Value.oneCell']) (Nat.le_of_ble_eq_true rfl) rfl fun w NT NL hS => qA <| qm <| sM hS rfl fun hS => sO hS (yz rfl) rfl fun hS => sO hS (xw rfl Tryd.runUnderlying70 rfl Tryd.sizeOf65 rfl) rfl fun hS => qI hS rfl Tryd.call30 (zm hG K (qp.mk (qS.mk (qr.mk (0 : Int)) ([] : List Int)) (qv.mk M3 M5) (qv.mk M4 M6)) (3 : Int) (3 : Int) Nt NT none (0) NE Nc Nf M8 Nd Ng M9 Nh Nj Na Ni Nk Nb NL NM Nw Nx Ny Nz (hS.st.part 6 [9, 8, 0, 1, 2, 3, 4, 5, 6, 7] (by kernel_rfl)) (qt hM) (fun N5 NC NO NQ Nr NF NG w hM NU NV hst => qB hS.ev hst.appF rfl fun hS => ?_))
  replace hS : Ss _ _ _ H [NG, NF, M8, M9, Na, Nb, Nq, Np, No, Nn] F _ _ := hS
  refine qA <| qm <| sM hS rfl fun hS => sM hS rfl fun hS => qI hS rfl Tryd.call31 (jE hG K (qp.mk (qS.mk (qr.mk NC) Nr) (qv.mk M3 M5) (qv.mk M4 M6)) M7 Nt NG NO NQ NF Nc Nf M8 Nd Ng M9 Nh Nj Na Ni Nk Nb Nl Nm NV NU Nw Nx Ny Nz (NB.app _) NA (hS.st.part 6 [0, 1, 2, 3, 4, 5, 6, 7, 8, 9] (by kernel_rfl)) (qt hM) (fun ND NP NR Ns Nu Nv w hM NW NX hst => qB hS.ev hst.appF rfl fun hS => ?_))
  replace hS : Ss _ _ _ H [Nv, Nu, M8, M9, Na, Nb, Nq, Np, No, Nn] F _ _ := hS
  refine qA <| qm <| sM hS rfl fun hS => sO hS (yz rfl) rfl fun hS => sO hS (xw rfl Tryd.runUnderlying70 rfl Tryd.sizeOf65 rfl) rfl fun hS => qI hS rfl Tryd.call32 (yx hG K (qp.mk (qS.mk (qr.mk ND) Ns) (qv.mk M3 M5) (qv.mk M4 M6)) Nt Nv NP NR Nu Nc Nf M8 Nd Ng M9 Nh Nj Na Ni Nk Nb NX NW Nw Nx Ny Nz (hS.st.part 6 [0, 1, 2, 3, 4, 5, 6, 7, 8, 9] (by kernel_rfl)) (qt hM) (fun NY w hM  hst => qB hS.ev hst.appF rfl fun hS => ?_))
  replace hS : Ss _ _ _ H [Nv, Nu, M8, M9, Na, Nb, Nq, Np, No, Nn] F _ _ := hS
  refine sA hS rfl fun hS => sA hS rfl fun hS => qA <| wp_ret ?_
  exact zE (rs := [2, 3]) hS rfl rfl (hret NY (0 : Int) _ (q8 hM) (hS.st.pick [] (by kernel_rfl)))
theorem ZU {H : xT} {F : List qk} {w : World} {R : Ending → World → Prop} {kr : Bool → Prop} {kp : Value → Prop} (hG : Gl H) (K : Nat) (M3 : Int)
    (hS : St w H [] F) (hm : (jN.m K M3).wp kr kp)
    (hret : ∀ (M4 : Bool) (w : World), kr M4 → St w H [] F → R (.returned (.bool M4)) w) :
    Calls Tryd.prog 54 ⟨[.int .i64 M3]⟩ w R := by
 refine enter Tryd.func54 rfl Tryd.ntmps54 rfl hS fun a w hS => ?_
 have hM := hm; clear hm
 rw [jN.m] at hM
 refine qm <| sA hS rfl fun hS => qA <| qm <| sM hS rfl fun hS => sB hS rfl fun hS => sM hS rfl fun hS => y4 2 false 5 (b := (decide (M3 < (0 : Int)))) (r := (decide (M3 > (1099511627776 : Int)))) hS rfl rfl rfl rfl rfl rfl rfl (fun hb a w hS K hK => ?_) rfl fun a w hS => ?_
 ·refine z2 hS rfl rfl rfl hb (mv rfl) rfl fun a w hS => ?_
  refine z2 hS rfl rfl rfl hb (jv rfl rfl rfl) rfl fun a w hS => ?_
  exact zo (hK _ _ (hS.up 2 rfl rfl))
 refine zF (v := Value.bool) (x0 := ((decide (M3 < (0 : Int))) || (decide (M3 > (1099511627776 : Int))))) hS (xA rfl) rfl fun M5 a w hz hS => ?_
 have hM := qz hz hM; clear hz
 refine qA <| wp_ret ?_
 exact zE (rs := [2]) hS rfl rfl (hret M5 _ (q8 hM) (hS.st.pick [] (by kernel_rfl)))
theorem jC {H : xT} {F : List qk} {w : World} {R : Ending → World → Prop} {kr : Int → Prop} {kp : Value → Prop} (hG : Gl H) (K : Nat) (M3 : List Int) (M5 : Option Addr) (M6 : Nat) (M8 : jU H [] F (ci .i64) M5 M3) (Nf : M3.length ≤ M6)
    (hS : St w H [] F) (hm : (zA.m K M3).wp kr kp)
    (hret : ∀ (Na : Int) (w : World), kr Na → St w H [] F → R (.returned (.int .i64 Na)) w) :
    Calls Tryd.prog 72 ⟨[.slice M5 M3.length M6, jF 54 [] []]⟩ w R := by
 refine enter Tryd.func72 rfl Tryd.ntmps72 rfl hS fun a w hS => ?_
 have hM := hm; clear hm
 rw [zA.m] at hM
 refine qm <| sA hS rfl fun hS => qA <| wp_seq <| qm <| sM hS rfl fun hS => sO hS (yc rfl Tryd.runUnderlying66) rfl fun hS => sM hS rfl fun hS => qA <| xQ <| zv (fun M9 a w => ∃ (M4 : Int), Ss 19 [] [(0, .slice M5 M3.length M6), (1, jF 54 [] []), (7, .int .i64 (M3.length : Int)), (8, .int .i64 M4)] H [] F a w ∧ (zA.l1 K M3 M9 M4).wp kr kp) K ?_ ?_ ?_
 ·exact ⟨(0 : Int), hS.to [] (by kernel_rfl) ⟨rfl, rfl, rfl, rfl, trivial⟩, hM⟩
 ·intro a w hI; obtain ⟨_, _, hM⟩ := hI; exact zu hM
 ·intro M9 a w hI Ng Nb
  obtain ⟨M4, hS, hM⟩ := hI
  rw [zA.l1] at hM
  refine qm <| sB hS rfl fun hS => qA <| wp_seq <| qF hS rfl hM (fun Nc hM => ?_) (fun Nc hM => ?_)
  ·refine wp_skip ?_
   refine qe <| wp_seq <| xQ <| qm <| sM hS rfl fun hS => sA hS rfl fun hS => qA <| qm <| sM hS rfl fun hS => sM hS rfl fun hS => sM hS rfl fun hS => ?_
   obtain ⟨M7, hM⟩ := qK hM
   refine sO hS (yu rfl rfl Tryd.runUnderlying66 Tryd.sizeOf3 M8.wk (fun _ => rfl) rfl M7) rfl fun hS => sO hS (yG rfl M8.wk (fun _ => rfl) M7 rfl Tryd.isAgg3) rfl fun hS => vf hS rfl rfl Tryd.call54 (ZU hG K (rd M3 M4) (hS.st.part 0 [] (by kernel_rfl)) (qt hM) (fun Nh w hM  hst => qB hS.ev hst.appF rfl fun hS => ?_))
   replace hS : Ss _ _ _ H [] F _ _ := hS
   refine qA <| qF hS rfl hM (fun Nd hM => ?_) (fun Nd hM => ?_)
   ·refine wp_seq ?_
    refine zM <| sM hS rfl fun hS => sA hS rfl fun hS => qA <| wp_ret <| x6 (zk (zk (x6 (zk ?_))))
    exact zE (rs := [4]) hS rfl rfl (hret M4 _ (q8 hM) (hS.st.pick [] (by kernel_rfl)))
   ·refine wp_skip ?_
    refine zx (qe ?_)
    refine zM <| sB hS rfl fun hS => sM hS rfl fun hS => zo <| qe ?_
    exact Nb _ _ ⟨(qg (M4 + (1 : Int))), hS.to [] (by kernel_rfl) ⟨rfl, rfl, rfl, rfl, trivial⟩, hM⟩
  ·refine wp_exit ?_
   refine qE (qE (zd (qe ?_)))
   refine qm <| sA hS rfl fun hS => qA <| wp_ret ?_
   exact zE (rs := [4]) hS rfl rfl (hret (-1 : Int) _ (q8 hM) (hS.st.pick [] (by kernel_rfl)))
theorem jr {H : xT} {F : List qk} {w : World} {R : Ending → World → Prop} {kr : Bool → Prop} {kp : Value → Prop} (hG : Gl H) (K : Nat) (M3 : List Int) (M4 : Option Addr) (M5 : Nat) (M8 : jU H [] F (ci .i64) M4 M3) (M7 : M3.length ≤ M5)
    (hS : St w H [] F) (hm : (xC.m K M3).wp kr kp)
    (hret : ∀ (M6 : Bool) (w : World), kr M6 → St w H [] F → R (.returned (.bool M6)) w) :
    Calls Tryd.prog 53 ⟨[.slice M4 M3.length M5, jF 54 [] []]⟩ w R := by
 refine enter Tryd.func53 rfl Tryd.ntmps53 rfl hS fun a w hS => ?_
 have hM := hm; clear hm
 rw [xC.m] at hM
 refine qm <| sA hS rfl fun hS => qA <| qm <| sM hS rfl fun hS => sM hS rfl fun hS => qI hS rfl Tryd.call72 (jC hG K M3 M4 M5 (M8.app _) M7 (hS.st.part 0 [] (by kernel_rfl)) (qt hM) (fun Na w hM  hst => qB hS.ev hst.appF rfl fun hS => ?_))
 replace hS : Ss _ _ _ H [] F _ _ := hS
 refine sB hS rfl fun hS => zF (v := Value.bool) (x0 := (decide (Na ≥ (0 : Int)))) hS (xA rfl) rfl fun M9 a w hz hS => ?_
 have hM := qz hz hM; clear hz
 refine qA <| wp_ret ?_
 exact zE (rs := [4]) hS rfl rfl (hret M9 _ (q8 hM) (hS.st.pick [] (by kernel_rfl)))
def qj (p : qk) (x : qb) (vs : List Value) : Prop :=
  ∃ (A0 : Option Addr) (c0 : Nat), vs = [.int .i64 x.often_, .slice A0 x.symbols_.length c0] ∧ Pl p (ci .i64) A0 x.symbols_ ∧ x.symbols_.length ≤ c0
theorem qj.mono {p p' : qk} (hs : ∀ q ∈ p, q ∈ p') {x : qb} {vs : List Value} (h : qj p x vs) : qj p' x vs := by
  obtain ⟨A0, c0, h0, h1, h2⟩ := h
  exact ⟨A0, c0, h0, h1.mono hs, h2⟩
theorem uz {H : xT} {F : List qk} {w : World} {R : Ending → World → Prop} {kr : Bool → Prop} {kp : Value → Prop} (hG : Gl H) (K : Nat) (M3 : Int)
    (hS : St w H [] F) (hm : (jh.m K M3).wp kr kp)
    (hret : ∀ (M4 : Bool) (w : World), kr M4 → St w H [] F → R (.returned (.bool M4)) w) :
    Calls Tryd.prog 74 ⟨[.int .i64 M3]⟩ w R := by
 refine enter Tryd.func74 rfl Tryd.ntmps74 rfl hS fun a w hS => ?_
 have hM := hm; clear hm
 rw [jh.m] at hM
 refine qm <| sA hS rfl fun hS => qA <| qm <| sM hS rfl fun hS => sM hS rfl fun hS => sB hS rfl fun hS => zF (v := Value.bool) (x0 := (M3 != M3)) hS (xA rfl) rfl fun M5 a w hz hS => ?_
 have hM := qz hz hM; clear hz
 refine qA <| wp_ret ?_
 exact zE (rs := [2]) hS rfl rfl (hret M5 _ (q8 hM) (hS.st.pick [] (by kernel_rfl)))
theorem vM {H : xT} {F : List qk} {w : World} {R : Ending → World → Prop} {kr : Int → Prop} {kp : Value → Prop} (hG : Gl H) (K : Nat) (M3 : Int) (M4 : Int)
    (hS : St w H [] F) (hm : (yO.m K M3 M4).wp kr kp)
    (hret : ∀ (M5 : Int) (w : World), kr M5 → St w H [] F → R (.returned (.int .i64 M5)) w) :
    Calls Tryd.prog 57 ⟨[.int .i64 M3, .int .i64 M4]⟩ w R := by
 refine enter Tryd.func57 rfl Tryd.ntmps57 rfl hS fun a w hS => ?_
 have hM := hm; clear hm
 rw [yO.m] at hM
 refine qm <| sA hS rfl fun hS => qA <| qm <| sM hS rfl fun hS => qI hS rfl Tryd.call74 (uz hG K M3 (hS.st.part 0 [] (by kernel_rfl)) (qt hM) (fun Nb w hM  hst => qB hS.ev hst.appF rfl fun hS => ?_))
 replace hS : Ss _ _ _ H [] F _ _ := hS
 refine sA hS rfl fun hS => qA <| qm <| sM hS rfl fun hS => qI hS rfl Tryd.call74 (uz hG K M4 (hS.st.part 0 [] (by kernel_rfl)) (qt hM) (fun Nc w hM  hst => qB hS.ev hst.appF rfl fun hS => ?_))
 replace hS : Ss _ _ _ H [] F _ _ := hS
 refine sA hS rfl fun hS => qA <| wp_seq <| qm <| sM hS rfl fun hS => qA <| qF hS rfl hM (fun M6 hM => ?_) (fun M6 hM => ?_)
 ·refine wp_seq ?_
  refine qm <| sM hS rfl fun hS => qA <| qF hS rfl hM (fun M7 hM => ?_) (fun M7 hM => ?_)
  ·refine wp_seq ?_
   refine zM <| sA hS rfl fun hS => qA <| wp_ret <| zk (zk ?_)
   exact zE (rs := [4]) hS rfl rfl (hret (0 : Int) _ (q8 hM) (hS.st.pick [] (by kernel_rfl)))
  ·refine wp_skip ?_
   refine qe <| qm <| sA hS rfl fun hS => qA <| wp_ret <| zk ?_
   exact zE (rs := [4]) hS rfl rfl (hret (-1 : Int) _ (q8 hM) (hS.st.pick [] (by kernel_rfl)))
 ·refine wp_skip ?_
  refine qe <| wp_seq <| qm <| sM hS rfl fun hS => qA <| qF hS rfl hM (fun M8 hM => ?_) (fun M8 hM => ?_)
  ·refine wp_seq ?_
   refine zM <| sA hS rfl fun hS => qA <| wp_ret <| zk ?_
   exact zE (rs := [4]) hS rfl rfl (hret (1 : Int) _ (q8 hM) (hS.st.pick [] (by kernel_rfl)))
  ·refine wp_skip ?_
   refine qe <| wp_seq <| qm <| sM hS rfl fun hS => sM hS rfl fun hS => sB hS rfl fun hS => qA <| qF hS rfl hM (fun M9 hM => ?_) (fun M9 hM => ?_)
   ·refine wp_seq ?_
    refine zM <| sA hS rfl fun hS => qA <| wp_ret <| zk ?_
    exact zE (rs := [4]) hS rfl rfl (hret (-1 : Int) _ (q8 hM) (hS.st.pick [] (by kernel_rfl)))
   ·refine wp_skip ?_
    refine qe <| wp_seq <| qm <| sM hS rfl fun hS => sM hS rfl fun hS => sB hS rfl fun hS => qA <| qF hS rfl hM (fun Na hM => ?_) (fun Na hM => ?_)
    ·refine wp_seq ?_
     refine zM <| sA hS rfl fun hS => qA <| wp_ret <| zk ?_
     exact zE (rs := [4]) hS rfl rfl (hret (1 : Int) _ (q8 hM) (hS.st.pick [] (by kernel_rfl)))
    ·refine wp_skip ?_
     refine qe <| qm <| sA hS rfl fun hS => qA <| wp_ret ?_
     exact zE (rs := [4]) hS rfl rfl (hret (0 : Int) _ (q8 hM) (hS.st.pick [] (by kernel_rfl)))
theorem ZV {H : xT} {F : List qk} {w : World} {R : Ending → World → Prop} {kr : Int → Prop} {kp : Value → Prop} (hG : Gl H) (K : Nat) (M3 : qb) (M4 : qb) (M5 : Option Addr) (M7 : Nat) (M6 : Option Addr) (M8 : Nat) (Ni : jU H [] F (ci .i64) M5 M3.symbols_) (Ng : M3.symbols_.length ≤ M7) (Nj : jU H [] F (ci .i64) M6 M4.symbols_) (Nh : M4.symbols_.length ≤ M8)
    (hS : St w H [] F) (hm : (xR.m K M3 M4).wp kr kp)
    (hret : ∀ (M9 : Int) (w : World), kr M9 → St w H [] F → R (.returned (.int .i64 M9)) w) :
    Calls Tryd.prog 56 ⟨[.agg ⟨[.int .i64 M3.often_, .slice M5 M3.symbols_.length M7]⟩, .agg ⟨[.int .i64 M4.often_, .slice M6 M4.symbols_.length M8]⟩]⟩ w R := by
 refine enter Tryd.func56 rfl Tryd.ntmps56 rfl hS fun a w hS => ?_
 have hM := hm; clear hm
 rw [xR.m] at hM
 refine qm <| bx ([.int .i64 M3.often_, .slice M5 M3.symbols_.length M7]) hS rfl rfl rfl fun w Nk Nc Na hS => bx ([.int .i64 M4.often_, .slice M6 M4.symbols_.length M8]) hS rfl rfl rfl fun w Nl Nd Nb hS => sA hS rfl fun hS => qA <| qm <| sO hS (xw rfl Tryd.runUnderlying112 rfl Tryd.sizeOf3 rfl) rfl fun hS => sO hS (x5 1 rfl Na rfl rfl Tryd.isAgg3) rfl fun hS => sO hS (xw rfl Tryd.runUnderlying112 rfl Tryd.sizeOf3 rfl) rfl fun hS => sO hS (x5 0 rfl Nb rfl rfl Tryd.isAgg3) rfl fun hS => qI hS rfl Tryd.call57 (vM hG K M3.often_ M4.often_ (hS.st.part 0 [0, 1] (by kernel_rfl)) (qt hM) (fun Nf w hM  hst => qB hS.ev hst.appF rfl fun hS => ?_))
 replace hS : Ss _ _ _ H [Nd, Nc] F _ _ := hS
 refine sA hS rfl fun hS => qA <| wp_ret ?_
 exact zE (rs := [4]) hS rfl rfl (hret Nf _ (q8 hM) (hS.st.pick [] (by kernel_rfl)))
theorem Xs {H : xT} {F : List qk} {w : World} {R : Ending → World → Prop} {kr : Int → Prop} {kp : Value → Prop} (hG : Gl H) (K : Nat) (M3 : qb) (M4 : qb) (M5 : Option Addr) (M7 : Nat) (M6 : Option Addr) (M8 : Nat) (Ni : jU H [] F (ci .i64) M5 M3.symbols_) (Ng : M3.symbols_.length ≤ M7) (Nj : jU H [] F (ci .i64) M6 M4.symbols_) (Nh : M4.symbols_.length ≤ M8)
    (hS : St w H [] F) (hm : (xR.m K M3 M4).wp kr kp)
    (hret : ∀ (M9 : Int) (w : World), kr M9 → St w H [] F → R (.returned (.int .i64 M9)) w) :
    Calls Tryd.prog 76 ⟨[.agg ⟨[.int .i64 M3.often_, .slice M5 M3.symbols_.length M7]⟩, .agg ⟨[.int .i64 M4.often_, .slice M6 M4.symbols_.length M8]⟩]⟩ w R := by
 refine enter Tryd.func76 rfl Tryd.ntmps76 rfl hS fun a w hS => ?_
 have hM := hm; clear hm
 rw [xR.m] at hM
 refine qm <| bx ([.int .i64 M3.often_, .slice M5 M3.symbols_.length M7]) hS rfl rfl rfl fun w Nk Nc Na hS => bx ([.int .i64 M4.often_, .slice M6 M4.symbols_.length M8]) hS rfl rfl rfl fun w Nl Nd Nb hS => sA hS rfl fun hS => qA <| qm <| sO hS (xw rfl Tryd.runUnderlying112 rfl Tryd.sizeOf3 rfl) rfl fun hS => sO hS (x5 1 rfl Na rfl rfl Tryd.isAgg3) rfl fun hS => sO hS (xw rfl Tryd.runUnderlying112 rfl Tryd.sizeOf3 rfl) rfl fun hS => sO hS (x5 0 rfl Nb rfl rfl Tryd.isAgg3) rfl fun hS => qI hS rfl Tryd.call57 (vM hG K M3.often_ M4.often_ (hS.st.part 0 [0, 1] (by kernel_rfl)) (qt hM) (fun Nf w hM  hst => qB hS.ev hst.appF rfl fun hS => ?_))
 replace hS : Ss _ _ _ H [Nd, Nc] F _ _ := hS
 refine sA hS rfl fun hS => qA <| wp_ret ?_
 exact zE (rs := [4]) hS rfl rfl (hret Nf _ (q8 hM) (hS.st.pick [] (by kernel_rfl)))
theorem Xx (cq : Nat) (hcq : cq = 56 ∨ cq = 76) {H : xT} {F : List qk} {w : World} {R : Ending → World → Prop} {kr : Int → Prop} {kp : Value → Prop} (hG : Gl H) (K : Nat) (M3 : qb) (M4 : qb) (M5 : Option Addr) (M7 : Nat) (M6 : Option Addr) (M8 : Nat) (Nb : jU H [] F (ci .i64) M5 M3.symbols_) (M9 : M3.symbols_.length ≤ M7) (Nc : jU H [] F (ci .i64) M6 M4.symbols_) (Na : M4.symbols_.length ≤ M8)
    (hS : St w H [] F) (hm : (xR.m K M3 M4).wp kr kp)
    (hret : ∀ (Nd : Int) (w : World), kr Nd → St w H [] F → R (.returned (.int .i64 Nd)) w) :
    Calls Tryd.prog cq ⟨[.agg ⟨[.int .i64 M3.often_, .slice M5 M3.symbols_.length M7]⟩, .agg ⟨[.int .i64 M4.often_, .slice M6 M4.symbols_.length M8]⟩]⟩ w R := by
 rcases hcq with rfl | rfl
 · exact ZV hG K M3 M4 M5 M7 M6 M8 Nb M9 Nc Na hS hm hret
 · exact Xs hG K M3 M4 M5 M7 M6 M8 Nb M9 Nc Na hS hm hret
theorem Zg {cq : Nat} (hcq : cq = 56 ∨ cq = 76) (args : Array Value) (w : World) : (callFunc cq args).run Tryd.prog w = .ok (.enter cq args) w := by
 rcases hcq with rfl | rfl
 · exact Tryd.call56 args w
 · exact Tryd.call76 args w
theorem xP (cq : Nat) (hcq : cq = 56 ∨ cq = 76) {H : xT} {F : List qk} {w : World} {R : Ending → World → Prop} {kr : (List qb) → Prop} {kp : Value → Prop} (hG : Gl H) (K : Nat) (Nm : List qb) (M8 : Int) (Na : Int) (Nc : qk) (M5 : Option Addr) (M7 : Nat) (Nf : List (zT 2)) (NF : qk) (N7 : zH (qj Nc) Nm Nf) (NV : xj 112 (zT.v (sz := 2)) 2 M5 Nf M7 NF)
    (hS : St w H [Nc, NF] F) (hm : (qc.m K Nm M8 Na).wp kr kp)
    (hret : ∀ (NA : List (zT 2)) (Nq : (List qb)) (NS : qk) (w : World), kr Nq → (xj 112 (zT.v (sz := 2)) 2 M5 NA M7 NS) → (zH (qj Nc) Nq NA) → (NA.length = Nf.length) → St w H [Nc, NS] F → R (.returned (.tuple ⟨[]⟩)) w) :
    Calls Tryd.prog 85 ⟨[.slice M5 Nf.length M7, .int .i64 M8, .int .i64 Na, jF cq [] []]⟩ w R := by
 refine enter Tryd.func85 rfl Tryd.ntmps85 rfl hS fun a w hS => ?_
 have hM := hm; clear hm
 rw [qc.m] at hM
 have Pm : ∀ q ∈ Nc, q ∈ Nc := fun _ h => h
 have Pc : Nf.length = Nf.length := rfl
 refine qm <| sM hS rfl fun hS => sB hS rfl fun hS => zF (v := Value.int .i64) (x0 := (qg (M8 + (1 : Int)))) hS (xA rfl) rfl fun Pi a w hz hS => ?_
 have hM := qz hz hM; clear hz
 refine qA <| xQ <| zv (fun Ns a w => ∃ (Nh : List (zT 2)) (Ng : (List qb)) (Nr : qk) (Nd : Int), Ss 53 [] [(0, .slice M5 Nh.length M7), (1, .int .i64 M8), (2, .int .i64 Na), (3, jF cq [] []), (8, .int .i64 Nd)] H [Nc, Nr] F a w ∧ (xj 112 (zT.v (sz := 2)) 2 M5 Nh M7 Nr) ∧ (zH (qj Nc) Ng Nh) ∧ (Nh.length = Nf.length) ∧ (qc.l1 K M8 Na Ns Ng Nd).wp kr kp) K ?_ ?_ ?_
 ·exact ⟨Nf, Nm, NF, Pi, hS.to [0, 1] (by kernel_rfl) ⟨rfl, rfl, rfl, rfl, rfl, trivial⟩, NV, N7, Pc, hM⟩
 ·intro a w hI; obtain ⟨_, _, _, _, _, _, _, _, hM⟩ := hI; exact zu hM
 ·intro Ns a w hI Pp NU
  obtain ⟨Nh, Ng, Nr, Nd, hS, NH, NK, NM, hM⟩ := hI
  rw [qc.l1] at hM
  refine wp_seq <| qm <| sM hS rfl fun hS => sM hS rfl fun hS => sB hS rfl fun hS => qA <| qF hS rfl hM (fun NX hM => ?_) (fun NX hM => ?_)
  ·refine wp_skip ?_
   refine qe <| wp_seq <| xQ <| qm <| sM hS rfl fun hS => sA hS rfl fun hS => qA <| xQ <| zv (fun NP a w => ∃ (M6 : List (zT 2)) (M3 : (List qb)) (No : qk) (M4 : Int), Ss 53 [] [(0, .slice M5 M6.length M7), (1, .int .i64 M8), (2, .int .i64 Na), (3, jF cq [] []), (8, .int .i64 Nd), (9, .int .i64 M4)] H [Nc, No] F a w ∧ (xj 112 (zT.v (sz := 2)) 2 M5 M6 M7 No) ∧ (zH (qj Nc) M3 M6) ∧ (M6.length = Nf.length) ∧ (qc.l2 K (qc.l1 K M8 Na Ns) M8 Nd NP M3 M4).wp kr kp) K ?_ ?_ ?_
   ·exact ⟨Nh, Ng, Nr, Nd, hS.to [0, 1] (by kernel_rfl) ⟨rfl, rfl, rfl, rfl, rfl, rfl, trivial⟩, NH, NK, NM, hM⟩
   ·intro a w hI; obtain ⟨_, _, _, _, _, _, _, _, hM⟩ := hI; exact zu hM
   ·intro NP a w hI Po NT
    obtain ⟨M6, M3, No, M4, hS, Nb, M9, NN, hM⟩ := hI
    rw [qc.l2] at hM
    refine wp_seq <| zl (fun a w => ∃ (NR : Bool), Ss 53 [] [(0, .slice M5 M6.length M7), (1, .int .i64 M8), (2, .int .i64 Na), (3, jF cq [] []), (8, .int .i64 Nd), (9, .int .i64 M4), (34, .bool NR)] H [Nc, No] F a w ∧ (qc.j3 K (qc.l1 K M8 Na Ns) (qc.l2 K (qc.l1 K M8 Na Ns) M8 Nd NP) Nd M3 M4 NR).wp kr kp) (fun Pn NG => ?_) ?_
    ·refine Lt (b := (decide (M4 > M8))) hM (fun Nu hM => ?_) (fun Nu hM => ?_)
     ·obtain ⟨Nv, hM⟩ := qK hM
      obtain ⟨NB, ND, N8, N3, NZ⟩ := M9.get Nv
      obtain ⟨Nw, hM⟩ := qK hM
      obtain ⟨NC, NE, N9, N4, N0⟩ := M9.get Nw
      refine q9 (vals := [some (.int .i64 M4), some (.int .i64 M8), some (.bool true), some (.bool true), some (jF cq [] []), some (.slice M5 M6.length M7), some (.int .i64 M4), some (xE M5 (Int.toNat M4 * 2)), some (.agg ⟨[.int .i64 ((rd M3 M4).often_), .slice NB ((rd M3 M4).symbols_).length ND]⟩), some (.slice M5 M6.length M7), some (.int .i64 M4), some (.int .i64 (qg (M4 - (1 : Int)))), some (xE M5 (Int.toNat (qg (M4 - (1 : Int))) * 2)), some (.agg ⟨[.int .i64 ((rd M3 (qg (M4 - (1 : Int)))).often_), .slice NC ((rd M3 (qg (M4 - (1 : Int)))).symbols_).length NE]⟩), none, none, none]) hS xF rfl ?_
      intro l w ho hcl hA hst
      refine jf hA hst ho hcl xu xG 14 [0, 1, 2, 3, 4, 5, 6, 7, 8, 9, 10, 11, 12, 13] rfl rfl rfl rfl rfl (by exact ⟨nM rfl, nM rfl, nQ rfl (by exact qX (jv rfl rfl rfl) (congrArg Value.bool Nu)), nM rfl, nW rfl rfl rfl rfl rfl rfl rfl rfl (by exact qX (mv rfl) rfl), nW rfl rfl rfl rfl rfl rfl rfl rfl (by exact qX (mv rfl) rfl), nW rfl rfl rfl rfl rfl rfl rfl rfl (by exact qX (mv rfl) rfl), nW rfl rfl rfl rfl rfl rfl rfl rfl (by exact qX (yu rfl rfl Tryd.runUnderlying110 Tryd.sizeOf112 (Nb.rd (i := 1) rfl) zT.len rfl (M9.inb Nv)) rfl), nW rfl rfl rfl rfl rfl rfl rfl rfl (by exact qX (qX (uc rfl (Nb.rd (i := 1) rfl) zT.len (M9.inb Nv) Tryd.isAgg112 Tryd.sizeOf112 rfl) (congrArg (fun l => Value.agg ⟨l⟩) N8)) rfl), nW rfl rfl rfl rfl rfl rfl rfl rfl (by exact qX (mv rfl) rfl), nW rfl rfl rfl rfl rfl rfl rfl rfl (by exact qX (mv rfl) rfl), nW rfl rfl rfl rfl rfl rfl rfl rfl (by exact qX (jv rfl rfl rfl) rfl), nW rfl rfl rfl rfl rfl rfl rfl rfl (by exact qX (yu rfl rfl Tryd.runUnderlying110 Tryd.sizeOf112 (Nb.rd (i := 1) rfl) zT.len rfl (M9.inb Nw)) rfl), nW rfl rfl rfl rfl rfl rfl rfl rfl (by exact qX (qX (uc rfl (Nb.rd (i := 1) rfl) zT.len (M9.inb Nw) Tryd.isAgg112 Tryd.sizeOf112 rfl) (congrArg (fun l => Value.agg ⟨l⟩) N9)) rfl), trivial⟩) fun D l a w ho hcl hav hpre hm hE hk hA hst => ?_
      have hS := (Ss.mk hE hst).env2 (e' := [(21, .bool true), (22, jF cq [] []), (26, .agg ⟨[.int .i64 ((rd M3 M4).often_), .slice NB ((rd M3 M4).symbols_).length ND]⟩), (31, .agg ⟨[.int .i64 ((rd M3 (qg (M4 - (1 : Int)))).often_), .slice NC ((rd M3 (qg (M4 - (1 : Int)))).symbols_).length NE]⟩)]) ⟨rfl, rfl, rfl, rfl, trivial⟩
      refine qR rfl <| J3 hS rfl rfl rfl rfl <| vf hS rfl rfl (Zg hcq) (Xx cq hcq hG K (qb.mk ((rd M3 M4).often_) ((rd M3 M4).symbols_)) (qb.mk ((rd M3 (qg (M4 - (1 : Int)))).often_) ((rd M3 (qg (M4 - (1 : Int)))).symbols_)) NB ND NC NE (N3.rdF (i := 0) rfl) NZ (N4.rdF (i := 0) rfl) N0 (hS.st.part 0 [0, 1] (by kernel_rfl)) (qt hM) (fun Nt w hM  hst => qB hS.ev hst.appF rfl fun hS => ?_))
      replace hS : Ss _ _ _ H [Nc, No] F _ _ := hS
      refine qA ?_
      replace hst := hS.st
      obtain ⟨hcl, hmust, hav2, hA⟩ := dn (vals' := [some (.int .i64 M4), some (.int .i64 M8), some (.bool true), some (.bool true), some (jF cq [] []), some (.slice M5 M6.length M7), some (.int .i64 M4), some (xE M5 (Int.toNat M4 * 2)), some (.agg ⟨[.int .i64 ((rd M3 M4).often_), .slice NB ((rd M3 M4).symbols_).length ND]⟩), some (.slice M5 M6.length M7), some (.int .i64 M4), some (.int .i64 (qg (M4 - (1 : Int)))), some (xE M5 (Int.toNat (qg (M4 - (1 : Int))) * 2)), some (.agg ⟨[.int .i64 ((rd M3 (qg (M4 - (1 : Int)))).often_), .slice NC ((rd M3 (qg (M4 - (1 : Int)))).symbols_).length NE]⟩), some (.int .i64 Nt), some (.bool (decide (Nt < (0 : Int)))), some (.bool (decide (Nt < (0 : Int))))]) 14 [(3, 14), (4, 14), (8, 14), (13, 14), (2, 3), (7, 8), (12, 13), (0, 2), (1, 2), (5, 7), (6, 7), (9, 12), (11, 12), (10, 11)] hA hcl hav hm hpre hk rfl rfl rfl rfl rfl rfl rfl
      clear hm hav
      refine yk hA hst ho hcl hmust [15, 16] rfl rfl rfl (by exact ⟨nW rfl rfl rfl rfl rfl rfl rfl rfl (by exact qX (jv rfl rfl rfl) rfl), nQ rfl (by exact qX (pk rfl rfl rfl) rfl), trivial⟩) fun a w hS => ?_
      replace hS := hS.env2 (e' := [(0, .slice M5 M6.length M7), (1, .int .i64 M8), (2, .int .i64 Na), (3, jF cq [] []), (8, .int .i64 Nd), (9, .int .i64 M4), (34, .bool (decide (Nt < (0 : Int))))]) ⟨rfl, rfl, rfl, rfl, rfl, rfl, rfl, trivial⟩
      refine qe ?_
      exact NG _ _ ⟨(decide (Nt < (0 : Int))), hS.to [0, 1] (by kernel_rfl) ⟨rfl, rfl, rfl, rfl, rfl, rfl, rfl, trivial⟩, hM⟩
     ·refine q9 (vals := [some (.int .i64 M4), some (.int .i64 M8), some (.bool false), some (.bool false), some (undef), some (undef), some (undef), some (undef), some (undef), some (undef), some (undef), some (undef), some (undef), some (undef), some (undef), some (undef), some (.bool false)]) hS xF rfl ?_
      intro l w ho hcl hA hst
      refine yk hA hst ho hcl xG [0, 1, 2, 3, 4, 5, 6, 7, 8, 9, 10, 11, 12, 13, 14, 15, 16] rfl rfl rfl (by exact ⟨nM rfl, nM rfl, nQ rfl (by exact qX (jv rfl rfl rfl) (congrArg Value.bool Nu)), nM rfl, nS rfl rfl rfl rfl rfl rfl rfl rfl rfl, nS rfl rfl rfl rfl rfl rfl rfl rfl rfl, nS rfl rfl rfl rfl rfl rfl rfl rfl rfl, nS rfl rfl rfl rfl rfl rfl rfl rfl rfl, nS rfl rfl rfl rfl rfl rfl rfl rfl rfl, nS rfl rfl rfl rfl rfl rfl rfl rfl rfl, nS rfl rfl rfl rfl rfl rfl rfl rfl rfl, nS rfl rfl rfl rfl rfl rfl rfl rfl rfl, nS rfl rfl rfl rfl rfl rfl rfl rfl rfl, nS rfl rfl rfl rfl rfl rfl rfl rfl rfl, nS rfl rfl rfl rfl rfl rfl rfl rfl rfl, nS rfl rfl rfl rfl rfl rfl rfl rfl rfl, nQ rfl (by exact qX (pk rfl rfl rfl) rfl), trivial⟩) fun a w hS => ?_
      replace hS := hS.env2 (e' := [(0, .slice M5 M6.length M7), (1, .int .i64 M8), (2, .int .i64 Na), (3, jF cq [] []), (8, .int .i64 Nd), (9, .int .i64 M4), (34, .bool false)]) ⟨rfl, rfl, rfl, rfl, rfl, rfl, rfl, trivial⟩
      refine qe ?_
      exact NG _ _ ⟨false, hS.to [0, 1] (by kernel_rfl) ⟨rfl, rfl, rfl, rfl, rfl, rfl, rfl, trivial⟩, hM⟩
    ·intro a w hI
     obtain ⟨NR, hS, hM⟩ := hI
     rw [qc.j3] at hM
     refine qF hS rfl hM (fun NY hM => ?_) (fun NY hM => ?_)
     ·refine wp_skip ?_
      refine qe <| wp_seq <| xQ ?_
      obtain ⟨Nx, hM⟩ := qK hM
      obtain ⟨Ni, Nk, Pa, N5, N1⟩ := M9.get Nx
      obtain ⟨Nn, hM⟩ := qK hM
      obtain ⟨Nj, Nl, Pb, N6, N2⟩ := M9.get Nn
      refine q9 (vals := [some (.slice M5 M6.length M7), some (.int .i64 M4), some (.slice M5 M6.length M7), some (.int .i64 M4), some (.int .i64 (qg (M4 - (1 : Int)))), some (.slice M5 M6.length M7), some (.int .i64 M4), some (.int .i64 (qg (M4 - (1 : Int)))), some (xE M5 (Int.toNat (qg (M4 - (1 : Int))) * 2)), some (.agg ⟨[.int .i64 ((rd M3 (qg (M4 - (1 : Int)))).often_), .slice Ni ((rd M3 (qg (M4 - (1 : Int)))).symbols_).length Nk]⟩), some (.slice M5 M6.length M7), some (.int .i64 M4), some (xE M5 (Int.toNat M4 * 2)), some (.agg ⟨[.int .i64 ((rd M3 M4).often_), .slice Nj ((rd M3 M4).symbols_).length Nl]⟩), some (xE M5 (Int.toNat M4 * 2)), none, none, none]) hS xF rfl ?_
      intro l w ho hcl hA hst
      refine jf hA hst ho hcl xu xG 15 [0, 1, 2, 3, 4, 5, 6, 7, 8, 9, 10, 11, 12, 13, 14] rfl rfl rfl rfl rfl (by exact ⟨nM rfl, nM rfl, nM rfl, nM rfl, nB rfl, nM rfl, nM rfl, nB rfl, nQ rfl (by exact qX (yu rfl rfl Tryd.runUnderlying110 Tryd.sizeOf112 (Nb.rd (i := 1) rfl) zT.len rfl (M9.inb Nx)) rfl), nQ rfl (by exact qX (qX (uc rfl (Nb.rd (i := 1) rfl) zT.len (M9.inb Nx) Tryd.isAgg112 Tryd.sizeOf112 rfl) (congrArg (fun l => Value.agg ⟨l⟩) Pa)) rfl), nM rfl, nM rfl, nQ rfl (by exact qX (yu rfl rfl Tryd.runUnderlying110 Tryd.sizeOf112 (Nb.rd (i := 1) rfl) zT.len rfl (M9.inb Nn)) rfl), nQ rfl (by exact qX (qX (uc rfl (Nb.rd (i := 1) rfl) zT.len (M9.inb Nn) Tryd.isAgg112 Tryd.sizeOf112 rfl) (congrArg (fun l => Value.agg ⟨l⟩) Pb)) rfl), nQ rfl (by exact qX (yu rfl rfl Tryd.runUnderlying110 Tryd.sizeOf112 (Nb.rd (i := 1) rfl) zT.len rfl (M9.inb Nn)) rfl), trivial⟩) fun D l a w ho hcl hav hpre hm hE hk hA hst => ?_
      have hS := (Ss.mk hE hst).env2 (e' := [(46, .agg ⟨[.int .i64 ((rd M3 (qg (M4 - (1 : Int)))).often_), .slice Ni ((rd M3 (qg (M4 - (1 : Int)))).symbols_).length Nk]⟩), (51, xE M5 (Int.toNat M4 * 2))]) ⟨rfl, rfl, trivial⟩
      refine qR rfl <| V3 (i := M4) (sz := 2) 1 (⟨[.int .i64 ((rd M3 (qg (M4 - (1 : Int)))).often_), .slice Ni ((rd M3 (qg (M4 - (1 : Int)))).symbols_).length Nk], by simp, by simp [Value.oneCell']⟩ : zT 2) hS rfl rfl Nb rfl Tryd.sizeOf112 rfl (M9.inb Nn) fun NQ w Pq hz NI hS => ?_
      obtain ⟨Pf, hzm⟩ := um (M3.set (Int.toNat M4) (qb.mk ((rd M3 (qg (M4 - (1 : Int)))).often_) ((rd M3 (qg (M4 - (1 : Int)))).symbols_)))
      replace hM := qz hzm hM
      have Np := zH.set (x := (qb.mk ((rd M3 (qg (M4 - (1 : Int)))).often_) ((rd M3 (qg (M4 - (1 : Int)))).symbols_))) (r := (⟨[.int .i64 ((rd M3 (qg (M4 - (1 : Int)))).often_), .slice Ni ((rd M3 (qg (M4 - (1 : Int)))).symbols_).length Nk], by simp, by simp [Value.oneCell']⟩ : zT 2)) (Int.toNat M4) M9 (show qj Nc _ _ from ⟨Ni, Nk, rfl, N5, N1⟩)
      have Ny : NQ.length = M6.length := by rw [hz]; exact List.length_set ..
      rw [← hz, ← hzm] at Np; clear hz hzm
      have Pd := Eq.trans Ny NN
      refine qA ?_
      replace hst := hS.st
      obtain ⟨NJ, hM⟩ := qK hM
      obtain ⟨hcl, hmust, hav2, hA⟩ := Xy (vals' := [some (.slice M5 M6.length M7), some (.int .i64 M4), some (.slice M5 M6.length M7), some (.int .i64 M4), some (.int .i64 (qg (M4 - (1 : Int)))), some (.slice M5 M6.length M7), some (.int .i64 M4), some (.int .i64 (qg (M4 - (1 : Int)))), some (xE M5 (Int.toNat (qg (M4 - (1 : Int))) * 2)), some (.agg ⟨[.int .i64 ((rd M3 (qg (M4 - (1 : Int)))).often_), .slice Ni ((rd M3 (qg (M4 - (1 : Int)))).symbols_).length Nk]⟩), some (.slice M5 M6.length M7), some (.int .i64 M4), some (xE M5 (Int.toNat M4 * 2)), some (.agg ⟨[.int .i64 ((rd M3 M4).often_), .slice Nj ((rd M3 M4).symbols_).length Nl]⟩), some (xE M5 (Int.toNat M4 * 2)), some undef, some (xE M5 (Int.toNat (qg (M4 - (1 : Int))) * 2)), none]) 15 [(0, 15), (1, 15), (5, 15), (6, 15), (7, 15), (8, 15), (9, 15), (13, 15), (14, 15), (12, 13), (10, 12), (11, 12)] hA hcl hav hm hpre rfl rfl rfl rfl rfl
      clear hm hav
      refine jf hA hst ho hcl hav2 hmust 17 [2, 3, 4, 16] rfl rfl rfl rfl rfl (by exact ⟨nM rfl, nM rfl, nB rfl, nQ rfl (by exact qX (yu (BO Ny rfl) rfl Tryd.runUnderlying110 Tryd.sizeOf112 (NI.rd (i := 1) rfl) zT.len rfl (Np.inb NJ)) rfl), trivial⟩) fun D l a w ho hcl hav hpre hm hE hk hA hst => ?_
      have hS := (Ss.mk hE hst).env2 (e' := [(50, .agg ⟨[.int .i64 ((rd M3 M4).often_), .slice Nj ((rd M3 M4).symbols_).length Nl]⟩), (52, xE M5 (Int.toNat (qg (M4 - (1 : Int))) * 2))]) ⟨rfl, rfl, trivial⟩
      refine qR rfl <| V3 (i := (qg (M4 - (1 : Int)))) (sz := 2) 1 (⟨[.int .i64 ((rd M3 M4).often_), .slice Nj ((rd M3 M4).symbols_).length Nl], by simp, by simp [Value.oneCell']⟩ : zT 2) hS rfl rfl NI rfl Tryd.sizeOf112 rfl (Np.inb NJ) fun Nz w Ph hz NW hS => ?_
      obtain ⟨Pg, hzm⟩ := um (Pf.set (Int.toNat (qg (M4 - (1 : Int)))) (qb.mk ((rd M3 M4).often_) ((rd M3 M4).symbols_)))
      replace hM := qz hzm hM
      have NL := zH.set (x := (qb.mk ((rd M3 M4).often_) ((rd M3 M4).symbols_))) (r := (⟨[.int .i64 ((rd M3 M4).often_), .slice Nj ((rd M3 M4).symbols_).length Nl], by simp, by simp [Value.oneCell']⟩ : zT 2)) (Int.toNat (qg (M4 - (1 : Int)))) Np (show qj Nc _ _ from ⟨Nj, Nl, rfl, N6, N2⟩)
      have NO : Nz.length = NQ.length := by rw [hz]; exact List.length_set ..
      rw [← hz, ← hzm] at NL; clear hz hzm
      have Pe := Eq.trans NO Pd
      refine qA ?_
      replace hst := hS.st
      obtain ⟨hcl, hmust, hav2, hA⟩ := Xy (vals' := [some (.slice M5 M6.length M7), some (.int .i64 M4), some (.slice M5 M6.length M7), some (.int .i64 M4), some (.int .i64 (qg (M4 - (1 : Int)))), some (.slice M5 M6.length M7), some (.int .i64 M4), some (.int .i64 (qg (M4 - (1 : Int)))), some (xE M5 (Int.toNat (qg (M4 - (1 : Int))) * 2)), some (.agg ⟨[.int .i64 ((rd M3 (qg (M4 - (1 : Int)))).often_), .slice Ni ((rd M3 (qg (M4 - (1 : Int)))).symbols_).length Nk]⟩), some (.slice M5 M6.length M7), some (.int .i64 M4), some (xE M5 (Int.toNat M4 * 2)), some (.agg ⟨[.int .i64 ((rd M3 M4).often_), .slice Nj ((rd M3 M4).symbols_).length Nl]⟩), some (xE M5 (Int.toNat M4 * 2)), some undef, some (xE M5 (Int.toNat (qg (M4 - (1 : Int))) * 2)), some undef]) 17 [(0, 17), (1, 17), (2, 17), (3, 17), (4, 17), (5, 17), (6, 17), (7, 17), (8, 17), (9, 17), (10, 17), (11, 17), (12, 17), (13, 17), (14, 17), (15, 17), (16, 17)] hA hcl hav hm hpre rfl rfl rfl rfl rfl
      clear hm hav
      refine yk hA hst ho hcl hmust [] rfl rfl rfl trivial fun a w hS => ?_
      replace hS := hS.env2 (e' := [(0, .slice M5 Nz.length M7), (1, .int .i64 M8), (2, .int .i64 Na), (3, jF cq [] []), (8, .int .i64 Nd), (9, .int .i64 M4)]) ⟨(UD (u := .slice M5 M6.length M7) rfl (by rw [NO, Ny])), rfl, rfl, rfl, rfl, rfl, trivial⟩
      refine zx (qe ?_)
      refine zM <| sM hS rfl fun hS => sB hS rfl fun hS => zF (v := Value.int .i64) (x0 := (qg (M4 - (1 : Int)))) hS (xA rfl) rfl fun Pk a w hz hS => ?_
      have hM := qz hz hM; clear hz
      refine zo <| qe ?_
      exact NT _ _ ⟨Nz, Pg, Ph, Pk, hS.to [0, 1] (by kernel_rfl) ⟨rfl, rfl, rfl, rfl, rfl, rfl, trivial⟩, NW, NL, Pe, hM⟩
     ·refine wp_exit ?_
      refine qE (qE (zd (zx (qe ?_))))
      refine zM <| sM hS rfl fun hS => sB hS rfl fun hS => zF (v := Value.int .i64) (x0 := (qg (Nd + (1 : Int)))) hS (xA rfl) rfl fun Pj a w hz hS => ?_
      have hM := qz hz hM; clear hz
      refine zo <| qe ?_
      exact NU _ _ ⟨M6, M3, No, Pj, hS.to [0, 1] (by kernel_rfl) ⟨rfl, rfl, rfl, rfl, rfl, trivial⟩, Nb, M9, NN, hM⟩
  ·refine wp_exit ?_
   refine qE (qE (zd ?_))
   exact jS (rs := []) hS rfl rfl (hret Nh Ng Nr _ (q8 hM) NH NK NM (hS.st.pick [0, 1] (by kernel_rfl)))
theorem xm (cq : Nat) (hcq : cq = 56 ∨ cq = 76) {H : xT} {F : List qk} {w : World} {R : Ending → World → Prop} {kr : (List qb) → Prop} {kp : Value → Prop} (hG : Gl H) (K : Nat) (Nj : List qb) (M5 : Int) (M6 : Int) (Nl : Int) (Nc : qk) (M7 : Option Addr) (M9 : Nat) (Nb : List (zT 2)) (Nt : qk) (NK : zH (qj Nc) Nj Nb) (ND : xj 112 (zT.v (sz := 2)) 2 M7 Nb M9 Nt)
    (hS : St w H [Nc, Nt] F) (hm : (qJ.m K Nj M5 M6 Nl).wp kr kp)
    (hret : ∀ (Nr : List (zT 2)) (Nn : (List qb)) (NA : qk) (w : World), kr Nn → (xj 112 (zT.v (sz := 2)) 2 M7 Nr M9 NA) → (zH (qj Nc) Nn Nr) → (Nr.length = Nb.length) → St w H [Nc, NA] F → R (.returned (.tuple ⟨[]⟩)) w) :
    Calls Tryd.prog 93 ⟨[.slice M7 Nb.length M9, .int .i64 M5, .int .i64 M6, .int .i64 Nl, jF cq [] []]⟩ w R := by
 refine enter Tryd.func93 rfl Tryd.ntmps93 rfl hS fun a w hS => ?_
 have hM := hm; clear hm
 rw [qJ.m] at hM
 have NU : ∀ q ∈ Nc, q ∈ Nc := fun _ h => h
 have NN : Nb.length = Nb.length := rfl
 refine qm <| sA hS rfl fun hS => qA <| xQ <| zv (fun NB a w => ∃ (M8 : List (zT 2)) (M4 : (List qb)) (Ns : qk) (M3 : Int), Ss 38 [] [(0, .slice M7 M8.length M9), (1, .int .i64 M5), (2, .int .i64 M6), (3, .int .i64 Nl), (10, .int .i64 M3)] H [Nc, Ns] F a w ∧ (xj 112 (zT.v (sz := 2)) 2 M7 M8 M9 Ns) ∧ (zH (qj Nc) M4 M8) ∧ (M8.length = Nb.length) ∧ (qJ.l1 K M5 M6 Nl NB M4 M3).wp kr kp) K ?_ ?_ ?_
 ·exact ⟨Nb, Nj, Nt, (0 : Int), hS.to [0, 1] (by kernel_rfl) ⟨rfl, rfl, rfl, rfl, rfl, trivial⟩, ND, NK, NN, hM⟩
 ·intro a w hI; obtain ⟨_, _, _, _, _, _, _, _, hM⟩ := hI; exact zu hM
 ·intro NB a w hI NV NC
  obtain ⟨M8, M4, Ns, M3, hS, Nd, Na, Nx, hM⟩ := hI
  rw [qJ.l1] at hM
  refine wp_seq <| qm <| sM hS rfl fun hS => sM hS rfl fun hS => sB hS rfl fun hS => qA <| qF hS rfl hM (fun NF hM => ?_) (fun NF hM => ?_)
  ·refine wp_skip ?_
   refine qe <| wp_seq <| xQ ?_
   obtain ⟨No, hM⟩ := qK hM
   obtain ⟨Nf, Nh, NL, NI, NG⟩ := Na.get No
   obtain ⟨Nk, hM⟩ := qK hM
   obtain ⟨Ng, Ni, NM, NJ, NH⟩ := Na.get Nk
   refine q9 (vals := [some (.slice M7 M8.length M9), some (.int .i64 M5), some (.int .i64 M3), some (.int .i64 (qg (M5 + M3))), some (.slice M7 M8.length M9), some (.int .i64 M6), some (.int .i64 M3), some (.int .i64 (qg (M6 + M3))), some (.slice M7 M8.length M9), some (.int .i64 M6), some (.int .i64 M3), some (.int .i64 (qg (M6 + M3))), some (xE M7 (Int.toNat (qg (M6 + M3)) * 2)), some (.agg ⟨[.int .i64 ((rd M4 (qg (M6 + M3))).often_), .slice Nf ((rd M4 (qg (M6 + M3))).symbols_).length Nh]⟩), some (.slice M7 M8.length M9), some (.int .i64 M5), some (.int .i64 M3), some (.int .i64 (qg (M5 + M3))), some (xE M7 (Int.toNat (qg (M5 + M3)) * 2)), some (.agg ⟨[.int .i64 ((rd M4 (qg (M5 + M3))).often_), .slice Ng ((rd M4 (qg (M5 + M3))).symbols_).length Ni]⟩), some (xE M7 (Int.toNat (qg (M5 + M3)) * 2)), none, none, none]) hS xF rfl ?_
   intro l w ho hcl hA hst
   refine jf hA hst ho hcl xu xG 21 [0, 1, 2, 3, 4, 5, 6, 7, 8, 9, 10, 11, 12, 13, 14, 15, 16, 17, 18, 19, 20] rfl rfl rfl rfl rfl (by exact ⟨nM rfl, nM rfl, nM rfl, nB rfl, nM rfl, nM rfl, nM rfl, nB rfl, nM rfl, nM rfl, nM rfl, nB rfl, nQ rfl (by exact qX (yu rfl rfl Tryd.runUnderlying110 Tryd.sizeOf112 (Nd.rd (i := 1) rfl) zT.len rfl (Na.inb No)) rfl), nQ rfl (by exact qX (qX (uc rfl (Nd.rd (i := 1) rfl) zT.len (Na.inb No) Tryd.isAgg112 Tryd.sizeOf112 rfl) (congrArg (fun l => Value.agg ⟨l⟩) NL)) rfl), nM rfl, nM rfl, nM rfl, nB rfl, nQ rfl (by exact qX (yu rfl rfl Tryd.runUnderlying110 Tryd.sizeOf112 (Nd.rd (i := 1) rfl) zT.len rfl (Na.inb Nk)) rfl), nQ rfl (by exact qX (qX (uc rfl (Nd.rd (i := 1) rfl) zT.len (Na.inb Nk) Tryd.isAgg112 Tryd.sizeOf112 rfl) (congrArg (fun l => Value.agg ⟨l⟩) NM)) rfl), nQ rfl (by exact qX (yu rfl rfl Tryd.runUnderlying110 Tryd.sizeOf112 (Nd.rd (i := 1) rfl) zT.len rfl (Na.inb Nk)) rfl), trivial⟩) fun D l a w ho hcl hav hpre hm hE hk hA hst => ?_
   have hS := (Ss.mk hE hst).env2 (e' := [(29, .agg ⟨[.int .i64 ((rd M4 (qg (M6 + M3))).often_), .slice Nf ((rd M4 (qg (M6 + M3))).symbols_).length Nh]⟩), (36, xE M7 (Int.toNat (qg (M5 + M3)) * 2))]) ⟨rfl, rfl, trivial⟩
   refine qR rfl <| V3 (i := (qg (M5 + M3))) (sz := 2) 1 (⟨[.int .i64 ((rd M4 (qg (M6 + M3))).often_), .slice Nf ((rd M4 (qg (M6 + M3))).symbols_).length Nh], by simp, by simp [Value.oneCell']⟩ : zT 2) hS rfl rfl Nd rfl Tryd.sizeOf112 rfl (Na.inb Nk) fun Nz w NW hz Nu hS => ?_
   obtain ⟨NQ, hzm⟩ := um (M4.set (Int.toNat (qg (M5 + M3))) (qb.mk ((rd M4 (qg (M6 + M3))).often_) ((rd M4 (qg (M6 + M3))).symbols_)))
   replace hM := qz hzm hM
   have Nm := zH.set (x := (qb.mk ((rd M4 (qg (M6 + M3))).often_) ((rd M4 (qg (M6 + M3))).symbols_))) (r := (⟨[.int .i64 ((rd M4 (qg (M6 + M3))).often_), .slice Nf ((rd M4 (qg (M6 + M3))).symbols_).length Nh], by simp, by simp [Value.oneCell']⟩ : zT 2)) (Int.toNat (qg (M5 + M3))) Na (show qj Nc _ _ from ⟨Nf, Nh, rfl, NI, NG⟩)
   have Np : Nz.length = M8.length := by rw [hz]; exact List.length_set ..
   rw [← hz, ← hzm] at Nm; clear hz hzm
   have NO := Eq.trans Np Nx
   refine qA ?_
   replace hst := hS.st
   obtain ⟨Nv, hM⟩ := qK hM
   obtain ⟨hcl, hmust, hav2, hA⟩ := Xy (vals' := [some (.slice M7 M8.length M9), some (.int .i64 M5), some (.int .i64 M3), some (.int .i64 (qg (M5 + M3))), some (.slice M7 M8.length M9), some (.int .i64 M6), some (.int .i64 M3), some (.int .i64 (qg (M6 + M3))), some (.slice M7 M8.length M9), some (.int .i64 M6), some (.int .i64 M3), some (.int .i64 (qg (M6 + M3))), some (xE M7 (Int.toNat (qg (M6 + M3)) * 2)), some (.agg ⟨[.int .i64 ((rd M4 (qg (M6 + M3))).often_), .slice Nf ((rd M4 (qg (M6 + M3))).symbols_).length Nh]⟩), some (.slice M7 M8.length M9), some (.int .i64 M5), some (.int .i64 M3), some (.int .i64 (qg (M5 + M3))), some (xE M7 (Int.toNat (qg (M5 + M3)) * 2)), some (.agg ⟨[.int .i64 ((rd M4 (qg (M5 + M3))).often_), .slice Ng ((rd M4 (qg (M5 + M3))).symbols_).length Ni]⟩), some (xE M7 (Int.toNat (qg (M5 + M3)) * 2)), some undef, some (xE M7 (Int.toNat (qg (M6 + M3)) * 2)), none]) 21 [(0, 21), (1, 21), (2, 21), (3, 21), (8, 21), (9, 21), (10, 21), (11, 21), (12, 21), (13, 21), (19, 21), (20, 21), (18, 19), (14, 18), (17, 18), (15, 17), (16, 17)] hA hcl hav hm hpre rfl rfl rfl rfl rfl
   clear hm hav
   refine jf hA hst ho hcl hav2 hmust 23 [4, 5, 6, 7, 22] rfl rfl rfl rfl rfl (by exact ⟨nM rfl, nM rfl, nM rfl, nB rfl, nQ rfl (by exact qX (yu (BO Np rfl) rfl Tryd.runUnderlying110 Tryd.sizeOf112 (Nu.rd (i := 1) rfl) zT.len rfl (Nm.inb Nv)) rfl), trivial⟩) fun D l a w ho hcl hav hpre hm hE hk hA hst => ?_
   have hS := (Ss.mk hE hst).env2 (e' := [(35, .agg ⟨[.int .i64 ((rd M4 (qg (M5 + M3))).often_), .slice Ng ((rd M4 (qg (M5 + M3))).symbols_).length Ni]⟩), (37, xE M7 (Int.toNat (qg (M6 + M3)) * 2))]) ⟨rfl, rfl, trivial⟩
   refine qR rfl <| V3 (i := (qg (M6 + M3))) (sz := 2) 1 (⟨[.int .i64 ((rd M4 (qg (M5 + M3))).often_), .slice Ng ((rd M4 (qg (M5 + M3))).symbols_).length Ni], by simp, by simp [Value.oneCell']⟩ : zT 2) hS rfl rfl Nu rfl Tryd.sizeOf112 rfl (Nm.inb Nv) fun Nq w NS hz NE hS => ?_
   obtain ⟨NR, hzm⟩ := um (NQ.set (Int.toNat (qg (M6 + M3))) (qb.mk ((rd M4 (qg (M5 + M3))).often_) ((rd M4 (qg (M5 + M3))).symbols_)))
   replace hM := qz hzm hM
   have Nw := zH.set (x := (qb.mk ((rd M4 (qg (M5 + M3))).often_) ((rd M4 (qg (M5 + M3))).symbols_))) (r := (⟨[.int .i64 ((rd M4 (qg (M5 + M3))).often_), .slice Ng ((rd M4 (qg (M5 + M3))).symbols_).length Ni], by simp, by simp [Value.oneCell']⟩ : zT 2)) (Int.toNat (qg (M6 + M3))) Nm (show qj Nc _ _ from ⟨Ng, Ni, rfl, NJ, NH⟩)
   have Ny : Nq.length = Nz.length := by rw [hz]; exact List.length_set ..
   rw [← hz, ← hzm] at Nw; clear hz hzm
   have NP := Eq.trans Ny NO
   refine qA ?_
   replace hst := hS.st
   obtain ⟨hcl, hmust, hav2, hA⟩ := Xy (vals' := [some (.slice M7 M8.length M9), some (.int .i64 M5), some (.int .i64 M3), some (.int .i64 (qg (M5 + M3))), some (.slice M7 M8.length M9), some (.int .i64 M6), some (.int .i64 M3), some (.int .i64 (qg (M6 + M3))), some (.slice M7 M8.length M9), some (.int .i64 M6), some (.int .i64 M3), some (.int .i64 (qg (M6 + M3))), some (xE M7 (Int.toNat (qg (M6 + M3)) * 2)), some (.agg ⟨[.int .i64 ((rd M4 (qg (M6 + M3))).often_), .slice Nf ((rd M4 (qg (M6 + M3))).symbols_).length Nh]⟩), some (.slice M7 M8.length M9), some (.int .i64 M5), some (.int .i64 M3), some (.int .i64 (qg (M5 + M3))), some (xE M7 (Int.toNat (qg (M5 + M3)) * 2)), some (.agg ⟨[.int .i64 ((rd M4 (qg (M5 + M3))).often_), .slice Ng ((rd M4 (qg (M5 + M3))).symbols_).length Ni]⟩), some (xE M7 (Int.toNat (qg (M5 + M3)) * 2)), some undef, some (xE M7 (Int.toNat (qg (M6 + M3)) * 2)), some undef]) 23 [(0, 23), (1, 23), (2, 23), (3, 23), (4, 23), (5, 23), (6, 23), (7, 23), (8, 23), (9, 23), (10, 23), (11, 23), (12, 23), (13, 23), (14, 23), (15, 23), (16, 23), (17, 23), (18, 23), (19, 23), (20, 23), (21, 23), (22, 23)] hA hcl hav hm hpre rfl rfl rfl rfl rfl
   clear hm hav
   refine yk hA hst ho hcl hmust [] rfl rfl rfl trivial fun a w hS => ?_
   replace hS := hS.env2 (e' := [(0, .slice M7 Nq.length M9), (1, .int .i64 M5), (2, .int .i64 M6), (3, .int .i64 Nl), (10, .int .i64 M3)]) ⟨(UD (u := .slice M7 M8.length M9) rfl (by rw [Ny, Np])), rfl, rfl, rfl, rfl, trivial⟩
   refine zx (qe ?_)
   refine zM <| sM hS rfl fun hS => sB hS rfl fun hS => zF (v := Value.int .i64) (x0 := (qg (M3 + (1 : Int)))) hS (xA rfl) rfl fun NT a w hz hS => ?_
   have hM := qz hz hM; clear hz
   refine zo <| qe ?_
   exact NC _ _ ⟨Nq, NR, NS, NT, hS.to [0, 1] (by kernel_rfl) ⟨rfl, rfl, rfl, rfl, rfl, trivial⟩, NE, Nw, NP, hM⟩
  ·refine wp_exit ?_
   refine qE (qE (zd ?_))
   exact jS (rs := []) hS rfl rfl (hret M8 M4 Ns _ (q8 hM) Nd Na Nx (hS.st.pick [0, 1] (by kernel_rfl)))
theorem yL (cq : Nat) (hcq : cq = 56 ∨ cq = 76) {H : xT} {F : List qk} {w : World} {R : Ending → World → Prop} {kr : (List qb) → Prop} {kp : Value → Prop} (hG : Gl H) (K : Nat) (Nf : List qb) (Nj : Int) (M7 : Int) (Nk : Int) (M6 : qk) (M3 : Option Addr) (M4 : Nat) (M9 : List (zT 2)) (Nw : qk) (NL : zH (qj M6) Nf M9) (NH : xj 112 (zT.v (sz := 2)) 2 M3 M9 M4 Nw)
    (hS : St w H [M6, Nw] F) (hm : (qw.m K Nf Nj M7 Nk).wp kr kp)
    (hret : ∀ (Nr : List (zT 2)) (Nh : (List qb)) (NE : qk) (w : World), kr Nh → (xj 112 (zT.v (sz := 2)) 2 M3 Nr M4 NE) → (zH (qj M6) Nh Nr) → (Nr.length = M9.length) → St w H [M6, NE] F → R (.returned (.tuple ⟨[]⟩)) w) :
    Calls Tryd.prog 92 ⟨[.slice M3 M9.length M4, .int .i64 Nj, .int .i64 M7, .int .i64 Nk, jF cq [] []]⟩ w R := by
 refine enter Tryd.func92 rfl Tryd.ntmps92 rfl hS fun a w hS => ?_
 have hM := hm; clear hm
 rw [qw.m] at hM
 have N2 : ∀ q ∈ M6, q ∈ M6 := fun _ h => h
 have NN : M9.length = M9.length := rfl
 refine qm <| sM hS rfl fun hS => sM hS rfl fun hS => sB hS rfl fun hS => zF (v := Value.int .i64) (x0 := (qg (M7 - Nj))) hS (xA rfl) rfl fun NY a w hz hS => ?_
 have hM := qz hz hM; clear hz
 refine qA <| qm <| sM hS rfl fun hS => sM hS rfl fun hS => sB hS rfl fun hS => zF (v := Value.int .i64) (x0 := (qg (Nk - M7))) hS (xA rfl) rfl fun N0 a w hz hS => ?_
 have hM := qz hz hM; clear hz
 refine qA <| zl (fun a w => ∃ (Nb : List (zT 2)) (Nc : (List qb)) (Ns : qk) (Ni : Int), Ss 58 [] [(0, .slice M3 Nb.length M4), (2, .int .i64 M7), (4, jF cq [] []), (10, .int .i64 Ni)] H [M6, Ns] F a w ∧ (xj 112 (zT.v (sz := 2)) 2 M3 Nb M4 Ns) ∧ (zH (qj M6) Nc Nb) ∧ (Nb.length = M9.length) ∧ (qw.j2 K M7 Nc Ni).wp kr kp) (fun N4 NG => ?_) ?_
 ·refine xQ ?_
  refine zv (fun NF a w => ∃ (M5 : List (zT 2)) (M8 : (List qb)) (Ng : qk) (Na : Int) (Nd : Int), Ss 58 [] [(0, .slice M3 M5.length M4), (2, .int .i64 M7), (4, jF cq [] []), (10, .int .i64 Na), (11, .int .i64 Nd)] H [M6, Ng] F a w ∧ (xj 112 (zT.v (sz := 2)) 2 M3 M5 M4 Ng) ∧ (zH (qj M6) M8 M5) ∧ (M5.length = M9.length) ∧ (qw.l1 K M7 NF M8 Na Nd).wp kr kp) K ?_ ?_ ?_
  ·exact ⟨M9, Nf, Nw, NY, N0, hS.to [0, 1] (by kernel_rfl) ⟨rfl, rfl, rfl, rfl, rfl, trivial⟩, NH, NL, NN, hM⟩
  ·intro a w hI; obtain ⟨_, _, _, _, _, _, _, _, _, hM⟩ := hI; exact zu hM
  ·intro NF a w hI N3 NA
   obtain ⟨M5, M8, Ng, Na, Nd, hS, Nl, Nm, Nn, hM⟩ := hI
   rw [qw.l1] at hM
   refine wp_seq <| qm <| sM hS rfl fun hS => sM hS rfl fun hS => sB hS rfl fun hS => qA <| qF hS rfl hM (fun NJ hM => ?_) (fun NJ hM => ?_)
   ·refine wp_skip ?_
    refine qe <| xQ <| qm <| sM hS rfl fun hS => sM hS rfl fun hS => sB hS rfl fun hS => qA <| qF hS rfl hM (fun NK hM => ?_) (fun NK hM => ?_)
    ·refine wp_seq ?_
     refine zM <| sM hS rfl fun hS => sM hS rfl fun hS => sM hS rfl fun hS => sB hS rfl fun hS => sM hS rfl fun hS => sM hS rfl fun hS => sM hS rfl fun hS => qI hS rfl Tryd.call93 (xm cq hcq hG K M8 (qg (M7 - Na)) M7 Nd M6 M3 M4 M5 Ng Nm Nl (hS.st.part 2 [0, 1] (by kernel_rfl)) (qt hM) (fun No Nt NB w hM NS NT Nx hst => qB hS.ev hst.appF rfl fun hS => ?_))
     replace hS : Ss _ _ _ H [M6, NB] F _ _ := hS
     have NO := Eq.trans Nx Nn
     replace hS := hS.re 0 (u := .slice M3 M5.length M4) (v := .slice M3 No.length M4) rfl (by rw [Nx])
     replace hS := hS.re 24 (u := .slice M3 M5.length M4) (v := .slice M3 No.length M4) rfl (by rw [Nx])
     refine qA <| zM <| sM hS rfl fun hS => sM hS rfl fun hS => sB hS rfl fun hS => zF (v := Value.int .i64) (x0 := (qg (Na - Nd))) hS (xA rfl) rfl fun NZ a w hz hS => ?_
     have hM := qz hz hM; clear hz
     refine zo <| zx (qe ?_)
     exact NA _ _ ⟨No, Nt, NB, NZ, Nd, hS.to [0, 1] (by kernel_rfl) ⟨rfl, rfl, rfl, rfl, rfl, trivial⟩, NS, NT, NO, hM⟩
    ·refine wp_seq ?_
     refine zM <| sM hS rfl fun hS => sM hS rfl fun hS => sM hS rfl fun hS => sB hS rfl fun hS => sM hS rfl fun hS => sM hS rfl fun hS => sB hS rfl fun hS => sM hS rfl fun hS => sB hS rfl fun hS => sM hS rfl fun hS => sM hS rfl fun hS => qI hS rfl Tryd.call93 (xm cq hcq hG K M8 (qg (M7 - Na)) (qg ((qg (M7 + Nd)) - Na)) Na M6 M3 M4 M5 Ng Nm Nl (hS.st.part 2 [0, 1] (by kernel_rfl)) (qt hM) (fun Np Nu NC w hM NU NV Ny hst => qB hS.ev hst.appF rfl fun hS => ?_))
     replace hS : Ss _ _ _ H [M6, NC] F _ _ := hS
     have NP := Eq.trans Ny Nn
     replace hS := hS.re 0 (u := .slice M3 M5.length M4) (v := .slice M3 Np.length M4) rfl (by rw [Ny])
     replace hS := hS.re 35 (u := .slice M3 M5.length M4) (v := .slice M3 Np.length M4) rfl (by rw [Ny])
     refine qA <| zM <| sM hS rfl fun hS => sM hS rfl fun hS => sB hS rfl fun hS => zF (v := Value.int .i64) (x0 := (qg (Nd - Na))) hS (xA rfl) rfl fun N1 a w hz hS => ?_
     have hM := qz hz hM; clear hz
     refine zo <| zx (qe ?_)
     exact NA _ _ ⟨Np, Nu, NC, Na, N1, hS.to [0, 1] (by kernel_rfl) ⟨rfl, rfl, rfl, rfl, rfl, trivial⟩, NU, NV, NP, hM⟩
   ·refine wp_exit ?_
    refine qE (qE (zd (qe ?_)))
    exact NG _ _ ⟨M5, M8, Ng, Na, hS.to [0, 1] (by kernel_rfl) ⟨rfl, rfl, rfl, rfl, trivial⟩, Nl, Nm, Nn, hM⟩
 ·intro a w hI
  obtain ⟨Nb, Nc, Ns, Ni, hS, NI, NM, NQ, hM⟩ := hI
  rw [qw.j2] at hM
  refine zM <| sM hS rfl fun hS => sM hS rfl fun hS => sM hS rfl fun hS => sB hS rfl fun hS => sM hS rfl fun hS => sM hS rfl fun hS => sM hS rfl fun hS => qI hS rfl Tryd.call93 (xm cq hcq hG K Nc (qg (M7 - Ni)) M7 Ni M6 M3 M4 Nb Ns NM NI (hS.st.part 2 [0, 1] (by kernel_rfl)) (qt hM) (fun Nq Nv ND w hM NW NX Nz hst => qB hS.ev hst.appF rfl fun hS => ?_))
  replace hS : Ss _ _ _ H [M6, ND] F _ _ := hS
  have NR := Eq.trans Nz NQ
  replace hS := hS.re 0 (u := .slice M3 Nb.length M4) (v := .slice M3 Nq.length M4) rfl (by rw [Nz])
  replace hS := hS.re 50 (u := .slice M3 Nb.length M4) (v := .slice M3 Nq.length M4) rfl (by rw [Nz])
  refine zo ?_
  exact jS (rs := []) hS rfl rfl (hret Nq Nv ND _ (q8 hM) NW NX NR (hS.st.pick [0, 1] (by kernel_rfl)))
theorem yD (cq : Nat) (hcq : cq = 56 ∨ cq = 76) (K : Nat) : ∀ (d : Nat) {H : xT} {F : List qk} {w : World} {R : Ending → World → Prop} {kr : (List qb) → Prop} {kp : Value → Prop} (hG : Gl H) (M3 : List qb) (Nb : Int) (Nc : Int) (Ng : Int) (Nf : qk) (M4 : Option Addr) (M7 : Nat) (Na : List (zT 2)) (Nn : qk) (Nh : zH (qj Nf) M3 Na) (Nm : xj 112 (zT.v (sz := 2)) 2 M4 Na M7 Nn)
    (hS : St w H [Nf, Nn] F) (hm : (qa.r K d M3 Nb Nc Ng).wp kr kp)
    (hret : ∀ (Pf : List (zT 2)) (NX : (List qb)) (Sc : qk) (w : World), kr NX → (xj 112 (zT.v (sz := 2)) 2 M4 Pf M7 Sc) → (zH (qj Nf) NX Pf) → (Pf.length = Na.length) → St w H [Nf, Sc] F → R (.returned (.tuple ⟨[]⟩)) w),
    Calls Tryd.prog 86 ⟨[.slice M4 Na.length M7, .int .i64 Nb, .int .i64 Nc, .int .i64 Ng, jF cq [] []]⟩ w R := by
  intro d
  induction d with
  | zero => intro H F w R kr kp hG M3 Nb Nc Ng Nf M4 M7 Na Nn Nh Nm hS hm hret; exact (zu hm).elim
  | succ d ih =>
  intro H F w R kr kp hG M3 Nb Nc Ng Nf M4 M7 Na Nn Nh Nm hS hm hret
  have hM := hm; clear hm
  rw [qa.r] at hM; rw [qa.b] at hM
  refine enter Tryd.func86 rfl Tryd.ntmps86 rfl hS fun a w hS => ?_
  have TC : ∀ q ∈ Nf, q ∈ Nf := fun _ h => h
  have NW : Na.length = Na.length := rfl
  refine zl (fun a w => Ss 220 [] [(0, .slice M4 Na.length M7), (1, .int .i64 Nb), (2, .int .i64 Nc), (3, .int .i64 Ng), (4, jF cq [] [])] H [Nf, Nn] F a w ∧ (qa.j4 K (qa.r K d) M3 Nb Nc Ng).wp kr kp) (fun TG Sk => ?_) ?_
  ·refine wp_seq ?_
   refine zM <| sM hS rfl fun hS => sM hS rfl fun hS => sB hS rfl fun hS => sB hS rfl fun hS => qA <| qF hS rfl hM (fun Su hM => ?_) (fun Su hM => ?_)
   ·refine wp_seq ?_
    refine zM <| sM hS rfl fun hS => sA hS rfl fun hS => qA <| qm <| sM hS rfl fun hS => sA hS rfl fun hS => qA <| zl (fun a w => ∃ (NP : Int), Ss 220 [] [(0, .slice M4 Na.length M7), (1, .int .i64 Nb), (10, .int .i64 NP)] H [Nf, Nn] F a w ∧ (qa.j2 K (qa.r K d) M3 Nb NP).wp kr kp) (fun TE Si => ?_) ?_
    ·refine xQ ?_
     refine zv (fun Sd a w => ∃ (NN : Int) (NR : Int), Ss 220 [] [(0, .slice M4 Na.length M7), (1, .int .i64 Nb), (4, jF cq [] []), (10, .int .i64 NN), (11, .int .i64 NR)] H [Nf, Nn] F a w ∧ (qa.l1 K (qa.r K d) M3 Nb Sd NN NR).wp kr kp) K ?_ ?_ ?_
     ·exact ⟨Nc, Ng, hS.to [0, 1] (by kernel_rfl) ⟨rfl, rfl, rfl, rfl, rfl, trivial⟩, hM⟩
     ·intro a w hI; obtain ⟨_, _, _, hM⟩ := hI; exact zu hM
     ·intro Sd a w hI TD PH
      obtain ⟨NN, NR, hS, hM⟩ := hI
      rw [qa.l1] at hM
      refine wp_seq <| qm <| sM hS rfl fun hS => sM hS rfl fun hS => sB hS rfl fun hS => qA <| qF hS rfl hM (fun Sv hM => ?_) (fun Sv hM => ?_)
      ·refine wp_skip ?_
       refine qe <| xQ <| qm <| sM hS rfl fun hS => sM hS rfl fun hS => sB hS rfl fun hS => sO hS (ux rfl Tryd.runUnderlying3 Tryd.runUnderlying47) rfl fun hS => sO hS (shr rfl rfl rfl) rfl fun hS => sO hS (ux rfl Tryd.runUnderlying47 Tryd.runUnderlying3) rfl fun hS => zF (v := Value.int .i64) (x0 := (wr .i64 (xb .u64 (wr .u64 (qg (NN + NR))) (1 : Int)))) hS (xA rfl) rfl fun Nr a w hz hS => ?_
       have hM := qz hz hM; clear hz
       refine qA <| wp_seq ?_
       obtain ⟨N0, hM⟩ := qK hM
       obtain ⟨Pg, Pn, S5, SU, SJ⟩ := Nh.get N0
       obtain ⟨N1, hM⟩ := qK hM
       obtain ⟨Ph, Po, S6, SV, SK⟩ := Nh.get N1
       refine q9 (vals := [some (jF cq [] []), some (.slice M4 Na.length M7), some (.int .i64 Nr), some (xE M4 (Int.toNat Nr * 2)), some (.agg ⟨[.int .i64 ((rd M3 Nr).often_), .slice Pg ((rd M3 Nr).symbols_).length Pn]⟩), some (.slice M4 Na.length M7), some (.int .i64 Nb), some (xE M4 (Int.toNat Nb * 2)), some (.agg ⟨[.int .i64 ((rd M3 Nb).often_), .slice Ph ((rd M3 Nb).symbols_).length Po]⟩), none, none]) hS xF rfl ?_
       intro l w ho hcl hA hst
       refine jf hA hst ho hcl xu xG 9 [0, 1, 2, 3, 4, 5, 6, 7, 8] rfl rfl rfl rfl rfl (by exact ⟨nM rfl, nM rfl, nM rfl, nQ rfl (by exact qX (yu rfl rfl Tryd.runUnderlying110 Tryd.sizeOf112 (Nm.rd (i := 1) rfl) zT.len rfl (Nh.inb N0)) rfl), nQ rfl (by exact qX (qX (uc rfl (Nm.rd (i := 1) rfl) zT.len (Nh.inb N0) Tryd.isAgg112 Tryd.sizeOf112 rfl) (congrArg (fun l => Value.agg ⟨l⟩) S5)) rfl), nM rfl, nM rfl, nQ rfl (by exact qX (yu rfl rfl Tryd.runUnderlying110 Tryd.sizeOf112 (Nm.rd (i := 1) rfl) zT.len rfl (Nh.inb N1)) rfl), nQ rfl (by exact qX (qX (uc rfl (Nm.rd (i := 1) rfl) zT.len (Nh.inb N1) Tryd.isAgg112 Tryd.sizeOf112 rfl) (congrArg (fun l => Value.agg ⟨l⟩) S6)) rfl), trivial⟩) fun D l a w ho hcl hav hpre hm hE hk hA hst => ?_
       have hS := (Ss.mk hE hst).env2 (e' := [(40, jF cq [] []), (44, .agg ⟨[.int .i64 ((rd M3 Nr).often_), .slice Pg ((rd M3 Nr).symbols_).length Pn]⟩), (48, .agg ⟨[.int .i64 ((rd M3 Nb).often_), .slice Ph ((rd M3 Nb).symbols_).length Po]⟩)]) ⟨rfl, rfl, rfl, trivial⟩
       refine qR rfl <| vf hS rfl rfl (Zg hcq) (Xx cq hcq hG K (qb.mk ((rd M3 Nr).often_) ((rd M3 Nr).symbols_)) (qb.mk ((rd M3 Nb).often_) ((rd M3 Nb).symbols_)) Pg Pn Ph Po (SU.rdF (i := 0) rfl) SJ (SV.rdF (i := 0) rfl) SK (hS.st.part 0 [0, 1] (by kernel_rfl)) (qt hM) (fun P8 w hM  hst => qB hS.ev hst.appF rfl fun hS => ?_))
       replace hS : Ss _ _ _ H [Nf, Nn] F _ _ := hS
       refine qA ?_
       replace hst := hS.st
       obtain ⟨hcl, hmust, hav2, hA⟩ := dn (vals' := [some (jF cq [] []), some (.slice M4 Na.length M7), some (.int .i64 Nr), some (xE M4 (Int.toNat Nr * 2)), some (.agg ⟨[.int .i64 ((rd M3 Nr).often_), .slice Pg ((rd M3 Nr).symbols_).length Pn]⟩), some (.slice M4 Na.length M7), some (.int .i64 Nb), some (xE M4 (Int.toNat Nb * 2)), some (.agg ⟨[.int .i64 ((rd M3 Nb).often_), .slice Ph ((rd M3 Nb).symbols_).length Po]⟩), some (.int .i64 P8), some (.bool (decide (P8 < (0 : Int))))]) 9 [(0, 9), (4, 9), (8, 9), (3, 4), (7, 8), (1, 3), (2, 3), (5, 7), (6, 7)] hA hcl hav hm hpre hk rfl rfl rfl rfl rfl rfl rfl
       clear hm hav
       refine yk hA hst ho hcl hmust [10] rfl rfl rfl (by exact ⟨nB rfl, trivial⟩) fun a w hS => ?_
       replace hS := hS.env2 (e' := [(0, .slice M4 Na.length M7), (1, .int .i64 Nb), (4, jF cq [] []), (10, .int .i64 NN), (11, .int .i64 NR), (12, .int .i64 Nr), (50, .bool (decide (P8 < (0 : Int))))]) ⟨rfl, rfl, rfl, rfl, rfl, rfl, rfl, trivial⟩
       refine qe <| qF hS rfl hM (fun Sw hM => ?_) (fun Sw hM => ?_)
       ·refine zM ?_
        refine sM hS rfl fun hS => sB hS rfl fun hS => zF (v := Value.int .i64) (x0 := (qg (Nr + (1 : Int)))) hS (xA rfl) rfl fun TA a w hz hS => ?_
        have hM := qz hz hM; clear hz
        refine zo <| zx (qe ?_)
        exact PH _ _ ⟨TA, NR, hS.to [0, 1] (by kernel_rfl) ⟨rfl, rfl, rfl, rfl, rfl, trivial⟩, hM⟩
       ·refine zM ?_
        refine sM hS rfl fun hS => sA hS rfl fun hS => zo <| zx (qe ?_)
        exact PH _ _ ⟨NN, Nr, hS.to [0, 1] (by kernel_rfl) ⟨rfl, rfl, rfl, rfl, rfl, trivial⟩, hM⟩
      ·refine wp_exit ?_
       refine qE (qE (zd (qe ?_)))
       exact Si _ _ ⟨NN, hS.to [0, 1] (by kernel_rfl) ⟨rfl, rfl, rfl, trivial⟩, hM⟩
    ·intro a w hI
     obtain ⟨NP, hS, hM⟩ := hI
     rw [qa.j2] at hM
     refine wp_seq <| qm <| sM hS rfl fun hS => sA hS rfl fun hS => qA <| xQ <| zv (fun Se a w => ∃ (Nj : List (zT 2)) (M8 : (List qb)) (Pt : qk) (M5 : Int), Ss 220 [] [(0, .slice M4 Nj.length M7), (10, .int .i64 NP), (13, .int .i64 M5)] H [Nf, Pt] F a w ∧ (xj 112 (zT.v (sz := 2)) 2 M4 Nj M7 Pt) ∧ (zH (qj Nf) M8 Nj) ∧ (Nj.length = Na.length) ∧ (qa.l3 K (qa.r K d) NP Se M8 M5).wp kr kp) K ?_ ?_ ?_
     ·exact ⟨Na, M3, Nn, Nb, hS.to [0, 1] (by kernel_rfl) ⟨rfl, rfl, rfl, trivial⟩, Nm, Nh, NW, hM⟩
     ·intro a w hI; obtain ⟨_, _, _, _, _, _, _, _, hM⟩ := hI; exact zu hM
     ·intro Se a w hI TF Sj
      obtain ⟨Nj, M8, Pt, M5, hS, NB, Nt, PY, hM⟩ := hI
      rw [qa.l3] at hM
      refine wp_seq <| qm <| sM hS rfl fun hS => sM hS rfl fun hS => sB hS rfl fun hS => sB hS rfl fun hS => qA <| qF hS rfl hM (fun Sx hM => ?_) (fun Sx hM => ?_)
      ·refine wp_skip ?_
       refine qe <| wp_seq <| xQ ?_
       obtain ⟨N2, hM⟩ := qK hM
       obtain ⟨ND, NH, S7, SW, SL⟩ := Nt.get N2
       obtain ⟨NL, hM⟩ := qK hM
       obtain ⟨NE, NI, S8, SX, SM⟩ := Nt.get NL
       refine q9 (vals := [some (.slice M4 Nj.length M7), some (.int .i64 M5), some (.slice M4 Nj.length M7), some (.int .i64 M5), some (.int .i64 (qg (M5 + (1 : Int)))), some (.slice M4 Nj.length M7), some (.int .i64 M5), some (.int .i64 (qg (M5 + (1 : Int)))), some (xE M4 (Int.toNat (qg (M5 + (1 : Int))) * 2)), some (.agg ⟨[.int .i64 ((rd M8 (qg (M5 + (1 : Int)))).often_), .slice ND ((rd M8 (qg (M5 + (1 : Int)))).symbols_).length NH]⟩), some (.slice M4 Nj.length M7), some (.int .i64 M5), some (xE M4 (Int.toNat M5 * 2)), some (.agg ⟨[.int .i64 ((rd M8 M5).often_), .slice NE ((rd M8 M5).symbols_).length NI]⟩), some (xE M4 (Int.toNat M5 * 2)), none, none, none]) hS xF rfl ?_
       intro l w ho hcl hA hst
       refine jf hA hst ho hcl xu xG 15 [0, 1, 2, 3, 4, 5, 6, 7, 8, 9, 10, 11, 12, 13, 14] rfl rfl rfl rfl rfl (by exact ⟨nM rfl, nM rfl, nM rfl, nM rfl, nB rfl, nM rfl, nM rfl, nB rfl, nQ rfl (by exact qX (yu rfl rfl Tryd.runUnderlying110 Tryd.sizeOf112 (NB.rd (i := 1) rfl) zT.len rfl (Nt.inb N2)) rfl), nQ rfl (by exact qX (qX (uc rfl (NB.rd (i := 1) rfl) zT.len (Nt.inb N2) Tryd.isAgg112 Tryd.sizeOf112 rfl) (congrArg (fun l => Value.agg ⟨l⟩) S7)) rfl), nM rfl, nM rfl, nQ rfl (by exact qX (yu rfl rfl Tryd.runUnderlying110 Tryd.sizeOf112 (NB.rd (i := 1) rfl) zT.len rfl (Nt.inb NL)) rfl), nQ rfl (by exact qX (qX (uc rfl (NB.rd (i := 1) rfl) zT.len (Nt.inb NL) Tryd.isAgg112 Tryd.sizeOf112 rfl) (congrArg (fun l => Value.agg ⟨l⟩) S8)) rfl), nQ rfl (by exact qX (yu rfl rfl Tryd.runUnderlying110 Tryd.sizeOf112 (NB.rd (i := 1) rfl) zT.len rfl (Nt.inb NL)) rfl), trivial⟩) fun D l a w ho hcl hav hpre hm hE hk hA hst => ?_
       have hS := (Ss.mk hE hst).env2 (e' := [(70, .agg ⟨[.int .i64 ((rd M8 (qg (M5 + (1 : Int)))).often_), .slice ND ((rd M8 (qg (M5 + (1 : Int)))).symbols_).length NH]⟩), (75, xE M4 (Int.toNat M5 * 2))]) ⟨rfl, rfl, trivial⟩
       refine qR rfl <| V3 (i := M5) (sz := 2) 1 (⟨[.int .i64 ((rd M8 (qg (M5 + (1 : Int)))).often_), .slice ND ((rd M8 (qg (M5 + (1 : Int)))).symbols_).length NH], by simp, by simp [Value.oneCell']⟩ : zT 2) hS rfl rfl NB rfl Tryd.sizeOf112 rfl (Nt.inb NL) fun P6 w TQ hz PO hS => ?_
       obtain ⟨To, hzm⟩ := um (M8.set (Int.toNat M5) (qb.mk ((rd M8 (qg (M5 + (1 : Int)))).often_) ((rd M8 (qg (M5 + (1 : Int)))).symbols_)))
       replace hM := qz hzm hM
       have NU := zH.set (x := (qb.mk ((rd M8 (qg (M5 + (1 : Int)))).often_) ((rd M8 (qg (M5 + (1 : Int)))).symbols_))) (r := (⟨[.int .i64 ((rd M8 (qg (M5 + (1 : Int)))).often_), .slice ND ((rd M8 (qg (M5 + (1 : Int)))).symbols_).length NH], by simp, by simp [Value.oneCell']⟩ : zT 2)) (Int.toNat M5) Nt (show qj Nf _ _ from ⟨ND, NH, rfl, SW, SL⟩)
       have N8 : P6.length = Nj.length := by rw [hz]; exact List.length_set ..
       rw [← hz, ← hzm] at NU; clear hz hzm
       have Tf := Eq.trans N8 PY
       refine qA ?_
       replace hst := hS.st
       obtain ⟨PS, hM⟩ := qK hM
       obtain ⟨hcl, hmust, hav2, hA⟩ := Xy (vals' := [some (.slice M4 Nj.length M7), some (.int .i64 M5), some (.slice M4 Nj.length M7), some (.int .i64 M5), some (.int .i64 (qg (M5 + (1 : Int)))), some (.slice M4 Nj.length M7), some (.int .i64 M5), some (.int .i64 (qg (M5 + (1 : Int)))), some (xE M4 (Int.toNat (qg (M5 + (1 : Int))) * 2)), some (.agg ⟨[.int .i64 ((rd M8 (qg (M5 + (1 : Int)))).often_), .slice ND ((rd M8 (qg (M5 + (1 : Int)))).symbols_).length NH]⟩), some (.slice M4 Nj.length M7), some (.int .i64 M5), some (xE M4 (Int.toNat M5 * 2)), some (.agg ⟨[.int .i64 ((rd M8 M5).often_), .slice NE ((rd M8 M5).symbols_).length NI]⟩), some (xE M4 (Int.toNat M5 * 2)), some undef, some (xE M4 (Int.toNat (qg (M5 + (1 : Int))) * 2)), none]) 15 [(0, 15), (1, 15), (5, 15), (6, 15), (7, 15), (8, 15), (9, 15), (13, 15), (14, 15), (12, 13), (10, 12), (11, 12)] hA hcl hav hm hpre rfl rfl rfl rfl rfl
       clear hm hav
       refine jf hA hst ho hcl hav2 hmust 17 [2, 3, 4, 16] rfl rfl rfl rfl rfl (by exact ⟨nM rfl, nM rfl, nB rfl, nQ rfl (by exact qX (yu (BO N8 rfl) rfl Tryd.runUnderlying110 Tryd.sizeOf112 (PO.rd (i := 1) rfl) zT.len rfl (NU.inb PS)) rfl), trivial⟩) fun D l a w ho hcl hav hpre hm hE hk hA hst => ?_
       have hS := (Ss.mk hE hst).env2 (e' := [(74, .agg ⟨[.int .i64 ((rd M8 M5).often_), .slice NE ((rd M8 M5).symbols_).length NI]⟩), (76, xE M4 (Int.toNat (qg (M5 + (1 : Int))) * 2))]) ⟨rfl, rfl, trivial⟩
       refine qR rfl <| V3 (i := (qg (M5 + (1 : Int)))) (sz := 2) 1 (⟨[.int .i64 ((rd M8 M5).often_), .slice NE ((rd M8 M5).symbols_).length NI], by simp, by simp [Value.oneCell']⟩ : zT 2) hS rfl rfl PO rfl Tryd.sizeOf112 rfl (NU.inb PS) fun Pa w Ts hz Sq hS => ?_
       obtain ⟨Tp, hzm⟩ := um (To.set (Int.toNat (qg (M5 + (1 : Int)))) (qb.mk ((rd M8 M5).often_) ((rd M8 M5).symbols_)))
       replace hM := qz hzm hM
       have PU := zH.set (x := (qb.mk ((rd M8 M5).often_) ((rd M8 M5).symbols_))) (r := (⟨[.int .i64 ((rd M8 M5).often_), .slice NE ((rd M8 M5).symbols_).length NI], by simp, by simp [Value.oneCell']⟩ : zT 2)) (Int.toNat (qg (M5 + (1 : Int)))) NU (show qj Nf _ _ from ⟨NE, NI, rfl, SX, SM⟩)
       have PZ : Pa.length = P6.length := by rw [hz]; exact List.length_set ..
       rw [← hz, ← hzm] at PU; clear hz hzm
       have Tg := Eq.trans PZ Tf
       refine qA ?_
       replace hst := hS.st
       obtain ⟨hcl, hmust, hav2, hA⟩ := Xy (vals' := [some (.slice M4 Nj.length M7), some (.int .i64 M5), some (.slice M4 Nj.length M7), some (.int .i64 M5), some (.int .i64 (qg (M5 + (1 : Int)))), some (.slice M4 Nj.length M7), some (.int .i64 M5), some (.int .i64 (qg (M5 + (1 : Int)))), some (xE M4 (Int.toNat (qg (M5 + (1 : Int))) * 2)), some (.agg ⟨[.int .i64 ((rd M8 (qg (M5 + (1 : Int)))).often_), .slice ND ((rd M8 (qg (M5 + (1 : Int)))).symbols_).length NH]⟩), some (.slice M4 Nj.length M7), some (.int .i64 M5), some (xE M4 (Int.toNat M5 * 2)), some (.agg ⟨[.int .i64 ((rd M8 M5).often_), .slice NE ((rd M8 M5).symbols_).length NI]⟩), some (xE M4 (Int.toNat M5 * 2)), some undef, some (xE M4 (Int.toNat (qg (M5 + (1 : Int))) * 2)), some undef]) 17 [(0, 17), (1, 17), (2, 17), (3, 17), (4, 17), (5, 17), (6, 17), (7, 17), (8, 17), (9, 17), (10, 17), (11, 17), (12, 17), (13, 17), (14, 17), (15, 17), (16, 17)] hA hcl hav hm hpre rfl rfl rfl rfl rfl
       clear hm hav
       refine yk hA hst ho hcl hmust [] rfl rfl rfl trivial fun a w hS => ?_
       replace hS := hS.env2 (e' := [(0, .slice M4 Pa.length M7), (10, .int .i64 NP), (13, .int .i64 M5)]) ⟨(UD (u := .slice M4 Nj.length M7) rfl (by rw [PZ, N8])), rfl, rfl, trivial⟩
       refine zx (qe ?_)
       refine zM <| sM hS rfl fun hS => sB hS rfl fun hS => zF (v := Value.int .i64) (x0 := (qg (M5 + (1 : Int)))) hS (xA rfl) rfl fun Tm a w hz hS => ?_
       have hM := qz hz hM; clear hz
       refine zo <| qe ?_
       exact Sj _ _ ⟨Pa, Tp, Ts, Tm, hS.to [0, 1] (by kernel_rfl) ⟨rfl, rfl, rfl, trivial⟩, Sq, PU, Tg, hM⟩
      ·refine wp_exit ?_
       refine qE (qE (zd (qe ?_)))
       refine wp_ret <| zk ?_
       exact zE (rs := []) hS rfl rfl (hret Nj M8 Pt _ (q8 hM) NB Nt PY (hS.st.pick [0, 1] (by kernel_rfl)))
   ·refine wp_skip ?_
    refine qe ?_
    exact Sk _ _ ⟨hS.to [0, 1] (by kernel_rfl) ⟨rfl, rfl, rfl, rfl, rfl, trivial⟩, hM⟩
  ·intro a w hI
   obtain ⟨hS, hM⟩ := hI
   rw [qa.j4] at hM
   refine zl (fun a w => Ss 220 [] [(0, .slice M4 Na.length M7), (1, .int .i64 Nb), (2, .int .i64 Nc), (3, .int .i64 Ng), (4, jF cq [] [])] H [Nf, Nn] F a w ∧ (qa.j8 K (qa.r K d) M3 Nb Nc Ng).wp kr kp) (fun TK So => ?_) ?_
   ·refine wp_seq ?_
    refine zM <| sM hS rfl fun hS => sM hS rfl fun hS => sB hS rfl fun hS => sB hS rfl fun hS => qA <| qF hS rfl hM (fun Sy hM => ?_) (fun Sy hM => ?_)
    ·refine wp_seq ?_
     refine zM <| sM hS rfl fun hS => sA hS rfl fun hS => qA <| qm <| sM hS rfl fun hS => sA hS rfl fun hS => qA <| zl (fun a w => ∃ (NQ : Int), Ss 220 [] [(0, .slice M4 Na.length M7), (2, .int .i64 Nc), (14, .int .i64 NQ)] H [Nf, Nn] F a w ∧ (qa.j6 K (qa.r K d) M3 Nc NQ).wp kr kp) (fun TI Sm => ?_) ?_
     ·refine xQ ?_
      refine zv (fun Sf a w => ∃ (NO : Int) (NS : Int), Ss 220 [] [(0, .slice M4 Na.length M7), (2, .int .i64 Nc), (4, jF cq [] []), (14, .int .i64 NO), (15, .int .i64 NS)] H [Nf, Nn] F a w ∧ (qa.l5 K (qa.r K d) M3 Nc Sf NO NS).wp kr kp) K ?_ ?_ ?_
      ·exact ⟨Nb, Nc, hS.to [0, 1] (by kernel_rfl) ⟨rfl, rfl, rfl, rfl, rfl, trivial⟩, hM⟩
      ·intro a w hI; obtain ⟨_, _, _, hM⟩ := hI; exact zu hM
      ·intro Sf a w hI TH PI
       obtain ⟨NO, NS, hS, hM⟩ := hI
       rw [qa.l5] at hM
       refine wp_seq <| qm <| sM hS rfl fun hS => sM hS rfl fun hS => sB hS rfl fun hS => qA <| qF hS rfl hM (fun Sz hM => ?_) (fun Sz hM => ?_)
       ·refine wp_skip ?_
        refine qe <| xQ <| qm <| sM hS rfl fun hS => sM hS rfl fun hS => sB hS rfl fun hS => sO hS (ux rfl Tryd.runUnderlying3 Tryd.runUnderlying47) rfl fun hS => sO hS (shr rfl rfl rfl) rfl fun hS => sO hS (ux rfl Tryd.runUnderlying47 Tryd.runUnderlying3) rfl fun hS => zF (v := Value.int .i64) (x0 := (wr .i64 (xb .u64 (wr .u64 (qg (NO + NS))) (1 : Int)))) hS (xA rfl) rfl fun Ns a w hz hS => ?_
        have hM := qz hz hM; clear hz
        refine qA <| wp_seq ?_
        obtain ⟨N3, hM⟩ := qK hM
        obtain ⟨Pi, Pp, S9, SY, SN⟩ := Nh.get N3
        obtain ⟨N4, hM⟩ := qK hM
        obtain ⟨Pj, Pq, Ta, SZ, SO⟩ := Nh.get N4
        refine q9 (vals := [some (jF cq [] []), some (.slice M4 Na.length M7), some (.int .i64 Nc), some (xE M4 (Int.toNat Nc * 2)), some (.agg ⟨[.int .i64 ((rd M3 Nc).often_), .slice Pi ((rd M3 Nc).symbols_).length Pp]⟩), some (.slice M4 Na.length M7), some (.int .i64 Ns), some (xE M4 (Int.toNat Ns * 2)), some (.agg ⟨[.int .i64 ((rd M3 Ns).often_), .slice Pj ((rd M3 Ns).symbols_).length Pq]⟩), none, none, none]) hS xF rfl ?_
        intro l w ho hcl hA hst
        refine jf hA hst ho hcl xu xG 9 [0, 1, 2, 3, 4, 5, 6, 7, 8] rfl rfl rfl rfl rfl (by exact ⟨nM rfl, nM rfl, nM rfl, nQ rfl (by exact qX (yu rfl rfl Tryd.runUnderlying110 Tryd.sizeOf112 (Nm.rd (i := 1) rfl) zT.len rfl (Nh.inb N3)) rfl), nQ rfl (by exact qX (qX (uc rfl (Nm.rd (i := 1) rfl) zT.len (Nh.inb N3) Tryd.isAgg112 Tryd.sizeOf112 rfl) (congrArg (fun l => Value.agg ⟨l⟩) S9)) rfl), nM rfl, nM rfl, nQ rfl (by exact qX (yu rfl rfl Tryd.runUnderlying110 Tryd.sizeOf112 (Nm.rd (i := 1) rfl) zT.len rfl (Nh.inb N4)) rfl), nQ rfl (by exact qX (qX (uc rfl (Nm.rd (i := 1) rfl) zT.len (Nh.inb N4) Tryd.isAgg112 Tryd.sizeOf112 rfl) (congrArg (fun l => Value.agg ⟨l⟩) Ta)) rfl), trivial⟩) fun D l a w ho hcl hav hpre hm hE hk hA hst => ?_
        have hS := (Ss.mk hE hst).env2 (e' := [(92, jF cq [] []), (96, .agg ⟨[.int .i64 ((rd M3 Nc).often_), .slice Pi ((rd M3 Nc).symbols_).length Pp]⟩), (100, .agg ⟨[.int .i64 ((rd M3 Ns).often_), .slice Pj ((rd M3 Ns).symbols_).length Pq]⟩)]) ⟨rfl, rfl, rfl, trivial⟩
        refine qR rfl <| vf hS rfl rfl (Zg hcq) (Xx cq hcq hG K (qb.mk ((rd M3 Nc).often_) ((rd M3 Nc).symbols_)) (qb.mk ((rd M3 Ns).often_) ((rd M3 Ns).symbols_)) Pi Pp Pj Pq (SY.rdF (i := 0) rfl) SN (SZ.rdF (i := 0) rfl) SO (hS.st.part 0 [0, 1] (by kernel_rfl)) (qt hM) (fun Px w hM  hst => qB hS.ev hst.appF rfl fun hS => ?_))
        replace hS : Ss _ _ _ H [Nf, Nn] F _ _ := hS
        refine qA ?_
        replace hst := hS.st
        obtain ⟨hcl, hmust, hav2, hA⟩ := dn (vals' := [some (jF cq [] []), some (.slice M4 Na.length M7), some (.int .i64 Nc), some (xE M4 (Int.toNat Nc * 2)), some (.agg ⟨[.int .i64 ((rd M3 Nc).often_), .slice Pi ((rd M3 Nc).symbols_).length Pp]⟩), some (.slice M4 Na.length M7), some (.int .i64 Ns), some (xE M4 (Int.toNat Ns * 2)), some (.agg ⟨[.int .i64 ((rd M3 Ns).often_), .slice Pj ((rd M3 Ns).symbols_).length Pq]⟩), some (.int .i64 Px), some (.bool (decide (Px < (0 : Int)))), some (.bool (!(decide (Px < (0 : Int)))))]) 9 [(0, 9), (4, 9), (8, 9), (3, 4), (7, 8), (1, 3), (2, 3), (5, 7), (6, 7)] hA hcl hav hm hpre hk rfl rfl rfl rfl rfl rfl rfl
        clear hm hav
        refine yk hA hst ho hcl hmust [10, 11] rfl rfl rfl (by exact ⟨nB rfl, nQ rfl (by exact qX (un rfl rfl) rfl), trivial⟩) fun a w hS => ?_
        replace hS := hS.env2 (e' := [(0, .slice M4 Na.length M7), (2, .int .i64 Nc), (4, jF cq [] []), (14, .int .i64 NO), (15, .int .i64 NS), (16, .int .i64 Ns), (103, .bool (!(decide (Px < (0 : Int)))))]) ⟨rfl, rfl, rfl, rfl, rfl, rfl, rfl, trivial⟩
        refine qe <| qF hS rfl hM (fun SA hM => ?_) (fun SA hM => ?_)
        ·refine zM ?_
         refine sM hS rfl fun hS => sB hS rfl fun hS => zF (v := Value.int .i64) (x0 := (qg (Ns + (1 : Int)))) hS (xA rfl) rfl fun TB a w hz hS => ?_
         have hM := qz hz hM; clear hz
         refine zo <| zx (qe ?_)
         exact PI _ _ ⟨TB, NS, hS.to [0, 1] (by kernel_rfl) ⟨rfl, rfl, rfl, rfl, rfl, trivial⟩, hM⟩
        ·refine zM ?_
         refine sM hS rfl fun hS => sA hS rfl fun hS => zo <| zx (qe ?_)
         exact PI _ _ ⟨NO, Ns, hS.to [0, 1] (by kernel_rfl) ⟨rfl, rfl, rfl, rfl, rfl, trivial⟩, hM⟩
       ·refine wp_exit ?_
        refine qE (qE (zd (qe ?_)))
        exact Sm _ _ ⟨NO, hS.to [0, 1] (by kernel_rfl) ⟨rfl, rfl, rfl, trivial⟩, hM⟩
     ·intro a w hI
      obtain ⟨NQ, hS, hM⟩ := hI
      rw [qa.j6] at hM
      refine wp_seq <| qm <| sM hS rfl fun hS => sA hS rfl fun hS => qA <| xQ <| zv (fun Sg a w => ∃ (Nk : List (zT 2)) (M9 : (List qb)) (Pv : qk) (M6 : Int), Ss 220 [] [(0, .slice M4 Nk.length M7), (14, .int .i64 NQ), (17, .int .i64 M6)] H [Nf, Pv] F a w ∧ (xj 112 (zT.v (sz := 2)) 2 M4 Nk M7 Pv) ∧ (zH (qj Nf) M9 Nk) ∧ (Nk.length = Na.length) ∧ (qa.l7 K (qa.r K d) NQ Sg M9 M6).wp kr kp) K ?_ ?_ ?_
      ·exact ⟨Na, M3, Nn, Nc, hS.to [0, 1] (by kernel_rfl) ⟨rfl, rfl, rfl, trivial⟩, Nm, Nh, NW, hM⟩
      ·intro a w hI; obtain ⟨_, _, _, _, _, _, _, _, hM⟩ := hI; exact zu hM
      ·intro Sg a w hI TJ Sn
       obtain ⟨Nk, M9, Pv, M6, hS, NC, Nu, P0, hM⟩ := hI
       rw [qa.l7] at hM
       refine wp_seq <| qm <| sM hS rfl fun hS => sM hS rfl fun hS => sB hS rfl fun hS => qA <| qF hS rfl hM (fun SB hM => ?_) (fun SB hM => ?_)
       ·refine wp_skip ?_
        refine qe <| wp_seq <| xQ ?_
        obtain ⟨N5, hM⟩ := qK hM
        obtain ⟨NF, NJ, Tb, S1, SP⟩ := Nu.get N5
        obtain ⟨NM, hM⟩ := qK hM
        obtain ⟨NG, NK, Tc, S2, SQ⟩ := Nu.get NM
        refine q9 (vals := [some (.slice M4 Nk.length M7), some (.int .i64 M6), some (.slice M4 Nk.length M7), some (.int .i64 M6), some (.int .i64 (qg (M6 - (1 : Int)))), some (.slice M4 Nk.length M7), some (.int .i64 M6), some (.int .i64 (qg (M6 - (1 : Int)))), some (xE M4 (Int.toNat (qg (M6 - (1 : Int))) * 2)), some (.agg ⟨[.int .i64 ((rd M9 (qg (M6 - (1 : Int)))).often_), .slice NF ((rd M9 (qg (M6 - (1 : Int)))).symbols_).length NJ]⟩), some (.slice M4 Nk.length M7), some (.int .i64 M6), some (xE M4 (Int.toNat M6 * 2)), some (.agg ⟨[.int .i64 ((rd M9 M6).often_), .slice NG ((rd M9 M6).symbols_).length NK]⟩), some (xE M4 (Int.toNat M6 * 2)), none, none, none]) hS xF rfl ?_
        intro l w ho hcl hA hst
        refine jf hA hst ho hcl xu xG 15 [0, 1, 2, 3, 4, 5, 6, 7, 8, 9, 10, 11, 12, 13, 14] rfl rfl rfl rfl rfl (by exact ⟨nM rfl, nM rfl, nM rfl, nM rfl, nB rfl, nM rfl, nM rfl, nB rfl, nQ rfl (by exact qX (yu rfl rfl Tryd.runUnderlying110 Tryd.sizeOf112 (NC.rd (i := 1) rfl) zT.len rfl (Nu.inb N5)) rfl), nQ rfl (by exact qX (qX (uc rfl (NC.rd (i := 1) rfl) zT.len (Nu.inb N5) Tryd.isAgg112 Tryd.sizeOf112 rfl) (congrArg (fun l => Value.agg ⟨l⟩) Tb)) rfl), nM rfl, nM rfl, nQ rfl (by exact qX (yu rfl rfl Tryd.runUnderlying110 Tryd.sizeOf112 (NC.rd (i := 1) rfl) zT.len rfl (Nu.inb NM)) rfl), nQ rfl (by exact qX (qX (uc rfl (NC.rd (i := 1) rfl) zT.len (Nu.inb NM) Tryd.isAgg112 Tryd.sizeOf112 rfl) (congrArg (fun l => Value.agg ⟨l⟩) Tc)) rfl), nQ rfl (by exact qX (yu rfl rfl Tryd.runUnderlying110 Tryd.sizeOf112 (NC.rd (i := 1) rfl) zT.len rfl (Nu.inb NM)) rfl), trivial⟩) fun D l a w ho hcl hav hpre hm hE hk hA hst => ?_
        have hS := (Ss.mk hE hst).env2 (e' := [(122, .agg ⟨[.int .i64 ((rd M9 (qg (M6 - (1 : Int)))).often_), .slice NF ((rd M9 (qg (M6 - (1 : Int)))).symbols_).length NJ]⟩), (127, xE M4 (Int.toNat M6 * 2))]) ⟨rfl, rfl, trivial⟩
        refine qR rfl <| V3 (i := M6) (sz := 2) 1 (⟨[.int .i64 ((rd M9 (qg (M6 - (1 : Int)))).often_), .slice NF ((rd M9 (qg (M6 - (1 : Int)))).symbols_).length NJ], by simp, by simp [Value.oneCell']⟩ : zT 2) hS rfl rfl NC rfl Tryd.sizeOf112 rfl (Nu.inb NM) fun P7 w TR hz PP hS => ?_
        obtain ⟨Tq, hzm⟩ := um (M9.set (Int.toNat M6) (qb.mk ((rd M9 (qg (M6 - (1 : Int)))).often_) ((rd M9 (qg (M6 - (1 : Int)))).symbols_)))
        replace hM := qz hzm hM
        have NV := zH.set (x := (qb.mk ((rd M9 (qg (M6 - (1 : Int)))).often_) ((rd M9 (qg (M6 - (1 : Int)))).symbols_))) (r := (⟨[.int .i64 ((rd M9 (qg (M6 - (1 : Int)))).often_), .slice NF ((rd M9 (qg (M6 - (1 : Int)))).symbols_).length NJ], by simp, by simp [Value.oneCell']⟩ : zT 2)) (Int.toNat M6) Nu (show qj Nf _ _ from ⟨NF, NJ, rfl, S1, SP⟩)
        have N9 : P7.length = Nk.length := by rw [hz]; exact List.length_set ..
        rw [← hz, ← hzm] at NV; clear hz hzm
        have Th := Eq.trans N9 P0
        refine qA ?_
        replace hst := hS.st
        obtain ⟨PT, hM⟩ := qK hM
        obtain ⟨hcl, hmust, hav2, hA⟩ := Xy (vals' := [some (.slice M4 Nk.length M7), some (.int .i64 M6), some (.slice M4 Nk.length M7), some (.int .i64 M6), some (.int .i64 (qg (M6 - (1 : Int)))), some (.slice M4 Nk.length M7), some (.int .i64 M6), some (.int .i64 (qg (M6 - (1 : Int)))), some (xE M4 (Int.toNat (qg (M6 - (1 : Int))) * 2)), some (.agg ⟨[.int .i64 ((rd M9 (qg (M6 - (1 : Int)))).often_), .slice NF ((rd M9 (qg (M6 - (1 : Int)))).symbols_).length NJ]⟩), some (.slice M4 Nk.length M7), some (.int .i64 M6), some (xE M4 (Int.toNat M6 * 2)), some (.agg ⟨[.int .i64 ((rd M9 M6).often_), .slice NG ((rd M9 M6).symbols_).length NK]⟩), some (xE M4 (Int.toNat M6 * 2)), some undef, some (xE M4 (Int.toNat (qg (M6 - (1 : Int))) * 2)), none]) 15 [(0, 15), (1, 15), (5, 15), (6, 15), (7, 15), (8, 15), (9, 15), (13, 15), (14, 15), (12, 13), (10, 12), (11, 12)] hA hcl hav hm hpre rfl rfl rfl rfl rfl
        clear hm hav
        refine jf hA hst ho hcl hav2 hmust 17 [2, 3, 4, 16] rfl rfl rfl rfl rfl (by exact ⟨nM rfl, nM rfl, nB rfl, nQ rfl (by exact qX (yu (BO N9 rfl) rfl Tryd.runUnderlying110 Tryd.sizeOf112 (PP.rd (i := 1) rfl) zT.len rfl (NV.inb PT)) rfl), trivial⟩) fun D l a w ho hcl hav hpre hm hE hk hA hst => ?_
        have hS := (Ss.mk hE hst).env2 (e' := [(126, .agg ⟨[.int .i64 ((rd M9 M6).often_), .slice NG ((rd M9 M6).symbols_).length NK]⟩), (128, xE M4 (Int.toNat (qg (M6 - (1 : Int))) * 2))]) ⟨rfl, rfl, trivial⟩
        refine qR rfl <| V3 (i := (qg (M6 - (1 : Int)))) (sz := 2) 1 (⟨[.int .i64 ((rd M9 M6).often_), .slice NG ((rd M9 M6).symbols_).length NK], by simp, by simp [Value.oneCell']⟩ : zT 2) hS rfl rfl PP rfl Tryd.sizeOf112 rfl (NV.inb PT) fun Pb w Tt hz Sr hS => ?_
        obtain ⟨Tr, hzm⟩ := um (Tq.set (Int.toNat (qg (M6 - (1 : Int)))) (qb.mk ((rd M9 M6).often_) ((rd M9 M6).symbols_)))
        replace hM := qz hzm hM
        have PV := zH.set (x := (qb.mk ((rd M9 M6).often_) ((rd M9 M6).symbols_))) (r := (⟨[.int .i64 ((rd M9 M6).often_), .slice NG ((rd M9 M6).symbols_).length NK], by simp, by simp [Value.oneCell']⟩ : zT 2)) (Int.toNat (qg (M6 - (1 : Int)))) NV (show qj Nf _ _ from ⟨NG, NK, rfl, S2, SQ⟩)
        have P3 : Pb.length = P7.length := by rw [hz]; exact List.length_set ..
        rw [← hz, ← hzm] at PV; clear hz hzm
        have Ti := Eq.trans P3 Th
        refine qA ?_
        replace hst := hS.st
        obtain ⟨hcl, hmust, hav2, hA⟩ := Xy (vals' := [some (.slice M4 Nk.length M7), some (.int .i64 M6), some (.slice M4 Nk.length M7), some (.int .i64 M6), some (.int .i64 (qg (M6 - (1 : Int)))), some (.slice M4 Nk.length M7), some (.int .i64 M6), some (.int .i64 (qg (M6 - (1 : Int)))), some (xE M4 (Int.toNat (qg (M6 - (1 : Int))) * 2)), some (.agg ⟨[.int .i64 ((rd M9 (qg (M6 - (1 : Int)))).often_), .slice NF ((rd M9 (qg (M6 - (1 : Int)))).symbols_).length NJ]⟩), some (.slice M4 Nk.length M7), some (.int .i64 M6), some (xE M4 (Int.toNat M6 * 2)), some (.agg ⟨[.int .i64 ((rd M9 M6).often_), .slice NG ((rd M9 M6).symbols_).length NK]⟩), some (xE M4 (Int.toNat M6 * 2)), some undef, some (xE M4 (Int.toNat (qg (M6 - (1 : Int))) * 2)), some undef]) 17 [(0, 17), (1, 17), (2, 17), (3, 17), (4, 17), (5, 17), (6, 17), (7, 17), (8, 17), (9, 17), (10, 17), (11, 17), (12, 17), (13, 17), (14, 17), (15, 17), (16, 17)] hA hcl hav hm hpre rfl rfl rfl rfl rfl
        clear hm hav
        refine yk hA hst ho hcl hmust [] rfl rfl rfl trivial fun a w hS => ?_
        replace hS := hS.env2 (e' := [(0, .slice M4 Pb.length M7), (14, .int .i64 NQ), (17, .int .i64 M6)]) ⟨(UD (u := .slice M4 Nk.length M7) rfl (by rw [P3, N9])), rfl, rfl, trivial⟩
        refine zx (qe ?_)
        refine zM <| sM hS rfl fun hS => sB hS rfl fun hS => zF (v := Value.int .i64) (x0 := (qg (M6 - (1 : Int)))) hS (xA rfl) rfl fun Tn a w hz hS => ?_
        have hM := qz hz hM; clear hz
        refine zo <| qe ?_
        exact Sn _ _ ⟨Pb, Tr, Tt, Tn, hS.to [0, 1] (by kernel_rfl) ⟨rfl, rfl, rfl, trivial⟩, Sr, PV, Ti, hM⟩
       ·refine wp_exit ?_
        refine qE (qE (zd (qe ?_)))
        refine wp_ret <| zk ?_
        exact zE (rs := []) hS rfl rfl (hret Nk M9 Pv _ (q8 hM) NC Nu P0 (hS.st.pick [0, 1] (by kernel_rfl)))
    ·refine wp_skip ?_
     refine qe ?_
     exact So _ _ ⟨hS.to [0, 1] (by kernel_rfl) ⟨rfl, rfl, rfl, rfl, rfl, trivial⟩, hM⟩
   ·intro a w hI
    obtain ⟨hS, hM⟩ := hI
    rw [qa.j8] at hM
    refine qm <| sM hS rfl fun hS => sM hS rfl fun hS => sB hS rfl fun hS => sO hS (ux rfl Tryd.runUnderlying3 Tryd.runUnderlying47) rfl fun hS => sO hS (shr rfl rfl rfl) rfl fun hS => sO hS (ux rfl Tryd.runUnderlying47 Tryd.runUnderlying3) rfl fun hS => zF (v := Value.int .i64) (x0 := (wr .i64 (xb .u64 (wr .u64 (qg (Nb + Ng))) (1 : Int)))) hS (xA rfl) rfl fun Ni a w hz hS => ?_
    have hM := qz hz hM; clear hz
    refine qA <| qm <| sM hS rfl fun hS => sM hS rfl fun hS => sB hS rfl fun hS => zF (v := Value.int .i64) (x0 := (qg (Ni + Nc))) hS (xA rfl) rfl fun Nv a w hz hS => ?_
    have hM := qz hz hM; clear hz
    refine qA <| qm <| sA hS rfl fun hS => sA hS rfl fun hS => qA <| zl (fun a w => ∃ (NA : Int) (Pw : Int), Ss 220 [] [(0, .slice M4 Na.length M7), (1, .int .i64 Nb), (2, .int .i64 Nc), (3, .int .i64 Ng), (4, jF cq [] []), (18, .int .i64 Ni), (19, .int .i64 Nv), (20, .int .i64 NA), (21, .int .i64 Pw)] H [Nf, Nn] F a w ∧ (qa.j9 K (qa.r K d) M3 Nb Nc Ng Ni Nv NA Pw).wp kr kp) (fun TL PJ => ?_) ?_
    ·refine wp_seq ?_
     refine zM <| sM hS rfl fun hS => sM hS rfl fun hS => sB hS rfl fun hS => qA <| qF hS rfl hM (fun SC hM => ?_) (fun SC hM => ?_)
     ·refine wp_seq ?_
      refine zM <| sM hS rfl fun hS => sM hS rfl fun hS => sB hS rfl fun hS => zF (v := Value.int .i64) (x0 := (qg (Nv - Ng))) hS (xA rfl) rfl fun Pz a w hz hS => ?_
      have hM := qz hz hM; clear hz
      refine qA <| zM <| sM hS rfl fun hS => sA hS rfl fun hS => zo <| qe ?_
      exact PJ _ _ ⟨Pz, Ni, hS.to [0, 1] (by kernel_rfl) ⟨rfl, rfl, rfl, rfl, rfl, rfl, rfl, rfl, rfl, trivial⟩, hM⟩
     ·refine wp_seq ?_
      refine zM <| sM hS rfl fun hS => sA hS rfl fun hS => qA <| zM <| sM hS rfl fun hS => sA hS rfl fun hS => zo <| qe ?_
      exact PJ _ _ ⟨Nb, Nc, hS.to [0, 1] (by kernel_rfl) ⟨rfl, rfl, rfl, rfl, rfl, rfl, rfl, rfl, rfl, trivial⟩, hM⟩
    ·intro a w hI
     obtain ⟨NA, Pw, hS, hM⟩ := hI
     rw [qa.j9] at hM
     refine qm <| sM hS rfl fun hS => sB hS rfl fun hS => zF (v := Value.int .i64) (x0 := (qg (Nv - (1 : Int)))) hS (xA rfl) rfl fun Nq a w hz hS => ?_
     have hM := qz hz hM; clear hz
     refine qA <| zl (fun a w => ∃ (Nl : Int), Ss 220 [] [(0, .slice M4 Na.length M7), (1, .int .i64 Nb), (2, .int .i64 Nc), (3, .int .i64 Ng), (4, jF cq [] []), (18, .int .i64 Ni), (19, .int .i64 Nv), (20, .int .i64 Nl)] H [Nf, Nn] F a w ∧ (qa.j11 K (qa.r K d) M3 Nb Nc Ng Ni Nv Nl).wp kr kp) (fun TN Sp => ?_) ?_
     ·refine xQ ?_
      refine zv (fun Sh a w => ∃ (Np : Int) (NT : Int), Ss 220 [] [(0, .slice M4 Na.length M7), (1, .int .i64 Nb), (2, .int .i64 Nc), (3, .int .i64 Ng), (4, jF cq [] []), (18, .int .i64 Ni), (19, .int .i64 Nv), (20, .int .i64 Np), (21, .int .i64 NT), (22, .int .i64 Nq)] H [Nf, Nn] F a w ∧ (qa.l10 K (qa.r K d) M3 Nb Nc Ng Ni Nv Nq Sh Np NT).wp kr kp) K ?_ ?_ ?_
      ·exact ⟨NA, Pw, hS.to [0, 1] (by kernel_rfl) ⟨rfl, rfl, rfl, rfl, rfl, rfl, rfl, rfl, rfl, rfl, trivial⟩, hM⟩
      ·intro a w hI; obtain ⟨_, _, _, hM⟩ := hI; exact zu hM
      ·intro Sh a w hI TM PL
       obtain ⟨Np, NT, hS, hM⟩ := hI
       rw [qa.l10] at hM
       refine wp_seq <| qm <| sM hS rfl fun hS => sM hS rfl fun hS => sB hS rfl fun hS => qA <| qF hS rfl hM (fun SD hM => ?_) (fun SD hM => ?_)
       ·refine wp_skip ?_
        refine qe <| xQ <| qm <| sM hS rfl fun hS => sM hS rfl fun hS => sB hS rfl fun hS => sO hS (ux rfl Tryd.runUnderlying3 Tryd.runUnderlying47) rfl fun hS => sO hS (shr rfl rfl rfl) rfl fun hS => sO hS (ux rfl Tryd.runUnderlying47 Tryd.runUnderlying3) rfl fun hS => zF (v := Value.int .i64) (x0 := (wr .i64 (xb .u64 (wr .u64 (qg (Np + NT))) (1 : Int)))) hS (xA rfl) rfl fun Nd a w hz hS => ?_
        have hM := qz hz hM; clear hz
        refine qA <| wp_seq ?_
        obtain ⟨N6, hM⟩ := qK hM
        obtain ⟨Pk, Pr, Td, S3, SR⟩ := Nh.get N6
        obtain ⟨N7, hM⟩ := qK hM
        obtain ⟨Pm, Ps, Te, S4, ST⟩ := Nh.get N7
        refine q9 (vals := [some (jF cq [] []), some (.slice M4 Na.length M7), some (.int .i64 Nq), some (.int .i64 Nd), some (.int .i64 (qg (Nq - Nd))), some (xE M4 (Int.toNat (qg (Nq - Nd)) * 2)), some (.agg ⟨[.int .i64 ((rd M3 (qg (Nq - Nd))).often_), .slice Pk ((rd M3 (qg (Nq - Nd))).symbols_).length Pr]⟩), some (.slice M4 Na.length M7), some (.int .i64 Nd), some (xE M4 (Int.toNat Nd * 2)), some (.agg ⟨[.int .i64 ((rd M3 Nd).often_), .slice Pm ((rd M3 Nd).symbols_).length Ps]⟩), none, none, none]) hS xF rfl ?_
        intro l w ho hcl hA hst
        refine jf hA hst ho hcl xu xG 11 [0, 1, 2, 3, 4, 5, 6, 7, 8, 9, 10] rfl rfl rfl rfl rfl (by exact ⟨nM rfl, nM rfl, nM rfl, nM rfl, nB rfl, nQ rfl (by exact qX (yu rfl rfl Tryd.runUnderlying110 Tryd.sizeOf112 (Nm.rd (i := 1) rfl) zT.len rfl (Nh.inb N6)) rfl), nQ rfl (by exact qX (qX (uc rfl (Nm.rd (i := 1) rfl) zT.len (Nh.inb N6) Tryd.isAgg112 Tryd.sizeOf112 rfl) (congrArg (fun l => Value.agg ⟨l⟩) Td)) rfl), nM rfl, nM rfl, nQ rfl (by exact qX (yu rfl rfl Tryd.runUnderlying110 Tryd.sizeOf112 (Nm.rd (i := 1) rfl) zT.len rfl (Nh.inb N7)) rfl), nQ rfl (by exact qX (qX (uc rfl (Nm.rd (i := 1) rfl) zT.len (Nh.inb N7) Tryd.isAgg112 Tryd.sizeOf112 rfl) (congrArg (fun l => Value.agg ⟨l⟩) Te)) rfl), trivial⟩) fun D l a w ho hcl hav hpre hm hE hk hA hst => ?_
        have hS := (Ss.mk hE hst).env2 (e' := [(158, jF cq [] []), (164, .agg ⟨[.int .i64 ((rd M3 (qg (Nq - Nd))).often_), .slice Pk ((rd M3 (qg (Nq - Nd))).symbols_).length Pr]⟩), (168, .agg ⟨[.int .i64 ((rd M3 Nd).often_), .slice Pm ((rd M3 Nd).symbols_).length Ps]⟩)]) ⟨rfl, rfl, rfl, trivial⟩
        refine qR rfl <| vf hS rfl rfl (Zg hcq) (Xx cq hcq hG K (qb.mk ((rd M3 (qg (Nq - Nd))).often_) ((rd M3 (qg (Nq - Nd))).symbols_)) (qb.mk ((rd M3 Nd).often_) ((rd M3 Nd).symbols_)) Pk Pr Pm Ps (S3.rdF (i := 0) rfl) SR (S4.rdF (i := 0) rfl) ST (hS.st.part 0 [0, 1] (by kernel_rfl)) (qt hM) (fun Py w hM  hst => qB hS.ev hst.appF rfl fun hS => ?_))
        replace hS : Ss _ _ _ H [Nf, Nn] F _ _ := hS
        refine qA ?_
        replace hst := hS.st
        obtain ⟨hcl, hmust, hav2, hA⟩ := dn (vals' := [some (jF cq [] []), some (.slice M4 Na.length M7), some (.int .i64 Nq), some (.int .i64 Nd), some (.int .i64 (qg (Nq - Nd))), some (xE M4 (Int.toNat (qg (Nq - Nd)) * 2)), some (.agg ⟨[.int .i64 ((rd M3 (qg (Nq - Nd))).often_), .slice Pk ((rd M3 (qg (Nq - Nd))).symbols_).length Pr]⟩), some (.slice M4 Na.length M7), some (.int .i64 Nd), some (xE M4 (Int.toNat Nd * 2)), some (.agg ⟨[.int .i64 ((rd M3 Nd).often_), .slice Pm ((rd M3 Nd).symbols_).length Ps]⟩), some (.int .i64 Py), some (.bool (decide (Py < (0 : Int)))), some (.bool (!(decide (Py < (0 : Int)))))]) 11 [(0, 11), (6, 11), (10, 11), (5, 6), (9, 10), (1, 5), (4, 5), (7, 9), (8, 9), (2, 4), (3, 4)] hA hcl hav hm hpre hk rfl rfl rfl rfl rfl rfl rfl
        clear hm hav
        refine yk hA hst ho hcl hmust [12, 13] rfl rfl rfl (by exact ⟨nB rfl, nQ rfl (by exact qX (un rfl rfl) rfl), trivial⟩) fun a w hS => ?_
        replace hS := hS.env2 (e' := [(0, .slice M4 Na.length M7), (1, .int .i64 Nb), (2, .int .i64 Nc), (3, .int .i64 Ng), (4, jF cq [] []), (18, .int .i64 Ni), (19, .int .i64 Nv), (20, .int .i64 Np), (21, .int .i64 NT), (22, .int .i64 Nq), (23, .int .i64 Nd), (171, .bool (!(decide (Py < (0 : Int)))))]) ⟨rfl, rfl, rfl, rfl, rfl, rfl, rfl, rfl, rfl, rfl, rfl, rfl, trivial⟩
        refine qe <| qF hS rfl hM (fun SE hM => ?_) (fun SE hM => ?_)
        ·refine zM ?_
         refine sM hS rfl fun hS => sB hS rfl fun hS => zF (v := Value.int .i64) (x0 := (qg (Nd + (1 : Int)))) hS (xA rfl) rfl fun PA a w hz hS => ?_
         have hM := qz hz hM; clear hz
         refine zo <| zx (qe ?_)
         exact PL _ _ ⟨PA, NT, hS.to [0, 1] (by kernel_rfl) ⟨rfl, rfl, rfl, rfl, rfl, rfl, rfl, rfl, rfl, rfl, trivial⟩, hM⟩
        ·refine zM ?_
         refine sM hS rfl fun hS => sA hS rfl fun hS => zo <| zx (qe ?_)
         exact PL _ _ ⟨Np, Nd, hS.to [0, 1] (by kernel_rfl) ⟨rfl, rfl, rfl, rfl, rfl, rfl, rfl, rfl, rfl, rfl, trivial⟩, hM⟩
       ·refine wp_exit ?_
        refine qE (qE (zd (qe ?_)))
        exact Sp _ _ ⟨Np, hS.to [0, 1] (by kernel_rfl) ⟨rfl, rfl, rfl, rfl, rfl, rfl, rfl, rfl, trivial⟩, hM⟩
     ·intro a w hI
      obtain ⟨Nl, hS, hM⟩ := hI
      rw [qa.j11] at hM
      refine qm <| sM hS rfl fun hS => sM hS rfl fun hS => sB hS rfl fun hS => zF (v := Value.int .i64) (x0 := (qg (Nv - Nl))) hS (xA rfl) rfl fun No a w hz hS => ?_
      have hM := qz hz hM; clear hz
      refine qA <| zl (fun a w => ∃ (Nw : List (zT 2)) (Ny : (List qb)) (NY : qk), Ss 220 [] [(0, .slice M4 Nw.length M7), (1, .int .i64 Nb), (3, .int .i64 Ng), (4, jF cq [] []), (18, .int .i64 Ni), (20, .int .i64 Nl), (24, .int .i64 No)] H [Nf, NY] F a w ∧ (xj 112 (zT.v (sz := 2)) 2 M4 Nw M7 NY) ∧ (zH (qj Nf) Ny Nw) ∧ (Nw.length = Na.length) ∧ (qa.j12 K (qa.r K d) Nb Ng Ni Nl No Ny).wp kr kp) (fun TO PM => ?_) ?_
      ·refine wp_seq ?_
       refine zM <| sM hS rfl fun hS => sM hS rfl fun hS => sB hS rfl fun hS => sM hS rfl fun hS => y4 3 true 181 (b := (decide (Nl < Nc))) (r := (decide (Nc < No))) hS rfl rfl rfl rfl rfl rfl rfl (fun hb a w hS K hK => ?_) rfl fun a w hS => ?_
       ·refine z2 hS rfl rfl rfl hb (mv rfl) rfl fun a w hS => ?_
        refine z2 hS rfl rfl rfl hb (mv rfl) rfl fun a w hS => z2 hS rfl rfl rfl hb (jv rfl rfl rfl) rfl fun a w hS => ?_
        exact zo (hK _ _ (hS.up 3 rfl rfl))
       refine qA <| qF hS rfl hM (fun SG hM => ?_) (fun SG hM => ?_)
       ·refine zM ?_
        refine sM hS rfl fun hS => sM hS rfl fun hS => sM hS rfl fun hS => sM hS rfl fun hS => sM hS rfl fun hS => qI hS rfl Tryd.call92 (yL cq hcq hG K M3 Nl Nc No Nf M4 M7 Na Nn Nh Nm (hS.st.part 2 [0, 1] (by kernel_rfl)) (qt hM) (fun Pc PB P9 w hM Tu Tv PE hst => qB hS.ev hst.appF rfl fun hS => ?_))
        replace hS : Ss _ _ _ H [Nf, P9] F _ _ := hS
        have Tj := Eq.trans PE NW
        replace hS := hS.re 0 (u := .slice M4 Na.length M7) (v := .slice M4 Pc.length M7) rfl (by rw [PE])
        replace hS := hS.re 186 (u := .slice M4 Na.length M7) (v := .slice M4 Pc.length M7) rfl (by rw [PE])
        refine zo <| qe ?_
        exact PM _ _ ⟨Pc, PB, P9, hS.to [0, 1] (by kernel_rfl) ⟨rfl, rfl, rfl, rfl, rfl, rfl, rfl, trivial⟩, Tu, Tv, Tj, hM⟩
       ·refine wp_skip ?_
        refine qe ?_
        exact PM _ _ ⟨Na, M3, Nn, hS.to [0, 1] (by kernel_rfl) ⟨rfl, rfl, rfl, rfl, rfl, rfl, rfl, trivial⟩, Nm, Nh, NW, hM⟩
      ·intro a w hI
       obtain ⟨Nw, Ny, NY, hS, PQ, PW, P4, hM⟩ := hI
       rw [qa.j12] at hM
       refine zl (fun a w => ∃ (Nx : List (zT 2)) (Nz : (List qb)) (NZ : qk), Ss 220 [] [(0, .slice M4 Nx.length M7), (3, .int .i64 Ng), (4, jF cq [] []), (18, .int .i64 Ni), (24, .int .i64 No)] H [Nf, NZ] F a w ∧ (xj 112 (zT.v (sz := 2)) 2 M4 Nx M7 NZ) ∧ (zH (qj Nf) Nz Nx) ∧ (Nx.length = Na.length) ∧ (qa.j13 K (qa.r K d) Ng Ni No Nz).wp kr kp) (fun TP PN => ?_) ?_
       ·refine wp_seq ?_
        refine zM <| sM hS rfl fun hS => sM hS rfl fun hS => sB hS rfl fun hS => sM hS rfl fun hS => y4 3 true 195 (b := (decide (Nb < Nl))) (r := (decide (Nl < Ni))) hS rfl rfl rfl rfl rfl rfl rfl (fun hb a w hS K hK => ?_) rfl fun a w hS => ?_
        ·refine z2 hS rfl rfl rfl hb (mv rfl) rfl fun a w hS => ?_
         refine z2 hS rfl rfl rfl hb (mv rfl) rfl fun a w hS => z2 hS rfl rfl rfl hb (jv rfl rfl rfl) rfl fun a w hS => ?_
         exact zo (hK _ _ (hS.up 3 rfl rfl))
        refine qA <| qF hS rfl hM (fun SH hM => ?_) (fun SH hM => ?_)
        ·refine zM ?_
         refine sM hS rfl fun hS => sM hS rfl fun hS => sM hS rfl fun hS => sM hS rfl fun hS => sM hS rfl fun hS => qI hS rfl Tryd.call86 (ih hG  Ny Nb Nl Ni Nf M4 M7 Nw NY PW PQ (hS.st.part 2 [0, 1] (by kernel_rfl)) (qt hM) (fun Pd PC Sa w hM Tw Tx PF hst => qB hS.ev hst.appF rfl fun hS => ?_))
         replace hS : Ss _ _ _ H [Nf, Sa] F _ _ := hS
         have Tk := Eq.trans PF P4
         replace hS := hS.re 0 (u := .slice M4 Nw.length M7) (v := .slice M4 Pd.length M7) rfl (by rw [PF])
         replace hS := hS.re 200 (u := .slice M4 Nw.length M7) (v := .slice M4 Pd.length M7) rfl (by rw [PF])
         refine zo <| qe ?_
         exact PN _ _ ⟨Pd, PC, Sa, hS.to [0, 1] (by kernel_rfl) ⟨rfl, rfl, rfl, rfl, rfl, trivial⟩, Tw, Tx, Tk, hM⟩
        ·refine wp_skip ?_
         refine qe ?_
         exact PN _ _ ⟨Nw, Ny, NY, hS.to [0, 1] (by kernel_rfl) ⟨rfl, rfl, rfl, rfl, rfl, trivial⟩, PQ, PW, P4, hM⟩
       ·intro a w hI
        obtain ⟨Nx, Nz, NZ, hS, PR, PX, P5, hM⟩ := hI
        rw [qa.j13] at hM
        refine qm <| sM hS rfl fun hS => sM hS rfl fun hS => sB hS rfl fun hS => sM hS rfl fun hS => y4 3 true 209 (b := (decide (Ni < No))) (r := (decide (No < Ng))) hS rfl rfl rfl rfl rfl rfl rfl (fun hb a w hS K hK => ?_) rfl fun a w hS => ?_
        ·refine z2 hS rfl rfl rfl hb (mv rfl) rfl fun a w hS => ?_
         refine z2 hS rfl rfl rfl hb (mv rfl) rfl fun a w hS => z2 hS rfl rfl rfl hb (jv rfl rfl rfl) rfl fun a w hS => ?_
         exact zo (hK _ _ (hS.up 3 rfl rfl))
        refine qA <| qF hS rfl hM (fun SI hM => ?_) (fun SI hM => ?_)
        ·refine zM ?_
         refine sM hS rfl fun hS => sM hS rfl fun hS => sM hS rfl fun hS => sM hS rfl fun hS => sM hS rfl fun hS => qI hS rfl Tryd.call86 (ih hG  Nz Ni No Ng Nf M4 M7 Nx NZ PX PR (hS.st.part 2 [0, 1] (by kernel_rfl)) (qt hM) (fun Pe PD Sb w hM Ty Tz PG hst => qB hS.ev hst.appF rfl fun hS => ?_))
         replace hS : Ss _ _ _ H [Nf, Sb] F _ _ := hS
         have Tl := Eq.trans PG P5
         replace hS := hS.re 0 (u := .slice M4 Nx.length M7) (v := .slice M4 Pe.length M7) rfl (by rw [PG])
         replace hS := hS.re 214 (u := .slice M4 Nx.length M7) (v := .slice M4 Pe.length M7) rfl (by rw [PG])
         refine zo ?_
         exact jS (rs := []) hS rfl rfl (hret Pe PD Sb _ (q8 hM) Ty Tz Tl (hS.st.pick [0, 1] (by kernel_rfl)))
        ·refine wp_skip ?_
         exact jS (rs := []) hS rfl rfl (hret Nx Nz NZ _ (q8 hM) PR PX P5 (hS.st.pick [0, 1] (by kernel_rfl)))
theorem xU (cq : Nat) (hcq : cq = 56 ∨ cq = 76) {H : xT} {F : List qk} {w : World} {R : Ending → World → Prop} {kr : (List qb) → Prop} {kp : Value → Prop} (hG : Gl H) (K : Nat) (M3 : List qb) (M7 : Int) (Nd : Int) (M8 : Int) (M6 : qk) (Na : Option Addr) (Nb : Nat) (M4 : List (zT 2)) (Nc : qk) (Nh : zH (qj M6) M3 M4) (Ng : xj 112 (zT.v (sz := 2)) 2 Na M4 Nb Nc)
    (hS : St w H [M6, Nc] F) (hm : (qa.m K M3 M7 Nd M8).wp kr kp)
    (hret : ∀ (M9 : List (zT 2)) (M5 : (List qb)) (Nf : qk) (w : World), kr M5 → (xj 112 (zT.v (sz := 2)) 2 Na M9 Nb Nf) → (zH (qj M6) M5 M9) → (M9.length = M4.length) → St w H [M6, Nf] F → R (.returned (.tuple ⟨[]⟩)) w) :
    Calls Tryd.prog 86 ⟨[.slice Na M4.length Nb, .int .i64 M7, .int .i64 Nd, .int .i64 M8, jF cq [] []]⟩ w R := yD cq hcq K K hG M3 M7 Nd M8 M6 Na Nb M4 Nc Nh Ng hS hm hret
theorem yM (cq : Nat) (hcq : cq = 56 ∨ cq = 76) {H : xT} {F : List qk} {w : World} {R : Ending → World → Prop} {kr : (List qb) → Prop} {kp : Value → Prop} (hG : Gl H) (K : Nat) (Np : List qb) (M7 : Int) (M6 : qk) (M4 : Option Addr) (M5 : Nat) (M8 : List (zT 2)) (NJ : qk) (Pm : zH (qj M6) Np M8) (Pf : xj 112 (zT.v (sz := 2)) 2 M4 M8 M5 NJ)
    (hS : St w H [M6, NJ] F) (hm : (qd.m K Np M7).wp kr kp)
    (hret : ∀ (NC : List (zT 2)) (Nt : (List qb)) (N5 : qk) (w : World), kr Nt → (xj 112 (zT.v (sz := 2)) 2 M4 NC M5 N5) → (zH (qj M6) Nt NC) → (NC.length = M8.length) → St w H [M6, N5] F → R (.returned (.tuple ⟨[]⟩)) w) :
    Calls Tryd.prog 73 ⟨[.slice M4 M8.length M5, .int .i64 M7, jF cq [] []]⟩ w R := by
 refine enter Tryd.func73 rfl Tryd.ntmps73 rfl hS fun a w hS => ?_
 have hM := hm; clear hm
 rw [qd.m] at hM
 have PE : ∀ q ∈ M6, q ∈ M6 := fun _ h => h
 have Po : M8.length = M8.length := rfl
 refine qm <| sA hS rfl fun hS => qA <| qm <| sM hS rfl fun hS => sA hS rfl fun hS => sA hS rfl fun hS => qA <| zl (fun a w => ∃ (Nh : List (zT 2)) (Nj : (List qb)) (ND : qk) (Ns : Int), Ss 63 [] [(0, .slice M4 Nh.length M5), (1, .int .i64 M7), (2, jF cq [] []), (6, .int .i64 (20 : Int)), (7, .int .i64 Ns)] H [M6, ND] F a w ∧ (xj 112 (zT.v (sz := 2)) 2 M4 Nh M5 ND) ∧ (zH (qj M6) Nj Nh) ∧ (Nh.length = M8.length) ∧ (qd.j2 K M7 Nj Ns).wp kr kp) (fun PG Pc => ?_) ?_
 ·refine xQ ?_
  refine zv (fun N6 a w => ∃ (M9 : List (zT 2)) (Nc : (List qb)) (Nu : qk) (Nn : Int) (Nl : Int), Ss 63 [] [(0, .slice M4 M9.length M5), (1, .int .i64 M7), (2, jF cq [] []), (6, .int .i64 (20 : Int)), (7, .int .i64 Nn), (8, .int .i64 Nl)] H [M6, Nu] F a w ∧ (xj 112 (zT.v (sz := 2)) 2 M4 M9 M5 Nu) ∧ (zH (qj M6) Nc M9) ∧ (M9.length = M8.length) ∧ (qd.l1 K M7 N6 Nc Nn Nl).wp kr kp) K ?_ ?_ ?_
  ·exact ⟨M8, Np, NJ, (0 : Int), (20 : Int), hS.to [0, 1] (by kernel_rfl) ⟨rfl, rfl, rfl, rfl, rfl, rfl, trivial⟩, Pf, Pm, Po, hM⟩
  ·intro a w hI; obtain ⟨_, _, _, _, _, _, _, _, _, hM⟩ := hI; exact zu hM
  ·intro N6 a w hI PF Pb
   obtain ⟨M9, Nc, Nu, Nn, Nl, hS, NP, NT, NX, hM⟩ := hI
   rw [qd.l1] at hM
   refine wp_seq <| qm <| sM hS rfl fun hS => sM hS rfl fun hS => sB hS rfl fun hS => qA <| qF hS rfl hM (fun Ph hM => ?_) (fun Ph hM => ?_)
   ·refine wp_skip ?_
    refine qe <| xQ <| qm <| sM hS rfl fun hS => sM hS rfl fun hS => sM hS rfl fun hS => sM hS rfl fun hS => qI hS rfl Tryd.call85 (xP cq hcq hG K Nc Nn Nl M6 M4 M5 M9 Nu NT NP (hS.st.part 2 [0, 1] (by kernel_rfl)) (qt hM) (fun Ny NF N1 w hM Pv Pw NK hst => qB hS.ev hst.appF rfl fun hS => ?_))
    replace hS : Ss _ _ _ H [M6, N1] F _ _ := hS
    have Pp := Eq.trans NK NX
    replace hS := hS.re 0 (u := .slice M4 M9.length M5) (v := .slice M4 Ny.length M5) rfl (by rw [NK])
    replace hS := hS.re 14 (u := .slice M4 M9.length M5) (v := .slice M4 Ny.length M5) rfl (by rw [NK])
    refine qA <| qm <| sM hS rfl fun hS => sA hS rfl fun hS => qA <| zM <| sM hS rfl fun hS => sM hS rfl fun hS => sB hS rfl fun hS => zF (v := Value.int .i64) (x0 := (qg (Nl + (20 : Int)))) hS (xA rfl) rfl fun N8 a w hz hS => ?_
    have hM := qz hz hM; clear hz
    refine zo <| zx (qe ?_)
    exact Pb _ _ ⟨Ny, NF, N1, Nl, N8, hS.to [0, 1] (by kernel_rfl) ⟨rfl, rfl, rfl, rfl, rfl, rfl, trivial⟩, Pv, Pw, Pp, hM⟩
   ·refine wp_exit ?_
    refine qE (qE (zd (qe ?_)))
    exact Pc _ _ ⟨M9, Nc, Nu, Nn, hS.to [0, 1] (by kernel_rfl) ⟨rfl, rfl, rfl, rfl, rfl, trivial⟩, NP, NT, NX, hM⟩
 ·intro a w hI
  obtain ⟨Nh, Nj, ND, Ns, hS, Pg, Pn, Pq, hM⟩ := hI
  rw [qd.j2] at hM
  refine qm <| sM hS rfl fun hS => sM hS rfl fun hS => sM hS rfl fun hS => sM hS rfl fun hS => qI hS rfl Tryd.call85 (xP cq hcq hG K Nj Ns M7 M6 M4 M5 Nh ND Pn Pg (hS.st.part 2 [0, 1] (by kernel_rfl)) (qt hM) (fun Nz NG N2 w hM Px Py NL hst => qB hS.ev hst.appF rfl fun hS => ?_))
  replace hS : Ss _ _ _ H [M6, N2] F _ _ := hS
  have Pr := Eq.trans NL Pq
  replace hS := hS.re 0 (u := .slice M4 Nh.length M5) (v := .slice M4 Nz.length M5) rfl (by rw [NL])
  replace hS := hS.re 23 (u := .slice M4 Nh.length M5) (v := .slice M4 Nz.length M5) rfl (by rw [NL])
  refine qA <| xQ <| zv (fun NE a w => ∃ (Ni : List (zT 2)) (Nd : (List qb)) (Nv : qk) (M3 : Int), Ss 63 [] [(0, .slice M4 Ni.length M5), (1, .int .i64 M7), (2, jF cq [] []), (6, .int .i64 M3)] H [M6, Nv] F a w ∧ (xj 112 (zT.v (sz := 2)) 2 M4 Ni M5 Nv) ∧ (zH (qj M6) Nd Ni) ∧ (Ni.length = M8.length) ∧ (qd.l3 K M7 NE Nd M3).wp kr kp) K ?_ ?_ ?_
  ·exact ⟨Nz, NG, N2, (20 : Int), hS.to [0, 1] (by kernel_rfl) ⟨rfl, rfl, rfl, rfl, trivial⟩, Px, Py, Pr, hM⟩
  ·intro a w hI; obtain ⟨_, _, _, _, _, _, _, _, hM⟩ := hI; exact zu hM
  ·intro NE a w hI PJ NO
   obtain ⟨Ni, Nd, Nv, M3, hS, NQ, NU, NY, hM⟩ := hI
   rw [qd.l3] at hM
   refine wp_seq <| qm <| sM hS rfl fun hS => sM hS rfl fun hS => sB hS rfl fun hS => qA <| qF hS rfl hM (fun Pi hM => ?_) (fun Pi hM => ?_)
   ·refine wp_skip ?_
    refine qe <| xQ <| qm <| sM hS rfl fun hS => sB hS rfl fun hS => sA hS rfl fun hS => zF (v := Value.int .i64) (x0 := (qg ((2 : Int) * M3))) hS (xA rfl) rfl fun N9 a w hz hS => ?_
    have hM := qz hz hM; clear hz
    refine qA <| zl (fun a w => ∃ (Nb : List (zT 2)) (Ng : (List qb)) (Nx : qk) (No : Int), Ss 63 [] [(0, .slice M4 Nb.length M5), (1, .int .i64 M7), (2, jF cq [] []), (6, .int .i64 M3), (7, .int .i64 No)] H [M6, Nx] F a w ∧ (xj 112 (zT.v (sz := 2)) 2 M4 Nb M5 Nx) ∧ (zH (qj M6) Ng Nb) ∧ (Nb.length = M8.length) ∧ (qd.j5 K (qd.l3 K M7 NE) M7 M3 Ng No).wp kr kp) (fun PI Pe => ?_) ?_
    ·refine xQ ?_
     refine zv (fun N7 a w => ∃ (Na : List (zT 2)) (Nf : (List qb)) (Nw : qk) (Nk : Int) (Nm : Int), Ss 63 [] [(0, .slice M4 Na.length M5), (1, .int .i64 M7), (2, jF cq [] []), (6, .int .i64 M3), (7, .int .i64 Nk), (8, .int .i64 Nm)] H [M6, Nw] F a w ∧ (xj 112 (zT.v (sz := 2)) 2 M4 Na M5 Nw) ∧ (zH (qj M6) Nf Na) ∧ (Na.length = M8.length) ∧ (qd.l4 K (qd.l3 K M7 NE) M7 M3 N7 Nf Nk Nm).wp kr kp) K ?_ ?_ ?_
     ·exact ⟨Ni, Nd, Nv, (0 : Int), N9, hS.to [0, 1] (by kernel_rfl) ⟨rfl, rfl, rfl, rfl, rfl, rfl, trivial⟩, NQ, NU, NY, hM⟩
     ·intro a w hI; obtain ⟨_, _, _, _, _, _, _, _, _, hM⟩ := hI; exact zu hM
     ·intro N7 a w hI PH Pd
      obtain ⟨Na, Nf, Nw, Nk, Nm, hS, NR, NV, NZ, hM⟩ := hI
      rw [qd.l4] at hM
      refine wp_seq <| qm <| sM hS rfl fun hS => sM hS rfl fun hS => sB hS rfl fun hS => qA <| qF hS rfl hM (fun Pj hM => ?_) (fun Pj hM => ?_)
      ·refine wp_skip ?_
       refine qe <| xQ <| qm <| sM hS rfl fun hS => sM hS rfl fun hS => sM hS rfl fun hS => sM hS rfl fun hS => sB hS rfl fun hS => sM hS rfl fun hS => sM hS rfl fun hS => qI hS rfl Tryd.call86 (xU cq hcq hG K Nf Nk (qg (Nk + M3)) Nm M6 M4 M5 Na Nw NV NR (hS.st.part 2 [0, 1] (by kernel_rfl)) (qt hM) (fun NA NH N3 w hM Pz PA NM hst => qB hS.ev hst.appF rfl fun hS => ?_))
       replace hS : Ss _ _ _ H [M6, N3] F _ _ := hS
       have Ps := Eq.trans NM NZ
       replace hS := hS.re 0 (u := .slice M4 Na.length M5) (v := .slice M4 NA.length M5) rfl (by rw [NM])
       replace hS := hS.re 36 (u := .slice M4 Na.length M5) (v := .slice M4 NA.length M5) rfl (by rw [NM])
       refine qA <| qm <| sM hS rfl fun hS => sA hS rfl fun hS => qA <| zM <| sM hS rfl fun hS => sM hS rfl fun hS => sB hS rfl fun hS => sB hS rfl fun hS => zF (v := Value.int .i64) (x0 := (qg (Nm + (qg ((2 : Int) * M3))))) hS (xA rfl) rfl fun Pa a w hz hS => ?_
       have hM := qz hz hM; clear hz
       refine zo <| zx (qe ?_)
       exact Pd _ _ ⟨NA, NH, N3, Nm, Pa, hS.to [0, 1] (by kernel_rfl) ⟨rfl, rfl, rfl, rfl, rfl, rfl, trivial⟩, Pz, PA, Ps, hM⟩
      ·refine wp_exit ?_
       refine qE (qE (zd (qe ?_)))
       exact Pe _ _ ⟨Na, Nf, Nw, Nk, hS.to [0, 1] (by kernel_rfl) ⟨rfl, rfl, rfl, rfl, rfl, trivial⟩, NR, NV, NZ, hM⟩
    ·intro a w hI
     obtain ⟨Nb, Ng, Nx, No, hS, NS, NW, N0, hM⟩ := hI
     rw [qd.j5] at hM
     refine wp_seq <| qm <| sM hS rfl fun hS => sM hS rfl fun hS => sB hS rfl fun hS => zF (v := Value.int .i64) (x0 := (qg (No + M3))) hS (xA rfl) rfl fun PD a w hz hS => ?_
     have hM := qz hz hM; clear hz
     refine qA <| qm <| sM hS rfl fun hS => sM hS rfl fun hS => sB hS rfl fun hS => qA <| qF hS rfl hM (fun Pk hM => ?_) (fun Pk hM => ?_)
     ·refine zM ?_
      refine sM hS rfl fun hS => sM hS rfl fun hS => sM hS rfl fun hS => sM hS rfl fun hS => sM hS rfl fun hS => qI hS rfl Tryd.call86 (xU cq hcq hG K Ng No PD M7 M6 M4 M5 Nb Nx NW NS (hS.st.part 2 [0, 1] (by kernel_rfl)) (qt hM) (fun NB NI N4 w hM PB PC NN hst => qB hS.ev hst.appF rfl fun hS => ?_))
      replace hS : Ss _ _ _ H [M6, N4] F _ _ := hS
      have Pt := Eq.trans NN N0
      replace hS := hS.re 0 (u := .slice M4 Nb.length M5) (v := .slice M4 NB.length M5) rfl (by rw [NN])
      replace hS := hS.re 55 (u := .slice M4 Nb.length M5) (v := .slice M4 NB.length M5) rfl (by rw [NN])
      refine qA <| zM <| sM hS rfl fun hS => sB hS rfl fun hS => zF (v := Value.int .i64) (x0 := (qg (M3 * (2 : Int)))) hS (xA rfl) rfl fun Nq a w hz hS => ?_
      have hM := qz hz hM; clear hz
      refine zo <| zx (qe ?_)
      exact NO _ _ ⟨NB, NI, N4, Nq, hS.to [0, 1] (by kernel_rfl) ⟨rfl, rfl, rfl, rfl, trivial⟩, PB, PC, Pt, hM⟩
     ·refine wp_skip ?_
      refine qe <| zM <| sM hS rfl fun hS => sB hS rfl fun hS => zF (v := Value.int .i64) (x0 := (qg (M3 * (2 : Int)))) hS (xA rfl) rfl fun Nr a w hz hS => ?_
      have hM := qz hz hM; clear hz
      refine zo <| zx (qe ?_)
      exact NO _ _ ⟨Nb, Ng, Nx, Nr, hS.to [0, 1] (by kernel_rfl) ⟨rfl, rfl, rfl, rfl, trivial⟩, NS, NW, N0, hM⟩
   ·refine wp_exit ?_
    refine qE (qE (zd ?_))
    exact jS (rs := []) hS rfl rfl (hret Ni Nd Nv _ (q8 hM) NQ NU NY (hS.st.pick [0, 1] (by kernel_rfl)))
theorem xx (cq : Nat) (hcq : cq = 56 ∨ cq = 76) {H : xT} {F : List qk} {w : World} {R : Ending → World → Prop} {kr : (List qb) → Prop} {kp : Value → Prop} (hG : Gl H) (K : Nat) (M8 : List qb) (M6 : qk) (M4 : Option Addr) (M5 : Nat) (M3 : List (zT 2)) (Nc : qk) (Nd : zH (qj M6) M8 M3) (Ni : xj 112 (zT.v (sz := 2)) 2 M4 M3 M5 Nc)
    (hS : St w H [M6, Nc] F) (hm : (qU.m K M8).wp kr kp)
    (hret : ∀ (M9 : List (zT 2)) (Nh : (List qb)) (Ng : qk) (w : World), kr Nh → (xj 112 (zT.v (sz := 2)) 2 M4 M9 M5 Ng) → (zH (qj M6) Nh M9) → (M9.length = M3.length) → St w H [M6, Ng] F → R (.returned (.tuple ⟨[]⟩)) w) :
    Calls Tryd.prog 55 ⟨[.slice M4 M3.length M5, jF cq [] []]⟩ w R := by
 refine enter Tryd.func55 rfl Tryd.ntmps55 rfl hS fun a w hS => ?_
 have hM := hm; clear hm
 rw [qU.m] at hM
 have Nn : ∀ q ∈ M6, q ∈ M6 := fun _ h => h
 have Nj : M3.length = M3.length := rfl
 refine zM <| sM hS rfl fun hS => sM hS rfl fun hS => sO hS (qX (v' := .int .i64 (M8.length : Int)) (yc rfl Tryd.runUnderlying110) (by rw [Nd.len])) rfl fun hS => sM hS rfl fun hS => qI hS rfl Tryd.call73 (yM cq hcq hG K M8 (M8.length : Int) M6 M4 M5 M3 Nc Nd Ni (hS.st.part 2 [0, 1] (by kernel_rfl)) (qt hM) (fun M7 Nb Nf w hM Nl Nm Na hst => qB hS.ev hst.appF rfl fun hS => ?_))
 replace hS : Ss _ _ _ H [M6, Nf] F _ _ := hS
 have Nk := Eq.trans Na Nj
 replace hS := hS.re 0 (u := .slice M4 M3.length M5) (v := .slice M4 M7.length M5) rfl (by rw [Na])
 replace hS := hS.re 4 (u := .slice M4 M3.length M5) (v := .slice M4 M7.length M5) rfl (by rw [Na])
 replace hS := hS.re 5 (u := .slice M4 M3.length M5) (v := .slice M4 M7.length M5) rfl (by rw [Na])
 refine zo ?_
 exact jS (rs := []) hS rfl rfl (hret M7 Nb Nf _ (q8 hM) Nl Nm Nk (hS.st.pick [0, 1] (by kernel_rfl)))
def vB (p : qk) (x : (List Int)) (vs : List Value) : Prop :=
  ∃ (A0 : Option Addr) (c0 : Nat), vs = [.slice A0 x.length c0] ∧ Pl p (ci .i64) A0 x ∧ x.length ≤ c0
theorem vB.mono {p p' : qk} (hs : ∀ q ∈ p, q ∈ p') {x : (List Int)} {vs : List Value} (h : vB p x vs) : vB p' x vs := by
  obtain ⟨A0, c0, h0, h1, h2⟩ := h
  exact ⟨A0, c0, h0, h1.mono hs, h2⟩
theorem vo {H : xT} {F : List qk} {w : World} {R : Ending → World → Prop} {kr : Unit → Prop} {kp : Value → Prop} (hG : Gl H) (K : Nat) (M3 : Int)
    (hS : St w H [] F) (hm : (xO.m K M3).wp kr kp)
    (hret : ∀ (M4 : Option Addr) (M5 : Nat) (M6 : qk) (w : World), kr () → (xj 3 (ci .i64) 1 M4 ([] : List Int) M5 M6) → St w H [M6] F → R (.returned (.slice M4 ([] : List Int).length M5)) w)
    (hpan : ∀ v w, kp v → St w H [] F → R (.panicked [⟨v, false, false⟩]) w) :
    Calls Tryd.prog 88 ⟨[.slice none 0 0, .int .i64 M3]⟩ w R := by
 refine enter Tryd.func88 rfl Tryd.ntmps88 rfl hS fun a w hS => ?_
 have hM := hm; clear hm
 rw [xO.m] at hM
 refine qm <| sA hS rfl fun hS => ?_
 obtain ⟨Nl, Nj, hS⟩ := hS.nilV 3 (ci .i64) 1
 refine qA <| wp_seq <| qm <| sM hS rfl fun hS => sB hS rfl fun hS => qA <| qF hS rfl hM (fun Na hM => ?_) (fun Na hM => ?_)
 ·refine zM ?_
  refine sO hS (Lv rfl Tryd.runUnderlying9 rfl) rfl fun hS => QO hS rfl <| qD ?_
  exact ⟨hS.ev.defs, hpan _ _ (Xa hM) hS.st.frame⟩
 ·refine wp_skip ?_
  refine qe <| wp_seq <| qm <| sM hS rfl fun hS => sM hS rfl fun hS => sO hS (DH rfl Tryd.runUnderlying66) rfl fun hS => sM hS rfl fun hS => sO hS (yc rfl Tryd.runUnderlying66) rfl fun hS => sB hS rfl fun hS => sB hS rfl fun hS => zF (v := Value.int .i64) (x0 := (qg (M3 - (qg ((0 : Int) - (0 : Int)))))) hS (xA rfl) rfl fun Nk a w hz hS => ?_
  have hM := qz hz hM; clear hz
  refine qA <| qm <| sM hS rfl fun hS => sB hS rfl fun hS => qA <| qF hS rfl hM (fun Nb hM => ?_) (fun Nb hM => ?_)
  ·refine zM ?_
   refine sM hS rfl fun hS => sM hS rfl fun hS => sO hS (DH rfl Tryd.runUnderlying66) rfl fun hS => sO hS (MD rfl Tryd.runUnderlying66 Tryd.sizeOf3 (DR rfl)) rfl fun hS => sM hS rfl fun hS => ?_
   obtain ⟨Nd, hM⟩ := qK hM
   refine Mu (g := (ci .i64)) hS rfl rfl Tryd.runUnderlying66 Tryd.runUnderlying3 X.el3 rfl rfl Nd rfl fun w Nf Ng Nh M8 Nc M7 hS => sM hS rfl fun hS => sO hS (yc rfl Tryd.runUnderlying66) rfl fun hS => sO hS (MC rfl Tryd.runUnderlying66 Tryd.sizeOf3 (fun _ => DR rfl) Nc M7) rfl fun hS => sA hS rfl fun hS => qA <| qm <| sM hS rfl fun hS => sA hS rfl fun hS => qA <| wp_ret ?_
   exact zE (rs := [4]) hS rfl rfl (hret Nf Ng Nh _ (q8 hM) M8 (hS.st.pick [0] (by kernel_rfl)))
  ·refine wp_skip ?_
   refine qe <| qm <| sM hS rfl fun hS => sA hS rfl fun hS => ?_
   obtain ⟨Ni, M9, hS⟩ := hS.nilV 3 (ci .i64) 1
   refine qA <| wp_ret ?_
   exact zE (rs := [4]) hS rfl rfl (hret none (0) Ni _ (q8 hM) M9 (hS.st.pick [0] (by kernel_rfl)))
theorem v4 {H : xT} {F : List qk} {w : World} {R : Ending → World → Prop} {kr : (List Int) → Prop} {kp : Value → Prop} (hG : Gl H) (K : Nat) (M3 : List (List Int)) (M8 : qk) (Na : Option Addr) (Nb : Nat) (M5 : List (zT 1)) (M6 : zH (vB M8) M3 M5) (Nf : Pl M8 (zT.v (sz := 1)) Na M5) (NN : M5.length ≤ Nb)
    (hS : St w H [M8] F) (hm : (qT.m K M3).wp kr kp)
    (hret : ∀ (No : Option Addr) (Np : Nat) (Nn : (List Int)) (Nr : qk) (w : World), kr Nn → (xj 3 (ci .i64) 1 No Nn Np Nr) → St w H [M8, Nr] F → R (.returned (.slice No Nn.length Np)) w)
    (hpan : ∀ v w, kp v → St w H [] F → R (.panicked [⟨v, false, false⟩]) w) :
    Calls Tryd.prog 77 ⟨[.slice Na M5.length Nb]⟩ w R := by
 refine enter Tryd.func77 rfl Tryd.ntmps77 rfl hS fun a w hS => ?_
 have hM := hm; clear hm
 rw [qT.m] at hM
 have NR : ∀ q ∈ M8, q ∈ M8 := fun _ h => h
 refine qm <| sA hS rfl fun hS => ?_
 obtain ⟨NZ, NM, hS⟩ := hS.nilV 3 (ci .i64) 1
 refine qA <| qm <| sA hS rfl fun hS => qA <| zl (fun a w => ∃ (M9 : Int), Ss 36 [] [(0, .slice Na M5.length Nb), (3, .int .i64 M9)] H [M8] F a w ∧ (qT.j2 K M3 M9).wp kr kp) (fun NV Nv => ?_) ?_
 ·refine wp_seq ?_
  refine zM <| sM hS rfl fun hS => sO hS (qX (v' := .int .i64 (M3.length : Int)) (yc rfl Tryd.runUnderlying153) (by rw [M6.len])) rfl fun hS => sM hS rfl fun hS => qA <| xQ <| zv (fun Ns a w => ∃ (M7 : Int) (Nc : Int), Ss 36 [] [(0, .slice Na M5.length Nb), (3, .int .i64 M7), (9, .slice Na M5.length Nb), (10, .int .i64 (M3.length : Int)), (11, .int .i64 Nc)] H [M8] F a w ∧ (qT.l1 K M3 Ns M7 Nc).wp kr kp) K ?_ ?_ ?_
  ·exact ⟨(0 : Int), (0 : Int), hS.to [1] (by kernel_rfl) ⟨rfl, rfl, rfl, rfl, rfl, trivial⟩, hM⟩
  ·intro a w hI; obtain ⟨_, _, _, hM⟩ := hI; exact zu hM
  ·intro Ns a w hI NU Nu
   obtain ⟨M7, Nc, hS, hM⟩ := hI
   rw [qT.l1] at hM
   refine qm <| sB hS rfl fun hS => qA <| wp_seq <| qF hS rfl hM (fun Ny hM => ?_) (fun Ny hM => ?_)
   ·refine wp_skip ?_
    refine qe <| wp_seq <| xQ <| wp_seq <| zM ?_
    obtain ⟨Ng, hM⟩ := qK hM
    refine sO hS (yu rfl rfl Tryd.runUnderlying153 Tryd.sizeOf66 (Nf.rd (i := 0) rfl) zT.len rfl (M6.inb Ng)) rfl fun hS => ?_
    obtain ⟨NS, NX, ND, NQ, NO⟩ := M6.get Ng
    refine sO hS (yG rfl (Nf.rd (i := 0) rfl) zT.len (M6.inb Ng) (by rw [show zT.v (rd M5 Nc) = _ from ND]; rfl) Tryd.isAgg66) rfl fun hS => sA hS rfl fun hS => qA <| qm <| sM hS rfl fun hS => sM hS rfl fun hS => sO hS (yc rfl Tryd.runUnderlying66) rfl fun hS => sB hS rfl fun hS => zF (v := Value.int .i64) (x0 := (qg (M7 + ((rd M3 Nc).length : Int)))) hS (xA rfl) rfl fun Nm a w hz hS => ?_
    have hM := qz hz hM; clear hz
    refine qA <| qm <| sM hS rfl fun hS => sB hS rfl fun hS => qA <| qF hS rfl hM (fun Nz hM => ?_) (fun Nz hM => ?_)
    ·refine zM ?_
     refine sO hS (Lv rfl Tryd.runUnderlying9 rfl) rfl fun hS => QO hS rfl <| zR (qD (qD (zR (qD ?_))))
     exact ⟨hS.ev.defs, hpan _ _ (Xa hM) hS.st.frame⟩
    ·refine wp_skip ?_
     refine zx (qe ?_)
     refine zM <| sB hS rfl fun hS => sM hS rfl fun hS => zo <| qe ?_
     exact Nu _ _ ⟨Nm, (qg (Nc + (1 : Int))), hS.to [0] (by kernel_rfl) ⟨rfl, rfl, rfl, rfl, rfl, trivial⟩, hM⟩
   ·refine wp_exit ?_
    refine qE (qE (zd (qe ?_)))
    exact Nv _ _ ⟨M7, hS.to [0] (by kernel_rfl) ⟨rfl, rfl, trivial⟩, hM⟩
 ·intro a w hI
  obtain ⟨M9, hS, hM⟩ := hI
  rw [qT.j2] at hM
  refine qm <| sM hS rfl fun hS => qI hS rfl Tryd.call88 (vo hG K M9 (hS.st.part 0 [0] (by kernel_rfl)) (qt hM) (fun NG NI Nq w hM NL hst => qB hS.ev hst.appF rfl fun hS => ?_) (fun v w hk hst => xo (qD (⟨hS.ev.defs, hpan _ _ hk hst.appF.frame⟩))))
  replace hS : Ss _ _ _ H [Nq, M8] F _ _ := hS
  refine sA hS rfl fun hS => qA <| wp_seq <| qm <| sM hS rfl fun hS => sO hS (qX (v' := .int .i64 (M3.length : Int)) (yc rfl Tryd.runUnderlying153) (by rw [M6.len])) rfl fun hS => sM hS rfl fun hS => qA <| xQ <| zv (fun Nt a w => ∃ (Ni : Option Addr) (Nj : Nat) (M4 : (List Int)) (Nk : qk) (Nd : Int), Ss 36 [] [(6, .slice Ni M4.length Nj), (25, .slice Na M5.length Nb), (26, .int .i64 (M3.length : Int)), (27, .int .i64 Nd)] H [M8, Nk] F a w ∧ (xj 3 (ci .i64) 1 Ni M4 Nj Nk) ∧ (qT.l3 K M3 Nt M4 Nd).wp kr kp) K ?_ ?_ ?_
  ·exact ⟨NG, NI, ([] : List Int), Nq, (0 : Int), hS.to [1, 0] (by kernel_rfl) ⟨rfl, rfl, rfl, rfl, trivial⟩, NL, hM⟩
  ·intro a w hI; obtain ⟨_, _, _, _, _, _, _, hM⟩ := hI; exact zu hM
  ·intro Nt a w hI NW Nw
   obtain ⟨Ni, Nj, M4, Nk, Nd, hS, Nl, hM⟩ := hI
   rw [qT.l3] at hM
   refine qm <| sB hS rfl fun hS => qA <| wp_seq <| qF hS rfl hM (fun NA hM => ?_) (fun NA hM => ?_)
   ·refine wp_skip ?_
    refine qe <| wp_seq <| xQ <| wp_seq <| zM ?_
    obtain ⟨Nh, hM⟩ := qK hM
    refine sO hS (yu rfl rfl Tryd.runUnderlying153 Tryd.sizeOf66 (Nf.rd (i := 0) rfl) zT.len rfl (M6.inb Nh)) rfl fun hS => ?_
    obtain ⟨NT, NY, NE, NC, NP⟩ := M6.get Nh
    refine sO hS (yG rfl (Nf.rd (i := 0) rfl) zT.len (M6.inb Nh) (by rw [show zT.v (rd M5 Nd) = _ from NE]; rfl) Tryd.isAgg66) rfl fun hS => sA hS rfl fun hS => qA <| zM <| sM hS rfl fun hS => sM hS rfl fun hS => ?_
    obtain ⟨NB, hM⟩ := qK hM
    refine J5 (ys := (rd M3 Nd)) 1 hS rfl rfl Nl rfl (NC.rd (i := 0) rfl) Tryd.runUnderlying66 Tryd.runUnderlying66 X.el3 (fun _ => rfl) rfl xJ NB rfl fun NF w NH NJ NK hz Nx hS => ?_
    have hM := qz hz hM; clear hz
    refine sA hS rfl fun hS => zo <| zx (qe ?_)
    refine zM <| sB hS rfl fun hS => sM hS rfl fun hS => zo <| qe ?_
    exact Nw _ _ ⟨NH, NJ, NF, NK, (qg (Nd + (1 : Int))), hS.to [0, 1] (by kernel_rfl) ⟨rfl, rfl, rfl, rfl, trivial⟩, Nx, hM⟩
   ·refine wp_exit ?_
    refine qE (qE (zd (qe ?_)))
    refine qm <| sM hS rfl fun hS => sA hS rfl fun hS => qA <| wp_ret ?_
    exact zE (rs := [2]) hS rfl rfl (hret Ni Nj M4 Nk _ (q8 hM) Nl (hS.st.pick [0, 1] (by kernel_rfl)))
theorem JF {H : xT} {F : List qk} {w : World} {R : Ending → World → Prop} {kr : (List qb) → Prop} {kp : Value → Prop} (hG : Gl H) (K : Nat) (M4 : List qb) (Nl : qk) (M5 : Option Addr) (M9 : Nat) (M6 : List (zT 2)) (Pc : zH (qj Nl) M4 M6) (Pa : Pl Nl (zT.v (sz := 2)) M5 M6) (N3 : M6.length ≤ M9)
    (hS : St w H [Nl] F) (hm : (xX.m K M4).wp kr kp)
    (hret : ∀ (NQ : qk) (NR : Option Addr) (NS : Nat) (NG : List (zT 2)) (NX : (List qb)) (NT : qk) (w : World), kr NX → (∀ q ∈ Nl, q ∈ NQ) → (xj 112 (zT.v (sz := 2)) 2 NR NG NS NT) → (zH (qj NQ) NX NG) → St w H [NQ, NT] F → R (.returned (.slice NR NG.length NS)) w)
    (hpan : ∀ v w, kp v → St w H [] F → R (.panicked [⟨v, false, false⟩]) w) :
    Calls Tryd.prog 59 ⟨[.slice M5 M6.length M9]⟩ w R := by
 refine enter Tryd.func59 rfl Tryd.ntmps59 rfl hS fun a w hS => ?_
 have hM := hm; clear hm
 rw [xX.m] at hM
 have Pe : ∀ q ∈ Nl, q ∈ Nl := fun _ h => h
 refine qm <| sA hS rfl fun hS => ?_
 obtain ⟨PB, Pp, hS⟩ := hS.nilV 112 (zT.v (sz := 2)) 2
 have Pv : zH (qj Nl) ([] : List qb) ([] : List (zT 2)) := zH.nil
 refine qA <| qm <| sA hS rfl fun hS => ?_
 obtain ⟨Pk, NZ, hS⟩ := hS.nilV 112 (zT.v (sz := 2)) 2
 have Pd : zH (qj Nl) ([] : List qb) ([] : List (zT 2)) := zH.nil
 refine qA <| wp_seq <| qm <| sA hS rfl fun hS => qA <| xQ <| zv (fun NV a w => ∃ (Nm : qk) (Nj : Option Addr) (Nk : Nat) (Nc : List (zT 2)) (Nt : (List qb)) (NC : qk) (M3 : Int), Ss 42 [] [(0, .slice M5 M6.length M9), (3, .slice Nj Nc.length Nk), (4, .int .i64 M3)] H [Nm, NC] F a w ∧ (∀ q ∈ Nl, q ∈ Nm) ∧ (zH (qj Nm) M4 M6) ∧ (Pl Nm (zT.v (sz := 2)) M5 M6) ∧ (M6.length ≤ M9) ∧ (xj 112 (zT.v (sz := 2)) 2 Nj Nc Nk NC) ∧ (zH (qj Nm) Nt Nc) ∧ (xX.l1 K M4 NV Nt M3).wp kr kp) K ?_ ?_ ?_
 ·exact ⟨Nl, none, 0, ([] : List (zT 2)), ([] : List qb), Pk, (0 : Int), hS.to [2, 0] (by kernel_rfl) ⟨rfl, rfl, rfl, trivial⟩, Pe, Pc, Pa, N3, NZ, Pd, hM⟩
 ·intro a w hI; obtain ⟨_, _, _, _, _, _, _, _, _, _, _, _, _, _, hM⟩ := hI; exact zu hM
 ·intro NV a w hI Py NY
  obtain ⟨Nm, Nj, Nk, Nc, Nt, NC, M3, hS, Nu, M7, M8, N4, NL, Nn, hM⟩ := hI
  rw [xX.l1] at hM
  refine wp_seq <| qm <| sM hS rfl fun hS => sB hS rfl fun hS => sM hS rfl fun hS => sO hS (qX (v' := .int .i64 (M4.length : Int)) (yc rfl Tryd.runUnderlying110) (by rw [M7.len])) rfl fun hS => sB hS rfl fun hS => qA <| qF hS rfl hM (fun N2 hM => ?_) (fun N2 hM => ?_)
  ·refine wp_skip ?_
   refine qe <| wp_seq <| xQ ?_
   obtain ⟨Na, hM⟩ := qK hM
   obtain ⟨Pw, Pz, NE, Ps, Pq⟩ := M7.get Na
   obtain ⟨Nb, hM⟩ := qK hM
   obtain ⟨Px, PA, NF, Pt, Pr⟩ := M7.get Nb
   obtain ⟨Np, Nr, Ph, Nw, N5⟩ := M7.get Na
   obtain ⟨Nq, Ns, Pi, Nx, N6⟩ := M7.get Nb
   refine q9 (vals := [some (.slice Nj Nc.length Nk), some (.slice M5 M6.length M9), some (.int .i64 M3), some (xE M5 (Int.toNat M3 * 2)), some (xE M5 (Int.toNat M3 * 2 + 0)), some (.int .i64 ((rd M4 M3).often_)), some (.slice M5 M6.length M9), some (.int .i64 M3), some (.int .i64 (qg (M3 + (1 : Int)))), some (xE M5 (Int.toNat (qg (M3 + (1 : Int))) * 2)), some (xE M5 (Int.toNat (qg (M3 + (1 : Int))) * 2 + 0)), some (.int .i64 ((rd M4 (qg (M3 + (1 : Int)))).often_)), some (.int .i64 (qg ((rd M4 M3).often_ + (rd M4 (qg (M3 + (1 : Int)))).often_))), some (.slice M5 M6.length M9), some (.int .i64 M3), some (xE M5 (Int.toNat M3 * 2)), some (xE M5 (Int.toNat M3 * 2 + 1)), some (.slice Np ((rd M4 M3).symbols_).length Nr), some (.slice M5 M6.length M9), some (.int .i64 M3), some (.int .i64 (qg (M3 + (1 : Int)))), some (xE M5 (Int.toNat (qg (M3 + (1 : Int))) * 2)), some (xE M5 (Int.toNat (qg (M3 + (1 : Int))) * 2 + 1)), some (.slice Nq ((rd M4 (qg (M3 + (1 : Int)))).symbols_).length Ns), none, none, none, none, none, none]) hS xF rfl ?_
   intro l w ho hcl hA hst
   refine jf hA hst ho hcl xu xG 24 [0, 1, 2, 3, 4, 5, 6, 7, 8, 9, 10, 11, 12, 13, 14, 15, 16, 17, 18, 19, 20, 21, 22, 23] rfl rfl rfl rfl rfl (by exact ⟨nM rfl, nM rfl, nM rfl, nQ rfl (by exact qX (yu rfl rfl Tryd.runUnderlying110 Tryd.sizeOf112 (M8.rd (i := 0) rfl) zT.len rfl (M7.inb Na)) rfl), nQ rfl (by exact qX (Jz rfl (M8.rd (i := 0) rfl) zT.len rfl (M7.inb Na) Tryd.runUnderlying112 rfl Tryd.sizeOf3 rfl) rfl), nQ rfl (by exact qX (DC 0 rfl (M8.rd (i := 0) rfl) zT.len (M7.inb Na) (by rw [show zT.v (rd M6 M3) = _ from NE]; rfl) Tryd.isAgg3) rfl), nM rfl, nM rfl, nB rfl, nQ rfl (by exact qX (yu rfl rfl Tryd.runUnderlying110 Tryd.sizeOf112 (M8.rd (i := 0) rfl) zT.len rfl (M7.inb Nb)) rfl), nQ rfl (by exact qX (Jz rfl (M8.rd (i := 0) rfl) zT.len rfl (M7.inb Nb) Tryd.runUnderlying112 rfl Tryd.sizeOf3 rfl) rfl), nQ rfl (by exact qX (DC 0 rfl (M8.rd (i := 0) rfl) zT.len (M7.inb Nb) (by rw [show zT.v (rd M6 (qg (M3 + (1 : Int)))) = _ from NF]; rfl) Tryd.isAgg3) rfl), nB rfl, nM rfl, nM rfl, nQ rfl (by exact qX (yu rfl rfl Tryd.runUnderlying110 Tryd.sizeOf112 (M8.rd (i := 0) rfl) zT.len rfl (M7.inb Na)) rfl), nQ rfl (by exact qX (Jz rfl (M8.rd (i := 0) rfl) zT.len rfl (M7.inb Na) Tryd.runUnderlying112 rfl Tryd.sizeOf66 rfl) rfl), nQ rfl (by exact qX (DC 1 rfl (M8.rd (i := 0) rfl) zT.len (M7.inb Na) (by rw [show zT.v (rd M6 M3) = _ from Ph]; rfl) Tryd.isAgg66) rfl), nM rfl, nM rfl, nB rfl, nQ rfl (by exact qX (yu rfl rfl Tryd.runUnderlying110 Tryd.sizeOf112 (M8.rd (i := 0) rfl) zT.len rfl (M7.inb Nb)) rfl), nQ rfl (by exact qX (Jz rfl (M8.rd (i := 0) rfl) zT.len rfl (M7.inb Nb) Tryd.runUnderlying112 rfl Tryd.sizeOf66 rfl) rfl), nQ rfl (by exact qX (DC 1 rfl (M8.rd (i := 0) rfl) zT.len (M7.inb Nb) (by rw [show zT.v (rd M6 (qg (M3 + (1 : Int)))) = _ from Pi]; rfl) Tryd.isAgg66) rfl), trivial⟩) fun D l a w ho hcl hav hpre hm hE hk hA hst => ?_
   have hS := (Ss.mk hE hst).env2 (e' := [(29, .slice Np ((rd M4 M3).symbols_).length Nr), (35, .slice Nq ((rd M4 (qg (M3 + (1 : Int)))).symbols_).length Ns)]) ⟨rfl, rfl, trivial⟩
   refine qR rfl ?_
   obtain ⟨Ni, hrw⟩ : ∃ r, r = ([(⟨[.slice Np ((rd M4 M3).symbols_).length Nr], by simp, by simp [Value.oneCell']⟩ : zT 1), (⟨[.slice Nq ((rd M4 (qg (M3 + (1 : Int)))).symbols_).length Ns], by simp, by simp [Value.oneCell']⟩ : zT 1)] : List (zT 1)) := ⟨_, rfl⟩
   have Ny : zH (vB Nm) ([(rd M4 M3).symbols_, (rd M4 (qg (M3 + (1 : Int)))).symbols_] : List (List Int)) Ni := by rw [hrw]; exact (zH.cons (show vB Nm _ _ from ⟨Np, Nr, rfl, Nw, N5⟩) (zH.cons (show vB Nm _ _ from ⟨Nq, Ns, rfl, Nx, N6⟩) zH.nil))
   refine Jv (g := (zT.v (sz := 1))) Ni [.slice Np ((rd M4 M3).symbols_).length Nr, .slice Nq ((rd M4 (qg (M3 + (1 : Int)))).symbols_).length Ns] hS Tryd.runUnderlying153 Tryd.sizeOf66 X.el66 rfl rfl rfl (by simp [Value.cells]) (by rw [hrw]; rfl) (by rw [hrw]; rfl) rfl rfl rfl fun w Nz NA PC NM hS => ?_
   clear hrw
   refine qA ?_
   replace hst := hS.st
   obtain ⟨hcl, hmust, hav2, hA⟩ := dn (vals' := [some (.slice Nj Nc.length Nk), some (.slice M5 M6.length M9), some (.int .i64 M3), some (xE M5 (Int.toNat M3 * 2)), some (xE M5 (Int.toNat M3 * 2 + 0)), some (.int .i64 ((rd M4 M3).often_)), some (.slice M5 M6.length M9), some (.int .i64 M3), some (.int .i64 (qg (M3 + (1 : Int)))), some (xE M5 (Int.toNat (qg (M3 + (1 : Int))) * 2)), some (xE M5 (Int.toNat (qg (M3 + (1 : Int))) * 2 + 0)), some (.int .i64 ((rd M4 (qg (M3 + (1 : Int)))).often_)), some (.int .i64 (qg ((rd M4 M3).often_ + (rd M4 (qg (M3 + (1 : Int)))).often_))), some (.slice M5 M6.length M9), some (.int .i64 M3), some (xE M5 (Int.toNat M3 * 2)), some (xE M5 (Int.toNat M3 * 2 + 1)), some (.slice Np ((rd M4 M3).symbols_).length Nr), some (.slice M5 M6.length M9), some (.int .i64 M3), some (.int .i64 (qg (M3 + (1 : Int)))), some (xE M5 (Int.toNat (qg (M3 + (1 : Int))) * 2)), some (xE M5 (Int.toNat (qg (M3 + (1 : Int))) * 2 + 1)), some (.slice Nq ((rd M4 (qg (M3 + (1 : Int)))).symbols_).length Ns), some (.slice Nz Ni.length NA), none, none, none, none, none]) 24 [(17, 24), (23, 24), (16, 17), (22, 23), (15, 16), (21, 22), (13, 15), (14, 15), (18, 21), (20, 21), (19, 20)] hA hcl hav hm hpre hk rfl rfl rfl rfl rfl rfl rfl
   clear hm hav
   refine jf hA hst ho hcl hav2 hmust 25 [0, 1, 2, 3, 4, 5, 6, 7, 8, 9, 10, 11, 12] rfl rfl rfl rfl rfl (by exact ⟨nM rfl, nM rfl, nM rfl, nQ rfl (by exact qX (yu rfl rfl Tryd.runUnderlying110 Tryd.sizeOf112 (M8.rd (i := 1) rfl) zT.len rfl (M7.inb Na)) rfl), nQ rfl (by exact qX (Jz rfl (M8.rd (i := 1) rfl) zT.len rfl (M7.inb Na) Tryd.runUnderlying112 rfl Tryd.sizeOf3 rfl) rfl), nQ rfl (by exact qX (DC 0 rfl (M8.rd (i := 1) rfl) zT.len (M7.inb Na) (by rw [show zT.v (rd M6 M3) = _ from NE]; rfl) Tryd.isAgg3) rfl), nM rfl, nM rfl, nB rfl, nQ rfl (by exact qX (yu rfl rfl Tryd.runUnderlying110 Tryd.sizeOf112 (M8.rd (i := 1) rfl) zT.len rfl (M7.inb Nb)) rfl), nQ rfl (by exact qX (Jz rfl (M8.rd (i := 1) rfl) zT.len rfl (M7.inb Nb) Tryd.runUnderlying112 rfl Tryd.sizeOf3 rfl) rfl), nQ rfl (by exact qX (DC 0 rfl (M8.rd (i := 1) rfl) zT.len (M7.inb Nb) (by rw [show zT.v (rd M6 (qg (M3 + (1 : Int)))) = _ from NF]; rfl) Tryd.isAgg3) rfl), nB rfl, trivial⟩) fun D l a w ho hcl hav hpre hm hE hk hA hst => ?_
   have hS := (Ss.mk hE hst).env2 (e' := [(36, .slice Nz Ni.length NA)]) ⟨rfl, trivial⟩
   refine qR rfl ?_
   replace hS := hS.front [0, 1, 2] (by kernel_rfl)
   obtain ⟨NW, Pf, No, hS⟩ := hS.poolF
   have N7 := NM.cap zT.len rfl
   have ND := NM.pl.mono Pf
   replace M8 := M8.mono No
   replace Nw := Nw.mono No
   replace Nx := Nx.mono No
   replace M7 := zH.mono (fun _ _ h => qj.mono No h) M7
   replace Nn := zH.mono (fun _ _ h => qj.mono No h) Nn
   replace Ny := zH.mono (fun _ _ h => vB.mono No h) Ny
   replace Nu := fun q h => No q (Nu q h)
   refine qI hS rfl Tryd.call77 (v4 hG K ([(rd M4 M3).symbols_, (rd M4 (qg (M3 + (1 : Int)))).symbols_] : List (List Int)) NW Nz NA Ni Ny ND N7 (hS.st.part 1 [0, 1] (by kernel_rfl)) (qt hM) (fun Nf Ng Nd Pm w hM NU hst => qB hS.ev hst.appF rfl fun hS => ?_) (fun v w hk hst => xo (qD (zR (qD (qD (zR (qD (⟨hS.ev.defs, hpan _ _ hk hst.appF.frame⟩)))))))))
   replace hS : Ss _ _ _ H [NW, Pm, NC] F _ _ := hS
   refine qA ?_
   replace hst := hS.st
   obtain ⟨hcl, hmust, hav2, hA⟩ := dn (vals' := [some (.slice Nj Nc.length Nk), some (.slice M5 M6.length M9), some (.int .i64 M3), some (xE M5 (Int.toNat M3 * 2)), some (xE M5 (Int.toNat M3 * 2 + 0)), some (.int .i64 ((rd M4 M3).often_)), some (.slice M5 M6.length M9), some (.int .i64 M3), some (.int .i64 (qg (M3 + (1 : Int)))), some (xE M5 (Int.toNat (qg (M3 + (1 : Int))) * 2)), some (xE M5 (Int.toNat (qg (M3 + (1 : Int))) * 2 + 0)), some (.int .i64 ((rd M4 (qg (M3 + (1 : Int)))).often_)), some (.int .i64 (qg ((rd M4 M3).often_ + (rd M4 (qg (M3 + (1 : Int)))).often_))), some (.slice M5 M6.length M9), some (.int .i64 M3), some (xE M5 (Int.toNat M3 * 2)), some (xE M5 (Int.toNat M3 * 2 + 1)), some (.slice Np ((rd M4 M3).symbols_).length Nr), some (.slice M5 M6.length M9), some (.int .i64 M3), some (.int .i64 (qg (M3 + (1 : Int)))), some (xE M5 (Int.toNat (qg (M3 + (1 : Int))) * 2)), some (xE M5 (Int.toNat (qg (M3 + (1 : Int))) * 2 + 1)), some (.slice Nq ((rd M4 (qg (M3 + (1 : Int)))).symbols_).length Ns), some (.slice Nz Ni.length NA), some (.slice Nf Nd.length Ng), some (.agg ⟨[.int .i64 (qg ((rd M4 M3).often_ + (rd M4 (qg (M3 + (1 : Int)))).often_)), .slice Nf Nd.length Ng]⟩), none, none, none]) 25 [(24, 25), (17, 24), (23, 24), (16, 17), (22, 23), (15, 16), (21, 22), (13, 15), (14, 15), (18, 21), (20, 21), (19, 20)] hA hcl hav hm hpre hk rfl rfl rfl rfl rfl rfl rfl
   clear hm hav
   refine jf hA hst ho hcl hav2 hmust 27 [0, 1, 2, 3, 4, 5, 6, 7, 8, 9, 10, 11, 12, 26] rfl rfl rfl rfl rfl (by exact ⟨nM rfl, nM rfl, nM rfl, nQ rfl (by exact qX (yu rfl rfl Tryd.runUnderlying110 Tryd.sizeOf112 (M8.rd (i := 0) rfl) zT.len rfl (M7.inb Na)) rfl), nQ rfl (by exact qX (Jz rfl (M8.rd (i := 0) rfl) zT.len rfl (M7.inb Na) Tryd.runUnderlying112 rfl Tryd.sizeOf3 rfl) rfl), nQ rfl (by exact qX (DC 0 rfl (M8.rd (i := 0) rfl) zT.len (M7.inb Na) (by rw [show zT.v (rd M6 M3) = _ from NE]; rfl) Tryd.isAgg3) rfl), nM rfl, nM rfl, nB rfl, nQ rfl (by exact qX (yu rfl rfl Tryd.runUnderlying110 Tryd.sizeOf112 (M8.rd (i := 0) rfl) zT.len rfl (M7.inb Nb)) rfl), nQ rfl (by exact qX (Jz rfl (M8.rd (i := 0) rfl) zT.len rfl (M7.inb Nb) Tryd.runUnderlying112 rfl Tryd.sizeOf3 rfl) rfl), nQ rfl (by exact qX (DC 0 rfl (M8.rd (i := 0) rfl) zT.len (M7.inb Nb) (by rw [show zT.v (rd M6 (qg (M3 + (1 : Int)))) = _ from NF]; rfl) Tryd.isAgg3) rfl), nB rfl, nQ rfl (by exact qX (Xw ([.int .i64 (qg ((rd M4 M3).often_ + (rd M4 (qg (M3 + (1 : Int)))).often_)), .slice Nf Nd.length Ng]) [(0, 1), (1, 1)] Tryd.zeroValue112 Tryd.runUnderlying112 (by intro w; simp [Tryd.sizeOf3, Tryd.sizeOf66]) rfl rfl) rfl), trivial⟩) fun D l a w ho hcl hav hpre hm hE hk hA hst => ?_
   have hS := (Ss.mk hE hst).env2 (e' := [(38, .agg ⟨[.int .i64 (qg ((rd M4 M3).often_ + (rd M4 (qg (M3 + (1 : Int)))).often_)), .slice Nf Nd.length Ng]⟩)]) ⟨rfl, trivial⟩
   refine qR rfl ?_
   replace hS := hS.front [1, 0, 2] (by kernel_rfl)
   obtain ⟨NP, Pg, Nh, hS⟩ := hS.poolF
   have N8 := NU.cap (fun _ => rfl) rfl
   have Pb := NU.pl.mono Pg
   replace M8 := M8.mono Nh
   replace Nw := Nw.mono Nh
   replace Nx := Nx.mono Nh
   replace ND := ND.mono Nh
   replace M7 := zH.mono (fun _ _ h => qj.mono Nh h) M7
   replace Nn := zH.mono (fun _ _ h => qj.mono Nh h) Nn
   replace Ny := zH.mono (fun _ _ h => vB.mono Nh h) Ny
   replace Nu := fun q h => Nh q (Nu q h)
   obtain ⟨Nv, hrw⟩ : ∃ r, r = ([(⟨[.int .i64 (qg ((rd M4 M3).often_ + (rd M4 (qg (M3 + (1 : Int)))).often_)), .slice Nf Nd.length Ng], by simp, by simp [Value.oneCell']⟩ : zT 2)] : List (zT 2)) := ⟨_, rfl⟩
   have NN : zH (qj NP) ([(qb.mk (qg ((rd M4 M3).often_ + (rd M4 (qg (M3 + (1 : Int)))).often_)) Nd)] : List qb) Nv := by rw [hrw]; exact (zH.cons (show qj NP _ _ from ⟨Nf, Ng, rfl, Pb, N8⟩) zH.nil)
   refine Jv (g := (zT.v (sz := 2))) Nv [.agg ⟨[.int .i64 (qg ((rd M4 M3).often_ + (rd M4 (qg (M3 + (1 : Int)))).often_)), .slice Nf Nd.length Ng]⟩] hS Tryd.runUnderlying110 Tryd.sizeOf112 X.el112 rfl rfl rfl (by simp [Value.cells]) (by rw [hrw]; rfl) (by rw [hrw]; rfl) rfl rfl rfl fun w NJ NK PD N0 hS => ?_
   clear hrw
   refine qA ?_
   replace hst := hS.st
   obtain ⟨hcl, hmust, hav2, hA⟩ := dn (vals' := [some (.slice Nj Nc.length Nk), some (.slice M5 M6.length M9), some (.int .i64 M3), some (xE M5 (Int.toNat M3 * 2)), some (xE M5 (Int.toNat M3 * 2 + 0)), some (.int .i64 ((rd M4 M3).often_)), some (.slice M5 M6.length M9), some (.int .i64 M3), some (.int .i64 (qg (M3 + (1 : Int)))), some (xE M5 (Int.toNat (qg (M3 + (1 : Int))) * 2)), some (xE M5 (Int.toNat (qg (M3 + (1 : Int))) * 2 + 0)), some (.int .i64 ((rd M4 (qg (M3 + (1 : Int)))).often_)), some (.int .i64 (qg ((rd M4 M3).often_ + (rd M4 (qg (M3 + (1 : Int)))).often_))), some (.slice M5 M6.length M9), some (.int .i64 M3), some (xE M5 (Int.toNat M3 * 2)), some (xE M5 (Int.toNat M3 * 2 + 1)), some (.slice Np ((rd M4 M3).symbols_).length Nr), some (.slice M5 M6.length M9), some (.int .i64 M3), some (.int .i64 (qg (M3 + (1 : Int)))), some (xE M5 (Int.toNat (qg (M3 + (1 : Int))) * 2)), some (xE M5 (Int.toNat (qg (M3 + (1 : Int))) * 2 + 1)), some (.slice Nq ((rd M4 (qg (M3 + (1 : Int)))).symbols_).length Ns), some (.slice Nz Ni.length NA), some (.slice Nf Nd.length Ng), some (.agg ⟨[.int .i64 (qg ((rd M4 M3).often_ + (rd M4 (qg (M3 + (1 : Int)))).often_)), .slice Nf Nd.length Ng]⟩), some (.slice NJ Nv.length NK), none, none]) 27 [(26, 27), (12, 26), (25, 26), (5, 12), (11, 12), (24, 25), (4, 5), (10, 11), (17, 24), (23, 24), (3, 4), (9, 10), (16, 17), (22, 23), (1, 3), (2, 3), (6, 9), (8, 9), (15, 16), (21, 22), (7, 8), (13, 15), (14, 15), (18, 21), (20, 21), (19, 20)] hA hcl hav hm hpre hk rfl rfl rfl rfl rfl rfl rfl
   clear hm hav
   refine jf hA hst ho hcl hav2 hmust 28 [0] rfl rfl rfl rfl rfl (by exact ⟨nM rfl, trivial⟩) fun D l a w ho hcl hav hpre hm hE hk hA hst => ?_
   have hS := (Ss.mk hE hst).env2 (e' := [(12, .slice Nj Nc.length Nk), (39, .slice NJ Nv.length NK)]) ⟨rfl, rfl, trivial⟩
   refine qR rfl ?_
   obtain ⟨N9, hM⟩ := qK hM
   refine J5 (ys := Nv) 2 hS rfl rfl NL rfl (N0.rd (i := 0) rfl) Tryd.runUnderlying110 Tryd.runUnderlying110 X.el112 zT.len rfl XE (Nn.room NN N9) rfl fun NB w NH NI Pn hz N1 hS => ?_
   obtain ⟨Pj, hzm⟩ := um (Nt ++ ([(qb.mk (qg ((rd M4 M3).often_ + (rd M4 (qg (M3 + (1 : Int)))).often_)) Nd)] : List qb))
   replace hM := qz hzm hM
   have NO := zH.append Nn NN
   rw [← hz, ← hzm] at NO; clear hz hzm
   refine qA ?_
   replace hst := hS.st
   obtain ⟨hcl, hmust, hav2, hA⟩ := dn (vals' := [some (.slice Nj Nc.length Nk), some (.slice M5 M6.length M9), some (.int .i64 M3), some (xE M5 (Int.toNat M3 * 2)), some (xE M5 (Int.toNat M3 * 2 + 0)), some (.int .i64 ((rd M4 M3).often_)), some (.slice M5 M6.length M9), some (.int .i64 M3), some (.int .i64 (qg (M3 + (1 : Int)))), some (xE M5 (Int.toNat (qg (M3 + (1 : Int))) * 2)), some (xE M5 (Int.toNat (qg (M3 + (1 : Int))) * 2 + 0)), some (.int .i64 ((rd M4 (qg (M3 + (1 : Int)))).often_)), some (.int .i64 (qg ((rd M4 M3).often_ + (rd M4 (qg (M3 + (1 : Int)))).often_))), some (.slice M5 M6.length M9), some (.int .i64 M3), some (xE M5 (Int.toNat M3 * 2)), some (xE M5 (Int.toNat M3 * 2 + 1)), some (.slice Np ((rd M4 M3).symbols_).length Nr), some (.slice M5 M6.length M9), some (.int .i64 M3), some (.int .i64 (qg (M3 + (1 : Int)))), some (xE M5 (Int.toNat (qg (M3 + (1 : Int))) * 2)), some (xE M5 (Int.toNat (qg (M3 + (1 : Int))) * 2 + 1)), some (.slice Nq ((rd M4 (qg (M3 + (1 : Int)))).symbols_).length Ns), some (.slice Nz Ni.length NA), some (.slice Nf Nd.length Ng), some (.agg ⟨[.int .i64 (qg ((rd M4 M3).often_ + (rd M4 (qg (M3 + (1 : Int)))).often_)), .slice Nf Nd.length Ng]⟩), some (.slice NJ Nv.length NK), some (.slice NH NB.length NI), some (.slice NH NB.length NI)]) 28 [(0, 28), (25, 28), (27, 28), (24, 25), (26, 27), (17, 24), (23, 24), (12, 26), (16, 17), (22, 23), (5, 12), (11, 12), (15, 16), (21, 22), (4, 5), (10, 11), (13, 15), (14, 15), (18, 21), (20, 21), (3, 4), (9, 10), (19, 20), (1, 3), (2, 3), (6, 9), (8, 9), (7, 8)] hA hcl hav hm hpre hk rfl rfl rfl rfl rfl rfl rfl
   clear hm hav
   refine yk hA hst ho hcl hmust [29] rfl rfl rfl (by exact ⟨nA rfl, trivial⟩) fun a w hS => ?_
   replace hS := hS.env2 (e' := [(0, .slice M5 M6.length M9), (3, .slice NH NB.length NI), (4, .int .i64 M3)]) ⟨rfl, rfl, rfl, trivial⟩
   refine zx (qe ?_)
   refine zM <| sM hS rfl fun hS => sB hS rfl fun hS => zF (v := Value.int .i64) (x0 := (qg (M3 + (2 : Int)))) hS (xA rfl) rfl fun Po a w hz hS => ?_
   have hM := qz hz hM; clear hz
   refine zo <| qe ?_
   exact NY _ _ ⟨NP, NH, NI, NB, Pj, Pn, Po, hS.to [1, 2] (by kernel_rfl) ⟨rfl, rfl, rfl, trivial⟩, Nu, M7, M8, N4, N1, NO, hM⟩
  ·refine wp_exit ?_
   refine qE (qE (zd (qe ?_)))
   refine qm <| sM hS rfl fun hS => sA hS rfl fun hS => qA <| wp_ret ?_
   exact zE (rs := [2]) hS rfl rfl (hret Nm Nj Nk Nc Nt NC _ (q8 hM) Nu NL Nn (hS.st.pick [0, 1] (by kernel_rfl)))
def xS (p : qk) (x : (List qb)) (vs : List Value) : Prop :=
  ∃ (A0 : Option Addr) (c0 : Nat) (r0 : List (zT 2)), vs = [.slice A0 r0.length c0] ∧ zH (qj p) x r0 ∧ Pl p (zT.v (sz := 2)) A0 r0 ∧ r0.length ≤ c0
theorem xS.mono {p p' : qk} (hs : ∀ q ∈ p, q ∈ p') {x : (List qb)} {vs : List Value} (h : xS p x vs) : xS p' x vs := by
  obtain ⟨A0, c0, r0, h0, h1, h2, h3⟩ := h
  exact ⟨A0, c0, r0, h0, zH.mono (fun _ _ h => qj.mono hs h) h1, h2.mono hs, h3⟩
theorem yK {H : xT} {F : List qk} {w : World} {R : Ending → World → Prop} {kr : Unit → Prop} {kp : Value → Prop} (hG : Gl H) (K : Nat) (M4 : Int)
    (hS : St w H [] F) (hm : (zY.m K M4).wp kr kp)
    (hret : ∀ (M8 : qk) (M5 : Option Addr) (M6 : Nat) (M7 : qk) (w : World), kr () → (xj 112 (zT.v (sz := 2)) 2 M5 ([] : List (zT 2)) M6 M7) → (zH (qj M8) ([] : List qb) ([] : List (zT 2))) → St w H [M8, M7] F → R (.returned (.slice M5 ([] : List (zT 2)).length M6)) w)
    (hpan : ∀ v w, kp v → St w H [] F → R (.panicked [⟨v, false, false⟩]) w) :
    Calls Tryd.prog 87 ⟨[.slice none 0 0, .int .i64 M4]⟩ w R := by
 refine enter Tryd.func87 rfl Tryd.ntmps87 rfl hS fun a w hS => ?_
 have hM := hm; clear hm
 rw [zY.m] at hM
 refine qm <| sA hS rfl fun hS => ?_
 obtain ⟨M3, hS⟩ := hS.pool0
 obtain ⟨Nq, Nn, hS⟩ := hS.nilV 112 (zT.v (sz := 2)) 2
 have No : zH (qj M3) ([] : List qb) ([] : List (zT 2)) := zH.nil
 refine qA <| wp_seq <| qm <| sM hS rfl fun hS => sB hS rfl fun hS => qA <| qF hS rfl hM (fun Nc hM => ?_) (fun Nc hM => ?_)
 ·refine zM ?_
  refine sO hS (Lv rfl Tryd.runUnderlying9 rfl) rfl fun hS => QO hS rfl <| qD ?_
  exact ⟨hS.ev.defs, hpan _ _ (Xa hM) hS.st.frame⟩
 ·refine wp_skip ?_
  refine qe <| wp_seq <| qm <| sM hS rfl fun hS => sM hS rfl fun hS => sO hS (DH rfl Tryd.runUnderlying110) rfl fun hS => sM hS rfl fun hS => sO hS (yc rfl Tryd.runUnderlying110) rfl fun hS => sB hS rfl fun hS => sB hS rfl fun hS => zF (v := Value.int .i64) (x0 := (qg (M4 - (qg ((0 : Int) - (0 : Int)))))) hS (xA rfl) rfl fun Np a w hz hS => ?_
  have hM := qz hz hM; clear hz
  refine qA <| qm <| sM hS rfl fun hS => sB hS rfl fun hS => qA <| qF hS rfl hM (fun Nd hM => ?_) (fun Nd hM => ?_)
  ·refine zM ?_
   refine sM hS rfl fun hS => sM hS rfl fun hS => sO hS (DH rfl Tryd.runUnderlying110) rfl fun hS => sO hS (MD rfl Tryd.runUnderlying110 Tryd.sizeOf112 (DR rfl)) rfl fun hS => sM hS rfl fun hS => ?_
   obtain ⟨Ng, hM⟩ := qK hM
   refine Mu (g := (zT.v (sz := 2))) hS rfl rfl Tryd.runUnderlying110 Tryd.runUnderlying3 X.el112 rfl rfl Ng rfl fun w Nj Nk Nl Na Nf M9 hS => ?_
   have Nh : zH (qj M3) ([] : List qb) ([] : List (zT 2)) := zH.nil
   refine sM hS rfl fun hS => sO hS (yc rfl Tryd.runUnderlying110) rfl fun hS => sO hS (MC rfl Tryd.runUnderlying110 Tryd.sizeOf112 (fun _ => DR rfl) Nf M9) rfl fun hS => sA hS rfl fun hS => qA <| qm <| sM hS rfl fun hS => sA hS rfl fun hS => qA <| wp_ret ?_
   exact zE (rs := [4]) hS rfl rfl (hret M3 Nj Nk Nl _ (q8 hM) Na Nh (hS.st.pick [2, 0] (by kernel_rfl)))
  ·refine wp_skip ?_
   refine qe <| qm <| sM hS rfl fun hS => sA hS rfl fun hS => ?_
   obtain ⟨Nm, Nb, hS⟩ := hS.nilV 112 (zT.v (sz := 2)) 2
   have Ni : zH (qj M3) ([] : List qb) ([] : List (zT 2)) := zH.nil
   refine qA <| wp_ret ?_
   exact zE (rs := [4]) hS rfl rfl (hret M3 none (0) Nm _ (q8 hM) Nb Ni (hS.st.pick [2, 0] (by kernel_rfl)))
theorem y6 {H : xT} {F : List qk} {w : World} {R : Ending → World → Prop} {kr : (List qb) → Prop} {kp : Value → Prop} (hG : Gl H) (K : Nat) (M3 : List (List qb)) (M8 : qk) (Nd : Option Addr) (Nf : Nat) (M6 : List (zT 1)) (M5 : zH (xS M8) M3 M6) (Na : Pl M8 (zT.v (sz := 1)) Nd M6) (N2 : M6.length ≤ Nf)
    (hS : St w H [M8] F) (hm : (qu.m K M3).wp kr kp)
    (hret : ∀ (Nv : qk) (Nx : Option Addr) (Ny : Nat) (Nm : List (zT 2)) (ND : (List qb)) (NA : qk) (w : World), kr ND → (∀ q ∈ M8, q ∈ Nv) → (xj 112 (zT.v (sz := 2)) 2 Nx Nm Ny NA) → (zH (qj Nv) ND Nm) → St w H [Nv, NA] F → R (.returned (.slice Nx Nm.length Ny)) w)
    (hpan : ∀ v w, kp v → St w H [] F → R (.panicked [⟨v, false, false⟩]) w) :
    Calls Tryd.prog 75 ⟨[.slice Nd M6.length Nf]⟩ w R := by
 refine enter Tryd.func75 rfl Tryd.ntmps75 rfl hS fun a w hS => ?_
 have hM := hm; clear hm
 rw [qu.m] at hM
 have Nk : ∀ q ∈ M8, q ∈ M8 := fun _ h => h
 refine qm <| sA hS rfl fun hS => ?_
 obtain ⟨Pf, N1, hS⟩ := hS.nilV 112 (zT.v (sz := 2)) 2
 have N6 : zH (qj M8) ([] : List qb) ([] : List (zT 2)) := zH.nil
 refine qA <| qm <| sA hS rfl fun hS => qA <| zl (fun a w => ∃ (M9 : Int), Ss 36 [] [(0, .slice Nd M6.length Nf), (3, .int .i64 M9)] H [M8] F a w ∧ (qu.j2 K M3 M9).wp kr kp) (fun Pb NF => ?_) ?_
 ·refine wp_seq ?_
  refine zM <| sM hS rfl fun hS => sO hS (qX (v' := .int .i64 (M3.length : Int)) (yc rfl Tryd.runUnderlying151) (by rw [M5.len])) rfl fun hS => sM hS rfl fun hS => qA <| xQ <| zv (fun NB a w => ∃ (M7 : Int) (Nc : Int), Ss 36 [] [(0, .slice Nd M6.length Nf), (3, .int .i64 M7), (9, .slice Nd M6.length Nf), (10, .int .i64 (M3.length : Int)), (11, .int .i64 Nc)] H [M8] F a w ∧ (qu.l1 K M3 NB M7 Nc).wp kr kp) K ?_ ?_ ?_
  ·exact ⟨(0 : Int), (0 : Int), hS.to [1] (by kernel_rfl) ⟨rfl, rfl, rfl, rfl, rfl, trivial⟩, hM⟩
  ·intro a w hI; obtain ⟨_, _, _, hM⟩ := hI; exact zu hM
  ·intro NB a w hI Pa NE
   obtain ⟨M7, Nc, hS, hM⟩ := hI
   rw [qu.l1] at hM
   refine qm <| sB hS rfl fun hS => qA <| wp_seq <| qF hS rfl hM (fun NI hM => ?_) (fun NI hM => ?_)
   ·refine wp_skip ?_
    refine qe <| wp_seq <| xQ <| wp_seq <| zM ?_
    obtain ⟨Nh, hM⟩ := qK hM
    refine sO hS (yu rfl rfl Tryd.runUnderlying151 Tryd.sizeOf110 (Na.rd (i := 0) rfl) zT.len rfl (M5.inb Nh)) rfl fun hS => ?_
    obtain ⟨N8, Pd, N7, NP, NN, N5, N3⟩ := M5.get Nh
    refine sO hS (yG rfl (Na.rd (i := 0) rfl) zT.len (M5.inb Nh) (by rw [show zT.v (rd M6 Nc) = _ from NP]; rfl) Tryd.isAgg110) rfl fun hS => sA hS rfl fun hS => qA <| qm <| sM hS rfl fun hS => sM hS rfl fun hS => sO hS (qX (v' := .int .i64 ((rd M3 Nc).length : Int)) (yc rfl Tryd.runUnderlying110) (by rw [NN.len])) rfl fun hS => sB hS rfl fun hS => zF (v := Value.int .i64) (x0 := (qg (M7 + ((rd M3 Nc).length : Int)))) hS (xA rfl) rfl fun Nw a w hz hS => ?_
    have hM := qz hz hM; clear hz
    refine qA <| qm <| sM hS rfl fun hS => sB hS rfl fun hS => qA <| qF hS rfl hM (fun NJ hM => ?_) (fun NJ hM => ?_)
    ·refine zM ?_
     refine sO hS (Lv rfl Tryd.runUnderlying9 rfl) rfl fun hS => QO hS rfl <| zR (qD (qD (zR (qD ?_))))
     exact ⟨hS.ev.defs, hpan _ _ (Xa hM) hS.st.frame⟩
    ·refine wp_skip ?_
     refine zx (qe ?_)
     refine zM <| sB hS rfl fun hS => sM hS rfl fun hS => zo <| qe ?_
     exact NE _ _ ⟨Nw, (qg (Nc + (1 : Int))), hS.to [0] (by kernel_rfl) ⟨rfl, rfl, rfl, rfl, rfl, trivial⟩, hM⟩
   ·refine wp_exit ?_
    refine qE (qE (zd (qe ?_)))
    exact NF _ _ ⟨M7, hS.to [0] (by kernel_rfl) ⟨rfl, rfl, trivial⟩, hM⟩
 ·intro a w hI
  obtain ⟨M9, hS, hM⟩ := hI
  rw [qu.j2] at hM
  refine qm <| sM hS rfl fun hS => qI hS rfl Tryd.call87 (yK hG K M9 (hS.st.part 0 [0] (by kernel_rfl)) (qt hM) (fun N0 NU NW Nz w hM NZ Nq hst => qB hS.ev hst.appF rfl fun hS => ?_) (fun v w hk hst => xo (qD (⟨hS.ev.defs, hpan _ _ hk hst.appF.frame⟩))))
  replace hS : Ss _ _ _ H [N0, Nz, M8] F _ _ := hS
  replace hS := hS.front [0, 2, 1] (by kernel_rfl)
  obtain ⟨Nu, NO, Nl, hS⟩ := hS.poolF
  replace Nq := zH.mono (fun _ _ h => qj.mono NO h) Nq
  replace Na := Na.mono Nl
  replace M5 := zH.mono (fun _ _ h => xS.mono Nl h) M5
  replace Nk := fun q h => Nl q (Nk q h)
  refine sA hS rfl fun hS => qA <| wp_seq <| qm <| sM hS rfl fun hS => sO hS (qX (v' := .int .i64 (M3.length : Int)) (yc rfl Tryd.runUnderlying151) (by rw [M5.len])) rfl fun hS => sM hS rfl fun hS => qA <| xQ <| zv (fun NC a w => ∃ (Nn : Option Addr) (No : Nat) (Nb : List (zT 2)) (M4 : (List qb)) (Np : qk) (Ng : Int), Ss 36 [] [(6, .slice Nn Nb.length No), (25, .slice Nd M6.length Nf), (26, .int .i64 (M3.length : Int)), (27, .int .i64 Ng)] H [Nu, Np] F a w ∧ (xj 112 (zT.v (sz := 2)) 2 Nn Nb No Np) ∧ (zH (qj Nu) M4 Nb) ∧ (qu.l3 K M3 NC M4 Ng).wp kr kp) K ?_ ?_ ?_
  ·exact ⟨NU, NW, ([] : List (zT 2)), ([] : List qb), Nz, (0 : Int), hS.to [0, 1] (by kernel_rfl) ⟨rfl, rfl, rfl, rfl, trivial⟩, NZ, Nq, hM⟩
  ·intro a w hI; obtain ⟨_, _, _, _, _, _, _, _, _, hM⟩ := hI; exact zu hM
  ·intro NC a w hI Pc NG
   obtain ⟨Nn, No, Nb, M4, Np, Ng, hS, Nr, Nj, hM⟩ := hI
   rw [qu.l3] at hM
   refine qm <| sB hS rfl fun hS => qA <| wp_seq <| qF hS rfl hM (fun NK hM => ?_) (fun NK hM => ?_)
   ·refine wp_skip ?_
    refine qe <| wp_seq <| xQ <| wp_seq <| zM ?_
    obtain ⟨Ni, hM⟩ := qK hM
    refine sO hS (yu rfl rfl Tryd.runUnderlying151 Tryd.sizeOf110 (Na.rd (i := 0) rfl) zT.len rfl (M5.inb Ni)) rfl fun hS => ?_
    obtain ⟨N9, Pe, NR, NQ, Ns, NM, N4⟩ := M5.get Ni
    refine sO hS (yG rfl (Na.rd (i := 0) rfl) zT.len (M5.inb Ni) (by rw [show zT.v (rd M6 Ng) = _ from NQ]; rfl) Tryd.isAgg110) rfl fun hS => sA hS rfl fun hS => qA <| zM <| sM hS rfl fun hS => sM hS rfl fun hS => ?_
    obtain ⟨NL, hM⟩ := qK hM
    refine J5 (ys := NR) 1 hS rfl rfl Nr rfl (NM.rd (i := 0) rfl) Tryd.runUnderlying110 Tryd.runUnderlying110 X.el112 zT.len rfl XE (Nj.room Ns NL) rfl fun NS w NV NX NY hz NH hS => ?_
    obtain ⟨NT, hzm⟩ := um (M4 ++ (rd M3 Ng))
    replace hM := qz hzm hM
    have Nt := zH.append Nj Ns
    rw [← hz, ← hzm] at Nt; clear hz hzm
    refine sA hS rfl fun hS => zo <| zx (qe ?_)
    refine zM <| sB hS rfl fun hS => sM hS rfl fun hS => zo <| qe ?_
    exact NG _ _ ⟨NV, NX, NS, NT, NY, (qg (Ng + (1 : Int))), hS.to [0, 1] (by kernel_rfl) ⟨rfl, rfl, rfl, rfl, trivial⟩, NH, Nt, hM⟩
   ·refine wp_exit ?_
    refine qE (qE (zd (qe ?_)))
    refine qm <| sM hS rfl fun hS => sA hS rfl fun hS => qA <| wp_ret ?_
    exact zE (rs := [2]) hS rfl rfl (hret Nu Nn No Nb M4 Np _ (q8 hM) Nk Nr Nj (hS.st.pick [0, 1] (by kernel_rfl)))
end Go.TrydS

set_option maxRecDepth 100000
namespace Go.TrydS
open Go Go.Sl Go.Mo Go.Proofs
attribute [local irreducible] qN.wp
theorem YH {H : xT} {F : List qk} {w : World} {R : Ending → World → Prop} {kr : (List qb) → Prop} {kp : Value → Prop} (hG : Gl H) (K : Nat) (Nh : List qb) (Ni : List qb) (M3 : qk) (Nm : Option Addr) (No : Nat) (M5 : List (zT 2)) (Nn : Option Addr) (Np : Nat) (M6 : List (zT 2)) (Nc : zH (qj M3) Nh M5) (Na : Pl M3 (zT.v (sz := 2)) Nm M5) (NE : M5.length ≤ No) (Nd : zH (qj M3) Ni M6) (Nb : Pl M3 (zT.v (sz := 2)) Nn M6) (NF : M6.length ≤ Np)
    (hS : St w H [M3] F) (hm : (yZ.m K Nh Ni).wp kr kp)
    (hret : ∀ (Nw : qk) (Nx : Option Addr) (Ny : Nat) (Ns : List (zT 2)) (ND : (List qb)) (NC : qk) (w : World), kr ND → (∀ q ∈ M3, q ∈ Nw) → (xj 112 (zT.v (sz := 2)) 2 Nx Ns Ny NC) → (zH (qj Nw) ND Ns) → St w H [Nw, NC] F → R (.returned (.slice Nx Ns.length Ny)) w)
    (hpan : ∀ v w, kp v → St w H [] F → R (.panicked [⟨v, false, false⟩]) w) :
    Calls Tryd.prog 58 ⟨[.slice Nm M5.length No, .slice Nn M6.length Np]⟩ w R := by
 refine enter Tryd.func58 rfl Tryd.ntmps58 rfl hS fun a w hS => ?_
 have hM := hm; clear hm
 rw [yZ.m] at hM
 have Ng : ∀ q ∈ M3, q ∈ M3 := fun _ h => h
 refine qm <| sA hS rfl fun hS => ?_
 obtain ⟨Nz, NR, hS⟩ := hS.nilV 112 (zT.v (sz := 2)) 2
 have Nj : zH (qj M3) ([] : List qb) ([] : List (zT 2)) := zH.nil
 refine qA <| qm <| sM hS rfl fun hS => sM hS rfl fun hS => ?_
 obtain ⟨Nr, hrw⟩ : ∃ r, r = ([(⟨[.slice Nm M5.length No], by simp, by simp [Value.oneCell']⟩ : zT 1), (⟨[.slice Nn M6.length Np], by simp, by simp [Value.oneCell']⟩ : zT 1)] : List (zT 1)) := ⟨_, rfl⟩
 have Nf : zH (xS M3) ([Nh, Ni] : List (List qb)) Nr := by rw [hrw]; exact (zH.cons (show xS M3 _ _ from ⟨Nm, No, M5, rfl, Nc, Na, NE⟩) (zH.cons (show xS M3 _ _ from ⟨Nn, Np, M6, rfl, Nd, Nb, NF⟩) zH.nil))
 refine Jv (g := (zT.v (sz := 1))) Nr [.slice Nm M5.length No, .slice Nn M6.length Np] hS Tryd.runUnderlying151 Tryd.sizeOf110 X.el110 rfl rfl rfl (by simp [Value.cells]) (by rw [hrw]; rfl) (by rw [hrw]; rfl) rfl rfl rfl fun w NI NJ NS Nv hS => ?_
 clear hrw
 replace hS := hS.front [0, 2, 1] (by kernel_rfl)
 obtain ⟨NO, NH, M4, hS⟩ := hS.poolF
 have NG := Nv.cap zT.len rfl
 have Nq := Nv.pl.mono NH
 replace Na := Na.mono M4
 replace Nb := Nb.mono M4
 replace Nc := zH.mono (fun _ _ h => qj.mono M4 h) Nc
 replace Nd := zH.mono (fun _ _ h => qj.mono M4 h) Nd
 replace Nj := zH.mono (fun _ _ h => qj.mono M4 h) Nj
 replace Nf := zH.mono (fun _ _ h => xS.mono M4 h) Nf
 replace Ng := fun q h => M4 q (Ng q h)
 refine qI hS rfl Tryd.call75 (y6 hG K ([Nh, Ni] : List (List qb)) NO NI NJ Nr Nf Nq NG (hS.st.part 1 [0, 1] (by kernel_rfl)) (qt hM) (fun Nt M7 M8 Nk NP NA w hM M9 NK NL hst => qB hS.ev hst.appF rfl fun hS => ?_) (fun v w hk hst => xo (qD (⟨hS.ev.defs, hpan _ _ hk hst.appF.frame⟩))))
 replace hS : Ss _ _ _ H [Nt, NA, Nz] F _ _ := hS
 replace Na := Na.mono M9
 replace Nb := Nb.mono M9
 replace Nq := Nq.mono M9
 replace Nc := zH.mono (fun _ _ h => qj.mono M9 h) Nc
 replace Nd := zH.mono (fun _ _ h => qj.mono M9 h) Nd
 replace Nj := zH.mono (fun _ _ h => qj.mono M9 h) Nj
 replace Nf := zH.mono (fun _ _ h => xS.mono M9 h) Nf
 replace Ng := fun q h => M9 q (Ng q h)
 refine sA hS rfl fun hS => qA <| qm <| sM hS rfl fun hS => qI hS rfl Tryd.call55 (xx 76 (.inr rfl) hG K NP Nt M7 M8 Nk NA NL NK (hS.st.part 2 [0, 1, 2] (by kernel_rfl)) (qt hM) (fun Nl NQ NB w hM NM NN Nu hst => qB hS.ev hst.appF rfl fun hS => ?_))
 replace hS : Ss _ _ _ H [Nt, NB, Nz] F _ _ := hS
 replace hS := hS.re 5 (u := .slice M7 Nk.length M8) (v := .slice M7 Nl.length M8) rfl (by rw [Nu])
 replace hS := hS.re 9 (u := .slice M7 Nk.length M8) (v := .slice M7 Nl.length M8) rfl (by rw [Nu])
 replace hS := hS.re 10 (u := .slice M7 Nk.length M8) (v := .slice M7 Nl.length M8) rfl (by rw [Nu])
 refine qA <| qm <| sM hS rfl fun hS => sA hS rfl fun hS => qA <| wp_ret ?_
 exact zE (rs := [4]) hS rfl rfl (hret Nt M7 M8 Nl NQ NB _ (q8 hM) Ng NM NN (hS.st.pick [0, 1] (by kernel_rfl)))
theorem Qt {H : xT} {F : List qk} {w : World} {R : Ending → World → Prop} {kr : ((List Int) × Int) → Prop} {kp : Value → Prop} (hG : Gl H) (K : Nat) (M3 : List Int) (M4 : Int) (Nz : Option Addr) (NA : Nat) (N3 : jU H [] F (ci .i64) Nz M3) (Sq : M3.length ≤ NA)
    (hS : St w H [] F) (hm : (qy.m K M3 M4).wp kr kp)
    (hret : ∀ (PO : Option Addr) (PQ : Nat) (PM : (List Int)) (PR : qk) (PZ : Int) (w : World), kr (PM, PZ) → (xj 3 (ci .i64) 1 PO PM PQ PR) → St w H [PR] F → R (.returned (.tuple ⟨[.slice PO PM.length PQ, .int .i64 PZ]⟩)) w)
    (hpan : ∀ v w, kp v → St w H [] F → R (.panicked [⟨v, false, false⟩]) w) :
    Calls Tryd.prog 38 ⟨[.slice Nz M3.length NA, .int .i64 M4]⟩ w R := by
 refine enter Tryd.func38 rfl Tryd.ntmps38 rfl hS fun a w hS => ?_
 have hM := hm; clear hm
 rw [qy.m] at hM
 refine qm <| sA hS rfl fun hS => ?_
 obtain ⟨SZ, Tj, hS⟩ := hS.nilV 3 (ci .i64) 1
 refine sA hS rfl fun hS => qA <| wp_seq <| qm <| sM hS rfl fun hS => sB hS rfl fun hS => sM hS rfl fun hS => y4 2 false 17 (b := (decide (M4 < (1 : Int)))) (r := (decide (M4 > (15 : Int)))) hS rfl rfl rfl rfl rfl rfl rfl (fun hb a w hS K hK => ?_) rfl fun a w hS => ?_
 ·refine z2 hS rfl rfl rfl hb (mv rfl) rfl fun a w hS => ?_
  refine z2 hS rfl rfl rfl hb (jv rfl rfl rfl) rfl fun a w hS => ?_
  exact zo (hK _ _ (hS.up 2 rfl rfl))
 refine sM hS rfl fun hS => y4 3 false 21 (b := ((decide (M4 < (1 : Int))) || (decide (M4 > (15 : Int))))) (r := (decide ((M3.length : Int) > (320 : Int)))) hS rfl rfl rfl rfl rfl rfl rfl (fun hb a w hS K hK => ?_) rfl fun a w hS => ?_
 ·refine z2 hS rfl rfl rfl hb (mv rfl) rfl fun a w hS => ?_
  refine z2 hS rfl rfl rfl hb (yc rfl Tryd.runUnderlying66) rfl fun a w hS => z2 hS rfl rfl rfl hb (jv rfl rfl rfl) rfl fun a w hS => ?_
  exact zo (hK _ _ (hS.up 3 rfl rfl))
 refine sM hS rfl fun hS => V2 (fun a w => ∃ (PL : Bool), Ss 109 [] [(0, .slice Nz M3.length NA), (1, .int .i64 M4), (29, .bool PL)] H [] F a w ∧ (qy.j1 K M3 M4 PL).wp kr kp) 3 (fun Ts Pj => ?_) ?_
 ·refine Lt (b := (((decide (M4 < (1 : Int))) || (decide (M4 > (15 : Int)))) || (decide ((M3.length : Int) > (320 : Int))))) hM (fun ND hM => ?_) (fun ND hM => ?_)
  ·replace hS := hS.re 25 (v := .bool true) rfl (congrArg Value.bool ND)
   replace hS := hS.re 26 (v := .bool true) rfl (congrArg Value.bool ND)
   refine GN 2 hS rfl fun a w hS => sO hS (pk rfl rfl rfl) rfl fun hS => zo <| qe ?_
   exact Pj _ _ ⟨true, hS.to [] (by kernel_rfl) ⟨rfl, rfl, rfl, trivial⟩, hM⟩
  ·replace hS := hS.re 25 (v := .bool false) rfl (congrArg Value.bool ND)
   replace hS := hS.re 26 (v := .bool false) rfl (congrArg Value.bool ND)
   refine z2 hS rfl rfl rfl rfl (mv rfl) rfl fun a w hS => J3 hS rfl rfl rfl rfl <| qI hS rfl Tryd.call53 (jr hG K M3 Nz NA (N3.app _) Sq (hS.st.part 0 [0] (by kernel_rfl)) (qt hM) (fun Tg w hM  hst => qB hS.ev hst.appF rfl fun hS => ?_))
   replace hS : Ss _ _ _ H [SZ] F _ _ := hS
   refine sO hS (pk rfl rfl rfl) rfl fun hS => zo <| qe ?_
   exact Pj _ _ ⟨Tg, hS.to [] (by kernel_rfl) ⟨rfl, rfl, rfl, trivial⟩, hM⟩
 ·intro a w hI
  obtain ⟨PL, hS, hM⟩ := hI
  rw [qy.j1] at hM
  refine qA <| qF hS rfl hM (fun Sg hM => ?_) (fun Sg hM => ?_)
  ·refine wp_seq ?_
   refine zM <| sA hS rfl fun hS => ?_
   obtain ⟨S1, P9, hS⟩ := hS.nilV 3 (ci .i64) 1
   refine sA hS rfl fun hS => qA <| wp_ret <| zk ?_
   exact zE (rs := [4, 5]) hS rfl rfl (hret none (0) ([] : List Int) S1 (1 : Int) _ (q8 hM) P9 (hS.st.pick [0] (by kernel_rfl)))
  ·refine wp_skip ?_
   refine qe <| qm <| sA hS rfl fun hS => ?_
   obtain ⟨PY, hS⟩ := hS.pool0
   obtain ⟨S2, Sa, hS⟩ := hS.nilV 112 (zT.v (sz := 2)) 2
   have SD : zH (qj PY) ([] : List qb) ([] : List (zT 2)) := zH.nil
   refine qA <| zl (fun a w => ∃ (NK : qk) (Nc : Option Addr) (Nd : Nat) (Nk : List (zT 2)) (M5 : (List qb)) (NV : qk), Ss 109 [] [(0, .slice Nz M3.length NA), (1, .int .i64 M4), (6, .slice Nc Nk.length Nd)] H [NK, NV] F a w ∧ (xj 112 (zT.v (sz := 2)) 2 Nc Nk Nd NV) ∧ (zH (qj NK) M5 Nk) ∧ (qy.j3 K M3 M4 M5).wp kr kp) (fun Tu P4 => ?_) ?_
   ·refine wp_seq ?_
    refine zM <| sM hS rfl fun hS => sO hS (yc rfl Tryd.runUnderlying66) rfl fun hS => sM hS rfl fun hS => qA <| xQ <| zv (fun PV a w => ∃ (NX : qk) (NQ : Option Addr) (NS : Nat) (Nv : List (zT 2)) (M9 : (List qb)) (NU : qk) (Nl : Int), Ss 109 [] [(0, .slice Nz M3.length NA), (1, .int .i64 M4), (6, .slice NQ Nv.length NS), (30, .slice Nz M3.length NA), (31, .int .i64 (M3.length : Int)), (32, .int .i64 Nl)] H [NX, NU] F a w ∧ (xj 112 (zT.v (sz := 2)) 2 NQ Nv NS NU) ∧ (zH (qj NX) M9 Nv) ∧ (qy.l2 K M3 M4 PV M9 Nl).wp kr kp) K ?_ ?_ ?_
    ·exact ⟨PY, none, 0, ([] : List (zT 2)), ([] : List qb), S2, (0 : Int), hS.to [1, 0] (by kernel_rfl) ⟨rfl, rfl, rfl, rfl, rfl, rfl, trivial⟩, Sa, SD, hM⟩
    ·intro a w hI; obtain ⟨_, _, _, _, _, _, _, _, _, _, hM⟩ := hI; exact zu hM
    ·intro PV a w hI Tt Pk
     obtain ⟨NX, NQ, NS, Nv, M9, NU, Nl, hS, NZ, Nu, hM⟩ := hI
     rw [qy.l2] at hM
     refine qm <| sB hS rfl fun hS => qA <| wp_seq <| qF hS rfl hM (fun Sh hM => ?_) (fun Sh hM => ?_)
     ·refine wp_skip ?_
      refine qe <| wp_seq <| xQ <| qm <| sM hS rfl fun hS => ?_
      obtain ⟨Pt, hM⟩ := qK hM
      refine sO hS (yu rfl rfl Tryd.runUnderlying66 Tryd.sizeOf3 N3.wk (fun _ => rfl) rfl Pt) rfl fun hS => sO hS (yG rfl N3.wk (fun _ => rfl) Pt rfl Tryd.isAgg3) rfl fun hS => sA hS rfl fun hS => zF (v := Value.int .i64) (x0 := (rd M3 Nl)) hS (xA rfl) rfl fun NH a w hz hS => ?_
      have hM := qz hz hM; clear hz
      refine qA <| qm <| sM hS rfl fun hS => sB hS rfl fun hS => qA <| qF hS rfl hM (fun Si hM => ?_) (fun Si hM => ?_)
      ·refine zM ?_
       refine sM hS rfl fun hS => sM hS rfl fun hS => sM hS rfl fun hS => Jv (g := (ci .i64)) ([Nl] : List Int) [.int .i64 Nl] hS Tryd.runUnderlying66 Tryd.sizeOf3 X.el3 rfl rfl rfl (by simp [Value.cells]) rfl rfl rfl rfl rfl fun w N7 N8 TD Pn hS => sO hS (Xw ([.int .i64 NH, .slice N7 ([Nl] : List Int).length N8]) [(0, 1), (1, 1)] Tryd.zeroValue112 Tryd.runUnderlying112 (by intro w; simp [Tryd.sizeOf3, Tryd.sizeOf66]) rfl rfl) rfl fun hS => ?_
       replace hS := hS.front [0, 1, 2] (by kernel_rfl)
       obtain ⟨PH, SG, SH, hS⟩ := hS.poolF
       have Sr := Pn.cap (fun _ => rfl) rfl
       have SB := Pn.pl.mono SG
       replace Nu := zH.mono (fun _ _ h => qj.mono SH h) Nu
       obtain ⟨N5, hrw⟩ : ∃ r, r = ([(⟨[.int .i64 NH, .slice N7 ([Nl] : List Int).length N8], by simp, by simp [Value.oneCell']⟩ : zT 2)] : List (zT 2)) := ⟨_, rfl⟩
       have PC : zH (qj PH) ([(qb.mk NH ([Nl] : List Int))] : List qb) N5 := by rw [hrw]; exact (zH.cons (show qj PH _ _ from ⟨N7, N8, rfl, SB, Sr⟩) zH.nil)
       refine Jv (g := (zT.v (sz := 2))) N5 [.agg ⟨[.int .i64 NH, .slice N7 ([Nl] : List Int).length N8]⟩] hS Tryd.runUnderlying110 Tryd.sizeOf112 X.el112 rfl rfl rfl (by simp [Value.cells]) (by rw [hrw]; rfl) (by rw [hrw]; rfl) rfl rfl rfl fun w Tq TB TE Sb hS => ?_
       clear hrw
       obtain ⟨Sx, hM⟩ := qK hM
       refine J5 (ys := N5) 2 hS rfl rfl NZ rfl (Sb.rd (i := 0) rfl) Tryd.runUnderlying110 Tryd.runUnderlying110 X.el112 zT.len rfl XE (Nu.room PC Sx) rfl fun SO w ST SW S3 hz Sc hS => ?_
       obtain ⟨SR, hzm⟩ := um (M9 ++ ([(qb.mk NH ([Nl] : List Int))] : List qb))
       replace hM := qz hzm hM
       have PD := zH.append Nu PC
       rw [← hz, ← hzm] at PD; clear hz hzm
       refine sA hS rfl fun hS => zo <| zx (qe ?_)
       refine zM <| sB hS rfl fun hS => sM hS rfl fun hS => zo <| qe ?_
       exact Pk _ _ ⟨PH, ST, SW, SO, SR, S3, (qg (Nl + (1 : Int))), hS.to [1, 2] (by kernel_rfl) ⟨rfl, rfl, rfl, rfl, rfl, rfl, trivial⟩, Sc, PD, hM⟩
      ·refine wp_skip ?_
       refine zx (qe ?_)
       refine zM <| sB hS rfl fun hS => sM hS rfl fun hS => zo <| qe ?_
       exact Pk _ _ ⟨NX, NQ, NS, Nv, M9, NU, (qg (Nl + (1 : Int))), hS.to [0, 1] (by kernel_rfl) ⟨rfl, rfl, rfl, rfl, rfl, rfl, trivial⟩, NZ, Nu, hM⟩
     ·refine wp_exit ?_
      refine qE (qE (zd (qe ?_)))
      exact P4 _ _ ⟨NX, NQ, NS, Nv, M9, NU, hS.to [0, 1] (by kernel_rfl) ⟨rfl, rfl, rfl, trivial⟩, NZ, Nu, hM⟩
   ·intro a w hI
    obtain ⟨NK, Nc, Nd, Nk, M5, NV, hS, NL, Nn, hM⟩ := hI
    rw [qy.j3] at hM
    refine wp_seq <| qm <| sM hS rfl fun hS => sO hS (qX (v' := .int .i64 (M5.length : Int)) (yc rfl Tryd.runUnderlying110) (by rw [Nn.len])) rfl fun hS => sM hS rfl fun hS => ?_
    obtain ⟨Sy, hM⟩ := qK hM
    refine sO hS (shl rfl rfl Sy) rfl fun hS => sB hS rfl fun hS => qA <| qF hS rfl hM (fun Sj hM => ?_) (fun Sj hM => ?_)
    ·refine wp_seq ?_
     refine zM <| sA hS rfl fun hS => ?_
     obtain ⟨S4, Sd, hS⟩ := hS.nilV 3 (ci .i64) 1
     refine sA hS rfl fun hS => qA <| wp_ret <| zk ?_
     exact zE (rs := [4, 5]) hS rfl rfl (hret none (0) ([] : List Int) S4 (1 : Int) _ (q8 hM) Sd (hS.st.pick [0] (by kernel_rfl)))
    ·refine wp_skip ?_
     refine qe <| qm <| sM hS rfl fun hS => sO hS (yc rfl Tryd.runUnderlying66) rfl fun hS => ?_
     obtain ⟨Sz, hM⟩ := qK hM
     refine DD (g := (ci .i64)) (m := (M3.length : Int)) (0 : Int) hS rfl rfl (by simp) Tryd.runUnderlying66 X.el3 (fun w => ⟨_, Tryd.zeroValue3 w, rfl⟩) (fun _ => rfl) rfl rfl Sz rfl fun NO w M6 M7 S5 hz N0 hS => ?_
     have hM := qz hz hM; clear hz
     refine sA hS rfl fun hS => qA <| zl (fun a w => ∃ (Nb : (List Int)) (Np : qk), Ss 109 [] [(1, .int .i64 M4), (6, .slice Nc Nk.length Nd), (9, .slice M6 Nb.length M7)] H [NK, NV, Np] F a w ∧ (xj 3 (ci .i64) 1 M6 Nb M7 Np) ∧ (qy.j4 K M4 M5 Nb).wp kr kp) (fun Tv Pm => ?_) ?_
     ·refine wp_seq ?_
      refine zM <| sM hS rfl fun hS => sO hS (qX (v' := .int .i64 (M5.length : Int)) (yc rfl Tryd.runUnderlying110) (by rw [Nn.len])) rfl fun hS => sB hS rfl fun hS => qA <| qF hS rfl hM (fun Sk hM => ?_) (fun Sk hM => ?_)
      ·refine zM ?_
       refine sM hS rfl fun hS => sM hS rfl fun hS => ?_
       obtain ⟨NM, hM⟩ := qK hM
       refine sO hS (yu rfl rfl Tryd.runUnderlying110 Tryd.sizeOf112 (NL.rd (i := 2) rfl) zT.len rfl (Nn.inb NM)) rfl fun hS => sO hS (Jz rfl (NL.rd (i := 2) rfl) zT.len rfl (Nn.inb NM) Tryd.runUnderlying112 rfl Tryd.sizeOf66 rfl) rfl fun hS => ?_
       obtain ⟨Tr, TC, SM, Py, Tl⟩ := Nn.get NM
       refine sO hS (DC 1 rfl (NL.rd (i := 2) rfl) zT.len (Nn.inb NM) (by rw [show zT.v (rd Nk (0 : Int)) = _ from SM]; rfl) Tryd.isAgg66) rfl fun hS => ?_
       obtain ⟨Pv, hM⟩ := qK hM
       refine sO hS (yu rfl rfl Tryd.runUnderlying66 Tryd.sizeOf3 (Py.rd (i := 1) rfl) (fun _ => rfl) rfl Pv) rfl fun hS => sO hS (yG rfl (Py.rd (i := 1) rfl) (fun _ => rfl) Pv rfl Tryd.isAgg3) rfl fun hS => ?_
       obtain ⟨Pw, hM⟩ := qK hM
       refine sO hS (yu rfl rfl Tryd.runUnderlying66 Tryd.sizeOf3 (N0.rd (i := 0) rfl) (fun _ => rfl) rfl Pw) rfl fun hS => J1 (i := (rd ((rd M5 (0 : Int)).symbols_) (0 : Int))) (sz := 1) 0 0 ((1 : Int)) hS rfl rfl N0 rfl Tryd.sizeOf3 (xJ (1 : Int)) (fun _ => rfl) Pw rfl rfl fun NP w S6 hz N4 Se hS => ?_
       have hM := qz hz hM; clear hz
       replace hS := hS.re 9 (u := .slice M6 NO.length M7) (v := .slice M6 NP.length M7) rfl (by rw [N4])
       replace hS := hS.re 54 (u := .slice M6 NO.length M7) (v := .slice M6 NP.length M7) rfl (by rw [N4])
       replace hS := hS.re 58 (u := .slice M6 NO.length M7) (v := .slice M6 NP.length M7) rfl (by rw [N4])
       refine zo <| qe ?_
       exact Pm _ _ ⟨NP, S6, hS.to [1, 2, 0] (by kernel_rfl) ⟨rfl, rfl, rfl, trivial⟩, Se, hM⟩
      ·refine wp_skip ?_
       refine qe ?_
       exact Pm _ _ ⟨NO, S5, hS.to [1, 2, 0] (by kernel_rfl) ⟨rfl, rfl, rfl, trivial⟩, N0, hM⟩
     ·intro a w hI
      obtain ⟨Nb, Np, hS, Po, hM⟩ := hI
      rw [qy.j4] at hM
      refine wp_seq <| qm <| sM hS rfl fun hS => sO hS (qX (v' := .int .i64 (M5.length : Int)) (yc rfl Tryd.runUnderlying110) (by rw [Nn.len])) rfl fun hS => sB hS rfl fun hS => qA <| qF hS rfl hM (fun Sm hM => ?_) (fun Sm hM => ?_)
      ·refine wp_seq ?_
       refine zM <| sM hS rfl fun hS => sA hS rfl fun hS => sA hS rfl fun hS => qA <| wp_ret <| zk ?_
       exact zE (rs := [4, 5]) hS rfl rfl (hret M6 M7 Nb Np (0 : Int) _ (q8 hM) Po (hS.st.pick [2] (by kernel_rfl)))
      ·refine wp_skip ?_
       refine qe <| qm <| sM hS rfl fun hS => qI hS rfl Tryd.call55 (xx 56 (.inl rfl) hG K M5 NK Nc Nd Nk NV Nn NL (hS.st.part 2 [0, 1, 2] (by kernel_rfl)) (qt hM) (fun M8 Nq S7 w hM PS Pa Ph hst => qB hS.ev hst.appF rfl fun hS => ?_))
       replace hS : Ss _ _ _ H [NK, S7, Np] F _ _ := hS
       replace hS := hS.re 6 (u := .slice Nc Nk.length Nd) (v := .slice Nc M8.length Nd) rfl (by rw [Ph])
       replace hS := hS.re 66 (u := .slice Nc Nk.length Nd) (v := .slice Nc M8.length Nd) rfl (by rw [Ph])
       replace hS := hS.re 70 (u := .slice Nc Nk.length Nd) (v := .slice Nc M8.length Nd) rfl (by rw [Ph])
       refine qA <| qm <| sM hS rfl fun hS => sA hS rfl fun hS => qA <| zl (fun a w => ∃ (Nx : qk) (Pd : Option Addr) (Pf : Nat) (NI : List (zT 2)) (Ny : (List qb)), Ss 109 [] [(6, .slice Nc M8.length Nd), (9, .slice M6 Nb.length M7), (10, .slice Pd NI.length Pf)] H [Nx, Np] F a w ∧ (zH (qj Nx) Nq M8) ∧ (Pl Nx (zT.v (sz := 2)) Nc M8) ∧ (M8.length ≤ Nd) ∧ (zH (qj Nx) Ny NI) ∧ (Pl Nx (zT.v (sz := 2)) Pd NI) ∧ (NI.length ≤ Pf) ∧ (qy.j6 K Nb Nq Ny).wp kr kp) (fun Tx P6 => ?_) ?_
       ·refine wp_seq ?_
        refine zM <| sM hS rfl fun hS => sB hS rfl fun hS => sM hS rfl fun hS => qA <| xQ <| zv (fun PW a w => ∃ (Nw : qk) (NR : Option Addr) (NT : Nat) (Ns : List (zT 2)) (Nt : (List qb)) (Pc : Int), Ss 109 [] [(6, .slice Nc M8.length Nd), (9, .slice M6 Nb.length M7), (10, .slice NR Ns.length NT), (74, .int .i64 (qg (M4 - (1 : Int)))), (75, .int .i64 Pc)] H [Nw, Np] F a w ∧ (zH (qj Nw) Nq M8) ∧ (Pl Nw (zT.v (sz := 2)) Nc M8) ∧ (M8.length ≤ Nd) ∧ (zH (qj Nw) Nt Ns) ∧ (Pl Nw (zT.v (sz := 2)) NR Ns) ∧ (Ns.length ≤ NT) ∧ (qy.l5 K M4 Nb Nq PW Nt Pc).wp kr kp) K ?_ ?_ ?_
        ·replace hS := hS.front [1, 0, 2] (by kernel_rfl)
         obtain ⟨Te, SJ, SK, hS⟩ := hS.poolF
         have Pr := PS.cap zT.len rfl
         have Pz := PS.pl.mono SJ
         replace Pa := zH.mono (fun _ _ h => qj.mono SK h) Pa
         exact ⟨Te, Nc, Nd, M8, Nq, (0 : Int), hS.to [0, 1] (by kernel_rfl) ⟨rfl, rfl, rfl, rfl, rfl, trivial⟩, Pa, Pz, Pr, Pa, Pz, Pr, hM⟩
        ·intro a w hI; obtain ⟨_, _, _, _, _, _, _, _, _, _, _, _, _, hM⟩ := hI; exact zu hM
        ·intro PW a w hI Tw P5
         obtain ⟨Nw, NR, NT, Ns, Nt, Pc, hS, Nh, Ng, N1, Nj, Ni, Pq, hM⟩ := hI
         rw [qy.l5] at hM
         refine qm <| sB hS rfl fun hS => qA <| wp_seq <| qF hS rfl hM (fun Sn hM => ?_) (fun Sn hM => ?_)
         ·refine wp_skip ?_
          refine qe <| wp_seq <| xQ <| zM <| sM hS rfl fun hS => sM hS rfl fun hS => qI hS rfl Tryd.call59 (JF hG K Nt Nw NR NT Ns Nj Ni Pq (hS.st.part 1 [0, 1] (by kernel_rfl)) (qt hM) (fun Tb SU SX SP Th S8 w hM Pb PT NB hst => qB hS.ev hst.appF rfl fun hS => ?_) (fun v w hk hst => xo (zR (qD (qD (zR (qD (⟨hS.ev.defs, hpan _ _ hk hst.appF.frame⟩))))))))
          replace hS : Ss _ _ _ H [Tb, S8, Np] F _ _ := hS
          replace Ng := Ng.mono Pb
          replace Ni := Ni.mono Pb
          replace Nh := zH.mono (fun _ _ h => qj.mono Pb h) Nh
          replace Nj := zH.mono (fun _ _ h => qj.mono Pb h) Nj
          replace hS := hS.front [1, 0, 2] (by kernel_rfl)
          obtain ⟨Tc, SI, NG, hS⟩ := hS.poolF
          have Su := PT.cap zT.len rfl
          have NE := PT.pl.mono SI
          replace NB := zH.mono (fun _ _ h => qj.mono NG h) NB
          replace Ng := Ng.mono NG
          replace Ni := Ni.mono NG
          replace Nh := zH.mono (fun _ _ h => qj.mono NG h) Nh
          replace Nj := zH.mono (fun _ _ h => qj.mono NG h) Nj
          refine qI hS rfl Tryd.call58 (YH hG K Nq Th Tc Nc Nd M8 SU SX SP Nh Ng N1 NB NE Su (hS.st.part 1 [0, 1] (by kernel_rfl)) (qt hM) (fun Td SV SY SQ Ti S9 w hM NJ PU Pi hst => qB hS.ev hst.appF rfl fun hS => ?_) (fun v w hk hst => xo (zR (qD (qD (zR (qD (⟨hS.ev.defs, hpan _ _ hk hst.appF.frame⟩))))))))
          replace hS : Ss _ _ _ H [Td, S9, Np] F _ _ := hS
          replace NB := zH.mono (fun _ _ h => qj.mono NJ h) NB
          replace Ng := Ng.mono NJ
          replace Ni := Ni.mono NJ
          replace NE := NE.mono NJ
          replace Nh := zH.mono (fun _ _ h => qj.mono NJ h) Nh
          replace Nj := zH.mono (fun _ _ h => qj.mono NJ h) Nj
          refine sA hS rfl fun hS => zo <| zx (qe ?_)
          refine zM <| sB hS rfl fun hS => sM hS rfl fun hS => zo <| qe ?_
          replace hS := hS.front [1, 0, 2] (by kernel_rfl)
          obtain ⟨Tf, SL, Nr, hS⟩ := hS.poolF
          have Sv := PU.cap zT.len rfl
          have SC := PU.pl.mono SL
          replace NB := zH.mono (fun _ _ h => qj.mono Nr h) NB
          replace Pi := zH.mono (fun _ _ h => qj.mono Nr h) Pi
          replace Ng := Ng.mono Nr
          replace Ni := Ni.mono Nr
          replace NE := NE.mono Nr
          replace Nh := zH.mono (fun _ _ h => qj.mono Nr h) Nh
          replace Nj := zH.mono (fun _ _ h => qj.mono Nr h) Nj
          exact P5 _ _ ⟨Tf, SV, SY, SQ, Ti, (qg (Pc + (1 : Int))), hS.to [0, 1] (by kernel_rfl) ⟨rfl, rfl, rfl, rfl, rfl, trivial⟩, Nh, Ng, N1, Pi, SC, Sv, hM⟩
         ·refine wp_exit ?_
          refine qE (qE (zd (qe ?_)))
          exact P6 _ _ ⟨Nw, NR, NT, Ns, Nt, hS.to [0, 1] (by kernel_rfl) ⟨rfl, rfl, rfl, trivial⟩, Nh, Ng, N1, Nj, Ni, Pq, hM⟩
       ·intro a w hI
        obtain ⟨Nx, Pd, Pf, NI, Ny, hS, SE, Tp, Tm, PE, PA, Sw, hM⟩ := hI
        rw [qy.j6] at hM
        refine wp_seq <| qm <| sM hS rfl fun hS => sM hS rfl fun hS => sO hS (qX (v' := .int .i64 (Nq.length : Int)) (yc rfl Tryd.runUnderlying110) (by rw [SE.len])) rfl fun hS => sB hS rfl fun hS => sB hS rfl fun hS => ?_
        obtain ⟨SA, hM⟩ := qK hM
        refine Mq (g := (zT.v (sz := 2))) hS rfl Tryd.runUnderlying110 Tryd.sizeOf112 Lu (DR rfl) zT.len Sw (PE.subok SA) rfl fun PI PN PP a w hz Ps Tn hS => ?_
        obtain ⟨Na, hzm⟩ := um (sub Ny (0 : Int) (qg ((qg ((2 : Int) * (Nq.length : Int))) - (2 : Int))))
        replace hM := qz hzm hM
        have NF := PE.sub (0 : Int) (qg ((qg ((2 : Int) * (Nq.length : Int))) - (2 : Int))) (qg ((qg ((2 : Int) * (Nq.length : Int))) - (2 : Int))) rfl
        rw [← hz, ← hzm] at NF; clear hz hzm
        refine sO hS (qX (v' := .int .i64 (Na.length : Int)) (yc rfl Tryd.runUnderlying110) (by rw [NF.len])) rfl fun hS => sM hS rfl fun hS => qA <| xQ <| zv (fun PG a w => ∃ (No : (List Int)) (NW : qk) (Nm : Int), Ss 109 [] [(9, .slice M6 No.length M7), (87, .slice PN PI.length PP), (88, .int .i64 (Na.length : Int)), (89, .int .i64 Nm)] H [NW, Nx] F a w ∧ (xj 3 (ci .i64) 1 M6 No M7 NW) ∧ (qy.l7 K Na PG No Nm).wp kr kp) K ?_ ?_ ?_
        ·exact ⟨Nb, Np, (0 : Int), hS.to [1, 0] (by kernel_rfl) ⟨rfl, rfl, rfl, rfl, trivial⟩, Po, hM⟩
        ·intro a w hI; obtain ⟨_, _, _, _, _, hM⟩ := hI; exact zu hM
        ·intro PG a w hI Tz P8
         obtain ⟨No, NW, Nm, hS, Pp, hM⟩ := hI
         rw [qy.l7] at hM
         refine qm <| sB hS rfl fun hS => qA <| wp_seq <| qF hS rfl hM (fun So hM => ?_) (fun So hM => ?_)
         ·refine wp_skip ?_
          refine qe <| wp_seq <| xQ <| wp_seq <| zM ?_
          obtain ⟨N2, hM⟩ := qK hM
          refine sO hS (yu rfl rfl Tryd.runUnderlying110 Tryd.sizeOf112 (Ps _ _ _ (PA.rd (i := 1) rfl)) zT.len rfl (NF.inb N2)) rfl fun hS => ?_
          obtain ⟨Pe, Pg, SN, PB, To⟩ := NF.get N2
          refine sO hS (qX (uc rfl (Ps _ _ _ (PA.rd (i := 1) rfl)) zT.len (NF.inb N2) Tryd.isAgg112 Tryd.sizeOf112 rfl) (congrArg (fun l => Value.agg ⟨l⟩) SN)) rfl fun hS => QI ([.int .i64 (0 : Int), .slice none 0 0]) hS Tryd.zeroValue112 rfl rfl fun w TA TF P0 hS => ?_
          obtain ⟨TG, Tk, hS⟩ := hS.nilV 3 (ci .i64) 1
          refine QX 1 ([.int .i64 ((rd Na Nm).often_), .slice Pe ((rd Na Nm).symbols_).length Pg]) ([.int .i64 ((rd Na Nm).often_), .slice Pe ((rd Na Nm).symbols_).length Pg]) hS rfl rfl P0 rfl rfl Tryd.sizeOf112 (by simp [Value.oneCell']) (Nat.le_of_ble_eq_true rfl) rfl fun w TH P3 hS => qA <| qm <| sO hS (xw rfl Tryd.runUnderlying112 rfl Tryd.sizeOf66 rfl) rfl fun hS => sO hS (x5 1 rfl P3 rfl rfl Tryd.isAgg66) rfl fun hS => sO hS (yc rfl Tryd.runUnderlying66) rfl fun hS => sM hS rfl fun hS => qA <| xQ <| zv (fun PX a w => ∃ (Nf : (List Int)) (N9 : qk) (NY : Int), Ss 109 [] [(9, .slice M6 Nf.length M7), (87, .slice PN PI.length PP), (88, .int .i64 (Na.length : Int)), (89, .int .i64 Nm), (94, .slice Pe ((rd Na Nm).symbols_).length Pg), (95, .int .i64 (((rd Na Nm).symbols_).length : Int)), (96, .int .i64 NY)] H [N9, Nx] F a w ∧ (xj 3 (ci .i64) 1 M6 Nf M7 N9) ∧ (qy.l8 K (qy.l7 K Na PG) Na Nm PX Nf NY).wp kr kp) K ?_ ?_ ?_
          ·exact ⟨No, NW, (0 : Int), hS.to [2, 3] (by kernel_rfl) ⟨rfl, rfl, rfl, rfl, rfl, rfl, rfl, trivial⟩, Pp, hM⟩
          ·intro a w hI; obtain ⟨_, _, _, _, _, hM⟩ := hI; exact zu hM
          ·intro PX a w hI Ty P7
           obtain ⟨Nf, N9, NY, hS, NC, hM⟩ := hI
           rw [qy.l8] at hM
           refine qm <| sB hS rfl fun hS => qA <| wp_seq <| qF hS rfl hM (fun Sp hM => ?_) (fun Sp hM => ?_)
           ·refine wp_skip ?_
            refine qe <| wp_seq <| xQ <| wp_seq <| zM ?_
            obtain ⟨Px, hM⟩ := qK hM
            refine sO hS (yu rfl rfl Tryd.runUnderlying66 Tryd.sizeOf3 (PB.rd (i := 1) rfl) (fun _ => rfl) rfl Px) rfl fun hS => sO hS (yG rfl (PB.rd (i := 1) rfl) (fun _ => rfl) Px rfl Tryd.isAgg3) rfl fun hS => zF (v := Value.int .i64) (x0 := (rd ((rd Na Nm).symbols_) NY)) hS (xA rfl) rfl fun PJ a w hz hS => ?_
            have hM := qz hz hM; clear hz
            refine qA <| zM <| sM hS rfl fun hS => sM hS rfl fun hS => ?_
            obtain ⟨NN, hM⟩ := qK hM
            refine sO hS (yu rfl rfl Tryd.runUnderlying66 Tryd.sizeOf3 (NC.rd (i := 0) rfl) (fun _ => rfl) rfl NN) rfl fun hS => sO hS (yG rfl (NC.rd (i := 0) rfl) (fun _ => rfl) NN rfl Tryd.isAgg3) rfl fun hS => sB hS rfl fun hS => sO hS (yu rfl rfl Tryd.runUnderlying66 Tryd.sizeOf3 (NC.rd (i := 0) rfl) (fun _ => rfl) rfl NN) rfl fun hS => J1 (i := PJ) (sz := 1) 0 0 ((qg ((rd Nf PJ) + (1 : Int)))) hS rfl rfl NC rfl Tryd.sizeOf3 (xJ (qg ((rd Nf PJ) + (1 : Int)))) (fun _ => rfl) NN rfl rfl fun N6 w Ta hz PF Sf hS => ?_
            have hM := qz hz hM; clear hz
            replace hS := hS.re 9 (u := .slice M6 Nf.length M7) (v := .slice M6 N6.length M7) rfl (by rw [PF])
            replace hS := hS.re 100 (u := .slice M6 Nf.length M7) (v := .slice M6 N6.length M7) rfl (by rw [PF])
            refine zo <| zx (qe ?_)
            refine zM <| sB hS rfl fun hS => sM hS rfl fun hS => zo <| qe ?_
            exact P7 _ _ ⟨N6, Ta, (qg (NY + (1 : Int))), hS.to [0, 1] (by kernel_rfl) ⟨rfl, rfl, rfl, rfl, rfl, rfl, rfl, trivial⟩, Sf, hM⟩
           ·refine wp_exit ?_
            refine qE (qE (zd (zx (qe ?_))))
            refine zM <| sB hS rfl fun hS => sM hS rfl fun hS => zo <| qe ?_
            exact P8 _ _ ⟨Nf, N9, (qg (Nm + (1 : Int))), hS.to [0, 1] (by kernel_rfl) ⟨rfl, rfl, rfl, rfl, trivial⟩, NC, hM⟩
         ·refine wp_exit ?_
          refine qE (qE (zd (qe ?_)))
          refine qm <| sM hS rfl fun hS => sA hS rfl fun hS => sA hS rfl fun hS => qA <| wp_ret ?_
          exact zE (rs := [4, 5]) hS rfl rfl (hret M6 M7 No NW (0 : Int) _ (q8 hM) Pp (hS.st.pick [0] (by kernel_rfl)))
theorem vO {H : xT} {F : List qk} {w : World} {R : Ending → World → Prop} {kr : ((List Int) × (List Int)) → Prop} {kp : Value → Prop} (hG : Gl H) (K : Nat) (M3 : List Int) (M6 : Option Addr) (M7 : Nat) (Ni : qk) (Nm : xj 3 (ci .i64) 1 M6 M3 M7 Ni)
    (hS : St w H [Ni] F) (hm : (qW.m K M3).wp kr kp)
    (hret : ∀ (Nt : Option Addr) (Nu : Nat) (Ns : (List Int)) (Nw : qk) (Na : (List Int)) (Nx : qk) (w : World), kr (Ns, Na) → (xj 3 (ci .i64) 1 Nt Ns Nu Nw) → (xj 3 (ci .i64) 1 M6 Na M7 Nx) → (Na.length = M3.length) → St w H [Nw, Nx] F → R (.returned (.slice Nt Ns.length Nu)) w)
    (hpan : ∀ v w, kp v → St w H [] F → R (.panicked [⟨v, false, false⟩]) w) :
    Calls Tryd.prog 36 ⟨[.slice M6 M3.length M7]⟩ w R := by
 refine enter Tryd.func36 rfl Tryd.ntmps36 rfl hS fun a w hS => ?_
 have hM := hm; clear hm
 rw [qW.m] at hM
 have NH : M3.length = M3.length := rfl
 refine qm <| sA hS rfl fun hS => ?_
 obtain ⟨NY, NT, hS⟩ := hS.nilV 3 (ci .i64) 1
 refine qA <| qm <| sA hS rfl fun hS => qA <| zl (fun a w => ∃ (Ng : Int), Ss 43 [] [(0, .slice M6 M3.length M7), (3, .int .i64 Ng)] H [Ni] F a w ∧ (qW.j2 K M3 Ng).wp kr kp) (fun NV NB => ?_) ?_
 ·refine wp_seq ?_
  refine zM <| sM hS rfl fun hS => sO hS (yc rfl Tryd.runUnderlying66) rfl fun hS => sM hS rfl fun hS => qA <| xQ <| zv (fun Ny a w => ∃ (Nc : Int) (Nl : Int), Ss 43 [] [(0, .slice M6 M3.length M7), (3, .int .i64 Nc), (9, .slice M6 M3.length M7), (10, .int .i64 (M3.length : Int)), (11, .int .i64 Nl)] H [Ni] F a w ∧ (qW.l1 K M3 Ny Nc Nl).wp kr kp) K ?_ ?_ ?_
  ·exact ⟨(0 : Int), (0 : Int), hS.to [1] (by kernel_rfl) ⟨rfl, rfl, rfl, rfl, rfl, trivial⟩, hM⟩
  ·intro a w hI; obtain ⟨_, _, _, hM⟩ := hI; exact zu hM
  ·intro Ny a w hI NU NA
   obtain ⟨Nc, Nl, hS, hM⟩ := hI
   rw [qW.l1] at hM
   refine qm <| sB hS rfl fun hS => qA <| wp_seq <| qF hS rfl hM (fun NE hM => ?_) (fun NE hM => ?_)
   ·refine wp_skip ?_
    refine qe <| wp_seq <| xQ <| wp_seq <| zM ?_
    obtain ⟨Nq, hM⟩ := qK hM
    refine sO hS (yu rfl rfl Tryd.runUnderlying66 Tryd.sizeOf3 (Nm.rd (i := 0) rfl) (fun _ => rfl) rfl Nq) rfl fun hS => sO hS (yG rfl (Nm.rd (i := 0) rfl) (fun _ => rfl) Nq rfl Tryd.isAgg3) rfl fun hS => zF (v := Value.int .i64) (x0 := (rd M3 Nl)) hS (xA rfl) rfl fun Nr a w hz hS => ?_
    have hM := qz hz hM; clear hz
    refine qA <| zM <| sM hS rfl fun hS => sM hS rfl fun hS => sO hS (Us rfl rfl) rfl fun hS => sB hS rfl fun hS => zF (v := Value.int .i64) (x0 := (qg (Nc + (if (1 : Int) < Nr then (1 : Int) else Nr)))) hS (xA rfl) rfl fun NK a w hz hS => ?_
    have hM := qz hz hM; clear hz
    refine zo <| zx (qe ?_)
    refine zM <| sB hS rfl fun hS => sM hS rfl fun hS => zo <| qe ?_
    exact NA _ _ ⟨NK, (qg (Nl + (1 : Int))), hS.to [0] (by kernel_rfl) ⟨rfl, rfl, rfl, rfl, rfl, trivial⟩, hM⟩
   ·refine wp_exit ?_
    refine qE (qE (zd (qe ?_)))
    exact NB _ _ ⟨Nc, hS.to [0] (by kernel_rfl) ⟨rfl, rfl, trivial⟩, hM⟩
 ·intro a w hI
  obtain ⟨Ng, hS, hM⟩ := hI
  rw [qW.j2] at hM
  refine zl (fun a w => ∃ (M5 : (List Int)) (Nk : qk), Ss 43 [] [(0, .slice M6 M5.length M7)] H [Nk] F a w ∧ (xj 3 (ci .i64) 1 M6 M5 M7 Nk) ∧ (M5.length = M3.length) ∧ (qW.j4 K M5).wp kr kp) (fun NX NC => ?_) ?_
  ·refine wp_seq ?_
   refine zM <| sA hS rfl fun hS => qA <| xQ <| zv (fun Nz a w => ∃ (M4 : (List Int)) (Nj : qk) (Nd : Int) (Nb : Int), Ss 43 [] [(0, .slice M6 M4.length M7), (3, .int .i64 Nd), (6, .int .i64 Nb)] H [Nj] F a w ∧ (xj 3 (ci .i64) 1 M6 M4 M7 Nj) ∧ (M4.length = M3.length) ∧ (qW.l3 K Nz M4 Nd Nb).wp kr kp) K ?_ ?_ ?_
   ·exact ⟨M3, Ni, Ng, (0 : Int), hS.to [0] (by kernel_rfl) ⟨rfl, rfl, rfl, trivial⟩, Nm, NH, hM⟩
   ·intro a w hI; obtain ⟨_, _, _, _, _, _, _, hM⟩ := hI; exact zu hM
   ·intro Nz a w hI NW Np
    obtain ⟨M4, Nj, Nd, Nb, hS, M8, No, hM⟩ := hI
    rw [qW.l3] at hM
    refine wp_seq <| qm <| sM hS rfl fun hS => sB hS rfl fun hS => qA <| qF hS rfl hM (fun NF hM => ?_) (fun NF hM => ?_)
    ·refine wp_skip ?_
     refine qe <| wp_seq <| xQ <| qm <| sM hS rfl fun hS => sM hS rfl fun hS => ?_
     obtain ⟨M9, hM⟩ := qK hM
     refine sO hS (yu rfl rfl Tryd.runUnderlying66 Tryd.sizeOf3 (M8.rd (i := 0) rfl) (fun _ => rfl) rfl M9) rfl fun hS => sO hS (yG rfl (M8.rd (i := 0) rfl) (fun _ => rfl) M9 rfl Tryd.isAgg3) rfl fun hS => sB hS rfl fun hS => qA <| qF hS rfl hM (fun NG hM => ?_) (fun NG hM => ?_)
     ·refine wp_seq ?_
      refine zM <| sM hS rfl fun hS => sM hS rfl fun hS => sO hS (yu rfl rfl Tryd.runUnderlying66 Tryd.sizeOf3 (M8.rd (i := 0) rfl) (fun _ => rfl) rfl M9) rfl fun hS => sO hS (yG rfl (M8.rd (i := 0) rfl) (fun _ => rfl) M9 rfl Tryd.isAgg3) rfl fun hS => sB hS rfl fun hS => sO hS (yu rfl rfl Tryd.runUnderlying66 Tryd.sizeOf3 (M8.rd (i := 0) rfl) (fun _ => rfl) rfl M9) rfl fun hS => J1 (i := Nb) (sz := 1) 0 0 ((qg ((rd M4 Nb) + (1 : Int)))) hS rfl rfl M8 rfl Tryd.sizeOf3 (xJ (qg ((rd M4 Nb) + (1 : Int)))) (fun _ => rfl) M9 rfl rfl fun Nh w NO hz Nf ND hS => ?_
      have hM := qz hz hM; clear hz
      have NI := Eq.trans Nf No
      replace hS := hS.re 0 (u := .slice M6 M4.length M7) (v := .slice M6 Nh.length M7) rfl (by rw [Nf])
      replace hS := hS.re 24 (u := .slice M6 M4.length M7) (v := .slice M6 Nh.length M7) rfl (by rw [Nf])
      replace hS := hS.re 29 (u := .slice M6 M4.length M7) (v := .slice M6 Nh.length M7) rfl (by rw [Nf])
      refine qA <| zM <| sM hS rfl fun hS => sB hS rfl fun hS => zF (v := Value.int .i64) (x0 := (qg (Nd + (1 : Int)))) hS (xA rfl) rfl fun NL a w hz hS => ?_
      have hM := qz hz hM; clear hz
      refine zo <| zx (qe ?_)
      refine zM <| sM hS rfl fun hS => sB hS rfl fun hS => zF (v := Value.int .i64) (x0 := (qg (Nb + (1 : Int)))) hS (xA rfl) rfl fun NQ a w hz hS => ?_
      have hM := qz hz hM; clear hz
      refine zo <| qe ?_
      exact Np _ _ ⟨Nh, NO, NL, NQ, hS.to [0] (by kernel_rfl) ⟨rfl, rfl, rfl, trivial⟩, ND, NI, hM⟩
     ·refine wp_skip ?_
      refine zx (qe ?_)
      refine zM <| sM hS rfl fun hS => sB hS rfl fun hS => zF (v := Value.int .i64) (x0 := (qg (Nb + (1 : Int)))) hS (xA rfl) rfl fun NR a w hz hS => ?_
      have hM := qz hz hM; clear hz
      refine zo <| qe ?_
      exact Np _ _ ⟨M4, Nj, Nd, NR, hS.to [0] (by kernel_rfl) ⟨rfl, rfl, rfl, trivial⟩, M8, No, hM⟩
    ·refine wp_exit ?_
     refine qE (qE (zd (qe ?_)))
     exact NC _ _ ⟨M4, Nj, hS.to [0] (by kernel_rfl) ⟨rfl, trivial⟩, M8, No, hM⟩
  ·intro a w hI
   obtain ⟨M5, Nk, hS, Nn, NJ, hM⟩ := hI
   rw [qW.j4] at hM
   refine qm <| sM hS rfl fun hS => qI hS rfl Tryd.call38 (Qt hG K M5 (15 : Int) M6 M7 (Nn.rdF (i := 0) rfl) (Nn.cap (fun _ => rfl) rfl) (hS.st.part 0 [0] (by kernel_rfl)) (qt hM) (fun NM NN NS Nv NZ w hM NP hst => qB hS.ev hst.appF rfl fun hS => ?_) (fun v w hk hst => xo (qD (⟨hS.ev.defs, hpan _ _ hk hst.appF.frame⟩))))
   replace hS : Ss _ _ _ H [Nv, Nk] F _ _ := hS
   refine sM hS rfl fun hS => sO hS (ex rfl rfl) rfl fun hS => sO hS (ex rfl rfl) rfl fun hS => sA hS rfl fun hS => sA hS rfl fun hS => qA <| qm <| sM hS rfl fun hS => sA hS rfl fun hS => qA <| wp_ret ?_
   exact zE (rs := [2]) hS rfl rfl (hret NM NN NS Nv M5 Nk _ (q8 hM) NP Nn NJ (hS.st.pick [0, 1] (by kernel_rfl)))
theorem ZM {H : xT} {F : List qk} {w : World} {R : Ending → World → Prop} {kr : (List qi) → Prop} {kp : Value → Prop} (hG : Gl H) (K : Nat) (M3 : List Int) (M9 : Option Addr) (Na : Nat) (M8 : jU H [] F (ci .i64) M9 M3) (Pc : M3.length ≤ Na)
    (hS : St w H [] F) (hm : (qP.m K M3).wp kr kp)
    (hret : ∀ (Ns : Option Addr) (Nt : Nat) (Nr : (List qi)) (Nu : qk) (w : World), kr Nr → (xj 84 qi.cells 3 Ns Nr Nt Nu) → St w H [Nu] F → R (.returned (.slice Ns Nr.length Nt)) w) :
    Calls Tryd.prog 37 ⟨[.slice M9 M3.length Na]⟩ w R := by
 refine enter Tryd.func37 rfl Tryd.ntmps37 rfl hS fun a w hS => ?_
 have hM := hm; clear hm
 rw [qP.m] at hM
 refine qm <| sA hS rfl fun hS => ?_
 obtain ⟨Pq, Pb, hS⟩ := hS.nilV 84 qi.cells 3
 refine qA <| qm <| sA hS rfl fun hS => ?_
 obtain ⟨N2, Nx, hS⟩ := hS.nilV 84 qi.cells 3
 refine qA <| wp_seq <| qm <| sA hS rfl fun hS => qA <| xQ <| zv (fun Nj a w => ∃ (Nc : Option Addr) (Nd : Nat) (M6 : (List qi)) (Nf : qk) (M4 : Int), Ss 93 [] [(0, .slice M9 M3.length Na), (3, .slice Nc M6.length Nd), (4, .int .i64 M4)] H [Nf] F a w ∧ (xj 84 qi.cells 3 Nc M6 Nd Nf) ∧ (qP.l1 K M3 Nj M6 M4).wp kr kp) K ?_ ?_ ?_
 ·exact ⟨none, 0, ([] : List qi), N2, (0 : Int), hS.to [0] (by kernel_rfl) ⟨rfl, rfl, rfl, trivial⟩, Nx, hM⟩
 ·intro a w hI; obtain ⟨_, _, _, _, _, _, _, hM⟩ := hI; exact zu hM
 ·intro Nj a w hI Pk Nk
  obtain ⟨Nc, Nd, M6, Nf, M4, hS, Ng, hM⟩ := hI
  rw [qP.l1] at hM
  refine wp_seq <| qm <| sM hS rfl fun hS => sM hS rfl fun hS => sO hS (yc rfl Tryd.runUnderlying66) rfl fun hS => sB hS rfl fun hS => qA <| qF hS rfl hM (fun NG hM => ?_) (fun NG hM => ?_)
  ·refine wp_skip ?_
   refine qe <| xQ <| qm <| sA hS rfl fun hS => qA <| zl (fun a w => ∃ (M7 : Int), Ss 93 [] [(0, .slice M9 M3.length Na), (3, .slice Nc M6.length Nd), (4, .int .i64 M4), (5, .int .i64 M7)] H [Nf] F a w ∧ (qP.j4 K (qP.l1 K M3 Nj) M3 M6 M4 M7).wp kr kp) (fun Pj Nw => ?_) ?_
   ·refine xQ ?_
    refine zv (fun Np a w => ∃ (M5 : Int), Ss 93 [] [(0, .slice M9 M3.length Na), (3, .slice Nc M6.length Nd), (4, .int .i64 M4), (5, .int .i64 M5)] H [Nf] F a w ∧ (qP.l2 K (qP.l1 K M3 Nj) M3 M6 M4 Np M5).wp kr kp) K ?_ ?_ ?_
    ·exact ⟨(1 : Int), hS.to [0] (by kernel_rfl) ⟨rfl, rfl, rfl, rfl, trivial⟩, hM⟩
    ·intro a w hI; obtain ⟨_, _, hM⟩ := hI; exact zu hM
    ·intro Np a w hI Pi Nv
     obtain ⟨M5, hS, hM⟩ := hI
     rw [qP.l2] at hM
     refine wp_seq <| zl (fun a w => ∃ (Nq : Bool), Ss 93 [] [(0, .slice M9 M3.length Na), (3, .slice Nc M6.length Nd), (4, .int .i64 M4), (5, .int .i64 M5), (28, .bool Nq)] H [Nf] F a w ∧ (qP.j3 K (qP.l1 K M3 Nj) (qP.l2 K (qP.l1 K M3 Nj) M3 M6 M4 Np) M3 M6 M4 M5 Nq).wp kr kp) (fun Ph Nm => ?_) ?_
     ·refine Lt (b := (decide ((qg (M4 + M5)) < (M3.length : Int)))) hM (fun Nl hM => ?_) (fun Nl hM => ?_)
      ·obtain ⟨Nn, hM⟩ := qK hM
       obtain ⟨No, hM⟩ := qK hM
       refine q9 (vals := [some (.int .i64 M4), some (.int .i64 M5), some (.int .i64 (qg (M4 + M5))), some (.slice M9 M3.length Na), some (.int .i64 (M3.length : Int)), some (.bool true), some (.bool true), some (.slice M9 M3.length Na), some (.int .i64 M4), some (.int .i64 M5), some (.int .i64 (qg (M4 + M5))), some (xE M9 (Int.toNat (qg (M4 + M5)) * 1)), some (.int .i64 (rd M3 (qg (M4 + M5)))), some (.slice M9 M3.length Na), some (.int .i64 M4), some (xE M9 (Int.toNat M4 * 1)), some (.int .i64 (rd M3 M4)), some (.bool ((rd M3 (qg (M4 + M5))) == (rd M3 M4))), some (.bool ((rd M3 (qg (M4 + M5))) == (rd M3 M4)))]) hS xF rfl ?_
       intro l w ho hcl hA hst
       refine yk hA hst ho hcl xG [0, 1, 2, 3, 4, 5, 6, 7, 8, 9, 10, 11, 12, 13, 14, 15, 16, 17, 18] rfl rfl rfl (by exact ⟨nM rfl, nM rfl, nB rfl, nM rfl, nQ rfl (by exact qX (yc rfl Tryd.runUnderlying66) rfl), nQ rfl (by exact qX (jv rfl rfl rfl) (congrArg Value.bool Nl)), nM rfl, nW rfl rfl rfl rfl rfl rfl rfl rfl (by exact qX (mv rfl) rfl), nW rfl rfl rfl rfl rfl rfl rfl rfl (by exact qX (mv rfl) rfl), nW rfl rfl rfl rfl rfl rfl rfl rfl (by exact qX (mv rfl) rfl), nW rfl rfl rfl rfl rfl rfl rfl rfl (by exact qX (jv rfl rfl rfl) rfl), nW rfl rfl rfl rfl rfl rfl rfl rfl (by exact qX (yu rfl rfl Tryd.runUnderlying66 Tryd.sizeOf3 M8.wk (fun _ => rfl) rfl Nn) rfl), nW rfl rfl rfl rfl rfl rfl rfl rfl (by exact qX (yG rfl M8.wk (fun _ => rfl) Nn rfl Tryd.isAgg3) rfl), nW rfl rfl rfl rfl rfl rfl rfl rfl (by exact qX (mv rfl) rfl), nW rfl rfl rfl rfl rfl rfl rfl rfl (by exact qX (mv rfl) rfl), nW rfl rfl rfl rfl rfl rfl rfl rfl (by exact qX (yu rfl rfl Tryd.runUnderlying66 Tryd.sizeOf3 M8.wk (fun _ => rfl) rfl No) rfl), nW rfl rfl rfl rfl rfl rfl rfl rfl (by exact qX (yG rfl M8.wk (fun _ => rfl) No rfl Tryd.isAgg3) rfl), nW rfl rfl rfl rfl rfl rfl rfl rfl (by exact qX (jv rfl rfl rfl) rfl), nQ rfl (by exact qX (pk rfl rfl rfl) rfl), trivial⟩) fun a w hS => ?_
       replace hS := hS.env2 (e' := [(0, .slice M9 M3.length Na), (3, .slice Nc M6.length Nd), (4, .int .i64 M4), (5, .int .i64 M5), (28, .bool ((rd M3 (qg (M4 + M5))) == (rd M3 M4)))]) ⟨rfl, rfl, rfl, rfl, rfl, trivial⟩
       refine qe ?_
       exact Nm _ _ ⟨((rd M3 (qg (M4 + M5))) == (rd M3 M4)), hS.to [0] (by kernel_rfl) ⟨rfl, rfl, rfl, rfl, rfl, trivial⟩, hM⟩
      ·refine q9 (vals := [some (.int .i64 M4), some (.int .i64 M5), some (.int .i64 (qg (M4 + M5))), some (.slice M9 M3.length Na), some (.int .i64 (M3.length : Int)), some (.bool false), some (.bool false), some (undef), some (undef), some (undef), some (undef), some (undef), some (undef), some (undef), some (undef), some (undef), some (undef), some (undef), some (.bool false)]) hS xF rfl ?_
       intro l w ho hcl hA hst
       refine yk hA hst ho hcl xG [0, 1, 2, 3, 4, 5, 6, 7, 8, 9, 10, 11, 12, 13, 14, 15, 16, 17, 18] rfl rfl rfl (by exact ⟨nM rfl, nM rfl, nB rfl, nM rfl, nQ rfl (by exact qX (yc rfl Tryd.runUnderlying66) rfl), nQ rfl (by exact qX (jv rfl rfl rfl) (congrArg Value.bool Nl)), nM rfl, nS rfl rfl rfl rfl rfl rfl rfl rfl rfl, nS rfl rfl rfl rfl rfl rfl rfl rfl rfl, nS rfl rfl rfl rfl rfl rfl rfl rfl rfl, nS rfl rfl rfl rfl rfl rfl rfl rfl rfl, nS rfl rfl rfl rfl rfl rfl rfl rfl rfl, nS rfl rfl rfl rfl rfl rfl rfl rfl rfl, nS rfl rfl rfl rfl rfl rfl rfl rfl rfl, nS rfl rfl rfl rfl rfl rfl rfl rfl rfl, nS rfl rfl rfl rfl rfl rfl rfl rfl rfl, nS rfl rfl rfl rfl rfl rfl rfl rfl rfl, nS rfl rfl rfl rfl rfl rfl rfl rfl rfl, nQ rfl (by exact qX (pk rfl rfl rfl) rfl), trivial⟩) fun a w hS => ?_
       replace hS := hS.env2 (e' := [(0, .slice M9 M3.length Na), (3, .slice Nc M6.length Nd), (4, .int .i64 M4), (5, .int .i64 M5), (28, .bool false)]) ⟨rfl, rfl, rfl, rfl, rfl, trivial⟩
       refine qe ?_
       exact Nm _ _ ⟨false, hS.to [0] (by kernel_rfl) ⟨rfl, rfl, rfl, rfl, rfl, trivial⟩, hM⟩
     ·intro a w hI
      obtain ⟨Nq, hS, hM⟩ := hI
      rw [qP.j3] at hM
      refine qF hS rfl hM (fun NH hM => ?_) (fun NH hM => ?_)
      ·refine wp_skip ?_
       refine qe <| xQ <| zM <| sM hS rfl fun hS => sB hS rfl fun hS => zF (v := Value.int .i64) (x0 := (qg (M5 + (1 : Int)))) hS (xA rfl) rfl fun NP a w hz hS => ?_
       have hM := qz hz hM; clear hz
       refine zo <| zx (qe ?_)
       exact Nv _ _ ⟨NP, hS.to [0] (by kernel_rfl) ⟨rfl, rfl, rfl, rfl, trivial⟩, hM⟩
      ·refine wp_exit ?_
       refine qE (qE (zd (qe ?_)))
       exact Nw _ _ ⟨M5, hS.to [0] (by kernel_rfl) ⟨rfl, rfl, rfl, rfl, trivial⟩, hM⟩
   ·intro a w hI
    obtain ⟨M7, hS, hM⟩ := hI
    rw [qP.j4] at hM
    refine wp_seq <| xQ <| qm <| sM hS rfl fun hS => sM hS rfl fun hS => ?_
    obtain ⟨Nb, hM⟩ := qK hM
    refine sO hS (yu rfl rfl Tryd.runUnderlying66 Tryd.sizeOf3 M8.wk (fun _ => rfl) rfl Nb) rfl fun hS => sO hS (yG rfl M8.wk (fun _ => rfl) Nb rfl Tryd.isAgg3) rfl fun hS => sB hS rfl fun hS => sM hS rfl fun hS => y4 2 true 45 (b := ((rd M3 M4) == (0 : Int))) (r := (decide (M7 ≥ (11 : Int)))) hS rfl rfl rfl rfl rfl rfl rfl (fun hb a w hS K hK => ?_) rfl fun a w hS => ?_
    ·refine z2 hS rfl rfl rfl hb (mv rfl) rfl fun a w hS => ?_
     refine z2 hS rfl rfl rfl hb (jv rfl rfl rfl) rfl fun a w hS => ?_
     exact zo (hK _ _ (hS.up 2 rfl rfl))
    refine zF (v := Value.bool) (x0 := (((rd M3 M4) == (0 : Int)) && (decide (M7 ≥ (11 : Int))))) hS (xA rfl) rfl fun Pw a w hz hS => ?_
    have hM := qz hz hM; clear hz
    refine qA <| qF hS rfl hM (fun NI hM => ?_) (fun NI hM => ?_)
    ·refine wp_seq ?_
     refine zM <| sM hS rfl fun hS => sO hS (Us rfl rfl) rfl fun hS => zF (v := Value.int .i64) (x0 := (if (138 : Int) < M7 then (138 : Int) else M7)) hS (xA rfl) rfl fun Nh a w hz hS => ?_
     have hM := qz hz hM; clear hz
     refine qA <| zM <| sM hS rfl fun hS => sM hS rfl fun hS => sB hS rfl fun hS => sO hS (Xw ([.int .i64 (18 : Int), .int .i64 (qg (Nh - (11 : Int))), .int .i64 (7 : Int)]) [(0, 1), (1, 1), (2, 1)] Tryd.zeroValue84 Tryd.runUnderlying84 (by intro w; simp [Tryd.sizeOf3]) rfl rfl) rfl fun hS => Jv (g := qi.cells) ([(qi.mk (18 : Int) (qg (Nh - (11 : Int))) (7 : Int))] : List qi) [.agg ⟨[.int .i64 (18 : Int), .int .i64 (qg (Nh - (11 : Int))), .int .i64 (7 : Int)]⟩] hS Tryd.runUnderlying81 Tryd.sizeOf84 X.el84 rfl rfl rfl (by simp [Value.cells]) rfl rfl rfl rfl rfl fun w Pd Pm Pr Ny hS => ?_
     obtain ⟨NL, hM⟩ := qK hM
     refine J5 (ys := ([(qi.mk (18 : Int) (qg (Nh - (11 : Int))) (7 : Int))] : List qi)) 1 hS rfl rfl Ng rfl (Ny.rd (i := 0) rfl) Tryd.runUnderlying81 Tryd.runUnderlying81 X.el84 (fun _ => rfl) rfl XF NL rfl fun NQ w NU NY N3 hz Nz hS => ?_
     have hM := qz hz hM; clear hz
     refine sA hS rfl fun hS => zo <| zx (qe ?_)
     refine zM <| sM hS rfl fun hS => sM hS rfl fun hS => sB hS rfl fun hS => zF (v := Value.int .i64) (x0 := (qg (M4 + Nh))) hS (xA rfl) rfl fun N7 a w hz hS => ?_
     have hM := qz hz hM; clear hz
     refine zo <| zx (qe ?_)
     exact Nk _ _ ⟨NU, NY, NQ, N3, N7, hS.to [1] (by kernel_rfl) ⟨rfl, rfl, rfl, trivial⟩, Nz, hM⟩
    ·refine wp_seq ?_
     refine zM <| sM hS rfl fun hS => sM hS rfl fun hS => sO hS (yu rfl rfl Tryd.runUnderlying66 Tryd.sizeOf3 M8.wk (fun _ => rfl) rfl Nb) rfl fun hS => sO hS (yG rfl M8.wk (fun _ => rfl) Nb rfl Tryd.isAgg3) rfl fun hS => sB hS rfl fun hS => sM hS rfl fun hS => y4 2 true 63 (b := ((rd M3 M4) == (0 : Int))) (r := (decide (M7 ≥ (3 : Int)))) hS rfl rfl rfl rfl rfl rfl rfl (fun hb a w hS K hK => ?_) rfl fun a w hS => ?_
     ·refine z2 hS rfl rfl rfl hb (mv rfl) rfl fun a w hS => ?_
      refine z2 hS rfl rfl rfl hb (jv rfl rfl rfl) rfl fun a w hS => ?_
      exact zo (hK _ _ (hS.up 2 rfl rfl))
     refine zF (v := Value.bool) (x0 := (((rd M3 M4) == (0 : Int)) && (decide (M7 ≥ (3 : Int))))) hS (xA rfl) rfl fun Px a w hz hS => ?_
     have hM := qz hz hM; clear hz
     refine qA <| qF hS rfl hM (fun NJ hM => ?_) (fun NJ hM => ?_)
     ·refine zM ?_
      refine sM hS rfl fun hS => sM hS rfl fun hS => sB hS rfl fun hS => sO hS (Xw ([.int .i64 (17 : Int), .int .i64 (qg (M7 - (3 : Int))), .int .i64 (3 : Int)]) [(0, 1), (1, 1), (2, 1)] Tryd.zeroValue84 Tryd.runUnderlying84 (by intro w; simp [Tryd.sizeOf3]) rfl rfl) rfl fun hS => Jv (g := qi.cells) ([(qi.mk (17 : Int) (qg (M7 - (3 : Int))) (3 : Int))] : List qi) [.agg ⟨[.int .i64 (17 : Int), .int .i64 (qg (M7 - (3 : Int))), .int .i64 (3 : Int)]⟩] hS Tryd.runUnderlying81 Tryd.sizeOf84 X.el84 rfl rfl rfl (by simp [Value.cells]) rfl rfl rfl rfl rfl fun w Pe Pn Ps NA hS => ?_
      obtain ⟨NM, hM⟩ := qK hM
      refine J5 (ys := ([(qi.mk (17 : Int) (qg (M7 - (3 : Int))) (3 : Int))] : List qi)) 1 hS rfl rfl Ng rfl (NA.rd (i := 0) rfl) Tryd.runUnderlying81 Tryd.runUnderlying81 X.el84 (fun _ => rfl) rfl XF NM rfl fun NR w NV NZ N4 hz NB hS => ?_
      have hM := qz hz hM; clear hz
      refine sA hS rfl fun hS => zo <| zx (qe ?_)
      refine zM <| sM hS rfl fun hS => sM hS rfl fun hS => sB hS rfl fun hS => zF (v := Value.int .i64) (x0 := (qg (M4 + M7))) hS (xA rfl) rfl fun N8 a w hz hS => ?_
      have hM := qz hz hM; clear hz
      refine zo <| zx (qe ?_)
      exact Nk _ _ ⟨NV, NZ, NR, N4, N8, hS.to [1] (by kernel_rfl) ⟨rfl, rfl, rfl, trivial⟩, NB, hM⟩
     ·refine wp_seq ?_
      refine zM <| sM hS rfl fun hS => sB hS rfl fun hS => zF (v := Value.bool) (x0 := (decide (M7 ≥ (4 : Int)))) hS (xA rfl) rfl fun Py a w hz hS => ?_
      have hM := qz hz hM; clear hz
      refine qA <| qF hS rfl hM (fun NK hM => ?_) (fun NK hM => ?_)
      ·refine wp_seq ?_
       refine zM <| sM hS rfl fun hS => sO hS (Us rfl rfl) rfl fun hS => zF (v := Value.int .i64) (x0 := (if (7 : Int) < M7 then (7 : Int) else M7)) hS (xA rfl) rfl fun Ni a w hz hS => ?_
       have hM := qz hz hM; clear hz
       refine qA <| zM <| sM hS rfl fun hS => sM hS rfl fun hS => sM hS rfl fun hS => sO hS (yu rfl rfl Tryd.runUnderlying66 Tryd.sizeOf3 M8.wk (fun _ => rfl) rfl Nb) rfl fun hS => sO hS (yG rfl M8.wk (fun _ => rfl) Nb rfl Tryd.isAgg3) rfl fun hS => sO hS (Xw ([.int .i64 (rd M3 M4), .int .i64 (0 : Int), .int .i64 (0 : Int)]) [(0, 1), (1, 1), (2, 1)] Tryd.zeroValue84 Tryd.runUnderlying84 (by intro w; simp [Tryd.sizeOf3]) rfl rfl) rfl fun hS => sM hS rfl fun hS => sB hS rfl fun hS => sO hS (Xw ([.int .i64 (16 : Int), .int .i64 (qg (Ni - (4 : Int))), .int .i64 (2 : Int)]) [(0, 1), (1, 1), (2, 1)] Tryd.zeroValue84 Tryd.runUnderlying84 (by intro w; simp [Tryd.sizeOf3]) rfl rfl) rfl fun hS => Jv (g := qi.cells) ([(qi.mk (rd M3 M4) (0 : Int) (0 : Int)), (qi.mk (16 : Int) (qg (Ni - (4 : Int))) (2 : Int))] : List qi) [.agg ⟨[.int .i64 (rd M3 M4), .int .i64 (0 : Int), .int .i64 (0 : Int)]⟩, .agg ⟨[.int .i64 (16 : Int), .int .i64 (qg (Ni - (4 : Int))), .int .i64 (2 : Int)]⟩] hS Tryd.runUnderlying81 Tryd.sizeOf84 X.el84 rfl rfl rfl (by simp [Value.cells]) rfl rfl rfl rfl rfl fun w Pf Po Pt NC hS => ?_
       obtain ⟨NN, hM⟩ := qK hM
       refine J5 (ys := ([(qi.mk (rd M3 M4) (0 : Int) (0 : Int)), (qi.mk (16 : Int) (qg (Ni - (4 : Int))) (2 : Int))] : List qi)) 1 hS rfl rfl Ng rfl (NC.rd (i := 0) rfl) Tryd.runUnderlying81 Tryd.runUnderlying81 X.el84 (fun _ => rfl) rfl XF NN rfl fun NS w NW N0 N5 hz ND hS => ?_
       have hM := qz hz hM; clear hz
       refine sA hS rfl fun hS => zo <| zx (qe ?_)
       refine zM <| sM hS rfl fun hS => sM hS rfl fun hS => sB hS rfl fun hS => zF (v := Value.int .i64) (x0 := (qg (M4 + Ni))) hS (xA rfl) rfl fun N9 a w hz hS => ?_
       have hM := qz hz hM; clear hz
       refine zo <| zx (qe ?_)
       exact Nk _ _ ⟨NW, N0, NS, N5, N9, hS.to [1] (by kernel_rfl) ⟨rfl, rfl, rfl, trivial⟩, ND, hM⟩
      ·refine wp_seq ?_
       refine zM <| sA hS rfl fun hS => qA <| zM <| sM hS rfl fun hS => sM hS rfl fun hS => sM hS rfl fun hS => sO hS (yu rfl rfl Tryd.runUnderlying66 Tryd.sizeOf3 M8.wk (fun _ => rfl) rfl Nb) rfl fun hS => sO hS (yG rfl M8.wk (fun _ => rfl) Nb rfl Tryd.isAgg3) rfl fun hS => sO hS (Xw ([.int .i64 (rd M3 M4), .int .i64 (0 : Int), .int .i64 (0 : Int)]) [(0, 1), (1, 1), (2, 1)] Tryd.zeroValue84 Tryd.runUnderlying84 (by intro w; simp [Tryd.sizeOf3]) rfl rfl) rfl fun hS => Jv (g := qi.cells) ([(qi.mk (rd M3 M4) (0 : Int) (0 : Int))] : List qi) [.agg ⟨[.int .i64 (rd M3 M4), .int .i64 (0 : Int), .int .i64 (0 : Int)]⟩] hS Tryd.runUnderlying81 Tryd.sizeOf84 X.el84 rfl rfl rfl (by simp [Value.cells]) rfl rfl rfl rfl rfl fun w Pg Pp Pv NE hS => ?_
       obtain ⟨NO, hM⟩ := qK hM
       refine J5 (ys := ([(qi.mk (rd M3 M4) (0 : Int) (0 : Int))] : List qi)) 1 hS rfl rfl Ng rfl (NE.rd (i := 0) rfl) Tryd.runUnderlying81 Tryd.runUnderlying81 X.el84 (fun _ => rfl) rfl XF NO rfl fun NT w NX N1 N6 hz NF hS => ?_
       have hM := qz hz hM; clear hz
       refine sA hS rfl fun hS => zo <| zx (qe ?_)
       refine zM <| sM hS rfl fun hS => sM hS rfl fun hS => sB hS rfl fun hS => zF (v := Value.int .i64) (x0 := (qg (M4 + (1 : Int)))) hS (xA rfl) rfl fun Pa a w hz hS => ?_
       have hM := qz hz hM; clear hz
       refine zo <| zx (qe ?_)
       exact Nk _ _ ⟨NX, N1, NT, N6, Pa, hS.to [1] (by kernel_rfl) ⟨rfl, rfl, rfl, trivial⟩, NF, hM⟩
  ·refine wp_exit ?_
   refine qE (qE (zd (qe ?_)))
   refine qm <| sM hS rfl fun hS => sA hS rfl fun hS => qA <| wp_ret ?_
   exact zE (rs := [2]) hS rfl rfl (hret Nc Nd M6 Nf _ (q8 hM) Ng (hS.st.pick [0] (by kernel_rfl)))
theorem uD {H : xT} {F : List qk} {w : World} {R : Ending → World → Prop} {kr : (Int × (List Int)) → Prop} {kp : Value → Prop} (hG : Gl H) (K : Nat) (M3 : qp) (M4 : qv) (M5 : Int) (M8 : Nat) (NB : qk) (Nx : Option Addr) (Nz : Nat) (NC : qk) (Nh : Option Addr) (Nm : Nat) (Nc : qk) (Ni : Option Addr) (Nn : Nat) (Nd : qk) (Nj : Option Addr) (No : Nat) (Nf : qk) (Nk : Option Addr) (Np : Nat) (Ng : qk) (Ny : Option Addr) (NA : Nat) (Nb : Option Addr) (Nq : Nat) (NT : xM NB M8 ([.int .i64 M3.Writer_.place_.at_, .slice Nx M3.Writer_.bytes_.length Nz, .slice Nh M3.literals_.lengths_.length Nm, .slice Ni M3.literals_.codes_.length Nn, .slice Nj M3.distances_.lengths_.length No, .slice Nk M3.distances_.codes_.length Np]) 70) (NV : xj 5 (ci .u8) 1 Nx M3.Writer_.bytes_ Nz NC) (NW : xj 3 (ci .i64) 1 Nh M3.literals_.lengths_ Nm Nc) (NX : xj 3 (ci .i64) 1 Ni M3.literals_.codes_ Nn Nd) (NY : xj 3 (ci .i64) 1 Nj M3.distances_.lengths_ No Nf) (NZ : xj 3 (ci .i64) 1 Nk M3.distances_.codes_ Np Ng) (NI : jU H [] F (ci .i64) Ny M4.lengths_) (N9 : M4.lengths_.length ≤ NA) (NJ : jU H [] F (ci .i64) Nb M4.codes_) (Pa : M4.codes_.length ≤ Nq)
    (hS : St w H [NB, NC, Nc, Nd, Nf, Ng] F) (hm : (zN.m K M3 M4 M5).wp kr kp)
    (hret : ∀ (Nu : Int) (NL : Option Addr) (NM : Nat) (Na : (List Int)) (NQ : qk) (NR : qk) (w : World), kr (Nu, Na) → (xj 5 (ci .u8) 1 NL Na NM NQ) → (xM NR M8 ([.int .i64 Nu, .slice NL Na.length NM, .slice Nh M3.literals_.lengths_.length Nm, .slice Ni M3.literals_.codes_.length Nn, .slice Nj M3.distances_.lengths_.length No, .slice Nk M3.distances_.codes_.length Np]) 70) → St w H [NR, NQ, Nc, Nd, Nf, Ng] F → R (.returned (.tuple ⟨[]⟩)) w) :
    Calls Tryd.prog 39 ⟨[qL M8 0, .agg ⟨[.slice Ny M4.lengths_.length NA, .slice Nb M4.codes_.length Nq]⟩, .int .i64 M5]⟩ w R := by
 refine enter Tryd.func39 rfl Tryd.ntmps39 rfl hS fun a w hS => ?_
 have hM := hm; clear hm
 rw [zN.m] at hM
 refine qm <| bx ([.slice Ny M4.lengths_.length NA, .slice Nb M4.codes_.length Nq]) hS rfl rfl rfl fun w Nv NN ND hS => qA <| qm <| sO hS (xw rfl Tryd.runUnderlying68 rfl Tryd.sizeOf66 rfl) rfl fun hS => sO hS (x5 0 rfl ND rfl rfl Tryd.isAgg66) rfl fun hS => sM hS rfl fun hS => ?_
 obtain ⟨NG, hM⟩ := qK hM
 refine sO hS (yu rfl rfl Tryd.runUnderlying66 Tryd.sizeOf3 NI.wk (fun _ => rfl) rfl NG) rfl fun hS => sO hS (yG rfl NI.wk (fun _ => rfl) NG rfl Tryd.isAgg3) rfl fun hS => sB hS rfl fun hS => zF (v := Value.int .i64) (x0 := (qg ((rd M4.lengths_ M5) - (1 : Int)))) hS (xA rfl) rfl fun N6 a w hz hS => ?_
 have hM := qz hz hM; clear hz
 refine qA <| xQ <| zv (fun NS a w => ∃ (M9 : Int) (Nl : Option Addr) (Nr : Nat) (M6 : (List Int)) (Ns : qk) (Nt : qk) (M7 : Int), Ss 30 [] [(0, qL M8 0), (2, .int .i64 M5), (4, qL Nv 0), (6, .int .i64 M7)] H [Nt, Ns, Nc, Nd, Nf, Ng, NN] F a w ∧ (xj 5 (ci .u8) 1 Nl M6 Nr Ns) ∧ (xM Nt M8 ([.int .i64 M9, .slice Nl M6.length Nr, .slice Nh M3.literals_.lengths_.length Nm, .slice Ni M3.literals_.codes_.length Nn, .slice Nj M3.distances_.lengths_.length No, .slice Nk M3.distances_.codes_.length Np]) 70) ∧ (zN.l1 K M3 M4 M5 NS M9 M6 M7).wp kr kp) K ?_ ?_ ?_
 ·exact ⟨M3.Writer_.place_.at_, Nx, Nz, M3.Writer_.bytes_, NC, NB, N6, hS.to [1, 2, 3, 4, 5, 6, 0] (by kernel_rfl) ⟨rfl, rfl, rfl, rfl, trivial⟩, NV, NT, hM⟩
 ·intro a w hI; obtain ⟨_, _, _, _, _, _, _, _, _, _, hM⟩ := hI; exact zu hM
 ·intro NS a w hI Pb NU
  obtain ⟨M9, Nl, Nr, M6, Ns, Nt, M7, hS, NF, NE, hM⟩ := hI
  rw [zN.l1] at hM
  refine wp_seq <| qm <| sM hS rfl fun hS => sB hS rfl fun hS => qA <| qF hS rfl hM (fun N0 hM => ?_) (fun N0 hM => ?_)
  ·refine wp_skip ?_
   refine qe <| wp_seq <| xQ ?_
   obtain ⟨NH, hM⟩ := qK hM
   obtain ⟨N1, hM⟩ := qK hM
   refine q9 (vals := [some (qL M8 0), some (qL M8 0), some (qL M8 0), some (qL Nv 1), some (.slice Nb M4.codes_.length Nq), some (.int .i64 M5), some (xE Nb (Int.toNat M5 * 1)), some (.int .i64 (rd M4.codes_ M5)), some (.int .i64 M7), some (.int .i64 (xb .i64 (rd M4.codes_ M5) M7)), some (.int .i64 (xH .i64 (xb .i64 (rd M4.codes_ M5) M7) (1 : Int))), some (.int .u32 (wr .u32 (xH .i64 (xb .i64 (rd M4.codes_ M5) M7) (1 : Int)))), none]) hS xF rfl ?_
   intro l w ho hcl hA hst
   refine jf hA hst ho hcl xu xG 12 [0, 1, 2, 3, 4, 5, 6, 7, 8, 9, 10, 11] rfl rfl rfl rfl rfl (by exact ⟨nM rfl, nQ rfl (by exact qX (yz rfl) rfl), nQ rfl (by exact qX (xw rfl Tryd.runUnderlying70 rfl Tryd.sizeOf65 rfl) rfl), nQ rfl (by exact qX (xw rfl Tryd.runUnderlying68 rfl Tryd.sizeOf66 rfl) rfl), nQ rfl (by exact qX (x5 6 rfl ND rfl rfl Tryd.isAgg66) rfl), nM rfl, nQ rfl (by exact qX (yu rfl rfl Tryd.runUnderlying66 Tryd.sizeOf3 NJ.wk (fun _ => rfl) rfl NH) rfl), nQ rfl (by exact qX (yG rfl NJ.wk (fun _ => rfl) NH rfl Tryd.isAgg3) rfl), nM rfl, nQ rfl (by exact qX (shr rfl rfl N1) rfl), nB rfl, nQ rfl (by exact qX (ux rfl Tryd.runUnderlying3 Tryd.runUnderlying25) rfl), trivial⟩) fun D l a w ho hcl hav hpre hm hE hk hA hst => ?_
   have hS := (Ss.mk hE hst).env2 (e' := [(19, qL M8 0), (28, .int .u32 (wr .u32 (xH .i64 (xb .i64 (rd M4.codes_ M5) M7) (1 : Int))))]) ⟨rfl, rfl, trivial⟩
   refine qR rfl <| qI hS rfl Tryd.call30 (zm hG K (qp.mk (qS.mk (qr.mk M9) M6) M3.literals_ M3.distances_) (wr .u32 (xH .i64 (xb .i64 (rd M4.codes_ M5) M7) (1 : Int))) (1 : Int) M8 Nt Nl Nr Ns Nh Nm Nc Ni Nn Nd Nj No Nf Nk Np Ng NE NF NW NX NY NZ (hS.st.part 6 [0, 1, 2, 3, 4, 5, 6] (by kernel_rfl)) (qt hM) (fun N8 NK N2 N3 Nw NO NP w hM N4 N5 hst => qB hS.ev hst.appF rfl fun hS => ?_))
   replace hS : Ss _ _ _ H [NP, NO, Nc, Nd, Nf, Ng, NN] F _ _ := hS
   refine qA ?_
   replace hst := hS.st
   obtain ⟨hcl, hmust, hav2, hA⟩ := dn (vals' := [some (qL M8 0), some (qL M8 0), some (qL M8 0), some (qL Nv 1), some (.slice Nb M4.codes_.length Nq), some (.int .i64 M5), some (xE Nb (Int.toNat M5 * 1)), some (.int .i64 (rd M4.codes_ M5)), some (.int .i64 M7), some (.int .i64 (xb .i64 (rd M4.codes_ M5) M7)), some (.int .i64 (xH .i64 (xb .i64 (rd M4.codes_ M5) M7) (1 : Int))), some (.int .u32 (wr .u32 (xH .i64 (xb .i64 (rd M4.codes_ M5) M7) (1 : Int)))), some (.int .i64 N8)]) 12 [(2, 12), (11, 12), (1, 2), (10, 11), (0, 1), (9, 10), (7, 9), (8, 9), (6, 7), (4, 6), (5, 6), (3, 4)] hA hcl hav hm hpre hk rfl rfl rfl rfl rfl rfl rfl
   clear hm hav
   refine yk hA hst ho hcl hmust [] rfl rfl rfl trivial fun a w hS => ?_
   replace hS := hS.env2 (e' := [(0, qL M8 0), (2, .int .i64 M5), (4, qL Nv 0), (6, .int .i64 M7)]) ⟨rfl, rfl, rfl, rfl, trivial⟩
   refine zx (qe ?_)
   refine zM <| sM hS rfl fun hS => sB hS rfl fun hS => zF (v := Value.int .i64) (x0 := (qg (M7 - (1 : Int)))) hS (xA rfl) rfl fun N7 a w hz hS => ?_
   have hM := qz hz hM; clear hz
   refine zo <| qe ?_
   exact NU _ _ ⟨NK, N2, N3, Nw, NO, NP, N7, hS.to [0, 1, 2, 3, 4, 5, 6] (by kernel_rfl) ⟨rfl, rfl, rfl, rfl, trivial⟩, N4, N5, hM⟩
  ·refine wp_exit ?_
   refine qE (qE (zd ?_))
   exact jS (rs := []) hS rfl rfl (hret M9 Nl Nr M6 Ns Nt _ (q8 hM) NF NE (hS.st.pick [0, 1, 2, 3, 4, 5] (by kernel_rfl)))
end Go.TrydS

