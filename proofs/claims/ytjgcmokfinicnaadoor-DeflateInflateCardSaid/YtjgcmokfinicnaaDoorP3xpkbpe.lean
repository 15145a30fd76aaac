/- Printed by a program of mine: each Go function answers what its model answers; conditions: what each theorem asks of memory. -/
import Derived.Test.YtjgcmokfinicnaaDoorP2xmicek
set_option linter.unusedVariables false
set_option linter.unusedSimpArgs false
set_option maxRecDepth 100000
namespace Go.TrydS
open Go Go.Sl Go.Mo Go.Proofs
attribute [local irreducible] qS.wp
theorem yB (K : Nat) : ∀ (d : Nat) {H : xT} {F : List qp} {w : World} {R : Ending → World → Prop} {kr : (List qb) → Prop} {kp : Value → Prop} (hG : Gl H) (LF : List qb) (LN : Int) (LO : Int) (LR : Int) (LQ : qp) (LG : Option Addr) (LJ : Nat) (LM : List (zq 2)) (LY : qp) (LS : zr (qg LQ) LF LM) (LX : xb 112 (zq.v (sz := 2)) 2 LG LM LJ LY)
    (hS : St w H [LQ, LY] F) (hm : (qc.r K d LF LN LO LR).wp kr kp)
    (hret : ∀ (MD : List (zq 2)) (MA : (List qb)) (NK : qp) (w : World), kr MA → (xb 112 (zq.v (sz := 2)) 2 LG MD LJ NK) → (zr (qg LQ) MA MD) → (MD.length = LM.length) → St w H [LQ, NK] F → R (.returned (.tuple ⟨[]⟩)) w),
    Calls Tryd.prog 100 ⟨[.slice LG LM.length LJ, .int .i64 LN, .int .i64 LO, .int .i64 LR, yA 84 [] []]⟩ w R := by
  intro d
  induction d with
  | zero => intro H F w R kr kp hG LF LN LO LR LQ LG LJ LM LY LS LX hS hm hret; exact (zm hm).elim
  | succ d ih =>
  intro H F w R kr kp hG LF LN LO LR LQ LG LJ LM LY LS LX hS hm hret
  have hM := hm; clear hm
  rw [qc.r] at hM; rw [qc.b] at hM
  refine enter Tryd.func100 rfl Tryd.ntmps100 rfl hS fun a w hS => ?_
  have Sa : ∀ q ∈ LQ, q ∈ LQ := fun _ h => h
  have Mx : LM.length = LM.length := rfl
  refine zc (fun a w => Ss 220 [] [(0, .slice LG LM.length LJ), (1, .int .i64 LN), (2, .int .i64 LO), (3, .int .i64 LR), (4, yA 84 [] [])] H [LQ, LY] F a w ∧ (qc.j4 K (qc.r K d) LF LN LO LR).wp kr kp) (fun Sb NT => ?_) ?_
  ·refine wp_seq ?_
   refine zI <| sM hS rfl fun hS => sM hS rfl fun hS => sB hS rfl fun hS => sB hS rfl fun hS => qJ <| qI hS rfl hM (fun NU hM => ?_) (fun NU hM => ?_)
   ·refine wp_seq ?_
    refine zI <| sM hS rfl fun hS => sA hS rfl fun hS => qJ <| qr <| sM hS rfl fun hS => sA hS rfl fun hS => qJ <| zc (fun a w => ∃ (Ms : Int), Ss 220 [] [(0, .slice LG LM.length LJ), (1, .int .i64 LN), (10, .int .i64 Ms)] H [LQ, LY] F a w ∧ (qc.j2 K (qc.r K d) LF LN Ms).wp kr kp) (fun Sc NV => ?_) ?_
    ·refine xG ?_
     refine zt (fun NL a w => ∃ (Mf : Int) (Mt : Int), Ss 220 [] [(0, .slice LG LM.length LJ), (1, .int .i64 LN), (4, yA 84 [] []), (10, .int .i64 Mf), (11, .int .i64 Mt)] H [LQ, LY] F a w ∧ (qc.l1 K (qc.r K d) LF LN NL Mf Mt).wp kr kp) K ?_ ?_ ?_
     ·exact ⟨LO, LR, hS.to [0, 1] (by kernel_rfl) ⟨rfl, rfl, rfl, rfl, rfl, trivial⟩, hM⟩
     ·intro a w hI; obtain ⟨_, _, _, hM⟩ := hI; exact zm hM
     ·intro NL a w hI Sd Nf
      obtain ⟨Mf, Mt, hS, hM⟩ := hI
      rw [qc.l1] at hM
      refine wp_seq <| qr <| sM hS rfl fun hS => sM hS rfl fun hS => sB hS rfl fun hS => qJ <| qI hS rfl hM (fun NW hM => ?_) (fun NW hM => ?_)
      ·refine wp_skip ?_
       refine qf <| xG <| qr <| sM hS rfl fun hS => sM hS rfl fun hS => sB hS rfl fun hS => sO hS (u2 rfl Tryd.runUnderlying3 Tryd.runUnderlying39) rfl fun hS => sO hS (shr rfl rfl rfl) rfl fun hS => sO hS (u2 rfl Tryd.runUnderlying39 Tryd.runUnderlying3) rfl fun hS => zF (v := Value.int .i64) (x0 := (wr .i64 (xF .u64 (wr .u64 (qh (Mf + Mt))) (1 : Int)))) hS (xB rfl) rfl fun L3 a w hz hS => ?_
       have hM := qE hz hM; clear hz
       refine qJ <| wp_seq ?_
       obtain ⟨ME, hM⟩ := qH hM
       obtain ⟨MT, MU, NX, NY, NZ⟩ := LS.get ME
       obtain ⟨MF, hM⟩ := qH hM
       obtain ⟨MV, MW, N0, N1, N2⟩ := LS.get MF
       refine q8 (vals := [some (yA 84 [] []), some (.slice LG LM.length LJ), some (.int .i64 L3), some (z8 LG (Int.toNat L3 * 2)), some (.agg ⟨[.int .i64 ((rd LF L3).often_), .slice MT ((rd LF L3).symbols_).length MU]⟩), some (.slice LG LM.length LJ), some (.int .i64 LN), some (z8 LG (Int.toNat LN * 2)), some (.agg ⟨[.int .i64 ((rd LF LN).often_), .slice MV ((rd LF LN).symbols_).length MW]⟩), none, none]) hS xw rfl ?_
       intro l w ho hcl hA hst
       refine yV hA hst ho hcl xk xx 9 [0, 1, 2, 3, 4, 5, 6, 7, 8] rfl rfl rfl rfl rfl (by exact ⟨nM rfl, nM rfl, nM rfl, nQ rfl (by exact qV (xZ rfl rfl Tryd.runUnderlying110 Tryd.sizeOf112 (LX.rd (i := 1) rfl) zq.len rfl (LS.inb ME)) rfl), nQ rfl (by exact qV (qV (y4 rfl (LX.rd (i := 1) rfl) zq.len (LS.inb ME) Tryd.isAgg112 Tryd.sizeOf112 rfl) (congrArg (fun l => Value.agg ⟨l⟩) NX)) rfl), nM rfl, nM rfl, nQ rfl (by exact qV (xZ rfl rfl Tryd.runUnderlying110 Tryd.sizeOf112 (LX.rd (i := 1) rfl) zq.len rfl (LS.inb MF)) rfl), nQ rfl (by exact qV (qV (y4 rfl (LX.rd (i := 1) rfl) zq.len (LS.inb MF) Tryd.isAgg112 Tryd.sizeOf112 rfl) (congrArg (fun l => Value.agg ⟨l⟩) N0)) rfl), trivial⟩) fun D l a w ho hcl hav hpre hm hE hk hA hst => ?_
       have hS := (Ss.mk hE hst).env2 (e' := [(40, yA 84 [] []), (44, .agg ⟨[.int .i64 ((rd LF L3).often_), .slice MT ((rd LF L3).symbols_).length MU]⟩), (48, .agg ⟨[.int .i64 ((rd LF LN).often_), .slice MV ((rd LF LN).symbols_).length MW]⟩)]) ⟨rfl, rfl, rfl, trivial⟩
       refine qR rfl <| vw hS rfl rfl Tryd.call84 (jz hG K (qb.mk ((rd LF L3).often_) ((rd LF L3).symbols_)) (qb.mk ((rd LF LN).often_) ((rd LF LN).symbols_)) MT MU MV MW (NY.rdF (i := 0) rfl) NZ (N1.rdF (i := 0) rfl) N2 (hS.st.part 0 [0, 1] (by kernel_rfl)) (qv hM) (fun Ng w hM  hst => qG hS.ev hst.appF rfl fun hS => ?_))
       replace hS : Ss _ _ _ H [LQ, LY] F _ _ := hS
       refine qJ ?_
       replace hst := hS.st
       obtain ⟨hcl, hmust, hav2, hA⟩ := dn (vals' := [some (yA 84 [] []), some (.slice LG LM.length LJ), some (.int .i64 L3), some (z8 LG (Int.toNat L3 * 2)), some (.agg ⟨[.int .i64 ((rd LF L3).often_), .slice MT ((rd LF L3).symbols_).length MU]⟩), some (.slice LG LM.length LJ), some (.int .i64 LN), some (z8 LG (Int.toNat LN * 2)), some (.agg ⟨[.int .i64 ((rd LF LN).often_), .slice MV ((rd LF LN).symbols_).length MW]⟩), some (.int .i64 Ng), some (.bool (decide (Ng < (0 : Int))))]) 9 [(0, 9), (4, 9), (8, 9), (3, 4), (7, 8), (1, 3), (2, 3), (5, 7), (6, 7)] hA hcl hav hm hpre hk rfl rfl rfl rfl rfl rfl rfl
       clear hm hav
       refine x6 hA hst ho hcl hmust [10] rfl rfl rfl (by exact ⟨nB rfl, trivial⟩) fun a w hS => ?_
       replace hS := hS.env2 (e' := [(0, .slice LG LM.length LJ), (1, .int .i64 LN), (4, yA 84 [] []), (10, .int .i64 Mf), (11, .int .i64 Mt), (12, .int .i64 L3), (50, .bool (decide (Ng < (0 : Int))))]) ⟨rfl, rfl, rfl, rfl, rfl, rfl, rfl, trivial⟩
       refine qf <| qI hS rfl hM (fun N3 hM => ?_) (fun N3 hM => ?_)
       ·refine zI ?_
        refine sM hS rfl fun hS => sB hS rfl fun hS => zF (v := Value.int .i64) (x0 := (qh (L3 + (1 : Int)))) hS (xB rfl) rfl fun P0 a w hz hS => ?_
        have hM := qE hz hM; clear hz
        refine zg <| zw (qf ?_)
        exact Nf _ _ ⟨P0, Mt, hS.to [0, 1] (by kernel_rfl) ⟨rfl, rfl, rfl, rfl, rfl, trivial⟩, hM⟩
       ·refine zI ?_
        refine sM hS rfl fun hS => sA hS rfl fun hS => zg <| zw (qf ?_)
        exact Nf _ _ ⟨Mf, L3, hS.to [0, 1] (by kernel_rfl) ⟨rfl, rfl, rfl, rfl, rfl, trivial⟩, hM⟩
      ·refine wp_exit ?_
       refine qC (qC (q9 (qf ?_)))
       exact NV _ _ ⟨Mf, hS.to [0, 1] (by kernel_rfl) ⟨rfl, rfl, rfl, trivial⟩, hM⟩
    ·intro a w hI
     obtain ⟨Ms, hS, hM⟩ := hI
     rw [qc.j2] at hM
     refine wp_seq <| qr <| sM hS rfl fun hS => sA hS rfl fun hS => qJ <| xG <| zt (fun NM a w => ∃ (LU : List (zq 2)) (LK : (List qb)) (MX : qp) (LH : Int), Ss 220 [] [(0, .slice LG LU.length LJ), (10, .int .i64 Ms), (13, .int .i64 LH)] H [LQ, MX] F a w ∧ (xb 112 (zq.v (sz := 2)) 2 LG LU LJ MX) ∧ (zr (qg LQ) LK LU) ∧ (LU.length = LM.length) ∧ (qc.l3 K (qc.r K d) Ms NM LK LH).wp kr kp) K ?_ ?_ ?_
     ·exact ⟨LM, LF, LY, LN, hS.to [0, 1] (by kernel_rfl) ⟨rfl, rfl, rfl, trivial⟩, LX, LS, Mx, hM⟩
     ·intro a w hI; obtain ⟨_, _, _, _, _, _, _, _, hM⟩ := hI; exact zm hM
     ·intro NM a w hI Se N4
      obtain ⟨LU, LK, MX, LH, hS, Md, L5, Nh, hM⟩ := hI
      rw [qc.l3] at hM
      refine wp_seq <| qr <| sM hS rfl fun hS => sM hS rfl fun hS => sB hS rfl fun hS => sB hS rfl fun hS => qJ <| qI hS rfl hM (fun N5 hM => ?_) (fun N5 hM => ?_)
      ·refine wp_skip ?_
       refine qf <| wp_seq <| xG ?_
       obtain ⟨MG, hM⟩ := qH hM
       obtain ⟨Mg, Mh, N6, N7, N8⟩ := L5.get MG
       obtain ⟨Mi, hM⟩ := qH hM
       obtain ⟨Mj, Mk, N9, Pa, Pb⟩ := L5.get Mi
       refine q8 (vals := [some (.slice LG LU.length LJ), some (.int .i64 LH), some (.slice LG LU.length LJ), some (.int .i64 LH), some (.int .i64 (qh (LH + (1 : Int)))), some (.slice LG LU.length LJ), some (.int .i64 LH), some (.int .i64 (qh (LH + (1 : Int)))), some (z8 LG (Int.toNat (qh (LH + (1 : Int))) * 2)), some (.agg ⟨[.int .i64 ((rd LK (qh (LH + (1 : Int)))).often_), .slice Mg ((rd LK (qh (LH + (1 : Int)))).symbols_).length Mh]⟩), some (.slice LG LU.length LJ), some (.int .i64 LH), some (z8 LG (Int.toNat LH * 2)), some (.agg ⟨[.int .i64 ((rd LK LH).often_), .slice Mj ((rd LK LH).symbols_).length Mk]⟩), some (z8 LG (Int.toNat LH * 2)), none, none, none]) hS xw rfl ?_
       intro l w ho hcl hA hst
       refine yV hA hst ho hcl xk xx 15 [0, 1, 2, 3, 4, 5, 6, 7, 8, 9, 10, 11, 12, 13, 14] rfl rfl rfl rfl rfl (by exact ⟨nM rfl, nM rfl, nM rfl, nM rfl, nB rfl, nM rfl, nM rfl, nB rfl, nQ rfl (by exact qV (xZ rfl rfl Tryd.runUnderlying110 Tryd.sizeOf112 (Md.rd (i := 1) rfl) zq.len rfl (L5.inb MG)) rfl), nQ rfl (by exact qV (qV (y4 rfl (Md.rd (i := 1) rfl) zq.len (L5.inb MG) Tryd.isAgg112 Tryd.sizeOf112 rfl) (congrArg (fun l => Value.agg ⟨l⟩) N6)) rfl), nM rfl, nM rfl, nQ rfl (by exact qV (xZ rfl rfl Tryd.runUnderlying110 Tryd.sizeOf112 (Md.rd (i := 1) rfl) zq.len rfl (L5.inb Mi)) rfl), nQ rfl (by exact qV (qV (y4 rfl (Md.rd (i := 1) rfl) zq.len (L5.inb Mi) Tryd.isAgg112 Tryd.sizeOf112 rfl) (congrArg (fun l => Value.agg ⟨l⟩) N9)) rfl), nQ rfl (by exact qV (xZ rfl rfl Tryd.runUnderlying110 Tryd.sizeOf112 (Md.rd (i := 1) rfl) zq.len rfl (L5.inb Mi)) rfl), trivial⟩) fun D l a w ho hcl hav hpre hm hE hk hA hst => ?_
       have hS := (Ss.mk hE hst).env2 (e' := [(70, .agg ⟨[.int .i64 ((rd LK (qh (LH + (1 : Int)))).often_), .slice Mg ((rd LK (qh (LH + (1 : Int)))).symbols_).length Mh]⟩), (75, z8 LG (Int.toNat LH * 2))]) ⟨rfl, rfl, trivial⟩
       refine qR rfl <| QJ (i := LH) (sz := 2) 1 (⟨[.int .i64 ((rd LK (qh (LH + (1 : Int)))).often_), .slice Mg ((rd LK (qh (LH + (1 : Int)))).symbols_).length Mh], by simp, by simp [Value.oneCell']⟩ : zq 2) hS rfl rfl Md rfl Tryd.sizeOf112 rfl (L5.inb Mi) fun Ni w Sf hz Nj hS => ?_
       obtain ⟨Pc, hzm⟩ := js (LK.set (Int.toNat LH) (qb.mk ((rd LK (qh (LH + (1 : Int)))).often_) ((rd LK (qh (LH + (1 : Int)))).symbols_)))
       replace hM := qE hzm hM
       have My := zr.set (x := (qb.mk ((rd LK (qh (LH + (1 : Int)))).often_) ((rd LK (qh (LH + (1 : Int)))).symbols_))) (r := (⟨[.int .i64 ((rd LK (qh (LH + (1 : Int)))).often_), .slice Mg ((rd LK (qh (LH + (1 : Int)))).symbols_).length Mh], by simp, by simp [Value.oneCell']⟩ : zq 2)) (Int.toNat LH) L5 (show qg LQ _ _ from ⟨Mg, Mh, rfl, N7, N8⟩)
       have MH : Ni.length = LU.length := by rw [hz]; exact List.length_set ..
       rw [← hz, ← hzm] at My; clear hz hzm
       have Pd := Eq.trans MH Nh
       refine qJ ?_
       replace hst := hS.st
       obtain ⟨Nk, hM⟩ := qH hM
       obtain ⟨hcl, hmust, hav2, hA⟩ := Zd (vals' := [some (.slice LG LU.length LJ), some (.int .i64 LH), some (.slice LG LU.length LJ), some (.int .i64 LH), some (.int .i64 (qh (LH + (1 : Int)))), some (.slice LG LU.length LJ), some (.int .i64 LH), some (.int .i64 (qh (LH + (1 : Int)))), some (z8 LG (Int.toNat (qh (LH + (1 : Int))) * 2)), some (.agg ⟨[.int .i64 ((rd LK (qh (LH + (1 : Int)))).often_), .slice Mg ((rd LK (qh (LH + (1 : Int)))).symbols_).length Mh]⟩), some (.slice LG LU.length LJ), some (.int .i64 LH), some (z8 LG (Int.toNat LH * 2)), some (.agg ⟨[.int .i64 ((rd LK LH).often_), .slice Mj ((rd LK LH).symbols_).length Mk]⟩), some (z8 LG (Int.toNat LH * 2)), some undef, some (z8 LG (Int.toNat (qh (LH + (1 : Int))) * 2)), none]) 15 [(0, 15), (1, 15), (5, 15), (6, 15), (7, 15), (8, 15), (9, 15), (13, 15), (14, 15), (12, 13), (10, 12), (11, 12)] hA hcl hav hm hpre rfl rfl rfl rfl rfl
       clear hm hav
       refine yV hA hst ho hcl hav2 hmust 17 [2, 3, 4, 16] rfl rfl rfl rfl rfl (by exact ⟨nM rfl, nM rfl, nB rfl, nQ rfl (by exact qV (xZ (Jc MH rfl) rfl Tryd.runUnderlying110 Tryd.sizeOf112 (Nj.rd (i := 1) rfl) zq.len rfl (My.inb Nk)) rfl), trivial⟩) fun D l a w ho hcl hav hpre hm hE hk hA hst => ?_
       have hS := (Ss.mk hE hst).env2 (e' := [(74, .agg ⟨[.int .i64 ((rd LK LH).often_), .slice Mj ((rd LK LH).symbols_).length Mk]⟩), (76, z8 LG (Int.toNat (qh (LH + (1 : Int))) * 2))]) ⟨rfl, rfl, trivial⟩
       refine qR rfl <| QJ (i := (qh (LH + (1 : Int)))) (sz := 2) 1 (⟨[.int .i64 ((rd LK LH).often_), .slice Mj ((rd LK LH).symbols_).length Mk], by simp, by simp [Value.oneCell']⟩ : zq 2) hS rfl rfl Nj rfl Tryd.sizeOf112 rfl (My.inb Nk) fun MI w P1 hz Pe hS => ?_
       obtain ⟨Pf, hzm⟩ := js (Pc.set (Int.toNat (qh (LH + (1 : Int)))) (qb.mk ((rd LK LH).often_) ((rd LK LH).symbols_)))
       replace hM := qE hzm hM
       have Nl := zr.set (x := (qb.mk ((rd LK LH).often_) ((rd LK LH).symbols_))) (r := (⟨[.int .i64 ((rd LK LH).often_), .slice Mj ((rd LK LH).symbols_).length Mk], by simp, by simp [Value.oneCell']⟩ : zq 2)) (Int.toNat (qh (LH + (1 : Int)))) My (show qg LQ _ _ from ⟨Mj, Mk, rfl, Pa, Pb⟩)
       have Nm : MI.length = Ni.length := by rw [hz]; exact List.length_set ..
       rw [← hz, ← hzm] at Nl; clear hz hzm
       have Pg := Eq.trans Nm Pd
       refine qJ ?_
       replace hst := hS.st
       obtain ⟨hcl, hmust, hav2, hA⟩ := Zd (vals' := [some (.slice LG LU.length LJ), some (.int .i64 LH), some (.slice LG LU.length LJ), some (.int .i64 LH), some (.int .i64 (qh (LH + (1 : Int)))), some (.slice LG LU.length LJ), some (.int .i64 LH), some (.int .i64 (qh (LH + (1 : Int)))), some (z8 LG (Int.toNat (qh (LH + (1 : Int))) * 2)), some (.agg ⟨[.int .i64 ((rd LK (qh (LH + (1 : Int)))).often_), .slice Mg ((rd LK (qh (LH + (1 : Int)))).symbols_).length Mh]⟩), some (.slice LG LU.length LJ), some (.int .i64 LH), some (z8 LG (Int.toNat LH * 2)), some (.agg ⟨[.int .i64 ((rd LK LH).often_), .slice Mj ((rd LK LH).symbols_).length Mk]⟩), some (z8 LG (Int.toNat LH * 2)), some undef, some (z8 LG (Int.toNat (qh (LH + (1 : Int))) * 2)), some undef]) 17 [(0, 17), (1, 17), (2, 17), (3, 17), (4, 17), (5, 17), (6, 17), (7, 17), (8, 17), (9, 17), (10, 17), (11, 17), (12, 17), (13, 17), (14, 17), (15, 17), (16, 17)] hA hcl hav hm hpre rfl rfl rfl rfl rfl
       clear hm hav
       refine x6 hA hst ho hcl hmust [] rfl rfl rfl trivial fun a w hS => ?_
       replace hS := hS.env2 (e' := [(0, .slice LG MI.length LJ), (10, .int .i64 Ms), (13, .int .i64 LH)]) ⟨(YY (u := .slice LG LU.length LJ) rfl (by rw [Nm, MH])), rfl, rfl, trivial⟩
       refine zw (qf ?_)
       refine zI <| sM hS rfl fun hS => sB hS rfl fun hS => zF (v := Value.int .i64) (x0 := (qh (LH + (1 : Int)))) hS (xB rfl) rfl fun Ph a w hz hS => ?_
       have hM := qE hz hM; clear hz
       refine zg <| qf ?_
       exact N4 _ _ ⟨MI, Pf, P1, Ph, hS.to [0, 1] (by kernel_rfl) ⟨rfl, rfl, rfl, trivial⟩, Pe, Nl, Pg, hM⟩
      ·refine wp_exit ?_
       refine qC (qC (q9 (qf ?_)))
       refine wp_ret <| zE ?_
       exact zX (rs := []) hS rfl rfl (hret LU LK MX _ (zn hM) Md L5 Nh (hS.st.pick [0, 1] (by kernel_rfl)))
   ·refine wp_skip ?_
    refine qf ?_
    exact NT _ _ ⟨hS.to [0, 1] (by kernel_rfl) ⟨rfl, rfl, rfl, rfl, rfl, trivial⟩, hM⟩
  ·intro a w hI
   obtain ⟨hS, hM⟩ := hI
   rw [qc.j4] at hM
   refine zc (fun a w => Ss 220 [] [(0, .slice LG LM.length LJ), (1, .int .i64 LN), (2, .int .i64 LO), (3, .int .i64 LR), (4, yA 84 [] [])] H [LQ, LY] F a w ∧ (qc.j8 K (qc.r K d) LF LN LO LR).wp kr kp) (fun Sg Pi => ?_) ?_
   ·refine wp_seq ?_
    refine zI <| sM hS rfl fun hS => sM hS rfl fun hS => sB hS rfl fun hS => sB hS rfl fun hS => qJ <| qI hS rfl hM (fun Pj hM => ?_) (fun Pj hM => ?_)
    ·refine wp_seq ?_
     refine zI <| sM hS rfl fun hS => sA hS rfl fun hS => qJ <| qr <| sM hS rfl fun hS => sA hS rfl fun hS => qJ <| zc (fun a w => ∃ (Mu : Int), Ss 220 [] [(0, .slice LG LM.length LJ), (2, .int .i64 LO), (14, .int .i64 Mu)] H [LQ, LY] F a w ∧ (qc.j6 K (qc.r K d) LF LO Mu).wp kr kp) (fun Sh Pk => ?_) ?_
     ·refine xG ?_
      refine zt (fun NN a w => ∃ (Ml : Int) (Mv : Int), Ss 220 [] [(0, .slice LG LM.length LJ), (2, .int .i64 LO), (4, yA 84 [] []), (14, .int .i64 Ml), (15, .int .i64 Mv)] H [LQ, LY] F a w ∧ (qc.l5 K (qc.r K d) LF LO NN Ml Mv).wp kr kp) K ?_ ?_ ?_
      ·exact ⟨LN, LO, hS.to [0, 1] (by kernel_rfl) ⟨rfl, rfl, rfl, rfl, rfl, trivial⟩, hM⟩
      ·intro a w hI; obtain ⟨_, _, _, hM⟩ := hI; exact zm hM
      ·intro NN a w hI Si Nn
       obtain ⟨Ml, Mv, hS, hM⟩ := hI
       rw [qc.l5] at hM
       refine wp_seq <| qr <| sM hS rfl fun hS => sM hS rfl fun hS => sB hS rfl fun hS => qJ <| qI hS rfl hM (fun Pm hM => ?_) (fun Pm hM => ?_)
       ·refine wp_skip ?_
        refine qf <| xG <| qr <| sM hS rfl fun hS => sM hS rfl fun hS => sB hS rfl fun hS => sO hS (u2 rfl Tryd.runUnderlying3 Tryd.runUnderlying39) rfl fun hS => sO hS (shr rfl rfl rfl) rfl fun hS => sO hS (u2 rfl Tryd.runUnderlying39 Tryd.runUnderlying3) rfl fun hS => zF (v := Value.int .i64) (x0 := (wr .i64 (xF .u64 (wr .u64 (qh (Ml + Mv))) (1 : Int)))) hS (xB rfl) rfl fun L4 a w hz hS => ?_
        have hM := qE hz hM; clear hz
        refine qJ <| wp_seq ?_
        obtain ⟨MJ, hM⟩ := qH hM
        obtain ⟨MY, MZ, Pn, Po, Pp⟩ := LS.get MJ
        obtain ⟨MK, hM⟩ := qH hM
        obtain ⟨M0, M3, Pq, Pr, Ps⟩ := LS.get MK
        refine q8 (vals := [some (yA 84 [] []), some (.slice LG LM.length LJ), some (.int .i64 LO), some (z8 LG (Int.toNat LO * 2)), some (.agg ⟨[.int .i64 ((rd LF LO).often_), .slice MY ((rd LF LO).symbols_).length MZ]⟩), some (.slice LG LM.length LJ), some (.int .i64 L4), some (z8 LG (Int.toNat L4 * 2)), some (.agg ⟨[.int .i64 ((rd LF L4).often_), .slice M0 ((rd LF L4).symbols_).length M3]⟩), none, none, none]) hS xw rfl ?_
        intro l w ho hcl hA hst
        refine yV hA hst ho hcl xk xx 9 [0, 1, 2, 3, 4, 5, 6, 7, 8] rfl rfl rfl rfl rfl (by exact ⟨nM rfl, nM rfl, nM rfl, nQ rfl (by exact qV (xZ rfl rfl Tryd.runUnderlying110 Tryd.sizeOf112 (LX.rd (i := 1) rfl) zq.len rfl (LS.inb MJ)) rfl), nQ rfl (by exact qV (qV (y4 rfl (LX.rd (i := 1) rfl) zq.len (LS.inb MJ) Tryd.isAgg112 Tryd.sizeOf112 rfl) (congrArg (fun l => Value.agg ⟨l⟩) Pn)) rfl), nM rfl, nM rfl, nQ rfl (by exact qV (xZ rfl rfl Tryd.runUnderlying110 Tryd.sizeOf112 (LX.rd (i := 1) rfl) zq.len rfl (LS.inb MK)) rfl), nQ rfl (by exact qV (qV (y4 rfl (LX.rd (i := 1) rfl) zq.len (LS.inb MK) Tryd.isAgg112 Tryd.sizeOf112 rfl) (congrArg (fun l => Value.agg ⟨l⟩) Pq)) rfl), trivial⟩) fun D l a w ho hcl hav hpre hm hE hk hA hst => ?_
        have hS := (Ss.mk hE hst).env2 (e' := [(92, yA 84 [] []), (96, .agg ⟨[.int .i64 ((rd LF LO).often_), .slice MY ((rd LF LO).symbols_).length MZ]⟩), (100, .agg ⟨[.int .i64 ((rd LF L4).often_), .slice M0 ((rd LF L4).symbols_).length M3]⟩)]) ⟨rfl, rfl, rfl, trivial⟩
        refine qR rfl <| vw hS rfl rfl Tryd.call84 (jz hG K (qb.mk ((rd LF LO).often_) ((rd LF LO).symbols_)) (qb.mk ((rd LF L4).often_) ((rd LF L4).symbols_)) MY MZ M0 M3 (Po.rdF (i := 0) rfl) Pp (Pr.rdF (i := 0) rfl) Ps (hS.st.part 0 [0, 1] (by kernel_rfl)) (qv hM) (fun M4 w hM  hst => qG hS.ev hst.appF rfl fun hS => ?_))
        replace hS : Ss _ _ _ H [LQ, LY] F _ _ := hS
        refine qJ ?_
        replace hst := hS.st
        obtain ⟨hcl, hmust, hav2, hA⟩ := dn (vals' := [some (yA 84 [] []), some (.slice LG LM.length LJ), some (.int .i64 LO), some (z8 LG (Int.toNat LO * 2)), some (.agg ⟨[.int .i64 ((rd LF LO).often_), .slice MY ((rd LF LO).symbols_).length MZ]⟩), some (.slice LG LM.length LJ), some (.int .i64 L4), some (z8 LG (Int.toNat L4 * 2)), some (.agg ⟨[.int .i64 ((rd LF L4).often_), .slice M0 ((rd LF L4).symbols_).length M3]⟩), some (.int .i64 M4), some (.bool (decide (M4 < (0 : Int)))), some (.bool (!(decide (M4 < (0 : Int)))))]) 9 [(0, 9), (4, 9), (8, 9), (3, 4), (7, 8), (1, 3), (2, 3), (5, 7), (6, 7)] hA hcl hav hm hpre hk rfl rfl rfl rfl rfl rfl rfl
        clear hm hav
        refine x6 hA hst ho hcl hmust [10, 11] rfl rfl rfl (by exact ⟨nB rfl, nQ rfl (by exact qV (un rfl rfl) rfl), trivial⟩) fun a w hS => ?_
        replace hS := hS.env2 (e' := [(0, .slice LG LM.length LJ), (2, .int .i64 LO), (4, yA 84 [] []), (14, .int .i64 Ml), (15, .int .i64 Mv), (16, .int .i64 L4), (103, .bool (!(decide (M4 < (0 : Int)))))]) ⟨rfl, rfl, rfl, rfl, rfl, rfl, rfl, trivial⟩
        refine qf <| qI hS rfl hM (fun Pt hM => ?_) (fun Pt hM => ?_)
        ·refine zI ?_
         refine sM hS rfl fun hS => sB hS rfl fun hS => zF (v := Value.int .i64) (x0 := (qh (L4 + (1 : Int)))) hS (xB rfl) rfl fun P2 a w hz hS => ?_
         have hM := qE hz hM; clear hz
         refine zg <| zw (qf ?_)
         exact Nn _ _ ⟨P2, Mv, hS.to [0, 1] (by kernel_rfl) ⟨rfl, rfl, rfl, rfl, rfl, trivial⟩, hM⟩
        ·refine zI ?_
         refine sM hS rfl fun hS => sA hS rfl fun hS => zg <| zw (qf ?_)
         exact Nn _ _ ⟨Ml, L4, hS.to [0, 1] (by kernel_rfl) ⟨rfl, rfl, rfl, rfl, rfl, trivial⟩, hM⟩
       ·refine wp_exit ?_
        refine qC (qC (q9 (qf ?_)))
        exact Pk _ _ ⟨Ml, hS.to [0, 1] (by kernel_rfl) ⟨rfl, rfl, rfl, trivial⟩, hM⟩
     ·intro a w hI
      obtain ⟨Mu, hS, hM⟩ := hI
      rw [qc.j6] at hM
      refine wp_seq <| qr <| sM hS rfl fun hS => sA hS rfl fun hS => qJ <| xG <| zt (fun NO a w => ∃ (LV : List (zq 2)) (LL : (List qb)) (M5 : qp) (LI : Int), Ss 220 [] [(0, .slice LG LV.length LJ), (14, .int .i64 Mu), (17, .int .i64 LI)] H [LQ, M5] F a w ∧ (xb 112 (zq.v (sz := 2)) 2 LG LV LJ M5) ∧ (zr (qg LQ) LL LV) ∧ (LV.length = LM.length) ∧ (qc.l7 K (qc.r K d) Mu NO LL LI).wp kr kp) K ?_ ?_ ?_
      ·exact ⟨LM, LF, LY, LO, hS.to [0, 1] (by kernel_rfl) ⟨rfl, rfl, rfl, trivial⟩, LX, LS, Mx, hM⟩
      ·intro a w hI; obtain ⟨_, _, _, _, _, _, _, _, hM⟩ := hI; exact zm hM
      ·intro NO a w hI Sj Pv
       obtain ⟨LV, LL, M5, LI, hS, Me, L6, No, hM⟩ := hI
       rw [qc.l7] at hM
       refine wp_seq <| qr <| sM hS rfl fun hS => sM hS rfl fun hS => sB hS rfl fun hS => qJ <| qI hS rfl hM (fun Pw hM => ?_) (fun Pw hM => ?_)
       ·refine wp_skip ?_
        refine qf <| wp_seq <| xG ?_
        obtain ⟨ML, hM⟩ := qH hM
        obtain ⟨Mm, Mn, Px, Py, Pz⟩ := L6.get ML
        obtain ⟨Mp, hM⟩ := qH hM
        obtain ⟨Mq, Mr, PA, PB, PC⟩ := L6.get Mp
        refine q8 (vals := [some (.slice LG LV.length LJ), some (.int .i64 LI), some (.slice LG LV.length LJ), some (.int .i64 LI), some (.int .i64 (qh (LI - (1 : Int)))), some (.slice LG LV.length LJ), some (.int .i64 LI), some (.int .i64 (qh (LI - (1 : Int)))), some (z8 LG (Int.toNat (qh (LI - (1 : Int))) * 2)), some (.agg ⟨[.int .i64 ((rd LL (qh (LI - (1 : Int)))).often_), .slice Mm ((rd LL (qh (LI - (1 : Int)))).symbols_).length Mn]⟩), some (.slice LG LV.length LJ), some (.int .i64 LI), some (z8 LG (Int.toNat LI * 2)), some (.agg ⟨[.int .i64 ((rd LL LI).often_), .slice Mq ((rd LL LI).symbols_).length Mr]⟩), some (z8 LG (Int.toNat LI * 2)), none, none, none]) hS xw rfl ?_
        intro l w ho hcl hA hst
        refine yV hA hst ho hcl xk xx 15 [0, 1, 2, 3, 4, 5, 6, 7, 8, 9, 10, 11, 12, 13, 14] rfl rfl rfl rfl rfl (by exact ⟨nM rfl, nM rfl, nM rfl, nM rfl, nB rfl, nM rfl, nM rfl, nB rfl, nQ rfl (by exact qV (xZ rfl rfl Tryd.runUnderlying110 Tryd.sizeOf112 (Me.rd (i := 1) rfl) zq.len rfl (L6.inb ML)) rfl), nQ rfl (by exact qV (qV (y4 rfl (Me.rd (i := 1) rfl) zq.len (L6.inb ML) Tryd.isAgg112 Tryd.sizeOf112 rfl) (congrArg (fun l => Value.agg ⟨l⟩) Px)) rfl), nM rfl, nM rfl, nQ rfl (by exact qV (xZ rfl rfl Tryd.runUnderlying110 Tryd.sizeOf112 (Me.rd (i := 1) rfl) zq.len rfl (L6.inb Mp)) rfl), nQ rfl (by exact qV (qV (y4 rfl (Me.rd (i := 1) rfl) zq.len (L6.inb Mp) Tryd.isAgg112 Tryd.sizeOf112 rfl) (congrArg (fun l => Value.agg ⟨l⟩) PA)) rfl), nQ rfl (by exact qV (xZ rfl rfl Tryd.runUnderlying110 Tryd.sizeOf112 (Me.rd (i := 1) rfl) zq.len rfl (L6.inb Mp)) rfl), trivial⟩) fun D l a w ho hcl hav hpre hm hE hk hA hst => ?_
        have hS := (Ss.mk hE hst).env2 (e' := [(122, .agg ⟨[.int .i64 ((rd LL (qh (LI - (1 : Int)))).often_), .slice Mm ((rd LL (qh (LI - (1 : Int)))).symbols_).length Mn]⟩), (127, z8 LG (Int.toNat LI * 2))]) ⟨rfl, rfl, trivial⟩
        refine qR rfl <| QJ (i := LI) (sz := 2) 1 (⟨[.int .i64 ((rd LL (qh (LI - (1 : Int)))).often_), .slice Mm ((rd LL (qh (LI - (1 : Int)))).symbols_).length Mn], by simp, by simp [Value.oneCell']⟩ : zq 2) hS rfl rfl Me rfl Tryd.sizeOf112 rfl (L6.inb Mp) fun Np w Sk hz Nq hS => ?_
        obtain ⟨PD, hzm⟩ := js (LL.set (Int.toNat LI) (qb.mk ((rd LL (qh (LI - (1 : Int)))).often_) ((rd LL (qh (LI - (1 : Int)))).symbols_)))
        replace hM := qE hzm hM
        have Mz := zr.set (x := (qb.mk ((rd LL (qh (LI - (1 : Int)))).often_) ((rd LL (qh (LI - (1 : Int)))).symbols_))) (r := (⟨[.int .i64 ((rd LL (qh (LI - (1 : Int)))).often_), .slice Mm ((rd LL (qh (LI - (1 : Int)))).symbols_).length Mn], by simp, by simp [Value.oneCell']⟩ : zq 2)) (Int.toNat LI) L6 (show qg LQ _ _ from ⟨Mm, Mn, rfl, Py, Pz⟩)
        have MM : Np.length = LV.length := by rw [hz]; exact List.length_set ..
        rw [← hz, ← hzm] at Mz; clear hz hzm
        have PE := Eq.trans MM No
        refine qJ ?_
        replace hst := hS.st
        obtain ⟨Nr, hM⟩ := qH hM
        obtain ⟨hcl, hmust, hav2, hA⟩ := Zd (vals' := [some (.slice LG LV.length LJ), some (.int .i64 LI), some (.slice LG LV.length LJ), some (.int .i64 LI), some (.int .i64 (qh (LI - (1 : Int)))), some (.slice LG LV.length LJ), some (.int .i64 LI), some (.int .i64 (qh (LI - (1 : Int)))), some (z8 LG (Int.toNat (qh (LI - (1 : Int))) * 2)), some (.agg ⟨[.int .i64 ((rd LL (qh (LI - (1 : Int)))).often_), .slice Mm ((rd LL (qh (LI - (1 : Int)))).symbols_).length Mn]⟩), some (.slice LG LV.length LJ), some (.int .i64 LI), some (z8 LG (Int.toNat LI * 2)), some (.agg ⟨[.int .i64 ((rd LL LI).often_), .slice Mq ((rd LL LI).symbols_).length Mr]⟩), some (z8 LG (Int.toNat LI * 2)), some undef, some (z8 LG (Int.toNat (qh (LI - (1 : Int))) * 2)), none]) 15 [(0, 15), (1, 15), (5, 15), (6, 15), (7, 15), (8, 15), (9, 15), (13, 15), (14, 15), (12, 13), (10, 12), (11, 12)] hA hcl hav hm hpre rfl rfl rfl rfl rfl
        clear hm hav
        refine yV hA hst ho hcl hav2 hmust 17 [2, 3, 4, 16] rfl rfl rfl rfl rfl (by exact ⟨nM rfl, nM rfl, nB rfl, nQ rfl (by exact qV (xZ (Jc MM rfl) rfl Tryd.runUnderlying110 Tryd.sizeOf112 (Nq.rd (i := 1) rfl) zq.len rfl (Mz.inb Nr)) rfl), trivial⟩) fun D l a w ho hcl hav hpre hm hE hk hA hst => ?_
        have hS := (Ss.mk hE hst).env2 (e' := [(126, .agg ⟨[.int .i64 ((rd LL LI).often_), .slice Mq ((rd LL LI).symbols_).length Mr]⟩), (128, z8 LG (Int.toNat (qh (LI - (1 : Int))) * 2))]) ⟨rfl, rfl, trivial⟩
        refine qR rfl <| QJ (i := (qh (LI - (1 : Int)))) (sz := 2) 1 (⟨[.int .i64 ((rd LL LI).often_), .slice Mq ((rd LL LI).symbols_).length Mr], by simp, by simp [Value.oneCell']⟩ : zq 2) hS rfl rfl Nq rfl Tryd.sizeOf112 rfl (Mz.inb Nr) fun MN w P3 hz PF hS => ?_
        obtain ⟨PG, hzm⟩ := js (PD.set (Int.toNat (qh (LI - (1 : Int)))) (qb.mk ((rd LL LI).often_) ((rd LL LI).symbols_)))
        replace hM := qE hzm hM
        have Ns := zr.set (x := (qb.mk ((rd LL LI).often_) ((rd LL LI).symbols_))) (r := (⟨[.int .i64 ((rd LL LI).often_), .slice Mq ((rd LL LI).symbols_).length Mr], by simp, by simp [Value.oneCell']⟩ : zq 2)) (Int.toNat (qh (LI - (1 : Int)))) Mz (show qg LQ _ _ from ⟨Mq, Mr, rfl, PB, PC⟩)
        have Nt : MN.length = Np.length := by rw [hz]; exact List.length_set ..
        rw [← hz, ← hzm] at Ns; clear hz hzm
        have PH := Eq.trans Nt PE
        refine qJ ?_
        replace hst := hS.st
        obtain ⟨hcl, hmust, hav2, hA⟩ := Zd (vals' := [some (.slice LG LV.length LJ), some (.int .i64 LI), some (.slice LG LV.length LJ), some (.int .i64 LI), some (.int .i64 (qh (LI - (1 : Int)))), some (.slice LG LV.length LJ), some (.int .i64 LI), some (.int .i64 (qh (LI - (1 : Int)))), some (z8 LG (Int.toNat (qh (LI - (1 : Int))) * 2)), some (.agg ⟨[.int .i64 ((rd LL (qh (LI - (1 : Int)))).often_), .slice Mm ((rd LL (qh (LI - (1 : Int)))).symbols_).length Mn]⟩), some (.slice LG LV.length LJ), some (.int .i64 LI), some (z8 LG (Int.toNat LI * 2)), some (.agg ⟨[.int .i64 ((rd LL LI).often_), .slice Mq ((rd LL LI).symbols_).length Mr]⟩), some (z8 LG (Int.toNat LI * 2)), some undef, some (z8 LG (Int.toNat (qh (LI - (1 : Int))) * 2)), some undef]) 17 [(0, 17), (1, 17), (2, 17), (3, 17), (4, 17), (5, 17), (6, 17), (7, 17), (8, 17), (9, 17), (10, 17), (11, 17), (12, 17), (13, 17), (14, 17), (15, 17), (16, 17)] hA hcl hav hm hpre rfl rfl rfl rfl rfl
        clear hm hav
        refine x6 hA hst ho hcl hmust [] rfl rfl rfl trivial fun a w hS => ?_
        replace hS := hS.env2 (e' := [(0, .slice LG MN.length LJ), (14, .int .i64 Mu), (17, .int .i64 LI)]) ⟨(YY (u := .slice LG LV.length LJ) rfl (by rw [Nt, MM])), rfl, rfl, trivial⟩
        refine zw (qf ?_)
        refine zI <| sM hS rfl fun hS => sB hS rfl fun hS => zF (v := Value.int .i64) (x0 := (qh (LI - (1 : Int)))) hS (xB rfl) rfl fun PI a w hz hS => ?_
        have hM := qE hz hM; clear hz
        refine zg <| qf ?_
        exact Pv _ _ ⟨MN, PG, P3, PI, hS.to [0, 1] (by kernel_rfl) ⟨rfl, rfl, rfl, trivial⟩, PF, Ns, PH, hM⟩
       ·refine wp_exit ?_
        refine qC (qC (q9 (qf ?_)))
        refine wp_ret <| zE ?_
        exact zX (rs := []) hS rfl rfl (hret LV LL M5 _ (zn hM) Me L6 No (hS.st.pick [0, 1] (by kernel_rfl)))
    ·refine wp_skip ?_
     refine qf ?_
     exact Pi _ _ ⟨hS.to [0, 1] (by kernel_rfl) ⟨rfl, rfl, rfl, rfl, rfl, trivial⟩, hM⟩
   ·intro a w hI
    obtain ⟨hS, hM⟩ := hI
    rw [qc.j8] at hM
    refine qr <| sM hS rfl fun hS => sM hS rfl fun hS => sB hS rfl fun hS => sO hS (u2 rfl Tryd.runUnderlying3 Tryd.runUnderlying39) rfl fun hS => sO hS (shr rfl rfl rfl) rfl fun hS => sO hS (u2 rfl Tryd.runUnderlying39 Tryd.runUnderlying3) rfl fun hS => zF (v := Value.int .i64) (x0 := (wr .i64 (xF .u64 (wr .u64 (qh (LN + LR))) (1 : Int)))) hS (xB rfl) rfl fun LT a w hz hS => ?_
    have hM := qE hz hM; clear hz
    refine qJ <| qr <| sM hS rfl fun hS => sM hS rfl fun hS => sB hS rfl fun hS => zF (v := Value.int .i64) (x0 := (qh (LT + LO))) hS (xB rfl) rfl fun L7 a w hz hS => ?_
    have hM := qE hz hM; clear hz
    refine qJ <| qr <| sA hS rfl fun hS => sA hS rfl fun hS => qJ <| zc (fun a w => ∃ (Mc : Int) (M6 : Int), Ss 220 [] [(0, .slice LG LM.length LJ), (1, .int .i64 LN), (2, .int .i64 LO), (3, .int .i64 LR), (4, yA 84 [] []), (18, .int .i64 LT), (19, .int .i64 L7), (20, .int .i64 Mc), (21, .int .i64 M6)] H [LQ, LY] F a w ∧ (qc.j9 K (qc.r K d) LF LN LO LR LT L7 Mc M6).wp kr kp) (fun Sm Nu => ?_) ?_
    ·refine wp_seq ?_
     refine zI <| sM hS rfl fun hS => sM hS rfl fun hS => sB hS rfl fun hS => qJ <| qI hS rfl hM (fun PJ hM => ?_) (fun PJ hM => ?_)
     ·refine wp_seq ?_
      refine zI <| sM hS rfl fun hS => sM hS rfl fun hS => sB hS rfl fun hS => zF (v := Value.int .i64) (x0 := (qh (L7 - LR))) hS (xB rfl) rfl fun Nc a w hz hS => ?_
      have hM := qE hz hM; clear hz
      refine qJ <| zI <| sM hS rfl fun hS => sA hS rfl fun hS => zg <| qf ?_
      exact Nu _ _ ⟨Nc, LT, hS.to [0, 1] (by kernel_rfl) ⟨rfl, rfl, rfl, rfl, rfl, rfl, rfl, rfl, rfl, trivial⟩, hM⟩
     ·refine wp_seq ?_
      refine zI <| sM hS rfl fun hS => sA hS rfl fun hS => qJ <| zI <| sM hS rfl fun hS => sA hS rfl fun hS => zg <| qf ?_
      exact Nu _ _ ⟨LN, LO, hS.to [0, 1] (by kernel_rfl) ⟨rfl, rfl, rfl, rfl, rfl, rfl, rfl, rfl, rfl, trivial⟩, hM⟩
    ·intro a w hI
     obtain ⟨Mc, M6, hS, hM⟩ := hI
     rw [qc.j9] at hM
     refine qr <| sM hS rfl fun hS => sB hS rfl fun hS => zF (v := Value.int .i64) (x0 := (qh (L7 - (1 : Int)))) hS (xB rfl) rfl fun L1 a w hz hS => ?_
     have hM := qE hz hM; clear hz
     refine qJ <| zc (fun a w => ∃ (LW : Int), Ss 220 [] [(0, .slice LG LM.length LJ), (1, .int .i64 LN), (2, .int .i64 LO), (3, .int .i64 LR), (4, yA 84 [] []), (18, .int .i64 LT), (19, .int .i64 L7), (20, .int .i64 LW)] H [LQ, LY] F a w ∧ (qc.j11 K (qc.r K d) LF LN LO LR LT L7 LW).wp kr kp) (fun Sn PL => ?_) ?_
     ·refine xG ?_
      refine zt (fun NP a w => ∃ (L0 : Int) (Mw : Int), Ss 220 [] [(0, .slice LG LM.length LJ), (1, .int .i64 LN), (2, .int .i64 LO), (3, .int .i64 LR), (4, yA 84 [] []), (18, .int .i64 LT), (19, .int .i64 L7), (20, .int .i64 L0), (21, .int .i64 Mw), (22, .int .i64 L1)] H [LQ, LY] F a w ∧ (qc.l10 K (qc.r K d) LF LN LO LR LT L7 L1 NP L0 Mw).wp kr kp) K ?_ ?_ ?_
      ·exact ⟨Mc, M6, hS.to [0, 1] (by kernel_rfl) ⟨rfl, rfl, rfl, rfl, rfl, rfl, rfl, rfl, rfl, rfl, trivial⟩, hM⟩
      ·intro a w hI; obtain ⟨_, _, _, hM⟩ := hI; exact zm hM
      ·intro NP a w hI So Nv
       obtain ⟨L0, Mw, hS, hM⟩ := hI
       rw [qc.l10] at hM
       refine wp_seq <| qr <| sM hS rfl fun hS => sM hS rfl fun hS => sB hS rfl fun hS => qJ <| qI hS rfl hM (fun PM hM => ?_) (fun PM hM => ?_)
       ·refine wp_skip ?_
        refine qf <| xG <| qr <| sM hS rfl fun hS => sM hS rfl fun hS => sB hS rfl fun hS => sO hS (u2 rfl Tryd.runUnderlying3 Tryd.runUnderlying39) rfl fun hS => sO hS (shr rfl rfl rfl) rfl fun hS => sO hS (u2 rfl Tryd.runUnderlying39 Tryd.runUnderlying3) rfl fun hS => zF (v := Value.int .i64) (x0 := (wr .i64 (xF .u64 (wr .u64 (qh (L0 + Mw))) (1 : Int)))) hS (xB rfl) rfl fun LP a w hz hS => ?_
        have hM := qE hz hM; clear hz
        refine qJ <| wp_seq ?_
        obtain ⟨MO, hM⟩ := qH hM
        obtain ⟨M7, M8, PN, PO, PP⟩ := LS.get MO
        obtain ⟨MP, hM⟩ := qH hM
        obtain ⟨M9, Na, PQ, PR, PS⟩ := LS.get MP
        refine q8 (vals := [some (yA 84 [] []), some (.slice LG LM.length LJ), some (.int .i64 L1), some (.int .i64 LP), some (.int .i64 (qh (L1 - LP))), some (z8 LG (Int.toNat (qh (L1 - LP)) * 2)), some (.agg ⟨[.int .i64 ((rd LF (qh (L1 - LP))).often_), .slice M7 ((rd LF (qh (L1 - LP))).symbols_).length M8]⟩), some (.slice LG LM.length LJ), some (.int .i64 LP), some (z8 LG (Int.toNat LP * 2)), some (.agg ⟨[.int .i64 ((rd LF LP).often_), .slice M9 ((rd LF LP).symbols_).length Na]⟩), none, none, none]) hS xw rfl ?_
        intro l w ho hcl hA hst
        refine yV hA hst ho hcl xk xx 11 [0, 1, 2, 3, 4, 5, 6, 7, 8, 9, 10] rfl rfl rfl rfl rfl (by exact ⟨nM rfl, nM rfl, nM rfl, nM rfl, nB rfl, nQ rfl (by exact qV (xZ rfl rfl Tryd.runUnderlying110 Tryd.sizeOf112 (LX.rd (i := 1) rfl) zq.len rfl (LS.inb MO)) rfl), nQ rfl (by exact qV (qV (y4 rfl (LX.rd (i := 1) rfl) zq.len (LS.inb MO) Tryd.isAgg112 Tryd.sizeOf112 rfl) (congrArg (fun l => Value.agg ⟨l⟩) PN)) rfl), nM rfl, nM rfl, nQ rfl (by exact qV (xZ rfl rfl Tryd.runUnderlying110 Tryd.sizeOf112 (LX.rd (i := 1) rfl) zq.len rfl (LS.inb MP)) rfl), nQ rfl (by exact qV (qV (y4 rfl (LX.rd (i := 1) rfl) zq.len (LS.inb MP) Tryd.isAgg112 Tryd.sizeOf112 rfl) (congrArg (fun l => Value.agg ⟨l⟩) PQ)) rfl), trivial⟩) fun D l a w ho hcl hav hpre hm hE hk hA hst => ?_
        have hS := (Ss.mk hE hst).env2 (e' := [(158, yA 84 [] []), (164, .agg ⟨[.int .i64 ((rd LF (qh (L1 - LP))).often_), .slice M7 ((rd LF (qh (L1 - LP))).symbols_).length M8]⟩), (168, .agg ⟨[.int .i64 ((rd LF LP).often_), .slice M9 ((rd LF LP).symbols_).length Na]⟩)]) ⟨rfl, rfl, rfl, trivial⟩
        refine qR rfl <| vw hS rfl rfl Tryd.call84 (jz hG K (qb.mk ((rd LF (qh (L1 - LP))).often_) ((rd LF (qh (L1 - LP))).symbols_)) (qb.mk ((rd LF LP).often_) ((rd LF LP).symbols_)) M7 M8 M9 Na (PO.rdF (i := 0) rfl) PP (PR.rdF (i := 0) rfl) PS (hS.st.part 0 [0, 1] (by kernel_rfl)) (qv hM) (fun Nb w hM  hst => qG hS.ev hst.appF rfl fun hS => ?_))
        replace hS : Ss _ _ _ H [LQ, LY] F _ _ := hS
        refine qJ ?_
        replace hst := hS.st
        obtain ⟨hcl, hmust, hav2, hA⟩ := dn (vals' := [some (yA 84 [] []), some (.slice LG LM.length LJ), some (.int .i64 L1), some (.int .i64 LP), some (.int .i64 (qh (L1 - LP))), some (z8 LG (Int.toNat (qh (L1 - LP)) * 2)), some (.agg ⟨[.int .i64 ((rd LF (qh (L1 - LP))).often_), .slice M7 ((rd LF (qh (L1 - LP))).symbols_).length M8]⟩), some (.slice LG LM.length LJ), some (.int .i64 LP), some (z8 LG (Int.toNat LP * 2)), some (.agg ⟨[.int .i64 ((rd LF LP).often_), .slice M9 ((rd LF LP).symbols_).length Na]⟩), some (.int .i64 Nb), some (.bool (decide (Nb < (0 : Int)))), some (.bool (!(decide (Nb < (0 : Int)))))]) 11 [(0, 11), (6, 11), (10, 11), (5, 6), (9, 10), (1, 5), (4, 5), (7, 9), (8, 9), (2, 4), (3, 4)] hA hcl hav hm hpre hk rfl rfl rfl rfl rfl rfl rfl
        clear hm hav
        refine x6 hA hst ho hcl hmust [12, 13] rfl rfl rfl (by exact ⟨nB rfl, nQ rfl (by exact qV (un rfl rfl) rfl), trivial⟩) fun a w hS => ?_
        replace hS := hS.env2 (e' := [(0, .slice LG LM.length LJ), (1, .int .i64 LN), (2, .int .i64 LO), (3, .int .i64 LR), (4, yA 84 [] []), (18, .int .i64 LT), (19, .int .i64 L7), (20, .int .i64 L0), (21, .int .i64 Mw), (22, .int .i64 L1), (23, .int .i64 LP), (171, .bool (!(decide (Nb < (0 : Int)))))]) ⟨rfl, rfl, rfl, rfl, rfl, rfl, rfl, rfl, rfl, rfl, rfl, rfl, trivial⟩
        refine qf <| qI hS rfl hM (fun PT hM => ?_) (fun PT hM => ?_)
        ·refine zI ?_
         refine sM hS rfl fun hS => sB hS rfl fun hS => zF (v := Value.int .i64) (x0 := (qh (LP + (1 : Int)))) hS (xB rfl) rfl fun Nd a w hz hS => ?_
         have hM := qE hz hM; clear hz
         refine zg <| zw (qf ?_)
         exact Nv _ _ ⟨Nd, Mw, hS.to [0, 1] (by kernel_rfl) ⟨rfl, rfl, rfl, rfl, rfl, rfl, rfl, rfl, rfl, rfl, trivial⟩, hM⟩
        ·refine zI ?_
         refine sM hS rfl fun hS => sA hS rfl fun hS => zg <| zw (qf ?_)
         exact Nv _ _ ⟨L0, LP, hS.to [0, 1] (by kernel_rfl) ⟨rfl, rfl, rfl, rfl, rfl, rfl, rfl, rfl, rfl, rfl, trivial⟩, hM⟩
       ·refine wp_exit ?_
        refine qC (qC (q9 (qf ?_)))
        exact PL _ _ ⟨L0, hS.to [0, 1] (by kernel_rfl) ⟨rfl, rfl, rfl, rfl, rfl, rfl, rfl, rfl, trivial⟩, hM⟩
     ·intro a w hI
      obtain ⟨LW, hS, hM⟩ := hI
      rw [qc.j11] at hM
      refine qr <| sM hS rfl fun hS => sM hS rfl fun hS => sB hS rfl fun hS => zF (v := Value.int .i64) (x0 := (qh (L7 - LW))) hS (xB rfl) rfl fun LZ a w hz hS => ?_
      have hM := qE hz hM; clear hz
      refine qJ <| zc (fun a w => ∃ (L8 : List (zq 2)) (Ma : (List qb)) (MB : qp), Ss 220 [] [(0, .slice LG L8.length LJ), (1, .int .i64 LN), (3, .int .i64 LR), (4, yA 84 [] []), (18, .int .i64 LT), (20, .int .i64 LW), (24, .int .i64 LZ)] H [LQ, MB] F a w ∧ (xb 112 (zq.v (sz := 2)) 2 LG L8 LJ MB) ∧ (zr (qg LQ) Ma L8) ∧ (L8.length = LM.length) ∧ (qc.j12 K (qc.r K d) LN LR LT LW LZ Ma).wp kr kp) (fun Sp Nw => ?_) ?_
      ·refine wp_seq ?_
       refine zI <| sM hS rfl fun hS => sM hS rfl fun hS => sB hS rfl fun hS => sM hS rfl fun hS => y9 3 true 181 (b := (decide (LW < LO))) (r := (decide (LO < LZ))) hS rfl rfl rfl rfl rfl rfl rfl (fun hb a w hS K hK => ?_) rfl fun a w hS => ?_
       ·refine z3 hS rfl rfl rfl hb (mv rfl) rfl fun a w hS => ?_
        refine z3 hS rfl rfl rfl hb (mv rfl) rfl fun a w hS => z3 hS rfl rfl rfl hb (jA rfl rfl rfl) rfl fun a w hS => ?_
        exact zg (hK _ _ (hS.up 3 rfl rfl))
       refine qJ <| qI hS rfl hM (fun PU hM => ?_) (fun PU hM => ?_)
       ·refine zI ?_
        refine sM hS rfl fun hS => sM hS rfl fun hS => sM hS rfl fun hS => sM hS rfl fun hS => sM hS rfl fun hS => qN hS rfl Tryd.call108 (yO hG K LF LW LO LZ LQ LG LJ LM LY LS LX (hS.st.part 2 [0, 1] (by kernel_rfl)) (qv hM) (fun MQ Nx NQ w hM P4 P5 Ny hst => qG hS.ev hst.appF rfl fun hS => ?_))
        replace hS : Ss _ _ _ H [LQ, NQ] F _ _ := hS
        have PV := Eq.trans Ny Mx
        replace hS := hS.re 0 (u := .slice LG LM.length LJ) (v := .slice LG MQ.length LJ) rfl (by rw [Ny])
        replace hS := hS.re 186 (u := .slice LG LM.length LJ) (v := .slice LG MQ.length LJ) rfl (by rw [Ny])
        refine zg <| qf ?_
        exact Nw _ _ ⟨MQ, Nx, NQ, hS.to [0, 1] (by kernel_rfl) ⟨rfl, rfl, rfl, rfl, rfl, rfl, rfl, trivial⟩, P4, P5, PV, hM⟩
       ·refine wp_skip ?_
        refine qf ?_
        exact Nw _ _ ⟨LM, LF, LY, hS.to [0, 1] (by kernel_rfl) ⟨rfl, rfl, rfl, rfl, rfl, rfl, rfl, trivial⟩, LX, LS, Mx, hM⟩
      ·intro a w hI
       obtain ⟨L8, Ma, MB, hS, Nz, NA, NB, hM⟩ := hI
       rw [qc.j12] at hM
       refine zc (fun a w => ∃ (L9 : List (zq 2)) (Mb : (List qb)) (MC : qp), Ss 220 [] [(0, .slice LG L9.length LJ), (3, .int .i64 LR), (4, yA 84 [] []), (18, .int .i64 LT), (24, .int .i64 LZ)] H [LQ, MC] F a w ∧ (xb 112 (zq.v (sz := 2)) 2 LG L9 LJ MC) ∧ (zr (qg LQ) Mb L9) ∧ (L9.length = LM.length) ∧ (qc.j13 K (qc.r K d) LR LT LZ Mb).wp kr kp) (fun Sq NC => ?_) ?_
       ·refine wp_seq ?_
        refine zI <| sM hS rfl fun hS => sM hS rfl fun hS => sB hS rfl fun hS => sM hS rfl fun hS => y9 3 true 195 (b := (decide (LN < LW))) (r := (decide (LW < LT))) hS rfl rfl rfl rfl rfl rfl rfl (fun hb a w hS K hK => ?_) rfl fun a w hS => ?_
        ·refine z3 hS rfl rfl rfl hb (mv rfl) rfl fun a w hS => ?_
         refine z3 hS rfl rfl rfl hb (mv rfl) rfl fun a w hS => z3 hS rfl rfl rfl hb (jA rfl rfl rfl) rfl fun a w hS => ?_
         exact zg (hK _ _ (hS.up 3 rfl rfl))
        refine qJ <| qI hS rfl hM (fun PW hM => ?_) (fun PW hM => ?_)
        ·refine zI ?_
         refine sM hS rfl fun hS => sM hS rfl fun hS => sM hS rfl fun hS => sM hS rfl fun hS => sM hS rfl fun hS => qN hS rfl Tryd.call100 (ih hG  Ma LN LW LT LQ LG LJ L8 MB NA Nz (hS.st.part 2 [0, 1] (by kernel_rfl)) (qv hM) (fun MR ND NR w hM P6 P7 NE hst => qG hS.ev hst.appF rfl fun hS => ?_))
         replace hS : Ss _ _ _ H [LQ, NR] F _ _ := hS
         have PX := Eq.trans NE NB
         replace hS := hS.re 0 (u := .slice LG L8.length LJ) (v := .slice LG MR.length LJ) rfl (by rw [NE])
         replace hS := hS.re 200 (u := .slice LG L8.length LJ) (v := .slice LG MR.length LJ) rfl (by rw [NE])
         refine zg <| qf ?_
         exact NC _ _ ⟨MR, ND, NR, hS.to [0, 1] (by kernel_rfl) ⟨rfl, rfl, rfl, rfl, rfl, trivial⟩, P6, P7, PX, hM⟩
        ·refine wp_skip ?_
         refine qf ?_
         exact NC _ _ ⟨L8, Ma, MB, hS.to [0, 1] (by kernel_rfl) ⟨rfl, rfl, rfl, rfl, rfl, trivial⟩, Nz, NA, NB, hM⟩
       ·intro a w hI
        obtain ⟨L9, Mb, MC, hS, NF, NG, NH, hM⟩ := hI
        rw [qc.j13] at hM
        refine qr <| sM hS rfl fun hS => sM hS rfl fun hS => sB hS rfl fun hS => sM hS rfl fun hS => y9 3 true 209 (b := (decide (LT < LZ))) (r := (decide (LZ < LR))) hS rfl rfl rfl rfl rfl rfl rfl (fun hb a w hS K hK => ?_) rfl fun a w hS => ?_
        ·refine z3 hS rfl rfl rfl hb (mv rfl) rfl fun a w hS => ?_
         refine z3 hS rfl rfl rfl hb (mv rfl) rfl fun a w hS => z3 hS rfl rfl rfl hb (jA rfl rfl rfl) rfl fun a w hS => ?_
         exact zg (hK _ _ (hS.up 3 rfl rfl))
        refine qJ <| qI hS rfl hM (fun PY hM => ?_) (fun PY hM => ?_)
        ·refine zI ?_
         refine sM hS rfl fun hS => sM hS rfl fun hS => sM hS rfl fun hS => sM hS rfl fun hS => sM hS rfl fun hS => qN hS rfl Tryd.call100 (ih hG  Mb LT LZ LR LQ LG LJ L9 MC NG NF (hS.st.part 2 [0, 1] (by kernel_rfl)) (qv hM) (fun MS NI NS w hM P8 P9 NJ hst => qG hS.ev hst.appF rfl fun hS => ?_))
         replace hS : Ss _ _ _ H [LQ, NS] F _ _ := hS
         have PZ := Eq.trans NJ NH
         replace hS := hS.re 0 (u := .slice LG L9.length LJ) (v := .slice LG MS.length LJ) rfl (by rw [NJ])
         replace hS := hS.re 214 (u := .slice LG L9.length LJ) (v := .slice LG MS.length LJ) rfl (by rw [NJ])
         refine zg ?_
         exact yT (rs := []) hS rfl rfl (hret MS NI NS _ (zn hM) P8 P9 PZ (hS.st.pick [0, 1] (by kernel_rfl)))
        ·refine wp_skip ?_
         exact yT (rs := []) hS rfl rfl (hret L9 Mb MC _ (zn hM) NF NG NH (hS.st.pick [0, 1] (by kernel_rfl)))
theorem xQ {H : xT} {F : List qp} {w : World} {R : Ending → World → Prop} {kr : (List qb) → Prop} {kp : Value → Prop} (hG : Gl H) (K : Nat) (LF : List qb) (LJ : Int) (LO : Int) (LK : Int) (LH : qp) (LM : Option Addr) (LN : Nat) (LG : List (zq 2)) (LP : qp) (LR : zr (qg LH) LF LG) (LS : xb 112 (zq.v (sz := 2)) 2 LM LG LN LP)
    (hS : St w H [LH, LP] F) (hm : (qc.m K LF LJ LO LK).wp kr kp)
    (hret : ∀ (LL : List (zq 2)) (LI : (List qb)) (LQ : qp) (w : World), kr LI → (xb 112 (zq.v (sz := 2)) 2 LM LL LN LQ) → (zr (qg LH) LI LL) → (LL.length = LG.length) → St w H [LH, LQ] F → R (.returned (.tuple ⟨[]⟩)) w) :
    Calls Tryd.prog 100 ⟨[.slice LM LG.length LN, .int .i64 LJ, .int .i64 LO, .int .i64 LK, yA 84 [] []]⟩ w R := yB K K hG LF LJ LO LK LH LM LN LG LP LR LS hS hm hret
theorem yM {H : xT} {F : List qp} {w : World} {R : Ending → World → Prop} {kr : (List qb) → Prop} {kp : Value → Prop} (hG : Gl H) (K : Nat) (LY : List qb) (LJ : Int) (LI : qp) (LG : Option Addr) (LH : Nat) (LK : List (zq 2)) (Mh : qp) (ML : zr (qg LI) LY LK) (MM : xb 112 (zq.v (sz := 2)) 2 LG LK LH Mh)
    (hS : St w H [LI, Mh] F) (hm : (qj.m K LY LJ).wp kr kp)
    (hret : ∀ (Ma : List (zq 2)) (L5 : (List qb)) (ME : qp) (w : World), kr L5 → (xb 112 (zq.v (sz := 2)) 2 LG Ma LH ME) → (zr (qg LI) L5 Ma) → (Ma.length = LK.length) → St w H [LI, ME] F → R (.returned (.tuple ⟨[]⟩)) w) :
    Calls Tryd.prog 81 ⟨[.slice LG LK.length LH, .int .i64 LJ, yA 84 [] []]⟩ w R := by
 refine enter Tryd.func81 rfl Tryd.ntmps81 rfl hS fun a w hS => ?_
 have hM := hm; clear hm
 rw [qj.m] at hM
 have Ni : ∀ q ∈ LI, q ∈ LI := fun _ h => h
 have MN : LK.length = LK.length := rfl
 refine qr <| sA hS rfl fun hS => qJ <| qr <| sM hS rfl fun hS => sA hS rfl fun hS => sA hS rfl fun hS => qJ <| zc (fun a w => ∃ (LO : List (zq 2)) (LU : (List qb)) (Mf : qp) (L4 : Int), Ss 63 [] [(0, .slice LG LO.length LH), (1, .int .i64 LJ), (2, yA 84 [] []), (6, .int .i64 (20 : Int)), (7, .int .i64 L4)] H [LI, Mf] F a w ∧ (xb 112 (zq.v (sz := 2)) 2 LG LO LH Mf) ∧ (zr (qg LI) LU LO) ∧ (LO.length = LK.length) ∧ (qj.j2 K LJ LU L4).wp kr kp) (fun Nj MO => ?_) ?_
 ·refine xG ?_
  refine zt (fun MF a w => ∃ (LL : List (zq 2)) (LP : (List qb)) (L6 : qp) (LZ : Int) (LV : Int), Ss 63 [] [(0, .slice LG LL.length LH), (1, .int .i64 LJ), (2, yA 84 [] []), (6, .int .i64 (20 : Int)), (7, .int .i64 LZ), (8, .int .i64 LV)] H [LI, L6] F a w ∧ (xb 112 (zq.v (sz := 2)) 2 LG LL LH L6) ∧ (zr (qg LI) LP LL) ∧ (LL.length = LK.length) ∧ (qj.l1 K LJ MF LP LZ LV).wp kr kp) K ?_ ?_ ?_
  ·exact ⟨LK, LY, Mh, (0 : Int), (20 : Int), hS.to [0, 1] (by kernel_rfl) ⟨rfl, rfl, rfl, rfl, rfl, rfl, trivial⟩, MM, ML, MN, hM⟩
  ·intro a w hI; obtain ⟨_, _, _, _, _, _, _, _, _, hM⟩ := hI; exact zm hM
  ·intro MF a w hI Nk MP
   obtain ⟨LL, LP, L6, LZ, LV, hS, Mi, Mj, Mk, hM⟩ := hI
   rw [qj.l1] at hM
   refine wp_seq <| qr <| sM hS rfl fun hS => sM hS rfl fun hS => sB hS rfl fun hS => qJ <| qI hS rfl hM (fun MQ hM => ?_) (fun MQ hM => ?_)
   ·refine wp_skip ?_
    refine qf <| xG <| qr <| sM hS rfl fun hS => sM hS rfl fun hS => sM hS rfl fun hS => sM hS rfl fun hS => qN hS rfl Tryd.call99 (xL hG K LP LZ LV LI LG LH LL L6 Mj Mi (hS.st.part 2 [0, 1] (by kernel_rfl)) (qv hM) (fun Mb Ml MG w hM M8 M9 Mm hst => qG hS.ev hst.appF rfl fun hS => ?_))
    replace hS : Ss _ _ _ H [LI, MG] F _ _ := hS
    have MR := Eq.trans Mm Mk
    replace hS := hS.re 0 (u := .slice LG LL.length LH) (v := .slice LG Mb.length LH) rfl (by rw [Mm])
    replace hS := hS.re 14 (u := .slice LG LL.length LH) (v := .slice LG Mb.length LH) rfl (by rw [Mm])
    refine qJ <| qr <| sM hS rfl fun hS => sA hS rfl fun hS => qJ <| zI <| sM hS rfl fun hS => sM hS rfl fun hS => sB hS rfl fun hS => zF (v := Value.int .i64) (x0 := (qh (LV + (20 : Int)))) hS (xB rfl) rfl fun MS a w hz hS => ?_
    have hM := qE hz hM; clear hz
    refine zg <| zw (qf ?_)
    exact MP _ _ ⟨Mb, Ml, MG, LV, MS, hS.to [0, 1] (by kernel_rfl) ⟨rfl, rfl, rfl, rfl, rfl, rfl, trivial⟩, M8, M9, MR, hM⟩
   ·refine wp_exit ?_
    refine qC (qC (q9 (qf ?_)))
    exact MO _ _ ⟨LL, LP, L6, LZ, hS.to [0, 1] (by kernel_rfl) ⟨rfl, rfl, rfl, rfl, rfl, trivial⟩, Mi, Mj, Mk, hM⟩
 ·intro a w hI
  obtain ⟨LO, LU, Mf, L4, hS, MT, MU, MV, hM⟩ := hI
  rw [qj.j2] at hM
  refine qr <| sM hS rfl fun hS => sM hS rfl fun hS => sM hS rfl fun hS => sM hS rfl fun hS => qN hS rfl Tryd.call99 (xL hG K LU L4 LJ LI LG LH LO Mf MU MT (hS.st.part 2 [0, 1] (by kernel_rfl)) (qv hM) (fun Mc Mn MH w hM Na Nb Mp hst => qG hS.ev hst.appF rfl fun hS => ?_))
  replace hS : Ss _ _ _ H [LI, MH] F _ _ := hS
  have MW := Eq.trans Mp MV
  replace hS := hS.re 0 (u := .slice LG LO.length LH) (v := .slice LG Mc.length LH) rfl (by rw [Mp])
  replace hS := hS.re 23 (u := .slice LG LO.length LH) (v := .slice LG Mc.length LH) rfl (by rw [Mp])
  refine qJ <| xG <| zt (fun Mg a w => ∃ (LT : List (zq 2)) (LQ : (List qb)) (L7 : qp) (LF : Int), Ss 63 [] [(0, .slice LG LT.length LH), (1, .int .i64 LJ), (2, yA 84 [] []), (6, .int .i64 LF)] H [LI, L7] F a w ∧ (xb 112 (zq.v (sz := 2)) 2 LG LT LH L7) ∧ (zr (qg LI) LQ LT) ∧ (LT.length = LK.length) ∧ (qj.l3 K LJ Mg LQ LF).wp kr kp) K ?_ ?_ ?_
  ·exact ⟨Mc, Mn, MH, (20 : Int), hS.to [0, 1] (by kernel_rfl) ⟨rfl, rfl, rfl, rfl, trivial⟩, Na, Nb, MW, hM⟩
  ·intro a w hI; obtain ⟨_, _, _, _, _, _, _, _, hM⟩ := hI; exact zm hM
  ·intro Mg a w hI Nl Mq
   obtain ⟨LT, LQ, L7, LF, hS, Mr, Ms, Mt, hM⟩ := hI
   rw [qj.l3] at hM
   refine wp_seq <| qr <| sM hS rfl fun hS => sM hS rfl fun hS => sB hS rfl fun hS => qJ <| qI hS rfl hM (fun MX hM => ?_) (fun MX hM => ?_)
   ·refine wp_skip ?_
    refine qf <| xG <| qr <| sM hS rfl fun hS => sB hS rfl fun hS => sA hS rfl fun hS => zF (v := Value.int .i64) (x0 := (qh ((2 : Int) * LF))) hS (xB rfl) rfl fun MY a w hz hS => ?_
    have hM := qE hz hM; clear hz
    refine qJ <| zc (fun a w => ∃ (LM : List (zq 2)) (LR : (List qb)) (L8 : qp) (L0 : Int), Ss 63 [] [(0, .slice LG LM.length LH), (1, .int .i64 LJ), (2, yA 84 [] []), (6, .int .i64 LF), (7, .int .i64 L0)] H [LI, L8] F a w ∧ (xb 112 (zq.v (sz := 2)) 2 LG LM LH L8) ∧ (zr (qg LI) LR LM) ∧ (LM.length = LK.length) ∧ (qj.j5 K (qj.l3 K LJ Mg) LJ LF LR L0).wp kr kp) (fun Nm MZ => ?_) ?_
    ·refine xG ?_
     refine zt (fun MI a w => ∃ (LN : List (zq 2)) (LS : (List qb)) (L9 : qp) (LW : Int) (LX : Int), Ss 63 [] [(0, .slice LG LN.length LH), (1, .int .i64 LJ), (2, yA 84 [] []), (6, .int .i64 LF), (7, .int .i64 LW), (8, .int .i64 LX)] H [LI, L9] F a w ∧ (xb 112 (zq.v (sz := 2)) 2 LG LN LH L9) ∧ (zr (qg LI) LS LN) ∧ (LN.length = LK.length) ∧ (qj.l4 K (qj.l3 K LJ Mg) LJ LF MI LS LW LX).wp kr kp) K ?_ ?_ ?_
     ·exact ⟨LT, LQ, L7, (0 : Int), MY, hS.to [0, 1] (by kernel_rfl) ⟨rfl, rfl, rfl, rfl, rfl, rfl, trivial⟩, Mr, Ms, Mt, hM⟩
     ·intro a w hI; obtain ⟨_, _, _, _, _, _, _, _, _, hM⟩ := hI; exact zm hM
     ·intro MI a w hI Nn M0
      obtain ⟨LN, LS, L9, LW, LX, hS, Mu, Mv, Mw, hM⟩ := hI
      rw [qj.l4] at hM
      refine wp_seq <| qr <| sM hS rfl fun hS => sM hS rfl fun hS => sB hS rfl fun hS => qJ <| qI hS rfl hM (fun M3 hM => ?_) (fun M3 hM => ?_)
      ·refine wp_skip ?_
       refine qf <| xG <| qr <| sM hS rfl fun hS => sM hS rfl fun hS => sM hS rfl fun hS => sM hS rfl fun hS => sB hS rfl fun hS => sM hS rfl fun hS => sM hS rfl fun hS => qN hS rfl Tryd.call100 (xQ hG K LS LW (qh (LW + LF)) LX LI LG LH LN L9 Mv Mu (hS.st.part 2 [0, 1] (by kernel_rfl)) (qv hM) (fun Md Mx MJ w hM Nc Nd My hst => qG hS.ev hst.appF rfl fun hS => ?_))
       replace hS : Ss _ _ _ H [LI, MJ] F _ _ := hS
       have M4 := Eq.trans My Mw
       replace hS := hS.re 0 (u := .slice LG LN.length LH) (v := .slice LG Md.length LH) rfl (by rw [My])
       replace hS := hS.re 36 (u := .slice LG LN.length LH) (v := .slice LG Md.length LH) rfl (by rw [My])
       refine qJ <| qr <| sM hS rfl fun hS => sA hS rfl fun hS => qJ <| zI <| sM hS rfl fun hS => sM hS rfl fun hS => sB hS rfl fun hS => sB hS rfl fun hS => zF (v := Value.int .i64) (x0 := (qh (LX + (qh ((2 : Int) * LF))))) hS (xB rfl) rfl fun M5 a w hz hS => ?_
       have hM := qE hz hM; clear hz
       refine zg <| zw (qf ?_)
       exact M0 _ _ ⟨Md, Mx, MJ, LX, M5, hS.to [0, 1] (by kernel_rfl) ⟨rfl, rfl, rfl, rfl, rfl, rfl, trivial⟩, Nc, Nd, M4, hM⟩
      ·refine wp_exit ?_
       refine qC (qC (q9 (qf ?_)))
       exact MZ _ _ ⟨LN, LS, L9, LW, hS.to [0, 1] (by kernel_rfl) ⟨rfl, rfl, rfl, rfl, rfl, trivial⟩, Mu, Mv, Mw, hM⟩
    ·intro a w hI
     obtain ⟨LM, LR, L8, L0, hS, Mz, MA, MB, hM⟩ := hI
     rw [qj.j5] at hM
     refine wp_seq <| qr <| sM hS rfl fun hS => sM hS rfl fun hS => sB hS rfl fun hS => zF (v := Value.int .i64) (x0 := (qh (L0 + LF))) hS (xB rfl) rfl fun Nf a w hz hS => ?_
     have hM := qE hz hM; clear hz
     refine qJ <| qr <| sM hS rfl fun hS => sM hS rfl fun hS => sB hS rfl fun hS => qJ <| qI hS rfl hM (fun M6 hM => ?_) (fun M6 hM => ?_)
     ·refine zI ?_
      refine sM hS rfl fun hS => sM hS rfl fun hS => sM hS rfl fun hS => sM hS rfl fun hS => sM hS rfl fun hS => qN hS rfl Tryd.call100 (xQ hG K LR L0 Nf LJ LI LG LH LM L8 MA Mz (hS.st.part 2 [0, 1] (by kernel_rfl)) (qv hM) (fun Me MC MK w hM Ng Nh MD hst => qG hS.ev hst.appF rfl fun hS => ?_))
      replace hS : Ss _ _ _ H [LI, MK] F _ _ := hS
      have M7 := Eq.trans MD MB
      replace hS := hS.re 0 (u := .slice LG LM.length LH) (v := .slice LG Me.length LH) rfl (by rw [MD])
      replace hS := hS.re 55 (u := .slice LG LM.length LH) (v := .slice LG Me.length LH) rfl (by rw [MD])
      refine qJ <| zI <| sM hS rfl fun hS => sB hS rfl fun hS => zF (v := Value.int .i64) (x0 := (qh (LF * (2 : Int)))) hS (xB rfl) rfl fun L1 a w hz hS => ?_
      have hM := qE hz hM; clear hz
      refine zg <| zw (qf ?_)
      exact Mq _ _ ⟨Me, MC, MK, L1, hS.to [0, 1] (by kernel_rfl) ⟨rfl, rfl, rfl, rfl, trivial⟩, Ng, Nh, M7, hM⟩
     ·refine wp_skip ?_
      refine qf <| zI <| sM hS rfl fun hS => sB hS rfl fun hS => zF (v := Value.int .i64) (x0 := (qh (LF * (2 : Int)))) hS (xB rfl) rfl fun L3 a w hz hS => ?_
      have hM := qE hz hM; clear hz
      refine zg <| zw (qf ?_)
      exact Mq _ _ ⟨LM, LR, L8, L3, hS.to [0, 1] (by kernel_rfl) ⟨rfl, rfl, rfl, rfl, trivial⟩, Mz, MA, MB, hM⟩
   ·refine wp_exit ?_
    refine qC (qC (q9 ?_))
    exact yT (rs := []) hS rfl rfl (hret LT LQ L7 _ (zn hM) Mr Ms Mt (hS.st.pick [0, 1] (by kernel_rfl)))
theorem x8 {H : xT} {F : List qp} {w : World} {R : Ending → World → Prop} {kr : (List qb) → Prop} {kp : Value → Prop} (hG : Gl H) (K : Nat) (LK : List qb) (LI : qp) (LG : Option Addr) (LH : Nat) (LF : List (zq 2)) (LN : qp) (LO : zr (qg LI) LK LF) (LT : xb 112 (zq.v (sz := 2)) 2 LG LF LH LN)
    (hS : St w H [LI, LN] F) (hm : (zS.m K LK).wp kr kp)
    (hret : ∀ (LL : List (zq 2)) (LQ : (List qb)) (LR : qp) (w : World), kr LQ → (xb 112 (zq.v (sz := 2)) 2 LG LL LH LR) → (zr (qg LI) LQ LL) → (LL.length = LF.length) → St w H [LI, LR] F → R (.returned (.tuple ⟨[]⟩)) w) :
    Calls Tryd.prog 56 ⟨[.slice LG LF.length LH, yA 84 [] []]⟩ w R := by
 refine enter Tryd.func56 rfl Tryd.ntmps56 rfl hS fun a w hS => ?_
 have hM := hm; clear hm
 rw [zS.m] at hM
 have LY : ∀ q ∈ LI, q ∈ LI := fun _ h => h
 have LU : LF.length = LF.length := rfl
 refine zI <| sM hS rfl fun hS => sM hS rfl fun hS => sO hS (qV (v' := .int .i64 (LK.length : Int)) (ym rfl Tryd.runUnderlying110) (by rw [LO.len])) rfl fun hS => sM hS rfl fun hS => qN hS rfl Tryd.call81 (yM hG K LK (LK.length : Int) LI LG LH LF LN LO LT (hS.st.part 2 [0, 1] (by kernel_rfl)) (qv hM) (fun LJ LP LS w hM LW LX LM hst => qG hS.ev hst.appF rfl fun hS => ?_))
 replace hS : Ss _ _ _ H [LI, LS] F _ _ := hS
 have LV := Eq.trans LM LU
 replace hS := hS.re 0 (u := .slice LG LF.length LH) (v := .slice LG LJ.length LH) rfl (by rw [LM])
 replace hS := hS.re 4 (u := .slice LG LF.length LH) (v := .slice LG LJ.length LH) rfl (by rw [LM])
 replace hS := hS.re 5 (u := .slice LG LF.length LH) (v := .slice LG LJ.length LH) rfl (by rw [LM])
 refine zg ?_
 exact yT (rs := []) hS rfl rfl (hret LJ LP LS _ (zn hM) LW LX LV (hS.st.pick [0, 1] (by kernel_rfl)))
theorem Yb {H : xT} {F : List qp} {w : World} {R : Ending → World → Prop} {kr : (List qb) → Prop} {kp : Value → Prop} (hG : Gl H) (K : Nat) (LS : List qb) (LT : List qb) (LF : qp) (LX : Option Addr) (LY : Nat) (LG : List (zq 2)) (LZ : Option Addr) (L0 : Nat) (LH : List (zq 2)) (LM : zr (qg LF) LS LG) (LN : Pl LF (zq.v (sz := 2)) LX LG) (Mg : LG.length ≤ LY) (LO : zr (qg LF) LT LH) (LP : Pl LF (zq.v (sz := 2)) LZ LH) (Mh : LH.length ≤ L0)
    (hS : St w H [LF] F) (hm : (yS.m K LS LT).wp kr kp)
    (hret : ∀ (L6 : qp) (L9 : Option Addr) (Ma : Nat) (L1 : List (zq 2)) (Mb : (List qb)) (Mc : qp) (w : World), kr Mb → (∀ q ∈ LF, q ∈ L6) → (xb 112 (zq.v (sz := 2)) 2 L9 L1 Ma Mc) → (zr (qg L6) Mb L1) → St w H [L6, Mc] F → R (.returned (.slice L9 L1.length Ma)) w)
    (hpan : ∀ v w, kp v → St w H [] F → R (.panicked [⟨v, false, false⟩]) w) :
    Calls Tryd.prog 59 ⟨[.slice LX LG.length LY, .slice LZ LH.length L0]⟩ w R := by
 refine enter Tryd.func59 rfl Tryd.ntmps59 rfl hS fun a w hS => ?_
 have hM := hm; clear hm
 rw [yS.m] at hM
 have LQ : ∀ q ∈ LF, q ∈ LF := fun _ h => h
 refine qr <| sA hS rfl fun hS => ?_
 obtain ⟨Md, Mu, hS⟩ := hS.nilV 112 (zq.v (sz := 2)) 2
 have LU : zr (qg LF) ([] : List qb) ([] : List (zq 2)) := zr.nil
 refine qJ <| qr <| sM hS rfl fun hS => sM hS rfl fun hS => ?_
 obtain ⟨L3, hrw⟩ : ∃ r, r = ([(⟨[.slice LX LG.length LY], by simp, by simp [Value.oneCell']⟩ : zq 1), (⟨[.slice LZ LH.length L0], by simp, by simp [Value.oneCell']⟩ : zq 1)] : List (zq 1)) := ⟨_, rfl⟩
 have LR : zr (xP LF) ([LS, LT] : List (List qb)) L3 := by rw [hrw]; exact (zr.cons (show xP LF _ _ from ⟨LX, LY, LG, rfl, LM, LN, Mg⟩) (zr.cons (show xP LF _ _ from ⟨LZ, L0, LH, rfl, LO, LP, Mh⟩) zr.nil))
 refine Yx (g := (zq.v (sz := 1))) L3 [.slice LX LG.length LY, .slice LZ LH.length L0] hS Tryd.runUnderlying165 Tryd.sizeOf110 X.el110 rfl rfl rfl (by simp [Value.cells]) (by rw [hrw]; rfl) (by rw [hrw]; rfl) rfl rfl rfl fun w Mk Ml Mv L7 hS => ?_
 clear hrw
 replace hS := hS.front [0, 2, 1] (by kernel_rfl)
 obtain ⟨Mm, Mi, LI, hS⟩ := hS.poolF
 have Mj := L7.cap zq.len rfl
 have L4 := L7.pl.mono Mi
 replace LN := LN.mono LI
 replace LP := LP.mono LI
 replace LM := zr.mono (fun _ _ h => qg.mono LI h) LM
 replace LO := zr.mono (fun _ _ h => qg.mono LI h) LO
 replace LU := zr.mono (fun _ _ h => qg.mono LI h) LU
 replace LR := zr.mono (fun _ _ h => xP.mono LI h) LR
 replace LQ := fun q h => LI q (LQ q h)
 refine qN hS rfl Tryd.call83 (yY hG K ([LS, LT] : List (List qb)) Mm Mk Ml L3 LR L4 Mj (hS.st.part 1 [0, 1] (by kernel_rfl)) (qv hM) (fun L5 LJ LK LV Mn Me w hM LL Mp Mq hst => qG hS.ev hst.appF rfl fun hS => ?_) (fun v w hk hst => xm (qD (⟨hS.ev.defs, hpan _ _ hk hst.appF.frame⟩))))
 replace hS : Ss _ _ _ H [L5, Me, Md] F _ _ := hS
 replace LN := LN.mono LL
 replace LP := LP.mono LL
 replace L4 := L4.mono LL
 replace LM := zr.mono (fun _ _ h => qg.mono LL h) LM
 replace LO := zr.mono (fun _ _ h => qg.mono LL h) LO
 replace LU := zr.mono (fun _ _ h => qg.mono LL h) LU
 replace LR := zr.mono (fun _ _ h => xP.mono LL h) LR
 replace LQ := fun q h => LL q (LQ q h)
 refine sA hS rfl fun hS => qJ <| qr <| sM hS rfl fun hS => qN hS rfl Tryd.call56 (x8 hG K Mn L5 LJ LK LV Me Mq Mp (hS.st.part 2 [0, 1, 2] (by kernel_rfl)) (qv hM) (fun LW Mr Mf w hM Ms Mt L8 hst => qG hS.ev hst.appF rfl fun hS => ?_))
 replace hS : Ss _ _ _ H [L5, Mf, Md] F _ _ := hS
 replace hS := hS.re 5 (u := .slice LJ LV.length LK) (v := .slice LJ LW.length LK) rfl (by rw [L8])
 replace hS := hS.re 9 (u := .slice LJ LV.length LK) (v := .slice LJ LW.length LK) rfl (by rw [L8])
 replace hS := hS.re 10 (u := .slice LJ LV.length LK) (v := .slice LJ LW.length LK) rfl (by rw [L8])
 refine qJ <| qr <| sM hS rfl fun hS => sA hS rfl fun hS => qJ <| wp_ret ?_
 exact zX (rs := [4]) hS rfl rfl (hret L5 LJ LK LW Mr Mf _ (zn hM) LQ Ms Mt (hS.st.pick [0, 1] (by kernel_rfl)))
theorem Qe {H : xT} {F : List qp} {w : World} {R : Ending → World → Prop} {kr : ((List Int) × Int) → Prop} {kp : Value → Prop} (hG : Gl H) (K : Nat) (LF : List Int) (LG : Int) (Mb : Option Addr) (Mc : Nat) (MC : jQ H [] F (ci .i64) Mb LF) (ND : LF.length ≤ Mc)
    (hS : St w H [] F) (hm : (qF.m K LF LG).wp kr kp)
    (hret : ∀ (Nq : Option Addr) (Nr : Nat) (MQ : (List Int)) (Ns : qp) (Nt : Int) (w : World), kr (MQ, Nt) → (xb 3 (ci .i64) 1 Nq MQ Nr Ns) → St w H [Ns] F → R (.returned (.tuple ⟨[.slice Nq MQ.length Nr, .int .i64 Nt]⟩)) w)
    (hpan : ∀ v w, kp v → St w H [] F → R (.panicked [⟨v, false, false⟩]) w) :
    Calls Tryd.prog 40 ⟨[.slice Mb LF.length Mc, .int .i64 LG]⟩ w R := by
 refine enter Tryd.func40 rfl Tryd.ntmps40 rfl hS fun a w hS => ?_
 have hM := hm; clear hm
 rw [qF.m] at hM
 refine qr <| sA hS rfl fun hS => ?_
 obtain ⟨Pq, PR, hS⟩ := hS.nilV 3 (ci .i64) 1
 refine sA hS rfl fun hS => qJ <| wp_seq <| qr <| sM hS rfl fun hS => sB hS rfl fun hS => sM hS rfl fun hS => y9 2 false 17 (b := (decide (LG < (1 : Int)))) (r := (decide (LG > (15 : Int)))) hS rfl rfl rfl rfl rfl rfl rfl (fun hb a w hS K hK => ?_) rfl fun a w hS => ?_
 ·refine z3 hS rfl rfl rfl hb (mv rfl) rfl fun a w hS => ?_
  refine z3 hS rfl rfl rfl hb (jA rfl rfl rfl) rfl fun a w hS => ?_
  exact zg (hK _ _ (hS.up 2 rfl rfl))
 refine sM hS rfl fun hS => y9 3 false 21 (b := ((decide (LG < (1 : Int))) || (decide (LG > (15 : Int))))) (r := (decide ((LF.length : Int) > (320 : Int)))) hS rfl rfl rfl rfl rfl rfl rfl (fun hb a w hS K hK => ?_) rfl fun a w hS => ?_
 ·refine z3 hS rfl rfl rfl hb (mv rfl) rfl fun a w hS => ?_
  refine z3 hS rfl rfl rfl hb (ym rfl Tryd.runUnderlying45) rfl fun a w hS => z3 hS rfl rfl rfl hb (jA rfl rfl rfl) rfl fun a w hS => ?_
  exact zg (hK _ _ (hS.up 3 rfl rfl))
 refine sM hS rfl fun hS => XU (fun a w => ∃ (MR : Bool), Ss 109 [] [(0, .slice Mb LF.length Mc), (1, .int .i64 LG), (29, .bool MR)] H [] F a w ∧ (qF.j1 K LF LG MR).wp kr kp) 3 (fun PY MS => ?_) ?_
 ·refine Dz (b := (((decide (LG < (1 : Int))) || (decide (LG > (15 : Int)))) || (decide ((LF.length : Int) > (320 : Int))))) hM (fun Md hM => ?_) (fun Md hM => ?_)
  ·replace hS := hS.re 25 (v := .bool true) rfl (congrArg Value.bool Md)
   replace hS := hS.re 26 (v := .bool true) rfl (congrArg Value.bool Md)
   refine Kd 2 hS rfl fun a w hS => sO hS (pk rfl rfl rfl) rfl fun hS => zg <| qf ?_
   exact MS _ _ ⟨true, hS.to [] (by kernel_rfl) ⟨rfl, rfl, rfl, trivial⟩, hM⟩
  ·replace hS := hS.re 25 (v := .bool false) rfl (congrArg Value.bool Md)
   replace hS := hS.re 26 (v := .bool false) rfl (congrArg Value.bool Md)
   refine z3 hS rfl rfl rfl rfl (mv rfl) rfl fun a w hS => Zm hS rfl rfl rfl rfl <| qN hS rfl Tryd.call54 (jm hG K LF Mb Mc (MC.app _) ND (hS.st.part 0 [0] (by kernel_rfl)) (qv hM) (fun Pr w hM  hst => qG hS.ev hst.appF rfl fun hS => ?_))
   replace hS : Ss _ _ _ H [Pq] F _ _ := hS
   refine sO hS (pk rfl rfl rfl) rfl fun hS => zg <| qf ?_
   exact MS _ _ ⟨Pr, hS.to [] (by kernel_rfl) ⟨rfl, rfl, rfl, trivial⟩, hM⟩
 ·intro a w hI
  obtain ⟨MR, hS, hM⟩ := hI
  rw [qF.j1] at hM
  refine qJ <| qI hS rfl hM (fun NE hM => ?_) (fun NE hM => ?_)
  ·refine wp_seq ?_
   refine zI <| sA hS rfl fun hS => ?_
   obtain ⟨Ps, NF, hS⟩ := hS.nilV 3 (ci .i64) 1
   refine sA hS rfl fun hS => qJ <| wp_ret <| zE ?_
   exact zX (rs := [4, 5]) hS rfl rfl (hret none (0) ([] : List Int) Ps (1 : Int) _ (zn hM) NF (hS.st.pick [0] (by kernel_rfl)))
  ·refine wp_skip ?_
   refine qf <| qr <| sA hS rfl fun hS => ?_
   obtain ⟨Nu, hS⟩ := hS.pool0
   obtain ⟨Pt, NG, hS⟩ := hS.nilV 112 (zq.v (sz := 2)) 2
   have NH : zr (qg Nu) ([] : List qb) ([] : List (zq 2)) := zr.nil
   refine qJ <| zc (fun a w => ∃ (Ml : qp) (LO : Option Addr) (LP : Nat) (LT : List (zq 2)) (LH : (List qb)) (Mt : qp), Ss 109 [] [(0, .slice Mb LF.length Mc), (1, .int .i64 LG), (6, .slice LO LT.length LP)] H [Ml, Mt] F a w ∧ (xb 112 (zq.v (sz := 2)) 2 LO LT LP Mt) ∧ (zr (qg Ml) LH LT) ∧ (qF.j3 K LF LG LH).wp kr kp) (fun PZ NI => ?_) ?_
   ·refine wp_seq ?_
    refine zI <| sM hS rfl fun hS => sO hS (ym rfl Tryd.runUnderlying45) rfl fun hS => sM hS rfl fun hS => qJ <| xG <| zt (fun Nv a w => ∃ (Mu : qp) (Mv : Option Addr) (Mw : Nat) (L6 : List (zq 2)) (LK : (List qb)) (Mx : qp) (LW : Int), Ss 109 [] [(0, .slice Mb LF.length Mc), (1, .int .i64 LG), (6, .slice Mv L6.length Mw), (30, .slice Mb LF.length Mc), (31, .int .i64 (LF.length : Int)), (32, .int .i64 LW)] H [Mu, Mx] F a w ∧ (xb 112 (zq.v (sz := 2)) 2 Mv L6 Mw Mx) ∧ (zr (qg Mu) LK L6) ∧ (qF.l2 K LF LG Nv LK LW).wp kr kp) K ?_ ?_ ?_
    ·exact ⟨Nu, none, 0, ([] : List (zq 2)), ([] : List qb), Pt, (0 : Int), hS.to [1, 0] (by kernel_rfl) ⟨rfl, rfl, rfl, rfl, rfl, rfl, trivial⟩, NG, NH, hM⟩
    ·intro a w hI; obtain ⟨_, _, _, _, _, _, _, _, _, _, hM⟩ := hI; exact zm hM
    ·intro Nv a w hI P0 MT
     obtain ⟨Mu, Mv, Mw, L6, LK, Mx, LW, hS, MD, L7, hM⟩ := hI
     rw [qF.l2] at hM
     refine qr <| sB hS rfl fun hS => qJ <| wp_seq <| qI hS rfl hM (fun NJ hM => ?_) (fun NJ hM => ?_)
     ·refine wp_skip ?_
      refine qf <| wp_seq <| xG <| qr <| sM hS rfl fun hS => ?_
      obtain ⟨MU, hM⟩ := qH hM
      refine sO hS (xZ rfl rfl Tryd.runUnderlying45 Tryd.sizeOf3 MC.wk (fun _ => rfl) rfl MU) rfl fun hS => sO hS (yH rfl MC.wk (fun _ => rfl) MU rfl Tryd.isAgg3) rfl fun hS => sA hS rfl fun hS => zF (v := Value.int .i64) (x0 := (rd LF LW)) hS (xB rfl) rfl fun Me a w hz hS => ?_
      have hM := qE hz hM; clear hz
      refine qJ <| qr <| sM hS rfl fun hS => sB hS rfl fun hS => qJ <| qI hS rfl hM (fun NK hM => ?_) (fun NK hM => ?_)
      ·refine zI ?_
       refine sM hS rfl fun hS => sM hS rfl fun hS => sM hS rfl fun hS => Yx (g := (ci .i64)) ([LW] : List Int) [.int .i64 LW] hS Tryd.runUnderlying45 Tryd.sizeOf3 X.el3 rfl rfl rfl (by simp [Value.cells]) rfl rfl rfl rfl rfl fun w MK ML P1 MV hS => sO hS (X4 ([.int .i64 Me, .slice MK ([LW] : List Int).length ML]) [(0, 1), (1, 1)] Tryd.zeroValue112 Tryd.runUnderlying112 (by intro w; simp [Tryd.sizeOf3, Tryd.sizeOf45]) rfl rfl) rfl fun hS => ?_
       replace hS := hS.front [0, 1, 2] (by kernel_rfl)
       obtain ⟨MW, NL, NM, hS⟩ := hS.poolF
       have NN := MV.cap (fun _ => rfl) rfl
       have NO := MV.pl.mono NL
       replace L7 := zr.mono (fun _ _ h => qg.mono NM h) L7
       obtain ⟨ME, hrw⟩ : ∃ r, r = ([(⟨[.int .i64 Me, .slice MK ([LW] : List Int).length ML], by simp, by simp [Value.oneCell']⟩ : zq 2)] : List (zq 2)) := ⟨_, rfl⟩
       have MX : zr (qg MW) ([(qb.mk Me ([LW] : List Int))] : List qb) ME := by rw [hrw]; exact (zr.cons (show qg MW _ _ from ⟨MK, ML, rfl, NO, NN⟩) zr.nil)
       refine Yx (g := (zq.v (sz := 2))) ME [.agg ⟨[.int .i64 Me, .slice MK ([LW] : List Int).length ML]⟩] hS Tryd.runUnderlying110 Tryd.sizeOf112 X.el112 rfl rfl rfl (by simp [Value.cells]) (by rw [hrw]; rfl) (by rw [hrw]; rfl) rfl rfl rfl fun w P2 P3 P4 NP hS => ?_
       clear hrw
       obtain ⟨NQ, hM⟩ := qH hM
       refine Jm (ys := ME) 2 hS rfl rfl MD rfl (NP.rd (i := 0) rfl) Tryd.runUnderlying110 Tryd.runUnderlying110 X.el112 zq.len rfl Xc (L7.room MX NQ) rfl fun NR w Pv Pw Px hz NS hS => ?_
       obtain ⟨NT, hzm⟩ := js (LK ++ ([(qb.mk Me ([LW] : List Int))] : List qb))
       replace hM := qE hzm hM
       have MY := zr.append L7 MX
       rw [← hz, ← hzm] at MY; clear hz hzm
       refine sA hS rfl fun hS => zg <| zw (qf ?_)
       refine zI <| sB hS rfl fun hS => sM hS rfl fun hS => zg <| qf ?_
       exact MT _ _ ⟨MW, Pv, Pw, NR, NT, Px, (qh (LW + (1 : Int))), hS.to [1, 2] (by kernel_rfl) ⟨rfl, rfl, rfl, rfl, rfl, rfl, trivial⟩, NS, MY, hM⟩
      ·refine wp_skip ?_
       refine zw (qf ?_)
       refine zI <| sB hS rfl fun hS => sM hS rfl fun hS => zg <| qf ?_
       exact MT _ _ ⟨Mu, Mv, Mw, L6, LK, Mx, (qh (LW + (1 : Int))), hS.to [0, 1] (by kernel_rfl) ⟨rfl, rfl, rfl, rfl, rfl, rfl, trivial⟩, MD, L7, hM⟩
     ·refine wp_exit ?_
      refine qC (qC (q9 (qf ?_)))
      exact NI _ _ ⟨Mu, Mv, Mw, L6, LK, Mx, hS.to [0, 1] (by kernel_rfl) ⟨rfl, rfl, rfl, trivial⟩, MD, L7, hM⟩
   ·intro a w hI
    obtain ⟨Ml, LO, LP, LT, LH, Mt, hS, Mn, LY, hM⟩ := hI
    rw [qF.j3] at hM
    refine wp_seq <| qr <| sM hS rfl fun hS => sO hS (qV (v' := .int .i64 (LH.length : Int)) (ym rfl Tryd.runUnderlying110) (by rw [LY.len])) rfl fun hS => sM hS rfl fun hS => ?_
    obtain ⟨NU, hM⟩ := qH hM
    refine sO hS (shl rfl rfl NU) rfl fun hS => sB hS rfl fun hS => qJ <| qI hS rfl hM (fun NV hM => ?_) (fun NV hM => ?_)
    ·refine wp_seq ?_
     refine zI <| sA hS rfl fun hS => ?_
     obtain ⟨Py, NW, hS⟩ := hS.nilV 3 (ci .i64) 1
     refine sA hS rfl fun hS => qJ <| wp_ret <| zE ?_
     exact zX (rs := [4, 5]) hS rfl rfl (hret none (0) ([] : List Int) Py (1 : Int) _ (zn hM) NW (hS.st.pick [0] (by kernel_rfl)))
    ·refine wp_skip ?_
     refine qf <| qr <| sM hS rfl fun hS => sO hS (ym rfl Tryd.runUnderlying45) rfl fun hS => ?_
     obtain ⟨NX, hM⟩ := qH hM
     refine Bq (g := (ci .i64)) (m := (LF.length : Int)) (0 : Int) hS rfl rfl (by simp) Tryd.runUnderlying45 X.el3 (fun w => ⟨_, Tryd.zeroValue3 w, rfl⟩) (fun _ => rfl) rfl rfl NX rfl fun Mp w LI LJ Pz hz MF hS => ?_
     have hM := qE hz hM; clear hz
     refine sA hS rfl fun hS => qJ <| zc (fun a w => ∃ (LN : (List Int)) (L0 : qp), Ss 109 [] [(1, .int .i64 LG), (6, .slice LO LT.length LP), (9, .slice LI LN.length LJ)] H [Ml, Mt, L0] F a w ∧ (xb 3 (ci .i64) 1 LI LN LJ L0) ∧ (qF.j4 K LG LH LN).wp kr kp) (fun P5 MZ => ?_) ?_
     ·refine wp_seq ?_
      refine zI <| sM hS rfl fun hS => sO hS (qV (v' := .int .i64 (LH.length : Int)) (ym rfl Tryd.runUnderlying110) (by rw [LY.len])) rfl fun hS => sB hS rfl fun hS => qJ <| qI hS rfl hM (fun NY hM => ?_) (fun NY hM => ?_)
      ·refine zI ?_
       refine sM hS rfl fun hS => sM hS rfl fun hS => ?_
       obtain ⟨Mq, hM⟩ := qH hM
       refine sO hS (xZ rfl rfl Tryd.runUnderlying110 Tryd.sizeOf112 (Mn.rd (i := 2) rfl) zq.len rfl (LY.inb Mq)) rfl fun hS => sO hS (YQ rfl (Mn.rd (i := 2) rfl) zq.len rfl (LY.inb Mq) Tryd.runUnderlying112 rfl Tryd.sizeOf45 rfl) rfl fun hS => ?_
       obtain ⟨P6, P7, NZ, M0, PS⟩ := LY.get Mq
       refine sO hS (Bm 1 rfl (Mn.rd (i := 2) rfl) zq.len (LY.inb Mq) (by rw [show zq.v (rd LT (0 : Int)) = _ from NZ]; rfl) Tryd.isAgg45) rfl fun hS => ?_
       obtain ⟨M3, hM⟩ := qH hM
       refine sO hS (xZ rfl rfl Tryd.runUnderlying45 Tryd.sizeOf3 (M0.rd (i := 1) rfl) (fun _ => rfl) rfl M3) rfl fun hS => sO hS (yH rfl (M0.rd (i := 1) rfl) (fun _ => rfl) M3 rfl Tryd.isAgg3) rfl fun hS => ?_
       obtain ⟨M4, hM⟩ := qH hM
       refine sO hS (xZ rfl rfl Tryd.runUnderlying45 Tryd.sizeOf3 (MF.rd (i := 0) rfl) (fun _ => rfl) rfl M4) rfl fun hS => JB (i := (rd ((rd LH (0 : Int)).symbols_) (0 : Int))) (sz := 1) 0 0 ((1 : Int)) hS rfl rfl MF rfl Tryd.sizeOf3 (xH (1 : Int)) (fun _ => rfl) M4 rfl rfl fun Mr w PA hz MG N0 hS => ?_
       have hM := qE hz hM; clear hz
       replace hS := hS.re 9 (u := .slice LI Mp.length LJ) (v := .slice LI Mr.length LJ) rfl (by rw [MG])
       replace hS := hS.re 54 (u := .slice LI Mp.length LJ) (v := .slice LI Mr.length LJ) rfl (by rw [MG])
       replace hS := hS.re 58 (u := .slice LI Mp.length LJ) (v := .slice LI Mr.length LJ) rfl (by rw [MG])
       refine zg <| qf ?_
       exact MZ _ _ ⟨Mr, PA, hS.to [1, 2, 0] (by kernel_rfl) ⟨rfl, rfl, rfl, trivial⟩, N0, hM⟩
      ·refine wp_skip ?_
       refine qf ?_
       exact MZ _ _ ⟨Mp, Pz, hS.to [1, 2, 0] (by kernel_rfl) ⟨rfl, rfl, rfl, trivial⟩, MF, hM⟩
     ·intro a w hI
      obtain ⟨LN, L0, hS, M5, hM⟩ := hI
      rw [qF.j4] at hM
      refine wp_seq <| qr <| sM hS rfl fun hS => sO hS (qV (v' := .int .i64 (LH.length : Int)) (ym rfl Tryd.runUnderlying110) (by rw [LY.len])) rfl fun hS => sB hS rfl fun hS => qJ <| qI hS rfl hM (fun N1 hM => ?_) (fun N1 hM => ?_)
      ·refine wp_seq ?_
       refine zI <| sM hS rfl fun hS => sA hS rfl fun hS => sA hS rfl fun hS => qJ <| wp_ret <| zE ?_
       exact zX (rs := [4, 5]) hS rfl rfl (hret LI LJ LN L0 (0 : Int) _ (zn hM) M5 (hS.st.pick [2] (by kernel_rfl)))
      ·refine wp_skip ?_
       refine qf <| qr <| sM hS rfl fun hS => qN hS rfl Tryd.call56 (x7 hG K LH Ml LO LP LT Mt LY Mn (hS.st.part 2 [0, 1, 2] (by kernel_rfl)) (qv hM) (fun LL L1 PB w hM Nw MM M6 hst => qG hS.ev hst.appF rfl fun hS => ?_))
       replace hS : Ss _ _ _ H [Ml, PB, L0] F _ _ := hS
       replace hS := hS.re 6 (u := .slice LO LT.length LP) (v := .slice LO LL.length LP) rfl (by rw [M6])
       replace hS := hS.re 66 (u := .slice LO LT.length LP) (v := .slice LO LL.length LP) rfl (by rw [M6])
       replace hS := hS.re 70 (u := .slice LO LT.length LP) (v := .slice LO LL.length LP) rfl (by rw [M6])
       refine qJ <| qr <| sM hS rfl fun hS => sA hS rfl fun hS => qJ <| zc (fun a w => ∃ (L8 : qp) (M7 : Option Addr) (M8 : Nat) (Mf : List (zq 2)) (Ma : (List qb)), Ss 109 [] [(6, .slice LO LL.length LP), (9, .slice LI LN.length LJ), (10, .slice M7 Mf.length M8)] H [L8, L0] F a w ∧ (zr (qg L8) L1 LL) ∧ (Pl L8 (zq.v (sz := 2)) LO LL) ∧ (LL.length ≤ LP) ∧ (zr (qg L8) Ma Mf) ∧ (Pl L8 (zq.v (sz := 2)) M7 Mf) ∧ (Mf.length ≤ M8) ∧ (qF.j6 K LN L1 Ma).wp kr kp) (fun P8 N2 => ?_) ?_
       ·refine wp_seq ?_
        refine zI <| sM hS rfl fun hS => sB hS rfl fun hS => sM hS rfl fun hS => qJ <| xG <| zt (fun Nx a w => ∃ (L9 : qp) (My : Option Addr) (Mz : Nat) (L3 : List (zq 2)) (L5 : (List qb)) (MN : Int), Ss 109 [] [(6, .slice LO LL.length LP), (9, .slice LI LN.length LJ), (10, .slice My L3.length Mz), (74, .int .i64 (qh (LG - (1 : Int)))), (75, .int .i64 MN)] H [L9, L0] F a w ∧ (zr (qg L9) L1 LL) ∧ (Pl L9 (zq.v (sz := 2)) LO LL) ∧ (LL.length ≤ LP) ∧ (zr (qg L9) L5 L3) ∧ (Pl L9 (zq.v (sz := 2)) My L3) ∧ (L3.length ≤ Mz) ∧ (qF.l5 K LG LN L1 Nx L5 MN).wp kr kp) K ?_ ?_ ?_
        ·replace hS := hS.front [1, 0, 2] (by kernel_rfl)
         obtain ⟨PC, N3, N4, hS⟩ := hS.poolF
         have M9 := Nw.cap zq.len rfl
         have Na := Nw.pl.mono N3
         replace MM := zr.mono (fun _ _ h => qg.mono N4 h) MM
         exact ⟨PC, LO, LP, LL, L1, (0 : Int), hS.to [0, 1] (by kernel_rfl) ⟨rfl, rfl, rfl, rfl, rfl, trivial⟩, MM, Na, M9, MM, Na, M9, hM⟩
        ·intro a w hI; obtain ⟨_, _, _, _, _, _, _, _, _, _, _, _, _, hM⟩ := hI; exact zm hM
        ·intro Nx a w hI P9 N5
         obtain ⟨L9, My, Mz, L3, L5, MN, hS, LR, LS, MH, LU, LV, Nb, hM⟩ := hI
         rw [qF.l5] at hM
         refine qr <| sB hS rfl fun hS => qJ <| wp_seq <| qI hS rfl hM (fun N6 hM => ?_) (fun N6 hM => ?_)
         ·refine wp_skip ?_
          refine qf <| wp_seq <| xG <| zI <| sM hS rfl fun hS => sM hS rfl fun hS => qN hS rfl Tryd.call60 (YU hG K L5 L9 My Mz L3 LU LV Nb (hS.st.part 1 [0, 1] (by kernel_rfl)) (qv hM) (fun PD PE PF N7 PG PH w hM MO Ny Mg hst => qG hS.ev hst.appF rfl fun hS => ?_) (fun v w hk hst => xm (zT (qD (qD (zT (qD (⟨hS.ev.defs, hpan _ _ hk hst.appF.frame⟩))))))))
          replace hS : Ss _ _ _ H [PD, PH, L0] F _ _ := hS
          replace LS := LS.mono MO
          replace LV := LV.mono MO
          replace LR := zr.mono (fun _ _ h => qg.mono MO h) LR
          replace LU := zr.mono (fun _ _ h => qg.mono MO h) LU
          replace hS := hS.front [1, 0, 2] (by kernel_rfl)
          obtain ⟨PI, N8, Mh, hS⟩ := hS.poolF
          have N9 := Ny.cap zq.len rfl
          have Mi := Ny.pl.mono N8
          replace Mg := zr.mono (fun _ _ h => qg.mono Mh h) Mg
          replace LS := LS.mono Mh
          replace LV := LV.mono Mh
          replace LR := zr.mono (fun _ _ h => qg.mono Mh h) LR
          replace LU := zr.mono (fun _ _ h => qg.mono Mh h) LU
          refine qN hS rfl Tryd.call59 (Yb hG K L1 PG PI LO LP LL PE PF N7 LR LS MH Mg Mi N9 (hS.st.part 1 [0, 1] (by kernel_rfl)) (qv hM) (fun PJ PL PM Pa PN PO w hM Mm Nz Nc hst => qG hS.ev hst.appF rfl fun hS => ?_) (fun v w hk hst => xm (zT (qD (qD (zT (qD (⟨hS.ev.defs, hpan _ _ hk hst.appF.frame⟩))))))))
          replace hS : Ss _ _ _ H [PJ, PO, L0] F _ _ := hS
          replace Mg := zr.mono (fun _ _ h => qg.mono Mm h) Mg
          replace LS := LS.mono Mm
          replace LV := LV.mono Mm
          replace Mi := Mi.mono Mm
          replace LR := zr.mono (fun _ _ h => qg.mono Mm h) LR
          replace LU := zr.mono (fun _ _ h => qg.mono Mm h) LU
          refine sA hS rfl fun hS => zg <| zw (qf ?_)
          refine zI <| sB hS rfl fun hS => sM hS rfl fun hS => zg <| qf ?_
          replace hS := hS.front [1, 0, 2] (by kernel_rfl)
          obtain ⟨PP, Pb, L4, hS⟩ := hS.poolF
          have Pc := Nz.cap zq.len rfl
          have Pd := Nz.pl.mono Pb
          replace Mg := zr.mono (fun _ _ h => qg.mono L4 h) Mg
          replace Nc := zr.mono (fun _ _ h => qg.mono L4 h) Nc
          replace LS := LS.mono L4
          replace LV := LV.mono L4
          replace Mi := Mi.mono L4
          replace LR := zr.mono (fun _ _ h => qg.mono L4 h) LR
          replace LU := zr.mono (fun _ _ h => qg.mono L4 h) LU
          exact N5 _ _ ⟨PP, PL, PM, Pa, PN, (qh (MN + (1 : Int))), hS.to [0, 1] (by kernel_rfl) ⟨rfl, rfl, rfl, rfl, rfl, trivial⟩, LR, LS, MH, Nc, Pd, Pc, hM⟩
         ·refine wp_exit ?_
          refine qC (qC (q9 (qf ?_)))
          exact N2 _ _ ⟨L9, My, Mz, L3, L5, hS.to [0, 1] (by kernel_rfl) ⟨rfl, rfl, rfl, trivial⟩, LR, LS, MH, LU, LV, Nb, hM⟩
       ·intro a w hI
        obtain ⟨L8, M7, M8, Mf, Ma, hS, Pe, PT, PU, Nd, Nf, Pf, hM⟩ := hI
        rw [qF.j6] at hM
        refine wp_seq <| qr <| sM hS rfl fun hS => sM hS rfl fun hS => sO hS (qV (v' := .int .i64 (L1.length : Int)) (ym rfl Tryd.runUnderlying110) (by rw [Pe.len])) rfl fun hS => sB hS rfl fun hS => sB hS rfl fun hS => ?_
        obtain ⟨Pg, hM⟩ := qH hM
        refine GW (g := (zq.v (sz := 2))) hS rfl Tryd.runUnderlying110 Tryd.sizeOf112 D8 (Dy rfl) zq.len Pf (Nd.subok Pg) rfl fun Ng NA NB a w hz Nh PV hS => ?_
        obtain ⟨LM, hzm⟩ := js (sub Ma (0 : Int) (qh ((qh ((2 : Int) * (L1.length : Int))) - (2 : Int))))
        replace hM := qE hzm hM
        have Mj := Nd.sub (0 : Int) (qh ((qh ((2 : Int) * (L1.length : Int))) - (2 : Int))) (qh ((qh ((2 : Int) * (L1.length : Int))) - (2 : Int))) rfl
        rw [← hz, ← hzm] at Mj; clear hz hzm
        refine sO hS (qV (v' := .int .i64 (LM.length : Int)) (ym rfl Tryd.runUnderlying110) (by rw [Mj.len])) rfl fun hS => sM hS rfl fun hS => qJ <| xG <| zt (fun Ni a w => ∃ (LZ : (List Int)) (MA : qp) (LX : Int), Ss 109 [] [(9, .slice LI LZ.length LJ), (87, .slice NA Ng.length NB), (88, .int .i64 (LM.length : Int)), (89, .int .i64 LX)] H [MA, L8] F a w ∧ (xb 3 (ci .i64) 1 LI LZ LJ MA) ∧ (qF.l7 K LM Ni LZ LX).wp kr kp) K ?_ ?_ ?_
        ·exact ⟨LN, L0, (0 : Int), hS.to [1, 0] (by kernel_rfl) ⟨rfl, rfl, rfl, rfl, trivial⟩, M5, hM⟩
        ·intro a w hI; obtain ⟨_, _, _, _, _, hM⟩ := hI; exact zm hM
        ·intro Ni a w hI Sa Ph
         obtain ⟨LZ, MA, LX, hS, Nj, hM⟩ := hI
         rw [qF.l7] at hM
         refine qr <| sB hS rfl fun hS => qJ <| wp_seq <| qI hS rfl hM (fun Pi hM => ?_) (fun Pi hM => ?_)
         ·refine wp_skip ?_
          refine qf <| wp_seq <| xG <| wp_seq <| zI ?_
          obtain ⟨MI, hM⟩ := qH hM
          refine sO hS (xZ rfl rfl Tryd.runUnderlying110 Tryd.sizeOf112 (Nh _ _ _ (Nf.rd (i := 1) rfl)) zq.len rfl (Mj.inb MI)) rfl fun hS => ?_
          obtain ⟨Nk, Nl, Pj, Nm, PW⟩ := Mj.get MI
          refine sO hS (qV (y4 rfl (Nh _ _ _ (Nf.rd (i := 1) rfl)) zq.len (Mj.inb MI) Tryd.isAgg112 Tryd.sizeOf112 rfl) (congrArg (fun l => Value.agg ⟨l⟩) Pj)) rfl fun hS => QP ([.int .i64 (0 : Int), .slice none 0 0]) hS Tryd.zeroValue112 rfl rfl fun w Sb Sc Pk hS => ?_
          obtain ⟨Sd, PX, hS⟩ := hS.nilV 3 (ci .i64) 1
          refine Zo 1 ([.int .i64 ((rd LM LX).often_), .slice Nk ((rd LM LX).symbols_).length Nl]) ([.int .i64 ((rd LM LX).often_), .slice Nk ((rd LM LX).symbols_).length Nl]) hS rfl rfl Pk rfl rfl Tryd.sizeOf112 (by simp [Value.oneCell']) (Nat.le_of_ble_eq_true rfl) rfl fun w Se Pm hS => qJ <| qr <| sO hS (xz rfl Tryd.runUnderlying112 rfl Tryd.sizeOf45 rfl) rfl fun hS => sO hS (ye 1 rfl Pm rfl rfl Tryd.isAgg45) rfl fun hS => sO hS (ym rfl Tryd.runUnderlying45) rfl fun hS => sM hS rfl fun hS => qJ <| xG <| zt (fun NC a w => ∃ (LQ : (List Int)) (MP : qp) (MB : Int), Ss 109 [] [(9, .slice LI LQ.length LJ), (87, .slice NA Ng.length NB), (88, .int .i64 (LM.length : Int)), (89, .int .i64 LX), (94, .slice Nk ((rd LM LX).symbols_).length Nl), (95, .int .i64 (((rd LM LX).symbols_).length : Int)), (96, .int .i64 MB)] H [MP, L8] F a w ∧ (xb 3 (ci .i64) 1 LI LQ LJ MP) ∧ (qF.l8 K (qF.l7 K LM Ni) LM LX NC LQ MB).wp kr kp) K ?_ ?_ ?_
          ·exact ⟨LZ, MA, (0 : Int), hS.to [2, 3] (by kernel_rfl) ⟨rfl, rfl, rfl, rfl, rfl, rfl, rfl, trivial⟩, Nj, hM⟩
          ·intro a w hI; obtain ⟨_, _, _, _, _, hM⟩ := hI; exact zm hM
          ·intro NC a w hI Sf Pn
           obtain ⟨LQ, MP, MB, hS, Mk, hM⟩ := hI
           rw [qF.l8] at hM
           refine qr <| sB hS rfl fun hS => qJ <| wp_seq <| qI hS rfl hM (fun Po hM => ?_) (fun Po hM => ?_)
           ·refine wp_skip ?_
            refine qf <| wp_seq <| xG <| wp_seq <| zI ?_
            obtain ⟨Nn, hM⟩ := qH hM
            refine sO hS (xZ rfl rfl Tryd.runUnderlying45 Tryd.sizeOf3 (Nm.rd (i := 1) rfl) (fun _ => rfl) rfl Nn) rfl fun hS => sO hS (yH rfl (Nm.rd (i := 1) rfl) (fun _ => rfl) Nn rfl Tryd.isAgg3) rfl fun hS => zF (v := Value.int .i64) (x0 := (rd ((rd LM LX).symbols_) MB)) hS (xB rfl) rfl fun No a w hz hS => ?_
            have hM := qE hz hM; clear hz
            refine qJ <| zI <| sM hS rfl fun hS => sM hS rfl fun hS => ?_
            obtain ⟨Ms, hM⟩ := qH hM
            refine sO hS (xZ rfl rfl Tryd.runUnderlying45 Tryd.sizeOf3 (Mk.rd (i := 0) rfl) (fun _ => rfl) rfl Ms) rfl fun hS => sO hS (yH rfl (Mk.rd (i := 0) rfl) (fun _ => rfl) Ms rfl Tryd.isAgg3) rfl fun hS => sB hS rfl fun hS => sO hS (xZ rfl rfl Tryd.runUnderlying45 Tryd.sizeOf3 (Mk.rd (i := 0) rfl) (fun _ => rfl) rfl Ms) rfl fun hS => JB (i := No) (sz := 1) 0 0 ((qh ((rd LQ No) + (1 : Int)))) hS rfl rfl Mk rfl Tryd.sizeOf3 (xH (qh ((rd LQ No) + (1 : Int)))) (fun _ => rfl) Ms rfl rfl fun MJ w PQ hz Np Pp hS => ?_
            have hM := qE hz hM; clear hz
            replace hS := hS.re 9 (u := .slice LI LQ.length LJ) (v := .slice LI MJ.length LJ) rfl (by rw [Np])
            replace hS := hS.re 100 (u := .slice LI LQ.length LJ) (v := .slice LI MJ.length LJ) rfl (by rw [Np])
            refine zg <| zw (qf ?_)
            refine zI <| sB hS rfl fun hS => sM hS rfl fun hS => zg <| qf ?_
            exact Pn _ _ ⟨MJ, PQ, (qh (MB + (1 : Int))), hS.to [0, 1] (by kernel_rfl) ⟨rfl, rfl, rfl, rfl, rfl, rfl, rfl, trivial⟩, Pp, hM⟩
           ·refine wp_exit ?_
            refine qC (qC (q9 (zw (qf ?_))))
            refine zI <| sB hS rfl fun hS => sM hS rfl fun hS => zg <| qf ?_
            exact Ph _ _ ⟨LQ, MP, (qh (LX + (1 : Int))), hS.to [0, 1] (by kernel_rfl) ⟨rfl, rfl, rfl, rfl, trivial⟩, Mk, hM⟩
         ·refine wp_exit ?_
          refine qC (qC (q9 (qf ?_)))
          refine qr <| sM hS rfl fun hS => sA hS rfl fun hS => sA hS rfl fun hS => qJ <| wp_ret ?_
          exact zX (rs := [4, 5]) hS rfl rfl (hret LI LJ LZ MA (0 : Int) _ (zn hM) Nj (hS.st.pick [0] (by kernel_rfl)))
theorem vJ {H : xT} {F : List qp} {w : World} {R : Ending → World → Prop} {kr : ((List Int) × (List Int)) → Prop} {kp : Value → Prop} (hG : Gl H) (K : Nat) (LF : List Int) (LI : Option Addr) (LJ : Nat) (LT : qp) (LX : xb 3 (ci .i64) 1 LI LF LJ LT)
    (hS : St w H [LT] F) (hm : (q7.m K LF).wp kr kp)
    (hret : ∀ (L5 : Option Addr) (L6 : Nat) (L0 : (List Int)) (L7 : qp) (LL : (List Int)) (L8 : qp) (w : World), kr (L0, LL) → (xb 3 (ci .i64) 1 L5 L0 L6 L7) → (xb 3 (ci .i64) 1 LI LL LJ L8) → (LL.length = LF.length) → St w H [L7, L8] F → R (.returned (.slice L5 L0.length L6)) w)
    (hpan : ∀ v w, kp v → St w H [] F → R (.panicked [⟨v, false, false⟩]) w) :
    Calls Tryd.prog 38 ⟨[.slice LI LF.length LJ]⟩ w R := by
 refine enter Tryd.func38 rfl Tryd.ntmps38 rfl hS fun a w hS => ?_
 have hM := hm; clear hm
 rw [q7.m] at hM
 have Mc : LF.length = LF.length := rfl
 refine qr <| sA hS rfl fun hS => ?_
 obtain ⟨Mx, Mw, hS⟩ := hS.nilV 3 (ci .i64) 1
 refine qJ <| qr <| sA hS rfl fun hS => qJ <| zc (fun a w => ∃ (LQ : Int), Ss 43 [] [(0, .slice LI LF.length LJ), (3, .int .i64 LQ)] H [LT] F a w ∧ (q7.j2 K LF LQ).wp kr kp) (fun My Md => ?_) ?_
 ·refine wp_seq ?_
  refine zI <| sM hS rfl fun hS => sO hS (ym rfl Tryd.runUnderlying45) rfl fun hS => sM hS rfl fun hS => qJ <| xG <| zt (fun L9 a w => ∃ (LO : Int) (LU : Int), Ss 43 [] [(0, .slice LI LF.length LJ), (3, .int .i64 LO), (9, .slice LI LF.length LJ), (10, .int .i64 (LF.length : Int)), (11, .int .i64 LU)] H [LT] F a w ∧ (q7.l1 K LF L9 LO LU).wp kr kp) K ?_ ?_ ?_
  ·exact ⟨(0 : Int), (0 : Int), hS.to [1] (by kernel_rfl) ⟨rfl, rfl, rfl, rfl, rfl, trivial⟩, hM⟩
  ·intro a w hI; obtain ⟨_, _, _, hM⟩ := hI; exact zm hM
  ·intro L9 a w hI Mz Me
   obtain ⟨LO, LU, hS, hM⟩ := hI
   rw [q7.l1] at hM
   refine qr <| sB hS rfl fun hS => qJ <| wp_seq <| qI hS rfl hM (fun Mf hM => ?_) (fun Mf hM => ?_)
   ·refine wp_skip ?_
    refine qf <| wp_seq <| xG <| wp_seq <| zI ?_
    obtain ⟨L1, hM⟩ := qH hM
    refine sO hS (xZ rfl rfl Tryd.runUnderlying45 Tryd.sizeOf3 (LX.rd (i := 0) rfl) (fun _ => rfl) rfl L1) rfl fun hS => sO hS (yH rfl (LX.rd (i := 0) rfl) (fun _ => rfl) L1 rfl Tryd.isAgg3) rfl fun hS => zF (v := Value.int .i64) (x0 := (rd LF LU)) hS (xB rfl) rfl fun L3 a w hz hS => ?_
    have hM := qE hz hM; clear hz
    refine qJ <| zI <| sM hS rfl fun hS => sM hS rfl fun hS => sO hS (Un rfl rfl) rfl fun hS => sB hS rfl fun hS => zF (v := Value.int .i64) (x0 := (qh (LO + (if (1 : Int) < L3 then (1 : Int) else L3)))) hS (xB rfl) rfl fun Mg a w hz hS => ?_
    have hM := qE hz hM; clear hz
    refine zg <| zw (qf ?_)
    refine zI <| sB hS rfl fun hS => sM hS rfl fun hS => zg <| qf ?_
    exact Me _ _ ⟨Mg, (qh (LU + (1 : Int))), hS.to [0] (by kernel_rfl) ⟨rfl, rfl, rfl, rfl, rfl, trivial⟩, hM⟩
   ·refine wp_exit ?_
    refine qC (qC (q9 (qf ?_)))
    exact Md _ _ ⟨LO, hS.to [0] (by kernel_rfl) ⟨rfl, rfl, trivial⟩, hM⟩
 ·intro a w hI
  obtain ⟨LQ, hS, hM⟩ := hI
  rw [q7.j2] at hM
  refine zc (fun a w => ∃ (LH : (List Int)) (LV : qp), Ss 43 [] [(0, .slice LI LH.length LJ)] H [LV] F a w ∧ (xb 3 (ci .i64) 1 LI LH LJ LV) ∧ (LH.length = LF.length) ∧ (q7.j4 K LH).wp kr kp) (fun MA Mh => ?_) ?_
  ·refine wp_seq ?_
   refine zI <| sA hS rfl fun hS => qJ <| xG <| zt (fun Ma a w => ∃ (LG : (List Int)) (LW : qp) (LP : Int) (LN : Int), Ss 43 [] [(0, .slice LI LG.length LJ), (3, .int .i64 LP), (6, .int .i64 LN)] H [LW] F a w ∧ (xb 3 (ci .i64) 1 LI LG LJ LW) ∧ (LG.length = LF.length) ∧ (q7.l3 K Ma LG LP LN).wp kr kp) K ?_ ?_ ?_
   ·exact ⟨LF, LT, LQ, (0 : Int), hS.to [0] (by kernel_rfl) ⟨rfl, rfl, rfl, trivial⟩, LX, Mc, hM⟩
   ·intro a w hI; obtain ⟨_, _, _, _, _, _, _, hM⟩ := hI; exact zm hM
   ·intro Ma a w hI MB L4
    obtain ⟨LG, LW, LP, LN, hS, LK, LY, hM⟩ := hI
    rw [q7.l3] at hM
    refine wp_seq <| qr <| sM hS rfl fun hS => sB hS rfl fun hS => qJ <| qI hS rfl hM (fun Mi hM => ?_) (fun Mi hM => ?_)
    ·refine wp_skip ?_
     refine qf <| wp_seq <| xG <| qr <| sM hS rfl fun hS => sM hS rfl fun hS => ?_
     obtain ⟨LM, hM⟩ := qH hM
     refine sO hS (xZ rfl rfl Tryd.runUnderlying45 Tryd.sizeOf3 (LK.rd (i := 0) rfl) (fun _ => rfl) rfl LM) rfl fun hS => sO hS (yH rfl (LK.rd (i := 0) rfl) (fun _ => rfl) LM rfl Tryd.isAgg3) rfl fun hS => sB hS rfl fun hS => qJ <| qI hS rfl hM (fun Mj hM => ?_) (fun Mj hM => ?_)
     ·refine wp_seq ?_
      refine zI <| sM hS rfl fun hS => sM hS rfl fun hS => sO hS (xZ rfl rfl Tryd.runUnderlying45 Tryd.sizeOf3 (LK.rd (i := 0) rfl) (fun _ => rfl) rfl LM) rfl fun hS => sO hS (yH rfl (LK.rd (i := 0) rfl) (fun _ => rfl) LM rfl Tryd.isAgg3) rfl fun hS => sB hS rfl fun hS => sO hS (xZ rfl rfl Tryd.runUnderlying45 Tryd.sizeOf3 (LK.rd (i := 0) rfl) (fun _ => rfl) rfl LM) rfl fun hS => JB (i := LN) (sz := 1) 0 0 ((qh ((rd LG LN) + (1 : Int)))) hS rfl rfl LK rfl Tryd.sizeOf3 (xH (qh ((rd LG LN) + (1 : Int)))) (fun _ => rfl) LM rfl rfl fun LR w Mp hz LS Mk hS => ?_
      have hM := qE hz hM; clear hz
      have Ml := Eq.trans LS LY
      replace hS := hS.re 0 (u := .slice LI LG.length LJ) (v := .slice LI LR.length LJ) rfl (by rw [LS])
      replace hS := hS.re 24 (u := .slice LI LG.length LJ) (v := .slice LI LR.length LJ) rfl (by rw [LS])
      replace hS := hS.re 29 (u := .slice LI LG.length LJ) (v := .slice LI LR.length LJ) rfl (by rw [LS])
      refine qJ <| zI <| sM hS rfl fun hS => sB hS rfl fun hS => zF (v := Value.int .i64) (x0 := (qh (LP + (1 : Int)))) hS (xB rfl) rfl fun Mm a w hz hS => ?_
      have hM := qE hz hM; clear hz
      refine zg <| zw (qf ?_)
      refine zI <| sM hS rfl fun hS => sB hS rfl fun hS => zF (v := Value.int .i64) (x0 := (qh (LN + (1 : Int)))) hS (xB rfl) rfl fun Mq a w hz hS => ?_
      have hM := qE hz hM; clear hz
      refine zg <| qf ?_
      exact L4 _ _ ⟨LR, Mp, Mm, Mq, hS.to [0] (by kernel_rfl) ⟨rfl, rfl, rfl, trivial⟩, Mk, Ml, hM⟩
     ·refine wp_skip ?_
      refine zw (qf ?_)
      refine zI <| sM hS rfl fun hS => sB hS rfl fun hS => zF (v := Value.int .i64) (x0 := (qh (LN + (1 : Int)))) hS (xB rfl) rfl fun Mr a w hz hS => ?_
      have hM := qE hz hM; clear hz
      refine zg <| qf ?_
      exact L4 _ _ ⟨LG, LW, LP, Mr, hS.to [0] (by kernel_rfl) ⟨rfl, rfl, rfl, trivial⟩, LK, LY, hM⟩
    ·refine wp_exit ?_
     refine qC (qC (q9 (qf ?_)))
     exact Mh _ _ ⟨LG, LW, hS.to [0] (by kernel_rfl) ⟨rfl, trivial⟩, LK, LY, hM⟩
  ·intro a w hI
   obtain ⟨LH, LV, hS, LZ, Mn, hM⟩ := hI
   rw [q7.j4] at hM
   refine qr <| sM hS rfl fun hS => qN hS rfl Tryd.call40 (Qe hG K LH (15 : Int) LI LJ (LZ.rdF (i := 0) rfl) (LZ.cap (fun _ => rfl) rfl) (hS.st.part 0 [0] (by kernel_rfl)) (qv hM) (fun Ms Mt Mu Mb MC w hM Mv hst => qG hS.ev hst.appF rfl fun hS => ?_) (fun v w hk hst => xm (qD (⟨hS.ev.defs, hpan _ _ hk hst.appF.frame⟩))))
   replace hS : Ss _ _ _ H [Mb, LV] F _ _ := hS
   refine sM hS rfl fun hS => sO hS (ex rfl rfl) rfl fun hS => sO hS (ex rfl rfl) rfl fun hS => sA hS rfl fun hS => sA hS rfl fun hS => qJ <| qr <| sM hS rfl fun hS => sA hS rfl fun hS => qJ <| wp_ret ?_
   exact zX (rs := [2]) hS rfl rfl (hret Ms Mt Mu Mb LH LV _ (zn hM) Mv LZ Mn (hS.st.pick [0, 1] (by kernel_rfl)))
theorem ZJ {H : xT} {F : List qp} {w : World} {R : Ending → World → Prop} {kr : (List qm) → Prop} {kp : Value → Prop} (hG : Gl H) (K : Nat) (LF : List Int) (LL : Option Addr) (LM : Nat) (LK : jQ H [] F (ci .i64) LL LF) (MO : LF.length ≤ LM)
    (hS : St w H [] F) (hm : (qU.m K LF).wp kr kp)
    (hret : ∀ (L4 : Option Addr) (L5 : Nat) (LX : (List qm)) (L6 : qp) (w : World), kr LX → (xb 75 qm.cells 3 L4 LX L5 L6) → St w H [L6] F → R (.returned (.slice L4 LX.length L5)) w) :
    Calls Tryd.prog 39 ⟨[.slice LL LF.length LM]⟩ w R := by
 refine enter Tryd.func39 rfl Tryd.ntmps39 rfl hS fun a w hS => ?_
 have hM := hm; clear hm
 rw [qU.m] at hM
 refine qr <| sA hS rfl fun hS => ?_
 obtain ⟨MQ, MP, hS⟩ := hS.nilV 75 qm.cells 3
 refine qJ <| qr <| sA hS rfl fun hS => ?_
 obtain ⟨Mx, L7, hS⟩ := hS.nilV 75 qm.cells 3
 refine qJ <| wp_seq <| qr <| sA hS rfl fun hS => qJ <| xG <| zt (fun LU a w => ∃ (LO : Option Addr) (LP : Nat) (LI : (List qm)) (LQ : qp) (LG : Int), Ss 93 [] [(0, .slice LL LF.length LM), (3, .slice LO LI.length LP), (4, .int .i64 LG)] H [LQ] F a w ∧ (xb 75 qm.cells 3 LO LI LP LQ) ∧ (qU.l1 K LF LU LI LG).wp kr kp) K ?_ ?_ ?_
 ·exact ⟨none, 0, ([] : List qm), Mx, (0 : Int), hS.to [0] (by kernel_rfl) ⟨rfl, rfl, rfl, trivial⟩, L7, hM⟩
 ·intro a w hI; obtain ⟨_, _, _, _, _, _, _, hM⟩ := hI; exact zm hM
 ·intro LU a w hI MR LV
  obtain ⟨LO, LP, LI, LQ, LG, hS, LR, hM⟩ := hI
  rw [qU.l1] at hM
  refine wp_seq <| qr <| sM hS rfl fun hS => sM hS rfl fun hS => sO hS (ym rfl Tryd.runUnderlying45) rfl fun hS => sB hS rfl fun hS => qJ <| qI hS rfl hM (fun L8 hM => ?_) (fun L8 hM => ?_)
  ·refine wp_skip ?_
   refine qf <| xG <| qr <| sA hS rfl fun hS => qJ <| zc (fun a w => ∃ (LJ : Int), Ss 93 [] [(0, .slice LL LF.length LM), (3, .slice LO LI.length LP), (4, .int .i64 LG), (5, .int .i64 LJ)] H [LQ] F a w ∧ (qU.j4 K (qU.l1 K LF LU) LF LI LG LJ).wp kr kp) (fun MS L9 => ?_) ?_
   ·refine xG ?_
    refine zt (fun LY a w => ∃ (LH : Int), Ss 93 [] [(0, .slice LL LF.length LM), (3, .slice LO LI.length LP), (4, .int .i64 LG), (5, .int .i64 LH)] H [LQ] F a w ∧ (qU.l2 K (qU.l1 K LF LU) LF LI LG LY LH).wp kr kp) K ?_ ?_ ?_
    ·exact ⟨(1 : Int), hS.to [0] (by kernel_rfl) ⟨rfl, rfl, rfl, rfl, trivial⟩, hM⟩
    ·intro a w hI; obtain ⟨_, _, hM⟩ := hI; exact zm hM
    ·intro LY a w hI MT Ma
     obtain ⟨LH, hS, hM⟩ := hI
     rw [qU.l2] at hM
     refine wp_seq <| zc (fun a w => ∃ (LZ : Bool), Ss 93 [] [(0, .slice LL LF.length LM), (3, .slice LO LI.length LP), (4, .int .i64 LG), (5, .int .i64 LH), (28, .bool LZ)] H [LQ] F a w ∧ (qU.j3 K (qU.l1 K LF LU) (qU.l2 K (qU.l1 K LF LU) LF LI LG LY) LF LI LG LH LZ).wp kr kp) (fun MU L0 => ?_) ?_
     ·refine Dz (b := (decide ((qh (LG + LH)) < (LF.length : Int)))) hM (fun LW hM => ?_) (fun LW hM => ?_)
      ·obtain ⟨L1, hM⟩ := qH hM
       obtain ⟨L3, hM⟩ := qH hM
       refine q8 (vals := [some (.int .i64 LG), some (.int .i64 LH), some (.int .i64 (qh (LG + LH))), some (.slice LL LF.length LM), some (.int .i64 (LF.length : Int)), some (.bool true), some (.bool true), some (.slice LL LF.length LM), some (.int .i64 LG), some (.int .i64 LH), some (.int .i64 (qh (LG + LH))), some (z8 LL (Int.toNat (qh (LG + LH)) * 1)), some (.int .i64 (rd LF (qh (LG + LH)))), some (.slice LL LF.length LM), some (.int .i64 LG), some (z8 LL (Int.toNat LG * 1)), some (.int .i64 (rd LF LG)), some (.bool ((rd LF (qh (LG + LH))) == (rd LF LG))), some (.bool ((rd LF (qh (LG + LH))) == (rd LF LG)))]) hS xw rfl ?_
       intro l w ho hcl hA hst
       refine x6 hA hst ho hcl xx [0, 1, 2, 3, 4, 5, 6, 7, 8, 9, 10, 11, 12, 13, 14, 15, 16, 17, 18] rfl rfl rfl (by exact ⟨nM rfl, nM rfl, nB rfl, nM rfl, nQ rfl (by exact qV (ym rfl Tryd.runUnderlying45) rfl), nQ rfl (by exact qV (jA rfl rfl rfl) (congrArg Value.bool LW)), nM rfl, nW rfl rfl rfl rfl rfl rfl rfl rfl (by exact qV (mv rfl) rfl), nW rfl rfl rfl rfl rfl rfl rfl rfl (by exact qV (mv rfl) rfl), nW rfl rfl rfl rfl rfl rfl rfl rfl (by exact qV (mv rfl) rfl), nW rfl rfl rfl rfl rfl rfl rfl rfl (by exact qV (jA rfl rfl rfl) rfl), nW rfl rfl rfl rfl rfl rfl rfl rfl (by exact qV (xZ rfl rfl Tryd.runUnderlying45 Tryd.sizeOf3 LK.wk (fun _ => rfl) rfl L1) rfl), nW rfl rfl rfl rfl rfl rfl rfl rfl (by exact qV (yH rfl LK.wk (fun _ => rfl) L1 rfl Tryd.isAgg3) rfl), nW rfl rfl rfl rfl rfl rfl rfl rfl (by exact qV (mv rfl) rfl), nW rfl rfl rfl rfl rfl rfl rfl rfl (by exact qV (mv rfl) rfl), nW rfl rfl rfl rfl rfl rfl rfl rfl (by exact qV (xZ rfl rfl Tryd.runUnderlying45 Tryd.sizeOf3 LK.wk (fun _ => rfl) rfl L3) rfl), nW rfl rfl rfl rfl rfl rfl rfl rfl (by exact qV (yH rfl LK.wk (fun _ => rfl) L3 rfl Tryd.isAgg3) rfl), nW rfl rfl rfl rfl rfl rfl rfl rfl (by exact qV (jA rfl rfl rfl) rfl), nQ rfl (by exact qV (pk rfl rfl rfl) rfl), trivial⟩) fun a w hS => ?_
       replace hS := hS.env2 (e' := [(0, .slice LL LF.length LM), (3, .slice LO LI.length LP), (4, .int .i64 LG), (5, .int .i64 LH), (28, .bool ((rd LF (qh (LG + LH))) == (rd LF LG)))]) ⟨rfl, rfl, rfl, rfl, rfl, trivial⟩
       refine qf ?_
       exact L0 _ _ ⟨((rd LF (qh (LG + LH))) == (rd LF LG)), hS.to [0] (by kernel_rfl) ⟨rfl, rfl, rfl, rfl, rfl, trivial⟩, hM⟩
      ·refine q8 (vals := [some (.int .i64 LG), some (.int .i64 LH), some (.int .i64 (qh (LG + LH))), some (.slice LL LF.length LM), some (.int .i64 (LF.length : Int)), some (.bool false), some (.bool false), some (undef), some (undef), some (undef), some (undef), some (undef), some (undef), some (undef), some (undef), some (undef), some (undef), some (undef), some (.bool false)]) hS xw rfl ?_
       intro l w ho hcl hA hst
       refine x6 hA hst ho hcl xx [0, 1, 2, 3, 4, 5, 6, 7, 8, 9, 10, 11, 12, 13, 14, 15, 16, 17, 18] rfl rfl rfl (by exact ⟨nM rfl, nM rfl, nB rfl, nM rfl, nQ rfl (by exact qV (ym rfl Tryd.runUnderlying45) rfl), nQ rfl (by exact qV (jA rfl rfl rfl) (congrArg Value.bool LW)), nM rfl, nS rfl rfl rfl rfl rfl rfl rfl rfl rfl, nS rfl rfl rfl rfl rfl rfl rfl rfl rfl, nS rfl rfl rfl rfl rfl rfl rfl rfl rfl, nS rfl rfl rfl rfl rfl rfl rfl rfl rfl, nS rfl rfl rfl rfl rfl rfl rfl rfl rfl, nS rfl rfl rfl rfl rfl rfl rfl rfl rfl, nS rfl rfl rfl rfl rfl rfl rfl rfl rfl, nS rfl rfl rfl rfl rfl rfl rfl rfl rfl, nS rfl rfl rfl rfl rfl rfl rfl rfl rfl, nS rfl rfl rfl rfl rfl rfl rfl rfl rfl, nS rfl rfl rfl rfl rfl rfl rfl rfl rfl, nQ rfl (by exact qV (pk rfl rfl rfl) rfl), trivial⟩) fun a w hS => ?_
       replace hS := hS.env2 (e' := [(0, .slice LL LF.length LM), (3, .slice LO LI.length LP), (4, .int .i64 LG), (5, .int .i64 LH), (28, .bool false)]) ⟨rfl, rfl, rfl, rfl, rfl, trivial⟩
       refine qf ?_
       exact L0 _ _ ⟨false, hS.to [0] (by kernel_rfl) ⟨rfl, rfl, rfl, rfl, rfl, trivial⟩, hM⟩
     ·intro a w hI
      obtain ⟨LZ, hS, hM⟩ := hI
      rw [qU.j3] at hM
      refine qI hS rfl hM (fun Mb hM => ?_) (fun Mb hM => ?_)
      ·refine wp_skip ?_
       refine qf <| xG <| zI <| sM hS rfl fun hS => sB hS rfl fun hS => zF (v := Value.int .i64) (x0 := (qh (LH + (1 : Int)))) hS (xB rfl) rfl fun Mc a w hz hS => ?_
       have hM := qE hz hM; clear hz
       refine zg <| zw (qf ?_)
       exact Ma _ _ ⟨Mc, hS.to [0] (by kernel_rfl) ⟨rfl, rfl, rfl, rfl, trivial⟩, hM⟩
      ·refine wp_exit ?_
       refine qC (qC (q9 (qf ?_)))
       exact L9 _ _ ⟨LH, hS.to [0] (by kernel_rfl) ⟨rfl, rfl, rfl, rfl, trivial⟩, hM⟩
   ·intro a w hI
    obtain ⟨LJ, hS, hM⟩ := hI
    rw [qU.j4] at hM
    refine wp_seq <| xG <| qr <| sM hS rfl fun hS => sM hS rfl fun hS => ?_
    obtain ⟨LN, hM⟩ := qH hM
    refine sO hS (xZ rfl rfl Tryd.runUnderlying45 Tryd.sizeOf3 LK.wk (fun _ => rfl) rfl LN) rfl fun hS => sO hS (yH rfl LK.wk (fun _ => rfl) LN rfl Tryd.isAgg3) rfl fun hS => sB hS rfl fun hS => sM hS rfl fun hS => y9 2 true 45 (b := ((rd LF LG) == (0 : Int))) (r := (decide (LJ ≥ (11 : Int)))) hS rfl rfl rfl rfl rfl rfl rfl (fun hb a w hS K hK => ?_) rfl fun a w hS => ?_
    ·refine z3 hS rfl rfl rfl hb (mv rfl) rfl fun a w hS => ?_
     refine z3 hS rfl rfl rfl hb (jA rfl rfl rfl) rfl fun a w hS => ?_
     exact zg (hK _ _ (hS.up 2 rfl rfl))
    refine zF (v := Value.bool) (x0 := (((rd LF LG) == (0 : Int)) && (decide (LJ ≥ (11 : Int))))) hS (xB rfl) rfl fun MV a w hz hS => ?_
    have hM := qE hz hM; clear hz
    refine qJ <| qI hS rfl hM (fun Md hM => ?_) (fun Md hM => ?_)
    ·refine wp_seq ?_
     refine zI <| sM hS rfl fun hS => sO hS (Un rfl rfl) rfl fun hS => zF (v := Value.int .i64) (x0 := (if (138 : Int) < LJ then (138 : Int) else LJ)) hS (xB rfl) rfl fun LS a w hz hS => ?_
     have hM := qE hz hM; clear hz
     refine qJ <| zI <| sM hS rfl fun hS => sM hS rfl fun hS => sB hS rfl fun hS => sO hS (X4 ([.int .i64 (18 : Int), .int .i64 (qh (LS - (11 : Int))), .int .i64 (7 : Int)]) [(0, 1), (1, 1), (2, 1)] Tryd.zeroValue75 Tryd.runUnderlying75 (by intro w; simp [Tryd.sizeOf3]) rfl rfl) rfl fun hS => Yx (g := qm.cells) ([(qm.mk (18 : Int) (qh (LS - (11 : Int))) (7 : Int))] : List qm) [.agg ⟨[.int .i64 (18 : Int), .int .i64 (qh (LS - (11 : Int))), .int .i64 (7 : Int)]⟩] hS Tryd.runUnderlying72 Tryd.sizeOf75 X.el75 rfl rfl rfl (by simp [Value.cells]) rfl rfl rfl rfl rfl fun w MW MX MY Me hS => ?_
     obtain ⟨Mf, hM⟩ := qH hM
     refine Jm (ys := ([(qm.mk (18 : Int) (qh (LS - (11 : Int))) (7 : Int))] : List qm)) 1 hS rfl rfl LR rfl (Me.rd (i := 0) rfl) Tryd.runUnderlying72 Tryd.runUnderlying72 X.el75 (fun _ => rfl) rfl Z9 Mf rfl fun Mg w My Mz MA hz Mh hS => ?_
     have hM := qE hz hM; clear hz
     refine sA hS rfl fun hS => zg <| zw (qf ?_)
     refine zI <| sM hS rfl fun hS => sM hS rfl fun hS => sB hS rfl fun hS => zF (v := Value.int .i64) (x0 := (qh (LG + LS))) hS (xB rfl) rfl fun MB a w hz hS => ?_
     have hM := qE hz hM; clear hz
     refine zg <| zw (qf ?_)
     exact LV _ _ ⟨My, Mz, Mg, MA, MB, hS.to [1] (by kernel_rfl) ⟨rfl, rfl, rfl, trivial⟩, Mh, hM⟩
    ·refine wp_seq ?_
     refine zI <| sM hS rfl fun hS => sM hS rfl fun hS => sO hS (xZ rfl rfl Tryd.runUnderlying45 Tryd.sizeOf3 LK.wk (fun _ => rfl) rfl LN) rfl fun hS => sO hS (yH rfl LK.wk (fun _ => rfl) LN rfl Tryd.isAgg3) rfl fun hS => sB hS rfl fun hS => sM hS rfl fun hS => y9 2 true 63 (b := ((rd LF LG) == (0 : Int))) (r := (decide (LJ ≥ (3 : Int)))) hS rfl rfl rfl rfl rfl rfl rfl (fun hb a w hS K hK => ?_) rfl fun a w hS => ?_
     ·refine z3 hS rfl rfl rfl hb (mv rfl) rfl fun a w hS => ?_
      refine z3 hS rfl rfl rfl hb (jA rfl rfl rfl) rfl fun a w hS => ?_
      exact zg (hK _ _ (hS.up 2 rfl rfl))
     refine zF (v := Value.bool) (x0 := (((rd LF LG) == (0 : Int)) && (decide (LJ ≥ (3 : Int))))) hS (xB rfl) rfl fun MZ a w hz hS => ?_
     have hM := qE hz hM; clear hz
     refine qJ <| qI hS rfl hM (fun Mi hM => ?_) (fun Mi hM => ?_)
     ·refine zI ?_
      refine sM hS rfl fun hS => sM hS rfl fun hS => sB hS rfl fun hS => sO hS (X4 ([.int .i64 (17 : Int), .int .i64 (qh (LJ - (3 : Int))), .int .i64 (3 : Int)]) [(0, 1), (1, 1), (2, 1)] Tryd.zeroValue75 Tryd.runUnderlying75 (by intro w; simp [Tryd.sizeOf3]) rfl rfl) rfl fun hS => Yx (g := qm.cells) ([(qm.mk (17 : Int) (qh (LJ - (3 : Int))) (3 : Int))] : List qm) [.agg ⟨[.int .i64 (17 : Int), .int .i64 (qh (LJ - (3 : Int))), .int .i64 (3 : Int)]⟩] hS Tryd.runUnderlying72 Tryd.sizeOf75 X.el75 rfl rfl rfl (by simp [Value.cells]) rfl rfl rfl rfl rfl fun w M0 M3 M4 Mj hS => ?_
      obtain ⟨Mk, hM⟩ := qH hM
      refine Jm (ys := ([(qm.mk (17 : Int) (qh (LJ - (3 : Int))) (3 : Int))] : List qm)) 1 hS rfl rfl LR rfl (Mj.rd (i := 0) rfl) Tryd.runUnderlying72 Tryd.runUnderlying72 X.el75 (fun _ => rfl) rfl Z9 Mk rfl fun Ml w MC MD ME hz Mm hS => ?_
      have hM := qE hz hM; clear hz
      refine sA hS rfl fun hS => zg <| zw (qf ?_)
      refine zI <| sM hS rfl fun hS => sM hS rfl fun hS => sB hS rfl fun hS => zF (v := Value.int .i64) (x0 := (qh (LG + LJ))) hS (xB rfl) rfl fun MF a w hz hS => ?_
      have hM := qE hz hM; clear hz
      refine zg <| zw (qf ?_)
      exact LV _ _ ⟨MC, MD, Ml, ME, MF, hS.to [1] (by kernel_rfl) ⟨rfl, rfl, rfl, trivial⟩, Mm, hM⟩
     ·refine wp_seq ?_
      refine zI <| sM hS rfl fun hS => sB hS rfl fun hS => zF (v := Value.bool) (x0 := (decide (LJ ≥ (4 : Int)))) hS (xB rfl) rfl fun M5 a w hz hS => ?_
      have hM := qE hz hM; clear hz
      refine qJ <| qI hS rfl hM (fun Mn hM => ?_) (fun Mn hM => ?_)
      ·refine wp_seq ?_
       refine zI <| sM hS rfl fun hS => sO hS (Un rfl rfl) rfl fun hS => zF (v := Value.int .i64) (x0 := (if (7 : Int) < LJ then (7 : Int) else LJ)) hS (xB rfl) rfl fun LT a w hz hS => ?_
       have hM := qE hz hM; clear hz
       refine qJ <| zI <| sM hS rfl fun hS => sM hS rfl fun hS => sM hS rfl fun hS => sO hS (xZ rfl rfl Tryd.runUnderlying45 Tryd.sizeOf3 LK.wk (fun _ => rfl) rfl LN) rfl fun hS => sO hS (yH rfl LK.wk (fun _ => rfl) LN rfl Tryd.isAgg3) rfl fun hS => sO hS (X4 ([.int .i64 (rd LF LG), .int .i64 (0 : Int), .int .i64 (0 : Int)]) [(0, 1), (1, 1), (2, 1)] Tryd.zeroValue75 Tryd.runUnderlying75 (by intro w; simp [Tryd.sizeOf3]) rfl rfl) rfl fun hS => sM hS rfl fun hS => sB hS rfl fun hS => sO hS (X4 ([.int .i64 (16 : Int), .int .i64 (qh (LT - (4 : Int))), .int .i64 (2 : Int)]) [(0, 1), (1, 1), (2, 1)] Tryd.zeroValue75 Tryd.runUnderlying75 (by intro w; simp [Tryd.sizeOf3]) rfl rfl) rfl fun hS => Yx (g := qm.cells) ([(qm.mk (rd LF LG) (0 : Int) (0 : Int)), (qm.mk (16 : Int) (qh (LT - (4 : Int))) (2 : Int))] : List qm) [.agg ⟨[.int .i64 (rd LF LG), .int .i64 (0 : Int), .int .i64 (0 : Int)]⟩, .agg ⟨[.int .i64 (16 : Int), .int .i64 (qh (LT - (4 : Int))), .int .i64 (2 : Int)]⟩] hS Tryd.runUnderlying72 Tryd.sizeOf75 X.el75 rfl rfl rfl (by simp [Value.cells]) rfl rfl rfl rfl rfl fun w M6 M7 M8 Mp hS => ?_
       obtain ⟨Mq, hM⟩ := qH hM
       refine Jm (ys := ([(qm.mk (rd LF LG) (0 : Int) (0 : Int)), (qm.mk (16 : Int) (qh (LT - (4 : Int))) (2 : Int))] : List qm)) 1 hS rfl rfl LR rfl (Mp.rd (i := 0) rfl) Tryd.runUnderlying72 Tryd.runUnderlying72 X.el75 (fun _ => rfl) rfl Z9 Mq rfl fun Mr w MG MH MI hz Ms hS => ?_
       have hM := qE hz hM; clear hz
       refine sA hS rfl fun hS => zg <| zw (qf ?_)
       refine zI <| sM hS rfl fun hS => sM hS rfl fun hS => sB hS rfl fun hS => zF (v := Value.int .i64) (x0 := (qh (LG + LT))) hS (xB rfl) rfl fun MJ a w hz hS => ?_
       have hM := qE hz hM; clear hz
       refine zg <| zw (qf ?_)
       exact LV _ _ ⟨MG, MH, Mr, MI, MJ, hS.to [1] (by kernel_rfl) ⟨rfl, rfl, rfl, trivial⟩, Ms, hM⟩
      ·refine wp_seq ?_
       refine zI <| sA hS rfl fun hS => qJ <| zI <| sM hS rfl fun hS => sM hS rfl fun hS => sM hS rfl fun hS => sO hS (xZ rfl rfl Tryd.runUnderlying45 Tryd.sizeOf3 LK.wk (fun _ => rfl) rfl LN) rfl fun hS => sO hS (yH rfl LK.wk (fun _ => rfl) LN rfl Tryd.isAgg3) rfl fun hS => sO hS (X4 ([.int .i64 (rd LF LG), .int .i64 (0 : Int), .int .i64 (0 : Int)]) [(0, 1), (1, 1), (2, 1)] Tryd.zeroValue75 Tryd.runUnderlying75 (by intro w; simp [Tryd.sizeOf3]) rfl rfl) rfl fun hS => Yx (g := qm.cells) ([(qm.mk (rd LF LG) (0 : Int) (0 : Int))] : List qm) [.agg ⟨[.int .i64 (rd LF LG), .int .i64 (0 : Int), .int .i64 (0 : Int)]⟩] hS Tryd.runUnderlying72 Tryd.sizeOf75 X.el75 rfl rfl rfl (by simp [Value.cells]) rfl rfl rfl rfl rfl fun w M9 Na Nb Mt hS => ?_
       obtain ⟨Mu, hM⟩ := qH hM
       refine Jm (ys := ([(qm.mk (rd LF LG) (0 : Int) (0 : Int))] : List qm)) 1 hS rfl rfl LR rfl (Mt.rd (i := 0) rfl) Tryd.runUnderlying72 Tryd.runUnderlying72 X.el75 (fun _ => rfl) rfl Z9 Mu rfl fun Mv w MK ML MM hz Mw hS => ?_
       have hM := qE hz hM; clear hz
       refine sA hS rfl fun hS => zg <| zw (qf ?_)
       refine zI <| sM hS rfl fun hS => sM hS rfl fun hS => sB hS rfl fun hS => zF (v := Value.int .i64) (x0 := (qh (LG + (1 : Int)))) hS (xB rfl) rfl fun MN a w hz hS => ?_
       have hM := qE hz hM; clear hz
       refine zg <| zw (qf ?_)
       exact LV _ _ ⟨MK, ML, Mv, MM, MN, hS.to [1] (by kernel_rfl) ⟨rfl, rfl, rfl, trivial⟩, Mw, hM⟩
  ·refine wp_exit ?_
   refine qC (qC (q9 (qf ?_)))
   refine qr <| sM hS rfl fun hS => sA hS rfl fun hS => qJ <| wp_ret ?_
   exact zX (rs := [2]) hS rfl rfl (hret LO LP LI LQ _ (zn hM) LR (hS.st.pick [0] (by kernel_rfl)))
theorem uw {H : xT} {F : List qp} {w : World} {R : Ending → World → Prop} {kr : (Int × (List Int)) → Prop} {kp : Value → Prop} (hG : Gl H) (K : Nat) (LF : qs) (LG : qw) (LH : Int) (LK : Nat) (L9 : qp) (Ma : Option Addr) (Mb : Nat) (Mc : qp) (LS : Option Addr) (LT : Nat) (LO : qp) (LU : Option Addr) (LV : Nat) (LP : qp) (LW : Option Addr) (LX : Nat) (LQ : qp) (LY : Option Addr) (LZ : Nat) (LR : qp) (Md : Option Addr) (Me : Nat) (LN : Option Addr) (L0 : Nat) (Mw : xO L9 LK ([.int .i64 LF.Writer_.place_.at_, .slice Ma LF.Writer_.bytes_.length Mb, .slice LS LF.literals_.lengths_.length LT, .slice LU LF.literals_.codes_.length LV, .slice LW LF.distances_.lengths_.length LX, .slice LY LF.distances_.codes_.length LZ]) 49) (Mx : xb 5 (ci .u8) 1 Ma LF.Writer_.bytes_ Mb Mc) (My : xb 3 (ci .i64) 1 LS LF.literals_.lengths_ LT LO) (Mz : xb 3 (ci .i64) 1 LU LF.literals_.codes_ LV LP) (MA : xb 3 (ci .i64) 1 LW LF.distances_.lengths_ LX LQ) (MB : xb 3 (ci .i64) 1 LY LF.distances_.codes_ LZ LR) (Mf : jQ H [] F (ci .i64) Md LG.lengths_) (MM : LG.lengths_.length ≤ Me) (Mg : jQ H [] F (ci .i64) LN LG.codes_) (MN : LG.codes_.length ≤ L0)
    (hS : St w H [L9, Mc, LO, LP, LQ, LR] F) (hm : (zR.m K LF LG LH).wp kr kp)
    (hret : ∀ (L6 : Int) (Mn : Option Addr) (Mp : Nat) (LM : (List Int)) (Mq : qp) (Mr : qp) (w : World), kr (L6, LM) → (xb 5 (ci .u8) 1 Mn LM Mp Mq) → (xO Mr LK ([.int .i64 L6, .slice Mn LM.length Mp, .slice LS LF.literals_.lengths_.length LT, .slice LU LF.literals_.codes_.length LV, .slice LW LF.distances_.lengths_.length LX, .slice LY LF.distances_.codes_.length LZ]) 49) → St w H [Mr, Mq, LO, LP, LQ, LR] F → R (.returned (.tuple ⟨[]⟩)) w) :
    Calls Tryd.prog 41 ⟨[qO LK 0, .agg ⟨[.slice Md LG.lengths_.length Me, .slice LN LG.codes_.length L0]⟩, .int .i64 LH]⟩ w R := by
 refine enter Tryd.func41 rfl Tryd.ntmps41 rfl hS fun a w hS => ?_
 have hM := hm; clear hm
 rw [zR.m] at hM
 refine qr <| bx ([.slice Md LG.lengths_.length Me, .slice LN LG.codes_.length L0]) hS rfl rfl rfl fun w L7 Ms Mh hS => qJ <| qr <| sO hS (xz rfl Tryd.runUnderlying47 rfl Tryd.sizeOf45 rfl) rfl fun hS => sO hS (ye 0 rfl Mh rfl rfl Tryd.isAgg45) rfl fun hS => sM hS rfl fun hS => ?_
 obtain ⟨Mi, hM⟩ := qH hM
 refine sO hS (xZ rfl rfl Tryd.runUnderlying45 Tryd.sizeOf3 Mf.wk (fun _ => rfl) rfl Mi) rfl fun hS => sO hS (yH rfl Mf.wk (fun _ => rfl) Mi rfl Tryd.isAgg3) rfl fun hS => sB hS rfl fun hS => zF (v := Value.int .i64) (x0 := (qh ((rd LG.lengths_ LH) - (1 : Int)))) hS (xB rfl) rfl fun MF a w hz hS => ?_
 have hM := qE hz hM; clear hz
 refine qJ <| xG <| zt (fun Mt a w => ∃ (LL : Int) (L1 : Option Addr) (L3 : Nat) (LI : (List Int)) (L4 : qp) (L5 : qp) (LJ : Int), Ss 30 [] [(0, qO LK 0), (2, .int .i64 LH), (4, qO L7 0), (6, .int .i64 LJ)] H [L5, L4, LO, LP, LQ, LR, Ms] F a w ∧ (xb 5 (ci .u8) 1 L1 LI L3 L4) ∧ (xO L5 LK ([.int .i64 LL, .slice L1 LI.length L3, .slice LS LF.literals_.lengths_.length LT, .slice LU LF.literals_.codes_.length LV, .slice LW LF.distances_.lengths_.length LX, .slice LY LF.distances_.codes_.length LZ]) 49) ∧ (zR.l1 K LF LG LH Mt LL LI LJ).wp kr kp) K ?_ ?_ ?_
 ·exact ⟨LF.Writer_.place_.at_, Ma, Mb, LF.Writer_.bytes_, Mc, L9, MF, hS.to [1, 2, 3, 4, 5, 6, 0] (by kernel_rfl) ⟨rfl, rfl, rfl, rfl, trivial⟩, Mx, Mw, hM⟩
 ·intro a w hI; obtain ⟨_, _, _, _, _, _, _, _, _, _, hM⟩ := hI; exact zm hM
 ·intro Mt a w hI MO MC
  obtain ⟨LL, L1, L3, LI, L4, L5, LJ, hS, Mj, Mk, hM⟩ := hI
  rw [zR.l1] at hM
  refine wp_seq <| qr <| sM hS rfl fun hS => sB hS rfl fun hS => qJ <| qI hS rfl hM (fun MD hM => ?_) (fun MD hM => ?_)
  ·refine wp_skip ?_
   refine qf <| wp_seq <| xG ?_
   obtain ⟨Ml, hM⟩ := qH hM
   obtain ⟨ME, hM⟩ := qH hM
   refine q8 (vals := [some (qO LK 0), some (qO LK 0), some (qO LK 0), some (qO L7 1), some (.slice LN LG.codes_.length L0), some (.int .i64 LH), some (z8 LN (Int.toNat LH * 1)), some (.int .i64 (rd LG.codes_ LH)), some (.int .i64 LJ), some (.int .i64 (xF .i64 (rd LG.codes_ LH) LJ)), some (.int .i64 (xX .i64 (xF .i64 (rd LG.codes_ LH) LJ) (1 : Int))), some (.int .u32 (wr .u32 (xX .i64 (xF .i64 (rd LG.codes_ LH) LJ) (1 : Int)))), none]) hS xw rfl ?_
   intro l w ho hcl hA hst
   refine yV hA hst ho hcl xk xx 12 [0, 1, 2, 3, 4, 5, 6, 7, 8, 9, 10, 11] rfl rfl rfl rfl rfl (by exact ⟨nM rfl, nQ rfl (by exact qV (yv rfl) rfl), nQ rfl (by exact qV (xz rfl Tryd.runUnderlying49 rfl Tryd.sizeOf44 rfl) rfl), nQ rfl (by exact qV (xz rfl Tryd.runUnderlying47 rfl Tryd.sizeOf45 rfl) rfl), nQ rfl (by exact qV (ye 6 rfl Mh rfl rfl Tryd.isAgg45) rfl), nM rfl, nQ rfl (by exact qV (xZ rfl rfl Tryd.runUnderlying45 Tryd.sizeOf3 Mg.wk (fun _ => rfl) rfl Ml) rfl), nQ rfl (by exact qV (yH rfl Mg.wk (fun _ => rfl) Ml rfl Tryd.isAgg3) rfl), nM rfl, nQ rfl (by exact qV (shr rfl rfl ME) rfl), nB rfl, nQ rfl (by exact qV (u2 rfl Tryd.runUnderlying3 Tryd.runUnderlying53) rfl), trivial⟩) fun D l a w ho hcl hav hpre hm hE hk hA hst => ?_
   have hS := (Ss.mk hE hst).env2 (e' := [(19, qO LK 0), (28, .int .u32 (wr .u32 (xX .i64 (xF .i64 (rd LG.codes_ LH) LJ) (1 : Int))))]) ⟨rfl, rfl, trivial⟩
   refine qR rfl <| qN hS rfl Tryd.call23 (zk hG K (qs.mk (qW.mk (qt.mk LL) LI) LF.literals_ LF.distances_) (wr .u32 (xX .i64 (xF .i64 (rd LG.codes_ LH) LJ) (1 : Int))) (1 : Int) LK L5 L1 L3 L4 LS LT LO LU LV LP LW LX LQ LY LZ LR Mk Mj My Mz MA MB (hS.st.part 6 [0, 1, 2, 3, 4, 5, 6] (by kernel_rfl)) (qv hM) (fun MG Mm MH MI L8 Mu Mv w hM MJ MK hst => qG hS.ev hst.appF rfl fun hS => ?_))
   replace hS : Ss _ _ _ H [Mv, Mu, LO, LP, LQ, LR, Ms] F _ _ := hS
   refine qJ ?_
   replace hst := hS.st
   obtain ⟨hcl, hmust, hav2, hA⟩ := dn (vals' := [some (qO LK 0), some (qO LK 0), some (qO LK 0), some (qO L7 1), some (.slice LN LG.codes_.length L0), some (.int .i64 LH), some (z8 LN (Int.toNat LH * 1)), some (.int .i64 (rd LG.codes_ LH)), some (.int .i64 LJ), some (.int .i64 (xF .i64 (rd LG.codes_ LH) LJ)), some (.int .i64 (xX .i64 (xF .i64 (rd LG.codes_ LH) LJ) (1 : Int))), some (.int .u32 (wr .u32 (xX .i64 (xF .i64 (rd LG.codes_ LH) LJ) (1 : Int)))), some (.int .i64 MG)]) 12 [(2, 12), (11, 12), (1, 2), (10, 11), (0, 1), (9, 10), (7, 9), (8, 9), (6, 7), (4, 6), (5, 6), (3, 4)] hA hcl hav hm hpre hk rfl rfl rfl rfl rfl rfl rfl
   clear hm hav
   refine x6 hA hst ho hcl hmust [] rfl rfl rfl trivial fun a w hS => ?_
   replace hS := hS.env2 (e' := [(0, qO LK 0), (2, .int .i64 LH), (4, qO L7 0), (6, .int .i64 LJ)]) ⟨rfl, rfl, rfl, rfl, trivial⟩
   refine zw (qf ?_)
   refine zI <| sM hS rfl fun hS => sB hS rfl fun hS => zF (v := Value.int .i64) (x0 := (qh (LJ - (1 : Int)))) hS (xB rfl) rfl fun ML a w hz hS => ?_
   have hM := qE hz hM; clear hz
   refine zg <| qf ?_
   exact MC _ _ ⟨Mm, MH, MI, L8, Mu, Mv, ML, hS.to [0, 1, 2, 3, 4, 5, 6] (by kernel_rfl) ⟨rfl, rfl, rfl, rfl, trivial⟩, MJ, MK, hM⟩
  ·refine wp_exit ?_
   refine qC (qC (q9 ?_))
   exact yT (rs := []) hS rfl rfl (hret LL L1 L3 LI L4 L5 _ (zn hM) Mj Mk (hS.st.pick [0, 1, 2, 3, 4, 5] (by kernel_rfl)))
theorem ua {H : xT} {F : List qp} {w : World} {R : Ending → World → Prop} {kr : ((List UInt8) × Int) → Prop} {kp : Value → Prop} (hG : Gl H) (K : Nat) (LH : List qB) (L0 : Option Addr) (L1 : Nat) (M6 : jQ H [] F qB.cells L0 LH) (Pd : LH.length ≤ L1)
    (hS : St w H [] F) (hm : (qk.m K LH).wp kr kp)
    (hret : ∀ (PV : List UInt8) (PW : Int) (w : World), kr (PV, PW) → St w H [] F → R (.returned (.tuple ⟨[xS PV, .int .i64 PW]⟩)) w)
    (hpan : ∀ v w, kp v → St w H [] F → R (.panicked [⟨v, false, false⟩]) w) :
    Calls Tryd.prog 14 ⟨[.slice L0 LH.length L1]⟩ w R := by
 refine enter Tryd.func14 rfl Tryd.ntmps14 rfl hS fun a w hS => ?_
 have hM := hm; clear hm
 rw [qk.m] at hM
 refine qr <| sA hS rfl fun hS => sA hS rfl fun hS => qJ <| wp_seq <| qr <| sM hS rfl fun hS => qN hS rfl Tryd.call21 (Qb hG K LH L0 L1 (M6.app _) Pd (hS.st.part 0 [] (by kernel_rfl)) (qv hM) (fun Wd w hM  hst => qG hS.ev hst.appF rfl fun hS => ?_))
 replace hS : Ss _ _ _ H [] F _ _ := hS
 refine sO hS (un rfl rfl) rfl fun hS => qJ <| qI hS rfl hM (fun Sn hM => ?_) (fun Sn hM => ?_)
 ·refine wp_seq ?_
  refine zI <| sA hS rfl fun hS => sA hS rfl fun hS => qJ <| wp_ret <| zE ?_
  exact zX (rs := [2, 3]) hS rfl rfl (hret ([] : List UInt8) (1 : Int) _ (zn hM) (hS.st.pick [] (by kernel_rfl)))
 ·refine wp_skip ?_
  refine qf <| zc (fun a w => ∃ (LY : Option Addr) (LZ : Nat) (LU : (List Int)) (Pe : qp) (Mc : Option Addr) (Md : Nat) (L9 : (List Int)) (NG : qp), Ss 196 [] [(0, .slice L0 LH.length L1), (4, .slice LY LU.length LZ), (5, .slice Mc L9.length Md)] H [Pe, NG] F a w ∧ (xb 3 (ci .i64) 1 LY LU LZ Pe) ∧ (xb 3 (ci .i64) 1 Mc L9 Md NG) ∧ (qk.j1 K LH LU L9).wp kr kp) (fun We Pf => ?_) ?_
  ·refine q8 (vals := [none, none, none, none]) hS xw rfl ?_
   intro l w ho hcl hA hst
   obtain ⟨Pg, hM⟩ := qH hM
   obtain ⟨Mp, Nx⟩ := js (List.replicate (Int.toNat (286 : Int)) (0 : Int))
   replace hM := qE Nx hM
   obtain ⟨Ph, hM⟩ := qH hM
   obtain ⟨Mu, Ny⟩ := js (List.replicate (Int.toNat (30 : Int)) (0 : Int))
   replace hM := qE Ny hM
   refine DH (vals := [none, none, none, none]) 0 1 [] [] rfl rfl rfl rfl rfl trivial (fun D l a w ho hcl hav hpre hm hE hk hA hst => ?_) (fun D l a w ho hcl hav hpre hm hE hk hA hst => ?_) ho hcl xk xx List.not_mem_nil List.not_mem_nil hA hst
   ·have hS := (Ss.mk hE hst).env2 (e' := []) trivial
    refine qR rfl <| Bq (g := (ci .i64)) (m := (286 : Int)) (0 : Int) hS rfl rfl (by simp) Tryd.runUnderlying45 X.el3 (fun w => ⟨_, Tryd.zeroValue3 w, rfl⟩) (fun _ => rfl) rfl rfl Pg rfl fun T6 w MW MX Tg hz So hS => ?_
    rw [← Nx] at hz; replace hz := hz.symm; subst hz
    refine qJ ?_
    replace hst := hS.st
    obtain ⟨hcl, hmust, hav2, hA⟩ := dn (vals' := [some (.slice MW Mp.length MX), none, some (.slice MW Mp.length MX), none]) 0 [] hA hcl hav hm hpre hk rfl rfl rfl rfl rfl rfl rfl
    clear hm hav
    refine yV hA hst ho hcl hav2 hmust 1 [2] rfl rfl rfl rfl rfl (by exact ⟨nA rfl, trivial⟩) fun D l a w ho hcl hav hpre hm hE hk hA hst => ?_
    have hS := (Ss.mk hE hst).env2 (e' := []) trivial
    refine qR rfl <| Bq (g := (ci .i64)) (m := (30 : Int)) (0 : Int) hS rfl rfl (by simp) Tryd.runUnderlying45 X.el3 (fun w => ⟨_, Tryd.zeroValue3 w, rfl⟩) (fun _ => rfl) rfl rfl Ph rfl fun T7 w NH NI Th hz Sp hS => ?_
    rw [← Ny] at hz; replace hz := hz.symm; subst hz
    refine qJ ?_
    replace hst := hS.st
    obtain ⟨hcl, hmust, hav2, hA⟩ := dn (vals' := [some (.slice MW Mp.length MX), some (.slice NH Mu.length NI), some (.slice MW Mp.length MX), some (.slice NH Mu.length NI)]) 1 [] hA hcl hav hm hpre hk rfl rfl rfl rfl rfl rfl rfl
    clear hm hav
    refine x6 hA hst ho hcl hmust [2, 3] rfl rfl rfl (by exact ⟨nA rfl, nA rfl, trivial⟩) fun a w hS => ?_
    replace hS := hS.env2 (e' := [(0, .slice L0 LH.length L1), (4, .slice MW Mp.length MX), (5, .slice NH Mu.length NI)]) ⟨rfl, rfl, rfl, trivial⟩
    refine qf ?_
    exact Pf _ _ ⟨MW, MX, Mp, Tg, NH, NI, Mu, Th, hS.to [1, 0] (by kernel_rfl) ⟨rfl, rfl, rfl, trivial⟩, So, Sp, hM⟩
   ·have hS := (Ss.mk hE hst).env2 (e' := []) trivial
    refine qR rfl <| Bq (g := (ci .i64)) (m := (30 : Int)) (0 : Int) hS rfl rfl (by simp) Tryd.runUnderlying45 X.el3 (fun w => ⟨_, Tryd.zeroValue3 w, rfl⟩) (fun _ => rfl) rfl rfl Ph rfl fun T8 w Ni Nj Ti hz Sq hS => ?_
    rw [← Ny] at hz; replace hz := hz.symm; subst hz
    refine qJ ?_
    replace hst := hS.st
    obtain ⟨hcl, hmust, hav2, hA⟩ := dn (vals' := [none, some (.slice Ni Mu.length Nj), none, none]) 1 [] hA hcl hav hm hpre hk rfl rfl rfl rfl rfl rfl rfl
    clear hm hav
    refine yV hA hst ho hcl hav2 hmust 0 [] rfl rfl rfl rfl rfl trivial fun D l a w ho hcl hav hpre hm hE hk hA hst => ?_
    have hS := (Ss.mk hE hst).env2 (e' := []) trivial
    refine qR rfl <| Bq (g := (ci .i64)) (m := (286 : Int)) (0 : Int) hS rfl rfl (by simp) Tryd.runUnderlying45 X.el3 (fun w => ⟨_, Tryd.zeroValue3 w, rfl⟩) (fun _ => rfl) rfl rfl Pg rfl fun T9 w NJ NK Tj hz Sr hS => ?_
    rw [← Nx] at hz; replace hz := hz.symm; subst hz
    refine qJ ?_
    replace hst := hS.st
    obtain ⟨hcl, hmust, hav2, hA⟩ := dn (vals' := [some (.slice NJ Mp.length NK), some (.slice Ni Mu.length Nj), some (.slice NJ Mp.length NK), some (.slice Ni Mu.length Nj)]) 0 [] hA hcl hav hm hpre hk rfl rfl rfl rfl rfl rfl rfl
    clear hm hav
    refine x6 hA hst ho hcl hmust [2, 3] rfl rfl rfl (by exact ⟨nA rfl, nA rfl, trivial⟩) fun a w hS => ?_
    replace hS := hS.env2 (e' := [(0, .slice L0 LH.length L1), (4, .slice NJ Mp.length NK), (5, .slice Ni Mu.length Nj)]) ⟨rfl, rfl, rfl, trivial⟩
    refine qf ?_
    exact Pf _ _ ⟨NJ, NK, Mp, Tj, Ni, Nj, Mu, Ti, hS.to [0, 1] (by kernel_rfl) ⟨rfl, rfl, rfl, trivial⟩, Sr, Sq, hM⟩
  ·intro a w hI
   obtain ⟨LY, LZ, LU, Pe, Mc, Md, L9, NG, hS, M7, Su, hM⟩ := hI
   rw [qk.j1] at hM
   refine qr <| sM hS rfl fun hS => ?_
   obtain ⟨M8, hM⟩ := qH hM
   refine sO hS (xZ rfl rfl Tryd.runUnderlying45 Tryd.sizeOf3 (M7.rd (i := 0) rfl) (fun _ => rfl) rfl M8) rfl fun hS => sO hS (yH rfl (M7.rd (i := 0) rfl) (fun _ => rfl) M8 rfl Tryd.isAgg3) rfl fun hS => sB hS rfl fun hS => sO hS (xZ rfl rfl Tryd.runUnderlying45 Tryd.sizeOf3 (M7.rd (i := 0) rfl) (fun _ => rfl) rfl M8) rfl fun hS => JB (i := (256 : Int)) (sz := 1) 0 0 ((qh ((rd LU (256 : Int)) + (1 : Int)))) hS rfl rfl M7 rfl Tryd.sizeOf3 (xH (qh ((rd LU (256 : Int)) + (1 : Int)))) (fun _ => rfl) M8 rfl rfl fun Nz w Tk hz Pi Sv hS => ?_
   have hM := qE hz hM; clear hz
   replace hS := hS.re 4 (u := .slice LY LU.length LZ) (v := .slice LY Nz.length LZ) rfl (by rw [Pi])
   replace hS := hS.re 28 (u := .slice LY LU.length LZ) (v := .slice LY Nz.length LZ) rfl (by rw [Pi])
   refine qJ <| zc (fun a w => ∃ (LX : (List Int)) (NL : qp) (LV : (List Int)) (MY : qp), Ss 196 [] [(0, .slice L0 LH.length L1), (4, .slice LY LX.length LZ), (5, .slice Mc LV.length Md)] H [NL, MY] F a w ∧ (xb 3 (ci .i64) 1 LY LX LZ NL) ∧ (xb 3 (ci .i64) 1 Mc LV Md MY) ∧ (qk.j3 K LH LX LV).wp kr kp) (fun Wf Sw => ?_) ?_
   ·refine wp_seq ?_
    refine zI <| sM hS rfl fun hS => sO hS (ym rfl Tryd.runUnderlying25) rfl fun hS => sM hS rfl fun hS => qJ <| xG <| zt (fun PX a w => ∃ (LL : (List Int)) (Nk : qp) (LN : (List Int)) (MR : qp) (Me : Int), Ss 196 [] [(0, .slice L0 LH.length L1), (4, .slice LY LL.length LZ), (5, .slice Mc LN.length Md), (33, .slice L0 LH.length L1), (34, .int .i64 (LH.length : Int)), (35, .int .i64 Me)] H [Nk, MR] F a w ∧ (xb 3 (ci .i64) 1 LY LL LZ Nk) ∧ (xb 3 (ci .i64) 1 Mc LN Md MR) ∧ (qk.l2 K LH PX LL LN Me).wp kr kp) K ?_ ?_ ?_
    ·exact ⟨Nz, Tk, L9, NG, (0 : Int), hS.to [0, 1] (by kernel_rfl) ⟨rfl, rfl, rfl, rfl, rfl, rfl, trivial⟩, Sv, Su, hM⟩
    ·intro a w hI; obtain ⟨_, _, _, _, _, _, _, _, hM⟩ := hI; exact zm hM
    ·intro PX a w hI Wg Pj
     obtain ⟨LL, Nk, LN, MR, Me, hS, Mv, MN, hM⟩ := hI
     rw [qk.l2] at hM
     refine qr <| sB hS rfl fun hS => qJ <| wp_seq <| qI hS rfl hM (fun Sx hM => ?_) (fun Sx hM => ?_)
     ·refine wp_skip ?_
      refine qf <| wp_seq <| xG <| wp_seq <| zI ?_
      obtain ⟨Pk, hM⟩ := qH hM
      refine sO hS (xZ rfl rfl Tryd.runUnderlying25 Tryd.sizeOf32 M6.wk (fun _ => rfl) rfl Pk) rfl fun hS => sO hS (y4 rfl M6.wk (fun _ => rfl) Pk Tryd.isAgg32 Tryd.sizeOf32 rfl) rfl fun hS => QP ([.int .u8 (0 : Int), .int .i64 (0 : Int), .int .i64 (0 : Int)]) hS Tryd.zeroValue32 rfl rfl fun w Wh Wi Sy hS => Zo 0 ([.int .u8 ((rd LH Me).Lit_), .int .i64 ((rd LH Me).Len_), .int .i64 ((rd LH Me).Dist_)]) ([.int .u8 ((rd LH Me).Lit_), .int .i64 ((rd LH Me).Len_), .int .i64 ((rd LH Me).Dist_)]) hS rfl rfl Sy rfl rfl Tryd.sizeOf32 (by simp [Value.oneCell']) (Nat.le_of_ble_eq_true rfl) rfl fun w PY M9 hS => qJ <| qr <| sO hS (xz rfl Tryd.runUnderlying32 rfl Tryd.sizeOf3 rfl) rfl fun hS => sO hS (ye 0 rfl M9 rfl rfl Tryd.isAgg3) rfl fun hS => sB hS rfl fun hS => qJ <| qI hS rfl hM (fun Sz hM => ?_) (fun Sz hM => ?_)
      ·refine zI ?_
       refine sM hS rfl fun hS => sO hS (xz rfl Tryd.runUnderlying32 rfl Tryd.sizeOf5 rfl) rfl fun hS => sO hS (ye 0 rfl M9 rfl rfl Tryd.isAgg5) rfl fun hS => ?_
       obtain ⟨Na, hM⟩ := qH hM
       refine sO hS (xZ rfl rfl Tryd.runUnderlying45 Tryd.sizeOf3 (Mv.rd (i := 1) rfl) (fun _ => rfl) rfl Na) rfl fun hS => sO hS (yH rfl (Mv.rd (i := 1) rfl) (fun _ => rfl) Na rfl Tryd.isAgg3) rfl fun hS => sB hS rfl fun hS => sO hS (xZ rfl rfl Tryd.runUnderlying45 Tryd.sizeOf3 (Mv.rd (i := 1) rfl) (fun _ => rfl) rfl Na) rfl fun hS => JB (i := (rd LH Me).Lit_) (sz := 1) 1 0 ((qh ((rd LL (rd LH Me).Lit_) + (1 : Int)))) hS rfl rfl Mv rfl Tryd.sizeOf3 (xH (qh ((rd LL (rd LH Me).Lit_) + (1 : Int)))) (fun _ => rfl) Na rfl rfl fun NA w Tl hz Pm SA hS => ?_
       have hM := qE hz hM; clear hz
       replace hS := hS.re 4 (u := .slice LY LL.length LZ) (v := .slice LY NA.length LZ) rfl (by rw [Pm])
       replace hS := hS.re 42 (u := .slice LY LL.length LZ) (v := .slice LY NA.length LZ) rfl (by rw [Pm])
       refine zg <| zw (qf ?_)
       refine zI <| sB hS rfl fun hS => sM hS rfl fun hS => zg <| qf ?_
       exact Pj _ _ ⟨NA, Tl, LN, MR, (qh (Me + (1 : Int))), hS.to [1, 2] (by kernel_rfl) ⟨rfl, rfl, rfl, rfl, rfl, rfl, trivial⟩, SA, MN, hM⟩
      ·refine wp_seq ?_
       refine zI <| sM hS rfl fun hS => sO hS (xz rfl Tryd.runUnderlying32 rfl Tryd.sizeOf3 rfl) rfl fun hS => sO hS (ye 0 rfl M9 rfl rfl Tryd.isAgg3) rfl fun hS => qN hS rfl Tryd.call35 (ut hG K ((rd LH Me).Len_) (hS.st.part 0 [0, 1, 2] (by kernel_rfl)) (qv hM) (fun MD Tm Tn w hM  hst => qG hS.ev hst.appF rfl fun hS => ?_))
       replace hS : Ss _ _ _ H [PY, Nk, MR] F _ _ := hS
       refine sO hS (GF rfl Tryd.runUnderlying68 rfl Tryd.isAgg3 rfl) rfl fun hS => ?_
       obtain ⟨Nb, hM⟩ := qH hM
       refine sO hS (xZ rfl rfl Tryd.runUnderlying45 Tryd.sizeOf3 (Mv.rd (i := 1) rfl) (fun _ => rfl) rfl Nb) rfl fun hS => sO hS (yH rfl (Mv.rd (i := 1) rfl) (fun _ => rfl) Nb rfl Tryd.isAgg3) rfl fun hS => sB hS rfl fun hS => sO hS (xZ rfl rfl Tryd.runUnderlying45 Tryd.sizeOf3 (Mv.rd (i := 1) rfl) (fun _ => rfl) rfl Nb) rfl fun hS => JB (i := MD) (sz := 1) 1 0 ((qh ((rd LL MD) + (1 : Int)))) hS rfl rfl Mv rfl Tryd.sizeOf3 (xH (qh ((rd LL MD) + (1 : Int)))) (fun _ => rfl) Nb rfl rfl fun NB w PZ hz Pn SB hS => ?_
       have hM := qE hz hM; clear hz
       replace hS := hS.re 4 (u := .slice LY LL.length LZ) (v := .slice LY NB.length LZ) rfl (by rw [Pn])
       replace hS := hS.re 49 (u := .slice LY LL.length LZ) (v := .slice LY NB.length LZ) rfl (by rw [Pn])
       refine qJ <| zI <| sM hS rfl fun hS => sO hS (xz rfl Tryd.runUnderlying32 rfl Tryd.sizeOf3 rfl) rfl fun hS => sO hS (ye 0 rfl M9 rfl rfl Tryd.isAgg3) rfl fun hS => qN hS rfl Tryd.call36 (vQ hG K ((rd LH Me).Dist_) (hS.st.part 0 [0, 1, 2] (by kernel_rfl)) (qv hM) (fun ME To Tp w hM  hst => qG hS.ev hst.appF rfl fun hS => ?_))
       replace hS : Ss _ _ _ H [PY, PZ, MR] F _ _ := hS
       refine sO hS (GF rfl Tryd.runUnderlying68 rfl Tryd.isAgg3 rfl) rfl fun hS => ?_
       obtain ⟨Nc, hM⟩ := qH hM
       refine sO hS (xZ rfl rfl Tryd.runUnderlying45 Tryd.sizeOf3 (MN.rd (i := 2) rfl) (fun _ => rfl) rfl Nc) rfl fun hS => sO hS (yH rfl (MN.rd (i := 2) rfl) (fun _ => rfl) Nc rfl Tryd.isAgg3) rfl fun hS => sB hS rfl fun hS => sO hS (xZ rfl rfl Tryd.runUnderlying45 Tryd.sizeOf3 (MN.rd (i := 2) rfl) (fun _ => rfl) rfl Nc) rfl fun hS => JB (i := ME) (sz := 1) 2 0 ((qh ((rd LN ME) + (1 : Int)))) hS rfl rfl MN rfl Tryd.sizeOf3 (xH (qh ((rd LN ME) + (1 : Int)))) (fun _ => rfl) Nc rfl rfl fun NC w Tq hz Po SC hS => ?_
       have hM := qE hz hM; clear hz
       replace hS := hS.re 5 (u := .slice Mc LN.length Md) (v := .slice Mc NC.length Md) rfl (by rw [Po])
       replace hS := hS.re 58 (u := .slice Mc LN.length Md) (v := .slice Mc NC.length Md) rfl (by rw [Po])
       refine zg <| zw (qf ?_)
       refine zI <| sB hS rfl fun hS => sM hS rfl fun hS => zg <| qf ?_
       exact Pj _ _ ⟨NB, PZ, NC, Tq, (qh (Me + (1 : Int))), hS.to [1, 2] (by kernel_rfl) ⟨rfl, rfl, rfl, rfl, rfl, rfl, trivial⟩, SB, SC, hM⟩
     ·refine wp_exit ?_
      refine qC (qC (q9 (qf ?_)))
      exact Sw _ _ ⟨LL, Nk, LN, MR, hS.to [0, 1] (by kernel_rfl) ⟨rfl, rfl, rfl, trivial⟩, Mv, MN, hM⟩
   ·intro a w hI
    obtain ⟨LX, NL, LV, MY, hS, SD, SE, hM⟩ := hI
    rw [qk.j3] at hM
    refine qr <| sM hS rfl fun hS => qN hS rfl Tryd.call38 (vJ hG K LX LY LZ NL SD (hS.st.part 1 [0, 1] (by kernel_rfl)) (qv hM) (fun L4 L5 LQ LO MZ Nl w hM Mx Wj P0 hst => qG hS.ev hst.appF rfl fun hS => ?_) (fun v w hk hst => xm (qD (⟨hS.ev.defs, hpan _ _ hk hst.appF.frame⟩))))
    replace hS : Ss _ _ _ H [LO, Nl, MY] F _ _ := hS
    replace hS := hS.re 4 (u := .slice LY LX.length LZ) (v := .slice LY MZ.length LZ) rfl (by rw [P0])
    replace hS := hS.re 68 (u := .slice LY LX.length LZ) (v := .slice LY MZ.length LZ) rfl (by rw [P0])
    refine qN hS rfl Tryd.call37 (y3 hG K LQ L4 L5 (Mx.rdF (i := 0) rfl) (Mx.cap (fun _ => rfl) rfl) (hS.st.part 0 [0, 1, 2] (by kernel_rfl)) (qv hM) (fun Mi Mj LI LP w hM MF hst => qG hS.ev hst.appF rfl fun hS => ?_))
    replace hS : Ss _ _ _ H [LP, LO, Nl, MY] F _ _ := hS
    refine sM hS rfl fun hS => qN hS rfl Tryd.call38 (vJ hG K LV Mc Md MY SE (hS.st.part 1 [3, 0, 1, 2] (by kernel_rfl)) (qv hM) (fun L6 L7 LR LS M0 Pp w hM My Wk P1 hst => qG hS.ev hst.appF rfl fun hS => ?_) (fun v w hk hst => xm (qD (⟨hS.ev.defs, hpan _ _ hk hst.appF.frame⟩))))
    replace hS : Ss _ _ _ H [LS, Pp, LP, LO, Nl] F _ _ := hS
    replace hS := hS.re 5 (u := .slice Mc LV.length Md) (v := .slice Mc M0.length Md) rfl (by rw [P1])
    replace hS := hS.re 71 (u := .slice Mc LV.length Md) (v := .slice Mc M0.length Md) rfl (by rw [P1])
    refine qN hS rfl Tryd.call37 (y3 hG K LR L6 L7 (My.rdF (i := 0) rfl) (My.cap (fun _ => rfl) rfl) (hS.st.part 0 [0, 1, 2, 3, 4] (by kernel_rfl)) (qv hM) (fun Mk Ml LJ LT w hM MG hst => qG hS.ev hst.appF rfl fun hS => ?_))
    replace hS : Ss _ _ _ H [LT, LS, Pp, LP, LO, Nl] F _ _ := hS
    refine sO hS (X4 ([.int .i64 (0 : Int), .slice none 0 0, .slice L4 LQ.length L5, .slice Mi LI.length Mj, .slice L6 LR.length L7, .slice Mk LJ.length Ml]) [(0, 2), (2, 2), (4, 2)] Tryd.zeroValue49 Tryd.runUnderlying49 (by intro w; simp [Tryd.sizeOf44, Tryd.sizeOf47]) rfl rfl) rfl fun hS => bx ([.int .i64 (0 : Int), .slice none 0 0, .slice L4 LQ.length L5, .slice Mi LI.length Mj, .slice L6 LR.length L7, .slice Mk LJ.length Ml]) hS rfl rfl rfl fun w LG MH MO hS => ?_
    obtain ⟨MI, SG, hS⟩ := hS.nilV 5 (ci .u8) 1
    refine sA hS rfl fun hS => qJ <| wp_seq <| q8 (vals := [none, some (qO LG 0), some (qO LG 0), some (qO LG 2), some (qO LG 2), some (.slice L4 LQ.length L5), none, some (qO LG 0), some (qO LG 0), some (qO LG 4), some (qO LG 4), some (.slice L6 LR.length L7), none, none, none]) hS xw rfl ?_
    intro l w ho hcl hA hst
    refine yV hA hst ho hcl xk xx 0 [1, 2, 3, 4, 5, 7, 8, 9, 10, 11] rfl rfl rfl rfl rfl (by exact ⟨nM rfl, nQ rfl (by exact qV (yv rfl) rfl), nQ rfl (by exact qV (xz rfl Tryd.runUnderlying49 rfl Tryd.sizeOf47 rfl) rfl), nQ rfl (by exact qV (xz rfl Tryd.runUnderlying47 rfl Tryd.sizeOf45 rfl) rfl), nQ rfl (by exact qV (ye 1 rfl MO rfl rfl Tryd.isAgg45) rfl), nM rfl, nQ rfl (by exact qV (yv rfl) rfl), nQ rfl (by exact qV (xz rfl Tryd.runUnderlying49 rfl Tryd.sizeOf47 rfl) rfl), nQ rfl (by exact qV (xz rfl Tryd.runUnderlying47 rfl Tryd.sizeOf45 rfl) rfl), nQ rfl (by exact qV (ye 1 rfl MO rfl rfl Tryd.isAgg45) rfl), trivial⟩) fun D l a w ho hcl hav hpre hm hE hk hA hst => ?_
    have hS := (Ss.mk hE hst).env2 (e' := []) trivial
    refine qR rfl <| Yx (g := (ci .i64)) ([] : List Int) [] hS Tryd.runUnderlying45 Tryd.sizeOf3 X.el3 rfl rfl rfl (by simp [Value.cells]) rfl rfl rfl rfl rfl fun w Nm Nn Wl SH hS => qJ ?_
    replace hst := hS.st
    obtain ⟨hcl, hmust, hav2, hA⟩ := dn (vals' := [some (.slice Nm ([] : List Int).length Nn), some (qO LG 0), some (qO LG 0), some (qO LG 2), some (qO LG 2), some (.slice L4 LQ.length L5), none, some (qO LG 0), some (qO LG 0), some (qO LG 4), some (qO LG 4), some (.slice L6 LR.length L7), none, none, none]) 0 [] hA hcl hav hm hpre hk rfl rfl rfl rfl rfl rfl rfl
    clear hm hav
    refine yV hA hst ho hcl hav2 hmust 6 [1, 2, 3, 4, 5, 7, 8, 9, 10, 11] rfl rfl rfl rfl rfl (by exact ⟨nM rfl, nQ rfl (by exact qV (yv rfl) rfl), nQ rfl (by exact qV (xz rfl Tryd.runUnderlying49 rfl Tryd.sizeOf47 rfl) rfl), nQ rfl (by exact qV (xz rfl Tryd.runUnderlying47 rfl Tryd.sizeOf45 rfl) rfl), nQ rfl (by exact qV (ye 2 rfl MO rfl rfl Tryd.isAgg45) rfl), nM rfl, nQ rfl (by exact qV (yv rfl) rfl), nQ rfl (by exact qV (xz rfl Tryd.runUnderlying49 rfl Tryd.sizeOf47 rfl) rfl), nQ rfl (by exact qV (xz rfl Tryd.runUnderlying47 rfl Tryd.sizeOf45 rfl) rfl), nQ rfl (by exact qV (ye 2 rfl MO rfl rfl Tryd.isAgg45) rfl), trivial⟩) fun D l a w ho hcl hav hpre hm hE hk hA hst => ?_
    have hS := (Ss.mk hE hst).env2 (e' := [(76, .slice Nm ([] : List Int).length Nn), (81, .slice L4 LQ.length L5)]) ⟨rfl, rfl, trivial⟩
    refine qR rfl ?_
    obtain ⟨SI, hM⟩ := qH hM
    refine Jm (ys := LQ) 0 hS rfl rfl SH rfl (Mx.rd (i := 7) rfl) Tryd.runUnderlying45 Tryd.runUnderlying45 X.el3 (fun _ => rfl) rfl xH SI rfl fun Nd w NM NN Wm hz SJ hS => ?_
    have hM := qE hz hM; clear hz
    refine qJ ?_
    replace hst := hS.st
    obtain ⟨hcl, hmust, hav2, hA⟩ := dn (vals' := [some (.slice Nm ([] : List Int).length Nn), some (qO LG 0), some (qO LG 0), some (qO LG 2), some (qO LG 2), some (.slice L4 LQ.length L5), some (.slice NM Nd.length NN), some (qO LG 0), some (qO LG 0), some (qO LG 4), some (qO LG 4), some (.slice L6 LR.length L7), none, none, none]) 6 [(0, 6), (5, 6), (4, 5), (3, 4), (2, 3), (1, 2)] hA hcl hav hm hpre hk rfl rfl rfl rfl rfl rfl rfl
    clear hm hav
    refine yV hA hst ho hcl hav2 hmust 12 [7, 8, 9, 10, 11] rfl rfl rfl rfl rfl (by exact ⟨nM rfl, nQ rfl (by exact qV (yv rfl) rfl), nQ rfl (by exact qV (xz rfl Tryd.runUnderlying49 rfl Tryd.sizeOf47 rfl) rfl), nQ rfl (by exact qV (xz rfl Tryd.runUnderlying47 rfl Tryd.sizeOf45 rfl) rfl), nQ rfl (by exact qV (ye 2 rfl MO rfl rfl Tryd.isAgg45) rfl), trivial⟩) fun D l a w ho hcl hav hpre hm hE hk hA hst => ?_
    have hS := (Ss.mk hE hst).env2 (e' := [(82, .slice NM Nd.length NN), (87, .slice L6 LR.length L7)]) ⟨rfl, rfl, trivial⟩
    refine qR rfl ?_
    obtain ⟨SK, hM⟩ := qH hM
    refine Jm (ys := LR) 0 hS rfl rfl SJ rfl (My.rd (i := 4) rfl) Tryd.runUnderlying45 Tryd.runUnderlying45 X.el3 (fun _ => rfl) rfl xH SK rfl fun Nf w NO NP Tr hz Pq hS => ?_
    have hM := qE hz hM; clear hz
    refine qJ ?_
    replace hst := hS.st
    obtain ⟨hcl, hmust, hav2, hA⟩ := dn (vals' := [some (.slice Nm ([] : List Int).length Nn), some (qO LG 0), some (qO LG 0), some (qO LG 2), some (qO LG 2), some (.slice L4 LQ.length L5), some (.slice NM Nd.length NN), some (qO LG 0), some (qO LG 0), some (qO LG 4), some (qO LG 4), some (.slice L6 LR.length L7), some (.slice NO Nf.length NP), none, none]) 12 [(6, 12), (11, 12), (0, 6), (5, 6), (10, 11), (4, 5), (9, 10), (3, 4), (8, 9), (2, 3), (7, 8), (1, 2)] hA hcl hav hm hpre hk rfl rfl rfl rfl rfl rfl rfl
    clear hm hav
    refine yV hA hst ho hcl hav2 hmust 13 [] rfl rfl rfl rfl rfl trivial fun D l a w ho hcl hav hpre hm hE hk hA hst => ?_
    have hS := (Ss.mk hE hst).env2 (e' := [(88, .slice NO Nf.length NP)]) ⟨rfl, trivial⟩
    refine qR rfl <| qN hS rfl Tryd.call39 (ZJ hG K Nf NO NP (Pq.rdF (i := 0) rfl) (Pq.cap (fun _ => rfl) rfl) (hS.st.part 0 [0, 1, 2, 3, 4, 5, 6, 7, 8] (by kernel_rfl)) (qv hM) (fun Mm Mn LK Ma w hM NQ hst => qG hS.ev hst.appF rfl fun hS => ?_))
    replace hS : Ss _ _ _ H [Ma, Tr, MI, MH, LT, LS, Pp, LP, LO, Nl] F _ _ := hS
    refine qJ ?_
    replace hst := hS.st
    obtain ⟨hcl, hmust, hav2, hA⟩ := dn (vals' := [some (.slice Nm ([] : List Int).length Nn), some (qO LG 0), some (qO LG 0), some (qO LG 2), some (qO LG 2), some (.slice L4 LQ.length L5), some (.slice NM Nd.length NN), some (qO LG 0), some (qO LG 0), some (qO LG 4), some (qO LG 4), some (.slice L6 LR.length L7), some (.slice NO Nf.length NP), some (.slice Mm LK.length Mn), some (.slice Mm LK.length Mn)]) 13 [(12, 13), (6, 12), (11, 12), (0, 6), (5, 6), (10, 11), (4, 5), (9, 10), (3, 4), (8, 9), (2, 3), (7, 8), (1, 2)] hA hcl hav hm hpre hk rfl rfl rfl rfl rfl rfl rfl
    clear hm hav
    refine x6 hA hst ho hcl hmust [14] rfl rfl rfl (by exact ⟨nA rfl, trivial⟩) fun a w hS => ?_
    replace hS := hS.env2 (e' := [(0, .slice L0 LH.length L1), (8, qO LG 0), (9, .slice Mm LK.length Mn)]) ⟨rfl, rfl, rfl, trivial⟩
    refine qf <| wp_seq <| zI ?_
    obtain ⟨SL, hM⟩ := qH hM
    refine Bq (g := (ci .i64)) (m := (19 : Int)) (0 : Int) hS rfl rfl (by simp) Tryd.runUnderlying45 X.el3 (fun w => ⟨_, Tryd.zeroValue3 w, rfl⟩) (fun _ => rfl) rfl rfl SL rfl fun SM w LM LW Ts hz SN hS => ?_
    have hM := qE hz hM; clear hz
    refine sA hS rfl fun hS => qJ <| zc (fun a w => ∃ (LF : (List Int)) (M3 : qp), Ss 196 [] [(0, .slice L0 LH.length L1), (8, qO LG 0), (9, .slice Mm LK.length Mn), (10, .slice LM LF.length LW)] H [MH, MI, LO, LP, LS, LT, Ma, M3] F a w ∧ (xb 3 (ci .i64) 1 LM LF LW M3) ∧ (qk.j5 K LH LQ LI LR LJ LK LF).wp kr kp) (fun Wn SO => ?_) ?_
    ·refine wp_seq ?_
     refine zI <| sM hS rfl fun hS => sO hS (ym rfl Tryd.runUnderlying72) rfl fun hS => sM hS rfl fun hS => qJ <| xG <| zt (fun P2 a w => ∃ (L3 : (List Int)) (NR : qp) (Mq : Int), Ss 196 [] [(0, .slice L0 LH.length L1), (8, qO LG 0), (9, .slice Mm LK.length Mn), (10, .slice LM L3.length LW), (91, .slice Mm LK.length Mn), (92, .int .i64 (LK.length : Int)), (93, .int .i64 Mq)] H [MH, MI, LO, LP, LS, LT, Ma, NR] F a w ∧ (xb 3 (ci .i64) 1 LM L3 LW NR) ∧ (qk.l4 K LH LQ LI LR LJ LK P2 L3 Mq).wp kr kp) K ?_ ?_ ?_
     ·exact ⟨SM, Ts, (0 : Int), hS.to [4, 3, 9, 8, 6, 5, 1, 0] (by kernel_rfl) ⟨rfl, rfl, rfl, rfl, rfl, rfl, rfl, trivial⟩, SN, hM⟩
     ·intro a w hI; obtain ⟨_, _, _, _, _, hM⟩ := hI; exact zm hM
     ·intro P2 a w hI Wo SP
      obtain ⟨L3, NR, Mq, hS, MS, hM⟩ := hI
      rw [qk.l4] at hM
      refine qr <| sB hS rfl fun hS => qJ <| wp_seq <| qI hS rfl hM (fun SQ hM => ?_) (fun SQ hM => ?_)
      ·refine wp_skip ?_
       refine qf <| wp_seq <| xG <| wp_seq <| zI ?_
       obtain ⟨Pr, hM⟩ := qH hM
       refine sO hS (xZ rfl rfl Tryd.runUnderlying72 Tryd.sizeOf75 (NQ.rd (i := 6) rfl) (fun _ => rfl) rfl Pr) rfl fun hS => sO hS (y4 rfl (NQ.rd (i := 6) rfl) (fun _ => rfl) Pr Tryd.isAgg75 Tryd.sizeOf75 rfl) rfl fun hS => QP ([.int .i64 (0 : Int), .int .i64 (0 : Int), .int .i64 (0 : Int)]) hS Tryd.zeroValue75 rfl rfl fun w Wp Wq SR hS => Zo 0 ([.int .i64 ((rd LK Mq).symbol_), .int .i64 ((rd LK Mq).more_), .int .i64 ((rd LK Mq).bits_)]) ([.int .i64 ((rd LK Mq).symbol_), .int .i64 ((rd LK Mq).more_), .int .i64 ((rd LK Mq).bits_)]) hS rfl rfl SR rfl rfl Tryd.sizeOf75 (by simp [Value.oneCell']) (Nat.le_of_ble_eq_true rfl) rfl fun w Wr ST hS => qJ <| zI <| sM hS rfl fun hS => sO hS (xz rfl Tryd.runUnderlying75 rfl Tryd.sizeOf3 rfl) rfl fun hS => sO hS (ye 0 rfl ST rfl rfl Tryd.isAgg3) rfl fun hS => ?_
       obtain ⟨Ng, hM⟩ := qH hM
       refine sO hS (xZ rfl rfl Tryd.runUnderlying45 Tryd.sizeOf3 (MS.rd (i := 8) rfl) (fun _ => rfl) rfl Ng) rfl fun hS => sO hS (yH rfl (MS.rd (i := 8) rfl) (fun _ => rfl) Ng rfl Tryd.isAgg3) rfl fun hS => sB hS rfl fun hS => sO hS (xZ rfl rfl Tryd.runUnderlying45 Tryd.sizeOf3 (MS.rd (i := 8) rfl) (fun _ => rfl) rfl Ng) rfl fun hS => JB (i := (rd LK Mq).symbol_) (sz := 1) 8 0 ((qh ((rd L3 (rd LK Mq).symbol_) + (1 : Int)))) hS rfl rfl MS rfl Tryd.sizeOf3 (xH (qh ((rd L3 (rd LK Mq).symbol_) + (1 : Int)))) (fun _ => rfl) Ng rfl rfl fun ND w Tt hz Ps SU hS => ?_
       have hM := qE hz hM; clear hz
       replace hS := hS.re 10 (u := .slice LM L3.length LW) (v := .slice LM ND.length LW) rfl (by rw [Ps])
       replace hS := hS.re 97 (u := .slice LM L3.length LW) (v := .slice LM ND.length LW) rfl (by rw [Ps])
       refine zg <| zw (qf ?_)
       refine zI <| sB hS rfl fun hS => sM hS rfl fun hS => zg <| qf ?_
       exact SP _ _ ⟨ND, Tt, (qh (Mq + (1 : Int))), hS.to [1, 2, 3, 4, 5, 6, 7, 8] (by kernel_rfl) ⟨rfl, rfl, rfl, rfl, rfl, rfl, rfl, trivial⟩, SU, hM⟩
      ·refine wp_exit ?_
       refine qC (qC (q9 (qf ?_)))
       exact SO _ _ ⟨L3, NR, hS.to [0, 1, 2, 3, 4, 5, 6, 7] (by kernel_rfl) ⟨rfl, rfl, rfl, rfl, trivial⟩, MS, hM⟩
    ·intro a w hI
     obtain ⟨LF, M3, hS, Mw, hM⟩ := hI
     rw [qk.j5] at hM
     refine qr <| sA hS rfl fun hS => qJ <| zc (fun a w => ∃ (NE : Int), Ss 196 [] [(0, .slice L0 LH.length L1), (8, qO LG 0), (9, .slice Mm LK.length Mn), (10, .slice LM LF.length LW), (13, .int .i64 NE)] H [MH, MI, LO, LP, LS, LT, Ma, M3] F a w ∧ (qk.j7 K LH LQ LI LR LJ LK LF NE).wp kr kp) (fun Ws SV => ?_) ?_
     ·refine wp_seq ?_
      refine zI <| sM hS rfl fun hS => sO hS (ym rfl Tryd.runUnderlying45) rfl fun hS => sM hS rfl fun hS => qJ <| xG <| zt (fun P3 a w => ∃ (MT : Int) (No : Int), Ss 196 [] [(0, .slice L0 LH.length L1), (8, qO LG 0), (9, .slice Mm LK.length Mn), (10, .slice LM LF.length LW), (13, .int .i64 MT), (105, .slice LM LF.length LW), (106, .int .i64 (LF.length : Int)), (107, .int .i64 No)] H [MH, MI, LO, LP, LS, LT, Ma, M3] F a w ∧ (qk.l6 K LH LQ LI LR LJ LK LF P3 MT No).wp kr kp) K ?_ ?_ ?_
      ·exact ⟨(0 : Int), (0 : Int), hS.to [0, 1, 2, 3, 4, 5, 6, 7] (by kernel_rfl) ⟨rfl, rfl, rfl, rfl, rfl, rfl, rfl, rfl, trivial⟩, hM⟩
      ·intro a w hI; obtain ⟨_, _, _, hM⟩ := hI; exact zm hM
      ·intro P3 a w hI Wt SW
       obtain ⟨MT, No, hS, hM⟩ := hI
       rw [qk.l6] at hM
       refine qr <| sB hS rfl fun hS => qJ <| wp_seq <| qI hS rfl hM (fun SX hM => ?_) (fun SX hM => ?_)
       ·refine wp_skip ?_
        refine qf <| wp_seq <| xG <| wp_seq <| zI ?_
        obtain ⟨Pt, hM⟩ := qH hM
        refine sO hS (xZ rfl rfl Tryd.runUnderlying45 Tryd.sizeOf3 (Mw.rd (i := 7) rfl) (fun _ => rfl) rfl Pt) rfl fun hS => sO hS (yH rfl (Mw.rd (i := 7) rfl) (fun _ => rfl) Pt rfl Tryd.isAgg3) rfl fun hS => zF (v := Value.int .i64) (x0 := (rd LF No)) hS (xB rfl) rfl fun Pv a w hz hS => ?_
        have hM := qE hz hM; clear hz
        refine qJ <| zI <| sM hS rfl fun hS => sM hS rfl fun hS => sO hS (Un rfl rfl) rfl fun hS => sB hS rfl fun hS => zF (v := Value.int .i64) (x0 := (qh (MT + (if (1 : Int) < Pv then (1 : Int) else Pv)))) hS (xB rfl) rfl fun SY a w hz hS => ?_
        have hM := qE hz hM; clear hz
        refine zg <| zw (qf ?_)
        refine zI <| sB hS rfl fun hS => sM hS rfl fun hS => zg <| qf ?_
        exact SW _ _ ⟨SY, (qh (No + (1 : Int))), hS.to [0, 1, 2, 3, 4, 5, 6, 7] (by kernel_rfl) ⟨rfl, rfl, rfl, rfl, rfl, rfl, rfl, rfl, trivial⟩, hM⟩
       ·refine wp_exit ?_
        refine qC (qC (q9 (qf ?_)))
        exact SV _ _ ⟨MT, hS.to [0, 1, 2, 3, 4, 5, 6, 7] (by kernel_rfl) ⟨rfl, rfl, rfl, rfl, rfl, trivial⟩, hM⟩
     ·intro a w hI
      obtain ⟨NE, hS, hM⟩ := hI
      rw [qk.j7] at hM
      refine zc (fun a w => ∃ (Mr : (List Int)) (MJ : qp), Ss 196 [] [(0, .slice L0 LH.length L1), (8, qO LG 0), (9, .slice Mm LK.length Mn), (10, .slice LM Mr.length LW)] H [MH, MI, LO, LP, LS, LT, Ma, MJ] F a w ∧ (xb 3 (ci .i64) 1 LM Mr LW MJ) ∧ (qk.j8 K LH LQ LI LR LJ LK Mr).wp kr kp) (fun Wu Pw => ?_) ?_
      ·refine wp_seq ?_
       refine zI <| sM hS rfl fun hS => sB hS rfl fun hS => qJ <| qI hS rfl hM (fun SZ hM => ?_) (fun SZ hM => ?_)
       ·obtain ⟨Nh, hM⟩ := qH hM
        obtain ⟨Px, hM⟩ := qH hM
        refine q8 (vals := [some (.slice LM LF.length LW), some (.slice LM LF.length LW), some (.slice LM LF.length LW), some (z8 LM (Int.toNat (0 : Int) * 1)), some (.int .i64 (rd LF (0 : Int))), some (.int .i64 (if (1 : Int) > (rd LF (0 : Int)) then (1 : Int) else (rd LF (0 : Int)))), some (.slice LM LF.length LW), some (z8 LM (Int.toNat (1 : Int) * 1)), some (.int .i64 (rd LF (1 : Int))), some (.int .i64 (if (1 : Int) > (rd LF (1 : Int)) then (1 : Int) else (rd LF (1 : Int)))), some (z8 LM (Int.toNat (0 : Int) * 1)), none, none, none]) hS xw rfl ?_
        intro l w ho hcl hA hst
        refine yV hA hst ho hcl xk xx 11 [0, 1, 2, 3, 4, 5, 6, 7, 8, 9, 10] rfl rfl rfl rfl rfl (by exact ⟨nM rfl, nM rfl, nM rfl, nQ rfl (by exact qV (xZ rfl rfl Tryd.runUnderlying45 Tryd.sizeOf3 (Mw.rd (i := 7) rfl) (fun _ => rfl) rfl Nh) rfl), nQ rfl (by exact qV (yH rfl (Mw.rd (i := 7) rfl) (fun _ => rfl) Nh rfl Tryd.isAgg3) rfl), nQ rfl (by exact qV (BL rfl rfl) rfl), nM rfl, nQ rfl (by exact qV (xZ rfl rfl Tryd.runUnderlying45 Tryd.sizeOf3 (Mw.rd (i := 7) rfl) (fun _ => rfl) rfl Px) rfl), nQ rfl (by exact qV (yH rfl (Mw.rd (i := 7) rfl) (fun _ => rfl) Px rfl Tryd.isAgg3) rfl), nQ rfl (by exact qV (BL rfl rfl) rfl), nQ rfl (by exact qV (xZ rfl rfl Tryd.runUnderlying45 Tryd.sizeOf3 (Mw.rd (i := 7) rfl) (fun _ => rfl) rfl Nh) rfl), trivial⟩) fun D l a w ho hcl hav hpre hm hE hk hA hst => ?_
        have hS := (Ss.mk hE hst).env2 (e' := [(123, .int .i64 (if (1 : Int) > (rd LF (0 : Int)) then (1 : Int) else (rd LF (0 : Int)))), (128, z8 LM (Int.toNat (0 : Int) * 1))]) ⟨rfl, rfl, trivial⟩
        refine qR rfl <| JB (i := (0 : Int)) (sz := 1) 7 0 ((if (1 : Int) > (rd LF (0 : Int)) then (1 : Int) else (rd LF (0 : Int)))) hS rfl rfl Mw rfl Tryd.sizeOf3 (xH (if (1 : Int) > (rd LF (0 : Int)) then (1 : Int) else (rd LF (0 : Int)))) (fun _ => rfl) Nh rfl rfl fun Wa w Wv hz Py Pz hS => ?_
        have hM := qE hz hM; clear hz
        refine qJ ?_
        replace hst := hS.st
        obtain ⟨PA, hM⟩ := qH hM
        obtain ⟨hcl, hmust, hav2, hA⟩ := Zd (vals' := [some (.slice LM LF.length LW), some (.slice LM LF.length LW), some (.slice LM LF.length LW), some (z8 LM (Int.toNat (0 : Int) * 1)), some (.int .i64 (rd LF (0 : Int))), some (.int .i64 (if (1 : Int) > (rd LF (0 : Int)) then (1 : Int) else (rd LF (0 : Int)))), some (.slice LM LF.length LW), some (z8 LM (Int.toNat (1 : Int) * 1)), some (.int .i64 (rd LF (1 : Int))), some (.int .i64 (if (1 : Int) > (rd LF (1 : Int)) then (1 : Int) else (rd LF (1 : Int)))), some (z8 LM (Int.toNat (0 : Int) * 1)), some undef, some (z8 LM (Int.toNat (1 : Int) * 1)), none]) 11 [(0, 11), (2, 11), (3, 11), (4, 11), (5, 11), (8, 11), (10, 11), (7, 8), (6, 7)] hA hcl hav hm hpre rfl rfl rfl rfl rfl
        clear hm hav
        refine yV hA hst ho hcl hav2 hmust 13 [1, 9, 12] rfl rfl rfl rfl rfl (by exact ⟨nM rfl, nQ rfl (by exact qV (BL rfl rfl) rfl), nQ rfl (by exact qV (xZ (Jc Py rfl) rfl Tryd.runUnderlying45 Tryd.sizeOf3 (Pz.rd (i := 7) rfl) (fun _ => rfl) rfl PA) rfl), trivial⟩) fun D l a w ho hcl hav hpre hm hE hk hA hst => ?_
        have hS := (Ss.mk hE hst).env2 (e' := [(127, .int .i64 (if (1 : Int) > (rd LF (1 : Int)) then (1 : Int) else (rd LF (1 : Int)))), (129, z8 LM (Int.toNat (1 : Int) * 1))]) ⟨rfl, rfl, trivial⟩
        refine qR rfl <| JB (i := (1 : Int)) (sz := 1) 7 0 ((if (1 : Int) > (rd LF (1 : Int)) then (1 : Int) else (rd LF (1 : Int)))) hS rfl rfl Pz rfl Tryd.sizeOf3 (xH (if (1 : Int) > (rd LF (1 : Int)) then (1 : Int) else (rd LF (1 : Int)))) (fun _ => rfl) PA rfl rfl fun PB w Tu hz S1 S2 hS => ?_
        have hM := qE hz hM; clear hz
        refine qJ ?_
        replace hst := hS.st
        obtain ⟨hcl, hmust, hav2, hA⟩ := Zd (vals' := [some (.slice LM LF.length LW), some (.slice LM LF.length LW), some (.slice LM LF.length LW), some (z8 LM (Int.toNat (0 : Int) * 1)), some (.int .i64 (rd LF (0 : Int))), some (.int .i64 (if (1 : Int) > (rd LF (0 : Int)) then (1 : Int) else (rd LF (0 : Int)))), some (.slice LM LF.length LW), some (z8 LM (Int.toNat (1 : Int) * 1)), some (.int .i64 (rd LF (1 : Int))), some (.int .i64 (if (1 : Int) > (rd LF (1 : Int)) then (1 : Int) else (rd LF (1 : Int)))), some (z8 LM (Int.toNat (0 : Int) * 1)), some undef, some (z8 LM (Int.toNat (1 : Int) * 1)), some undef]) 13 [(0, 13), (1, 13), (2, 13), (3, 13), (4, 13), (5, 13), (6, 13), (7, 13), (8, 13), (9, 13), (10, 13), (11, 13), (12, 13)] hA hcl hav hm hpre rfl rfl rfl rfl rfl
        clear hm hav
        refine x6 hA hst ho hcl hmust [] rfl rfl rfl trivial fun a w hS => ?_
        replace hS := hS.env2 (e' := [(0, .slice L0 LH.length L1), (8, qO LG 0), (9, .slice Mm LK.length Mn), (10, .slice LM PB.length LW)]) ⟨rfl, rfl, rfl, (YY (u := .slice LM LF.length LW) rfl (by rw [S1, Py])), trivial⟩
        refine qf ?_
        exact Pw _ _ ⟨PB, Tu, hS.to [0, 1, 2, 3, 4, 5, 6, 7] (by kernel_rfl) ⟨rfl, rfl, rfl, rfl, trivial⟩, S2, hM⟩
       ·refine wp_skip ?_
        refine qf ?_
        exact Pw _ _ ⟨LF, M3, hS.to [0, 1, 2, 3, 4, 5, 6, 7] (by kernel_rfl) ⟨rfl, rfl, rfl, rfl, trivial⟩, Mw, hM⟩
      ·intro a w hI
       obtain ⟨Mr, MJ, hS, PC, hM⟩ := hI
       rw [qk.j8] at hM
       refine qr <| sM hS rfl fun hS => qN hS rfl Tryd.call40 (Qe hG K Mr (7 : Int) LM LW (PC.rdF (i := 7) rfl) (PC.cap (fun _ => rfl) rfl) (hS.st.part 0 [0, 1, 2, 3, 4, 5, 6, 7] (by kernel_rfl)) (qv hM) (fun MK MU Mf Mz Ww w hM M4 hst => qG hS.ev hst.appF rfl fun hS => ?_) (fun v w hk hst => xm (qD (⟨hS.ev.defs, hpan _ _ hk hst.appF.frame⟩))))
       replace hS : Ss _ _ _ H [Mz, MH, MI, LO, LP, LS, LT, Ma, MJ] F _ _ := hS
       refine sM hS rfl fun hS => sO hS (ex rfl rfl) rfl fun hS => sO hS (ex rfl rfl) rfl fun hS => sA hS rfl fun hS => sA hS rfl fun hS => qJ <| qr <| sM hS rfl fun hS => qN hS rfl Tryd.call37 (y3 hG K Mf MK MU (M4.rdF (i := 0) rfl) (M4.cap (fun _ => rfl) rfl) (hS.st.part 0 [0, 1, 2, 3, 4, 5, 6, 7, 8] (by kernel_rfl)) (qv hM) (fun NS NT Mb MA w hM P4 hst => qG hS.ev hst.appF rfl fun hS => ?_))
       replace hS : Ss _ _ _ H [MA, Mz, MH, MI, LO, LP, LS, LT, Ma, MJ] F _ _ := hS
       refine QP ([.slice none 0 0, .slice none 0 0]) hS Tryd.zeroValue47 rfl rfl fun w MV Wx S3 hS => ?_
       obtain ⟨NU, Wb, hS⟩ := hS.nilV 3 (ci .i64) 1
       obtain ⟨NV, Wc, hS⟩ := hS.nilV 3 (ci .i64) 1
       refine Zo 2 ([.slice MK Mf.length MU, .slice NS Mb.length NT]) ([.slice MK Mf.length MU, .slice NS Mb.length NT]) hS rfl rfl S3 rfl rfl Tryd.sizeOf47 (by simp [Value.oneCell']) (Nat.le_of_ble_eq_true rfl) rfl fun w MB PD hS => qJ <| qr <| sM hS rfl fun hS => sO hS (yv rfl) rfl fun hS => sO hS (xz rfl Tryd.runUnderlying49 rfl Tryd.sizeOf44 rfl) rfl fun hS => qN hS rfl Tryd.call23 (zk hG K (qs.mk (qW.mk (qt.mk (0 : Int)) ([] : List Int)) (qw.mk LQ LI) (qw.mk LR LJ)) (5 : Int) (3 : Int) LG MH none (0) MI L4 L5 LO Mi Mj LP L6 L7 LS Mk Ml LT MO SG Mx MF My MG (hS.st.part 6 [5, 6, 7, 8, 9, 10, 0, 1, 2, 3, 4, 11, 12] (by kernel_rfl)) (qv hM) (fun Wy PN Tv Tw N5 P5 P6 w hM Tx Ty hst => qG hS.ev hst.appF rfl fun hS => ?_))
       replace hS : Ss _ _ _ H [P6, P5, LO, LP, LS, LT, NV, NU, MB, MA, Mz, Ma, MJ] F _ _ := hS
       refine qJ <| qr <| sM hS rfl fun hS => sO hS (yv rfl) rfl fun hS => sO hS (xz rfl Tryd.runUnderlying49 rfl Tryd.sizeOf44 rfl) rfl fun hS => qN hS rfl Tryd.call23 (zk hG K (qs.mk (qW.mk (qt.mk PN) N5) (qw.mk LQ LI) (qw.mk LR LJ)) (29 : Int) (5 : Int) LG P6 Tv Tw P5 L4 L5 LO Mi Mj LP L6 L7 LS Mk Ml LT Ty Tx Mx MF My MG (hS.st.part 6 [0, 1, 2, 3, 4, 5, 6, 7, 8, 9, 10, 11, 12] (by kernel_rfl)) (qv hM) (fun Wz PO Tz TA N6 P7 P8 w hM TB TC hst => qG hS.ev hst.appF rfl fun hS => ?_))
       replace hS : Ss _ _ _ H [P8, P7, LO, LP, LS, LT, NV, NU, MB, MA, Mz, Ma, MJ] F _ _ := hS
       refine qJ <| qr <| sM hS rfl fun hS => sO hS (yv rfl) rfl fun hS => sO hS (xz rfl Tryd.runUnderlying49 rfl Tryd.sizeOf44 rfl) rfl fun hS => qN hS rfl Tryd.call23 (zk hG K (qs.mk (qW.mk (qt.mk PO) N6) (qw.mk LQ LI) (qw.mk LR LJ)) (29 : Int) (5 : Int) LG P8 Tz TA P7 L4 L5 LO Mi Mj LP L6 L7 LS Mk Ml LT TC TB Mx MF My MG (hS.st.part 6 [0, 1, 2, 3, 4, 5, 6, 7, 8, 9, 10, 11, 12] (by kernel_rfl)) (qv hM) (fun WA PP TD TE N7 P9 Sa w hM TF TG hst => qG hS.ev hst.appF rfl fun hS => ?_))
       replace hS : Ss _ _ _ H [Sa, P9, LO, LP, LS, LT, NV, NU, MB, MA, Mz, Ma, MJ] F _ _ := hS
       refine qJ <| qr <| sM hS rfl fun hS => sO hS (yv rfl) rfl fun hS => sO hS (xz rfl Tryd.runUnderlying49 rfl Tryd.sizeOf44 rfl) rfl fun hS => qN hS rfl Tryd.call23 (zk hG K (qs.mk (qW.mk (qt.mk PP) N7) (qw.mk LQ LI) (qw.mk LR LJ)) (15 : Int) (4 : Int) LG Sa TD TE P9 L4 L5 LO Mi Mj LP L6 L7 LS Mk Ml LT TG TF Mx MF My MG (hS.st.part 6 [0, 1, 2, 3, 4, 5, 6, 7, 8, 9, 10, 11, 12] (by kernel_rfl)) (qv hM) (fun WB PQ TH TI N8 Sb Sc w hM TJ TK hst => qG hS.ev hst.appF rfl fun hS => ?_))
       replace hS : Ss _ _ _ H [Sc, Sb, LO, LP, LS, LT, NV, NU, MB, MA, Mz, Ma, MJ] F _ _ := hS
       refine qJ <| zc (fun a w => ∃ (MP : Int) (NW : Option Addr) (NX : Nat) (Ms : (List Int)) (NY : qp) (NZ : qp), Ss 196 [] [(0, .slice L0 LH.length L1), (8, qO LG 0), (9, .slice Mm LK.length Mn), (18, qO MV 0)] H [NZ, NY, LO, LP, LS, LT, Ma, MB, Mz, MA] F a w ∧ (xb 5 (ci .u8) 1 NW Ms NX NY) ∧ (xO NZ LG ([.int .i64 MP, .slice NW Ms.length NX, .slice L4 LQ.length L5, .slice Mi LI.length Mj, .slice L6 LR.length L7, .slice Mk LJ.length Ml]) 49) ∧ (qk.j10 K LH LQ LI LR LJ LK Mf Mb MP Ms).wp kr kp) (fun WC S4 => ?_) ?_
       ·refine wp_seq ?_
        refine zI <| sO hS (Dw rfl hG.g0 (by rfl) Tryd.isAgg77 Tryd.sizeOf77) rfl fun hS => sM hS rfl fun hS => qJ <| xG <| zt (fun Sd a w => ∃ (ML : Int) (Np : Option Addr) (Nq : Nat) (Mg : (List Int)) (Nr : qp) (Ns : qp) (M5 : Int), Ss 196 [] [(0, .slice L0 LH.length L1), (8, qO LG 0), (9, .slice Mm LK.length Mn), (18, qO MV 0), (153, .agg ⟨tab_deflate_order.flatMap (ci .i64)⟩), (154, .int .i64 M5)] H [Ns, Nr, LO, LP, LS, LT, Ma, MB, Mz, MA] F a w ∧ (xb 5 (ci .u8) 1 Np Mg Nq Nr) ∧ (xO Ns LG ([.int .i64 ML, .slice Np Mg.length Nq, .slice L4 LQ.length L5, .slice Mi LI.length Mj, .slice L6 LR.length L7, .slice Mk LJ.length Ml]) 49) ∧ (qk.l9 K LH LQ LI LR LJ LK Mf Mb Sd ML Mg M5).wp kr kp) K ?_ ?_ ?_
        ·exact ⟨PQ, TH, TI, N8, Sb, Sc, (0 : Int), hS.to [0, 1, 2, 3, 4, 5, 11, 8, 10, 9] (by kernel_rfl) ⟨rfl, rfl, rfl, rfl, rfl, rfl, trivial⟩, TJ, TK, hM⟩
        ·intro a w hI; obtain ⟨_, _, _, _, _, _, _, _, _, _, hM⟩ := hI; exact zm hM
        ·intro Sd a w hI WD S5
         obtain ⟨ML, Np, Nq, Mg, Nr, Ns, M5, hS, PE, PF, hM⟩ := hI
         rw [qk.l9] at hM
         refine qr <| sB hS rfl fun hS => qJ <| wp_seq <| qI hS rfl hM (fun S6 hM => ?_) (fun S6 hM => ?_)
         ·refine wp_skip ?_
          refine qf <| wp_seq <| xG <| wp_seq <| zI ?_
          obtain ⟨S7, hM⟩ := qH hM
          refine sO hS (G7 rfl rfl Tryd.runUnderlying77 Tryd.isAgg3 Tryd.sizeOf3 (fun _ => rfl) u9 S7 rfl) rfl fun hS => zF (v := Value.int .i64) (x0 := (rd tab_deflate_order M5)) hS (xB rfl) rfl fun MC a w hz hS => ?_
          have hM := qE hz hM; clear hz
          refine zg <| qf ?_
          obtain ⟨PG, hM⟩ := qH hM
          refine q8 (vals := [some (qO LG 0), some (qO LG 0), some (qO LG 0), some (qO MV 0), some (.slice MK Mf.length MU), some (.int .i64 MC), some (z8 MK (Int.toNat MC * 1)), some (.int .i64 (rd Mf MC)), some (.int .u32 (wr .u32 (rd Mf MC))), none]) hS xw rfl ?_
          intro l w ho hcl hA hst
          refine yV hA hst ho hcl xk xx 9 [0, 1, 2, 3, 4, 5, 6, 7, 8] rfl rfl rfl rfl rfl (by exact ⟨nM rfl, nQ rfl (by exact qV (yv rfl) rfl), nQ rfl (by exact qV (xz rfl Tryd.runUnderlying49 rfl Tryd.sizeOf44 rfl) rfl), nQ rfl (by exact qV (xz rfl Tryd.runUnderlying47 rfl Tryd.sizeOf45 rfl) rfl), nQ rfl (by exact qV (ye 7 rfl PD rfl rfl Tryd.isAgg45) rfl), nM rfl, nQ rfl (by exact qV (xZ rfl rfl Tryd.runUnderlying45 Tryd.sizeOf3 (M4.rd (i := 8) rfl) (fun _ => rfl) rfl PG) rfl), nQ rfl (by exact qV (yH rfl (M4.rd (i := 8) rfl) (fun _ => rfl) PG rfl Tryd.isAgg3) rfl), nQ rfl (by exact qV (u2 rfl Tryd.runUnderlying3 Tryd.runUnderlying53) rfl), trivial⟩) fun D l a w ho hcl hav hpre hm hE hk hA hst => ?_
          have hS := (Ss.mk hE hst).env2 (e' := [(159, qO LG 0), (165, .int .u32 (wr .u32 (rd Mf MC)))]) ⟨rfl, rfl, trivial⟩
          refine qR rfl <| qN hS rfl Tryd.call23 (zk hG K (qs.mk (qW.mk (qt.mk ML) Mg) (qw.mk LQ LI) (qw.mk LR LJ)) (wr .u32 (rd Mf MC)) (3 : Int) LG Ns Np Nq Nr L4 L5 LO Mi Mj LP L6 L7 LS Mk Ml LT PF PE Mx MF My MG (hS.st.part 6 [0, 1, 2, 3, 4, 5, 6, 7, 8, 9] (by kernel_rfl)) (qv hM) (fun TL PR TM TN N9 Se Sf w hM TO TP hst => qG hS.ev hst.appF rfl fun hS => ?_))
          replace hS : Ss _ _ _ H [Sf, Se, LO, LP, LS, LT, Ma, MB, Mz, MA] F _ _ := hS
          refine qJ ?_
          replace hst := hS.st
          obtain ⟨hcl, hmust, hav2, hA⟩ := dn (vals' := [some (qO LG 0), some (qO LG 0), some (qO LG 0), some (qO MV 0), some (.slice MK Mf.length MU), some (.int .i64 MC), some (z8 MK (Int.toNat MC * 1)), some (.int .i64 (rd Mf MC)), some (.int .u32 (wr .u32 (rd Mf MC))), some (.int .i64 TL)]) 9 [(2, 9), (8, 9), (1, 2), (7, 8), (0, 1), (6, 7), (4, 6), (5, 6), (3, 4)] hA hcl hav hm hpre hk rfl rfl rfl rfl rfl rfl rfl
          clear hm hav
          refine x6 hA hst ho hcl hmust [] rfl rfl rfl trivial fun a w hS => ?_
          replace hS := hS.env2 (e' := [(0, .slice L0 LH.length L1), (8, qO LG 0), (9, .slice Mm LK.length Mn), (18, qO MV 0), (153, .agg ⟨tab_deflate_order.flatMap (ci .i64)⟩), (154, .int .i64 M5)]) ⟨rfl, rfl, rfl, rfl, rfl, rfl, trivial⟩
          refine zw (qf ?_)
          refine zI <| sB hS rfl fun hS => sM hS rfl fun hS => zg <| qf ?_
          exact S5 _ _ ⟨PR, TM, TN, N9, Se, Sf, (qh (M5 + (1 : Int))), hS.to [0, 1, 2, 3, 4, 5, 6, 7, 8, 9] (by kernel_rfl) ⟨rfl, rfl, rfl, rfl, rfl, rfl, trivial⟩, TO, TP, hM⟩
         ·refine wp_exit ?_
          refine qC (qC (q9 (qf ?_)))
          exact S4 _ _ ⟨ML, Np, Nq, Mg, Nr, Ns, hS.to [0, 1, 2, 3, 4, 5, 6, 7, 8, 9] (by kernel_rfl) ⟨rfl, rfl, rfl, rfl, trivial⟩, PE, PF, hM⟩
       ·intro a w hI
        obtain ⟨MP, NW, NX, Ms, NY, NZ, hS, S8, S9, hM⟩ := hI
        rw [qk.j10] at hM
        refine zc (fun a w => ∃ (MQ : Int) (N0 : Option Addr) (N1 : Nat) (Mt : (List Int)) (N2 : qp) (N3 : qp), Ss 196 [] [(0, .slice L0 LH.length L1), (8, qO LG 0)] H [N3, N2, LO, LP, LS, LT] F a w ∧ (xb 5 (ci .u8) 1 N0 Mt N1 N2) ∧ (xO N3 LG ([.int .i64 MQ, .slice N0 Mt.length N1, .slice L4 LQ.length L5, .slice Mi LI.length Mj, .slice L6 LR.length L7, .slice Mk LJ.length Ml]) 49) ∧ (qk.j12 K LH LQ LI LR LJ MQ Mt).wp kr kp) (fun WE Ta => ?_) ?_
        ·refine wp_seq ?_
         refine zI <| sM hS rfl fun hS => sO hS (ym rfl Tryd.runUnderlying72) rfl fun hS => sM hS rfl fun hS => qJ <| xG <| zt (fun Sg a w => ∃ (MM : Int) (Nt : Option Addr) (Nu : Nat) (Mh : (List Int)) (Nv : qp) (Nw : qp) (L8 : Int), Ss 196 [] [(0, .slice L0 LH.length L1), (8, qO LG 0), (18, qO MV 0), (168, .slice Mm LK.length Mn), (169, .int .i64 (LK.length : Int)), (170, .int .i64 L8)] H [Nw, Nv, LO, LP, LS, LT, MB, Mz, MA, Ma] F a w ∧ (xb 5 (ci .u8) 1 Nt Mh Nu Nv) ∧ (xO Nw LG ([.int .i64 MM, .slice Nt Mh.length Nu, .slice L4 LQ.length L5, .slice Mi LI.length Mj, .slice L6 LR.length L7, .slice Mk LJ.length Ml]) 49) ∧ (qk.l11 K LH LQ LI LR LJ LK Mf Mb Sg MM Mh L8).wp kr kp) K ?_ ?_ ?_
         ·exact ⟨MP, NW, NX, Ms, NY, NZ, (0 : Int), hS.to [0, 1, 2, 3, 4, 5, 7, 8, 9, 6] (by kernel_rfl) ⟨rfl, rfl, rfl, rfl, rfl, rfl, trivial⟩, S8, S9, hM⟩
         ·intro a w hI; obtain ⟨_, _, _, _, _, _, _, _, _, _, hM⟩ := hI; exact zm hM
         ·intro Sg a w hI WF Tb
          obtain ⟨MM, Nt, Nu, Mh, Nv, Nw, L8, hS, PH, PI, hM⟩ := hI
          rw [qk.l11] at hM
          refine qr <| sB hS rfl fun hS => qJ <| wp_seq <| qI hS rfl hM (fun Tc hM => ?_) (fun Tc hM => ?_)
          ·refine wp_skip ?_
           refine qf <| wp_seq <| xG <| wp_seq <| zI ?_
           obtain ⟨PJ, hM⟩ := qH hM
           refine sO hS (xZ rfl rfl Tryd.runUnderlying72 Tryd.sizeOf75 (NQ.rd (i := 9) rfl) (fun _ => rfl) rfl PJ) rfl fun hS => sO hS (y4 rfl (NQ.rd (i := 9) rfl) (fun _ => rfl) PJ Tryd.isAgg75 Tryd.sizeOf75 rfl) rfl fun hS => QP ([.int .i64 (0 : Int), .int .i64 (0 : Int), .int .i64 (0 : Int)]) hS Tryd.zeroValue75 rfl rfl fun w N4 WG Td hS => Zo 0 ([.int .i64 ((rd LK L8).symbol_), .int .i64 ((rd LK L8).more_), .int .i64 ((rd LK L8).bits_)]) ([.int .i64 ((rd LK L8).symbol_), .int .i64 ((rd LK L8).more_), .int .i64 ((rd LK L8).bits_)]) hS rfl rfl Td rfl rfl Tryd.sizeOf75 (by simp [Value.oneCell']) (Nat.le_of_ble_eq_true rfl) rfl fun w Sh NF hS => qJ <| qr <| sM hS rfl fun hS => sO hS (u5 7 rfl PD rfl ([.slice MK Mf.length MU, .slice NS Mb.length NT]) rfl rfl Tryd.isAgg47 Tryd.sizeOf47) rfl fun hS => sO hS (xz rfl Tryd.runUnderlying75 rfl Tryd.sizeOf3 rfl) rfl fun hS => sO hS (ye 0 rfl NF rfl rfl Tryd.isAgg3) rfl fun hS => qN hS rfl Tryd.call41 (uw hG K (qs.mk (qW.mk (qt.mk MM) Mh) (qw.mk LQ LI) (qw.mk LR LJ)) (qw.mk Mf Mb) ((rd LK L8).symbol_) LG Nw Nt Nu Nv L4 L5 LO Mi Mj LP L6 L7 LS Mk Ml LT MK MU NS NT PI PH Mx MF My MG (M4.rdF (i := 2) rfl) (M4.cap (fun _ => rfl) rfl) (P4.rdF (i := 3) rfl) (P4.cap (fun _ => rfl) rfl) (hS.st.part 6 [1, 2, 3, 4, 5, 6, 0, 7, 8, 9, 10] (by kernel_rfl)) (qv hM) (fun PS TQ TR Pa Si Sj w hM TS TT hst => qG hS.ev hst.appF rfl fun hS => ?_))
           replace hS : Ss _ _ _ H [Sj, Si, LO, LP, LS, LT, Sh, MB, Mz, MA, Ma] F _ _ := hS
           refine qJ <| q8 (vals := [some (qO LG 0), some (qO LG 0), some (qO LG 0), some (qO N4 1), some (.int .i64 ((rd LK L8).more_)), some (.int .u32 (wr .u32 (rd LK L8).more_)), some (qO N4 2), some (.int .i64 ((rd LK L8).bits_)), none]) hS xw rfl ?_
           intro l w ho hcl hA hst
           refine yV hA hst ho hcl xk xx 8 [0, 1, 2, 3, 4, 5, 6, 7] rfl rfl rfl rfl rfl (by exact ⟨nM rfl, nQ rfl (by exact qV (yv rfl) rfl), nQ rfl (by exact qV (xz rfl Tryd.runUnderlying49 rfl Tryd.sizeOf44 rfl) rfl), nQ rfl (by exact qV (xz rfl Tryd.runUnderlying75 rfl Tryd.sizeOf3 rfl) rfl), nQ rfl (by exact qV (ye 6 rfl NF rfl rfl Tryd.isAgg3) rfl), nQ rfl (by exact qV (u2 rfl Tryd.runUnderlying3 Tryd.runUnderlying53) rfl), nQ rfl (by exact qV (xz rfl Tryd.runUnderlying75 rfl Tryd.sizeOf3 rfl) rfl), nQ rfl (by exact qV (ye 6 rfl NF rfl rfl Tryd.isAgg3) rfl), trivial⟩) fun D l a w ho hcl hav hpre hm hE hk hA hst => ?_
           have hS := (Ss.mk hE hst).env2 (e' := [(181, qO LG 0), (184, .int .u32 (wr .u32 (rd LK L8).more_)), (186, .int .i64 ((rd LK L8).bits_))]) ⟨rfl, rfl, rfl, trivial⟩
           refine qR rfl <| qN hS rfl Tryd.call23 (zk hG K (qs.mk (qW.mk (qt.mk PS) Pa) (qw.mk LQ LI) (qw.mk LR LJ)) (wr .u32 (rd LK L8).more_) ((rd LK L8).bits_) LG Sj TQ TR Si L4 L5 LO Mi Mj LP L6 L7 LS Mk Ml LT TT TS Mx MF My MG (hS.st.part 6 [0, 1, 2, 3, 4, 5, 6, 7, 8, 9, 10] (by kernel_rfl)) (qv hM) (fun TU PT TV TW Pb Sk Sm w hM TX TY hst => qG hS.ev hst.appF rfl fun hS => ?_))
           replace hS : Ss _ _ _ H [Sm, Sk, LO, LP, LS, LT, Sh, MB, Mz, MA, Ma] F _ _ := hS
           refine qJ ?_
           replace hst := hS.st
           obtain ⟨hcl, hmust, hav2, hA⟩ := dn (vals' := [some (qO LG 0), some (qO LG 0), some (qO LG 0), some (qO N4 1), some (.int .i64 ((rd LK L8).more_)), some (.int .u32 (wr .u32 (rd LK L8).more_)), some (qO N4 2), some (.int .i64 ((rd LK L8).bits_)), some (.int .i64 TU)]) 8 [(2, 8), (5, 8), (7, 8), (1, 2), (4, 5), (6, 7), (0, 1), (3, 4)] hA hcl hav hm hpre hk rfl rfl rfl rfl rfl rfl rfl
           clear hm hav
           refine x6 hA hst ho hcl hmust [] rfl rfl rfl trivial fun a w hS => ?_
           replace hS := hS.env2 (e' := [(0, .slice L0 LH.length L1), (8, qO LG 0), (18, qO MV 0), (168, .slice Mm LK.length Mn), (169, .int .i64 (LK.length : Int)), (170, .int .i64 L8)]) ⟨rfl, rfl, rfl, rfl, rfl, rfl, trivial⟩
           refine zw (qf ?_)
           refine zI <| sB hS rfl fun hS => sM hS rfl fun hS => zg <| qf ?_
           exact Tb _ _ ⟨PT, TV, TW, Pb, Sk, Sm, (qh (L8 + (1 : Int))), hS.to [0, 1, 2, 3, 4, 5, 7, 8, 9, 10] (by kernel_rfl) ⟨rfl, rfl, rfl, rfl, rfl, rfl, trivial⟩, TX, TY, hM⟩
          ·refine wp_exit ?_
           refine qC (qC (q9 (qf ?_)))
           exact Ta _ _ ⟨MM, Nt, Nu, Mh, Nv, Nw, hS.to [0, 1, 2, 3, 4, 5] (by kernel_rfl) ⟨rfl, rfl, trivial⟩, PH, PI, hM⟩
        ·intro a w hI
         obtain ⟨MQ, N0, N1, Mt, N2, N3, hS, Te, Tf, hM⟩ := hI
         rw [qk.j12] at hM
         refine qr <| sM hS rfl fun hS => sM hS rfl fun hS => qN hS rfl Tryd.call24 (jE hG K (qs.mk (qW.mk (qt.mk MQ) Mt) (qw.mk LQ LI) (qw.mk LR LJ)) LH LG N3 N0 N1 N2 L4 L5 LO Mi Mj LP L6 L7 LS Mk Ml LT L0 L1 Tf Te Mx MF My MG (M6.app _) Pd (hS.st.part 6 [0, 1, 2, 3, 4, 5] (by kernel_rfl)) (qv hM) (fun PU TZ T0 Pc PL PM w hM T3 T4 hst => qG hS.ev hst.appF rfl fun hS => ?_))
         replace hS : Ss _ _ _ H [PM, PL, LO, LP, LS, LT] F _ _ := hS
         refine qJ <| qr <| sM hS rfl fun hS => sO hS (yv rfl) rfl fun hS => sO hS (xz rfl Tryd.runUnderlying49 rfl Tryd.sizeOf44 rfl) rfl fun hS => qN hS rfl Tryd.call25 (yw hG K (qs.mk (qW.mk (qt.mk PU) Pc) (qw.mk LQ LI) (qw.mk LR LJ)) LG PM TZ T0 PL L4 L5 LO Mi Mj LP L6 L7 LS Mk Ml LT T4 T3 Mx MF My MG (hS.st.part 6 [0, 1, 2, 3, 4, 5] (by kernel_rfl)) (qv hM) (fun T5 w hM  hst => qG hS.ev hst.appF rfl fun hS => ?_))
         replace hS : Ss _ _ _ H [PM, PL, LO, LP, LS, LT] F _ _ := hS
         refine sA hS rfl fun hS => sA hS rfl fun hS => qJ <| wp_ret ?_
         exact zX (rs := [2, 3]) hS rfl rfl (hret T5 (0 : Int) _ (zn hM) (hS.st.pick [] (by kernel_rfl)))
theorem uo {H : xT} {F : List qp} {w : World} {R : Ending → World → Prop} {kr : (List UInt8) → Prop} {kp : Value → Prop} (hG : Gl H) (K : Nat) (LM : List UInt8)
    (hS : St w H [] F) (hm : (zM.m K LM).wp kr kp)
    (hret : ∀ (LR : List UInt8) (w : World), kr LR → St w H [] F → R (.returned (xS LR)) w) :
    Calls Tryd.prog 10 ⟨[xS LM]⟩ w R := by
 refine enter Tryd.func10 rfl Tryd.ntmps10 rfl hS fun a w hS => ?_
 have hM := hm; clear hm
 rw [zM.m] at hM
 refine qr <| sA hS rfl fun hS => qJ <| qr <| sA hS rfl fun hS => ?_
 obtain ⟨L4, LS, hS⟩ := hS.nilV 5 (ci .u8) 1
 refine qJ <| xG <| zt (fun LN a w => ∃ (LH : List UInt8) (LJ : Option Addr) (LK : Nat) (LI : (List Int)) (LL : qp), Ss 41 [] [(0, xS LH), (3, .slice LJ LI.length LK)] H [LL] F a w ∧ (xb 5 (ci .u8) 1 LJ LI LK LL) ∧ (zM.l1 K LN LH LI).wp kr kp) K ?_ ?_ ?_
 ·exact ⟨LM, none, 0, ([] : List Int), L4, hS.to [0] (by kernel_rfl) ⟨rfl, rfl, trivial⟩, LS, hM⟩
 ·intro a w hI; obtain ⟨_, _, _, _, _, _, _, hM⟩ := hI; exact zm hM
 ·intro LN a w hI Mb LT
  obtain ⟨LH, LJ, LK, LI, LL, hS, LU, hM⟩ := hI
  rw [zM.l1] at hM
  refine xG <| qr <| sM hS rfl fun hS => sO hS (uN rfl Tryd.runUnderlying9) rfl fun hS => sO hS (Un rfl rfl) rfl fun hS => zF (v := Value.int .i64) (x0 := (if (LH.length : Int) < (65535 : Int) then (LH.length : Int) else (65535 : Int))) hS (xB rfl) rfl fun LF a w hz hS => ?_
  have hM := qE hz hM; clear hz
  refine qJ <| qr <| sA hS rfl fun hS => qJ <| zc (fun a w => ∃ (LG : Int), Ss 41 [] [(0, xS LH), (3, .slice LJ LI.length LK), (4, .int .i64 LF), (5, .int .u8 LG)] H [LL] F a w ∧ (zM.j2 K (zM.l1 K LN) LH LI LF LG).wp kr kp) (fun Mc LO => ?_) ?_
  ·refine wp_seq ?_
   refine zI <| sM hS rfl fun hS => sM hS rfl fun hS => sO hS (uN rfl Tryd.runUnderlying9) rfl fun hS => sB hS rfl fun hS => qJ <| qI hS rfl hM (fun LV hM => ?_) (fun LV hM => ?_)
   ·refine zI ?_
    refine sA hS rfl fun hS => zg <| qf ?_
    exact LO _ _ ⟨(1 : Int), hS.to [0] (by kernel_rfl) ⟨rfl, rfl, rfl, rfl, trivial⟩, hM⟩
   ·refine wp_skip ?_
    refine qf ?_
    exact LO _ _ ⟨(0 : Int), hS.to [0] (by kernel_rfl) ⟨rfl, rfl, rfl, rfl, trivial⟩, hM⟩
  ·intro a w hI
   obtain ⟨LG, hS, hM⟩ := hI
   rw [zM.j2] at hM
   refine qr <| sM hS rfl fun hS => sM hS rfl fun hS => sM hS rfl fun hS => sO hS (u2 rfl Tryd.runUnderlying3 Tryd.runUnderlying5) rfl fun hS => sM hS rfl fun hS => sO hS (shr rfl rfl rfl) rfl fun hS => sO hS (u2 rfl Tryd.runUnderlying3 Tryd.runUnderlying5) rfl fun hS => sM hS rfl fun hS => sO hS (u2 rfl Tryd.runUnderlying3 Tryd.runUnderlying5) rfl fun hS => sO hS (un rfl rfl) rfl fun hS => sM hS rfl fun hS => sO hS (shr rfl rfl rfl) rfl fun hS => sO hS (u2 rfl Tryd.runUnderlying3 Tryd.runUnderlying5) rfl fun hS => sO hS (un rfl rfl) rfl fun hS => Yx (g := (ci .u8)) ([LG, (wr .u8 LF), (wr .u8 (xF .i64 LF (8 : Int))), (QF .u8 (wr .u8 LF)), (QF .u8 (wr .u8 (xF .i64 LF (8 : Int))))] : List Int) [.int .u8 LG, .int .u8 (wr .u8 LF), .int .u8 (wr .u8 (xF .i64 LF (8 : Int))), .int .u8 (QF .u8 (wr .u8 LF)), .int .u8 (QF .u8 (wr .u8 (xF .i64 LF (8 : Int))))] hS Tryd.runUnderlying38 Tryd.sizeOf5 X.el5 rfl rfl rfl (by simp [Value.cells]) rfl rfl rfl rfl rfl fun w Md Me Mf LW hS => ?_
   obtain ⟨LX, hM⟩ := qH hM
   refine Jm (ys := ([LG, (wr .u8 LF), (wr .u8 (xF .i64 LF (8 : Int))), (QF .u8 (wr .u8 LF)), (QF .u8 (wr .u8 (xF .i64 LF (8 : Int))))] : List Int)) 1 hS rfl rfl LU rfl (LW.rd (i := 0) rfl) Tryd.runUnderlying38 Tryd.runUnderlying38 X.el5 (fun _ => rfl) rfl QZ LX rfl fun Ma w Mg Mh Mi hz LY hS => ?_
   have hM := qE hz hM; clear hz
   refine sA hS rfl fun hS => qJ <| qr <| sM hS rfl fun hS => sM hS rfl fun hS => sM hS rfl fun hS => ?_
   obtain ⟨LZ, hM⟩ := qH hM
   refine sO hS (GN rfl Tryd.runUnderlying9 D8 (Dy rfl) LZ) rfl fun hS => ?_
   obtain ⟨L0, hM⟩ := qH hM
   refine Lg 1 hS rfl rfl LY rfl Tryd.runUnderlying38 Tryd.runUnderlying9 X.el5 rfl L0 rfl fun LP w L5 L6 L7 hz LQ hS => ?_
   have hM := qE hz hM; clear hz
   refine sA hS rfl fun hS => qJ <| qr <| sM hS rfl fun hS => sM hS rfl fun hS => ?_
   obtain ⟨L1, hM⟩ := qH hM
   refine sO hS (GN rfl Tryd.runUnderlying9 (GK rfl) Gs L1) rfl fun hS => zF (v := xS) (x0 := (sub LH LF (LH.length : Int))) hS (xB rfl) rfl fun L8 a w hz hS => ?_
   have hM := qE hz hM; clear hz
   refine qJ <| qr <| sM hS rfl fun hS => sB hS rfl fun hS => qJ <| qI hS rfl hM (fun L3 hM => ?_) (fun L3 hM => ?_)
   ·refine wp_seq ?_
    refine zI <| sM hS rfl fun hS => sO hS (GP rfl Tryd.runUnderlying38 Tryd.runUnderlying5 Tryd.runUnderlying9 (LQ.rd (i := 1) rfl)) rfl fun hS => zF (v := xS) (x0 := (LP.map QU)) hS (xB rfl) rfl fun L9 a w hz hS => ?_
    have hM := qE hz hM; clear hz
    refine qJ <| wp_ret <| yp (zE (yp ?_))
    exact zX (rs := [2]) hS rfl rfl (hret L9 _ (zn hM) (hS.st.pick [] (by kernel_rfl)))
   ·refine wp_skip ?_
    refine zw (qf ?_)
    exact LT _ _ ⟨L8, L5, L6, LP, L7, hS.to [1] (by kernel_rfl) ⟨rfl, rfl, trivial⟩, LQ, hM⟩
end Go.TrydS

