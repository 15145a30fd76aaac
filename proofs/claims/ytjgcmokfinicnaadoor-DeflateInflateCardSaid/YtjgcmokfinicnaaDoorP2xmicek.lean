/- Printed by a program of mine: each Go function answers what its model answers; conditions: what each theorem asks of memory. -/
import Derived.Test.YtjgcmokfinicnaaDoorP1xfdpnh
set_option linter.unusedVariables false
set_option linter.unusedSimpArgs false
set_option maxRecDepth 100000
namespace Go.TrydS
open Go Go.Sl Go.Mo Go.Proofs
attribute [local irreducible] qS.wp
theorem yC (K : Nat) : ∀ (d : Nat) {H : xT} {F : List qp} {w : World} {R : Ending → World → Prop} {kr : (List qb) → Prop} {kp : Value → Prop} (hG : Gl H) (LF : List qb) (LN : Int) (LO : Int) (LR : Int) (LQ : qp) (LG : Option Addr) (LJ : Nat) (LM : List (zq 2)) (LY : qp) (LS : zr (qg LQ) LF LM) (LX : xb 112 (zq.v (sz := 2)) 2 LG LM LJ LY)
    (hS : St w H [LQ, LY] F) (hm : (qa.r K d LF LN LO LR).wp kr kp)
    (hret : ∀ (MD : List (zq 2)) (MA : (List qb)) (NK : qp) (w : World), kr MA → (xb 112 (zq.v (sz := 2)) 2 LG MD LJ NK) → (zr (qg LQ) MA MD) → (MD.length = LM.length) → St w H [LQ, NK] F → R (.returned (.tuple ⟨[]⟩)) w),
    Calls Tryd.prog 100 ⟨[.slice LG LM.length LJ, .int .i64 LN, .int .i64 LO, .int .i64 LR, yA 57 [] []]⟩ w R := by
  intro d
  induction d with
  | zero => intro H F w R kr kp hG LF LN LO LR LQ LG LJ LM LY LS LX hS hm hret; exact (zm hm).elim
  | succ d ih =>
  intro H F w R kr kp hG LF LN LO LR LQ LG LJ LM LY LS LX hS hm hret
  have hM := hm; clear hm
  rw [qa.r] at hM; rw [qa.b] at hM
  refine enter Tryd.func100 rfl Tryd.ntmps100 rfl hS fun a w hS => ?_
  have Sa : ∀ q ∈ LQ, q ∈ LQ := fun _ h => h
  have Mx : LM.length = LM.length := rfl
  refine zc (fun a w => Ss 220 [] [(0, .slice LG LM.length LJ), (1, .int .i64 LN), (2, .int .i64 LO), (3, .int .i64 LR), (4, yA 57 [] [])] H [LQ, LY] F a w ∧ (qa.j4 K (qa.r K d) LF LN LO LR).wp kr kp) (fun Sb NT => ?_) ?_
  ·refine wp_seq ?_
   refine zI <| sM hS rfl fun hS => sM hS rfl fun hS => sB hS rfl fun hS => sB hS rfl fun hS => qJ <| qI hS rfl hM (fun NU hM => ?_) (fun NU hM => ?_)
   ·refine wp_seq ?_
    refine zI <| sM hS rfl fun hS => sA hS rfl fun hS => qJ <| qr <| sM hS rfl fun hS => sA hS rfl fun hS => qJ <| zc (fun a w => ∃ (Ms : Int), Ss 220 [] [(0, .slice LG LM.length LJ), (1, .int .i64 LN), (10, .int .i64 Ms)] H [LQ, LY] F a w ∧ (qa.j2 K (qa.r K d) LF LN Ms).wp kr kp) (fun Sc NV => ?_) ?_
    ·refine xG ?_
     refine zt (fun NL a w => ∃ (Mf : Int) (Mt : Int), Ss 220 [] [(0, .slice LG LM.length LJ), (1, .int .i64 LN), (4, yA 57 [] []), (10, .int .i64 Mf), (11, .int .i64 Mt)] H [LQ, LY] F a w ∧ (qa.l1 K (qa.r K d) LF LN NL Mf Mt).wp kr kp) K ?_ ?_ ?_
     ·exact ⟨LO, LR, hS.to [0, 1] (by kernel_rfl) ⟨rfl, rfl, rfl, rfl, rfl, trivial⟩, hM⟩
     ·intro a w hI; obtain ⟨_, _, _, hM⟩ := hI; exact zm hM
     ·intro NL a w hI Sd Nf
      obtain ⟨Mf, Mt, hS, hM⟩ := hI
      rw [qa.l1] at hM
      refine wp_seq <| qr <| sM hS rfl fun hS => sM hS rfl fun hS => sB hS rfl fun hS => qJ <| qI hS rfl hM (fun NW hM => ?_) (fun NW hM => ?_)
      ·refine wp_skip ?_
       refine qf <| xG <| qr <| sM hS rfl fun hS => sM hS rfl fun hS => sB hS rfl fun hS => sO hS (u2 rfl Tryd.runUnderlying3 Tryd.runUnderlying39) rfl fun hS => sO hS (shr rfl rfl rfl) rfl fun hS => sO hS (u2 rfl Tryd.runUnderlying39 Tryd.runUnderlying3) rfl fun hS => zF (v := Value.int .i64) (x0 := (wr .i64 (xF .u64 (wr .u64 (qh (Mf + Mt))) (1 : Int)))) hS (xB rfl) rfl fun L3 a w hz hS => ?_
       have hM := qE hz hM; clear hz
       refine qJ <| wp_seq ?_
       obtain ⟨ME, hM⟩ := qH hM
       obtain ⟨MT, MU, NX, NY, NZ⟩ := LS.get ME
       obtain ⟨MF, hM⟩ := qH hM
       obtain ⟨MV, MW, N0, N1, N2⟩ := LS.get MF
       refine q8 (vals := [some (yA 57 [] []), some (.slice LG LM.length LJ), some (.int .i64 L3), some (z8 LG (Int.toNat L3 * 2)), some (.agg ⟨[.int .i64 ((rd LF L3).often_), .slice MT ((rd LF L3).symbols_).length MU]⟩), some (.slice LG LM.length LJ), some (.int .i64 LN), some (z8 LG (Int.toNat LN * 2)), some (.agg ⟨[.int .i64 ((rd LF LN).often_), .slice MV ((rd LF LN).symbols_).length MW]⟩), none, none]) hS xw rfl ?_
       intro l w ho hcl hA hst
       refine yV hA hst ho hcl xk xx 9 [0, 1, 2, 3, 4, 5, 6, 7, 8] rfl rfl rfl rfl rfl (by exact ⟨nM rfl, nM rfl, nM rfl, nQ rfl (by exact qV (xZ rfl rfl Tryd.runUnderlying110 Tryd.sizeOf112 (LX.rd (i := 1) rfl) zq.len rfl (LS.inb ME)) rfl), nQ rfl (by exact qV (qV (y4 rfl (LX.rd (i := 1) rfl) zq.len (LS.inb ME) Tryd.isAgg112 Tryd.sizeOf112 rfl) (congrArg (fun l => Value.agg ⟨l⟩) NX)) rfl), nM rfl, nM rfl, nQ rfl (by exact qV (xZ rfl rfl Tryd.runUnderlying110 Tryd.sizeOf112 (LX.rd (i := 1) rfl) zq.len rfl (LS.inb MF)) rfl), nQ rfl (by exact qV (qV (y4 rfl (LX.rd (i := 1) rfl) zq.len (LS.inb MF) Tryd.isAgg112 Tryd.sizeOf112 rfl) (congrArg (fun l => Value.agg ⟨l⟩) N0)) rfl), trivial⟩) fun D l a w ho hcl hav hpre hm hE hk hA hst => ?_
       have hS := (Ss.mk hE hst).env2 (e' := [(40, yA 57 [] []), (44, .agg ⟨[.int .i64 ((rd LF L3).often_), .slice MT ((rd LF L3).symbols_).length MU]⟩), (48, .agg ⟨[.int .i64 ((rd LF LN).often_), .slice MV ((rd LF LN).symbols_).length MW]⟩)]) ⟨rfl, rfl, rfl, trivial⟩
       refine qR rfl <| vw hS rfl rfl Tryd.call57 (jn hG K (qb.mk ((rd LF L3).often_) ((rd LF L3).symbols_)) (qb.mk ((rd LF LN).often_) ((rd LF LN).symbols_)) MT MU MV MW (NY.rdF (i := 0) rfl) NZ (N1.rdF (i := 0) rfl) N2 (hS.st.part 0 [0, 1] (by kernel_rfl)) (qv hM) (fun Ng w hM  hst => qG hS.ev hst.appF rfl fun hS => ?_))
       replace hS : Ss _ _ _ H [LQ, LY] F _ _ := hS
       refine qJ ?_
       replace hst := hS.st
       obtain ⟨hcl, hmust, hav2, hA⟩ := dn (vals' := [some (yA 57 [] []), some (.slice LG LM.length LJ), some (.int .i64 L3), some (z8 LG (Int.toNat L3 * 2)), some (.agg ⟨[.int .i64 ((rd LF L3).often_), .slice MT ((rd LF L3).symbols_).length MU]⟩), some (.slice LG LM.length LJ), some (.int .i64 LN), some (z8 LG (Int.toNat LN * 2)), some (.agg ⟨[.int .i64 ((rd LF LN).often_), .slice MV ((rd LF LN).symbols_).length MW]⟩), some (.int .i64 Ng), some (.bool (decide (Ng < (0 : Int))))]) 9 [(0, 9), (4, 9), (8, 9), (3, 4), (7, 8), (1, 3), (2, 3), (5, 7), (6, 7)] hA hcl hav hm hpre hk rfl rfl rfl rfl rfl rfl rfl
       clear hm hav
       refine x6 hA hst ho hcl hmust [10] rfl rfl rfl (by exact ⟨nB rfl, trivial⟩) fun a w hS => ?_
       replace hS := hS.env2 (e' := [(0, .slice LG LM.length LJ), (1, .int .i64 LN), (4, yA 57 [] []), (10, .int .i64 Mf), (11, .int .i64 Mt), (12, .int .i64 L3), (50, .bool (decide (Ng < (0 : Int))))]) ⟨rfl, rfl, rfl, rfl, rfl, rfl, rfl, trivial⟩
       refine qf <| qI hS rfl hM (fun N3 hM => ?_) (fun N3 hM => ?_)
       ·refine zI ?_
        refine sM hS rfl fun hS => sB hS rfl fun hS => zF (v := Value.int .i64) (x0 := (qh (L3 + (1 : Int)))) hS (xB rfl) rfl fun P0 a w hz hS => ?_
        have hM := qE hz hM; clear hz
        refine zg <| zw (qf ?_)
        exact Nf _ _ ⟨P0, Mt, hS.to [0, 1] (by kernel_rfl) ⟨rfl, rfl, rfl, rfl, rfl, trivial⟩, hM⟩
       ·refine zI ?_
        refine sM hS rfl fun hS => sA hS rfl fun hS => zg <| zw (qf ?_)
        exact Nf _ _ ⟨Mf, L3, hS.to [0, 1] (by kernel_rfl) ⟨rfl, rfl, rfl, rfl, rfl, trivial⟩, hM⟩
      ·refine wp_exit ?_
       refine qC (qC (q9 (qf ?_)))
       exact NV _ _ ⟨Mf, hS.to [0, 1] (by kernel_rfl) ⟨rfl, rfl, rfl, trivial⟩, hM⟩
    ·intro a w hI
     obtain ⟨Ms, hS, hM⟩ := hI
     rw [qa.j2] at hM
     refine wp_seq <| qr <| sM hS rfl fun hS => sA hS rfl fun hS => qJ <| xG <| zt (fun NM a w => ∃ (LU : List (zq 2)) (LK : (List qb)) (MX : qp) (LH : Int), Ss 220 [] [(0, .slice LG LU.length LJ), (10, .int .i64 Ms), (13, .int .i64 LH)] H [LQ, MX] F a w ∧ (xb 112 (zq.v (sz := 2)) 2 LG LU LJ MX) ∧ (zr (qg LQ) LK LU) ∧ (LU.length = LM.length) ∧ (qa.l3 K (qa.r K d) Ms NM LK LH).wp kr kp) K ?_ ?_ ?_
     ·exact ⟨LM, LF, LY, LN, hS.to [0, 1] (by kernel_rfl) ⟨rfl, rfl, rfl, trivial⟩, LX, LS, Mx, hM⟩
     ·intro a w hI; obtain ⟨_, _, _, _, _, _, _, _, hM⟩ := hI; exact zm hM
     ·intro NM a w hI Se N4
      obtain ⟨LU, LK, MX, LH, hS, Md, L5, Nh, hM⟩ := hI
      rw [qa.l3] at hM
      refine wp_seq <| qr <| sM hS rfl fun hS => sM hS rfl fun hS => sB hS rfl fun hS => sB hS rfl fun hS => qJ <| qI hS rfl hM (fun N5 hM => ?_) (fun N5 hM => ?_)
      ·refine wp_skip ?_
       refine qf <| wp_seq <| xG ?_
       obtain ⟨MG, hM⟩ := qH hM
       obtain ⟨Mg, Mh, N6, N7, N8⟩ := L5.get MG
       obtain ⟨Mi, hM⟩ := qH hM
       obtain ⟨Mj, Mk, N9, Pa, Pb⟩ := L5.get Mi
       refine q8 (vals := [some (.slice LG LU.length LJ), some (.int .i64 LH), some (.slice LG LU.length LJ), some (.int .i64 LH), some (.int .i64 (qh (LH + (1 : Int)))), some (.slice LG LU.length LJ), some (.int .i64 LH), some (.int .i64 (qh (LH + (1 : Int)))), some (z8 LG (Int.toNat (qh (LH + (1 : Int))) * 2)), some (.agg ⟨[.int .i64 ((rd LK (qh (LH + (1 : Int)))).often_), .slice Mg ((rd LK (qh (LH + (1 : Int)))).symbols_).length Mh]⟩), some (.slice LG LU.length LJ), some (.int .i64 LH), some (z8 LG (Int.toNat LH * 2)), some (.agg ⟨[.int .i64 ((rd LK LH).often_), .slice Mj ((rd LK LH).symbols_).length Mk]⟩), some (z8 LG (Int.toNat LH * 2)), none, none, none]) hS xw rfl ?_
       intro l w ho hcl hA hst
       refine yV hA hst ho hcl xk xx 15 [0, 1, 2, 3, 4, 5, 6, 7, 8, 9, 10, 11, 12, 13, 14] rfl rfl rfl rfl rfl (by exact ⟨nM rfl, nM rfl, nM rfl, nM rfl, nB rfl, nM rfl, nM rfl, nB rfl, nQ rfl (by exact qV (xZ rfl rfl Tryd.runUnderlying110 Tryd.sizeOf112 (Md.rd (i := 1) rfl) zq.len rfl (L5.inb MG)) rfl), nQ rfl (by exact qV (qV (y4 rfl (Md.rd (i := 1) rfl) zq.len (L5.inb MG) Tryd.isAgg112 Tryd.sizeOf112 rfl) (congrArg (fun l => Value.agg ⟨l⟩) N6)) rfl), nM rfl, nM rfl, nQ rfl (by exact qV (xZ rfl rfl Tryd.runUnderlying110 Tryd.sizeOf112 (Md.rd (i := 1) rfl) zq.len rfl (L5.inb Mi)) rfl), nQ rfl (by exact qV (qV (y4 rfl (Md.rd (i := 1) rfl) zq.len (L5.inb Mi) Tryd.isAgg112 Tryd.sizeOf112 rfl) (congrArg (fun l => Value.agg ⟨l⟩) N9)) rfl), nQ rfl (by exact qV (xZ rfl rfl Tryd.runUnderlying110 Tryd.sizeOf112 (Md.rd (i := 1) rfl) zq.len rfl (L5.inb Mi)) rfl), trivial⟩) fun D l a w ho hcl hav hpre hm hE hk hA hst => ?_
       have hS := (Ss.mk hE hst).env2 (e' := [(70, .agg ⟨[.int .i64 ((rd LK (qh (LH + (1 : Int)))).often_), .slice Mg ((rd LK (qh (LH + (1 : Int)))).symbols_).length Mh]⟩), (75, z8 LG (Int.toNat LH * 2))]) ⟨rfl, rfl, trivial⟩
       refine qR rfl <| QJ (i := LH) (sz := 2) 1 (⟨[.int .i64 ((rd LK (qh (LH + (1 : Int)))).often_), .slice Mg ((rd LK (qh (LH + (1 : Int)))).symbols_).length Mh], by simp, by simp [Value.oneCell']⟩ : zq 2) hS rfl rfl Md rfl Tryd.sizeOf112 rfl (L5.inb Mi) fun Ni w Sf hz Nj hS => ?_
       obtain ⟨Pc, hzm⟩ := js (LK.set (Int.toNat LH) (qb.mk ((rd LK (qh (LH + (1 : Int)))).often_) ((rd LK (qh (LH + (1 : Int)))).symbols_)))
       replace hM := qE hzm hM
       have My := zr.set (x := (qb.mk ((rd LK (qh (LH + (1 : Int)))).often_) ((rd LK (qh (LH + (1 : Int)))).symbols_))) (r := (⟨[.int .i64 ((rd LK (qh (LH + (1 : Int)))).often_), .slice Mg ((rd LK (qh (LH + (1 : Int)))).symbols_).length Mh], by simp, by simp [Value.oneCell']⟩ : zq 2)) (Int.toNat LH) L5 (show qg LQ _ _ from ⟨Mg, Mh, rfl, N7, N8⟩)
       have MH : Ni.length = LU.length := by rw [hz]; exact List.length_set ..
       rw [← hz, ← hzm] at My; clear hz hzm
       have Pd := Eq.trans MH Nh
       refine qJ ?_
       replace hst := hS.st
       obtain ⟨Nk, hM⟩ := qH hM
       obtain ⟨hcl, hmust, hav2, hA⟩ := Zd (vals' := [some (.slice LG LU.length LJ), some (.int .i64 LH), some (.slice LG LU.length LJ), some (.int .i64 LH), some (.int .i64 (qh (LH + (1 : Int)))), some (.slice LG LU.length LJ), some (.int .i64 LH), some (.int .i64 (qh (LH + (1 : Int)))), some (z8 LG (Int.toNat (qh (LH + (1 : Int))) * 2)), some (.agg ⟨[.int .i64 ((rd LK (qh (LH + (1 : Int)))).often_), .slice Mg ((rd LK (qh (LH + (1 : Int)))).symbols_).length Mh]⟩), some (.slice LG LU.length LJ), some (.int .i64 LH), some (z8 LG (Int.toNat LH * 2)), some (.agg ⟨[.int .i64 ((rd LK LH).often_), .slice Mj ((rd LK LH).symbols_).length Mk]⟩), some (z8 LG (Int.toNat LH * 2)), some undef, some (z8 LG (Int.toNat (qh (LH + (1 : Int))) * 2)), none]) 15 [(0, 15), (1, 15), (5, 15), (6, 15), (7, 15), (8, 15), (9, 15), (13, 15), (14, 15), (12, 13), (10, 12), (11, 12)] hA hcl hav hm hpre rfl rfl rfl rfl rfl
       clear hm hav
       refine yV hA hst ho hcl hav2 hmust 17 [2, 3, 4, 16] rfl rfl rfl rfl rfl (by exact ⟨nM rfl, nM rfl, nB rfl, nQ rfl (by exact qV (xZ (Jc MH rfl) rfl Tryd.runUnderlying110 Tryd.sizeOf112 (Nj.rd (i := 1) rfl) zq.len rfl (My.inb Nk)) rfl), trivial⟩) fun D l a w ho hcl hav hpre hm hE hk hA hst => ?_
       have hS := (Ss.mk hE hst).env2 (e' := [(74, .agg ⟨[.int .i64 ((rd LK LH).often_), .slice Mj ((rd LK LH).symbols_).length Mk]⟩), (76, z8 LG (Int.toNat (qh (LH + (1 : Int))) * 2))]) ⟨rfl, rfl, trivial⟩
       refine qR rfl <| QJ (i := (qh (LH + (1 : Int)))) (sz := 2) 1 (⟨[.int .i64 ((rd LK LH).often_), .slice Mj ((rd LK LH).symbols_).length Mk], by simp, by simp [Value.oneCell']⟩ : zq 2) hS rfl rfl Nj rfl Tryd.sizeOf112 rfl (My.inb Nk) fun MI w P1 hz Pe hS => ?_
       obtain ⟨Pf, hzm⟩ := js (Pc.set (Int.toNat (qh (LH + (1 : Int)))) (qb.mk ((rd LK LH).often_) ((rd LK LH).symbols_)))
       replace hM := qE hzm hM
       have Nl := zr.set (x := (qb.mk ((rd LK LH).often_) ((rd LK LH).symbols_))) (r := (⟨[.int .i64 ((rd LK LH).often_), .slice Mj ((rd LK LH).symbols_).length Mk], by simp, by simp [Value.oneCell']⟩ : zq 2)) (Int.toNat (qh (LH + (1 : Int)))) My (show qg LQ _ _ from ⟨Mj, Mk, rfl, Pa, Pb⟩)
       have Nm : MI.length = Ni.length := by rw [hz]; exact List.length_set ..
       rw [← hz, ← hzm] at Nl; clear hz hzm
       have Pg := Eq.trans Nm Pd
       refine qJ ?_
       replace hst := hS.st
       obtain ⟨hcl, hmust, hav2, hA⟩ := Zd (vals' := [some (.slice LG LU.length LJ), some (.int .i64 LH), some (.slice LG LU.length LJ), some (.int .i64 LH), some (.int .i64 (qh (LH + (1 : Int)))), some (.slice LG LU.length LJ), some (.int .i64 LH), some (.int .i64 (qh (LH + (1 : Int)))), some (z8 LG (Int.toNat (qh (LH + (1 : Int))) * 2)), some (.agg ⟨[.int .i64 ((rd LK (qh (LH + (1 : Int)))).often_), .slice Mg ((rd LK (qh (LH + (1 : Int)))).symbols_).length Mh]⟩), some (.slice LG LU.length LJ), some (.int .i64 LH), some (z8 LG (Int.toNat LH * 2)), some (.agg ⟨[.int .i64 ((rd LK LH).often_), .slice Mj ((rd LK LH).symbols_).length Mk]⟩), some (z8 LG (Int.toNat LH * 2)), some undef, some (z8 LG (Int.toNat (qh (LH + (1 : Int))) * 2)), some undef]) 17 [(0, 17), (1, 17), (2, 17), (3, 17), (4, 17), (5, 17), (6, 17), (7, 17), (8, 17), (9, 17), (10, 17), (11, 17), (12, 17), (13, 17), (14, 17), (15, 17), (16, 17)] hA hcl hav hm hpre rfl rfl rfl rfl rfl
       clear hm hav
       refine x6 hA hst ho hcl hmust [] rfl rfl rfl trivial fun a w hS => ?_
       replace hS := hS.env2 (e' := [(0, .slice LG MI.length LJ), (10, .int .i64 Ms), (13, .int .i64 LH)]) ⟨(YY (u := .slice LG LU.length LJ) rfl (by rw [Nm, MH])), rfl, rfl, trivial⟩
       refine zw (qf ?_)
       refine zI <| sM hS rfl fun hS => sB hS rfl fun hS => zF (v := Value.int .i64) (x0 := (qh (LH + (1 : Int)))) hS (xB rfl) rfl fun Ph a w hz hS => ?_
       have hM := qE hz hM; clear hz
       refine zg <| qf ?_
       exact N4 _ _ ⟨MI, Pf, P1, Ph, hS.to [0, 1] (by kernel_rfl) ⟨rfl, rfl, rfl, trivial⟩, Pe, Nl, Pg, hM⟩
      ·refine wp_exit ?_
       refine qC (qC (q9 (qf ?_)))
       refine wp_ret <| zE ?_
       exact zX (rs := []) hS rfl rfl (hret LU LK MX _ (zn hM) Md L5 Nh (hS.st.pick [0, 1] (by kernel_rfl)))
   ·refine wp_skip ?_
    refine qf ?_
    exact NT _ _ ⟨hS.to [0, 1] (by kernel_rfl) ⟨rfl, rfl, rfl, rfl, rfl, trivial⟩, hM⟩
  ·intro a w hI
   obtain ⟨hS, hM⟩ := hI
   rw [qa.j4] at hM
   refine zc (fun a w => Ss 220 [] [(0, .slice LG LM.length LJ), (1, .int .i64 LN), (2, .int .i64 LO), (3, .int .i64 LR), (4, yA 57 [] [])] H [LQ, LY] F a w ∧ (qa.j8 K (qa.r K d) LF LN LO LR).wp kr kp) (fun Sg Pi => ?_) ?_
   ·refine wp_seq ?_
    refine zI <| sM hS rfl fun hS => sM hS rfl fun hS => sB hS rfl fun hS => sB hS rfl fun hS => qJ <| qI hS rfl hM (fun Pj hM => ?_) (fun Pj hM => ?_)
    ·refine wp_seq ?_
     refine zI <| sM hS rfl fun hS => sA hS rfl fun hS => qJ <| qr <| sM hS rfl fun hS => sA hS rfl fun hS => qJ <| zc (fun a w => ∃ (Mu : Int), Ss 220 [] [(0, .slice LG LM.length LJ), (2, .int .i64 LO), (14, .int .i64 Mu)] H [LQ, LY] F a w ∧ (qa.j6 K (qa.r K d) LF LO Mu).wp kr kp) (fun Sh Pk => ?_) ?_
     ·refine xG ?_
      refine zt (fun NN a w => ∃ (Ml : Int) (Mv : Int), Ss 220 [] [(0, .slice LG LM.length LJ), (2, .int .i64 LO), (4, yA 57 [] []), (14, .int .i64 Ml), (15, .int .i64 Mv)] H [LQ, LY] F a w ∧ (qa.l5 K (qa.r K d) LF LO NN Ml Mv).wp kr kp) K ?_ ?_ ?_
      ·exact ⟨LN, LO, hS.to [0, 1] (by kernel_rfl) ⟨rfl, rfl, rfl, rfl, rfl, trivial⟩, hM⟩
      ·intro a w hI; obtain ⟨_, _, _, hM⟩ := hI; exact zm hM
      ·intro NN a w hI Si Nn
       obtain ⟨Ml, Mv, hS, hM⟩ := hI
       rw [qa.l5] at hM
       refine wp_seq <| qr <| sM hS rfl fun hS => sM hS rfl fun hS => sB hS rfl fun hS => qJ <| qI hS rfl hM (fun Pm hM => ?_) (fun Pm hM => ?_)
       ·refine wp_skip ?_
        refine qf <| xG <| qr <| sM hS rfl fun hS => sM hS rfl fun hS => sB hS rfl fun hS => sO hS (u2 rfl Tryd.runUnderlying3 Tryd.runUnderlying39) rfl fun hS => sO hS (shr rfl rfl rfl) rfl fun hS => sO hS (u2 rfl Tryd.runUnderlying39 Tryd.runUnderlying3) rfl fun hS => zF (v := Value.int .i64) (x0 := (wr .i64 (xF .u64 (wr .u64 (qh (Ml + Mv))) (1 : Int)))) hS (xB rfl) rfl fun L4 a w hz hS => ?_
        have hM := qE hz hM; clear hz
        refine qJ <| wp_seq ?_
        obtain ⟨MJ, hM⟩ := qH hM
        obtain ⟨MY, MZ, Pn, Po, Pp⟩ := LS.get MJ
        obtain ⟨MK, hM⟩ := qH hM
        obtain ⟨M0, M3, Pq, Pr, Ps⟩ := LS.get MK
        refine q8 (vals := [some (yA 57 [] []), some (.slice LG LM.length LJ), some (.int .i64 LO), some (z8 LG (Int.toNat LO * 2)), some (.agg ⟨[.int .i64 ((rd LF LO).often_), .slice MY ((rd LF LO).symbols_).length MZ]⟩), some (.slice LG LM.length LJ), some (.int .i64 L4), some (z8 LG (Int.toNat L4 * 2)), some (.agg ⟨[.int .i64 ((rd LF L4).often_), .slice M0 ((rd LF L4).symbols_).length M3]⟩), none, none, none]) hS xw rfl ?_
        intro l w ho hcl hA hst
        refine yV hA hst ho hcl xk xx 9 [0, 1, 2, 3, 4, 5, 6, 7, 8] rfl rfl rfl rfl rfl (by exact ⟨nM rfl, nM rfl, nM rfl, nQ rfl (by exact qV (xZ rfl rfl Tryd.runUnderlying110 Tryd.sizeOf112 (LX.rd (i := 1) rfl) zq.len rfl (LS.inb MJ)) rfl), nQ rfl (by exact qV (qV (y4 rfl (LX.rd (i := 1) rfl) zq.len (LS.inb MJ) Tryd.isAgg112 Tryd.sizeOf112 rfl) (congrArg (fun l => Value.agg ⟨l⟩) Pn)) rfl), nM rfl, nM rfl, nQ rfl (by exact qV (xZ rfl rfl Tryd.runUnderlying110 Tryd.sizeOf112 (LX.rd (i := 1) rfl) zq.len rfl (LS.inb MK)) rfl), nQ rfl (by exact qV (qV (y4 rfl (LX.rd (i := 1) rfl) zq.len (LS.inb MK) Tryd.isAgg112 Tryd.sizeOf112 rfl) (congrArg (fun l => Value.agg ⟨l⟩) Pq)) rfl), trivial⟩) fun D l a w ho hcl hav hpre hm hE hk hA hst => ?_
        have hS := (Ss.mk hE hst).env2 (e' := [(92, yA 57 [] []), (96, .agg ⟨[.int .i64 ((rd LF LO).often_), .slice MY ((rd LF LO).symbols_).length MZ]⟩), (100, .agg ⟨[.int .i64 ((rd LF L4).often_), .slice M0 ((rd LF L4).symbols_).length M3]⟩)]) ⟨rfl, rfl, rfl, trivial⟩
        refine qR rfl <| vw hS rfl rfl Tryd.call57 (jn hG K (qb.mk ((rd LF LO).often_) ((rd LF LO).symbols_)) (qb.mk ((rd LF L4).often_) ((rd LF L4).symbols_)) MY MZ M0 M3 (Po.rdF (i := 0) rfl) Pp (Pr.rdF (i := 0) rfl) Ps (hS.st.part 0 [0, 1] (by kernel_rfl)) (qv hM) (fun M4 w hM  hst => qG hS.ev hst.appF rfl fun hS => ?_))
        replace hS : Ss _ _ _ H [LQ, LY] F _ _ := hS
        refine qJ ?_
        replace hst := hS.st
        obtain ⟨hcl, hmust, hav2, hA⟩ := dn (vals' := [some (yA 57 [] []), some (.slice LG LM.length LJ), some (.int .i64 LO), some (z8 LG (Int.toNat LO * 2)), some (.agg ⟨[.int .i64 ((rd LF LO).often_), .slice MY ((rd LF LO).symbols_).length MZ]⟩), some (.slice LG LM.length LJ), some (.int .i64 L4), some (z8 LG (Int.toNat L4 * 2)), some (.agg ⟨[.int .i64 ((rd LF L4).often_), .slice M0 ((rd LF L4).symbols_).length M3]⟩), some (.int .i64 M4), some (.bool (decide (M4 < (0 : Int)))), some (.bool (!(decide (M4 < (0 : Int)))))]) 9 [(0, 9), (4, 9), (8, 9), (3, 4), (7, 8), (1, 3), (2, 3), (5, 7), (6, 7)] hA hcl hav hm hpre hk rfl rfl rfl rfl rfl rfl rfl
        clear hm hav
        refine x6 hA hst ho hcl hmust [10, 11] rfl rfl rfl (by exact ⟨nB rfl, nQ rfl (by exact qV (un rfl rfl) rfl), trivial⟩) fun a w hS => ?_
        replace hS := hS.env2 (e' := [(0, .slice LG LM.length LJ), (2, .int .i64 LO), (4, yA 57 [] []), (14, .int .i64 Ml), (15, .int .i64 Mv), (16, .int .i64 L4), (103, .bool (!(decide (M4 < (0 : Int)))))]) ⟨rfl, rfl, rfl, rfl, rfl, rfl, rfl, trivial⟩
        refine qf <| qI hS rfl hM (fun Pt hM => ?_) (fun Pt hM => ?_)
        ·refine zI ?_
         refine sM hS rfl fun hS => sB hS rfl fun hS => zF (v := Value.int .i64) (x0 := (qh (L4 + (1 : Int)))) hS (xB rfl) rfl fun P2 a w hz hS => ?_
         have hM := qE hz hM; clear hz
         refine zg <| zw (qf ?_)
         exact Nn _ _ ⟨P2, Mv, hS.to [0, 1] (by kernel_rfl) ⟨rfl, rfl, rfl, rfl, rfl, trivial⟩, hM⟩
        ·refine zI ?_
         refine sM hS rfl fun hS => sA hS rfl fun hS => zg <| zw (qf ?_)
         exact Nn _ _ ⟨Ml, L4, hS.to [0, 1] (by kernel_rfl) ⟨rfl, rfl, rfl, rfl, rfl, trivial⟩, hM⟩
       ·refine wp_exit ?_
        refine qC (qC (q9 (qf ?_)))
        exact Pk _ _ ⟨Ml, hS.to [0, 1] (by kernel_rfl) ⟨rfl, rfl, rfl, trivial⟩, hM⟩
     ·intro a w hI
      obtain ⟨Mu, hS, hM⟩ := hI
      rw [qa.j6] at hM
      refine wp_seq <| qr <| sM hS rfl fun hS => sA hS rfl fun hS => qJ <| xG <| zt (fun NO a w => ∃ (LV : List (zq 2)) (LL : (List qb)) (M5 : qp) (LI : Int), Ss 220 [] [(0, .slice LG LV.length LJ), (14, .int .i64 Mu), (17, .int .i64 LI)] H [LQ, M5] F a w ∧ (xb 112 (zq.v (sz := 2)) 2 LG LV LJ M5) ∧ (zr (qg LQ) LL LV) ∧ (LV.length = LM.length) ∧ (qa.l7 K (qa.r K d) Mu NO LL LI).wp kr kp) K ?_ ?_ ?_
      ·exact ⟨LM, LF, LY, LO, hS.to [0, 1] (by kernel_rfl) ⟨rfl, rfl, rfl, trivial⟩, LX, LS, Mx, hM⟩
      ·intro a w hI; obtain ⟨_, _, _, _, _, _, _, _, hM⟩ := hI; exact zm hM
      ·intro NO a w hI Sj Pv
       obtain ⟨LV, LL, M5, LI, hS, Me, L6, No, hM⟩ := hI
       rw [qa.l7] at hM
       refine wp_seq <| qr <| sM hS rfl fun hS => sM hS rfl fun hS => sB hS rfl fun hS => qJ <| qI hS rfl hM (fun Pw hM => ?_) (fun Pw hM => ?_)
       ·refine wp_skip ?_
        refine qf <| wp_seq <| xG ?_
        obtain ⟨ML, hM⟩ := qH hM
        obtain ⟨Mm, Mn, Px, Py, Pz⟩ := L6.get ML
        obtain ⟨Mp, hM⟩ := qH hM
        obtain ⟨Mq, Mr, PA, PB, PC⟩ := L6.get Mp
        refine q8 (vals := [some (.slice LG LV.length LJ), some (.int .i64 LI), some (.slice LG LV.length LJ), some (.int .i64 LI), some (.int .i64 (qh (LI - (1 : Int)))), some (.slice LG LV.length LJ), some (.int .i64 LI), some (.int .i64 (qh (LI - (1 : Int)))), some (z8 LG (Int.toNat (qh (LI - (1 : Int))) * 2)), some (.agg ⟨[.int .i64 ((rd LL (qh (LI - (1 : Int)))).often_), .slice Mm ((rd LL (qh (LI - (1 : Int)))).symbols_).length Mn]⟩), some (.slice LG LV.length LJ), some (.int .i64 LI), some (z8 LG (Int.toNat LI * 2)), some (.agg ⟨[.int .i64 ((rd LL LI).often_), .slice Mq ((rd LL LI).symbols_).length Mr]⟩), some (z8 LG (Int.toNat LI * 2)), none, none, none]) hS xw rfl ?_
        intro l w ho hcl hA hst
        refine yV hA hst ho hcl xk xx 15 [0, 1, 2, 3, 4, 5, 6, 7, 8, 9, 10, 11, 12, 13, 14] rfl rfl rfl rfl rfl (by exact ⟨nM rfl, nM rfl, nM rfl, nM rfl, nB rfl, nM rfl, nM rfl, nB rfl, nQ rfl (by exact qV (xZ rfl rfl Tryd.runUnderlying110 Tryd.sizeOf112 (Me.rd (i := 1) rfl) zq.len rfl (L6.inb ML)) rfl), nQ rfl (by exact qV (qV (y4 rfl (Me.rd (i := 1) rfl) zq.len (L6.inb ML) Tryd.isAgg112 Tryd.sizeOf112 rfl) (congrArg (fun l => Value.agg ⟨l⟩) Px)) rfl), nM rfl, nM rfl, nQ rfl (by exact qV (xZ rfl rfl Tryd.runUnderlying110 Tryd.sizeOf112 (Me.rd (i := 1) rfl) zq.len rfl (L6.inb Mp)) rfl), nQ rfl (by exact qV (qV (y4 rfl (Me.rd (i := 1) rfl) zq.len (L6.inb Mp) Tryd.isAgg112 Tryd.sizeOf112 rfl) (congrArg (fun l => Value.agg ⟨l⟩) PA)) rfl), nQ rfl (by exact qV (xZ rfl rfl Tryd.runUnderlying110 Tryd.sizeOf112 (Me.rd (i := 1) rfl) zq.len rfl (L6.inb Mp)) rfl), trivial⟩) fun D l a w ho hcl hav hpre hm hE hk hA hst => ?_
        have hS := (Ss.mk hE hst).env2 (e' := [(122, .agg ⟨[.int .i64 ((rd LL (qh (LI - (1 : Int)))).often_), .slice Mm ((rd LL (qh (LI - (1 : Int)))).symbols_).length Mn]⟩), (127, z8 LG (Int.toNat LI * 2))]) ⟨rfl, rfl, trivial⟩
        refine qR rfl <| QJ (i := LI) (sz := 2) 1 (⟨[.int .i64 ((rd LL (qh (LI - (1 : Int)))).often_), .slice Mm ((rd LL (qh (LI - (1 : Int)))).symbols_).length Mn], by simp, by simp [Value.oneCell']⟩ : zq 2) hS rfl rfl Me rfl Tryd.sizeOf112 rfl (L6.inb Mp) fun Np w Sk hz Nq hS => ?_
        obtain ⟨PD, hzm⟩ := js (LL.set (Int.toNat LI) (qb.mk ((rd LL (qh (LI - (1 : Int)))).often_) ((rd LL (qh (LI - (1 : Int)))).symbols_)))
        replace hM := qE hzm hM
        have Mz := zr.set (x := (qb.mk ((rd LL (qh (LI - (1 : Int)))).often_) ((rd LL (qh (LI - (1 : Int)))).symbols_))) (r := (⟨[.int .i64 ((rd LL (qh (LI - (1 : Int)))).often_), .slice Mm ((rd LL (qh (LI - (1 : Int)))).symbols_).length Mn], by simp, by simp [Value.oneCell']⟩ : zq 2)) (Int.toNat LI) L6 (show qg LQ _ _ from ⟨Mm, Mn, rfl, Py, Pz⟩)
        have MM : Np.length = LV.length := by rw [hz]; exact List.length_set ..
        rw [← hz, ← hzm] at Mz; clear hz hzm
        have PE := Eq.trans MM No
        refine qJ ?_
        replace hst := hS.st
        obtain ⟨Nr, hM⟩ := qH hM
        obtain ⟨hcl, hmust, hav2, hA⟩ := Zd (vals' := [some (.slice LG LV.length LJ), some (.int .i64 LI), some (.slice LG LV.length LJ), some (.int .i64 LI), some (.int .i64 (qh (LI - (1 : Int)))), some (.slice LG LV.length LJ), some (.int .i64 LI), some (.int .i64 (qh (LI - (1 : Int)))), some (z8 LG (Int.toNat (qh (LI - (1 : Int))) * 2)), some (.agg ⟨[.int .i64 ((rd LL (qh (LI - (1 : Int)))).often_), .slice Mm ((rd LL (qh (LI - (1 : Int)))).symbols_).length Mn]⟩), some (.slice LG LV.length LJ), some (.int .i64 LI), some (z8 LG (Int.toNat LI * 2)), some (.agg ⟨[.int .i64 ((rd LL LI).often_), .slice Mq ((rd LL LI).symbols_).length Mr]⟩), some (z8 LG (Int.toNat LI * 2)), some undef, some (z8 LG (Int.toNat (qh (LI - (1 : Int))) * 2)), none]) 15 [(0, 15), (1, 15), (5, 15), (6, 15), (7, 15), (8, 15), (9, 15), (13, 15), (14, 15), (12, 13), (10, 12), (11, 12)] hA hcl hav hm hpre rfl rfl rfl rfl rfl
        clear hm hav
        refine yV hA hst ho hcl hav2 hmust 17 [2, 3, 4, 16] rfl rfl rfl rfl rfl (by exact ⟨nM rfl, nM rfl, nB rfl, nQ rfl (by exact qV (xZ (Jc MM rfl) rfl Tryd.runUnderlying110 Tryd.sizeOf112 (Nq.rd (i := 1) rfl) zq.len rfl (Mz.inb Nr)) rfl), trivial⟩) fun D l a w ho hcl hav hpre hm hE hk hA hst => ?_
        have hS := (Ss.mk hE hst).env2 (e' := [(126, .agg ⟨[.int .i64 ((rd LL LI).often_), .slice Mq ((rd LL LI).symbols_).length Mr]⟩), (128, z8 LG (Int.toNat (qh (LI - (1 : Int))) * 2))]) ⟨rfl, rfl, trivial⟩
        refine qR rfl <| QJ (i := (qh (LI - (1 : Int)))) (sz := 2) 1 (⟨[.int .i64 ((rd LL LI).often_), .slice Mq ((rd LL LI).symbols_).length Mr], by simp, by simp [Value.oneCell']⟩ : zq 2) hS rfl rfl Nq rfl Tryd.sizeOf112 rfl (Mz.inb Nr) fun MN w P3 hz PF hS => ?_
        obtain ⟨PG, hzm⟩ := js (PD.set (Int.toNat (qh (LI - (1 : Int)))) (qb.mk ((rd LL LI).often_) ((rd LL LI).symbols_)))
        replace hM := qE hzm hM
        have Ns := zr.set (x := (qb.mk ((rd LL LI).often_) ((rd LL LI).symbols_))) (r := (⟨[.int .i64 ((rd LL LI).often_), .slice Mq ((rd LL LI).symbols_).length Mr], by simp, by simp [Value.oneCell']⟩ : zq 2)) (Int.toNat (qh (LI - (1 : Int)))) Mz (show qg LQ _ _ from ⟨Mq, Mr, rfl, PB, PC⟩)
        have Nt : MN.length = Np.length := by rw [hz]; exact List.length_set ..
        rw [← hz, ← hzm] at Ns; clear hz hzm
        have PH := Eq.trans Nt PE
        refine qJ ?_
        replace hst := hS.st
        obtain ⟨hcl, hmust, hav2, hA⟩ := Zd (vals' := [some (.slice LG LV.length LJ), some (.int .i64 LI), some (.slice LG LV.length LJ), some (.int .i64 LI), some (.int .i64 (qh (LI - (1 : Int)))), some (.slice LG LV.length LJ), some (.int .i64 LI), some (.int .i64 (qh (LI - (1 : Int)))), some (z8 LG (Int.toNat (qh (LI - (1 : Int))) * 2)), some (.agg ⟨[.int .i64 ((rd LL (qh (LI - (1 : Int)))).often_), .slice Mm ((rd LL (qh (LI - (1 : Int)))).symbols_).length Mn]⟩), some (.slice LG LV.length LJ), some (.int .i64 LI), some (z8 LG (Int.toNat LI * 2)), some (.agg ⟨[.int .i64 ((rd LL LI).often_), .slice Mq ((rd LL LI).symbols_).length Mr]⟩), some (z8 LG (Int.toNat LI * 2)), some undef, some (z8 LG (Int.toNat (qh (LI - (1 : Int))) * 2)), some undef]) 17 [(0, 17), (1, 17), (2, 17), (3, 17), (4, 17), (5, 17), (6, 17), (7, 17), (8, 17), (9, 17), (10, 17), (11, 17), (12, 17), (13, 17), (14, 17), (15, 17), (16, 17)] hA hcl hav hm hpre rfl rfl rfl rfl rfl
        clear hm hav
        refine x6 hA hst ho hcl hmust [] rfl rfl rfl trivial fun a w hS => ?_
        replace hS := hS.env2 (e' := [(0, .slice LG MN.length LJ), (14, .int .i64 Mu), (17, .int .i64 LI)]) ⟨(YY (u := .slice LG LV.length LJ) rfl (by rw [Nt, MM])), rfl, rfl, trivial⟩
        refine zw (qf ?_)
        refine zI <| sM hS rfl fun hS => sB hS rfl fun hS => zF (v := Value.int .i64) (x0 := (qh (LI - (1 : Int)))) hS (xB rfl) rfl fun PI a w hz hS => ?_
        have hM := qE hz hM; clear hz
        refine zg <| qf ?_
        exact Pv _ _ ⟨MN, PG, P3, PI, hS.to [0, 1] (by kernel_rfl) ⟨rfl, rfl, rfl, trivial⟩, PF, Ns, PH, hM⟩
       ·refine wp_exit ?_
        refine qC (qC (q9 (qf ?_)))
        refine wp_ret <| zE ?_
        exact zX (rs := []) hS rfl rfl (hret LV LL M5 _ (zn hM) Me L6 No (hS.st.pick [0, 1] (by kernel_rfl)))
    ·refine wp_skip ?_
     refine qf ?_
     exact Pi _ _ ⟨hS.to [0, 1] (by kernel_rfl) ⟨rfl, rfl, rfl, rfl, rfl, trivial⟩, hM⟩
   ·intro a w hI
    obtain ⟨hS, hM⟩ := hI
    rw [qa.j8] at hM
    refine qr <| sM hS rfl fun hS => sM hS rfl fun hS => sB hS rfl fun hS => sO hS (u2 rfl Tryd.runUnderlying3 Tryd.runUnderlying39) rfl fun hS => sO hS (shr rfl rfl rfl) rfl fun hS => sO hS (u2 rfl Tryd.runUnderlying39 Tryd.runUnderlying3) rfl fun hS => zF (v := Value.int .i64) (x0 := (wr .i64 (xF .u64 (wr .u64 (qh (LN + LR))) (1 : Int)))) hS (xB rfl) rfl fun LT a w hz hS => ?_
    have hM := qE hz hM; clear hz
    refine qJ <| qr <| sM hS rfl fun hS => sM hS rfl fun hS => sB hS rfl fun hS => zF (v := Value.int .i64) (x0 := (qh (LT + LO))) hS (xB rfl) rfl fun L7 a w hz hS => ?_
    have hM := qE hz hM; clear hz
    refine qJ <| qr <| sA hS rfl fun hS => sA hS rfl fun hS => qJ <| zc (fun a w => ∃ (Mc : Int) (M6 : Int), Ss 220 [] [(0, .slice LG LM.length LJ), (1, .int .i64 LN), (2, .int .i64 LO), (3, .int .i64 LR), (4, yA 57 [] []), (18, .int .i64 LT), (19, .int .i64 L7), (20, .int .i64 Mc), (21, .int .i64 M6)] H [LQ, LY] F a w ∧ (qa.j9 K (qa.r K d) LF LN LO LR LT L7 Mc M6).wp kr kp) (fun Sm Nu => ?_) ?_
    ·refine wp_seq ?_
     refine zI <| sM hS rfl fun hS => sM hS rfl fun hS => sB hS rfl fun hS => qJ <| qI hS rfl hM (fun PJ hM => ?_) (fun PJ hM => ?_)
     ·refine wp_seq ?_
      refine zI <| sM hS rfl fun hS => sM hS rfl fun hS => sB hS rfl fun hS => zF (v := Value.int .i64) (x0 := (qh (L7 - LR))) hS (xB rfl) rfl fun Nc a w hz hS => ?_
      have hM := qE hz hM; clear hz
      refine qJ <| zI <| sM hS rfl fun hS => sA hS rfl fun hS => zg <| qf ?_
      exact Nu _ _ ⟨Nc, LT, hS.to [0, 1] (by kernel_rfl) ⟨rfl, rfl, rfl, rfl, rfl, rfl, rfl, rfl, rfl, trivial⟩, hM⟩
     ·refine wp_seq ?_
      refine zI <| sM hS rfl fun hS => sA hS rfl fun hS => qJ <| zI <| sM hS rfl fun hS => sA hS rfl fun hS => zg <| qf ?_
      exact Nu _ _ ⟨LN, LO, hS.to [0, 1] (by kernel_rfl) ⟨rfl, rfl, rfl, rfl, rfl, rfl, rfl, rfl, rfl, trivial⟩, hM⟩
    ·intro a w hI
     obtain ⟨Mc, M6, hS, hM⟩ := hI
     rw [qa.j9] at hM
     refine qr <| sM hS rfl fun hS => sB hS rfl fun hS => zF (v := Value.int .i64) (x0 := (qh (L7 - (1 : Int)))) hS (xB rfl) rfl fun L1 a w hz hS => ?_
     have hM := qE hz hM; clear hz
     refine qJ <| zc (fun a w => ∃ (LW : Int), Ss 220 [] [(0, .slice LG LM.length LJ), (1, .int .i64 LN), (2, .int .i64 LO), (3, .int .i64 LR), (4, yA 57 [] []), (18, .int .i64 LT), (19, .int .i64 L7), (20, .int .i64 LW)] H [LQ, LY] F a w ∧ (qa.j11 K (qa.r K d) LF LN LO LR LT L7 LW).wp kr kp) (fun Sn PL => ?_) ?_
     ·refine xG ?_
      refine zt (fun NP a w => ∃ (L0 : Int) (Mw : Int), Ss 220 [] [(0, .slice LG LM.length LJ), (1, .int .i64 LN), (2, .int .i64 LO), (3, .int .i64 LR), (4, yA 57 [] []), (18, .int .i64 LT), (19, .int .i64 L7), (20, .int .i64 L0), (21, .int .i64 Mw), (22, .int .i64 L1)] H [LQ, LY] F a w ∧ (qa.l10 K (qa.r K d) LF LN LO LR LT L7 L1 NP L0 Mw).wp kr kp) K ?_ ?_ ?_
      ·exact ⟨Mc, M6, hS.to [0, 1] (by kernel_rfl) ⟨rfl, rfl, rfl, rfl, rfl, rfl, rfl, rfl, rfl, rfl, trivial⟩, hM⟩
      ·intro a w hI; obtain ⟨_, _, _, hM⟩ := hI; exact zm hM
      ·intro NP a w hI So Nv
       obtain ⟨L0, Mw, hS, hM⟩ := hI
       rw [qa.l10] at hM
       refine wp_seq <| qr <| sM hS rfl fun hS => sM hS rfl fun hS => sB hS rfl fun hS => qJ <| qI hS rfl hM (fun PM hM => ?_) (fun PM hM => ?_)
       ·refine wp_skip ?_
        refine qf <| xG <| qr <| sM hS rfl fun hS => sM hS rfl fun hS => sB hS rfl fun hS => sO hS (u2 rfl Tryd.runUnderlying3 Tryd.runUnderlying39) rfl fun hS => sO hS (shr rfl rfl rfl) rfl fun hS => sO hS (u2 rfl Tryd.runUnderlying39 Tryd.runUnderlying3) rfl fun hS => zF (v := Value.int .i64) (x0 := (wr .i64 (xF .u64 (wr .u64 (qh (L0 + Mw))) (1 : Int)))) hS (xB rfl) rfl fun LP a w hz hS => ?_
        have hM := qE hz hM; clear hz
        refine qJ <| wp_seq ?_
        obtain ⟨MO, hM⟩ := qH hM
        obtain ⟨M7, M8, PN, PO, PP⟩ := LS.get MO
        obtain ⟨MP, hM⟩ := qH hM
        obtain ⟨M9, Na, PQ, PR, PS⟩ := LS.get MP
        refine q8 (vals := [some (yA 57 [] []), some (.slice LG LM.length LJ), some (.int .i64 L1), some (.int .i64 LP), some (.int .i64 (qh (L1 - LP))), some (z8 LG (Int.toNat (qh (L1 - LP)) * 2)), some (.agg ⟨[.int .i64 ((rd LF (qh (L1 - LP))).often_), .slice M7 ((rd LF (qh (L1 - LP))).symbols_).length M8]⟩), some (.slice LG LM.length LJ), some (.int .i64 LP), some (z8 LG (Int.toNat LP * 2)), some (.agg ⟨[.int .i64 ((rd LF LP).often_), .slice M9 ((rd LF LP).symbols_).length Na]⟩), none, none, none]) hS xw rfl ?_
        intro l w ho hcl hA hst
        refine yV hA hst ho hcl xk xx 11 [0, 1, 2, 3, 4, 5, 6, 7, 8, 9, 10] rfl rfl rfl rfl rfl (by exact ⟨nM rfl, nM rfl, nM rfl, nM rfl, nB rfl, nQ rfl (by exact qV (xZ rfl rfl Tryd.runUnderlying110 Tryd.sizeOf112 (LX.rd (i := 1) rfl) zq.len rfl (LS.inb MO)) rfl), nQ rfl (by exact qV (qV (y4 rfl (LX.rd (i := 1) rfl) zq.len (LS.inb MO) Tryd.isAgg112 Tryd.sizeOf112 rfl) (congrArg (fun l => Value.agg ⟨l⟩) PN)) rfl), nM rfl, nM rfl, nQ rfl (by exact qV (xZ rfl rfl Tryd.runUnderlying110 Tryd.sizeOf112 (LX.rd (i := 1) rfl) zq.len rfl (LS.inb MP)) rfl), nQ rfl (by exact qV (qV (y4 rfl (LX.rd (i := 1) rfl) zq.len (LS.inb MP) Tryd.isAgg112 Tryd.sizeOf112 rfl) (congrArg (fun l => Value.agg ⟨l⟩) PQ)) rfl), trivial⟩) fun D l a w ho hcl hav hpre hm hE hk hA hst => ?_
        have hS := (Ss.mk hE hst).env2 (e' := [(158, yA 57 [] []), (164, .agg ⟨[.int .i64 ((rd LF (qh (L1 - LP))).often_), .slice M7 ((rd LF (qh (L1 - LP))).symbols_).length M8]⟩), (168, .agg ⟨[.int .i64 ((rd LF LP).often_), .slice M9 ((rd LF LP).symbols_).length Na]⟩)]) ⟨rfl, rfl, rfl, trivial⟩
        refine qR rfl <| vw hS rfl rfl Tryd.call57 (jn hG K (qb.mk ((rd LF (qh (L1 - LP))).often_) ((rd LF (qh (L1 - LP))).symbols_)) (qb.mk ((rd LF LP).often_) ((rd LF LP).symbols_)) M7 M8 M9 Na (PO.rdF (i := 0) rfl) PP (PR.rdF (i := 0) rfl) PS (hS.st.part 0 [0, 1] (by kernel_rfl)) (qv hM) (fun Nb w hM  hst => qG hS.ev hst.appF rfl fun hS => ?_))
        replace hS : Ss _ _ _ H [LQ, LY] F _ _ := hS
        refine qJ ?_
        replace hst := hS.st
        obtain ⟨hcl, hmust, hav2, hA⟩ := dn (vals' := [some (yA 57 [] []), some (.slice LG LM.length LJ), some (.int .i64 L1), some (.int .i64 LP), some (.int .i64 (qh (L1 - LP))), some (z8 LG (Int.toNat (qh (L1 - LP)) * 2)), some (.agg ⟨[.int .i64 ((rd LF (qh (L1 - LP))).often_), .slice M7 ((rd LF (qh (L1 - LP))).symbols_).length M8]⟩), some (.slice LG LM.length LJ), some (.int .i64 LP), some (z8 LG (Int.toNat LP * 2)), some (.agg ⟨[.int .i64 ((rd LF LP).often_), .slice M9 ((rd LF LP).symbols_).length Na]⟩), some (.int .i64 Nb), some (.bool (decide (Nb < (0 : Int)))), some (.bool (!(decide (Nb < (0 : Int)))))]) 11 [(0, 11), (6, 11), (10, 11), (5, 6), (9, 10), (1, 5), (4, 5), (7, 9), (8, 9), (2, 4), (3, 4)] hA hcl hav hm hpre hk rfl rfl rfl rfl rfl rfl rfl
        clear hm hav
        refine x6 hA hst ho hcl hmust [12, 13] rfl rfl rfl (by exact ⟨nB rfl, nQ rfl (by exact qV (un rfl rfl) rfl), trivial⟩) fun a w hS => ?_
        replace hS := hS.env2 (e' := [(0, .slice LG LM.length LJ), (1, .int .i64 LN), (2, .int .i64 LO), (3, .int .i64 LR), (4, yA 57 [] []), (18, .int .i64 LT), (19, .int .i64 L7), (20, .int .i64 L0), (21, .int .i64 Mw), (22, .int .i64 L1), (23, .int .i64 LP), (171, .bool (!(decide (Nb < (0 : Int)))))]) ⟨rfl, rfl, rfl, rfl, rfl, rfl, rfl, rfl, rfl, rfl, rfl, rfl, trivial⟩
        refine qf <| qI hS rfl hM (fun PT hM => ?_) (fun PT hM => ?_)
        ·refine zI ?_
         refine sM hS rfl fun hS => sB hS rfl fun hS => zF (v := Value.int .i64) (x0 := (qh (LP + (1 : Int)))) hS (xB rfl) rfl fun Nd a w hz hS => ?_
         have hM := qE hz hM; clear hz
         refine zg <| zw (qf ?_)
         exact Nv _ _ ⟨Nd, Mw, hS.to [0, 1] (by kernel_rfl) ⟨rfl, rfl, rfl, rfl, rfl, rfl, rfl, rfl, rfl, rfl, trivial⟩, hM⟩
        ·refine zI ?_
         refine sM hS rfl fun hS => sA hS rfl fun hS => zg <| zw (qf ?_)
         exact Nv _ _ ⟨L0, LP, hS.to [0, 1] (by kernel_rfl) ⟨rfl, rfl, rfl, rfl, rfl, rfl, rfl, rfl, rfl, rfl, trivial⟩, hM⟩
       ·refine wp_exit ?_
        refine qC (qC (q9 (qf ?_)))
        exact PL _ _ ⟨L0, hS.to [0, 1] (by kernel_rfl) ⟨rfl, rfl, rfl, rfl, rfl, rfl, rfl, rfl, trivial⟩, hM⟩
     ·intro a w hI
      obtain ⟨LW, hS, hM⟩ := hI
      rw [qa.j11] at hM
      refine qr <| sM hS rfl fun hS => sM hS rfl fun hS => sB hS rfl fun hS => zF (v := Value.int .i64) (x0 := (qh (L7 - LW))) hS (xB rfl) rfl fun LZ a w hz hS => ?_
      have hM := qE hz hM; clear hz
      refine qJ <| zc (fun a w => ∃ (L8 : List (zq 2)) (Ma : (List qb)) (MB : qp), Ss 220 [] [(0, .slice LG L8.length LJ), (1, .int .i64 LN), (3, .int .i64 LR), (4, yA 57 [] []), (18, .int .i64 LT), (20, .int .i64 LW), (24, .int .i64 LZ)] H [LQ, MB] F a w ∧ (xb 112 (zq.v (sz := 2)) 2 LG L8 LJ MB) ∧ (zr (qg LQ) Ma L8) ∧ (L8.length = LM.length) ∧ (qa.j12 K (qa.r K d) LN LR LT LW LZ Ma).wp kr kp) (fun Sp Nw => ?_) ?_
      ·refine wp_seq ?_
       refine zI <| sM hS rfl fun hS => sM hS rfl fun hS => sB hS rfl fun hS => sM hS rfl fun hS => y9 3 true 181 (b := (decide (LW < LO))) (r := (decide (LO < LZ))) hS rfl rfl rfl rfl rfl rfl rfl (fun hb a w hS K hK => ?_) rfl fun a w hS => ?_
       ·refine z3 hS rfl rfl rfl hb (mv rfl) rfl fun a w hS => ?_
        refine z3 hS rfl rfl rfl hb (mv rfl) rfl fun a w hS => z3 hS rfl rfl rfl hb (jA rfl rfl rfl) rfl fun a w hS => ?_
        exact zg (hK _ _ (hS.up 3 rfl rfl))
       refine qJ <| qI hS rfl hM (fun PU hM => ?_) (fun PU hM => ?_)
       ·refine zI ?_
        refine sM hS rfl fun hS => sM hS rfl fun hS => sM hS rfl fun hS => sM hS rfl fun hS => sM hS rfl fun hS => qN hS rfl Tryd.call108 (yK hG K LF LW LO LZ LQ LG LJ LM LY LS LX (hS.st.part 2 [0, 1] (by kernel_rfl)) (qv hM) (fun MQ Nx NQ w hM P4 P5 Ny hst => qG hS.ev hst.appF rfl fun hS => ?_))
        replace hS : Ss _ _ _ H [LQ, NQ] F _ _ := hS
        have PV := Eq.trans Ny Mx
        replace hS := hS.re 0 (u := .slice LG LM.length LJ) (v := .slice LG MQ.length LJ) rfl (by rw [Ny])
        replace hS := hS.re 186 (u := .slice LG LM.length LJ) (v := .slice LG MQ.length LJ) rfl (by rw [Ny])
        refine zg <| qf ?_
        exact Nw _ _ ⟨MQ, Nx, NQ, hS.to [0, 1] (by kernel_rfl) ⟨rfl, rfl, rfl, rfl, rfl, rfl, rfl, trivial⟩, P4, P5, PV, hM⟩
       ·refine wp_skip ?_
        refine qf ?_
        exact Nw _ _ ⟨LM, LF, LY, hS.to [0, 1] (by kernel_rfl) ⟨rfl, rfl, rfl, rfl, rfl, rfl, rfl, trivial⟩, LX, LS, Mx, hM⟩
      ·intro a w hI
       obtain ⟨L8, Ma, MB, hS, Nz, NA, NB, hM⟩ := hI
       rw [qa.j12] at hM
       refine zc (fun a w => ∃ (L9 : List (zq 2)) (Mb : (List qb)) (MC : qp), Ss 220 [] [(0, .slice LG L9.length LJ), (3, .int .i64 LR), (4, yA 57 [] []), (18, .int .i64 LT), (24, .int .i64 LZ)] H [LQ, MC] F a w ∧ (xb 112 (zq.v (sz := 2)) 2 LG L9 LJ MC) ∧ (zr (qg LQ) Mb L9) ∧ (L9.length = LM.length) ∧ (qa.j13 K (qa.r K d) LR LT LZ Mb).wp kr kp) (fun Sq NC => ?_) ?_
       ·refine wp_seq ?_
        refine zI <| sM hS rfl fun hS => sM hS rfl fun hS => sB hS rfl fun hS => sM hS rfl fun hS => y9 3 true 195 (b := (decide (LN < LW))) (r := (decide (LW < LT))) hS rfl rfl rfl rfl rfl rfl rfl (fun hb a w hS K hK => ?_) rfl fun a w hS => ?_
        ·refine z3 hS rfl rfl rfl hb (mv rfl) rfl fun a w hS => ?_
         refine z3 hS rfl rfl rfl hb (mv rfl) rfl fun a w hS => z3 hS rfl rfl rfl hb (jA rfl rfl rfl) rfl fun a w hS => ?_
         exact zg (hK _ _ (hS.up 3 rfl rfl))
        refine qJ <| qI hS rfl hM (fun PW hM => ?_) (fun PW hM => ?_)
        ·refine zI ?_
         refine sM hS rfl fun hS => sM hS rfl fun hS => sM hS rfl fun hS => sM hS rfl fun hS => sM hS rfl fun hS => qN hS rfl Tryd.call100 (ih hG  Ma LN LW LT LQ LG LJ L8 MB NA Nz (hS.st.part 2 [0, 1] (by kernel_rfl)) (qv hM) (fun MR ND NR w hM P6 P7 NE hst => qG hS.ev hst.appF rfl fun hS => ?_))
         replace hS : Ss _ _ _ H [LQ, NR] F _ _ := hS
         have PX := Eq.trans NE NB
         replace hS := hS.re 0 (u := .slice LG L8.length LJ) (v := .slice LG MR.length LJ) rfl (by rw [NE])
         replace hS := hS.re 200 (u := .slice LG L8.length LJ) (v := .slice LG MR.length LJ) rfl (by rw [NE])
         refine zg <| qf ?_
         exact NC _ _ ⟨MR, ND, NR, hS.to [0, 1] (by kernel_rfl) ⟨rfl, rfl, rfl, rfl, rfl, trivial⟩, P6, P7, PX, hM⟩
        ·refine wp_skip ?_
         refine qf ?_
         exact NC _ _ ⟨L8, Ma, MB, hS.to [0, 1] (by kernel_rfl) ⟨rfl, rfl, rfl, rfl, rfl, trivial⟩, Nz, NA, NB, hM⟩
       ·intro a w hI
        obtain ⟨L9, Mb, MC, hS, NF, NG, NH, hM⟩ := hI
        rw [qa.j13] at hM
        refine qr <| sM hS rfl fun hS => sM hS rfl fun hS => sB hS rfl fun hS => sM hS rfl fun hS => y9 3 true 209 (b := (decide (LT < LZ))) (r := (decide (LZ < LR))) hS rfl rfl rfl rfl rfl rfl rfl (fun hb a w hS K hK => ?_) rfl fun a w hS => ?_
        ·refine z3 hS rfl rfl rfl hb (mv rfl) rfl fun a w hS => ?_
         refine z3 hS rfl rfl rfl hb (mv rfl) rfl fun a w hS => z3 hS rfl rfl rfl hb (jA rfl rfl rfl) rfl fun a w hS => ?_
         exact zg (hK _ _ (hS.up 3 rfl rfl))
        refine qJ <| qI hS rfl hM (fun PY hM => ?_) (fun PY hM => ?_)
        ·refine zI ?_
         refine sM hS rfl fun hS => sM hS rfl fun hS => sM hS rfl fun hS => sM hS rfl fun hS => sM hS rfl fun hS => qN hS rfl Tryd.call100 (ih hG  Mb LT LZ LR LQ LG LJ L9 MC NG NF (hS.st.part 2 [0, 1] (by kernel_rfl)) (qv hM) (fun MS NI NS w hM P8 P9 NJ hst => qG hS.ev hst.appF rfl fun hS => ?_))
         replace hS : Ss _ _ _ H [LQ, NS] F _ _ := hS
         have PZ := Eq.trans NJ NH
         replace hS := hS.re 0 (u := .slice LG L9.length LJ) (v := .slice LG MS.length LJ) rfl (by rw [NJ])
         replace hS := hS.re 214 (u := .slice LG L9.length LJ) (v := .slice LG MS.length LJ) rfl (by rw [NJ])
         refine zg ?_
         exact yT (rs := []) hS rfl rfl (hret MS NI NS _ (zn hM) P8 P9 PZ (hS.st.pick [0, 1] (by kernel_rfl)))
        ·refine wp_skip ?_
         exact yT (rs := []) hS rfl rfl (hret L9 Mb MC _ (zn hM) NF NG NH (hS.st.pick [0, 1] (by kernel_rfl)))
theorem xR {H : xT} {F : List qp} {w : World} {R : Ending → World → Prop} {kr : (List qb) → Prop} {kp : Value → Prop} (hG : Gl H) (K : Nat) (LF : List qb) (LJ : Int) (LO : Int) (LK : Int) (LH : qp) (LM : Option Addr) (LN : Nat) (LG : List (zq 2)) (LP : qp) (LR : zr (qg LH) LF LG) (LS : xb 112 (zq.v (sz := 2)) 2 LM LG LN LP)
    (hS : St w H [LH, LP] F) (hm : (qa.m K LF LJ LO LK).wp kr kp)
    (hret : ∀ (LL : List (zq 2)) (LI : (List qb)) (LQ : qp) (w : World), kr LI → (xb 112 (zq.v (sz := 2)) 2 LM LL LN LQ) → (zr (qg LH) LI LL) → (LL.length = LG.length) → St w H [LH, LQ] F → R (.returned (.tuple ⟨[]⟩)) w) :
    Calls Tryd.prog 100 ⟨[.slice LM LG.length LN, .int .i64 LJ, .int .i64 LO, .int .i64 LK, yA 57 [] []]⟩ w R := yC K K hG LF LJ LO LK LH LM LN LG LP LR LS hS hm hret
theorem yN {H : xT} {F : List qp} {w : World} {R : Ending → World → Prop} {kr : (List qb) → Prop} {kp : Value → Prop} (hG : Gl H) (K : Nat) (LY : List qb) (LJ : Int) (LI : qp) (LG : Option Addr) (LH : Nat) (LK : List (zq 2)) (Mh : qp) (ML : zr (qg LI) LY LK) (MM : xb 112 (zq.v (sz := 2)) 2 LG LK LH Mh)
    (hS : St w H [LI, Mh] F) (hm : (qe.m K LY LJ).wp kr kp)
    (hret : ∀ (Ma : List (zq 2)) (L5 : (List qb)) (ME : qp) (w : World), kr L5 → (xb 112 (zq.v (sz := 2)) 2 LG Ma LH ME) → (zr (qg LI) L5 Ma) → (Ma.length = LK.length) → St w H [LI, ME] F → R (.returned (.tuple ⟨[]⟩)) w) :
    Calls Tryd.prog 81 ⟨[.slice LG LK.length LH, .int .i64 LJ, yA 57 [] []]⟩ w R := by
 refine enter Tryd.func81 rfl Tryd.ntmps81 rfl hS fun a w hS => ?_
 have hM := hm; clear hm
 rw [qe.m] at hM
 have Ni : ∀ q ∈ LI, q ∈ LI := fun _ h => h
 have MN : LK.length = LK.length := rfl
 refine qr <| sA hS rfl fun hS => qJ <| qr <| sM hS rfl fun hS => sA hS rfl fun hS => sA hS rfl fun hS => qJ <| zc (fun a w => ∃ (LO : List (zq 2)) (LU : (List qb)) (Mf : qp) (L4 : Int), Ss 63 [] [(0, .slice LG LO.length LH), (1, .int .i64 LJ), (2, yA 57 [] []), (6, .int .i64 (20 : Int)), (7, .int .i64 L4)] H [LI, Mf] F a w ∧ (xb 112 (zq.v (sz := 2)) 2 LG LO LH Mf) ∧ (zr (qg LI) LU LO) ∧ (LO.length = LK.length) ∧ (qe.j2 K LJ LU L4).wp kr kp) (fun Nj MO => ?_) ?_
 ·refine xG ?_
  refine zt (fun MF a w => ∃ (LL : List (zq 2)) (LP : (List qb)) (L6 : qp) (LZ : Int) (LV : Int), Ss 63 [] [(0, .slice LG LL.length LH), (1, .int .i64 LJ), (2, yA 57 [] []), (6, .int .i64 (20 : Int)), (7, .int .i64 LZ), (8, .int .i64 LV)] H [LI, L6] F a w ∧ (xb 112 (zq.v (sz := 2)) 2 LG LL LH L6) ∧ (zr (qg LI) LP LL) ∧ (LL.length = LK.length) ∧ (qe.l1 K LJ MF LP LZ LV).wp kr kp) K ?_ ?_ ?_
  ·exact ⟨LK, LY, Mh, (0 : Int), (20 : Int), hS.to [0, 1] (by kernel_rfl) ⟨rfl, rfl, rfl, rfl, rfl, rfl, trivial⟩, MM, ML, MN, hM⟩
  ·intro a w hI; obtain ⟨_, _, _, _, _, _, _, _, _, hM⟩ := hI; exact zm hM
  ·intro MF a w hI Nk MP
   obtain ⟨LL, LP, L6, LZ, LV, hS, Mi, Mj, Mk, hM⟩ := hI
   rw [qe.l1] at hM
   refine wp_seq <| qr <| sM hS rfl fun hS => sM hS rfl fun hS => sB hS rfl fun hS => qJ <| qI hS rfl hM (fun MQ hM => ?_) (fun MQ hM => ?_)
   ·refine wp_skip ?_
    refine qf <| xG <| qr <| sM hS rfl fun hS => sM hS rfl fun hS => sM hS rfl fun hS => sM hS rfl fun hS => qN hS rfl Tryd.call99 (xM hG K LP LZ LV LI LG LH LL L6 Mj Mi (hS.st.part 2 [0, 1] (by kernel_rfl)) (qv hM) (fun Mb Ml MG w hM M8 M9 Mm hst => qG hS.ev hst.appF rfl fun hS => ?_))
    replace hS : Ss _ _ _ H [LI, MG] F _ _ := hS
    have MR := Eq.trans Mm Mk
    replace hS := hS.re 0 (u := .slice LG LL.length LH) (v := .slice LG Mb.length LH) rfl (by rw [Mm])
    replace hS := hS.re 14 (u := .slice LG LL.length LH) (v := .slice LG Mb.length LH) rfl (by rw [Mm])
    refine qJ <| qr <| sM hS rfl fun hS => sA hS rfl fun hS => qJ <| zI <| sM hS rfl fun hS => sM hS rfl fun hS => sB hS rfl fun hS => zF (v := Value.int .i64) (x0 := (qh (LV + (20 : Int)))) hS (xB rfl) rfl fun MS a w hz hS => ?_
    have hM := qE hz hM; clear hz
    refine zg <| zw (qf ?_)
    exact MP _ _ ⟨Mb, Ml, MG, LV, MS, hS.to [0, 1] (by kernel_rfl) ⟨rfl, rfl, rfl, rfl, rfl, rfl, trivial⟩, M8, M9, MR, hM⟩
   ·refine wp_exit ?_
    refine qC (qC (q9 (qf ?_)))
    exact MO _ _ ⟨LL, LP, L6, LZ, hS.to [0, 1] (by kernel_rfl) ⟨rfl, rfl, rfl, rfl, rfl, trivial⟩, Mi, Mj, Mk, hM⟩
 ·intro a w hI
  obtain ⟨LO, LU, Mf, L4, hS, MT, MU, MV, hM⟩ := hI
  rw [qe.j2] at hM
  refine qr <| sM hS rfl fun hS => sM hS rfl fun hS => sM hS rfl fun hS => sM hS rfl fun hS => qN hS rfl Tryd.call99 (xM hG K LU L4 LJ LI LG LH LO Mf MU MT (hS.st.part 2 [0, 1] (by kernel_rfl)) (qv hM) (fun Mc Mn MH w hM Na Nb Mp hst => qG hS.ev hst.appF rfl fun hS => ?_))
  replace hS : Ss _ _ _ H [LI, MH] F _ _ := hS
  have MW := Eq.trans Mp MV
  replace hS := hS.re 0 (u := .slice LG LO.length LH) (v := .slice LG Mc.length LH) rfl (by rw [Mp])
  replace hS := hS.re 23 (u := .slice LG LO.length LH) (v := .slice LG Mc.length LH) rfl (by rw [Mp])
  refine qJ <| xG <| zt (fun Mg a w => ∃ (LT : List (zq 2)) (LQ : (List qb)) (L7 : qp) (LF : Int), Ss 63 [] [(0, .slice LG LT.length LH), (1, .int .i64 LJ), (2, yA 57 [] []), (6, .int .i64 LF)] H [LI, L7] F a w ∧ (xb 112 (zq.v (sz := 2)) 2 LG LT LH L7) ∧ (zr (qg LI) LQ LT) ∧ (LT.length = LK.length) ∧ (qe.l3 K LJ Mg LQ LF).wp kr kp) K ?_ ?_ ?_
  ·exact ⟨Mc, Mn, MH, (20 : Int), hS.to [0, 1] (by kernel_rfl) ⟨rfl, rfl, rfl, rfl, trivial⟩, Na, Nb, MW, hM⟩
  ·intro a w hI; obtain ⟨_, _, _, _, _, _, _, _, hM⟩ := hI; exact zm hM
  ·intro Mg a w hI Nl Mq
   obtain ⟨LT, LQ, L7, LF, hS, Mr, Ms, Mt, hM⟩ := hI
   rw [qe.l3] at hM
   refine wp_seq <| qr <| sM hS rfl fun hS => sM hS rfl fun hS => sB hS rfl fun hS => qJ <| qI hS rfl hM (fun MX hM => ?_) (fun MX hM => ?_)
   ·refine wp_skip ?_
    refine qf <| xG <| qr <| sM hS rfl fun hS => sB hS rfl fun hS => sA hS rfl fun hS => zF (v := Value.int .i64) (x0 := (qh ((2 : Int) * LF))) hS (xB rfl) rfl fun MY a w hz hS => ?_
    have hM := qE hz hM; clear hz
    refine qJ <| zc (fun a w => ∃ (LM : List (zq 2)) (LR : (List qb)) (L8 : qp) (L0 : Int), Ss 63 [] [(0, .slice LG LM.length LH), (1, .int .i64 LJ), (2, yA 57 [] []), (6, .int .i64 LF), (7, .int .i64 L0)] H [LI, L8] F a w ∧ (xb 112 (zq.v (sz := 2)) 2 LG LM LH L8) ∧ (zr (qg LI) LR LM) ∧ (LM.length = LK.length) ∧ (qe.j5 K (qe.l3 K LJ Mg) LJ LF LR L0).wp kr kp) (fun Nm MZ => ?_) ?_
    ·refine xG ?_
     refine zt (fun MI a w => ∃ (LN : List (zq 2)) (LS : (List qb)) (L9 : qp) (LW : Int) (LX : Int), Ss 63 [] [(0, .slice LG LN.length LH), (1, .int .i64 LJ), (2, yA 57 [] []), (6, .int .i64 LF), (7, .int .i64 LW), (8, .int .i64 LX)] H [LI, L9] F a w ∧ (xb 112 (zq.v (sz := 2)) 2 LG LN LH L9) ∧ (zr (qg LI) LS LN) ∧ (LN.length = LK.length) ∧ (qe.l4 K (qe.l3 K LJ Mg) LJ LF MI LS LW LX).wp kr kp) K ?_ ?_ ?_
     ·exact ⟨LT, LQ, L7, (0 : Int), MY, hS.to [0, 1] (by kernel_rfl) ⟨rfl, rfl, rfl, rfl, rfl, rfl, trivial⟩, Mr, Ms, Mt, hM⟩
     ·intro a w hI; obtain ⟨_, _, _, _, _, _, _, _, _, hM⟩ := hI; exact zm hM
     ·intro MI a w hI Nn M0
      obtain ⟨LN, LS, L9, LW, LX, hS, Mu, Mv, Mw, hM⟩ := hI
      rw [qe.l4] at hM
      refine wp_seq <| qr <| sM hS rfl fun hS => sM hS rfl fun hS => sB hS rfl fun hS => qJ <| qI hS rfl hM (fun M3 hM => ?_) (fun M3 hM => ?_)
      ·refine wp_skip ?_
       refine qf <| xG <| qr <| sM hS rfl fun hS => sM hS rfl fun hS => sM hS rfl fun hS => sM hS rfl fun hS => sB hS rfl fun hS => sM hS rfl fun hS => sM hS rfl fun hS => qN hS rfl Tryd.call100 (xR hG K LS LW (qh (LW + LF)) LX LI LG LH LN L9 Mv Mu (hS.st.part 2 [0, 1] (by kernel_rfl)) (qv hM) (fun Md Mx MJ w hM Nc Nd My hst => qG hS.ev hst.appF rfl fun hS => ?_))
       replace hS : Ss _ _ _ H [LI, MJ] F _ _ := hS
       have M4 := Eq.trans My Mw
       replace hS := hS.re 0 (u := .slice LG LN.length LH) (v := .slice LG Md.length LH) rfl (by rw [My])
       replace hS := hS.re 36 (u := .slice LG LN.length LH) (v := .slice LG Md.length LH) rfl (by rw [My])
       refine qJ <| qr <| sM hS rfl fun hS => sA hS rfl fun hS => qJ <| zI <| sM hS rfl fun hS => sM hS rfl fun hS => sB hS rfl fun hS => sB hS rfl fun hS => zF (v := Value.int .i64) (x0 := (qh (LX + (qh ((2 : Int) * LF))))) hS (xB rfl) rfl fun M5 a w hz hS => ?_
       have hM := qE hz hM; clear hz
       refine zg <| zw (qf ?_)
       exact M0 _ _ ⟨Md, Mx, MJ, LX, M5, hS.to [0, 1] (by kernel_rfl) ⟨rfl, rfl, rfl, rfl, rfl, rfl, trivial⟩, Nc, Nd, M4, hM⟩
      ·refine wp_exit ?_
       refine qC (qC (q9 (qf ?_)))
       exact MZ _ _ ⟨LN, LS, L9, LW, hS.to [0, 1] (by kernel_rfl) ⟨rfl, rfl, rfl, rfl, rfl, trivial⟩, Mu, Mv, Mw, hM⟩
    ·intro a w hI
     obtain ⟨LM, LR, L8, L0, hS, Mz, MA, MB, hM⟩ := hI
     rw [qe.j5] at hM
     refine wp_seq <| qr <| sM hS rfl fun hS => sM hS rfl fun hS => sB hS rfl fun hS => zF (v := Value.int .i64) (x0 := (qh (L0 + LF))) hS (xB rfl) rfl fun Nf a w hz hS => ?_
     have hM := qE hz hM; clear hz
     refine qJ <| qr <| sM hS rfl fun hS => sM hS rfl fun hS => sB hS rfl fun hS => qJ <| qI hS rfl hM (fun M6 hM => ?_) (fun M6 hM => ?_)
     ·refine zI ?_
      refine sM hS rfl fun hS => sM hS rfl fun hS => sM hS rfl fun hS => sM hS rfl fun hS => sM hS rfl fun hS => qN hS rfl Tryd.call100 (xR hG K LR L0 Nf LJ LI LG LH LM L8 MA Mz (hS.st.part 2 [0, 1] (by kernel_rfl)) (qv hM) (fun Me MC MK w hM Ng Nh MD hst => qG hS.ev hst.appF rfl fun hS => ?_))
      replace hS : Ss _ _ _ H [LI, MK] F _ _ := hS
      have M7 := Eq.trans MD MB
      replace hS := hS.re 0 (u := .slice LG LM.length LH) (v := .slice LG Me.length LH) rfl (by rw [MD])
      replace hS := hS.re 55 (u := .slice LG LM.length LH) (v := .slice LG Me.length LH) rfl (by rw [MD])
      refine qJ <| zI <| sM hS rfl fun hS => sB hS rfl fun hS => zF (v := Value.int .i64) (x0 := (qh (LF * (2 : Int)))) hS (xB rfl) rfl fun L1 a w hz hS => ?_
      have hM := qE hz hM; clear hz
      refine zg <| zw (qf ?_)
      exact Mq _ _ ⟨Me, MC, MK, L1, hS.to [0, 1] (by kernel_rfl) ⟨rfl, rfl, rfl, rfl, trivial⟩, Ng, Nh, M7, hM⟩
     ·refine wp_skip ?_
      refine qf <| zI <| sM hS rfl fun hS => sB hS rfl fun hS => zF (v := Value.int .i64) (x0 := (qh (LF * (2 : Int)))) hS (xB rfl) rfl fun L3 a w hz hS => ?_
      have hM := qE hz hM; clear hz
      refine zg <| zw (qf ?_)
      exact Mq _ _ ⟨LM, LR, L8, L3, hS.to [0, 1] (by kernel_rfl) ⟨rfl, rfl, rfl, rfl, trivial⟩, Mz, MA, MB, hM⟩
   ·refine wp_exit ?_
    refine qC (qC (q9 ?_))
    exact yT (rs := []) hS rfl rfl (hret LT LQ L7 _ (zn hM) Mr Ms Mt (hS.st.pick [0, 1] (by kernel_rfl)))
theorem x7 {H : xT} {F : List qp} {w : World} {R : Ending → World → Prop} {kr : (List qb) → Prop} {kp : Value → Prop} (hG : Gl H) (K : Nat) (LK : List qb) (LI : qp) (LG : Option Addr) (LH : Nat) (LF : List (zq 2)) (LN : qp) (LO : zr (qg LI) LK LF) (LT : xb 112 (zq.v (sz := 2)) 2 LG LF LH LN)
    (hS : St w H [LI, LN] F) (hm : (zi.m K LK).wp kr kp)
    (hret : ∀ (LL : List (zq 2)) (LQ : (List qb)) (LR : qp) (w : World), kr LQ → (xb 112 (zq.v (sz := 2)) 2 LG LL LH LR) → (zr (qg LI) LQ LL) → (LL.length = LF.length) → St w H [LI, LR] F → R (.returned (.tuple ⟨[]⟩)) w) :
    Calls Tryd.prog 56 ⟨[.slice LG LF.length LH, yA 57 [] []]⟩ w R := by
 refine enter Tryd.func56 rfl Tryd.ntmps56 rfl hS fun a w hS => ?_
 have hM := hm; clear hm
 rw [zi.m] at hM
 have LY : ∀ q ∈ LI, q ∈ LI := fun _ h => h
 have LU : LF.length = LF.length := rfl
 refine zI <| sM hS rfl fun hS => sM hS rfl fun hS => sO hS (qV (v' := .int .i64 (LK.length : Int)) (ym rfl Tryd.runUnderlying110) (by rw [LO.len])) rfl fun hS => sM hS rfl fun hS => qN hS rfl Tryd.call81 (yN hG K LK (LK.length : Int) LI LG LH LF LN LO LT (hS.st.part 2 [0, 1] (by kernel_rfl)) (qv hM) (fun LJ LP LS w hM LW LX LM hst => qG hS.ev hst.appF rfl fun hS => ?_))
 replace hS : Ss _ _ _ H [LI, LS] F _ _ := hS
 have LV := Eq.trans LM LU
 replace hS := hS.re 0 (u := .slice LG LF.length LH) (v := .slice LG LJ.length LH) rfl (by rw [LM])
 replace hS := hS.re 4 (u := .slice LG LF.length LH) (v := .slice LG LJ.length LH) rfl (by rw [LM])
 replace hS := hS.re 5 (u := .slice LG LF.length LH) (v := .slice LG LJ.length LH) rfl (by rw [LM])
 refine zg ?_
 exact yT (rs := []) hS rfl rfl (hret LJ LP LS _ (zn hM) LW LX LV (hS.st.pick [0, 1] (by kernel_rfl)))
def vx (p : qp) (x : (List Int)) (vs : List Value) : Prop :=
  ∃ (A0 : Option Addr) (c0 : Nat), vs = [.slice A0 x.length c0] ∧ Pl p (ci .i64) A0 x ∧ x.length ≤ c0
theorem vx.mono {p p' : qp} (hs : ∀ q ∈ p, q ∈ p') {x : (List Int)} {vs : List Value} (h : vx p x vs) : vx p' x vs := by
  obtain ⟨A0, c0, h0, h1, h2⟩ := h
  exact ⟨A0, c0, h0, h1.mono hs, h2⟩
theorem vc {H : xT} {F : List qp} {w : World} {R : Ending → World → Prop} {kr : Unit → Prop} {kp : Value → Prop} (hG : Gl H) (K : Nat) (LF : Int)
    (hS : St w H [] F) (hm : (xN.m K LF).wp kr kp)
    (hret : ∀ (LG : Option Addr) (LH : Nat) (LI : qp) (w : World), kr () → (xb 3 (ci .i64) 1 LG ([] : List Int) LH LI) → St w H [LI] F → R (.returned (.slice LG ([] : List Int).length LH)) w)
    (hpan : ∀ v w, kp v → St w H [] F → R (.panicked [⟨v, false, false⟩]) w) :
    Calls Tryd.prog 102 ⟨[.slice none 0 0, .int .i64 LF]⟩ w R := by
 refine enter Tryd.func102 rfl Tryd.ntmps102 rfl hS fun a w hS => ?_
 have hM := hm; clear hm
 rw [xN.m] at hM
 refine qr <| sA hS rfl fun hS => ?_
 obtain ⟨LW, LU, hS⟩ := hS.nilV 3 (ci .i64) 1
 refine qJ <| wp_seq <| qr <| sM hS rfl fun hS => sB hS rfl fun hS => qJ <| qI hS rfl hM (fun LJ hM => ?_) (fun LJ hM => ?_)
 ·refine zI ?_
  refine sO hS (Ga rfl Tryd.runUnderlying9 rfl) rfl fun hS => QD hS rfl <| qD ?_
  exact ⟨hS.ev.defs, hpan _ _ (ZC hM) hS.st.frame⟩
 ·refine wp_skip ?_
  refine qf <| wp_seq <| qr <| sM hS rfl fun hS => sM hS rfl fun hS => sO hS (Bz rfl Tryd.runUnderlying45) rfl fun hS => sM hS rfl fun hS => sO hS (ym rfl Tryd.runUnderlying45) rfl fun hS => sB hS rfl fun hS => sB hS rfl fun hS => zF (v := Value.int .i64) (x0 := (qh (LF - (qh ((0 : Int) - (0 : Int)))))) hS (xB rfl) rfl fun LV a w hz hS => ?_
  have hM := qE hz hM; clear hz
  refine qJ <| qr <| sM hS rfl fun hS => sB hS rfl fun hS => qJ <| qI hS rfl hM (fun LK hM => ?_) (fun LK hM => ?_)
  ·refine zI ?_
   refine sM hS rfl fun hS => sM hS rfl fun hS => sO hS (Bz rfl Tryd.runUnderlying45) rfl fun hS => sO hS (G8 rfl Tryd.runUnderlying45 Tryd.sizeOf3 (Dy rfl)) rfl fun hS => sM hS rfl fun hS => ?_
   obtain ⟨LL, hM⟩ := qH hM
   refine Lf (g := (ci .i64)) hS rfl rfl Tryd.runUnderlying45 Tryd.runUnderlying3 X.el3 rfl rfl LL rfl fun w LQ LR LS LM LN LO hS => sM hS rfl fun hS => sO hS (ym rfl Tryd.runUnderlying45) rfl fun hS => sO hS (Lb rfl Tryd.runUnderlying45 Tryd.sizeOf3 (fun _ => Dy rfl) LN LO) rfl fun hS => sA hS rfl fun hS => qJ <| qr <| sM hS rfl fun hS => sA hS rfl fun hS => qJ <| wp_ret ?_
   exact zX (rs := [4]) hS rfl rfl (hret LQ LR LS _ (zn hM) LM (hS.st.pick [0] (by kernel_rfl)))
  ·refine wp_skip ?_
   refine qf <| qr <| sM hS rfl fun hS => sA hS rfl fun hS => ?_
   obtain ⟨LT, LP, hS⟩ := hS.nilV 3 (ci .i64) 1
   refine qJ <| wp_ret ?_
   exact zX (rs := [4]) hS rfl rfl (hret none (0) LT _ (zn hM) LP (hS.st.pick [0] (by kernel_rfl)))
theorem vK {H : xT} {F : List qp} {w : World} {R : Ending → World → Prop} {kr : (List Int) → Prop} {kp : Value → Prop} (hG : Gl H) (K : Nat) (LF : List (List Int)) (LK : qp) (LM : Option Addr) (LN : Nat) (LH : List (zq 1)) (LI : zr (vx LK) LF LH) (LQ : Pl LK (zq.v (sz := 1)) LM LH) (Mp : LH.length ≤ LN)
    (hS : St w H [LK] F) (hm : (qX.m K LF).wp kr kp)
    (hret : ∀ (LZ : Option Addr) (L0 : Nat) (LW : (List Int)) (L1 : qp) (w : World), kr LW → (xb 3 (ci .i64) 1 LZ LW L0 L1) → St w H [LK, L1] F → R (.returned (.slice LZ LW.length L0)) w)
    (hpan : ∀ v w, kp v → St w H [] F → R (.panicked [⟨v, false, false⟩]) w) :
    Calls Tryd.prog 85 ⟨[.slice LM LH.length LN]⟩ w R := by
 refine enter Tryd.func85 rfl Tryd.ntmps85 rfl hS fun a w hS => ?_
 have hM := hm; clear hm
 rw [qX.m] at hM
 have Mq : ∀ q ∈ LK, q ∈ LK := fun _ h => h
 refine qr <| sA hS rfl fun hS => ?_
 obtain ⟨Mv, Mr, hS⟩ := hS.nilV 3 (ci .i64) 1
 refine qJ <| qr <| sA hS rfl fun hS => qJ <| zc (fun a w => ∃ (LL : Int), Ss 36 [] [(0, .slice LM LH.length LN), (3, .int .i64 LL)] H [LK] F a w ∧ (qX.j2 K LF LL).wp kr kp) (fun Mw L6 => ?_) ?_
 ·refine wp_seq ?_
  refine zI <| sM hS rfl fun hS => sO hS (qV (v' := .int .i64 (LF.length : Int)) (ym rfl Tryd.runUnderlying167) (by rw [LI.len])) rfl fun hS => sM hS rfl fun hS => qJ <| xG <| zt (fun L3 a w => ∃ (LJ : Int) (LO : Int), Ss 36 [] [(0, .slice LM LH.length LN), (3, .int .i64 LJ), (9, .slice LM LH.length LN), (10, .int .i64 (LF.length : Int)), (11, .int .i64 LO)] H [LK] F a w ∧ (qX.l1 K LF L3 LJ LO).wp kr kp) K ?_ ?_ ?_
  ·exact ⟨(0 : Int), (0 : Int), hS.to [1] (by kernel_rfl) ⟨rfl, rfl, rfl, rfl, rfl, trivial⟩, hM⟩
  ·intro a w hI; obtain ⟨_, _, _, hM⟩ := hI; exact zm hM
  ·intro L3 a w hI Mx L7
   obtain ⟨LJ, LO, hS, hM⟩ := hI
   rw [qX.l1] at hM
   refine qr <| sB hS rfl fun hS => qJ <| wp_seq <| qI hS rfl hM (fun L8 hM => ?_) (fun L8 hM => ?_)
   ·refine wp_skip ?_
    refine qf <| wp_seq <| xG <| wp_seq <| zI ?_
    obtain ⟨LR, hM⟩ := qH hM
    refine sO hS (xZ rfl rfl Tryd.runUnderlying167 Tryd.sizeOf45 (LQ.rd (i := 0) rfl) zq.len rfl (LI.inb LR)) rfl fun hS => ?_
    obtain ⟨My, Mz, L9, Ms, Mt⟩ := LI.get LR
    refine sO hS (yH rfl (LQ.rd (i := 0) rfl) zq.len (LI.inb LR) (by rw [show zq.v (rd LH LO) = _ from L9]; rfl) Tryd.isAgg45) rfl fun hS => sA hS rfl fun hS => qJ <| qr <| sM hS rfl fun hS => sM hS rfl fun hS => sO hS (ym rfl Tryd.runUnderlying45) rfl fun hS => sB hS rfl fun hS => zF (v := Value.int .i64) (x0 := (qh (LJ + ((rd LF LO).length : Int)))) hS (xB rfl) rfl fun LX a w hz hS => ?_
    have hM := qE hz hM; clear hz
    refine qJ <| qr <| sM hS rfl fun hS => sB hS rfl fun hS => qJ <| qI hS rfl hM (fun Ma hM => ?_) (fun Ma hM => ?_)
    ·refine zI ?_
     refine sO hS (Ga rfl Tryd.runUnderlying9 rfl) rfl fun hS => QD hS rfl <| zT (qD (qD (zT (qD ?_))))
     exact ⟨hS.ev.defs, hpan _ _ (ZC hM) hS.st.frame⟩
    ·refine wp_skip ?_
     refine zw (qf ?_)
     refine zI <| sB hS rfl fun hS => sM hS rfl fun hS => zg <| qf ?_
     exact L7 _ _ ⟨LX, (qh (LO + (1 : Int))), hS.to [0] (by kernel_rfl) ⟨rfl, rfl, rfl, rfl, rfl, trivial⟩, hM⟩
   ·refine wp_exit ?_
    refine qC (qC (q9 (qf ?_)))
    exact L6 _ _ ⟨LJ, hS.to [0] (by kernel_rfl) ⟨rfl, rfl, trivial⟩, hM⟩
 ·intro a w hI
  obtain ⟨LL, hS, hM⟩ := hI
  rw [qX.j2] at hM
  refine qr <| sM hS rfl fun hS => qN hS rfl Tryd.call102 (vc hG K LL (hS.st.part 0 [0] (by kernel_rfl)) (qv hM) (fun Mi Mj L4 w hM Mk hst => qG hS.ev hst.appF rfl fun hS => ?_) (fun v w hk hst => xm (qD (⟨hS.ev.defs, hpan _ _ hk hst.appF.frame⟩))))
  replace hS : Ss _ _ _ H [L4, LK] F _ _ := hS
  refine sA hS rfl fun hS => qJ <| wp_seq <| qr <| sM hS rfl fun hS => sO hS (qV (v' := .int .i64 (LF.length : Int)) (ym rfl Tryd.runUnderlying167) (by rw [LI.len])) rfl fun hS => sM hS rfl fun hS => qJ <| xG <| zt (fun L5 a w => ∃ (LT : Option Addr) (LU : Nat) (LG : (List Int)) (LV : qp) (LP : Int), Ss 36 [] [(6, .slice LT LG.length LU), (25, .slice LM LH.length LN), (26, .int .i64 (LF.length : Int)), (27, .int .i64 LP)] H [LK, LV] F a w ∧ (xb 3 (ci .i64) 1 LT LG LU LV) ∧ (qX.l3 K LF L5 LG LP).wp kr kp) K ?_ ?_ ?_
  ·exact ⟨Mi, Mj, ([] : List Int), L4, (0 : Int), hS.to [1, 0] (by kernel_rfl) ⟨rfl, rfl, rfl, rfl, trivial⟩, Mk, hM⟩
  ·intro a w hI; obtain ⟨_, _, _, _, _, _, _, hM⟩ := hI; exact zm hM
  ·intro L5 a w hI MA Mb
   obtain ⟨LT, LU, LG, LV, LP, hS, LY, hM⟩ := hI
   rw [qX.l3] at hM
   refine qr <| sB hS rfl fun hS => qJ <| wp_seq <| qI hS rfl hM (fun Mc hM => ?_) (fun Mc hM => ?_)
   ·refine wp_skip ?_
    refine qf <| wp_seq <| xG <| wp_seq <| zI ?_
    obtain ⟨LS, hM⟩ := qH hM
    refine sO hS (xZ rfl rfl Tryd.runUnderlying167 Tryd.sizeOf45 (LQ.rd (i := 0) rfl) zq.len rfl (LI.inb LS)) rfl fun hS => ?_
    obtain ⟨MB, MC, Md, Me, Mu⟩ := LI.get LS
    refine sO hS (yH rfl (LQ.rd (i := 0) rfl) zq.len (LI.inb LS) (by rw [show zq.v (rd LH LP) = _ from Md]; rfl) Tryd.isAgg45) rfl fun hS => sA hS rfl fun hS => qJ <| zI <| sM hS rfl fun hS => sM hS rfl fun hS => ?_
    obtain ⟨Mf, hM⟩ := qH hM
    refine Jm (ys := (rd LF LP)) 1 hS rfl rfl LY rfl (Me.rd (i := 0) rfl) Tryd.runUnderlying45 Tryd.runUnderlying45 X.el3 (fun _ => rfl) rfl xH Mf rfl fun Mg w Ml Mm Mn hz Mh hS => ?_
    have hM := qE hz hM; clear hz
    refine sA hS rfl fun hS => zg <| zw (qf ?_)
    refine zI <| sB hS rfl fun hS => sM hS rfl fun hS => zg <| qf ?_
    exact Mb _ _ ⟨Ml, Mm, Mg, Mn, (qh (LP + (1 : Int))), hS.to [0, 1] (by kernel_rfl) ⟨rfl, rfl, rfl, rfl, trivial⟩, Mh, hM⟩
   ·refine wp_exit ?_
    refine qC (qC (q9 (qf ?_)))
    refine qr <| sM hS rfl fun hS => sA hS rfl fun hS => qJ <| wp_ret ?_
    exact zX (rs := [2]) hS rfl rfl (hret LT LU LG LV _ (zn hM) LY (hS.st.pick [0, 1] (by kernel_rfl)))
theorem YU {H : xT} {F : List qp} {w : World} {R : Ending → World → Prop} {kr : (List qb) → Prop} {kp : Value → Prop} (hG : Gl H) (K : Nat) (LG : List qb) (LU : qp) (LH : Option Addr) (LL : Nat) (LI : List (zq 2)) (MB : zr (qg LU) LG LI) (MC : Pl LU (zq.v (sz := 2)) LH LI) (MD : LI.length ≤ LL)
    (hS : St w H [LU] F) (hm : (xY.m K LG).wp kr kp)
    (hret : ∀ (Ml : qp) (Mu : Option Addr) (Mv : Nat) (Mf : List (zq 2)) (Mw : (List qb)) (Mx : qp) (w : World), kr Mw → (∀ q ∈ LU, q ∈ Ml) → (xb 112 (zq.v (sz := 2)) 2 Mu Mf Mv Mx) → (zr (qg Ml) Mw Mf) → St w H [Ml, Mx] F → R (.returned (.slice Mu Mf.length Mv)) w)
    (hpan : ∀ v w, kp v → St w H [] F → R (.panicked [⟨v, false, false⟩]) w) :
    Calls Tryd.prog 60 ⟨[.slice LH LI.length LL]⟩ w R := by
 refine enter Tryd.func60 rfl Tryd.ntmps60 rfl hS fun a w hS => ?_
 have hM := hm; clear hm
 rw [xY.m] at hM
 have ME : ∀ q ∈ LU, q ∈ LU := fun _ h => h
 refine qr <| sA hS rfl fun hS => ?_
 obtain ⟨M9, M3, hS⟩ := hS.nilV 112 (zq.v (sz := 2)) 2
 have M4 : zr (qg LU) ([] : List qb) ([] : List (zq 2)) := zr.nil
 refine qJ <| qr <| sA hS rfl fun hS => ?_
 obtain ⟨MX, MF, hS⟩ := hS.nilV 112 (zq.v (sz := 2)) 2
 have MG : zr (qg LU) ([] : List qb) ([] : List (zq 2)) := zr.nil
 refine qJ <| wp_seq <| qr <| sA hS rfl fun hS => qJ <| xG <| zt (fun My a w => ∃ (LV : qp) (LW : Option Addr) (LX : Nat) (LO : List (zq 2)) (L0 : (List qb)) (Me : qp) (LF : Int), Ss 42 [] [(0, .slice LH LI.length LL), (3, .slice LW LO.length LX), (4, .int .i64 LF)] H [LV, Me] F a w ∧ (∀ q ∈ LU, q ∈ LV) ∧ (zr (qg LV) LG LI) ∧ (Pl LV (zq.v (sz := 2)) LH LI) ∧ (LI.length ≤ LL) ∧ (xb 112 (zq.v (sz := 2)) 2 LW LO LX Me) ∧ (zr (qg LV) L0 LO) ∧ (xY.l1 K LG My L0 LF).wp kr kp) K ?_ ?_ ?_
 ·exact ⟨LU, none, 0, ([] : List (zq 2)), ([] : List qb), MX, (0 : Int), hS.to [2, 0] (by kernel_rfl) ⟨rfl, rfl, rfl, trivial⟩, ME, MB, MC, MD, MF, MG, hM⟩
 ·intro a w hI; obtain ⟨_, _, _, _, _, _, _, _, _, _, _, _, _, _, hM⟩ := hI; exact zm hM
 ·intro My a w hI Na MH
  obtain ⟨LV, LW, LX, LO, L0, Me, LF, hS, L6, LJ, LK, MI, Mm, LY, hM⟩ := hI
  rw [xY.l1] at hM
  refine wp_seq <| qr <| sM hS rfl fun hS => sB hS rfl fun hS => sM hS rfl fun hS => sO hS (qV (v' := .int .i64 (LG.length : Int)) (ym rfl Tryd.runUnderlying110) (by rw [LJ.len])) rfl fun hS => sB hS rfl fun hS => qJ <| qI hS rfl hM (fun MJ hM => ?_) (fun MJ hM => ?_)
  ·refine wp_skip ?_
   refine qf <| wp_seq <| xG ?_
   obtain ⟨LM, hM⟩ := qH hM
   obtain ⟨Nb, Nc, Mg, M5, M6⟩ := LJ.get LM
   obtain ⟨LN, hM⟩ := qH hM
   obtain ⟨Nd, Nf, Mh, M7, M8⟩ := LJ.get LN
   obtain ⟨L1, L3, MK, L8, ML⟩ := LJ.get LM
   obtain ⟨L4, L5, MM, L9, MN⟩ := LJ.get LN
   refine q8 (vals := [some (.slice LW LO.length LX), some (.slice LH LI.length LL), some (.int .i64 LF), some (z8 LH (Int.toNat LF * 2)), some (z8 LH (Int.toNat LF * 2 + 0)), some (.int .i64 ((rd LG LF).often_)), some (.slice LH LI.length LL), some (.int .i64 LF), some (.int .i64 (qh (LF + (1 : Int)))), some (z8 LH (Int.toNat (qh (LF + (1 : Int))) * 2)), some (z8 LH (Int.toNat (qh (LF + (1 : Int))) * 2 + 0)), some (.int .i64 ((rd LG (qh (LF + (1 : Int)))).often_)), some (.int .i64 (qh ((rd LG LF).often_ + (rd LG (qh (LF + (1 : Int)))).often_))), some (.slice LH LI.length LL), some (.int .i64 LF), some (z8 LH (Int.toNat LF * 2)), some (z8 LH (Int.toNat LF * 2 + 1)), some (.slice L1 ((rd LG LF).symbols_).length L3), some (.slice LH LI.length LL), some (.int .i64 LF), some (.int .i64 (qh (LF + (1 : Int)))), some (z8 LH (Int.toNat (qh (LF + (1 : Int))) * 2)), some (z8 LH (Int.toNat (qh (LF + (1 : Int))) * 2 + 1)), some (.slice L4 ((rd LG (qh (LF + (1 : Int)))).symbols_).length L5), none, none, none, none, none, none]) hS xw rfl ?_
   intro l w ho hcl hA hst
   refine yV hA hst ho hcl xk xx 24 [0, 1, 2, 3, 4, 5, 6, 7, 8, 9, 10, 11, 12, 13, 14, 15, 16, 17, 18, 19, 20, 21, 22, 23] rfl rfl rfl rfl rfl (by exact ⟨nM rfl, nM rfl, nM rfl, nQ rfl (by exact qV (xZ rfl rfl Tryd.runUnderlying110 Tryd.sizeOf112 (LK.rd (i := 0) rfl) zq.len rfl (LJ.inb LM)) rfl), nQ rfl (by exact qV (YQ rfl (LK.rd (i := 0) rfl) zq.len rfl (LJ.inb LM) Tryd.runUnderlying112 rfl Tryd.sizeOf3 rfl) rfl), nQ rfl (by exact qV (Bm 0 rfl (LK.rd (i := 0) rfl) zq.len (LJ.inb LM) (by rw [show zq.v (rd LI LF) = _ from Mg]; rfl) Tryd.isAgg3) rfl), nM rfl, nM rfl, nB rfl, nQ rfl (by exact qV (xZ rfl rfl Tryd.runUnderlying110 Tryd.sizeOf112 (LK.rd (i := 0) rfl) zq.len rfl (LJ.inb LN)) rfl), nQ rfl (by exact qV (YQ rfl (LK.rd (i := 0) rfl) zq.len rfl (LJ.inb LN) Tryd.runUnderlying112 rfl Tryd.sizeOf3 rfl) rfl), nQ rfl (by exact qV (Bm 0 rfl (LK.rd (i := 0) rfl) zq.len (LJ.inb LN) (by rw [show zq.v (rd LI (qh (LF + (1 : Int)))) = _ from Mh]; rfl) Tryd.isAgg3) rfl), nB rfl, nM rfl, nM rfl, nQ rfl (by exact qV (xZ rfl rfl Tryd.runUnderlying110 Tryd.sizeOf112 (LK.rd (i := 0) rfl) zq.len rfl (LJ.inb LM)) rfl), nQ rfl (by exact qV (YQ rfl (LK.rd (i := 0) rfl) zq.len rfl (LJ.inb LM) Tryd.runUnderlying112 rfl Tryd.sizeOf45 rfl) rfl), nQ rfl (by exact qV (Bm 1 rfl (LK.rd (i := 0) rfl) zq.len (LJ.inb LM) (by rw [show zq.v (rd LI LF) = _ from MK]; rfl) Tryd.isAgg45) rfl), nM rfl, nM rfl, nB rfl, nQ rfl (by exact qV (xZ rfl rfl Tryd.runUnderlying110 Tryd.sizeOf112 (LK.rd (i := 0) rfl) zq.len rfl (LJ.inb LN)) rfl), nQ rfl (by exact qV (YQ rfl (LK.rd (i := 0) rfl) zq.len rfl (LJ.inb LN) Tryd.runUnderlying112 rfl Tryd.sizeOf45 rfl) rfl), nQ rfl (by exact qV (Bm 1 rfl (LK.rd (i := 0) rfl) zq.len (LJ.inb LN) (by rw [show zq.v (rd LI (qh (LF + (1 : Int)))) = _ from MM]; rfl) Tryd.isAgg45) rfl), trivial⟩) fun D l a w ho hcl hav hpre hm hE hk hA hst => ?_
   have hS := (Ss.mk hE hst).env2 (e' := [(29, .slice L1 ((rd LG LF).symbols_).length L3), (35, .slice L4 ((rd LG (qh (LF + (1 : Int)))).symbols_).length L5)]) ⟨rfl, rfl, trivial⟩
   refine qR rfl ?_
   obtain ⟨LQ, hrw⟩ : ∃ r, r = ([(⟨[.slice L1 ((rd LG LF).symbols_).length L3], by simp, by simp [Value.oneCell']⟩ : zq 1), (⟨[.slice L4 ((rd LG (qh (LF + (1 : Int)))).symbols_).length L5], by simp, by simp [Value.oneCell']⟩ : zq 1)] : List (zq 1)) := ⟨_, rfl⟩
   have Ma : zr (vx LV) ([(rd LG LF).symbols_, (rd LG (qh (LF + (1 : Int)))).symbols_] : List (List Int)) LQ := by rw [hrw]; exact (zr.cons (show vx LV _ _ from ⟨L1, L3, rfl, L8, ML⟩) (zr.cons (show vx LV _ _ from ⟨L4, L5, rfl, L9, MN⟩) zr.nil))
   refine Yx (g := (zq.v (sz := 1))) LQ [.slice L1 ((rd LG LF).symbols_).length L3, .slice L4 ((rd LG (qh (LF + (1 : Int)))).symbols_).length L5] hS Tryd.runUnderlying167 Tryd.sizeOf45 X.el45 rfl rfl rfl (by simp [Value.cells]) (by rw [hrw]; rfl) (by rw [hrw]; rfl) rfl rfl rfl fun w Mb Mc Ng Mn hS => ?_
   clear hrw
   refine qJ ?_
   replace hst := hS.st
   obtain ⟨hcl, hmust, hav2, hA⟩ := dn (vals' := [some (.slice LW LO.length LX), some (.slice LH LI.length LL), some (.int .i64 LF), some (z8 LH (Int.toNat LF * 2)), some (z8 LH (Int.toNat LF * 2 + 0)), some (.int .i64 ((rd LG LF).often_)), some (.slice LH LI.length LL), some (.int .i64 LF), some (.int .i64 (qh (LF + (1 : Int)))), some (z8 LH (Int.toNat (qh (LF + (1 : Int))) * 2)), some (z8 LH (Int.toNat (qh (LF + (1 : Int))) * 2 + 0)), some (.int .i64 ((rd LG (qh (LF + (1 : Int)))).often_)), some (.int .i64 (qh ((rd LG LF).often_ + (rd LG (qh (LF + (1 : Int)))).often_))), some (.slice LH LI.length LL), some (.int .i64 LF), some (z8 LH (Int.toNat LF * 2)), some (z8 LH (Int.toNat LF * 2 + 1)), some (.slice L1 ((rd LG LF).symbols_).length L3), some (.slice LH LI.length LL), some (.int .i64 LF), some (.int .i64 (qh (LF + (1 : Int)))), some (z8 LH (Int.toNat (qh (LF + (1 : Int))) * 2)), some (z8 LH (Int.toNat (qh (LF + (1 : Int))) * 2 + 1)), some (.slice L4 ((rd LG (qh (LF + (1 : Int)))).symbols_).length L5), some (.slice Mb LQ.length Mc), none, none, none, none, none]) 24 [(17, 24), (23, 24), (16, 17), (22, 23), (15, 16), (21, 22), (13, 15), (14, 15), (18, 21), (20, 21), (19, 20)] hA hcl hav hm hpre hk rfl rfl rfl rfl rfl rfl rfl
   clear hm hav
   refine yV hA hst ho hcl hav2 hmust 25 [0, 1, 2, 3, 4, 5, 6, 7, 8, 9, 10, 11, 12] rfl rfl rfl rfl rfl (by exact ⟨nM rfl, nM rfl, nM rfl, nQ rfl (by exact qV (xZ rfl rfl Tryd.runUnderlying110 Tryd.sizeOf112 (LK.rd (i := 1) rfl) zq.len rfl (LJ.inb LM)) rfl), nQ rfl (by exact qV (YQ rfl (LK.rd (i := 1) rfl) zq.len rfl (LJ.inb LM) Tryd.runUnderlying112 rfl Tryd.sizeOf3 rfl) rfl), nQ rfl (by exact qV (Bm 0 rfl (LK.rd (i := 1) rfl) zq.len (LJ.inb LM) (by rw [show zq.v (rd LI LF) = _ from Mg]; rfl) Tryd.isAgg3) rfl), nM rfl, nM rfl, nB rfl, nQ rfl (by exact qV (xZ rfl rfl Tryd.runUnderlying110 Tryd.sizeOf112 (LK.rd (i := 1) rfl) zq.len rfl (LJ.inb LN)) rfl), nQ rfl (by exact qV (YQ rfl (LK.rd (i := 1) rfl) zq.len rfl (LJ.inb LN) Tryd.runUnderlying112 rfl Tryd.sizeOf3 rfl) rfl), nQ rfl (by exact qV (Bm 0 rfl (LK.rd (i := 1) rfl) zq.len (LJ.inb LN) (by rw [show zq.v (rd LI (qh (LF + (1 : Int)))) = _ from Mh]; rfl) Tryd.isAgg3) rfl), nB rfl, trivial⟩) fun D l a w ho hcl hav hpre hm hE hk hA hst => ?_
   have hS := (Ss.mk hE hst).env2 (e' := [(36, .slice Mb LQ.length Mc)]) ⟨rfl, trivial⟩
   refine qR rfl ?_
   replace hS := hS.front [0, 1, 2] (by kernel_rfl)
   obtain ⟨Mz, MO, LZ, hS⟩ := hS.poolF
   have MP := Mn.cap zq.len rfl
   have Mi := Mn.pl.mono MO
   replace LK := LK.mono LZ
   replace L8 := L8.mono LZ
   replace L9 := L9.mono LZ
   replace LJ := zr.mono (fun _ _ h => qg.mono LZ h) LJ
   replace LY := zr.mono (fun _ _ h => qg.mono LZ h) LY
   replace Ma := zr.mono (fun _ _ h => vx.mono LZ h) Ma
   replace L6 := fun q h => LZ q (L6 q h)
   refine qN hS rfl Tryd.call85 (vK hG K ([(rd LG LF).symbols_, (rd LG (qh (LF + (1 : Int)))).symbols_] : List (List Int)) Mz Mb Mc LQ Ma Mi MP (hS.st.part 1 [0, 1] (by kernel_rfl)) (qv hM) (fun LR LS LP MY w hM MA hst => qG hS.ev hst.appF rfl fun hS => ?_) (fun v w hk hst => xm (qD (zT (qD (qD (zT (qD (⟨hS.ev.defs, hpan _ _ hk hst.appF.frame⟩)))))))))
   replace hS : Ss _ _ _ H [Mz, MY, Me] F _ _ := hS
   refine qJ ?_
   replace hst := hS.st
   obtain ⟨hcl, hmust, hav2, hA⟩ := dn (vals' := [some (.slice LW LO.length LX), some (.slice LH LI.length LL), some (.int .i64 LF), some (z8 LH (Int.toNat LF * 2)), some (z8 LH (Int.toNat LF * 2 + 0)), some (.int .i64 ((rd LG LF).often_)), some (.slice LH LI.length LL), some (.int .i64 LF), some (.int .i64 (qh (LF + (1 : Int)))), some (z8 LH (Int.toNat (qh (LF + (1 : Int))) * 2)), some (z8 LH (Int.toNat (qh (LF + (1 : Int))) * 2 + 0)), some (.int .i64 ((rd LG (qh (LF + (1 : Int)))).often_)), some (.int .i64 (qh ((rd LG LF).often_ + (rd LG (qh (LF + (1 : Int)))).often_))), some (.slice LH LI.length LL), some (.int .i64 LF), some (z8 LH (Int.toNat LF * 2)), some (z8 LH (Int.toNat LF * 2 + 1)), some (.slice L1 ((rd LG LF).symbols_).length L3), some (.slice LH LI.length LL), some (.int .i64 LF), some (.int .i64 (qh (LF + (1 : Int)))), some (z8 LH (Int.toNat (qh (LF + (1 : Int))) * 2)), some (z8 LH (Int.toNat (qh (LF + (1 : Int))) * 2 + 1)), some (.slice L4 ((rd LG (qh (LF + (1 : Int)))).symbols_).length L5), some (.slice Mb LQ.length Mc), some (.slice LR LP.length LS), some (.agg ⟨[.int .i64 (qh ((rd LG LF).often_ + (rd LG (qh (LF + (1 : Int)))).often_)), .slice LR LP.length LS]⟩), none, none, none]) 25 [(24, 25), (17, 24), (23, 24), (16, 17), (22, 23), (15, 16), (21, 22), (13, 15), (14, 15), (18, 21), (20, 21), (19, 20)] hA hcl hav hm hpre hk rfl rfl rfl rfl rfl rfl rfl
   clear hm hav
   refine yV hA hst ho hcl hav2 hmust 27 [0, 1, 2, 3, 4, 5, 6, 7, 8, 9, 10, 11, 12, 26] rfl rfl rfl rfl rfl (by exact ⟨nM rfl, nM rfl, nM rfl, nQ rfl (by exact qV (xZ rfl rfl Tryd.runUnderlying110 Tryd.sizeOf112 (LK.rd (i := 0) rfl) zq.len rfl (LJ.inb LM)) rfl), nQ rfl (by exact qV (YQ rfl (LK.rd (i := 0) rfl) zq.len rfl (LJ.inb LM) Tryd.runUnderlying112 rfl Tryd.sizeOf3 rfl) rfl), nQ rfl (by exact qV (Bm 0 rfl (LK.rd (i := 0) rfl) zq.len (LJ.inb LM) (by rw [show zq.v (rd LI LF) = _ from Mg]; rfl) Tryd.isAgg3) rfl), nM rfl, nM rfl, nB rfl, nQ rfl (by exact qV (xZ rfl rfl Tryd.runUnderlying110 Tryd.sizeOf112 (LK.rd (i := 0) rfl) zq.len rfl (LJ.inb LN)) rfl), nQ rfl (by exact qV (YQ rfl (LK.rd (i := 0) rfl) zq.len rfl (LJ.inb LN) Tryd.runUnderlying112 rfl Tryd.sizeOf3 rfl) rfl), nQ rfl (by exact qV (Bm 0 rfl (LK.rd (i := 0) rfl) zq.len (LJ.inb LN) (by rw [show zq.v (rd LI (qh (LF + (1 : Int)))) = _ from Mh]; rfl) Tryd.isAgg3) rfl), nB rfl, nQ rfl (by exact qV (X4 ([.int .i64 (qh ((rd LG LF).often_ + (rd LG (qh (LF + (1 : Int)))).often_)), .slice LR LP.length LS]) [(0, 1), (1, 1)] Tryd.zeroValue112 Tryd.runUnderlying112 (by intro w; simp [Tryd.sizeOf3, Tryd.sizeOf45]) rfl rfl) rfl), trivial⟩) fun D l a w ho hcl hav hpre hm hE hk hA hst => ?_
   have hS := (Ss.mk hE hst).env2 (e' := [(38, .agg ⟨[.int .i64 (qh ((rd LG LF).often_ + (rd LG (qh (LF + (1 : Int)))).often_)), .slice LR LP.length LS]⟩)]) ⟨rfl, trivial⟩
   refine qR rfl ?_
   replace hS := hS.front [1, 0, 2] (by kernel_rfl)
   obtain ⟨Mp, MQ, LT, hS⟩ := hS.poolF
   have MR := MA.cap (fun _ => rfl) rfl
   have MS := MA.pl.mono MQ
   replace LK := LK.mono LT
   replace L8 := L8.mono LT
   replace L9 := L9.mono LT
   replace Mi := Mi.mono LT
   replace LJ := zr.mono (fun _ _ h => qg.mono LT h) LJ
   replace LY := zr.mono (fun _ _ h => qg.mono LT h) LY
   replace Ma := zr.mono (fun _ _ h => vx.mono LT h) Ma
   replace L6 := fun q h => LT q (L6 q h)
   obtain ⟨L7, hrw⟩ : ∃ r, r = ([(⟨[.int .i64 (qh ((rd LG LF).often_ + (rd LG (qh (LF + (1 : Int)))).often_)), .slice LR LP.length LS], by simp, by simp [Value.oneCell']⟩ : zq 2)] : List (zq 2)) := ⟨_, rfl⟩
   have Mq : zr (qg Mp) ([(qb.mk (qh ((rd LG LF).often_ + (rd LG (qh (LF + (1 : Int)))).often_)) LP)] : List qb) L7 := by rw [hrw]; exact (zr.cons (show qg Mp _ _ from ⟨LR, LS, rfl, MS, MR⟩) zr.nil)
   refine Yx (g := (zq.v (sz := 2))) L7 [.agg ⟨[.int .i64 (qh ((rd LG LF).often_ + (rd LG (qh (LF + (1 : Int)))).often_)), .slice LR LP.length LS]⟩] hS Tryd.runUnderlying110 Tryd.sizeOf112 X.el112 rfl rfl rfl (by simp [Value.cells]) (by rw [hrw]; rfl) (by rw [hrw]; rfl) rfl rfl rfl fun w Mr Ms Nh MT hS => ?_
   clear hrw
   refine qJ ?_
   replace hst := hS.st
   obtain ⟨hcl, hmust, hav2, hA⟩ := dn (vals' := [some (.slice LW LO.length LX), some (.slice LH LI.length LL), some (.int .i64 LF), some (z8 LH (Int.toNat LF * 2)), some (z8 LH (Int.toNat LF * 2 + 0)), some (.int .i64 ((rd LG LF).often_)), some (.slice LH LI.length LL), some (.int .i64 LF), some (.int .i64 (qh (LF + (1 : Int)))), some (z8 LH (Int.toNat (qh (LF + (1 : Int))) * 2)), some (z8 LH (Int.toNat (qh (LF + (1 : Int))) * 2 + 0)), some (.int .i64 ((rd LG (qh (LF + (1 : Int)))).often_)), some (.int .i64 (qh ((rd LG LF).often_ + (rd LG (qh (LF + (1 : Int)))).often_))), some (.slice LH LI.length LL), some (.int .i64 LF), some (z8 LH (Int.toNat LF * 2)), some (z8 LH (Int.toNat LF * 2 + 1)), some (.slice L1 ((rd LG LF).symbols_).length L3), some (.slice LH LI.length LL), some (.int .i64 LF), some (.int .i64 (qh (LF + (1 : Int)))), some (z8 LH (Int.toNat (qh (LF + (1 : Int))) * 2)), some (z8 LH (Int.toNat (qh (LF + (1 : Int))) * 2 + 1)), some (.slice L4 ((rd LG (qh (LF + (1 : Int)))).symbols_).length L5), some (.slice Mb LQ.length Mc), some (.slice LR LP.length LS), some (.agg ⟨[.int .i64 (qh ((rd LG LF).often_ + (rd LG (qh (LF + (1 : Int)))).often_)), .slice LR LP.length LS]⟩), some (.slice Mr L7.length Ms), none, none]) 27 [(26, 27), (12, 26), (25, 26), (5, 12), (11, 12), (24, 25), (4, 5), (10, 11), (17, 24), (23, 24), (3, 4), (9, 10), (16, 17), (22, 23), (1, 3), (2, 3), (6, 9), (8, 9), (15, 16), (21, 22), (7, 8), (13, 15), (14, 15), (18, 21), (20, 21), (19, 20)] hA hcl hav hm hpre hk rfl rfl rfl rfl rfl rfl rfl
   clear hm hav
   refine yV hA hst ho hcl hav2 hmust 28 [0] rfl rfl rfl rfl rfl (by exact ⟨nM rfl, trivial⟩) fun D l a w ho hcl hav hpre hm hE hk hA hst => ?_
   have hS := (Ss.mk hE hst).env2 (e' := [(12, .slice LW LO.length LX), (39, .slice Mr L7.length Ms)]) ⟨rfl, rfl, trivial⟩
   refine qR rfl ?_
   obtain ⟨MU, hM⟩ := qH hM
   refine Jm (ys := L7) 2 hS rfl rfl Mm rfl (MT.rd (i := 0) rfl) Tryd.runUnderlying110 Tryd.runUnderlying110 X.el112 zq.len rfl Xc (LY.room Mq MU) rfl fun Md w Mj Mk MZ hz MV hS => ?_
   obtain ⟨MW, hzm⟩ := js (L0 ++ ([(qb.mk (qh ((rd LG LF).often_ + (rd LG (qh (LF + (1 : Int)))).often_)) LP)] : List qb))
   replace hM := qE hzm hM
   have Mt := zr.append LY Mq
   rw [← hz, ← hzm] at Mt; clear hz hzm
   refine qJ ?_
   replace hst := hS.st
   obtain ⟨hcl, hmust, hav2, hA⟩ := dn (vals' := [some (.slice LW LO.length LX), some (.slice LH LI.length LL), some (.int .i64 LF), some (z8 LH (Int.toNat LF * 2)), some (z8 LH (Int.toNat LF * 2 + 0)), some (.int .i64 ((rd LG LF).often_)), some (.slice LH LI.length LL), some (.int .i64 LF), some (.int .i64 (qh (LF + (1 : Int)))), some (z8 LH (Int.toNat (qh (LF + (1 : Int))) * 2)), some (z8 LH (Int.toNat (qh (LF + (1 : Int))) * 2 + 0)), some (.int .i64 ((rd LG (qh (LF + (1 : Int)))).often_)), some (.int .i64 (qh ((rd LG LF).often_ + (rd LG (qh (LF + (1 : Int)))).often_))), some (.slice LH LI.length LL), some (.int .i64 LF), some (z8 LH (Int.toNat LF * 2)), some (z8 LH (Int.toNat LF * 2 + 1)), some (.slice L1 ((rd LG LF).symbols_).length L3), some (.slice LH LI.length LL), some (.int .i64 LF), some (.int .i64 (qh (LF + (1 : Int)))), some (z8 LH (Int.toNat (qh (LF + (1 : Int))) * 2)), some (z8 LH (Int.toNat (qh (LF + (1 : Int))) * 2 + 1)), some (.slice L4 ((rd LG (qh (LF + (1 : Int)))).symbols_).length L5), some (.slice Mb LQ.length Mc), some (.slice LR LP.length LS), some (.agg ⟨[.int .i64 (qh ((rd LG LF).often_ + (rd LG (qh (LF + (1 : Int)))).often_)), .slice LR LP.length LS]⟩), some (.slice Mr L7.length Ms), some (.slice Mj Md.length Mk), some (.slice Mj Md.length Mk)]) 28 [(0, 28), (25, 28), (27, 28), (24, 25), (26, 27), (17, 24), (23, 24), (12, 26), (16, 17), (22, 23), (5, 12), (11, 12), (15, 16), (21, 22), (4, 5), (10, 11), (13, 15), (14, 15), (18, 21), (20, 21), (3, 4), (9, 10), (19, 20), (1, 3), (2, 3), (6, 9), (8, 9), (7, 8)] hA hcl hav hm hpre hk rfl rfl rfl rfl rfl rfl rfl
   clear hm hav
   refine x6 hA hst ho hcl hmust [29] rfl rfl rfl (by exact ⟨nA rfl, trivial⟩) fun a w hS => ?_
   replace hS := hS.env2 (e' := [(0, .slice LH LI.length LL), (3, .slice Mj Md.length Mk), (4, .int .i64 LF)]) ⟨rfl, rfl, rfl, trivial⟩
   refine zw (qf ?_)
   refine zI <| sM hS rfl fun hS => sB hS rfl fun hS => zF (v := Value.int .i64) (x0 := (qh (LF + (2 : Int)))) hS (xB rfl) rfl fun M0 a w hz hS => ?_
   have hM := qE hz hM; clear hz
   refine zg <| qf ?_
   exact MH _ _ ⟨Mp, Mj, Mk, Md, MW, MZ, M0, hS.to [1, 2] (by kernel_rfl) ⟨rfl, rfl, rfl, trivial⟩, L6, LJ, LK, MI, MV, Mt, hM⟩
  ·refine wp_exit ?_
   refine qC (qC (q9 (qf ?_)))
   refine qr <| sM hS rfl fun hS => sA hS rfl fun hS => qJ <| wp_ret ?_
   exact zX (rs := [2]) hS rfl rfl (hret LV LW LX LO L0 Me _ (zn hM) L6 Mm LY (hS.st.pick [0, 1] (by kernel_rfl)))
def xP (p : qp) (x : (List qb)) (vs : List Value) : Prop :=
  ∃ (A0 : Option Addr) (c0 : Nat) (r0 : List (zq 2)), vs = [.slice A0 r0.length c0] ∧ zr (qg p) x r0 ∧ Pl p (zq.v (sz := 2)) A0 r0 ∧ r0.length ≤ c0
theorem xP.mono {p p' : qp} (hs : ∀ q ∈ p, q ∈ p') {x : (List qb)} {vs : List Value} (h : xP p x vs) : xP p' x vs := by
  obtain ⟨A0, c0, r0, h0, h1, h2, h3⟩ := h
  exact ⟨A0, c0, r0, h0, zr.mono (fun _ _ h => qg.mono hs h) h1, h2.mono hs, h3⟩
theorem yL {H : xT} {F : List qp} {w : World} {R : Ending → World → Prop} {kr : Unit → Prop} {kp : Value → Prop} (hG : Gl H) (K : Nat) (LG : Int)
    (hS : St w H [] F) (hm : (z1.m K LG).wp kr kp)
    (hret : ∀ (LH : qp) (LI : Option Addr) (LJ : Nat) (LK : qp) (w : World), kr () → (xb 112 (zq.v (sz := 2)) 2 LI ([] : List (zq 2)) LJ LK) → (zr (qg LH) ([] : List qb) ([] : List (zq 2))) → St w H [LH, LK] F → R (.returned (.slice LI ([] : List (zq 2)).length LJ)) w)
    (hpan : ∀ v w, kp v → St w H [] F → R (.panicked [⟨v, false, false⟩]) w) :
    Calls Tryd.prog 101 ⟨[.slice none 0 0, .int .i64 LG]⟩ w R := by
 refine enter Tryd.func101 rfl Tryd.ntmps101 rfl hS fun a w hS => ?_
 have hM := hm; clear hm
 rw [z1.m] at hM
 refine qr <| sA hS rfl fun hS => ?_
 obtain ⟨LF, hS⟩ := hS.pool0
 obtain ⟨L1, LY, hS⟩ := hS.nilV 112 (zq.v (sz := 2)) 2
 have LZ : zr (qg LF) ([] : List qb) ([] : List (zq 2)) := zr.nil
 refine qJ <| wp_seq <| qr <| sM hS rfl fun hS => sB hS rfl fun hS => qJ <| qI hS rfl hM (fun LL hM => ?_) (fun LL hM => ?_)
 ·refine zI ?_
  refine sO hS (Ga rfl Tryd.runUnderlying9 rfl) rfl fun hS => QD hS rfl <| qD ?_
  exact ⟨hS.ev.defs, hpan _ _ (ZC hM) hS.st.frame⟩
 ·refine wp_skip ?_
  refine qf <| wp_seq <| qr <| sM hS rfl fun hS => sM hS rfl fun hS => sO hS (Bz rfl Tryd.runUnderlying110) rfl fun hS => sM hS rfl fun hS => sO hS (ym rfl Tryd.runUnderlying110) rfl fun hS => sB hS rfl fun hS => sB hS rfl fun hS => zF (v := Value.int .i64) (x0 := (qh (LG - (qh ((0 : Int) - (0 : Int)))))) hS (xB rfl) rfl fun L0 a w hz hS => ?_
  have hM := qE hz hM; clear hz
  refine qJ <| qr <| sM hS rfl fun hS => sB hS rfl fun hS => qJ <| qI hS rfl hM (fun LM hM => ?_) (fun LM hM => ?_)
  ·refine zI ?_
   refine sM hS rfl fun hS => sM hS rfl fun hS => sO hS (Bz rfl Tryd.runUnderlying110) rfl fun hS => sO hS (G8 rfl Tryd.runUnderlying110 Tryd.sizeOf112 (Dy rfl)) rfl fun hS => sM hS rfl fun hS => ?_
   obtain ⟨LN, hM⟩ := qH hM
   refine Lf (g := (zq.v (sz := 2))) hS rfl rfl Tryd.runUnderlying110 Tryd.runUnderlying3 X.el112 rfl rfl LN rfl fun w LU LV LW LO LP LQ hS => ?_
   have LR : zr (qg LF) ([] : List qb) ([] : List (zq 2)) := zr.nil
   refine sM hS rfl fun hS => sO hS (ym rfl Tryd.runUnderlying110) rfl fun hS => sO hS (Lb rfl Tryd.runUnderlying110 Tryd.sizeOf112 (fun _ => Dy rfl) LP LQ) rfl fun hS => sA hS rfl fun hS => qJ <| qr <| sM hS rfl fun hS => sA hS rfl fun hS => qJ <| wp_ret ?_
   exact zX (rs := [4]) hS rfl rfl (hret LF LU LV LW _ (zn hM) LO LR (hS.st.pick [2, 0] (by kernel_rfl)))
  ·refine wp_skip ?_
   refine qf <| qr <| sM hS rfl fun hS => sA hS rfl fun hS => ?_
   obtain ⟨LX, LS, hS⟩ := hS.nilV 112 (zq.v (sz := 2)) 2
   have LT : zr (qg LF) ([] : List qb) ([] : List (zq 2)) := zr.nil
   refine qJ <| wp_ret ?_
   exact zX (rs := [4]) hS rfl rfl (hret LF none (0) LX _ (zn hM) LS LT (hS.st.pick [2, 0] (by kernel_rfl)))
theorem yY {H : xT} {F : List qp} {w : World} {R : Ending → World → Prop} {kr : (List qb) → Prop} {kp : Value → Prop} (hG : Gl H) (K : Nat) (LF : List (List qb)) (LK : qp) (LP : Option Addr) (LQ : Nat) (LH : List (zq 1)) (LI : zr (xP LK) LF LH) (LM : Pl LK (zq.v (sz := 1)) LP LH) (ME : LH.length ≤ LQ)
    (hS : St w H [LK] F) (hm : (qu.m K LF).wp kr kp)
    (hret : ∀ (L1 : qp) (L9 : Option Addr) (Ma : Nat) (LS : List (zq 2)) (Mb : (List qb)) (Mc : qp) (w : World), kr Mb → (∀ q ∈ LK, q ∈ L1) → (xb 112 (zq.v (sz := 2)) 2 L9 LS Ma Mc) → (zr (qg L1) Mb LS) → St w H [L1, Mc] F → R (.returned (.slice L9 LS.length Ma)) w)
    (hpan : ∀ v w, kp v → St w H [] F → R (.panicked [⟨v, false, false⟩]) w) :
    Calls Tryd.prog 83 ⟨[.slice LP LH.length LQ]⟩ w R := by
 refine enter Tryd.func83 rfl Tryd.ntmps83 rfl hS fun a w hS => ?_
 have hM := hm; clear hm
 rw [qu.m] at hM
 have LT : ∀ q ∈ LK, q ∈ LK := fun _ h => h
 refine qr <| sA hS rfl fun hS => ?_
 obtain ⟨ML, MF, hS⟩ := hS.nilV 112 (zq.v (sz := 2)) 2
 have MG : zr (qg LK) ([] : List qb) ([] : List (zq 2)) := zr.nil
 refine qJ <| qr <| sA hS rfl fun hS => qJ <| zc (fun a w => ∃ (LL : Int), Ss 36 [] [(0, .slice LP LH.length LQ), (3, .int .i64 LL)] H [LK] F a w ∧ (qu.j2 K LF LL).wp kr kp) (fun MM Mg => ?_) ?_
 ·refine wp_seq ?_
  refine zI <| sM hS rfl fun hS => sO hS (qV (v' := .int .i64 (LF.length : Int)) (ym rfl Tryd.runUnderlying165) (by rw [LI.len])) rfl fun hS => sM hS rfl fun hS => qJ <| xG <| zt (fun Md a w => ∃ (LJ : Int) (LN : Int), Ss 36 [] [(0, .slice LP LH.length LQ), (3, .int .i64 LJ), (9, .slice LP LH.length LQ), (10, .int .i64 (LF.length : Int)), (11, .int .i64 LN)] H [LK] F a w ∧ (qu.l1 K LF Md LJ LN).wp kr kp) K ?_ ?_ ?_
  ·exact ⟨(0 : Int), (0 : Int), hS.to [1] (by kernel_rfl) ⟨rfl, rfl, rfl, rfl, rfl, trivial⟩, hM⟩
  ·intro a w hI; obtain ⟨_, _, _, hM⟩ := hI; exact zm hM
  ·intro Md a w hI MN Mh
   obtain ⟨LJ, LN, hS, hM⟩ := hI
   rw [qu.l1] at hM
   refine qr <| sB hS rfl fun hS => qJ <| wp_seq <| qI hS rfl hM (fun Mi hM => ?_) (fun Mi hM => ?_)
   ·refine wp_skip ?_
    refine qf <| wp_seq <| xG <| wp_seq <| zI ?_
    obtain ⟨LU, hM⟩ := qH hM
    refine sO hS (xZ rfl rfl Tryd.runUnderlying165 Tryd.sizeOf110 (LM.rd (i := 0) rfl) zq.len rfl (LI.inb LU)) rfl fun hS => ?_
    obtain ⟨MO, MP, MH, Mj, Mk, MI, MJ⟩ := LI.get LU
    refine sO hS (yH rfl (LM.rd (i := 0) rfl) zq.len (LI.inb LU) (by rw [show zq.v (rd LH LN) = _ from Mj]; rfl) Tryd.isAgg110) rfl fun hS => sA hS rfl fun hS => qJ <| qr <| sM hS rfl fun hS => sM hS rfl fun hS => sO hS (qV (v' := .int .i64 ((rd LF LN).length : Int)) (ym rfl Tryd.runUnderlying110) (by rw [Mk.len])) rfl fun hS => sB hS rfl fun hS => zF (v := Value.int .i64) (x0 := (qh (LJ + ((rd LF LN).length : Int)))) hS (xB rfl) rfl fun L3 a w hz hS => ?_
    have hM := qE hz hM; clear hz
    refine qJ <| qr <| sM hS rfl fun hS => sB hS rfl fun hS => qJ <| qI hS rfl hM (fun Ml hM => ?_) (fun Ml hM => ?_)
    ·refine zI ?_
     refine sO hS (Ga rfl Tryd.runUnderlying9 rfl) rfl fun hS => QD hS rfl <| zT (qD (qD (zT (qD ?_))))
     exact ⟨hS.ev.defs, hpan _ _ (ZC hM) hS.st.frame⟩
    ·refine wp_skip ?_
     refine zw (qf ?_)
     refine zI <| sB hS rfl fun hS => sM hS rfl fun hS => zg <| qf ?_
     exact Mh _ _ ⟨L3, (qh (LN + (1 : Int))), hS.to [0] (by kernel_rfl) ⟨rfl, rfl, rfl, rfl, rfl, trivial⟩, hM⟩
   ·refine wp_exit ?_
    refine qC (qC (q9 (qf ?_)))
    exact Mg _ _ ⟨LJ, hS.to [0] (by kernel_rfl) ⟨rfl, rfl, trivial⟩, hM⟩
 ·intro a w hI
  obtain ⟨LL, hS, hM⟩ := hI
  rw [qu.j2] at hM
  refine qr <| sM hS rfl fun hS => qN hS rfl Tryd.call101 (yL hG K LL (hS.st.part 0 [0] (by kernel_rfl)) (qv hM) (fun Mx My Mz Me w hM MA L4 hst => qG hS.ev hst.appF rfl fun hS => ?_) (fun v w hk hst => xm (qD (⟨hS.ev.defs, hpan _ _ hk hst.appF.frame⟩))))
  replace hS : Ss _ _ _ H [Mx, Me, LK] F _ _ := hS
  replace hS := hS.front [0, 2, 1] (by kernel_rfl)
  obtain ⟨L5, Mm, LV, hS⟩ := hS.poolF
  replace L4 := zr.mono (fun _ _ h => qg.mono Mm h) L4
  replace LM := LM.mono LV
  replace LI := zr.mono (fun _ _ h => xP.mono LV h) LI
  replace LT := fun q h => LV q (LT q h)
  refine sA hS rfl fun hS => qJ <| wp_seq <| qr <| sM hS rfl fun hS => sO hS (qV (v' := .int .i64 (LF.length : Int)) (ym rfl Tryd.runUnderlying165) (by rw [LI.len])) rfl fun hS => sM hS rfl fun hS => qJ <| xG <| zt (fun Mf a w => ∃ (LY : Option Addr) (LZ : Nat) (LO : List (zq 2)) (LG : (List qb)) (L0 : qp) (LR : Int), Ss 36 [] [(6, .slice LY LO.length LZ), (25, .slice LP LH.length LQ), (26, .int .i64 (LF.length : Int)), (27, .int .i64 LR)] H [L5, L0] F a w ∧ (xb 112 (zq.v (sz := 2)) 2 LY LO LZ L0) ∧ (zr (qg L5) LG LO) ∧ (qu.l3 K LF Mf LG LR).wp kr kp) K ?_ ?_ ?_
  ·exact ⟨My, Mz, ([] : List (zq 2)), ([] : List qb), Me, (0 : Int), hS.to [0, 1] (by kernel_rfl) ⟨rfl, rfl, rfl, rfl, trivial⟩, MA, L4, hM⟩
  ·intro a w hI; obtain ⟨_, _, _, _, _, _, _, _, _, hM⟩ := hI; exact zm hM
  ·intro Mf a w hI MQ Mn
   obtain ⟨LY, LZ, LO, LG, L0, LR, hS, L6, LW, hM⟩ := hI
   rw [qu.l3] at hM
   refine qr <| sB hS rfl fun hS => qJ <| wp_seq <| qI hS rfl hM (fun Mp hM => ?_) (fun Mp hM => ?_)
   ·refine wp_skip ?_
    refine qf <| wp_seq <| xG <| wp_seq <| zI ?_
    obtain ⟨LX, hM⟩ := qH hM
    refine sO hS (xZ rfl rfl Tryd.runUnderlying165 Tryd.sizeOf110 (LM.rd (i := 0) rfl) zq.len rfl (LI.inb LX)) rfl fun hS => ?_
    obtain ⟨MR, MS, Mq, Mr, L7, Ms, MK⟩ := LI.get LX
    refine sO hS (yH rfl (LM.rd (i := 0) rfl) zq.len (LI.inb LX) (by rw [show zq.v (rd LH LR) = _ from Mr]; rfl) Tryd.isAgg110) rfl fun hS => sA hS rfl fun hS => qJ <| zI <| sM hS rfl fun hS => sM hS rfl fun hS => ?_
    obtain ⟨Mt, hM⟩ := qH hM
    refine Jm (ys := Mq) 1 hS rfl rfl L6 rfl (Ms.rd (i := 0) rfl) Tryd.runUnderlying110 Tryd.runUnderlying110 X.el112 zq.len rfl Xc (LW.room L7 Mt) rfl fun Mu w MB MC MD hz Mv hS => ?_
    obtain ⟨Mw, hzm⟩ := js (LG ++ (rd LF LR))
    replace hM := qE hzm hM
    have L8 := zr.append LW L7
    rw [← hz, ← hzm] at L8; clear hz hzm
    refine sA hS rfl fun hS => zg <| zw (qf ?_)
    refine zI <| sB hS rfl fun hS => sM hS rfl fun hS => zg <| qf ?_
    exact Mn _ _ ⟨MB, MC, Mu, Mw, MD, (qh (LR + (1 : Int))), hS.to [0, 1] (by kernel_rfl) ⟨rfl, rfl, rfl, rfl, trivial⟩, Mv, L8, hM⟩
   ·refine wp_exit ?_
    refine qC (qC (q9 (qf ?_)))
    refine qr <| sM hS rfl fun hS => sA hS rfl fun hS => qJ <| wp_ret ?_
    exact zX (rs := [2]) hS rfl rfl (hret L5 LY LZ LO LG L0 _ (zn hM) LT L6 LW (hS.st.pick [0, 1] (by kernel_rfl)))
theorem jz {H : xT} {F : List qp} {w : World} {R : Ending → World → Prop} {kr : Int → Prop} {kp : Value → Prop} (hG : Gl H) (K : Nat) (LF : qb) (LG : qb) (LH : Option Addr) (LI : Nat) (LJ : Option Addr) (LK : Nat) (LR : jQ H [] F (ci .i64) LH LF.symbols_) (LS : LF.symbols_.length ≤ LI) (LT : jQ H [] F (ci .i64) LJ LG.symbols_) (LU : LG.symbols_.length ≤ LK)
    (hS : St w H [] F) (hm : (y6.m K LF LG).wp kr kp)
    (hret : ∀ (LL : Int) (w : World), kr LL → St w H [] F → R (.returned (.int .i64 LL)) w) :
    Calls Tryd.prog 84 ⟨[.agg ⟨[.int .i64 LF.often_, .slice LH LF.symbols_.length LI]⟩, .agg ⟨[.int .i64 LG.often_, .slice LJ LG.symbols_.length LK]⟩]⟩ w R := by
 refine enter Tryd.func84 rfl Tryd.ntmps84 rfl hS fun a w hS => ?_
 have hM := hm; clear hm
 rw [y6.m] at hM
 refine qr <| bx ([.int .i64 LF.often_, .slice LH LF.symbols_.length LI]) hS rfl rfl rfl fun w LV LO LM hS => bx ([.int .i64 LG.often_, .slice LJ LG.symbols_.length LK]) hS rfl rfl rfl fun w LW LP LN hS => sA hS rfl fun hS => qJ <| qr <| sO hS (xz rfl Tryd.runUnderlying112 rfl Tryd.sizeOf3 rfl) rfl fun hS => sO hS (ye 1 rfl LM rfl rfl Tryd.isAgg3) rfl fun hS => sO hS (xz rfl Tryd.runUnderlying112 rfl Tryd.sizeOf3 rfl) rfl fun hS => sO hS (ye 0 rfl LN rfl rfl Tryd.isAgg3) rfl fun hS => qN hS rfl Tryd.call58 (vO hG K LF.often_ LG.often_ (hS.st.part 0 [0, 1] (by kernel_rfl)) (qv hM) (fun LQ w hM  hst => qG hS.ev hst.appF rfl fun hS => ?_))
 replace hS : Ss _ _ _ H [LP, LO] F _ _ := hS
 refine sA hS rfl fun hS => qJ <| wp_ret ?_
 exact zX (rs := [4]) hS rfl rfl (hret LQ _ (zn hM) (hS.st.pick [] (by kernel_rfl)))
theorem xL {H : xT} {F : List qp} {w : World} {R : Ending → World → Prop} {kr : (List qb) → Prop} {kp : Value → Prop} (hG : Gl H) (K : Nat) (LT : List qb) (LK : Int) (LM : Int) (LO : qp) (LH : Option Addr) (LJ : Nat) (LQ : List (zq 2)) (Mh : qp) (Mw : zr (qg LO) LT LQ) (Mx : xb 112 (zq.v (sz := 2)) 2 LH LQ LJ Mh)
    (hS : St w H [LO, Mh] F) (hm : (qi.m K LT LK LM).wp kr kp)
    (hret : ∀ (L6 : List (zq 2)) (L1 : (List qb)) (Mv : qp) (w : World), kr L1 → (xb 112 (zq.v (sz := 2)) 2 LH L6 LJ Mv) → (zr (qg LO) L1 L6) → (L6.length = LQ.length) → St w H [LO, Mv] F → R (.returned (.tuple ⟨[]⟩)) w) :
    Calls Tryd.prog 99 ⟨[.slice LH LQ.length LJ, .int .i64 LK, .int .i64 LM, yA 84 [] []]⟩ w R := by
 refine enter Tryd.func99 rfl Tryd.ntmps99 rfl hS fun a w hS => ?_
 have hM := hm; clear hm
 rw [qi.m] at hM
 have MY : ∀ q ∈ LO, q ∈ LO := fun _ h => h
 have My : LQ.length = LQ.length := rfl
 refine qr <| sM hS rfl fun hS => sB hS rfl fun hS => zF (v := Value.int .i64) (x0 := (qh (LK + (1 : Int)))) hS (xB rfl) rfl fun MU a w hz hS => ?_
 have hM := qE hz hM; clear hz
 refine qJ <| xG <| zt (fun L3 a w => ∃ (LS : List (zq 2)) (LR : (List qb)) (L4 : qp) (LP : Int), Ss 53 [] [(0, .slice LH LS.length LJ), (1, .int .i64 LK), (2, .int .i64 LM), (3, yA 84 [] []), (8, .int .i64 LP)] H [LO, L4] F a w ∧ (xb 112 (zq.v (sz := 2)) 2 LH LS LJ L4) ∧ (zr (qg LO) LR LS) ∧ (LS.length = LQ.length) ∧ (qi.l1 K LK LM L3 LR LP).wp kr kp) K ?_ ?_ ?_
 ·exact ⟨LQ, LT, Mh, MU, hS.to [0, 1] (by kernel_rfl) ⟨rfl, rfl, rfl, rfl, rfl, trivial⟩, Mx, Mw, My, hM⟩
 ·intro a w hI; obtain ⟨_, _, _, _, _, _, _, _, hM⟩ := hI; exact zm hM
 ·intro L3 a w hI MZ Mz
  obtain ⟨LS, LR, L4, LP, hS, Mi, Mj, Mk, hM⟩ := hI
  rw [qi.l1] at hM
  refine wp_seq <| qr <| sM hS rfl fun hS => sM hS rfl fun hS => sB hS rfl fun hS => qJ <| qI hS rfl hM (fun MA hM => ?_) (fun MA hM => ?_)
  ·refine wp_skip ?_
   refine qf <| wp_seq <| xG <| qr <| sM hS rfl fun hS => sA hS rfl fun hS => qJ <| xG <| zt (fun Ml a w => ∃ (LI : List (zq 2)) (LF : (List qb)) (LZ : qp) (LG : Int), Ss 53 [] [(0, .slice LH LI.length LJ), (1, .int .i64 LK), (2, .int .i64 LM), (3, yA 84 [] []), (8, .int .i64 LP), (9, .int .i64 LG)] H [LO, LZ] F a w ∧ (xb 112 (zq.v (sz := 2)) 2 LH LI LJ LZ) ∧ (zr (qg LO) LF LI) ∧ (LI.length = LQ.length) ∧ (qi.l2 K (qi.l1 K LK LM L3) LK LP Ml LF LG).wp kr kp) K ?_ ?_ ?_
   ·exact ⟨LS, LR, L4, LP, hS.to [0, 1] (by kernel_rfl) ⟨rfl, rfl, rfl, rfl, rfl, rfl, trivial⟩, Mi, Mj, Mk, hM⟩
   ·intro a w hI; obtain ⟨_, _, _, _, _, _, _, _, hM⟩ := hI; exact zm hM
   ·intro Ml a w hI M0 MB
    obtain ⟨LI, LF, LZ, LG, hS, LN, LL, Mm, hM⟩ := hI
    rw [qi.l2] at hM
    refine wp_seq <| zc (fun a w => ∃ (Mn : Bool), Ss 53 [] [(0, .slice LH LI.length LJ), (1, .int .i64 LK), (2, .int .i64 LM), (3, yA 84 [] []), (8, .int .i64 LP), (9, .int .i64 LG), (34, .bool Mn)] H [LO, LZ] F a w ∧ (qi.j3 K (qi.l1 K LK LM L3) (qi.l2 K (qi.l1 K LK LM L3) LK LP Ml) LP LF LG Mn).wp kr kp) (fun M3 Mp => ?_) ?_
    ·refine Dz (b := (decide (LG > LK))) hM (fun L7 hM => ?_) (fun L7 hM => ?_)
     ·obtain ⟨L8, hM⟩ := qH hM
      obtain ⟨Md, Me, MC, MD, ME⟩ := LL.get L8
      obtain ⟨L9, hM⟩ := qH hM
      obtain ⟨Mf, Mg, MF, MG, MH⟩ := LL.get L9
      refine q8 (vals := [some (.int .i64 LG), some (.int .i64 LK), some (.bool true), some (.bool true), some (yA 84 [] []), some (.slice LH LI.length LJ), some (.int .i64 LG), some (z8 LH (Int.toNat LG * 2)), some (.agg ⟨[.int .i64 ((rd LF LG).often_), .slice Md ((rd LF LG).symbols_).length Me]⟩), some (.slice LH LI.length LJ), some (.int .i64 LG), some (.int .i64 (qh (LG - (1 : Int)))), some (z8 LH (Int.toNat (qh (LG - (1 : Int))) * 2)), some (.agg ⟨[.int .i64 ((rd LF (qh (LG - (1 : Int)))).often_), .slice Mf ((rd LF (qh (LG - (1 : Int)))).symbols_).length Mg]⟩), none, none, none]) hS xw rfl ?_
      intro l w ho hcl hA hst
      refine yV hA hst ho hcl xk xx 14 [0, 1, 2, 3, 4, 5, 6, 7, 8, 9, 10, 11, 12, 13] rfl rfl rfl rfl rfl (by exact ⟨nM rfl, nM rfl, nQ rfl (by exact qV (jA rfl rfl rfl) (congrArg Value.bool L7)), nM rfl, nW rfl rfl rfl rfl rfl rfl rfl rfl (by exact qV (mv rfl) rfl), nW rfl rfl rfl rfl rfl rfl rfl rfl (by exact qV (mv rfl) rfl), nW rfl rfl rfl rfl rfl rfl rfl rfl (by exact qV (mv rfl) rfl), nW rfl rfl rfl rfl rfl rfl rfl rfl (by exact qV (xZ rfl rfl Tryd.runUnderlying110 Tryd.sizeOf112 (LN.rd (i := 1) rfl) zq.len rfl (LL.inb L8)) rfl), nW rfl rfl rfl rfl rfl rfl rfl rfl (by exact qV (qV (y4 rfl (LN.rd (i := 1) rfl) zq.len (LL.inb L8) Tryd.isAgg112 Tryd.sizeOf112 rfl) (congrArg (fun l => Value.agg ⟨l⟩) MC)) rfl), nW rfl rfl rfl rfl rfl rfl rfl rfl (by exact qV (mv rfl) rfl), nW rfl rfl rfl rfl rfl rfl rfl rfl (by exact qV (mv rfl) rfl), nW rfl rfl rfl rfl rfl rfl rfl rfl (by exact qV (jA rfl rfl rfl) rfl), nW rfl rfl rfl rfl rfl rfl rfl rfl (by exact qV (xZ rfl rfl Tryd.runUnderlying110 Tryd.sizeOf112 (LN.rd (i := 1) rfl) zq.len rfl (LL.inb L9)) rfl), nW rfl rfl rfl rfl rfl rfl rfl rfl (by exact qV (qV (y4 rfl (LN.rd (i := 1) rfl) zq.len (LL.inb L9) Tryd.isAgg112 Tryd.sizeOf112 rfl) (congrArg (fun l => Value.agg ⟨l⟩) MF)) rfl), trivial⟩) fun D l a w ho hcl hav hpre hm hE hk hA hst => ?_
      have hS := (Ss.mk hE hst).env2 (e' := [(21, .bool true), (22, yA 84 [] []), (26, .agg ⟨[.int .i64 ((rd LF LG).often_), .slice Md ((rd LF LG).symbols_).length Me]⟩), (31, .agg ⟨[.int .i64 ((rd LF (qh (LG - (1 : Int)))).often_), .slice Mf ((rd LF (qh (LG - (1 : Int)))).symbols_).length Mg]⟩)]) ⟨rfl, rfl, rfl, rfl, trivial⟩
      refine qR rfl <| Zm hS rfl rfl rfl rfl <| vw hS rfl rfl Tryd.call84 (jz hG K (qb.mk ((rd LF LG).often_) ((rd LF LG).symbols_)) (qb.mk ((rd LF (qh (LG - (1 : Int)))).often_) ((rd LF (qh (LG - (1 : Int)))).symbols_)) Md Me Mf Mg (MD.rdF (i := 0) rfl) ME (MG.rdF (i := 0) rfl) MH (hS.st.part 0 [0, 1] (by kernel_rfl)) (qv hM) (fun L5 w hM  hst => qG hS.ev hst.appF rfl fun hS => ?_))
      replace hS : Ss _ _ _ H [LO, LZ] F _ _ := hS
      refine qJ ?_
      replace hst := hS.st
      obtain ⟨hcl, hmust, hav2, hA⟩ := dn (vals' := [some (.int .i64 LG), some (.int .i64 LK), some (.bool true), some (.bool true), some (yA 84 [] []), some (.slice LH LI.length LJ), some (.int .i64 LG), some (z8 LH (Int.toNat LG * 2)), some (.agg ⟨[.int .i64 ((rd LF LG).often_), .slice Md ((rd LF LG).symbols_).length Me]⟩), some (.slice LH LI.length LJ), some (.int .i64 LG), some (.int .i64 (qh (LG - (1 : Int)))), some (z8 LH (Int.toNat (qh (LG - (1 : Int))) * 2)), some (.agg ⟨[.int .i64 ((rd LF (qh (LG - (1 : Int)))).often_), .slice Mf ((rd LF (qh (LG - (1 : Int)))).symbols_).length Mg]⟩), some (.int .i64 L5), some (.bool (decide (L5 < (0 : Int)))), some (.bool (decide (L5 < (0 : Int))))]) 14 [(3, 14), (4, 14), (8, 14), (13, 14), (2, 3), (7, 8), (12, 13), (0, 2), (1, 2), (5, 7), (6, 7), (9, 12), (11, 12), (10, 11)] hA hcl hav hm hpre hk rfl rfl rfl rfl rfl rfl rfl
      clear hm hav
      refine x6 hA hst ho hcl hmust [15, 16] rfl rfl rfl (by exact ⟨nW rfl rfl rfl rfl rfl rfl rfl rfl (by exact qV (jA rfl rfl rfl) rfl), nQ rfl (by exact qV (pk rfl rfl rfl) rfl), trivial⟩) fun a w hS => ?_
      replace hS := hS.env2 (e' := [(0, .slice LH LI.length LJ), (1, .int .i64 LK), (2, .int .i64 LM), (3, yA 84 [] []), (8, .int .i64 LP), (9, .int .i64 LG), (34, .bool (decide (L5 < (0 : Int))))]) ⟨rfl, rfl, rfl, rfl, rfl, rfl, rfl, trivial⟩
      refine qf ?_
      exact Mp _ _ ⟨(decide (L5 < (0 : Int))), hS.to [0, 1] (by kernel_rfl) ⟨rfl, rfl, rfl, rfl, rfl, rfl, rfl, trivial⟩, hM⟩
     ·refine q8 (vals := [some (.int .i64 LG), some (.int .i64 LK), some (.bool false), some (.bool false), some (undef), some (undef), some (undef), some (undef), some (undef), some (undef), some (undef), some (undef), some (undef), some (undef), some (undef), some (undef), some (.bool false)]) hS xw rfl ?_
      intro l w ho hcl hA hst
      refine x6 hA hst ho hcl xx [0, 1, 2, 3, 4, 5, 6, 7, 8, 9, 10, 11, 12, 13, 14, 15, 16] rfl rfl rfl (by exact ⟨nM rfl, nM rfl, nQ rfl (by exact qV (jA rfl rfl rfl) (congrArg Value.bool L7)), nM rfl, nS rfl rfl rfl rfl rfl rfl rfl rfl rfl, nS rfl rfl rfl rfl rfl rfl rfl rfl rfl, nS rfl rfl rfl rfl rfl rfl rfl rfl rfl, nS rfl rfl rfl rfl rfl rfl rfl rfl rfl, nS rfl rfl rfl rfl rfl rfl rfl rfl rfl, nS rfl rfl rfl rfl rfl rfl rfl rfl rfl, nS rfl rfl rfl rfl rfl rfl rfl rfl rfl, nS rfl rfl rfl rfl rfl rfl rfl rfl rfl, nS rfl rfl rfl rfl rfl rfl rfl rfl rfl, nS rfl rfl rfl rfl rfl rfl rfl rfl rfl, nS rfl rfl rfl rfl rfl rfl rfl rfl rfl, nS rfl rfl rfl rfl rfl rfl rfl rfl rfl, nQ rfl (by exact qV (pk rfl rfl rfl) rfl), trivial⟩) fun a w hS => ?_
      replace hS := hS.env2 (e' := [(0, .slice LH LI.length LJ), (1, .int .i64 LK), (2, .int .i64 LM), (3, yA 84 [] []), (8, .int .i64 LP), (9, .int .i64 LG), (34, .bool false)]) ⟨rfl, rfl, rfl, rfl, rfl, rfl, rfl, trivial⟩
      refine qf ?_
      exact Mp _ _ ⟨false, hS.to [0, 1] (by kernel_rfl) ⟨rfl, rfl, rfl, rfl, rfl, rfl, rfl, trivial⟩, hM⟩
    ·intro a w hI
     obtain ⟨Mn, hS, hM⟩ := hI
     rw [qi.j3] at hM
     refine qI hS rfl hM (fun MI hM => ?_) (fun MI hM => ?_)
     ·refine wp_skip ?_
      refine qf <| wp_seq <| xG ?_
      obtain ⟨Ma, hM⟩ := qH hM
      obtain ⟨LU, LV, MJ, MK, ML⟩ := LL.get Ma
      obtain ⟨LW, hM⟩ := qH hM
      obtain ⟨LX, LY, MM, MN, MO⟩ := LL.get LW
      refine q8 (vals := [some (.slice LH LI.length LJ), some (.int .i64 LG), some (.slice LH LI.length LJ), some (.int .i64 LG), some (.int .i64 (qh (LG - (1 : Int)))), some (.slice LH LI.length LJ), some (.int .i64 LG), some (.int .i64 (qh (LG - (1 : Int)))), some (z8 LH (Int.toNat (qh (LG - (1 : Int))) * 2)), some (.agg ⟨[.int .i64 ((rd LF (qh (LG - (1 : Int)))).often_), .slice LU ((rd LF (qh (LG - (1 : Int)))).symbols_).length LV]⟩), some (.slice LH LI.length LJ), some (.int .i64 LG), some (z8 LH (Int.toNat LG * 2)), some (.agg ⟨[.int .i64 ((rd LF LG).often_), .slice LX ((rd LF LG).symbols_).length LY]⟩), some (z8 LH (Int.toNat LG * 2)), none, none, none]) hS xw rfl ?_
      intro l w ho hcl hA hst
      refine yV hA hst ho hcl xk xx 15 [0, 1, 2, 3, 4, 5, 6, 7, 8, 9, 10, 11, 12, 13, 14] rfl rfl rfl rfl rfl (by exact ⟨nM rfl, nM rfl, nM rfl, nM rfl, nB rfl, nM rfl, nM rfl, nB rfl, nQ rfl (by exact qV (xZ rfl rfl Tryd.runUnderlying110 Tryd.sizeOf112 (LN.rd (i := 1) rfl) zq.len rfl (LL.inb Ma)) rfl), nQ rfl (by exact qV (qV (y4 rfl (LN.rd (i := 1) rfl) zq.len (LL.inb Ma) Tryd.isAgg112 Tryd.sizeOf112 rfl) (congrArg (fun l => Value.agg ⟨l⟩) MJ)) rfl), nM rfl, nM rfl, nQ rfl (by exact qV (xZ rfl rfl Tryd.runUnderlying110 Tryd.sizeOf112 (LN.rd (i := 1) rfl) zq.len rfl (LL.inb LW)) rfl), nQ rfl (by exact qV (qV (y4 rfl (LN.rd (i := 1) rfl) zq.len (LL.inb LW) Tryd.isAgg112 Tryd.sizeOf112 rfl) (congrArg (fun l => Value.agg ⟨l⟩) MM)) rfl), nQ rfl (by exact qV (xZ rfl rfl Tryd.runUnderlying110 Tryd.sizeOf112 (LN.rd (i := 1) rfl) zq.len rfl (LL.inb LW)) rfl), trivial⟩) fun D l a w ho hcl hav hpre hm hE hk hA hst => ?_
      have hS := (Ss.mk hE hst).env2 (e' := [(46, .agg ⟨[.int .i64 ((rd LF (qh (LG - (1 : Int)))).often_), .slice LU ((rd LF (qh (LG - (1 : Int)))).symbols_).length LV]⟩), (51, z8 LH (Int.toNat LG * 2))]) ⟨rfl, rfl, trivial⟩
      refine qR rfl <| QJ (i := LG) (sz := 2) 1 (⟨[.int .i64 ((rd LF (qh (LG - (1 : Int)))).often_), .slice LU ((rd LF (qh (LG - (1 : Int)))).symbols_).length LV], by simp, by simp [Value.oneCell']⟩ : zq 2) hS rfl rfl LN rfl Tryd.sizeOf112 rfl (LL.inb LW) fun Mq w M4 hz Mr hS => ?_
      obtain ⟨MP, hzm⟩ := js (LF.set (Int.toNat LG) (qb.mk ((rd LF (qh (LG - (1 : Int)))).often_) ((rd LF (qh (LG - (1 : Int)))).symbols_)))
      replace hM := qE hzm hM
      have L0 := zr.set (x := (qb.mk ((rd LF (qh (LG - (1 : Int)))).often_) ((rd LF (qh (LG - (1 : Int)))).symbols_))) (r := (⟨[.int .i64 ((rd LF (qh (LG - (1 : Int)))).often_), .slice LU ((rd LF (qh (LG - (1 : Int)))).symbols_).length LV], by simp, by simp [Value.oneCell']⟩ : zq 2)) (Int.toNat LG) LL (show qg LO _ _ from ⟨LU, LV, rfl, MK, ML⟩)
      have Mb : Mq.length = LI.length := by rw [hz]; exact List.length_set ..
      rw [← hz, ← hzm] at L0; clear hz hzm
      have MQ := Eq.trans Mb Mm
      refine qJ ?_
      replace hst := hS.st
      obtain ⟨Ms, hM⟩ := qH hM
      obtain ⟨hcl, hmust, hav2, hA⟩ := Zd (vals' := [some (.slice LH LI.length LJ), some (.int .i64 LG), some (.slice LH LI.length LJ), some (.int .i64 LG), some (.int .i64 (qh (LG - (1 : Int)))), some (.slice LH LI.length LJ), some (.int .i64 LG), some (.int .i64 (qh (LG - (1 : Int)))), some (z8 LH (Int.toNat (qh (LG - (1 : Int))) * 2)), some (.agg ⟨[.int .i64 ((rd LF (qh (LG - (1 : Int)))).often_), .slice LU ((rd LF (qh (LG - (1 : Int)))).symbols_).length LV]⟩), some (.slice LH LI.length LJ), some (.int .i64 LG), some (z8 LH (Int.toNat LG * 2)), some (.agg ⟨[.int .i64 ((rd LF LG).often_), .slice LX ((rd LF LG).symbols_).length LY]⟩), some (z8 LH (Int.toNat LG * 2)), some undef, some (z8 LH (Int.toNat (qh (LG - (1 : Int))) * 2)), none]) 15 [(0, 15), (1, 15), (5, 15), (6, 15), (7, 15), (8, 15), (9, 15), (13, 15), (14, 15), (12, 13), (10, 12), (11, 12)] hA hcl hav hm hpre rfl rfl rfl rfl rfl
      clear hm hav
      refine yV hA hst ho hcl hav2 hmust 17 [2, 3, 4, 16] rfl rfl rfl rfl rfl (by exact ⟨nM rfl, nM rfl, nB rfl, nQ rfl (by exact qV (xZ (Jc Mb rfl) rfl Tryd.runUnderlying110 Tryd.sizeOf112 (Mr.rd (i := 1) rfl) zq.len rfl (L0.inb Ms)) rfl), trivial⟩) fun D l a w ho hcl hav hpre hm hE hk hA hst => ?_
      have hS := (Ss.mk hE hst).env2 (e' := [(50, .agg ⟨[.int .i64 ((rd LF LG).often_), .slice LX ((rd LF LG).symbols_).length LY]⟩), (52, z8 LH (Int.toNat (qh (LG - (1 : Int))) * 2))]) ⟨rfl, rfl, trivial⟩
      refine qR rfl <| QJ (i := (qh (LG - (1 : Int)))) (sz := 2) 1 (⟨[.int .i64 ((rd LF LG).often_), .slice LX ((rd LF LG).symbols_).length LY], by simp, by simp [Value.oneCell']⟩ : zq 2) hS rfl rfl Mr rfl Tryd.sizeOf112 rfl (L0.inb Ms) fun Mc w MV hz MR hS => ?_
      obtain ⟨MS, hzm⟩ := js (MP.set (Int.toNat (qh (LG - (1 : Int)))) (qb.mk ((rd LF LG).often_) ((rd LF LG).symbols_)))
      replace hM := qE hzm hM
      have Mt := zr.set (x := (qb.mk ((rd LF LG).often_) ((rd LF LG).symbols_))) (r := (⟨[.int .i64 ((rd LF LG).often_), .slice LX ((rd LF LG).symbols_).length LY], by simp, by simp [Value.oneCell']⟩ : zq 2)) (Int.toNat (qh (LG - (1 : Int)))) L0 (show qg LO _ _ from ⟨LX, LY, rfl, MN, MO⟩)
      have Mu : Mc.length = Mq.length := by rw [hz]; exact List.length_set ..
      rw [← hz, ← hzm] at Mt; clear hz hzm
      have MT := Eq.trans Mu MQ
      refine qJ ?_
      replace hst := hS.st
      obtain ⟨hcl, hmust, hav2, hA⟩ := Zd (vals' := [some (.slice LH LI.length LJ), some (.int .i64 LG), some (.slice LH LI.length LJ), some (.int .i64 LG), some (.int .i64 (qh (LG - (1 : Int)))), some (.slice LH LI.length LJ), some (.int .i64 LG), some (.int .i64 (qh (LG - (1 : Int)))), some (z8 LH (Int.toNat (qh (LG - (1 : Int))) * 2)), some (.agg ⟨[.int .i64 ((rd LF (qh (LG - (1 : Int)))).often_), .slice LU ((rd LF (qh (LG - (1 : Int)))).symbols_).length LV]⟩), some (.slice LH LI.length LJ), some (.int .i64 LG), some (z8 LH (Int.toNat LG * 2)), some (.agg ⟨[.int .i64 ((rd LF LG).often_), .slice LX ((rd LF LG).symbols_).length LY]⟩), some (z8 LH (Int.toNat LG * 2)), some undef, some (z8 LH (Int.toNat (qh (LG - (1 : Int))) * 2)), some undef]) 17 [(0, 17), (1, 17), (2, 17), (3, 17), (4, 17), (5, 17), (6, 17), (7, 17), (8, 17), (9, 17), (10, 17), (11, 17), (12, 17), (13, 17), (14, 17), (15, 17), (16, 17)] hA hcl hav hm hpre rfl rfl rfl rfl rfl
      clear hm hav
      refine x6 hA hst ho hcl hmust [] rfl rfl rfl trivial fun a w hS => ?_
      replace hS := hS.env2 (e' := [(0, .slice LH Mc.length LJ), (1, .int .i64 LK), (2, .int .i64 LM), (3, yA 84 [] []), (8, .int .i64 LP), (9, .int .i64 LG)]) ⟨(YY (u := .slice LH LI.length LJ) rfl (by rw [Mu, Mb])), rfl, rfl, rfl, rfl, rfl, trivial⟩
      refine zw (qf ?_)
      refine zI <| sM hS rfl fun hS => sB hS rfl fun hS => zF (v := Value.int .i64) (x0 := (qh (LG - (1 : Int)))) hS (xB rfl) rfl fun MW a w hz hS => ?_
      have hM := qE hz hM; clear hz
      refine zg <| qf ?_
      exact MB _ _ ⟨Mc, MS, MV, MW, hS.to [0, 1] (by kernel_rfl) ⟨rfl, rfl, rfl, rfl, rfl, rfl, trivial⟩, MR, Mt, MT, hM⟩
     ·refine wp_exit ?_
      refine qC (qC (q9 (zw (qf ?_))))
      refine zI <| sM hS rfl fun hS => sB hS rfl fun hS => zF (v := Value.int .i64) (x0 := (qh (LP + (1 : Int)))) hS (xB rfl) rfl fun MX a w hz hS => ?_
      have hM := qE hz hM; clear hz
      refine zg <| qf ?_
      exact Mz _ _ ⟨LI, LF, LZ, MX, hS.to [0, 1] (by kernel_rfl) ⟨rfl, rfl, rfl, rfl, rfl, trivial⟩, LN, LL, Mm, hM⟩
  ·refine wp_exit ?_
   refine qC (qC (q9 ?_))
   exact yT (rs := []) hS rfl rfl (hret LS LR L4 _ (zn hM) Mi Mj Mk (hS.st.pick [0, 1] (by kernel_rfl)))
theorem xn {H : xT} {F : List qp} {w : World} {R : Ending → World → Prop} {kr : (List qb) → Prop} {kp : Value → Prop} (hG : Gl H) (K : Nat) (LQ : List qb) (LH : Int) (LI : Int) (LR : Int) (LO : qp) (LJ : Option Addr) (LL : Nat) (LN : List (zq 2)) (L5 : qp) (Me : zr (qg LO) LQ LN) (Mf : xb 112 (zq.v (sz := 2)) 2 LJ LN LL L5)
    (hS : St w H [LO, L5] F) (hm : (qY.m K LQ LH LI LR).wp kr kp)
    (hret : ∀ (LZ : List (zq 2)) (LY : (List qb)) (Mc : qp) (w : World), kr LY → (xb 112 (zq.v (sz := 2)) 2 LJ LZ LL Mc) → (zr (qg LO) LY LZ) → (LZ.length = LN.length) → St w H [LO, Mc] F → R (.returned (.tuple ⟨[]⟩)) w) :
    Calls Tryd.prog 109 ⟨[.slice LJ LN.length LL, .int .i64 LH, .int .i64 LI, .int .i64 LR, yA 84 [] []]⟩ w R := by
 refine enter Tryd.func109 rfl Tryd.ntmps109 rfl hS fun a w hS => ?_
 have hM := hm; clear hm
 rw [qY.m] at hM
 have Mx : ∀ q ∈ LO, q ∈ LO := fun _ h => h
 have Mg : LN.length = LN.length := rfl
 refine qr <| sA hS rfl fun hS => qJ <| xG <| zt (fun Md a w => ∃ (LK : List (zq 2)) (LG : (List qb)) (L4 : qp) (LF : Int), Ss 38 [] [(0, .slice LJ LK.length LL), (1, .int .i64 LH), (2, .int .i64 LI), (3, .int .i64 LR), (10, .int .i64 LF)] H [LO, L4] F a w ∧ (xb 112 (zq.v (sz := 2)) 2 LJ LK LL L4) ∧ (zr (qg LO) LG LK) ∧ (LK.length = LN.length) ∧ (qY.l1 K LH LI LR Md LG LF).wp kr kp) K ?_ ?_ ?_
 ·exact ⟨LN, LQ, L5, (0 : Int), hS.to [0, 1] (by kernel_rfl) ⟨rfl, rfl, rfl, rfl, rfl, trivial⟩, Mf, Me, Mg, hM⟩
 ·intro a w hI; obtain ⟨_, _, _, _, _, _, _, _, hM⟩ := hI; exact zm hM
 ·intro Md a w hI My Mh
  obtain ⟨LK, LG, L4, LF, hS, LP, LM, L6, hM⟩ := hI
  rw [qY.l1] at hM
  refine wp_seq <| qr <| sM hS rfl fun hS => sM hS rfl fun hS => sB hS rfl fun hS => qJ <| qI hS rfl hM (fun Mi hM => ?_) (fun Mi hM => ?_)
  ·refine wp_skip ?_
   refine qf <| wp_seq <| xG ?_
   obtain ⟨L0, hM⟩ := qH hM
   obtain ⟨LS, LT, Mj, Mk, Ml⟩ := LM.get L0
   obtain ⟨LU, hM⟩ := qH hM
   obtain ⟨LV, LW, Mm, Mn, Mp⟩ := LM.get LU
   refine q8 (vals := [some (.slice LJ LK.length LL), some (.int .i64 LH), some (.int .i64 LF), some (.int .i64 (qh (LH + LF))), some (.slice LJ LK.length LL), some (.int .i64 LI), some (.int .i64 LF), some (.int .i64 (qh (LI + LF))), some (.slice LJ LK.length LL), some (.int .i64 LI), some (.int .i64 LF), some (.int .i64 (qh (LI + LF))), some (z8 LJ (Int.toNat (qh (LI + LF)) * 2)), some (.agg ⟨[.int .i64 ((rd LG (qh (LI + LF))).often_), .slice LS ((rd LG (qh (LI + LF))).symbols_).length LT]⟩), some (.slice LJ LK.length LL), some (.int .i64 LH), some (.int .i64 LF), some (.int .i64 (qh (LH + LF))), some (z8 LJ (Int.toNat (qh (LH + LF)) * 2)), some (.agg ⟨[.int .i64 ((rd LG (qh (LH + LF))).often_), .slice LV ((rd LG (qh (LH + LF))).symbols_).length LW]⟩), some (z8 LJ (Int.toNat (qh (LH + LF)) * 2)), none, none, none]) hS xw rfl ?_
   intro l w ho hcl hA hst
   refine yV hA hst ho hcl xk xx 21 [0, 1, 2, 3, 4, 5, 6, 7, 8, 9, 10, 11, 12, 13, 14, 15, 16, 17, 18, 19, 20] rfl rfl rfl rfl rfl (by exact ⟨nM rfl, nM rfl, nM rfl, nB rfl, nM rfl, nM rfl, nM rfl, nB rfl, nM rfl, nM rfl, nM rfl, nB rfl, nQ rfl (by exact qV (xZ rfl rfl Tryd.runUnderlying110 Tryd.sizeOf112 (LP.rd (i := 1) rfl) zq.len rfl (LM.inb L0)) rfl), nQ rfl (by exact qV (qV (y4 rfl (LP.rd (i := 1) rfl) zq.len (LM.inb L0) Tryd.isAgg112 Tryd.sizeOf112 rfl) (congrArg (fun l => Value.agg ⟨l⟩) Mj)) rfl), nM rfl, nM rfl, nM rfl, nB rfl, nQ rfl (by exact qV (xZ rfl rfl Tryd.runUnderlying110 Tryd.sizeOf112 (LP.rd (i := 1) rfl) zq.len rfl (LM.inb LU)) rfl), nQ rfl (by exact qV (qV (y4 rfl (LP.rd (i := 1) rfl) zq.len (LM.inb LU) Tryd.isAgg112 Tryd.sizeOf112 rfl) (congrArg (fun l => Value.agg ⟨l⟩) Mm)) rfl), nQ rfl (by exact qV (xZ rfl rfl Tryd.runUnderlying110 Tryd.sizeOf112 (LP.rd (i := 1) rfl) zq.len rfl (LM.inb LU)) rfl), trivial⟩) fun D l a w ho hcl hav hpre hm hE hk hA hst => ?_
   have hS := (Ss.mk hE hst).env2 (e' := [(29, .agg ⟨[.int .i64 ((rd LG (qh (LI + LF))).often_), .slice LS ((rd LG (qh (LI + LF))).symbols_).length LT]⟩), (36, z8 LJ (Int.toNat (qh (LH + LF)) * 2))]) ⟨rfl, rfl, trivial⟩
   refine qR rfl <| QJ (i := (qh (LH + LF))) (sz := 2) 1 (⟨[.int .i64 ((rd LG (qh (LI + LF))).often_), .slice LS ((rd LG (qh (LI + LF))).symbols_).length LT], by simp, by simp [Value.oneCell']⟩ : zq 2) hS rfl rfl LP rfl Tryd.sizeOf112 rfl (LM.inb LU) fun L7 w Mz hz L8 hS => ?_
   obtain ⟨Mq, hzm⟩ := js (LG.set (Int.toNat (qh (LH + LF))) (qb.mk ((rd LG (qh (LI + LF))).often_) ((rd LG (qh (LI + LF))).symbols_)))
   replace hM := qE hzm hM
   have LX := zr.set (x := (qb.mk ((rd LG (qh (LI + LF))).often_) ((rd LG (qh (LI + LF))).symbols_))) (r := (⟨[.int .i64 ((rd LG (qh (LI + LF))).often_), .slice LS ((rd LG (qh (LI + LF))).symbols_).length LT], by simp, by simp [Value.oneCell']⟩ : zq 2)) (Int.toNat (qh (LH + LF))) LM (show qg LO _ _ from ⟨LS, LT, rfl, Mk, Ml⟩)
   have L1 : L7.length = LK.length := by rw [hz]; exact List.length_set ..
   rw [← hz, ← hzm] at LX; clear hz hzm
   have Mr := Eq.trans L1 L6
   refine qJ ?_
   replace hst := hS.st
   obtain ⟨L9, hM⟩ := qH hM
   obtain ⟨hcl, hmust, hav2, hA⟩ := Zd (vals' := [some (.slice LJ LK.length LL), some (.int .i64 LH), some (.int .i64 LF), some (.int .i64 (qh (LH + LF))), some (.slice LJ LK.length LL), some (.int .i64 LI), some (.int .i64 LF), some (.int .i64 (qh (LI + LF))), some (.slice LJ LK.length LL), some (.int .i64 LI), some (.int .i64 LF), some (.int .i64 (qh (LI + LF))), some (z8 LJ (Int.toNat (qh (LI + LF)) * 2)), some (.agg ⟨[.int .i64 ((rd LG (qh (LI + LF))).often_), .slice LS ((rd LG (qh (LI + LF))).symbols_).length LT]⟩), some (.slice LJ LK.length LL), some (.int .i64 LH), some (.int .i64 LF), some (.int .i64 (qh (LH + LF))), some (z8 LJ (Int.toNat (qh (LH + LF)) * 2)), some (.agg ⟨[.int .i64 ((rd LG (qh (LH + LF))).often_), .slice LV ((rd LG (qh (LH + LF))).symbols_).length LW]⟩), some (z8 LJ (Int.toNat (qh (LH + LF)) * 2)), some undef, some (z8 LJ (Int.toNat (qh (LI + LF)) * 2)), none]) 21 [(0, 21), (1, 21), (2, 21), (3, 21), (8, 21), (9, 21), (10, 21), (11, 21), (12, 21), (13, 21), (19, 21), (20, 21), (18, 19), (14, 18), (17, 18), (15, 17), (16, 17)] hA hcl hav hm hpre rfl rfl rfl rfl rfl
   clear hm hav
   refine yV hA hst ho hcl hav2 hmust 23 [4, 5, 6, 7, 22] rfl rfl rfl rfl rfl (by exact ⟨nM rfl, nM rfl, nM rfl, nB rfl, nQ rfl (by exact qV (xZ (Jc L1 rfl) rfl Tryd.runUnderlying110 Tryd.sizeOf112 (L8.rd (i := 1) rfl) zq.len rfl (LX.inb L9)) rfl), trivial⟩) fun D l a w ho hcl hav hpre hm hE hk hA hst => ?_
   have hS := (Ss.mk hE hst).env2 (e' := [(35, .agg ⟨[.int .i64 ((rd LG (qh (LH + LF))).often_), .slice LV ((rd LG (qh (LH + LF))).symbols_).length LW]⟩), (37, z8 LJ (Int.toNat (qh (LI + LF)) * 2))]) ⟨rfl, rfl, trivial⟩
   refine qR rfl <| QJ (i := (qh (LI + LF))) (sz := 2) 1 (⟨[.int .i64 ((rd LG (qh (LH + LF))).often_), .slice LV ((rd LG (qh (LH + LF))).symbols_).length LW], by simp, by simp [Value.oneCell']⟩ : zq 2) hS rfl rfl L8 rfl Tryd.sizeOf112 rfl (LX.inb L9) fun L3 w Mv hz Ms hS => ?_
   obtain ⟨Mt, hzm⟩ := js (Mq.set (Int.toNat (qh (LI + LF))) (qb.mk ((rd LG (qh (LH + LF))).often_) ((rd LG (qh (LH + LF))).symbols_)))
   replace hM := qE hzm hM
   have Ma := zr.set (x := (qb.mk ((rd LG (qh (LH + LF))).often_) ((rd LG (qh (LH + LF))).symbols_))) (r := (⟨[.int .i64 ((rd LG (qh (LH + LF))).often_), .slice LV ((rd LG (qh (LH + LF))).symbols_).length LW], by simp, by simp [Value.oneCell']⟩ : zq 2)) (Int.toNat (qh (LI + LF))) LX (show qg LO _ _ from ⟨LV, LW, rfl, Mn, Mp⟩)
   have Mb : L3.length = L7.length := by rw [hz]; exact List.length_set ..
   rw [← hz, ← hzm] at Ma; clear hz hzm
   have Mu := Eq.trans Mb Mr
   refine qJ ?_
   replace hst := hS.st
   obtain ⟨hcl, hmust, hav2, hA⟩ := Zd (vals' := [some (.slice LJ LK.length LL), some (.int .i64 LH), some (.int .i64 LF), some (.int .i64 (qh (LH + LF))), some (.slice LJ LK.length LL), some (.int .i64 LI), some (.int .i64 LF), some (.int .i64 (qh (LI + LF))), some (.slice LJ LK.length LL), some (.int .i64 LI), some (.int .i64 LF), some (.int .i64 (qh (LI + LF))), some (z8 LJ (Int.toNat (qh (LI + LF)) * 2)), some (.agg ⟨[.int .i64 ((rd LG (qh (LI + LF))).often_), .slice LS ((rd LG (qh (LI + LF))).symbols_).length LT]⟩), some (.slice LJ LK.length LL), some (.int .i64 LH), some (.int .i64 LF), some (.int .i64 (qh (LH + LF))), some (z8 LJ (Int.toNat (qh (LH + LF)) * 2)), some (.agg ⟨[.int .i64 ((rd LG (qh (LH + LF))).often_), .slice LV ((rd LG (qh (LH + LF))).symbols_).length LW]⟩), some (z8 LJ (Int.toNat (qh (LH + LF)) * 2)), some undef, some (z8 LJ (Int.toNat (qh (LI + LF)) * 2)), some undef]) 23 [(0, 23), (1, 23), (2, 23), (3, 23), (4, 23), (5, 23), (6, 23), (7, 23), (8, 23), (9, 23), (10, 23), (11, 23), (12, 23), (13, 23), (14, 23), (15, 23), (16, 23), (17, 23), (18, 23), (19, 23), (20, 23), (21, 23), (22, 23)] hA hcl hav hm hpre rfl rfl rfl rfl rfl
   clear hm hav
   refine x6 hA hst ho hcl hmust [] rfl rfl rfl trivial fun a w hS => ?_
   replace hS := hS.env2 (e' := [(0, .slice LJ L3.length LL), (1, .int .i64 LH), (2, .int .i64 LI), (3, .int .i64 LR), (10, .int .i64 LF)]) ⟨(YY (u := .slice LJ LK.length LL) rfl (by rw [Mb, L1])), rfl, rfl, rfl, rfl, trivial⟩
   refine zw (qf ?_)
   refine zI <| sM hS rfl fun hS => sB hS rfl fun hS => zF (v := Value.int .i64) (x0 := (qh (LF + (1 : Int)))) hS (xB rfl) rfl fun Mw a w hz hS => ?_
   have hM := qE hz hM; clear hz
   refine zg <| qf ?_
   exact Mh _ _ ⟨L3, Mt, Mv, Mw, hS.to [0, 1] (by kernel_rfl) ⟨rfl, rfl, rfl, rfl, rfl, trivial⟩, Ms, Ma, Mu, hM⟩
  ·refine wp_exit ?_
   refine qC (qC (q9 ?_))
   exact yT (rs := []) hS rfl rfl (hret LK LG L4 _ (zn hM) LP LM L6 (hS.st.pick [0, 1] (by kernel_rfl)))
theorem yO {H : xT} {F : List qp} {w : World} {R : Ending → World → Prop} {kr : (List qb) → Prop} {kp : Value → Prop} (hG : Gl H) (K : Nat) (LQ : List qb) (LU : Int) (LJ : Int) (LV : Int) (LI : qp) (LF : Option Addr) (LG : Nat) (LL : List (zq 2)) (L5 : qp) (Mi : zr (qg LI) LQ LL) (Mj : xb 112 (zq.v (sz := 2)) 2 LF LL LG L5)
    (hS : St w H [LI, L5] F) (hm : (qQ.m K LQ LU LJ LV).wp kr kp)
    (hret : ∀ (LW : List (zq 2)) (LS : (List qb)) (Md : qp) (w : World), kr LS → (xb 112 (zq.v (sz := 2)) 2 LF LW LG Md) → (zr (qg LI) LS LW) → (LW.length = LL.length) → St w H [LI, Md] F → R (.returned (.tuple ⟨[]⟩)) w) :
    Calls Tryd.prog 108 ⟨[.slice LF LL.length LG, .int .i64 LU, .int .i64 LJ, .int .i64 LV, yA 84 [] []]⟩ w R := by
 refine enter Tryd.func108 rfl Tryd.ntmps108 rfl hS fun a w hS => ?_
 have hM := hm; clear hm
 rw [qQ.m] at hM
 have MF : ∀ q ∈ LI, q ∈ LI := fun _ h => h
 have Mk : LL.length = LL.length := rfl
 refine qr <| sM hS rfl fun hS => sM hS rfl fun hS => sB hS rfl fun hS => zF (v := Value.int .i64) (x0 := (qh (LJ - LU))) hS (xB rfl) rfl fun Mv a w hz hS => ?_
 have hM := qE hz hM; clear hz
 refine qJ <| qr <| sM hS rfl fun hS => sM hS rfl fun hS => sB hS rfl fun hS => zF (v := Value.int .i64) (x0 := (qh (LV - LJ))) hS (xB rfl) rfl fun Mw a w hz hS => ?_
 have hM := qE hz hM; clear hz
 refine qJ <| zc (fun a w => ∃ (LM : List (zq 2)) (LO : (List qb)) (L4 : qp) (LT : Int), Ss 58 [] [(0, .slice LF LM.length LG), (2, .int .i64 LJ), (4, yA 84 [] []), (10, .int .i64 LT)] H [LI, L4] F a w ∧ (xb 112 (zq.v (sz := 2)) 2 LF LM LG L4) ∧ (zr (qg LI) LO LM) ∧ (LM.length = LL.length) ∧ (qQ.j2 K LJ LO LT).wp kr kp) (fun MG Ml => ?_) ?_
 ·refine xG ?_
  refine zt (fun Me a w => ∃ (LH : List (zq 2)) (LK : (List qb)) (LR : qp) (LN : Int) (LP : Int), Ss 58 [] [(0, .slice LF LH.length LG), (2, .int .i64 LJ), (4, yA 84 [] []), (10, .int .i64 LN), (11, .int .i64 LP)] H [LI, LR] F a w ∧ (xb 112 (zq.v (sz := 2)) 2 LF LH LG LR) ∧ (zr (qg LI) LK LH) ∧ (LH.length = LL.length) ∧ (qQ.l1 K LJ Me LK LN LP).wp kr kp) K ?_ ?_ ?_
  ·exact ⟨LL, LQ, L5, Mv, Mw, hS.to [0, 1] (by kernel_rfl) ⟨rfl, rfl, rfl, rfl, rfl, trivial⟩, Mj, Mi, Mk, hM⟩
  ·intro a w hI; obtain ⟨_, _, _, _, _, _, _, _, _, hM⟩ := hI; exact zm hM
  ·intro Me a w hI MH L6
   obtain ⟨LH, LK, LR, LN, LP, hS, LX, LY, LZ, hM⟩ := hI
   rw [qQ.l1] at hM
   refine wp_seq <| qr <| sM hS rfl fun hS => sM hS rfl fun hS => sB hS rfl fun hS => qJ <| qI hS rfl hM (fun Mm hM => ?_) (fun Mm hM => ?_)
   ·refine wp_skip ?_
    refine qf <| xG <| qr <| sM hS rfl fun hS => sM hS rfl fun hS => sB hS rfl fun hS => qJ <| qI hS rfl hM (fun Mn hM => ?_) (fun Mn hM => ?_)
    ·refine wp_seq ?_
     refine zI <| sM hS rfl fun hS => sM hS rfl fun hS => sM hS rfl fun hS => sB hS rfl fun hS => sM hS rfl fun hS => sM hS rfl fun hS => sM hS rfl fun hS => qN hS rfl Tryd.call109 (xn hG K LK (qh (LJ - LN)) LJ LP LI LF LG LH LR LY LX (hS.st.part 2 [0, 1] (by kernel_rfl)) (qv hM) (fun L0 L7 Mf w hM Mx My L8 hst => qG hS.ev hst.appF rfl fun hS => ?_))
     replace hS : Ss _ _ _ H [LI, Mf] F _ _ := hS
     have Mp := Eq.trans L8 LZ
     replace hS := hS.re 0 (u := .slice LF LH.length LG) (v := .slice LF L0.length LG) rfl (by rw [L8])
     replace hS := hS.re 24 (u := .slice LF LH.length LG) (v := .slice LF L0.length LG) rfl (by rw [L8])
     refine qJ <| zI <| sM hS rfl fun hS => sM hS rfl fun hS => sB hS rfl fun hS => zF (v := Value.int .i64) (x0 := (qh (LN - LP))) hS (xB rfl) rfl fun Mz a w hz hS => ?_
     have hM := qE hz hM; clear hz
     refine zg <| zw (qf ?_)
     exact L6 _ _ ⟨L0, L7, Mf, Mz, LP, hS.to [0, 1] (by kernel_rfl) ⟨rfl, rfl, rfl, rfl, rfl, trivial⟩, Mx, My, Mp, hM⟩
    ·refine wp_seq ?_
     refine zI <| sM hS rfl fun hS => sM hS rfl fun hS => sM hS rfl fun hS => sB hS rfl fun hS => sM hS rfl fun hS => sM hS rfl fun hS => sB hS rfl fun hS => sM hS rfl fun hS => sB hS rfl fun hS => sM hS rfl fun hS => sM hS rfl fun hS => qN hS rfl Tryd.call109 (xn hG K LK (qh (LJ - LN)) (qh ((qh (LJ + LP)) - LN)) LN LI LF LG LH LR LY LX (hS.st.part 2 [0, 1] (by kernel_rfl)) (qv hM) (fun L1 L9 Mg w hM MA MB Ma hst => qG hS.ev hst.appF rfl fun hS => ?_))
     replace hS : Ss _ _ _ H [LI, Mg] F _ _ := hS
     have Mq := Eq.trans Ma LZ
     replace hS := hS.re 0 (u := .slice LF LH.length LG) (v := .slice LF L1.length LG) rfl (by rw [Ma])
     replace hS := hS.re 35 (u := .slice LF LH.length LG) (v := .slice LF L1.length LG) rfl (by rw [Ma])
     refine qJ <| zI <| sM hS rfl fun hS => sM hS rfl fun hS => sB hS rfl fun hS => zF (v := Value.int .i64) (x0 := (qh (LP - LN))) hS (xB rfl) rfl fun MC a w hz hS => ?_
     have hM := qE hz hM; clear hz
     refine zg <| zw (qf ?_)
     exact L6 _ _ ⟨L1, L9, Mg, LN, MC, hS.to [0, 1] (by kernel_rfl) ⟨rfl, rfl, rfl, rfl, rfl, trivial⟩, MA, MB, Mq, hM⟩
   ·refine wp_exit ?_
    refine qC (qC (q9 (qf ?_)))
    exact Ml _ _ ⟨LH, LK, LR, LN, hS.to [0, 1] (by kernel_rfl) ⟨rfl, rfl, rfl, rfl, trivial⟩, LX, LY, LZ, hM⟩
 ·intro a w hI
  obtain ⟨LM, LO, L4, LT, hS, Mr, Ms, Mt, hM⟩ := hI
  rw [qQ.j2] at hM
  refine zI <| sM hS rfl fun hS => sM hS rfl fun hS => sM hS rfl fun hS => sB hS rfl fun hS => sM hS rfl fun hS => sM hS rfl fun hS => sM hS rfl fun hS => qN hS rfl Tryd.call109 (xn hG K LO (qh (LJ - LT)) LJ LT LI LF LG LM L4 Ms Mr (hS.st.part 2 [0, 1] (by kernel_rfl)) (qv hM) (fun L3 Mb Mh w hM MD ME Mc hst => qG hS.ev hst.appF rfl fun hS => ?_))
  replace hS : Ss _ _ _ H [LI, Mh] F _ _ := hS
  have Mu := Eq.trans Mc Mt
  replace hS := hS.re 0 (u := .slice LF LM.length LG) (v := .slice LF L3.length LG) rfl (by rw [Mc])
  replace hS := hS.re 50 (u := .slice LF LM.length LG) (v := .slice LF L3.length LG) rfl (by rw [Mc])
  refine zg ?_
  exact yT (rs := []) hS rfl rfl (hret L3 Mb Mh _ (zn hM) MD ME Mu (hS.st.pick [0, 1] (by kernel_rfl)))
end Go.TrydS

