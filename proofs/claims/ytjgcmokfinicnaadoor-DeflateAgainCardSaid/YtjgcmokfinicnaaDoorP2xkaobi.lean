/- Printed by a program of mine: each Go function answers what its model answers; conditions: what each theorem asks of memory. -/
import Derived.Test.YtjgcmokfinicnaaDoorP1xilean
set_option linter.unusedVariables false
set_option linter.unusedSimpArgs false
set_option maxRecDepth 100000
namespace Go.TrydS
open Go Go.Sl Go.Mo Go.Proofs
attribute [local irreducible] qW.wp
theorem xB (K : Nat) : ∀ (d : Nat) {H : xl} {F : List qs} {w : World} {R : Ending → World → Prop} {kr : (List qb) → Prop} {kp : Value → Prop} (hG : Gl H) (Bn : List qb) (Bv : Int) (Bw : Int) (Bz : Int) (By : qs) (Bo : Option Addr) (Br : Nat) (Bu : List (qY 2)) (BG : qs) (BA : qZ (qf By) Bn Bu) (BF : zC 112 (qY.v (sz := 2)) 2 Bo Bu Br BG)
    (hS : St w H [By, BG] F) (hm : (qa.r K d Bn Bv Bw Bz).wp kr kp)
    (hret : ∀ (Dm : List (qY 2)) (Dj : (List qb)) (Gt : qs) (w : World), kr Dj → (zC 112 (qY.v (sz := 2)) 2 Bo Dm Br Gt) → (qZ (qf By) Dj Dm) → (Dm.length = Bu.length) → St w H [By, Gt] F → R (.returned (.tuple ⟨[]⟩)) w),
    Calls Tryd.prog 100 ⟨[.slice Bo Bu.length Br, .int .i64 Bv, .int .i64 Bw, .int .i64 Bz, xA 57 [] []]⟩ w R := by
  intro d
  induction d with
  | zero => intro H F w R kr kp hG Bn Bv Bw Bz By Bo Br Bu BG BA BF hS hm hret; exact (zc hm).elim
  | succ d ih =>
  intro H F w R kr kp hG Bn Bv Bw Bz By Bo Br Bu BG BA BF hS hm hret
  have hM := hm; clear hm
  rw [qa.r] at hM; rw [qa.b] at hM
  refine enter Tryd.func100 rfl Tryd.ntmps100 rfl hS fun a w hS => ?_
  have LR : ∀ q ∈ By, q ∈ By := fun _ h => h
  have Dg : Bu.length = Bu.length := rfl
  refine qX (fun a w => Ss 220 [] [(0, .slice Bo Bu.length Br), (1, .int .i64 Bv), (2, .int .i64 Bw), (3, .int .i64 Bz), (4, xA 57 [] [])] H [By, BG] F a w ∧ (qa.j4 K (qa.r K d) Bn Bv Bw Bz).wp kr kp) (fun LS GC => ?_) ?_
  ·refine wp_seq ?_
   refine zv <| sM hS rfl fun hS => sM hS rfl fun hS => sB hS rfl fun hS => sB hS rfl fun hS => qF <| qC hS rfl hM (fun GD hM => ?_) (fun GD hM => ?_)
   ·refine wp_seq ?_
    refine zv <| sM hS rfl fun hS => sA hS rfl fun hS => qF <| qu <| sM hS rfl fun hS => sA hS rfl fun hS => qF <| qX (fun a w => ∃ (Da : Int), Ss 220 [] [(0, .slice Bo Bu.length Br), (1, .int .i64 Bv), (10, .int .i64 Da)] H [By, BG] F a w ∧ (qa.j2 K (qa.r K d) Bn Bv Da).wp kr kp) (fun LT GE => ?_) ?_
    ·refine z7 ?_
     refine zd (fun Gu a w => ∃ (BW : Int) (Db : Int), Ss 220 [] [(0, .slice Bo Bu.length Br), (1, .int .i64 Bv), (4, xA 57 [] []), (10, .int .i64 BW), (11, .int .i64 Db)] H [By, BG] F a w ∧ (qa.l1 K (qa.r K d) Bn Bv Gu BW Db).wp kr kp) K ?_ ?_ ?_
     ·exact ⟨Bw, Bz, hS.to [0, 1] (by kernel_rfl) ⟨rfl, rfl, rfl, rfl, rfl, trivial⟩, hM⟩
     ·intro a w hI; obtain ⟨_, _, _, hM⟩ := hI; exact zc hM
     ·intro Gu a w hI LU DW
      obtain ⟨BW, Db, hS, hM⟩ := hI
      rw [qa.l1] at hM
      refine wp_seq <| qu <| sM hS rfl fun hS => sM hS rfl fun hS => sB hS rfl fun hS => qF <| qC hS rfl hM (fun GF hM => ?_) (fun GF hM => ?_)
      ·refine wp_skip ?_
       refine qg <| z7 <| qu <| sM hS rfl fun hS => sM hS rfl fun hS => sB hS rfl fun hS => sO hS (vX rfl Tryd.runUnderlying3 Tryd.runUnderlying39) rfl fun hS => sO hS (shr rfl rfl rfl) rfl fun hS => sO hS (vX rfl Tryd.runUnderlying39 Tryd.runUnderlying3) rfl fun hS => zr (v := Value.int .i64) (x0 := (wr .i64 (zR .u64 (wr .u64 (qk (BW + Db))) (1 : Int)))) hS (z8 rfl) rfl fun BK a w hz hS => ?_
       have hM := qA hz hM; clear hz
       refine qF <| wp_seq ?_
       obtain ⟨Dn, hM⟩ := qB hM
       obtain ⟨DD, DE, GG, GH, GI⟩ := BA.get Dn
       obtain ⟨Do, hM⟩ := qB hM
       obtain ⟨DF, DG, GJ, GK, GL⟩ := BA.get Do
       refine q8 (vals := [some (xA 57 [] []), some (.slice Bo Bu.length Br), some (.int .i64 BK), some (zA Bo (Int.toNat BK * 2)), some (.agg ⟨[.int .i64 ((rd Bn BK).often_), .slice DD ((rd Bn BK).symbols_).length DE]⟩), some (.slice Bo Bu.length Br), some (.int .i64 Bv), some (zA Bo (Int.toNat Bv * 2)), some (.agg ⟨[.int .i64 ((rd Bn Bv).often_), .slice DF ((rd Bn Bv).symbols_).length DG]⟩), none, none]) hS z6 rfl ?_
       intro l w ho hcl hA hst
       refine yx hA hst ho hcl zX z5 9 [0, 1, 2, 3, 4, 5, 6, 7, 8] rfl rfl rfl rfl rfl (by exact ⟨nM rfl, nM rfl, nM rfl, nQ rfl (by exact qR (xd rfl rfl Tryd.runUnderlying110 Tryd.sizeOf112 (BF.rd (i := 1) rfl) qY.len rfl (BA.inb Dn)) rfl), nQ rfl (by exact qR (qR (xV rfl (BF.rd (i := 1) rfl) qY.len (BA.inb Dn) Tryd.isAgg112 Tryd.sizeOf112 rfl) (congrArg (fun l => Value.agg ⟨l⟩) GG)) rfl), nM rfl, nM rfl, nQ rfl (by exact qR (xd rfl rfl Tryd.runUnderlying110 Tryd.sizeOf112 (BF.rd (i := 1) rfl) qY.len rfl (BA.inb Do)) rfl), nQ rfl (by exact qR (qR (xV rfl (BF.rd (i := 1) rfl) qY.len (BA.inb Do) Tryd.isAgg112 Tryd.sizeOf112 rfl) (congrArg (fun l => Value.agg ⟨l⟩) GJ)) rfl), trivial⟩) fun D l a w ho hcl hav hpre hm hE hk hA hst => ?_
       have hS := (Ss.mk hE hst).env2 (e' := [(40, xA 57 [] []), (44, .agg ⟨[.int .i64 ((rd Bn BK).often_), .slice DD ((rd Bn BK).symbols_).length DE]⟩), (48, .agg ⟨[.int .i64 ((rd Bn Bv).often_), .slice DF ((rd Bn Bv).symbols_).length DG]⟩)]) ⟨rfl, rfl, rfl, trivial⟩
       refine qP rfl <| y3 hS rfl rfl Tryd.call57 (yf hG K (qb.mk ((rd Bn BK).often_) ((rd Bn BK).symbols_)) (qb.mk ((rd Bn Bv).often_) ((rd Bn Bv).symbols_)) DD DE DF DG (GH.rdF (i := 0) rfl) GI (GK.rdF (i := 0) rfl) GL (hS.st.part 0 [0, 1] (by kernel_rfl)) (qy hM) (fun DX w hM  hst => qM hS.ev hst.appF rfl fun hS => ?_))
       replace hS : Ss _ _ _ H [By, BG] F _ _ := hS
       refine qF ?_
       replace hst := hS.st
       obtain ⟨hcl, hmust, hav2, hA⟩ := dn (vals' := [some (xA 57 [] []), some (.slice Bo Bu.length Br), some (.int .i64 BK), some (zA Bo (Int.toNat BK * 2)), some (.agg ⟨[.int .i64 ((rd Bn BK).often_), .slice DD ((rd Bn BK).symbols_).length DE]⟩), some (.slice Bo Bu.length Br), some (.int .i64 Bv), some (zA Bo (Int.toNat Bv * 2)), some (.agg ⟨[.int .i64 ((rd Bn Bv).often_), .slice DF ((rd Bn Bv).symbols_).length DG]⟩), some (.int .i64 DX), some (.bool (decide (DX < (0 : Int))))]) 9 [(0, 9), (4, 9), (8, 9), (3, 4), (7, 8), (1, 3), (2, 3), (5, 7), (6, 7)] hA hcl hav hm hpre hk rfl rfl rfl rfl rfl rfl rfl
       clear hm hav
       refine xG hA hst ho hcl hmust [10] rfl rfl rfl (by exact ⟨nB rfl, trivial⟩) fun a w hS => ?_
       replace hS := hS.env2 (e' := [(0, .slice Bo Bu.length Br), (1, .int .i64 Bv), (4, xA 57 [] []), (10, .int .i64 BW), (11, .int .i64 Db), (12, .int .i64 BK), (50, .bool (decide (DX < (0 : Int))))]) ⟨rfl, rfl, rfl, rfl, rfl, rfl, rfl, trivial⟩
       refine qg <| qC hS rfl hM (fun GM hM => ?_) (fun GM hM => ?_)
       ·refine zv ?_
        refine sM hS rfl fun hS => sB hS rfl fun hS => zr (v := Value.int .i64) (x0 := (qk (BK + (1 : Int)))) hS (z8 rfl) rfl fun LH a w hz hS => ?_
        have hM := qA hz hM; clear hz
        refine q9 <| zk (qg ?_)
        exact DW _ _ ⟨LH, Db, hS.to [0, 1] (by kernel_rfl) ⟨rfl, rfl, rfl, rfl, rfl, trivial⟩, hM⟩
       ·refine zv ?_
        refine sM hS rfl fun hS => sA hS rfl fun hS => q9 <| zk (qg ?_)
        exact DW _ _ ⟨BW, BK, hS.to [0, 1] (by kernel_rfl) ⟨rfl, rfl, rfl, rfl, rfl, trivial⟩, hM⟩
      ·refine wp_exit ?_
       refine qx (qx (qV (qg ?_)))
       exact GE _ _ ⟨BW, hS.to [0, 1] (by kernel_rfl) ⟨rfl, rfl, rfl, trivial⟩, hM⟩
    ·intro a w hI
     obtain ⟨Da, hS, hM⟩ := hI
     rw [qa.j2] at hM
     refine wp_seq <| qu <| sM hS rfl fun hS => sA hS rfl fun hS => qF <| z7 <| zd (fun Gv a w => ∃ (BC : List (qY 2)) (Bs : (List qb)) (DH : qs) (Bp : Int), Ss 220 [] [(0, .slice Bo BC.length Br), (10, .int .i64 Da), (13, .int .i64 Bp)] H [By, DH] F a w ∧ (zC 112 (qY.v (sz := 2)) 2 Bo BC Br DH) ∧ (qZ (qf By) Bs BC) ∧ (BC.length = Bu.length) ∧ (qa.l3 K (qa.r K d) Da Gv Bs Bp).wp kr kp) K ?_ ?_ ?_
     ·exact ⟨Bu, Bn, BG, Bv, hS.to [0, 1] (by kernel_rfl) ⟨rfl, rfl, rfl, trivial⟩, BF, BA, Dg, hM⟩
     ·intro a w hI; obtain ⟨_, _, _, _, _, _, _, _, hM⟩ := hI; exact zc hM
     ·intro Gv a w hI LV GN
      obtain ⟨BC, Bs, DH, Bp, hS, BU, BM, DY, hM⟩ := hI
      rw [qa.l3] at hM
      refine wp_seq <| qu <| sM hS rfl fun hS => sM hS rfl fun hS => sB hS rfl fun hS => sB hS rfl fun hS => qF <| qC hS rfl hM (fun GO hM => ?_) (fun GO hM => ?_)
      ·refine wp_skip ?_
       refine qg <| wp_seq <| z7 ?_
       obtain ⟨Dp, hM⟩ := qB hM
       obtain ⟨BX, BY, GP, GQ, GR⟩ := BM.get Dp
       obtain ⟨BZ, hM⟩ := qB hM
       obtain ⟨B0, B3, GS, GT, GU⟩ := BM.get BZ
       refine q8 (vals := [some (.slice Bo BC.length Br), some (.int .i64 Bp), some (.slice Bo BC.length Br), some (.int .i64 Bp), some (.int .i64 (qk (Bp + (1 : Int)))), some (.slice Bo BC.length Br), some (.int .i64 Bp), some (.int .i64 (qk (Bp + (1 : Int)))), some (zA Bo (Int.toNat (qk (Bp + (1 : Int))) * 2)), some (.agg ⟨[.int .i64 ((rd Bs (qk (Bp + (1 : Int)))).often_), .slice BX ((rd Bs (qk (Bp + (1 : Int)))).symbols_).length BY]⟩), some (.slice Bo BC.length Br), some (.int .i64 Bp), some (zA Bo (Int.toNat Bp * 2)), some (.agg ⟨[.int .i64 ((rd Bs Bp).often_), .slice B0 ((rd Bs Bp).symbols_).length B3]⟩), some (zA Bo (Int.toNat Bp * 2)), none, none, none]) hS z6 rfl ?_
       intro l w ho hcl hA hst
       refine yx hA hst ho hcl zX z5 15 [0, 1, 2, 3, 4, 5, 6, 7, 8, 9, 10, 11, 12, 13, 14] rfl rfl rfl rfl rfl (by exact ⟨nM rfl, nM rfl, nM rfl, nM rfl, nB rfl, nM rfl, nM rfl, nB rfl, nQ rfl (by exact qR (xd rfl rfl Tryd.runUnderlying110 Tryd.sizeOf112 (BU.rd (i := 1) rfl) qY.len rfl (BM.inb Dp)) rfl), nQ rfl (by exact qR (qR (xV rfl (BU.rd (i := 1) rfl) qY.len (BM.inb Dp) Tryd.isAgg112 Tryd.sizeOf112 rfl) (congrArg (fun l => Value.agg ⟨l⟩) GP)) rfl), nM rfl, nM rfl, nQ rfl (by exact qR (xd rfl rfl Tryd.runUnderlying110 Tryd.sizeOf112 (BU.rd (i := 1) rfl) qY.len rfl (BM.inb BZ)) rfl), nQ rfl (by exact qR (qR (xV rfl (BU.rd (i := 1) rfl) qY.len (BM.inb BZ) Tryd.isAgg112 Tryd.sizeOf112 rfl) (congrArg (fun l => Value.agg ⟨l⟩) GS)) rfl), nQ rfl (by exact qR (xd rfl rfl Tryd.runUnderlying110 Tryd.sizeOf112 (BU.rd (i := 1) rfl) qY.len rfl (BM.inb BZ)) rfl), trivial⟩) fun D l a w ho hcl hav hpre hm hE hk hA hst => ?_
       have hS := (Ss.mk hE hst).env2 (e' := [(70, .agg ⟨[.int .i64 ((rd Bs (qk (Bp + (1 : Int)))).often_), .slice BX ((rd Bs (qk (Bp + (1 : Int)))).symbols_).length BY]⟩), (75, zA Bo (Int.toNat Bp * 2))]) ⟨rfl, rfl, trivial⟩
       refine qP rfl <| vE (i := Bp) (sz := 2) 1 (⟨[.int .i64 ((rd Bs (qk (Bp + (1 : Int)))).often_), .slice BX ((rd Bs (qk (Bp + (1 : Int)))).symbols_).length BY], by simp, by simp [Value.oneCell']⟩ : qY 2) hS rfl rfl BU rfl Tryd.sizeOf112 rfl (BM.inb BZ) fun DZ w LW hz D0 hS => ?_
       obtain ⟨GV, hzm⟩ := yk (Bs.set (Int.toNat Bp) (qb.mk ((rd Bs (qk (Bp + (1 : Int)))).often_) ((rd Bs (qk (Bp + (1 : Int)))).symbols_)))
       replace hM := qA hzm hM
       have Dh := qZ.set (x := (qb.mk ((rd Bs (qk (Bp + (1 : Int)))).often_) ((rd Bs (qk (Bp + (1 : Int)))).symbols_))) (r := (⟨[.int .i64 ((rd Bs (qk (Bp + (1 : Int)))).often_), .slice BX ((rd Bs (qk (Bp + (1 : Int)))).symbols_).length BY], by simp, by simp [Value.oneCell']⟩ : qY 2)) (Int.toNat Bp) BM (show qf By _ _ from ⟨BX, BY, rfl, GQ, GR⟩)
       have Dq : DZ.length = BC.length := by rw [hz]; exact List.length_set ..
       rw [← hz, ← hzm] at Dh; clear hz hzm
       have GW := Eq.trans Dq DY
       refine qF ?_
       replace hst := hS.st
       obtain ⟨D1, hM⟩ := qB hM
       obtain ⟨hcl, hmust, hav2, hA⟩ := QI (vals' := [some (.slice Bo BC.length Br), some (.int .i64 Bp), some (.slice Bo BC.length Br), some (.int .i64 Bp), some (.int .i64 (qk (Bp + (1 : Int)))), some (.slice Bo BC.length Br), some (.int .i64 Bp), some (.int .i64 (qk (Bp + (1 : Int)))), some (zA Bo (Int.toNat (qk (Bp + (1 : Int))) * 2)), some (.agg ⟨[.int .i64 ((rd Bs (qk (Bp + (1 : Int)))).often_), .slice BX ((rd Bs (qk (Bp + (1 : Int)))).symbols_).length BY]⟩), some (.slice Bo BC.length Br), some (.int .i64 Bp), some (zA Bo (Int.toNat Bp * 2)), some (.agg ⟨[.int .i64 ((rd Bs Bp).often_), .slice B0 ((rd Bs Bp).symbols_).length B3]⟩), some (zA Bo (Int.toNat Bp * 2)), some undef, some (zA Bo (Int.toNat (qk (Bp + (1 : Int))) * 2)), none]) 15 [(0, 15), (1, 15), (5, 15), (6, 15), (7, 15), (8, 15), (9, 15), (13, 15), (14, 15), (12, 13), (10, 12), (11, 12)] hA hcl hav hm hpre rfl rfl rfl rfl rfl
       clear hm hav
       refine yx hA hst ho hcl hav2 hmust 17 [2, 3, 4, 16] rfl rfl rfl rfl rfl (by exact ⟨nM rfl, nM rfl, nB rfl, nQ rfl (by exact qR (xd (Zi Dq rfl) rfl Tryd.runUnderlying110 Tryd.sizeOf112 (D0.rd (i := 1) rfl) qY.len rfl (Dh.inb D1)) rfl), trivial⟩) fun D l a w ho hcl hav hpre hm hE hk hA hst => ?_
       have hS := (Ss.mk hE hst).env2 (e' := [(74, .agg ⟨[.int .i64 ((rd Bs Bp).often_), .slice B0 ((rd Bs Bp).symbols_).length B3]⟩), (76, zA Bo (Int.toNat (qk (Bp + (1 : Int))) * 2))]) ⟨rfl, rfl, trivial⟩
       refine qP rfl <| vE (i := (qk (Bp + (1 : Int)))) (sz := 2) 1 (⟨[.int .i64 ((rd Bs Bp).often_), .slice B0 ((rd Bs Bp).symbols_).length B3], by simp, by simp [Value.oneCell']⟩ : qY 2) hS rfl rfl D0 rfl Tryd.sizeOf112 rfl (Dh.inb D1) fun Dr w LI hz GX hS => ?_
       obtain ⟨GY, hzm⟩ := yk (GV.set (Int.toNat (qk (Bp + (1 : Int)))) (qb.mk ((rd Bs Bp).often_) ((rd Bs Bp).symbols_)))
       replace hM := qA hzm hM
       have D2 := qZ.set (x := (qb.mk ((rd Bs Bp).often_) ((rd Bs Bp).symbols_))) (r := (⟨[.int .i64 ((rd Bs Bp).often_), .slice B0 ((rd Bs Bp).symbols_).length B3], by simp, by simp [Value.oneCell']⟩ : qY 2)) (Int.toNat (qk (Bp + (1 : Int)))) Dh (show qf By _ _ from ⟨B0, B3, rfl, GT, GU⟩)
       have D3 : Dr.length = DZ.length := by rw [hz]; exact List.length_set ..
       rw [← hz, ← hzm] at D2; clear hz hzm
       have GZ := Eq.trans D3 GW
       refine qF ?_
       replace hst := hS.st
       obtain ⟨hcl, hmust, hav2, hA⟩ := QI (vals' := [some (.slice Bo BC.length Br), some (.int .i64 Bp), some (.slice Bo BC.length Br), some (.int .i64 Bp), some (.int .i64 (qk (Bp + (1 : Int)))), some (.slice Bo BC.length Br), some (.int .i64 Bp), some (.int .i64 (qk (Bp + (1 : Int)))), some (zA Bo (Int.toNat (qk (Bp + (1 : Int))) * 2)), some (.agg ⟨[.int .i64 ((rd Bs (qk (Bp + (1 : Int)))).often_), .slice BX ((rd Bs (qk (Bp + (1 : Int)))).symbols_).length BY]⟩), some (.slice Bo BC.length Br), some (.int .i64 Bp), some (zA Bo (Int.toNat Bp * 2)), some (.agg ⟨[.int .i64 ((rd Bs Bp).often_), .slice B0 ((rd Bs Bp).symbols_).length B3]⟩), some (zA Bo (Int.toNat Bp * 2)), some undef, some (zA Bo (Int.toNat (qk (Bp + (1 : Int))) * 2)), some undef]) 17 [(0, 17), (1, 17), (2, 17), (3, 17), (4, 17), (5, 17), (6, 17), (7, 17), (8, 17), (9, 17), (10, 17), (11, 17), (12, 17), (13, 17), (14, 17), (15, 17), (16, 17)] hA hcl hav hm hpre rfl rfl rfl rfl rfl
       clear hm hav
       refine xG hA hst ho hcl hmust [] rfl rfl rfl trivial fun a w hS => ?_
       replace hS := hS.env2 (e' := [(0, .slice Bo Dr.length Br), (10, .int .i64 Da), (13, .int .i64 Bp)]) ⟨(ZE (u := .slice Bo BC.length Br) rfl (by rw [D3, Dq])), rfl, rfl, trivial⟩
       refine zk (qg ?_)
       refine zv <| sM hS rfl fun hS => sB hS rfl fun hS => zr (v := Value.int .i64) (x0 := (qk (Bp + (1 : Int)))) hS (z8 rfl) rfl fun G0 a w hz hS => ?_
       have hM := qA hz hM; clear hz
       refine q9 <| qg ?_
       exact GN _ _ ⟨Dr, GY, LI, G0, hS.to [0, 1] (by kernel_rfl) ⟨rfl, rfl, rfl, trivial⟩, GX, D2, GZ, hM⟩
      ·refine wp_exit ?_
       refine qx (qx (qV (qg ?_)))
       refine wp_ret <| zz ?_
       exact zJ (rs := []) hS rfl rfl (hret BC Bs DH _ (zj hM) BU BM DY (hS.st.pick [0, 1] (by kernel_rfl)))
   ·refine wp_skip ?_
    refine qg ?_
    exact GC _ _ ⟨hS.to [0, 1] (by kernel_rfl) ⟨rfl, rfl, rfl, rfl, rfl, trivial⟩, hM⟩
  ·intro a w hI
   obtain ⟨hS, hM⟩ := hI
   rw [qa.j4] at hM
   refine qX (fun a w => Ss 220 [] [(0, .slice Bo Bu.length Br), (1, .int .i64 Bv), (2, .int .i64 Bw), (3, .int .i64 Bz), (4, xA 57 [] [])] H [By, BG] F a w ∧ (qa.j8 K (qa.r K d) Bn Bv Bw Bz).wp kr kp) (fun LX G1 => ?_) ?_
   ·refine wp_seq ?_
    refine zv <| sM hS rfl fun hS => sM hS rfl fun hS => sB hS rfl fun hS => sB hS rfl fun hS => qF <| qC hS rfl hM (fun G2 hM => ?_) (fun G2 hM => ?_)
    ·refine wp_seq ?_
     refine zv <| sM hS rfl fun hS => sA hS rfl fun hS => qF <| qu <| sM hS rfl fun hS => sA hS rfl fun hS => qF <| qX (fun a w => ∃ (Dc : Int), Ss 220 [] [(0, .slice Bo Bu.length Br), (2, .int .i64 Bw), (14, .int .i64 Dc)] H [By, BG] F a w ∧ (qa.j6 K (qa.r K d) Bn Bw Dc).wp kr kp) (fun LY G3 => ?_) ?_
     ·refine z7 ?_
      refine zd (fun Gw a w => ∃ (B4 : Int) (De : Int), Ss 220 [] [(0, .slice Bo Bu.length Br), (2, .int .i64 Bw), (4, xA 57 [] []), (14, .int .i64 B4), (15, .int .i64 De)] H [By, BG] F a w ∧ (qa.l5 K (qa.r K d) Bn Bw Gw B4 De).wp kr kp) K ?_ ?_ ?_
      ·exact ⟨Bv, Bw, hS.to [0, 1] (by kernel_rfl) ⟨rfl, rfl, rfl, rfl, rfl, trivial⟩, hM⟩
      ·intro a w hI; obtain ⟨_, _, _, hM⟩ := hI; exact zc hM
      ·intro Gw a w hI LZ D4
       obtain ⟨B4, De, hS, hM⟩ := hI
       rw [qa.l5] at hM
       refine wp_seq <| qu <| sM hS rfl fun hS => sM hS rfl fun hS => sB hS rfl fun hS => qF <| qC hS rfl hM (fun G4 hM => ?_) (fun G4 hM => ?_)
       ·refine wp_skip ?_
        refine qg <| z7 <| qu <| sM hS rfl fun hS => sM hS rfl fun hS => sB hS rfl fun hS => sO hS (vX rfl Tryd.runUnderlying3 Tryd.runUnderlying39) rfl fun hS => sO hS (shr rfl rfl rfl) rfl fun hS => sO hS (vX rfl Tryd.runUnderlying39 Tryd.runUnderlying3) rfl fun hS => zr (v := Value.int .i64) (x0 := (wr .i64 (zR .u64 (wr .u64 (qk (B4 + De))) (1 : Int)))) hS (z8 rfl) rfl fun BL a w hz hS => ?_
        have hM := qA hz hM; clear hz
        refine qF <| wp_seq ?_
        obtain ⟨Dt, hM⟩ := qB hM
        obtain ⟨DI, DJ, G5, G6, G7⟩ := BA.get Dt
        obtain ⟨Du, hM⟩ := qB hM
        obtain ⟨DK, DL, G8, G9, La⟩ := BA.get Du
        refine q8 (vals := [some (xA 57 [] []), some (.slice Bo Bu.length Br), some (.int .i64 Bw), some (zA Bo (Int.toNat Bw * 2)), some (.agg ⟨[.int .i64 ((rd Bn Bw).often_), .slice DI ((rd Bn Bw).symbols_).length DJ]⟩), some (.slice Bo Bu.length Br), some (.int .i64 BL), some (zA Bo (Int.toNat BL * 2)), some (.agg ⟨[.int .i64 ((rd Bn BL).often_), .slice DK ((rd Bn BL).symbols_).length DL]⟩), none, none, none]) hS z6 rfl ?_
        intro l w ho hcl hA hst
        refine yx hA hst ho hcl zX z5 9 [0, 1, 2, 3, 4, 5, 6, 7, 8] rfl rfl rfl rfl rfl (by exact ⟨nM rfl, nM rfl, nM rfl, nQ rfl (by exact qR (xd rfl rfl Tryd.runUnderlying110 Tryd.sizeOf112 (BF.rd (i := 1) rfl) qY.len rfl (BA.inb Dt)) rfl), nQ rfl (by exact qR (qR (xV rfl (BF.rd (i := 1) rfl) qY.len (BA.inb Dt) Tryd.isAgg112 Tryd.sizeOf112 rfl) (congrArg (fun l => Value.agg ⟨l⟩) G5)) rfl), nM rfl, nM rfl, nQ rfl (by exact qR (xd rfl rfl Tryd.runUnderlying110 Tryd.sizeOf112 (BF.rd (i := 1) rfl) qY.len rfl (BA.inb Du)) rfl), nQ rfl (by exact qR (qR (xV rfl (BF.rd (i := 1) rfl) qY.len (BA.inb Du) Tryd.isAgg112 Tryd.sizeOf112 rfl) (congrArg (fun l => Value.agg ⟨l⟩) G8)) rfl), trivial⟩) fun D l a w ho hcl hav hpre hm hE hk hA hst => ?_
        have hS := (Ss.mk hE hst).env2 (e' := [(92, xA 57 [] []), (96, .agg ⟨[.int .i64 ((rd Bn Bw).often_), .slice DI ((rd Bn Bw).symbols_).length DJ]⟩), (100, .agg ⟨[.int .i64 ((rd Bn BL).often_), .slice DK ((rd Bn BL).symbols_).length DL]⟩)]) ⟨rfl, rfl, rfl, trivial⟩
        refine qP rfl <| y3 hS rfl rfl Tryd.call57 (yf hG K (qb.mk ((rd Bn Bw).often_) ((rd Bn Bw).symbols_)) (qb.mk ((rd Bn BL).often_) ((rd Bn BL).symbols_)) DI DJ DK DL (G6.rdF (i := 0) rfl) G7 (G9.rdF (i := 0) rfl) La (hS.st.part 0 [0, 1] (by kernel_rfl)) (qy hM) (fun DM w hM  hst => qM hS.ev hst.appF rfl fun hS => ?_))
        replace hS : Ss _ _ _ H [By, BG] F _ _ := hS
        refine qF ?_
        replace hst := hS.st
        obtain ⟨hcl, hmust, hav2, hA⟩ := dn (vals' := [some (xA 57 [] []), some (.slice Bo Bu.length Br), some (.int .i64 Bw), some (zA Bo (Int.toNat Bw * 2)), some (.agg ⟨[.int .i64 ((rd Bn Bw).often_), .slice DI ((rd Bn Bw).symbols_).length DJ]⟩), some (.slice Bo Bu.length Br), some (.int .i64 BL), some (zA Bo (Int.toNat BL * 2)), some (.agg ⟨[.int .i64 ((rd Bn BL).often_), .slice DK ((rd Bn BL).symbols_).length DL]⟩), some (.int .i64 DM), some (.bool (decide (DM < (0 : Int)))), some (.bool (!(decide (DM < (0 : Int)))))]) 9 [(0, 9), (4, 9), (8, 9), (3, 4), (7, 8), (1, 3), (2, 3), (5, 7), (6, 7)] hA hcl hav hm hpre hk rfl rfl rfl rfl rfl rfl rfl
        clear hm hav
        refine xG hA hst ho hcl hmust [10, 11] rfl rfl rfl (by exact ⟨nB rfl, nQ rfl (by exact qR (un rfl rfl) rfl), trivial⟩) fun a w hS => ?_
        replace hS := hS.env2 (e' := [(0, .slice Bo Bu.length Br), (2, .int .i64 Bw), (4, xA 57 [] []), (14, .int .i64 B4), (15, .int .i64 De), (16, .int .i64 BL), (103, .bool (!(decide (DM < (0 : Int)))))]) ⟨rfl, rfl, rfl, rfl, rfl, rfl, rfl, trivial⟩
        refine qg <| qC hS rfl hM (fun Lb hM => ?_) (fun Lb hM => ?_)
        ·refine zv ?_
         refine sM hS rfl fun hS => sB hS rfl fun hS => zr (v := Value.int .i64) (x0 := (qk (BL + (1 : Int)))) hS (z8 rfl) rfl fun LJ a w hz hS => ?_
         have hM := qA hz hM; clear hz
         refine q9 <| zk (qg ?_)
         exact D4 _ _ ⟨LJ, De, hS.to [0, 1] (by kernel_rfl) ⟨rfl, rfl, rfl, rfl, rfl, trivial⟩, hM⟩
        ·refine zv ?_
         refine sM hS rfl fun hS => sA hS rfl fun hS => q9 <| zk (qg ?_)
         exact D4 _ _ ⟨B4, BL, hS.to [0, 1] (by kernel_rfl) ⟨rfl, rfl, rfl, rfl, rfl, trivial⟩, hM⟩
       ·refine wp_exit ?_
        refine qx (qx (qV (qg ?_)))
        exact G3 _ _ ⟨B4, hS.to [0, 1] (by kernel_rfl) ⟨rfl, rfl, rfl, trivial⟩, hM⟩
     ·intro a w hI
      obtain ⟨Dc, hS, hM⟩ := hI
      rw [qa.j6] at hM
      refine wp_seq <| qu <| sM hS rfl fun hS => sA hS rfl fun hS => qF <| z7 <| zd (fun Gx a w => ∃ (BD : List (qY 2)) (Bt : (List qb)) (DN : qs) (Bq : Int), Ss 220 [] [(0, .slice Bo BD.length Br), (14, .int .i64 Dc), (17, .int .i64 Bq)] H [By, DN] F a w ∧ (zC 112 (qY.v (sz := 2)) 2 Bo BD Br DN) ∧ (qZ (qf By) Bt BD) ∧ (BD.length = Bu.length) ∧ (qa.l7 K (qa.r K d) Dc Gx Bt Bq).wp kr kp) K ?_ ?_ ?_
      ·exact ⟨Bu, Bn, BG, Bw, hS.to [0, 1] (by kernel_rfl) ⟨rfl, rfl, rfl, trivial⟩, BF, BA, Dg, hM⟩
      ·intro a w hI; obtain ⟨_, _, _, _, _, _, _, _, hM⟩ := hI; exact zc hM
      ·intro Gx a w hI L0 Lc
       obtain ⟨BD, Bt, DN, Bq, hS, BV, BN, D5, hM⟩ := hI
       rw [qa.l7] at hM
       refine wp_seq <| qu <| sM hS rfl fun hS => sM hS rfl fun hS => sB hS rfl fun hS => qF <| qC hS rfl hM (fun Ld hM => ?_) (fun Ld hM => ?_)
       ·refine wp_skip ?_
        refine qg <| wp_seq <| z7 ?_
        obtain ⟨Dv, hM⟩ := qB hM
        obtain ⟨B5, B6, Le, Lf, Lg⟩ := BN.get Dv
        obtain ⟨B7, hM⟩ := qB hM
        obtain ⟨B8, B9, Lh, Li, Lj⟩ := BN.get B7
        refine q8 (vals := [some (.slice Bo BD.length Br), some (.int .i64 Bq), some (.slice Bo BD.length Br), some (.int .i64 Bq), some (.int .i64 (qk (Bq - (1 : Int)))), some (.slice Bo BD.length Br), some (.int .i64 Bq), some (.int .i64 (qk (Bq - (1 : Int)))), some (zA Bo (Int.toNat (qk (Bq - (1 : Int))) * 2)), some (.agg ⟨[.int .i64 ((rd Bt (qk (Bq - (1 : Int)))).often_), .slice B5 ((rd Bt (qk (Bq - (1 : Int)))).symbols_).length B6]⟩), some (.slice Bo BD.length Br), some (.int .i64 Bq), some (zA Bo (Int.toNat Bq * 2)), some (.agg ⟨[.int .i64 ((rd Bt Bq).often_), .slice B8 ((rd Bt Bq).symbols_).length B9]⟩), some (zA Bo (Int.toNat Bq * 2)), none, none, none]) hS z6 rfl ?_
        intro l w ho hcl hA hst
        refine yx hA hst ho hcl zX z5 15 [0, 1, 2, 3, 4, 5, 6, 7, 8, 9, 10, 11, 12, 13, 14] rfl rfl rfl rfl rfl (by exact ⟨nM rfl, nM rfl, nM rfl, nM rfl, nB rfl, nM rfl, nM rfl, nB rfl, nQ rfl (by exact qR (xd rfl rfl Tryd.runUnderlying110 Tryd.sizeOf112 (BV.rd (i := 1) rfl) qY.len rfl (BN.inb Dv)) rfl), nQ rfl (by exact qR (qR (xV rfl (BV.rd (i := 1) rfl) qY.len (BN.inb Dv) Tryd.isAgg112 Tryd.sizeOf112 rfl) (congrArg (fun l => Value.agg ⟨l⟩) Le)) rfl), nM rfl, nM rfl, nQ rfl (by exact qR (xd rfl rfl Tryd.runUnderlying110 Tryd.sizeOf112 (BV.rd (i := 1) rfl) qY.len rfl (BN.inb B7)) rfl), nQ rfl (by exact qR (qR (xV rfl (BV.rd (i := 1) rfl) qY.len (BN.inb B7) Tryd.isAgg112 Tryd.sizeOf112 rfl) (congrArg (fun l => Value.agg ⟨l⟩) Lh)) rfl), nQ rfl (by exact qR (xd rfl rfl Tryd.runUnderlying110 Tryd.sizeOf112 (BV.rd (i := 1) rfl) qY.len rfl (BN.inb B7)) rfl), trivial⟩) fun D l a w ho hcl hav hpre hm hE hk hA hst => ?_
        have hS := (Ss.mk hE hst).env2 (e' := [(122, .agg ⟨[.int .i64 ((rd Bt (qk (Bq - (1 : Int)))).often_), .slice B5 ((rd Bt (qk (Bq - (1 : Int)))).symbols_).length B6]⟩), (127, zA Bo (Int.toNat Bq * 2))]) ⟨rfl, rfl, trivial⟩
        refine qP rfl <| vE (i := Bq) (sz := 2) 1 (⟨[.int .i64 ((rd Bt (qk (Bq - (1 : Int)))).often_), .slice B5 ((rd Bt (qk (Bq - (1 : Int)))).symbols_).length B6], by simp, by simp [Value.oneCell']⟩ : qY 2) hS rfl rfl BV rfl Tryd.sizeOf112 rfl (BN.inb B7) fun D6 w L1 hz D7 hS => ?_
        obtain ⟨Lk, hzm⟩ := yk (Bt.set (Int.toNat Bq) (qb.mk ((rd Bt (qk (Bq - (1 : Int)))).often_) ((rd Bt (qk (Bq - (1 : Int)))).symbols_)))
        replace hM := qA hzm hM
        have Di := qZ.set (x := (qb.mk ((rd Bt (qk (Bq - (1 : Int)))).often_) ((rd Bt (qk (Bq - (1 : Int)))).symbols_))) (r := (⟨[.int .i64 ((rd Bt (qk (Bq - (1 : Int)))).often_), .slice B5 ((rd Bt (qk (Bq - (1 : Int)))).symbols_).length B6], by simp, by simp [Value.oneCell']⟩ : qY 2)) (Int.toNat Bq) BN (show qf By _ _ from ⟨B5, B6, rfl, Lf, Lg⟩)
        have Dw : D6.length = BD.length := by rw [hz]; exact List.length_set ..
        rw [← hz, ← hzm] at Di; clear hz hzm
        have Ll := Eq.trans Dw D5
        refine qF ?_
        replace hst := hS.st
        obtain ⟨D8, hM⟩ := qB hM
        obtain ⟨hcl, hmust, hav2, hA⟩ := QI (vals' := [some (.slice Bo BD.length Br), some (.int .i64 Bq), some (.slice Bo BD.length Br), some (.int .i64 Bq), some (.int .i64 (qk (Bq - (1 : Int)))), some (.slice Bo BD.length Br), some (.int .i64 Bq), some (.int .i64 (qk (Bq - (1 : Int)))), some (zA Bo (Int.toNat (qk (Bq - (1 : Int))) * 2)), some (.agg ⟨[.int .i64 ((rd Bt (qk (Bq - (1 : Int)))).often_), .slice B5 ((rd Bt (qk (Bq - (1 : Int)))).symbols_).length B6]⟩), some (.slice Bo BD.length Br), some (.int .i64 Bq), some (zA Bo (Int.toNat Bq * 2)), some (.agg ⟨[.int .i64 ((rd Bt Bq).often_), .slice B8 ((rd Bt Bq).symbols_).length B9]⟩), some (zA Bo (Int.toNat Bq * 2)), some undef, some (zA Bo (Int.toNat (qk (Bq - (1 : Int))) * 2)), none]) 15 [(0, 15), (1, 15), (5, 15), (6, 15), (7, 15), (8, 15), (9, 15), (13, 15), (14, 15), (12, 13), (10, 12), (11, 12)] hA hcl hav hm hpre rfl rfl rfl rfl rfl
        clear hm hav
        refine yx hA hst ho hcl hav2 hmust 17 [2, 3, 4, 16] rfl rfl rfl rfl rfl (by exact ⟨nM rfl, nM rfl, nB rfl, nQ rfl (by exact qR (xd (Zi Dw rfl) rfl Tryd.runUnderlying110 Tryd.sizeOf112 (D7.rd (i := 1) rfl) qY.len rfl (Di.inb D8)) rfl), trivial⟩) fun D l a w ho hcl hav hpre hm hE hk hA hst => ?_
        have hS := (Ss.mk hE hst).env2 (e' := [(126, .agg ⟨[.int .i64 ((rd Bt Bq).often_), .slice B8 ((rd Bt Bq).symbols_).length B9]⟩), (128, zA Bo (Int.toNat (qk (Bq - (1 : Int))) * 2))]) ⟨rfl, rfl, trivial⟩
        refine qP rfl <| vE (i := (qk (Bq - (1 : Int)))) (sz := 2) 1 (⟨[.int .i64 ((rd Bt Bq).often_), .slice B8 ((rd Bt Bq).symbols_).length B9], by simp, by simp [Value.oneCell']⟩ : qY 2) hS rfl rfl D7 rfl Tryd.sizeOf112 rfl (Di.inb D8) fun Dx w LK hz Lm hS => ?_
        obtain ⟨Ln, hzm⟩ := yk (Lk.set (Int.toNat (qk (Bq - (1 : Int)))) (qb.mk ((rd Bt Bq).often_) ((rd Bt Bq).symbols_)))
        replace hM := qA hzm hM
        have D9 := qZ.set (x := (qb.mk ((rd Bt Bq).often_) ((rd Bt Bq).symbols_))) (r := (⟨[.int .i64 ((rd Bt Bq).often_), .slice B8 ((rd Bt Bq).symbols_).length B9], by simp, by simp [Value.oneCell']⟩ : qY 2)) (Int.toNat (qk (Bq - (1 : Int)))) Di (show qf By _ _ from ⟨B8, B9, rfl, Li, Lj⟩)
        have Ga : Dx.length = D6.length := by rw [hz]; exact List.length_set ..
        rw [← hz, ← hzm] at D9; clear hz hzm
        have Lo := Eq.trans Ga Ll
        refine qF ?_
        replace hst := hS.st
        obtain ⟨hcl, hmust, hav2, hA⟩ := QI (vals' := [some (.slice Bo BD.length Br), some (.int .i64 Bq), some (.slice Bo BD.length Br), some (.int .i64 Bq), some (.int .i64 (qk (Bq - (1 : Int)))), some (.slice Bo BD.length Br), some (.int .i64 Bq), some (.int .i64 (qk (Bq - (1 : Int)))), some (zA Bo (Int.toNat (qk (Bq - (1 : Int))) * 2)), some (.agg ⟨[.int .i64 ((rd Bt (qk (Bq - (1 : Int)))).often_), .slice B5 ((rd Bt (qk (Bq - (1 : Int)))).symbols_).length B6]⟩), some (.slice Bo BD.length Br), some (.int .i64 Bq), some (zA Bo (Int.toNat Bq * 2)), some (.agg ⟨[.int .i64 ((rd Bt Bq).often_), .slice B8 ((rd Bt Bq).symbols_).length B9]⟩), some (zA Bo (Int.toNat Bq * 2)), some undef, some (zA Bo (Int.toNat (qk (Bq - (1 : Int))) * 2)), some undef]) 17 [(0, 17), (1, 17), (2, 17), (3, 17), (4, 17), (5, 17), (6, 17), (7, 17), (8, 17), (9, 17), (10, 17), (11, 17), (12, 17), (13, 17), (14, 17), (15, 17), (16, 17)] hA hcl hav hm hpre rfl rfl rfl rfl rfl
        clear hm hav
        refine xG hA hst ho hcl hmust [] rfl rfl rfl trivial fun a w hS => ?_
        replace hS := hS.env2 (e' := [(0, .slice Bo Dx.length Br), (14, .int .i64 Dc), (17, .int .i64 Bq)]) ⟨(ZE (u := .slice Bo BD.length Br) rfl (by rw [Ga, Dw])), rfl, rfl, trivial⟩
        refine zk (qg ?_)
        refine zv <| sM hS rfl fun hS => sB hS rfl fun hS => zr (v := Value.int .i64) (x0 := (qk (Bq - (1 : Int)))) hS (z8 rfl) rfl fun Lp a w hz hS => ?_
        have hM := qA hz hM; clear hz
        refine q9 <| qg ?_
        exact Lc _ _ ⟨Dx, Ln, LK, Lp, hS.to [0, 1] (by kernel_rfl) ⟨rfl, rfl, rfl, trivial⟩, Lm, D9, Lo, hM⟩
       ·refine wp_exit ?_
        refine qx (qx (qV (qg ?_)))
        refine wp_ret <| zz ?_
        exact zJ (rs := []) hS rfl rfl (hret BD Bt DN _ (zj hM) BV BN D5 (hS.st.pick [0, 1] (by kernel_rfl)))
    ·refine wp_skip ?_
     refine qg ?_
     exact G1 _ _ ⟨hS.to [0, 1] (by kernel_rfl) ⟨rfl, rfl, rfl, rfl, rfl, trivial⟩, hM⟩
   ·intro a w hI
    obtain ⟨hS, hM⟩ := hI
    rw [qa.j8] at hM
    refine qu <| sM hS rfl fun hS => sM hS rfl fun hS => sB hS rfl fun hS => sO hS (vX rfl Tryd.runUnderlying3 Tryd.runUnderlying39) rfl fun hS => sO hS (shr rfl rfl rfl) rfl fun hS => sO hS (vX rfl Tryd.runUnderlying39 Tryd.runUnderlying3) rfl fun hS => zr (v := Value.int .i64) (x0 := (wr .i64 (zR .u64 (wr .u64 (qk (Bv + Bz))) (1 : Int)))) hS (z8 rfl) rfl fun BB a w hz hS => ?_
    have hM := qA hz hM; clear hz
    refine qF <| qu <| sM hS rfl fun hS => sM hS rfl fun hS => sB hS rfl fun hS => zr (v := Value.int .i64) (x0 := (qk (BB + Bw))) hS (z8 rfl) rfl fun BO a w hz hS => ?_
    have hM := qA hz hM; clear hz
    refine qF <| qu <| sA hS rfl fun hS => sA hS rfl fun hS => qF <| qX (fun a w => ∃ (BT : Int) (DO : Int), Ss 220 [] [(0, .slice Bo Bu.length Br), (1, .int .i64 Bv), (2, .int .i64 Bw), (3, .int .i64 Bz), (4, xA 57 [] []), (18, .int .i64 BB), (19, .int .i64 BO), (20, .int .i64 BT), (21, .int .i64 DO)] H [By, BG] F a w ∧ (qa.j9 K (qa.r K d) Bn Bv Bw Bz BB BO BT DO).wp kr kp) (fun L3 Gb => ?_) ?_
    ·refine wp_seq ?_
     refine zv <| sM hS rfl fun hS => sM hS rfl fun hS => sB hS rfl fun hS => qF <| qC hS rfl hM (fun Lq hM => ?_) (fun Lq hM => ?_)
     ·refine wp_seq ?_
      refine zv <| sM hS rfl fun hS => sM hS rfl fun hS => sB hS rfl fun hS => zr (v := Value.int .i64) (x0 := (qk (BO - Bz))) hS (z8 rfl) rfl fun DU a w hz hS => ?_
      have hM := qA hz hM; clear hz
      refine qF <| zv <| sM hS rfl fun hS => sA hS rfl fun hS => q9 <| qg ?_
      exact Gb _ _ ⟨DU, BB, hS.to [0, 1] (by kernel_rfl) ⟨rfl, rfl, rfl, rfl, rfl, rfl, rfl, rfl, rfl, trivial⟩, hM⟩
     ·refine wp_seq ?_
      refine zv <| sM hS rfl fun hS => sA hS rfl fun hS => qF <| zv <| sM hS rfl fun hS => sA hS rfl fun hS => q9 <| qg ?_
      exact Gb _ _ ⟨Bv, Bw, hS.to [0, 1] (by kernel_rfl) ⟨rfl, rfl, rfl, rfl, rfl, rfl, rfl, rfl, rfl, trivial⟩, hM⟩
    ·intro a w hI
     obtain ⟨BT, DO, hS, hM⟩ := hI
     rw [qa.j9] at hM
     refine qu <| sM hS rfl fun hS => sB hS rfl fun hS => zr (v := Value.int .i64) (x0 := (qk (BO - (1 : Int)))) hS (z8 rfl) rfl fun BJ a w hz hS => ?_
     have hM := qA hz hM; clear hz
     refine qF <| qX (fun a w => ∃ (BE : Int), Ss 220 [] [(0, .slice Bo Bu.length Br), (1, .int .i64 Bv), (2, .int .i64 Bw), (3, .int .i64 Bz), (4, xA 57 [] []), (18, .int .i64 BB), (19, .int .i64 BO), (20, .int .i64 BE)] H [By, BG] F a w ∧ (qa.j11 K (qa.r K d) Bn Bv Bw Bz BB BO BE).wp kr kp) (fun L4 Lr => ?_) ?_
     ·refine z7 ?_
      refine zd (fun Gy a w => ∃ (BI : Int) (Df : Int), Ss 220 [] [(0, .slice Bo Bu.length Br), (1, .int .i64 Bv), (2, .int .i64 Bw), (3, .int .i64 Bz), (4, xA 57 [] []), (18, .int .i64 BB), (19, .int .i64 BO), (20, .int .i64 BI), (21, .int .i64 Df), (22, .int .i64 BJ)] H [By, BG] F a w ∧ (qa.l10 K (qa.r K d) Bn Bv Bw Bz BB BO BJ Gy BI Df).wp kr kp) K ?_ ?_ ?_
      ·exact ⟨BT, DO, hS.to [0, 1] (by kernel_rfl) ⟨rfl, rfl, rfl, rfl, rfl, rfl, rfl, rfl, rfl, rfl, trivial⟩, hM⟩
      ·intro a w hI; obtain ⟨_, _, _, hM⟩ := hI; exact zc hM
      ·intro Gy a w hI L5 Gc
       obtain ⟨BI, Df, hS, hM⟩ := hI
       rw [qa.l10] at hM
       refine wp_seq <| qu <| sM hS rfl fun hS => sM hS rfl fun hS => sB hS rfl fun hS => qF <| qC hS rfl hM (fun Lt hM => ?_) (fun Lt hM => ?_)
       ·refine wp_skip ?_
        refine qg <| z7 <| qu <| sM hS rfl fun hS => sM hS rfl fun hS => sB hS rfl fun hS => sO hS (vX rfl Tryd.runUnderlying3 Tryd.runUnderlying39) rfl fun hS => sO hS (shr rfl rfl rfl) rfl fun hS => sO hS (vX rfl Tryd.runUnderlying39 Tryd.runUnderlying3) rfl fun hS => zr (v := Value.int .i64) (x0 := (wr .i64 (zR .u64 (wr .u64 (qk (BI + Df))) (1 : Int)))) hS (z8 rfl) rfl fun Bx a w hz hS => ?_
        have hM := qA hz hM; clear hz
        refine qF <| wp_seq ?_
        obtain ⟨Dy, hM⟩ := qB hM
        obtain ⟨DP, DQ, Lu, Lv, Lw⟩ := BA.get Dy
        obtain ⟨Dz, hM⟩ := qB hM
        obtain ⟨DR, DS, Lx, Ly, Lz⟩ := BA.get Dz
        refine q8 (vals := [some (xA 57 [] []), some (.slice Bo Bu.length Br), some (.int .i64 BJ), some (.int .i64 Bx), some (.int .i64 (qk (BJ - Bx))), some (zA Bo (Int.toNat (qk (BJ - Bx)) * 2)), some (.agg ⟨[.int .i64 ((rd Bn (qk (BJ - Bx))).often_), .slice DP ((rd Bn (qk (BJ - Bx))).symbols_).length DQ]⟩), some (.slice Bo Bu.length Br), some (.int .i64 Bx), some (zA Bo (Int.toNat Bx * 2)), some (.agg ⟨[.int .i64 ((rd Bn Bx).often_), .slice DR ((rd Bn Bx).symbols_).length DS]⟩), none, none, none]) hS z6 rfl ?_
        intro l w ho hcl hA hst
        refine yx hA hst ho hcl zX z5 11 [0, 1, 2, 3, 4, 5, 6, 7, 8, 9, 10] rfl rfl rfl rfl rfl (by exact ⟨nM rfl, nM rfl, nM rfl, nM rfl, nB rfl, nQ rfl (by exact qR (xd rfl rfl Tryd.runUnderlying110 Tryd.sizeOf112 (BF.rd (i := 1) rfl) qY.len rfl (BA.inb Dy)) rfl), nQ rfl (by exact qR (qR (xV rfl (BF.rd (i := 1) rfl) qY.len (BA.inb Dy) Tryd.isAgg112 Tryd.sizeOf112 rfl) (congrArg (fun l => Value.agg ⟨l⟩) Lu)) rfl), nM rfl, nM rfl, nQ rfl (by exact qR (xd rfl rfl Tryd.runUnderlying110 Tryd.sizeOf112 (BF.rd (i := 1) rfl) qY.len rfl (BA.inb Dz)) rfl), nQ rfl (by exact qR (qR (xV rfl (BF.rd (i := 1) rfl) qY.len (BA.inb Dz) Tryd.isAgg112 Tryd.sizeOf112 rfl) (congrArg (fun l => Value.agg ⟨l⟩) Lx)) rfl), trivial⟩) fun D l a w ho hcl hav hpre hm hE hk hA hst => ?_
        have hS := (Ss.mk hE hst).env2 (e' := [(158, xA 57 [] []), (164, .agg ⟨[.int .i64 ((rd Bn (qk (BJ - Bx))).often_), .slice DP ((rd Bn (qk (BJ - Bx))).symbols_).length DQ]⟩), (168, .agg ⟨[.int .i64 ((rd Bn Bx).often_), .slice DR ((rd Bn Bx).symbols_).length DS]⟩)]) ⟨rfl, rfl, rfl, trivial⟩
        refine qP rfl <| y3 hS rfl rfl Tryd.call57 (yf hG K (qb.mk ((rd Bn (qk (BJ - Bx))).often_) ((rd Bn (qk (BJ - Bx))).symbols_)) (qb.mk ((rd Bn Bx).often_) ((rd Bn Bx).symbols_)) DP DQ DR DS (Lv.rdF (i := 0) rfl) Lw (Ly.rdF (i := 0) rfl) Lz (hS.st.part 0 [0, 1] (by kernel_rfl)) (qy hM) (fun DT w hM  hst => qM hS.ev hst.appF rfl fun hS => ?_))
        replace hS : Ss _ _ _ H [By, BG] F _ _ := hS
        refine qF ?_
        replace hst := hS.st
        obtain ⟨hcl, hmust, hav2, hA⟩ := dn (vals' := [some (xA 57 [] []), some (.slice Bo Bu.length Br), some (.int .i64 BJ), some (.int .i64 Bx), some (.int .i64 (qk (BJ - Bx))), some (zA Bo (Int.toNat (qk (BJ - Bx)) * 2)), some (.agg ⟨[.int .i64 ((rd Bn (qk (BJ - Bx))).often_), .slice DP ((rd Bn (qk (BJ - Bx))).symbols_).length DQ]⟩), some (.slice Bo Bu.length Br), some (.int .i64 Bx), some (zA Bo (Int.toNat Bx * 2)), some (.agg ⟨[.int .i64 ((rd Bn Bx).often_), .slice DR ((rd Bn Bx).symbols_).length DS]⟩), some (.int .i64 DT), some (.bool (decide (DT < (0 : Int)))), some (.bool (!(decide (DT < (0 : Int)))))]) 11 [(0, 11), (6, 11), (10, 11), (5, 6), (9, 10), (1, 5), (4, 5), (7, 9), (8, 9), (2, 4), (3, 4)] hA hcl hav hm hpre hk rfl rfl rfl rfl rfl rfl rfl
        clear hm hav
        refine xG hA hst ho hcl hmust [12, 13] rfl rfl rfl (by exact ⟨nB rfl, nQ rfl (by exact qR (un rfl rfl) rfl), trivial⟩) fun a w hS => ?_
        replace hS := hS.env2 (e' := [(0, .slice Bo Bu.length Br), (1, .int .i64 Bv), (2, .int .i64 Bw), (3, .int .i64 Bz), (4, xA 57 [] []), (18, .int .i64 BB), (19, .int .i64 BO), (20, .int .i64 BI), (21, .int .i64 Df), (22, .int .i64 BJ), (23, .int .i64 Bx), (171, .bool (!(decide (DT < (0 : Int)))))]) ⟨rfl, rfl, rfl, rfl, rfl, rfl, rfl, rfl, rfl, rfl, rfl, rfl, trivial⟩
        refine qg <| qC hS rfl hM (fun LA hM => ?_) (fun LA hM => ?_)
        ·refine zv ?_
         refine sM hS rfl fun hS => sB hS rfl fun hS => zr (v := Value.int .i64) (x0 := (qk (Bx + (1 : Int)))) hS (z8 rfl) rfl fun DV a w hz hS => ?_
         have hM := qA hz hM; clear hz
         refine q9 <| zk (qg ?_)
         exact Gc _ _ ⟨DV, Df, hS.to [0, 1] (by kernel_rfl) ⟨rfl, rfl, rfl, rfl, rfl, rfl, rfl, rfl, rfl, rfl, trivial⟩, hM⟩
        ·refine zv ?_
         refine sM hS rfl fun hS => sA hS rfl fun hS => q9 <| zk (qg ?_)
         exact Gc _ _ ⟨BI, Bx, hS.to [0, 1] (by kernel_rfl) ⟨rfl, rfl, rfl, rfl, rfl, rfl, rfl, rfl, rfl, rfl, trivial⟩, hM⟩
       ·refine wp_exit ?_
        refine qx (qx (qV (qg ?_)))
        exact Lr _ _ ⟨BI, hS.to [0, 1] (by kernel_rfl) ⟨rfl, rfl, rfl, rfl, rfl, rfl, rfl, rfl, trivial⟩, hM⟩
     ·intro a w hI
      obtain ⟨BE, hS, hM⟩ := hI
      rw [qa.j11] at hM
      refine qu <| sM hS rfl fun hS => sM hS rfl fun hS => sB hS rfl fun hS => zr (v := Value.int .i64) (x0 := (qk (BO - BE))) hS (z8 rfl) rfl fun BH a w hz hS => ?_
      have hM := qA hz hM; clear hz
      refine qF <| qX (fun a w => ∃ (BP : List (qY 2)) (BR : (List qb)) (Dk : qs), Ss 220 [] [(0, .slice Bo BP.length Br), (1, .int .i64 Bv), (3, .int .i64 Bz), (4, xA 57 [] []), (18, .int .i64 BB), (20, .int .i64 BE), (24, .int .i64 BH)] H [By, Dk] F a w ∧ (zC 112 (qY.v (sz := 2)) 2 Bo BP Br Dk) ∧ (qZ (qf By) BR BP) ∧ (BP.length = Bu.length) ∧ (qa.j12 K (qa.r K d) Bv Bz BB BE BH BR).wp kr kp) (fun L6 Gd => ?_) ?_
      ·refine wp_seq ?_
       refine zv <| sM hS rfl fun hS => sM hS rfl fun hS => sB hS rfl fun hS => sM hS rfl fun hS => yr 3 true 181 (b := (decide (BE < Bw))) (r := (decide (Bw < BH))) hS rfl rfl rfl rfl rfl rfl rfl (fun hb a w hS K hK => ?_) rfl fun a w hS => ?_
       ·refine zF hS rfl rfl rfl hb (mv rfl) rfl fun a w hS => ?_
        refine zF hS rfl rfl rfl hb (mv rfl) rfl fun a w hS => zF hS rfl rfl rfl hb (yN rfl rfl rfl) rfl fun a w hS => ?_
        exact q9 (hK _ _ (hS.up 3 rfl rfl))
       refine qF <| qC hS rfl hM (fun LB hM => ?_) (fun LB hM => ?_)
       ·refine zv ?_
        refine sM hS rfl fun hS => sM hS rfl fun hS => sM hS rfl fun hS => sM hS rfl fun hS => sM hS rfl fun hS => qO hS rfl Tryd.call108 (xM hG K Bn BE Bw BH By Bo Br Bu BG BA BF (hS.st.part 2 [0, 1] (by kernel_rfl)) (qy hM) (fun DA Ge Gz w hM LL LM Gf hst => qM hS.ev hst.appF rfl fun hS => ?_))
        replace hS : Ss _ _ _ H [By, Gz] F _ _ := hS
        have LC := Eq.trans Gf Dg
        replace hS := hS.re 0 (u := .slice Bo Bu.length Br) (v := .slice Bo DA.length Br) rfl (by rw [Gf])
        replace hS := hS.re 186 (u := .slice Bo Bu.length Br) (v := .slice Bo DA.length Br) rfl (by rw [Gf])
        refine q9 <| qg ?_
        exact Gd _ _ ⟨DA, Ge, Gz, hS.to [0, 1] (by kernel_rfl) ⟨rfl, rfl, rfl, rfl, rfl, rfl, rfl, trivial⟩, LL, LM, LC, hM⟩
       ·refine wp_skip ?_
        refine qg ?_
        exact Gd _ _ ⟨Bu, Bn, BG, hS.to [0, 1] (by kernel_rfl) ⟨rfl, rfl, rfl, rfl, rfl, rfl, rfl, trivial⟩, BF, BA, Dg, hM⟩
      ·intro a w hI
       obtain ⟨BP, BR, Dk, hS, Gg, Gh, Gi, hM⟩ := hI
       rw [qa.j12] at hM
       refine qX (fun a w => ∃ (BQ : List (qY 2)) (BS : (List qb)) (Dl : qs), Ss 220 [] [(0, .slice Bo BQ.length Br), (3, .int .i64 Bz), (4, xA 57 [] []), (18, .int .i64 BB), (24, .int .i64 BH)] H [By, Dl] F a w ∧ (zC 112 (qY.v (sz := 2)) 2 Bo BQ Br Dl) ∧ (qZ (qf By) BS BQ) ∧ (BQ.length = Bu.length) ∧ (qa.j13 K (qa.r K d) Bz BB BH BS).wp kr kp) (fun L7 Gj => ?_) ?_
       ·refine wp_seq ?_
        refine zv <| sM hS rfl fun hS => sM hS rfl fun hS => sB hS rfl fun hS => sM hS rfl fun hS => yr 3 true 195 (b := (decide (Bv < BE))) (r := (decide (BE < BB))) hS rfl rfl rfl rfl rfl rfl rfl (fun hb a w hS K hK => ?_) rfl fun a w hS => ?_
        ·refine zF hS rfl rfl rfl hb (mv rfl) rfl fun a w hS => ?_
         refine zF hS rfl rfl rfl hb (mv rfl) rfl fun a w hS => zF hS rfl rfl rfl hb (yN rfl rfl rfl) rfl fun a w hS => ?_
         exact q9 (hK _ _ (hS.up 3 rfl rfl))
        refine qF <| qC hS rfl hM (fun LD hM => ?_) (fun LD hM => ?_)
        ·refine zv ?_
         refine sM hS rfl fun hS => sM hS rfl fun hS => sM hS rfl fun hS => sM hS rfl fun hS => sM hS rfl fun hS => qO hS rfl Tryd.call100 (ih hG  BR Bv BE BB By Bo Br BP Dk Gh Gg (hS.st.part 2 [0, 1] (by kernel_rfl)) (qy hM) (fun DB Gk GA w hM LN LO Gm hst => qM hS.ev hst.appF rfl fun hS => ?_))
         replace hS : Ss _ _ _ H [By, GA] F _ _ := hS
         have LE := Eq.trans Gm Gi
         replace hS := hS.re 0 (u := .slice Bo BP.length Br) (v := .slice Bo DB.length Br) rfl (by rw [Gm])
         replace hS := hS.re 200 (u := .slice Bo BP.length Br) (v := .slice Bo DB.length Br) rfl (by rw [Gm])
         refine q9 <| qg ?_
         exact Gj _ _ ⟨DB, Gk, GA, hS.to [0, 1] (by kernel_rfl) ⟨rfl, rfl, rfl, rfl, rfl, trivial⟩, LN, LO, LE, hM⟩
        ·refine wp_skip ?_
         refine qg ?_
         exact Gj _ _ ⟨BP, BR, Dk, hS.to [0, 1] (by kernel_rfl) ⟨rfl, rfl, rfl, rfl, rfl, trivial⟩, Gg, Gh, Gi, hM⟩
       ·intro a w hI
        obtain ⟨BQ, BS, Dl, hS, Gn, Gp, Gq, hM⟩ := hI
        rw [qa.j13] at hM
        refine qu <| sM hS rfl fun hS => sM hS rfl fun hS => sB hS rfl fun hS => sM hS rfl fun hS => yr 3 true 209 (b := (decide (BB < BH))) (r := (decide (BH < Bz))) hS rfl rfl rfl rfl rfl rfl rfl (fun hb a w hS K hK => ?_) rfl fun a w hS => ?_
        ·refine zF hS rfl rfl rfl hb (mv rfl) rfl fun a w hS => ?_
         refine zF hS rfl rfl rfl hb (mv rfl) rfl fun a w hS => zF hS rfl rfl rfl hb (yN rfl rfl rfl) rfl fun a w hS => ?_
         exact q9 (hK _ _ (hS.up 3 rfl rfl))
        refine qF <| qC hS rfl hM (fun LF hM => ?_) (fun LF hM => ?_)
        ·refine zv ?_
         refine sM hS rfl fun hS => sM hS rfl fun hS => sM hS rfl fun hS => sM hS rfl fun hS => sM hS rfl fun hS => qO hS rfl Tryd.call100 (ih hG  BS BB BH Bz By Bo Br BQ Dl Gp Gn (hS.st.part 2 [0, 1] (by kernel_rfl)) (qy hM) (fun DC Gr GB w hM LP LQ Gs hst => qM hS.ev hst.appF rfl fun hS => ?_))
         replace hS : Ss _ _ _ H [By, GB] F _ _ := hS
         have LG := Eq.trans Gs Gq
         replace hS := hS.re 0 (u := .slice Bo BQ.length Br) (v := .slice Bo DC.length Br) rfl (by rw [Gs])
         replace hS := hS.re 214 (u := .slice Bo BQ.length Br) (v := .slice Bo DC.length Br) rfl (by rw [Gs])
         refine q9 ?_
         exact yj (rs := []) hS rfl rfl (hret DC Gr GB _ (zj hM) LP LQ LG (hS.st.pick [0, 1] (by kernel_rfl)))
        ·refine wp_skip ?_
         exact yj (rs := []) hS rfl rfl (hret BQ BS Dl _ (zj hM) Gn Gp Gq (hS.st.pick [0, 1] (by kernel_rfl)))
theorem z3 {H : xl} {F : List qs} {w : World} {R : Ending → World → Prop} {kr : (List qb) → Prop} {kp : Value → Prop} (hG : Gl H) (K : Nat) (Bn : List qb) (Br : Int) (Bw : Int) (Bs : Int) (Bp : qs) (Bu : Option Addr) (Bv : Nat) (Bo : List (qY 2)) (Bx : qs) (Bz : qZ (qf Bp) Bn Bo) (BA : zC 112 (qY.v (sz := 2)) 2 Bu Bo Bv Bx)
    (hS : St w H [Bp, Bx] F) (hm : (qa.m K Bn Br Bw Bs).wp kr kp)
    (hret : ∀ (Bt : List (qY 2)) (Bq : (List qb)) (By : qs) (w : World), kr Bq → (zC 112 (qY.v (sz := 2)) 2 Bu Bt Bv By) → (qZ (qf Bp) Bq Bt) → (Bt.length = Bo.length) → St w H [Bp, By] F → R (.returned (.tuple ⟨[]⟩)) w) :
    Calls Tryd.prog 100 ⟨[.slice Bu Bo.length Bv, .int .i64 Br, .int .i64 Bw, .int .i64 Bs, xA 57 [] []]⟩ w R := xB K K hG Bn Br Bw Bs Bp Bu Bv Bo Bx Bz BA hS hm hret
theorem xK {H : xl} {F : List qs} {w : World} {R : Ending → World → Prop} {kr : (List qb) → Prop} {kp : Value → Prop} (hG : Gl H) (K : Nat) (BG : List qb) (Br : Int) (Bq : qs) (Bo : Option Addr) (Bp : Nat) (Bs : List (qY 2)) (BY : qs) (Dv : qZ (qf Bq) BG Bs) (Dw : zC 112 (qY.v (sz := 2)) 2 Bo Bs Bp BY)
    (hS : St w H [Bq, BY] F) (hm : (qe.m K BG Br).wp kr kp)
    (hret : ∀ (BR : List (qY 2)) (BM : (List qb)) (Dn : qs) (w : World), kr BM → (zC 112 (qY.v (sz := 2)) 2 Bo BR Bp Dn) → (qZ (qf Bq) BM BR) → (BR.length = Bs.length) → St w H [Bq, Dn] F → R (.returned (.tuple ⟨[]⟩)) w) :
    Calls Tryd.prog 81 ⟨[.slice Bo Bs.length Bp, .int .i64 Br, xA 57 [] []]⟩ w R := by
 refine enter Tryd.func81 rfl Tryd.ntmps81 rfl hS fun a w hS => ?_
 have hM := hm; clear hm
 rw [qe.m] at hM
 have DZ : ∀ q ∈ Bq, q ∈ Bq := fun _ h => h
 have Dx : Bs.length = Bs.length := rfl
 refine qu <| sA hS rfl fun hS => qF <| qu <| sM hS rfl fun hS => sA hS rfl fun hS => sA hS rfl fun hS => qF <| qX (fun a w => ∃ (Bw : List (qY 2)) (BC : (List qb)) (BW : qs) (BL : Int), Ss 63 [] [(0, .slice Bo Bw.length Bp), (1, .int .i64 Br), (2, xA 57 [] []), (6, .int .i64 (20 : Int)), (7, .int .i64 BL)] H [Bq, BW] F a w ∧ (zC 112 (qY.v (sz := 2)) 2 Bo Bw Bp BW) ∧ (qZ (qf Bq) BC Bw) ∧ (Bw.length = Bs.length) ∧ (qe.j2 K Br BC BL).wp kr kp) (fun D0 Dy => ?_) ?_
 ·refine z7 ?_
  refine zd (fun Do a w => ∃ (Bt : List (qY 2)) (Bx : (List qb)) (BN : qs) (BH : Int) (BD : Int), Ss 63 [] [(0, .slice Bo Bt.length Bp), (1, .int .i64 Br), (2, xA 57 [] []), (6, .int .i64 (20 : Int)), (7, .int .i64 BH), (8, .int .i64 BD)] H [Bq, BN] F a w ∧ (zC 112 (qY.v (sz := 2)) 2 Bo Bt Bp BN) ∧ (qZ (qf Bq) Bx Bt) ∧ (Bt.length = Bs.length) ∧ (qe.l1 K Br Do Bx BH BD).wp kr kp) K ?_ ?_ ?_
  ·exact ⟨Bs, BG, BY, (0 : Int), (20 : Int), hS.to [0, 1] (by kernel_rfl) ⟨rfl, rfl, rfl, rfl, rfl, rfl, trivial⟩, Dw, Dv, Dx, hM⟩
  ·intro a w hI; obtain ⟨_, _, _, _, _, _, _, _, _, hM⟩ := hI; exact zc hM
  ·intro Do a w hI D1 Dz
   obtain ⟨Bt, Bx, BN, BH, BD, hS, BZ, B0, B3, hM⟩ := hI
   rw [qe.l1] at hM
   refine wp_seq <| qu <| sM hS rfl fun hS => sM hS rfl fun hS => sB hS rfl fun hS => qF <| qC hS rfl hM (fun DA hM => ?_) (fun DA hM => ?_)
   ·refine wp_skip ?_
    refine qg <| z7 <| qu <| sM hS rfl fun hS => sM hS rfl fun hS => sM hS rfl fun hS => sM hS rfl fun hS => qO hS rfl Tryd.call99 (zT hG K Bx BH BD Bq Bo Bp Bt BN B0 BZ (hS.st.part 2 [0, 1] (by kernel_rfl)) (qy hM) (fun BS B4 Dp w hM DQ DR B5 hst => qM hS.ev hst.appF rfl fun hS => ?_))
    replace hS : Ss _ _ _ H [Bq, Dp] F _ _ := hS
    have DB := Eq.trans B5 B3
    replace hS := hS.re 0 (u := .slice Bo Bt.length Bp) (v := .slice Bo BS.length Bp) rfl (by rw [B5])
    replace hS := hS.re 14 (u := .slice Bo Bt.length Bp) (v := .slice Bo BS.length Bp) rfl (by rw [B5])
    refine qF <| qu <| sM hS rfl fun hS => sA hS rfl fun hS => qF <| zv <| sM hS rfl fun hS => sM hS rfl fun hS => sB hS rfl fun hS => zr (v := Value.int .i64) (x0 := (qk (BD + (20 : Int)))) hS (z8 rfl) rfl fun DC a w hz hS => ?_
    have hM := qA hz hM; clear hz
    refine q9 <| zk (qg ?_)
    exact Dz _ _ ⟨BS, B4, Dp, BD, DC, hS.to [0, 1] (by kernel_rfl) ⟨rfl, rfl, rfl, rfl, rfl, rfl, trivial⟩, DQ, DR, DB, hM⟩
   ·refine wp_exit ?_
    refine qx (qx (qV (qg ?_)))
    exact Dy _ _ ⟨Bt, Bx, BN, BH, hS.to [0, 1] (by kernel_rfl) ⟨rfl, rfl, rfl, rfl, rfl, trivial⟩, BZ, B0, B3, hM⟩
 ·intro a w hI
  obtain ⟨Bw, BC, BW, BL, hS, DD, DE, DF, hM⟩ := hI
  rw [qe.j2] at hM
  refine qu <| sM hS rfl fun hS => sM hS rfl fun hS => sM hS rfl fun hS => sM hS rfl fun hS => qO hS rfl Tryd.call99 (zT hG K BC BL Br Bq Bo Bp Bw BW DE DD (hS.st.part 2 [0, 1] (by kernel_rfl)) (qy hM) (fun BT B6 Dq w hM DS DT B7 hst => qM hS.ev hst.appF rfl fun hS => ?_))
  replace hS : Ss _ _ _ H [Bq, Dq] F _ _ := hS
  have DG := Eq.trans B7 DF
  replace hS := hS.re 0 (u := .slice Bo Bw.length Bp) (v := .slice Bo BT.length Bp) rfl (by rw [B7])
  replace hS := hS.re 23 (u := .slice Bo Bw.length Bp) (v := .slice Bo BT.length Bp) rfl (by rw [B7])
  refine qF <| z7 <| zd (fun BX a w => ∃ (BB : List (qY 2)) (By : (List qb)) (BO : qs) (Bn : Int), Ss 63 [] [(0, .slice Bo BB.length Bp), (1, .int .i64 Br), (2, xA 57 [] []), (6, .int .i64 Bn)] H [Bq, BO] F a w ∧ (zC 112 (qY.v (sz := 2)) 2 Bo BB Bp BO) ∧ (qZ (qf Bq) By BB) ∧ (BB.length = Bs.length) ∧ (qe.l3 K Br BX By Bn).wp kr kp) K ?_ ?_ ?_
  ·exact ⟨BT, B6, Dq, (20 : Int), hS.to [0, 1] (by kernel_rfl) ⟨rfl, rfl, rfl, rfl, trivial⟩, DS, DT, DG, hM⟩
  ·intro a w hI; obtain ⟨_, _, _, _, _, _, _, _, hM⟩ := hI; exact zc hM
  ·intro BX a w hI D2 B8
   obtain ⟨BB, By, BO, Bn, hS, B9, Da, Db, hM⟩ := hI
   rw [qe.l3] at hM
   refine wp_seq <| qu <| sM hS rfl fun hS => sM hS rfl fun hS => sB hS rfl fun hS => qF <| qC hS rfl hM (fun DH hM => ?_) (fun DH hM => ?_)
   ·refine wp_skip ?_
    refine qg <| z7 <| qu <| sM hS rfl fun hS => sB hS rfl fun hS => sA hS rfl fun hS => zr (v := Value.int .i64) (x0 := (qk ((2 : Int) * Bn))) hS (z8 rfl) rfl fun DI a w hz hS => ?_
    have hM := qA hz hM; clear hz
    refine qF <| qX (fun a w => ∃ (Bu : List (qY 2)) (Bz : (List qb)) (BP : qs) (BI : Int), Ss 63 [] [(0, .slice Bo Bu.length Bp), (1, .int .i64 Br), (2, xA 57 [] []), (6, .int .i64 Bn), (7, .int .i64 BI)] H [Bq, BP] F a w ∧ (zC 112 (qY.v (sz := 2)) 2 Bo Bu Bp BP) ∧ (qZ (qf Bq) Bz Bu) ∧ (Bu.length = Bs.length) ∧ (qe.j5 K (qe.l3 K Br BX) Br Bn Bz BI).wp kr kp) (fun D3 DJ => ?_) ?_
    ·refine z7 ?_
     refine zd (fun Dr a w => ∃ (Bv : List (qY 2)) (BA : (List qb)) (BQ : qs) (BE : Int) (BF : Int), Ss 63 [] [(0, .slice Bo Bv.length Bp), (1, .int .i64 Br), (2, xA 57 [] []), (6, .int .i64 Bn), (7, .int .i64 BE), (8, .int .i64 BF)] H [Bq, BQ] F a w ∧ (zC 112 (qY.v (sz := 2)) 2 Bo Bv Bp BQ) ∧ (qZ (qf Bq) BA Bv) ∧ (Bv.length = Bs.length) ∧ (qe.l4 K (qe.l3 K Br BX) Br Bn Dr BA BE BF).wp kr kp) K ?_ ?_ ?_
     ·exact ⟨BB, By, BO, (0 : Int), DI, hS.to [0, 1] (by kernel_rfl) ⟨rfl, rfl, rfl, rfl, rfl, rfl, trivial⟩, B9, Da, Db, hM⟩
     ·intro a w hI; obtain ⟨_, _, _, _, _, _, _, _, _, hM⟩ := hI; exact zc hM
     ·intro Dr a w hI D4 DK
      obtain ⟨Bv, BA, BQ, BE, BF, hS, Dc, De, Df, hM⟩ := hI
      rw [qe.l4] at hM
      refine wp_seq <| qu <| sM hS rfl fun hS => sM hS rfl fun hS => sB hS rfl fun hS => qF <| qC hS rfl hM (fun DL hM => ?_) (fun DL hM => ?_)
      ·refine wp_skip ?_
       refine qg <| z7 <| qu <| sM hS rfl fun hS => sM hS rfl fun hS => sM hS rfl fun hS => sM hS rfl fun hS => sB hS rfl fun hS => sM hS rfl fun hS => sM hS rfl fun hS => qO hS rfl Tryd.call100 (z3 hG K BA BE (qk (BE + Bn)) BF Bq Bo Bp Bv BQ De Dc (hS.st.part 2 [0, 1] (by kernel_rfl)) (qy hM) (fun BU Dg Dt w hM DU DV Dh hst => qM hS.ev hst.appF rfl fun hS => ?_))
       replace hS : Ss _ _ _ H [Bq, Dt] F _ _ := hS
       have DM := Eq.trans Dh Df
       replace hS := hS.re 0 (u := .slice Bo Bv.length Bp) (v := .slice Bo BU.length Bp) rfl (by rw [Dh])
       replace hS := hS.re 36 (u := .slice Bo Bv.length Bp) (v := .slice Bo BU.length Bp) rfl (by rw [Dh])
       refine qF <| qu <| sM hS rfl fun hS => sA hS rfl fun hS => qF <| zv <| sM hS rfl fun hS => sM hS rfl fun hS => sB hS rfl fun hS => sB hS rfl fun hS => zr (v := Value.int .i64) (x0 := (qk (BF + (qk ((2 : Int) * Bn))))) hS (z8 rfl) rfl fun DN a w hz hS => ?_
       have hM := qA hz hM; clear hz
       refine q9 <| zk (qg ?_)
       exact DK _ _ ⟨BU, Dg, Dt, BF, DN, hS.to [0, 1] (by kernel_rfl) ⟨rfl, rfl, rfl, rfl, rfl, rfl, trivial⟩, DU, DV, DM, hM⟩
      ·refine wp_exit ?_
       refine qx (qx (qV (qg ?_)))
       exact DJ _ _ ⟨Bv, BA, BQ, BE, hS.to [0, 1] (by kernel_rfl) ⟨rfl, rfl, rfl, rfl, rfl, trivial⟩, Dc, De, Df, hM⟩
    ·intro a w hI
     obtain ⟨Bu, Bz, BP, BI, hS, Di, Dj, Dk, hM⟩ := hI
     rw [qe.j5] at hM
     refine wp_seq <| qu <| sM hS rfl fun hS => sM hS rfl fun hS => sB hS rfl fun hS => zr (v := Value.int .i64) (x0 := (qk (BI + Bn))) hS (z8 rfl) rfl fun DW a w hz hS => ?_
     have hM := qA hz hM; clear hz
     refine qF <| qu <| sM hS rfl fun hS => sM hS rfl fun hS => sB hS rfl fun hS => qF <| qC hS rfl hM (fun DO hM => ?_) (fun DO hM => ?_)
     ·refine zv ?_
      refine sM hS rfl fun hS => sM hS rfl fun hS => sM hS rfl fun hS => sM hS rfl fun hS => sM hS rfl fun hS => qO hS rfl Tryd.call100 (z3 hG K Bz BI DW Br Bq Bo Bp Bu BP Dj Di (hS.st.part 2 [0, 1] (by kernel_rfl)) (qy hM) (fun BV Dl Du w hM DX DY Dm hst => qM hS.ev hst.appF rfl fun hS => ?_))
      replace hS : Ss _ _ _ H [Bq, Du] F _ _ := hS
      have DP := Eq.trans Dm Dk
      replace hS := hS.re 0 (u := .slice Bo Bu.length Bp) (v := .slice Bo BV.length Bp) rfl (by rw [Dm])
      replace hS := hS.re 55 (u := .slice Bo Bu.length Bp) (v := .slice Bo BV.length Bp) rfl (by rw [Dm])
      refine qF <| zv <| sM hS rfl fun hS => sB hS rfl fun hS => zr (v := Value.int .i64) (x0 := (qk (Bn * (2 : Int)))) hS (z8 rfl) rfl fun BJ a w hz hS => ?_
      have hM := qA hz hM; clear hz
      refine q9 <| zk (qg ?_)
      exact B8 _ _ ⟨BV, Dl, Du, BJ, hS.to [0, 1] (by kernel_rfl) ⟨rfl, rfl, rfl, rfl, trivial⟩, DX, DY, DP, hM⟩
     ·refine wp_skip ?_
      refine qg <| zv <| sM hS rfl fun hS => sB hS rfl fun hS => zr (v := Value.int .i64) (x0 := (qk (Bn * (2 : Int)))) hS (z8 rfl) rfl fun BK a w hz hS => ?_
      have hM := qA hz hM; clear hz
      refine q9 <| zk (qg ?_)
      exact B8 _ _ ⟨Bu, Bz, BP, BK, hS.to [0, 1] (by kernel_rfl) ⟨rfl, rfl, rfl, rfl, trivial⟩, Di, Dj, Dk, hM⟩
   ·refine wp_exit ?_
    refine qx (qx (qV ?_))
    exact yj (rs := []) hS rfl rfl (hret BB By BO _ (zj hM) B9 Da Db (hS.st.pick [0, 1] (by kernel_rfl)))
theorem xf {H : xl} {F : List qs} {w : World} {R : Ending → World → Prop} {kr : (List qb) → Prop} {kp : Value → Prop} (hG : Gl H) (K : Nat) (Bs : List qb) (Bq : qs) (Bo : Option Addr) (Bp : Nat) (Bn : List (qY 2)) (Bv : qs) (Bw : qZ (qf Bq) Bs Bn) (BB : zC 112 (qY.v (sz := 2)) 2 Bo Bn Bp Bv)
    (hS : St w H [Bq, Bv] F) (hm : (qT.m K Bs).wp kr kp)
    (hret : ∀ (Bt : List (qY 2)) (By : (List qb)) (Bz : qs) (w : World), kr By → (zC 112 (qY.v (sz := 2)) 2 Bo Bt Bp Bz) → (qZ (qf Bq) By Bt) → (Bt.length = Bn.length) → St w H [Bq, Bz] F → R (.returned (.tuple ⟨[]⟩)) w) :
    Calls Tryd.prog 56 ⟨[.slice Bo Bn.length Bp, xA 57 [] []]⟩ w R := by
 refine enter Tryd.func56 rfl Tryd.ntmps56 rfl hS fun a w hS => ?_
 have hM := hm; clear hm
 rw [qT.m] at hM
 have BG : ∀ q ∈ Bq, q ∈ Bq := fun _ h => h
 have BC : Bn.length = Bn.length := rfl
 refine zv <| sM hS rfl fun hS => sM hS rfl fun hS => sO hS (qR (v' := .int .i64 (Bs.length : Int)) (xI rfl Tryd.runUnderlying110) (by rw [Bw.len])) rfl fun hS => sM hS rfl fun hS => qO hS rfl Tryd.call81 (xK hG K Bs (Bs.length : Int) Bq Bo Bp Bn Bv Bw BB (hS.st.part 2 [0, 1] (by kernel_rfl)) (qy hM) (fun Br Bx BA w hM BE BF Bu hst => qM hS.ev hst.appF rfl fun hS => ?_))
 replace hS : Ss _ _ _ H [Bq, BA] F _ _ := hS
 have BD := Eq.trans Bu BC
 replace hS := hS.re 0 (u := .slice Bo Bn.length Bp) (v := .slice Bo Br.length Bp) rfl (by rw [Bu])
 replace hS := hS.re 4 (u := .slice Bo Bn.length Bp) (v := .slice Bo Br.length Bp) rfl (by rw [Bu])
 replace hS := hS.re 5 (u := .slice Bo Bn.length Bp) (v := .slice Bo Br.length Bp) rfl (by rw [Bu])
 refine q9 ?_
 exact yj (rs := []) hS rfl rfl (hret Br Bx BA _ (zj hM) BE BF BD (hS.st.pick [0, 1] (by kernel_rfl)))
def yZ (p : qs) (x : (List Int)) (vs : List Value) : Prop :=
  ∃ (A0 : Option Addr) (c0 : Nat), vs = [.slice A0 x.length c0] ∧ Pl p (ci .i64) A0 x ∧ x.length ≤ c0
theorem yZ.mono {p p' : qs} (hs : ∀ q ∈ p, q ∈ p') {x : (List Int)} {vs : List Value} (h : yZ p x vs) : yZ p' x vs := by
  obtain ⟨A0, c0, h0, h1, h2⟩ := h
  exact ⟨A0, c0, h0, h1.mono hs, h2⟩
theorem yO {H : xl} {F : List qs} {w : World} {R : Ending → World → Prop} {kr : Unit → Prop} {kp : Value → Prop} (hG : Gl H) (K : Nat) (Bn : Int)
    (hS : St w H [] F) (hm : (zS.m K Bn).wp kr kp)
    (hret : ∀ (Bo : Option Addr) (Bp : Nat) (Bq : qs) (w : World), kr () → (zC 3 (ci .i64) 1 Bo ([] : List Int) Bp Bq) → St w H [Bq] F → R (.returned (.slice Bo ([] : List Int).length Bp)) w)
    (hpan : ∀ v w, kp v → St w H [] F → R (.panicked [⟨v, false, false⟩]) w) :
    Calls Tryd.prog 102 ⟨[.slice none 0 0, .int .i64 Bn]⟩ w R := by
 refine enter Tryd.func102 rfl Tryd.ntmps102 rfl hS fun a w hS => ?_
 have hM := hm; clear hm
 rw [zS.m] at hM
 refine qu <| sA hS rfl fun hS => ?_
 obtain ⟨BE, BC, hS⟩ := hS.nilV 3 (ci .i64) 1
 refine qF <| wp_seq <| qu <| sM hS rfl fun hS => sB hS rfl fun hS => qF <| qC hS rfl hM (fun Br hM => ?_) (fun Br hM => ?_)
 ·refine zv ?_
  refine sO hS (Kd rfl Tryd.runUnderlying9 rfl) rfl fun hS => uR hS rfl <| zx ?_
  exact ⟨hS.ev.defs, hpan _ _ (Zr hM) hS.st.frame⟩
 ·refine wp_skip ?_
  refine qg <| wp_seq <| qu <| sM hS rfl fun hS => sM hS rfl fun hS => sO hS (VU rfl Tryd.runUnderlying45) rfl fun hS => sM hS rfl fun hS => sO hS (xI rfl Tryd.runUnderlying45) rfl fun hS => sB hS rfl fun hS => sB hS rfl fun hS => zr (v := Value.int .i64) (x0 := (qk (Bn - (qk ((0 : Int) - (0 : Int)))))) hS (z8 rfl) rfl fun BD a w hz hS => ?_
  have hM := qA hz hM; clear hz
  refine qF <| qu <| sM hS rfl fun hS => sB hS rfl fun hS => qF <| qC hS rfl hM (fun Bs hM => ?_) (fun Bs hM => ?_)
  ·refine zv ?_
   refine sM hS rfl fun hS => sM hS rfl fun hS => sO hS (VU rfl Tryd.runUnderlying45) rfl fun hS => sO hS (Kz rfl Tryd.runUnderlying45 Tryd.sizeOf3 (UA rfl)) rfl fun hS => sM hS rfl fun hS => ?_
   obtain ⟨Bt, hM⟩ := qB hM
   refine KA (g := (ci .i64)) hS rfl rfl Tryd.runUnderlying45 Tryd.runUnderlying3 X.el3 rfl rfl Bt rfl fun w By Bz BA Bu Bv Bw hS => sM hS rfl fun hS => sO hS (xI rfl Tryd.runUnderlying45) rfl fun hS => sO hS (Kx rfl Tryd.runUnderlying45 Tryd.sizeOf3 (fun _ => UA rfl) Bv Bw) rfl fun hS => sA hS rfl fun hS => qF <| qu <| sM hS rfl fun hS => sA hS rfl fun hS => qF <| wp_ret ?_
   exact zJ (rs := [4]) hS rfl rfl (hret By Bz BA _ (zj hM) Bu (hS.st.pick [0] (by kernel_rfl)))
  ·refine wp_skip ?_
   refine qg <| qu <| sM hS rfl fun hS => sA hS rfl fun hS => ?_
   obtain ⟨BB, Bx, hS⟩ := hS.nilV 3 (ci .i64) 1
   refine qF <| wp_ret ?_
   exact zJ (rs := [4]) hS rfl rfl (hret none (0) BB _ (zj hM) Bx (hS.st.pick [0] (by kernel_rfl)))
theorem jk {H : xl} {F : List qs} {w : World} {R : Ending → World → Prop} {kr : (List Int) → Prop} {kp : Value → Prop} (hG : Gl H) (K : Nat) (Bn : List (List Int)) (Bs : qs) (Bu : Option Addr) (Bv : Nat) (Bp : List (qY 1)) (Bq : qZ (yZ Bs) Bn Bp) (By : Pl Bs (qY.v (sz := 1)) Bu Bp) (B7 : Bp.length ≤ Bv)
    (hS : St w H [Bs] F) (hm : (qH.m K Bn).wp kr kp)
    (hret : ∀ (BH : Option Addr) (BI : Nat) (BE : (List Int)) (BJ : qs) (w : World), kr BE → (zC 3 (ci .i64) 1 BH BE BI BJ) → St w H [Bs, BJ] F → R (.returned (.slice BH BE.length BI)) w)
    (hpan : ∀ v w, kp v → St w H [] F → R (.panicked [⟨v, false, false⟩]) w) :
    Calls Tryd.prog 85 ⟨[.slice Bu Bp.length Bv]⟩ w R := by
 refine enter Tryd.func85 rfl Tryd.ntmps85 rfl hS fun a w hS => ?_
 have hM := hm; clear hm
 rw [qH.m] at hM
 have B8 : ∀ q ∈ Bs, q ∈ Bs := fun _ h => h
 refine qu <| sA hS rfl fun hS => ?_
 obtain ⟨De, B9, hS⟩ := hS.nilV 3 (ci .i64) 1
 refine qF <| qu <| sA hS rfl fun hS => qF <| qX (fun a w => ∃ (Bt : Int), Ss 36 [] [(0, .slice Bu Bp.length Bv), (3, .int .i64 Bt)] H [Bs] F a w ∧ (qH.j2 K Bn Bt).wp kr kp) (fun Df BN => ?_) ?_
 ·refine wp_seq ?_
  refine zv <| sM hS rfl fun hS => sO hS (qR (v' := .int .i64 (Bn.length : Int)) (xI rfl Tryd.runUnderlying167) (by rw [Bq.len])) rfl fun hS => sM hS rfl fun hS => qF <| z7 <| zd (fun BK a w => ∃ (Br : Int) (Bw : Int), Ss 36 [] [(0, .slice Bu Bp.length Bv), (3, .int .i64 Br), (9, .slice Bu Bp.length Bv), (10, .int .i64 (Bn.length : Int)), (11, .int .i64 Bw)] H [Bs] F a w ∧ (qH.l1 K Bn BK Br Bw).wp kr kp) K ?_ ?_ ?_
  ·exact ⟨(0 : Int), (0 : Int), hS.to [1] (by kernel_rfl) ⟨rfl, rfl, rfl, rfl, rfl, trivial⟩, hM⟩
  ·intro a w hI; obtain ⟨_, _, _, hM⟩ := hI; exact zc hM
  ·intro BK a w hI Dg BO
   obtain ⟨Br, Bw, hS, hM⟩ := hI
   rw [qH.l1] at hM
   refine qu <| sB hS rfl fun hS => qF <| wp_seq <| qC hS rfl hM (fun BP hM => ?_) (fun BP hM => ?_)
   ·refine wp_skip ?_
    refine qg <| wp_seq <| z7 <| wp_seq <| zv ?_
    obtain ⟨Bz, hM⟩ := qB hM
    refine sO hS (xd rfl rfl Tryd.runUnderlying167 Tryd.sizeOf45 (By.rd (i := 0) rfl) qY.len rfl (Bq.inb Bz)) rfl fun hS => ?_
    obtain ⟨Dh, Di, BQ, Da, Db⟩ := Bq.get Bz
    refine sO hS (x3 rfl (By.rd (i := 0) rfl) qY.len (Bq.inb Bz) (by rw [show qY.v (rd Bp Bw) = _ from BQ]; rfl) Tryd.isAgg45) rfl fun hS => sA hS rfl fun hS => qF <| qu <| sM hS rfl fun hS => sM hS rfl fun hS => sO hS (xI rfl Tryd.runUnderlying45) rfl fun hS => sB hS rfl fun hS => zr (v := Value.int .i64) (x0 := (qk (Br + ((rd Bn Bw).length : Int)))) hS (z8 rfl) rfl fun BF a w hz hS => ?_
    have hM := qA hz hM; clear hz
    refine qF <| qu <| sM hS rfl fun hS => sB hS rfl fun hS => qF <| qC hS rfl hM (fun BR hM => ?_) (fun BR hM => ?_)
    ·refine zv ?_
     refine sO hS (Kd rfl Tryd.runUnderlying9 rfl) rfl fun hS => uR hS rfl <| yJ (zx (zx (yJ (zx ?_))))
     exact ⟨hS.ev.defs, hpan _ _ (Zr hM) hS.st.frame⟩
    ·refine wp_skip ?_
     refine zk (qg ?_)
     refine zv <| sB hS rfl fun hS => sM hS rfl fun hS => q9 <| qg ?_
     exact BO _ _ ⟨BF, (qk (Bw + (1 : Int))), hS.to [0] (by kernel_rfl) ⟨rfl, rfl, rfl, rfl, rfl, trivial⟩, hM⟩
   ·refine wp_exit ?_
    refine qx (qx (qV (qg ?_)))
    exact BN _ _ ⟨Br, hS.to [0] (by kernel_rfl) ⟨rfl, rfl, trivial⟩, hM⟩
 ·intro a w hI
  obtain ⟨Bt, hS, hM⟩ := hI
  rw [qH.j2] at hM
  refine qu <| sM hS rfl fun hS => qO hS rfl Tryd.call102 (yO hG K Bt (hS.st.part 0 [0] (by kernel_rfl)) (qy hM) (fun BZ B0 BL w hM B3 hst => qM hS.ev hst.appF rfl fun hS => ?_) (fun v w hk hst => yw (zx (⟨hS.ev.defs, hpan _ _ hk hst.appF.frame⟩))))
  replace hS : Ss _ _ _ H [BL, Bs] F _ _ := hS
  refine sA hS rfl fun hS => qF <| wp_seq <| qu <| sM hS rfl fun hS => sO hS (qR (v' := .int .i64 (Bn.length : Int)) (xI rfl Tryd.runUnderlying167) (by rw [Bq.len])) rfl fun hS => sM hS rfl fun hS => qF <| z7 <| zd (fun BM a w => ∃ (BB : Option Addr) (BC : Nat) (Bo : (List Int)) (BD : qs) (Bx : Int), Ss 36 [] [(6, .slice BB Bo.length BC), (25, .slice Bu Bp.length Bv), (26, .int .i64 (Bn.length : Int)), (27, .int .i64 Bx)] H [Bs, BD] F a w ∧ (zC 3 (ci .i64) 1 BB Bo BC BD) ∧ (qH.l3 K Bn BM Bo Bx).wp kr kp) K ?_ ?_ ?_
  ·exact ⟨BZ, B0, ([] : List Int), BL, (0 : Int), hS.to [1, 0] (by kernel_rfl) ⟨rfl, rfl, rfl, rfl, trivial⟩, B3, hM⟩
  ·intro a w hI; obtain ⟨_, _, _, _, _, _, _, hM⟩ := hI; exact zc hM
  ·intro BM a w hI Dj BS
   obtain ⟨BB, BC, Bo, BD, Bx, hS, BG, hM⟩ := hI
   rw [qH.l3] at hM
   refine qu <| sB hS rfl fun hS => qF <| wp_seq <| qC hS rfl hM (fun BT hM => ?_) (fun BT hM => ?_)
   ·refine wp_skip ?_
    refine qg <| wp_seq <| z7 <| wp_seq <| zv ?_
    obtain ⟨BA, hM⟩ := qB hM
    refine sO hS (xd rfl rfl Tryd.runUnderlying167 Tryd.sizeOf45 (By.rd (i := 0) rfl) qY.len rfl (Bq.inb BA)) rfl fun hS => ?_
    obtain ⟨Dk, Dl, BU, BV, Dc⟩ := Bq.get BA
    refine sO hS (x3 rfl (By.rd (i := 0) rfl) qY.len (Bq.inb BA) (by rw [show qY.v (rd Bp Bx) = _ from BU]; rfl) Tryd.isAgg45) rfl fun hS => sA hS rfl fun hS => qF <| zv <| sM hS rfl fun hS => sM hS rfl fun hS => ?_
    obtain ⟨BW, hM⟩ := qB hM
    refine Yp (ys := (rd Bn Bx)) 1 hS rfl rfl BG rfl (BV.rd (i := 0) rfl) Tryd.runUnderlying45 Tryd.runUnderlying45 X.el3 (fun _ => rfl) rfl xb BW rfl fun BX w B4 B5 B6 hz BY hS => ?_
    have hM := qA hz hM; clear hz
    refine sA hS rfl fun hS => q9 <| zk (qg ?_)
    refine zv <| sB hS rfl fun hS => sM hS rfl fun hS => q9 <| qg ?_
    exact BS _ _ ⟨B4, B5, BX, B6, (qk (Bx + (1 : Int))), hS.to [0, 1] (by kernel_rfl) ⟨rfl, rfl, rfl, rfl, trivial⟩, BY, hM⟩
   ·refine wp_exit ?_
    refine qx (qx (qV (qg ?_)))
    refine qu <| sM hS rfl fun hS => sA hS rfl fun hS => qF <| wp_ret ?_
    exact zJ (rs := [2]) hS rfl rfl (hret BB BC Bo BD _ (zj hM) BG (hS.st.pick [0, 1] (by kernel_rfl)))
theorem Zv {H : xl} {F : List qs} {w : World} {R : Ending → World → Prop} {kr : (List qb) → Prop} {kp : Value → Prop} (hG : Gl H) (K : Nat) (Bo : List qb) (BC : qs) (Bp : Option Addr) (Bt : Nat) (Bq : List (qY 2)) (Dk : qZ (qf BC) Bo Bq) (Dl : Pl BC (qY.v (sz := 2)) Bp Bq) (Dm : Bq.length ≤ Bt)
    (hS : St w H [BC] F) (hm : (z9.m K Bo).wp kr kp)
    (hret : ∀ (B4 : qs) (Dc : Option Addr) (De : Nat) (BW : List (qY 2)) (Df : (List qb)) (Dg : qs) (w : World), kr Df → (∀ q ∈ BC, q ∈ B4) → (zC 112 (qY.v (sz := 2)) 2 Dc BW De Dg) → (qZ (qf B4) Df BW) → St w H [B4, Dg] F → R (.returned (.slice Dc BW.length De)) w)
    (hpan : ∀ v w, kp v → St w H [] F → R (.panicked [⟨v, false, false⟩]) w) :
    Calls Tryd.prog 60 ⟨[.slice Bp Bq.length Bt]⟩ w R := by
 refine enter Tryd.func60 rfl Tryd.ntmps60 rfl hS fun a w hS => ?_
 have hM := hm; clear hm
 rw [z9.m] at hM
 have Dn : ∀ q ∈ BC, q ∈ BC := fun _ h => h
 refine qu <| sA hS rfl fun hS => ?_
 obtain ⟨DR, DL, hS⟩ := hS.nilV 112 (qY.v (sz := 2)) 2
 have DM : qZ (qf BC) ([] : List qb) ([] : List (qY 2)) := qZ.nil
 refine qF <| qu <| sA hS rfl fun hS => ?_
 obtain ⟨DH, Do, hS⟩ := hS.nilV 112 (qY.v (sz := 2)) 2
 have Dp : qZ (qf BC) ([] : List qb) ([] : List (qY 2)) := qZ.nil
 refine qF <| wp_seq <| qu <| sA hS rfl fun hS => qF <| z7 <| zd (fun Dh a w => ∃ (BD : qs) (BE : Option Addr) (BF : Nat) (Bw : List (qY 2)) (BI : (List qb)) (BV : qs) (Bn : Int), Ss 42 [] [(0, .slice Bp Bq.length Bt), (3, .slice BE Bw.length BF), (4, .int .i64 Bn)] H [BD, BV] F a w ∧ (∀ q ∈ BC, q ∈ BD) ∧ (qZ (qf BD) Bo Bq) ∧ (Pl BD (qY.v (sz := 2)) Bp Bq) ∧ (Bq.length ≤ Bt) ∧ (zC 112 (qY.v (sz := 2)) 2 BE Bw BF BV) ∧ (qZ (qf BD) BI Bw) ∧ (z9.l1 K Bo Dh BI Bn).wp kr kp) K ?_ ?_ ?_
 ·exact ⟨BC, none, 0, ([] : List (qY 2)), ([] : List qb), DH, (0 : Int), hS.to [2, 0] (by kernel_rfl) ⟨rfl, rfl, rfl, trivial⟩, Dn, Dk, Dl, Dm, Do, Dp, hM⟩
 ·intro a w hI; obtain ⟨_, _, _, _, _, _, _, _, _, _, _, _, _, _, hM⟩ := hI; exact zc hM
 ·intro Dh a w hI DS Dq
  obtain ⟨BD, BE, BF, Bw, BI, BV, Bn, hS, BN, Br, Bs, Dr, B5, BG, hM⟩ := hI
  rw [z9.l1] at hM
  refine wp_seq <| qu <| sM hS rfl fun hS => sB hS rfl fun hS => sM hS rfl fun hS => sO hS (qR (v' := .int .i64 (Bo.length : Int)) (xI rfl Tryd.runUnderlying110) (by rw [Br.len])) rfl fun hS => sB hS rfl fun hS => qF <| qC hS rfl hM (fun Dt hM => ?_) (fun Dt hM => ?_)
  ·refine wp_skip ?_
   refine qg <| wp_seq <| z7 ?_
   obtain ⟨Bu, hM⟩ := qB hM
   obtain ⟨DT, DU, BX, DN, DO⟩ := Br.get Bu
   obtain ⟨Bv, hM⟩ := qB hM
   obtain ⟨DV, DW, BY, DP, DQ⟩ := Br.get Bv
   obtain ⟨BJ, BK, Du, BP, Dv⟩ := Br.get Bu
   obtain ⟨BL, BM, Dw, BQ, Dx⟩ := Br.get Bv
   refine q8 (vals := [some (.slice BE Bw.length BF), some (.slice Bp Bq.length Bt), some (.int .i64 Bn), some (zA Bp (Int.toNat Bn * 2)), some (zA Bp (Int.toNat Bn * 2 + 0)), some (.int .i64 ((rd Bo Bn).often_)), some (.slice Bp Bq.length Bt), some (.int .i64 Bn), some (.int .i64 (qk (Bn + (1 : Int)))), some (zA Bp (Int.toNat (qk (Bn + (1 : Int))) * 2)), some (zA Bp (Int.toNat (qk (Bn + (1 : Int))) * 2 + 0)), some (.int .i64 ((rd Bo (qk (Bn + (1 : Int)))).often_)), some (.int .i64 (qk ((rd Bo Bn).often_ + (rd Bo (qk (Bn + (1 : Int)))).often_))), some (.slice Bp Bq.length Bt), some (.int .i64 Bn), some (zA Bp (Int.toNat Bn * 2)), some (zA Bp (Int.toNat Bn * 2 + 1)), some (.slice BJ ((rd Bo Bn).symbols_).length BK), some (.slice Bp Bq.length Bt), some (.int .i64 Bn), some (.int .i64 (qk (Bn + (1 : Int)))), some (zA Bp (Int.toNat (qk (Bn + (1 : Int))) * 2)), some (zA Bp (Int.toNat (qk (Bn + (1 : Int))) * 2 + 1)), some (.slice BL ((rd Bo (qk (Bn + (1 : Int)))).symbols_).length BM), none, none, none, none, none, none]) hS z6 rfl ?_
   intro l w ho hcl hA hst
   refine yx hA hst ho hcl zX z5 24 [0, 1, 2, 3, 4, 5, 6, 7, 8, 9, 10, 11, 12, 13, 14, 15, 16, 17, 18, 19, 20, 21, 22, 23] rfl rfl rfl rfl rfl (by exact ⟨nM rfl, nM rfl, nM rfl, nQ rfl (by exact qR (xd rfl rfl Tryd.runUnderlying110 Tryd.sizeOf112 (Bs.rd (i := 0) rfl) qY.len rfl (Br.inb Bu)) rfl), nQ rfl (by exact qR (ZK rfl (Bs.rd (i := 0) rfl) qY.len rfl (Br.inb Bu) Tryd.runUnderlying112 rfl Tryd.sizeOf3 rfl) rfl), nQ rfl (by exact qR (Vf 0 rfl (Bs.rd (i := 0) rfl) qY.len (Br.inb Bu) (by rw [show qY.v (rd Bq Bn) = _ from BX]; rfl) Tryd.isAgg3) rfl), nM rfl, nM rfl, nB rfl, nQ rfl (by exact qR (xd rfl rfl Tryd.runUnderlying110 Tryd.sizeOf112 (Bs.rd (i := 0) rfl) qY.len rfl (Br.inb Bv)) rfl), nQ rfl (by exact qR (ZK rfl (Bs.rd (i := 0) rfl) qY.len rfl (Br.inb Bv) Tryd.runUnderlying112 rfl Tryd.sizeOf3 rfl) rfl), nQ rfl (by exact qR (Vf 0 rfl (Bs.rd (i := 0) rfl) qY.len (Br.inb Bv) (by rw [show qY.v (rd Bq (qk (Bn + (1 : Int)))) = _ from BY]; rfl) Tryd.isAgg3) rfl), nB rfl, nM rfl, nM rfl, nQ rfl (by exact qR (xd rfl rfl Tryd.runUnderlying110 Tryd.sizeOf112 (Bs.rd (i := 0) rfl) qY.len rfl (Br.inb Bu)) rfl), nQ rfl (by exact qR (ZK rfl (Bs.rd (i := 0) rfl) qY.len rfl (Br.inb Bu) Tryd.runUnderlying112 rfl Tryd.sizeOf45 rfl) rfl), nQ rfl (by exact qR (Vf 1 rfl (Bs.rd (i := 0) rfl) qY.len (Br.inb Bu) (by rw [show qY.v (rd Bq Bn) = _ from Du]; rfl) Tryd.isAgg45) rfl), nM rfl, nM rfl, nB rfl, nQ rfl (by exact qR (xd rfl rfl Tryd.runUnderlying110 Tryd.sizeOf112 (Bs.rd (i := 0) rfl) qY.len rfl (Br.inb Bv)) rfl), nQ rfl (by exact qR (ZK rfl (Bs.rd (i := 0) rfl) qY.len rfl (Br.inb Bv) Tryd.runUnderlying112 rfl Tryd.sizeOf45 rfl) rfl), nQ rfl (by exact qR (Vf 1 rfl (Bs.rd (i := 0) rfl) qY.len (Br.inb Bv) (by rw [show qY.v (rd Bq (qk (Bn + (1 : Int)))) = _ from Dw]; rfl) Tryd.isAgg45) rfl), trivial⟩) fun D l a w ho hcl hav hpre hm hE hk hA hst => ?_
   have hS := (Ss.mk hE hst).env2 (e' := [(29, .slice BJ ((rd Bo Bn).symbols_).length BK), (35, .slice BL ((rd Bo (qk (Bn + (1 : Int)))).symbols_).length BM)]) ⟨rfl, rfl, trivial⟩
   refine qP rfl ?_
   obtain ⟨By, hrw⟩ : ∃ r, r = ([(⟨[.slice BJ ((rd Bo Bn).symbols_).length BK], by simp, by simp [Value.oneCell']⟩ : qY 1), (⟨[.slice BL ((rd Bo (qk (Bn + (1 : Int)))).symbols_).length BM], by simp, by simp [Value.oneCell']⟩ : qY 1)] : List (qY 1)) := ⟨_, rfl⟩
   have BR : qZ (yZ BD) ([(rd Bo Bn).symbols_, (rd Bo (qk (Bn + (1 : Int)))).symbols_] : List (List Int)) By := by rw [hrw]; exact (qZ.cons (show yZ BD _ _ from ⟨BJ, BK, rfl, BP, Dv⟩) (qZ.cons (show yZ BD _ _ from ⟨BL, BM, rfl, BQ, Dx⟩) qZ.nil))
   refine XE (g := (qY.v (sz := 1))) By [.slice BJ ((rd Bo Bn).symbols_).length BK, .slice BL ((rd Bo (qk (Bn + (1 : Int)))).symbols_).length BM] hS Tryd.runUnderlying167 Tryd.sizeOf45 X.el45 rfl rfl rfl (by simp [Value.cells]) (by rw [hrw]; rfl) (by rw [hrw]; rfl) rfl rfl rfl fun w BS BT DX B6 hS => ?_
   clear hrw
   refine qF ?_
   replace hst := hS.st
   obtain ⟨hcl, hmust, hav2, hA⟩ := dn (vals' := [some (.slice BE Bw.length BF), some (.slice Bp Bq.length Bt), some (.int .i64 Bn), some (zA Bp (Int.toNat Bn * 2)), some (zA Bp (Int.toNat Bn * 2 + 0)), some (.int .i64 ((rd Bo Bn).often_)), some (.slice Bp Bq.length Bt), some (.int .i64 Bn), some (.int .i64 (qk (Bn + (1 : Int)))), some (zA Bp (Int.toNat (qk (Bn + (1 : Int))) * 2)), some (zA Bp (Int.toNat (qk (Bn + (1 : Int))) * 2 + 0)), some (.int .i64 ((rd Bo (qk (Bn + (1 : Int)))).often_)), some (.int .i64 (qk ((rd Bo Bn).often_ + (rd Bo (qk (Bn + (1 : Int)))).often_))), some (.slice Bp Bq.length Bt), some (.int .i64 Bn), some (zA Bp (Int.toNat Bn * 2)), some (zA Bp (Int.toNat Bn * 2 + 1)), some (.slice BJ ((rd Bo Bn).symbols_).length BK), some (.slice Bp Bq.length Bt), some (.int .i64 Bn), some (.int .i64 (qk (Bn + (1 : Int)))), some (zA Bp (Int.toNat (qk (Bn + (1 : Int))) * 2)), some (zA Bp (Int.toNat (qk (Bn + (1 : Int))) * 2 + 1)), some (.slice BL ((rd Bo (qk (Bn + (1 : Int)))).symbols_).length BM), some (.slice BS By.length BT), none, none, none, none, none]) 24 [(17, 24), (23, 24), (16, 17), (22, 23), (15, 16), (21, 22), (13, 15), (14, 15), (18, 21), (20, 21), (19, 20)] hA hcl hav hm hpre hk rfl rfl rfl rfl rfl rfl rfl
   clear hm hav
   refine yx hA hst ho hcl hav2 hmust 25 [0, 1, 2, 3, 4, 5, 6, 7, 8, 9, 10, 11, 12] rfl rfl rfl rfl rfl (by exact ⟨nM rfl, nM rfl, nM rfl, nQ rfl (by exact qR (xd rfl rfl Tryd.runUnderlying110 Tryd.sizeOf112 (Bs.rd (i := 1) rfl) qY.len rfl (Br.inb Bu)) rfl), nQ rfl (by exact qR (ZK rfl (Bs.rd (i := 1) rfl) qY.len rfl (Br.inb Bu) Tryd.runUnderlying112 rfl Tryd.sizeOf3 rfl) rfl), nQ rfl (by exact qR (Vf 0 rfl (Bs.rd (i := 1) rfl) qY.len (Br.inb Bu) (by rw [show qY.v (rd Bq Bn) = _ from BX]; rfl) Tryd.isAgg3) rfl), nM rfl, nM rfl, nB rfl, nQ rfl (by exact qR (xd rfl rfl Tryd.runUnderlying110 Tryd.sizeOf112 (Bs.rd (i := 1) rfl) qY.len rfl (Br.inb Bv)) rfl), nQ rfl (by exact qR (ZK rfl (Bs.rd (i := 1) rfl) qY.len rfl (Br.inb Bv) Tryd.runUnderlying112 rfl Tryd.sizeOf3 rfl) rfl), nQ rfl (by exact qR (Vf 0 rfl (Bs.rd (i := 1) rfl) qY.len (Br.inb Bv) (by rw [show qY.v (rd Bq (qk (Bn + (1 : Int)))) = _ from BY]; rfl) Tryd.isAgg3) rfl), nB rfl, trivial⟩) fun D l a w ho hcl hav hpre hm hE hk hA hst => ?_
   have hS := (Ss.mk hE hst).env2 (e' := [(36, .slice BS By.length BT)]) ⟨rfl, trivial⟩
   refine qP rfl ?_
   replace hS := hS.front [0, 1, 2] (by kernel_rfl)
   obtain ⟨Di, Dy, BH, hS⟩ := hS.poolF
   have Dz := B6.cap qY.len rfl
   have BZ := B6.pl.mono Dy
   replace Bs := Bs.mono BH
   replace BP := BP.mono BH
   replace BQ := BQ.mono BH
   replace Br := qZ.mono (fun _ _ h => qf.mono BH h) Br
   replace BG := qZ.mono (fun _ _ h => qf.mono BH h) BG
   replace BR := qZ.mono (fun _ _ h => yZ.mono BH h) BR
   replace BN := fun q h => BH q (BN q h)
   refine qO hS rfl Tryd.call85 (jk hG K ([(rd Bo Bn).symbols_, (rd Bo (qk (Bn + (1 : Int)))).symbols_] : List (List Int)) Di BS BT By BR BZ Dz (hS.st.part 1 [0, 1] (by kernel_rfl)) (qy hM) (fun Bz BA Bx DI w hM Dj hst => qM hS.ev hst.appF rfl fun hS => ?_) (fun v w hk hst => yw (zx (yJ (zx (zx (yJ (zx (⟨hS.ev.defs, hpan _ _ hk hst.appF.frame⟩)))))))))
   replace hS : Ss _ _ _ H [Di, DI, BV] F _ _ := hS
   refine qF ?_
   replace hst := hS.st
   obtain ⟨hcl, hmust, hav2, hA⟩ := dn (vals' := [some (.slice BE Bw.length BF), some (.slice Bp Bq.length Bt), some (.int .i64 Bn), some (zA Bp (Int.toNat Bn * 2)), some (zA Bp (Int.toNat Bn * 2 + 0)), some (.int .i64 ((rd Bo Bn).often_)), some (.slice Bp Bq.length Bt), some (.int .i64 Bn), some (.int .i64 (qk (Bn + (1 : Int)))), some (zA Bp (Int.toNat (qk (Bn + (1 : Int))) * 2)), some (zA Bp (Int.toNat (qk (Bn + (1 : Int))) * 2 + 0)), some (.int .i64 ((rd Bo (qk (Bn + (1 : Int)))).often_)), some (.int .i64 (qk ((rd Bo Bn).often_ + (rd Bo (qk (Bn + (1 : Int)))).often_))), some (.slice Bp Bq.length Bt), some (.int .i64 Bn), some (zA Bp (Int.toNat Bn * 2)), some (zA Bp (Int.toNat Bn * 2 + 1)), some (.slice BJ ((rd Bo Bn).symbols_).length BK), some (.slice Bp Bq.length Bt), some (.int .i64 Bn), some (.int .i64 (qk (Bn + (1 : Int)))), some (zA Bp (Int.toNat (qk (Bn + (1 : Int))) * 2)), some (zA Bp (Int.toNat (qk (Bn + (1 : Int))) * 2 + 1)), some (.slice BL ((rd Bo (qk (Bn + (1 : Int)))).symbols_).length BM), some (.slice BS By.length BT), some (.slice Bz Bx.length BA), some (.agg ⟨[.int .i64 (qk ((rd Bo Bn).often_ + (rd Bo (qk (Bn + (1 : Int)))).often_)), .slice Bz Bx.length BA]⟩), none, none, none]) 25 [(24, 25), (17, 24), (23, 24), (16, 17), (22, 23), (15, 16), (21, 22), (13, 15), (14, 15), (18, 21), (20, 21), (19, 20)] hA hcl hav hm hpre hk rfl rfl rfl rfl rfl rfl rfl
   clear hm hav
   refine yx hA hst ho hcl hav2 hmust 27 [0, 1, 2, 3, 4, 5, 6, 7, 8, 9, 10, 11, 12, 26] rfl rfl rfl rfl rfl (by exact ⟨nM rfl, nM rfl, nM rfl, nQ rfl (by exact qR (xd rfl rfl Tryd.runUnderlying110 Tryd.sizeOf112 (Bs.rd (i := 0) rfl) qY.len rfl (Br.inb Bu)) rfl), nQ rfl (by exact qR (ZK rfl (Bs.rd (i := 0) rfl) qY.len rfl (Br.inb Bu) Tryd.runUnderlying112 rfl Tryd.sizeOf3 rfl) rfl), nQ rfl (by exact qR (Vf 0 rfl (Bs.rd (i := 0) rfl) qY.len (Br.inb Bu) (by rw [show qY.v (rd Bq Bn) = _ from BX]; rfl) Tryd.isAgg3) rfl), nM rfl, nM rfl, nB rfl, nQ rfl (by exact qR (xd rfl rfl Tryd.runUnderlying110 Tryd.sizeOf112 (Bs.rd (i := 0) rfl) qY.len rfl (Br.inb Bv)) rfl), nQ rfl (by exact qR (ZK rfl (Bs.rd (i := 0) rfl) qY.len rfl (Br.inb Bv) Tryd.runUnderlying112 rfl Tryd.sizeOf3 rfl) rfl), nQ rfl (by exact qR (Vf 0 rfl (Bs.rd (i := 0) rfl) qY.len (Br.inb Bv) (by rw [show qY.v (rd Bq (qk (Bn + (1 : Int)))) = _ from BY]; rfl) Tryd.isAgg3) rfl), nB rfl, nQ rfl (by exact qR (Xe ([.int .i64 (qk ((rd Bo Bn).often_ + (rd Bo (qk (Bn + (1 : Int)))).often_)), .slice Bz Bx.length BA]) [(0, 1), (1, 1)] Tryd.zeroValue112 Tryd.runUnderlying112 (by intro w; simp [Tryd.sizeOf3, Tryd.sizeOf45]) rfl rfl) rfl), trivial⟩) fun D l a w ho hcl hav hpre hm hE hk hA hst => ?_
   have hS := (Ss.mk hE hst).env2 (e' := [(38, .agg ⟨[.int .i64 (qk ((rd Bo Bn).often_ + (rd Bo (qk (Bn + (1 : Int)))).often_)), .slice Bz Bx.length BA]⟩)]) ⟨rfl, trivial⟩
   refine qP rfl ?_
   replace hS := hS.front [1, 0, 2] (by kernel_rfl)
   obtain ⟨B7, DA, BB, hS⟩ := hS.poolF
   have DB := Dj.cap (fun _ => rfl) rfl
   have DC := Dj.pl.mono DA
   replace Bs := Bs.mono BB
   replace BP := BP.mono BB
   replace BQ := BQ.mono BB
   replace BZ := BZ.mono BB
   replace Br := qZ.mono (fun _ _ h => qf.mono BB h) Br
   replace BG := qZ.mono (fun _ _ h => qf.mono BB h) BG
   replace BR := qZ.mono (fun _ _ h => yZ.mono BB h) BR
   replace BN := fun q h => BB q (BN q h)
   obtain ⟨BO, hrw⟩ : ∃ r, r = ([(⟨[.int .i64 (qk ((rd Bo Bn).often_ + (rd Bo (qk (Bn + (1 : Int)))).often_)), .slice Bz Bx.length BA], by simp, by simp [Value.oneCell']⟩ : qY 2)] : List (qY 2)) := ⟨_, rfl⟩
   have B8 : qZ (qf B7) ([(qb.mk (qk ((rd Bo Bn).often_ + (rd Bo (qk (Bn + (1 : Int)))).often_)) Bx)] : List qb) BO := by rw [hrw]; exact (qZ.cons (show qf B7 _ _ from ⟨Bz, BA, rfl, DC, DB⟩) qZ.nil)
   refine XE (g := (qY.v (sz := 2))) BO [.agg ⟨[.int .i64 (qk ((rd Bo Bn).often_ + (rd Bo (qk (Bn + (1 : Int)))).often_)), .slice Bz Bx.length BA]⟩] hS Tryd.runUnderlying110 Tryd.sizeOf112 X.el112 rfl rfl rfl (by simp [Value.cells]) (by rw [hrw]; rfl) (by rw [hrw]; rfl) rfl rfl rfl fun w B9 Da DY DD hS => ?_
   clear hrw
   refine qF ?_
   replace hst := hS.st
   obtain ⟨hcl, hmust, hav2, hA⟩ := dn (vals' := [some (.slice BE Bw.length BF), some (.slice Bp Bq.length Bt), some (.int .i64 Bn), some (zA Bp (Int.toNat Bn * 2)), some (zA Bp (Int.toNat Bn * 2 + 0)), some (.int .i64 ((rd Bo Bn).often_)), some (.slice Bp Bq.length Bt), some (.int .i64 Bn), some (.int .i64 (qk (Bn + (1 : Int)))), some (zA Bp (Int.toNat (qk (Bn + (1 : Int))) * 2)), some (zA Bp (Int.toNat (qk (Bn + (1 : Int))) * 2 + 0)), some (.int .i64 ((rd Bo (qk (Bn + (1 : Int)))).often_)), some (.int .i64 (qk ((rd Bo Bn).often_ + (rd Bo (qk (Bn + (1 : Int)))).often_))), some (.slice Bp Bq.length Bt), some (.int .i64 Bn), some (zA Bp (Int.toNat Bn * 2)), some (zA Bp (Int.toNat Bn * 2 + 1)), some (.slice BJ ((rd Bo Bn).symbols_).length BK), some (.slice Bp Bq.length Bt), some (.int .i64 Bn), some (.int .i64 (qk (Bn + (1 : Int)))), some (zA Bp (Int.toNat (qk (Bn + (1 : Int))) * 2)), some (zA Bp (Int.toNat (qk (Bn + (1 : Int))) * 2 + 1)), some (.slice BL ((rd Bo (qk (Bn + (1 : Int)))).symbols_).length BM), some (.slice BS By.length BT), some (.slice Bz Bx.length BA), some (.agg ⟨[.int .i64 (qk ((rd Bo Bn).often_ + (rd Bo (qk (Bn + (1 : Int)))).often_)), .slice Bz Bx.length BA]⟩), some (.slice B9 BO.length Da), none, none]) 27 [(26, 27), (12, 26), (25, 26), (5, 12), (11, 12), (24, 25), (4, 5), (10, 11), (17, 24), (23, 24), (3, 4), (9, 10), (16, 17), (22, 23), (1, 3), (2, 3), (6, 9), (8, 9), (15, 16), (21, 22), (7, 8), (13, 15), (14, 15), (18, 21), (20, 21), (19, 20)] hA hcl hav hm hpre hk rfl rfl rfl rfl rfl rfl rfl
   clear hm hav
   refine yx hA hst ho hcl hav2 hmust 28 [0] rfl rfl rfl rfl rfl (by exact ⟨nM rfl, trivial⟩) fun D l a w ho hcl hav hpre hm hE hk hA hst => ?_
   have hS := (Ss.mk hE hst).env2 (e' := [(12, .slice BE Bw.length BF), (39, .slice B9 BO.length Da)]) ⟨rfl, rfl, trivial⟩
   refine qP rfl ?_
   obtain ⟨DE, hM⟩ := qB hM
   refine Yp (ys := BO) 2 hS rfl rfl B5 rfl (DD.rd (i := 0) rfl) Tryd.runUnderlying110 Tryd.runUnderlying110 X.el112 qY.len rfl uY (BG.room B8 DE) rfl fun BU w B0 B3 DJ hz DF hS => ?_
   obtain ⟨DG, hzm⟩ := yk (BI ++ ([(qb.mk (qk ((rd Bo Bn).often_ + (rd Bo (qk (Bn + (1 : Int)))).often_)) Bx)] : List qb))
   replace hM := qA hzm hM
   have Db := qZ.append BG B8
   rw [← hz, ← hzm] at Db; clear hz hzm
   refine qF ?_
   replace hst := hS.st
   obtain ⟨hcl, hmust, hav2, hA⟩ := dn (vals' := [some (.slice BE Bw.length BF), some (.slice Bp Bq.length Bt), some (.int .i64 Bn), some (zA Bp (Int.toNat Bn * 2)), some (zA Bp (Int.toNat Bn * 2 + 0)), some (.int .i64 ((rd Bo Bn).often_)), some (.slice Bp Bq.length Bt), some (.int .i64 Bn), some (.int .i64 (qk (Bn + (1 : Int)))), some (zA Bp (Int.toNat (qk (Bn + (1 : Int))) * 2)), some (zA Bp (Int.toNat (qk (Bn + (1 : Int))) * 2 + 0)), some (.int .i64 ((rd Bo (qk (Bn + (1 : Int)))).often_)), some (.int .i64 (qk ((rd Bo Bn).often_ + (rd Bo (qk (Bn + (1 : Int)))).often_))), some (.slice Bp Bq.length Bt), some (.int .i64 Bn), some (zA Bp (Int.toNat Bn * 2)), some (zA Bp (Int.toNat Bn * 2 + 1)), some (.slice BJ ((rd Bo Bn).symbols_).length BK), some (.slice Bp Bq.length Bt), some (.int .i64 Bn), some (.int .i64 (qk (Bn + (1 : Int)))), some (zA Bp (Int.toNat (qk (Bn + (1 : Int))) * 2)), some (zA Bp (Int.toNat (qk (Bn + (1 : Int))) * 2 + 1)), some (.slice BL ((rd Bo (qk (Bn + (1 : Int)))).symbols_).length BM), some (.slice BS By.length BT), some (.slice Bz Bx.length BA), some (.agg ⟨[.int .i64 (qk ((rd Bo Bn).often_ + (rd Bo (qk (Bn + (1 : Int)))).often_)), .slice Bz Bx.length BA]⟩), some (.slice B9 BO.length Da), some (.slice B0 BU.length B3), some (.slice B0 BU.length B3)]) 28 [(0, 28), (25, 28), (27, 28), (24, 25), (26, 27), (17, 24), (23, 24), (12, 26), (16, 17), (22, 23), (5, 12), (11, 12), (15, 16), (21, 22), (4, 5), (10, 11), (13, 15), (14, 15), (18, 21), (20, 21), (3, 4), (9, 10), (19, 20), (1, 3), (2, 3), (6, 9), (8, 9), (7, 8)] hA hcl hav hm hpre hk rfl rfl rfl rfl rfl rfl rfl
   clear hm hav
   refine xG hA hst ho hcl hmust [29] rfl rfl rfl (by exact ⟨nA rfl, trivial⟩) fun a w hS => ?_
   replace hS := hS.env2 (e' := [(0, .slice Bp Bq.length Bt), (3, .slice B0 BU.length B3), (4, .int .i64 Bn)]) ⟨rfl, rfl, rfl, trivial⟩
   refine zk (qg ?_)
   refine zv <| sM hS rfl fun hS => sB hS rfl fun hS => zr (v := Value.int .i64) (x0 := (qk (Bn + (2 : Int)))) hS (z8 rfl) rfl fun DK a w hz hS => ?_
   have hM := qA hz hM; clear hz
   refine q9 <| qg ?_
   exact Dq _ _ ⟨B7, B0, B3, BU, DG, DJ, DK, hS.to [1, 2] (by kernel_rfl) ⟨rfl, rfl, rfl, trivial⟩, BN, Br, Bs, Dr, DF, Db, hM⟩
  ·refine wp_exit ?_
   refine qx (qx (qV (qg ?_)))
   refine qu <| sM hS rfl fun hS => sA hS rfl fun hS => qF <| wp_ret ?_
   exact zJ (rs := [2]) hS rfl rfl (hret BD BE BF Bw BI BV _ (zj hM) BN B5 BG (hS.st.pick [0, 1] (by kernel_rfl)))
def zZ (p : qs) (x : (List qb)) (vs : List Value) : Prop :=
  ∃ (A0 : Option Addr) (c0 : Nat) (r0 : List (qY 2)), vs = [.slice A0 r0.length c0] ∧ qZ (qf p) x r0 ∧ Pl p (qY.v (sz := 2)) A0 r0 ∧ r0.length ≤ c0
theorem zZ.mono {p p' : qs} (hs : ∀ q ∈ p, q ∈ p') {x : (List qb)} {vs : List Value} (h : zZ p x vs) : zZ p' x vs := by
  obtain ⟨A0, c0, r0, h0, h1, h2, h3⟩ := h
  exact ⟨A0, c0, r0, h0, qZ.mono (fun _ _ h => qf.mono hs h) h1, h2.mono hs, h3⟩
theorem xJ {H : xl} {F : List qs} {w : World} {R : Ending → World → Prop} {kr : Unit → Prop} {kp : Value → Prop} (hG : Gl H) (K : Nat) (Bo : Int)
    (hS : St w H [] F) (hm : (zu.m K Bo).wp kr kp)
    (hret : ∀ (Bp : qs) (Bq : Option Addr) (Br : Nat) (Bs : qs) (w : World), kr () → (zC 112 (qY.v (sz := 2)) 2 Bq ([] : List (qY 2)) Br Bs) → (qZ (qf Bp) ([] : List qb) ([] : List (qY 2))) → St w H [Bp, Bs] F → R (.returned (.slice Bq ([] : List (qY 2)).length Br)) w)
    (hpan : ∀ v w, kp v → St w H [] F → R (.panicked [⟨v, false, false⟩]) w) :
    Calls Tryd.prog 101 ⟨[.slice none 0 0, .int .i64 Bo]⟩ w R := by
 refine enter Tryd.func101 rfl Tryd.ntmps101 rfl hS fun a w hS => ?_
 have hM := hm; clear hm
 rw [zu.m] at hM
 refine qu <| sA hS rfl fun hS => ?_
 obtain ⟨Bn, hS⟩ := hS.pool0
 obtain ⟨BJ, BG, hS⟩ := hS.nilV 112 (qY.v (sz := 2)) 2
 have BH : qZ (qf Bn) ([] : List qb) ([] : List (qY 2)) := qZ.nil
 refine qF <| wp_seq <| qu <| sM hS rfl fun hS => sB hS rfl fun hS => qF <| qC hS rfl hM (fun Bt hM => ?_) (fun Bt hM => ?_)
 ·refine zv ?_
  refine sO hS (Kd rfl Tryd.runUnderlying9 rfl) rfl fun hS => uR hS rfl <| zx ?_
  exact ⟨hS.ev.defs, hpan _ _ (Zr hM) hS.st.frame⟩
 ·refine wp_skip ?_
  refine qg <| wp_seq <| qu <| sM hS rfl fun hS => sM hS rfl fun hS => sO hS (VU rfl Tryd.runUnderlying110) rfl fun hS => sM hS rfl fun hS => sO hS (xI rfl Tryd.runUnderlying110) rfl fun hS => sB hS rfl fun hS => sB hS rfl fun hS => zr (v := Value.int .i64) (x0 := (qk (Bo - (qk ((0 : Int) - (0 : Int)))))) hS (z8 rfl) rfl fun BI a w hz hS => ?_
  have hM := qA hz hM; clear hz
  refine qF <| qu <| sM hS rfl fun hS => sB hS rfl fun hS => qF <| qC hS rfl hM (fun Bu hM => ?_) (fun Bu hM => ?_)
  ·refine zv ?_
   refine sM hS rfl fun hS => sM hS rfl fun hS => sO hS (VU rfl Tryd.runUnderlying110) rfl fun hS => sO hS (Kz rfl Tryd.runUnderlying110 Tryd.sizeOf112 (UA rfl)) rfl fun hS => sM hS rfl fun hS => ?_
   obtain ⟨Bv, hM⟩ := qB hM
   refine KA (g := (qY.v (sz := 2))) hS rfl rfl Tryd.runUnderlying110 Tryd.runUnderlying3 X.el112 rfl rfl Bv rfl fun w BC BD BE Bw Bx By hS => ?_
   have Bz : qZ (qf Bn) ([] : List qb) ([] : List (qY 2)) := qZ.nil
   refine sM hS rfl fun hS => sO hS (xI rfl Tryd.runUnderlying110) rfl fun hS => sO hS (Kx rfl Tryd.runUnderlying110 Tryd.sizeOf112 (fun _ => UA rfl) Bx By) rfl fun hS => sA hS rfl fun hS => qF <| qu <| sM hS rfl fun hS => sA hS rfl fun hS => qF <| wp_ret ?_
   exact zJ (rs := [4]) hS rfl rfl (hret Bn BC BD BE _ (zj hM) Bw Bz (hS.st.pick [2, 0] (by kernel_rfl)))
  ·refine wp_skip ?_
   refine qg <| qu <| sM hS rfl fun hS => sA hS rfl fun hS => ?_
   obtain ⟨BF, BA, hS⟩ := hS.nilV 112 (qY.v (sz := 2)) 2
   have BB : qZ (qf Bn) ([] : List qb) ([] : List (qY 2)) := qZ.nil
   refine qF <| wp_ret ?_
   exact zJ (rs := [4]) hS rfl rfl (hret Bn none (0) BF _ (zj hM) BA BB (hS.st.pick [2, 0] (by kernel_rfl)))
theorem xT {H : xl} {F : List qs} {w : World} {R : Ending → World → Prop} {kr : (List qb) → Prop} {kp : Value → Prop} (hG : Gl H) (K : Nat) (Bn : List (List qb)) (Bs : qs) (Bx : Option Addr) (By : Nat) (Bp : List (qY 1)) (Bq : qZ (zZ Bs) Bn Bp) (Bu : Pl Bs (qY.v (sz := 1)) Bx Bp) (Dn : Bp.length ≤ By)
    (hS : St w H [Bs] F) (hm : (qo.m K Bn).wp kr kp)
    (hret : ∀ (BJ : qs) (BQ : Option Addr) (BR : Nat) (BA : List (qY 2)) (BS : (List qb)) (BT : qs) (w : World), kr BS → (∀ q ∈ Bs, q ∈ BJ) → (zC 112 (qY.v (sz := 2)) 2 BQ BA BR BT) → (qZ (qf BJ) BS BA) → St w H [BJ, BT] F → R (.returned (.slice BQ BA.length BR)) w)
    (hpan : ∀ v w, kp v → St w H [] F → R (.panicked [⟨v, false, false⟩]) w) :
    Calls Tryd.prog 83 ⟨[.slice Bx Bp.length By]⟩ w R := by
 refine enter Tryd.func83 rfl Tryd.ntmps83 rfl hS fun a w hS => ?_
 have hM := hm; clear hm
 rw [qo.m] at hM
 have BB : ∀ q ∈ Bs, q ∈ Bs := fun _ h => h
 refine qu <| sA hS rfl fun hS => ?_
 obtain ⟨Dv, Do, hS⟩ := hS.nilV 112 (qY.v (sz := 2)) 2
 have Dp : qZ (qf Bs) ([] : List qb) ([] : List (qY 2)) := qZ.nil
 refine qF <| qu <| sA hS rfl fun hS => qF <| qX (fun a w => ∃ (Bt : Int), Ss 36 [] [(0, .slice Bx Bp.length By), (3, .int .i64 Bt)] H [Bs] F a w ∧ (qo.j2 K Bn Bt).wp kr kp) (fun Dw BX => ?_) ?_
 ·refine wp_seq ?_
  refine zv <| sM hS rfl fun hS => sO hS (qR (v' := .int .i64 (Bn.length : Int)) (xI rfl Tryd.runUnderlying165) (by rw [Bq.len])) rfl fun hS => sM hS rfl fun hS => qF <| z7 <| zd (fun BU a w => ∃ (Br : Int) (Bv : Int), Ss 36 [] [(0, .slice Bx Bp.length By), (3, .int .i64 Br), (9, .slice Bx Bp.length By), (10, .int .i64 (Bn.length : Int)), (11, .int .i64 Bv)] H [Bs] F a w ∧ (qo.l1 K Bn BU Br Bv).wp kr kp) K ?_ ?_ ?_
  ·exact ⟨(0 : Int), (0 : Int), hS.to [1] (by kernel_rfl) ⟨rfl, rfl, rfl, rfl, rfl, trivial⟩, hM⟩
  ·intro a w hI; obtain ⟨_, _, _, hM⟩ := hI; exact zc hM
  ·intro BU a w hI Dx BY
   obtain ⟨Br, Bv, hS, hM⟩ := hI
   rw [qo.l1] at hM
   refine qu <| sB hS rfl fun hS => qF <| wp_seq <| qC hS rfl hM (fun BZ hM => ?_) (fun BZ hM => ?_)
   ·refine wp_skip ?_
    refine qg <| wp_seq <| z7 <| wp_seq <| zv ?_
    obtain ⟨BC, hM⟩ := qB hM
    refine sO hS (xd rfl rfl Tryd.runUnderlying165 Tryd.sizeOf110 (Bu.rd (i := 0) rfl) qY.len rfl (Bq.inb BC)) rfl fun hS => ?_
    obtain ⟨Dy, Dz, Dq, B0, B3, Dr, Dt⟩ := Bq.get BC
    refine sO hS (x3 rfl (Bu.rd (i := 0) rfl) qY.len (Bq.inb BC) (by rw [show qY.v (rd Bp Bv) = _ from B0]; rfl) Tryd.isAgg110) rfl fun hS => sA hS rfl fun hS => qF <| qu <| sM hS rfl fun hS => sM hS rfl fun hS => sO hS (qR (v' := .int .i64 ((rd Bn Bv).length : Int)) (xI rfl Tryd.runUnderlying110) (by rw [B3.len])) rfl fun hS => sB hS rfl fun hS => zr (v := Value.int .i64) (x0 := (qk (Br + ((rd Bn Bv).length : Int)))) hS (z8 rfl) rfl fun BK a w hz hS => ?_
    have hM := qA hz hM; clear hz
    refine qF <| qu <| sM hS rfl fun hS => sB hS rfl fun hS => qF <| qC hS rfl hM (fun B4 hM => ?_) (fun B4 hM => ?_)
    ·refine zv ?_
     refine sO hS (Kd rfl Tryd.runUnderlying9 rfl) rfl fun hS => uR hS rfl <| yJ (zx (zx (yJ (zx ?_))))
     exact ⟨hS.ev.defs, hpan _ _ (Zr hM) hS.st.frame⟩
    ·refine wp_skip ?_
     refine zk (qg ?_)
     refine zv <| sB hS rfl fun hS => sM hS rfl fun hS => q9 <| qg ?_
     exact BY _ _ ⟨BK, (qk (Bv + (1 : Int))), hS.to [0] (by kernel_rfl) ⟨rfl, rfl, rfl, rfl, rfl, trivial⟩, hM⟩
   ·refine wp_exit ?_
    refine qx (qx (qV (qg ?_)))
    exact BX _ _ ⟨Br, hS.to [0] (by kernel_rfl) ⟨rfl, rfl, trivial⟩, hM⟩
 ·intro a w hI
  obtain ⟨Bt, hS, hM⟩ := hI
  rw [qo.j2] at hM
  refine qu <| sM hS rfl fun hS => qO hS rfl Tryd.call101 (xJ hG K Bt (hS.st.part 0 [0] (by kernel_rfl)) (qy hM) (fun Dg Dh Di BV w hM Dj BL hst => qM hS.ev hst.appF rfl fun hS => ?_) (fun v w hk hst => yw (zx (⟨hS.ev.defs, hpan _ _ hk hst.appF.frame⟩))))
  replace hS : Ss _ _ _ H [Dg, BV, Bs] F _ _ := hS
  replace hS := hS.front [0, 2, 1] (by kernel_rfl)
  obtain ⟨BM, B5, BD, hS⟩ := hS.poolF
  replace BL := qZ.mono (fun _ _ h => qf.mono B5 h) BL
  replace Bu := Bu.mono BD
  replace Bq := qZ.mono (fun _ _ h => zZ.mono BD h) Bq
  replace BB := fun q h => BD q (BB q h)
  refine sA hS rfl fun hS => qF <| wp_seq <| qu <| sM hS rfl fun hS => sO hS (qR (v' := .int .i64 (Bn.length : Int)) (xI rfl Tryd.runUnderlying165) (by rw [Bq.len])) rfl fun hS => sM hS rfl fun hS => qF <| z7 <| zd (fun BW a w => ∃ (BG : Option Addr) (BH : Nat) (Bw : List (qY 2)) (Bo : (List qb)) (BI : qs) (Bz : Int), Ss 36 [] [(6, .slice BG Bw.length BH), (25, .slice Bx Bp.length By), (26, .int .i64 (Bn.length : Int)), (27, .int .i64 Bz)] H [BM, BI] F a w ∧ (zC 112 (qY.v (sz := 2)) 2 BG Bw BH BI) ∧ (qZ (qf BM) Bo Bw) ∧ (qo.l3 K Bn BW Bo Bz).wp kr kp) K ?_ ?_ ?_
  ·exact ⟨Dh, Di, ([] : List (qY 2)), ([] : List qb), BV, (0 : Int), hS.to [0, 1] (by kernel_rfl) ⟨rfl, rfl, rfl, rfl, trivial⟩, Dj, BL, hM⟩
  ·intro a w hI; obtain ⟨_, _, _, _, _, _, _, _, _, hM⟩ := hI; exact zc hM
  ·intro BW a w hI DA B6
   obtain ⟨BG, BH, Bw, Bo, BI, Bz, hS, BN, BE, hM⟩ := hI
   rw [qo.l3] at hM
   refine qu <| sB hS rfl fun hS => qF <| wp_seq <| qC hS rfl hM (fun B7 hM => ?_) (fun B7 hM => ?_)
   ·refine wp_skip ?_
    refine qg <| wp_seq <| z7 <| wp_seq <| zv ?_
    obtain ⟨BF, hM⟩ := qB hM
    refine sO hS (xd rfl rfl Tryd.runUnderlying165 Tryd.sizeOf110 (Bu.rd (i := 0) rfl) qY.len rfl (Bq.inb BF)) rfl fun hS => ?_
    obtain ⟨DB, DC, B8, B9, BO, Da, Du⟩ := Bq.get BF
    refine sO hS (x3 rfl (Bu.rd (i := 0) rfl) qY.len (Bq.inb BF) (by rw [show qY.v (rd Bp Bz) = _ from B9]; rfl) Tryd.isAgg110) rfl fun hS => sA hS rfl fun hS => qF <| zv <| sM hS rfl fun hS => sM hS rfl fun hS => ?_
    obtain ⟨Db, hM⟩ := qB hM
    refine Yp (ys := B8) 1 hS rfl rfl BN rfl (Da.rd (i := 0) rfl) Tryd.runUnderlying110 Tryd.runUnderlying110 X.el112 qY.len rfl uY (BE.room BO Db) rfl fun Dc w Dk Dl Dm hz De hS => ?_
    obtain ⟨Df, hzm⟩ := yk (Bo ++ (rd Bn Bz))
    replace hM := qA hzm hM
    have BP := qZ.append BE BO
    rw [← hz, ← hzm] at BP; clear hz hzm
    refine sA hS rfl fun hS => q9 <| zk (qg ?_)
    refine zv <| sB hS rfl fun hS => sM hS rfl fun hS => q9 <| qg ?_
    exact B6 _ _ ⟨Dk, Dl, Dc, Df, Dm, (qk (Bz + (1 : Int))), hS.to [0, 1] (by kernel_rfl) ⟨rfl, rfl, rfl, rfl, trivial⟩, De, BP, hM⟩
   ·refine wp_exit ?_
    refine qx (qx (qV (qg ?_)))
    refine qu <| sM hS rfl fun hS => sA hS rfl fun hS => qF <| wp_ret ?_
    exact zJ (rs := [2]) hS rfl rfl (hret BM BG BH Bw Bo BI _ (zj hM) BB BN BE (hS.st.pick [0, 1] (by kernel_rfl)))
theorem yp {H : xl} {F : List qs} {w : World} {R : Ending → World → Prop} {kr : Int → Prop} {kp : Value → Prop} (hG : Gl H) (K : Nat) (Bn : qb) (Bo : qb) (Bp : Option Addr) (Bq : Nat) (Br : Option Addr) (Bs : Nat) (Bz : yM H [] F (ci .i64) Bp Bn.symbols_) (BA : Bn.symbols_.length ≤ Bq) (BB : yM H [] F (ci .i64) Br Bo.symbols_) (BC : Bo.symbols_.length ≤ Bs)
    (hS : St w H [] F) (hm : (xY.m K Bn Bo).wp kr kp)
    (hret : ∀ (Bt : Int) (w : World), kr Bt → St w H [] F → R (.returned (.int .i64 Bt)) w) :
    Calls Tryd.prog 84 ⟨[.agg ⟨[.int .i64 Bn.often_, .slice Bp Bn.symbols_.length Bq]⟩, .agg ⟨[.int .i64 Bo.often_, .slice Br Bo.symbols_.length Bs]⟩]⟩ w R := by
 refine enter Tryd.func84 rfl Tryd.ntmps84 rfl hS fun a w hS => ?_
 have hM := hm; clear hm
 rw [xY.m] at hM
 refine qu <| bx ([.int .i64 Bn.often_, .slice Bp Bn.symbols_.length Bq]) hS rfl rfl rfl fun w BD Bw Bu hS => bx ([.int .i64 Bo.often_, .slice Br Bo.symbols_.length Bs]) hS rfl rfl rfl fun w BE Bx Bv hS => sA hS rfl fun hS => qF <| qu <| sO hS (xn rfl Tryd.runUnderlying112 rfl Tryd.sizeOf3 rfl) rfl fun hS => sO hS (x5 1 rfl Bu rfl rfl Tryd.isAgg3) rfl fun hS => sO hS (xn rfl Tryd.runUnderlying112 rfl Tryd.sizeOf3 rfl) rfl fun hS => sO hS (x5 0 rfl Bv rfl rfl Tryd.isAgg3) rfl fun hS => qO hS rfl Tryd.call58 (jb hG K Bn.often_ Bo.often_ (hS.st.part 0 [0, 1] (by kernel_rfl)) (qy hM) (fun By w hM  hst => qM hS.ev hst.appF rfl fun hS => ?_))
 replace hS : Ss _ _ _ H [Bx, Bw] F _ _ := hS
 refine sA hS rfl fun hS => qF <| wp_ret ?_
 exact zJ (rs := [4]) hS rfl rfl (hret By _ (zj hM) (hS.st.pick [] (by kernel_rfl)))
theorem zU {H : xl} {F : List qs} {w : World} {R : Ending → World → Prop} {kr : (List qb) → Prop} {kp : Value → Prop} (hG : Gl H) (K : Nat) (BB : List qb) (Bs : Int) (Bu : Int) (Bw : qs) (Bp : Option Addr) (Br : Nat) (By : List (qY 2)) (BY : qs) (Df : qZ (qf Bw) BB By) (Dg : zC 112 (qY.v (sz := 2)) 2 Bp By Br BY)
    (hS : St w H [Bw, BY] F) (hm : (qi.m K BB Bs Bu).wp kr kp)
    (hret : ∀ (BN : List (qY 2)) (BJ : (List qb)) (De : qs) (w : World), kr BJ → (zC 112 (qY.v (sz := 2)) 2 Bp BN Br De) → (qZ (qf Bw) BJ BN) → (BN.length = By.length) → St w H [Bw, De] F → R (.returned (.tuple ⟨[]⟩)) w) :
    Calls Tryd.prog 99 ⟨[.slice Bp By.length Br, .int .i64 Bs, .int .i64 Bu, xA 84 [] []]⟩ w R := by
 refine enter Tryd.func99 rfl Tryd.ntmps99 rfl hS fun a w hS => ?_
 have hM := hm; clear hm
 rw [qi.m] at hM
 have DI : ∀ q ∈ Bw, q ∈ Bw := fun _ h => h
 have Dh : By.length = By.length := rfl
 refine qu <| sM hS rfl fun hS => sB hS rfl fun hS => zr (v := Value.int .i64) (x0 := (qk (Bs + (1 : Int)))) hS (z8 rfl) rfl fun DE a w hz hS => ?_
 have hM := qA hz hM; clear hz
 refine qF <| z7 <| zd (fun BK a w => ∃ (BA : List (qY 2)) (Bz : (List qb)) (BL : qs) (Bx : Int), Ss 53 [] [(0, .slice Bp BA.length Br), (1, .int .i64 Bs), (2, .int .i64 Bu), (3, xA 84 [] []), (8, .int .i64 Bx)] H [Bw, BL] F a w ∧ (zC 112 (qY.v (sz := 2)) 2 Bp BA Br BL) ∧ (qZ (qf Bw) Bz BA) ∧ (BA.length = By.length) ∧ (qi.l1 K Bs Bu BK Bz Bx).wp kr kp) K ?_ ?_ ?_
 ·exact ⟨By, BB, BY, DE, hS.to [0, 1] (by kernel_rfl) ⟨rfl, rfl, rfl, rfl, rfl, trivial⟩, Dg, Df, Dh, hM⟩
 ·intro a w hI; obtain ⟨_, _, _, _, _, _, _, _, hM⟩ := hI; exact zc hM
 ·intro BK a w hI DJ Di
  obtain ⟨BA, Bz, BL, Bx, hS, BZ, B0, B3, hM⟩ := hI
  rw [qi.l1] at hM
  refine wp_seq <| qu <| sM hS rfl fun hS => sM hS rfl fun hS => sB hS rfl fun hS => qF <| qC hS rfl hM (fun Dj hM => ?_) (fun Dj hM => ?_)
  ·refine wp_skip ?_
   refine qg <| wp_seq <| z7 <| qu <| sM hS rfl fun hS => sA hS rfl fun hS => qF <| z7 <| zd (fun B4 a w => ∃ (Bq : List (qY 2)) (Bn : (List qb)) (BH : qs) (Bo : Int), Ss 53 [] [(0, .slice Bp Bq.length Br), (1, .int .i64 Bs), (2, .int .i64 Bu), (3, xA 84 [] []), (8, .int .i64 Bx), (9, .int .i64 Bo)] H [Bw, BH] F a w ∧ (zC 112 (qY.v (sz := 2)) 2 Bp Bq Br BH) ∧ (qZ (qf Bw) Bn Bq) ∧ (Bq.length = By.length) ∧ (qi.l2 K (qi.l1 K Bs Bu BK) Bs Bx B4 Bn Bo).wp kr kp) K ?_ ?_ ?_
   ·exact ⟨BA, Bz, BL, Bx, hS.to [0, 1] (by kernel_rfl) ⟨rfl, rfl, rfl, rfl, rfl, rfl, trivial⟩, BZ, B0, B3, hM⟩
   ·intro a w hI; obtain ⟨_, _, _, _, _, _, _, _, hM⟩ := hI; exact zc hM
   ·intro B4 a w hI DK Dk
    obtain ⟨Bq, Bn, BH, Bo, hS, Bv, Bt, B5, hM⟩ := hI
    rw [qi.l2] at hM
    refine wp_seq <| qX (fun a w => ∃ (B6 : Bool), Ss 53 [] [(0, .slice Bp Bq.length Br), (1, .int .i64 Bs), (2, .int .i64 Bu), (3, xA 84 [] []), (8, .int .i64 Bx), (9, .int .i64 Bo), (34, .bool B6)] H [Bw, BH] F a w ∧ (qi.j3 K (qi.l1 K Bs Bu BK) (qi.l2 K (qi.l1 K Bs Bu BK) Bs Bx B4) Bx Bn Bo B6).wp kr kp) (fun DL B7 => ?_) ?_
    ·refine Ua (b := (decide (Bo > Bs))) hM (fun BO hM => ?_) (fun BO hM => ?_)
     ·obtain ⟨BP, hM⟩ := qB hM
      obtain ⟨BU, BV, Dl, Dm, Dn⟩ := Bt.get BP
      obtain ⟨BQ, hM⟩ := qB hM
      obtain ⟨BW, BX, Do, Dp, Dq⟩ := Bt.get BQ
      refine q8 (vals := [some (.int .i64 Bo), some (.int .i64 Bs), some (.bool true), some (.bool true), some (xA 84 [] []), some (.slice Bp Bq.length Br), some (.int .i64 Bo), some (zA Bp (Int.toNat Bo * 2)), some (.agg ⟨[.int .i64 ((rd Bn Bo).often_), .slice BU ((rd Bn Bo).symbols_).length BV]⟩), some (.slice Bp Bq.length Br), some (.int .i64 Bo), some (.int .i64 (qk (Bo - (1 : Int)))), some (zA Bp (Int.toNat (qk (Bo - (1 : Int))) * 2)), some (.agg ⟨[.int .i64 ((rd Bn (qk (Bo - (1 : Int)))).often_), .slice BW ((rd Bn (qk (Bo - (1 : Int)))).symbols_).length BX]⟩), none, none, none]) hS z6 rfl ?_
      intro l w ho hcl hA hst
      refine yx hA hst ho hcl zX z5 14 [0, 1, 2, 3, 4, 5, 6, 7, 8, 9, 10, 11, 12, 13] rfl rfl rfl rfl rfl (by exact ⟨nM rfl, nM rfl, nQ rfl (by exact qR (yN rfl rfl rfl) (congrArg Value.bool BO)), nM rfl, nW rfl rfl rfl rfl rfl rfl rfl rfl (by exact qR (mv rfl) rfl), nW rfl rfl rfl rfl rfl rfl rfl rfl (by exact qR (mv rfl) rfl), nW rfl rfl rfl rfl rfl rfl rfl rfl (by exact qR (mv rfl) rfl), nW rfl rfl rfl rfl rfl rfl rfl rfl (by exact qR (xd rfl rfl Tryd.runUnderlying110 Tryd.sizeOf112 (Bv.rd (i := 1) rfl) qY.len rfl (Bt.inb BP)) rfl), nW rfl rfl rfl rfl rfl rfl rfl rfl (by exact qR (qR (xV rfl (Bv.rd (i := 1) rfl) qY.len (Bt.inb BP) Tryd.isAgg112 Tryd.sizeOf112 rfl) (congrArg (fun l => Value.agg ⟨l⟩) Dl)) rfl), nW rfl rfl rfl rfl rfl rfl rfl rfl (by exact qR (mv rfl) rfl), nW rfl rfl rfl rfl rfl rfl rfl rfl (by exact qR (mv rfl) rfl), nW rfl rfl rfl rfl rfl rfl rfl rfl (by exact qR (yN rfl rfl rfl) rfl), nW rfl rfl rfl rfl rfl rfl rfl rfl (by exact qR (xd rfl rfl Tryd.runUnderlying110 Tryd.sizeOf112 (Bv.rd (i := 1) rfl) qY.len rfl (Bt.inb BQ)) rfl), nW rfl rfl rfl rfl rfl rfl rfl rfl (by exact qR (qR (xV rfl (Bv.rd (i := 1) rfl) qY.len (Bt.inb BQ) Tryd.isAgg112 Tryd.sizeOf112 rfl) (congrArg (fun l => Value.agg ⟨l⟩) Do)) rfl), trivial⟩) fun D l a w ho hcl hav hpre hm hE hk hA hst => ?_
      have hS := (Ss.mk hE hst).env2 (e' := [(21, .bool true), (22, xA 84 [] []), (26, .agg ⟨[.int .i64 ((rd Bn Bo).often_), .slice BU ((rd Bn Bo).symbols_).length BV]⟩), (31, .agg ⟨[.int .i64 ((rd Bn (qk (Bo - (1 : Int)))).often_), .slice BW ((rd Bn (qk (Bo - (1 : Int)))).symbols_).length BX]⟩)]) ⟨rfl, rfl, rfl, rfl, trivial⟩
      refine qP rfl <| v2 hS rfl rfl rfl rfl <| y3 hS rfl rfl Tryd.call84 (yp hG K (qb.mk ((rd Bn Bo).often_) ((rd Bn Bo).symbols_)) (qb.mk ((rd Bn (qk (Bo - (1 : Int)))).often_) ((rd Bn (qk (Bo - (1 : Int)))).symbols_)) BU BV BW BX (Dm.rdF (i := 0) rfl) Dn (Dp.rdF (i := 0) rfl) Dq (hS.st.part 0 [0, 1] (by kernel_rfl)) (qy hM) (fun BM w hM  hst => qM hS.ev hst.appF rfl fun hS => ?_))
      replace hS : Ss _ _ _ H [Bw, BH] F _ _ := hS
      refine qF ?_
      replace hst := hS.st
      obtain ⟨hcl, hmust, hav2, hA⟩ := dn (vals' := [some (.int .i64 Bo), some (.int .i64 Bs), some (.bool true), some (.bool true), some (xA 84 [] []), some (.slice Bp Bq.length Br), some (.int .i64 Bo), some (zA Bp (Int.toNat Bo * 2)), some (.agg ⟨[.int .i64 ((rd Bn Bo).often_), .slice BU ((rd Bn Bo).symbols_).length BV]⟩), some (.slice Bp Bq.length Br), some (.int .i64 Bo), some (.int .i64 (qk (Bo - (1 : Int)))), some (zA Bp (Int.toNat (qk (Bo - (1 : Int))) * 2)), some (.agg ⟨[.int .i64 ((rd Bn (qk (Bo - (1 : Int)))).often_), .slice BW ((rd Bn (qk (Bo - (1 : Int)))).symbols_).length BX]⟩), some (.int .i64 BM), some (.bool (decide (BM < (0 : Int)))), some (.bool (decide (BM < (0 : Int))))]) 14 [(3, 14), (4, 14), (8, 14), (13, 14), (2, 3), (7, 8), (12, 13), (0, 2), (1, 2), (5, 7), (6, 7), (9, 12), (11, 12), (10, 11)] hA hcl hav hm hpre hk rfl rfl rfl rfl rfl rfl rfl
      clear hm hav
      refine xG hA hst ho hcl hmust [15, 16] rfl rfl rfl (by exact ⟨nW rfl rfl rfl rfl rfl rfl rfl rfl (by exact qR (yN rfl rfl rfl) rfl), nQ rfl (by exact qR (pk rfl rfl rfl) rfl), trivial⟩) fun a w hS => ?_
      replace hS := hS.env2 (e' := [(0, .slice Bp Bq.length Br), (1, .int .i64 Bs), (2, .int .i64 Bu), (3, xA 84 [] []), (8, .int .i64 Bx), (9, .int .i64 Bo), (34, .bool (decide (BM < (0 : Int))))]) ⟨rfl, rfl, rfl, rfl, rfl, rfl, rfl, trivial⟩
      refine qg ?_
      exact B7 _ _ ⟨(decide (BM < (0 : Int))), hS.to [0, 1] (by kernel_rfl) ⟨rfl, rfl, rfl, rfl, rfl, rfl, rfl, trivial⟩, hM⟩
     ·refine q8 (vals := [some (.int .i64 Bo), some (.int .i64 Bs), some (.bool false), some (.bool false), some (undef), some (undef), some (undef), some (undef), some (undef), some (undef), some (undef), some (undef), some (undef), some (undef), some (undef), some (undef), some (.bool false)]) hS z6 rfl ?_
      intro l w ho hcl hA hst
      refine xG hA hst ho hcl z5 [0, 1, 2, 3, 4, 5, 6, 7, 8, 9, 10, 11, 12, 13, 14, 15, 16] rfl rfl rfl (by exact ⟨nM rfl, nM rfl, nQ rfl (by exact qR (yN rfl rfl rfl) (congrArg Value.bool BO)), nM rfl, nS rfl rfl rfl rfl rfl rfl rfl rfl rfl, nS rfl rfl rfl rfl rfl rfl rfl rfl rfl, nS rfl rfl rfl rfl rfl rfl rfl rfl rfl, nS rfl rfl rfl rfl rfl rfl rfl rfl rfl, nS rfl rfl rfl rfl rfl rfl rfl rfl rfl, nS rfl rfl rfl rfl rfl rfl rfl rfl rfl, nS rfl rfl rfl rfl rfl rfl rfl rfl rfl, nS rfl rfl rfl rfl rfl rfl rfl rfl rfl, nS rfl rfl rfl rfl rfl rfl rfl rfl rfl, nS rfl rfl rfl rfl rfl rfl rfl rfl rfl, nS rfl rfl rfl rfl rfl rfl rfl rfl rfl, nS rfl rfl rfl rfl rfl rfl rfl rfl rfl, nQ rfl (by exact qR (pk rfl rfl rfl) rfl), trivial⟩) fun a w hS => ?_
      replace hS := hS.env2 (e' := [(0, .slice Bp Bq.length Br), (1, .int .i64 Bs), (2, .int .i64 Bu), (3, xA 84 [] []), (8, .int .i64 Bx), (9, .int .i64 Bo), (34, .bool false)]) ⟨rfl, rfl, rfl, rfl, rfl, rfl, rfl, trivial⟩
      refine qg ?_
      exact B7 _ _ ⟨false, hS.to [0, 1] (by kernel_rfl) ⟨rfl, rfl, rfl, rfl, rfl, rfl, rfl, trivial⟩, hM⟩
    ·intro a w hI
     obtain ⟨B6, hS, hM⟩ := hI
     rw [qi.j3] at hM
     refine qC hS rfl hM (fun Dr hM => ?_) (fun Dr hM => ?_)
     ·refine wp_skip ?_
      refine qg <| wp_seq <| z7 ?_
      obtain ⟨BR, hM⟩ := qB hM
      obtain ⟨BC, BD, Dt, Du, Dv⟩ := Bt.get BR
      obtain ⟨BE, hM⟩ := qB hM
      obtain ⟨BF, BG, Dw, Dx, Dy⟩ := Bt.get BE
      refine q8 (vals := [some (.slice Bp Bq.length Br), some (.int .i64 Bo), some (.slice Bp Bq.length Br), some (.int .i64 Bo), some (.int .i64 (qk (Bo - (1 : Int)))), some (.slice Bp Bq.length Br), some (.int .i64 Bo), some (.int .i64 (qk (Bo - (1 : Int)))), some (zA Bp (Int.toNat (qk (Bo - (1 : Int))) * 2)), some (.agg ⟨[.int .i64 ((rd Bn (qk (Bo - (1 : Int)))).often_), .slice BC ((rd Bn (qk (Bo - (1 : Int)))).symbols_).length BD]⟩), some (.slice Bp Bq.length Br), some (.int .i64 Bo), some (zA Bp (Int.toNat Bo * 2)), some (.agg ⟨[.int .i64 ((rd Bn Bo).often_), .slice BF ((rd Bn Bo).symbols_).length BG]⟩), some (zA Bp (Int.toNat Bo * 2)), none, none, none]) hS z6 rfl ?_
      intro l w ho hcl hA hst
      refine yx hA hst ho hcl zX z5 15 [0, 1, 2, 3, 4, 5, 6, 7, 8, 9, 10, 11, 12, 13, 14] rfl rfl rfl rfl rfl (by exact ⟨nM rfl, nM rfl, nM rfl, nM rfl, nB rfl, nM rfl, nM rfl, nB rfl, nQ rfl (by exact qR (xd rfl rfl Tryd.runUnderlying110 Tryd.sizeOf112 (Bv.rd (i := 1) rfl) qY.len rfl (Bt.inb BR)) rfl), nQ rfl (by exact qR (qR (xV rfl (Bv.rd (i := 1) rfl) qY.len (Bt.inb BR) Tryd.isAgg112 Tryd.sizeOf112 rfl) (congrArg (fun l => Value.agg ⟨l⟩) Dt)) rfl), nM rfl, nM rfl, nQ rfl (by exact qR (xd rfl rfl Tryd.runUnderlying110 Tryd.sizeOf112 (Bv.rd (i := 1) rfl) qY.len rfl (Bt.inb BE)) rfl), nQ rfl (by exact qR (qR (xV rfl (Bv.rd (i := 1) rfl) qY.len (Bt.inb BE) Tryd.isAgg112 Tryd.sizeOf112 rfl) (congrArg (fun l => Value.agg ⟨l⟩) Dw)) rfl), nQ rfl (by exact qR (xd rfl rfl Tryd.runUnderlying110 Tryd.sizeOf112 (Bv.rd (i := 1) rfl) qY.len rfl (Bt.inb BE)) rfl), trivial⟩) fun D l a w ho hcl hav hpre hm hE hk hA hst => ?_
      have hS := (Ss.mk hE hst).env2 (e' := [(46, .agg ⟨[.int .i64 ((rd Bn (qk (Bo - (1 : Int)))).often_), .slice BC ((rd Bn (qk (Bo - (1 : Int)))).symbols_).length BD]⟩), (51, zA Bp (Int.toNat Bo * 2))]) ⟨rfl, rfl, trivial⟩
      refine qP rfl <| vE (i := Bo) (sz := 2) 1 (⟨[.int .i64 ((rd Bn (qk (Bo - (1 : Int)))).often_), .slice BC ((rd Bn (qk (Bo - (1 : Int)))).symbols_).length BD], by simp, by simp [Value.oneCell']⟩ : qY 2) hS rfl rfl Bv rfl Tryd.sizeOf112 rfl (Bt.inb BE) fun B8 w DM hz B9 hS => ?_
      obtain ⟨Dz, hzm⟩ := yk (Bn.set (Int.toNat Bo) (qb.mk ((rd Bn (qk (Bo - (1 : Int)))).often_) ((rd Bn (qk (Bo - (1 : Int)))).symbols_)))
      replace hM := qA hzm hM
      have BI := qZ.set (x := (qb.mk ((rd Bn (qk (Bo - (1 : Int)))).often_) ((rd Bn (qk (Bo - (1 : Int)))).symbols_))) (r := (⟨[.int .i64 ((rd Bn (qk (Bo - (1 : Int)))).often_), .slice BC ((rd Bn (qk (Bo - (1 : Int)))).symbols_).length BD], by simp, by simp [Value.oneCell']⟩ : qY 2)) (Int.toNat Bo) Bt (show qf Bw _ _ from ⟨BC, BD, rfl, Du, Dv⟩)
      have BS : B8.length = Bq.length := by rw [hz]; exact List.length_set ..
      rw [← hz, ← hzm] at BI; clear hz hzm
      have DA := Eq.trans BS B5
      refine qF ?_
      replace hst := hS.st
      obtain ⟨Da, hM⟩ := qB hM
      obtain ⟨hcl, hmust, hav2, hA⟩ := QI (vals' := [some (.slice Bp Bq.length Br), some (.int .i64 Bo), some (.slice Bp Bq.length Br), some (.int .i64 Bo), some (.int .i64 (qk (Bo - (1 : Int)))), some (.slice Bp Bq.length Br), some (.int .i64 Bo), some (.int .i64 (qk (Bo - (1 : Int)))), some (zA Bp (Int.toNat (qk (Bo - (1 : Int))) * 2)), some (.agg ⟨[.int .i64 ((rd Bn (qk (Bo - (1 : Int)))).often_), .slice BC ((rd Bn (qk (Bo - (1 : Int)))).symbols_).length BD]⟩), some (.slice Bp Bq.length Br), some (.int .i64 Bo), some (zA Bp (Int.toNat Bo * 2)), some (.agg ⟨[.int .i64 ((rd Bn Bo).often_), .slice BF ((rd Bn Bo).symbols_).length BG]⟩), some (zA Bp (Int.toNat Bo * 2)), some undef, some (zA Bp (Int.toNat (qk (Bo - (1 : Int))) * 2)), none]) 15 [(0, 15), (1, 15), (5, 15), (6, 15), (7, 15), (8, 15), (9, 15), (13, 15), (14, 15), (12, 13), (10, 12), (11, 12)] hA hcl hav hm hpre rfl rfl rfl rfl rfl
      clear hm hav
      refine yx hA hst ho hcl hav2 hmust 17 [2, 3, 4, 16] rfl rfl rfl rfl rfl (by exact ⟨nM rfl, nM rfl, nB rfl, nQ rfl (by exact qR (xd (Zi BS rfl) rfl Tryd.runUnderlying110 Tryd.sizeOf112 (B9.rd (i := 1) rfl) qY.len rfl (BI.inb Da)) rfl), trivial⟩) fun D l a w ho hcl hav hpre hm hE hk hA hst => ?_
      have hS := (Ss.mk hE hst).env2 (e' := [(50, .agg ⟨[.int .i64 ((rd Bn Bo).often_), .slice BF ((rd Bn Bo).symbols_).length BG]⟩), (52, zA Bp (Int.toNat (qk (Bo - (1 : Int))) * 2))]) ⟨rfl, rfl, trivial⟩
      refine qP rfl <| vE (i := (qk (Bo - (1 : Int)))) (sz := 2) 1 (⟨[.int .i64 ((rd Bn Bo).often_), .slice BF ((rd Bn Bo).symbols_).length BG], by simp, by simp [Value.oneCell']⟩ : qY 2) hS rfl rfl B9 rfl Tryd.sizeOf112 rfl (BI.inb Da) fun BT w DF hz DB hS => ?_
      obtain ⟨DC, hzm⟩ := yk (Dz.set (Int.toNat (qk (Bo - (1 : Int)))) (qb.mk ((rd Bn Bo).often_) ((rd Bn Bo).symbols_)))
      replace hM := qA hzm hM
      have Db := qZ.set (x := (qb.mk ((rd Bn Bo).often_) ((rd Bn Bo).symbols_))) (r := (⟨[.int .i64 ((rd Bn Bo).often_), .slice BF ((rd Bn Bo).symbols_).length BG], by simp, by simp [Value.oneCell']⟩ : qY 2)) (Int.toNat (qk (Bo - (1 : Int)))) BI (show qf Bw _ _ from ⟨BF, BG, rfl, Dx, Dy⟩)
      have Dc : BT.length = B8.length := by rw [hz]; exact List.length_set ..
      rw [← hz, ← hzm] at Db; clear hz hzm
      have DD := Eq.trans Dc DA
      refine qF ?_
      replace hst := hS.st
      obtain ⟨hcl, hmust, hav2, hA⟩ := QI (vals' := [some (.slice Bp Bq.length Br), some (.int .i64 Bo), some (.slice Bp Bq.length Br), some (.int .i64 Bo), some (.int .i64 (qk (Bo - (1 : Int)))), some (.slice Bp Bq.length Br), some (.int .i64 Bo), some (.int .i64 (qk (Bo - (1 : Int)))), some (zA Bp (Int.toNat (qk (Bo - (1 : Int))) * 2)), some (.agg ⟨[.int .i64 ((rd Bn (qk (Bo - (1 : Int)))).often_), .slice BC ((rd Bn (qk (Bo - (1 : Int)))).symbols_).length BD]⟩), some (.slice Bp Bq.length Br), some (.int .i64 Bo), some (zA Bp (Int.toNat Bo * 2)), some (.agg ⟨[.int .i64 ((rd Bn Bo).often_), .slice BF ((rd Bn Bo).symbols_).length BG]⟩), some (zA Bp (Int.toNat Bo * 2)), some undef, some (zA Bp (Int.toNat (qk (Bo - (1 : Int))) * 2)), some undef]) 17 [(0, 17), (1, 17), (2, 17), (3, 17), (4, 17), (5, 17), (6, 17), (7, 17), (8, 17), (9, 17), (10, 17), (11, 17), (12, 17), (13, 17), (14, 17), (15, 17), (16, 17)] hA hcl hav hm hpre rfl rfl rfl rfl rfl
      clear hm hav
      refine xG hA hst ho hcl hmust [] rfl rfl rfl trivial fun a w hS => ?_
      replace hS := hS.env2 (e' := [(0, .slice Bp BT.length Br), (1, .int .i64 Bs), (2, .int .i64 Bu), (3, xA 84 [] []), (8, .int .i64 Bx), (9, .int .i64 Bo)]) ⟨(ZE (u := .slice Bp Bq.length Br) rfl (by rw [Dc, BS])), rfl, rfl, rfl, rfl, rfl, trivial⟩
      refine zk (qg ?_)
      refine zv <| sM hS rfl fun hS => sB hS rfl fun hS => zr (v := Value.int .i64) (x0 := (qk (Bo - (1 : Int)))) hS (z8 rfl) rfl fun DG a w hz hS => ?_
      have hM := qA hz hM; clear hz
      refine q9 <| qg ?_
      exact Dk _ _ ⟨BT, DC, DF, DG, hS.to [0, 1] (by kernel_rfl) ⟨rfl, rfl, rfl, rfl, rfl, rfl, trivial⟩, DB, Db, DD, hM⟩
     ·refine wp_exit ?_
      refine qx (qx (qV (zk (qg ?_))))
      refine zv <| sM hS rfl fun hS => sB hS rfl fun hS => zr (v := Value.int .i64) (x0 := (qk (Bx + (1 : Int)))) hS (z8 rfl) rfl fun DH a w hz hS => ?_
      have hM := qA hz hM; clear hz
      refine q9 <| qg ?_
      exact Di _ _ ⟨Bq, Bn, BH, DH, hS.to [0, 1] (by kernel_rfl) ⟨rfl, rfl, rfl, rfl, rfl, trivial⟩, Bv, Bt, B5, hM⟩
  ·refine wp_exit ?_
   refine qx (qx (qV ?_))
   exact yj (rs := []) hS rfl rfl (hret BA Bz BL _ (zj hM) BZ B0 B3 (hS.st.pick [0, 1] (by kernel_rfl)))
theorem zH {H : xl} {F : List qs} {w : World} {R : Ending → World → Prop} {kr : (List qb) → Prop} {kp : Value → Prop} (hG : Gl H) (K : Nat) (By : List qb) (Bp : Int) (Bq : Int) (Bz : Int) (Bw : qs) (Br : Option Addr) (Bt : Nat) (Bv : List (qY 2)) (BM : qs) (BV : qZ (qf Bw) By Bv) (BW : zC 112 (qY.v (sz := 2)) 2 Br Bv Bt BM)
    (hS : St w H [Bw, BM] F) (hm : (qI.m K By Bp Bq Bz).wp kr kp)
    (hret : ∀ (BH : List (qY 2)) (BG : (List qb)) (BT : qs) (w : World), kr BG → (zC 112 (qY.v (sz := 2)) 2 Br BH Bt BT) → (qZ (qf Bw) BG BH) → (BH.length = Bv.length) → St w H [Bw, BT] F → R (.returned (.tuple ⟨[]⟩)) w) :
    Calls Tryd.prog 109 ⟨[.slice Br Bv.length Bt, .int .i64 Bp, .int .i64 Bq, .int .i64 Bz, xA 84 [] []]⟩ w R := by
 refine enter Tryd.func109 rfl Tryd.ntmps109 rfl hS fun a w hS => ?_
 have hM := hm; clear hm
 rw [qI.m] at hM
 have Dg : ∀ q ∈ Bw, q ∈ Bw := fun _ h => h
 have BX : Bv.length = Bv.length := rfl
 refine qu <| sA hS rfl fun hS => qF <| z7 <| zd (fun BU a w => ∃ (Bs : List (qY 2)) (Bo : (List qb)) (BL : qs) (Bn : Int), Ss 38 [] [(0, .slice Br Bs.length Bt), (1, .int .i64 Bp), (2, .int .i64 Bq), (3, .int .i64 Bz), (10, .int .i64 Bn)] H [Bw, BL] F a w ∧ (zC 112 (qY.v (sz := 2)) 2 Br Bs Bt BL) ∧ (qZ (qf Bw) Bo Bs) ∧ (Bs.length = Bv.length) ∧ (qI.l1 K Bp Bq Bz BU Bo Bn).wp kr kp) K ?_ ?_ ?_
 ·exact ⟨Bv, By, BM, (0 : Int), hS.to [0, 1] (by kernel_rfl) ⟨rfl, rfl, rfl, rfl, rfl, trivial⟩, BW, BV, BX, hM⟩
 ·intro a w hI; obtain ⟨_, _, _, _, _, _, _, _, hM⟩ := hI; exact zc hM
 ·intro BU a w hI Dh BY
  obtain ⟨Bs, Bo, BL, Bn, hS, Bx, Bu, BN, hM⟩ := hI
  rw [qI.l1] at hM
  refine wp_seq <| qu <| sM hS rfl fun hS => sM hS rfl fun hS => sB hS rfl fun hS => qF <| qC hS rfl hM (fun BZ hM => ?_) (fun BZ hM => ?_)
  ·refine wp_skip ?_
   refine qg <| wp_seq <| z7 ?_
   obtain ⟨BI, hM⟩ := qB hM
   obtain ⟨BA, BB, B0, B3, B4⟩ := Bu.get BI
   obtain ⟨BC, hM⟩ := qB hM
   obtain ⟨BD, BE, B5, B6, B7⟩ := Bu.get BC
   refine q8 (vals := [some (.slice Br Bs.length Bt), some (.int .i64 Bp), some (.int .i64 Bn), some (.int .i64 (qk (Bp + Bn))), some (.slice Br Bs.length Bt), some (.int .i64 Bq), some (.int .i64 Bn), some (.int .i64 (qk (Bq + Bn))), some (.slice Br Bs.length Bt), some (.int .i64 Bq), some (.int .i64 Bn), some (.int .i64 (qk (Bq + Bn))), some (zA Br (Int.toNat (qk (Bq + Bn)) * 2)), some (.agg ⟨[.int .i64 ((rd Bo (qk (Bq + Bn))).often_), .slice BA ((rd Bo (qk (Bq + Bn))).symbols_).length BB]⟩), some (.slice Br Bs.length Bt), some (.int .i64 Bp), some (.int .i64 Bn), some (.int .i64 (qk (Bp + Bn))), some (zA Br (Int.toNat (qk (Bp + Bn)) * 2)), some (.agg ⟨[.int .i64 ((rd Bo (qk (Bp + Bn))).often_), .slice BD ((rd Bo (qk (Bp + Bn))).symbols_).length BE]⟩), some (zA Br (Int.toNat (qk (Bp + Bn)) * 2)), none, none, none]) hS z6 rfl ?_
   intro l w ho hcl hA hst
   refine yx hA hst ho hcl zX z5 21 [0, 1, 2, 3, 4, 5, 6, 7, 8, 9, 10, 11, 12, 13, 14, 15, 16, 17, 18, 19, 20] rfl rfl rfl rfl rfl (by exact ⟨nM rfl, nM rfl, nM rfl, nB rfl, nM rfl, nM rfl, nM rfl, nB rfl, nM rfl, nM rfl, nM rfl, nB rfl, nQ rfl (by exact qR (xd rfl rfl Tryd.runUnderlying110 Tryd.sizeOf112 (Bx.rd (i := 1) rfl) qY.len rfl (Bu.inb BI)) rfl), nQ rfl (by exact qR (qR (xV rfl (Bx.rd (i := 1) rfl) qY.len (Bu.inb BI) Tryd.isAgg112 Tryd.sizeOf112 rfl) (congrArg (fun l => Value.agg ⟨l⟩) B0)) rfl), nM rfl, nM rfl, nM rfl, nB rfl, nQ rfl (by exact qR (xd rfl rfl Tryd.runUnderlying110 Tryd.sizeOf112 (Bx.rd (i := 1) rfl) qY.len rfl (Bu.inb BC)) rfl), nQ rfl (by exact qR (qR (xV rfl (Bx.rd (i := 1) rfl) qY.len (Bu.inb BC) Tryd.isAgg112 Tryd.sizeOf112 rfl) (congrArg (fun l => Value.agg ⟨l⟩) B5)) rfl), nQ rfl (by exact qR (xd rfl rfl Tryd.runUnderlying110 Tryd.sizeOf112 (Bx.rd (i := 1) rfl) qY.len rfl (Bu.inb BC)) rfl), trivial⟩) fun D l a w ho hcl hav hpre hm hE hk hA hst => ?_
   have hS := (Ss.mk hE hst).env2 (e' := [(29, .agg ⟨[.int .i64 ((rd Bo (qk (Bq + Bn))).often_), .slice BA ((rd Bo (qk (Bq + Bn))).symbols_).length BB]⟩), (36, zA Br (Int.toNat (qk (Bp + Bn)) * 2))]) ⟨rfl, rfl, trivial⟩
   refine qP rfl <| vE (i := (qk (Bp + Bn))) (sz := 2) 1 (⟨[.int .i64 ((rd Bo (qk (Bq + Bn))).often_), .slice BA ((rd Bo (qk (Bq + Bn))).symbols_).length BB], by simp, by simp [Value.oneCell']⟩ : qY 2) hS rfl rfl Bx rfl Tryd.sizeOf112 rfl (Bu.inb BC) fun BO w Di hz BP hS => ?_
   obtain ⟨B8, hzm⟩ := yk (Bo.set (Int.toNat (qk (Bp + Bn))) (qb.mk ((rd Bo (qk (Bq + Bn))).often_) ((rd Bo (qk (Bq + Bn))).symbols_)))
   replace hM := qA hzm hM
   have BF := qZ.set (x := (qb.mk ((rd Bo (qk (Bq + Bn))).often_) ((rd Bo (qk (Bq + Bn))).symbols_))) (r := (⟨[.int .i64 ((rd Bo (qk (Bq + Bn))).often_), .slice BA ((rd Bo (qk (Bq + Bn))).symbols_).length BB], by simp, by simp [Value.oneCell']⟩ : qY 2)) (Int.toNat (qk (Bp + Bn))) Bu (show qf Bw _ _ from ⟨BA, BB, rfl, B3, B4⟩)
   have BJ : BO.length = Bs.length := by rw [hz]; exact List.length_set ..
   rw [← hz, ← hzm] at BF; clear hz hzm
   have B9 := Eq.trans BJ BN
   refine qF ?_
   replace hst := hS.st
   obtain ⟨BQ, hM⟩ := qB hM
   obtain ⟨hcl, hmust, hav2, hA⟩ := QI (vals' := [some (.slice Br Bs.length Bt), some (.int .i64 Bp), some (.int .i64 Bn), some (.int .i64 (qk (Bp + Bn))), some (.slice Br Bs.length Bt), some (.int .i64 Bq), some (.int .i64 Bn), some (.int .i64 (qk (Bq + Bn))), some (.slice Br Bs.length Bt), some (.int .i64 Bq), some (.int .i64 Bn), some (.int .i64 (qk (Bq + Bn))), some (zA Br (Int.toNat (qk (Bq + Bn)) * 2)), some (.agg ⟨[.int .i64 ((rd Bo (qk (Bq + Bn))).often_), .slice BA ((rd Bo (qk (Bq + Bn))).symbols_).length BB]⟩), some (.slice Br Bs.length Bt), some (.int .i64 Bp), some (.int .i64 Bn), some (.int .i64 (qk (Bp + Bn))), some (zA Br (Int.toNat (qk (Bp + Bn)) * 2)), some (.agg ⟨[.int .i64 ((rd Bo (qk (Bp + Bn))).often_), .slice BD ((rd Bo (qk (Bp + Bn))).symbols_).length BE]⟩), some (zA Br (Int.toNat (qk (Bp + Bn)) * 2)), some undef, some (zA Br (Int.toNat (qk (Bq + Bn)) * 2)), none]) 21 [(0, 21), (1, 21), (2, 21), (3, 21), (8, 21), (9, 21), (10, 21), (11, 21), (12, 21), (13, 21), (19, 21), (20, 21), (18, 19), (14, 18), (17, 18), (15, 17), (16, 17)] hA hcl hav hm hpre rfl rfl rfl rfl rfl
   clear hm hav
   refine yx hA hst ho hcl hav2 hmust 23 [4, 5, 6, 7, 22] rfl rfl rfl rfl rfl (by exact ⟨nM rfl, nM rfl, nM rfl, nB rfl, nQ rfl (by exact qR (xd (Zi BJ rfl) rfl Tryd.runUnderlying110 Tryd.sizeOf112 (BP.rd (i := 1) rfl) qY.len rfl (BF.inb BQ)) rfl), trivial⟩) fun D l a w ho hcl hav hpre hm hE hk hA hst => ?_
   have hS := (Ss.mk hE hst).env2 (e' := [(35, .agg ⟨[.int .i64 ((rd Bo (qk (Bp + Bn))).often_), .slice BD ((rd Bo (qk (Bp + Bn))).symbols_).length BE]⟩), (37, zA Br (Int.toNat (qk (Bq + Bn)) * 2))]) ⟨rfl, rfl, trivial⟩
   refine qP rfl <| vE (i := (qk (Bq + Bn))) (sz := 2) 1 (⟨[.int .i64 ((rd Bo (qk (Bp + Bn))).often_), .slice BD ((rd Bo (qk (Bp + Bn))).symbols_).length BE], by simp, by simp [Value.oneCell']⟩ : qY 2) hS rfl rfl BP rfl Tryd.sizeOf112 rfl (BF.inb BQ) fun BK w De hz Da hS => ?_
   obtain ⟨Db, hzm⟩ := yk (B8.set (Int.toNat (qk (Bq + Bn))) (qb.mk ((rd Bo (qk (Bp + Bn))).often_) ((rd Bo (qk (Bp + Bn))).symbols_)))
   replace hM := qA hzm hM
   have BR := qZ.set (x := (qb.mk ((rd Bo (qk (Bp + Bn))).often_) ((rd Bo (qk (Bp + Bn))).symbols_))) (r := (⟨[.int .i64 ((rd Bo (qk (Bp + Bn))).often_), .slice BD ((rd Bo (qk (Bp + Bn))).symbols_).length BE], by simp, by simp [Value.oneCell']⟩ : qY 2)) (Int.toNat (qk (Bq + Bn))) BF (show qf Bw _ _ from ⟨BD, BE, rfl, B6, B7⟩)
   have BS : BK.length = BO.length := by rw [hz]; exact List.length_set ..
   rw [← hz, ← hzm] at BR; clear hz hzm
   have Dc := Eq.trans BS B9
   refine qF ?_
   replace hst := hS.st
   obtain ⟨hcl, hmust, hav2, hA⟩ := QI (vals' := [some (.slice Br Bs.length Bt), some (.int .i64 Bp), some (.int .i64 Bn), some (.int .i64 (qk (Bp + Bn))), some (.slice Br Bs.length Bt), some (.int .i64 Bq), some (.int .i64 Bn), some (.int .i64 (qk (Bq + Bn))), some (.slice Br Bs.length Bt), some (.int .i64 Bq), some (.int .i64 Bn), some (.int .i64 (qk (Bq + Bn))), some (zA Br (Int.toNat (qk (Bq + Bn)) * 2)), some (.agg ⟨[.int .i64 ((rd Bo (qk (Bq + Bn))).often_), .slice BA ((rd Bo (qk (Bq + Bn))).symbols_).length BB]⟩), some (.slice Br Bs.length Bt), some (.int .i64 Bp), some (.int .i64 Bn), some (.int .i64 (qk (Bp + Bn))), some (zA Br (Int.toNat (qk (Bp + Bn)) * 2)), some (.agg ⟨[.int .i64 ((rd Bo (qk (Bp + Bn))).often_), .slice BD ((rd Bo (qk (Bp + Bn))).symbols_).length BE]⟩), some (zA Br (Int.toNat (qk (Bp + Bn)) * 2)), some undef, some (zA Br (Int.toNat (qk (Bq + Bn)) * 2)), some undef]) 23 [(0, 23), (1, 23), (2, 23), (3, 23), (4, 23), (5, 23), (6, 23), (7, 23), (8, 23), (9, 23), (10, 23), (11, 23), (12, 23), (13, 23), (14, 23), (15, 23), (16, 23), (17, 23), (18, 23), (19, 23), (20, 23), (21, 23), (22, 23)] hA hcl hav hm hpre rfl rfl rfl rfl rfl
   clear hm hav
   refine xG hA hst ho hcl hmust [] rfl rfl rfl trivial fun a w hS => ?_
   replace hS := hS.env2 (e' := [(0, .slice Br BK.length Bt), (1, .int .i64 Bp), (2, .int .i64 Bq), (3, .int .i64 Bz), (10, .int .i64 Bn)]) ⟨(ZE (u := .slice Br Bs.length Bt) rfl (by rw [BS, BJ])), rfl, rfl, rfl, rfl, trivial⟩
   refine zk (qg ?_)
   refine zv <| sM hS rfl fun hS => sB hS rfl fun hS => zr (v := Value.int .i64) (x0 := (qk (Bn + (1 : Int)))) hS (z8 rfl) rfl fun Df a w hz hS => ?_
   have hM := qA hz hM; clear hz
   refine q9 <| qg ?_
   exact BY _ _ ⟨BK, Db, De, Df, hS.to [0, 1] (by kernel_rfl) ⟨rfl, rfl, rfl, rfl, rfl, trivial⟩, Da, BR, Dc, hM⟩
  ·refine wp_exit ?_
   refine qx (qx (qV ?_))
   exact yj (rs := []) hS rfl rfl (hret Bs Bo BL _ (zj hM) Bx Bu BN (hS.st.pick [0, 1] (by kernel_rfl)))
theorem xL {H : xl} {F : List qs} {w : World} {R : Ending → World → Prop} {kr : (List qb) → Prop} {kp : Value → Prop} (hG : Gl H) (K : Nat) (By : List qb) (BC : Int) (Br : Int) (BD : Int) (Bq : qs) (Bn : Option Addr) (Bo : Nat) (Bt : List (qY 2)) (BM : qs) (BZ : qZ (qf Bq) By Bt) (B0 : zC 112 (qY.v (sz := 2)) 2 Bn Bt Bo BM)
    (hS : St w H [Bq, BM] F) (hm : (qz.m K By BC Br BD).wp kr kp)
    (hret : ∀ (BE : List (qY 2)) (BA : (List qb)) (BU : qs) (w : World), kr BA → (zC 112 (qY.v (sz := 2)) 2 Bn BE Bo BU) → (qZ (qf Bq) BA BE) → (BE.length = Bt.length) → St w H [Bq, BU] F → R (.returned (.tuple ⟨[]⟩)) w) :
    Calls Tryd.prog 108 ⟨[.slice Bn Bt.length Bo, .int .i64 BC, .int .i64 Br, .int .i64 BD, xA 84 [] []]⟩ w R := by
 refine enter Tryd.func108 rfl Tryd.ntmps108 rfl hS fun a w hS => ?_
 have hM := hm; clear hm
 rw [qz.m] at hM
 have Do : ∀ q ∈ Bq, q ∈ Bq := fun _ h => h
 have B3 : Bt.length = Bt.length := rfl
 refine qu <| sM hS rfl fun hS => sM hS rfl fun hS => sB hS rfl fun hS => zr (v := Value.int .i64) (x0 := (qk (Br - BC))) hS (z8 rfl) rfl fun De a w hz hS => ?_
 have hM := qA hz hM; clear hz
 refine qF <| qu <| sM hS rfl fun hS => sM hS rfl fun hS => sB hS rfl fun hS => zr (v := Value.int .i64) (x0 := (qk (BD - Br))) hS (z8 rfl) rfl fun Df a w hz hS => ?_
 have hM := qA hz hM; clear hz
 refine qF <| qX (fun a w => ∃ (Bu : List (qY 2)) (Bw : (List qb)) (BL : qs) (BB : Int), Ss 58 [] [(0, .slice Bn Bu.length Bo), (2, .int .i64 Br), (4, xA 84 [] []), (10, .int .i64 BB)] H [Bq, BL] F a w ∧ (zC 112 (qY.v (sz := 2)) 2 Bn Bu Bo BL) ∧ (qZ (qf Bq) Bw Bu) ∧ (Bu.length = Bt.length) ∧ (qz.j2 K Br Bw BB).wp kr kp) (fun Dp B4 => ?_) ?_
 ·refine z7 ?_
  refine zd (fun BV a w => ∃ (Bp : List (qY 2)) (Bs : (List qb)) (Bz : qs) (Bv : Int) (Bx : Int), Ss 58 [] [(0, .slice Bn Bp.length Bo), (2, .int .i64 Br), (4, xA 84 [] []), (10, .int .i64 Bv), (11, .int .i64 Bx)] H [Bq, Bz] F a w ∧ (zC 112 (qY.v (sz := 2)) 2 Bn Bp Bo Bz) ∧ (qZ (qf Bq) Bs Bp) ∧ (Bp.length = Bt.length) ∧ (qz.l1 K Br BV Bs Bv Bx).wp kr kp) K ?_ ?_ ?_
  ·exact ⟨Bt, By, BM, De, Df, hS.to [0, 1] (by kernel_rfl) ⟨rfl, rfl, rfl, rfl, rfl, trivial⟩, B0, BZ, B3, hM⟩
  ·intro a w hI; obtain ⟨_, _, _, _, _, _, _, _, _, hM⟩ := hI; exact zc hM
  ·intro BV a w hI Dq BN
   obtain ⟨Bp, Bs, Bz, Bv, Bx, hS, BF, BG, BH, hM⟩ := hI
   rw [qz.l1] at hM
   refine wp_seq <| qu <| sM hS rfl fun hS => sM hS rfl fun hS => sB hS rfl fun hS => qF <| qC hS rfl hM (fun B5 hM => ?_) (fun B5 hM => ?_)
   ·refine wp_skip ?_
    refine qg <| z7 <| qu <| sM hS rfl fun hS => sM hS rfl fun hS => sB hS rfl fun hS => qF <| qC hS rfl hM (fun B6 hM => ?_) (fun B6 hM => ?_)
    ·refine wp_seq ?_
     refine zv <| sM hS rfl fun hS => sM hS rfl fun hS => sM hS rfl fun hS => sB hS rfl fun hS => sM hS rfl fun hS => sM hS rfl fun hS => sM hS rfl fun hS => qO hS rfl Tryd.call109 (zH hG K Bs (qk (Br - Bv)) Br Bx Bq Bn Bo Bp Bz BG BF (hS.st.part 2 [0, 1] (by kernel_rfl)) (qy hM) (fun BI BO BW w hM Dg Dh BP hst => qM hS.ev hst.appF rfl fun hS => ?_))
     replace hS : Ss _ _ _ H [Bq, BW] F _ _ := hS
     have B7 := Eq.trans BP BH
     replace hS := hS.re 0 (u := .slice Bn Bp.length Bo) (v := .slice Bn BI.length Bo) rfl (by rw [BP])
     replace hS := hS.re 24 (u := .slice Bn Bp.length Bo) (v := .slice Bn BI.length Bo) rfl (by rw [BP])
     refine qF <| zv <| sM hS rfl fun hS => sM hS rfl fun hS => sB hS rfl fun hS => zr (v := Value.int .i64) (x0 := (qk (Bv - Bx))) hS (z8 rfl) rfl fun Di a w hz hS => ?_
     have hM := qA hz hM; clear hz
     refine q9 <| zk (qg ?_)
     exact BN _ _ ⟨BI, BO, BW, Di, Bx, hS.to [0, 1] (by kernel_rfl) ⟨rfl, rfl, rfl, rfl, rfl, trivial⟩, Dg, Dh, B7, hM⟩
    ·refine wp_seq ?_
     refine zv <| sM hS rfl fun hS => sM hS rfl fun hS => sM hS rfl fun hS => sB hS rfl fun hS => sM hS rfl fun hS => sM hS rfl fun hS => sB hS rfl fun hS => sM hS rfl fun hS => sB hS rfl fun hS => sM hS rfl fun hS => sM hS rfl fun hS => qO hS rfl Tryd.call109 (zH hG K Bs (qk (Br - Bv)) (qk ((qk (Br + Bx)) - Bv)) Bv Bq Bn Bo Bp Bz BG BF (hS.st.part 2 [0, 1] (by kernel_rfl)) (qy hM) (fun BJ BQ BX w hM Dj Dk BR hst => qM hS.ev hst.appF rfl fun hS => ?_))
     replace hS : Ss _ _ _ H [Bq, BX] F _ _ := hS
     have B8 := Eq.trans BR BH
     replace hS := hS.re 0 (u := .slice Bn Bp.length Bo) (v := .slice Bn BJ.length Bo) rfl (by rw [BR])
     replace hS := hS.re 35 (u := .slice Bn Bp.length Bo) (v := .slice Bn BJ.length Bo) rfl (by rw [BR])
     refine qF <| zv <| sM hS rfl fun hS => sM hS rfl fun hS => sB hS rfl fun hS => zr (v := Value.int .i64) (x0 := (qk (Bx - Bv))) hS (z8 rfl) rfl fun Dl a w hz hS => ?_
     have hM := qA hz hM; clear hz
     refine q9 <| zk (qg ?_)
     exact BN _ _ ⟨BJ, BQ, BX, Bv, Dl, hS.to [0, 1] (by kernel_rfl) ⟨rfl, rfl, rfl, rfl, rfl, trivial⟩, Dj, Dk, B8, hM⟩
   ·refine wp_exit ?_
    refine qx (qx (qV (qg ?_)))
    exact B4 _ _ ⟨Bp, Bs, Bz, Bv, hS.to [0, 1] (by kernel_rfl) ⟨rfl, rfl, rfl, rfl, trivial⟩, BF, BG, BH, hM⟩
 ·intro a w hI
  obtain ⟨Bu, Bw, BL, BB, hS, B9, Da, Db, hM⟩ := hI
  rw [qz.j2] at hM
  refine zv <| sM hS rfl fun hS => sM hS rfl fun hS => sM hS rfl fun hS => sB hS rfl fun hS => sM hS rfl fun hS => sM hS rfl fun hS => sM hS rfl fun hS => qO hS rfl Tryd.call109 (zH hG K Bw (qk (Br - BB)) Br BB Bq Bn Bo Bu BL Da B9 (hS.st.part 2 [0, 1] (by kernel_rfl)) (qy hM) (fun BK BS BY w hM Dm Dn BT hst => qM hS.ev hst.appF rfl fun hS => ?_))
  replace hS : Ss _ _ _ H [Bq, BY] F _ _ := hS
  have Dc := Eq.trans BT Db
  replace hS := hS.re 0 (u := .slice Bn Bu.length Bo) (v := .slice Bn BK.length Bo) rfl (by rw [BT])
  replace hS := hS.re 50 (u := .slice Bn Bu.length Bo) (v := .slice Bn BK.length Bo) rfl (by rw [BT])
  refine q9 ?_
  exact yj (rs := []) hS rfl rfl (hret BK BS BY _ (zj hM) Dm Dn Dc (hS.st.pick [0, 1] (by kernel_rfl)))
end Go.TrydS

