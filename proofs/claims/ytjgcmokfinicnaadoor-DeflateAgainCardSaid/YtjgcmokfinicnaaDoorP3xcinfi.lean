/- Printed by a program of mine: each Go function answers what its model answers; conditions: what each theorem asks of memory. -/
import Derived.Test.YtjgcmokfinicnaaDoorP2xkaobi
set_option linter.unusedVariables false
set_option linter.unusedSimpArgs false
set_option maxRecDepth 100000
namespace Go.TrydS
open Go Go.Sl Go.Mo Go.Proofs
attribute [local irreducible] qW.wp
theorem xC (K : Nat) : ∀ (d : Nat) {H : xl} {F : List qs} {w : World} {R : Ending → World → Prop} {kr : (List qb) → Prop} {kp : Value → Prop} (hG : Gl H) (Bn : List qb) (Bv : Int) (Bw : Int) (Bz : Int) (By : qs) (Bo : Option Addr) (Br : Nat) (Bu : List (qY 2)) (BG : qs) (BA : qZ (qf By) Bn Bu) (BF : zC 112 (qY.v (sz := 2)) 2 Bo Bu Br BG)
    (hS : St w H [By, BG] F) (hm : (qc.r K d Bn Bv Bw Bz).wp kr kp)
    (hret : ∀ (Dm : List (qY 2)) (Dj : (List qb)) (Gt : qs) (w : World), kr Dj → (zC 112 (qY.v (sz := 2)) 2 Bo Dm Br Gt) → (qZ (qf By) Dj Dm) → (Dm.length = Bu.length) → St w H [By, Gt] F → R (.returned (.tuple ⟨[]⟩)) w),
    Calls Tryd.prog 100 ⟨[.slice Bo Bu.length Br, .int .i64 Bv, .int .i64 Bw, .int .i64 Bz, xA 84 [] []]⟩ w R := by
  intro d
  induction d with
  | zero => intro H F w R kr kp hG Bn Bv Bw Bz By Bo Br Bu BG BA BF hS hm hret; exact (zc hm).elim
  | succ d ih =>
  intro H F w R kr kp hG Bn Bv Bw Bz By Bo Br Bu BG BA BF hS hm hret
  have hM := hm; clear hm
  rw [qc.r] at hM; rw [qc.b] at hM
  refine enter Tryd.func100 rfl Tryd.ntmps100 rfl hS fun a w hS => ?_
  have LR : ∀ q ∈ By, q ∈ By := fun _ h => h
  have Dg : Bu.length = Bu.length := rfl
  refine qX (fun a w => Ss 220 [] [(0, .slice Bo Bu.length Br), (1, .int .i64 Bv), (2, .int .i64 Bw), (3, .int .i64 Bz), (4, xA 84 [] [])] H [By, BG] F a w ∧ (qc.j4 K (qc.r K d) Bn Bv Bw Bz).wp kr kp) (fun LS GC => ?_) ?_
  ·refine wp_seq ?_
   refine zv <| sM hS rfl fun hS => sM hS rfl fun hS => sB hS rfl fun hS => sB hS rfl fun hS => qF <| qC hS rfl hM (fun GD hM => ?_) (fun GD hM => ?_)
   ·refine wp_seq ?_
    refine zv <| sM hS rfl fun hS => sA hS rfl fun hS => qF <| qu <| sM hS rfl fun hS => sA hS rfl fun hS => qF <| qX (fun a w => ∃ (Da : Int), Ss 220 [] [(0, .slice Bo Bu.length Br), (1, .int .i64 Bv), (10, .int .i64 Da)] H [By, BG] F a w ∧ (qc.j2 K (qc.r K d) Bn Bv Da).wp kr kp) (fun LT GE => ?_) ?_
    ·refine z7 ?_
     refine zd (fun Gu a w => ∃ (BW : Int) (Db : Int), Ss 220 [] [(0, .slice Bo Bu.length Br), (1, .int .i64 Bv), (4, xA 84 [] []), (10, .int .i64 BW), (11, .int .i64 Db)] H [By, BG] F a w ∧ (qc.l1 K (qc.r K d) Bn Bv Gu BW Db).wp kr kp) K ?_ ?_ ?_
     ·exact ⟨Bw, Bz, hS.to [0, 1] (by kernel_rfl) ⟨rfl, rfl, rfl, rfl, rfl, trivial⟩, hM⟩
     ·intro a w hI; obtain ⟨_, _, _, hM⟩ := hI; exact zc hM
     ·intro Gu a w hI LU DW
      obtain ⟨BW, Db, hS, hM⟩ := hI
      rw [qc.l1] at hM
      refine wp_seq <| qu <| sM hS rfl fun hS => sM hS rfl fun hS => sB hS rfl fun hS => qF <| qC hS rfl hM (fun GF hM => ?_) (fun GF hM => ?_)
      ·refine wp_skip ?_
       refine qg <| z7 <| qu <| sM hS rfl fun hS => sM hS rfl fun hS => sB hS rfl fun hS => sO hS (vX rfl Tryd.runUnderlying3 Tryd.runUnderlying39) rfl fun hS => sO hS (shr rfl rfl rfl) rfl fun hS => sO hS (vX rfl Tryd.runUnderlying39 Tryd.runUnderlying3) rfl fun hS => zr (v := Value.int .i64) (x0 := (wr .i64 (zR .u64 (wr .u64 (qk (BW + Db))) (1 : Int)))) hS (z8 rfl) rfl fun BK a w hz hS => ?_
       have hM := qA hz hM; clear hz
       refine qF <| wp_seq ?_
       obtain ⟨Dn, hM⟩ := qB hM
       obtain ⟨DD, DE, GG, GH, GI⟩ := BA.get Dn
       obtain ⟨Do, hM⟩ := qB hM
       obtain ⟨DF, DG, GJ, GK, GL⟩ := BA.get Do
       refine q8 (vals := [some (xA 84 [] []), some (.slice Bo Bu.length Br), some (.int .i64 BK), some (zA Bo (Int.toNat BK * 2)), some (.agg ⟨[.int .i64 ((rd Bn BK).often_), .slice DD ((rd Bn BK).symbols_).length DE]⟩), some (.slice Bo Bu.length Br), some (.int .i64 Bv), some (zA Bo (Int.toNat Bv * 2)), some (.agg ⟨[.int .i64 ((rd Bn Bv).often_), .slice DF ((rd Bn Bv).symbols_).length DG]⟩), none, none]) hS z6 rfl ?_
       intro l w ho hcl hA hst
       refine yx hA hst ho hcl zX z5 9 [0, 1, 2, 3, 4, 5, 6, 7, 8] rfl rfl rfl rfl rfl (by exact ⟨nM rfl, nM rfl, nM rfl, nQ rfl (by exact qR (xd rfl rfl Tryd.runUnderlying110 Tryd.sizeOf112 (BF.rd (i := 1) rfl) qY.len rfl (BA.inb Dn)) rfl), nQ rfl (by exact qR (qR (xV rfl (BF.rd (i := 1) rfl) qY.len (BA.inb Dn) Tryd.isAgg112 Tryd.sizeOf112 rfl) (congrArg (fun l => Value.agg ⟨l⟩) GG)) rfl), nM rfl, nM rfl, nQ rfl (by exact qR (xd rfl rfl Tryd.runUnderlying110 Tryd.sizeOf112 (BF.rd (i := 1) rfl) qY.len rfl (BA.inb Do)) rfl), nQ rfl (by exact qR (qR (xV rfl (BF.rd (i := 1) rfl) qY.len (BA.inb Do) Tryd.isAgg112 Tryd.sizeOf112 rfl) (congrArg (fun l => Value.agg ⟨l⟩) GJ)) rfl), trivial⟩) fun D l a w ho hcl hav hpre hm hE hk hA hst => ?_
       have hS := (Ss.mk hE hst).env2 (e' := [(40, xA 84 [] []), (44, .agg ⟨[.int .i64 ((rd Bn BK).often_), .slice DD ((rd Bn BK).symbols_).length DE]⟩), (48, .agg ⟨[.int .i64 ((rd Bn Bv).often_), .slice DF ((rd Bn Bv).symbols_).length DG]⟩)]) ⟨rfl, rfl, rfl, trivial⟩
       refine qP rfl <| y3 hS rfl rfl Tryd.call84 (yp hG K (qb.mk ((rd Bn BK).often_) ((rd Bn BK).symbols_)) (qb.mk ((rd Bn Bv).often_) ((rd Bn Bv).symbols_)) DD DE DF DG (GH.rdF (i := 0) rfl) GI (GK.rdF (i := 0) rfl) GL (hS.st.part 0 [0, 1] (by kernel_rfl)) (qy hM) (fun DX w hM  hst => qM hS.ev hst.appF rfl fun hS => ?_))
       replace hS : Ss _ _ _ H [By, BG] F _ _ := hS
       refine qF ?_
       replace hst := hS.st
       obtain ⟨hcl, hmust, hav2, hA⟩ := dn (vals' := [some (xA 84 [] []), some (.slice Bo Bu.length Br), some (.int .i64 BK), some (zA Bo (Int.toNat BK * 2)), some (.agg ⟨[.int .i64 ((rd Bn BK).often_), .slice DD ((rd Bn BK).symbols_).length DE]⟩), some (.slice Bo Bu.length Br), some (.int .i64 Bv), some (zA Bo (Int.toNat Bv * 2)), some (.agg ⟨[.int .i64 ((rd Bn Bv).often_), .slice DF ((rd Bn Bv).symbols_).length DG]⟩), some (.int .i64 DX), some (.bool (decide (DX < (0 : Int))))]) 9 [(0, 9), (4, 9), (8, 9), (3, 4), (7, 8), (1, 3), (2, 3), (5, 7), (6, 7)] hA hcl hav hm hpre hk rfl rfl rfl rfl rfl rfl rfl
       clear hm hav
       refine xG hA hst ho hcl hmust [10] rfl rfl rfl (by exact ⟨nB rfl, trivial⟩) fun a w hS => ?_
       replace hS := hS.env2 (e' := [(0, .slice Bo Bu.length Br), (1, .int .i64 Bv), (4, xA 84 [] []), (10, .int .i64 BW), (11, .int .i64 Db), (12, .int .i64 BK), (50, .bool (decide (DX < (0 : Int))))]) ⟨rfl, rfl, rfl, rfl, rfl, rfl, rfl, trivial⟩
       refine qg <| qC hS rfl hM (fun GM hM => ?_) (fun GM hM => ?_)
       ·refine zv ?_
        refine sM hS rfl fun hS => sB hS rfl fun hS => zr (v := Value.int .i64) (x0 := (qk (BK + (1 : Int)))) hS (z8 rfl) rfl fun LH a w hz hS => ?_
        have hM := qA hz hM; clear hz
        refine q9 <| zk (qg ?_)
        exact DW _ _ ⟨LH, Db, hS.to [0, 1] (by kernel_rfl) ⟨rfl, rfl, rfl, rfl, rfl, trivial⟩, hM⟩
       ·refine zv ?_
        refine sM hS rfl fun hS => sA hS rfl fun hS => q9 <| zk (qg ?_)
        exact DW _ _ ⟨BW, BK, hS.to [0, 1] (by kernel_rfl) ⟨rfl, rfl, rfl, rfl, rfl, trivial⟩, hM⟩
      ·refine wp_exit ?_
       refine qx (qx (qV (qg ?_)))
       exact GE _ _ ⟨BW, hS.to [0, 1] (by kernel_rfl) ⟨rfl, rfl, rfl, trivial⟩, hM⟩
    ·intro a w hI
     obtain ⟨Da, hS, hM⟩ := hI
     rw [qc.j2] at hM
     refine wp_seq <| qu <| sM hS rfl fun hS => sA hS rfl fun hS => qF <| z7 <| zd (fun Gv a w => ∃ (BC : List (qY 2)) (Bs : (List qb)) (DH : qs) (Bp : Int), Ss 220 [] [(0, .slice Bo BC.length Br), (10, .int .i64 Da), (13, .int .i64 Bp)] H [By, DH] F a w ∧ (zC 112 (qY.v (sz := 2)) 2 Bo BC Br DH) ∧ (qZ (qf By) Bs BC) ∧ (BC.length = Bu.length) ∧ (qc.l3 K (qc.r K d) Da Gv Bs Bp).wp kr kp) K ?_ ?_ ?_
     ·exact ⟨Bu, Bn, BG, Bv, hS.to [0, 1] (by kernel_rfl) ⟨rfl, rfl, rfl, trivial⟩, BF, BA, Dg, hM⟩
     ·intro a w hI; obtain ⟨_, _, _, _, _, _, _, _, hM⟩ := hI; exact zc hM
     ·intro Gv a w hI LV GN
      obtain ⟨BC, Bs, DH, Bp, hS, BU, BM, DY, hM⟩ := hI
      rw [qc.l3] at hM
      refine wp_seq <| qu <| sM hS rfl fun hS => sM hS rfl fun hS => sB hS rfl fun hS => sB hS rfl fun hS => qF <| qC hS rfl hM (fun GO hM => ?_) (fun GO hM => ?_)
      ·refine wp_skip ?_
       refine qg <| wp_seq <| z7 ?_
       obtain ⟨Dp, hM⟩ := qB hM
       obtain ⟨BX, BY, GP, GQ, GR⟩ := BM.get Dp
       obtain ⟨BZ, hM⟩ := qB hM
       obtain ⟨B0, B3, GS, GT, GU⟩ := BM.get BZ
       refine q8 (vals := [some (.slice Bo BC.length Br), some (.int .i64 Bp), some (.slice Bo BC.length Br), some (.int .i64 Bp), some (.int .i64 (qk (Bp + (1 : Int)))), some (.slice Bo BC.length Br), some (.int .i64 Bp), some (.int .i64 (qk (Bp + (1 : Int)))), some (zA Bo (Int.toNat (qk (Bp + (1 : Int))) * 2)), some (.agg ⟨[.int .i64 ((rd Bs (qk (Bp + (1 : Int)))).often_), .slice BX ((rd Bs (qk (Bp + (1 : Int)))).symbols_).length BY]⟩), some (.slice Bo BC.length Br), some (.int .i64 Bp), some (zA Bo (Int.toNat Bp * 2)), some (.agg ⟨[.int .i64 ((rd Bs Bp).often_), .slice B0 ((rd Bs Bp).symbols_).length B3]⟩), some (zA Bo (Int.toNat Bp * 2)), none, none, none]) hS z6 rfl ?_
       intro l w ho hcl hA hst
       refine yx hA hst ho hcl zX z5 15 [0, 1, 2, 3, 4, 5, 6, 7, 8, 9, 10, 11, 12, 13, 14] rfl rfl rfl rfl rfl (by exact ⟨nM rfl, nM rfl, nM rfl, nM rfl, nB rfl, nM rfl, nM rfl, nB rfl, nQ rfl (by exact qR (xd rfl rfl Tryd.runUnderlying110 Tryd.sizeOf112 (BU.rd (i := 1) rfl) qY.len rfl (BM.inb Dp)) rfl), nQ rfl (by exact qR (qR (xV rfl (BU.rd (i := 1) rfl) qY.len (BM.inb Dp) Tryd.isAgg112 Tryd.sizeOf112 rfl) (congrArg (fun l => Value.agg ⟨l⟩) GP)) rfl), nM rfl, nM rfl, nQ rfl (by exact qR (xd rfl rfl Tryd.runUnderlying110 Tryd.sizeOf112 (BU.rd (i := 1) rfl) qY.len rfl (BM.inb BZ)) rfl), nQ rfl (by exact qR (qR (xV rfl (BU.rd (i := 1) rfl) qY.len (BM.inb BZ) Tryd.isAgg112 Tryd.sizeOf112 rfl) (congrArg (fun l => Value.agg ⟨l⟩) GS)) rfl), nQ rfl (by exact qR (xd rfl rfl Tryd.runUnderlying110 Tryd.sizeOf112 (BU.rd (i := 1) rfl) qY.len rfl (BM.inb BZ)) rfl), trivial⟩) fun D l a w ho hcl hav hpre hm hE hk hA hst => ?_
       have hS := (Ss.mk hE hst).env2 (e' := [(70, .agg ⟨[.int .i64 ((rd Bs (qk (Bp + (1 : Int)))).often_), .slice BX ((rd Bs (qk (Bp + (1 : Int)))).symbols_).length BY]⟩), (75, zA Bo (Int.toNat Bp * 2))]) ⟨rfl, rfl, trivial⟩
       refine qP rfl <| vE (i := Bp) (sz := 2) 1 (⟨[.int .i64 ((rd Bs (qk (Bp + (1 : Int)))).often_), .slice BX ((rd Bs (qk (Bp + (1 : Int)))).symbols_).length BY], by simp, by simp [Value.oneCell']⟩ : qY 2) hS rfl rfl BU rfl Tryd.sizeOf112 rfl (BM.inb BZ) fun DZ w LW hz D0 hS => ?_
       obtain ⟨GV, hzm⟩ := yk (Bs.set (Int.toNat Bp) (qb.mk ((rd Bs (qk (Bp + (1 : Int)))).often_) ((rd Bs (qk (Bp + (1 : Int)))).symbols_)))
       replace hM := qA hzm hM
       have Dh := qZ.set (x := (qb.mk ((rd Bs (qk (Bp + (1 : Int)))).often_) ((rd Bs (qk (Bp + (1 : Int)))).symbols_))) (r := (⟨[.int .i64 ((rd Bs (qk (Bp + (1 : Int)))).often_), .slice BX ((rd Bs (qk (Bp + (1 : Int)))).symbols_).length BY], by simp, by simp [Value.oneCell']⟩ : qY 2)) (Int.toNat Bp) BM (show qf By _ _ from ⟨BX, BY, rfl, GQ, GR⟩)
       have Dq : DZ.length = BC.length := by rw [hz]; exact List.length_set ..
       rw [← hz, ← hzm] at Dh; clear hz hzm
       have GW := Eq.trans Dq DY
       refine qF ?_
       replace hst := hS.st
       obtain ⟨D1, hM⟩ := qB hM
       obtain ⟨hcl, hmust, hav2, hA⟩ := QI (vals' := [some (.slice Bo BC.length Br), some (.int .i64 Bp), some (.slice Bo BC.length Br), some (.int .i64 Bp), some (.int .i64 (qk (Bp + (1 : Int)))), some (.slice Bo BC.length Br), some (.int .i64 Bp), some (.int .i64 (qk (Bp + (1 : Int)))), some (zA Bo (Int.toNat (qk (Bp + (1 : Int))) * 2)), some (.agg ⟨[.int .i64 ((rd Bs (qk (Bp + (1 : Int)))).often_), .slice BX ((rd Bs (qk (Bp + (1 : Int)))).symbols_).length BY]⟩), some (.slice Bo BC.length Br), some (.int .i64 Bp), some (zA Bo (Int.toNat Bp * 2)), some (.agg ⟨[.int .i64 ((rd Bs Bp).often_), .slice B0 ((rd Bs Bp).symbols_).length B3]⟩), some (zA Bo (Int.toNat Bp * 2)), some undef, some (zA Bo (Int.toNat (qk (Bp + (1 : Int))) * 2)), none]) 15 [(0, 15), (1, 15), (5, 15), (6, 15), (7, 15), (8, 15), (9, 15), (13, 15), (14, 15), (12, 13), (10, 12), (11, 12)] hA hcl hav hm hpre rfl rfl rfl rfl rfl
       clear hm hav
       refine yx hA hst ho hcl hav2 hmust 17 [2, 3, 4, 16] rfl rfl rfl rfl rfl (by exact ⟨nM rfl, nM rfl, nB rfl, nQ rfl (by exact qR (xd (Zi Dq rfl) rfl Tryd.runUnderlying110 Tryd.sizeOf112 (D0.rd (i := 1) rfl) qY.len rfl (Dh.inb D1)) rfl), trivial⟩) fun D l a w ho hcl hav hpre hm hE hk hA hst => ?_
       have hS := (Ss.mk hE hst).env2 (e' := [(74, .agg ⟨[.int .i64 ((rd Bs Bp).often_), .slice B0 ((rd Bs Bp).symbols_).length B3]⟩), (76, zA Bo (Int.toNat (qk (Bp + (1 : Int))) * 2))]) ⟨rfl, rfl, trivial⟩
       refine qP rfl <| vE (i := (qk (Bp + (1 : Int)))) (sz := 2) 1 (⟨[.int .i64 ((rd Bs Bp).often_), .slice B0 ((rd Bs Bp).symbols_).length B3], by simp, by simp [Value.oneCell']⟩ : qY 2) hS rfl rfl D0 rfl Tryd.sizeOf112 rfl (Dh.inb D1) fun Dr w LI hz GX hS => ?_
       obtain ⟨GY, hzm⟩ := yk (GV.set (Int.toNat (qk (Bp + (1 : Int)))) (qb.mk ((rd Bs Bp).often_) ((rd Bs Bp).symbols_)))
       replace hM := qA hzm hM
       have D2 := qZ.set (x := (qb.mk ((rd Bs Bp).often_) ((rd Bs Bp).symbols_))) (r := (⟨[.int .i64 ((rd Bs Bp).often_), .slice B0 ((rd Bs Bp).symbols_).length B3], by simp, by simp [Value.oneCell']⟩ : qY 2)) (Int.toNat (qk (Bp + (1 : Int)))) Dh (show qf By _ _ from ⟨B0, B3, rfl, GT, GU⟩)
       have D3 : Dr.length = DZ.length := by rw [hz]; exact List.length_set ..
       rw [← hz, ← hzm] at D2; clear hz hzm
       have GZ := Eq.trans D3 GW
       refine qF ?_
       replace hst := hS.st
       obtain ⟨hcl, hmust, hav2, hA⟩ := QI (vals' := [some (.slice Bo BC.length Br), some (.int .i64 Bp), some (.slice Bo BC.length Br), some (.int .i64 Bp), some (.int .i64 (qk (Bp + (1 : Int)))), some (.slice Bo BC.length Br), some (.int .i64 Bp), some (.int .i64 (qk (Bp + (1 : Int)))), some (zA Bo (Int.toNat (qk (Bp + (1 : Int))) * 2)), some (.agg ⟨[.int .i64 ((rd Bs (qk (Bp + (1 : Int)))).often_), .slice BX ((rd Bs (qk (Bp + (1 : Int)))).symbols_).length BY]⟩), some (.slice Bo BC.length Br), some (.int .i64 Bp), some (zA Bo (Int.toNat Bp * 2)), some (.agg ⟨[.int .i64 ((rd Bs Bp).often_), .slice B0 ((rd Bs Bp).symbols_).length B3]⟩), some (zA Bo (Int.toNat Bp * 2)), some undef, some (zA Bo (Int.toNat (qk (Bp + (1 : Int))) * 2)), some undef]) 17 [(0, 17), (1, 17), (2, 17), (3, 17), (4, 17), (5, 17), (6, 17), (7, 17), (8, 17), (9, 17), (10, 17), (11, 17), (12, 17), (13, 17), (14, 17), (15, 17), (16, 17)] hA hcl hav hm hpre rfl rfl rfl rfl rfl
       clear hm hav
       refine xG hA hst ho hcl hmust [] rfl rfl rfl trivial fun a w hS => ?_
       replace hS := hS.env2 (e' := [(0, .slice Bo Dr.length Br), (10, .int .i64 Da), (13, .int .i64 Bp)]) ⟨(ZE (u := .slice Bo BC.length Br) rfl (by rw [D3, Dq])), rfl, rfl, trivial⟩
       refine zk (qg ?_)
       refine zv <| sM hS rfl fun hS => sB hS rfl fun hS => zr (v := Value.int .i64) (x0 := (qk (Bp + (1 : Int)))) hS (z8 rfl) rfl fun G0 a w hz hS => ?_
       have hM := qA hz hM; clear hz
       refine q9 <| qg ?_
       exact GN _ _ ⟨Dr, GY, LI, G0, hS.to [0, 1] (by kernel_rfl) ⟨rfl, rfl, rfl, trivial⟩, GX, D2, GZ, hM⟩
      ·refine wp_exit ?_
       refine qx (qx (qV (qg ?_)))
       refine wp_ret <| zz ?_
       exact zJ (rs := []) hS rfl rfl (hret BC Bs DH _ (zj hM) BU BM DY (hS.st.pick [0, 1] (by kernel_rfl)))
   ·refine wp_skip ?_
    refine qg ?_
    exact GC _ _ ⟨hS.to [0, 1] (by kernel_rfl) ⟨rfl, rfl, rfl, rfl, rfl, trivial⟩, hM⟩
  ·intro a w hI
   obtain ⟨hS, hM⟩ := hI
   rw [qc.j4] at hM
   refine qX (fun a w => Ss 220 [] [(0, .slice Bo Bu.length Br), (1, .int .i64 Bv), (2, .int .i64 Bw), (3, .int .i64 Bz), (4, xA 84 [] [])] H [By, BG] F a w ∧ (qc.j8 K (qc.r K d) Bn Bv Bw Bz).wp kr kp) (fun LX G1 => ?_) ?_
   ·refine wp_seq ?_
    refine zv <| sM hS rfl fun hS => sM hS rfl fun hS => sB hS rfl fun hS => sB hS rfl fun hS => qF <| qC hS rfl hM (fun G2 hM => ?_) (fun G2 hM => ?_)
    ·refine wp_seq ?_
     refine zv <| sM hS rfl fun hS => sA hS rfl fun hS => qF <| qu <| sM hS rfl fun hS => sA hS rfl fun hS => qF <| qX (fun a w => ∃ (Dc : Int), Ss 220 [] [(0, .slice Bo Bu.length Br), (2, .int .i64 Bw), (14, .int .i64 Dc)] H [By, BG] F a w ∧ (qc.j6 K (qc.r K d) Bn Bw Dc).wp kr kp) (fun LY G3 => ?_) ?_
     ·refine z7 ?_
      refine zd (fun Gw a w => ∃ (B4 : Int) (De : Int), Ss 220 [] [(0, .slice Bo Bu.length Br), (2, .int .i64 Bw), (4, xA 84 [] []), (14, .int .i64 B4), (15, .int .i64 De)] H [By, BG] F a w ∧ (qc.l5 K (qc.r K d) Bn Bw Gw B4 De).wp kr kp) K ?_ ?_ ?_
      ·exact ⟨Bv, Bw, hS.to [0, 1] (by kernel_rfl) ⟨rfl, rfl, rfl, rfl, rfl, trivial⟩, hM⟩
      ·intro a w hI; obtain ⟨_, _, _, hM⟩ := hI; exact zc hM
      ·intro Gw a w hI LZ D4
       obtain ⟨B4, De, hS, hM⟩ := hI
       rw [qc.l5] at hM
       refine wp_seq <| qu <| sM hS rfl fun hS => sM hS rfl fun hS => sB hS rfl fun hS => qF <| qC hS rfl hM (fun G4 hM => ?_) (fun G4 hM => ?_)
       ·refine wp_skip ?_
        refine qg <| z7 <| qu <| sM hS rfl fun hS => sM hS rfl fun hS => sB hS rfl fun hS => sO hS (vX rfl Tryd.runUnderlying3 Tryd.runUnderlying39) rfl fun hS => sO hS (shr rfl rfl rfl) rfl fun hS => sO hS (vX rfl Tryd.runUnderlying39 Tryd.runUnderlying3) rfl fun hS => zr (v := Value.int .i64) (x0 := (wr .i64 (zR .u64 (wr .u64 (qk (B4 + De))) (1 : Int)))) hS (z8 rfl) rfl fun BL a w hz hS => ?_
        have hM := qA hz hM; clear hz
        refine qF <| wp_seq ?_
        obtain ⟨Dt, hM⟩ := qB hM
        obtain ⟨DI, DJ, G5, G6, G7⟩ := BA.get Dt
        obtain ⟨Du, hM⟩ := qB hM
        obtain ⟨DK, DL, G8, G9, La⟩ := BA.get Du
        refine q8 (vals := [some (xA 84 [] []), some (.slice Bo Bu.length Br), some (.int .i64 Bw), some (zA Bo (Int.toNat Bw * 2)), some (.agg ⟨[.int .i64 ((rd Bn Bw).often_), .slice DI ((rd Bn Bw).symbols_).length DJ]⟩), some (.slice Bo Bu.length Br), some (.int .i64 BL), some (zA Bo (Int.toNat BL * 2)), some (.agg ⟨[.int .i64 ((rd Bn BL).often_), .slice DK ((rd Bn BL).symbols_).length DL]⟩), none, none, none]) hS z6 rfl ?_
        intro l w ho hcl hA hst
        refine yx hA hst ho hcl zX z5 9 [0, 1, 2, 3, 4, 5, 6, 7, 8] rfl rfl rfl rfl rfl (by exact ⟨nM rfl, nM rfl, nM rfl, nQ rfl (by exact qR (xd rfl rfl Tryd.runUnderlying110 Tryd.sizeOf112 (BF.rd (i := 1) rfl) qY.len rfl (BA.inb Dt)) rfl), nQ rfl (by exact qR (qR (xV rfl (BF.rd (i := 1) rfl) qY.len (BA.inb Dt) Tryd.isAgg112 Tryd.sizeOf112 rfl) (congrArg (fun l => Value.agg ⟨l⟩) G5)) rfl), nM rfl, nM rfl, nQ rfl (by exact qR (xd rfl rfl Tryd.runUnderlying110 Tryd.sizeOf112 (BF.rd (i := 1) rfl) qY.len rfl (BA.inb Du)) rfl), nQ rfl (by exact qR (qR (xV rfl (BF.rd (i := 1) rfl) qY.len (BA.inb Du) Tryd.isAgg112 Tryd.sizeOf112 rfl) (congrArg (fun l => Value.agg ⟨l⟩) G8)) rfl), trivial⟩) fun D l a w ho hcl hav hpre hm hE hk hA hst => ?_
        have hS := (Ss.mk hE hst).env2 (e' := [(92, xA 84 [] []), (96, .agg ⟨[.int .i64 ((rd Bn Bw).often_), .slice DI ((rd Bn Bw).symbols_).length DJ]⟩), (100, .agg ⟨[.int .i64 ((rd Bn BL).often_), .slice DK ((rd Bn BL).symbols_).length DL]⟩)]) ⟨rfl, rfl, rfl, trivial⟩
        refine qP rfl <| y3 hS rfl rfl Tryd.call84 (yp hG K (qb.mk ((rd Bn Bw).often_) ((rd Bn Bw).symbols_)) (qb.mk ((rd Bn BL).often_) ((rd Bn BL).symbols_)) DI DJ DK DL (G6.rdF (i := 0) rfl) G7 (G9.rdF (i := 0) rfl) La (hS.st.part 0 [0, 1] (by kernel_rfl)) (qy hM) (fun DM w hM  hst => qM hS.ev hst.appF rfl fun hS => ?_))
        replace hS : Ss _ _ _ H [By, BG] F _ _ := hS
        refine qF ?_
        replace hst := hS.st
        obtain ⟨hcl, hmust, hav2, hA⟩ := dn (vals' := [some (xA 84 [] []), some (.slice Bo Bu.length Br), some (.int .i64 Bw), some (zA Bo (Int.toNat Bw * 2)), some (.agg ⟨[.int .i64 ((rd Bn Bw).often_), .slice DI ((rd Bn Bw).symbols_).length DJ]⟩), some (.slice Bo Bu.length Br), some (.int .i64 BL), some (zA Bo (Int.toNat BL * 2)), some (.agg ⟨[.int .i64 ((rd Bn BL).often_), .slice DK ((rd Bn BL).symbols_).length DL]⟩), some (.int .i64 DM), some (.bool (decide (DM < (0 : Int)))), some (.bool (!(decide (DM < (0 : Int)))))]) 9 [(0, 9), (4, 9), (8, 9), (3, 4), (7, 8), (1, 3), (2, 3), (5, 7), (6, 7)] hA hcl hav hm hpre hk rfl rfl rfl rfl rfl rfl rfl
        clear hm hav
        refine xG hA hst ho hcl hmust [10, 11] rfl rfl rfl (by exact ⟨nB rfl, nQ rfl (by exact qR (un rfl rfl) rfl), trivial⟩) fun a w hS => ?_
        replace hS := hS.env2 (e' := [(0, .slice Bo Bu.length Br), (2, .int .i64 Bw), (4, xA 84 [] []), (14, .int .i64 B4), (15, .int .i64 De), (16, .int .i64 BL), (103, .bool (!(decide (DM < (0 : Int)))))]) ⟨rfl, rfl, rfl, rfl, rfl, rfl, rfl, trivial⟩
        refine qg <| qC hS rfl hM (fun Lb hM => ?_) (fun Lb hM => ?_)
        ·refine zv ?_
         refine sM hS rfl fun hS => sB hS rfl fun hS => zr (v := Value.int .i64) (x0 := (qk (BL + (1 : Int)))) hS (z8 rfl) rfl fun LJ a w hz hS => ?_
         have hM := qA hz hM; clear hz
         refine q9 <| zk (qg ?_)
         exact D4 _ _ ⟨LJ, De, hS.to [0, 1] (by kernel_rfl) ⟨rfl, rfl, rfl, rfl, rfl, trivial⟩, hM⟩
        ·refine zv ?_
         refine sM hS rfl fun hS => sA hS rfl fun hS => q9 <| zk (qg ?_)
         exact D4 _ _ ⟨B4, BL, hS.to [0, 1] (by kernel_rfl) ⟨rfl, rfl, rfl, rfl, rfl, trivial⟩, hM⟩
       ·refine wp_exit ?_
        refine qx (qx (qV (qg ?_)))
        exact G3 _ _ ⟨B4, hS.to [0, 1] (by kernel_rfl) ⟨rfl, rfl, rfl, trivial⟩, hM⟩
     ·intro a w hI
      obtain ⟨Dc, hS, hM⟩ := hI
      rw [qc.j6] at hM
      refine wp_seq <| qu <| sM hS rfl fun hS => sA hS rfl fun hS => qF <| z7 <| zd (fun Gx a w => ∃ (BD : List (qY 2)) (Bt : (List qb)) (DN : qs) (Bq : Int), Ss 220 [] [(0, .slice Bo BD.length Br), (14, .int .i64 Dc), (17, .int .i64 Bq)] H [By, DN] F a w ∧ (zC 112 (qY.v (sz := 2)) 2 Bo BD Br DN) ∧ (qZ (qf By) Bt BD) ∧ (BD.length = Bu.length) ∧ (qc.l7 K (qc.r K d) Dc Gx Bt Bq).wp kr kp) K ?_ ?_ ?_
      ·exact ⟨Bu, Bn, BG, Bw, hS.to [0, 1] (by kernel_rfl) ⟨rfl, rfl, rfl, trivial⟩, BF, BA, Dg, hM⟩
      ·intro a w hI; obtain ⟨_, _, _, _, _, _, _, _, hM⟩ := hI; exact zc hM
      ·intro Gx a w hI L0 Lc
       obtain ⟨BD, Bt, DN, Bq, hS, BV, BN, D5, hM⟩ := hI
       rw [qc.l7] at hM
       refine wp_seq <| qu <| sM hS rfl fun hS => sM hS rfl fun hS => sB hS rfl fun hS => qF <| qC hS rfl hM (fun Ld hM => ?_) (fun Ld hM => ?_)
       ·refine wp_skip ?_
        refine qg <| wp_seq <| z7 ?_
        obtain ⟨Dv, hM⟩ := qB hM
        obtain ⟨B5, B6, Le, Lf, Lg⟩ := BN.get Dv
        obtain ⟨B7, hM⟩ := qB hM
        obtain ⟨B8, B9, Lh, Li, Lj⟩ := BN.get B7
        refine q8 (vals := [some (.slice Bo BD.length Br), some (.int .i64 Bq), some (.slice Bo BD.length Br), some (.int .i64 Bq), some (.int .i64 (qk (Bq - (1 : Int)))), some (.slice Bo BD.length Br), some (.int .i64 Bq), some (.int .i64 (qk (Bq - (1 : Int)))), some (zA Bo (Int.toNat (qk (Bq - (1 : Int))) * 2)), some (.agg ⟨[.int .i64 ((rd Bt (qk (Bq - (1 : Int)))).often_), .slice B5 ((rd Bt (qk (Bq - (1 : Int)))).symbols_).length B6]⟩), some (.slice Bo BD.length Br), some (.int .i64 Bq), some (zA Bo (Int.toNat Bq * 2)), some (.agg ⟨[.int .i64 ((rd Bt Bq).often_), .slice B8 ((rd Bt Bq).symbols_).length B9]⟩), some (zA Bo (Int.toNat Bq * 2)), none, none, none]) hS z6 rfl ?_
        intro l w ho hcl hA hst
        refine yx hA hst ho hcl zX z5 15 [0, 1, 2, 3, 4, 5, 6, 7, 8, 9, 10, 11, 12, 13, 14] rfl rfl rfl rfl rfl (by exact ⟨nM rfl, nM rfl, nM rfl, nM rfl, nB rfl, nM rfl, nM rfl, nB rfl, nQ rfl (by exact qR (xd rfl rfl Tryd.runUnderlying110 Tryd.sizeOf112 (BV.rd (i := 1) rfl) qY.len rfl (BN.inb Dv)) rfl), nQ rfl (by exact qR (qR (xV rfl (BV.rd (i := 1) rfl) qY.len (BN.inb Dv) Tryd.isAgg112 Tryd.sizeOf112 rfl) (congrArg (fun l => Value.agg ⟨l⟩) Le)) rfl), nM rfl, nM rfl, nQ rfl (by exact qR (xd rfl rfl Tryd.runUnderlying110 Tryd.sizeOf112 (BV.rd (i := 1) rfl) qY.len rfl (BN.inb B7)) rfl), nQ rfl (by exact qR (qR (xV rfl (BV.rd (i := 1) rfl) qY.len (BN.inb B7) Tryd.isAgg112 Tryd.sizeOf112 rfl) (congrArg (fun l => Value.agg ⟨l⟩) Lh)) rfl), nQ rfl (by exact qR (xd rfl rfl Tryd.runUnderlying110 Tryd.sizeOf112 (BV.rd (i := 1) rfl) qY.len rfl (BN.inb B7)) rfl), trivial⟩) fun D l a w ho hcl hav hpre hm hE hk hA hst => ?_
        have hS := (Ss.mk hE hst).env2 (e' := [(122, .agg ⟨[.int .i64 ((rd Bt (qk (Bq - (1 : Int)))).often_), .slice B5 ((rd Bt (qk (Bq - (1 : Int)))).symbols_).length B6]⟩), (127, zA Bo (Int.toNat Bq * 2))]) ⟨rfl, rfl, trivial⟩
        refine qP rfl <| vE (i := Bq) (sz := 2) 1 (⟨[.int .i64 ((rd Bt (qk (Bq - (1 : Int)))).often_), .slice B5 ((rd Bt (qk (Bq - (1 : Int)))).symbols_).length B6], by simp, by simp [Value.oneCell']⟩ : qY 2) hS rfl rfl BV rfl Tryd.sizeOf112 rfl (BN.inb B7) fun D6 w L1 hz D7 hS => ?_
        obtain ⟨Lk, hzm⟩ := yk (Bt.set (Int.toNat Bq) (qb.mk ((rd Bt (qk (Bq - (1 : Int)))).often_) ((rd Bt (qk (Bq - (1 : Int)))).symbols_)))
        replace hM := qA hzm hM
        have Di := qZ.set (x := (qb.mk ((rd Bt (qk (Bq - (1 : Int)))).often_) ((rd Bt (qk (Bq - (1 : Int)))).symbols_))) (r := (⟨[.int .i64 ((rd Bt (qk (Bq - (1 : Int)))).often_), .slice B5 ((rd Bt (qk (Bq - (1 : Int)))).symbols_).length B6], by simp, by simp [Value.oneCell']⟩ : qY 2)) (Int.toNat Bq) BN (show qf By _ _ from ⟨B5, B6, rfl, Lf, Lg⟩)
        have Dw : D6.length = BD.length := by rw [hz]; exact List.length_set ..
        rw [← hz, ← hzm] at Di; clear hz hzm
        have Ll := Eq.trans Dw D5
        refine qF ?_
        replace hst := hS.st
        obtain ⟨D8, hM⟩ := qB hM
        obtain ⟨hcl, hmust, hav2, hA⟩ := QI (vals' := [some (.slice Bo BD.length Br), some (.int .i64 Bq), some (.slice Bo BD.length Br), some (.int .i64 Bq), some (.int .i64 (qk (Bq - (1 : Int)))), some (.slice Bo BD.length Br), some (.int .i64 Bq), some (.int .i64 (qk (Bq - (1 : Int)))), some (zA Bo (Int.toNat (qk (Bq - (1 : Int))) * 2)), some (.agg ⟨[.int .i64 ((rd Bt (qk (Bq - (1 : Int)))).often_), .slice B5 ((rd Bt (qk (Bq - (1 : Int)))).symbols_).length B6]⟩), some (.slice Bo BD.length Br), some (.int .i64 Bq), some (zA Bo (Int.toNat Bq * 2)), some (.agg ⟨[.int .i64 ((rd Bt Bq).often_), .slice B8 ((rd Bt Bq).symbols_).length B9]⟩), some (zA Bo (Int.toNat Bq * 2)), some undef, some (zA Bo (Int.toNat (qk (Bq - (1 : Int))) * 2)), none]) 15 [(0, 15), (1, 15), (5, 15), (6, 15), (7, 15), (8, 15), (9, 15), (13, 15), (14, 15), (12, 13), (10, 12), (11, 12)] hA hcl hav hm hpre rfl rfl rfl rfl rfl
        clear hm hav
        refine yx hA hst ho hcl hav2 hmust 17 [2, 3, 4, 16] rfl rfl rfl rfl rfl (by exact ⟨nM rfl, nM rfl, nB rfl, nQ rfl (by exact qR (xd (Zi Dw rfl) rfl Tryd.runUnderlying110 Tryd.sizeOf112 (D7.rd (i := 1) rfl) qY.len rfl (Di.inb D8)) rfl), trivial⟩) fun D l a w ho hcl hav hpre hm hE hk hA hst => ?_
        have hS := (Ss.mk hE hst).env2 (e' := [(126, .agg ⟨[.int .i64 ((rd Bt Bq).often_), .slice B8 ((rd Bt Bq).symbols_).length B9]⟩), (128, zA Bo (Int.toNat (qk (Bq - (1 : Int))) * 2))]) ⟨rfl, rfl, trivial⟩
        refine qP rfl <| vE (i := (qk (Bq - (1 : Int)))) (sz := 2) 1 (⟨[.int .i64 ((rd Bt Bq).often_), .slice B8 ((rd Bt Bq).symbols_).length B9], by simp, by simp [Value.oneCell']⟩ : qY 2) hS rfl rfl D7 rfl Tryd.sizeOf112 rfl (Di.inb D8) fun Dx w LK hz Lm hS => ?_
        obtain ⟨Ln, hzm⟩ := yk (Lk.set (Int.toNat (qk (Bq - (1 : Int)))) (qb.mk ((rd Bt Bq).often_) ((rd Bt Bq).symbols_)))
        replace hM := qA hzm hM
        have D9 := qZ.set (x := (qb.mk ((rd Bt Bq).often_) ((rd Bt Bq).symbols_))) (r := (⟨[.int .i64 ((rd Bt Bq).often_), .slice B8 ((rd Bt Bq).symbols_).length B9], by simp, by simp [Value.oneCell']⟩ : qY 2)) (Int.toNat (qk (Bq - (1 : Int)))) Di (show qf By _ _ from ⟨B8, B9, rfl, Li, Lj⟩)
        have Ga : Dx.length = D6.length := by rw [hz]; exact List.length_set ..
        rw [← hz, ← hzm] at D9; clear hz hzm
        have Lo := Eq.trans Ga Ll
        refine qF ?_
        replace hst := hS.st
        obtain ⟨hcl, hmust, hav2, hA⟩ := QI (vals' := [some (.slice Bo BD.length Br), some (.int .i64 Bq), some (.slice Bo BD.length Br), some (.int .i64 Bq), some (.int .i64 (qk (Bq - (1 : Int)))), some (.slice Bo BD.length Br), some (.int .i64 Bq), some (.int .i64 (qk (Bq - (1 : Int)))), some (zA Bo (Int.toNat (qk (Bq - (1 : Int))) * 2)), some (.agg ⟨[.int .i64 ((rd Bt (qk (Bq - (1 : Int)))).often_), .slice B5 ((rd Bt (qk (Bq - (1 : Int)))).symbols_).length B6]⟩), some (.slice Bo BD.length Br), some (.int .i64 Bq), some (zA Bo (Int.toNat Bq * 2)), some (.agg ⟨[.int .i64 ((rd Bt Bq).often_), .slice B8 ((rd Bt Bq).symbols_).length B9]⟩), some (zA Bo (Int.toNat Bq * 2)), some undef, some (zA Bo (Int.toNat (qk (Bq - (1 : Int))) * 2)), some undef]) 17 [(0, 17), (1, 17), (2, 17), (3, 17), (4, 17), (5, 17), (6, 17), (7, 17), (8, 17), (9, 17), (10, 17), (11, 17), (12, 17), (13, 17), (14, 17), (15, 17), (16, 17)] hA hcl hav hm hpre rfl rfl rfl rfl rfl
        clear hm hav
        refine xG hA hst ho hcl hmust [] rfl rfl rfl trivial fun a w hS => ?_
        replace hS := hS.env2 (e' := [(0, .slice Bo Dx.length Br), (14, .int .i64 Dc), (17, .int .i64 Bq)]) ⟨(ZE (u := .slice Bo BD.length Br) rfl (by rw [Ga, Dw])), rfl, rfl, trivial⟩
        refine zk (qg ?_)
        refine zv <| sM hS rfl fun hS => sB hS rfl fun hS => zr (v := Value.int .i64) (x0 := (qk (Bq - (1 : Int)))) hS (z8 rfl) rfl fun Lp a w hz hS => ?_
        have hM := qA hz hM; clear hz
        refine q9 <| qg ?_
        exact Lc _ _ ⟨Dx, Ln, LK, Lp, hS.to [0, 1] (by kernel_rfl) ⟨rfl, rfl, rfl, trivial⟩, Lm, D9, Lo, hM⟩
       ·refine wp_exit ?_
        refine qx (qx (qV (qg ?_)))
        refine wp_ret <| zz ?_
        exact zJ (rs := []) hS rfl rfl (hret BD Bt DN _ (zj hM) BV BN D5 (hS.st.pick [0, 1] (by kernel_rfl)))
    ·refine wp_skip ?_
     refine qg ?_
     exact G1 _ _ ⟨hS.to [0, 1] (by kernel_rfl) ⟨rfl, rfl, rfl, rfl, rfl, trivial⟩, hM⟩
   ·intro a w hI
    obtain ⟨hS, hM⟩ := hI
    rw [qc.j8] at hM
    refine qu <| sM hS rfl fun hS => sM hS rfl fun hS => sB hS rfl fun hS => sO hS (vX rfl Tryd.runUnderlying3 Tryd.runUnderlying39) rfl fun hS => sO hS (shr rfl rfl rfl) rfl fun hS => sO hS (vX rfl Tryd.runUnderlying39 Tryd.runUnderlying3) rfl fun hS => zr (v := Value.int .i64) (x0 := (wr .i64 (zR .u64 (wr .u64 (qk (Bv + Bz))) (1 : Int)))) hS (z8 rfl) rfl fun BB a w hz hS => ?_
    have hM := qA hz hM; clear hz
    refine qF <| qu <| sM hS rfl fun hS => sM hS rfl fun hS => sB hS rfl fun hS => zr (v := Value.int .i64) (x0 := (qk (BB + Bw))) hS (z8 rfl) rfl fun BO a w hz hS => ?_
    have hM := qA hz hM; clear hz
    refine qF <| qu <| sA hS rfl fun hS => sA hS rfl fun hS => qF <| qX (fun a w => ∃ (BT : Int) (DO : Int), Ss 220 [] [(0, .slice Bo Bu.length Br), (1, .int .i64 Bv), (2, .int .i64 Bw), (3, .int .i64 Bz), (4, xA 84 [] []), (18, .int .i64 BB), (19, .int .i64 BO), (20, .int .i64 BT), (21, .int .i64 DO)] H [By, BG] F a w ∧ (qc.j9 K (qc.r K d) Bn Bv Bw Bz BB BO BT DO).wp kr kp) (fun L3 Gb => ?_) ?_
    ·refine wp_seq ?_
     refine zv <| sM hS rfl fun hS => sM hS rfl fun hS => sB hS rfl fun hS => qF <| qC hS rfl hM (fun Lq hM => ?_) (fun Lq hM => ?_)
     ·refine wp_seq ?_
      refine zv <| sM hS rfl fun hS => sM hS rfl fun hS => sB hS rfl fun hS => zr (v := Value.int .i64) (x0 := (qk (BO - Bz))) hS (z8 rfl) rfl fun DU a w hz hS => ?_
      have hM := qA hz hM; clear hz
      refine qF <| zv <| sM hS rfl fun hS => sA hS rfl fun hS => q9 <| qg ?_
      exact Gb _ _ ⟨DU, BB, hS.to [0, 1] (by kernel_rfl) ⟨rfl, rfl, rfl, rfl, rfl, rfl, rfl, rfl, rfl, trivial⟩, hM⟩
     ·refine wp_seq ?_
      refine zv <| sM hS rfl fun hS => sA hS rfl fun hS => qF <| zv <| sM hS rfl fun hS => sA hS rfl fun hS => q9 <| qg ?_
      exact Gb _ _ ⟨Bv, Bw, hS.to [0, 1] (by kernel_rfl) ⟨rfl, rfl, rfl, rfl, rfl, rfl, rfl, rfl, rfl, trivial⟩, hM⟩
    ·intro a w hI
     obtain ⟨BT, DO, hS, hM⟩ := hI
     rw [qc.j9] at hM
     refine qu <| sM hS rfl fun hS => sB hS rfl fun hS => zr (v := Value.int .i64) (x0 := (qk (BO - (1 : Int)))) hS (z8 rfl) rfl fun BJ a w hz hS => ?_
     have hM := qA hz hM; clear hz
     refine qF <| qX (fun a w => ∃ (BE : Int), Ss 220 [] [(0, .slice Bo Bu.length Br), (1, .int .i64 Bv), (2, .int .i64 Bw), (3, .int .i64 Bz), (4, xA 84 [] []), (18, .int .i64 BB), (19, .int .i64 BO), (20, .int .i64 BE)] H [By, BG] F a w ∧ (qc.j11 K (qc.r K d) Bn Bv Bw Bz BB BO BE).wp kr kp) (fun L4 Lr => ?_) ?_
     ·refine z7 ?_
      refine zd (fun Gy a w => ∃ (BI : Int) (Df : Int), Ss 220 [] [(0, .slice Bo Bu.length Br), (1, .int .i64 Bv), (2, .int .i64 Bw), (3, .int .i64 Bz), (4, xA 84 [] []), (18, .int .i64 BB), (19, .int .i64 BO), (20, .int .i64 BI), (21, .int .i64 Df), (22, .int .i64 BJ)] H [By, BG] F a w ∧ (qc.l10 K (qc.r K d) Bn Bv Bw Bz BB BO BJ Gy BI Df).wp kr kp) K ?_ ?_ ?_
      ·exact ⟨BT, DO, hS.to [0, 1] (by kernel_rfl) ⟨rfl, rfl, rfl, rfl, rfl, rfl, rfl, rfl, rfl, rfl, trivial⟩, hM⟩
      ·intro a w hI; obtain ⟨_, _, _, hM⟩ := hI; exact zc hM
      ·intro Gy a w hI L5 Gc
       obtain ⟨BI, Df, hS, hM⟩ := hI
       rw [qc.l10] at hM
       refine wp_seq <| qu <| sM hS rfl fun hS => sM hS rfl fun hS => sB hS rfl fun hS => qF <| qC hS rfl hM (fun Lt hM => ?_) (fun Lt hM => ?_)
       ·refine wp_skip ?_
        refine qg <| z7 <| qu <| sM hS rfl fun hS => sM hS rfl fun hS => sB hS rfl fun hS => sO hS (vX rfl Tryd.runUnderlying3 Tryd.runUnderlying39) rfl fun hS => sO hS (shr rfl rfl rfl) rfl fun hS => sO hS (vX rfl Tryd.runUnderlying39 Tryd.runUnderlying3) rfl fun hS => zr (v := Value.int .i64) (x0 := (wr .i64 (zR .u64 (wr .u64 (qk (BI + Df))) (1 : Int)))) hS (z8 rfl) rfl fun Bx a w hz hS => ?_
        have hM := qA hz hM; clear hz
        refine qF <| wp_seq ?_
        obtain ⟨Dy, hM⟩ := qB hM
        obtain ⟨DP, DQ, Lu, Lv, Lw⟩ := BA.get Dy
        obtain ⟨Dz, hM⟩ := qB hM
        obtain ⟨DR, DS, Lx, Ly, Lz⟩ := BA.get Dz
        refine q8 (vals := [some (xA 84 [] []), some (.slice Bo Bu.length Br), some (.int .i64 BJ), some (.int .i64 Bx), some (.int .i64 (qk (BJ - Bx))), some (zA Bo (Int.toNat (qk (BJ - Bx)) * 2)), some (.agg ⟨[.int .i64 ((rd Bn (qk (BJ - Bx))).often_), .slice DP ((rd Bn (qk (BJ - Bx))).symbols_).length DQ]⟩), some (.slice Bo Bu.length Br), some (.int .i64 Bx), some (zA Bo (Int.toNat Bx * 2)), some (.agg ⟨[.int .i64 ((rd Bn Bx).often_), .slice DR ((rd Bn Bx).symbols_).length DS]⟩), none, none, none]) hS z6 rfl ?_
        intro l w ho hcl hA hst
        refine yx hA hst ho hcl zX z5 11 [0, 1, 2, 3, 4, 5, 6, 7, 8, 9, 10] rfl rfl rfl rfl rfl (by exact ⟨nM rfl, nM rfl, nM rfl, nM rfl, nB rfl, nQ rfl (by exact qR (xd rfl rfl Tryd.runUnderlying110 Tryd.sizeOf112 (BF.rd (i := 1) rfl) qY.len rfl (BA.inb Dy)) rfl), nQ rfl (by exact qR (qR (xV rfl (BF.rd (i := 1) rfl) qY.len (BA.inb Dy) Tryd.isAgg112 Tryd.sizeOf112 rfl) (congrArg (fun l => Value.agg ⟨l⟩) Lu)) rfl), nM rfl, nM rfl, nQ rfl (by exact qR (xd rfl rfl Tryd.runUnderlying110 Tryd.sizeOf112 (BF.rd (i := 1) rfl) qY.len rfl (BA.inb Dz)) rfl), nQ rfl (by exact qR (qR (xV rfl (BF.rd (i := 1) rfl) qY.len (BA.inb Dz) Tryd.isAgg112 Tryd.sizeOf112 rfl) (congrArg (fun l => Value.agg ⟨l⟩) Lx)) rfl), trivial⟩) fun D l a w ho hcl hav hpre hm hE hk hA hst => ?_
        have hS := (Ss.mk hE hst).env2 (e' := [(158, xA 84 [] []), (164, .agg ⟨[.int .i64 ((rd Bn (qk (BJ - Bx))).often_), .slice DP ((rd Bn (qk (BJ - Bx))).symbols_).length DQ]⟩), (168, .agg ⟨[.int .i64 ((rd Bn Bx).often_), .slice DR ((rd Bn Bx).symbols_).length DS]⟩)]) ⟨rfl, rfl, rfl, trivial⟩
        refine qP rfl <| y3 hS rfl rfl Tryd.call84 (yp hG K (qb.mk ((rd Bn (qk (BJ - Bx))).often_) ((rd Bn (qk (BJ - Bx))).symbols_)) (qb.mk ((rd Bn Bx).often_) ((rd Bn Bx).symbols_)) DP DQ DR DS (Lv.rdF (i := 0) rfl) Lw (Ly.rdF (i := 0) rfl) Lz (hS.st.part 0 [0, 1] (by kernel_rfl)) (qy hM) (fun DT w hM  hst => qM hS.ev hst.appF rfl fun hS => ?_))
        replace hS : Ss _ _ _ H [By, BG] F _ _ := hS
        refine qF ?_
        replace hst := hS.st
        obtain ⟨hcl, hmust, hav2, hA⟩ := dn (vals' := [some (xA 84 [] []), some (.slice Bo Bu.length Br), some (.int .i64 BJ), some (.int .i64 Bx), some (.int .i64 (qk (BJ - Bx))), some (zA Bo (Int.toNat (qk (BJ - Bx)) * 2)), some (.agg ⟨[.int .i64 ((rd Bn (qk (BJ - Bx))).often_), .slice DP ((rd Bn (qk (BJ - Bx))).symbols_).length DQ]⟩), some (.slice Bo Bu.length Br), some (.int .i64 Bx), some (zA Bo (Int.toNat Bx * 2)), some (.agg ⟨[.int .i64 ((rd Bn Bx).often_), .slice DR ((rd Bn Bx).symbols_).length DS]⟩), some (.int .i64 DT), some (.bool (decide (DT < (0 : Int)))), some (.bool (!(decide (DT < (0 : Int)))))]) 11 [(0, 11), (6, 11), (10, 11), (5, 6), (9, 10), (1, 5), (4, 5), (7, 9), (8, 9), (2, 4), (3, 4)] hA hcl hav hm hpre hk rfl rfl rfl rfl rfl rfl rfl
        clear hm hav
        refine xG hA hst ho hcl hmust [12, 13] rfl rfl rfl (by exact ⟨nB rfl, nQ rfl (by exact qR (un rfl rfl) rfl), trivial⟩) fun a w hS => ?_
        replace hS := hS.env2 (e' := [(0, .slice Bo Bu.length Br), (1, .int .i64 Bv), (2, .int .i64 Bw), (3, .int .i64 Bz), (4, xA 84 [] []), (18, .int .i64 BB), (19, .int .i64 BO), (20, .int .i64 BI), (21, .int .i64 Df), (22, .int .i64 BJ), (23, .int .i64 Bx), (171, .bool (!(decide (DT < (0 : Int)))))]) ⟨rfl, rfl, rfl, rfl, rfl, rfl, rfl, rfl, rfl, rfl, rfl, rfl, trivial⟩
        refine qg <| qC hS rfl hM (fun LA hM => ?_) (fun LA hM => ?_)
        ·refine zv ?_
         refine sM hS rfl fun hS => sB hS rfl fun hS => zr (v := Value.int .i64) (x0 := (qk (Bx + (1 : Int)))) hS (z8 rfl) rfl fun DV a w hz hS => ?_
         have hM := qA hz hM; clear hz
         refine q9 <| zk (qg ?_)
         exact Gc _ _ ⟨DV, Df, hS.to [0, 1] (by kernel_rfl) ⟨rfl, rfl, rfl, rfl, rfl, rfl, rfl, rfl, rfl, rfl, trivial⟩, hM⟩
        ·refine zv ?_
         refine sM hS rfl fun hS => sA hS rfl fun hS => q9 <| zk (qg ?_)
         exact Gc _ _ ⟨BI, Bx, hS.to [0, 1] (by kernel_rfl) ⟨rfl, rfl, rfl, rfl, rfl, rfl, rfl, rfl, rfl, rfl, trivial⟩, hM⟩
       ·refine wp_exit ?_
        refine qx (qx (qV (qg ?_)))
        exact Lr _ _ ⟨BI, hS.to [0, 1] (by kernel_rfl) ⟨rfl, rfl, rfl, rfl, rfl, rfl, rfl, rfl, trivial⟩, hM⟩
     ·intro a w hI
      obtain ⟨BE, hS, hM⟩ := hI
      rw [qc.j11] at hM
      refine qu <| sM hS rfl fun hS => sM hS rfl fun hS => sB hS rfl fun hS => zr (v := Value.int .i64) (x0 := (qk (BO - BE))) hS (z8 rfl) rfl fun BH a w hz hS => ?_
      have hM := qA hz hM; clear hz
      refine qF <| qX (fun a w => ∃ (BP : List (qY 2)) (BR : (List qb)) (Dk : qs), Ss 220 [] [(0, .slice Bo BP.length Br), (1, .int .i64 Bv), (3, .int .i64 Bz), (4, xA 84 [] []), (18, .int .i64 BB), (20, .int .i64 BE), (24, .int .i64 BH)] H [By, Dk] F a w ∧ (zC 112 (qY.v (sz := 2)) 2 Bo BP Br Dk) ∧ (qZ (qf By) BR BP) ∧ (BP.length = Bu.length) ∧ (qc.j12 K (qc.r K d) Bv Bz BB BE BH BR).wp kr kp) (fun L6 Gd => ?_) ?_
      ·refine wp_seq ?_
       refine zv <| sM hS rfl fun hS => sM hS rfl fun hS => sB hS rfl fun hS => sM hS rfl fun hS => yr 3 true 181 (b := (decide (BE < Bw))) (r := (decide (Bw < BH))) hS rfl rfl rfl rfl rfl rfl rfl (fun hb a w hS K hK => ?_) rfl fun a w hS => ?_
       ·refine zF hS rfl rfl rfl hb (mv rfl) rfl fun a w hS => ?_
        refine zF hS rfl rfl rfl hb (mv rfl) rfl fun a w hS => zF hS rfl rfl rfl hb (yN rfl rfl rfl) rfl fun a w hS => ?_
        exact q9 (hK _ _ (hS.up 3 rfl rfl))
       refine qF <| qC hS rfl hM (fun LB hM => ?_) (fun LB hM => ?_)
       ·refine zv ?_
        refine sM hS rfl fun hS => sM hS rfl fun hS => sM hS rfl fun hS => sM hS rfl fun hS => sM hS rfl fun hS => qO hS rfl Tryd.call108 (xL hG K Bn BE Bw BH By Bo Br Bu BG BA BF (hS.st.part 2 [0, 1] (by kernel_rfl)) (qy hM) (fun DA Ge Gz w hM LL LM Gf hst => qM hS.ev hst.appF rfl fun hS => ?_))
        replace hS : Ss _ _ _ H [By, Gz] F _ _ := hS
        have LC := Eq.trans Gf Dg
        replace hS := hS.re 0 (u := .slice Bo Bu.length Br) (v := .slice Bo DA.length Br) rfl (by rw [Gf])
        replace hS := hS.re 186 (u := .slice Bo Bu.length Br) (v := .slice Bo DA.length Br) rfl (by rw [Gf])
        refine q9 <| qg ?_
        exact Gd _ _ ⟨DA, Ge, Gz, hS.to [0, 1] (by kernel_rfl) ⟨rfl, rfl, rfl, rfl, rfl, rfl, rfl, trivial⟩, LL, LM, LC, hM⟩
       ·refine wp_skip ?_
        refine qg ?_
        exact Gd _ _ ⟨Bu, Bn, BG, hS.to [0, 1] (by kernel_rfl) ⟨rfl, rfl, rfl, rfl, rfl, rfl, rfl, trivial⟩, BF, BA, Dg, hM⟩
      ·intro a w hI
       obtain ⟨BP, BR, Dk, hS, Gg, Gh, Gi, hM⟩ := hI
       rw [qc.j12] at hM
       refine qX (fun a w => ∃ (BQ : List (qY 2)) (BS : (List qb)) (Dl : qs), Ss 220 [] [(0, .slice Bo BQ.length Br), (3, .int .i64 Bz), (4, xA 84 [] []), (18, .int .i64 BB), (24, .int .i64 BH)] H [By, Dl] F a w ∧ (zC 112 (qY.v (sz := 2)) 2 Bo BQ Br Dl) ∧ (qZ (qf By) BS BQ) ∧ (BQ.length = Bu.length) ∧ (qc.j13 K (qc.r K d) Bz BB BH BS).wp kr kp) (fun L7 Gj => ?_) ?_
       ·refine wp_seq ?_
        refine zv <| sM hS rfl fun hS => sM hS rfl fun hS => sB hS rfl fun hS => sM hS rfl fun hS => yr 3 true 195 (b := (decide (Bv < BE))) (r := (decide (BE < BB))) hS rfl rfl rfl rfl rfl rfl rfl (fun hb a w hS K hK => ?_) rfl fun a w hS => ?_
        ·refine zF hS rfl rfl rfl hb (mv rfl) rfl fun a w hS => ?_
         refine zF hS rfl rfl rfl hb (mv rfl) rfl fun a w hS => zF hS rfl rfl rfl hb (yN rfl rfl rfl) rfl fun a w hS => ?_
         exact q9 (hK _ _ (hS.up 3 rfl rfl))
        refine qF <| qC hS rfl hM (fun LD hM => ?_) (fun LD hM => ?_)
        ·refine zv ?_
         refine sM hS rfl fun hS => sM hS rfl fun hS => sM hS rfl fun hS => sM hS rfl fun hS => sM hS rfl fun hS => qO hS rfl Tryd.call100 (ih hG  BR Bv BE BB By Bo Br BP Dk Gh Gg (hS.st.part 2 [0, 1] (by kernel_rfl)) (qy hM) (fun DB Gk GA w hM LN LO Gm hst => qM hS.ev hst.appF rfl fun hS => ?_))
         replace hS : Ss _ _ _ H [By, GA] F _ _ := hS
         have LE := Eq.trans Gm Gi
         replace hS := hS.re 0 (u := .slice Bo BP.length Br) (v := .slice Bo DB.length Br) rfl (by rw [Gm])
         replace hS := hS.re 200 (u := .slice Bo BP.length Br) (v := .slice Bo DB.length Br) rfl (by rw [Gm])
         refine q9 <| qg ?_
         exact Gj _ _ ⟨DB, Gk, GA, hS.to [0, 1] (by kernel_rfl) ⟨rfl, rfl, rfl, rfl, rfl, trivial⟩, LN, LO, LE, hM⟩
        ·refine wp_skip ?_
         refine qg ?_
         exact Gj _ _ ⟨BP, BR, Dk, hS.to [0, 1] (by kernel_rfl) ⟨rfl, rfl, rfl, rfl, rfl, trivial⟩, Gg, Gh, Gi, hM⟩
       ·intro a w hI
        obtain ⟨BQ, BS, Dl, hS, Gn, Gp, Gq, hM⟩ := hI
        rw [qc.j13] at hM
        refine qu <| sM hS rfl fun hS => sM hS rfl fun hS => sB hS rfl fun hS => sM hS rfl fun hS => yr 3 true 209 (b := (decide (BB < BH))) (r := (decide (BH < Bz))) hS rfl rfl rfl rfl rfl rfl rfl (fun hb a w hS K hK => ?_) rfl fun a w hS => ?_
        ·refine zF hS rfl rfl rfl hb (mv rfl) rfl fun a w hS => ?_
         refine zF hS rfl rfl rfl hb (mv rfl) rfl fun a w hS => zF hS rfl rfl rfl hb (yN rfl rfl rfl) rfl fun a w hS => ?_
         exact q9 (hK _ _ (hS.up 3 rfl rfl))
        refine qF <| qC hS rfl hM (fun LF hM => ?_) (fun LF hM => ?_)
        ·refine zv ?_
         refine sM hS rfl fun hS => sM hS rfl fun hS => sM hS rfl fun hS => sM hS rfl fun hS => sM hS rfl fun hS => qO hS rfl Tryd.call100 (ih hG  BS BB BH Bz By Bo Br BQ Dl Gp Gn (hS.st.part 2 [0, 1] (by kernel_rfl)) (qy hM) (fun DC Gr GB w hM LP LQ Gs hst => qM hS.ev hst.appF rfl fun hS => ?_))
         replace hS : Ss _ _ _ H [By, GB] F _ _ := hS
         have LG := Eq.trans Gs Gq
         replace hS := hS.re 0 (u := .slice Bo BQ.length Br) (v := .slice Bo DC.length Br) rfl (by rw [Gs])
         replace hS := hS.re 214 (u := .slice Bo BQ.length Br) (v := .slice Bo DC.length Br) rfl (by rw [Gs])
         refine q9 ?_
         exact yj (rs := []) hS rfl rfl (hret DC Gr GB _ (zj hM) LP LQ LG (hS.st.pick [0, 1] (by kernel_rfl)))
        ·refine wp_skip ?_
         exact yj (rs := []) hS rfl rfl (hret BQ BS Dl _ (zj hM) Gn Gp Gq (hS.st.pick [0, 1] (by kernel_rfl)))
theorem z2 {H : xl} {F : List qs} {w : World} {R : Ending → World → Prop} {kr : (List qb) → Prop} {kp : Value → Prop} (hG : Gl H) (K : Nat) (Bn : List qb) (Br : Int) (Bw : Int) (Bs : Int) (Bp : qs) (Bu : Option Addr) (Bv : Nat) (Bo : List (qY 2)) (Bx : qs) (Bz : qZ (qf Bp) Bn Bo) (BA : zC 112 (qY.v (sz := 2)) 2 Bu Bo Bv Bx)
    (hS : St w H [Bp, Bx] F) (hm : (qc.m K Bn Br Bw Bs).wp kr kp)
    (hret : ∀ (Bt : List (qY 2)) (Bq : (List qb)) (By : qs) (w : World), kr Bq → (zC 112 (qY.v (sz := 2)) 2 Bu Bt Bv By) → (qZ (qf Bp) Bq Bt) → (Bt.length = Bo.length) → St w H [Bp, By] F → R (.returned (.tuple ⟨[]⟩)) w) :
    Calls Tryd.prog 100 ⟨[.slice Bu Bo.length Bv, .int .i64 Br, .int .i64 Bw, .int .i64 Bs, xA 84 [] []]⟩ w R := xC K K hG Bn Br Bw Bs Bp Bu Bv Bo Bx Bz BA hS hm hret
theorem xN {H : xl} {F : List qs} {w : World} {R : Ending → World → Prop} {kr : (List qb) → Prop} {kp : Value → Prop} (hG : Gl H) (K : Nat) (BG : List qb) (Br : Int) (Bq : qs) (Bo : Option Addr) (Bp : Nat) (Bs : List (qY 2)) (BY : qs) (Dv : qZ (qf Bq) BG Bs) (Dw : zC 112 (qY.v (sz := 2)) 2 Bo Bs Bp BY)
    (hS : St w H [Bq, BY] F) (hm : (qj.m K BG Br).wp kr kp)
    (hret : ∀ (BR : List (qY 2)) (BM : (List qb)) (Dn : qs) (w : World), kr BM → (zC 112 (qY.v (sz := 2)) 2 Bo BR Bp Dn) → (qZ (qf Bq) BM BR) → (BR.length = Bs.length) → St w H [Bq, Dn] F → R (.returned (.tuple ⟨[]⟩)) w) :
    Calls Tryd.prog 81 ⟨[.slice Bo Bs.length Bp, .int .i64 Br, xA 84 [] []]⟩ w R := by
 refine enter Tryd.func81 rfl Tryd.ntmps81 rfl hS fun a w hS => ?_
 have hM := hm; clear hm
 rw [qj.m] at hM
 have DZ : ∀ q ∈ Bq, q ∈ Bq := fun _ h => h
 have Dx : Bs.length = Bs.length := rfl
 refine qu <| sA hS rfl fun hS => qF <| qu <| sM hS rfl fun hS => sA hS rfl fun hS => sA hS rfl fun hS => qF <| qX (fun a w => ∃ (Bw : List (qY 2)) (BC : (List qb)) (BW : qs) (BL : Int), Ss 63 [] [(0, .slice Bo Bw.length Bp), (1, .int .i64 Br), (2, xA 84 [] []), (6, .int .i64 (20 : Int)), (7, .int .i64 BL)] H [Bq, BW] F a w ∧ (zC 112 (qY.v (sz := 2)) 2 Bo Bw Bp BW) ∧ (qZ (qf Bq) BC Bw) ∧ (Bw.length = Bs.length) ∧ (qj.j2 K Br BC BL).wp kr kp) (fun D0 Dy => ?_) ?_
 ·refine z7 ?_
  refine zd (fun Do a w => ∃ (Bt : List (qY 2)) (Bx : (List qb)) (BN : qs) (BH : Int) (BD : Int), Ss 63 [] [(0, .slice Bo Bt.length Bp), (1, .int .i64 Br), (2, xA 84 [] []), (6, .int .i64 (20 : Int)), (7, .int .i64 BH), (8, .int .i64 BD)] H [Bq, BN] F a w ∧ (zC 112 (qY.v (sz := 2)) 2 Bo Bt Bp BN) ∧ (qZ (qf Bq) Bx Bt) ∧ (Bt.length = Bs.length) ∧ (qj.l1 K Br Do Bx BH BD).wp kr kp) K ?_ ?_ ?_
  ·exact ⟨Bs, BG, BY, (0 : Int), (20 : Int), hS.to [0, 1] (by kernel_rfl) ⟨rfl, rfl, rfl, rfl, rfl, rfl, trivial⟩, Dw, Dv, Dx, hM⟩
  ·intro a w hI; obtain ⟨_, _, _, _, _, _, _, _, _, hM⟩ := hI; exact zc hM
  ·intro Do a w hI D1 Dz
   obtain ⟨Bt, Bx, BN, BH, BD, hS, BZ, B0, B3, hM⟩ := hI
   rw [qj.l1] at hM
   refine wp_seq <| qu <| sM hS rfl fun hS => sM hS rfl fun hS => sB hS rfl fun hS => qF <| qC hS rfl hM (fun DA hM => ?_) (fun DA hM => ?_)
   ·refine wp_skip ?_
    refine qg <| z7 <| qu <| sM hS rfl fun hS => sM hS rfl fun hS => sM hS rfl fun hS => sM hS rfl fun hS => qO hS rfl Tryd.call99 (zU hG K Bx BH BD Bq Bo Bp Bt BN B0 BZ (hS.st.part 2 [0, 1] (by kernel_rfl)) (qy hM) (fun BS B4 Dp w hM DQ DR B5 hst => qM hS.ev hst.appF rfl fun hS => ?_))
    replace hS : Ss _ _ _ H [Bq, Dp] F _ _ := hS
    have DB := Eq.trans B5 B3
    replace hS := hS.re 0 (u := .slice Bo Bt.length Bp) (v := .slice Bo BS.length Bp) rfl (by rw [B5])
    replace hS := hS.re 14 (u := .slice Bo Bt.length Bp) (v := .slice Bo BS.length Bp) rfl (by rw [B5])
    refine qF <| qu <| sM hS rfl fun hS => sA hS rfl fun hS => qF <| zv <| sM hS rfl fun hS => sM hS rfl fun hS => sB hS rfl fun hS => zr (v := Value.int .i64) (x0 := (qk (BD + (20 : Int)))) hS (z8 rfl) rfl fun DC a w hz hS => ?_
    have hM := qA hz hM; clear hz
    refine q9 <| zk (qg ?_)
    exact Dz _ _ ⟨BS, B4, Dp, BD, DC, hS.to [0, 1] (by kernel_rfl) ⟨rfl, rfl, rfl, rfl, rfl, rfl, trivial⟩, DQ, DR, DB, hM⟩
   ·refine wp_exit ?_
    refine qx (qx (qV (qg ?_)))
    exact Dy _ _ ⟨Bt, Bx, BN, BH, hS.to [0, 1] (by kernel_rfl) ⟨rfl, rfl, rfl, rfl, rfl, trivial⟩, BZ, B0, B3, hM⟩
 ·intro a w hI
  obtain ⟨Bw, BC, BW, BL, hS, DD, DE, DF, hM⟩ := hI
  rw [qj.j2] at hM
  refine qu <| sM hS rfl fun hS => sM hS rfl fun hS => sM hS rfl fun hS => sM hS rfl fun hS => qO hS rfl Tryd.call99 (zU hG K BC BL Br Bq Bo Bp Bw BW DE DD (hS.st.part 2 [0, 1] (by kernel_rfl)) (qy hM) (fun BT B6 Dq w hM DS DT B7 hst => qM hS.ev hst.appF rfl fun hS => ?_))
  replace hS : Ss _ _ _ H [Bq, Dq] F _ _ := hS
  have DG := Eq.trans B7 DF
  replace hS := hS.re 0 (u := .slice Bo Bw.length Bp) (v := .slice Bo BT.length Bp) rfl (by rw [B7])
  replace hS := hS.re 23 (u := .slice Bo Bw.length Bp) (v := .slice Bo BT.length Bp) rfl (by rw [B7])
  refine qF <| z7 <| zd (fun BX a w => ∃ (BB : List (qY 2)) (By : (List qb)) (BO : qs) (Bn : Int), Ss 63 [] [(0, .slice Bo BB.length Bp), (1, .int .i64 Br), (2, xA 84 [] []), (6, .int .i64 Bn)] H [Bq, BO] F a w ∧ (zC 112 (qY.v (sz := 2)) 2 Bo BB Bp BO) ∧ (qZ (qf Bq) By BB) ∧ (BB.length = Bs.length) ∧ (qj.l3 K Br BX By Bn).wp kr kp) K ?_ ?_ ?_
  ·exact ⟨BT, B6, Dq, (20 : Int), hS.to [0, 1] (by kernel_rfl) ⟨rfl, rfl, rfl, rfl, trivial⟩, DS, DT, DG, hM⟩
  ·intro a w hI; obtain ⟨_, _, _, _, _, _, _, _, hM⟩ := hI; exact zc hM
  ·intro BX a w hI D2 B8
   obtain ⟨BB, By, BO, Bn, hS, B9, Da, Db, hM⟩ := hI
   rw [qj.l3] at hM
   refine wp_seq <| qu <| sM hS rfl fun hS => sM hS rfl fun hS => sB hS rfl fun hS => qF <| qC hS rfl hM (fun DH hM => ?_) (fun DH hM => ?_)
   ·refine wp_skip ?_
    refine qg <| z7 <| qu <| sM hS rfl fun hS => sB hS rfl fun hS => sA hS rfl fun hS => zr (v := Value.int .i64) (x0 := (qk ((2 : Int) * Bn))) hS (z8 rfl) rfl fun DI a w hz hS => ?_
    have hM := qA hz hM; clear hz
    refine qF <| qX (fun a w => ∃ (Bu : List (qY 2)) (Bz : (List qb)) (BP : qs) (BI : Int), Ss 63 [] [(0, .slice Bo Bu.length Bp), (1, .int .i64 Br), (2, xA 84 [] []), (6, .int .i64 Bn), (7, .int .i64 BI)] H [Bq, BP] F a w ∧ (zC 112 (qY.v (sz := 2)) 2 Bo Bu Bp BP) ∧ (qZ (qf Bq) Bz Bu) ∧ (Bu.length = Bs.length) ∧ (qj.j5 K (qj.l3 K Br BX) Br Bn Bz BI).wp kr kp) (fun D3 DJ => ?_) ?_
    ·refine z7 ?_
     refine zd (fun Dr a w => ∃ (Bv : List (qY 2)) (BA : (List qb)) (BQ : qs) (BE : Int) (BF : Int), Ss 63 [] [(0, .slice Bo Bv.length Bp), (1, .int .i64 Br), (2, xA 84 [] []), (6, .int .i64 Bn), (7, .int .i64 BE), (8, .int .i64 BF)] H [Bq, BQ] F a w ∧ (zC 112 (qY.v (sz := 2)) 2 Bo Bv Bp BQ) ∧ (qZ (qf Bq) BA Bv) ∧ (Bv.length = Bs.length) ∧ (qj.l4 K (qj.l3 K Br BX) Br Bn Dr BA BE BF).wp kr kp) K ?_ ?_ ?_
     ·exact ⟨BB, By, BO, (0 : Int), DI, hS.to [0, 1] (by kernel_rfl) ⟨rfl, rfl, rfl, rfl, rfl, rfl, trivial⟩, B9, Da, Db, hM⟩
     ·intro a w hI; obtain ⟨_, _, _, _, _, _, _, _, _, hM⟩ := hI; exact zc hM
     ·intro Dr a w hI D4 DK
      obtain ⟨Bv, BA, BQ, BE, BF, hS, Dc, De, Df, hM⟩ := hI
      rw [qj.l4] at hM
      refine wp_seq <| qu <| sM hS rfl fun hS => sM hS rfl fun hS => sB hS rfl fun hS => qF <| qC hS rfl hM (fun DL hM => ?_) (fun DL hM => ?_)
      ·refine wp_skip ?_
       refine qg <| z7 <| qu <| sM hS rfl fun hS => sM hS rfl fun hS => sM hS rfl fun hS => sM hS rfl fun hS => sB hS rfl fun hS => sM hS rfl fun hS => sM hS rfl fun hS => qO hS rfl Tryd.call100 (z2 hG K BA BE (qk (BE + Bn)) BF Bq Bo Bp Bv BQ De Dc (hS.st.part 2 [0, 1] (by kernel_rfl)) (qy hM) (fun BU Dg Dt w hM DU DV Dh hst => qM hS.ev hst.appF rfl fun hS => ?_))
       replace hS : Ss _ _ _ H [Bq, Dt] F _ _ := hS
       have DM := Eq.trans Dh Df
       replace hS := hS.re 0 (u := .slice Bo Bv.length Bp) (v := .slice Bo BU.length Bp) rfl (by rw [Dh])
       replace hS := hS.re 36 (u := .slice Bo Bv.length Bp) (v := .slice Bo BU.length Bp) rfl (by rw [Dh])
       refine qF <| qu <| sM hS rfl fun hS => sA hS rfl fun hS => qF <| zv <| sM hS rfl fun hS => sM hS rfl fun hS => sB hS rfl fun hS => sB hS rfl fun hS => zr (v := Value.int .i64) (x0 := (qk (BF + (qk ((2 : Int) * Bn))))) hS (z8 rfl) rfl fun DN a w hz hS => ?_
       have hM := qA hz hM; clear hz
       refine q9 <| zk (qg ?_)
       exact DK _ _ ⟨BU, Dg, Dt, BF, DN, hS.to [0, 1] (by kernel_rfl) ⟨rfl, rfl, rfl, rfl, rfl, rfl, trivial⟩, DU, DV, DM, hM⟩
      ·refine wp_exit ?_
       refine qx (qx (qV (qg ?_)))
       exact DJ _ _ ⟨Bv, BA, BQ, BE, hS.to [0, 1] (by kernel_rfl) ⟨rfl, rfl, rfl, rfl, rfl, trivial⟩, Dc, De, Df, hM⟩
    ·intro a w hI
     obtain ⟨Bu, Bz, BP, BI, hS, Di, Dj, Dk, hM⟩ := hI
     rw [qj.j5] at hM
     refine wp_seq <| qu <| sM hS rfl fun hS => sM hS rfl fun hS => sB hS rfl fun hS => zr (v := Value.int .i64) (x0 := (qk (BI + Bn))) hS (z8 rfl) rfl fun DW a w hz hS => ?_
     have hM := qA hz hM; clear hz
     refine qF <| qu <| sM hS rfl fun hS => sM hS rfl fun hS => sB hS rfl fun hS => qF <| qC hS rfl hM (fun DO hM => ?_) (fun DO hM => ?_)
     ·refine zv ?_
      refine sM hS rfl fun hS => sM hS rfl fun hS => sM hS rfl fun hS => sM hS rfl fun hS => sM hS rfl fun hS => qO hS rfl Tryd.call100 (z2 hG K Bz BI DW Br Bq Bo Bp Bu BP Dj Di (hS.st.part 2 [0, 1] (by kernel_rfl)) (qy hM) (fun BV Dl Du w hM DX DY Dm hst => qM hS.ev hst.appF rfl fun hS => ?_))
      replace hS : Ss _ _ _ H [Bq, Du] F _ _ := hS
      have DP := Eq.trans Dm Dk
      replace hS := hS.re 0 (u := .slice Bo Bu.length Bp) (v := .slice Bo BV.length Bp) rfl (by rw [Dm])
      replace hS := hS.re 55 (u := .slice Bo Bu.length Bp) (v := .slice Bo BV.length Bp) rfl (by rw [Dm])
      refine qF <| zv <| sM hS rfl fun hS => sB hS rfl fun hS => zr (v := Value.int .i64) (x0 := (qk (Bn * (2 : Int)))) hS (z8 rfl) rfl fun BJ a w hz hS => ?_
      have hM := qA hz hM; clear hz
      refine q9 <| zk (qg ?_)
      exact B8 _ _ ⟨BV, Dl, Du, BJ, hS.to [0, 1] (by kernel_rfl) ⟨rfl, rfl, rfl, rfl, trivial⟩, DX, DY, DP, hM⟩
     ·refine wp_skip ?_
      refine qg <| zv <| sM hS rfl fun hS => sB hS rfl fun hS => zr (v := Value.int .i64) (x0 := (qk (Bn * (2 : Int)))) hS (z8 rfl) rfl fun BK a w hz hS => ?_
      have hM := qA hz hM; clear hz
      refine q9 <| zk (qg ?_)
      exact B8 _ _ ⟨Bu, Bz, BP, BK, hS.to [0, 1] (by kernel_rfl) ⟨rfl, rfl, rfl, rfl, trivial⟩, Di, Dj, Dk, hM⟩
   ·refine wp_exit ?_
    refine qx (qx (qV ?_))
    exact yj (rs := []) hS rfl rfl (hret BB By BO _ (zj hM) B9 Da Db (hS.st.pick [0, 1] (by kernel_rfl)))
theorem xg {H : xl} {F : List qs} {w : World} {R : Ending → World → Prop} {kr : (List qb) → Prop} {kp : Value → Prop} (hG : Gl H) (K : Nat) (Bs : List qb) (Bq : qs) (Bo : Option Addr) (Bp : Nat) (Bn : List (qY 2)) (Bv : qs) (Bw : qZ (qf Bq) Bs Bn) (BB : zC 112 (qY.v (sz := 2)) 2 Bo Bn Bp Bv)
    (hS : St w H [Bq, Bv] F) (hm : (zn.m K Bs).wp kr kp)
    (hret : ∀ (Bt : List (qY 2)) (By : (List qb)) (Bz : qs) (w : World), kr By → (zC 112 (qY.v (sz := 2)) 2 Bo Bt Bp Bz) → (qZ (qf Bq) By Bt) → (Bt.length = Bn.length) → St w H [Bq, Bz] F → R (.returned (.tuple ⟨[]⟩)) w) :
    Calls Tryd.prog 56 ⟨[.slice Bo Bn.length Bp, xA 84 [] []]⟩ w R := by
 refine enter Tryd.func56 rfl Tryd.ntmps56 rfl hS fun a w hS => ?_
 have hM := hm; clear hm
 rw [zn.m] at hM
 have BG : ∀ q ∈ Bq, q ∈ Bq := fun _ h => h
 have BC : Bn.length = Bn.length := rfl
 refine zv <| sM hS rfl fun hS => sM hS rfl fun hS => sO hS (qR (v' := .int .i64 (Bs.length : Int)) (xI rfl Tryd.runUnderlying110) (by rw [Bw.len])) rfl fun hS => sM hS rfl fun hS => qO hS rfl Tryd.call81 (xN hG K Bs (Bs.length : Int) Bq Bo Bp Bn Bv Bw BB (hS.st.part 2 [0, 1] (by kernel_rfl)) (qy hM) (fun Br Bx BA w hM BE BF Bu hst => qM hS.ev hst.appF rfl fun hS => ?_))
 replace hS : Ss _ _ _ H [Bq, BA] F _ _ := hS
 have BD := Eq.trans Bu BC
 replace hS := hS.re 0 (u := .slice Bo Bn.length Bp) (v := .slice Bo Br.length Bp) rfl (by rw [Bu])
 replace hS := hS.re 4 (u := .slice Bo Bn.length Bp) (v := .slice Bo Br.length Bp) rfl (by rw [Bu])
 replace hS := hS.re 5 (u := .slice Bo Bn.length Bp) (v := .slice Bo Br.length Bp) rfl (by rw [Bu])
 refine q9 ?_
 exact yj (rs := []) hS rfl rfl (hret Br Bx BA _ (zj hM) BE BF BD (hS.st.pick [0, 1] (by kernel_rfl)))
theorem QL {H : xl} {F : List qs} {w : World} {R : Ending → World → Prop} {kr : (List qb) → Prop} {kp : Value → Prop} (hG : Gl H) (K : Nat) (BA : List qb) (BB : List qb) (Bn : qs) (BF : Option Addr) (BG : Nat) (Bo : List (qY 2)) (BH : Option Addr) (BI : Nat) (Bp : List (qY 2)) (Bu : qZ (qf Bn) BA Bo) (Bv : Pl Bn (qY.v (sz := 2)) BF Bo) (BX : Bo.length ≤ BG) (Bw : qZ (qf Bn) BB Bp) (Bx : Pl Bn (qY.v (sz := 2)) BH Bp) (BY : Bp.length ≤ BI)
    (hS : St w H [Bn] F) (hm : (xR.m K BA BB).wp kr kp)
    (hret : ∀ (BN : qs) (BQ : Option Addr) (BR : Nat) (BJ : List (qY 2)) (BS : (List qb)) (BT : qs) (w : World), kr BS → (∀ q ∈ Bn, q ∈ BN) → (zC 112 (qY.v (sz := 2)) 2 BQ BJ BR BT) → (qZ (qf BN) BS BJ) → St w H [BN, BT] F → R (.returned (.slice BQ BJ.length BR)) w)
    (hpan : ∀ v w, kp v → St w H [] F → R (.panicked [⟨v, false, false⟩]) w) :
    Calls Tryd.prog 59 ⟨[.slice BF Bo.length BG, .slice BH Bp.length BI]⟩ w R := by
 refine enter Tryd.func59 rfl Tryd.ntmps59 rfl hS fun a w hS => ?_
 have hM := hm; clear hm
 rw [xR.m] at hM
 have By : ∀ q ∈ Bn, q ∈ Bn := fun _ h => h
 refine qu <| sA hS rfl fun hS => ?_
 obtain ⟨BU, Dc, hS⟩ := hS.nilV 112 (qY.v (sz := 2)) 2
 have BC : qZ (qf Bn) ([] : List qb) ([] : List (qY 2)) := qZ.nil
 refine qF <| qu <| sM hS rfl fun hS => sM hS rfl fun hS => ?_
 obtain ⟨BK, hrw⟩ : ∃ r, r = ([(⟨[.slice BF Bo.length BG], by simp, by simp [Value.oneCell']⟩ : qY 1), (⟨[.slice BH Bp.length BI], by simp, by simp [Value.oneCell']⟩ : qY 1)] : List (qY 1)) := ⟨_, rfl⟩
 have Bz : qZ (zZ Bn) ([BA, BB] : List (List qb)) BK := by rw [hrw]; exact (qZ.cons (show zZ Bn _ _ from ⟨BF, BG, Bo, rfl, Bu, Bv, BX⟩) (qZ.cons (show zZ Bn _ _ from ⟨BH, BI, Bp, rfl, Bw, Bx, BY⟩) qZ.nil))
 refine XE (g := (qY.v (sz := 1))) BK [.slice BF Bo.length BG, .slice BH Bp.length BI] hS Tryd.runUnderlying165 Tryd.sizeOf110 X.el110 rfl rfl rfl (by simp [Value.cells]) (by rw [hrw]; rfl) (by rw [hrw]; rfl) rfl rfl rfl fun w B3 B4 De BO hS => ?_
 clear hrw
 replace hS := hS.front [0, 2, 1] (by kernel_rfl)
 obtain ⟨B5, BZ, Bq, hS⟩ := hS.poolF
 have B0 := BO.cap qY.len rfl
 have BL := BO.pl.mono BZ
 replace Bv := Bv.mono Bq
 replace Bx := Bx.mono Bq
 replace Bu := qZ.mono (fun _ _ h => qf.mono Bq h) Bu
 replace Bw := qZ.mono (fun _ _ h => qf.mono Bq h) Bw
 replace BC := qZ.mono (fun _ _ h => qf.mono Bq h) BC
 replace Bz := qZ.mono (fun _ _ h => zZ.mono Bq h) Bz
 replace By := fun q h => Bq q (By q h)
 refine qO hS rfl Tryd.call83 (xT hG K ([BA, BB] : List (List qb)) B5 B3 B4 BK Bz BL B0 (hS.st.part 1 [0, 1] (by kernel_rfl)) (qy hM) (fun BM Br Bs BD B6 BV w hM Bt B7 B8 hst => qM hS.ev hst.appF rfl fun hS => ?_) (fun v w hk hst => yw (zx (⟨hS.ev.defs, hpan _ _ hk hst.appF.frame⟩))))
 replace hS : Ss _ _ _ H [BM, BV, BU] F _ _ := hS
 replace Bv := Bv.mono Bt
 replace Bx := Bx.mono Bt
 replace BL := BL.mono Bt
 replace Bu := qZ.mono (fun _ _ h => qf.mono Bt h) Bu
 replace Bw := qZ.mono (fun _ _ h => qf.mono Bt h) Bw
 replace BC := qZ.mono (fun _ _ h => qf.mono Bt h) BC
 replace Bz := qZ.mono (fun _ _ h => zZ.mono Bt h) Bz
 replace By := fun q h => Bt q (By q h)
 refine sA hS rfl fun hS => qF <| qu <| sM hS rfl fun hS => qO hS rfl Tryd.call56 (xg hG K B6 BM Br Bs BD BV B8 B7 (hS.st.part 2 [0, 1, 2] (by kernel_rfl)) (qy hM) (fun BE B9 BW w hM Da Db BP hst => qM hS.ev hst.appF rfl fun hS => ?_))
 replace hS : Ss _ _ _ H [BM, BW, BU] F _ _ := hS
 replace hS := hS.re 5 (u := .slice Br BD.length Bs) (v := .slice Br BE.length Bs) rfl (by rw [BP])
 replace hS := hS.re 9 (u := .slice Br BD.length Bs) (v := .slice Br BE.length Bs) rfl (by rw [BP])
 replace hS := hS.re 10 (u := .slice Br BD.length Bs) (v := .slice Br BE.length Bs) rfl (by rw [BP])
 refine qF <| qu <| sM hS rfl fun hS => sA hS rfl fun hS => qF <| wp_ret ?_
 exact zJ (rs := [4]) hS rfl rfl (hret BM Br Bs BE B9 BW _ (zj hM) By Da Db (hS.st.pick [0, 1] (by kernel_rfl)))
theorem vn {H : xl} {F : List qs} {w : World} {R : Ending → World → Prop} {kr : ((List Int) × Int) → Prop} {kp : Value → Prop} (hG : Gl H) (K : Nat) (Bn : List Int) (Bo : Int) (BS : Option Addr) (BT : Nat) (Dl : yM H [] F (ci .i64) BS Bn) (Gk : Bn.length ≤ BT)
    (hS : St w H [] F) (hm : (qt.m K Bn Bo).wp kr kp)
    (hret : ∀ (D7 : Option Addr) (D8 : Nat) (DA : (List Int)) (D9 : qs) (Ga : Int) (w : World), kr (DA, Ga) → (zC 3 (ci .i64) 1 D7 DA D8 D9) → St w H [D9] F → R (.returned (.tuple ⟨[.slice D7 DA.length D8, .int .i64 Ga]⟩)) w)
    (hpan : ∀ v w, kp v → St w H [] F → R (.panicked [⟨v, false, false⟩]) w) :
    Calls Tryd.prog 40 ⟨[.slice BS Bn.length BT, .int .i64 Bo]⟩ w R := by
 refine enter Tryd.func40 rfl Tryd.ntmps40 rfl hS fun a w hS => ?_
 have hM := hm; clear hm
 rw [qt.m] at hM
 refine qu <| sA hS rfl fun hS => ?_
 obtain ⟨G8, Ly, hS⟩ := hS.nilV 3 (ci .i64) 1
 refine sA hS rfl fun hS => qF <| wp_seq <| qu <| sM hS rfl fun hS => sB hS rfl fun hS => sM hS rfl fun hS => yr 2 false 17 (b := (decide (Bo < (1 : Int)))) (r := (decide (Bo > (15 : Int)))) hS rfl rfl rfl rfl rfl rfl rfl (fun hb a w hS K hK => ?_) rfl fun a w hS => ?_
 ·refine zF hS rfl rfl rfl hb (mv rfl) rfl fun a w hS => ?_
  refine zF hS rfl rfl rfl hb (yN rfl rfl rfl) rfl fun a w hS => ?_
  exact q9 (hK _ _ (hS.up 2 rfl rfl))
 refine sM hS rfl fun hS => yr 3 false 21 (b := ((decide (Bo < (1 : Int))) || (decide (Bo > (15 : Int))))) (r := (decide ((Bn.length : Int) > (320 : Int)))) hS rfl rfl rfl rfl rfl rfl rfl (fun hb a w hS K hK => ?_) rfl fun a w hS => ?_
 ·refine zF hS rfl rfl rfl hb (mv rfl) rfl fun a w hS => ?_
  refine zF hS rfl rfl rfl hb (xI rfl Tryd.runUnderlying45) rfl fun a w hS => zF hS rfl rfl rfl hb (yN rfl rfl rfl) rfl fun a w hS => ?_
  exact q9 (hK _ _ (hS.up 3 rfl rfl))
 refine sM hS rfl fun hS => u6 (fun a w => ∃ (DB : Bool), Ss 109 [] [(0, .slice BS Bn.length BT), (1, .int .i64 Bo), (29, .bool DB)] H [] F a w ∧ (qt.j1 K Bn Bo DB).wp kr kp) 3 (fun LF DC => ?_) ?_
 ·refine Ua (b := (((decide (Bo < (1 : Int))) || (decide (Bo > (15 : Int)))) || (decide ((Bn.length : Int) > (320 : Int))))) hM (fun BU hM => ?_) (fun BU hM => ?_)
  ·replace hS := hS.re 25 (v := .bool true) rfl (congrArg Value.bool BU)
   replace hS := hS.re 26 (v := .bool true) rfl (congrArg Value.bool BU)
   refine JG 2 hS rfl fun a w hS => sO hS (pk rfl rfl rfl) rfl fun hS => q9 <| qg ?_
   exact DC _ _ ⟨true, hS.to [] (by kernel_rfl) ⟨rfl, rfl, rfl, trivial⟩, hM⟩
  ·replace hS := hS.re 25 (v := .bool false) rfl (congrArg Value.bool BU)
   replace hS := hS.re 26 (v := .bool false) rfl (congrArg Value.bool BU)
   refine zF hS rfl rfl rfl rfl (mv rfl) rfl fun a w hS => v2 hS rfl rfl rfl rfl <| qO hS rfl Tryd.call54 (yg hG K Bn BS BT (Dl.app _) Gk (hS.st.part 0 [0] (by kernel_rfl)) (qy hM) (fun G9 w hM  hst => qM hS.ev hst.appF rfl fun hS => ?_))
   replace hS : Ss _ _ _ H [G8] F _ _ := hS
   refine sO hS (pk rfl rfl rfl) rfl fun hS => q9 <| qg ?_
   exact DC _ _ ⟨G9, hS.to [] (by kernel_rfl) ⟨rfl, rfl, rfl, trivial⟩, hM⟩
 ·intro a w hI
  obtain ⟨DB, hS, hM⟩ := hI
  rw [qt.j1] at hM
  refine qF <| qC hS rfl hM (fun Gm hM => ?_) (fun Gm hM => ?_)
  ·refine wp_seq ?_
   refine zv <| sA hS rfl fun hS => ?_
   obtain ⟨La, Gn, hS⟩ := hS.nilV 3 (ci .i64) 1
   refine sA hS rfl fun hS => qF <| wp_ret <| zz ?_
   exact zJ (rs := [4, 5]) hS rfl rfl (hret none (0) ([] : List Int) La (1 : Int) _ (zj hM) Gn (hS.st.pick [0] (by kernel_rfl)))
  ·refine wp_skip ?_
   refine qg <| qu <| sA hS rfl fun hS => ?_
   obtain ⟨Gb, hS⟩ := hS.pool0
   obtain ⟨Lb, Gp, hS⟩ := hS.nilV 112 (qY.v (sz := 2)) 2
   have Gq : qZ (qf Gb) ([] : List qb) ([] : List (qY 2)) := qZ.nil
   refine qF <| qX (fun a w => ∃ (B4 : qs) (Bw : Option Addr) (Bx : Nat) (BB : List (qY 2)) (Bp : (List qb)) (Db : qs), Ss 109 [] [(0, .slice BS Bn.length BT), (1, .int .i64 Bo), (6, .slice Bw BB.length Bx)] H [B4, Db] F a w ∧ (zC 112 (qY.v (sz := 2)) 2 Bw BB Bx Db) ∧ (qZ (qf B4) Bp BB) ∧ (qt.j3 K Bn Bo Bp).wp kr kp) (fun LG Gr => ?_) ?_
   ·refine wp_seq ?_
    refine zv <| sM hS rfl fun hS => sO hS (xI rfl Tryd.runUnderlying45) rfl fun hS => sM hS rfl fun hS => qF <| z7 <| zd (fun Gc a w => ∃ (Dc : qs) (De : Option Addr) (Df : Nat) (BN : List (qY 2)) (Bs : (List qb)) (Dg : qs) (BE : Int), Ss 109 [] [(0, .slice BS Bn.length BT), (1, .int .i64 Bo), (6, .slice De BN.length Df), (30, .slice BS Bn.length BT), (31, .int .i64 (Bn.length : Int)), (32, .int .i64 BE)] H [Dc, Dg] F a w ∧ (zC 112 (qY.v (sz := 2)) 2 De BN Df Dg) ∧ (qZ (qf Dc) Bs BN) ∧ (qt.l2 K Bn Bo Gc Bs BE).wp kr kp) K ?_ ?_ ?_
    ·exact ⟨Gb, none, 0, ([] : List (qY 2)), ([] : List qb), Lb, (0 : Int), hS.to [1, 0] (by kernel_rfl) ⟨rfl, rfl, rfl, rfl, rfl, rfl, trivial⟩, Gp, Gq, hM⟩
    ·intro a w hI; obtain ⟨_, _, _, _, _, _, _, _, _, _, hM⟩ := hI; exact zc hM
    ·intro Gc a w hI LH DD
     obtain ⟨Dc, De, Df, BN, Bs, Dg, BE, hS, Dm, BO, hM⟩ := hI
     rw [qt.l2] at hM
     refine qu <| sB hS rfl fun hS => qF <| wp_seq <| qC hS rfl hM (fun Gs hM => ?_) (fun Gs hM => ?_)
     ·refine wp_skip ?_
      refine qg <| wp_seq <| z7 <| qu <| sM hS rfl fun hS => ?_
      obtain ⟨DE, hM⟩ := qB hM
      refine sO hS (xd rfl rfl Tryd.runUnderlying45 Tryd.sizeOf3 Dl.wk (fun _ => rfl) rfl DE) rfl fun hS => sO hS (x3 rfl Dl.wk (fun _ => rfl) DE rfl Tryd.isAgg3) rfl fun hS => sA hS rfl fun hS => zr (v := Value.int .i64) (x0 := (rd Bn BE)) hS (z8 rfl) rfl fun BV a w hz hS => ?_
      have hM := qA hz hM; clear hz
      refine qF <| qu <| sM hS rfl fun hS => sB hS rfl fun hS => qF <| qC hS rfl hM (fun Gt hM => ?_) (fun Gt hM => ?_)
      ·refine zv ?_
       refine sM hS rfl fun hS => sM hS rfl fun hS => sM hS rfl fun hS => XE (g := (ci .i64)) ([BE] : List Int) [.int .i64 BE] hS Tryd.runUnderlying45 Tryd.sizeOf3 X.el3 rfl rfl rfl (by simp [Value.cells]) rfl rfl rfl rfl rfl fun w Du Dv LI DF hS => sO hS (Xe ([.int .i64 BV, .slice Du ([BE] : List Int).length Dv]) [(0, 1), (1, 1)] Tryd.zeroValue112 Tryd.runUnderlying112 (by intro w; simp [Tryd.sizeOf3, Tryd.sizeOf45]) rfl rfl) rfl fun hS => ?_
       replace hS := hS.front [0, 1, 2] (by kernel_rfl)
       obtain ⟨DG, Gu, Gv, hS⟩ := hS.poolF
       have Gw := DF.cap (fun _ => rfl) rfl
       have Gx := DF.pl.mono Gu
       replace BO := qZ.mono (fun _ _ h => qf.mono Gv h) BO
       obtain ⟨Dn, hrw⟩ : ∃ r, r = ([(⟨[.int .i64 BV, .slice Du ([BE] : List Int).length Dv], by simp, by simp [Value.oneCell']⟩ : qY 2)] : List (qY 2)) := ⟨_, rfl⟩
       have DH : qZ (qf DG) ([(qb.mk BV ([BE] : List Int))] : List qb) Dn := by rw [hrw]; exact (qZ.cons (show qf DG _ _ from ⟨Du, Dv, rfl, Gx, Gw⟩) qZ.nil)
       refine XE (g := (qY.v (sz := 2))) Dn [.agg ⟨[.int .i64 BV, .slice Du ([BE] : List Int).length Dv]⟩] hS Tryd.runUnderlying110 Tryd.sizeOf112 X.el112 rfl rfl rfl (by simp [Value.cells]) (by rw [hrw]; rfl) (by rw [hrw]; rfl) rfl rfl rfl fun w LJ LK LL Gy hS => ?_
       clear hrw
       obtain ⟨Gz, hM⟩ := qB hM
       refine Yp (ys := Dn) 2 hS rfl rfl Dm rfl (Gy.rd (i := 0) rfl) Tryd.runUnderlying110 Tryd.runUnderlying110 X.el112 qY.len rfl uY (BO.room DH Gz) rfl fun GA w Lc Ld Le hz GB hS => ?_
       obtain ⟨GC, hzm⟩ := yk (Bs ++ ([(qb.mk BV ([BE] : List Int))] : List qb))
       replace hM := qA hzm hM
       have DI := qZ.append BO DH
       rw [← hz, ← hzm] at DI; clear hz hzm
       refine sA hS rfl fun hS => q9 <| zk (qg ?_)
       refine zv <| sB hS rfl fun hS => sM hS rfl fun hS => q9 <| qg ?_
       exact DD _ _ ⟨DG, Lc, Ld, GA, GC, Le, (qk (BE + (1 : Int))), hS.to [1, 2] (by kernel_rfl) ⟨rfl, rfl, rfl, rfl, rfl, rfl, trivial⟩, GB, DI, hM⟩
      ·refine wp_skip ?_
       refine zk (qg ?_)
       refine zv <| sB hS rfl fun hS => sM hS rfl fun hS => q9 <| qg ?_
       exact DD _ _ ⟨Dc, De, Df, BN, Bs, Dg, (qk (BE + (1 : Int))), hS.to [0, 1] (by kernel_rfl) ⟨rfl, rfl, rfl, rfl, rfl, rfl, trivial⟩, Dm, BO, hM⟩
     ·refine wp_exit ?_
      refine qx (qx (qV (qg ?_)))
      exact Gr _ _ ⟨Dc, De, Df, BN, Bs, Dg, hS.to [0, 1] (by kernel_rfl) ⟨rfl, rfl, rfl, trivial⟩, Dm, BO, hM⟩
   ·intro a w hI
    obtain ⟨B4, Bw, Bx, BB, Bp, Db, hS, B6, BG, hM⟩ := hI
    rw [qt.j3] at hM
    refine wp_seq <| qu <| sM hS rfl fun hS => sO hS (qR (v' := .int .i64 (Bp.length : Int)) (xI rfl Tryd.runUnderlying110) (by rw [BG.len])) rfl fun hS => sM hS rfl fun hS => ?_
    obtain ⟨GD, hM⟩ := qB hM
    refine sO hS (shl rfl rfl GD) rfl fun hS => sB hS rfl fun hS => qF <| qC hS rfl hM (fun GE hM => ?_) (fun GE hM => ?_)
    ·refine wp_seq ?_
     refine zv <| sA hS rfl fun hS => ?_
     obtain ⟨Lf, GF, hS⟩ := hS.nilV 3 (ci .i64) 1
     refine sA hS rfl fun hS => qF <| wp_ret <| zz ?_
     exact zJ (rs := [4, 5]) hS rfl rfl (hret none (0) ([] : List Int) Lf (1 : Int) _ (zj hM) GF (hS.st.pick [0] (by kernel_rfl)))
    ·refine wp_skip ?_
     refine qg <| qu <| sM hS rfl fun hS => sO hS (xI rfl Tryd.runUnderlying45) rfl fun hS => ?_
     obtain ⟨GG, hM⟩ := qB hM
     refine VM (g := (ci .i64)) (m := (Bn.length : Int)) (0 : Int) hS rfl rfl (by simp) Tryd.runUnderlying45 X.el3 (fun w => ⟨_, Tryd.zeroValue3 w, rfl⟩) (fun _ => rfl) rfl rfl GG rfl fun B7 w Bq Br Lg hz Do hS => ?_
     have hM := qA hz hM; clear hz
     refine sA hS rfl fun hS => qF <| qX (fun a w => ∃ (Bv : (List Int)) (BI : qs), Ss 109 [] [(1, .int .i64 Bo), (6, .slice Bw BB.length Bx), (9, .slice Bq Bv.length Br)] H [B4, Db, BI] F a w ∧ (zC 3 (ci .i64) 1 Bq Bv Br BI) ∧ (qt.j4 K Bo Bp Bv).wp kr kp) (fun LM DJ => ?_) ?_
     ·refine wp_seq ?_
      refine zv <| sM hS rfl fun hS => sO hS (qR (v' := .int .i64 (Bp.length : Int)) (xI rfl Tryd.runUnderlying110) (by rw [BG.len])) rfl fun hS => sB hS rfl fun hS => qF <| qC hS rfl hM (fun GH hM => ?_) (fun GH hM => ?_)
      ·refine zv ?_
       refine sM hS rfl fun hS => sM hS rfl fun hS => ?_
       obtain ⟨B8, hM⟩ := qB hM
       refine sO hS (xd rfl rfl Tryd.runUnderlying110 Tryd.sizeOf112 (B6.rd (i := 2) rfl) qY.len rfl (BG.inb B8)) rfl fun hS => sO hS (ZK rfl (B6.rd (i := 2) rfl) qY.len rfl (BG.inb B8) Tryd.runUnderlying112 rfl Tryd.sizeOf45 rfl) rfl fun hS => ?_
       obtain ⟨LN, LO, GI, DK, Lz⟩ := BG.get B8
       refine sO hS (Vf 1 rfl (B6.rd (i := 2) rfl) qY.len (BG.inb B8) (by rw [show qY.v (rd BB (0 : Int)) = _ from GI]; rfl) Tryd.isAgg45) rfl fun hS => ?_
       obtain ⟨DL, hM⟩ := qB hM
       refine sO hS (xd rfl rfl Tryd.runUnderlying45 Tryd.sizeOf3 (DK.rd (i := 1) rfl) (fun _ => rfl) rfl DL) rfl fun hS => sO hS (x3 rfl (DK.rd (i := 1) rfl) (fun _ => rfl) DL rfl Tryd.isAgg3) rfl fun hS => ?_
       obtain ⟨DM, hM⟩ := qB hM
       refine sO hS (xd rfl rfl Tryd.runUnderlying45 Tryd.sizeOf3 (Do.rd (i := 0) rfl) (fun _ => rfl) rfl DM) rfl fun hS => Xf (i := (rd ((rd Bp (0 : Int)).symbols_) (0 : Int))) (sz := 1) 0 0 ((1 : Int)) hS rfl rfl Do rfl Tryd.sizeOf3 (xb (1 : Int)) (fun _ => rfl) DM rfl rfl fun B9 w Lh hz Dp GJ hS => ?_
       have hM := qA hz hM; clear hz
       replace hS := hS.re 9 (u := .slice Bq B7.length Br) (v := .slice Bq B9.length Br) rfl (by rw [Dp])
       replace hS := hS.re 54 (u := .slice Bq B7.length Br) (v := .slice Bq B9.length Br) rfl (by rw [Dp])
       replace hS := hS.re 58 (u := .slice Bq B7.length Br) (v := .slice Bq B9.length Br) rfl (by rw [Dp])
       refine q9 <| qg ?_
       exact DJ _ _ ⟨B9, Lh, hS.to [1, 2, 0] (by kernel_rfl) ⟨rfl, rfl, rfl, trivial⟩, GJ, hM⟩
      ·refine wp_skip ?_
       refine qg ?_
       exact DJ _ _ ⟨B7, Lg, hS.to [1, 2, 0] (by kernel_rfl) ⟨rfl, rfl, rfl, trivial⟩, Do, hM⟩
     ·intro a w hI
      obtain ⟨Bv, BI, hS, DN, hM⟩ := hI
      rw [qt.j4] at hM
      refine wp_seq <| qu <| sM hS rfl fun hS => sO hS (qR (v' := .int .i64 (Bp.length : Int)) (xI rfl Tryd.runUnderlying110) (by rw [BG.len])) rfl fun hS => sB hS rfl fun hS => qF <| qC hS rfl hM (fun GK hM => ?_) (fun GK hM => ?_)
      ·refine wp_seq ?_
       refine zv <| sM hS rfl fun hS => sA hS rfl fun hS => sA hS rfl fun hS => qF <| wp_ret <| zz ?_
       exact zJ (rs := [4, 5]) hS rfl rfl (hret Bq Br Bv BI (0 : Int) _ (zj hM) DN (hS.st.pick [2] (by kernel_rfl)))
      ·refine wp_skip ?_
       refine qg <| qu <| sM hS rfl fun hS => qO hS rfl Tryd.call56 (xf hG K Bp B4 Bw Bx BB Db BG B6 (hS.st.part 2 [0, 1, 2] (by kernel_rfl)) (qy hM) (fun Bt BJ Li w hM Gd Dw DO hst => qM hS.ev hst.appF rfl fun hS => ?_))
       replace hS : Ss _ _ _ H [B4, Li, BI] F _ _ := hS
       replace hS := hS.re 6 (u := .slice Bw BB.length Bx) (v := .slice Bw Bt.length Bx) rfl (by rw [DO])
       replace hS := hS.re 66 (u := .slice Bw BB.length Bx) (v := .slice Bw Bt.length Bx) rfl (by rw [DO])
       replace hS := hS.re 70 (u := .slice Bw BB.length Bx) (v := .slice Bw Bt.length Bx) rfl (by rw [DO])
       refine qF <| qu <| sM hS rfl fun hS => sA hS rfl fun hS => qF <| qX (fun a w => ∃ (BP : qs) (DP : Option Addr) (DQ : Nat) (BW : List (qY 2)) (BR : (List qb)), Ss 109 [] [(6, .slice Bw Bt.length Bx), (9, .slice Bq Bv.length Br), (10, .slice DP BW.length DQ)] H [BP, BI] F a w ∧ (qZ (qf BP) BJ Bt) ∧ (Pl BP (qY.v (sz := 2)) Bw Bt) ∧ (Bt.length ≤ Bx) ∧ (qZ (qf BP) BR BW) ∧ (Pl BP (qY.v (sz := 2)) DP BW) ∧ (BW.length ≤ DQ) ∧ (qt.j6 K Bv BJ BR).wp kr kp) (fun LP GL => ?_) ?_
       ·refine wp_seq ?_
        refine zv <| sM hS rfl fun hS => sB hS rfl fun hS => sM hS rfl fun hS => qF <| z7 <| zd (fun Ge a w => ∃ (BQ : qs) (Dh : Option Addr) (Di : Nat) (BK : List (qY 2)) (BM : (List qb)) (Dx : Int), Ss 109 [] [(6, .slice Bw Bt.length Bx), (9, .slice Bq Bv.length Br), (10, .slice Dh BK.length Di), (74, .int .i64 (qk (Bo - (1 : Int)))), (75, .int .i64 Dx)] H [BQ, BI] F a w ∧ (qZ (qf BQ) BJ Bt) ∧ (Pl BQ (qY.v (sz := 2)) Bw Bt) ∧ (Bt.length ≤ Bx) ∧ (qZ (qf BQ) BM BK) ∧ (Pl BQ (qY.v (sz := 2)) Dh BK) ∧ (BK.length ≤ Di) ∧ (qt.l5 K Bo Bv BJ Ge BM Dx).wp kr kp) K ?_ ?_ ?_
        ·replace hS := hS.front [1, 0, 2] (by kernel_rfl)
         obtain ⟨Lj, GM, GN, hS⟩ := hS.poolF
         have DR := Gd.cap qY.len rfl
         have DS := Gd.pl.mono GM
         replace Dw := qZ.mono (fun _ _ h => qf.mono GN h) Dw
         exact ⟨Lj, Bw, Bx, Bt, BJ, (0 : Int), hS.to [0, 1] (by kernel_rfl) ⟨rfl, rfl, rfl, rfl, rfl, trivial⟩, Dw, DS, DR, Dw, DS, DR, hM⟩
        ·intro a w hI; obtain ⟨_, _, _, _, _, _, _, _, _, _, _, _, _, hM⟩ := hI; exact zc hM
        ·intro Ge a w hI LQ GO
         obtain ⟨BQ, Dh, Di, BK, BM, Dx, hS, Bz, BA, Dq, BC, BD, DT, hM⟩ := hI
         rw [qt.l5] at hM
         refine qu <| sB hS rfl fun hS => qF <| wp_seq <| qC hS rfl hM (fun GP hM => ?_) (fun GP hM => ?_)
         ·refine wp_skip ?_
          refine qg <| wp_seq <| z7 <| zv <| sM hS rfl fun hS => sM hS rfl fun hS => qO hS rfl Tryd.call60 (Zv hG K BM BQ Dh Di BK BC BD DT (hS.st.part 1 [0, 1] (by kernel_rfl)) (qy hM) (fun Lk Ll Lm GQ Ln Lo w hM Dy Gf BX hst => qM hS.ev hst.appF rfl fun hS => ?_) (fun v w hk hst => yw (yJ (zx (zx (yJ (zx (⟨hS.ev.defs, hpan _ _ hk hst.appF.frame⟩))))))))
          replace hS : Ss _ _ _ H [Lk, Lo, BI] F _ _ := hS
          replace BA := BA.mono Dy
          replace BD := BD.mono Dy
          replace Bz := qZ.mono (fun _ _ h => qf.mono Dy h) Bz
          replace BC := qZ.mono (fun _ _ h => qf.mono Dy h) BC
          replace hS := hS.front [1, 0, 2] (by kernel_rfl)
          obtain ⟨Lp, GR, BY, hS⟩ := hS.poolF
          have GS := Gf.cap qY.len rfl
          have BZ := Gf.pl.mono GR
          replace BX := qZ.mono (fun _ _ h => qf.mono BY h) BX
          replace BA := BA.mono BY
          replace BD := BD.mono BY
          replace Bz := qZ.mono (fun _ _ h => qf.mono BY h) Bz
          replace BC := qZ.mono (fun _ _ h => qf.mono BY h) BC
          refine qO hS rfl Tryd.call59 (QL hG K BJ Ln Lp Bw Bx Bt Ll Lm GQ Bz BA Dq BX BZ GS (hS.st.part 1 [0, 1] (by kernel_rfl)) (qy hM) (fun Lq Lr Lt GT Lu Lv w hM B5 Gg DU hst => qM hS.ev hst.appF rfl fun hS => ?_) (fun v w hk hst => yw (yJ (zx (zx (yJ (zx (⟨hS.ev.defs, hpan _ _ hk hst.appF.frame⟩))))))))
          replace hS : Ss _ _ _ H [Lq, Lv, BI] F _ _ := hS
          replace BX := qZ.mono (fun _ _ h => qf.mono B5 h) BX
          replace BA := BA.mono B5
          replace BD := BD.mono B5
          replace BZ := BZ.mono B5
          replace Bz := qZ.mono (fun _ _ h => qf.mono B5 h) Bz
          replace BC := qZ.mono (fun _ _ h => qf.mono B5 h) BC
          refine sA hS rfl fun hS => q9 <| zk (qg ?_)
          refine zv <| sB hS rfl fun hS => sM hS rfl fun hS => q9 <| qg ?_
          replace hS := hS.front [1, 0, 2] (by kernel_rfl)
          obtain ⟨Lw, GU, BL, hS⟩ := hS.poolF
          have GV := Gg.cap qY.len rfl
          have GW := Gg.pl.mono GU
          replace BX := qZ.mono (fun _ _ h => qf.mono BL h) BX
          replace DU := qZ.mono (fun _ _ h => qf.mono BL h) DU
          replace BA := BA.mono BL
          replace BD := BD.mono BL
          replace BZ := BZ.mono BL
          replace Bz := qZ.mono (fun _ _ h => qf.mono BL h) Bz
          replace BC := qZ.mono (fun _ _ h => qf.mono BL h) BC
          exact GO _ _ ⟨Lw, Lr, Lt, GT, Lu, (qk (Dx + (1 : Int))), hS.to [0, 1] (by kernel_rfl) ⟨rfl, rfl, rfl, rfl, rfl, trivial⟩, Bz, BA, Dq, DU, GW, GV, hM⟩
         ·refine wp_exit ?_
          refine qx (qx (qV (qg ?_)))
          exact GL _ _ ⟨BQ, Dh, Di, BK, BM, hS.to [0, 1] (by kernel_rfl) ⟨rfl, rfl, rfl, trivial⟩, Bz, BA, Dq, BC, BD, DT, hM⟩
       ·intro a w hI
        obtain ⟨BP, DP, DQ, BW, BR, hS, GX, LA, LB, DV, DW, GY, hM⟩ := hI
        rw [qt.j6] at hM
        refine wp_seq <| qu <| sM hS rfl fun hS => sM hS rfl fun hS => sO hS (qR (v' := .int .i64 (BJ.length : Int)) (xI rfl Tryd.runUnderlying110) (by rw [GX.len])) rfl fun hS => sB hS rfl fun hS => sB hS rfl fun hS => ?_
        obtain ⟨GZ, hM⟩ := qB hM
        refine Kk (g := (qY.v (sz := 2))) hS rfl Tryd.runUnderlying110 Tryd.sizeOf112 Kf (UA rfl) qY.len GY (DV.subok GZ) rfl fun DX Gh Gi a w hz DY LC hS => ?_
        obtain ⟨Bu, hzm⟩ := yk (sub BR (0 : Int) (qk ((qk ((2 : Int) * (BJ.length : Int))) - (2 : Int))))
        replace hM := qA hzm hM
        have B0 := DV.sub (0 : Int) (qk ((qk ((2 : Int) * (BJ.length : Int))) - (2 : Int))) (qk ((qk ((2 : Int) * (BJ.length : Int))) - (2 : Int))) rfl
        rw [← hz, ← hzm] at B0; clear hz hzm
        refine sO hS (qR (v' := .int .i64 (Bu.length : Int)) (xI rfl Tryd.runUnderlying110) (by rw [B0.len])) rfl fun hS => sM hS rfl fun hS => qF <| z7 <| zd (fun DZ a w => ∃ (BH : (List Int)) (Dj : qs) (BF : Int), Ss 109 [] [(9, .slice Bq BH.length Br), (87, .slice Gh DX.length Gi), (88, .int .i64 (Bu.length : Int)), (89, .int .i64 BF)] H [Dj, BP] F a w ∧ (zC 3 (ci .i64) 1 Bq BH Br Dj) ∧ (qt.l7 K Bu DZ BH BF).wp kr kp) K ?_ ?_ ?_
        ·exact ⟨Bv, BI, (0 : Int), hS.to [1, 0] (by kernel_rfl) ⟨rfl, rfl, rfl, rfl, trivial⟩, DN, hM⟩
        ·intro a w hI; obtain ⟨_, _, _, _, _, hM⟩ := hI; exact zc hM
        ·intro DZ a w hI LR G0
         obtain ⟨BH, Dj, BF, hS, D0, hM⟩ := hI
         rw [qt.l7] at hM
         refine qu <| sB hS rfl fun hS => qF <| wp_seq <| qC hS rfl hM (fun G1 hM => ?_) (fun G1 hM => ?_)
         ·refine wp_skip ?_
          refine qg <| wp_seq <| z7 <| wp_seq <| zv ?_
          obtain ⟨Dr, hM⟩ := qB hM
          refine sO hS (xd rfl rfl Tryd.runUnderlying110 Tryd.sizeOf112 (DY _ _ _ (DW.rd (i := 1) rfl)) qY.len rfl (B0.inb Dr)) rfl fun hS => ?_
          obtain ⟨D1, D2, G2, D3, LD⟩ := B0.get Dr
          refine sO hS (qR (xV rfl (DY _ _ _ (DW.rd (i := 1) rfl)) qY.len (B0.inb Dr) Tryd.isAgg112 Tryd.sizeOf112 rfl) (congrArg (fun l => Value.agg ⟨l⟩) G2)) rfl fun hS => uS ([.int .i64 (0 : Int), .slice none 0 0]) hS Tryd.zeroValue112 rfl rfl fun w LS LT G3 hS => ?_
          obtain ⟨LU, LE, hS⟩ := hS.nilV 3 (ci .i64) 1
          refine uX 1 ([.int .i64 ((rd Bu BF).often_), .slice D1 ((rd Bu BF).symbols_).length D2]) ([.int .i64 ((rd Bu BF).often_), .slice D1 ((rd Bu BF).symbols_).length D2]) hS rfl rfl G3 rfl rfl Tryd.sizeOf112 (by simp [Value.oneCell']) (Nat.le_of_ble_eq_true rfl) rfl fun w LV G4 hS => qF <| qu <| sO hS (xn rfl Tryd.runUnderlying112 rfl Tryd.sizeOf45 rfl) rfl fun hS => sO hS (x5 1 rfl G4 rfl rfl Tryd.isAgg45) rfl fun hS => sO hS (xI rfl Tryd.runUnderlying45) rfl fun hS => sM hS rfl fun hS => qF <| z7 <| zd (fun Gj a w => ∃ (By : (List Int)) (Dz : qs) (Dk : Int), Ss 109 [] [(9, .slice Bq By.length Br), (87, .slice Gh DX.length Gi), (88, .int .i64 (Bu.length : Int)), (89, .int .i64 BF), (94, .slice D1 ((rd Bu BF).symbols_).length D2), (95, .int .i64 (((rd Bu BF).symbols_).length : Int)), (96, .int .i64 Dk)] H [Dz, BP] F a w ∧ (zC 3 (ci .i64) 1 Bq By Br Dz) ∧ (qt.l8 K (qt.l7 K Bu DZ) Bu BF Gj By Dk).wp kr kp) K ?_ ?_ ?_
          ·exact ⟨BH, Dj, (0 : Int), hS.to [2, 3] (by kernel_rfl) ⟨rfl, rfl, rfl, rfl, rfl, rfl, rfl, trivial⟩, D0, hM⟩
          ·intro a w hI; obtain ⟨_, _, _, _, _, hM⟩ := hI; exact zc hM
          ·intro Gj a w hI LW G5
           obtain ⟨By, Dz, Dk, hS, B3, hM⟩ := hI
           rw [qt.l8] at hM
           refine qu <| sB hS rfl fun hS => qF <| wp_seq <| qC hS rfl hM (fun G6 hM => ?_) (fun G6 hM => ?_)
           ·refine wp_skip ?_
            refine qg <| wp_seq <| z7 <| wp_seq <| zv ?_
            obtain ⟨D4, hM⟩ := qB hM
            refine sO hS (xd rfl rfl Tryd.runUnderlying45 Tryd.sizeOf3 (D3.rd (i := 1) rfl) (fun _ => rfl) rfl D4) rfl fun hS => sO hS (x3 rfl (D3.rd (i := 1) rfl) (fun _ => rfl) D4 rfl Tryd.isAgg3) rfl fun hS => zr (v := Value.int .i64) (x0 := (rd ((rd Bu BF).symbols_) Dk)) hS (z8 rfl) rfl fun D5 a w hz hS => ?_
            have hM := qA hz hM; clear hz
            refine qF <| zv <| sM hS rfl fun hS => sM hS rfl fun hS => ?_
            obtain ⟨Da, hM⟩ := qB hM
            refine sO hS (xd rfl rfl Tryd.runUnderlying45 Tryd.sizeOf3 (B3.rd (i := 0) rfl) (fun _ => rfl) rfl Da) rfl fun hS => sO hS (x3 rfl (B3.rd (i := 0) rfl) (fun _ => rfl) Da rfl Tryd.isAgg3) rfl fun hS => sB hS rfl fun hS => sO hS (xd rfl rfl Tryd.runUnderlying45 Tryd.sizeOf3 (B3.rd (i := 0) rfl) (fun _ => rfl) rfl Da) rfl fun hS => Xf (i := D5) (sz := 1) 0 0 ((qk ((rd By D5) + (1 : Int)))) hS rfl rfl B3 rfl Tryd.sizeOf3 (xb (qk ((rd By D5) + (1 : Int)))) (fun _ => rfl) Da rfl rfl fun Dt w Lx hz D6 G7 hS => ?_
            have hM := qA hz hM; clear hz
            replace hS := hS.re 9 (u := .slice Bq By.length Br) (v := .slice Bq Dt.length Br) rfl (by rw [D6])
            replace hS := hS.re 100 (u := .slice Bq By.length Br) (v := .slice Bq Dt.length Br) rfl (by rw [D6])
            refine q9 <| zk (qg ?_)
            refine zv <| sB hS rfl fun hS => sM hS rfl fun hS => q9 <| qg ?_
            exact G5 _ _ ⟨Dt, Lx, (qk (Dk + (1 : Int))), hS.to [0, 1] (by kernel_rfl) ⟨rfl, rfl, rfl, rfl, rfl, rfl, rfl, trivial⟩, G7, hM⟩
           ·refine wp_exit ?_
            refine qx (qx (qV (zk (qg ?_))))
            refine zv <| sB hS rfl fun hS => sM hS rfl fun hS => q9 <| qg ?_
            exact G0 _ _ ⟨By, Dz, (qk (BF + (1 : Int))), hS.to [0, 1] (by kernel_rfl) ⟨rfl, rfl, rfl, rfl, trivial⟩, B3, hM⟩
         ·refine wp_exit ?_
          refine qx (qx (qV (qg ?_)))
          refine qu <| sM hS rfl fun hS => sA hS rfl fun hS => sA hS rfl fun hS => qF <| wp_ret ?_
          exact zJ (rs := [4, 5]) hS rfl rfl (hret Bq Br BH Dj (0 : Int) _ (zj hM) D0 (hS.st.pick [0] (by kernel_rfl)))
theorem ji {H : xl} {F : List qs} {w : World} {R : Ending → World → Prop} {kr : ((List Int) × (List Int)) → Prop} {kp : Value → Prop} (hG : Gl H) (K : Nat) (Bn : List Int) (Bq : Option Addr) (Br : Nat) (BB : qs) (BF : zC 3 (ci .i64) 1 Bq Bn Br BB)
    (hS : St w H [BB] F) (hm : (qL.m K Bn).wp kr kp)
    (hret : ∀ (BM : Option Addr) (BN : Nat) (BI : (List Int)) (BO : qs) (Bt : (List Int)) (BP : qs) (w : World), kr (BI, Bt) → (zC 3 (ci .i64) 1 BM BI BN BO) → (zC 3 (ci .i64) 1 Bq Bt Br BP) → (Bt.length = Bn.length) → St w H [BO, BP] F → R (.returned (.slice BM BI.length BN)) w)
    (hpan : ∀ v w, kp v → St w H [] F → R (.panicked [⟨v, false, false⟩]) w) :
    Calls Tryd.prog 38 ⟨[.slice Bq Bn.length Br]⟩ w R := by
 refine enter Tryd.func38 rfl Tryd.ntmps38 rfl hS fun a w hS => ?_
 have hM := hm; clear hm
 rw [qL.m] at hM
 have BT : Bn.length = Bn.length := rfl
 refine qu <| sA hS rfl fun hS => ?_
 obtain ⟨Dg, Df, hS⟩ := hS.nilV 3 (ci .i64) 1
 refine qF <| qu <| sA hS rfl fun hS => qF <| qX (fun a w => ∃ (By : Int), Ss 43 [] [(0, .slice Bq Bn.length Br), (3, .int .i64 By)] H [BB] F a w ∧ (qL.j2 K Bn By).wp kr kp) (fun Dh BU => ?_) ?_
 ·refine wp_seq ?_
  refine zv <| sM hS rfl fun hS => sO hS (xI rfl Tryd.runUnderlying45) rfl fun hS => sM hS rfl fun hS => qF <| z7 <| zd (fun BQ a w => ∃ (Bw : Int) (BC : Int), Ss 43 [] [(0, .slice Bq Bn.length Br), (3, .int .i64 Bw), (9, .slice Bq Bn.length Br), (10, .int .i64 (Bn.length : Int)), (11, .int .i64 BC)] H [BB] F a w ∧ (qL.l1 K Bn BQ Bw BC).wp kr kp) K ?_ ?_ ?_
  ·exact ⟨(0 : Int), (0 : Int), hS.to [1] (by kernel_rfl) ⟨rfl, rfl, rfl, rfl, rfl, trivial⟩, hM⟩
  ·intro a w hI; obtain ⟨_, _, _, hM⟩ := hI; exact zc hM
  ·intro BQ a w hI Di BV
   obtain ⟨Bw, BC, hS, hM⟩ := hI
   rw [qL.l1] at hM
   refine qu <| sB hS rfl fun hS => qF <| wp_seq <| qC hS rfl hM (fun BW hM => ?_) (fun BW hM => ?_)
   ·refine wp_skip ?_
    refine qg <| wp_seq <| z7 <| wp_seq <| zv ?_
    obtain ⟨BJ, hM⟩ := qB hM
    refine sO hS (xd rfl rfl Tryd.runUnderlying45 Tryd.sizeOf3 (BF.rd (i := 0) rfl) (fun _ => rfl) rfl BJ) rfl fun hS => sO hS (x3 rfl (BF.rd (i := 0) rfl) (fun _ => rfl) BJ rfl Tryd.isAgg3) rfl fun hS => zr (v := Value.int .i64) (x0 := (rd Bn BC)) hS (z8 rfl) rfl fun BK a w hz hS => ?_
    have hM := qA hz hM; clear hz
    refine qF <| zv <| sM hS rfl fun hS => sM hS rfl fun hS => sO hS (YY rfl rfl) rfl fun hS => sB hS rfl fun hS => zr (v := Value.int .i64) (x0 := (qk (Bw + (if (1 : Int) < BK then (1 : Int) else BK)))) hS (z8 rfl) rfl fun BX a w hz hS => ?_
    have hM := qA hz hM; clear hz
    refine q9 <| zk (qg ?_)
    refine zv <| sB hS rfl fun hS => sM hS rfl fun hS => q9 <| qg ?_
    exact BV _ _ ⟨BX, (qk (BC + (1 : Int))), hS.to [0] (by kernel_rfl) ⟨rfl, rfl, rfl, rfl, rfl, trivial⟩, hM⟩
   ·refine wp_exit ?_
    refine qx (qx (qV (qg ?_)))
    exact BU _ _ ⟨Bw, hS.to [0] (by kernel_rfl) ⟨rfl, rfl, trivial⟩, hM⟩
 ·intro a w hI
  obtain ⟨By, hS, hM⟩ := hI
  rw [qL.j2] at hM
  refine qX (fun a w => ∃ (Bp : (List Int)) (BD : qs), Ss 43 [] [(0, .slice Bq Bp.length Br)] H [BD] F a w ∧ (zC 3 (ci .i64) 1 Bq Bp Br BD) ∧ (Bp.length = Bn.length) ∧ (qL.j4 K Bp).wp kr kp) (fun Dj BY => ?_) ?_
  ·refine wp_seq ?_
   refine zv <| sA hS rfl fun hS => qF <| z7 <| zd (fun BR a w => ∃ (Bo : (List Int)) (BE : qs) (Bx : Int) (Bv : Int), Ss 43 [] [(0, .slice Bq Bo.length Br), (3, .int .i64 Bx), (6, .int .i64 Bv)] H [BE] F a w ∧ (zC 3 (ci .i64) 1 Bq Bo Br BE) ∧ (Bo.length = Bn.length) ∧ (qL.l3 K BR Bo Bx Bv).wp kr kp) K ?_ ?_ ?_
   ·exact ⟨Bn, BB, By, (0 : Int), hS.to [0] (by kernel_rfl) ⟨rfl, rfl, rfl, trivial⟩, BF, BT, hM⟩
   ·intro a w hI; obtain ⟨_, _, _, _, _, _, _, hM⟩ := hI; exact zc hM
   ·intro BR a w hI Dk BL
    obtain ⟨Bo, BE, Bx, Bv, hS, Bs, BG, hM⟩ := hI
    rw [qL.l3] at hM
    refine wp_seq <| qu <| sM hS rfl fun hS => sB hS rfl fun hS => qF <| qC hS rfl hM (fun BZ hM => ?_) (fun BZ hM => ?_)
    ·refine wp_skip ?_
     refine qg <| wp_seq <| z7 <| qu <| sM hS rfl fun hS => sM hS rfl fun hS => ?_
     obtain ⟨Bu, hM⟩ := qB hM
     refine sO hS (xd rfl rfl Tryd.runUnderlying45 Tryd.sizeOf3 (Bs.rd (i := 0) rfl) (fun _ => rfl) rfl Bu) rfl fun hS => sO hS (x3 rfl (Bs.rd (i := 0) rfl) (fun _ => rfl) Bu rfl Tryd.isAgg3) rfl fun hS => sB hS rfl fun hS => qF <| qC hS rfl hM (fun B0 hM => ?_) (fun B0 hM => ?_)
     ·refine wp_seq ?_
      refine zv <| sM hS rfl fun hS => sM hS rfl fun hS => sO hS (xd rfl rfl Tryd.runUnderlying45 Tryd.sizeOf3 (Bs.rd (i := 0) rfl) (fun _ => rfl) rfl Bu) rfl fun hS => sO hS (x3 rfl (Bs.rd (i := 0) rfl) (fun _ => rfl) Bu rfl Tryd.isAgg3) rfl fun hS => sB hS rfl fun hS => sO hS (xd rfl rfl Tryd.runUnderlying45 Tryd.sizeOf3 (Bs.rd (i := 0) rfl) (fun _ => rfl) rfl Bu) rfl fun hS => Xf (i := Bv) (sz := 1) 0 0 ((qk ((rd Bo Bv) + (1 : Int)))) hS rfl rfl Bs rfl Tryd.sizeOf3 (xb (qk ((rd Bo Bv) + (1 : Int)))) (fun _ => rfl) Bu rfl rfl fun Bz w B7 hz BA B3 hS => ?_
      have hM := qA hz hM; clear hz
      have B4 := Eq.trans BA BG
      replace hS := hS.re 0 (u := .slice Bq Bo.length Br) (v := .slice Bq Bz.length Br) rfl (by rw [BA])
      replace hS := hS.re 24 (u := .slice Bq Bo.length Br) (v := .slice Bq Bz.length Br) rfl (by rw [BA])
      replace hS := hS.re 29 (u := .slice Bq Bo.length Br) (v := .slice Bq Bz.length Br) rfl (by rw [BA])
      refine qF <| zv <| sM hS rfl fun hS => sB hS rfl fun hS => zr (v := Value.int .i64) (x0 := (qk (Bx + (1 : Int)))) hS (z8 rfl) rfl fun B5 a w hz hS => ?_
      have hM := qA hz hM; clear hz
      refine q9 <| zk (qg ?_)
      refine zv <| sM hS rfl fun hS => sB hS rfl fun hS => zr (v := Value.int .i64) (x0 := (qk (Bv + (1 : Int)))) hS (z8 rfl) rfl fun B8 a w hz hS => ?_
      have hM := qA hz hM; clear hz
      refine q9 <| qg ?_
      exact BL _ _ ⟨Bz, B7, B5, B8, hS.to [0] (by kernel_rfl) ⟨rfl, rfl, rfl, trivial⟩, B3, B4, hM⟩
     ·refine wp_skip ?_
      refine zk (qg ?_)
      refine zv <| sM hS rfl fun hS => sB hS rfl fun hS => zr (v := Value.int .i64) (x0 := (qk (Bv + (1 : Int)))) hS (z8 rfl) rfl fun B9 a w hz hS => ?_
      have hM := qA hz hM; clear hz
      refine q9 <| qg ?_
      exact BL _ _ ⟨Bo, BE, Bx, B9, hS.to [0] (by kernel_rfl) ⟨rfl, rfl, rfl, trivial⟩, Bs, BG, hM⟩
    ·refine wp_exit ?_
     refine qx (qx (qV (qg ?_)))
     exact BY _ _ ⟨Bo, BE, hS.to [0] (by kernel_rfl) ⟨rfl, trivial⟩, Bs, BG, hM⟩
  ·intro a w hI
   obtain ⟨Bp, BD, hS, BH, B6, hM⟩ := hI
   rw [qL.j4] at hM
   refine qu <| sM hS rfl fun hS => qO hS rfl Tryd.call40 (vn hG K Bp (15 : Int) Bq Br (BH.rdF (i := 0) rfl) (BH.cap (fun _ => rfl) rfl) (hS.st.part 0 [0] (by kernel_rfl)) (qy hM) (fun Da Db Dc BS Dl w hM De hst => qM hS.ev hst.appF rfl fun hS => ?_) (fun v w hk hst => yw (zx (⟨hS.ev.defs, hpan _ _ hk hst.appF.frame⟩))))
   replace hS : Ss _ _ _ H [BS, BD] F _ _ := hS
   refine sM hS rfl fun hS => sO hS (ex rfl rfl) rfl fun hS => sO hS (ex rfl rfl) rfl fun hS => sA hS rfl fun hS => sA hS rfl fun hS => qF <| qu <| sM hS rfl fun hS => sA hS rfl fun hS => qF <| wp_ret ?_
   exact zJ (rs := [2]) hS rfl rfl (hret Da Db Dc BS Bp BD _ (zj hM) De BH B6 (hS.st.pick [0, 1] (by kernel_rfl)))
theorem ue {H : xl} {F : List qs} {w : World} {R : Ending → World → Prop} {kr : (List ql) → Prop} {kp : Value → Prop} (hG : Gl H) (K : Nat) (Bn : List Int) (Bt : Option Addr) (Bu : Nat) (Bs : yM H [] F (ci .i64) Bt Bn) (Dy : Bn.length ≤ Bu)
    (hS : St w H [] F) (hm : (qD.m K Bn).wp kr kp)
    (hret : ∀ (BL : Option Addr) (BM : Nat) (BF : (List ql)) (BN : qs) (w : World), kr BF → (zC 75 ql.cells 3 BL BF BM BN) → St w H [BN] F → R (.returned (.slice BL BF.length BM)) w) :
    Calls Tryd.prog 39 ⟨[.slice Bt Bn.length Bu]⟩ w R := by
 refine enter Tryd.func39 rfl Tryd.ntmps39 rfl hS fun a w hS => ?_
 have hM := hm; clear hm
 rw [qD.m] at hM
 refine qu <| sA hS rfl fun hS => ?_
 obtain ⟨DA, Dz, hS⟩ := hS.nilV 75 ql.cells 3
 refine qF <| qu <| sA hS rfl fun hS => ?_
 obtain ⟨Dg, BO, hS⟩ := hS.nilV 75 ql.cells 3
 refine qF <| wp_seq <| qu <| sA hS rfl fun hS => qF <| z7 <| zd (fun BC a w => ∃ (Bw : Option Addr) (Bx : Nat) (Bq : (List ql)) (By : qs) (Bo : Int), Ss 93 [] [(0, .slice Bt Bn.length Bu), (3, .slice Bw Bq.length Bx), (4, .int .i64 Bo)] H [By] F a w ∧ (zC 75 ql.cells 3 Bw Bq Bx By) ∧ (qD.l1 K Bn BC Bq Bo).wp kr kp) K ?_ ?_ ?_
 ·exact ⟨none, 0, ([] : List ql), Dg, (0 : Int), hS.to [0] (by kernel_rfl) ⟨rfl, rfl, rfl, trivial⟩, BO, hM⟩
 ·intro a w hI; obtain ⟨_, _, _, _, _, _, _, hM⟩ := hI; exact zc hM
 ·intro BC a w hI DB BD
  obtain ⟨Bw, Bx, Bq, By, Bo, hS, Bz, hM⟩ := hI
  rw [qD.l1] at hM
  refine wp_seq <| qu <| sM hS rfl fun hS => sM hS rfl fun hS => sO hS (xI rfl Tryd.runUnderlying45) rfl fun hS => sB hS rfl fun hS => qF <| qC hS rfl hM (fun BP hM => ?_) (fun BP hM => ?_)
  ·refine wp_skip ?_
   refine qg <| z7 <| qu <| sA hS rfl fun hS => qF <| qX (fun a w => ∃ (Br : Int), Ss 93 [] [(0, .slice Bt Bn.length Bu), (3, .slice Bw Bq.length Bx), (4, .int .i64 Bo), (5, .int .i64 Br)] H [By] F a w ∧ (qD.j4 K (qD.l1 K Bn BC) Bn Bq Bo Br).wp kr kp) (fun DC BQ => ?_) ?_
   ·refine z7 ?_
    refine zd (fun BG a w => ∃ (Bp : Int), Ss 93 [] [(0, .slice Bt Bn.length Bu), (3, .slice Bw Bq.length Bx), (4, .int .i64 Bo), (5, .int .i64 Bp)] H [By] F a w ∧ (qD.l2 K (qD.l1 K Bn BC) Bn Bq Bo BG Bp).wp kr kp) K ?_ ?_ ?_
    ·exact ⟨(1 : Int), hS.to [0] (by kernel_rfl) ⟨rfl, rfl, rfl, rfl, trivial⟩, hM⟩
    ·intro a w hI; obtain ⟨_, _, hM⟩ := hI; exact zc hM
    ·intro BG a w hI DD BR
     obtain ⟨Bp, hS, hM⟩ := hI
     rw [qD.l2] at hM
     refine wp_seq <| qX (fun a w => ∃ (BH : Bool), Ss 93 [] [(0, .slice Bt Bn.length Bu), (3, .slice Bw Bq.length Bx), (4, .int .i64 Bo), (5, .int .i64 Bp), (28, .bool BH)] H [By] F a w ∧ (qD.j3 K (qD.l1 K Bn BC) (qD.l2 K (qD.l1 K Bn BC) Bn Bq Bo BG) Bn Bq Bo Bp BH).wp kr kp) (fun DE BI => ?_) ?_
     ·refine Ua (b := (decide ((qk (Bo + Bp)) < (Bn.length : Int)))) hM (fun BE hM => ?_) (fun BE hM => ?_)
      ·obtain ⟨BJ, hM⟩ := qB hM
       obtain ⟨BK, hM⟩ := qB hM
       refine q8 (vals := [some (.int .i64 Bo), some (.int .i64 Bp), some (.int .i64 (qk (Bo + Bp))), some (.slice Bt Bn.length Bu), some (.int .i64 (Bn.length : Int)), some (.bool true), some (.bool true), some (.slice Bt Bn.length Bu), some (.int .i64 Bo), some (.int .i64 Bp), some (.int .i64 (qk (Bo + Bp))), some (zA Bt (Int.toNat (qk (Bo + Bp)) * 1)), some (.int .i64 (rd Bn (qk (Bo + Bp)))), some (.slice Bt Bn.length Bu), some (.int .i64 Bo), some (zA Bt (Int.toNat Bo * 1)), some (.int .i64 (rd Bn Bo)), some (.bool ((rd Bn (qk (Bo + Bp))) == (rd Bn Bo))), some (.bool ((rd Bn (qk (Bo + Bp))) == (rd Bn Bo)))]) hS z6 rfl ?_
       intro l w ho hcl hA hst
       refine xG hA hst ho hcl z5 [0, 1, 2, 3, 4, 5, 6, 7, 8, 9, 10, 11, 12, 13, 14, 15, 16, 17, 18] rfl rfl rfl (by exact ⟨nM rfl, nM rfl, nB rfl, nM rfl, nQ rfl (by exact qR (xI rfl Tryd.runUnderlying45) rfl), nQ rfl (by exact qR (yN rfl rfl rfl) (congrArg Value.bool BE)), nM rfl, nW rfl rfl rfl rfl rfl rfl rfl rfl (by exact qR (mv rfl) rfl), nW rfl rfl rfl rfl rfl rfl rfl rfl (by exact qR (mv rfl) rfl), nW rfl rfl rfl rfl rfl rfl rfl rfl (by exact qR (mv rfl) rfl), nW rfl rfl rfl rfl rfl rfl rfl rfl (by exact qR (yN rfl rfl rfl) rfl), nW rfl rfl rfl rfl rfl rfl rfl rfl (by exact qR (xd rfl rfl Tryd.runUnderlying45 Tryd.sizeOf3 Bs.wk (fun _ => rfl) rfl BJ) rfl), nW rfl rfl rfl rfl rfl rfl rfl rfl (by exact qR (x3 rfl Bs.wk (fun _ => rfl) BJ rfl Tryd.isAgg3) rfl), nW rfl rfl rfl rfl rfl rfl rfl rfl (by exact qR (mv rfl) rfl), nW rfl rfl rfl rfl rfl rfl rfl rfl (by exact qR (mv rfl) rfl), nW rfl rfl rfl rfl rfl rfl rfl rfl (by exact qR (xd rfl rfl Tryd.runUnderlying45 Tryd.sizeOf3 Bs.wk (fun _ => rfl) rfl BK) rfl), nW rfl rfl rfl rfl rfl rfl rfl rfl (by exact qR (x3 rfl Bs.wk (fun _ => rfl) BK rfl Tryd.isAgg3) rfl), nW rfl rfl rfl rfl rfl rfl rfl rfl (by exact qR (yN rfl rfl rfl) rfl), nQ rfl (by exact qR (pk rfl rfl rfl) rfl), trivial⟩) fun a w hS => ?_
       replace hS := hS.env2 (e' := [(0, .slice Bt Bn.length Bu), (3, .slice Bw Bq.length Bx), (4, .int .i64 Bo), (5, .int .i64 Bp), (28, .bool ((rd Bn (qk (Bo + Bp))) == (rd Bn Bo)))]) ⟨rfl, rfl, rfl, rfl, rfl, trivial⟩
       refine qg ?_
       exact BI _ _ ⟨((rd Bn (qk (Bo + Bp))) == (rd Bn Bo)), hS.to [0] (by kernel_rfl) ⟨rfl, rfl, rfl, rfl, rfl, trivial⟩, hM⟩
      ·refine q8 (vals := [some (.int .i64 Bo), some (.int .i64 Bp), some (.int .i64 (qk (Bo + Bp))), some (.slice Bt Bn.length Bu), some (.int .i64 (Bn.length : Int)), some (.bool false), some (.bool false), some (undef), some (undef), some (undef), some (undef), some (undef), some (undef), some (undef), some (undef), some (undef), some (undef), some (undef), some (.bool false)]) hS z6 rfl ?_
       intro l w ho hcl hA hst
       refine xG hA hst ho hcl z5 [0, 1, 2, 3, 4, 5, 6, 7, 8, 9, 10, 11, 12, 13, 14, 15, 16, 17, 18] rfl rfl rfl (by exact ⟨nM rfl, nM rfl, nB rfl, nM rfl, nQ rfl (by exact qR (xI rfl Tryd.runUnderlying45) rfl), nQ rfl (by exact qR (yN rfl rfl rfl) (congrArg Value.bool BE)), nM rfl, nS rfl rfl rfl rfl rfl rfl rfl rfl rfl, nS rfl rfl rfl rfl rfl rfl rfl rfl rfl, nS rfl rfl rfl rfl rfl rfl rfl rfl rfl, nS rfl rfl rfl rfl rfl rfl rfl rfl rfl, nS rfl rfl rfl rfl rfl rfl rfl rfl rfl, nS rfl rfl rfl rfl rfl rfl rfl rfl rfl, nS rfl rfl rfl rfl rfl rfl rfl rfl rfl, nS rfl rfl rfl rfl rfl rfl rfl rfl rfl, nS rfl rfl rfl rfl rfl rfl rfl rfl rfl, nS rfl rfl rfl rfl rfl rfl rfl rfl rfl, nS rfl rfl rfl rfl rfl rfl rfl rfl rfl, nQ rfl (by exact qR (pk rfl rfl rfl) rfl), trivial⟩) fun a w hS => ?_
       replace hS := hS.env2 (e' := [(0, .slice Bt Bn.length Bu), (3, .slice Bw Bq.length Bx), (4, .int .i64 Bo), (5, .int .i64 Bp), (28, .bool false)]) ⟨rfl, rfl, rfl, rfl, rfl, trivial⟩
       refine qg ?_
       exact BI _ _ ⟨false, hS.to [0] (by kernel_rfl) ⟨rfl, rfl, rfl, rfl, rfl, trivial⟩, hM⟩
     ·intro a w hI
      obtain ⟨BH, hS, hM⟩ := hI
      rw [qD.j3] at hM
      refine qC hS rfl hM (fun BS hM => ?_) (fun BS hM => ?_)
      ·refine wp_skip ?_
       refine qg <| z7 <| zv <| sM hS rfl fun hS => sB hS rfl fun hS => zr (v := Value.int .i64) (x0 := (qk (Bp + (1 : Int)))) hS (z8 rfl) rfl fun BT a w hz hS => ?_
       have hM := qA hz hM; clear hz
       refine q9 <| zk (qg ?_)
       exact BR _ _ ⟨BT, hS.to [0] (by kernel_rfl) ⟨rfl, rfl, rfl, rfl, trivial⟩, hM⟩
      ·refine wp_exit ?_
       refine qx (qx (qV (qg ?_)))
       exact BQ _ _ ⟨Bp, hS.to [0] (by kernel_rfl) ⟨rfl, rfl, rfl, rfl, trivial⟩, hM⟩
   ·intro a w hI
    obtain ⟨Br, hS, hM⟩ := hI
    rw [qD.j4] at hM
    refine wp_seq <| z7 <| qu <| sM hS rfl fun hS => sM hS rfl fun hS => ?_
    obtain ⟨Bv, hM⟩ := qB hM
    refine sO hS (xd rfl rfl Tryd.runUnderlying45 Tryd.sizeOf3 Bs.wk (fun _ => rfl) rfl Bv) rfl fun hS => sO hS (x3 rfl Bs.wk (fun _ => rfl) Bv rfl Tryd.isAgg3) rfl fun hS => sB hS rfl fun hS => sM hS rfl fun hS => yr 2 true 45 (b := ((rd Bn Bo) == (0 : Int))) (r := (decide (Br ≥ (11 : Int)))) hS rfl rfl rfl rfl rfl rfl rfl (fun hb a w hS K hK => ?_) rfl fun a w hS => ?_
    ·refine zF hS rfl rfl rfl hb (mv rfl) rfl fun a w hS => ?_
     refine zF hS rfl rfl rfl hb (yN rfl rfl rfl) rfl fun a w hS => ?_
     exact q9 (hK _ _ (hS.up 2 rfl rfl))
    refine zr (v := Value.bool) (x0 := (((rd Bn Bo) == (0 : Int)) && (decide (Br ≥ (11 : Int))))) hS (z8 rfl) rfl fun DF a w hz hS => ?_
    have hM := qA hz hM; clear hz
    refine qF <| qC hS rfl hM (fun BU hM => ?_) (fun BU hM => ?_)
    ·refine wp_seq ?_
     refine zv <| sM hS rfl fun hS => sO hS (YY rfl rfl) rfl fun hS => zr (v := Value.int .i64) (x0 := (if (138 : Int) < Br then (138 : Int) else Br)) hS (z8 rfl) rfl fun BA a w hz hS => ?_
     have hM := qA hz hM; clear hz
     refine qF <| zv <| sM hS rfl fun hS => sM hS rfl fun hS => sB hS rfl fun hS => sO hS (Xe ([.int .i64 (18 : Int), .int .i64 (qk (BA - (11 : Int))), .int .i64 (7 : Int)]) [(0, 1), (1, 1), (2, 1)] Tryd.zeroValue75 Tryd.runUnderlying75 (by intro w; simp [Tryd.sizeOf3]) rfl rfl) rfl fun hS => XE (g := ql.cells) ([(ql.mk (18 : Int) (qk (BA - (11 : Int))) (7 : Int))] : List ql) [.agg ⟨[.int .i64 (18 : Int), .int .i64 (qk (BA - (11 : Int))), .int .i64 (7 : Int)]⟩] hS Tryd.runUnderlying72 Tryd.sizeOf75 X.el75 rfl rfl rfl (by simp [Value.cells]) rfl rfl rfl rfl rfl fun w DG DH DI BV hS => ?_
     obtain ⟨BW, hM⟩ := qB hM
     refine Yp (ys := ([(ql.mk (18 : Int) (qk (BA - (11 : Int))) (7 : Int))] : List ql)) 1 hS rfl rfl Bz rfl (BV.rd (i := 0) rfl) Tryd.runUnderlying72 Tryd.runUnderlying72 X.el75 (fun _ => rfl) rfl uW BW rfl fun BX w Dh Di Dj hz BY hS => ?_
     have hM := qA hz hM; clear hz
     refine sA hS rfl fun hS => q9 <| zk (qg ?_)
     refine zv <| sM hS rfl fun hS => sM hS rfl fun hS => sB hS rfl fun hS => zr (v := Value.int .i64) (x0 := (qk (Bo + BA))) hS (z8 rfl) rfl fun Dk a w hz hS => ?_
     have hM := qA hz hM; clear hz
     refine q9 <| zk (qg ?_)
     exact BD _ _ ⟨Dh, Di, BX, Dj, Dk, hS.to [1] (by kernel_rfl) ⟨rfl, rfl, rfl, trivial⟩, BY, hM⟩
    ·refine wp_seq ?_
     refine zv <| sM hS rfl fun hS => sM hS rfl fun hS => sO hS (xd rfl rfl Tryd.runUnderlying45 Tryd.sizeOf3 Bs.wk (fun _ => rfl) rfl Bv) rfl fun hS => sO hS (x3 rfl Bs.wk (fun _ => rfl) Bv rfl Tryd.isAgg3) rfl fun hS => sB hS rfl fun hS => sM hS rfl fun hS => yr 2 true 63 (b := ((rd Bn Bo) == (0 : Int))) (r := (decide (Br ≥ (3 : Int)))) hS rfl rfl rfl rfl rfl rfl rfl (fun hb a w hS K hK => ?_) rfl fun a w hS => ?_
     ·refine zF hS rfl rfl rfl hb (mv rfl) rfl fun a w hS => ?_
      refine zF hS rfl rfl rfl hb (yN rfl rfl rfl) rfl fun a w hS => ?_
      exact q9 (hK _ _ (hS.up 2 rfl rfl))
     refine zr (v := Value.bool) (x0 := (((rd Bn Bo) == (0 : Int)) && (decide (Br ≥ (3 : Int))))) hS (z8 rfl) rfl fun DJ a w hz hS => ?_
     have hM := qA hz hM; clear hz
     refine qF <| qC hS rfl hM (fun BZ hM => ?_) (fun BZ hM => ?_)
     ·refine zv ?_
      refine sM hS rfl fun hS => sM hS rfl fun hS => sB hS rfl fun hS => sO hS (Xe ([.int .i64 (17 : Int), .int .i64 (qk (Br - (3 : Int))), .int .i64 (3 : Int)]) [(0, 1), (1, 1), (2, 1)] Tryd.zeroValue75 Tryd.runUnderlying75 (by intro w; simp [Tryd.sizeOf3]) rfl rfl) rfl fun hS => XE (g := ql.cells) ([(ql.mk (17 : Int) (qk (Br - (3 : Int))) (3 : Int))] : List ql) [.agg ⟨[.int .i64 (17 : Int), .int .i64 (qk (Br - (3 : Int))), .int .i64 (3 : Int)]⟩] hS Tryd.runUnderlying72 Tryd.sizeOf75 X.el75 rfl rfl rfl (by simp [Value.cells]) rfl rfl rfl rfl rfl fun w DK DL DM B0 hS => ?_
      obtain ⟨B3, hM⟩ := qB hM
      refine Yp (ys := ([(ql.mk (17 : Int) (qk (Br - (3 : Int))) (3 : Int))] : List ql)) 1 hS rfl rfl Bz rfl (B0.rd (i := 0) rfl) Tryd.runUnderlying72 Tryd.runUnderlying72 X.el75 (fun _ => rfl) rfl uW B3 rfl fun B4 w Dl Dm Dn hz B5 hS => ?_
      have hM := qA hz hM; clear hz
      refine sA hS rfl fun hS => q9 <| zk (qg ?_)
      refine zv <| sM hS rfl fun hS => sM hS rfl fun hS => sB hS rfl fun hS => zr (v := Value.int .i64) (x0 := (qk (Bo + Br))) hS (z8 rfl) rfl fun Do a w hz hS => ?_
      have hM := qA hz hM; clear hz
      refine q9 <| zk (qg ?_)
      exact BD _ _ ⟨Dl, Dm, B4, Dn, Do, hS.to [1] (by kernel_rfl) ⟨rfl, rfl, rfl, trivial⟩, B5, hM⟩
     ·refine wp_seq ?_
      refine zv <| sM hS rfl fun hS => sB hS rfl fun hS => zr (v := Value.bool) (x0 := (decide (Br ≥ (4 : Int)))) hS (z8 rfl) rfl fun DN a w hz hS => ?_
      have hM := qA hz hM; clear hz
      refine qF <| qC hS rfl hM (fun B6 hM => ?_) (fun B6 hM => ?_)
      ·refine wp_seq ?_
       refine zv <| sM hS rfl fun hS => sO hS (YY rfl rfl) rfl fun hS => zr (v := Value.int .i64) (x0 := (if (7 : Int) < Br then (7 : Int) else Br)) hS (z8 rfl) rfl fun BB a w hz hS => ?_
       have hM := qA hz hM; clear hz
       refine qF <| zv <| sM hS rfl fun hS => sM hS rfl fun hS => sM hS rfl fun hS => sO hS (xd rfl rfl Tryd.runUnderlying45 Tryd.sizeOf3 Bs.wk (fun _ => rfl) rfl Bv) rfl fun hS => sO hS (x3 rfl Bs.wk (fun _ => rfl) Bv rfl Tryd.isAgg3) rfl fun hS => sO hS (Xe ([.int .i64 (rd Bn Bo), .int .i64 (0 : Int), .int .i64 (0 : Int)]) [(0, 1), (1, 1), (2, 1)] Tryd.zeroValue75 Tryd.runUnderlying75 (by intro w; simp [Tryd.sizeOf3]) rfl rfl) rfl fun hS => sM hS rfl fun hS => sB hS rfl fun hS => sO hS (Xe ([.int .i64 (16 : Int), .int .i64 (qk (BB - (4 : Int))), .int .i64 (2 : Int)]) [(0, 1), (1, 1), (2, 1)] Tryd.zeroValue75 Tryd.runUnderlying75 (by intro w; simp [Tryd.sizeOf3]) rfl rfl) rfl fun hS => XE (g := ql.cells) ([(ql.mk (rd Bn Bo) (0 : Int) (0 : Int)), (ql.mk (16 : Int) (qk (BB - (4 : Int))) (2 : Int))] : List ql) [.agg ⟨[.int .i64 (rd Bn Bo), .int .i64 (0 : Int), .int .i64 (0 : Int)]⟩, .agg ⟨[.int .i64 (16 : Int), .int .i64 (qk (BB - (4 : Int))), .int .i64 (2 : Int)]⟩] hS Tryd.runUnderlying72 Tryd.sizeOf75 X.el75 rfl rfl rfl (by simp [Value.cells]) rfl rfl rfl rfl rfl fun w DO DP DQ B7 hS => ?_
       obtain ⟨B8, hM⟩ := qB hM
       refine Yp (ys := ([(ql.mk (rd Bn Bo) (0 : Int) (0 : Int)), (ql.mk (16 : Int) (qk (BB - (4 : Int))) (2 : Int))] : List ql)) 1 hS rfl rfl Bz rfl (B7.rd (i := 0) rfl) Tryd.runUnderlying72 Tryd.runUnderlying72 X.el75 (fun _ => rfl) rfl uW B8 rfl fun B9 w Dp Dq Dr hz Da hS => ?_
       have hM := qA hz hM; clear hz
       refine sA hS rfl fun hS => q9 <| zk (qg ?_)
       refine zv <| sM hS rfl fun hS => sM hS rfl fun hS => sB hS rfl fun hS => zr (v := Value.int .i64) (x0 := (qk (Bo + BB))) hS (z8 rfl) rfl fun Dt a w hz hS => ?_
       have hM := qA hz hM; clear hz
       refine q9 <| zk (qg ?_)
       exact BD _ _ ⟨Dp, Dq, B9, Dr, Dt, hS.to [1] (by kernel_rfl) ⟨rfl, rfl, rfl, trivial⟩, Da, hM⟩
      ·refine wp_seq ?_
       refine zv <| sA hS rfl fun hS => qF <| zv <| sM hS rfl fun hS => sM hS rfl fun hS => sM hS rfl fun hS => sO hS (xd rfl rfl Tryd.runUnderlying45 Tryd.sizeOf3 Bs.wk (fun _ => rfl) rfl Bv) rfl fun hS => sO hS (x3 rfl Bs.wk (fun _ => rfl) Bv rfl Tryd.isAgg3) rfl fun hS => sO hS (Xe ([.int .i64 (rd Bn Bo), .int .i64 (0 : Int), .int .i64 (0 : Int)]) [(0, 1), (1, 1), (2, 1)] Tryd.zeroValue75 Tryd.runUnderlying75 (by intro w; simp [Tryd.sizeOf3]) rfl rfl) rfl fun hS => XE (g := ql.cells) ([(ql.mk (rd Bn Bo) (0 : Int) (0 : Int))] : List ql) [.agg ⟨[.int .i64 (rd Bn Bo), .int .i64 (0 : Int), .int .i64 (0 : Int)]⟩] hS Tryd.runUnderlying72 Tryd.sizeOf75 X.el75 rfl rfl rfl (by simp [Value.cells]) rfl rfl rfl rfl rfl fun w DR DS DT Db hS => ?_
       obtain ⟨Dc, hM⟩ := qB hM
       refine Yp (ys := ([(ql.mk (rd Bn Bo) (0 : Int) (0 : Int))] : List ql)) 1 hS rfl rfl Bz rfl (Db.rd (i := 0) rfl) Tryd.runUnderlying72 Tryd.runUnderlying72 X.el75 (fun _ => rfl) rfl uW Dc rfl fun De w Du Dv Dw hz Df hS => ?_
       have hM := qA hz hM; clear hz
       refine sA hS rfl fun hS => q9 <| zk (qg ?_)
       refine zv <| sM hS rfl fun hS => sM hS rfl fun hS => sB hS rfl fun hS => zr (v := Value.int .i64) (x0 := (qk (Bo + (1 : Int)))) hS (z8 rfl) rfl fun Dx a w hz hS => ?_
       have hM := qA hz hM; clear hz
       refine q9 <| zk (qg ?_)
       exact BD _ _ ⟨Du, Dv, De, Dw, Dx, hS.to [1] (by kernel_rfl) ⟨rfl, rfl, rfl, trivial⟩, Df, hM⟩
  ·refine wp_exit ?_
   refine qx (qx (qV (qg ?_)))
   refine qu <| sM hS rfl fun hS => sA hS rfl fun hS => qF <| wp_ret ?_
   exact zJ (rs := [2]) hS rfl rfl (hret Bw Bx Bq By _ (zj hM) Bz (hS.st.pick [0] (by kernel_rfl)))
theorem jF {H : xl} {F : List qs} {w : World} {R : Ending → World → Prop} {kr : (Int × (List Int)) → Prop} {kp : Value → Prop} (hG : Gl H) (K : Nat) (Bn : qn) (Bo : qq) (Bp : Int) (Bs : Nat) (BQ : qs) (BR : Option Addr) (BS : Nat) (BT : qs) (BA : Option Addr) (BB : Nat) (Bw : qs) (BC : Option Addr) (BD : Nat) (Bx : qs) (BE : Option Addr) (BF : Nat) (By : qs) (BG : Option Addr) (BH : Nat) (Bz : qs) (BU : Option Addr) (BV : Nat) (Bv : Option Addr) (BI : Nat) (Df : x6 BQ Bs ([.int .i64 Bn.Writer_.place_.at_, .slice BR Bn.Writer_.bytes_.length BS, .slice BA Bn.literals_.lengths_.length BB, .slice BC Bn.literals_.codes_.length BD, .slice BE Bn.distances_.lengths_.length BF, .slice BG Bn.distances_.codes_.length BH]) 49) (Dg : zC 5 (ci .u8) 1 BR Bn.Writer_.bytes_ BS BT) (Dh : zC 3 (ci .i64) 1 BA Bn.literals_.lengths_ BB Bw) (Di : zC 3 (ci .i64) 1 BC Bn.literals_.codes_ BD Bx) (Dj : zC 3 (ci .i64) 1 BE Bn.distances_.lengths_ BF By) (Dk : zC 3 (ci .i64) 1 BG Bn.distances_.codes_ BH Bz) (BW : yM H [] F (ci .i64) BU Bo.lengths_) (Dw : Bo.lengths_.length ≤ BV) (BX : yM H [] F (ci .i64) Bv Bo.codes_) (Dx : Bo.codes_.length ≤ BI)
    (hS : St w H [BQ, BT, Bw, Bx, By, Bz] F) (hm : (zl.m K Bn Bo Bp).wp kr kp)
    (hret : ∀ (BN : Int) (B6 : Option Addr) (B7 : Nat) (Bu : (List Int)) (B8 : qs) (B9 : qs) (w : World), kr (BN, Bu) → (zC 5 (ci .u8) 1 B6 Bu B7 B8) → (x6 B9 Bs ([.int .i64 BN, .slice B6 Bu.length B7, .slice BA Bn.literals_.lengths_.length BB, .slice BC Bn.literals_.codes_.length BD, .slice BE Bn.distances_.lengths_.length BF, .slice BG Bn.distances_.codes_.length BH]) 49) → St w H [B9, B8, Bw, Bx, By, Bz] F → R (.returned (.tuple ⟨[]⟩)) w) :
    Calls Tryd.prog 41 ⟨[q7 Bs 0, .agg ⟨[.slice BU Bo.lengths_.length BV, .slice Bv Bo.codes_.length BI]⟩, .int .i64 Bp]⟩ w R := by
 refine enter Tryd.func41 rfl Tryd.ntmps41 rfl hS fun a w hS => ?_
 have hM := hm; clear hm
 rw [zl.m] at hM
 refine qu <| bx ([.slice BU Bo.lengths_.length BV, .slice Bv Bo.codes_.length BI]) hS rfl rfl rfl fun w BO Da BY hS => qF <| qu <| sO hS (xn rfl Tryd.runUnderlying47 rfl Tryd.sizeOf45 rfl) rfl fun hS => sO hS (x5 0 rfl BY rfl rfl Tryd.isAgg45) rfl fun hS => sM hS rfl fun hS => ?_
 obtain ⟨BZ, hM⟩ := qB hM
 refine sO hS (xd rfl rfl Tryd.runUnderlying45 Tryd.sizeOf3 BW.wk (fun _ => rfl) rfl BZ) rfl fun hS => sO hS (x3 rfl BW.wk (fun _ => rfl) BZ rfl Tryd.isAgg3) rfl fun hS => sB hS rfl fun hS => zr (v := Value.int .i64) (x0 := (qk ((rd Bo.lengths_ Bp) - (1 : Int)))) hS (z8 rfl) rfl fun Do a w hz hS => ?_
 have hM := qA hz hM; clear hz
 refine qF <| z7 <| zd (fun Db a w => ∃ (Bt : Int) (BJ : Option Addr) (BK : Nat) (Bq : (List Int)) (BL : qs) (BM : qs) (Br : Int), Ss 30 [] [(0, q7 Bs 0), (2, .int .i64 Bp), (4, q7 BO 0), (6, .int .i64 Br)] H [BM, BL, Bw, Bx, By, Bz, Da] F a w ∧ (zC 5 (ci .u8) 1 BJ Bq BK BL) ∧ (x6 BM Bs ([.int .i64 Bt, .slice BJ Bq.length BK, .slice BA Bn.literals_.lengths_.length BB, .slice BC Bn.literals_.codes_.length BD, .slice BE Bn.distances_.lengths_.length BF, .slice BG Bn.distances_.codes_.length BH]) 49) ∧ (zl.l1 K Bn Bo Bp Db Bt Bq Br).wp kr kp) K ?_ ?_ ?_
 ·exact ⟨Bn.Writer_.place_.at_, BR, BS, Bn.Writer_.bytes_, BT, BQ, Do, hS.to [1, 2, 3, 4, 5, 6, 0] (by kernel_rfl) ⟨rfl, rfl, rfl, rfl, trivial⟩, Dg, Df, hM⟩
 ·intro a w hI; obtain ⟨_, _, _, _, _, _, _, _, _, _, hM⟩ := hI; exact zc hM
 ·intro Db a w hI Dy Dl
  obtain ⟨Bt, BJ, BK, Bq, BL, BM, Br, hS, B0, B3, hM⟩ := hI
  rw [zl.l1] at hM
  refine wp_seq <| qu <| sM hS rfl fun hS => sB hS rfl fun hS => qF <| qC hS rfl hM (fun Dm hM => ?_) (fun Dm hM => ?_)
  ·refine wp_skip ?_
   refine qg <| wp_seq <| z7 ?_
   obtain ⟨B4, hM⟩ := qB hM
   obtain ⟨Dn, hM⟩ := qB hM
   refine q8 (vals := [some (q7 Bs 0), some (q7 Bs 0), some (q7 Bs 0), some (q7 BO 1), some (.slice Bv Bo.codes_.length BI), some (.int .i64 Bp), some (zA Bv (Int.toNat Bp * 1)), some (.int .i64 (rd Bo.codes_ Bp)), some (.int .i64 Br), some (.int .i64 (zR .i64 (rd Bo.codes_ Bp) Br)), some (.int .i64 (xh .i64 (zR .i64 (rd Bo.codes_ Bp) Br) (1 : Int))), some (.int .u32 (wr .u32 (xh .i64 (zR .i64 (rd Bo.codes_ Bp) Br) (1 : Int)))), none]) hS z6 rfl ?_
   intro l w ho hcl hA hst
   refine yx hA hst ho hcl zX z5 12 [0, 1, 2, 3, 4, 5, 6, 7, 8, 9, 10, 11] rfl rfl rfl rfl rfl (by exact ⟨nM rfl, nQ rfl (by exact qR (yV rfl) rfl), nQ rfl (by exact qR (xn rfl Tryd.runUnderlying49 rfl Tryd.sizeOf44 rfl) rfl), nQ rfl (by exact qR (xn rfl Tryd.runUnderlying47 rfl Tryd.sizeOf45 rfl) rfl), nQ rfl (by exact qR (x5 6 rfl BY rfl rfl Tryd.isAgg45) rfl), nM rfl, nQ rfl (by exact qR (xd rfl rfl Tryd.runUnderlying45 Tryd.sizeOf3 BX.wk (fun _ => rfl) rfl B4) rfl), nQ rfl (by exact qR (x3 rfl BX.wk (fun _ => rfl) B4 rfl Tryd.isAgg3) rfl), nM rfl, nQ rfl (by exact qR (shr rfl rfl Dn) rfl), nB rfl, nQ rfl (by exact qR (vX rfl Tryd.runUnderlying3 Tryd.runUnderlying53) rfl), trivial⟩) fun D l a w ho hcl hav hpre hm hE hk hA hst => ?_
   have hS := (Ss.mk hE hst).env2 (e' := [(19, q7 Bs 0), (28, .int .u32 (wr .u32 (xh .i64 (zR .i64 (rd Bo.codes_ Bp) Br) (1 : Int))))]) ⟨rfl, rfl, trivial⟩
   refine qP rfl <| qO hS rfl Tryd.call23 (qU hG K (qn.mk (qG.mk (qJ.mk Bt) Bq) Bn.literals_ Bn.distances_) (wr .u32 (xh .i64 (zR .i64 (rd Bo.codes_ Bp) Br) (1 : Int))) (1 : Int) Bs BM BJ BK BL BA BB Bw BC BD Bx BE BF By BG BH Bz B3 B0 Dh Di Dj Dk (hS.st.part 6 [0, 1, 2, 3, 4, 5, 6] (by kernel_rfl)) (qy hM) (fun Dp B5 Dq Dr BP Dc De w hM Dt Du hst => qM hS.ev hst.appF rfl fun hS => ?_))
   replace hS : Ss _ _ _ H [De, Dc, Bw, Bx, By, Bz, Da] F _ _ := hS
   refine qF ?_
   replace hst := hS.st
   obtain ⟨hcl, hmust, hav2, hA⟩ := dn (vals' := [some (q7 Bs 0), some (q7 Bs 0), some (q7 Bs 0), some (q7 BO 1), some (.slice Bv Bo.codes_.length BI), some (.int .i64 Bp), some (zA Bv (Int.toNat Bp * 1)), some (.int .i64 (rd Bo.codes_ Bp)), some (.int .i64 Br), some (.int .i64 (zR .i64 (rd Bo.codes_ Bp) Br)), some (.int .i64 (xh .i64 (zR .i64 (rd Bo.codes_ Bp) Br) (1 : Int))), some (.int .u32 (wr .u32 (xh .i64 (zR .i64 (rd Bo.codes_ Bp) Br) (1 : Int)))), some (.int .i64 Dp)]) 12 [(2, 12), (11, 12), (1, 2), (10, 11), (0, 1), (9, 10), (7, 9), (8, 9), (6, 7), (4, 6), (5, 6), (3, 4)] hA hcl hav hm hpre hk rfl rfl rfl rfl rfl rfl rfl
   clear hm hav
   refine xG hA hst ho hcl hmust [] rfl rfl rfl trivial fun a w hS => ?_
   replace hS := hS.env2 (e' := [(0, q7 Bs 0), (2, .int .i64 Bp), (4, q7 BO 0), (6, .int .i64 Br)]) ⟨rfl, rfl, rfl, rfl, trivial⟩
   refine zk (qg ?_)
   refine zv <| sM hS rfl fun hS => sB hS rfl fun hS => zr (v := Value.int .i64) (x0 := (qk (Br - (1 : Int)))) hS (z8 rfl) rfl fun Dv a w hz hS => ?_
   have hM := qA hz hM; clear hz
   refine q9 <| qg ?_
   exact Dl _ _ ⟨B5, Dq, Dr, BP, Dc, De, Dv, hS.to [0, 1, 2, 3, 4, 5, 6] (by kernel_rfl) ⟨rfl, rfl, rfl, rfl, trivial⟩, Dt, Du, hM⟩
  ·refine wp_exit ?_
   refine qx (qx (qV ?_))
   exact yj (rs := []) hS rfl rfl (hret Bt BJ BK Bq BL BM _ (zj hM) B0 B3 (hS.st.pick [0, 1, 2, 3, 4, 5] (by kernel_rfl)))
theorem x4 {H : xl} {F : List qs} {w : World} {R : Ending → World → Prop} {kr : ((List UInt8) × Int) → Prop} {kp : Value → Prop} (hG : Gl H) (K : Nat) (Bp : List qp) (BI : Option Addr) (BJ : Nat) (DO : yM H [] F qp.cells BI Bp) (GW : Bp.length ≤ BJ)
    (hS : St w H [] F) (hm : (qh.m K Bp).wp kr kp)
    (hret : ∀ (LC : List UInt8) (LD : Int) (w : World), kr (LC, LD) → St w H [] F → R (.returned (.tuple ⟨[yX LC, .int .i64 LD]⟩)) w)
    (hpan : ∀ v w, kp v → St w H [] F → R (.panicked [⟨v, false, false⟩]) w) :
    Calls Tryd.prog 14 ⟨[.slice BI Bp.length BJ]⟩ w R := by
 refine enter Tryd.func14 rfl Tryd.ntmps14 rfl hS fun a w hS => ?_
 have hM := hm; clear hm
 rw [qh.m] at hM
 refine qu <| sA hS rfl fun hS => sA hS rfl fun hS => qF <| wp_seq <| qu <| sM hS rfl fun hS => qO hS rfl Tryd.call21 (vk hG K Bp BI BJ (DO.app _) GW (hS.st.part 0 [] (by kernel_rfl)) (qy hM) (fun NR w hM  hst => qM hS.ev hst.appF rfl fun hS => ?_))
 replace hS : Ss _ _ _ H [] F _ _ := hS
 refine sO hS (un rfl rfl) rfl fun hS => qF <| qC hS rfl hM (fun L4 hM => ?_) (fun L4 hM => ?_)
 ·refine wp_seq ?_
  refine zv <| sA hS rfl fun hS => sA hS rfl fun hS => qF <| wp_ret <| zz ?_
  exact zJ (rs := [2, 3]) hS rfl rfl (hret ([] : List UInt8) (1 : Int) _ (zj hM) (hS.st.pick [] (by kernel_rfl)))
 ·refine wp_skip ?_
  refine qg <| qX (fun a w => ∃ (BG : Option Addr) (BH : Nat) (BC : (List Int)) (GX : qs) (BT : Option Addr) (BU : Nat) (BQ : (List Int)) (Gp : qs), Ss 196 [] [(0, .slice BI Bp.length BJ), (4, .slice BG BC.length BH), (5, .slice BT BQ.length BU)] H [GX, Gp] F a w ∧ (zC 3 (ci .i64) 1 BG BC BH GX) ∧ (zC 3 (ci .i64) 1 BT BQ BU Gp) ∧ (qh.j1 K Bp BC BQ).wp kr kp) (fun NS GY => ?_) ?_
  ·refine q8 (vals := [none, none, none, none]) hS z6 rfl ?_
   intro l w ho hcl hA hst
   obtain ⟨GZ, hM⟩ := qB hM
   obtain ⟨B7, Ge⟩ := yk (List.replicate (Int.toNat (286 : Int)) (0 : Int))
   replace hM := qA Ge hM
   obtain ⟨G0, hM⟩ := qB hM
   obtain ⟨Dc, Gf⟩ := yk (List.replicate (Int.toNat (30 : Int)) (0 : Int))
   replace hM := qA Gf hM
   refine Uf (vals := [none, none, none, none]) 0 1 [] [] rfl rfl rfl rfl rfl trivial (fun D l a w ho hcl hav hpre hm hE hk hA hst => ?_) (fun D l a w ho hcl hav hpre hm hE hk hA hst => ?_) ho hcl zX z5 List.not_mem_nil List.not_mem_nil hA hst
   ·have hS := (Ss.mk hE hst).env2 (e' := []) trivial
    refine qP rfl <| VM (g := (ci .i64)) (m := (286 : Int)) (0 : Int) hS rfl rfl (by simp) Tryd.runUnderlying45 X.el3 (fun w => ⟨_, Tryd.zeroValue3 w, rfl⟩) (fun _ => rfl) rfl rfl GZ rfl fun NK w DG DH MT hz L5 hS => ?_
    rw [← Ge] at hz; replace hz := hz.symm; subst hz
    refine qF ?_
    replace hst := hS.st
    obtain ⟨hcl, hmust, hav2, hA⟩ := dn (vals' := [some (.slice DG B7.length DH), none, some (.slice DG B7.length DH), none]) 0 [] hA hcl hav hm hpre hk rfl rfl rfl rfl rfl rfl rfl
    clear hm hav
    refine yx hA hst ho hcl hav2 hmust 1 [2] rfl rfl rfl rfl rfl (by exact ⟨nA rfl, trivial⟩) fun D l a w ho hcl hav hpre hm hE hk hA hst => ?_
    have hS := (Ss.mk hE hst).env2 (e' := []) trivial
    refine qP rfl <| VM (g := (ci .i64)) (m := (30 : Int)) (0 : Int) hS rfl rfl (by simp) Tryd.runUnderlying45 X.el3 (fun w => ⟨_, Tryd.zeroValue3 w, rfl⟩) (fun _ => rfl) rfl rfl G0 rfl fun NL w Gq Gr MU hz L6 hS => ?_
    rw [← Gf] at hz; replace hz := hz.symm; subst hz
    refine qF ?_
    replace hst := hS.st
    obtain ⟨hcl, hmust, hav2, hA⟩ := dn (vals' := [some (.slice DG B7.length DH), some (.slice Gq Dc.length Gr), some (.slice DG B7.length DH), some (.slice Gq Dc.length Gr)]) 1 [] hA hcl hav hm hpre hk rfl rfl rfl rfl rfl rfl rfl
    clear hm hav
    refine xG hA hst ho hcl hmust [2, 3] rfl rfl rfl (by exact ⟨nA rfl, nA rfl, trivial⟩) fun a w hS => ?_
    replace hS := hS.env2 (e' := [(0, .slice BI Bp.length BJ), (4, .slice DG B7.length DH), (5, .slice Gq Dc.length Gr)]) ⟨rfl, rfl, rfl, trivial⟩
    refine qg ?_
    exact GY _ _ ⟨DG, DH, B7, MT, Gq, Gr, Dc, MU, hS.to [1, 0] (by kernel_rfl) ⟨rfl, rfl, rfl, trivial⟩, L5, L6, hM⟩
   ·have hS := (Ss.mk hE hst).env2 (e' := []) trivial
    refine qP rfl <| VM (g := (ci .i64)) (m := (30 : Int)) (0 : Int) hS rfl rfl (by simp) Tryd.runUnderlying45 X.el3 (fun w => ⟨_, Tryd.zeroValue3 w, rfl⟩) (fun _ => rfl) rfl rfl G0 rfl fun NM w DZ D0 MV hz L7 hS => ?_
    rw [← Gf] at hz; replace hz := hz.symm; subst hz
    refine qF ?_
    replace hst := hS.st
    obtain ⟨hcl, hmust, hav2, hA⟩ := dn (vals' := [none, some (.slice DZ Dc.length D0), none, none]) 1 [] hA hcl hav hm hpre hk rfl rfl rfl rfl rfl rfl rfl
    clear hm hav
    refine yx hA hst ho hcl hav2 hmust 0 [] rfl rfl rfl rfl rfl trivial fun D l a w ho hcl hav hpre hm hE hk hA hst => ?_
    have hS := (Ss.mk hE hst).env2 (e' := []) trivial
    refine qP rfl <| VM (g := (ci .i64)) (m := (286 : Int)) (0 : Int) hS rfl rfl (by simp) Tryd.runUnderlying45 X.el3 (fun w => ⟨_, Tryd.zeroValue3 w, rfl⟩) (fun _ => rfl) rfl rfl GZ rfl fun NN w Gs Gt MW hz L8 hS => ?_
    rw [← Ge] at hz; replace hz := hz.symm; subst hz
    refine qF ?_
    replace hst := hS.st
    obtain ⟨hcl, hmust, hav2, hA⟩ := dn (vals' := [some (.slice Gs B7.length Gt), some (.slice DZ Dc.length D0), some (.slice Gs B7.length Gt), some (.slice DZ Dc.length D0)]) 0 [] hA hcl hav hm hpre hk rfl rfl rfl rfl rfl rfl rfl
    clear hm hav
    refine xG hA hst ho hcl hmust [2, 3] rfl rfl rfl (by exact ⟨nA rfl, nA rfl, trivial⟩) fun a w hS => ?_
    replace hS := hS.env2 (e' := [(0, .slice BI Bp.length BJ), (4, .slice Gs B7.length Gt), (5, .slice DZ Dc.length D0)]) ⟨rfl, rfl, rfl, trivial⟩
    refine qg ?_
    exact GY _ _ ⟨Gs, Gt, B7, MW, DZ, D0, Dc, MV, hS.to [0, 1] (by kernel_rfl) ⟨rfl, rfl, rfl, trivial⟩, L8, L7, hM⟩
  ·intro a w hI
   obtain ⟨BG, BH, BC, GX, BT, BU, BQ, Gp, hS, DP, L9, hM⟩ := hI
   rw [qh.j1] at hM
   refine qu <| sM hS rfl fun hS => ?_
   obtain ⟨DQ, hM⟩ := qB hM
   refine sO hS (xd rfl rfl Tryd.runUnderlying45 Tryd.sizeOf3 (DP.rd (i := 0) rfl) (fun _ => rfl) rfl DQ) rfl fun hS => sO hS (x3 rfl (DP.rd (i := 0) rfl) (fun _ => rfl) DQ rfl Tryd.isAgg3) rfl fun hS => sB hS rfl fun hS => sO hS (xd rfl rfl Tryd.runUnderlying45 Tryd.sizeOf3 (DP.rd (i := 0) rfl) (fun _ => rfl) rfl DQ) rfl fun hS => Xf (i := (256 : Int)) (sz := 1) 0 0 ((qk ((rd BC (256 : Int)) + (1 : Int)))) hS rfl rfl DP rfl Tryd.sizeOf3 (xb (qk ((rd BC (256 : Int)) + (1 : Int)))) (fun _ => rfl) DQ rfl rfl fun Gg w MX hz G1 Ma hS => ?_
   have hM := qA hz hM; clear hz
   replace hS := hS.re 4 (u := .slice BG BC.length BH) (v := .slice BG Gg.length BH) rfl (by rw [G1])
   replace hS := hS.re 28 (u := .slice BG BC.length BH) (v := .slice BG Gg.length BH) rfl (by rw [G1])
   refine qF <| qX (fun a w => ∃ (BF : (List Int)) (Gu : qs) (BD : (List Int)) (DI : qs), Ss 196 [] [(0, .slice BI Bp.length BJ), (4, .slice BG BF.length BH), (5, .slice BT BD.length BU)] H [Gu, DI] F a w ∧ (zC 3 (ci .i64) 1 BG BF BH Gu) ∧ (zC 3 (ci .i64) 1 BT BD BU DI) ∧ (qh.j3 K Bp BF BD).wp kr kp) (fun NT Mb => ?_) ?_
   ·refine wp_seq ?_
    refine zv <| sM hS rfl fun hS => sO hS (xI rfl Tryd.runUnderlying25) rfl fun hS => sM hS rfl fun hS => qF <| z7 <| zd (fun LE a w => ∃ (Bt : (List Int)) (D1 : qs) (Bv : (List Int)) (DB : qs) (BV : Int), Ss 196 [] [(0, .slice BI Bp.length BJ), (4, .slice BG Bt.length BH), (5, .slice BT Bv.length BU), (33, .slice BI Bp.length BJ), (34, .int .i64 (Bp.length : Int)), (35, .int .i64 BV)] H [D1, DB] F a w ∧ (zC 3 (ci .i64) 1 BG Bt BH D1) ∧ (zC 3 (ci .i64) 1 BT Bv BU DB) ∧ (qh.l2 K Bp LE Bt Bv BV).wp kr kp) K ?_ ?_ ?_
    ·exact ⟨Gg, MX, BQ, Gp, (0 : Int), hS.to [0, 1] (by kernel_rfl) ⟨rfl, rfl, rfl, rfl, rfl, rfl, trivial⟩, Ma, L9, hM⟩
    ·intro a w hI; obtain ⟨_, _, _, _, _, _, _, _, hM⟩ := hI; exact zc hM
    ·intro LE a w hI NU G2
     obtain ⟨Bt, D1, Bv, DB, BV, hS, De, Dx, hM⟩ := hI
     rw [qh.l2] at hM
     refine qu <| sB hS rfl fun hS => qF <| wp_seq <| qC hS rfl hM (fun Mc hM => ?_) (fun Mc hM => ?_)
     ·refine wp_skip ?_
      refine qg <| wp_seq <| z7 <| wp_seq <| zv ?_
      obtain ⟨G3, hM⟩ := qB hM
      refine sO hS (xd rfl rfl Tryd.runUnderlying25 Tryd.sizeOf32 DO.wk (fun _ => rfl) rfl G3) rfl fun hS => sO hS (xV rfl DO.wk (fun _ => rfl) G3 Tryd.isAgg32 Tryd.sizeOf32 rfl) rfl fun hS => uS ([.int .u8 (0 : Int), .int .i64 (0 : Int), .int .i64 (0 : Int)]) hS Tryd.zeroValue32 rfl rfl fun w NV NW Md hS => uX 0 ([.int .u8 ((rd Bp BV).Lit_), .int .i64 ((rd Bp BV).Len_), .int .i64 ((rd Bp BV).Dist_)]) ([.int .u8 ((rd Bp BV).Lit_), .int .i64 ((rd Bp BV).Len_), .int .i64 ((rd Bp BV).Dist_)]) hS rfl rfl Md rfl rfl Tryd.sizeOf32 (by simp [Value.oneCell']) (Nat.le_of_ble_eq_true rfl) rfl fun w LF DR hS => qF <| qu <| sO hS (xn rfl Tryd.runUnderlying32 rfl Tryd.sizeOf3 rfl) rfl fun hS => sO hS (x5 0 rfl DR rfl rfl Tryd.isAgg3) rfl fun hS => sB hS rfl fun hS => qF <| qC hS rfl hM (fun Me hM => ?_) (fun Me hM => ?_)
      ·refine zv ?_
       refine sM hS rfl fun hS => sO hS (xn rfl Tryd.runUnderlying32 rfl Tryd.sizeOf5 rfl) rfl fun hS => sO hS (x5 0 rfl DR rfl rfl Tryd.isAgg5) rfl fun hS => ?_
       obtain ⟨DS, hM⟩ := qB hM
       refine sO hS (xd rfl rfl Tryd.runUnderlying45 Tryd.sizeOf3 (De.rd (i := 1) rfl) (fun _ => rfl) rfl DS) rfl fun hS => sO hS (x3 rfl (De.rd (i := 1) rfl) (fun _ => rfl) DS rfl Tryd.isAgg3) rfl fun hS => sB hS rfl fun hS => sO hS (xd rfl rfl Tryd.runUnderlying45 Tryd.sizeOf3 (De.rd (i := 1) rfl) (fun _ => rfl) rfl DS) rfl fun hS => Xf (i := (rd Bp BV).Lit_) (sz := 1) 1 0 ((qk ((rd Bt (rd Bp BV).Lit_) + (1 : Int)))) hS rfl rfl De rfl Tryd.sizeOf3 (xb (qk ((rd Bt (rd Bp BV).Lit_) + (1 : Int)))) (fun _ => rfl) DS rfl rfl fun Gh w MY hz G4 Mf hS => ?_
       have hM := qA hz hM; clear hz
       replace hS := hS.re 4 (u := .slice BG Bt.length BH) (v := .slice BG Gh.length BH) rfl (by rw [G4])
       replace hS := hS.re 42 (u := .slice BG Bt.length BH) (v := .slice BG Gh.length BH) rfl (by rw [G4])
       refine q9 <| zk (qg ?_)
       refine zv <| sB hS rfl fun hS => sM hS rfl fun hS => q9 <| qg ?_
       exact G2 _ _ ⟨Gh, MY, Bv, DB, (qk (BV + (1 : Int))), hS.to [1, 2] (by kernel_rfl) ⟨rfl, rfl, rfl, rfl, rfl, rfl, trivial⟩, Mf, Dx, hM⟩
      ·refine wp_seq ?_
       refine zv <| sM hS rfl fun hS => sO hS (xn rfl Tryd.runUnderlying32 rfl Tryd.sizeOf3 rfl) rfl fun hS => sO hS (x5 0 rfl DR rfl rfl Tryd.isAgg3) rfl fun hS => qO hS rfl Tryd.call35 (jH hG K ((rd Bp BV).Len_) (hS.st.part 0 [0, 1, 2] (by kernel_rfl)) (qy hM) (fun Dm MZ M0 w hM  hst => qM hS.ev hst.appF rfl fun hS => ?_))
       replace hS : Ss _ _ _ H [LF, D1, DB] F _ _ := hS
       refine sO hS (KI rfl Tryd.runUnderlying68 rfl Tryd.isAgg3 rfl) rfl fun hS => ?_
       obtain ⟨DT, hM⟩ := qB hM
       refine sO hS (xd rfl rfl Tryd.runUnderlying45 Tryd.sizeOf3 (De.rd (i := 1) rfl) (fun _ => rfl) rfl DT) rfl fun hS => sO hS (x3 rfl (De.rd (i := 1) rfl) (fun _ => rfl) DT rfl Tryd.isAgg3) rfl fun hS => sB hS rfl fun hS => sO hS (xd rfl rfl Tryd.runUnderlying45 Tryd.sizeOf3 (De.rd (i := 1) rfl) (fun _ => rfl) rfl DT) rfl fun hS => Xf (i := Dm) (sz := 1) 1 0 ((qk ((rd Bt Dm) + (1 : Int)))) hS rfl rfl De rfl Tryd.sizeOf3 (xb (qk ((rd Bt Dm) + (1 : Int)))) (fun _ => rfl) DT rfl rfl fun Gi w LG hz G5 Mg hS => ?_
       have hM := qA hz hM; clear hz
       replace hS := hS.re 4 (u := .slice BG Bt.length BH) (v := .slice BG Gi.length BH) rfl (by rw [G5])
       replace hS := hS.re 49 (u := .slice BG Bt.length BH) (v := .slice BG Gi.length BH) rfl (by rw [G5])
       refine qF <| zv <| sM hS rfl fun hS => sO hS (xn rfl Tryd.runUnderlying32 rfl Tryd.sizeOf3 rfl) rfl fun hS => sO hS (x5 0 rfl DR rfl rfl Tryd.isAgg3) rfl fun hS => qO hS rfl Tryd.call36 (y8 hG K ((rd Bp BV).Dist_) (hS.st.part 0 [0, 1, 2] (by kernel_rfl)) (qy hM) (fun Dn M3 M4 w hM  hst => qM hS.ev hst.appF rfl fun hS => ?_))
       replace hS : Ss _ _ _ H [LF, LG, DB] F _ _ := hS
       refine sO hS (KI rfl Tryd.runUnderlying68 rfl Tryd.isAgg3 rfl) rfl fun hS => ?_
       obtain ⟨DU, hM⟩ := qB hM
       refine sO hS (xd rfl rfl Tryd.runUnderlying45 Tryd.sizeOf3 (Dx.rd (i := 2) rfl) (fun _ => rfl) rfl DU) rfl fun hS => sO hS (x3 rfl (Dx.rd (i := 2) rfl) (fun _ => rfl) DU rfl Tryd.isAgg3) rfl fun hS => sB hS rfl fun hS => sO hS (xd rfl rfl Tryd.runUnderlying45 Tryd.sizeOf3 (Dx.rd (i := 2) rfl) (fun _ => rfl) rfl DU) rfl fun hS => Xf (i := Dn) (sz := 1) 2 0 ((qk ((rd Bv Dn) + (1 : Int)))) hS rfl rfl Dx rfl Tryd.sizeOf3 (xb (qk ((rd Bv Dn) + (1 : Int)))) (fun _ => rfl) DU rfl rfl fun Gj w M5 hz G6 Mh hS => ?_
       have hM := qA hz hM; clear hz
       replace hS := hS.re 5 (u := .slice BT Bv.length BU) (v := .slice BT Gj.length BU) rfl (by rw [G6])
       replace hS := hS.re 58 (u := .slice BT Bv.length BU) (v := .slice BT Gj.length BU) rfl (by rw [G6])
       refine q9 <| zk (qg ?_)
       refine zv <| sB hS rfl fun hS => sM hS rfl fun hS => q9 <| qg ?_
       exact G2 _ _ ⟨Gi, LG, Gj, M5, (qk (BV + (1 : Int))), hS.to [1, 2] (by kernel_rfl) ⟨rfl, rfl, rfl, rfl, rfl, rfl, trivial⟩, Mg, Mh, hM⟩
     ·refine wp_exit ?_
      refine qx (qx (qV (qg ?_)))
      exact Mb _ _ ⟨Bt, D1, Bv, DB, hS.to [0, 1] (by kernel_rfl) ⟨rfl, rfl, rfl, trivial⟩, De, Dx, hM⟩
   ·intro a w hI
    obtain ⟨BF, Gu, BD, DI, hS, Mi, Mj, hM⟩ := hI
    rw [qh.j3] at hM
    refine qu <| sM hS rfl fun hS => qO hS rfl Tryd.call38 (ji hG K BF BG BH Gu Mi (hS.st.part 1 [0, 1] (by kernel_rfl)) (qy hM) (fun BL BM By Bw DJ D2 w hM Dg NX LH hst => qM hS.ev hst.appF rfl fun hS => ?_) (fun v w hk hst => yw (zx (⟨hS.ev.defs, hpan _ _ hk hst.appF.frame⟩))))
    replace hS : Ss _ _ _ H [Bw, D2, DI] F _ _ := hS
    replace hS := hS.re 4 (u := .slice BG BF.length BH) (v := .slice BG DJ.length BH) rfl (by rw [LH])
    replace hS := hS.re 68 (u := .slice BG BF.length BH) (v := .slice BG DJ.length BH) rfl (by rw [LH])
    refine qO hS rfl Tryd.call37 (xU hG K By BL BM (Dg.rdF (i := 0) rfl) (Dg.cap (fun _ => rfl) rfl) (hS.st.part 0 [0, 1, 2] (by kernel_rfl)) (qy hM) (fun BZ B0 Bq Bx w hM Do hst => qM hS.ev hst.appF rfl fun hS => ?_))
    replace hS : Ss _ _ _ H [Bx, Bw, D2, DI] F _ _ := hS
    refine sM hS rfl fun hS => qO hS rfl Tryd.call38 (ji hG K BD BT BU DI Mj (hS.st.part 1 [3, 0, 1, 2] (by kernel_rfl)) (qy hM) (fun BN BO Bz BA DK G7 w hM Dh NY LI hst => qM hS.ev hst.appF rfl fun hS => ?_) (fun v w hk hst => yw (zx (⟨hS.ev.defs, hpan _ _ hk hst.appF.frame⟩))))
    replace hS : Ss _ _ _ H [BA, G7, Bx, Bw, D2] F _ _ := hS
    replace hS := hS.re 5 (u := .slice BT BD.length BU) (v := .slice BT DK.length BU) rfl (by rw [LI])
    replace hS := hS.re 71 (u := .slice BT BD.length BU) (v := .slice BT DK.length BU) rfl (by rw [LI])
    refine qO hS rfl Tryd.call37 (xU hG K Bz BN BO (Dh.rdF (i := 0) rfl) (Dh.cap (fun _ => rfl) rfl) (hS.st.part 0 [0, 1, 2, 3, 4] (by kernel_rfl)) (qy hM) (fun B3 B4 Br BB w hM Dp hst => qM hS.ev hst.appF rfl fun hS => ?_))
    replace hS : Ss _ _ _ H [BB, BA, G7, Bx, Bw, D2] F _ _ := hS
    refine sO hS (Xe ([.int .i64 (0 : Int), .slice none 0 0, .slice BL By.length BM, .slice BZ Bq.length B0, .slice BN Bz.length BO, .slice B3 Br.length B4]) [(0, 2), (2, 2), (4, 2)] Tryd.zeroValue49 Tryd.runUnderlying49 (by intro w; simp [Tryd.sizeOf44, Tryd.sizeOf47]) rfl rfl) rfl fun hS => bx ([.int .i64 (0 : Int), .slice none 0 0, .slice BL By.length BM, .slice BZ Bq.length B0, .slice BN Bz.length BO, .slice B3 Br.length B4]) hS rfl rfl rfl fun w Bo Dq Dy hS => ?_
    obtain ⟨Dr, Mk, hS⟩ := hS.nilV 5 (ci .u8) 1
    refine sA hS rfl fun hS => qF <| wp_seq <| q8 (vals := [none, some (q7 Bo 0), some (q7 Bo 0), some (q7 Bo 2), some (q7 Bo 2), some (.slice BL By.length BM), none, some (q7 Bo 0), some (q7 Bo 0), some (q7 Bo 4), some (q7 Bo 4), some (.slice BN Bz.length BO), none, none, none]) hS z6 rfl ?_
    intro l w ho hcl hA hst
    refine yx hA hst ho hcl zX z5 0 [1, 2, 3, 4, 5, 7, 8, 9, 10, 11] rfl rfl rfl rfl rfl (by exact ⟨nM rfl, nQ rfl (by exact qR (yV rfl) rfl), nQ rfl (by exact qR (xn rfl Tryd.runUnderlying49 rfl Tryd.sizeOf47 rfl) rfl), nQ rfl (by exact qR (xn rfl Tryd.runUnderlying47 rfl Tryd.sizeOf45 rfl) rfl), nQ rfl (by exact qR (x5 1 rfl Dy rfl rfl Tryd.isAgg45) rfl), nM rfl, nQ rfl (by exact qR (yV rfl) rfl), nQ rfl (by exact qR (xn rfl Tryd.runUnderlying49 rfl Tryd.sizeOf47 rfl) rfl), nQ rfl (by exact qR (xn rfl Tryd.runUnderlying47 rfl Tryd.sizeOf45 rfl) rfl), nQ rfl (by exact qR (x5 1 rfl Dy rfl rfl Tryd.isAgg45) rfl), trivial⟩) fun D l a w ho hcl hav hpre hm hE hk hA hst => ?_
    have hS := (Ss.mk hE hst).env2 (e' := []) trivial
    refine qP rfl <| XE (g := (ci .i64)) ([] : List Int) [] hS Tryd.runUnderlying45 Tryd.sizeOf3 X.el3 rfl rfl rfl (by simp [Value.cells]) rfl rfl rfl rfl rfl fun w D3 D4 NZ Ml hS => qF ?_
    replace hst := hS.st
    obtain ⟨hcl, hmust, hav2, hA⟩ := dn (vals' := [some (.slice D3 ([] : List Int).length D4), some (q7 Bo 0), some (q7 Bo 0), some (q7 Bo 2), some (q7 Bo 2), some (.slice BL By.length BM), none, some (q7 Bo 0), some (q7 Bo 0), some (q7 Bo 4), some (q7 Bo 4), some (.slice BN Bz.length BO), none, none, none]) 0 [] hA hcl hav hm hpre hk rfl rfl rfl rfl rfl rfl rfl
    clear hm hav
    refine yx hA hst ho hcl hav2 hmust 6 [1, 2, 3, 4, 5, 7, 8, 9, 10, 11] rfl rfl rfl rfl rfl (by exact ⟨nM rfl, nQ rfl (by exact qR (yV rfl) rfl), nQ rfl (by exact qR (xn rfl Tryd.runUnderlying49 rfl Tryd.sizeOf47 rfl) rfl), nQ rfl (by exact qR (xn rfl Tryd.runUnderlying47 rfl Tryd.sizeOf45 rfl) rfl), nQ rfl (by exact qR (x5 2 rfl Dy rfl rfl Tryd.isAgg45) rfl), nM rfl, nQ rfl (by exact qR (yV rfl) rfl), nQ rfl (by exact qR (xn rfl Tryd.runUnderlying49 rfl Tryd.sizeOf47 rfl) rfl), nQ rfl (by exact qR (xn rfl Tryd.runUnderlying47 rfl Tryd.sizeOf45 rfl) rfl), nQ rfl (by exact qR (x5 2 rfl Dy rfl rfl Tryd.isAgg45) rfl), trivial⟩) fun D l a w ho hcl hav hpre hm hE hk hA hst => ?_
    have hS := (Ss.mk hE hst).env2 (e' := [(76, .slice D3 ([] : List Int).length D4), (81, .slice BL By.length BM)]) ⟨rfl, rfl, trivial⟩
    refine qP rfl ?_
    obtain ⟨Mm, hM⟩ := qB hM
    refine Yp (ys := By) 0 hS rfl rfl Ml rfl (Dg.rd (i := 7) rfl) Tryd.runUnderlying45 Tryd.runUnderlying45 X.el3 (fun _ => rfl) rfl xb Mm rfl fun DV w Gv Gw N0 hz Mn hS => ?_
    have hM := qA hz hM; clear hz
    refine qF ?_
    replace hst := hS.st
    obtain ⟨hcl, hmust, hav2, hA⟩ := dn (vals' := [some (.slice D3 ([] : List Int).length D4), some (q7 Bo 0), some (q7 Bo 0), some (q7 Bo 2), some (q7 Bo 2), some (.slice BL By.length BM), some (.slice Gv DV.length Gw), some (q7 Bo 0), some (q7 Bo 0), some (q7 Bo 4), some (q7 Bo 4), some (.slice BN Bz.length BO), none, none, none]) 6 [(0, 6), (5, 6), (4, 5), (3, 4), (2, 3), (1, 2)] hA hcl hav hm hpre hk rfl rfl rfl rfl rfl rfl rfl
    clear hm hav
    refine yx hA hst ho hcl hav2 hmust 12 [7, 8, 9, 10, 11] rfl rfl rfl rfl rfl (by exact ⟨nM rfl, nQ rfl (by exact qR (yV rfl) rfl), nQ rfl (by exact qR (xn rfl Tryd.runUnderlying49 rfl Tryd.sizeOf47 rfl) rfl), nQ rfl (by exact qR (xn rfl Tryd.runUnderlying47 rfl Tryd.sizeOf45 rfl) rfl), nQ rfl (by exact qR (x5 2 rfl Dy rfl rfl Tryd.isAgg45) rfl), trivial⟩) fun D l a w ho hcl hav hpre hm hE hk hA hst => ?_
    have hS := (Ss.mk hE hst).env2 (e' := [(82, .slice Gv DV.length Gw), (87, .slice BN Bz.length BO)]) ⟨rfl, rfl, trivial⟩
    refine qP rfl ?_
    obtain ⟨Mp, hM⟩ := qB hM
    refine Yp (ys := Bz) 0 hS rfl rfl Mn rfl (Dh.rd (i := 4) rfl) Tryd.runUnderlying45 Tryd.runUnderlying45 X.el3 (fun _ => rfl) rfl xb Mp rfl fun DW w Gx Gy M6 hz G8 hS => ?_
    have hM := qA hz hM; clear hz
    refine qF ?_
    replace hst := hS.st
    obtain ⟨hcl, hmust, hav2, hA⟩ := dn (vals' := [some (.slice D3 ([] : List Int).length D4), some (q7 Bo 0), some (q7 Bo 0), some (q7 Bo 2), some (q7 Bo 2), some (.slice BL By.length BM), some (.slice Gv DV.length Gw), some (q7 Bo 0), some (q7 Bo 0), some (q7 Bo 4), some (q7 Bo 4), some (.slice BN Bz.length BO), some (.slice Gx DW.length Gy), none, none]) 12 [(6, 12), (11, 12), (0, 6), (5, 6), (10, 11), (4, 5), (9, 10), (3, 4), (8, 9), (2, 3), (7, 8), (1, 2)] hA hcl hav hm hpre hk rfl rfl rfl rfl rfl rfl rfl
    clear hm hav
    refine yx hA hst ho hcl hav2 hmust 13 [] rfl rfl rfl rfl rfl trivial fun D l a w ho hcl hav hpre hm hE hk hA hst => ?_
    have hS := (Ss.mk hE hst).env2 (e' := [(88, .slice Gx DW.length Gy)]) ⟨rfl, trivial⟩
    refine qP rfl <| qO hS rfl Tryd.call39 (ue hG K DW Gx Gy (G8.rdF (i := 0) rfl) (G8.cap (fun _ => rfl) rfl) (hS.st.part 0 [0, 1, 2, 3, 4, 5, 6, 7, 8] (by kernel_rfl)) (qy hM) (fun B5 B6 Bs BR w hM Gz hst => qM hS.ev hst.appF rfl fun hS => ?_))
    replace hS : Ss _ _ _ H [BR, M6, Dr, Dq, BB, BA, G7, Bx, Bw, D2] F _ _ := hS
    refine qF ?_
    replace hst := hS.st
    obtain ⟨hcl, hmust, hav2, hA⟩ := dn (vals' := [some (.slice D3 ([] : List Int).length D4), some (q7 Bo 0), some (q7 Bo 0), some (q7 Bo 2), some (q7 Bo 2), some (.slice BL By.length BM), some (.slice Gv DV.length Gw), some (q7 Bo 0), some (q7 Bo 0), some (q7 Bo 4), some (q7 Bo 4), some (.slice BN Bz.length BO), some (.slice Gx DW.length Gy), some (.slice B5 Bs.length B6), some (.slice B5 Bs.length B6)]) 13 [(12, 13), (6, 12), (11, 12), (0, 6), (5, 6), (10, 11), (4, 5), (9, 10), (3, 4), (8, 9), (2, 3), (7, 8), (1, 2)] hA hcl hav hm hpre hk rfl rfl rfl rfl rfl rfl rfl
    clear hm hav
    refine xG hA hst ho hcl hmust [14] rfl rfl rfl (by exact ⟨nA rfl, trivial⟩) fun a w hS => ?_
    replace hS := hS.env2 (e' := [(0, .slice BI Bp.length BJ), (8, q7 Bo 0), (9, .slice B5 Bs.length B6)]) ⟨rfl, rfl, rfl, trivial⟩
    refine qg <| wp_seq <| zv ?_
    obtain ⟨Mq, hM⟩ := qB hM
    refine VM (g := (ci .i64)) (m := (19 : Int)) (0 : Int) hS rfl rfl (by simp) Tryd.runUnderlying45 X.el3 (fun w => ⟨_, Tryd.zeroValue3 w, rfl⟩) (fun _ => rfl) rfl rfl Mq rfl fun Mr w Bu BE M7 hz Ms hS => ?_
    have hM := qA hz hM; clear hz
    refine sA hS rfl fun hS => qF <| qX (fun a w => ∃ (Bn : (List Int)) (DL : qs), Ss 196 [] [(0, .slice BI Bp.length BJ), (8, q7 Bo 0), (9, .slice B5 Bs.length B6), (10, .slice Bu Bn.length BE)] H [Dq, Dr, Bw, Bx, BA, BB, BR, DL] F a w ∧ (zC 3 (ci .i64) 1 Bu Bn BE DL) ∧ (qh.j5 K Bp By Bq Bz Br Bs Bn).wp kr kp) (fun N1 Mt => ?_) ?_
    ·refine wp_seq ?_
     refine zv <| sM hS rfl fun hS => sO hS (xI rfl Tryd.runUnderlying72) rfl fun hS => sM hS rfl fun hS => qF <| z7 <| zd (fun LJ a w => ∃ (BK : (List Int)) (GA : qs) (B8 : Int), Ss 196 [] [(0, .slice BI Bp.length BJ), (8, q7 Bo 0), (9, .slice B5 Bs.length B6), (10, .slice Bu BK.length BE), (91, .slice B5 Bs.length B6), (92, .int .i64 (Bs.length : Int)), (93, .int .i64 B8)] H [Dq, Dr, Bw, Bx, BA, BB, BR, GA] F a w ∧ (zC 3 (ci .i64) 1 Bu BK BE GA) ∧ (qh.l4 K Bp By Bq Bz Br Bs LJ BK B8).wp kr kp) K ?_ ?_ ?_
     ·exact ⟨Mr, M7, (0 : Int), hS.to [4, 3, 9, 8, 6, 5, 1, 0] (by kernel_rfl) ⟨rfl, rfl, rfl, rfl, rfl, rfl, rfl, trivial⟩, Ms, hM⟩
     ·intro a w hI; obtain ⟨_, _, _, _, _, hM⟩ := hI; exact zc hM
     ·intro LJ a w hI N2 Mu
      obtain ⟨BK, GA, B8, hS, DC, hM⟩ := hI
      rw [qh.l4] at hM
      refine qu <| sB hS rfl fun hS => qF <| wp_seq <| qC hS rfl hM (fun Mv hM => ?_) (fun Mv hM => ?_)
      ·refine wp_skip ?_
       refine qg <| wp_seq <| z7 <| wp_seq <| zv ?_
       obtain ⟨G9, hM⟩ := qB hM
       refine sO hS (xd rfl rfl Tryd.runUnderlying72 Tryd.sizeOf75 (Gz.rd (i := 6) rfl) (fun _ => rfl) rfl G9) rfl fun hS => sO hS (xV rfl (Gz.rd (i := 6) rfl) (fun _ => rfl) G9 Tryd.isAgg75 Tryd.sizeOf75 rfl) rfl fun hS => uS ([.int .i64 (0 : Int), .int .i64 (0 : Int), .int .i64 (0 : Int)]) hS Tryd.zeroValue75 rfl rfl fun w N3 N4 Mw hS => uX 0 ([.int .i64 ((rd Bs B8).symbol_), .int .i64 ((rd Bs B8).more_), .int .i64 ((rd Bs B8).bits_)]) ([.int .i64 ((rd Bs B8).symbol_), .int .i64 ((rd Bs B8).more_), .int .i64 ((rd Bs B8).bits_)]) hS rfl rfl Mw rfl rfl Tryd.sizeOf75 (by simp [Value.oneCell']) (Nat.le_of_ble_eq_true rfl) rfl fun w N5 Mx hS => qF <| zv <| sM hS rfl fun hS => sO hS (xn rfl Tryd.runUnderlying75 rfl Tryd.sizeOf3 rfl) rfl fun hS => sO hS (x5 0 rfl Mx rfl rfl Tryd.isAgg3) rfl fun hS => ?_
       obtain ⟨DX, hM⟩ := qB hM
       refine sO hS (xd rfl rfl Tryd.runUnderlying45 Tryd.sizeOf3 (DC.rd (i := 8) rfl) (fun _ => rfl) rfl DX) rfl fun hS => sO hS (x3 rfl (DC.rd (i := 8) rfl) (fun _ => rfl) DX rfl Tryd.isAgg3) rfl fun hS => sB hS rfl fun hS => sO hS (xd rfl rfl Tryd.runUnderlying45 Tryd.sizeOf3 (DC.rd (i := 8) rfl) (fun _ => rfl) rfl DX) rfl fun hS => Xf (i := (rd Bs B8).symbol_) (sz := 1) 8 0 ((qk ((rd BK (rd Bs B8).symbol_) + (1 : Int)))) hS rfl rfl DC rfl Tryd.sizeOf3 (xb (qk ((rd BK (rd Bs B8).symbol_) + (1 : Int)))) (fun _ => rfl) DX rfl rfl fun Gk w M8 hz La My hS => ?_
       have hM := qA hz hM; clear hz
       replace hS := hS.re 10 (u := .slice Bu BK.length BE) (v := .slice Bu Gk.length BE) rfl (by rw [La])
       replace hS := hS.re 97 (u := .slice Bu BK.length BE) (v := .slice Bu Gk.length BE) rfl (by rw [La])
       refine q9 <| zk (qg ?_)
       refine zv <| sB hS rfl fun hS => sM hS rfl fun hS => q9 <| qg ?_
       exact Mu _ _ ⟨Gk, M8, (qk (B8 + (1 : Int))), hS.to [1, 2, 3, 4, 5, 6, 7, 8] (by kernel_rfl) ⟨rfl, rfl, rfl, rfl, rfl, rfl, rfl, trivial⟩, My, hM⟩
      ·refine wp_exit ?_
       refine qx (qx (qV (qg ?_)))
       exact Mt _ _ ⟨BK, GA, hS.to [0, 1, 2, 3, 4, 5, 6, 7] (by kernel_rfl) ⟨rfl, rfl, rfl, rfl, trivial⟩, DC, hM⟩
    ·intro a w hI
     obtain ⟨Bn, DL, hS, Df, hM⟩ := hI
     rw [qh.j5] at hM
     refine qu <| sA hS rfl fun hS => qF <| qX (fun a w => ∃ (Gm : Int), Ss 196 [] [(0, .slice BI Bp.length BJ), (8, q7 Bo 0), (9, .slice B5 Bs.length B6), (10, .slice Bu Bn.length BE), (13, .int .i64 Gm)] H [Dq, Dr, Bw, Bx, BA, BB, BR, DL] F a w ∧ (qh.j7 K Bp By Bq Bz Br Bs Bn Gm).wp kr kp) (fun N6 Mz => ?_) ?_
     ·refine wp_seq ?_
      refine zv <| sM hS rfl fun hS => sO hS (xI rfl Tryd.runUnderlying45) rfl fun hS => sM hS rfl fun hS => qF <| z7 <| zd (fun LK a w => ∃ (DD : Int) (D5 : Int), Ss 196 [] [(0, .slice BI Bp.length BJ), (8, q7 Bo 0), (9, .slice B5 Bs.length B6), (10, .slice Bu Bn.length BE), (13, .int .i64 DD), (105, .slice Bu Bn.length BE), (106, .int .i64 (Bn.length : Int)), (107, .int .i64 D5)] H [Dq, Dr, Bw, Bx, BA, BB, BR, DL] F a w ∧ (qh.l6 K Bp By Bq Bz Br Bs Bn LK DD D5).wp kr kp) K ?_ ?_ ?_
      ·exact ⟨(0 : Int), (0 : Int), hS.to [0, 1, 2, 3, 4, 5, 6, 7] (by kernel_rfl) ⟨rfl, rfl, rfl, rfl, rfl, rfl, rfl, rfl, trivial⟩, hM⟩
      ·intro a w hI; obtain ⟨_, _, _, hM⟩ := hI; exact zc hM
      ·intro LK a w hI N7 MA
       obtain ⟨DD, D5, hS, hM⟩ := hI
       rw [qh.l6] at hM
       refine qu <| sB hS rfl fun hS => qF <| wp_seq <| qC hS rfl hM (fun MB hM => ?_) (fun MB hM => ?_)
       ·refine wp_skip ?_
        refine qg <| wp_seq <| z7 <| wp_seq <| zv ?_
        obtain ⟨Lb, hM⟩ := qB hM
        refine sO hS (xd rfl rfl Tryd.runUnderlying45 Tryd.sizeOf3 (Df.rd (i := 7) rfl) (fun _ => rfl) rfl Lb) rfl fun hS => sO hS (x3 rfl (Df.rd (i := 7) rfl) (fun _ => rfl) Lb rfl Tryd.isAgg3) rfl fun hS => zr (v := Value.int .i64) (x0 := (rd Bn D5)) hS (z8 rfl) rfl fun Lc a w hz hS => ?_
        have hM := qA hz hM; clear hz
        refine qF <| zv <| sM hS rfl fun hS => sM hS rfl fun hS => sO hS (YY rfl rfl) rfl fun hS => sB hS rfl fun hS => zr (v := Value.int .i64) (x0 := (qk (DD + (if (1 : Int) < Lc then (1 : Int) else Lc)))) hS (z8 rfl) rfl fun MC a w hz hS => ?_
        have hM := qA hz hM; clear hz
        refine q9 <| zk (qg ?_)
        refine zv <| sB hS rfl fun hS => sM hS rfl fun hS => q9 <| qg ?_
        exact MA _ _ ⟨MC, (qk (D5 + (1 : Int))), hS.to [0, 1, 2, 3, 4, 5, 6, 7] (by kernel_rfl) ⟨rfl, rfl, rfl, rfl, rfl, rfl, rfl, rfl, trivial⟩, hM⟩
       ·refine wp_exit ?_
        refine qx (qx (qV (qg ?_)))
        exact Mz _ _ ⟨DD, hS.to [0, 1, 2, 3, 4, 5, 6, 7] (by kernel_rfl) ⟨rfl, rfl, rfl, rfl, rfl, trivial⟩, hM⟩
     ·intro a w hI
      obtain ⟨Gm, hS, hM⟩ := hI
      rw [qh.j7] at hM
      refine qX (fun a w => ∃ (B9 : (List Int)) (Dt : qs), Ss 196 [] [(0, .slice BI Bp.length BJ), (8, q7 Bo 0), (9, .slice B5 Bs.length B6), (10, .slice Bu B9.length BE)] H [Dq, Dr, Bw, Bx, BA, BB, BR, Dt] F a w ∧ (zC 3 (ci .i64) 1 Bu B9 BE Dt) ∧ (qh.j8 K Bp By Bq Bz Br Bs B9).wp kr kp) (fun N8 Ld => ?_) ?_
      ·refine wp_seq ?_
       refine zv <| sM hS rfl fun hS => sB hS rfl fun hS => qF <| qC hS rfl hM (fun MD hM => ?_) (fun MD hM => ?_)
       ·obtain ⟨DY, hM⟩ := qB hM
        obtain ⟨Le, hM⟩ := qB hM
        refine q8 (vals := [some (.slice Bu Bn.length BE), some (.slice Bu Bn.length BE), some (.slice Bu Bn.length BE), some (zA Bu (Int.toNat (0 : Int) * 1)), some (.int .i64 (rd Bn (0 : Int))), some (.int .i64 (if (1 : Int) > (rd Bn (0 : Int)) then (1 : Int) else (rd Bn (0 : Int)))), some (.slice Bu Bn.length BE), some (zA Bu (Int.toNat (1 : Int) * 1)), some (.int .i64 (rd Bn (1 : Int))), some (.int .i64 (if (1 : Int) > (rd Bn (1 : Int)) then (1 : Int) else (rd Bn (1 : Int)))), some (zA Bu (Int.toNat (0 : Int) * 1)), none, none, none]) hS z6 rfl ?_
        intro l w ho hcl hA hst
        refine yx hA hst ho hcl zX z5 11 [0, 1, 2, 3, 4, 5, 6, 7, 8, 9, 10] rfl rfl rfl rfl rfl (by exact ⟨nM rfl, nM rfl, nM rfl, nQ rfl (by exact qR (xd rfl rfl Tryd.runUnderlying45 Tryd.sizeOf3 (Df.rd (i := 7) rfl) (fun _ => rfl) rfl DY) rfl), nQ rfl (by exact qR (x3 rfl (Df.rd (i := 7) rfl) (fun _ => rfl) DY rfl Tryd.isAgg3) rfl), nQ rfl (by exact qR (Vl rfl rfl) rfl), nM rfl, nQ rfl (by exact qR (xd rfl rfl Tryd.runUnderlying45 Tryd.sizeOf3 (Df.rd (i := 7) rfl) (fun _ => rfl) rfl Le) rfl), nQ rfl (by exact qR (x3 rfl (Df.rd (i := 7) rfl) (fun _ => rfl) Le rfl Tryd.isAgg3) rfl), nQ rfl (by exact qR (Vl rfl rfl) rfl), nQ rfl (by exact qR (xd rfl rfl Tryd.runUnderlying45 Tryd.sizeOf3 (Df.rd (i := 7) rfl) (fun _ => rfl) rfl DY) rfl), trivial⟩) fun D l a w ho hcl hav hpre hm hE hk hA hst => ?_
        have hS := (Ss.mk hE hst).env2 (e' := [(123, .int .i64 (if (1 : Int) > (rd Bn (0 : Int)) then (1 : Int) else (rd Bn (0 : Int)))), (128, zA Bu (Int.toNat (0 : Int) * 1))]) ⟨rfl, rfl, trivial⟩
        refine qP rfl <| Xf (i := (0 : Int)) (sz := 1) 7 0 ((if (1 : Int) > (rd Bn (0 : Int)) then (1 : Int) else (rd Bn (0 : Int)))) hS rfl rfl Df rfl Tryd.sizeOf3 (xb (if (1 : Int) > (rd Bn (0 : Int)) then (1 : Int) else (rd Bn (0 : Int)))) (fun _ => rfl) DY rfl rfl fun NO w N9 hz Lf Lg hS => ?_
        have hM := qA hz hM; clear hz
        refine qF ?_
        replace hst := hS.st
        obtain ⟨Lh, hM⟩ := qB hM
        obtain ⟨hcl, hmust, hav2, hA⟩ := QI (vals' := [some (.slice Bu Bn.length BE), some (.slice Bu Bn.length BE), some (.slice Bu Bn.length BE), some (zA Bu (Int.toNat (0 : Int) * 1)), some (.int .i64 (rd Bn (0 : Int))), some (.int .i64 (if (1 : Int) > (rd Bn (0 : Int)) then (1 : Int) else (rd Bn (0 : Int)))), some (.slice Bu Bn.length BE), some (zA Bu (Int.toNat (1 : Int) * 1)), some (.int .i64 (rd Bn (1 : Int))), some (.int .i64 (if (1 : Int) > (rd Bn (1 : Int)) then (1 : Int) else (rd Bn (1 : Int)))), some (zA Bu (Int.toNat (0 : Int) * 1)), some undef, some (zA Bu (Int.toNat (1 : Int) * 1)), none]) 11 [(0, 11), (2, 11), (3, 11), (4, 11), (5, 11), (8, 11), (10, 11), (7, 8), (6, 7)] hA hcl hav hm hpre rfl rfl rfl rfl rfl
        clear hm hav
        refine yx hA hst ho hcl hav2 hmust 13 [1, 9, 12] rfl rfl rfl rfl rfl (by exact ⟨nM rfl, nQ rfl (by exact qR (Vl rfl rfl) rfl), nQ rfl (by exact qR (xd (Zi Lf rfl) rfl Tryd.runUnderlying45 Tryd.sizeOf3 (Lg.rd (i := 7) rfl) (fun _ => rfl) rfl Lh) rfl), trivial⟩) fun D l a w ho hcl hav hpre hm hE hk hA hst => ?_
        have hS := (Ss.mk hE hst).env2 (e' := [(127, .int .i64 (if (1 : Int) > (rd Bn (1 : Int)) then (1 : Int) else (rd Bn (1 : Int)))), (129, zA Bu (Int.toNat (1 : Int) * 1))]) ⟨rfl, rfl, trivial⟩
        refine qP rfl <| Xf (i := (1 : Int)) (sz := 1) 7 0 ((if (1 : Int) > (rd Bn (1 : Int)) then (1 : Int) else (rd Bn (1 : Int)))) hS rfl rfl Lg rfl Tryd.sizeOf3 (xb (if (1 : Int) > (rd Bn (1 : Int)) then (1 : Int) else (rd Bn (1 : Int)))) (fun _ => rfl) Lh rfl rfl fun Li w M9 hz ME MF hS => ?_
        have hM := qA hz hM; clear hz
        refine qF ?_
        replace hst := hS.st
        obtain ⟨hcl, hmust, hav2, hA⟩ := QI (vals' := [some (.slice Bu Bn.length BE), some (.slice Bu Bn.length BE), some (.slice Bu Bn.length BE), some (zA Bu (Int.toNat (0 : Int) * 1)), some (.int .i64 (rd Bn (0 : Int))), some (.int .i64 (if (1 : Int) > (rd Bn (0 : Int)) then (1 : Int) else (rd Bn (0 : Int)))), some (.slice Bu Bn.length BE), some (zA Bu (Int.toNat (1 : Int) * 1)), some (.int .i64 (rd Bn (1 : Int))), some (.int .i64 (if (1 : Int) > (rd Bn (1 : Int)) then (1 : Int) else (rd Bn (1 : Int)))), some (zA Bu (Int.toNat (0 : Int) * 1)), some undef, some (zA Bu (Int.toNat (1 : Int) * 1)), some undef]) 13 [(0, 13), (1, 13), (2, 13), (3, 13), (4, 13), (5, 13), (6, 13), (7, 13), (8, 13), (9, 13), (10, 13), (11, 13), (12, 13)] hA hcl hav hm hpre rfl rfl rfl rfl rfl
        clear hm hav
        refine xG hA hst ho hcl hmust [] rfl rfl rfl trivial fun a w hS => ?_
        replace hS := hS.env2 (e' := [(0, .slice BI Bp.length BJ), (8, q7 Bo 0), (9, .slice B5 Bs.length B6), (10, .slice Bu Li.length BE)]) ⟨rfl, rfl, rfl, (ZE (u := .slice Bu Bn.length BE) rfl (by rw [ME, Lf])), trivial⟩
        refine qg ?_
        exact Ld _ _ ⟨Li, M9, hS.to [0, 1, 2, 3, 4, 5, 6, 7] (by kernel_rfl) ⟨rfl, rfl, rfl, rfl, trivial⟩, MF, hM⟩
       ·refine wp_skip ?_
        refine qg ?_
        exact Ld _ _ ⟨Bn, DL, hS.to [0, 1, 2, 3, 4, 5, 6, 7] (by kernel_rfl) ⟨rfl, rfl, rfl, rfl, trivial⟩, Df, hM⟩
      ·intro a w hI
       obtain ⟨B9, Dt, hS, Lj, hM⟩ := hI
       rw [qh.j8] at hM
       refine qu <| sM hS rfl fun hS => qO hS rfl Tryd.call40 (vn hG K B9 (7 : Int) Bu BE (Lj.rdF (i := 7) rfl) (Lj.cap (fun _ => rfl) rfl) (hS.st.part 0 [0, 1, 2, 3, 4, 5, 6, 7] (by kernel_rfl)) (qy hM) (fun Du DE BW Di Pa w hM DM hst => qM hS.ev hst.appF rfl fun hS => ?_) (fun v w hk hst => yw (zx (⟨hS.ev.defs, hpan _ _ hk hst.appF.frame⟩))))
       replace hS : Ss _ _ _ H [Di, Dq, Dr, Bw, Bx, BA, BB, BR, Dt] F _ _ := hS
       refine sM hS rfl fun hS => sO hS (ex rfl rfl) rfl fun hS => sO hS (ex rfl rfl) rfl fun hS => sA hS rfl fun hS => sA hS rfl fun hS => qF <| qu <| sM hS rfl fun hS => qO hS rfl Tryd.call37 (xU hG K BW Du DE (DM.rdF (i := 0) rfl) (DM.cap (fun _ => rfl) rfl) (hS.st.part 0 [0, 1, 2, 3, 4, 5, 6, 7, 8] (by kernel_rfl)) (qy hM) (fun GB GC BS Dj w hM LL hst => qM hS.ev hst.appF rfl fun hS => ?_))
       replace hS : Ss _ _ _ H [Dj, Di, Dq, Dr, Bw, Bx, BA, BB, BR, Dt] F _ _ := hS
       refine uS ([.slice none 0 0, .slice none 0 0]) hS Tryd.zeroValue47 rfl rfl fun w DF Pb MG hS => ?_
       obtain ⟨GD, NP, hS⟩ := hS.nilV 3 (ci .i64) 1
       obtain ⟨GE, NQ, hS⟩ := hS.nilV 3 (ci .i64) 1
       refine uX 2 ([.slice Du BW.length DE, .slice GB BS.length GC]) ([.slice Du BW.length DE, .slice GB BS.length GC]) hS rfl rfl MG rfl rfl Tryd.sizeOf47 (by simp [Value.oneCell']) (Nat.le_of_ble_eq_true rfl) rfl fun w Dk Lk hS => qF <| qu <| sM hS rfl fun hS => sO hS (yV rfl) rfl fun hS => sO hS (xn rfl Tryd.runUnderlying49 rfl Tryd.sizeOf44 rfl) rfl fun hS => qO hS rfl Tryd.call23 (qU hG K (qn.mk (qG.mk (qJ.mk (0 : Int)) ([] : List Int)) (qq.mk By Bq) (qq.mk Bz Br)) (5 : Int) (3 : Int) Bo Dq none (0) Dr BL BM Bw BZ B0 Bx BN BO BA B3 B4 BB Dy Mk Dg Do Dh Dp (hS.st.part 6 [5, 6, 7, 8, 9, 10, 0, 1, 2, 3, 4, 11, 12] (by kernel_rfl)) (qy hM) (fun Pc Lu Na Nb GO LM LN w hM Nc Nd hst => qM hS.ev hst.appF rfl fun hS => ?_))
       replace hS : Ss _ _ _ H [LN, LM, Bw, Bx, BA, BB, GE, GD, Dk, Dj, Di, BR, Dt] F _ _ := hS
       refine qF <| qu <| sM hS rfl fun hS => sO hS (yV rfl) rfl fun hS => sO hS (xn rfl Tryd.runUnderlying49 rfl Tryd.sizeOf44 rfl) rfl fun hS => qO hS rfl Tryd.call23 (qU hG K (qn.mk (qG.mk (qJ.mk Lu) GO) (qq.mk By Bq) (qq.mk Bz Br)) (29 : Int) (5 : Int) Bo LN Na Nb LM BL BM Bw BZ B0 Bx BN BO BA B3 B4 BB Nd Nc Dg Do Dh Dp (hS.st.part 6 [0, 1, 2, 3, 4, 5, 6, 7, 8, 9, 10, 11, 12] (by kernel_rfl)) (qy hM) (fun Pd Lv Nf Ng GP LO LP w hM Nh Ni hst => qM hS.ev hst.appF rfl fun hS => ?_))
       replace hS : Ss _ _ _ H [LP, LO, Bw, Bx, BA, BB, GE, GD, Dk, Dj, Di, BR, Dt] F _ _ := hS
       refine qF <| qu <| sM hS rfl fun hS => sO hS (yV rfl) rfl fun hS => sO hS (xn rfl Tryd.runUnderlying49 rfl Tryd.sizeOf44 rfl) rfl fun hS => qO hS rfl Tryd.call23 (qU hG K (qn.mk (qG.mk (qJ.mk Lv) GP) (qq.mk By Bq) (qq.mk Bz Br)) (29 : Int) (5 : Int) Bo LP Nf Ng LO BL BM Bw BZ B0 Bx BN BO BA B3 B4 BB Ni Nh Dg Do Dh Dp (hS.st.part 6 [0, 1, 2, 3, 4, 5, 6, 7, 8, 9, 10, 11, 12] (by kernel_rfl)) (qy hM) (fun Pe Lw Nj Nk GQ LQ LR w hM Nl Nm hst => qM hS.ev hst.appF rfl fun hS => ?_))
       replace hS : Ss _ _ _ H [LR, LQ, Bw, Bx, BA, BB, GE, GD, Dk, Dj, Di, BR, Dt] F _ _ := hS
       refine qF <| qu <| sM hS rfl fun hS => sO hS (yV rfl) rfl fun hS => sO hS (xn rfl Tryd.runUnderlying49 rfl Tryd.sizeOf44 rfl) rfl fun hS => qO hS rfl Tryd.call23 (qU hG K (qn.mk (qG.mk (qJ.mk Lw) GQ) (qq.mk By Bq) (qq.mk Bz Br)) (15 : Int) (4 : Int) Bo LR Nj Nk LQ BL BM Bw BZ B0 Bx BN BO BA B3 B4 BB Nm Nl Dg Do Dh Dp (hS.st.part 6 [0, 1, 2, 3, 4, 5, 6, 7, 8, 9, 10, 11, 12] (by kernel_rfl)) (qy hM) (fun Pf Lx Nn No GR LS LT w hM Np Nq hst => qM hS.ev hst.appF rfl fun hS => ?_))
       replace hS : Ss _ _ _ H [LT, LS, Bw, Bx, BA, BB, GE, GD, Dk, Dj, Di, BR, Dt] F _ _ := hS
       refine qF <| qX (fun a w => ∃ (Dz : Int) (GF : Option Addr) (GG : Nat) (Da : (List Int)) (GH : qs) (GI : qs), Ss 196 [] [(0, .slice BI Bp.length BJ), (8, q7 Bo 0), (9, .slice B5 Bs.length B6), (18, q7 DF 0)] H [GI, GH, Bw, Bx, BA, BB, BR, Dk, Di, Dj] F a w ∧ (zC 5 (ci .u8) 1 GF Da GG GH) ∧ (x6 GI Bo ([.int .i64 Dz, .slice GF Da.length GG, .slice BL By.length BM, .slice BZ Bq.length B0, .slice BN Bz.length BO, .slice B3 Br.length B4]) 49) ∧ (qh.j10 K Bp By Bq Bz Br Bs BW BS Dz Da).wp kr kp) (fun Pg MH => ?_) ?_
       ·refine wp_seq ?_
        refine zv <| sO hS (Ka rfl hG.g0 (by rfl) Tryd.isAgg77 Tryd.sizeOf77) rfl fun hS => sM hS rfl fun hS => qF <| z7 <| zd (fun LU a w => ∃ (Dv : Int) (D6 : Option Addr) (D7 : Nat) (BX : (List Int)) (D8 : qs) (D9 : qs) (DN : Int), Ss 196 [] [(0, .slice BI Bp.length BJ), (8, q7 Bo 0), (9, .slice B5 Bs.length B6), (18, q7 DF 0), (153, .agg ⟨tab_deflate_order.flatMap (ci .i64)⟩), (154, .int .i64 DN)] H [D9, D8, Bw, Bx, BA, BB, BR, Dk, Di, Dj] F a w ∧ (zC 5 (ci .u8) 1 D6 BX D7 D8) ∧ (x6 D9 Bo ([.int .i64 Dv, .slice D6 BX.length D7, .slice BL By.length BM, .slice BZ Bq.length B0, .slice BN Bz.length BO, .slice B3 Br.length B4]) 49) ∧ (qh.l9 K Bp By Bq Bz Br Bs BW BS LU Dv BX DN).wp kr kp) K ?_ ?_ ?_
        ·exact ⟨Lx, Nn, No, GR, LS, LT, (0 : Int), hS.to [0, 1, 2, 3, 4, 5, 11, 8, 10, 9] (by kernel_rfl) ⟨rfl, rfl, rfl, rfl, rfl, rfl, trivial⟩, Np, Nq, hM⟩
        ·intro a w hI; obtain ⟨_, _, _, _, _, _, _, _, _, _, hM⟩ := hI; exact zc hM
        ·intro LU a w hI Ph MI
         obtain ⟨Dv, D6, D7, BX, D8, D9, DN, hS, Ll, Lm, hM⟩ := hI
         rw [qh.l9] at hM
         refine qu <| sB hS rfl fun hS => qF <| wp_seq <| qC hS rfl hM (fun MJ hM => ?_) (fun MJ hM => ?_)
         ·refine wp_skip ?_
          refine qg <| wp_seq <| z7 <| wp_seq <| zv ?_
          obtain ⟨MK, hM⟩ := qB hM
          refine sO hS (KK rfl rfl Tryd.runUnderlying77 Tryd.isAgg3 Tryd.sizeOf3 (fun _ => rfl) vg MK rfl) rfl fun hS => zr (v := Value.int .i64) (x0 := (rd tab_deflate_order DN)) hS (z8 rfl) rfl fun Dl a w hz hS => ?_
          have hM := qA hz hM; clear hz
          refine q9 <| qg ?_
          obtain ⟨Ln, hM⟩ := qB hM
          refine q8 (vals := [some (q7 Bo 0), some (q7 Bo 0), some (q7 Bo 0), some (q7 DF 0), some (.slice Du BW.length DE), some (.int .i64 Dl), some (zA Du (Int.toNat Dl * 1)), some (.int .i64 (rd BW Dl)), some (.int .u32 (wr .u32 (rd BW Dl))), none]) hS z6 rfl ?_
          intro l w ho hcl hA hst
          refine yx hA hst ho hcl zX z5 9 [0, 1, 2, 3, 4, 5, 6, 7, 8] rfl rfl rfl rfl rfl (by exact ⟨nM rfl, nQ rfl (by exact qR (yV rfl) rfl), nQ rfl (by exact qR (xn rfl Tryd.runUnderlying49 rfl Tryd.sizeOf44 rfl) rfl), nQ rfl (by exact qR (xn rfl Tryd.runUnderlying47 rfl Tryd.sizeOf45 rfl) rfl), nQ rfl (by exact qR (x5 7 rfl Lk rfl rfl Tryd.isAgg45) rfl), nM rfl, nQ rfl (by exact qR (xd rfl rfl Tryd.runUnderlying45 Tryd.sizeOf3 (DM.rd (i := 8) rfl) (fun _ => rfl) rfl Ln) rfl), nQ rfl (by exact qR (x3 rfl (DM.rd (i := 8) rfl) (fun _ => rfl) Ln rfl Tryd.isAgg3) rfl), nQ rfl (by exact qR (vX rfl Tryd.runUnderlying3 Tryd.runUnderlying53) rfl), trivial⟩) fun D l a w ho hcl hav hpre hm hE hk hA hst => ?_
          have hS := (Ss.mk hE hst).env2 (e' := [(159, q7 Bo 0), (165, .int .u32 (wr .u32 (rd BW Dl)))]) ⟨rfl, rfl, trivial⟩
          refine qP rfl <| qO hS rfl Tryd.call23 (qU hG K (qn.mk (qG.mk (qJ.mk Dv) BX) (qq.mk By Bq) (qq.mk Bz Br)) (wr .u32 (rd BW Dl)) (3 : Int) Bo D9 D6 D7 D8 BL BM Bw BZ B0 Bx BN BO BA B3 B4 BB Lm Ll Dg Do Dh Dp (hS.st.part 6 [0, 1, 2, 3, 4, 5, 6, 7, 8, 9] (by kernel_rfl)) (qy hM) (fun Nr Ly Ns Nt GS LV LW w hM Nu Nv hst => qM hS.ev hst.appF rfl fun hS => ?_))
          replace hS : Ss _ _ _ H [LW, LV, Bw, Bx, BA, BB, BR, Dk, Di, Dj] F _ _ := hS
          refine qF ?_
          replace hst := hS.st
          obtain ⟨hcl, hmust, hav2, hA⟩ := dn (vals' := [some (q7 Bo 0), some (q7 Bo 0), some (q7 Bo 0), some (q7 DF 0), some (.slice Du BW.length DE), some (.int .i64 Dl), some (zA Du (Int.toNat Dl * 1)), some (.int .i64 (rd BW Dl)), some (.int .u32 (wr .u32 (rd BW Dl))), some (.int .i64 Nr)]) 9 [(2, 9), (8, 9), (1, 2), (7, 8), (0, 1), (6, 7), (4, 6), (5, 6), (3, 4)] hA hcl hav hm hpre hk rfl rfl rfl rfl rfl rfl rfl
          clear hm hav
          refine xG hA hst ho hcl hmust [] rfl rfl rfl trivial fun a w hS => ?_
          replace hS := hS.env2 (e' := [(0, .slice BI Bp.length BJ), (8, q7 Bo 0), (9, .slice B5 Bs.length B6), (18, q7 DF 0), (153, .agg ⟨tab_deflate_order.flatMap (ci .i64)⟩), (154, .int .i64 DN)]) ⟨rfl, rfl, rfl, rfl, rfl, rfl, trivial⟩
          refine zk (qg ?_)
          refine zv <| sB hS rfl fun hS => sM hS rfl fun hS => q9 <| qg ?_
          exact MI _ _ ⟨Ly, Ns, Nt, GS, LV, LW, (qk (DN + (1 : Int))), hS.to [0, 1, 2, 3, 4, 5, 6, 7, 8, 9] (by kernel_rfl) ⟨rfl, rfl, rfl, rfl, rfl, rfl, trivial⟩, Nu, Nv, hM⟩
         ·refine wp_exit ?_
          refine qx (qx (qV (qg ?_)))
          exact MH _ _ ⟨Dv, D6, D7, BX, D8, D9, hS.to [0, 1, 2, 3, 4, 5, 6, 7, 8, 9] (by kernel_rfl) ⟨rfl, rfl, rfl, rfl, trivial⟩, Ll, Lm, hM⟩
       ·intro a w hI
        obtain ⟨Dz, GF, GG, Da, GH, GI, hS, ML, MM, hM⟩ := hI
        rw [qh.j10] at hM
        refine qX (fun a w => ∃ (DA : Int) (GJ : Option Addr) (GK : Nat) (Db : (List Int)) (GL : qs) (GM : qs), Ss 196 [] [(0, .slice BI Bp.length BJ), (8, q7 Bo 0)] H [GM, GL, Bw, Bx, BA, BB] F a w ∧ (zC 5 (ci .u8) 1 GJ Db GK GL) ∧ (x6 GM Bo ([.int .i64 DA, .slice GJ Db.length GK, .slice BL By.length BM, .slice BZ Bq.length B0, .slice BN Bz.length BO, .slice B3 Br.length B4]) 49) ∧ (qh.j12 K Bp By Bq Bz Br DA Db).wp kr kp) (fun Pi MN => ?_) ?_
        ·refine wp_seq ?_
         refine zv <| sM hS rfl fun hS => sO hS (xI rfl Tryd.runUnderlying72) rfl fun hS => sM hS rfl fun hS => qF <| z7 <| zd (fun LX a w => ∃ (Dw : Int) (Ga : Option Addr) (Gb : Nat) (BY : (List Int)) (Gc : qs) (Gd : qs) (BP : Int), Ss 196 [] [(0, .slice BI Bp.length BJ), (8, q7 Bo 0), (18, q7 DF 0), (168, .slice B5 Bs.length B6), (169, .int .i64 (Bs.length : Int)), (170, .int .i64 BP)] H [Gd, Gc, Bw, Bx, BA, BB, Dk, Di, Dj, BR] F a w ∧ (zC 5 (ci .u8) 1 Ga BY Gb Gc) ∧ (x6 Gd Bo ([.int .i64 Dw, .slice Ga BY.length Gb, .slice BL By.length BM, .slice BZ Bq.length B0, .slice BN Bz.length BO, .slice B3 Br.length B4]) 49) ∧ (qh.l11 K Bp By Bq Bz Br Bs BW BS LX Dw BY BP).wp kr kp) K ?_ ?_ ?_
         ·exact ⟨Dz, GF, GG, Da, GH, GI, (0 : Int), hS.to [0, 1, 2, 3, 4, 5, 7, 8, 9, 6] (by kernel_rfl) ⟨rfl, rfl, rfl, rfl, rfl, rfl, trivial⟩, ML, MM, hM⟩
         ·intro a w hI; obtain ⟨_, _, _, _, _, _, _, _, _, _, hM⟩ := hI; exact zc hM
         ·intro LX a w hI Pj MO
          obtain ⟨Dw, Ga, Gb, BY, Gc, Gd, BP, hS, Lo, Lp, hM⟩ := hI
          rw [qh.l11] at hM
          refine qu <| sB hS rfl fun hS => qF <| wp_seq <| qC hS rfl hM (fun MP hM => ?_) (fun MP hM => ?_)
          ·refine wp_skip ?_
           refine qg <| wp_seq <| z7 <| wp_seq <| zv ?_
           obtain ⟨Lq, hM⟩ := qB hM
           refine sO hS (xd rfl rfl Tryd.runUnderlying72 Tryd.sizeOf75 (Gz.rd (i := 9) rfl) (fun _ => rfl) rfl Lq) rfl fun hS => sO hS (xV rfl (Gz.rd (i := 9) rfl) (fun _ => rfl) Lq Tryd.isAgg75 Tryd.sizeOf75 rfl) rfl fun hS => uS ([.int .i64 (0 : Int), .int .i64 (0 : Int), .int .i64 (0 : Int)]) hS Tryd.zeroValue75 rfl rfl fun w GN Pk MQ hS => uX 0 ([.int .i64 ((rd Bs BP).symbol_), .int .i64 ((rd Bs BP).more_), .int .i64 ((rd Bs BP).bits_)]) ([.int .i64 ((rd Bs BP).symbol_), .int .i64 ((rd Bs BP).more_), .int .i64 ((rd Bs BP).bits_)]) hS rfl rfl MQ rfl rfl Tryd.sizeOf75 (by simp [Value.oneCell']) (Nat.le_of_ble_eq_true rfl) rfl fun w LY Gn hS => qF <| qu <| sM hS rfl fun hS => sO hS (vN 7 rfl Lk rfl ([.slice Du BW.length DE, .slice GB BS.length GC]) rfl rfl Tryd.isAgg47 Tryd.sizeOf47) rfl fun hS => sO hS (xn rfl Tryd.runUnderlying75 rfl Tryd.sizeOf3 rfl) rfl fun hS => sO hS (x5 0 rfl Gn rfl rfl Tryd.isAgg3) rfl fun hS => qO hS rfl Tryd.call41 (jF hG K (qn.mk (qG.mk (qJ.mk Dw) BY) (qq.mk By Bq) (qq.mk Bz Br)) (qq.mk BW BS) ((rd Bs BP).symbol_) Bo Gd Ga Gb Gc BL BM Bw BZ B0 Bx BN BO BA B3 B4 BB Du DE GB GC Lp Lo Dg Do Dh Dp (DM.rdF (i := 2) rfl) (DM.cap (fun _ => rfl) rfl) (LL.rdF (i := 3) rfl) (LL.cap (fun _ => rfl) rfl) (hS.st.part 6 [1, 2, 3, 4, 5, 6, 0, 7, 8, 9, 10] (by kernel_rfl)) (qy hM) (fun Lz Nw Nx GT LZ L0 w hM Ny Nz hst => qM hS.ev hst.appF rfl fun hS => ?_))
           replace hS : Ss _ _ _ H [L0, LZ, Bw, Bx, BA, BB, LY, Dk, Di, Dj, BR] F _ _ := hS
           refine qF <| q8 (vals := [some (q7 Bo 0), some (q7 Bo 0), some (q7 Bo 0), some (q7 GN 1), some (.int .i64 ((rd Bs BP).more_)), some (.int .u32 (wr .u32 (rd Bs BP).more_)), some (q7 GN 2), some (.int .i64 ((rd Bs BP).bits_)), none]) hS z6 rfl ?_
           intro l w ho hcl hA hst
           refine yx hA hst ho hcl zX z5 8 [0, 1, 2, 3, 4, 5, 6, 7] rfl rfl rfl rfl rfl (by exact ⟨nM rfl, nQ rfl (by exact qR (yV rfl) rfl), nQ rfl (by exact qR (xn rfl Tryd.runUnderlying49 rfl Tryd.sizeOf44 rfl) rfl), nQ rfl (by exact qR (xn rfl Tryd.runUnderlying75 rfl Tryd.sizeOf3 rfl) rfl), nQ rfl (by exact qR (x5 6 rfl Gn rfl rfl Tryd.isAgg3) rfl), nQ rfl (by exact qR (vX rfl Tryd.runUnderlying3 Tryd.runUnderlying53) rfl), nQ rfl (by exact qR (xn rfl Tryd.runUnderlying75 rfl Tryd.sizeOf3 rfl) rfl), nQ rfl (by exact qR (x5 6 rfl Gn rfl rfl Tryd.isAgg3) rfl), trivial⟩) fun D l a w ho hcl hav hpre hm hE hk hA hst => ?_
           have hS := (Ss.mk hE hst).env2 (e' := [(181, q7 Bo 0), (184, .int .u32 (wr .u32 (rd Bs BP).more_)), (186, .int .i64 ((rd Bs BP).bits_))]) ⟨rfl, rfl, rfl, trivial⟩
           refine qP rfl <| qO hS rfl Tryd.call23 (qU hG K (qn.mk (qG.mk (qJ.mk Lz) GT) (qq.mk By Bq) (qq.mk Bz Br)) (wr .u32 (rd Bs BP).more_) ((rd Bs BP).bits_) Bo L0 Nw Nx LZ BL BM Bw BZ B0 Bx BN BO BA B3 B4 BB Nz Ny Dg Do Dh Dp (hS.st.part 6 [0, 1, 2, 3, 4, 5, 6, 7, 8, 9, 10] (by kernel_rfl)) (qy hM) (fun NA LA NB NC GU L1 L3 w hM ND NE hst => qM hS.ev hst.appF rfl fun hS => ?_))
           replace hS : Ss _ _ _ H [L3, L1, Bw, Bx, BA, BB, LY, Dk, Di, Dj, BR] F _ _ := hS
           refine qF ?_
           replace hst := hS.st
           obtain ⟨hcl, hmust, hav2, hA⟩ := dn (vals' := [some (q7 Bo 0), some (q7 Bo 0), some (q7 Bo 0), some (q7 GN 1), some (.int .i64 ((rd Bs BP).more_)), some (.int .u32 (wr .u32 (rd Bs BP).more_)), some (q7 GN 2), some (.int .i64 ((rd Bs BP).bits_)), some (.int .i64 NA)]) 8 [(2, 8), (5, 8), (7, 8), (1, 2), (4, 5), (6, 7), (0, 1), (3, 4)] hA hcl hav hm hpre hk rfl rfl rfl rfl rfl rfl rfl
           clear hm hav
           refine xG hA hst ho hcl hmust [] rfl rfl rfl trivial fun a w hS => ?_
           replace hS := hS.env2 (e' := [(0, .slice BI Bp.length BJ), (8, q7 Bo 0), (18, q7 DF 0), (168, .slice B5 Bs.length B6), (169, .int .i64 (Bs.length : Int)), (170, .int .i64 BP)]) ⟨rfl, rfl, rfl, rfl, rfl, rfl, trivial⟩
           refine zk (qg ?_)
           refine zv <| sB hS rfl fun hS => sM hS rfl fun hS => q9 <| qg ?_
           exact MO _ _ ⟨LA, NB, NC, GU, L1, L3, (qk (BP + (1 : Int))), hS.to [0, 1, 2, 3, 4, 5, 7, 8, 9, 10] (by kernel_rfl) ⟨rfl, rfl, rfl, rfl, rfl, rfl, trivial⟩, ND, NE, hM⟩
          ·refine wp_exit ?_
           refine qx (qx (qV (qg ?_)))
           exact MN _ _ ⟨Dw, Ga, Gb, BY, Gc, Gd, hS.to [0, 1, 2, 3, 4, 5] (by kernel_rfl) ⟨rfl, rfl, trivial⟩, Lo, Lp, hM⟩
        ·intro a w hI
         obtain ⟨DA, GJ, GK, Db, GL, GM, hS, MR, MS, hM⟩ := hI
         rw [qh.j12] at hM
         refine qu <| sM hS rfl fun hS => sM hS rfl fun hS => qO hS rfl Tryd.call24 (yu hG K (qn.mk (qG.mk (qJ.mk DA) Db) (qq.mk By Bq) (qq.mk Bz Br)) Bp Bo GM GJ GK GL BL BM Bw BZ B0 Bx BN BO BA B3 B4 BB BI BJ MS MR Dg Do Dh Dp (DO.app _) GW (hS.st.part 6 [0, 1, 2, 3, 4, 5] (by kernel_rfl)) (qy hM) (fun LB NF NG GV Lr Lt w hM NH NI hst => qM hS.ev hst.appF rfl fun hS => ?_))
         replace hS : Ss _ _ _ H [Lt, Lr, Bw, Bx, BA, BB] F _ _ := hS
         refine qF <| qu <| sM hS rfl fun hS => sO hS (yV rfl) rfl fun hS => sO hS (xn rfl Tryd.runUnderlying49 rfl Tryd.sizeOf44 rfl) rfl fun hS => qO hS rfl Tryd.call25 (xv hG K (qn.mk (qG.mk (qJ.mk LB) GV) (qq.mk By Bq) (qq.mk Bz Br)) Bo Lt NF NG Lr BL BM Bw BZ B0 Bx BN BO BA B3 B4 BB NI NH Dg Do Dh Dp (hS.st.part 6 [0, 1, 2, 3, 4, 5] (by kernel_rfl)) (qy hM) (fun NJ w hM  hst => qM hS.ev hst.appF rfl fun hS => ?_))
         replace hS : Ss _ _ _ H [Lt, Lr, Bw, Bx, BA, BB] F _ _ := hS
         refine sA hS rfl fun hS => sA hS rfl fun hS => qF <| wp_ret ?_
         exact zJ (rs := [2, 3]) hS rfl rfl (hret NJ (0 : Int) _ (zj hM) (hS.st.pick [] (by kernel_rfl)))
theorem jz {H : xl} {F : List qs} {w : World} {R : Ending → World → Prop} {kr : (List UInt8) → Prop} {kp : Value → Prop} (hG : Gl H) (K : Nat) (Bu : List UInt8)
    (hS : St w H [] F) (hm : (zi.m K Bu).wp kr kp)
    (hret : ∀ (Bz : List UInt8) (w : World), kr Bz → St w H [] F → R (.returned (yX Bz)) w) :
    Calls Tryd.prog 10 ⟨[yX Bu]⟩ w R := by
 refine enter Tryd.func10 rfl Tryd.ntmps10 rfl hS fun a w hS => ?_
 have hM := hm; clear hm
 rw [zi.m] at hM
 refine qu <| sA hS rfl fun hS => qF <| qu <| sA hS rfl fun hS => ?_
 obtain ⟨BL, BA, hS⟩ := hS.nilV 5 (ci .u8) 1
 refine qF <| z7 <| zd (fun Bv a w => ∃ (Bp : List UInt8) (Br : Option Addr) (Bs : Nat) (Bq : (List Int)) (Bt : qs), Ss 41 [] [(0, yX Bp), (3, .slice Br Bq.length Bs)] H [Bt] F a w ∧ (zC 5 (ci .u8) 1 Br Bq Bs Bt) ∧ (zi.l1 K Bv Bp Bq).wp kr kp) K ?_ ?_ ?_
 ·exact ⟨Bu, none, 0, ([] : List Int), BL, hS.to [0] (by kernel_rfl) ⟨rfl, rfl, trivial⟩, BA, hM⟩
 ·intro a w hI; obtain ⟨_, _, _, _, _, _, _, hM⟩ := hI; exact zc hM
 ·intro Bv a w hI BS BB
  obtain ⟨Bp, Br, Bs, Bq, Bt, hS, BC, hM⟩ := hI
  rw [zi.l1] at hM
  refine z7 <| qu <| sM hS rfl fun hS => sO hS (uP rfl Tryd.runUnderlying9) rfl fun hS => sO hS (YY rfl rfl) rfl fun hS => zr (v := Value.int .i64) (x0 := (if (Bp.length : Int) < (65535 : Int) then (Bp.length : Int) else (65535 : Int))) hS (z8 rfl) rfl fun Bn a w hz hS => ?_
  have hM := qA hz hM; clear hz
  refine qF <| qu <| sA hS rfl fun hS => qF <| qX (fun a w => ∃ (Bo : Int), Ss 41 [] [(0, yX Bp), (3, .slice Br Bq.length Bs), (4, .int .i64 Bn), (5, .int .u8 Bo)] H [Bt] F a w ∧ (zi.j2 K (zi.l1 K Bv) Bp Bq Bn Bo).wp kr kp) (fun BT Bw => ?_) ?_
  ·refine wp_seq ?_
   refine zv <| sM hS rfl fun hS => sM hS rfl fun hS => sO hS (uP rfl Tryd.runUnderlying9) rfl fun hS => sB hS rfl fun hS => qF <| qC hS rfl hM (fun BD hM => ?_) (fun BD hM => ?_)
   ·refine zv ?_
    refine sA hS rfl fun hS => q9 <| qg ?_
    exact Bw _ _ ⟨(1 : Int), hS.to [0] (by kernel_rfl) ⟨rfl, rfl, rfl, rfl, trivial⟩, hM⟩
   ·refine wp_skip ?_
    refine qg ?_
    exact Bw _ _ ⟨(0 : Int), hS.to [0] (by kernel_rfl) ⟨rfl, rfl, rfl, rfl, trivial⟩, hM⟩
  ·intro a w hI
   obtain ⟨Bo, hS, hM⟩ := hI
   rw [zi.j2] at hM
   refine qu <| sM hS rfl fun hS => sM hS rfl fun hS => sM hS rfl fun hS => sO hS (vX rfl Tryd.runUnderlying3 Tryd.runUnderlying5) rfl fun hS => sM hS rfl fun hS => sO hS (shr rfl rfl rfl) rfl fun hS => sO hS (vX rfl Tryd.runUnderlying3 Tryd.runUnderlying5) rfl fun hS => sM hS rfl fun hS => sO hS (vX rfl Tryd.runUnderlying3 Tryd.runUnderlying5) rfl fun hS => sO hS (un rfl rfl) rfl fun hS => sM hS rfl fun hS => sO hS (shr rfl rfl rfl) rfl fun hS => sO hS (vX rfl Tryd.runUnderlying3 Tryd.runUnderlying5) rfl fun hS => sO hS (un rfl rfl) rfl fun hS => XE (g := (ci .u8)) ([Bo, (wr .u8 Bn), (wr .u8 (zR .i64 Bn (8 : Int))), (vz .u8 (wr .u8 Bn)), (vz .u8 (wr .u8 (zR .i64 Bn (8 : Int))))] : List Int) [.int .u8 Bo, .int .u8 (wr .u8 Bn), .int .u8 (wr .u8 (zR .i64 Bn (8 : Int))), .int .u8 (vz .u8 (wr .u8 Bn)), .int .u8 (vz .u8 (wr .u8 (zR .i64 Bn (8 : Int))))] hS Tryd.runUnderlying38 Tryd.sizeOf5 X.el5 rfl rfl rfl (by simp [Value.cells]) rfl rfl rfl rfl rfl fun w BU BV BW BE hS => ?_
   obtain ⟨BF, hM⟩ := qB hM
   refine Yp (ys := ([Bo, (wr .u8 Bn), (wr .u8 (zR .i64 Bn (8 : Int))), (vz .u8 (wr .u8 Bn)), (vz .u8 (wr .u8 (zR .i64 Bn (8 : Int))))] : List Int)) 1 hS rfl rfl BC rfl (BE.rd (i := 0) rfl) Tryd.runUnderlying38 Tryd.runUnderlying38 X.el5 (fun _ => rfl) rfl u9 BF rfl fun BR w BX BY BZ hz BG hS => ?_
   have hM := qA hz hM; clear hz
   refine sA hS rfl fun hS => qF <| qu <| sM hS rfl fun hS => sM hS rfl fun hS => sM hS rfl fun hS => ?_
   obtain ⟨BH, hM⟩ := qB hM
   refine sO hS (Ky rfl Tryd.runUnderlying9 Kf (UA rfl) BH) rfl fun hS => ?_
   obtain ⟨BI, hM⟩ := qB hM
   refine K2 1 hS rfl rfl BG rfl Tryd.runUnderlying38 Tryd.runUnderlying9 X.el5 rfl BI rfl fun Bx w BM BN BO hz By hS => ?_
   have hM := qA hz hM; clear hz
   refine sA hS rfl fun hS => qF <| qu <| sM hS rfl fun hS => sM hS rfl fun hS => ?_
   obtain ⟨BJ, hM⟩ := qB hM
   refine sO hS (Ky rfl Tryd.runUnderlying9 (K4 rfl) KF BJ) rfl fun hS => zr (v := yX) (x0 := (sub Bp Bn (Bp.length : Int))) hS (z8 rfl) rfl fun BP a w hz hS => ?_
   have hM := qA hz hM; clear hz
   refine qF <| qu <| sM hS rfl fun hS => sB hS rfl fun hS => qF <| qC hS rfl hM (fun BK hM => ?_) (fun BK hM => ?_)
   ·refine wp_seq ?_
    refine zv <| sM hS rfl fun hS => sO hS (KG rfl Tryd.runUnderlying38 Tryd.runUnderlying5 Tryd.runUnderlying9 (By.rd (i := 1) rfl)) rfl fun hS => zr (v := yX) (x0 := (Bx.map ZX)) hS (z8 rfl) rfl fun BQ a w hz hS => ?_
    have hM := qA hz hM; clear hz
    refine qF <| wp_ret <| yz (zz (yz ?_))
    exact zJ (rs := [2]) hS rfl rfl (hret BQ _ (zj hM) (hS.st.pick [] (by kernel_rfl)))
   ·refine wp_skip ?_
    refine zk (qg ?_)
    exact BB _ _ ⟨BP, BM, BN, Bx, BO, hS.to [1] (by kernel_rfl) ⟨rfl, rfl, trivial⟩, By, hM⟩
end Go.TrydS

set_option maxRecDepth 100000
namespace Go.TrydS
open Go Go.Sl Go.Mo Go.Proofs
attribute [local irreducible] qW.wp
theorem jq {H : xl} {F : List qs} {w : World} {R : Ending → World → Prop} {kr : Unit → Prop} {kp : Value → Prop} (hG : Gl H) (K : Nat) (Bn : zK) (Bo : Int) (Bp : Nat) (Bs : qs) (Bv : Nat) (Bt : qs) (Bq : x6 Bs Bp ([yX Bn.text_, .map (some Bv)]) 90) (BB : Qe (Y8 .u8) (Y6 3) 3 (ci .i64) 1 Bv Bn.seen_ Bt)
    (hS : St w H [Bs, Bt] F) (hm : (xD.m K Bn Bo).wp kr kp)
    (hret : ∀ (w : World), kr () → St w H [Bs, Bt] F → R (.returned (.agg ⟨([((rd Bn.text_ Bo).toNat : Int), ((rd Bn.text_ (qk (Bo + (1 : Int)))).toNat : Int), ((rd Bn.text_ (qk (Bo + (2 : Int)))).toNat : Int)] : List Int).flatMap (ci .u8)⟩)) w) :
    Calls Tryd.prog 66 ⟨[q7 Bp 0, .int .i64 Bo]⟩ w R := by
 refine enter Tryd.func66 rfl Tryd.ntmps66 rfl hS fun a w hS => ?_
 have hM := hm; clear hm
 rw [xD.m] at hM
 refine qu <| uS ((List.replicate 3 (0 : Int)).flatMap (ci .u8)) hS Tryd.zeroValue126 rfl rfl fun w Bu BC Bw hS => qF <| wp_seq ?_
 obtain ⟨Bx, hM⟩ := qB hM
 obtain ⟨By, hM⟩ := qB hM
 obtain ⟨Bz, hM⟩ := qB hM
 refine q8 (vals := [some (q7 Bp 0), some (q7 Bp 0), some (q7 Bp 0), some (yX Bn.text_), some (.int .i64 Bo), some (.int .u8 ((rd Bn.text_ Bo).toNat : Int)), some (q7 Bp 0), some (q7 Bp 0), some (q7 Bp 0), some (yX Bn.text_), some (.int .i64 Bo), some (.int .i64 (qk (Bo + (1 : Int)))), some (.int .u8 ((rd Bn.text_ (qk (Bo + (1 : Int)))).toNat : Int)), some (q7 Bp 0), some (q7 Bp 0), some (q7 Bp 0), some (yX Bn.text_), some (.int .i64 Bo), some (.int .i64 (qk (Bo + (2 : Int)))), some (.int .u8 ((rd Bn.text_ (qk (Bo + (2 : Int)))).toNat : Int)), some (.agg ⟨([((rd Bn.text_ Bo).toNat : Int), ((rd Bn.text_ (qk (Bo + (1 : Int)))).toNat : Int), ((rd Bn.text_ (qk (Bo + (2 : Int)))).toNat : Int)] : List Int).flatMap (ci .u8)⟩), none]) hS z6 rfl ?_
 intro l w ho hcl hA hst
 refine yx hA hst ho hcl zX z5 21 [0, 1, 2, 3, 4, 5, 6, 7, 8, 9, 10, 11, 12, 13, 14, 15, 16, 17, 18, 19, 20] rfl rfl rfl rfl rfl (by exact ⟨nM rfl, nQ rfl (by exact qR (yV rfl) rfl), nQ rfl (by exact qR (xn rfl Tryd.runUnderlying90 rfl Tryd.sizeOf9 rfl) rfl), nQ rfl (by exact qR (x5 1 rfl Bq rfl rfl Tryd.isAgg9) rfl), nM rfl, nQ rfl (by exact qR (UB rfl rfl Tryd.runUnderlying9 Bx) rfl), nM rfl, nQ rfl (by exact qR (yV rfl) rfl), nQ rfl (by exact qR (xn rfl Tryd.runUnderlying90 rfl Tryd.sizeOf9 rfl) rfl), nQ rfl (by exact qR (x5 1 rfl Bq rfl rfl Tryd.isAgg9) rfl), nM rfl, nB rfl, nQ rfl (by exact qR (UB rfl rfl Tryd.runUnderlying9 By) rfl), nM rfl, nQ rfl (by exact qR (yV rfl) rfl), nQ rfl (by exact qR (xn rfl Tryd.runUnderlying90 rfl Tryd.sizeOf9 rfl) rfl), nQ rfl (by exact qR (x5 1 rfl Bq rfl rfl Tryd.isAgg9) rfl), nM rfl, nB rfl, nQ rfl (by exact qR (UB rfl rfl Tryd.runUnderlying9 Bz) rfl), nQ rfl (by exact qR (Ub (([((rd Bn.text_ Bo).toNat : Int), ((rd Bn.text_ (qk (Bo + (1 : Int)))).toNat : Int), ((rd Bn.text_ (qk (Bo + (2 : Int)))).toNat : Int)] : List Int).flatMap (ci .u8)) Tryd.zeroValue126 Tryd.runUnderlying126 Tryd.sizeOf5 rfl (by kernel_rfl)) rfl), trivial⟩) fun D l a w ho hcl hav hpre hm hE hk hA hst => ?_
 have hS := (Ss.mk hE hst).env2 (e' := [(4, q7 Bu 0), (25, .agg ⟨([((rd Bn.text_ Bo).toNat : Int), ((rd Bn.text_ (qk (Bo + (1 : Int)))).toNat : Int), ((rd Bn.text_ (qk (Bo + (2 : Int)))).toNat : Int)] : List Int).flatMap (ci .u8)⟩)]) ⟨rfl, rfl, trivial⟩
 refine qP rfl <| ZD (xs := (List.replicate 3 (0 : Int))) (ys := ([((rd Bn.text_ Bo).toNat : Int), ((rd Bn.text_ (qk (Bo + (1 : Int)))).toNat : Int), ((rd Bn.text_ (qk (Bo + (2 : Int)))).toNat : Int)] : List Int)) (g := (ci .u8)) (pre := []) (post := []) 0 hS rfl rfl Bw rfl (by simp) rfl (zP (g := (ci .u8)) (sz := 1) (fun _ => rfl) (List.length_replicate ..)) (zP (g := (ci .u8)) (sz := 1) (fun _ => rfl) rfl) (u9) Tryd.sizeOf126 fun w BA Br hS => ?_
 replace Br : x6 BA Bu (([((rd Bn.text_ Bo).toNat : Int), ((rd Bn.text_ (qk (Bo + (1 : Int)))).toNat : Int), ((rd Bn.text_ (qk (Bo + (2 : Int)))).toNat : Int)] : List Int).flatMap (ci .u8)) 126 := by simpa using Br
 refine qF ?_
 replace hst := hS.st
 obtain ⟨hcl, hmust, hav2, hA⟩ := QI (vals' := [some (q7 Bp 0), some (q7 Bp 0), some (q7 Bp 0), some (yX Bn.text_), some (.int .i64 Bo), some (.int .u8 ((rd Bn.text_ Bo).toNat : Int)), some (q7 Bp 0), some (q7 Bp 0), some (q7 Bp 0), some (yX Bn.text_), some (.int .i64 Bo), some (.int .i64 (qk (Bo + (1 : Int)))), some (.int .u8 ((rd Bn.text_ (qk (Bo + (1 : Int)))).toNat : Int)), some (q7 Bp 0), some (q7 Bp 0), some (q7 Bp 0), some (yX Bn.text_), some (.int .i64 Bo), some (.int .i64 (qk (Bo + (2 : Int)))), some (.int .u8 ((rd Bn.text_ (qk (Bo + (2 : Int)))).toNat : Int)), some (.agg ⟨([((rd Bn.text_ Bo).toNat : Int), ((rd Bn.text_ (qk (Bo + (1 : Int)))).toNat : Int), ((rd Bn.text_ (qk (Bo + (2 : Int)))).toNat : Int)] : List Int).flatMap (ci .u8)⟩), some undef]) 21 [(0, 21), (1, 21), (2, 21), (3, 21), (4, 21), (5, 21), (6, 21), (7, 21), (8, 21), (9, 21), (10, 21), (11, 21), (12, 21), (13, 21), (14, 21), (15, 21), (16, 21), (17, 21), (18, 21), (19, 21), (20, 21)] hA hcl hav hm hpre rfl rfl rfl rfl rfl
 clear hm hav
 refine xG hA hst ho hcl hmust [] rfl rfl rfl trivial fun a w hS => ?_
 replace hS := hS.env2 (e' := [(4, q7 Bu 0)]) ⟨rfl, trivial⟩
 refine qg <| wp_ret ?_
 exact yF (vs := [.agg ⟨([((rd Bn.text_ Bo).toNat : Int), ((rd Bn.text_ (qk (Bo + (1 : Int)))).toNat : Int), ((rd Bn.text_ (qk (Bo + (2 : Int)))).toNat : Int)] : List Int).flatMap (ci .u8)⟩]) hS rfl (by exact ⟨UJ 0 rfl Br rfl (zP (g := (ci .u8)) (sz := 1) (fun _ => rfl) rfl) Tryd.isAgg126 Tryd.sizeOf126, trivial⟩) (hret _ (zj hM) (hS.st.pick [1, 2] (by kernel_rfl)))
theorem vy {H : xl} {F : List qs} {w : World} {R : Ending → World → Prop} {kr : Int → Prop} {kp : Value → Prop} (hG : Gl H) (K : Nat) (Bo : zK) (Bq : Int) (Bp : Int) (Br : Nat) (Bu : qs) (BA : Nat) (Bv : qs) (Bs : x6 Bu Br ([yX Bo.text_, .map (some BA)]) 90) (BH : Qe (Y8 .u8) (Y6 3) 3 (ci .i64) 1 BA Bo.seen_ Bv)
    (hS : St w H [Bu, Bv] F) (hm : (za.m K Bo Bq Bp).wp kr kp)
    (hret : ∀ (BB : Int) (w : World), kr BB → St w H [Bu, Bv] F → R (.returned (.int .i64 BB)) w) :
    Calls Tryd.prog 67 ⟨[q7 Br 0, .int .i64 Bq, .int .i64 Bp]⟩ w R := by
 refine enter Tryd.func67 rfl Tryd.ntmps67 rfl hS fun a w hS => ?_
 have hM := hm; clear hm
 rw [za.m] at hM
 refine qu <| sA hS rfl fun hS => qF <| qu <| sA hS rfl fun hS => qF <| wp_seq <| z7 <| zd (fun By a w => ∃ (Bn : Int), Ss 43 [] [(0, q7 Br 0), (1, .int .i64 Bq), (2, .int .i64 Bp), (7, .int .i64 Bn)] H [Bu, Bv] F a w ∧ (za.l1 K Bo Bq Bp By Bn).wp kr kp) K ?_ ?_ ?_
 ·exact ⟨(0 : Int), hS.to [0, 1] (by kernel_rfl) ⟨rfl, rfl, rfl, rfl, trivial⟩, hM⟩
 ·intro a w hI; obtain ⟨_, _, hM⟩ := hI; exact zc hM
 ·intro By a w hI BI BC
  obtain ⟨Bn, hS, hM⟩ := hI
  rw [za.l1] at hM
  refine wp_seq <| qX (fun a w => ∃ (Bz : Bool), Ss 43 [] [(0, q7 Br 0), (1, .int .i64 Bq), (2, .int .i64 Bp), (7, .int .i64 Bn), (39, .bool Bz)] H [Bu, Bv] F a w ∧ (za.j2 K (za.l1 K Bo Bq Bp By) Bn Bz).wp kr kp) (fun BJ Bw => ?_) ?_
  ·refine Ua (b := (decide (Bn < (258 : Int)))) hM (fun Bt hM => ?_) (fun Bt hM => ?_)
   ·refine Ua (b := (decide ((qk (Bp + Bn)) < (Bo.text_.length : Int)))) hM (fun Bx hM => ?_) (fun Bx hM => ?_)
    ·obtain ⟨BD, hM⟩ := qB hM
     obtain ⟨BE, hM⟩ := qB hM
     refine q8 (vals := [some (.int .i64 Bn), some (.bool true), some (.bool true), some (.int .i64 Bp), some (.int .i64 Bn), some (.int .i64 (qk (Bp + Bn))), some (q7 Br 0), some (q7 Br 0), some (q7 Br 0), some (yX Bo.text_), some (.int .i64 (Bo.text_.length : Int)), some (.bool true), some (.bool true), some (.bool true), some (q7 Br 0), some (q7 Br 0), some (q7 Br 0), some (yX Bo.text_), some (.int .i64 Bq), some (.int .i64 Bn), some (.int .i64 (qk (Bq + Bn))), some (.int .u8 ((rd Bo.text_ (qk (Bq + Bn))).toNat : Int)), some (q7 Br 0), some (q7 Br 0), some (q7 Br 0), some (yX Bo.text_), some (.int .i64 Bp), some (.int .i64 Bn), some (.int .i64 (qk (Bp + Bn))), some (.int .u8 ((rd Bo.text_ (qk (Bp + Bn))).toNat : Int)), some (.bool (((rd Bo.text_ (qk (Bq + Bn))).toNat : Int) == ((rd Bo.text_ (qk (Bp + Bn))).toNat : Int))), some (.bool (((rd Bo.text_ (qk (Bq + Bn))).toNat : Int) == ((rd Bo.text_ (qk (Bp + Bn))).toNat : Int)))]) hS z6 rfl ?_
     intro l w ho hcl hA hst
     refine xG hA hst ho hcl z5 [0, 1, 2, 3, 4, 5, 6, 7, 8, 9, 10, 11, 12, 13, 14, 15, 16, 17, 18, 19, 20, 21, 22, 23, 24, 25, 26, 27, 28, 29, 30, 31] rfl rfl rfl (by exact ⟨nM rfl, nQ rfl (by exact qR (yN rfl rfl rfl) (congrArg Value.bool Bt)), nM rfl, nW rfl rfl rfl rfl rfl rfl rfl rfl (by exact qR (mv rfl) rfl), nW rfl rfl rfl rfl rfl rfl rfl rfl (by exact qR (mv rfl) rfl), nW rfl rfl rfl rfl rfl rfl rfl rfl (by exact qR (yN rfl rfl rfl) rfl), nW rfl rfl rfl rfl rfl rfl rfl rfl (by exact qR (mv rfl) rfl), nW rfl rfl rfl rfl rfl rfl rfl rfl (by exact qR (yV rfl) rfl), nW rfl rfl rfl rfl rfl rfl rfl rfl (by exact qR (xn rfl Tryd.runUnderlying90 rfl Tryd.sizeOf9 rfl) rfl), nW rfl rfl rfl rfl rfl rfl rfl rfl (by exact qR (x5 0 rfl Bs rfl rfl Tryd.isAgg9) rfl), nW rfl rfl rfl rfl rfl rfl rfl rfl (by exact qR (uP rfl Tryd.runUnderlying9) rfl), nW rfl rfl rfl rfl rfl rfl rfl rfl (by exact qR (yN rfl rfl rfl) (congrArg Value.bool Bx)), nQ rfl (by exact qR (pk rfl rfl rfl) rfl), nM rfl, nW rfl rfl rfl rfl rfl rfl rfl rfl (by exact qR (mv rfl) rfl), nW rfl rfl rfl rfl rfl rfl rfl rfl (by exact qR (yV rfl) rfl), nW rfl rfl rfl rfl rfl rfl rfl rfl (by exact qR (xn rfl Tryd.runUnderlying90 rfl Tryd.sizeOf9 rfl) rfl), nW rfl rfl rfl rfl rfl rfl rfl rfl (by exact qR (x5 0 rfl Bs rfl rfl Tryd.isAgg9) rfl), nW rfl rfl rfl rfl rfl rfl rfl rfl (by exact qR (mv rfl) rfl), nW rfl rfl rfl rfl rfl rfl rfl rfl (by exact qR (mv rfl) rfl), nW rfl rfl rfl rfl rfl rfl rfl rfl (by exact qR (yN rfl rfl rfl) rfl), nW rfl rfl rfl rfl rfl rfl rfl rfl (by exact qR (UB rfl rfl Tryd.runUnderlying9 BD) rfl), nW rfl rfl rfl rfl rfl rfl rfl rfl (by exact qR (mv rfl) rfl), nW rfl rfl rfl rfl rfl rfl rfl rfl (by exact qR (yV rfl) rfl), nW rfl rfl rfl rfl rfl rfl rfl rfl (by exact qR (xn rfl Tryd.runUnderlying90 rfl Tryd.sizeOf9 rfl) rfl), nW rfl rfl rfl rfl rfl rfl rfl rfl (by exact qR (x5 0 rfl Bs rfl rfl Tryd.isAgg9) rfl), nW rfl rfl rfl rfl rfl rfl rfl rfl (by exact qR (mv rfl) rfl), nW rfl rfl rfl rfl rfl rfl rfl rfl (by exact qR (mv rfl) rfl), nW rfl rfl rfl rfl rfl rfl rfl rfl (by exact qR (yN rfl rfl rfl) rfl), nW rfl rfl rfl rfl rfl rfl rfl rfl (by exact qR (UB rfl rfl Tryd.runUnderlying9 BE) rfl), nW rfl rfl rfl rfl rfl rfl rfl rfl (by exact qR (yN rfl rfl rfl) rfl), nQ rfl (by exact qR (pk rfl rfl rfl) rfl), trivial⟩) fun a w hS => ?_
     replace hS := hS.env2 (e' := [(0, q7 Br 0), (1, .int .i64 Bq), (2, .int .i64 Bp), (7, .int .i64 Bn), (39, .bool (((rd Bo.text_ (qk (Bq + Bn))).toNat : Int) == ((rd Bo.text_ (qk (Bp + Bn))).toNat : Int)))]) ⟨rfl, rfl, rfl, rfl, rfl, trivial⟩
     refine qg ?_
     exact Bw _ _ ⟨(((rd Bo.text_ (qk (Bq + Bn))).toNat : Int) == ((rd Bo.text_ (qk (Bp + Bn))).toNat : Int)), hS.to [0, 1] (by kernel_rfl) ⟨rfl, rfl, rfl, rfl, rfl, trivial⟩, hM⟩
    ·refine q8 (vals := [some (.int .i64 Bn), some (.bool true), some (.bool true), some (.int .i64 Bp), some (.int .i64 Bn), some (.int .i64 (qk (Bp + Bn))), some (q7 Br 0), some (q7 Br 0), some (q7 Br 0), some (yX Bo.text_), some (.int .i64 (Bo.text_.length : Int)), some (.bool false), some (.bool false), some (.bool false), some (undef), some (undef), some (undef), some (undef), some (undef), some (undef), some (undef), some (undef), some (undef), some (undef), some (undef), some (undef), some (undef), some (undef), some (undef), some (undef), some (undef), some (.bool false)]) hS z6 rfl ?_
     intro l w ho hcl hA hst
     refine xG hA hst ho hcl z5 [0, 1, 2, 3, 4, 5, 6, 7, 8, 9, 10, 11, 12, 13, 14, 15, 16, 17, 18, 19, 20, 21, 22, 23, 24, 25, 26, 27, 28, 29, 30, 31] rfl rfl rfl (by exact ⟨nM rfl, nQ rfl (by exact qR (yN rfl rfl rfl) (congrArg Value.bool Bt)), nM rfl, nW rfl rfl rfl rfl rfl rfl rfl rfl (by exact qR (mv rfl) rfl), nW rfl rfl rfl rfl rfl rfl rfl rfl (by exact qR (mv rfl) rfl), nW rfl rfl rfl rfl rfl rfl rfl rfl (by exact qR (yN rfl rfl rfl) rfl), nW rfl rfl rfl rfl rfl rfl rfl rfl (by exact qR (mv rfl) rfl), nW rfl rfl rfl rfl rfl rfl rfl rfl (by exact qR (yV rfl) rfl), nW rfl rfl rfl rfl rfl rfl rfl rfl (by exact qR (xn rfl Tryd.runUnderlying90 rfl Tryd.sizeOf9 rfl) rfl), nW rfl rfl rfl rfl rfl rfl rfl rfl (by exact qR (x5 0 rfl Bs rfl rfl Tryd.isAgg9) rfl), nW rfl rfl rfl rfl rfl rfl rfl rfl (by exact qR (uP rfl Tryd.runUnderlying9) rfl), nW rfl rfl rfl rfl rfl rfl rfl rfl (by exact qR (yN rfl rfl rfl) (congrArg Value.bool Bx)), nQ rfl (by exact qR (pk rfl rfl rfl) rfl), nM rfl, nS rfl rfl rfl rfl rfl rfl rfl rfl rfl, nS rfl rfl rfl rfl rfl rfl rfl rfl rfl, nS rfl rfl rfl rfl rfl rfl rfl rfl rfl, nS rfl rfl rfl rfl rfl rfl rfl rfl rfl, nS rfl rfl rfl rfl rfl rfl rfl rfl rfl, nS rfl rfl rfl rfl rfl rfl rfl rfl rfl, nS rfl rfl rfl rfl rfl rfl rfl rfl rfl, nS rfl rfl rfl rfl rfl rfl rfl rfl rfl, nS rfl rfl rfl rfl rfl rfl rfl rfl rfl, nS rfl rfl rfl rfl rfl rfl rfl rfl rfl, nS rfl rfl rfl rfl rfl rfl rfl rfl rfl, nS rfl rfl rfl rfl rfl rfl rfl rfl rfl, nS rfl rfl rfl rfl rfl rfl rfl rfl rfl, nS rfl rfl rfl rfl rfl rfl rfl rfl rfl, nS rfl rfl rfl rfl rfl rfl rfl rfl rfl, nS rfl rfl rfl rfl rfl rfl rfl rfl rfl, nS rfl rfl rfl rfl rfl rfl rfl rfl rfl, nQ rfl (by exact qR (pk rfl rfl rfl) rfl), trivial⟩) fun a w hS => ?_
     replace hS := hS.env2 (e' := [(0, q7 Br 0), (1, .int .i64 Bq), (2, .int .i64 Bp), (7, .int .i64 Bn), (39, .bool false)]) ⟨rfl, rfl, rfl, rfl, rfl, trivial⟩
     refine qg ?_
     exact Bw _ _ ⟨false, hS.to [0, 1] (by kernel_rfl) ⟨rfl, rfl, rfl, rfl, rfl, trivial⟩, hM⟩
   ·refine q8 (vals := [some (.int .i64 Bn), some (.bool false), some (.bool false), some (undef), some (undef), some (undef), some (undef), some (undef), some (undef), some (undef), some (undef), some (undef), some (.bool false), some (.bool false), some (undef), some (undef), some (undef), some (undef), some (undef), some (undef), some (undef), some (undef), some (undef), some (undef), some (undef), some (undef), some (undef), some (undef), some (undef), some (undef), some (undef), some (.bool false)]) hS z6 rfl ?_
    intro l w ho hcl hA hst
    refine xG hA hst ho hcl z5 [0, 1, 2, 3, 4, 5, 6, 7, 8, 9, 10, 11, 12, 13, 14, 15, 16, 17, 18, 19, 20, 21, 22, 23, 24, 25, 26, 27, 28, 29, 30, 31] rfl rfl rfl (by exact ⟨nM rfl, nQ rfl (by exact qR (yN rfl rfl rfl) (congrArg Value.bool Bt)), nM rfl, nS rfl rfl rfl rfl rfl rfl rfl rfl rfl, nS rfl rfl rfl rfl rfl rfl rfl rfl rfl, nS rfl rfl rfl rfl rfl rfl rfl rfl rfl, nS rfl rfl rfl rfl rfl rfl rfl rfl rfl, nS rfl rfl rfl rfl rfl rfl rfl rfl rfl, nS rfl rfl rfl rfl rfl rfl rfl rfl rfl, nS rfl rfl rfl rfl rfl rfl rfl rfl rfl, nS rfl rfl rfl rfl rfl rfl rfl rfl rfl, nS rfl rfl rfl rfl rfl rfl rfl rfl rfl, nQ rfl (by exact qR (pk rfl rfl rfl) rfl), nM rfl, nS rfl rfl rfl rfl rfl rfl rfl rfl rfl, nS rfl rfl rfl rfl rfl rfl rfl rfl rfl, nS rfl rfl rfl rfl rfl rfl rfl rfl rfl, nS rfl rfl rfl rfl rfl rfl rfl rfl rfl, nS rfl rfl rfl rfl rfl rfl rfl rfl rfl, nS rfl rfl rfl rfl rfl rfl rfl rfl rfl, nS rfl rfl rfl rfl rfl rfl rfl rfl rfl, nS rfl rfl rfl rfl rfl rfl rfl rfl rfl, nS rfl rfl rfl rfl rfl rfl rfl rfl rfl, nS rfl rfl rfl rfl rfl rfl rfl rfl rfl, nS rfl rfl rfl rfl rfl rfl rfl rfl rfl, nS rfl rfl rfl rfl rfl rfl rfl rfl rfl, nS rfl rfl rfl rfl rfl rfl rfl rfl rfl, nS rfl rfl rfl rfl rfl rfl rfl rfl rfl, nS rfl rfl rfl rfl rfl rfl rfl rfl rfl, nS rfl rfl rfl rfl rfl rfl rfl rfl rfl, nS rfl rfl rfl rfl rfl rfl rfl rfl rfl, nQ rfl (by exact qR (pk rfl rfl rfl) rfl), trivial⟩) fun a w hS => ?_
    replace hS := hS.env2 (e' := [(0, q7 Br 0), (1, .int .i64 Bq), (2, .int .i64 Bp), (7, .int .i64 Bn), (39, .bool false)]) ⟨rfl, rfl, rfl, rfl, rfl, trivial⟩
    refine qg ?_
    exact Bw _ _ ⟨false, hS.to [0, 1] (by kernel_rfl) ⟨rfl, rfl, rfl, rfl, rfl, trivial⟩, hM⟩
  ·intro a w hI
   obtain ⟨Bz, hS, hM⟩ := hI
   rw [za.j2] at hM
   refine qC hS rfl hM (fun BF hM => ?_) (fun BF hM => ?_)
   ·refine wp_skip ?_
    refine qg <| z7 <| zv <| sM hS rfl fun hS => sB hS rfl fun hS => zr (v := Value.int .i64) (x0 := (qk (Bn + (1 : Int)))) hS (z8 rfl) rfl fun BG a w hz hS => ?_
    have hM := qA hz hM; clear hz
    refine q9 <| zk (qg ?_)
    exact BC _ _ ⟨BG, hS.to [0, 1] (by kernel_rfl) ⟨rfl, rfl, rfl, rfl, trivial⟩, hM⟩
   ·refine wp_exit ?_
    refine qx (qx (qV (qg ?_)))
    refine qu <| sM hS rfl fun hS => sA hS rfl fun hS => qF <| wp_ret ?_
    exact zJ (rs := [6]) hS rfl rfl (hret Bn _ (zj hM) (hS.st.pick [0, 1] (by kernel_rfl)))
theorem vD {H : xl} {F : List qs} {w : World} {R : Ending → World → Prop} {kr : (Int × Int) → Prop} {kp : Value → Prop} (hG : Gl H) (K : Nat) (Bo : zK) (Bn : Int) (Bq : Nat) (Bw : qs) (By : Nat) (Bx : qs) (Bz : x6 Bw Bq ([yX Bo.text_, .map (some By)]) 90) (BF : Qe (Y8 .u8) (Y6 3) 3 (ci .i64) 1 By Bo.seen_ Bx)
    (hS : St w H [Bw, Bx] F) (hm : (zm.m K Bo Bn).wp kr kp)
    (hret : ∀ (BG : Int) (BC : Int) (w : World), kr (BG, BC) → St w H [Bw, Bx] F → R (.returned (.agg ⟨[.int .u8 (0 : Int), .int .i64 BG, .int .i64 BC]⟩)) w) :
    Calls Tryd.prog 43 ⟨[q7 Bq 0, .int .i64 Bn]⟩ w R := by
 refine enter Tryd.func43 rfl Tryd.ntmps43 rfl hS fun a w hS => ?_
 have hM := hm; clear hm
 rw [zm.m] at hM
 refine qu <| uS ([.int .u8 (0 : Int), .int .i64 (0 : Int), .int .i64 (0 : Int)]) hS Tryd.zeroValue32 rfl rfl fun w BN BH BO hS => qF <| qu <| uS ([.int .u8 (0 : Int), .int .i64 (0 : Int), .int .i64 (0 : Int)]) hS Tryd.zeroValue32 rfl rfl fun w BD BV BP hS => qF <| wp_seq <| qu <| sM hS rfl fun hS => sB hS rfl fun hS => sM hS rfl fun hS => sO hS (yV rfl) rfl fun hS => sO hS (xn rfl Tryd.runUnderlying90 rfl Tryd.sizeOf9 rfl) rfl fun hS => sO hS (x5 2 rfl Bz rfl rfl Tryd.isAgg9) rfl fun hS => sO hS (uP rfl Tryd.runUnderlying9) rfl fun hS => sB hS rfl fun hS => qF <| qC hS rfl hM (fun BX hM => ?_) (fun BX hM => ?_)
 ·refine wp_seq ?_
  refine zv <| sO hS (vN 0 rfl BP rfl ([.int .u8 (0 : Int), .int .i64 (0 : Int), .int .i64 (0 : Int)]) rfl rfl Tryd.isAgg32 Tryd.sizeOf32) rfl fun hS => uX 1 ([.int .u8 (0 : Int), .int .i64 (0 : Int), .int .i64 (0 : Int)]) ([.int .u8 (0 : Int), .int .i64 (0 : Int), .int .i64 (0 : Int)]) hS rfl rfl BO rfl rfl Tryd.sizeOf32 (by simp [Value.oneCell']) (Nat.le_of_ble_eq_true rfl) rfl fun w B9 BY hS => qF <| wp_ret <| zz ?_
  exact yF (vs := [.agg ⟨[.int .u8 (0 : Int), .int .i64 (0 : Int), .int .i64 (0 : Int)]⟩]) hS rfl (by exact ⟨Ve 1 ([.int .u8 (0 : Int), .int .i64 (0 : Int), .int .i64 (0 : Int)]) rfl BY rfl rfl rfl Tryd.isAgg32 Tryd.sizeOf32, trivial⟩) (hret (0 : Int) (0 : Int) _ (zj hM) (hS.st.pick [2, 3] (by kernel_rfl)))
 ·refine wp_skip ?_
  refine qg <| wp_seq <| q8 (vals := [some (q7 Bq 0), some (q7 Bq 0), some (q7 Bq 1), some (.map (some By)), some (q7 Bq 0), some (.int .i64 Bn), none, none, none]) hS z6 rfl ?_
  intro l w ho hcl hA hst
  refine yx hA hst ho hcl zX z5 6 [0, 1, 2, 3, 4, 5] rfl rfl rfl rfl rfl (by exact ⟨nM rfl, nQ rfl (by exact qR (yV rfl) rfl), nQ rfl (by exact qR (xn rfl Tryd.runUnderlying90 rfl Tryd.sizeOf88 rfl) rfl), nQ rfl (by exact qR (x5 2 rfl Bz rfl rfl Tryd.isAgg88) rfl), nM rfl, nM rfl, trivial⟩) fun D l a w ho hcl hav hpre hm hE hk hA hst => ?_
  have hS := (Ss.mk hE hst).env2 (e' := [(23, q7 Bq 0), (24, .int .i64 Bn)]) ⟨rfl, rfl, trivial⟩
  refine qP rfl <| qO hS rfl Tryd.call66 (jq hG K Bo Bn Bq Bw By Bx Bz BF (hS.st.part 2 [2, 3, 0, 1] (by kernel_rfl)) (qy hM) (fun  w hM  hst => qM hS.ev hst.appF rfl fun hS => ?_))
  replace hS : Ss _ _ _ H [Bw, Bx, BV, BH] F _ _ := hS
  refine qF ?_
  replace hst := hS.st
  obtain ⟨hcl, hmust, hav2, hA⟩ := dn (vals' := [some (q7 Bq 0), some (q7 Bq 0), some (q7 Bq 1), some (.map (some By)), some (q7 Bq 0), some (.int .i64 Bn), some (.agg ⟨([((rd Bo.text_ Bn).toNat : Int), ((rd Bo.text_ (qk (Bn + (1 : Int)))).toNat : Int), ((rd Bo.text_ (qk (Bn + (2 : Int)))).toNat : Int)] : List Int).flatMap (ci .u8)⟩), none, none]) 6 [(4, 6), (5, 6)] hA hcl hav hm hpre hk rfl rfl rfl rfl rfl rfl rfl
  clear hm hav
  refine yx hA hst ho hcl hav2 hmust 7 [0, 1, 2, 3] rfl rfl rfl rfl rfl (by exact ⟨nM rfl, nQ rfl (by exact qR (yV rfl) rfl), nQ rfl (by exact qR (xn rfl Tryd.runUnderlying90 rfl Tryd.sizeOf88 rfl) rfl), nQ rfl (by exact qR (x5 0 rfl Bz rfl rfl Tryd.isAgg88) rfl), trivial⟩) fun D l a w ho hcl hav hpre hm hE hk hA hst => ?_
  have hS := (Ss.mk hE hst).env2 (e' := [(22, .map (some By)), (25, .agg ⟨([((rd Bo.text_ Bn).toNat : Int), ((rd Bo.text_ (qk (Bn + (1 : Int)))).toNat : Int), ((rd Bo.text_ (qk (Bn + (2 : Int)))).toNat : Int)] : List Int).flatMap (ci .u8)⟩)]) ⟨rfl, rfl, trivial⟩
  refine qP rfl <| KS (kv := Y8 .u8) (ok := Y6 3) (E := 3) (g := (ci .i64)) (sz := 1) (q := ([((rd Bo.text_ Bn).toNat : Int), ((rd Bo.text_ (qk (Bn + (1 : Int)))).toNat : Int), ((rd Bo.text_ (qk (Bn + (2 : Int)))).toNat : Int)] : List Int)) 1 hS rfl rfl rfl rfl BF rfl (JL Tryd.runUnderlying126 Tryd.runUnderlying5 Tryd.sizeOf5 Tryd.isAgg5) Tryd.runUnderlying88 Tryd.zeroValue45 (fun _ => rfl) rfl rfl fun Bu BI BJ w hz BQ B8 hS => ?_
  have hM := qA hz hM; clear hz
  refine qF ?_
  replace hst := hS.st
  obtain ⟨hcl, hmust, hav2, hA⟩ := dn (vals' := [some (q7 Bq 0), some (q7 Bq 0), some (q7 Bq 1), some (.map (some By)), some (q7 Bq 0), some (.int .i64 Bn), some (.agg ⟨([((rd Bo.text_ Bn).toNat : Int), ((rd Bo.text_ (qk (Bn + (1 : Int)))).toNat : Int), ((rd Bo.text_ (qk (Bn + (2 : Int)))).toNat : Int)] : List Int).flatMap (ci .u8)⟩), some (.slice BI Bu.length BJ), some (.slice BI Bu.length BJ)]) 7 [(3, 7), (6, 7), (2, 3), (4, 6), (5, 6), (1, 2), (0, 1)] hA hcl hav hm hpre hk rfl rfl rfl rfl rfl rfl rfl
  clear hm hav
  refine xG hA hst ho hcl hmust [8] rfl rfl rfl (by exact ⟨nA rfl, trivial⟩) fun a w hS => ?_
  replace hS := hS.env2 (e' := [(0, q7 Bq 0), (1, .int .i64 Bn), (4, q7 BN 0), (5, q7 BD 0), (6, .slice BI Bu.length BJ)]) ⟨rfl, rfl, rfl, rfl, rfl, trivial⟩
  refine qg <| qX (fun a w => ∃ (Bs : Int) (Br : Int) (BR : qs), Ss 63 [] [(4, q7 BN 0), (5, q7 BD 0)] H [Bw, Bx, BH, BR] F a w ∧ (x6 BR BD ([.int .u8 (0 : Int), .int .i64 Bs, .int .i64 Br]) 32) ∧ (zm.j2 K Bs Br).wp kr kp) (fun Da BS => ?_) ?_
  ·refine wp_seq ?_
   refine zv <| sA hS rfl fun hS => qF <| z7 <| zd (fun BW a w => ∃ (Bv : Int) (Bt : Int) (BA : qs) (Bp : Int), Ss 63 [] [(0, q7 Bq 0), (1, .int .i64 Bn), (4, q7 BN 0), (5, q7 BD 0), (6, .slice BI Bu.length BJ), (7, .int .i64 Bp)] H [Bw, Bx, BH, BA] F a w ∧ (x6 BA BD ([.int .u8 (0 : Int), .int .i64 Bv, .int .i64 Bt]) 32) ∧ (zm.l1 K Bo Bn Bu BW Bv Bt Bp).wp kr kp) K ?_ ?_ ?_
   ·exact ⟨(0 : Int), (0 : Int), BV, (0 : Int), hS.to [0, 1, 3, 2] (by kernel_rfl) ⟨rfl, rfl, rfl, rfl, rfl, rfl, trivial⟩, BP, hM⟩
   ·intro a w hI; obtain ⟨_, _, _, _, _, _, hM⟩ := hI; exact zc hM
   ·intro BW a w hI Db BT
    obtain ⟨Bv, Bt, BA, Bp, hS, BB, hM⟩ := hI
    rw [zm.l1] at hM
    refine wp_seq <| qu <| sM hS rfl fun hS => sB hS rfl fun hS => sM hS rfl fun hS => yr 4 true 29 (b := (decide (Bp < (32 : Int)))) (r := (decide (Bp < (Bu.length : Int)))) hS rfl rfl rfl rfl rfl rfl rfl (fun hb a w hS K hK => ?_) rfl fun a w hS => ?_
    ·refine zF hS rfl rfl rfl hb (mv rfl) rfl fun a w hS => ?_
     refine zF hS rfl rfl rfl hb (mv rfl) rfl fun a w hS => zF hS rfl rfl rfl hb (xI rfl Tryd.runUnderlying45) rfl fun a w hS => zF hS rfl rfl rfl hb (yN rfl rfl rfl) rfl fun a w hS => ?_
     exact q9 (hK _ _ (hS.up 4 rfl rfl))
    refine qF <| qC hS rfl hM (fun BZ hM => ?_) (fun BZ hM => ?_)
    ·refine wp_skip ?_
     refine qg <| wp_seq <| z7 <| qu <| sM hS rfl fun hS => sM hS rfl fun hS => sO hS (xI rfl Tryd.runUnderlying45) rfl fun hS => sB hS rfl fun hS => sM hS rfl fun hS => sB hS rfl fun hS => ?_
     obtain ⟨BU, hM⟩ := qB hM
     refine sO hS (xd rfl rfl Tryd.runUnderlying45 Tryd.sizeOf3 (BQ.rd (i := 1) rfl) (fun _ => rfl) rfl BU) rfl fun hS => sO hS (x3 rfl (BQ.rd (i := 1) rfl) (fun _ => rfl) BU rfl Tryd.isAgg3) rfl fun hS => zr (v := Value.int .i64) (x0 := (rd Bu (qk ((qk ((Bu.length : Int) - (1 : Int))) - Bp)))) hS (z8 rfl) rfl fun BE a w hz hS => ?_
     have hM := qA hz hM; clear hz
     refine qF <| wp_seq <| qu <| sM hS rfl fun hS => sM hS rfl fun hS => sB hS rfl fun hS => sB hS rfl fun hS => qF <| qC hS rfl hM (fun B0 hM => ?_) (fun B0 hM => ?_)
     ·refine wp_exit ?_
      refine qx (Up rfl (qx (qx (qV (qg ?_)))))
      exact BS _ _ ⟨Bv, Bt, BA, hS.to [0, 1, 2, 3] (by kernel_rfl) ⟨rfl, rfl, trivial⟩, BB, hM⟩
     ·refine wp_skip ?_
      refine qg <| qu <| sM hS rfl fun hS => sM hS rfl fun hS => sM hS rfl fun hS => qO hS rfl Tryd.call67 (vy hG K Bo BE Bn Bq Bw By Bx Bz BF (hS.st.part 2 [0, 1, 2, 3] (by kernel_rfl)) (qy hM) (fun BK w hM  hst => qM hS.ev hst.appF rfl fun hS => ?_))
      replace hS : Ss _ _ _ H [Bw, Bx, BH, BA] F _ _ := hS
      refine sA hS rfl fun hS => qF <| qu <| sM hS rfl fun hS => sO hS (xn rfl Tryd.runUnderlying32 rfl Tryd.sizeOf3 rfl) rfl fun hS => sO hS (x5 3 rfl BB rfl rfl Tryd.isAgg3) rfl fun hS => sB hS rfl fun hS => qF <| qC hS rfl hM (fun B3 hM => ?_) (fun B3 hM => ?_)
      ·refine zv ?_
       refine sM hS rfl fun hS => sM hS rfl fun hS => sM hS rfl fun hS => sB hS rfl fun hS => sO hS (Xe ([.int .u8 (0 : Int), .int .i64 BK, .int .i64 (qk (Bn - BE))]) [(0, 1), (1, 1), (2, 1)] Tryd.zeroValue32 Tryd.runUnderlying32 (by intro w; simp [Tryd.sizeOf3, Tryd.sizeOf5]) rfl rfl) rfl fun hS => uX 3 ([.int .u8 (0 : Int), .int .i64 BK, .int .i64 (qk (Bn - BE))]) ([.int .u8 (0 : Int), .int .i64 BK, .int .i64 (qk (Bn - BE))]) hS rfl rfl BB rfl rfl Tryd.sizeOf32 (by simp [Value.oneCell']) (Nat.le_of_ble_eq_true rfl) rfl fun w B7 B4 hS => q9 <| zk (qg ?_)
       refine zv <| sM hS rfl fun hS => sB hS rfl fun hS => zr (v := Value.int .i64) (x0 := (qk (Bp + (1 : Int)))) hS (z8 rfl) rfl fun BL a w hz hS => ?_
       have hM := qA hz hM; clear hz
       refine q9 <| qg ?_
       exact BT _ _ ⟨BK, (qk (Bn - BE)), B7, BL, hS.to [0, 1, 2, 3] (by kernel_rfl) ⟨rfl, rfl, rfl, rfl, rfl, rfl, trivial⟩, B4, hM⟩
      ·refine wp_skip ?_
       refine zk (qg ?_)
       refine zv <| sM hS rfl fun hS => sB hS rfl fun hS => zr (v := Value.int .i64) (x0 := (qk (Bp + (1 : Int)))) hS (z8 rfl) rfl fun BM a w hz hS => ?_
       have hM := qA hz hM; clear hz
       refine q9 <| qg ?_
       exact BT _ _ ⟨Bv, Bt, BA, BM, hS.to [0, 1, 2, 3] (by kernel_rfl) ⟨rfl, rfl, rfl, rfl, rfl, rfl, trivial⟩, BB, hM⟩
    ·refine wp_exit ?_
     refine qx (qx (qV (qg ?_)))
     exact BS _ _ ⟨Bv, Bt, BA, hS.to [0, 1, 2, 3] (by kernel_rfl) ⟨rfl, rfl, trivial⟩, BB, hM⟩
  ·intro a w hI
   obtain ⟨Bs, Br, BR, hS, B5, hM⟩ := hI
   rw [zm.j2] at hM
   refine qu <| sO hS (vN 3 rfl B5 rfl ([.int .u8 (0 : Int), .int .i64 Bs, .int .i64 Br]) rfl rfl Tryd.isAgg32 Tryd.sizeOf32) rfl fun hS => uX 2 ([.int .u8 (0 : Int), .int .i64 Bs, .int .i64 Br]) ([.int .u8 (0 : Int), .int .i64 Bs, .int .i64 Br]) hS rfl rfl BO rfl rfl Tryd.sizeOf32 (by simp [Value.oneCell']) (Nat.le_of_ble_eq_true rfl) rfl fun w Dc B6 hS => qF <| wp_ret ?_
   exact yF (vs := [.agg ⟨[.int .u8 (0 : Int), .int .i64 Bs, .int .i64 Br]⟩]) hS rfl (by exact ⟨Ve 2 ([.int .u8 (0 : Int), .int .i64 Bs, .int .i64 Br]) rfl B6 rfl rfl rfl Tryd.isAgg32 Tryd.sizeOf32, trivial⟩) (hret Bs Br _ (zj hM) (hS.st.pick [0, 1] (by kernel_rfl)))
theorem vC {H : xl} {F : List qs} {w : World} {R : Ending → World → Prop} {kr : (List ((List Int) × (List Int))) → Prop} {kp : Value → Prop} (hG : Gl H) (K : Nat) (Bn : zK) (Bo : Int) (Bp : Nat) (Bx : qs) (Bq : Nat) (By : qs) (Bv : x6 Bx Bp ([yX Bn.text_, .map (some Bq)]) 90) (BC : Qe (Y8 .u8) (Y6 3) 3 (ci .i64) 1 Bq Bn.seen_ By)
    (hS : St w H [Bx, By] F) (hm : (xE.m K Bn Bo).wp kr kp)
    (hret : ∀ (Bz : (List ((List Int) × (List Int)))) (BG : qs) (w : World), kr Bz → (Qe (Y8 .u8) (Y6 3) 3 (ci .i64) 1 Bq Bz BG) → St w H [Bx, BG] F → R (.returned (.tuple ⟨[]⟩)) w) :
    Calls Tryd.prog 44 ⟨[q7 Bp 0, .int .i64 Bo]⟩ w R := by
 refine enter Tryd.func44 rfl Tryd.ntmps44 rfl hS fun a w hS => ?_
 have hM := hm; clear hm
 rw [xE.m] at hM
 refine qu <| sM hS rfl fun hS => sB hS rfl fun hS => sM hS rfl fun hS => sO hS (yV rfl) rfl fun hS => sO hS (xn rfl Tryd.runUnderlying90 rfl Tryd.sizeOf9 rfl) rfl fun hS => sO hS (x5 0 rfl Bv rfl rfl Tryd.isAgg9) rfl fun hS => sO hS (uP rfl Tryd.runUnderlying9) rfl fun hS => sB hS rfl fun hS => qF <| qC hS rfl hM (fun BH hM => ?_) (fun BH hM => ?_)
 ·refine wp_seq ?_
  refine zv <| sM hS rfl fun hS => sM hS rfl fun hS => qO hS rfl Tryd.call66 (jq hG K Bn Bo Bp Bx Bq By Bv BC (hS.st.part 2 [0, 1] (by kernel_rfl)) (qy hM) (fun  w hM  hst => qM hS.ev hst.appF rfl fun hS => ?_))
  replace hS : Ss _ _ _ H [Bx, By] F _ _ := hS
  refine uS ((List.replicate 3 (0 : Int)).flatMap (ci .u8)) hS Tryd.zeroValue126 rfl rfl fun w BP BT BI hS => ZD (xs := (List.replicate 3 (0 : Int))) (ys := ([((rd Bn.text_ Bo).toNat : Int), ((rd Bn.text_ (qk (Bo + (1 : Int)))).toNat : Int), ((rd Bn.text_ (qk (Bo + (2 : Int)))).toNat : Int)] : List Int)) (g := (ci .u8)) (pre := []) (post := []) 0 hS rfl rfl BI rfl (by simp) rfl (zP (g := (ci .u8)) (sz := 1) (fun _ => rfl) (List.length_replicate ..)) (zP (g := (ci .u8)) (sz := 1) (fun _ => rfl) rfl) (u9) Tryd.sizeOf126 fun w BQ Bw hS => ?_
  replace Bw : x6 BQ BP (([((rd Bn.text_ Bo).toNat : Int), ((rd Bn.text_ (qk (Bo + (1 : Int)))).toNat : Int), ((rd Bn.text_ (qk (Bo + (2 : Int)))).toNat : Int)] : List Int).flatMap (ci .u8)) 126 := by simpa using Bw
  refine qF <| q8 (vals := [some (q7 Bp 0), some (q7 Bp 0), some (q7 Bp 1), some (.map (some Bq)), some (.agg ⟨([((rd Bn.text_ Bo).toNat : Int), ((rd Bn.text_ (qk (Bo + (1 : Int)))).toNat : Int), ((rd Bn.text_ (qk (Bo + (2 : Int)))).toNat : Int)] : List Int).flatMap (ci .u8)⟩), some (.int .i64 Bo), none, none, none, none, none, none]) hS z6 rfl ?_
  intro l w ho hcl hA hst
  refine yx hA hst ho hcl zX z5 6 [0, 1, 2, 3, 4, 5] rfl rfl rfl rfl rfl (by exact ⟨nM rfl, nQ rfl (by exact qR (yV rfl) rfl), nQ rfl (by exact qR (xn rfl Tryd.runUnderlying90 rfl Tryd.sizeOf88 rfl) rfl), nQ rfl (by exact qR (x5 1 rfl Bv rfl rfl Tryd.isAgg88) rfl), nQ rfl (by exact qR (Zt (xs := ([((rd Bn.text_ Bo).toNat : Int), ((rd Bn.text_ (qk (Bo + (1 : Int)))).toNat : Int), ((rd Bn.text_ (qk (Bo + (2 : Int)))).toNat : Int)] : List Int)) (g := (ci .u8)) (pre := []) (post := []) 0 rfl Bw rfl (by simp) rfl (zP (g := (ci .u8)) (sz := 1) (fun _ => rfl) rfl) Tryd.isAgg126 Tryd.sizeOf126) rfl), nM rfl, trivial⟩) fun D l a w ho hcl hav hpre hm hE hk hA hst => ?_
  have hS := (Ss.mk hE hst).env2 (e' := [(22, .int .i64 Bo)]) ⟨rfl, trivial⟩
  refine qP rfl <| XE (g := (ci .i64)) ([Bo] : List Int) [.int .i64 Bo] hS Tryd.runUnderlying45 Tryd.sizeOf3 X.el3 rfl rfl rfl (by simp [Value.cells]) rfl rfl rfl rfl rfl fun w BA BB BU BJ hS => qF ?_
  replace hst := hS.st
  obtain ⟨hcl, hmust, hav2, hA⟩ := dn (vals' := [some (q7 Bp 0), some (q7 Bp 0), some (q7 Bp 1), some (.map (some Bq)), some (.agg ⟨([((rd Bn.text_ Bo).toNat : Int), ((rd Bn.text_ (qk (Bo + (1 : Int)))).toNat : Int), ((rd Bn.text_ (qk (Bo + (2 : Int)))).toNat : Int)] : List Int).flatMap (ci .u8)⟩), some (.int .i64 Bo), some (.slice BA ([Bo] : List Int).length BB), none, none, none, none, none]) 6 [(5, 6)] hA hcl hav hm hpre hk rfl rfl rfl rfl rfl rfl rfl
  clear hm hav
  refine yx hA hst ho hcl hav2 hmust 7 [0, 1, 2, 3, 4] rfl rfl rfl rfl rfl (by exact ⟨nM rfl, nQ rfl (by exact qR (yV rfl) rfl), nQ rfl (by exact qR (xn rfl Tryd.runUnderlying90 rfl Tryd.sizeOf88 rfl) rfl), nQ rfl (by exact qR (x5 2 rfl Bv rfl rfl Tryd.isAgg88) rfl), nQ rfl (by exact qR (Zt (xs := ([((rd Bn.text_ Bo).toNat : Int), ((rd Bn.text_ (qk (Bo + (1 : Int)))).toNat : Int), ((rd Bn.text_ (qk (Bo + (2 : Int)))).toNat : Int)] : List Int)) (g := (ci .u8)) (pre := []) (post := []) 1 rfl Bw rfl (by simp) rfl (zP (g := (ci .u8)) (sz := 1) (fun _ => rfl) rfl) Tryd.isAgg126 Tryd.sizeOf126) rfl), trivial⟩) fun D l a w ho hcl hav hpre hm hE hk hA hst => ?_
  have hS := (Ss.mk hE hst).env2 (e' := [(19, .map (some Bq)), (20, .agg ⟨([((rd Bn.text_ Bo).toNat : Int), ((rd Bn.text_ (qk (Bo + (1 : Int)))).toNat : Int), ((rd Bn.text_ (qk (Bo + (2 : Int)))).toNat : Int)] : List Int).flatMap (ci .u8)⟩)]) ⟨rfl, rfl, trivial⟩
  refine qP rfl ?_
  replace hS := hS.front [3, 0, 1, 2] (by kernel_rfl)
  refine KY (kv := Y8 .u8) (ok := Y6 3) (E := 3) (g := (ci .i64)) (sz := 1) (q := ([((rd Bn.text_ Bo).toNat : Int), ((rd Bn.text_ (qk (Bo + (1 : Int)))).toNat : Int), ((rd Bn.text_ (qk (Bo + (2 : Int)))).toNat : Int)] : List Int)) hS rfl rfl rfl rfl BC (JL Tryd.runUnderlying126 Tryd.runUnderlying5 Tryd.sizeOf5 Tryd.isAgg5) Tryd.runUnderlying88 Tryd.zeroValue45 rfl fun Br w Bs Bt Bu BV BW hz BK BL hS => ?_
  have hM := qA hz hM; clear hz
  refine qF ?_
  replace hst := hS.st
  obtain ⟨hcl, hmust, hav2, hA⟩ := dn (vals' := [some (q7 Bp 0), some (q7 Bp 0), some (q7 Bp 1), some (.map (some Bq)), some (.agg ⟨([((rd Bn.text_ Bo).toNat : Int), ((rd Bn.text_ (qk (Bo + (1 : Int)))).toNat : Int), ((rd Bn.text_ (qk (Bo + (2 : Int)))).toNat : Int)] : List Int).flatMap (ci .u8)⟩), some (.int .i64 Bo), some (.slice BA ([Bo] : List Int).length BB), some (.tuple ⟨[.slice Bs Br.length Bt, .int .i64 ((Bu : Nat) : Int)]⟩), some (.slice Bs Br.length Bt), none, some (.int .i64 ((Bu : Nat) : Int)), none]) 7 [(0, 7), (1, 7), (2, 7), (3, 7), (4, 7), (5, 7), (6, 7)] hA hcl hav hm hpre hk rfl rfl rfl rfl rfl rfl rfl
  clear hm hav
  refine yx hA hst ho hcl hav2 hmust 9 [8, 10] rfl rfl rfl rfl rfl (by exact ⟨nQ rfl (by exact qR (ex rfl rfl) rfl), nQ rfl (by exact qR (ex rfl rfl) rfl), trivial⟩) fun D l a w ho hcl hav hpre hm hE hk hA hst => ?_
  have hS := (Ss.mk hE hst).env2 (e' := [(21, .slice Bs Br.length Bt), (23, .slice BA ([Bo] : List Int).length BB)]) ⟨rfl, rfl, trivial⟩
  refine qP rfl ?_
  obtain ⟨BM, hM⟩ := qB hM
  refine Yp (ys := ([Bo] : List Int)) 0 hS rfl rfl BK rfl (BJ.rd (i := 2) rfl) Tryd.runUnderlying45 Tryd.runUnderlying45 X.el3 (fun _ => rfl) rfl xb BM rfl fun BD w BE BF BX hz BN hS => ?_
  have hM := qA hz hM; clear hz
  refine qF ?_
  replace hst := hS.st
  obtain ⟨hcl, hmust, hav2, hA⟩ := dn (vals' := [some (q7 Bp 0), some (q7 Bp 0), some (q7 Bp 1), some (.map (some Bq)), some (.agg ⟨([((rd Bn.text_ Bo).toNat : Int), ((rd Bn.text_ (qk (Bo + (1 : Int)))).toNat : Int), ((rd Bn.text_ (qk (Bo + (2 : Int)))).toNat : Int)] : List Int).flatMap (ci .u8)⟩), some (.int .i64 Bo), some (.slice BA ([Bo] : List Int).length BB), some (.tuple ⟨[.slice Bs Br.length Bt, .int .i64 ((Bu : Nat) : Int)]⟩), some (.slice Bs Br.length Bt), some (.slice BE BD.length BF), some (.int .i64 ((Bu : Nat) : Int)), none]) 9 [(6, 9), (7, 9), (8, 9), (5, 6), (0, 7), (1, 7), (2, 7), (3, 7), (4, 7)] hA hcl hav hm hpre hk rfl rfl rfl rfl rfl rfl rfl
  clear hm hav
  refine yx hA hst ho hcl hav2 hmust 11 [10] rfl rfl rfl rfl rfl (by exact ⟨nQ rfl (by exact qR (ex rfl rfl) rfl), trivial⟩) fun D l a w ho hcl hav hpre hm hE hk hA hst => ?_
  have hS := (Ss.mk hE hst).env2 (e' := [(19, .map (some Bq)), (25, .slice BE BD.length BF), (26, .int .i64 ((Bu : Nat) : Int))]) ⟨rfl, rfl, rfl, trivial⟩
  refine qP rfl ?_
  replace hS := hS.front [0, 1, 2, 3, 4] (by kernel_rfl)
  refine KZ (kv := Y8 .u8) (ok := Y6 3) (E := 3) (g := (ci .i64)) (sz := 1) hS rfl rfl rfl BN BL fun BR w BS hz BO hS => ?_
  have hM := qA hz hM; clear hz
  refine qF ?_
  replace hst := hS.st
  obtain ⟨hcl, hmust, hav2, hA⟩ := QI (vals' := [some (q7 Bp 0), some (q7 Bp 0), some (q7 Bp 1), some (.map (some Bq)), some (.agg ⟨([((rd Bn.text_ Bo).toNat : Int), ((rd Bn.text_ (qk (Bo + (1 : Int)))).toNat : Int), ((rd Bn.text_ (qk (Bo + (2 : Int)))).toNat : Int)] : List Int).flatMap (ci .u8)⟩), some (.int .i64 Bo), some (.slice BA ([Bo] : List Int).length BB), some (.tuple ⟨[.slice Bs Br.length Bt, .int .i64 ((Bu : Nat) : Int)]⟩), some (.slice Bs Br.length Bt), some (.slice BE BD.length BF), some (.int .i64 ((Bu : Nat) : Int)), some undef]) 11 [(0, 11), (1, 11), (2, 11), (3, 11), (4, 11), (5, 11), (6, 11), (7, 11), (8, 11), (9, 11), (10, 11)] hA hcl hav hm hpre rfl rfl rfl rfl rfl
  clear hm hav
  refine xG hA hst ho hcl hmust [] rfl rfl rfl trivial fun a w hS => ?_
  replace hS := hS.env2 (e' := []) trivial
  exact yj (rs := []) hS rfl rfl (hret BR BS _ (zj hM) BO (hS.st.pick [3, 0] (by kernel_rfl)))
 ·refine wp_skip ?_
  exact yj (rs := []) hS rfl rfl (hret Bn.seen_ By _ (zj hM) BC (hS.st.pick [0, 1] (by kernel_rfl)))
theorem Zn {H : xl} {F : List qs} {w : World} {R : Ending → World → Prop} {kr : (List qp) → Prop} {kp : Value → Prop} (hG : Gl H) (K : Nat) (Bn : List UInt8)
    (hS : St w H [] F) (hm : (zo.m K Bn).wp kr kp)
    (hret : ∀ (BU : Option Addr) (BV : Nat) (BK : (List qp)) (BW : qs) (w : World), kr BK → (zC 32 qp.cells 3 BU BK BV BW) → St w H [BW] F → R (.returned (.slice BU BK.length BV)) w) :
    Calls Tryd.prog 19 ⟨[yX Bn]⟩ w R := by
 refine enter Tryd.func19 rfl Tryd.ntmps19 rfl hS fun a w hS => ?_
 have hM := hm; clear hm
 rw [zo.m] at hM
 refine qu <| sA hS rfl fun hS => ?_
 obtain ⟨Dp, Do, hS⟩ := hS.nilV 32 qp.cells 3
 refine qF <| qu <| sM hS rfl fun hS => KX (kv := Y8 .u8) (ok := Y6 3) (E := 3) (g := (ci .i64)) (sz := 1) hS rfl fun w By Di B4 hS => sO hS (Xe ([yX Bn, .map (some By)]) [(0, 1), (1, 1)] Tryd.zeroValue90 Tryd.runUnderlying90 (by intro w; simp [Tryd.sizeOf88, Tryd.sizeOf9]) rfl rfl) rfl fun hS => bx ([yX Bn, .map (some By)]) hS rfl rfl rfl fun w BC Bv BL hS => sA hS rfl fun hS => qF <| qu <| sA hS rfl fun hS => ?_
 obtain ⟨Dj, B5, hS⟩ := hS.nilV 32 qp.cells 3
 refine qF <| wp_seq <| qu <| sA hS rfl fun hS => qF <| z7 <| zd (fun BI a w => ∃ (Bq : (List ((List Int) × (List Int)))) (Bw : qs) (BD : Option Addr) (BE : Nat) (Bu : (List qp)) (Bz : qs) (Bs : Int), Ss 41 [] [(0, yX Bn), (3, q7 BC 0), (4, .slice BD Bu.length BE), (5, .int .i64 Bs)] H [Bv, Bw, Bz] F a w ∧ (Qe (Y8 .u8) (Y6 3) 3 (ci .i64) 1 By Bq Bw) ∧ (zC 32 qp.cells 3 BD Bu BE Bz) ∧ (zo.l1 K Bn BI Bq Bu Bs).wp kr kp) K ?_ ?_ ?_
 ·exact ⟨([] : List ((List Int) × (List Int))), Di, none, 0, ([] : List qp), Dj, (0 : Int), hS.to [1, 2, 0] (by kernel_rfl) ⟨rfl, rfl, rfl, rfl, trivial⟩, B4, B5, hM⟩
 ·intro a w hI; obtain ⟨_, _, _, _, _, _, _, _, _, _, hM⟩ := hI; exact zc hM
 ·intro BI a w hI Dq B6
  obtain ⟨Bq, Bw, BD, BE, Bu, Bz, Bs, hS, BM, BN, hM⟩ := hI
  rw [zo.l1] at hM
  refine wp_seq <| qu <| sM hS rfl fun hS => sM hS rfl fun hS => sO hS (uP rfl Tryd.runUnderlying9) rfl fun hS => sB hS rfl fun hS => qF <| qC hS rfl hM (fun B7 hM => ?_) (fun B7 hM => ?_)
  ·refine wp_skip ?_
   refine qg <| z7 <| qu <| sM hS rfl fun hS => sM hS rfl fun hS => qO hS rfl Tryd.call43 (vD hG K (zK.mk Bn Bq) Bs BC Bv By Bw BL BM (hS.st.part 2 [0, 1, 2] (by kernel_rfl)) (qy hM) (fun BB Bx w hM  hst => qM hS.ev hst.appF rfl fun hS => ?_))
   replace hS : Ss _ _ _ H [Bv, Bw, Bz] F _ _ := hS
   refine uS ([.int .u8 (0 : Int), .int .i64 (0 : Int), .int .i64 (0 : Int)]) hS Tryd.zeroValue32 rfl rfl fun w BX Dr B8 hS => uX 0 ([.int .u8 (0 : Int), .int .i64 BB, .int .i64 Bx]) ([.int .u8 (0 : Int), .int .i64 BB, .int .i64 Bx]) hS rfl rfl B8 rfl rfl Tryd.sizeOf32 (by simp [Value.oneCell']) (Nat.le_of_ble_eq_true rfl) rfl fun w Dk BG hS => qF <| qX (fun a w => ∃ (Br : Int) (Bo : Int) (Bp : Int) (BO : qs), Ss 41 [] [(0, yX Bn), (3, q7 BC 0), (4, .slice BD Bu.length BE), (5, .int .i64 Bs), (6, q7 BX 0)] H [Bv, Bw, Bz, BO] F a w ∧ (x6 BO BX ([.int .u8 Br, .int .i64 Bo, .int .i64 Bp]) 32) ∧ (zo.j2 K (zo.l1 K Bn BI) Bn Bq Bu Bs Br Bo Bp).wp kr kp) (fun Dt BP => ?_) ?_
   ·refine wp_seq ?_
    refine zv <| sO hS (xn rfl Tryd.runUnderlying32 rfl Tryd.sizeOf3 rfl) rfl fun hS => sO hS (x5 0 rfl BG rfl rfl Tryd.isAgg3) rfl fun hS => sB hS rfl fun hS => qF <| qC hS rfl hM (fun B9 hM => ?_) (fun B9 hM => ?_)
    ·refine zv ?_
     refine sM hS rfl fun hS => sM hS rfl fun hS => ?_
     obtain ⟨Da, hM⟩ := qB hM
     refine sO hS (UB rfl rfl Tryd.runUnderlying9 Da) rfl fun hS => sO hS (Xe ([.int .u8 ((rd Bn Bs).toNat : Int), .int .i64 (0 : Int), .int .i64 (0 : Int)]) [(0, 1), (1, 1), (2, 1)] Tryd.zeroValue32 Tryd.runUnderlying32 (by intro w; simp [Tryd.sizeOf3, Tryd.sizeOf5]) rfl rfl) rfl fun hS => uX 0 ([.int .u8 ((rd Bn Bs).toNat : Int), .int .i64 (0 : Int), .int .i64 (0 : Int)]) ([.int .u8 ((rd Bn Bs).toNat : Int), .int .i64 (0 : Int), .int .i64 (0 : Int)]) hS rfl rfl BG rfl rfl Tryd.sizeOf32 (by simp [Value.oneCell']) (Nat.le_of_ble_eq_true rfl) rfl fun w Dl Db hS => q9 <| qg ?_
     exact BP _ _ ⟨((rd Bn Bs).toNat : Int), (0 : Int), (0 : Int), Dl, hS.to [1, 2, 3, 0] (by kernel_rfl) ⟨rfl, rfl, rfl, rfl, rfl, trivial⟩, Db, hM⟩
    ·refine wp_skip ?_
     refine qg ?_
     exact BP _ _ ⟨(0 : Int), BB, Bx, Dk, hS.to [1, 2, 3, 0] (by kernel_rfl) ⟨rfl, rfl, rfl, rfl, rfl, trivial⟩, BG, hM⟩
   ·intro a w hI
    obtain ⟨Br, Bo, Bp, BO, hS, BQ, hM⟩ := hI
    rw [zo.j2] at hM
    refine qu <| sM hS rfl fun hS => sO hS (vN 3 rfl BQ rfl ([.int .u8 Br, .int .i64 Bo, .int .i64 Bp]) rfl rfl Tryd.isAgg32 Tryd.sizeOf32) rfl fun hS => XE (g := qp.cells) ([(qp.mk Br Bo Bp)] : List qp) [.agg ⟨[.int .u8 Br, .int .i64 Bo, .int .i64 Bp]⟩] hS Tryd.runUnderlying25 Tryd.sizeOf32 X.el32 rfl rfl rfl (by simp [Value.cells]) rfl rfl rfl rfl rfl fun w Du Dv Dw Dc hS => ?_
    obtain ⟨De, hM⟩ := qB hM
    refine Yp (ys := ([(qp.mk Br Bo Bp)] : List qp)) 3 hS rfl rfl BN rfl (Dc.rd (i := 0) rfl) Tryd.runUnderlying25 Tryd.runUnderlying25 X.el32 (fun _ => rfl) rfl Vz De rfl fun BH w BY BZ BR hz Df hS => ?_
    have hM := qA hz hM; clear hz
    refine sA hS rfl fun hS => qF <| qu <| sO hS (xn rfl Tryd.runUnderlying32 rfl Tryd.sizeOf3 rfl) rfl fun hS => sO hS (x5 4 rfl BQ rfl rfl Tryd.isAgg3) rfl fun hS => sO hS (Vl rfl rfl) rfl fun hS => sM hS rfl fun hS => qF <| z7 <| zd (fun B0 a w => ∃ (Bt : (List ((List Int) × (List Int)))) (BF : qs) (BA : Int) (BJ : Int), Ss 41 [] [(0, yX Bn), (3, q7 BC 0), (4, .slice BY BH.length BZ), (5, .int .i64 BA), (31, .int .i64 (if Bo > (1 : Int) then Bo else (1 : Int))), (32, .int .i64 BJ)] H [Bv, BF, BR] F a w ∧ (Qe (Y8 .u8) (Y6 3) 3 (ci .i64) 1 By Bt BF) ∧ (zo.l3 K (zo.l1 K Bn BI) Bn Bo BH B0 Bt BA BJ).wp kr kp) K ?_ ?_ ?_
    ·exact ⟨Bq, Bw, Bs, (0 : Int), hS.to [1, 2, 3] (by kernel_rfl) ⟨rfl, rfl, rfl, rfl, rfl, rfl, trivial⟩, BM, hM⟩
    ·intro a w hI; obtain ⟨_, _, _, _, _, _, hM⟩ := hI; exact zc hM
    ·intro B0 a w hI Dx Dg
     obtain ⟨Bt, BF, BA, BJ, hS, BS, hM⟩ := hI
     rw [zo.l3] at hM
     refine qu <| sB hS rfl fun hS => qF <| wp_seq <| qC hS rfl hM (fun Dh hM => ?_) (fun Dh hM => ?_)
     ·refine wp_skip ?_
      refine qg <| wp_seq <| z7 <| qu <| sM hS rfl fun hS => sM hS rfl fun hS => qO hS rfl Tryd.call44 (vC hG K (zK.mk Bn Bt) BA BC Bv By BF BL BS (hS.st.part 2 [0, 1, 2] (by kernel_rfl)) (qy hM) (fun BT B3 w hM Dm hst => qM hS.ev hst.appF rfl fun hS => ?_))
      replace hS : Ss _ _ _ H [Bv, B3, BR] F _ _ := hS
      refine qF <| zv <| sM hS rfl fun hS => sB hS rfl fun hS => zr (v := Value.int .i64) (x0 := (qk (BA + (1 : Int)))) hS (z8 rfl) rfl fun Dn a w hz hS => ?_
      have hM := qA hz hM; clear hz
      refine q9 <| zk (qg ?_)
      refine zv <| sB hS rfl fun hS => sM hS rfl fun hS => q9 <| qg ?_
      exact Dg _ _ ⟨BT, B3, Dn, (qk (BJ + (1 : Int))), hS.to [0, 1, 2] (by kernel_rfl) ⟨rfl, rfl, rfl, rfl, rfl, rfl, trivial⟩, Dm, hM⟩
     ·refine wp_exit ?_
      refine qx (qx (qV (zk (qg ?_))))
      exact B6 _ _ ⟨Bt, BF, BY, BZ, BH, BR, BA, hS.to [0, 1, 2] (by kernel_rfl) ⟨rfl, rfl, rfl, rfl, trivial⟩, BS, Df, hM⟩
  ·refine wp_exit ?_
   refine qx (qx (qV (qg ?_)))
   refine qu <| sM hS rfl fun hS => sA hS rfl fun hS => qF <| wp_ret ?_
   exact zJ (rs := [2]) hS rfl rfl (hret BD BE Bu Bz _ (zj hM) BN (hS.st.pick [2] (by kernel_rfl)))
theorem yy {H : xl} {F : List qs} {w : World} {R : Ending → World → Prop} {kr : (List UInt8) → Prop} {kp : Value → Prop} (hG : Gl H) (K : Nat) (Bp : List UInt8)
    (hS : St w H [] F) (hm : (zp.m K Bp).wp kr kp)
    (hret : ∀ (Bv : List UInt8) (w : World), kr Bv → St w H [] F → R (.returned (yX Bv)) w)
    (hpan : ∀ v w, kp v → St w H [] F → R (.panicked [⟨v, false, false⟩]) w) :
    Calls Tryd.prog 18 ⟨[yX Bp]⟩ w R := by
 refine enter Tryd.func18 rfl Tryd.ntmps18 rfl hS fun a w hS => ?_
 have hM := hm; clear hm
 rw [zp.m] at hM
 refine qu <| sA hS rfl fun hS => qF <| qu <| sM hS rfl fun hS => qO hS rfl Tryd.call19 (Zn hG K Bp (hS.st.part 0 [] (by kernel_rfl)) (qy hM) (fun Bs Bt Bq Bo w hM Br hst => qM hS.ev hst.appF rfl fun hS => ?_))
 replace hS : Ss _ _ _ H [Bo] F _ _ := hS
 refine sA hS rfl fun hS => qF <| qu <| sM hS rfl fun hS => qO hS rfl Tryd.call10 (jz hG K Bp (hS.st.part 0 [0] (by kernel_rfl)) (qy hM) (fun Bw w hM  hst => qM hS.ev hst.appF rfl fun hS => ?_))
 replace hS : Ss _ _ _ H [Bo] F _ _ := hS
 refine sA hS rfl fun hS => qF <| qX (fun a w => ∃ (Bn : List UInt8), Ss 44 [] [(3, .slice Bs Bq.length Bt), (4, yX Bn)] H [Bo] F a w ∧ (zp.j1 K Bq Bn).wp kr kp) (fun BD Bu => ?_) ?_
 ·refine wp_seq ?_
  refine zv <| sM hS rfl fun hS => qO hS rfl Tryd.call12 (jZ hG K Bq Bs Bt (Br.rdF (i := 0) rfl) (Br.cap (fun _ => rfl) rfl) (hS.st.part 0 [0] (by kernel_rfl)) (qy hM) (fun Bx BB w hM  hst => qM hS.ev hst.appF rfl fun hS => ?_))
  replace hS : Ss _ _ _ H [Bo] F _ _ := hS
  refine sM hS rfl fun hS => sO hS (ex rfl rfl) rfl fun hS => sO hS (ex rfl rfl) rfl fun hS => sA hS rfl fun hS => sA hS rfl fun hS => qF <| qu <| sM hS rfl fun hS => sB hS rfl fun hS => sM hS rfl fun hS => yr 5 true 20 (b := (BB == (0 : Int))) (r := (decide ((Bx.length : Int) < (Bw.length : Int)))) hS rfl rfl rfl rfl rfl rfl rfl (fun hb a w hS K hK => ?_) rfl fun a w hS => ?_
  ·refine zF hS rfl rfl rfl hb (mv rfl) rfl fun a w hS => ?_
   refine zF hS rfl rfl rfl hb (uP rfl Tryd.runUnderlying9) rfl fun a w hS => zF hS rfl rfl rfl hb (mv rfl) rfl fun a w hS => zF hS rfl rfl rfl hb (uP rfl Tryd.runUnderlying9) rfl fun a w hS => zF hS rfl rfl rfl hb (yN rfl rfl rfl) rfl fun a w hS => ?_
   exact q9 (hK _ _ (hS.up 5 rfl rfl))
  refine qF <| qC hS rfl hM (fun Bz hM => ?_) (fun Bz hM => ?_)
  ·refine zv ?_
   refine sM hS rfl fun hS => sA hS rfl fun hS => q9 <| qg ?_
   exact Bu _ _ ⟨Bx, hS.to [0] (by kernel_rfl) ⟨rfl, rfl, trivial⟩, hM⟩
  ·refine wp_skip ?_
   refine qg ?_
   exact Bu _ _ ⟨Bw, hS.to [0] (by kernel_rfl) ⟨rfl, rfl, trivial⟩, hM⟩
 ·intro a w hI
  obtain ⟨Bn, hS, hM⟩ := hI
  rw [zp.j1] at hM
  refine wp_seq <| qu <| sM hS rfl fun hS => qO hS rfl Tryd.call14 (x4 hG K Bq Bs Bt (Br.rdF (i := 0) rfl) (Br.cap (fun _ => rfl) rfl) (hS.st.part 0 [0] (by kernel_rfl)) (qy hM) (fun By BC w hM  hst => qM hS.ev hst.appF rfl fun hS => ?_) (fun v w hk hst => yw (zx (zx (⟨hS.ev.defs, hpan _ _ hk hst.appF.frame⟩)))))
  replace hS : Ss _ _ _ H [Bo] F _ _ := hS
  refine sM hS rfl fun hS => sO hS (ex rfl rfl) rfl fun hS => sO hS (ex rfl rfl) rfl fun hS => sA hS rfl fun hS => sA hS rfl fun hS => qF <| qu <| sM hS rfl fun hS => sB hS rfl fun hS => sM hS rfl fun hS => yr 5 true 35 (b := (BC == (0 : Int))) (r := (decide ((By.length : Int) < (Bn.length : Int)))) hS rfl rfl rfl rfl rfl rfl rfl (fun hb a w hS K hK => ?_) rfl fun a w hS => ?_
  ·refine zF hS rfl rfl rfl hb (mv rfl) rfl fun a w hS => ?_
   refine zF hS rfl rfl rfl hb (uP rfl Tryd.runUnderlying9) rfl fun a w hS => zF hS rfl rfl rfl hb (mv rfl) rfl fun a w hS => zF hS rfl rfl rfl hb (uP rfl Tryd.runUnderlying9) rfl fun a w hS => zF hS rfl rfl rfl hb (yN rfl rfl rfl) rfl fun a w hS => ?_
   exact q9 (hK _ _ (hS.up 5 rfl rfl))
  refine qF <| qC hS rfl hM (fun BA hM => ?_) (fun BA hM => ?_)
  ·refine zv ?_
   refine sM hS rfl fun hS => sA hS rfl fun hS => qF <| qu <| sM hS rfl fun hS => sA hS rfl fun hS => qF <| wp_ret ?_
   exact zJ (rs := [2]) hS rfl rfl (hret By _ (zj hM) (hS.st.pick [] (by kernel_rfl)))
  ·refine wp_skip ?_
   refine qg <| qu <| sM hS rfl fun hS => sA hS rfl fun hS => qF <| wp_ret ?_
   exact zJ (rs := [2]) hS rfl rfl (hret Bn _ (zj hM) (hS.st.pick [] (by kernel_rfl)))
theorem yU {H : xl} {F : List qs} {w : World} {R : Ending → World → Prop} {kr : Bool → Prop} {kp : Value → Prop} (hG : Gl H) (K : Nat)
    (hS : St w H [] F) (hm : (zL.m K).wp kr kp)
    (hret : ∀ (Bv : Bool) (w : World), kr Bv → St w H [] F → R (.returned (.bool Bv)) w)
    (hpan : ∀ v w, kp v → St w H [] F → R (.panicked [⟨v, false, false⟩]) w) :
    Calls Tryd.prog 9 ⟨[]⟩ w R := by
 refine enter Tryd.func9 rfl Tryd.ntmps9 rfl hS fun a w hS => ?_
 have hM := hm; clear hm
 rw [zL.m] at hM
 refine qu <| sA hS rfl fun hS => qF <| qu <| sO hS (Xe ([.int .u8 (97 : Int), .int .i64 (0 : Int), .int .i64 (0 : Int)]) [(0, 1), (1, 1), (2, 1)] Tryd.zeroValue32 Tryd.runUnderlying32 (by intro w; simp [Tryd.sizeOf3, Tryd.sizeOf5]) rfl rfl) rfl fun hS => XE (g := qp.cells) ([(qp.mk (97 : Int) (0 : Int) (0 : Int))] : List qp) [.agg ⟨[.int .u8 (97 : Int), .int .i64 (0 : Int), .int .i64 (0 : Int)]⟩] hS Tryd.runUnderlying25 Tryd.sizeOf32 X.el32 rfl rfl rfl (by simp [Value.cells]) rfl rfl rfl rfl rfl fun w A8 c9 BB Bx hS => qO hS rfl Tryd.call12 (jZ hG K ([(qp.mk (97 : Int) (0 : Int) (0 : Int))] : List qp) A8 c9 (Bx.rdF (i := 0) rfl) (Bx.cap (fun _ => rfl) rfl) (hS.st.part 0 [0] (by kernel_rfl)) (qy hM) (fun Bo Br w hM  hst => qM hS.ev hst.appF rfl fun hS => ?_))
 replace hS : Ss _ _ _ H [BB] F _ _ := hS
 refine sM hS rfl fun hS => sO hS (ex rfl rfl) rfl fun hS => sO hS (ex rfl rfl) rfl fun hS => sA hS rfl fun hS => sA hS rfl fun hS => qF <| qu <| sO hS (Xe ([.int .u8 (0 : Int), .int .i64 (1 : Int), .int .i64 (0 : Int)]) [(0, 1), (1, 1), (2, 1)] Tryd.zeroValue32 Tryd.runUnderlying32 (by intro w; simp [Tryd.sizeOf3, Tryd.sizeOf5]) rfl rfl) rfl fun hS => XE (g := qp.cells) ([(qp.mk (0 : Int) (1 : Int) (0 : Int))] : List qp) [.agg ⟨[.int .u8 (0 : Int), .int .i64 (1 : Int), .int .i64 (0 : Int)]⟩] hS Tryd.runUnderlying25 Tryd.sizeOf32 X.el32 rfl rfl rfl (by simp [Value.cells]) rfl rfl rfl rfl rfl fun w By Bz Bs Bt hS => qO hS rfl Tryd.call14 (x4 hG K ([(qp.mk (0 : Int) (1 : Int) (0 : Int))] : List qp) By Bz (Bt.rdF (i := 0) rfl) (Bt.cap (fun _ => rfl) rfl) (hS.st.part 0 [0, 1] (by kernel_rfl)) (qy hM) (fun BC Bw w hM  hst => qM hS.ev hst.appF rfl fun hS => ?_) (fun v w hk hst => yw (zx (⟨hS.ev.defs, hpan _ _ hk hst.appF.frame⟩))))
 replace hS : Ss _ _ _ H [Bs, BB] F _ _ := hS
 refine sM hS rfl fun hS => sO hS (ex rfl rfl) rfl fun hS => sO hS (ex rfl rfl) rfl fun hS => sA hS rfl fun hS => sA hS rfl fun hS => qF <| qu <| qO hS rfl Tryd.call10 (jz hG K ([] : List UInt8) (hS.st.part 0 [0, 1] (by kernel_rfl)) (qy hM) (fun Bp w hM  hst => qM hS.ev hst.appF rfl fun hS => ?_))
 replace hS : Ss _ _ _ H [Bs, BB] F _ _ := hS
 refine sO hS (JW rfl rfl rfl) rfl fun hS => sM hS rfl fun hS => yr 2 true 19 (b := (Bp == ([1, 0, 0, 255, 255] : List UInt8))) (r := (Bo == ([75, 4, 0] : List UInt8))) hS rfl rfl rfl rfl rfl rfl rfl (fun hb a w hS K hK => ?_) rfl fun a w hS => ?_
 ·refine zF hS rfl rfl rfl hb (mv rfl) rfl fun a w hS => ?_
  refine zF hS rfl rfl rfl hb (JW rfl rfl rfl) rfl fun a w hS => ?_
  exact q9 (hK _ _ (hS.up 2 rfl rfl))
 refine sM hS rfl fun hS => yr 2 true 23 (b := ((Bp == ([1, 0, 0, 255, 255] : List UInt8)) && (Bo == ([75, 4, 0] : List UInt8)))) (r := (Br == (0 : Int))) hS rfl rfl rfl rfl rfl rfl rfl (fun hb a w hS K hK => ?_) rfl fun a w hS => ?_
 ·refine zF hS rfl rfl rfl hb (mv rfl) rfl fun a w hS => ?_
  refine zF hS rfl rfl rfl hb (yN rfl rfl rfl) rfl fun a w hS => ?_
  exact q9 (hK _ _ (hS.up 2 rfl rfl))
 refine sM hS rfl fun hS => yr 2 true 27 (b := (((Bp == ([1, 0, 0, 255, 255] : List UInt8)) && (Bo == ([75, 4, 0] : List UInt8))) && (Br == (0 : Int)))) (r := (Bw == (1 : Int))) hS rfl rfl rfl rfl rfl rfl rfl (fun hb a w hS K hK => ?_) rfl fun a w hS => ?_
 ·refine zF hS rfl rfl rfl hb (mv rfl) rfl fun a w hS => ?_
  refine zF hS rfl rfl rfl hb (yN rfl rfl rfl) rfl fun a w hS => ?_
  exact q9 (hK _ _ (hS.up 2 rfl rfl))
 refine sM hS rfl fun hS => u6 (fun a w => ∃ (Bq : Bool), Ss 35 [] [(34, .bool Bq)] H [] F a w ∧ (zL.j1 K Bq).wp kr kp) 3 (fun BD Bu => ?_) ?_
 ·refine Ua (b := ((((Bp == ([1, 0, 0, 255, 255] : List UInt8)) && (Bo == ([75, 4, 0] : List UInt8))) && (Br == (0 : Int))) && (Bw == (1 : Int)))) hM (fun Bn hM => ?_) (fun Bn hM => ?_)
  ·replace hS := hS.re 30 (v := .bool true) rfl (congrArg Value.bool Bn)
   replace hS := hS.re 31 (v := .bool true) rfl (congrArg Value.bool Bn)
   refine v2 hS rfl rfl rfl rfl <| qO hS rfl Tryd.call18 (yy hG K ([] : List UInt8) (hS.st.part 0 [0, 1] (by kernel_rfl)) (qy hM) (fun BA w hM  hst => qM hS.ev hst.appF rfl fun hS => ?_) (fun v w hk hst => yw (zx (zx (⟨hS.ev.defs, hpan _ _ hk hst.appF.frame⟩)))))
   replace hS : Ss _ _ _ H [Bs, BB] F _ _ := hS
   refine zF hS rfl rfl rfl rfl (JW rfl rfl rfl) rfl fun a w hS => sO hS (pk rfl rfl rfl) rfl fun hS => q9 <| qg ?_
   exact Bu _ _ ⟨(!(BA == ([] : List UInt8))), hS.to [] (by kernel_rfl) ⟨rfl, trivial⟩, hM⟩
  ·replace hS := hS.re 30 (v := .bool false) rfl (congrArg Value.bool Bn)
   replace hS := hS.re 31 (v := .bool false) rfl (congrArg Value.bool Bn)
   refine JG 2 hS rfl fun a w hS => sO hS (pk rfl rfl rfl) rfl fun hS => q9 <| qg ?_
   exact Bu _ _ ⟨false, hS.to [] (by kernel_rfl) ⟨rfl, trivial⟩, hM⟩
 ·intro a w hI
  obtain ⟨Bq, hS, hM⟩ := hI
  rw [zL.j1] at hM
  refine sA hS rfl fun hS => qF <| wp_ret ?_
  exact zJ (rs := [0]) hS rfl rfl (hret Bq _ (zj hM) (hS.st.pick [] (by kernel_rfl)))
theorem yW {H : xl} {F : List qs} {w : World} {R : Ending → World → Prop} {kr : Bool → Prop} {kp : Value → Prop} (hG : Gl H) (K : Nat) (s1 : List UInt8) (l_2 : List qp) (A3 : Option Addr) (c4 : Nat) (hr5 : yM H [] F qp.cells A3 l_2) (hc6 : l_2.length ≤ c4)
    (hS : St w H [] F) (hm : (zq.m K s1 l_2).wp kr kp)
    (hret : ∀ (Bu : Bool) (w : World), kr Bu → St w H [] F → R (.returned (.bool Bu)) w)
    (hpan : ∀ v w, kp v → St w H [] F → R (.panicked [⟨v, false, false⟩]) w) :
    Calls Tryd.prog 7 ⟨[yX s1, .slice A3 l_2.length c4]⟩ w R := by
 refine enter Tryd.func7 rfl Tryd.ntmps7 rfl hS fun a w hS => ?_
 have hM := hm; clear hm
 rw [zq.m] at hM
 refine qu <| sA hS rfl fun hS => qF <| wp_seq <| qu <| sM hS rfl fun hS => sO hS (uP rfl Tryd.runUnderlying9) rfl fun hS => sB hS rfl fun hS => sM hS rfl fun hS => yr 3 false 12 (b := (decide ((s1.length : Int) > (4000 : Int)))) (r := (decide ((l_2.length : Int) > (300 : Int)))) hS rfl rfl rfl rfl rfl rfl rfl (fun hb a w hS K hK => ?_) rfl fun a w hS => ?_
 ·refine zF hS rfl rfl rfl hb (mv rfl) rfl fun a w hS => ?_
  refine zF hS rfl rfl rfl hb (xI rfl Tryd.runUnderlying25) rfl fun a w hS => zF hS rfl rfl rfl hb (yN rfl rfl rfl) rfl fun a w hS => ?_
  exact q9 (hK _ _ (hS.up 3 rfl rfl))
 refine qF <| qC hS rfl hM (fun hb7 hM => ?_) (fun hb7 hM => ?_)
 ·refine wp_seq ?_
  refine zv <| qO hS rfl Tryd.call9 (yU hG K  (hS.st.part 0 [] (by kernel_rfl)) (qy hM) (fun Bx w hM  hst => qM hS.ev hst.appF rfl fun hS => ?_) (fun v w hk hst => yw (zx (zx (⟨hS.ev.defs, hpan _ _ hk hst.appF.frame⟩)))))
  replace hS : Ss _ _ _ H [] F _ _ := hS
  refine sA hS rfl fun hS => qF <| wp_ret <| zz ?_
  exact zJ (rs := [4]) hS rfl rfl (hret Bx _ (zj hM) (hS.st.pick [] (by kernel_rfl)))
 ·refine wp_skip ?_
  refine qg <| qu <| sM hS rfl fun hS => qO hS rfl Tryd.call14 (x4 hG K l_2 A3 c4 (hr5.app _) hc6 (hS.st.part 0 [] (by kernel_rfl)) (qy hM) (fun Bp Bv w hM  hst => qM hS.ev hst.appF rfl fun hS => ?_) (fun v w hk hst => yw (zx (⟨hS.ev.defs, hpan _ _ hk hst.appF.frame⟩))))
  replace hS : Ss _ _ _ H [] F _ _ := hS
  refine sM hS rfl fun hS => sO hS (ex rfl rfl) rfl fun hS => sO hS (ex rfl rfl) rfl fun hS => sA hS rfl fun hS => sA hS rfl fun hS => qF <| qu <| sM hS rfl fun hS => qO hS rfl Tryd.call14 (x4 hG K l_2 A3 c4 (hr5.app _) hc6 (hS.st.part 0 [] (by kernel_rfl)) (qy hM) (fun Bq Bw w hM  hst => qM hS.ev hst.appF rfl fun hS => ?_) (fun v w hk hst => yw (zx (⟨hS.ev.defs, hpan _ _ hk hst.appF.frame⟩))))
  replace hS : Ss _ _ _ H [] F _ _ := hS
  refine sM hS rfl fun hS => sO hS (ex rfl rfl) rfl fun hS => sO hS (ex rfl rfl) rfl fun hS => sA hS rfl fun hS => sA hS rfl fun hS => qF <| qu <| sM hS rfl fun hS => qO hS rfl Tryd.call18 (yy hG K s1 (hS.st.part 0 [] (by kernel_rfl)) (qy hM) (fun Br w hM  hst => qM hS.ev hst.appF rfl fun hS => ?_) (fun v w hk hst => yw (zx (⟨hS.ev.defs, hpan _ _ hk hst.appF.frame⟩))))
  replace hS : Ss _ _ _ H [] F _ _ := hS
  refine sM hS rfl fun hS => qO hS rfl Tryd.call18 (yy hG K s1 (hS.st.part 0 [] (by kernel_rfl)) (qy hM) (fun Bs w hM  hst => qM hS.ev hst.appF rfl fun hS => ?_) (fun v w hk hst => yw (zx (⟨hS.ev.defs, hpan _ _ hk hst.appF.frame⟩))))
  replace hS : Ss _ _ _ H [] F _ _ := hS
  refine sO hS (JW rfl rfl rfl) rfl fun hS => sM hS rfl fun hS => yr 3 true 33 (b := (Br == Bs)) (r := (Bp == Bq)) hS rfl rfl rfl rfl rfl rfl rfl (fun hb a w hS K hK => ?_) rfl fun a w hS => ?_
  ·refine zF hS rfl rfl rfl hb (mv rfl) rfl fun a w hS => ?_
   refine zF hS rfl rfl rfl hb (mv rfl) rfl fun a w hS => zF hS rfl rfl rfl hb (JW rfl rfl rfl) rfl fun a w hS => ?_
   exact q9 (hK _ _ (hS.up 3 rfl rfl))
  refine sM hS rfl fun hS => yr 3 true 38 (b := ((Br == Bs) && (Bp == Bq))) (r := (Bv == Bw)) hS rfl rfl rfl rfl rfl rfl rfl (fun hb a w hS K hK => ?_) rfl fun a w hS => ?_
  ·refine zF hS rfl rfl rfl hb (mv rfl) rfl fun a w hS => ?_
   refine zF hS rfl rfl rfl hb (mv rfl) rfl fun a w hS => zF hS rfl rfl rfl hb (yN rfl rfl rfl) rfl fun a w hS => ?_
   exact q9 (hK _ _ (hS.up 3 rfl rfl))
  refine sM hS rfl fun hS => u6 (fun a w => ∃ (Bo : Bool), Ss 46 [] [(45, .bool Bo)] H [] F a w ∧ (zq.j1 K Bo).wp kr kp) 2 (fun Bz Bt => ?_) ?_
  ·refine Ua (b := (((Br == Bs) && (Bp == Bq)) && (Bv == Bw))) hM (fun Bn hM => ?_) (fun Bn hM => ?_)
   ·replace hS := hS.re 42 (v := .bool true) rfl (congrArg Value.bool Bn)
    replace hS := hS.re 43 (v := .bool true) rfl (congrArg Value.bool Bn)
    refine v2 hS rfl rfl rfl rfl <| qO hS rfl Tryd.call9 (yU hG K  (hS.st.part 0 [] (by kernel_rfl)) (qy hM) (fun By w hM  hst => qM hS.ev hst.appF rfl fun hS => ?_) (fun v w hk hst => yw (zx (zx (⟨hS.ev.defs, hpan _ _ hk hst.appF.frame⟩)))))
    replace hS : Ss _ _ _ H [] F _ _ := hS
    refine sO hS (pk rfl rfl rfl) rfl fun hS => q9 <| qg ?_
    exact Bt _ _ ⟨By, hS.to [] (by kernel_rfl) ⟨rfl, trivial⟩, hM⟩
   ·replace hS := hS.re 42 (v := .bool false) rfl (congrArg Value.bool Bn)
    replace hS := hS.re 43 (v := .bool false) rfl (congrArg Value.bool Bn)
    refine JG 1 hS rfl fun a w hS => sO hS (pk rfl rfl rfl) rfl fun hS => q9 <| qg ?_
    exact Bt _ _ ⟨false, hS.to [] (by kernel_rfl) ⟨rfl, trivial⟩, hM⟩
  ·intro a w hI
   obtain ⟨Bo, hS, hM⟩ := hI
   rw [zq.j1] at hM
   refine sA hS rfl fun hS => qF <| wp_ret ?_
   exact zJ (rs := [4]) hS rfl rfl (hret Bo _ (zj hM) (hS.st.pick [] (by kernel_rfl)))
end Go.TrydS

