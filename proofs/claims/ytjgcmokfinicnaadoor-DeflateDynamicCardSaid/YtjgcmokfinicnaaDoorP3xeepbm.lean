/- Printed by a program of mine: each Go function answers what its model answers; conditions: what each theorem asks of memory. -/
import Derived.Test.YtjgcmokfinicnaaDoorP2xpilbn
set_option linter.unusedVariables false
set_option linter.unusedSimpArgs false
set_option maxRecDepth 100000
namespace Go.TrydS
open Go Go.Sl Go.Mo Go.Proofs
attribute [local irreducible] qR.wp
theorem yz (K : Nat) : ∀ (d : Nat) {H : xR} {F : List qq} {w : World} {R : Ending → World → Prop} {kr : (List qb) → Prop} {kp : Value → Prop} (hG : Gl H) (Gu : List qb) (GC : Int) (GD : Int) (GG : Int) (GF : qq) (Gv : Option Addr) (Gy : Nat) (GB : List (zv 2)) (GN : qq) (GH : zw (qg GF) Gu GB) (GM : xa 112 (zv.v (sz := 2)) 2 Gv GB Gy GN)
    (hS : St w H [GF, GN] F) (hm : (qc.r K d Gu GC GD GG).wp kr kp)
    (hret : ∀ (Lq : List (zv 2)) (Ln : (List qb)) (Mx : qq) (w : World), kr Ln → (xa 112 (zv.v (sz := 2)) 2 Gv Lq Gy Mx) → (zw (qg GF) Ln Lq) → (Lq.length = GB.length) → St w H [GF, Mx] F → R (.returned (.tuple ⟨[]⟩)) w),
    Calls Tryd.prog 100 ⟨[.slice Gv GB.length Gy, .int .i64 GC, .int .i64 GD, .int .i64 GG, yy 84 [] []]⟩ w R := by
  intro d
  induction d with
  | zero => intro H F w R kr kp hG Gu GC GD GG GF Gv Gy GB GN GH GM hS hm hret; exact (zj hm).elim
  | succ d ih =>
  intro H F w R kr kp hG Gu GC GD GG GF Gv Gy GB GN GH GM hS hm hret
  have hM := hm; clear hm
  rw [qc.r] at hM; rw [qc.b] at hM
  refine enter Tryd.func100 rfl Tryd.ntmps100 rfl hS fun a w hS => ?_
  have NX : ∀ q ∈ GF, q ∈ GF := fun _ h => h
  have Lk : GB.length = GB.length := rfl
  refine zg (fun a w => Ss 220 [] [(0, .slice Gv GB.length Gy), (1, .int .i64 GC), (2, .int .i64 GD), (3, .int .i64 GG), (4, yy 84 [] [])] H [GF, GN] F a w ∧ (qc.j4 K (qc.r K d) Gu GC GD GG).wp kr kp) (fun NY MG => ?_) ?_
  ·refine wp_seq ?_
   refine zB <| sM hS rfl fun hS => sM hS rfl fun hS => sB hS rfl fun hS => sB hS rfl fun hS => qF <| qv hS rfl hM (fun MH hM => ?_) (fun MH hM => ?_)
   ·refine wp_seq ?_
    refine zB <| sM hS rfl fun hS => sA hS rfl fun hS => qF <| qp <| sM hS rfl fun hS => sA hS rfl fun hS => qF <| zg (fun a w => ∃ (Lf : Int), Ss 220 [] [(0, .slice Gv GB.length Gy), (1, .int .i64 GC), (10, .int .i64 Lf)] H [GF, GN] F a w ∧ (qc.j2 K (qc.r K d) Gu GC Lf).wp kr kp) (fun NZ MI => ?_) ?_
    ·refine xw ?_
     refine zk (fun My a w => ∃ (G3 : Int) (Lg : Int), Ss 220 [] [(0, .slice Gv GB.length Gy), (1, .int .i64 GC), (4, yy 84 [] []), (10, .int .i64 G3), (11, .int .i64 Lg)] H [GF, GN] F a w ∧ (qc.l1 K (qc.r K d) Gu GC My G3 Lg).wp kr kp) K ?_ ?_ ?_
     ·exact ⟨GD, GG, hS.to [0, 1] (by kernel_rfl) ⟨rfl, rfl, rfl, rfl, rfl, trivial⟩, hM⟩
     ·intro a w hI; obtain ⟨_, _, _, hM⟩ := hI; exact zj hM
     ·intro My a w hI N0 L0
      obtain ⟨G3, Lg, hS, hM⟩ := hI
      rw [qc.l1] at hM
      refine wp_seq <| qp <| sM hS rfl fun hS => sM hS rfl fun hS => sB hS rfl fun hS => qF <| qv hS rfl hM (fun MJ hM => ?_) (fun MJ hM => ?_)
      ·refine wp_skip ?_
       refine qd <| xw <| qp <| sM hS rfl fun hS => sM hS rfl fun hS => sB hS rfl fun hS => sO hS (vZ rfl Tryd.runUnderlying3 Tryd.runUnderlying39) rfl fun hS => sO hS (shr rfl rfl rfl) rfl fun hS => sO hS (vZ rfl Tryd.runUnderlying39 Tryd.runUnderlying3) rfl fun hS => zz (v := Value.int .i64) (x0 := (wr .i64 (xC .u64 (wr .u64 (qh (G3 + Lg))) (1 : Int)))) hS (xj rfl) rfl fun GR a w hz hS => ?_
       have hM := qC hz hM; clear hz
       refine qF <| wp_seq ?_
       obtain ⟨Lr, hM⟩ := qH hM
       obtain ⟨LH, LI, MK, ML, MM⟩ := GH.get Lr
       obtain ⟨Lt, hM⟩ := qH hM
       obtain ⟨LJ, LK, MN, MO, MP⟩ := GH.get Lt
       refine za (vals := [some (yy 84 [] []), some (.slice Gv GB.length Gy), some (.int .i64 GR), some (xc Gv (Int.toNat GR * 2)), some (.agg ⟨[.int .i64 ((rd Gu GR).often_), .slice LH ((rd Gu GR).symbols_).length LI]⟩), some (.slice Gv GB.length Gy), some (.int .i64 GC), some (xc Gv (Int.toNat GC * 2)), some (.agg ⟨[.int .i64 ((rd Gu GC).often_), .slice LJ ((rd Gu GC).symbols_).length LK]⟩), none, none]) hS xp rfl ?_
       intro l w ho hcl hA hst
       refine jn hA hst ho hcl xv xo 9 [0, 1, 2, 3, 4, 5, 6, 7, 8] rfl rfl rfl rfl rfl (by exact ⟨nM rfl, nM rfl, nM rfl, nQ rfl (by exact qU (xM rfl rfl Tryd.runUnderlying110 Tryd.sizeOf112 (GM.rd (i := 1) rfl) zv.len rfl (GH.inb Lr)) rfl), nQ rfl (by exact qU (qU (yL rfl (GM.rd (i := 1) rfl) zv.len (GH.inb Lr) Tryd.isAgg112 Tryd.sizeOf112 rfl) (congrArg (fun l => Value.agg ⟨l⟩) MK)) rfl), nM rfl, nM rfl, nQ rfl (by exact qU (xM rfl rfl Tryd.runUnderlying110 Tryd.sizeOf112 (GM.rd (i := 1) rfl) zv.len rfl (GH.inb Lt)) rfl), nQ rfl (by exact qU (qU (yL rfl (GM.rd (i := 1) rfl) zv.len (GH.inb Lt) Tryd.isAgg112 Tryd.sizeOf112 rfl) (congrArg (fun l => Value.agg ⟨l⟩) MN)) rfl), trivial⟩) fun D l a w ho hcl hav hpre hm hE hk hA hst => ?_
       have hS := (Ss.mk hE hst).env2 (e' := [(40, yy 84 [] []), (44, .agg ⟨[.int .i64 ((rd Gu GR).often_), .slice LH ((rd Gu GR).symbols_).length LI]⟩), (48, .agg ⟨[.int .i64 ((rd Gu GC).often_), .slice LJ ((rd Gu GC).symbols_).length LK]⟩)]) ⟨rfl, rfl, rfl, trivial⟩
       refine q7 rfl <| vg hS rfl rfl Tryd.call84 (jq hG K (qb.mk ((rd Gu GR).often_) ((rd Gu GR).symbols_)) (qb.mk ((rd Gu GC).often_) ((rd Gu GC).symbols_)) LH LI LJ LK (ML.rdF (i := 0) rfl) MM (MO.rdF (i := 0) rfl) MP (hS.st.part 0 [0, 1] (by kernel_rfl)) (qE hM) (fun L1 w hM  hst => qL hS.ev hst.appF rfl fun hS => ?_))
       replace hS : Ss _ _ _ H [GF, GN] F _ _ := hS
       refine qF ?_
       replace hst := hS.st
       obtain ⟨hcl, hmust, hav2, hA⟩ := dn (vals' := [some (yy 84 [] []), some (.slice Gv GB.length Gy), some (.int .i64 GR), some (xc Gv (Int.toNat GR * 2)), some (.agg ⟨[.int .i64 ((rd Gu GR).often_), .slice LH ((rd Gu GR).symbols_).length LI]⟩), some (.slice Gv GB.length Gy), some (.int .i64 GC), some (xc Gv (Int.toNat GC * 2)), some (.agg ⟨[.int .i64 ((rd Gu GC).often_), .slice LJ ((rd Gu GC).symbols_).length LK]⟩), some (.int .i64 L1), some (.bool (decide (L1 < (0 : Int))))]) 9 [(0, 9), (4, 9), (8, 9), (3, 4), (7, 8), (1, 3), (2, 3), (5, 7), (6, 7)] hA hcl hav hm hpre hk rfl rfl rfl rfl rfl rfl rfl
       clear hm hav
       refine x3 hA hst ho hcl hmust [10] rfl rfl rfl (by exact ⟨nB rfl, trivial⟩) fun a w hS => ?_
       replace hS := hS.env2 (e' := [(0, .slice Gv GB.length Gy), (1, .int .i64 GC), (4, yy 84 [] []), (10, .int .i64 G3), (11, .int .i64 Lg), (12, .int .i64 GR), (50, .bool (decide (L1 < (0 : Int))))]) ⟨rfl, rfl, rfl, rfl, rfl, rfl, rfl, trivial⟩
       refine qd <| qv hS rfl hM (fun MQ hM => ?_) (fun MQ hM => ?_)
       ·refine zB ?_
        refine sM hS rfl fun hS => sB hS rfl fun hS => zz (v := Value.int .i64) (x0 := (qh (GR + (1 : Int)))) hS (xj rfl) rfl fun NN a w hz hS => ?_
        have hM := qC hz hM; clear hz
        refine zc <| zr (qd ?_)
        exact L0 _ _ ⟨NN, Lg, hS.to [0, 1] (by kernel_rfl) ⟨rfl, rfl, rfl, rfl, rfl, trivial⟩, hM⟩
       ·refine zB ?_
        refine sM hS rfl fun hS => sA hS rfl fun hS => zc <| zr (qd ?_)
        exact L0 _ _ ⟨G3, GR, hS.to [0, 1] (by kernel_rfl) ⟨rfl, rfl, rfl, rfl, rfl, trivial⟩, hM⟩
      ·refine wp_exit ?_
       refine qB (qB (qY (qd ?_)))
       exact MI _ _ ⟨G3, hS.to [0, 1] (by kernel_rfl) ⟨rfl, rfl, rfl, trivial⟩, hM⟩
    ·intro a w hI
     obtain ⟨Lf, hS, hM⟩ := hI
     rw [qc.j2] at hM
     refine wp_seq <| qp <| sM hS rfl fun hS => sA hS rfl fun hS => qF <| xw <| zk (fun Mz a w => ∃ (GJ : List (zv 2)) (Gz : (List qb)) (LL : qq) (Gw : Int), Ss 220 [] [(0, .slice Gv GJ.length Gy), (10, .int .i64 Lf), (13, .int .i64 Gw)] H [GF, LL] F a w ∧ (xa 112 (zv.v (sz := 2)) 2 Gv GJ Gy LL) ∧ (zw (qg GF) Gz GJ) ∧ (GJ.length = GB.length) ∧ (qc.l3 K (qc.r K d) Lf Mz Gz Gw).wp kr kp) K ?_ ?_ ?_
     ·exact ⟨GB, Gu, GN, GC, hS.to [0, 1] (by kernel_rfl) ⟨rfl, rfl, rfl, trivial⟩, GM, GH, Lk, hM⟩
     ·intro a w hI; obtain ⟨_, _, _, _, _, _, _, _, hM⟩ := hI; exact zj hM
     ·intro Mz a w hI N1 MR
      obtain ⟨GJ, Gz, LL, Gw, hS, G1, GT, L3, hM⟩ := hI
      rw [qc.l3] at hM
      refine wp_seq <| qp <| sM hS rfl fun hS => sM hS rfl fun hS => sB hS rfl fun hS => sB hS rfl fun hS => qF <| qv hS rfl hM (fun MS hM => ?_) (fun MS hM => ?_)
      ·refine wp_skip ?_
       refine qd <| wp_seq <| xw ?_
       obtain ⟨Lu, hM⟩ := qH hM
       obtain ⟨G4, G5, MT, MU, MV⟩ := GT.get Lu
       obtain ⟨G6, hM⟩ := qH hM
       obtain ⟨G7, G8, MW, MX, MY⟩ := GT.get G6
       refine za (vals := [some (.slice Gv GJ.length Gy), some (.int .i64 Gw), some (.slice Gv GJ.length Gy), some (.int .i64 Gw), some (.int .i64 (qh (Gw + (1 : Int)))), some (.slice Gv GJ.length Gy), some (.int .i64 Gw), some (.int .i64 (qh (Gw + (1 : Int)))), some (xc Gv (Int.toNat (qh (Gw + (1 : Int))) * 2)), some (.agg ⟨[.int .i64 ((rd Gz (qh (Gw + (1 : Int)))).often_), .slice G4 ((rd Gz (qh (Gw + (1 : Int)))).symbols_).length G5]⟩), some (.slice Gv GJ.length Gy), some (.int .i64 Gw), some (xc Gv (Int.toNat Gw * 2)), some (.agg ⟨[.int .i64 ((rd Gz Gw).often_), .slice G7 ((rd Gz Gw).symbols_).length G8]⟩), some (xc Gv (Int.toNat Gw * 2)), none, none, none]) hS xp rfl ?_
       intro l w ho hcl hA hst
       refine jn hA hst ho hcl xv xo 15 [0, 1, 2, 3, 4, 5, 6, 7, 8, 9, 10, 11, 12, 13, 14] rfl rfl rfl rfl rfl (by exact ⟨nM rfl, nM rfl, nM rfl, nM rfl, nB rfl, nM rfl, nM rfl, nB rfl, nQ rfl (by exact qU (xM rfl rfl Tryd.runUnderlying110 Tryd.sizeOf112 (G1.rd (i := 1) rfl) zv.len rfl (GT.inb Lu)) rfl), nQ rfl (by exact qU (qU (yL rfl (G1.rd (i := 1) rfl) zv.len (GT.inb Lu) Tryd.isAgg112 Tryd.sizeOf112 rfl) (congrArg (fun l => Value.agg ⟨l⟩) MT)) rfl), nM rfl, nM rfl, nQ rfl (by exact qU (xM rfl rfl Tryd.runUnderlying110 Tryd.sizeOf112 (G1.rd (i := 1) rfl) zv.len rfl (GT.inb G6)) rfl), nQ rfl (by exact qU (qU (yL rfl (G1.rd (i := 1) rfl) zv.len (GT.inb G6) Tryd.isAgg112 Tryd.sizeOf112 rfl) (congrArg (fun l => Value.agg ⟨l⟩) MW)) rfl), nQ rfl (by exact qU (xM rfl rfl Tryd.runUnderlying110 Tryd.sizeOf112 (G1.rd (i := 1) rfl) zv.len rfl (GT.inb G6)) rfl), trivial⟩) fun D l a w ho hcl hav hpre hm hE hk hA hst => ?_
       have hS := (Ss.mk hE hst).env2 (e' := [(70, .agg ⟨[.int .i64 ((rd Gz (qh (Gw + (1 : Int)))).often_), .slice G4 ((rd Gz (qh (Gw + (1 : Int)))).symbols_).length G5]⟩), (75, xc Gv (Int.toNat Gw * 2))]) ⟨rfl, rfl, trivial⟩
       refine q7 rfl <| Qt (i := Gw) (sz := 2) 1 (⟨[.int .i64 ((rd Gz (qh (Gw + (1 : Int)))).often_), .slice G4 ((rd Gz (qh (Gw + (1 : Int)))).symbols_).length G5], by simp, by simp [Value.oneCell']⟩ : zv 2) hS rfl rfl G1 rfl Tryd.sizeOf112 rfl (GT.inb G6) fun L4 w N2 hz L5 hS => ?_
       obtain ⟨MZ, hzm⟩ := jh (Gz.set (Int.toNat Gw) (qb.mk ((rd Gz (qh (Gw + (1 : Int)))).often_) ((rd Gz (qh (Gw + (1 : Int)))).symbols_)))
       replace hM := qC hzm hM
       have Ll := zw.set (x := (qb.mk ((rd Gz (qh (Gw + (1 : Int)))).often_) ((rd Gz (qh (Gw + (1 : Int)))).symbols_))) (r := (⟨[.int .i64 ((rd Gz (qh (Gw + (1 : Int)))).often_), .slice G4 ((rd Gz (qh (Gw + (1 : Int)))).symbols_).length G5], by simp, by simp [Value.oneCell']⟩ : zv 2)) (Int.toNat Gw) GT (show qg GF _ _ from ⟨G4, G5, rfl, MU, MV⟩)
       have Lv : L4.length = GJ.length := by rw [hz]; exact List.length_set ..
       rw [← hz, ← hzm] at Ll; clear hz hzm
       have M0 := Eq.trans Lv L3
       refine qF ?_
       replace hst := hS.st
       obtain ⟨L6, hM⟩ := qH hM
       obtain ⟨hcl, hmust, hav2, hA⟩ := ZV (vals' := [some (.slice Gv GJ.length Gy), some (.int .i64 Gw), some (.slice Gv GJ.length Gy), some (.int .i64 Gw), some (.int .i64 (qh (Gw + (1 : Int)))), some (.slice Gv GJ.length Gy), some (.int .i64 Gw), some (.int .i64 (qh (Gw + (1 : Int)))), some (xc Gv (Int.toNat (qh (Gw + (1 : Int))) * 2)), some (.agg ⟨[.int .i64 ((rd Gz (qh (Gw + (1 : Int)))).often_), .slice G4 ((rd Gz (qh (Gw + (1 : Int)))).symbols_).length G5]⟩), some (.slice Gv GJ.length Gy), some (.int .i64 Gw), some (xc Gv (Int.toNat Gw * 2)), some (.agg ⟨[.int .i64 ((rd Gz Gw).often_), .slice G7 ((rd Gz Gw).symbols_).length G8]⟩), some (xc Gv (Int.toNat Gw * 2)), some undef, some (xc Gv (Int.toNat (qh (Gw + (1 : Int))) * 2)), none]) 15 [(0, 15), (1, 15), (5, 15), (6, 15), (7, 15), (8, 15), (9, 15), (13, 15), (14, 15), (12, 13), (10, 12), (11, 12)] hA hcl hav hm hpre rfl rfl rfl rfl rfl
       clear hm hav
       refine jn hA hst ho hcl hav2 hmust 17 [2, 3, 4, 16] rfl rfl rfl rfl rfl (by exact ⟨nM rfl, nM rfl, nB rfl, nQ rfl (by exact qU (xM (Yw Lv rfl) rfl Tryd.runUnderlying110 Tryd.sizeOf112 (L5.rd (i := 1) rfl) zv.len rfl (Ll.inb L6)) rfl), trivial⟩) fun D l a w ho hcl hav hpre hm hE hk hA hst => ?_
       have hS := (Ss.mk hE hst).env2 (e' := [(74, .agg ⟨[.int .i64 ((rd Gz Gw).often_), .slice G7 ((rd Gz Gw).symbols_).length G8]⟩), (76, xc Gv (Int.toNat (qh (Gw + (1 : Int))) * 2))]) ⟨rfl, rfl, trivial⟩
       refine q7 rfl <| Qt (i := (qh (Gw + (1 : Int)))) (sz := 2) 1 (⟨[.int .i64 ((rd Gz Gw).often_), .slice G7 ((rd Gz Gw).symbols_).length G8], by simp, by simp [Value.oneCell']⟩ : zv 2) hS rfl rfl L5 rfl Tryd.sizeOf112 rfl (Ll.inb L6) fun Lw w NO hz M3 hS => ?_
       obtain ⟨M4, hzm⟩ := jh (MZ.set (Int.toNat (qh (Gw + (1 : Int)))) (qb.mk ((rd Gz Gw).often_) ((rd Gz Gw).symbols_)))
       replace hM := qC hzm hM
       have L7 := zw.set (x := (qb.mk ((rd Gz Gw).often_) ((rd Gz Gw).symbols_))) (r := (⟨[.int .i64 ((rd Gz Gw).often_), .slice G7 ((rd Gz Gw).symbols_).length G8], by simp, by simp [Value.oneCell']⟩ : zv 2)) (Int.toNat (qh (Gw + (1 : Int)))) Ll (show qg GF _ _ from ⟨G7, G8, rfl, MX, MY⟩)
       have L8 : Lw.length = L4.length := by rw [hz]; exact List.length_set ..
       rw [← hz, ← hzm] at L7; clear hz hzm
       have M5 := Eq.trans L8 M0
       refine qF ?_
       replace hst := hS.st
       obtain ⟨hcl, hmust, hav2, hA⟩ := ZV (vals' := [some (.slice Gv GJ.length Gy), some (.int .i64 Gw), some (.slice Gv GJ.length Gy), some (.int .i64 Gw), some (.int .i64 (qh (Gw + (1 : Int)))), some (.slice Gv GJ.length Gy), some (.int .i64 Gw), some (.int .i64 (qh (Gw + (1 : Int)))), some (xc Gv (Int.toNat (qh (Gw + (1 : Int))) * 2)), some (.agg ⟨[.int .i64 ((rd Gz (qh (Gw + (1 : Int)))).often_), .slice G4 ((rd Gz (qh (Gw + (1 : Int)))).symbols_).length G5]⟩), some (.slice Gv GJ.length Gy), some (.int .i64 Gw), some (xc Gv (Int.toNat Gw * 2)), some (.agg ⟨[.int .i64 ((rd Gz Gw).often_), .slice G7 ((rd Gz Gw).symbols_).length G8]⟩), some (xc Gv (Int.toNat Gw * 2)), some undef, some (xc Gv (Int.toNat (qh (Gw + (1 : Int))) * 2)), some undef]) 17 [(0, 17), (1, 17), (2, 17), (3, 17), (4, 17), (5, 17), (6, 17), (7, 17), (8, 17), (9, 17), (10, 17), (11, 17), (12, 17), (13, 17), (14, 17), (15, 17), (16, 17)] hA hcl hav hm hpre rfl rfl rfl rfl rfl
       clear hm hav
       refine x3 hA hst ho hcl hmust [] rfl rfl rfl trivial fun a w hS => ?_
       replace hS := hS.env2 (e' := [(0, .slice Gv Lw.length Gy), (10, .int .i64 Lf), (13, .int .i64 Gw)]) ⟨(YT (u := .slice Gv GJ.length Gy) rfl (by rw [L8, Lv])), rfl, rfl, trivial⟩
       refine zr (qd ?_)
       refine zB <| sM hS rfl fun hS => sB hS rfl fun hS => zz (v := Value.int .i64) (x0 := (qh (Gw + (1 : Int)))) hS (xj rfl) rfl fun M6 a w hz hS => ?_
       have hM := qC hz hM; clear hz
       refine zc <| qd ?_
       exact MR _ _ ⟨Lw, M4, NO, M6, hS.to [0, 1] (by kernel_rfl) ⟨rfl, rfl, rfl, trivial⟩, M3, L7, M5, hM⟩
      ·refine wp_exit ?_
       refine qB (qB (qY (qd ?_)))
       refine wp_ret <| qz ?_
       exact zm (rs := []) hS rfl rfl (hret GJ Gz LL _ (qV hM) G1 GT L3 (hS.st.pick [0, 1] (by kernel_rfl)))
   ·refine wp_skip ?_
    refine qd ?_
    exact MG _ _ ⟨hS.to [0, 1] (by kernel_rfl) ⟨rfl, rfl, rfl, rfl, rfl, trivial⟩, hM⟩
  ·intro a w hI
   obtain ⟨hS, hM⟩ := hI
   rw [qc.j4] at hM
   refine zg (fun a w => Ss 220 [] [(0, .slice Gv GB.length Gy), (1, .int .i64 GC), (2, .int .i64 GD), (3, .int .i64 GG), (4, yy 84 [] [])] H [GF, GN] F a w ∧ (qc.j8 K (qc.r K d) Gu GC GD GG).wp kr kp) (fun N3 M7 => ?_) ?_
   ·refine wp_seq ?_
    refine zB <| sM hS rfl fun hS => sM hS rfl fun hS => sB hS rfl fun hS => sB hS rfl fun hS => qF <| qv hS rfl hM (fun M8 hM => ?_) (fun M8 hM => ?_)
    ·refine wp_seq ?_
     refine zB <| sM hS rfl fun hS => sA hS rfl fun hS => qF <| qp <| sM hS rfl fun hS => sA hS rfl fun hS => qF <| zg (fun a w => ∃ (Lh : Int), Ss 220 [] [(0, .slice Gv GB.length Gy), (2, .int .i64 GD), (14, .int .i64 Lh)] H [GF, GN] F a w ∧ (qc.j6 K (qc.r K d) Gu GD Lh).wp kr kp) (fun N4 M9 => ?_) ?_
     ·refine xw ?_
      refine zk (fun MA a w => ∃ (G9 : Int) (Li : Int), Ss 220 [] [(0, .slice Gv GB.length Gy), (2, .int .i64 GD), (4, yy 84 [] []), (14, .int .i64 G9), (15, .int .i64 Li)] H [GF, GN] F a w ∧ (qc.l5 K (qc.r K d) Gu GD MA G9 Li).wp kr kp) K ?_ ?_ ?_
      ·exact ⟨GC, GD, hS.to [0, 1] (by kernel_rfl) ⟨rfl, rfl, rfl, rfl, rfl, trivial⟩, hM⟩
      ·intro a w hI; obtain ⟨_, _, _, hM⟩ := hI; exact zj hM
      ·intro MA a w hI N5 L9
       obtain ⟨G9, Li, hS, hM⟩ := hI
       rw [qc.l5] at hM
       refine wp_seq <| qp <| sM hS rfl fun hS => sM hS rfl fun hS => sB hS rfl fun hS => qF <| qv hS rfl hM (fun Na hM => ?_) (fun Na hM => ?_)
       ·refine wp_skip ?_
        refine qd <| xw <| qp <| sM hS rfl fun hS => sM hS rfl fun hS => sB hS rfl fun hS => sO hS (vZ rfl Tryd.runUnderlying3 Tryd.runUnderlying39) rfl fun hS => sO hS (shr rfl rfl rfl) rfl fun hS => sO hS (vZ rfl Tryd.runUnderlying39 Tryd.runUnderlying3) rfl fun hS => zz (v := Value.int .i64) (x0 := (wr .i64 (xC .u64 (wr .u64 (qh (G9 + Li))) (1 : Int)))) hS (xj rfl) rfl fun GS a w hz hS => ?_
        have hM := qC hz hM; clear hz
        refine qF <| wp_seq ?_
        obtain ⟨Lx, hM⟩ := qH hM
        obtain ⟨LM, LN, Nb, Nc, Nd⟩ := GH.get Lx
        obtain ⟨Ly, hM⟩ := qH hM
        obtain ⟨LO, LP, Nf, Ng, Nh⟩ := GH.get Ly
        refine za (vals := [some (yy 84 [] []), some (.slice Gv GB.length Gy), some (.int .i64 GD), some (xc Gv (Int.toNat GD * 2)), some (.agg ⟨[.int .i64 ((rd Gu GD).often_), .slice LM ((rd Gu GD).symbols_).length LN]⟩), some (.slice Gv GB.length Gy), some (.int .i64 GS), some (xc Gv (Int.toNat GS * 2)), some (.agg ⟨[.int .i64 ((rd Gu GS).often_), .slice LO ((rd Gu GS).symbols_).length LP]⟩), none, none, none]) hS xp rfl ?_
        intro l w ho hcl hA hst
        refine jn hA hst ho hcl xv xo 9 [0, 1, 2, 3, 4, 5, 6, 7, 8] rfl rfl rfl rfl rfl (by exact ⟨nM rfl, nM rfl, nM rfl, nQ rfl (by exact qU (xM rfl rfl Tryd.runUnderlying110 Tryd.sizeOf112 (GM.rd (i := 1) rfl) zv.len rfl (GH.inb Lx)) rfl), nQ rfl (by exact qU (qU (yL rfl (GM.rd (i := 1) rfl) zv.len (GH.inb Lx) Tryd.isAgg112 Tryd.sizeOf112 rfl) (congrArg (fun l => Value.agg ⟨l⟩) Nb)) rfl), nM rfl, nM rfl, nQ rfl (by exact qU (xM rfl rfl Tryd.runUnderlying110 Tryd.sizeOf112 (GM.rd (i := 1) rfl) zv.len rfl (GH.inb Ly)) rfl), nQ rfl (by exact qU (qU (yL rfl (GM.rd (i := 1) rfl) zv.len (GH.inb Ly) Tryd.isAgg112 Tryd.sizeOf112 rfl) (congrArg (fun l => Value.agg ⟨l⟩) Nf)) rfl), trivial⟩) fun D l a w ho hcl hav hpre hm hE hk hA hst => ?_
        have hS := (Ss.mk hE hst).env2 (e' := [(92, yy 84 [] []), (96, .agg ⟨[.int .i64 ((rd Gu GD).often_), .slice LM ((rd Gu GD).symbols_).length LN]⟩), (100, .agg ⟨[.int .i64 ((rd Gu GS).often_), .slice LO ((rd Gu GS).symbols_).length LP]⟩)]) ⟨rfl, rfl, rfl, trivial⟩
        refine q7 rfl <| vg hS rfl rfl Tryd.call84 (jq hG K (qb.mk ((rd Gu GD).often_) ((rd Gu GD).symbols_)) (qb.mk ((rd Gu GS).often_) ((rd Gu GS).symbols_)) LM LN LO LP (Nc.rdF (i := 0) rfl) Nd (Ng.rdF (i := 0) rfl) Nh (hS.st.part 0 [0, 1] (by kernel_rfl)) (qE hM) (fun LQ w hM  hst => qL hS.ev hst.appF rfl fun hS => ?_))
        replace hS : Ss _ _ _ H [GF, GN] F _ _ := hS
        refine qF ?_
        replace hst := hS.st
        obtain ⟨hcl, hmust, hav2, hA⟩ := dn (vals' := [some (yy 84 [] []), some (.slice Gv GB.length Gy), some (.int .i64 GD), some (xc Gv (Int.toNat GD * 2)), some (.agg ⟨[.int .i64 ((rd Gu GD).often_), .slice LM ((rd Gu GD).symbols_).length LN]⟩), some (.slice Gv GB.length Gy), some (.int .i64 GS), some (xc Gv (Int.toNat GS * 2)), some (.agg ⟨[.int .i64 ((rd Gu GS).often_), .slice LO ((rd Gu GS).symbols_).length LP]⟩), some (.int .i64 LQ), some (.bool (decide (LQ < (0 : Int)))), some (.bool (!(decide (LQ < (0 : Int)))))]) 9 [(0, 9), (4, 9), (8, 9), (3, 4), (7, 8), (1, 3), (2, 3), (5, 7), (6, 7)] hA hcl hav hm hpre hk rfl rfl rfl rfl rfl rfl rfl
        clear hm hav
        refine x3 hA hst ho hcl hmust [10, 11] rfl rfl rfl (by exact ⟨nB rfl, nQ rfl (by exact qU (un rfl rfl) rfl), trivial⟩) fun a w hS => ?_
        replace hS := hS.env2 (e' := [(0, .slice Gv GB.length Gy), (2, .int .i64 GD), (4, yy 84 [] []), (14, .int .i64 G9), (15, .int .i64 Li), (16, .int .i64 GS), (103, .bool (!(decide (LQ < (0 : Int)))))]) ⟨rfl, rfl, rfl, rfl, rfl, rfl, rfl, trivial⟩
        refine qd <| qv hS rfl hM (fun Ni hM => ?_) (fun Ni hM => ?_)
        ·refine zB ?_
         refine sM hS rfl fun hS => sB hS rfl fun hS => zz (v := Value.int .i64) (x0 := (qh (GS + (1 : Int)))) hS (xj rfl) rfl fun NP a w hz hS => ?_
         have hM := qC hz hM; clear hz
         refine zc <| zr (qd ?_)
         exact L9 _ _ ⟨NP, Li, hS.to [0, 1] (by kernel_rfl) ⟨rfl, rfl, rfl, rfl, rfl, trivial⟩, hM⟩
        ·refine zB ?_
         refine sM hS rfl fun hS => sA hS rfl fun hS => zc <| zr (qd ?_)
         exact L9 _ _ ⟨G9, GS, hS.to [0, 1] (by kernel_rfl) ⟨rfl, rfl, rfl, rfl, rfl, trivial⟩, hM⟩
       ·refine wp_exit ?_
        refine qB (qB (qY (qd ?_)))
        exact M9 _ _ ⟨G9, hS.to [0, 1] (by kernel_rfl) ⟨rfl, rfl, rfl, trivial⟩, hM⟩
     ·intro a w hI
      obtain ⟨Lh, hS, hM⟩ := hI
      rw [qc.j6] at hM
      refine wp_seq <| qp <| sM hS rfl fun hS => sA hS rfl fun hS => qF <| xw <| zk (fun MB a w => ∃ (GK : List (zv 2)) (GA : (List qb)) (LR : qq) (Gx : Int), Ss 220 [] [(0, .slice Gv GK.length Gy), (14, .int .i64 Lh), (17, .int .i64 Gx)] H [GF, LR] F a w ∧ (xa 112 (zv.v (sz := 2)) 2 Gv GK Gy LR) ∧ (zw (qg GF) GA GK) ∧ (GK.length = GB.length) ∧ (qc.l7 K (qc.r K d) Lh MB GA Gx).wp kr kp) K ?_ ?_ ?_
      ·exact ⟨GB, Gu, GN, GD, hS.to [0, 1] (by kernel_rfl) ⟨rfl, rfl, rfl, trivial⟩, GM, GH, Lk, hM⟩
      ·intro a w hI; obtain ⟨_, _, _, _, _, _, _, _, hM⟩ := hI; exact zj hM
      ·intro MB a w hI N6 Nj
       obtain ⟨GK, GA, LR, Gx, hS, G2, GU, Ma, hM⟩ := hI
       rw [qc.l7] at hM
       refine wp_seq <| qp <| sM hS rfl fun hS => sM hS rfl fun hS => sB hS rfl fun hS => qF <| qv hS rfl hM (fun Nk hM => ?_) (fun Nk hM => ?_)
       ·refine wp_skip ?_
        refine qd <| wp_seq <| xw ?_
        obtain ⟨Lz, hM⟩ := qH hM
        obtain ⟨La, Lb, Nl, Nm, Nn⟩ := GU.get Lz
        obtain ⟨Lc, hM⟩ := qH hM
        obtain ⟨Ld, Le, No, Np, Nq⟩ := GU.get Lc
        refine za (vals := [some (.slice Gv GK.length Gy), some (.int .i64 Gx), some (.slice Gv GK.length Gy), some (.int .i64 Gx), some (.int .i64 (qh (Gx - (1 : Int)))), some (.slice Gv GK.length Gy), some (.int .i64 Gx), some (.int .i64 (qh (Gx - (1 : Int)))), some (xc Gv (Int.toNat (qh (Gx - (1 : Int))) * 2)), some (.agg ⟨[.int .i64 ((rd GA (qh (Gx - (1 : Int)))).often_), .slice La ((rd GA (qh (Gx - (1 : Int)))).symbols_).length Lb]⟩), some (.slice Gv GK.length Gy), some (.int .i64 Gx), some (xc Gv (Int.toNat Gx * 2)), some (.agg ⟨[.int .i64 ((rd GA Gx).often_), .slice Ld ((rd GA Gx).symbols_).length Le]⟩), some (xc Gv (Int.toNat Gx * 2)), none, none, none]) hS xp rfl ?_
        intro l w ho hcl hA hst
        refine jn hA hst ho hcl xv xo 15 [0, 1, 2, 3, 4, 5, 6, 7, 8, 9, 10, 11, 12, 13, 14] rfl rfl rfl rfl rfl (by exact ⟨nM rfl, nM rfl, nM rfl, nM rfl, nB rfl, nM rfl, nM rfl, nB rfl, nQ rfl (by exact qU (xM rfl rfl Tryd.runUnderlying110 Tryd.sizeOf112 (G2.rd (i := 1) rfl) zv.len rfl (GU.inb Lz)) rfl), nQ rfl (by exact qU (qU (yL rfl (G2.rd (i := 1) rfl) zv.len (GU.inb Lz) Tryd.isAgg112 Tryd.sizeOf112 rfl) (congrArg (fun l => Value.agg ⟨l⟩) Nl)) rfl), nM rfl, nM rfl, nQ rfl (by exact qU (xM rfl rfl Tryd.runUnderlying110 Tryd.sizeOf112 (G2.rd (i := 1) rfl) zv.len rfl (GU.inb Lc)) rfl), nQ rfl (by exact qU (qU (yL rfl (G2.rd (i := 1) rfl) zv.len (GU.inb Lc) Tryd.isAgg112 Tryd.sizeOf112 rfl) (congrArg (fun l => Value.agg ⟨l⟩) No)) rfl), nQ rfl (by exact qU (xM rfl rfl Tryd.runUnderlying110 Tryd.sizeOf112 (G2.rd (i := 1) rfl) zv.len rfl (GU.inb Lc)) rfl), trivial⟩) fun D l a w ho hcl hav hpre hm hE hk hA hst => ?_
        have hS := (Ss.mk hE hst).env2 (e' := [(122, .agg ⟨[.int .i64 ((rd GA (qh (Gx - (1 : Int)))).often_), .slice La ((rd GA (qh (Gx - (1 : Int)))).symbols_).length Lb]⟩), (127, xc Gv (Int.toNat Gx * 2))]) ⟨rfl, rfl, trivial⟩
        refine q7 rfl <| Qt (i := Gx) (sz := 2) 1 (⟨[.int .i64 ((rd GA (qh (Gx - (1 : Int)))).often_), .slice La ((rd GA (qh (Gx - (1 : Int)))).symbols_).length Lb], by simp, by simp [Value.oneCell']⟩ : zv 2) hS rfl rfl G2 rfl Tryd.sizeOf112 rfl (GU.inb Lc) fun Mb w N7 hz Mc hS => ?_
        obtain ⟨Nr, hzm⟩ := jh (GA.set (Int.toNat Gx) (qb.mk ((rd GA (qh (Gx - (1 : Int)))).often_) ((rd GA (qh (Gx - (1 : Int)))).symbols_)))
        replace hM := qC hzm hM
        have Lm := zw.set (x := (qb.mk ((rd GA (qh (Gx - (1 : Int)))).often_) ((rd GA (qh (Gx - (1 : Int)))).symbols_))) (r := (⟨[.int .i64 ((rd GA (qh (Gx - (1 : Int)))).often_), .slice La ((rd GA (qh (Gx - (1 : Int)))).symbols_).length Lb], by simp, by simp [Value.oneCell']⟩ : zv 2)) (Int.toNat Gx) GU (show qg GF _ _ from ⟨La, Lb, rfl, Nm, Nn⟩)
        have LA : Mb.length = GK.length := by rw [hz]; exact List.length_set ..
        rw [← hz, ← hzm] at Lm; clear hz hzm
        have Ns := Eq.trans LA Ma
        refine qF ?_
        replace hst := hS.st
        obtain ⟨Md, hM⟩ := qH hM
        obtain ⟨hcl, hmust, hav2, hA⟩ := ZV (vals' := [some (.slice Gv GK.length Gy), some (.int .i64 Gx), some (.slice Gv GK.length Gy), some (.int .i64 Gx), some (.int .i64 (qh (Gx - (1 : Int)))), some (.slice Gv GK.length Gy), some (.int .i64 Gx), some (.int .i64 (qh (Gx - (1 : Int)))), some (xc Gv (Int.toNat (qh (Gx - (1 : Int))) * 2)), some (.agg ⟨[.int .i64 ((rd GA (qh (Gx - (1 : Int)))).often_), .slice La ((rd GA (qh (Gx - (1 : Int)))).symbols_).length Lb]⟩), some (.slice Gv GK.length Gy), some (.int .i64 Gx), some (xc Gv (Int.toNat Gx * 2)), some (.agg ⟨[.int .i64 ((rd GA Gx).often_), .slice Ld ((rd GA Gx).symbols_).length Le]⟩), some (xc Gv (Int.toNat Gx * 2)), some undef, some (xc Gv (Int.toNat (qh (Gx - (1 : Int))) * 2)), none]) 15 [(0, 15), (1, 15), (5, 15), (6, 15), (7, 15), (8, 15), (9, 15), (13, 15), (14, 15), (12, 13), (10, 12), (11, 12)] hA hcl hav hm hpre rfl rfl rfl rfl rfl
        clear hm hav
        refine jn hA hst ho hcl hav2 hmust 17 [2, 3, 4, 16] rfl rfl rfl rfl rfl (by exact ⟨nM rfl, nM rfl, nB rfl, nQ rfl (by exact qU (xM (Yw LA rfl) rfl Tryd.runUnderlying110 Tryd.sizeOf112 (Mc.rd (i := 1) rfl) zv.len rfl (Lm.inb Md)) rfl), trivial⟩) fun D l a w ho hcl hav hpre hm hE hk hA hst => ?_
        have hS := (Ss.mk hE hst).env2 (e' := [(126, .agg ⟨[.int .i64 ((rd GA Gx).often_), .slice Ld ((rd GA Gx).symbols_).length Le]⟩), (128, xc Gv (Int.toNat (qh (Gx - (1 : Int))) * 2))]) ⟨rfl, rfl, trivial⟩
        refine q7 rfl <| Qt (i := (qh (Gx - (1 : Int)))) (sz := 2) 1 (⟨[.int .i64 ((rd GA Gx).often_), .slice Ld ((rd GA Gx).symbols_).length Le], by simp, by simp [Value.oneCell']⟩ : zv 2) hS rfl rfl Mc rfl Tryd.sizeOf112 rfl (Lm.inb Md) fun LB w NQ hz Nt hS => ?_
        obtain ⟨Nu, hzm⟩ := jh (Nr.set (Int.toNat (qh (Gx - (1 : Int)))) (qb.mk ((rd GA Gx).often_) ((rd GA Gx).symbols_)))
        replace hM := qC hzm hM
        have Me := zw.set (x := (qb.mk ((rd GA Gx).often_) ((rd GA Gx).symbols_))) (r := (⟨[.int .i64 ((rd GA Gx).often_), .slice Ld ((rd GA Gx).symbols_).length Le], by simp, by simp [Value.oneCell']⟩ : zv 2)) (Int.toNat (qh (Gx - (1 : Int)))) Lm (show qg GF _ _ from ⟨Ld, Le, rfl, Np, Nq⟩)
        have Mf : LB.length = Mb.length := by rw [hz]; exact List.length_set ..
        rw [← hz, ← hzm] at Me; clear hz hzm
        have Nv := Eq.trans Mf Ns
        refine qF ?_
        replace hst := hS.st
        obtain ⟨hcl, hmust, hav2, hA⟩ := ZV (vals' := [some (.slice Gv GK.length Gy), some (.int .i64 Gx), some (.slice Gv GK.length Gy), some (.int .i64 Gx), some (.int .i64 (qh (Gx - (1 : Int)))), some (.slice Gv GK.length Gy), some (.int .i64 Gx), some (.int .i64 (qh (Gx - (1 : Int)))), some (xc Gv (Int.toNat (qh (Gx - (1 : Int))) * 2)), some (.agg ⟨[.int .i64 ((rd GA (qh (Gx - (1 : Int)))).often_), .slice La ((rd GA (qh (Gx - (1 : Int)))).symbols_).length Lb]⟩), some (.slice Gv GK.length Gy), some (.int .i64 Gx), some (xc Gv (Int.toNat Gx * 2)), some (.agg ⟨[.int .i64 ((rd GA Gx).often_), .slice Ld ((rd GA Gx).symbols_).length Le]⟩), some (xc Gv (Int.toNat Gx * 2)), some undef, some (xc Gv (Int.toNat (qh (Gx - (1 : Int))) * 2)), some undef]) 17 [(0, 17), (1, 17), (2, 17), (3, 17), (4, 17), (5, 17), (6, 17), (7, 17), (8, 17), (9, 17), (10, 17), (11, 17), (12, 17), (13, 17), (14, 17), (15, 17), (16, 17)] hA hcl hav hm hpre rfl rfl rfl rfl rfl
        clear hm hav
        refine x3 hA hst ho hcl hmust [] rfl rfl rfl trivial fun a w hS => ?_
        replace hS := hS.env2 (e' := [(0, .slice Gv LB.length Gy), (14, .int .i64 Lh), (17, .int .i64 Gx)]) ⟨(YT (u := .slice Gv GK.length Gy) rfl (by rw [Mf, LA])), rfl, rfl, trivial⟩
        refine zr (qd ?_)
        refine zB <| sM hS rfl fun hS => sB hS rfl fun hS => zz (v := Value.int .i64) (x0 := (qh (Gx - (1 : Int)))) hS (xj rfl) rfl fun Nw a w hz hS => ?_
        have hM := qC hz hM; clear hz
        refine zc <| qd ?_
        exact Nj _ _ ⟨LB, Nu, NQ, Nw, hS.to [0, 1] (by kernel_rfl) ⟨rfl, rfl, rfl, trivial⟩, Nt, Me, Nv, hM⟩
       ·refine wp_exit ?_
        refine qB (qB (qY (qd ?_)))
        refine wp_ret <| qz ?_
        exact zm (rs := []) hS rfl rfl (hret GK GA LR _ (qV hM) G2 GU Ma (hS.st.pick [0, 1] (by kernel_rfl)))
    ·refine wp_skip ?_
     refine qd ?_
     exact M7 _ _ ⟨hS.to [0, 1] (by kernel_rfl) ⟨rfl, rfl, rfl, rfl, rfl, trivial⟩, hM⟩
   ·intro a w hI
    obtain ⟨hS, hM⟩ := hI
    rw [qc.j8] at hM
    refine qp <| sM hS rfl fun hS => sM hS rfl fun hS => sB hS rfl fun hS => sO hS (vZ rfl Tryd.runUnderlying3 Tryd.runUnderlying39) rfl fun hS => sO hS (shr rfl rfl rfl) rfl fun hS => sO hS (vZ rfl Tryd.runUnderlying39 Tryd.runUnderlying3) rfl fun hS => zz (v := Value.int .i64) (x0 := (wr .i64 (xC .u64 (wr .u64 (qh (GC + GG))) (1 : Int)))) hS (xj rfl) rfl fun GI a w hz hS => ?_
    have hM := qC hz hM; clear hz
    refine qF <| qp <| sM hS rfl fun hS => sM hS rfl fun hS => sB hS rfl fun hS => zz (v := Value.int .i64) (x0 := (qh (GI + GD))) hS (xj rfl) rfl fun GV a w hz hS => ?_
    have hM := qC hz hM; clear hz
    refine qF <| qp <| sA hS rfl fun hS => sA hS rfl fun hS => qF <| zg (fun a w => ∃ (G0 : Int) (LS : Int), Ss 220 [] [(0, .slice Gv GB.length Gy), (1, .int .i64 GC), (2, .int .i64 GD), (3, .int .i64 GG), (4, yy 84 [] []), (18, .int .i64 GI), (19, .int .i64 GV), (20, .int .i64 G0), (21, .int .i64 LS)] H [GF, GN] F a w ∧ (qc.j9 K (qc.r K d) Gu GC GD GG GI GV G0 LS).wp kr kp) (fun N8 Mg => ?_) ?_
    ·refine wp_seq ?_
     refine zB <| sM hS rfl fun hS => sM hS rfl fun hS => sB hS rfl fun hS => qF <| qv hS rfl hM (fun Nx hM => ?_) (fun Nx hM => ?_)
     ·refine wp_seq ?_
      refine zB <| sM hS rfl fun hS => sM hS rfl fun hS => sB hS rfl fun hS => zz (v := Value.int .i64) (x0 := (qh (GV - GG))) hS (xj rfl) rfl fun LY a w hz hS => ?_
      have hM := qC hz hM; clear hz
      refine qF <| zB <| sM hS rfl fun hS => sA hS rfl fun hS => zc <| qd ?_
      exact Mg _ _ ⟨LY, GI, hS.to [0, 1] (by kernel_rfl) ⟨rfl, rfl, rfl, rfl, rfl, rfl, rfl, rfl, rfl, trivial⟩, hM⟩
     ·refine wp_seq ?_
      refine zB <| sM hS rfl fun hS => sA hS rfl fun hS => qF <| zB <| sM hS rfl fun hS => sA hS rfl fun hS => zc <| qd ?_
      exact Mg _ _ ⟨GC, GD, hS.to [0, 1] (by kernel_rfl) ⟨rfl, rfl, rfl, rfl, rfl, rfl, rfl, rfl, rfl, trivial⟩, hM⟩
    ·intro a w hI
     obtain ⟨G0, LS, hS, hM⟩ := hI
     rw [qc.j9] at hM
     refine qp <| sM hS rfl fun hS => sB hS rfl fun hS => zz (v := Value.int .i64) (x0 := (qh (GV - (1 : Int)))) hS (xj rfl) rfl fun GQ a w hz hS => ?_
     have hM := qC hz hM; clear hz
     refine qF <| zg (fun a w => ∃ (GL : Int), Ss 220 [] [(0, .slice Gv GB.length Gy), (1, .int .i64 GC), (2, .int .i64 GD), (3, .int .i64 GG), (4, yy 84 [] []), (18, .int .i64 GI), (19, .int .i64 GV), (20, .int .i64 GL)] H [GF, GN] F a w ∧ (qc.j11 K (qc.r K d) Gu GC GD GG GI GV GL).wp kr kp) (fun N9 Ny => ?_) ?_
     ·refine xw ?_
      refine zk (fun MC a w => ∃ (GP : Int) (Lj : Int), Ss 220 [] [(0, .slice Gv GB.length Gy), (1, .int .i64 GC), (2, .int .i64 GD), (3, .int .i64 GG), (4, yy 84 [] []), (18, .int .i64 GI), (19, .int .i64 GV), (20, .int .i64 GP), (21, .int .i64 Lj), (22, .int .i64 GQ)] H [GF, GN] F a w ∧ (qc.l10 K (qc.r K d) Gu GC GD GG GI GV GQ MC GP Lj).wp kr kp) K ?_ ?_ ?_
      ·exact ⟨G0, LS, hS.to [0, 1] (by kernel_rfl) ⟨rfl, rfl, rfl, rfl, rfl, rfl, rfl, rfl, rfl, rfl, trivial⟩, hM⟩
      ·intro a w hI; obtain ⟨_, _, _, hM⟩ := hI; exact zj hM
      ·intro MC a w hI Pa Mh
       obtain ⟨GP, Lj, hS, hM⟩ := hI
       rw [qc.l10] at hM
       refine wp_seq <| qp <| sM hS rfl fun hS => sM hS rfl fun hS => sB hS rfl fun hS => qF <| qv hS rfl hM (fun Nz hM => ?_) (fun Nz hM => ?_)
       ·refine wp_skip ?_
        refine qd <| xw <| qp <| sM hS rfl fun hS => sM hS rfl fun hS => sB hS rfl fun hS => sO hS (vZ rfl Tryd.runUnderlying3 Tryd.runUnderlying39) rfl fun hS => sO hS (shr rfl rfl rfl) rfl fun hS => sO hS (vZ rfl Tryd.runUnderlying39 Tryd.runUnderlying3) rfl fun hS => zz (v := Value.int .i64) (x0 := (wr .i64 (xC .u64 (wr .u64 (qh (GP + Lj))) (1 : Int)))) hS (xj rfl) rfl fun GE a w hz hS => ?_
        have hM := qC hz hM; clear hz
        refine qF <| wp_seq ?_
        obtain ⟨LC, hM⟩ := qH hM
        obtain ⟨LT, LU, NA, NB, NC⟩ := GH.get LC
        obtain ⟨LD, hM⟩ := qH hM
        obtain ⟨LV, LW, ND, NE, NF⟩ := GH.get LD
        refine za (vals := [some (yy 84 [] []), some (.slice Gv GB.length Gy), some (.int .i64 GQ), some (.int .i64 GE), some (.int .i64 (qh (GQ - GE))), some (xc Gv (Int.toNat (qh (GQ - GE)) * 2)), some (.agg ⟨[.int .i64 ((rd Gu (qh (GQ - GE))).often_), .slice LT ((rd Gu (qh (GQ - GE))).symbols_).length LU]⟩), some (.slice Gv GB.length Gy), some (.int .i64 GE), some (xc Gv (Int.toNat GE * 2)), some (.agg ⟨[.int .i64 ((rd Gu GE).often_), .slice LV ((rd Gu GE).symbols_).length LW]⟩), none, none, none]) hS xp rfl ?_
        intro l w ho hcl hA hst
        refine jn hA hst ho hcl xv xo 11 [0, 1, 2, 3, 4, 5, 6, 7, 8, 9, 10] rfl rfl rfl rfl rfl (by exact ⟨nM rfl, nM rfl, nM rfl, nM rfl, nB rfl, nQ rfl (by exact qU (xM rfl rfl Tryd.runUnderlying110 Tryd.sizeOf112 (GM.rd (i := 1) rfl) zv.len rfl (GH.inb LC)) rfl), nQ rfl (by exact qU (qU (yL rfl (GM.rd (i := 1) rfl) zv.len (GH.inb LC) Tryd.isAgg112 Tryd.sizeOf112 rfl) (congrArg (fun l => Value.agg ⟨l⟩) NA)) rfl), nM rfl, nM rfl, nQ rfl (by exact qU (xM rfl rfl Tryd.runUnderlying110 Tryd.sizeOf112 (GM.rd (i := 1) rfl) zv.len rfl (GH.inb LD)) rfl), nQ rfl (by exact qU (qU (yL rfl (GM.rd (i := 1) rfl) zv.len (GH.inb LD) Tryd.isAgg112 Tryd.sizeOf112 rfl) (congrArg (fun l => Value.agg ⟨l⟩) ND)) rfl), trivial⟩) fun D l a w ho hcl hav hpre hm hE hk hA hst => ?_
        have hS := (Ss.mk hE hst).env2 (e' := [(158, yy 84 [] []), (164, .agg ⟨[.int .i64 ((rd Gu (qh (GQ - GE))).often_), .slice LT ((rd Gu (qh (GQ - GE))).symbols_).length LU]⟩), (168, .agg ⟨[.int .i64 ((rd Gu GE).often_), .slice LV ((rd Gu GE).symbols_).length LW]⟩)]) ⟨rfl, rfl, rfl, trivial⟩
        refine q7 rfl <| vg hS rfl rfl Tryd.call84 (jq hG K (qb.mk ((rd Gu (qh (GQ - GE))).often_) ((rd Gu (qh (GQ - GE))).symbols_)) (qb.mk ((rd Gu GE).often_) ((rd Gu GE).symbols_)) LT LU LV LW (NB.rdF (i := 0) rfl) NC (NE.rdF (i := 0) rfl) NF (hS.st.part 0 [0, 1] (by kernel_rfl)) (qE hM) (fun LX w hM  hst => qL hS.ev hst.appF rfl fun hS => ?_))
        replace hS : Ss _ _ _ H [GF, GN] F _ _ := hS
        refine qF ?_
        replace hst := hS.st
        obtain ⟨hcl, hmust, hav2, hA⟩ := dn (vals' := [some (yy 84 [] []), some (.slice Gv GB.length Gy), some (.int .i64 GQ), some (.int .i64 GE), some (.int .i64 (qh (GQ - GE))), some (xc Gv (Int.toNat (qh (GQ - GE)) * 2)), some (.agg ⟨[.int .i64 ((rd Gu (qh (GQ - GE))).often_), .slice LT ((rd Gu (qh (GQ - GE))).symbols_).length LU]⟩), some (.slice Gv GB.length Gy), some (.int .i64 GE), some (xc Gv (Int.toNat GE * 2)), some (.agg ⟨[.int .i64 ((rd Gu GE).often_), .slice LV ((rd Gu GE).symbols_).length LW]⟩), some (.int .i64 LX), some (.bool (decide (LX < (0 : Int)))), some (.bool (!(decide (LX < (0 : Int)))))]) 11 [(0, 11), (6, 11), (10, 11), (5, 6), (9, 10), (1, 5), (4, 5), (7, 9), (8, 9), (2, 4), (3, 4)] hA hcl hav hm hpre hk rfl rfl rfl rfl rfl rfl rfl
        clear hm hav
        refine x3 hA hst ho hcl hmust [12, 13] rfl rfl rfl (by exact ⟨nB rfl, nQ rfl (by exact qU (un rfl rfl) rfl), trivial⟩) fun a w hS => ?_
        replace hS := hS.env2 (e' := [(0, .slice Gv GB.length Gy), (1, .int .i64 GC), (2, .int .i64 GD), (3, .int .i64 GG), (4, yy 84 [] []), (18, .int .i64 GI), (19, .int .i64 GV), (20, .int .i64 GP), (21, .int .i64 Lj), (22, .int .i64 GQ), (23, .int .i64 GE), (171, .bool (!(decide (LX < (0 : Int)))))]) ⟨rfl, rfl, rfl, rfl, rfl, rfl, rfl, rfl, rfl, rfl, rfl, rfl, trivial⟩
        refine qd <| qv hS rfl hM (fun NG hM => ?_) (fun NG hM => ?_)
        ·refine zB ?_
         refine sM hS rfl fun hS => sB hS rfl fun hS => zz (v := Value.int .i64) (x0 := (qh (GE + (1 : Int)))) hS (xj rfl) rfl fun LZ a w hz hS => ?_
         have hM := qC hz hM; clear hz
         refine zc <| zr (qd ?_)
         exact Mh _ _ ⟨LZ, Lj, hS.to [0, 1] (by kernel_rfl) ⟨rfl, rfl, rfl, rfl, rfl, rfl, rfl, rfl, rfl, rfl, trivial⟩, hM⟩
        ·refine zB ?_
         refine sM hS rfl fun hS => sA hS rfl fun hS => zc <| zr (qd ?_)
         exact Mh _ _ ⟨GP, GE, hS.to [0, 1] (by kernel_rfl) ⟨rfl, rfl, rfl, rfl, rfl, rfl, rfl, rfl, rfl, rfl, trivial⟩, hM⟩
       ·refine wp_exit ?_
        refine qB (qB (qY (qd ?_)))
        exact Ny _ _ ⟨GP, hS.to [0, 1] (by kernel_rfl) ⟨rfl, rfl, rfl, rfl, rfl, rfl, rfl, rfl, trivial⟩, hM⟩
     ·intro a w hI
      obtain ⟨GL, hS, hM⟩ := hI
      rw [qc.j11] at hM
      refine qp <| sM hS rfl fun hS => sM hS rfl fun hS => sB hS rfl fun hS => zz (v := Value.int .i64) (x0 := (qh (GV - GL))) hS (xj rfl) rfl fun GO a w hz hS => ?_
      have hM := qC hz hM; clear hz
      refine qF <| zg (fun a w => ∃ (GW : List (zv 2)) (GY : (List qb)) (Lo : qq), Ss 220 [] [(0, .slice Gv GW.length Gy), (1, .int .i64 GC), (3, .int .i64 GG), (4, yy 84 [] []), (18, .int .i64 GI), (20, .int .i64 GL), (24, .int .i64 GO)] H [GF, Lo] F a w ∧ (xa 112 (zv.v (sz := 2)) 2 Gv GW Gy Lo) ∧ (zw (qg GF) GY GW) ∧ (GW.length = GB.length) ∧ (qc.j12 K (qc.r K d) GC GG GI GL GO GY).wp kr kp) (fun Pb Mi => ?_) ?_
      ·refine wp_seq ?_
       refine zB <| sM hS rfl fun hS => sM hS rfl fun hS => sB hS rfl fun hS => sM hS rfl fun hS => yo 3 true 181 (b := (decide (GL < GD))) (r := (decide (GD < GO))) hS rfl rfl rfl rfl rfl rfl rfl (fun hb a w hS K hK => ?_) rfl fun a w hS => ?_
       ·refine zL hS rfl rfl rfl hb (mv rfl) rfl fun a w hS => ?_
        refine zL hS rfl rfl rfl hb (mv rfl) rfl fun a w hS => zL hS rfl rfl rfl hb (yU rfl rfl rfl) rfl fun a w hS => ?_
        exact zc (hK _ _ (hS.up 3 rfl rfl))
       refine qF <| qv hS rfl hM (fun NH hM => ?_) (fun NH hM => ?_)
       ·refine zB ?_
        refine sM hS rfl fun hS => sM hS rfl fun hS => sM hS rfl fun hS => sM hS rfl fun hS => sM hS rfl fun hS => qO hS rfl Tryd.call108 (yD hG K Gu GL GD GO GF Gv Gy GB GN GH GM (hS.st.part 2 [0, 1] (by kernel_rfl)) (qE hM) (fun LE Mj MD w hM NR NS Mk hst => qL hS.ev hst.appF rfl fun hS => ?_))
        replace hS : Ss _ _ _ H [GF, MD] F _ _ := hS
        have NI := Eq.trans Mk Lk
        replace hS := hS.re 0 (u := .slice Gv GB.length Gy) (v := .slice Gv LE.length Gy) rfl (by rw [Mk])
        replace hS := hS.re 186 (u := .slice Gv GB.length Gy) (v := .slice Gv LE.length Gy) rfl (by rw [Mk])
        refine zc <| qd ?_
        exact Mi _ _ ⟨LE, Mj, MD, hS.to [0, 1] (by kernel_rfl) ⟨rfl, rfl, rfl, rfl, rfl, rfl, rfl, trivial⟩, NR, NS, NI, hM⟩
       ·refine wp_skip ?_
        refine qd ?_
        exact Mi _ _ ⟨GB, Gu, GN, hS.to [0, 1] (by kernel_rfl) ⟨rfl, rfl, rfl, rfl, rfl, rfl, rfl, trivial⟩, GM, GH, Lk, hM⟩
      ·intro a w hI
       obtain ⟨GW, GY, Lo, hS, Ml, Mm, Mn, hM⟩ := hI
       rw [qc.j12] at hM
       refine zg (fun a w => ∃ (GX : List (zv 2)) (GZ : (List qb)) (Lp : qq), Ss 220 [] [(0, .slice Gv GX.length Gy), (3, .int .i64 GG), (4, yy 84 [] []), (18, .int .i64 GI), (24, .int .i64 GO)] H [GF, Lp] F a w ∧ (xa 112 (zv.v (sz := 2)) 2 Gv GX Gy Lp) ∧ (zw (qg GF) GZ GX) ∧ (GX.length = GB.length) ∧ (qc.j13 K (qc.r K d) GG GI GO GZ).wp kr kp) (fun Pc Mp => ?_) ?_
       ·refine wp_seq ?_
        refine zB <| sM hS rfl fun hS => sM hS rfl fun hS => sB hS rfl fun hS => sM hS rfl fun hS => yo 3 true 195 (b := (decide (GC < GL))) (r := (decide (GL < GI))) hS rfl rfl rfl rfl rfl rfl rfl (fun hb a w hS K hK => ?_) rfl fun a w hS => ?_
        ·refine zL hS rfl rfl rfl hb (mv rfl) rfl fun a w hS => ?_
         refine zL hS rfl rfl rfl hb (mv rfl) rfl fun a w hS => zL hS rfl rfl rfl hb (yU rfl rfl rfl) rfl fun a w hS => ?_
         exact zc (hK _ _ (hS.up 3 rfl rfl))
        refine qF <| qv hS rfl hM (fun NJ hM => ?_) (fun NJ hM => ?_)
        ·refine zB ?_
         refine sM hS rfl fun hS => sM hS rfl fun hS => sM hS rfl fun hS => sM hS rfl fun hS => sM hS rfl fun hS => qO hS rfl Tryd.call100 (ih hG  GY GC GL GI GF Gv Gy GW Lo Mm Ml (hS.st.part 2 [0, 1] (by kernel_rfl)) (qE hM) (fun LF Mq ME w hM NT NU Mr hst => qL hS.ev hst.appF rfl fun hS => ?_))
         replace hS : Ss _ _ _ H [GF, ME] F _ _ := hS
         have NK := Eq.trans Mr Mn
         replace hS := hS.re 0 (u := .slice Gv GW.length Gy) (v := .slice Gv LF.length Gy) rfl (by rw [Mr])
         replace hS := hS.re 200 (u := .slice Gv GW.length Gy) (v := .slice Gv LF.length Gy) rfl (by rw [Mr])
         refine zc <| qd ?_
         exact Mp _ _ ⟨LF, Mq, ME, hS.to [0, 1] (by kernel_rfl) ⟨rfl, rfl, rfl, rfl, rfl, trivial⟩, NT, NU, NK, hM⟩
        ·refine wp_skip ?_
         refine qd ?_
         exact Mp _ _ ⟨GW, GY, Lo, hS.to [0, 1] (by kernel_rfl) ⟨rfl, rfl, rfl, rfl, rfl, trivial⟩, Ml, Mm, Mn, hM⟩
       ·intro a w hI
        obtain ⟨GX, GZ, Lp, hS, Ms, Mt, Mu, hM⟩ := hI
        rw [qc.j13] at hM
        refine qp <| sM hS rfl fun hS => sM hS rfl fun hS => sB hS rfl fun hS => sM hS rfl fun hS => yo 3 true 209 (b := (decide (GI < GO))) (r := (decide (GO < GG))) hS rfl rfl rfl rfl rfl rfl rfl (fun hb a w hS K hK => ?_) rfl fun a w hS => ?_
        ·refine zL hS rfl rfl rfl hb (mv rfl) rfl fun a w hS => ?_
         refine zL hS rfl rfl rfl hb (mv rfl) rfl fun a w hS => zL hS rfl rfl rfl hb (yU rfl rfl rfl) rfl fun a w hS => ?_
         exact zc (hK _ _ (hS.up 3 rfl rfl))
        refine qF <| qv hS rfl hM (fun NL hM => ?_) (fun NL hM => ?_)
        ·refine zB ?_
         refine sM hS rfl fun hS => sM hS rfl fun hS => sM hS rfl fun hS => sM hS rfl fun hS => sM hS rfl fun hS => qO hS rfl Tryd.call100 (ih hG  GZ GI GO GG GF Gv Gy GX Lp Mt Ms (hS.st.part 2 [0, 1] (by kernel_rfl)) (qE hM) (fun LG Mv MF w hM NV NW Mw hst => qL hS.ev hst.appF rfl fun hS => ?_))
         replace hS : Ss _ _ _ H [GF, MF] F _ _ := hS
         have NM := Eq.trans Mw Mu
         replace hS := hS.re 0 (u := .slice Gv GX.length Gy) (v := .slice Gv LG.length Gy) rfl (by rw [Mw])
         replace hS := hS.re 214 (u := .slice Gv GX.length Gy) (v := .slice Gv LG.length Gy) rfl (by rw [Mw])
         refine zc ?_
         exact y4 (rs := []) hS rfl rfl (hret LG Mv MF _ (qV hM) NV NW NM (hS.st.pick [0, 1] (by kernel_rfl)))
        ·refine wp_skip ?_
         exact y4 (rs := []) hS rfl rfl (hret GX GZ Lp _ (qV hM) Ms Mt Mu (hS.st.pick [0, 1] (by kernel_rfl)))
theorem xQ {H : xR} {F : List qq} {w : World} {R : Ending → World → Prop} {kr : (List qb) → Prop} {kp : Value → Prop} (hG : Gl H) (K : Nat) (Gu : List qb) (Gy : Int) (GD : Int) (Gz : Int) (Gw : qq) (GB : Option Addr) (GC : Nat) (Gv : List (zv 2)) (GE : qq) (GG : zw (qg Gw) Gu Gv) (GH : xa 112 (zv.v (sz := 2)) 2 GB Gv GC GE)
    (hS : St w H [Gw, GE] F) (hm : (qc.m K Gu Gy GD Gz).wp kr kp)
    (hret : ∀ (GA : List (zv 2)) (Gx : (List qb)) (GF : qq) (w : World), kr Gx → (xa 112 (zv.v (sz := 2)) 2 GB GA GC GF) → (zw (qg Gw) Gx GA) → (GA.length = Gv.length) → St w H [Gw, GF] F → R (.returned (.tuple ⟨[]⟩)) w) :
    Calls Tryd.prog 100 ⟨[.slice GB Gv.length GC, .int .i64 Gy, .int .i64 GD, .int .i64 Gz, yy 84 [] []]⟩ w R := yz K K hG Gu Gy GD Gz Gw GB GC Gv GE GG GH hS hm hret
theorem yG {H : xR} {F : List qq} {w : World} {R : Ending → World → Prop} {kr : (List qb) → Prop} {kp : Value → Prop} (hG : Gl H) (K : Nat) (GN : List qb) (Gy : Int) (Gx : qq) (Gv : Option Addr) (Gw : Nat) (Gz : List (zv 2)) (G5 : qq) (Lz : zw (qg Gx) GN Gz) (LA : xa 112 (zv.v (sz := 2)) 2 Gv Gz Gw G5)
    (hS : St w H [Gx, G5] F) (hm : (qk.m K GN Gy).wp kr kp)
    (hret : ∀ (GY : List (zv 2)) (GT : (List qb)) (Lr : qq) (w : World), kr GT → (xa 112 (zv.v (sz := 2)) 2 Gv GY Gw Lr) → (zw (qg Gx) GT GY) → (GY.length = Gz.length) → St w H [Gx, Lr] F → R (.returned (.tuple ⟨[]⟩)) w) :
    Calls Tryd.prog 81 ⟨[.slice Gv Gz.length Gw, .int .i64 Gy, yy 84 [] []]⟩ w R := by
 refine enter Tryd.func81 rfl Tryd.ntmps81 rfl hS fun a w hS => ?_
 have hM := hm; clear hm
 rw [qk.m] at hM
 have L4 : ∀ q ∈ Gx, q ∈ Gx := fun _ h => h
 have LB : Gz.length = Gz.length := rfl
 refine qp <| sA hS rfl fun hS => qF <| qp <| sM hS rfl fun hS => sA hS rfl fun hS => sA hS rfl fun hS => qF <| zg (fun a w => ∃ (GD : List (zv 2)) (GJ : (List qb)) (G3 : qq) (GS : Int), Ss 63 [] [(0, .slice Gv GD.length Gw), (1, .int .i64 Gy), (2, yy 84 [] []), (6, .int .i64 (20 : Int)), (7, .int .i64 GS)] H [Gx, G3] F a w ∧ (xa 112 (zv.v (sz := 2)) 2 Gv GD Gw G3) ∧ (zw (qg Gx) GJ GD) ∧ (GD.length = Gz.length) ∧ (qk.j2 K Gy GJ GS).wp kr kp) (fun L5 LC => ?_) ?_
 ·refine xw ?_
  refine zk (fun Lt a w => ∃ (GA : List (zv 2)) (GE : (List qb)) (GU : qq) (GO : Int) (GK : Int), Ss 63 [] [(0, .slice Gv GA.length Gw), (1, .int .i64 Gy), (2, yy 84 [] []), (6, .int .i64 (20 : Int)), (7, .int .i64 GO), (8, .int .i64 GK)] H [Gx, GU] F a w ∧ (xa 112 (zv.v (sz := 2)) 2 Gv GA Gw GU) ∧ (zw (qg Gx) GE GA) ∧ (GA.length = Gz.length) ∧ (qk.l1 K Gy Lt GE GO GK).wp kr kp) K ?_ ?_ ?_
  ·exact ⟨Gz, GN, G5, (0 : Int), (20 : Int), hS.to [0, 1] (by kernel_rfl) ⟨rfl, rfl, rfl, rfl, rfl, rfl, trivial⟩, LA, Lz, LB, hM⟩
  ·intro a w hI; obtain ⟨_, _, _, _, _, _, _, _, _, hM⟩ := hI; exact zj hM
  ·intro Lt a w hI L6 LD
   obtain ⟨GA, GE, GU, GO, GK, hS, G6, G7, G8, hM⟩ := hI
   rw [qk.l1] at hM
   refine wp_seq <| qp <| sM hS rfl fun hS => sM hS rfl fun hS => sB hS rfl fun hS => qF <| qv hS rfl hM (fun LE hM => ?_) (fun LE hM => ?_)
   ·refine wp_skip ?_
    refine qd <| xw <| qp <| sM hS rfl fun hS => sM hS rfl fun hS => sM hS rfl fun hS => sM hS rfl fun hS => qO hS rfl Tryd.call99 (xI hG K GE GO GK Gx Gv Gw GA GU G7 G6 (hS.st.part 2 [0, 1] (by kernel_rfl)) (qE hM) (fun GZ G9 Lu w hM LU LV La hst => qL hS.ev hst.appF rfl fun hS => ?_))
    replace hS : Ss _ _ _ H [Gx, Lu] F _ _ := hS
    have LF := Eq.trans La G8
    replace hS := hS.re 0 (u := .slice Gv GA.length Gw) (v := .slice Gv GZ.length Gw) rfl (by rw [La])
    replace hS := hS.re 14 (u := .slice Gv GA.length Gw) (v := .slice Gv GZ.length Gw) rfl (by rw [La])
    refine qF <| qp <| sM hS rfl fun hS => sA hS rfl fun hS => qF <| zB <| sM hS rfl fun hS => sM hS rfl fun hS => sB hS rfl fun hS => zz (v := Value.int .i64) (x0 := (qh (GK + (20 : Int)))) hS (xj rfl) rfl fun LG a w hz hS => ?_
    have hM := qC hz hM; clear hz
    refine zc <| zr (qd ?_)
    exact LD _ _ ⟨GZ, G9, Lu, GK, LG, hS.to [0, 1] (by kernel_rfl) ⟨rfl, rfl, rfl, rfl, rfl, rfl, trivial⟩, LU, LV, LF, hM⟩
   ·refine wp_exit ?_
    refine qB (qB (qY (qd ?_)))
    exact LC _ _ ⟨GA, GE, GU, GO, hS.to [0, 1] (by kernel_rfl) ⟨rfl, rfl, rfl, rfl, rfl, trivial⟩, G6, G7, G8, hM⟩
 ·intro a w hI
  obtain ⟨GD, GJ, G3, GS, hS, LH, LI, LJ, hM⟩ := hI
  rw [qk.j2] at hM
  refine qp <| sM hS rfl fun hS => sM hS rfl fun hS => sM hS rfl fun hS => sM hS rfl fun hS => qO hS rfl Tryd.call99 (xI hG K GJ GS Gy Gx Gv Gw GD G3 LI LH (hS.st.part 2 [0, 1] (by kernel_rfl)) (qE hM) (fun G0 Lb Lv w hM LW LX Lc hst => qL hS.ev hst.appF rfl fun hS => ?_))
  replace hS : Ss _ _ _ H [Gx, Lv] F _ _ := hS
  have LK := Eq.trans Lc LJ
  replace hS := hS.re 0 (u := .slice Gv GD.length Gw) (v := .slice Gv G0.length Gw) rfl (by rw [Lc])
  replace hS := hS.re 23 (u := .slice Gv GD.length Gw) (v := .slice Gv G0.length Gw) rfl (by rw [Lc])
  refine qF <| xw <| zk (fun G4 a w => ∃ (GI : List (zv 2)) (GF : (List qb)) (GV : qq) (Gu : Int), Ss 63 [] [(0, .slice Gv GI.length Gw), (1, .int .i64 Gy), (2, yy 84 [] []), (6, .int .i64 Gu)] H [Gx, GV] F a w ∧ (xa 112 (zv.v (sz := 2)) 2 Gv GI Gw GV) ∧ (zw (qg Gx) GF GI) ∧ (GI.length = Gz.length) ∧ (qk.l3 K Gy G4 GF Gu).wp kr kp) K ?_ ?_ ?_
  ·exact ⟨G0, Lb, Lv, (20 : Int), hS.to [0, 1] (by kernel_rfl) ⟨rfl, rfl, rfl, rfl, trivial⟩, LW, LX, LK, hM⟩
  ·intro a w hI; obtain ⟨_, _, _, _, _, _, _, _, hM⟩ := hI; exact zj hM
  ·intro G4 a w hI L7 Ld
   obtain ⟨GI, GF, GV, Gu, hS, Le, Lf, Lg, hM⟩ := hI
   rw [qk.l3] at hM
   refine wp_seq <| qp <| sM hS rfl fun hS => sM hS rfl fun hS => sB hS rfl fun hS => qF <| qv hS rfl hM (fun LL hM => ?_) (fun LL hM => ?_)
   ·refine wp_skip ?_
    refine qd <| xw <| qp <| sM hS rfl fun hS => sB hS rfl fun hS => sA hS rfl fun hS => zz (v := Value.int .i64) (x0 := (qh ((2 : Int) * Gu))) hS (xj rfl) rfl fun LM a w hz hS => ?_
    have hM := qC hz hM; clear hz
    refine qF <| zg (fun a w => ∃ (GB : List (zv 2)) (GG : (List qb)) (GW : qq) (GP : Int), Ss 63 [] [(0, .slice Gv GB.length Gw), (1, .int .i64 Gy), (2, yy 84 [] []), (6, .int .i64 Gu), (7, .int .i64 GP)] H [Gx, GW] F a w ∧ (xa 112 (zv.v (sz := 2)) 2 Gv GB Gw GW) ∧ (zw (qg Gx) GG GB) ∧ (GB.length = Gz.length) ∧ (qk.j5 K (qk.l3 K Gy G4) Gy Gu GG GP).wp kr kp) (fun L8 LN => ?_) ?_
    ·refine xw ?_
     refine zk (fun Lw a w => ∃ (GC : List (zv 2)) (GH : (List qb)) (GX : qq) (GL : Int) (GM : Int), Ss 63 [] [(0, .slice Gv GC.length Gw), (1, .int .i64 Gy), (2, yy 84 [] []), (6, .int .i64 Gu), (7, .int .i64 GL), (8, .int .i64 GM)] H [Gx, GX] F a w ∧ (xa 112 (zv.v (sz := 2)) 2 Gv GC Gw GX) ∧ (zw (qg Gx) GH GC) ∧ (GC.length = Gz.length) ∧ (qk.l4 K (qk.l3 K Gy G4) Gy Gu Lw GH GL GM).wp kr kp) K ?_ ?_ ?_
     ·exact ⟨GI, GF, GV, (0 : Int), LM, hS.to [0, 1] (by kernel_rfl) ⟨rfl, rfl, rfl, rfl, rfl, rfl, trivial⟩, Le, Lf, Lg, hM⟩
     ·intro a w hI; obtain ⟨_, _, _, _, _, _, _, _, _, hM⟩ := hI; exact zj hM
     ·intro Lw a w hI L9 LO
      obtain ⟨GC, GH, GX, GL, GM, hS, Lh, Li, Lj, hM⟩ := hI
      rw [qk.l4] at hM
      refine wp_seq <| qp <| sM hS rfl fun hS => sM hS rfl fun hS => sB hS rfl fun hS => qF <| qv hS rfl hM (fun LP hM => ?_) (fun LP hM => ?_)
      ·refine wp_skip ?_
       refine qd <| xw <| qp <| sM hS rfl fun hS => sM hS rfl fun hS => sM hS rfl fun hS => sM hS rfl fun hS => sB hS rfl fun hS => sM hS rfl fun hS => sM hS rfl fun hS => qO hS rfl Tryd.call100 (xQ hG K GH GL (qh (GL + Gu)) GM Gx Gv Gw GC GX Li Lh (hS.st.part 2 [0, 1] (by kernel_rfl)) (qE hM) (fun G1 Lk Lx w hM LY LZ Ll hst => qL hS.ev hst.appF rfl fun hS => ?_))
       replace hS : Ss _ _ _ H [Gx, Lx] F _ _ := hS
       have LQ := Eq.trans Ll Lj
       replace hS := hS.re 0 (u := .slice Gv GC.length Gw) (v := .slice Gv G1.length Gw) rfl (by rw [Ll])
       replace hS := hS.re 36 (u := .slice Gv GC.length Gw) (v := .slice Gv G1.length Gw) rfl (by rw [Ll])
       refine qF <| qp <| sM hS rfl fun hS => sA hS rfl fun hS => qF <| zB <| sM hS rfl fun hS => sM hS rfl fun hS => sB hS rfl fun hS => sB hS rfl fun hS => zz (v := Value.int .i64) (x0 := (qh (GM + (qh ((2 : Int) * Gu))))) hS (xj rfl) rfl fun LR a w hz hS => ?_
       have hM := qC hz hM; clear hz
       refine zc <| zr (qd ?_)
       exact LO _ _ ⟨G1, Lk, Lx, GM, LR, hS.to [0, 1] (by kernel_rfl) ⟨rfl, rfl, rfl, rfl, rfl, rfl, trivial⟩, LY, LZ, LQ, hM⟩
      ·refine wp_exit ?_
       refine qB (qB (qY (qd ?_)))
       exact LN _ _ ⟨GC, GH, GX, GL, hS.to [0, 1] (by kernel_rfl) ⟨rfl, rfl, rfl, rfl, rfl, trivial⟩, Lh, Li, Lj, hM⟩
    ·intro a w hI
     obtain ⟨GB, GG, GW, GP, hS, Lm, Ln, Lo, hM⟩ := hI
     rw [qk.j5] at hM
     refine wp_seq <| qp <| sM hS rfl fun hS => sM hS rfl fun hS => sB hS rfl fun hS => zz (v := Value.int .i64) (x0 := (qh (GP + Gu))) hS (xj rfl) rfl fun L0 a w hz hS => ?_
     have hM := qC hz hM; clear hz
     refine qF <| qp <| sM hS rfl fun hS => sM hS rfl fun hS => sB hS rfl fun hS => qF <| qv hS rfl hM (fun LS hM => ?_) (fun LS hM => ?_)
     ·refine zB ?_
      refine sM hS rfl fun hS => sM hS rfl fun hS => sM hS rfl fun hS => sM hS rfl fun hS => sM hS rfl fun hS => qO hS rfl Tryd.call100 (xQ hG K GG GP L0 Gy Gx Gv Gw GB GW Ln Lm (hS.st.part 2 [0, 1] (by kernel_rfl)) (qE hM) (fun G2 Lp Ly w hM L1 L3 Lq hst => qL hS.ev hst.appF rfl fun hS => ?_))
      replace hS : Ss _ _ _ H [Gx, Ly] F _ _ := hS
      have LT := Eq.trans Lq Lo
      replace hS := hS.re 0 (u := .slice Gv GB.length Gw) (v := .slice Gv G2.length Gw) rfl (by rw [Lq])
      replace hS := hS.re 55 (u := .slice Gv GB.length Gw) (v := .slice Gv G2.length Gw) rfl (by rw [Lq])
      refine qF <| zB <| sM hS rfl fun hS => sB hS rfl fun hS => zz (v := Value.int .i64) (x0 := (qh (Gu * (2 : Int)))) hS (xj rfl) rfl fun GQ a w hz hS => ?_
      have hM := qC hz hM; clear hz
      refine zc <| zr (qd ?_)
      exact Ld _ _ ⟨G2, Lp, Ly, GQ, hS.to [0, 1] (by kernel_rfl) ⟨rfl, rfl, rfl, rfl, trivial⟩, L1, L3, LT, hM⟩
     ·refine wp_skip ?_
      refine qd <| zB <| sM hS rfl fun hS => sB hS rfl fun hS => zz (v := Value.int .i64) (x0 := (qh (Gu * (2 : Int)))) hS (xj rfl) rfl fun GR a w hz hS => ?_
      have hM := qC hz hM; clear hz
      refine zc <| zr (qd ?_)
      exact Ld _ _ ⟨GB, GG, GW, GR, hS.to [0, 1] (by kernel_rfl) ⟨rfl, rfl, rfl, rfl, trivial⟩, Lm, Ln, Lo, hM⟩
   ·refine wp_exit ?_
    refine qB (qB (qY ?_))
    exact y4 (rs := []) hS rfl rfl (hret GI GF GV _ (qV hM) Le Lf Lg (hS.st.pick [0, 1] (by kernel_rfl)))
theorem x6 {H : xR} {F : List qq} {w : World} {R : Ending → World → Prop} {kr : (List qb) → Prop} {kp : Value → Prop} (hG : Gl H) (K : Nat) (Gz : List qb) (Gx : qq) (Gv : Option Addr) (Gw : Nat) (Gu : List (zv 2)) (GC : qq) (GD : zw (qg Gx) Gz Gu) (GI : xa 112 (zv.v (sz := 2)) 2 Gv Gu Gw GC)
    (hS : St w H [Gx, GC] F) (hm : (zT.m K Gz).wp kr kp)
    (hret : ∀ (GA : List (zv 2)) (GF : (List qb)) (GG : qq) (w : World), kr GF → (xa 112 (zv.v (sz := 2)) 2 Gv GA Gw GG) → (zw (qg Gx) GF GA) → (GA.length = Gu.length) → St w H [Gx, GG] F → R (.returned (.tuple ⟨[]⟩)) w) :
    Calls Tryd.prog 56 ⟨[.slice Gv Gu.length Gw, yy 84 [] []]⟩ w R := by
 refine enter Tryd.func56 rfl Tryd.ntmps56 rfl hS fun a w hS => ?_
 have hM := hm; clear hm
 rw [zT.m] at hM
 have GN : ∀ q ∈ Gx, q ∈ Gx := fun _ h => h
 have GJ : Gu.length = Gu.length := rfl
 refine zB <| sM hS rfl fun hS => sM hS rfl fun hS => sO hS (qU (v' := .int .i64 (Gz.length : Int)) (xY rfl Tryd.runUnderlying110) (by rw [GD.len])) rfl fun hS => sM hS rfl fun hS => qO hS rfl Tryd.call81 (yG hG K Gz (Gz.length : Int) Gx Gv Gw Gu GC GD GI (hS.st.part 2 [0, 1] (by kernel_rfl)) (qE hM) (fun Gy GE GH w hM GL GM GB hst => qL hS.ev hst.appF rfl fun hS => ?_))
 replace hS : Ss _ _ _ H [Gx, GH] F _ _ := hS
 have GK := Eq.trans GB GJ
 replace hS := hS.re 0 (u := .slice Gv Gu.length Gw) (v := .slice Gv Gy.length Gw) rfl (by rw [GB])
 replace hS := hS.re 4 (u := .slice Gv Gu.length Gw) (v := .slice Gv Gy.length Gw) rfl (by rw [GB])
 replace hS := hS.re 5 (u := .slice Gv Gu.length Gw) (v := .slice Gv Gy.length Gw) rfl (by rw [GB])
 refine zc ?_
 exact y4 (rs := []) hS rfl rfl (hret Gy GE GH _ (qV hM) GL GM GK (hS.st.pick [0, 1] (by kernel_rfl)))
theorem XO {H : xR} {F : List qq} {w : World} {R : Ending → World → Prop} {kr : (List qb) → Prop} {kp : Value → Prop} (hG : Gl H) (K : Nat) (GH : List qb) (GI : List qb) (Gu : qq) (GM : Option Addr) (GN : Nat) (Gv : List (zv 2)) (GO : Option Addr) (GP : Nat) (Gw : List (zv 2)) (GB : zw (qg Gu) GH Gv) (GC : Pl Gu (zv.v (sz := 2)) GM Gv) (G4 : Gv.length ≤ GN) (GD : zw (qg Gu) GI Gw) (GE : Pl Gu (zv.v (sz := 2)) GO Gw) (G5 : Gw.length ≤ GP)
    (hS : St w H [Gu] F) (hm : (yM.m K GH GI).wp kr kp)
    (hret : ∀ (GU : qq) (GX : Option Addr) (GY : Nat) (GQ : List (zv 2)) (GZ : (List qb)) (G0 : qq) (w : World), kr GZ → (∀ q ∈ Gu, q ∈ GU) → (xa 112 (zv.v (sz := 2)) 2 GX GQ GY G0) → (zw (qg GU) GZ GQ) → St w H [GU, G0] F → R (.returned (.slice GX GQ.length GY)) w)
    (hpan : ∀ v w, kp v → St w H [] F → R (.panicked [⟨v, false, false⟩]) w) :
    Calls Tryd.prog 59 ⟨[.slice GM Gv.length GN, .slice GO Gw.length GP]⟩ w R := by
 refine enter Tryd.func59 rfl Tryd.ntmps59 rfl hS fun a w hS => ?_
 have hM := hm; clear hm
 rw [yM.m] at hM
 have GF : ∀ q ∈ Gu, q ∈ Gu := fun _ h => h
 refine qp <| sA hS rfl fun hS => ?_
 obtain ⟨G1, Lh, hS⟩ := hS.nilV 112 (zv.v (sz := 2)) 2
 have GJ : zw (qg Gu) ([] : List qb) ([] : List (zv 2)) := zw.nil
 refine qF <| qp <| sM hS rfl fun hS => sM hS rfl fun hS => ?_
 obtain ⟨GR, hrw⟩ : ∃ r, r = ([(⟨[.slice GM Gv.length GN], by simp, by simp [Value.oneCell']⟩ : zv 1), (⟨[.slice GO Gw.length GP], by simp, by simp [Value.oneCell']⟩ : zv 1)] : List (zv 1)) := ⟨_, rfl⟩
 have GG : zw (xL Gu) ([GH, GI] : List (List qb)) GR := by rw [hrw]; exact (zw.cons (show xL Gu _ _ from ⟨GM, GN, Gv, rfl, GB, GC, G4⟩) (zw.cons (show xL Gu _ _ from ⟨GO, GP, Gw, rfl, GD, GE, G5⟩) zw.nil))
 refine Xz (g := (zv.v (sz := 1))) GR [.slice GM Gv.length GN, .slice GO Gw.length GP] hS Tryd.runUnderlying165 Tryd.sizeOf110 X.el110 rfl rfl rfl (by simp [Value.cells]) (by rw [hrw]; rfl) (by rw [hrw]; rfl) rfl rfl rfl fun w G8 G9 Li GV hS => ?_
 clear hrw
 replace hS := hS.front [0, 2, 1] (by kernel_rfl)
 obtain ⟨La, G6, Gx, hS⟩ := hS.poolF
 have G7 := GV.cap zv.len rfl
 have GS := GV.pl.mono G6
 replace GC := GC.mono Gx
 replace GE := GE.mono Gx
 replace GB := zw.mono (fun _ _ h => qg.mono Gx h) GB
 replace GD := zw.mono (fun _ _ h => qg.mono Gx h) GD
 replace GJ := zw.mono (fun _ _ h => qg.mono Gx h) GJ
 replace GG := zw.mono (fun _ _ h => xL.mono Gx h) GG
 replace GF := fun q h => Gx q (GF q h)
 refine qO hS rfl Tryd.call83 (yO hG K ([GH, GI] : List (List qb)) La G8 G9 GR GG GS G7 (hS.st.part 1 [0, 1] (by kernel_rfl)) (qE hM) (fun GT Gy Gz GK Lb G2 w hM GA Lc Ld hst => qL hS.ev hst.appF rfl fun hS => ?_) (fun v w hk hst => jK (zX (⟨hS.ev.defs, hpan _ _ hk hst.appF.frame⟩))))
 replace hS : Ss _ _ _ H [GT, G2, G1] F _ _ := hS
 replace GC := GC.mono GA
 replace GE := GE.mono GA
 replace GS := GS.mono GA
 replace GB := zw.mono (fun _ _ h => qg.mono GA h) GB
 replace GD := zw.mono (fun _ _ h => qg.mono GA h) GD
 replace GJ := zw.mono (fun _ _ h => qg.mono GA h) GJ
 replace GG := zw.mono (fun _ _ h => xL.mono GA h) GG
 replace GF := fun q h => GA q (GF q h)
 refine sA hS rfl fun hS => qF <| qp <| sM hS rfl fun hS => qO hS rfl Tryd.call56 (x6 hG K Lb GT Gy Gz GK G2 Ld Lc (hS.st.part 2 [0, 1, 2] (by kernel_rfl)) (qE hM) (fun GL Le G3 w hM Lf Lg GW hst => qL hS.ev hst.appF rfl fun hS => ?_))
 replace hS : Ss _ _ _ H [GT, G3, G1] F _ _ := hS
 replace hS := hS.re 5 (u := .slice Gy GK.length Gz) (v := .slice Gy GL.length Gz) rfl (by rw [GW])
 replace hS := hS.re 9 (u := .slice Gy GK.length Gz) (v := .slice Gy GL.length Gz) rfl (by rw [GW])
 replace hS := hS.re 10 (u := .slice Gy GK.length Gz) (v := .slice Gy GL.length Gz) rfl (by rw [GW])
 refine qF <| qp <| sM hS rfl fun hS => sA hS rfl fun hS => qF <| wp_ret ?_
 exact zm (rs := [4]) hS rfl rfl (hret GT Gy Gz GL Le G3 _ (qV hM) GF Lf Lg (hS.st.pick [0, 1] (by kernel_rfl)))
theorem Qb {H : xR} {F : List qq} {w : World} {R : Ending → World → Prop} {kr : ((List Int) × Int) → Prop} {kp : Value → Prop} (hG : Gl H) (K : Nat) (Gu : List Int) (Gv : Int) (GZ : Option Addr) (G0 : Nat) (Lp : jm H [] F (ci .i64) GZ Gu) (Mq : Gu.length ≤ G0)
    (hS : St w H [] F) (hm : (qI.m K Gu Gv).wp kr kp)
    (hret : ∀ (Mc : Option Addr) (Md : Nat) (LE : (List Int)) (Me : qq) (Mf : Int) (w : World), kr (LE, Mf) → (xa 3 (ci .i64) 1 Mc LE Md Me) → St w H [Me] F → R (.returned (.tuple ⟨[.slice Mc LE.length Md, .int .i64 Mf]⟩)) w)
    (hpan : ∀ v w, kp v → St w H [] F → R (.panicked [⟨v, false, false⟩]) w) :
    Calls Tryd.prog 40 ⟨[.slice GZ Gu.length G0, .int .i64 Gv]⟩ w R := by
 refine enter Tryd.func40 rfl Tryd.ntmps40 rfl hS fun a w hS => ?_
 have hM := hm; clear hm
 rw [qI.m] at hM
 refine qp <| sA hS rfl fun hS => ?_
 obtain ⟨Nf, NE, hS⟩ := hS.nilV 3 (ci .i64) 1
 refine sA hS rfl fun hS => qF <| wp_seq <| qp <| sM hS rfl fun hS => sB hS rfl fun hS => sM hS rfl fun hS => yo 2 false 17 (b := (decide (Gv < (1 : Int)))) (r := (decide (Gv > (15 : Int)))) hS rfl rfl rfl rfl rfl rfl rfl (fun hb a w hS K hK => ?_) rfl fun a w hS => ?_
 ·refine zL hS rfl rfl rfl hb (mv rfl) rfl fun a w hS => ?_
  refine zL hS rfl rfl rfl hb (yU rfl rfl rfl) rfl fun a w hS => ?_
  exact zc (hK _ _ (hS.up 2 rfl rfl))
 refine sM hS rfl fun hS => yo 3 false 21 (b := ((decide (Gv < (1 : Int))) || (decide (Gv > (15 : Int))))) (r := (decide ((Gu.length : Int) > (320 : Int)))) hS rfl rfl rfl rfl rfl rfl rfl (fun hb a w hS K hK => ?_) rfl fun a w hS => ?_
 ·refine zL hS rfl rfl rfl hb (mv rfl) rfl fun a w hS => ?_
  refine zL hS rfl rfl rfl hb (xY rfl Tryd.runUnderlying45) rfl fun a w hS => zL hS rfl rfl rfl hb (yU rfl rfl rfl) rfl fun a w hS => ?_
  exact zc (hK _ _ (hS.up 3 rfl rfl))
 refine sM hS rfl fun hS => v8 (fun a w => ∃ (LF : Bool), Ss 109 [] [(0, .slice GZ Gu.length G0), (1, .int .i64 Gv), (29, .bool LF)] H [] F a w ∧ (qI.j1 K Gu Gv LF).wp kr kp) 3 (fun NL LG => ?_) ?_
 ·refine Uh (b := (((decide (Gv < (1 : Int))) || (decide (Gv > (15 : Int)))) || (decide ((Gu.length : Int) > (320 : Int))))) hM (fun G1 hM => ?_) (fun G1 hM => ?_)
  ·replace hS := hS.re 25 (v := .bool true) rfl (congrArg Value.bool G1)
   replace hS := hS.re 26 (v := .bool true) rfl (congrArg Value.bool G1)
   refine XV 2 hS rfl fun a w hS => sO hS (pk rfl rfl rfl) rfl fun hS => zc <| qd ?_
   exact LG _ _ ⟨true, hS.to [] (by kernel_rfl) ⟨rfl, rfl, rfl, trivial⟩, hM⟩
  ·replace hS := hS.re 25 (v := .bool false) rfl (congrArg Value.bool G1)
   replace hS := hS.re 26 (v := .bool false) rfl (congrArg Value.bool G1)
   refine zL hS rfl rfl rfl rfl (mv rfl) rfl fun a w hS => Ql hS rfl rfl rfl rfl <| qO hS rfl Tryd.call54 (je hG K Gu GZ G0 (Lp.app _) Mq (hS.st.part 0 [0] (by kernel_rfl)) (qE hM) (fun Ng w hM  hst => qL hS.ev hst.appF rfl fun hS => ?_))
   replace hS : Ss _ _ _ H [Nf] F _ _ := hS
   refine sO hS (pk rfl rfl rfl) rfl fun hS => zc <| qd ?_
   exact LG _ _ ⟨Ng, hS.to [] (by kernel_rfl) ⟨rfl, rfl, rfl, trivial⟩, hM⟩
 ·intro a w hI
  obtain ⟨LF, hS, hM⟩ := hI
  rw [qI.j1] at hM
  refine qF <| qv hS rfl hM (fun Mr hM => ?_) (fun Mr hM => ?_)
  ·refine wp_seq ?_
   refine zB <| sA hS rfl fun hS => ?_
   obtain ⟨Nh, Ms, hS⟩ := hS.nilV 3 (ci .i64) 1
   refine sA hS rfl fun hS => qF <| wp_ret <| qz ?_
   exact zm (rs := [4, 5]) hS rfl rfl (hret none (0) ([] : List Int) Nh (1 : Int) _ (qV hM) Ms (hS.st.pick [0] (by kernel_rfl)))
  ·refine wp_skip ?_
   refine qd <| qp <| sA hS rfl fun hS => ?_
   obtain ⟨Mg, hS⟩ := hS.pool0
   obtain ⟨Ni, Mt, hS⟩ := hS.nilV 112 (zv.v (sz := 2)) 2
   have Mu : zw (qg Mg) ([] : List qb) ([] : List (zv 2)) := zw.nil
   refine qF <| zg (fun a w => ∃ (G9 : qq) (GD : Option Addr) (GE : Nat) (GI : List (zv 2)) (Gw : (List qb)) (Lg : qq), Ss 109 [] [(0, .slice GZ Gu.length G0), (1, .int .i64 Gv), (6, .slice GD GI.length GE)] H [G9, Lg] F a w ∧ (xa 112 (zv.v (sz := 2)) 2 GD GI GE Lg) ∧ (zw (qg G9) Gw GI) ∧ (qI.j3 K Gu Gv Gw).wp kr kp) (fun NM Mv => ?_) ?_
   ·refine wp_seq ?_
    refine zB <| sM hS rfl fun hS => sO hS (xY rfl Tryd.runUnderlying45) rfl fun hS => sM hS rfl fun hS => qF <| xw <| zk (fun Mh a w => ∃ (Lh : qq) (Li : Option Addr) (Lj : Nat) (GU : List (zv 2)) (Gz : (List qb)) (Lk : qq) (GL : Int), Ss 109 [] [(0, .slice GZ Gu.length G0), (1, .int .i64 Gv), (6, .slice Li GU.length Lj), (30, .slice GZ Gu.length G0), (31, .int .i64 (Gu.length : Int)), (32, .int .i64 GL)] H [Lh, Lk] F a w ∧ (xa 112 (zv.v (sz := 2)) 2 Li GU Lj Lk) ∧ (zw (qg Lh) Gz GU) ∧ (qI.l2 K Gu Gv Mh Gz GL).wp kr kp) K ?_ ?_ ?_
    ·exact ⟨Mg, none, 0, ([] : List (zv 2)), ([] : List qb), Ni, (0 : Int), hS.to [1, 0] (by kernel_rfl) ⟨rfl, rfl, rfl, rfl, rfl, rfl, trivial⟩, Mt, Mu, hM⟩
    ·intro a w hI; obtain ⟨_, _, _, _, _, _, _, _, _, _, hM⟩ := hI; exact zj hM
    ·intro Mh a w hI NN LH
     obtain ⟨Lh, Li, Lj, GU, Gz, Lk, GL, hS, Lq, GV, hM⟩ := hI
     rw [qI.l2] at hM
     refine qp <| sB hS rfl fun hS => qF <| wp_seq <| qv hS rfl hM (fun Mw hM => ?_) (fun Mw hM => ?_)
     ·refine wp_skip ?_
      refine qd <| wp_seq <| xw <| qp <| sM hS rfl fun hS => ?_
      obtain ⟨LI, hM⟩ := qH hM
      refine sO hS (xM rfl rfl Tryd.runUnderlying45 Tryd.sizeOf3 Lp.wk (fun _ => rfl) rfl LI) rfl fun hS => sO hS (yd rfl Lp.wk (fun _ => rfl) LI rfl Tryd.isAgg3) rfl fun hS => sA hS rfl fun hS => zz (v := Value.int .i64) (x0 := (rd Gu GL)) hS (xj rfl) rfl fun G2 a w hz hS => ?_
      have hM := qC hz hM; clear hz
      refine qF <| qp <| sM hS rfl fun hS => sB hS rfl fun hS => qF <| qv hS rfl hM (fun Mx hM => ?_) (fun Mx hM => ?_)
      ·refine zB ?_
       refine sM hS rfl fun hS => sM hS rfl fun hS => sM hS rfl fun hS => Xz (g := (ci .i64)) ([GL] : List Int) [.int .i64 GL] hS Tryd.runUnderlying45 Tryd.sizeOf3 X.el3 rfl rfl rfl (by simp [Value.cells]) rfl rfl rfl rfl rfl fun w Ly Lz NO LJ hS => sO hS (Zx ([.int .i64 G2, .slice Ly ([GL] : List Int).length Lz]) [(0, 1), (1, 1)] Tryd.zeroValue112 Tryd.runUnderlying112 (by intro w; simp [Tryd.sizeOf3, Tryd.sizeOf45]) rfl rfl) rfl fun hS => ?_
       replace hS := hS.front [0, 1, 2] (by kernel_rfl)
       obtain ⟨LK, My, Mz, hS⟩ := hS.poolF
       have MA := LJ.cap (fun _ => rfl) rfl
       have MB := LJ.pl.mono My
       replace GV := zw.mono (fun _ _ h => qg.mono Mz h) GV
       obtain ⟨Lr, hrw⟩ : ∃ r, r = ([(⟨[.int .i64 G2, .slice Ly ([GL] : List Int).length Lz], by simp, by simp [Value.oneCell']⟩ : zv 2)] : List (zv 2)) := ⟨_, rfl⟩
       have LL : zw (qg LK) ([(qb.mk G2 ([GL] : List Int))] : List qb) Lr := by rw [hrw]; exact (zw.cons (show qg LK _ _ from ⟨Ly, Lz, rfl, MB, MA⟩) zw.nil)
       refine Xz (g := (zv.v (sz := 2))) Lr [.agg ⟨[.int .i64 G2, .slice Ly ([GL] : List Int).length Lz]⟩] hS Tryd.runUnderlying110 Tryd.sizeOf112 X.el112 rfl rfl rfl (by simp [Value.cells]) (by rw [hrw]; rfl) (by rw [hrw]; rfl) rfl rfl rfl fun w NP NQ NR MC hS => ?_
       clear hrw
       obtain ⟨MD, hM⟩ := qH hM
       refine X9 (ys := Lr) 2 hS rfl rfl Lq rfl (MC.rd (i := 0) rfl) Tryd.runUnderlying110 Tryd.runUnderlying110 X.el112 zv.len rfl ZU (GV.room LL MD) rfl fun ME w Nj Nk Nl hz MF hS => ?_
       obtain ⟨MG, hzm⟩ := jh (Gz ++ ([(qb.mk G2 ([GL] : List Int))] : List qb))
       replace hM := qC hzm hM
       have LM := zw.append GV LL
       rw [← hz, ← hzm] at LM; clear hz hzm
       refine sA hS rfl fun hS => zc <| zr (qd ?_)
       refine zB <| sB hS rfl fun hS => sM hS rfl fun hS => zc <| qd ?_
       exact LH _ _ ⟨LK, Nj, Nk, ME, MG, Nl, (qh (GL + (1 : Int))), hS.to [1, 2] (by kernel_rfl) ⟨rfl, rfl, rfl, rfl, rfl, rfl, trivial⟩, MF, LM, hM⟩
      ·refine wp_skip ?_
       refine zr (qd ?_)
       refine zB <| sB hS rfl fun hS => sM hS rfl fun hS => zc <| qd ?_
       exact LH _ _ ⟨Lh, Li, Lj, GU, Gz, Lk, (qh (GL + (1 : Int))), hS.to [0, 1] (by kernel_rfl) ⟨rfl, rfl, rfl, rfl, rfl, rfl, trivial⟩, Lq, GV, hM⟩
     ·refine wp_exit ?_
      refine qB (qB (qY (qd ?_)))
      exact Mv _ _ ⟨Lh, Li, Lj, GU, Gz, Lk, hS.to [0, 1] (by kernel_rfl) ⟨rfl, rfl, rfl, trivial⟩, Lq, GV, hM⟩
   ·intro a w hI
    obtain ⟨G9, GD, GE, GI, Gw, Lg, hS, Lb, GN, hM⟩ := hI
    rw [qI.j3] at hM
    refine wp_seq <| qp <| sM hS rfl fun hS => sO hS (qU (v' := .int .i64 (Gw.length : Int)) (xY rfl Tryd.runUnderlying110) (by rw [GN.len])) rfl fun hS => sM hS rfl fun hS => ?_
    obtain ⟨MH, hM⟩ := qH hM
    refine sO hS (shl rfl rfl MH) rfl fun hS => sB hS rfl fun hS => qF <| qv hS rfl hM (fun MI hM => ?_) (fun MI hM => ?_)
    ·refine wp_seq ?_
     refine zB <| sA hS rfl fun hS => ?_
     obtain ⟨Nm, MJ, hS⟩ := hS.nilV 3 (ci .i64) 1
     refine sA hS rfl fun hS => qF <| wp_ret <| qz ?_
     exact zm (rs := [4, 5]) hS rfl rfl (hret none (0) ([] : List Int) Nm (1 : Int) _ (qV hM) MJ (hS.st.pick [0] (by kernel_rfl)))
    ·refine wp_skip ?_
     refine qd <| qp <| sM hS rfl fun hS => sO hS (xY rfl Tryd.runUnderlying45) rfl fun hS => ?_
     obtain ⟨MK, hM⟩ := qH hM
     refine Ug (g := (ci .i64)) (m := (Gu.length : Int)) (0 : Int) hS rfl rfl (by simp) Tryd.runUnderlying45 X.el3 (fun w => ⟨_, Tryd.zeroValue3 w, rfl⟩) (fun _ => rfl) rfl rfl MK rfl fun Lc w Gx Gy Nn hz Lt hS => ?_
     have hM := qC hz hM; clear hz
     refine sA hS rfl fun hS => qF <| zg (fun a w => ∃ (GC : (List Int)) (GP : qq), Ss 109 [] [(1, .int .i64 Gv), (6, .slice GD GI.length GE), (9, .slice Gx GC.length Gy)] H [G9, Lg, GP] F a w ∧ (xa 3 (ci .i64) 1 Gx GC Gy GP) ∧ (qI.j4 K Gv Gw GC).wp kr kp) (fun NS LN => ?_) ?_
     ·refine wp_seq ?_
      refine zB <| sM hS rfl fun hS => sO hS (qU (v' := .int .i64 (Gw.length : Int)) (xY rfl Tryd.runUnderlying110) (by rw [GN.len])) rfl fun hS => sB hS rfl fun hS => qF <| qv hS rfl hM (fun ML hM => ?_) (fun ML hM => ?_)
      ·refine zB ?_
       refine sM hS rfl fun hS => sM hS rfl fun hS => ?_
       obtain ⟨Ld, hM⟩ := qH hM
       refine sO hS (xM rfl rfl Tryd.runUnderlying110 Tryd.sizeOf112 (Lb.rd (i := 2) rfl) zv.len rfl (GN.inb Ld)) rfl fun hS => sO hS (Yq rfl (Lb.rd (i := 2) rfl) zv.len rfl (GN.inb Ld) Tryd.runUnderlying112 rfl Tryd.sizeOf45 rfl) rfl fun hS => ?_
       obtain ⟨NT, NU, MM, LO, NF⟩ := GN.get Ld
       refine sO hS (KG 1 rfl (Lb.rd (i := 2) rfl) zv.len (GN.inb Ld) (by rw [show zv.v (rd GI (0 : Int)) = _ from MM]; rfl) Tryd.isAgg45) rfl fun hS => ?_
       obtain ⟨LP, hM⟩ := qH hM
       refine sO hS (xM rfl rfl Tryd.runUnderlying45 Tryd.sizeOf3 (LO.rd (i := 1) rfl) (fun _ => rfl) rfl LP) rfl fun hS => sO hS (yd rfl (LO.rd (i := 1) rfl) (fun _ => rfl) LP rfl Tryd.isAgg3) rfl fun hS => ?_
       obtain ⟨LQ, hM⟩ := qH hM
       refine sO hS (xM rfl rfl Tryd.runUnderlying45 Tryd.sizeOf3 (Lt.rd (i := 0) rfl) (fun _ => rfl) rfl LQ) rfl fun hS => Xk (i := (rd ((rd Gw (0 : Int)).symbols_) (0 : Int))) (sz := 1) 0 0 ((1 : Int)) hS rfl rfl Lt rfl Tryd.sizeOf3 (xF (1 : Int)) (fun _ => rfl) LQ rfl rfl fun Le w No hz Lu MN hS => ?_
       have hM := qC hz hM; clear hz
       replace hS := hS.re 9 (u := .slice Gx Lc.length Gy) (v := .slice Gx Le.length Gy) rfl (by rw [Lu])
       replace hS := hS.re 54 (u := .slice Gx Lc.length Gy) (v := .slice Gx Le.length Gy) rfl (by rw [Lu])
       replace hS := hS.re 58 (u := .slice Gx Lc.length Gy) (v := .slice Gx Le.length Gy) rfl (by rw [Lu])
       refine zc <| qd ?_
       exact LN _ _ ⟨Le, No, hS.to [1, 2, 0] (by kernel_rfl) ⟨rfl, rfl, rfl, trivial⟩, MN, hM⟩
      ·refine wp_skip ?_
       refine qd ?_
       exact LN _ _ ⟨Lc, Nn, hS.to [1, 2, 0] (by kernel_rfl) ⟨rfl, rfl, rfl, trivial⟩, Lt, hM⟩
     ·intro a w hI
      obtain ⟨GC, GP, hS, LR, hM⟩ := hI
      rw [qI.j4] at hM
      refine wp_seq <| qp <| sM hS rfl fun hS => sO hS (qU (v' := .int .i64 (Gw.length : Int)) (xY rfl Tryd.runUnderlying110) (by rw [GN.len])) rfl fun hS => sB hS rfl fun hS => qF <| qv hS rfl hM (fun MO hM => ?_) (fun MO hM => ?_)
      ·refine wp_seq ?_
       refine zB <| sM hS rfl fun hS => sA hS rfl fun hS => sA hS rfl fun hS => qF <| wp_ret <| qz ?_
       exact zm (rs := [4, 5]) hS rfl rfl (hret Gx Gy GC GP (0 : Int) _ (qV hM) LR (hS.st.pick [2] (by kernel_rfl)))
      ·refine wp_skip ?_
       refine qd <| qp <| sM hS rfl fun hS => qO hS rfl Tryd.call56 (x5 hG K Gw G9 GD GE GI Lg GN Lb (hS.st.part 2 [0, 1, 2] (by kernel_rfl)) (qE hM) (fun GA GQ Np w hM Mi LA LS hst => qL hS.ev hst.appF rfl fun hS => ?_))
       replace hS : Ss _ _ _ H [G9, Np, GP] F _ _ := hS
       replace hS := hS.re 6 (u := .slice GD GI.length GE) (v := .slice GD GA.length GE) rfl (by rw [LS])
       replace hS := hS.re 66 (u := .slice GD GI.length GE) (v := .slice GD GA.length GE) rfl (by rw [LS])
       replace hS := hS.re 70 (u := .slice GD GI.length GE) (v := .slice GD GA.length GE) rfl (by rw [LS])
       refine qF <| qp <| sM hS rfl fun hS => sA hS rfl fun hS => qF <| zg (fun a w => ∃ (GW : qq) (LT : Option Addr) (LU : Nat) (G3 : List (zv 2)) (GY : (List qb)), Ss 109 [] [(6, .slice GD GA.length GE), (9, .slice Gx GC.length Gy), (10, .slice LT G3.length LU)] H [GW, GP] F a w ∧ (zw (qg GW) GQ GA) ∧ (Pl GW (zv.v (sz := 2)) GD GA) ∧ (GA.length ≤ GE) ∧ (zw (qg GW) GY G3) ∧ (Pl GW (zv.v (sz := 2)) LT G3) ∧ (G3.length ≤ LU) ∧ (qI.j6 K GC GQ GY).wp kr kp) (fun NV MP => ?_) ?_
       ·refine wp_seq ?_
        refine zB <| sM hS rfl fun hS => sB hS rfl fun hS => sM hS rfl fun hS => qF <| xw <| zk (fun Mj a w => ∃ (GX : qq) (Ll : Option Addr) (Lm : Nat) (GR : List (zv 2)) (GT : (List qb)) (LB : Int), Ss 109 [] [(6, .slice GD GA.length GE), (9, .slice Gx GC.length Gy), (10, .slice Ll GR.length Lm), (74, .int .i64 (qh (Gv - (1 : Int)))), (75, .int .i64 LB)] H [GX, GP] F a w ∧ (zw (qg GX) GQ GA) ∧ (Pl GX (zv.v (sz := 2)) GD GA) ∧ (GA.length ≤ GE) ∧ (zw (qg GX) GT GR) ∧ (Pl GX (zv.v (sz := 2)) Ll GR) ∧ (GR.length ≤ Lm) ∧ (qI.l5 K Gv GC GQ Mj GT LB).wp kr kp) K ?_ ?_ ?_
        ·replace hS := hS.front [1, 0, 2] (by kernel_rfl)
         obtain ⟨Nq, MQ, MR, hS⟩ := hS.poolF
         have LV := Mi.cap zv.len rfl
         have LW := Mi.pl.mono MQ
         replace LA := zw.mono (fun _ _ h => qg.mono MR h) LA
         exact ⟨Nq, GD, GE, GA, GQ, (0 : Int), hS.to [0, 1] (by kernel_rfl) ⟨rfl, rfl, rfl, rfl, rfl, trivial⟩, LA, LW, LV, LA, LW, LV, hM⟩
        ·intro a w hI; obtain ⟨_, _, _, _, _, _, _, _, _, _, _, _, _, hM⟩ := hI; exact zj hM
        ·intro Mj a w hI NW MS
         obtain ⟨GX, Ll, Lm, GR, GT, LB, hS, GG, GH, Lv, GJ, GK, LX, hM⟩ := hI
         rw [qI.l5] at hM
         refine qp <| sB hS rfl fun hS => qF <| wp_seq <| qv hS rfl hM (fun MT hM => ?_) (fun MT hM => ?_)
         ·refine wp_skip ?_
          refine qd <| wp_seq <| xw <| zB <| sM hS rfl fun hS => sM hS rfl fun hS => qO hS rfl Tryd.call60 (YE hG K GT GX Ll Lm GR GJ GK LX (hS.st.part 1 [0, 1] (by kernel_rfl)) (qE hM) (fun Nr Ns Nt MU Nu Nv w hM LC Mk G4 hst => qL hS.ev hst.appF rfl fun hS => ?_) (fun v w hk hst => jK (js (zX (zX (js (zX (⟨hS.ev.defs, hpan _ _ hk hst.appF.frame⟩))))))))
          replace hS : Ss _ _ _ H [Nr, Nv, GP] F _ _ := hS
          replace GH := GH.mono LC
          replace GK := GK.mono LC
          replace GG := zw.mono (fun _ _ h => qg.mono LC h) GG
          replace GJ := zw.mono (fun _ _ h => qg.mono LC h) GJ
          replace hS := hS.front [1, 0, 2] (by kernel_rfl)
          obtain ⟨Nw, MV, G5, hS⟩ := hS.poolF
          have MW := Mk.cap zv.len rfl
          have G6 := Mk.pl.mono MV
          replace G4 := zw.mono (fun _ _ h => qg.mono G5 h) G4
          replace GH := GH.mono G5
          replace GK := GK.mono G5
          replace GG := zw.mono (fun _ _ h => qg.mono G5 h) GG
          replace GJ := zw.mono (fun _ _ h => qg.mono G5 h) GJ
          refine qO hS rfl Tryd.call59 (XO hG K GQ Nu Nw GD GE GA Ns Nt MU GG GH Lv G4 G6 MW (hS.st.part 1 [0, 1] (by kernel_rfl)) (qE hM) (fun Nx Ny Nz MX NA NB w hM La Ml LY hst => qL hS.ev hst.appF rfl fun hS => ?_) (fun v w hk hst => jK (js (zX (zX (js (zX (⟨hS.ev.defs, hpan _ _ hk hst.appF.frame⟩))))))))
          replace hS : Ss _ _ _ H [Nx, NB, GP] F _ _ := hS
          replace G4 := zw.mono (fun _ _ h => qg.mono La h) G4
          replace GH := GH.mono La
          replace GK := GK.mono La
          replace G6 := G6.mono La
          replace GG := zw.mono (fun _ _ h => qg.mono La h) GG
          replace GJ := zw.mono (fun _ _ h => qg.mono La h) GJ
          refine sA hS rfl fun hS => zc <| zr (qd ?_)
          refine zB <| sB hS rfl fun hS => sM hS rfl fun hS => zc <| qd ?_
          replace hS := hS.front [1, 0, 2] (by kernel_rfl)
          obtain ⟨NC, MY, GS, hS⟩ := hS.poolF
          have MZ := Ml.cap zv.len rfl
          have M0 := Ml.pl.mono MY
          replace G4 := zw.mono (fun _ _ h => qg.mono GS h) G4
          replace LY := zw.mono (fun _ _ h => qg.mono GS h) LY
          replace GH := GH.mono GS
          replace GK := GK.mono GS
          replace G6 := G6.mono GS
          replace GG := zw.mono (fun _ _ h => qg.mono GS h) GG
          replace GJ := zw.mono (fun _ _ h => qg.mono GS h) GJ
          exact MS _ _ ⟨NC, Ny, Nz, MX, NA, (qh (LB + (1 : Int))), hS.to [0, 1] (by kernel_rfl) ⟨rfl, rfl, rfl, rfl, rfl, trivial⟩, GG, GH, Lv, LY, M0, MZ, hM⟩
         ·refine wp_exit ?_
          refine qB (qB (qY (qd ?_)))
          exact MP _ _ ⟨GX, Ll, Lm, GR, GT, hS.to [0, 1] (by kernel_rfl) ⟨rfl, rfl, rfl, trivial⟩, GG, GH, Lv, GJ, GK, LX, hM⟩
       ·intro a w hI
        obtain ⟨GW, LT, LU, G3, GY, hS, M3, NG, NH, LZ, L0, M4, hM⟩ := hI
        rw [qI.j6] at hM
        refine wp_seq <| qp <| sM hS rfl fun hS => sM hS rfl fun hS => sO hS (qU (v' := .int .i64 (GQ.length : Int)) (xY rfl Tryd.runUnderlying110) (by rw [M3.len])) rfl fun hS => sB hS rfl fun hS => sB hS rfl fun hS => ?_
        obtain ⟨M5, hM⟩ := qH hM
        refine BZ (g := (zv.v (sz := 2))) hS rfl Tryd.runUnderlying110 Tryd.sizeOf112 Da (Bz rfl) zv.len M4 (LZ.subok M5) rfl fun L1 Mm Mn a w hz L3 NI hS => ?_
        obtain ⟨GB, hzm⟩ := jh (sub GY (0 : Int) (qh ((qh ((2 : Int) * (GQ.length : Int))) - (2 : Int))))
        replace hM := qC hzm hM
        have G7 := LZ.sub (0 : Int) (qh ((qh ((2 : Int) * (GQ.length : Int))) - (2 : Int))) (qh ((qh ((2 : Int) * (GQ.length : Int))) - (2 : Int))) rfl
        rw [← hz, ← hzm] at G7; clear hz hzm
        refine sO hS (qU (v' := .int .i64 (GB.length : Int)) (xY rfl Tryd.runUnderlying110) (by rw [G7.len])) rfl fun hS => sM hS rfl fun hS => qF <| xw <| zk (fun L4 a w => ∃ (GO : (List Int)) (Ln : qq) (GM : Int), Ss 109 [] [(9, .slice Gx GO.length Gy), (87, .slice Mm L1.length Mn), (88, .int .i64 (GB.length : Int)), (89, .int .i64 GM)] H [Ln, GW] F a w ∧ (xa 3 (ci .i64) 1 Gx GO Gy Ln) ∧ (qI.l7 K GB L4 GO GM).wp kr kp) K ?_ ?_ ?_
        ·exact ⟨GC, GP, (0 : Int), hS.to [1, 0] (by kernel_rfl) ⟨rfl, rfl, rfl, rfl, trivial⟩, LR, hM⟩
        ·intro a w hI; obtain ⟨_, _, _, _, _, hM⟩ := hI; exact zj hM
        ·intro L4 a w hI NX M6
         obtain ⟨GO, Ln, GM, hS, L5, hM⟩ := hI
         rw [qI.l7] at hM
         refine qp <| sB hS rfl fun hS => qF <| wp_seq <| qv hS rfl hM (fun M7 hM => ?_) (fun M7 hM => ?_)
         ·refine wp_skip ?_
          refine qd <| wp_seq <| xw <| wp_seq <| zB ?_
          obtain ⟨Lw, hM⟩ := qH hM
          refine sO hS (xM rfl rfl Tryd.runUnderlying110 Tryd.sizeOf112 (L3 _ _ _ (L0.rd (i := 1) rfl)) zv.len rfl (G7.inb Lw)) rfl fun hS => ?_
          obtain ⟨L6, L7, M8, L8, NJ⟩ := G7.get Lw
          refine sO hS (qU (yL rfl (L3 _ _ _ (L0.rd (i := 1) rfl)) zv.len (G7.inb Lw) Tryd.isAgg112 Tryd.sizeOf112 rfl) (congrArg (fun l => Value.agg ⟨l⟩) M8)) rfl fun hS => Qs ([.int .i64 (0 : Int), .slice none 0 0]) hS Tryd.zeroValue112 rfl rfl fun w NY NZ M9 hS => ?_
          obtain ⟨N0, NK, hS⟩ := hS.nilV 3 (ci .i64) 1
          refine uz 1 ([.int .i64 ((rd GB GM).often_), .slice L6 ((rd GB GM).symbols_).length L7]) ([.int .i64 ((rd GB GM).often_), .slice L6 ((rd GB GM).symbols_).length L7]) hS rfl rfl M9 rfl rfl Tryd.sizeOf112 (by simp [Value.oneCell']) (Nat.le_of_ble_eq_true rfl) rfl fun w N1 Na hS => qF <| qp <| sO hS (xu rfl Tryd.runUnderlying112 rfl Tryd.sizeOf45 rfl) rfl fun hS => sO hS (xW 1 rfl Na rfl rfl Tryd.isAgg45) rfl fun hS => sO hS (xY rfl Tryd.runUnderlying45) rfl fun hS => sM hS rfl fun hS => qF <| xw <| zk (fun Mp a w => ∃ (GF : (List Int)) (LD : qq) (Lo : Int), Ss 109 [] [(9, .slice Gx GF.length Gy), (87, .slice Mm L1.length Mn), (88, .int .i64 (GB.length : Int)), (89, .int .i64 GM), (94, .slice L6 ((rd GB GM).symbols_).length L7), (95, .int .i64 (((rd GB GM).symbols_).length : Int)), (96, .int .i64 Lo)] H [LD, GW] F a w ∧ (xa 3 (ci .i64) 1 Gx GF Gy LD) ∧ (qI.l8 K (qI.l7 K GB L4) GB GM Mp GF Lo).wp kr kp) K ?_ ?_ ?_
          ·exact ⟨GO, Ln, (0 : Int), hS.to [2, 3] (by kernel_rfl) ⟨rfl, rfl, rfl, rfl, rfl, rfl, rfl, trivial⟩, L5, hM⟩
          ·intro a w hI; obtain ⟨_, _, _, _, _, hM⟩ := hI; exact zj hM
          ·intro Mp a w hI N2 Nb
           obtain ⟨GF, LD, Lo, hS, G8, hM⟩ := hI
           rw [qI.l8] at hM
           refine qp <| sB hS rfl fun hS => qF <| wp_seq <| qv hS rfl hM (fun Nc hM => ?_) (fun Nc hM => ?_)
           ·refine wp_skip ?_
            refine qd <| wp_seq <| xw <| wp_seq <| zB ?_
            obtain ⟨L9, hM⟩ := qH hM
            refine sO hS (xM rfl rfl Tryd.runUnderlying45 Tryd.sizeOf3 (L8.rd (i := 1) rfl) (fun _ => rfl) rfl L9) rfl fun hS => sO hS (yd rfl (L8.rd (i := 1) rfl) (fun _ => rfl) L9 rfl Tryd.isAgg3) rfl fun hS => zz (v := Value.int .i64) (x0 := (rd ((rd GB GM).symbols_) Lo)) hS (xj rfl) rfl fun Ma a w hz hS => ?_
            have hM := qC hz hM; clear hz
            refine qF <| zB <| sM hS rfl fun hS => sM hS rfl fun hS => ?_
            obtain ⟨Lf, hM⟩ := qH hM
            refine sO hS (xM rfl rfl Tryd.runUnderlying45 Tryd.sizeOf3 (G8.rd (i := 0) rfl) (fun _ => rfl) rfl Lf) rfl fun hS => sO hS (yd rfl (G8.rd (i := 0) rfl) (fun _ => rfl) Lf rfl Tryd.isAgg3) rfl fun hS => sB hS rfl fun hS => sO hS (xM rfl rfl Tryd.runUnderlying45 Tryd.sizeOf3 (G8.rd (i := 0) rfl) (fun _ => rfl) rfl Lf) rfl fun hS => Xk (i := Ma) (sz := 1) 0 0 ((qh ((rd GF Ma) + (1 : Int)))) hS rfl rfl G8 rfl Tryd.sizeOf3 (xF (qh ((rd GF Ma) + (1 : Int)))) (fun _ => rfl) Lf rfl rfl fun Lx w ND hz Mb Nd hS => ?_
            have hM := qC hz hM; clear hz
            replace hS := hS.re 9 (u := .slice Gx GF.length Gy) (v := .slice Gx Lx.length Gy) rfl (by rw [Mb])
            replace hS := hS.re 100 (u := .slice Gx GF.length Gy) (v := .slice Gx Lx.length Gy) rfl (by rw [Mb])
            refine zc <| zr (qd ?_)
            refine zB <| sB hS rfl fun hS => sM hS rfl fun hS => zc <| qd ?_
            exact Nb _ _ ⟨Lx, ND, (qh (Lo + (1 : Int))), hS.to [0, 1] (by kernel_rfl) ⟨rfl, rfl, rfl, rfl, rfl, rfl, rfl, trivial⟩, Nd, hM⟩
           ·refine wp_exit ?_
            refine qB (qB (qY (zr (qd ?_))))
            refine zB <| sB hS rfl fun hS => sM hS rfl fun hS => zc <| qd ?_
            exact M6 _ _ ⟨GF, LD, (qh (GM + (1 : Int))), hS.to [0, 1] (by kernel_rfl) ⟨rfl, rfl, rfl, rfl, trivial⟩, G8, hM⟩
         ·refine wp_exit ?_
          refine qB (qB (qY (qd ?_)))
          refine qp <| sM hS rfl fun hS => sA hS rfl fun hS => sA hS rfl fun hS => qF <| wp_ret ?_
          exact zm (rs := [4, 5]) hS rfl rfl (hret Gx Gy GO Ln (0 : Int) _ (qV hM) L5 (hS.st.pick [0] (by kernel_rfl)))
theorem vK {H : xR} {F : List qq} {w : World} {R : Ending → World → Prop} {kr : ((List Int) × (List Int)) → Prop} {kp : Value → Prop} (hG : Gl H) (K : Nat) (Gu : List Int) (Gx : Option Addr) (Gy : Nat) (GI : qq) (GM : xa 3 (ci .i64) 1 Gx Gu Gy GI)
    (hS : St w H [GI] F) (hm : (q9.m K Gu).wp kr kp)
    (hret : ∀ (GT : Option Addr) (GU : Nat) (GP : (List Int)) (GV : qq) (GA : (List Int)) (GW : qq) (w : World), kr (GP, GA) → (xa 3 (ci .i64) 1 GT GP GU GV) → (xa 3 (ci .i64) 1 Gx GA Gy GW) → (GA.length = Gu.length) → St w H [GV, GW] F → R (.returned (.slice GT GP.length GU)) w)
    (hpan : ∀ v w, kp v → St w H [] F → R (.panicked [⟨v, false, false⟩]) w) :
    Calls Tryd.prog 38 ⟨[.slice Gx Gu.length Gy]⟩ w R := by
 refine enter Tryd.func38 rfl Tryd.ntmps38 rfl hS fun a w hS => ?_
 have hM := hm; clear hm
 rw [q9.m] at hM
 have G0 : Gu.length = Gu.length := rfl
 refine qp <| sA hS rfl fun hS => ?_
 obtain ⟨Lk, Lj, hS⟩ := hS.nilV 3 (ci .i64) 1
 refine qF <| qp <| sA hS rfl fun hS => qF <| zg (fun a w => ∃ (GF : Int), Ss 43 [] [(0, .slice Gx Gu.length Gy), (3, .int .i64 GF)] H [GI] F a w ∧ (q9.j2 K Gu GF).wp kr kp) (fun Ll G1 => ?_) ?_
 ·refine wp_seq ?_
  refine zB <| sM hS rfl fun hS => sO hS (xY rfl Tryd.runUnderlying45) rfl fun hS => sM hS rfl fun hS => qF <| xw <| zk (fun GX a w => ∃ (GD : Int) (GJ : Int), Ss 43 [] [(0, .slice Gx Gu.length Gy), (3, .int .i64 GD), (9, .slice Gx Gu.length Gy), (10, .int .i64 (Gu.length : Int)), (11, .int .i64 GJ)] H [GI] F a w ∧ (q9.l1 K Gu GX GD GJ).wp kr kp) K ?_ ?_ ?_
  ·exact ⟨(0 : Int), (0 : Int), hS.to [1] (by kernel_rfl) ⟨rfl, rfl, rfl, rfl, rfl, trivial⟩, hM⟩
  ·intro a w hI; obtain ⟨_, _, _, hM⟩ := hI; exact zj hM
  ·intro GX a w hI Lm G2
   obtain ⟨GD, GJ, hS, hM⟩ := hI
   rw [q9.l1] at hM
   refine qp <| sB hS rfl fun hS => qF <| wp_seq <| qv hS rfl hM (fun G3 hM => ?_) (fun G3 hM => ?_)
   ·refine wp_skip ?_
    refine qd <| wp_seq <| xw <| wp_seq <| zB ?_
    obtain ⟨GQ, hM⟩ := qH hM
    refine sO hS (xM rfl rfl Tryd.runUnderlying45 Tryd.sizeOf3 (GM.rd (i := 0) rfl) (fun _ => rfl) rfl GQ) rfl fun hS => sO hS (yd rfl (GM.rd (i := 0) rfl) (fun _ => rfl) GQ rfl Tryd.isAgg3) rfl fun hS => zz (v := Value.int .i64) (x0 := (rd Gu GJ)) hS (xj rfl) rfl fun GR a w hz hS => ?_
    have hM := qC hz hM; clear hz
    refine qF <| zB <| sM hS rfl fun hS => sM hS rfl fun hS => sO hS (V7 rfl rfl) rfl fun hS => sB hS rfl fun hS => zz (v := Value.int .i64) (x0 := (qh (GD + (if (1 : Int) < GR then (1 : Int) else GR)))) hS (xj rfl) rfl fun G4 a w hz hS => ?_
    have hM := qC hz hM; clear hz
    refine zc <| zr (qd ?_)
    refine zB <| sB hS rfl fun hS => sM hS rfl fun hS => zc <| qd ?_
    exact G2 _ _ ⟨G4, (qh (GJ + (1 : Int))), hS.to [0] (by kernel_rfl) ⟨rfl, rfl, rfl, rfl, rfl, trivial⟩, hM⟩
   ·refine wp_exit ?_
    refine qB (qB (qY (qd ?_)))
    exact G1 _ _ ⟨GD, hS.to [0] (by kernel_rfl) ⟨rfl, rfl, trivial⟩, hM⟩
 ·intro a w hI
  obtain ⟨GF, hS, hM⟩ := hI
  rw [q9.j2] at hM
  refine zg (fun a w => ∃ (Gw : (List Int)) (GK : qq), Ss 43 [] [(0, .slice Gx Gw.length Gy)] H [GK] F a w ∧ (xa 3 (ci .i64) 1 Gx Gw Gy GK) ∧ (Gw.length = Gu.length) ∧ (q9.j4 K Gw).wp kr kp) (fun Ln G5 => ?_) ?_
  ·refine wp_seq ?_
   refine zB <| sA hS rfl fun hS => qF <| xw <| zk (fun GY a w => ∃ (Gv : (List Int)) (GL : qq) (GE : Int) (GC : Int), Ss 43 [] [(0, .slice Gx Gv.length Gy), (3, .int .i64 GE), (6, .int .i64 GC)] H [GL] F a w ∧ (xa 3 (ci .i64) 1 Gx Gv Gy GL) ∧ (Gv.length = Gu.length) ∧ (q9.l3 K GY Gv GE GC).wp kr kp) K ?_ ?_ ?_
   ·exact ⟨Gu, GI, GF, (0 : Int), hS.to [0] (by kernel_rfl) ⟨rfl, rfl, rfl, trivial⟩, GM, G0, hM⟩
   ·intro a w hI; obtain ⟨_, _, _, _, _, _, _, hM⟩ := hI; exact zj hM
   ·intro GY a w hI Lo GS
    obtain ⟨Gv, GL, GE, GC, hS, Gz, GN, hM⟩ := hI
    rw [q9.l3] at hM
    refine wp_seq <| qp <| sM hS rfl fun hS => sB hS rfl fun hS => qF <| qv hS rfl hM (fun G6 hM => ?_) (fun G6 hM => ?_)
    ·refine wp_skip ?_
     refine qd <| wp_seq <| xw <| qp <| sM hS rfl fun hS => sM hS rfl fun hS => ?_
     obtain ⟨GB, hM⟩ := qH hM
     refine sO hS (xM rfl rfl Tryd.runUnderlying45 Tryd.sizeOf3 (Gz.rd (i := 0) rfl) (fun _ => rfl) rfl GB) rfl fun hS => sO hS (yd rfl (Gz.rd (i := 0) rfl) (fun _ => rfl) GB rfl Tryd.isAgg3) rfl fun hS => sB hS rfl fun hS => qF <| qv hS rfl hM (fun G7 hM => ?_) (fun G7 hM => ?_)
     ·refine wp_seq ?_
      refine zB <| sM hS rfl fun hS => sM hS rfl fun hS => sO hS (xM rfl rfl Tryd.runUnderlying45 Tryd.sizeOf3 (Gz.rd (i := 0) rfl) (fun _ => rfl) rfl GB) rfl fun hS => sO hS (yd rfl (Gz.rd (i := 0) rfl) (fun _ => rfl) GB rfl Tryd.isAgg3) rfl fun hS => sB hS rfl fun hS => sO hS (xM rfl rfl Tryd.runUnderlying45 Tryd.sizeOf3 (Gz.rd (i := 0) rfl) (fun _ => rfl) rfl GB) rfl fun hS => Xk (i := GC) (sz := 1) 0 0 ((qh ((rd Gv GC) + (1 : Int)))) hS rfl rfl Gz rfl Tryd.sizeOf3 (xF (qh ((rd Gv GC) + (1 : Int)))) (fun _ => rfl) GB rfl rfl fun GG w Lc hz GH G8 hS => ?_
      have hM := qC hz hM; clear hz
      have G9 := Eq.trans GH GN
      replace hS := hS.re 0 (u := .slice Gx Gv.length Gy) (v := .slice Gx GG.length Gy) rfl (by rw [GH])
      replace hS := hS.re 24 (u := .slice Gx Gv.length Gy) (v := .slice Gx GG.length Gy) rfl (by rw [GH])
      replace hS := hS.re 29 (u := .slice Gx Gv.length Gy) (v := .slice Gx GG.length Gy) rfl (by rw [GH])
      refine qF <| zB <| sM hS rfl fun hS => sB hS rfl fun hS => zz (v := Value.int .i64) (x0 := (qh (GE + (1 : Int)))) hS (xj rfl) rfl fun La a w hz hS => ?_
      have hM := qC hz hM; clear hz
      refine zc <| zr (qd ?_)
      refine zB <| sM hS rfl fun hS => sB hS rfl fun hS => zz (v := Value.int .i64) (x0 := (qh (GC + (1 : Int)))) hS (xj rfl) rfl fun Ld a w hz hS => ?_
      have hM := qC hz hM; clear hz
      refine zc <| qd ?_
      exact GS _ _ ⟨GG, Lc, La, Ld, hS.to [0] (by kernel_rfl) ⟨rfl, rfl, rfl, trivial⟩, G8, G9, hM⟩
     ·refine wp_skip ?_
      refine zr (qd ?_)
      refine zB <| sM hS rfl fun hS => sB hS rfl fun hS => zz (v := Value.int .i64) (x0 := (qh (GC + (1 : Int)))) hS (xj rfl) rfl fun Le a w hz hS => ?_
      have hM := qC hz hM; clear hz
      refine zc <| qd ?_
      exact GS _ _ ⟨Gv, GL, GE, Le, hS.to [0] (by kernel_rfl) ⟨rfl, rfl, rfl, trivial⟩, Gz, GN, hM⟩
    ·refine wp_exit ?_
     refine qB (qB (qY (qd ?_)))
     exact G5 _ _ ⟨Gv, GL, hS.to [0] (by kernel_rfl) ⟨rfl, trivial⟩, Gz, GN, hM⟩
  ·intro a w hI
   obtain ⟨Gw, GK, hS, GO, Lb, hM⟩ := hI
   rw [q9.j4] at hM
   refine qp <| sM hS rfl fun hS => qO hS rfl Tryd.call40 (Qb hG K Gw (15 : Int) Gx Gy (GO.rdF (i := 0) rfl) (GO.cap (fun _ => rfl) rfl) (hS.st.part 0 [0] (by kernel_rfl)) (qE hM) (fun Lf Lg Lh GZ Lp w hM Li hst => qL hS.ev hst.appF rfl fun hS => ?_) (fun v w hk hst => jK (zX (⟨hS.ev.defs, hpan _ _ hk hst.appF.frame⟩))))
   replace hS : Ss _ _ _ H [GZ, GK] F _ _ := hS
   refine sM hS rfl fun hS => sO hS (ex rfl rfl) rfl fun hS => sO hS (ex rfl rfl) rfl fun hS => sA hS rfl fun hS => sA hS rfl fun hS => qF <| qp <| sM hS rfl fun hS => sA hS rfl fun hS => qF <| wp_ret ?_
   exact zm (rs := [2]) hS rfl rfl (hret Lf Lg Lh GZ Gw GK _ (qV hM) Li GO Lb (hS.st.pick [0, 1] (by kernel_rfl)))
theorem Zd {H : xR} {F : List qq} {w : World} {R : Ending → World → Prop} {kr : (List ql) → Prop} {kp : Value → Prop} (hG : Gl H) (K : Nat) (Gu : List Int) (GA : Option Addr) (GB : Nat) (Gz : jm H [] F (ci .i64) GA Gu) (LC : Gu.length ≤ GB)
    (hS : St w H [] F) (hm : (qT.m K Gu).wp kr kp)
    (hret : ∀ (GS : Option Addr) (GT : Nat) (GM : (List ql)) (GU : qq) (w : World), kr GM → (xa 75 ql.cells 3 GS GM GT GU) → St w H [GU] F → R (.returned (.slice GS GM.length GT)) w) :
    Calls Tryd.prog 39 ⟨[.slice GA Gu.length GB]⟩ w R := by
 refine enter Tryd.func39 rfl Tryd.ntmps39 rfl hS fun a w hS => ?_
 have hM := hm; clear hm
 rw [qT.m] at hM
 refine qp <| sA hS rfl fun hS => ?_
 obtain ⟨LE, LD, hS⟩ := hS.nilV 75 ql.cells 3
 refine qF <| qp <| sA hS rfl fun hS => ?_
 obtain ⟨Lk, GV, hS⟩ := hS.nilV 75 ql.cells 3
 refine qF <| wp_seq <| qp <| sA hS rfl fun hS => qF <| xw <| zk (fun GJ a w => ∃ (GD : Option Addr) (GE : Nat) (Gx : (List ql)) (GF : qq) (Gv : Int), Ss 93 [] [(0, .slice GA Gu.length GB), (3, .slice GD Gx.length GE), (4, .int .i64 Gv)] H [GF] F a w ∧ (xa 75 ql.cells 3 GD Gx GE GF) ∧ (qT.l1 K Gu GJ Gx Gv).wp kr kp) K ?_ ?_ ?_
 ·exact ⟨none, 0, ([] : List ql), Lk, (0 : Int), hS.to [0] (by kernel_rfl) ⟨rfl, rfl, rfl, trivial⟩, GV, hM⟩
 ·intro a w hI; obtain ⟨_, _, _, _, _, _, _, hM⟩ := hI; exact zj hM
 ·intro GJ a w hI LF GK
  obtain ⟨GD, GE, Gx, GF, Gv, hS, GG, hM⟩ := hI
  rw [qT.l1] at hM
  refine wp_seq <| qp <| sM hS rfl fun hS => sM hS rfl fun hS => sO hS (xY rfl Tryd.runUnderlying45) rfl fun hS => sB hS rfl fun hS => qF <| qv hS rfl hM (fun GW hM => ?_) (fun GW hM => ?_)
  ·refine wp_skip ?_
   refine qd <| xw <| qp <| sA hS rfl fun hS => qF <| zg (fun a w => ∃ (Gy : Int), Ss 93 [] [(0, .slice GA Gu.length GB), (3, .slice GD Gx.length GE), (4, .int .i64 Gv), (5, .int .i64 Gy)] H [GF] F a w ∧ (qT.j4 K (qT.l1 K Gu GJ) Gu Gx Gv Gy).wp kr kp) (fun LG GX => ?_) ?_
   ·refine xw ?_
    refine zk (fun GN a w => ∃ (Gw : Int), Ss 93 [] [(0, .slice GA Gu.length GB), (3, .slice GD Gx.length GE), (4, .int .i64 Gv), (5, .int .i64 Gw)] H [GF] F a w ∧ (qT.l2 K (qT.l1 K Gu GJ) Gu Gx Gv GN Gw).wp kr kp) K ?_ ?_ ?_
    ·exact ⟨(1 : Int), hS.to [0] (by kernel_rfl) ⟨rfl, rfl, rfl, rfl, trivial⟩, hM⟩
    ·intro a w hI; obtain ⟨_, _, hM⟩ := hI; exact zj hM
    ·intro GN a w hI LH GY
     obtain ⟨Gw, hS, hM⟩ := hI
     rw [qT.l2] at hM
     refine wp_seq <| zg (fun a w => ∃ (GO : Bool), Ss 93 [] [(0, .slice GA Gu.length GB), (3, .slice GD Gx.length GE), (4, .int .i64 Gv), (5, .int .i64 Gw), (28, .bool GO)] H [GF] F a w ∧ (qT.j3 K (qT.l1 K Gu GJ) (qT.l2 K (qT.l1 K Gu GJ) Gu Gx Gv GN) Gu Gx Gv Gw GO).wp kr kp) (fun LI GP => ?_) ?_
     ·refine Uh (b := (decide ((qh (Gv + Gw)) < (Gu.length : Int)))) hM (fun GL hM => ?_) (fun GL hM => ?_)
      ·obtain ⟨GQ, hM⟩ := qH hM
       obtain ⟨GR, hM⟩ := qH hM
       refine za (vals := [some (.int .i64 Gv), some (.int .i64 Gw), some (.int .i64 (qh (Gv + Gw))), some (.slice GA Gu.length GB), some (.int .i64 (Gu.length : Int)), some (.bool true), some (.bool true), some (.slice GA Gu.length GB), some (.int .i64 Gv), some (.int .i64 Gw), some (.int .i64 (qh (Gv + Gw))), some (xc GA (Int.toNat (qh (Gv + Gw)) * 1)), some (.int .i64 (rd Gu (qh (Gv + Gw)))), some (.slice GA Gu.length GB), some (.int .i64 Gv), some (xc GA (Int.toNat Gv * 1)), some (.int .i64 (rd Gu Gv)), some (.bool ((rd Gu (qh (Gv + Gw))) == (rd Gu Gv))), some (.bool ((rd Gu (qh (Gv + Gw))) == (rd Gu Gv)))]) hS xp rfl ?_
       intro l w ho hcl hA hst
       refine x3 hA hst ho hcl xo [0, 1, 2, 3, 4, 5, 6, 7, 8, 9, 10, 11, 12, 13, 14, 15, 16, 17, 18] rfl rfl rfl (by exact ⟨nM rfl, nM rfl, nB rfl, nM rfl, nQ rfl (by exact qU (xY rfl Tryd.runUnderlying45) rfl), nQ rfl (by exact qU (yU rfl rfl rfl) (congrArg Value.bool GL)), nM rfl, nW rfl rfl rfl rfl rfl rfl rfl rfl (by exact qU (mv rfl) rfl), nW rfl rfl rfl rfl rfl rfl rfl rfl (by exact qU (mv rfl) rfl), nW rfl rfl rfl rfl rfl rfl rfl rfl (by exact qU (mv rfl) rfl), nW rfl rfl rfl rfl rfl rfl rfl rfl (by exact qU (yU rfl rfl rfl) rfl), nW rfl rfl rfl rfl rfl rfl rfl rfl (by exact qU (xM rfl rfl Tryd.runUnderlying45 Tryd.sizeOf3 Gz.wk (fun _ => rfl) rfl GQ) rfl), nW rfl rfl rfl rfl rfl rfl rfl rfl (by exact qU (yd rfl Gz.wk (fun _ => rfl) GQ rfl Tryd.isAgg3) rfl), nW rfl rfl rfl rfl rfl rfl rfl rfl (by exact qU (mv rfl) rfl), nW rfl rfl rfl rfl rfl rfl rfl rfl (by exact qU (mv rfl) rfl), nW rfl rfl rfl rfl rfl rfl rfl rfl (by exact qU (xM rfl rfl Tryd.runUnderlying45 Tryd.sizeOf3 Gz.wk (fun _ => rfl) rfl GR) rfl), nW rfl rfl rfl rfl rfl rfl rfl rfl (by exact qU (yd rfl Gz.wk (fun _ => rfl) GR rfl Tryd.isAgg3) rfl), nW rfl rfl rfl rfl rfl rfl rfl rfl (by exact qU (yU rfl rfl rfl) rfl), nQ rfl (by exact qU (pk rfl rfl rfl) rfl), trivial⟩) fun a w hS => ?_
       replace hS := hS.env2 (e' := [(0, .slice GA Gu.length GB), (3, .slice GD Gx.length GE), (4, .int .i64 Gv), (5, .int .i64 Gw), (28, .bool ((rd Gu (qh (Gv + Gw))) == (rd Gu Gv)))]) ⟨rfl, rfl, rfl, rfl, rfl, trivial⟩
       refine qd ?_
       exact GP _ _ ⟨((rd Gu (qh (Gv + Gw))) == (rd Gu Gv)), hS.to [0] (by kernel_rfl) ⟨rfl, rfl, rfl, rfl, rfl, trivial⟩, hM⟩
      ·refine za (vals := [some (.int .i64 Gv), some (.int .i64 Gw), some (.int .i64 (qh (Gv + Gw))), some (.slice GA Gu.length GB), some (.int .i64 (Gu.length : Int)), some (.bool false), some (.bool false), some (undef), some (undef), some (undef), some (undef), some (undef), some (undef), some (undef), some (undef), some (undef), some (undef), some (undef), some (.bool false)]) hS xp rfl ?_
       intro l w ho hcl hA hst
       refine x3 hA hst ho hcl xo [0, 1, 2, 3, 4, 5, 6, 7, 8, 9, 10, 11, 12, 13, 14, 15, 16, 17, 18] rfl rfl rfl (by exact ⟨nM rfl, nM rfl, nB rfl, nM rfl, nQ rfl (by exact qU (xY rfl Tryd.runUnderlying45) rfl), nQ rfl (by exact qU (yU rfl rfl rfl) (congrArg Value.bool GL)), nM rfl, nS rfl rfl rfl rfl rfl rfl rfl rfl rfl, nS rfl rfl rfl rfl rfl rfl rfl rfl rfl, nS rfl rfl rfl rfl rfl rfl rfl rfl rfl, nS rfl rfl rfl rfl rfl rfl rfl rfl rfl, nS rfl rfl rfl rfl rfl rfl rfl rfl rfl, nS rfl rfl rfl rfl rfl rfl rfl rfl rfl, nS rfl rfl rfl rfl rfl rfl rfl rfl rfl, nS rfl rfl rfl rfl rfl rfl rfl rfl rfl, nS rfl rfl rfl rfl rfl rfl rfl rfl rfl, nS rfl rfl rfl rfl rfl rfl rfl rfl rfl, nS rfl rfl rfl rfl rfl rfl rfl rfl rfl, nQ rfl (by exact qU (pk rfl rfl rfl) rfl), trivial⟩) fun a w hS => ?_
       replace hS := hS.env2 (e' := [(0, .slice GA Gu.length GB), (3, .slice GD Gx.length GE), (4, .int .i64 Gv), (5, .int .i64 Gw), (28, .bool false)]) ⟨rfl, rfl, rfl, rfl, rfl, trivial⟩
       refine qd ?_
       exact GP _ _ ⟨false, hS.to [0] (by kernel_rfl) ⟨rfl, rfl, rfl, rfl, rfl, trivial⟩, hM⟩
     ·intro a w hI
      obtain ⟨GO, hS, hM⟩ := hI
      rw [qT.j3] at hM
      refine qv hS rfl hM (fun GZ hM => ?_) (fun GZ hM => ?_)
      ·refine wp_skip ?_
       refine qd <| xw <| zB <| sM hS rfl fun hS => sB hS rfl fun hS => zz (v := Value.int .i64) (x0 := (qh (Gw + (1 : Int)))) hS (xj rfl) rfl fun G0 a w hz hS => ?_
       have hM := qC hz hM; clear hz
       refine zc <| zr (qd ?_)
       exact GY _ _ ⟨G0, hS.to [0] (by kernel_rfl) ⟨rfl, rfl, rfl, rfl, trivial⟩, hM⟩
      ·refine wp_exit ?_
       refine qB (qB (qY (qd ?_)))
       exact GX _ _ ⟨Gw, hS.to [0] (by kernel_rfl) ⟨rfl, rfl, rfl, rfl, trivial⟩, hM⟩
   ·intro a w hI
    obtain ⟨Gy, hS, hM⟩ := hI
    rw [qT.j4] at hM
    refine wp_seq <| xw <| qp <| sM hS rfl fun hS => sM hS rfl fun hS => ?_
    obtain ⟨GC, hM⟩ := qH hM
    refine sO hS (xM rfl rfl Tryd.runUnderlying45 Tryd.sizeOf3 Gz.wk (fun _ => rfl) rfl GC) rfl fun hS => sO hS (yd rfl Gz.wk (fun _ => rfl) GC rfl Tryd.isAgg3) rfl fun hS => sB hS rfl fun hS => sM hS rfl fun hS => yo 2 true 45 (b := ((rd Gu Gv) == (0 : Int))) (r := (decide (Gy ≥ (11 : Int)))) hS rfl rfl rfl rfl rfl rfl rfl (fun hb a w hS K hK => ?_) rfl fun a w hS => ?_
    ·refine zL hS rfl rfl rfl hb (mv rfl) rfl fun a w hS => ?_
     refine zL hS rfl rfl rfl hb (yU rfl rfl rfl) rfl fun a w hS => ?_
     exact zc (hK _ _ (hS.up 2 rfl rfl))
    refine zz (v := Value.bool) (x0 := (((rd Gu Gv) == (0 : Int)) && (decide (Gy ≥ (11 : Int))))) hS (xj rfl) rfl fun LJ a w hz hS => ?_
    have hM := qC hz hM; clear hz
    refine qF <| qv hS rfl hM (fun G1 hM => ?_) (fun G1 hM => ?_)
    ·refine wp_seq ?_
     refine zB <| sM hS rfl fun hS => sO hS (V7 rfl rfl) rfl fun hS => zz (v := Value.int .i64) (x0 := (if (138 : Int) < Gy then (138 : Int) else Gy)) hS (xj rfl) rfl fun GH a w hz hS => ?_
     have hM := qC hz hM; clear hz
     refine qF <| zB <| sM hS rfl fun hS => sM hS rfl fun hS => sB hS rfl fun hS => sO hS (Zx ([.int .i64 (18 : Int), .int .i64 (qh (GH - (11 : Int))), .int .i64 (7 : Int)]) [(0, 1), (1, 1), (2, 1)] Tryd.zeroValue75 Tryd.runUnderlying75 (by intro w; simp [Tryd.sizeOf3]) rfl rfl) rfl fun hS => Xz (g := ql.cells) ([(ql.mk (18 : Int) (qh (GH - (11 : Int))) (7 : Int))] : List ql) [.agg ⟨[.int .i64 (18 : Int), .int .i64 (qh (GH - (11 : Int))), .int .i64 (7 : Int)]⟩] hS Tryd.runUnderlying72 Tryd.sizeOf75 X.el75 rfl rfl rfl (by simp [Value.cells]) rfl rfl rfl rfl rfl fun w LK LL LM G2 hS => ?_
     obtain ⟨G3, hM⟩ := qH hM
     refine X9 (ys := ([(ql.mk (18 : Int) (qh (GH - (11 : Int))) (7 : Int))] : List ql)) 1 hS rfl rfl GG rfl (G2.rd (i := 0) rfl) Tryd.runUnderlying72 Tryd.runUnderlying72 X.el75 (fun _ => rfl) rfl ZS G3 rfl fun G4 w Ll Lm Ln hz G5 hS => ?_
     have hM := qC hz hM; clear hz
     refine sA hS rfl fun hS => zc <| zr (qd ?_)
     refine zB <| sM hS rfl fun hS => sM hS rfl fun hS => sB hS rfl fun hS => zz (v := Value.int .i64) (x0 := (qh (Gv + GH))) hS (xj rfl) rfl fun Lo a w hz hS => ?_
     have hM := qC hz hM; clear hz
     refine zc <| zr (qd ?_)
     exact GK _ _ ⟨Ll, Lm, G4, Ln, Lo, hS.to [1] (by kernel_rfl) ⟨rfl, rfl, rfl, trivial⟩, G5, hM⟩
    ·refine wp_seq ?_
     refine zB <| sM hS rfl fun hS => sM hS rfl fun hS => sO hS (xM rfl rfl Tryd.runUnderlying45 Tryd.sizeOf3 Gz.wk (fun _ => rfl) rfl GC) rfl fun hS => sO hS (yd rfl Gz.wk (fun _ => rfl) GC rfl Tryd.isAgg3) rfl fun hS => sB hS rfl fun hS => sM hS rfl fun hS => yo 2 true 63 (b := ((rd Gu Gv) == (0 : Int))) (r := (decide (Gy ≥ (3 : Int)))) hS rfl rfl rfl rfl rfl rfl rfl (fun hb a w hS K hK => ?_) rfl fun a w hS => ?_
     ·refine zL hS rfl rfl rfl hb (mv rfl) rfl fun a w hS => ?_
      refine zL hS rfl rfl rfl hb (yU rfl rfl rfl) rfl fun a w hS => ?_
      exact zc (hK _ _ (hS.up 2 rfl rfl))
     refine zz (v := Value.bool) (x0 := (((rd Gu Gv) == (0 : Int)) && (decide (Gy ≥ (3 : Int))))) hS (xj rfl) rfl fun LN a w hz hS => ?_
     have hM := qC hz hM; clear hz
     refine qF <| qv hS rfl hM (fun G6 hM => ?_) (fun G6 hM => ?_)
     ·refine zB ?_
      refine sM hS rfl fun hS => sM hS rfl fun hS => sB hS rfl fun hS => sO hS (Zx ([.int .i64 (17 : Int), .int .i64 (qh (Gy - (3 : Int))), .int .i64 (3 : Int)]) [(0, 1), (1, 1), (2, 1)] Tryd.zeroValue75 Tryd.runUnderlying75 (by intro w; simp [Tryd.sizeOf3]) rfl rfl) rfl fun hS => Xz (g := ql.cells) ([(ql.mk (17 : Int) (qh (Gy - (3 : Int))) (3 : Int))] : List ql) [.agg ⟨[.int .i64 (17 : Int), .int .i64 (qh (Gy - (3 : Int))), .int .i64 (3 : Int)]⟩] hS Tryd.runUnderlying72 Tryd.sizeOf75 X.el75 rfl rfl rfl (by simp [Value.cells]) rfl rfl rfl rfl rfl fun w LO LP LQ G7 hS => ?_
      obtain ⟨G8, hM⟩ := qH hM
      refine X9 (ys := ([(ql.mk (17 : Int) (qh (Gy - (3 : Int))) (3 : Int))] : List ql)) 1 hS rfl rfl GG rfl (G7.rd (i := 0) rfl) Tryd.runUnderlying72 Tryd.runUnderlying72 X.el75 (fun _ => rfl) rfl ZS G8 rfl fun G9 w Lp Lq Lr hz La hS => ?_
      have hM := qC hz hM; clear hz
      refine sA hS rfl fun hS => zc <| zr (qd ?_)
      refine zB <| sM hS rfl fun hS => sM hS rfl fun hS => sB hS rfl fun hS => zz (v := Value.int .i64) (x0 := (qh (Gv + Gy))) hS (xj rfl) rfl fun Lt a w hz hS => ?_
      have hM := qC hz hM; clear hz
      refine zc <| zr (qd ?_)
      exact GK _ _ ⟨Lp, Lq, G9, Lr, Lt, hS.to [1] (by kernel_rfl) ⟨rfl, rfl, rfl, trivial⟩, La, hM⟩
     ·refine wp_seq ?_
      refine zB <| sM hS rfl fun hS => sB hS rfl fun hS => zz (v := Value.bool) (x0 := (decide (Gy ≥ (4 : Int)))) hS (xj rfl) rfl fun LR a w hz hS => ?_
      have hM := qC hz hM; clear hz
      refine qF <| qv hS rfl hM (fun Lb hM => ?_) (fun Lb hM => ?_)
      ·refine wp_seq ?_
       refine zB <| sM hS rfl fun hS => sO hS (V7 rfl rfl) rfl fun hS => zz (v := Value.int .i64) (x0 := (if (7 : Int) < Gy then (7 : Int) else Gy)) hS (xj rfl) rfl fun GI a w hz hS => ?_
       have hM := qC hz hM; clear hz
       refine qF <| zB <| sM hS rfl fun hS => sM hS rfl fun hS => sM hS rfl fun hS => sO hS (xM rfl rfl Tryd.runUnderlying45 Tryd.sizeOf3 Gz.wk (fun _ => rfl) rfl GC) rfl fun hS => sO hS (yd rfl Gz.wk (fun _ => rfl) GC rfl Tryd.isAgg3) rfl fun hS => sO hS (Zx ([.int .i64 (rd Gu Gv), .int .i64 (0 : Int), .int .i64 (0 : Int)]) [(0, 1), (1, 1), (2, 1)] Tryd.zeroValue75 Tryd.runUnderlying75 (by intro w; simp [Tryd.sizeOf3]) rfl rfl) rfl fun hS => sM hS rfl fun hS => sB hS rfl fun hS => sO hS (Zx ([.int .i64 (16 : Int), .int .i64 (qh (GI - (4 : Int))), .int .i64 (2 : Int)]) [(0, 1), (1, 1), (2, 1)] Tryd.zeroValue75 Tryd.runUnderlying75 (by intro w; simp [Tryd.sizeOf3]) rfl rfl) rfl fun hS => Xz (g := ql.cells) ([(ql.mk (rd Gu Gv) (0 : Int) (0 : Int)), (ql.mk (16 : Int) (qh (GI - (4 : Int))) (2 : Int))] : List ql) [.agg ⟨[.int .i64 (rd Gu Gv), .int .i64 (0 : Int), .int .i64 (0 : Int)]⟩, .agg ⟨[.int .i64 (16 : Int), .int .i64 (qh (GI - (4 : Int))), .int .i64 (2 : Int)]⟩] hS Tryd.runUnderlying72 Tryd.sizeOf75 X.el75 rfl rfl rfl (by simp [Value.cells]) rfl rfl rfl rfl rfl fun w LS LT LU Lc hS => ?_
       obtain ⟨Ld, hM⟩ := qH hM
       refine X9 (ys := ([(ql.mk (rd Gu Gv) (0 : Int) (0 : Int)), (ql.mk (16 : Int) (qh (GI - (4 : Int))) (2 : Int))] : List ql)) 1 hS rfl rfl GG rfl (Lc.rd (i := 0) rfl) Tryd.runUnderlying72 Tryd.runUnderlying72 X.el75 (fun _ => rfl) rfl ZS Ld rfl fun Le w Lu Lv Lw hz Lf hS => ?_
       have hM := qC hz hM; clear hz
       refine sA hS rfl fun hS => zc <| zr (qd ?_)
       refine zB <| sM hS rfl fun hS => sM hS rfl fun hS => sB hS rfl fun hS => zz (v := Value.int .i64) (x0 := (qh (Gv + GI))) hS (xj rfl) rfl fun Lx a w hz hS => ?_
       have hM := qC hz hM; clear hz
       refine zc <| zr (qd ?_)
       exact GK _ _ ⟨Lu, Lv, Le, Lw, Lx, hS.to [1] (by kernel_rfl) ⟨rfl, rfl, rfl, trivial⟩, Lf, hM⟩
      ·refine wp_seq ?_
       refine zB <| sA hS rfl fun hS => qF <| zB <| sM hS rfl fun hS => sM hS rfl fun hS => sM hS rfl fun hS => sO hS (xM rfl rfl Tryd.runUnderlying45 Tryd.sizeOf3 Gz.wk (fun _ => rfl) rfl GC) rfl fun hS => sO hS (yd rfl Gz.wk (fun _ => rfl) GC rfl Tryd.isAgg3) rfl fun hS => sO hS (Zx ([.int .i64 (rd Gu Gv), .int .i64 (0 : Int), .int .i64 (0 : Int)]) [(0, 1), (1, 1), (2, 1)] Tryd.zeroValue75 Tryd.runUnderlying75 (by intro w; simp [Tryd.sizeOf3]) rfl rfl) rfl fun hS => Xz (g := ql.cells) ([(ql.mk (rd Gu Gv) (0 : Int) (0 : Int))] : List ql) [.agg ⟨[.int .i64 (rd Gu Gv), .int .i64 (0 : Int), .int .i64 (0 : Int)]⟩] hS Tryd.runUnderlying72 Tryd.sizeOf75 X.el75 rfl rfl rfl (by simp [Value.cells]) rfl rfl rfl rfl rfl fun w LV LW LX Lg hS => ?_
       obtain ⟨Lh, hM⟩ := qH hM
       refine X9 (ys := ([(ql.mk (rd Gu Gv) (0 : Int) (0 : Int))] : List ql)) 1 hS rfl rfl GG rfl (Lg.rd (i := 0) rfl) Tryd.runUnderlying72 Tryd.runUnderlying72 X.el75 (fun _ => rfl) rfl ZS Lh rfl fun Li w Ly Lz LA hz Lj hS => ?_
       have hM := qC hz hM; clear hz
       refine sA hS rfl fun hS => zc <| zr (qd ?_)
       refine zB <| sM hS rfl fun hS => sM hS rfl fun hS => sB hS rfl fun hS => zz (v := Value.int .i64) (x0 := (qh (Gv + (1 : Int)))) hS (xj rfl) rfl fun LB a w hz hS => ?_
       have hM := qC hz hM; clear hz
       refine zc <| zr (qd ?_)
       exact GK _ _ ⟨Ly, Lz, Li, LA, LB, hS.to [1] (by kernel_rfl) ⟨rfl, rfl, rfl, trivial⟩, Lj, hM⟩
  ·refine wp_exit ?_
   refine qB (qB (qY (qd ?_)))
   refine qp <| sM hS rfl fun hS => sA hS rfl fun hS => qF <| wp_ret ?_
   exact zm (rs := [2]) hS rfl rfl (hret GD GE Gx GF _ (qV hM) GG (hS.st.pick [0] (by kernel_rfl)))
theorem ui {H : xR} {F : List qq} {w : World} {R : Ending → World → Prop} {kr : (Int × (List Int)) → Prop} {kp : Value → Prop} (hG : Gl H) (K : Nat) (Gu : qt) (Gv : qx) (Gw : Int) (Gz : Nat) (GX : qq) (GY : Option Addr) (GZ : Nat) (G0 : qq) (GH : Option Addr) (GI : Nat) (GD : qq) (GJ : Option Addr) (GK : Nat) (GE : qq) (GL : Option Addr) (GM : Nat) (GF : qq) (GN : Option Addr) (GO : Nat) (GG : qq) (G1 : Option Addr) (G2 : Nat) (GC : Option Addr) (GP : Nat) (Lj : xZ GX Gz ([.int .i64 Gu.Writer_.place_.at_, .slice GY Gu.Writer_.bytes_.length GZ, .slice GH Gu.literals_.lengths_.length GI, .slice GJ Gu.literals_.codes_.length GK, .slice GL Gu.distances_.lengths_.length GM, .slice GN Gu.distances_.codes_.length GO]) 49) (Lk : xa 5 (ci .u8) 1 GY Gu.Writer_.bytes_ GZ G0) (Ll : xa 3 (ci .i64) 1 GH Gu.literals_.lengths_ GI GD) (Lm : xa 3 (ci .i64) 1 GJ Gu.literals_.codes_ GK GE) (Ln : xa 3 (ci .i64) 1 GL Gu.distances_.lengths_ GM GF) (Lo : xa 3 (ci .i64) 1 GN Gu.distances_.codes_ GO GG) (G3 : jm H [] F (ci .i64) G1 Gv.lengths_) (LA : Gv.lengths_.length ≤ G2) (G4 : jm H [] F (ci .i64) GC Gv.codes_) (LB : Gv.codes_.length ≤ GP)
    (hS : St w H [GX, G0, GD, GE, GF, GG] F) (hm : (zR.m K Gu Gv Gw).wp kr kp)
    (hret : ∀ (GU : Int) (Lb : Option Addr) (Lc : Nat) (GB : (List Int)) (Ld : qq) (Le : qq) (w : World), kr (GU, GB) → (xa 5 (ci .u8) 1 Lb GB Lc Ld) → (xZ Le Gz ([.int .i64 GU, .slice Lb GB.length Lc, .slice GH Gu.literals_.lengths_.length GI, .slice GJ Gu.literals_.codes_.length GK, .slice GL Gu.distances_.lengths_.length GM, .slice GN Gu.distances_.codes_.length GO]) 49) → St w H [Le, Ld, GD, GE, GF, GG] F → R (.returned (.tuple ⟨[]⟩)) w) :
    Calls Tryd.prog 41 ⟨[qS Gz 0, .agg ⟨[.slice G1 Gv.lengths_.length G2, .slice GC Gv.codes_.length GP]⟩, .int .i64 Gw]⟩ w R := by
 refine enter Tryd.func41 rfl Tryd.ntmps41 rfl hS fun a w hS => ?_
 have hM := hm; clear hm
 rw [zR.m] at hM
 refine qp <| bx ([.slice G1 Gv.lengths_.length G2, .slice GC Gv.codes_.length GP]) hS rfl rfl rfl fun w GV Lf G5 hS => qF <| qp <| sO hS (xu rfl Tryd.runUnderlying47 rfl Tryd.sizeOf45 rfl) rfl fun hS => sO hS (xW 0 rfl G5 rfl rfl Tryd.isAgg45) rfl fun hS => sM hS rfl fun hS => ?_
 obtain ⟨G6, hM⟩ := qH hM
 refine sO hS (xM rfl rfl Tryd.runUnderlying45 Tryd.sizeOf3 G3.wk (fun _ => rfl) rfl G6) rfl fun hS => sO hS (yd rfl G3.wk (fun _ => rfl) G6 rfl Tryd.isAgg3) rfl fun hS => sB hS rfl fun hS => zz (v := Value.int .i64) (x0 := (qh ((rd Gv.lengths_ Gw) - (1 : Int)))) hS (xj rfl) rfl fun Lt a w hz hS => ?_
 have hM := qC hz hM; clear hz
 refine qF <| xw <| zk (fun Lg a w => ∃ (GA : Int) (GQ : Option Addr) (GR : Nat) (Gx : (List Int)) (GS : qq) (GT : qq) (Gy : Int), Ss 30 [] [(0, qS Gz 0), (2, .int .i64 Gw), (4, qS GV 0), (6, .int .i64 Gy)] H [GT, GS, GD, GE, GF, GG, Lf] F a w ∧ (xa 5 (ci .u8) 1 GQ Gx GR GS) ∧ (xZ GT Gz ([.int .i64 GA, .slice GQ Gx.length GR, .slice GH Gu.literals_.lengths_.length GI, .slice GJ Gu.literals_.codes_.length GK, .slice GL Gu.distances_.lengths_.length GM, .slice GN Gu.distances_.codes_.length GO]) 49) ∧ (zR.l1 K Gu Gv Gw Lg GA Gx Gy).wp kr kp) K ?_ ?_ ?_
 ·exact ⟨Gu.Writer_.place_.at_, GY, GZ, Gu.Writer_.bytes_, G0, GX, Lt, hS.to [1, 2, 3, 4, 5, 6, 0] (by kernel_rfl) ⟨rfl, rfl, rfl, rfl, trivial⟩, Lk, Lj, hM⟩
 ·intro a w hI; obtain ⟨_, _, _, _, _, _, _, _, _, _, hM⟩ := hI; exact zj hM
 ·intro Lg a w hI LC Lp
  obtain ⟨GA, GQ, GR, Gx, GS, GT, Gy, hS, G7, G8, hM⟩ := hI
  rw [zR.l1] at hM
  refine wp_seq <| qp <| sM hS rfl fun hS => sB hS rfl fun hS => qF <| qv hS rfl hM (fun Lq hM => ?_) (fun Lq hM => ?_)
  ·refine wp_skip ?_
   refine qd <| wp_seq <| xw ?_
   obtain ⟨G9, hM⟩ := qH hM
   obtain ⟨Lr, hM⟩ := qH hM
   refine za (vals := [some (qS Gz 0), some (qS Gz 0), some (qS Gz 0), some (qS GV 1), some (.slice GC Gv.codes_.length GP), some (.int .i64 Gw), some (xc GC (Int.toNat Gw * 1)), some (.int .i64 (rd Gv.codes_ Gw)), some (.int .i64 Gy), some (.int .i64 (xC .i64 (rd Gv.codes_ Gw) Gy)), some (.int .i64 (x8 .i64 (xC .i64 (rd Gv.codes_ Gw) Gy) (1 : Int))), some (.int .u32 (wr .u32 (x8 .i64 (xC .i64 (rd Gv.codes_ Gw) Gy) (1 : Int)))), none]) hS xp rfl ?_
   intro l w ho hcl hA hst
   refine jn hA hst ho hcl xv xo 12 [0, 1, 2, 3, 4, 5, 6, 7, 8, 9, 10, 11] rfl rfl rfl rfl rfl (by exact ⟨nM rfl, nQ rfl (by exact qU (yx rfl) rfl), nQ rfl (by exact qU (xu rfl Tryd.runUnderlying49 rfl Tryd.sizeOf44 rfl) rfl), nQ rfl (by exact qU (xu rfl Tryd.runUnderlying47 rfl Tryd.sizeOf45 rfl) rfl), nQ rfl (by exact qU (xW 6 rfl G5 rfl rfl Tryd.isAgg45) rfl), nM rfl, nQ rfl (by exact qU (xM rfl rfl Tryd.runUnderlying45 Tryd.sizeOf3 G4.wk (fun _ => rfl) rfl G9) rfl), nQ rfl (by exact qU (yd rfl G4.wk (fun _ => rfl) G9 rfl Tryd.isAgg3) rfl), nM rfl, nQ rfl (by exact qU (shr rfl rfl Lr) rfl), nB rfl, nQ rfl (by exact qU (vZ rfl Tryd.runUnderlying3 Tryd.runUnderlying53) rfl), trivial⟩) fun D l a w ho hcl hav hpre hm hE hk hA hst => ?_
   have hS := (Ss.mk hE hst).env2 (e' := [(19, qS Gz 0), (28, .int .u32 (wr .u32 (x8 .i64 (xC .i64 (rd Gv.codes_ Gw) Gy) (1 : Int))))]) ⟨rfl, rfl, trivial⟩
   refine q7 rfl <| qO hS rfl Tryd.call23 (zo hG K (qt.mk (qW.mk (q8.mk GA) Gx) Gu.literals_ Gu.distances_) (wr .u32 (x8 .i64 (xC .i64 (rd Gv.codes_ Gw) Gy) (1 : Int))) (1 : Int) Gz GT GQ GR GS GH GI GD GJ GK GE GL GM GF GN GO GG G8 G7 Ll Lm Ln Lo (hS.st.part 6 [0, 1, 2, 3, 4, 5, 6] (by kernel_rfl)) (qE hM) (fun Lu La Lv Lw GW Lh Li w hM Lx Ly hst => qL hS.ev hst.appF rfl fun hS => ?_))
   replace hS : Ss _ _ _ H [Li, Lh, GD, GE, GF, GG, Lf] F _ _ := hS
   refine qF ?_
   replace hst := hS.st
   obtain ⟨hcl, hmust, hav2, hA⟩ := dn (vals' := [some (qS Gz 0), some (qS Gz 0), some (qS Gz 0), some (qS GV 1), some (.slice GC Gv.codes_.length GP), some (.int .i64 Gw), some (xc GC (Int.toNat Gw * 1)), some (.int .i64 (rd Gv.codes_ Gw)), some (.int .i64 Gy), some (.int .i64 (xC .i64 (rd Gv.codes_ Gw) Gy)), some (.int .i64 (x8 .i64 (xC .i64 (rd Gv.codes_ Gw) Gy) (1 : Int))), some (.int .u32 (wr .u32 (x8 .i64 (xC .i64 (rd Gv.codes_ Gw) Gy) (1 : Int)))), some (.int .i64 Lu)]) 12 [(2, 12), (11, 12), (1, 2), (10, 11), (0, 1), (9, 10), (7, 9), (8, 9), (6, 7), (4, 6), (5, 6), (3, 4)] hA hcl hav hm hpre hk rfl rfl rfl rfl rfl rfl rfl
   clear hm hav
   refine x3 hA hst ho hcl hmust [] rfl rfl rfl trivial fun a w hS => ?_
   replace hS := hS.env2 (e' := [(0, qS Gz 0), (2, .int .i64 Gw), (4, qS GV 0), (6, .int .i64 Gy)]) ⟨rfl, rfl, rfl, rfl, trivial⟩
   refine zr (qd ?_)
   refine zB <| sM hS rfl fun hS => sB hS rfl fun hS => zz (v := Value.int .i64) (x0 := (qh (Gy - (1 : Int)))) hS (xj rfl) rfl fun Lz a w hz hS => ?_
   have hM := qC hz hM; clear hz
   refine zc <| qd ?_
   exact Lp _ _ ⟨La, Lv, Lw, GW, Lh, Li, Lz, hS.to [0, 1, 2, 3, 4, 5, 6] (by kernel_rfl) ⟨rfl, rfl, rfl, rfl, trivial⟩, Lx, Ly, hM⟩
  ·refine wp_exit ?_
   refine qB (qB (qY ?_))
   exact y4 (rs := []) hS rfl rfl (hret GA GQ GR Gx GS GT _ (qV hM) G7 G8 (hS.st.pick [0, 1, 2, 3, 4, 5] (by kernel_rfl)))
theorem jC {H : xR} {F : List qq} {w : World} {R : Ending → World → Prop} {kr : ((List UInt8) × Int) → Prop} {kp : Value → Prop} (hG : Gl H) (K : Nat) (Gw : List qr) (GP : Option Addr) (GQ : Nat) (LS : jm H [] F qr.cells GP Gw) (M0 : Gw.length ≤ GQ)
    (hS : St w H [] F) (hm : (qj.m K Gw).wp kr kp)
    (hret : ∀ (NI : List UInt8) (NJ : Int) (w : World), kr (NI, NJ) → St w H [] F → R (.returned (.tuple ⟨[yc NI, .int .i64 NJ]⟩)) w)
    (hpan : ∀ v w, kp v → St w H [] F → R (.panicked [⟨v, false, false⟩]) w) :
    Calls Tryd.prog 14 ⟨[.slice GP Gw.length GQ]⟩ w R := by
 refine enter Tryd.func14 rfl Tryd.ntmps14 rfl hS fun a w hS => ?_
 have hM := hm; clear hm
 rw [qj.m] at hM
 refine qp <| sA hS rfl fun hS => sA hS rfl fun hS => qF <| wp_seq <| qp <| sM hS rfl fun hS => qO hS rfl Tryd.call21 (Qh hG K Gw GP GQ (LS.app _) M0 (hS.st.part 0 [] (by kernel_rfl)) (qE hM) (fun S1 w hM  hst => qL hS.ev hst.appF rfl fun hS => ?_))
 replace hS : Ss _ _ _ H [] F _ _ := hS
 refine sO hS (un rfl rfl) rfl fun hS => qF <| qv hS rfl hM (fun N9 hM => ?_) (fun N9 hM => ?_)
 ·refine wp_seq ?_
  refine zB <| sA hS rfl fun hS => sA hS rfl fun hS => qF <| wp_ret <| qz ?_
  exact zm (rs := [2, 3]) hS rfl rfl (hret ([] : List UInt8) (1 : Int) _ (qV hM) (hS.st.pick [] (by kernel_rfl)))
 ·refine wp_skip ?_
  refine qd <| zg (fun a w => ∃ (GN : Option Addr) (GO : Nat) (GJ : (List Int)) (M3 : qq) (G0 : Option Addr) (G1 : Nat) (GX : (List Int)) (Mt : qq), Ss 196 [] [(0, .slice GP Gw.length GQ), (4, .slice GN GJ.length GO), (5, .slice G0 GX.length G1)] H [M3, Mt] F a w ∧ (xa 3 (ci .i64) 1 GN GJ GO M3) ∧ (xa 3 (ci .i64) 1 G0 GX G1 Mt) ∧ (qj.j1 K Gw GJ GX).wp kr kp) (fun S2 M4 => ?_) ?_
  ·refine za (vals := [none, none, none, none]) hS xp rfl ?_
   intro l w ho hcl hA hst
   obtain ⟨M5, hM⟩ := qH hM
   obtain ⟨Lc, Mj⟩ := jh (List.replicate (Int.toNat (286 : Int)) (0 : Int))
   replace hM := qC Mj hM
   obtain ⟨M6, hM⟩ := qH hM
   obtain ⟨Lh, Mk⟩ := jh (List.replicate (Int.toNat (30 : Int)) (0 : Int))
   replace hM := qC Mk hM
   refine BV (vals := [none, none, none, none]) 0 1 [] [] rfl rfl rfl rfl rfl trivial (fun D l a w ho hcl hav hpre hm hE hk hA hst => ?_) (fun D l a w ho hcl hav hpre hm hE hk hA hst => ?_) ho hcl xv xo List.not_mem_nil List.not_mem_nil hA hst
   ·have hS := (Ss.mk hE hst).env2 (e' := []) trivial
    refine q7 rfl <| Ug (g := (ci .i64)) (m := (286 : Int)) (0 : Int) hS rfl rfl (by simp) Tryd.runUnderlying45 X.el3 (fun w => ⟨_, Tryd.zeroValue3 w, rfl⟩) (fun _ => rfl) rfl rfl M5 rfl fun ST w LK LL P0 hz Pa hS => ?_
    rw [← Mj] at hz; replace hz := hz.symm; subst hz
    refine qF ?_
    replace hst := hS.st
    obtain ⟨hcl, hmust, hav2, hA⟩ := dn (vals' := [some (.slice LK Lc.length LL), none, some (.slice LK Lc.length LL), none]) 0 [] hA hcl hav hm hpre hk rfl rfl rfl rfl rfl rfl rfl
    clear hm hav
    refine jn hA hst ho hcl hav2 hmust 1 [2] rfl rfl rfl rfl rfl (by exact ⟨nA rfl, trivial⟩) fun D l a w ho hcl hav hpre hm hE hk hA hst => ?_
    have hS := (Ss.mk hE hst).env2 (e' := []) trivial
    refine q7 rfl <| Ug (g := (ci .i64)) (m := (30 : Int)) (0 : Int) hS rfl rfl (by simp) Tryd.runUnderlying45 X.el3 (fun w => ⟨_, Tryd.zeroValue3 w, rfl⟩) (fun _ => rfl) rfl rfl M6 rfl fun SU w Mu Mv P1 hz Pb hS => ?_
    rw [← Mk] at hz; replace hz := hz.symm; subst hz
    refine qF ?_
    replace hst := hS.st
    obtain ⟨hcl, hmust, hav2, hA⟩ := dn (vals' := [some (.slice LK Lc.length LL), some (.slice Mu Lh.length Mv), some (.slice LK Lc.length LL), some (.slice Mu Lh.length Mv)]) 1 [] hA hcl hav hm hpre hk rfl rfl rfl rfl rfl rfl rfl
    clear hm hav
    refine x3 hA hst ho hcl hmust [2, 3] rfl rfl rfl (by exact ⟨nA rfl, nA rfl, trivial⟩) fun a w hS => ?_
    replace hS := hS.env2 (e' := [(0, .slice GP Gw.length GQ), (4, .slice LK Lc.length LL), (5, .slice Mu Lh.length Mv)]) ⟨rfl, rfl, rfl, trivial⟩
    refine qd ?_
    exact M4 _ _ ⟨LK, LL, Lc, P0, Mu, Mv, Lh, P1, hS.to [1, 0] (by kernel_rfl) ⟨rfl, rfl, rfl, trivial⟩, Pa, Pb, hM⟩
   ·have hS := (Ss.mk hE hst).env2 (e' := []) trivial
    refine q7 rfl <| Ug (g := (ci .i64)) (m := (30 : Int)) (0 : Int) hS rfl rfl (by simp) Tryd.runUnderlying45 X.el3 (fun w => ⟨_, Tryd.zeroValue3 w, rfl⟩) (fun _ => rfl) rfl rfl M6 rfl fun SV w L4 L5 P2 hz Pc hS => ?_
    rw [← Mk] at hz; replace hz := hz.symm; subst hz
    refine qF ?_
    replace hst := hS.st
    obtain ⟨hcl, hmust, hav2, hA⟩ := dn (vals' := [none, some (.slice L4 Lh.length L5), none, none]) 1 [] hA hcl hav hm hpre hk rfl rfl rfl rfl rfl rfl rfl
    clear hm hav
    refine jn hA hst ho hcl hav2 hmust 0 [] rfl rfl rfl rfl rfl trivial fun D l a w ho hcl hav hpre hm hE hk hA hst => ?_
    have hS := (Ss.mk hE hst).env2 (e' := []) trivial
    refine q7 rfl <| Ug (g := (ci .i64)) (m := (286 : Int)) (0 : Int) hS rfl rfl (by simp) Tryd.runUnderlying45 X.el3 (fun w => ⟨_, Tryd.zeroValue3 w, rfl⟩) (fun _ => rfl) rfl rfl M5 rfl fun SW w Mw Mx P3 hz Pd hS => ?_
    rw [← Mj] at hz; replace hz := hz.symm; subst hz
    refine qF ?_
    replace hst := hS.st
    obtain ⟨hcl, hmust, hav2, hA⟩ := dn (vals' := [some (.slice Mw Lc.length Mx), some (.slice L4 Lh.length L5), some (.slice Mw Lc.length Mx), some (.slice L4 Lh.length L5)]) 0 [] hA hcl hav hm hpre hk rfl rfl rfl rfl rfl rfl rfl
    clear hm hav
    refine x3 hA hst ho hcl hmust [2, 3] rfl rfl rfl (by exact ⟨nA rfl, nA rfl, trivial⟩) fun a w hS => ?_
    replace hS := hS.env2 (e' := [(0, .slice GP Gw.length GQ), (4, .slice Mw Lc.length Mx), (5, .slice L4 Lh.length L5)]) ⟨rfl, rfl, rfl, trivial⟩
    refine qd ?_
    exact M4 _ _ ⟨Mw, Mx, Lc, P3, L4, L5, Lh, P2, hS.to [0, 1] (by kernel_rfl) ⟨rfl, rfl, rfl, trivial⟩, Pd, Pc, hM⟩
  ·intro a w hI
   obtain ⟨GN, GO, GJ, M3, G0, G1, GX, Mt, hS, LT, Pe, hM⟩ := hI
   rw [qj.j1] at hM
   refine qp <| sM hS rfl fun hS => ?_
   obtain ⟨LU, hM⟩ := qH hM
   refine sO hS (xM rfl rfl Tryd.runUnderlying45 Tryd.sizeOf3 (LT.rd (i := 0) rfl) (fun _ => rfl) rfl LU) rfl fun hS => sO hS (yd rfl (LT.rd (i := 0) rfl) (fun _ => rfl) LU rfl Tryd.isAgg3) rfl fun hS => sB hS rfl fun hS => sO hS (xM rfl rfl Tryd.runUnderlying45 Tryd.sizeOf3 (LT.rd (i := 0) rfl) (fun _ => rfl) rfl LU) rfl fun hS => Xk (i := (256 : Int)) (sz := 1) 0 0 ((qh ((rd GJ (256 : Int)) + (1 : Int)))) hS rfl rfl LT rfl Tryd.sizeOf3 (xF (qh ((rd GJ (256 : Int)) + (1 : Int)))) (fun _ => rfl) LU rfl rfl fun Ml w P4 hz M7 Pf hS => ?_
   have hM := qC hz hM; clear hz
   replace hS := hS.re 4 (u := .slice GN GJ.length GO) (v := .slice GN Ml.length GO) rfl (by rw [M7])
   replace hS := hS.re 28 (u := .slice GN GJ.length GO) (v := .slice GN Ml.length GO) rfl (by rw [M7])
   refine qF <| zg (fun a w => ∃ (GM : (List Int)) (My : qq) (GK : (List Int)) (LM : qq), Ss 196 [] [(0, .slice GP Gw.length GQ), (4, .slice GN GM.length GO), (5, .slice G0 GK.length G1)] H [My, LM] F a w ∧ (xa 3 (ci .i64) 1 GN GM GO My) ∧ (xa 3 (ci .i64) 1 G0 GK G1 LM) ∧ (qj.j3 K Gw GM GK).wp kr kp) (fun S3 Pg => ?_) ?_
   ·refine wp_seq ?_
    refine zB <| sM hS rfl fun hS => sO hS (xY rfl Tryd.runUnderlying25) rfl fun hS => sM hS rfl fun hS => qF <| xw <| zk (fun NK a w => ∃ (GA : (List Int)) (L6 : qq) (GC : (List Int)) (LF : qq) (G2 : Int), Ss 196 [] [(0, .slice GP Gw.length GQ), (4, .slice GN GA.length GO), (5, .slice G0 GC.length G1), (33, .slice GP Gw.length GQ), (34, .int .i64 (Gw.length : Int)), (35, .int .i64 G2)] H [L6, LF] F a w ∧ (xa 3 (ci .i64) 1 GN GA GO L6) ∧ (xa 3 (ci .i64) 1 G0 GC G1 LF) ∧ (qj.l2 K Gw NK GA GC G2).wp kr kp) K ?_ ?_ ?_
    ·exact ⟨Ml, P4, GX, Mt, (0 : Int), hS.to [0, 1] (by kernel_rfl) ⟨rfl, rfl, rfl, rfl, rfl, rfl, trivial⟩, Pf, Pe, hM⟩
    ·intro a w hI; obtain ⟨_, _, _, _, _, _, _, _, hM⟩ := hI; exact zj hM
    ·intro NK a w hI S4 M8
     obtain ⟨GA, L6, GC, LF, G2, hS, Li, LB, hM⟩ := hI
     rw [qj.l2] at hM
     refine qp <| sB hS rfl fun hS => qF <| wp_seq <| qv hS rfl hM (fun Ph hM => ?_) (fun Ph hM => ?_)
     ·refine wp_skip ?_
      refine qd <| wp_seq <| xw <| wp_seq <| zB ?_
      obtain ⟨M9, hM⟩ := qH hM
      refine sO hS (xM rfl rfl Tryd.runUnderlying25 Tryd.sizeOf32 LS.wk (fun _ => rfl) rfl M9) rfl fun hS => sO hS (yL rfl LS.wk (fun _ => rfl) M9 Tryd.isAgg32 Tryd.sizeOf32 rfl) rfl fun hS => Qs ([.int .u8 (0 : Int), .int .i64 (0 : Int), .int .i64 (0 : Int)]) hS Tryd.zeroValue32 rfl rfl fun w S5 S6 Pi hS => uz 0 ([.int .u8 ((rd Gw G2).Lit_), .int .i64 ((rd Gw G2).Len_), .int .i64 ((rd Gw G2).Dist_)]) ([.int .u8 ((rd Gw G2).Lit_), .int .i64 ((rd Gw G2).Len_), .int .i64 ((rd Gw G2).Dist_)]) hS rfl rfl Pi rfl rfl Tryd.sizeOf32 (by simp [Value.oneCell']) (Nat.le_of_ble_eq_true rfl) rfl fun w NL LV hS => qF <| qp <| sO hS (xu rfl Tryd.runUnderlying32 rfl Tryd.sizeOf3 rfl) rfl fun hS => sO hS (xW 0 rfl LV rfl rfl Tryd.isAgg3) rfl fun hS => sB hS rfl fun hS => qF <| qv hS rfl hM (fun Pj hM => ?_) (fun Pj hM => ?_)
      ·refine zB ?_
       refine sM hS rfl fun hS => sO hS (xu rfl Tryd.runUnderlying32 rfl Tryd.sizeOf5 rfl) rfl fun hS => sO hS (xW 0 rfl LV rfl rfl Tryd.isAgg5) rfl fun hS => ?_
       obtain ⟨LW, hM⟩ := qH hM
       refine sO hS (xM rfl rfl Tryd.runUnderlying45 Tryd.sizeOf3 (Li.rd (i := 1) rfl) (fun _ => rfl) rfl LW) rfl fun hS => sO hS (yd rfl (Li.rd (i := 1) rfl) (fun _ => rfl) LW rfl Tryd.isAgg3) rfl fun hS => sB hS rfl fun hS => sO hS (xM rfl rfl Tryd.runUnderlying45 Tryd.sizeOf3 (Li.rd (i := 1) rfl) (fun _ => rfl) rfl LW) rfl fun hS => Xk (i := (rd Gw G2).Lit_) (sz := 1) 1 0 ((qh ((rd GA (rd Gw G2).Lit_) + (1 : Int)))) hS rfl rfl Li rfl Tryd.sizeOf3 (xF (qh ((rd GA (rd Gw G2).Lit_) + (1 : Int)))) (fun _ => rfl) LW rfl rfl fun Mm w P5 hz Na Pk hS => ?_
       have hM := qC hz hM; clear hz
       replace hS := hS.re 4 (u := .slice GN GA.length GO) (v := .slice GN Mm.length GO) rfl (by rw [Na])
       replace hS := hS.re 42 (u := .slice GN GA.length GO) (v := .slice GN Mm.length GO) rfl (by rw [Na])
       refine zc <| zr (qd ?_)
       refine zB <| sB hS rfl fun hS => sM hS rfl fun hS => zc <| qd ?_
       exact M8 _ _ ⟨Mm, P5, GC, LF, (qh (G2 + (1 : Int))), hS.to [1, 2] (by kernel_rfl) ⟨rfl, rfl, rfl, rfl, rfl, rfl, trivial⟩, Pk, LB, hM⟩
      ·refine wp_seq ?_
       refine zB <| sM hS rfl fun hS => sO hS (xu rfl Tryd.runUnderlying32 rfl Tryd.sizeOf3 rfl) rfl fun hS => sO hS (xW 0 rfl LV rfl rfl Tryd.isAgg3) rfl fun hS => qO hS rfl Tryd.call35 (ue hG K ((rd Gw G2).Len_) (hS.st.part 0 [0, 1, 2] (by kernel_rfl)) (qE hM) (fun Lq P6 P7 w hM  hst => qL hS.ev hst.appF rfl fun hS => ?_))
       replace hS : Ss _ _ _ H [NL, L6, LF] F _ _ := hS
       refine sO hS (D3 rfl Tryd.runUnderlying68 rfl Tryd.isAgg3 rfl) rfl fun hS => ?_
       obtain ⟨LX, hM⟩ := qH hM
       refine sO hS (xM rfl rfl Tryd.runUnderlying45 Tryd.sizeOf3 (Li.rd (i := 1) rfl) (fun _ => rfl) rfl LX) rfl fun hS => sO hS (yd rfl (Li.rd (i := 1) rfl) (fun _ => rfl) LX rfl Tryd.isAgg3) rfl fun hS => sB hS rfl fun hS => sO hS (xM rfl rfl Tryd.runUnderlying45 Tryd.sizeOf3 (Li.rd (i := 1) rfl) (fun _ => rfl) rfl LX) rfl fun hS => Xk (i := Lq) (sz := 1) 1 0 ((qh ((rd GA Lq) + (1 : Int)))) hS rfl rfl Li rfl Tryd.sizeOf3 (xF (qh ((rd GA Lq) + (1 : Int)))) (fun _ => rfl) LX rfl rfl fun Mn w NM hz Nb Pm hS => ?_
       have hM := qC hz hM; clear hz
       replace hS := hS.re 4 (u := .slice GN GA.length GO) (v := .slice GN Mn.length GO) rfl (by rw [Nb])
       replace hS := hS.re 49 (u := .slice GN GA.length GO) (v := .slice GN Mn.length GO) rfl (by rw [Nb])
       refine qF <| zB <| sM hS rfl fun hS => sO hS (xu rfl Tryd.runUnderlying32 rfl Tryd.sizeOf3 rfl) rfl fun hS => sO hS (xW 0 rfl LV rfl rfl Tryd.isAgg3) rfl fun hS => qO hS rfl Tryd.call36 (vH hG K ((rd Gw G2).Dist_) (hS.st.part 0 [0, 1, 2] (by kernel_rfl)) (qE hM) (fun Lr P8 P9 w hM  hst => qL hS.ev hst.appF rfl fun hS => ?_))
       replace hS : Ss _ _ _ H [NL, NM, LF] F _ _ := hS
       refine sO hS (D3 rfl Tryd.runUnderlying68 rfl Tryd.isAgg3 rfl) rfl fun hS => ?_
       obtain ⟨LY, hM⟩ := qH hM
       refine sO hS (xM rfl rfl Tryd.runUnderlying45 Tryd.sizeOf3 (LB.rd (i := 2) rfl) (fun _ => rfl) rfl LY) rfl fun hS => sO hS (yd rfl (LB.rd (i := 2) rfl) (fun _ => rfl) LY rfl Tryd.isAgg3) rfl fun hS => sB hS rfl fun hS => sO hS (xM rfl rfl Tryd.runUnderlying45 Tryd.sizeOf3 (LB.rd (i := 2) rfl) (fun _ => rfl) rfl LY) rfl fun hS => Xk (i := Lr) (sz := 1) 2 0 ((qh ((rd GC Lr) + (1 : Int)))) hS rfl rfl LB rfl Tryd.sizeOf3 (xF (qh ((rd GC Lr) + (1 : Int)))) (fun _ => rfl) LY rfl rfl fun Mp w Sa hz Nc Pn hS => ?_
       have hM := qC hz hM; clear hz
       replace hS := hS.re 5 (u := .slice G0 GC.length G1) (v := .slice G0 Mp.length G1) rfl (by rw [Nc])
       replace hS := hS.re 58 (u := .slice G0 GC.length G1) (v := .slice G0 Mp.length G1) rfl (by rw [Nc])
       refine zc <| zr (qd ?_)
       refine zB <| sB hS rfl fun hS => sM hS rfl fun hS => zc <| qd ?_
       exact M8 _ _ ⟨Mn, NM, Mp, Sa, (qh (G2 + (1 : Int))), hS.to [1, 2] (by kernel_rfl) ⟨rfl, rfl, rfl, rfl, rfl, rfl, trivial⟩, Pm, Pn, hM⟩
     ·refine wp_exit ?_
      refine qB (qB (qY (qd ?_)))
      exact Pg _ _ ⟨GA, L6, GC, LF, hS.to [0, 1] (by kernel_rfl) ⟨rfl, rfl, rfl, trivial⟩, Li, LB, hM⟩
   ·intro a w hI
    obtain ⟨GM, My, GK, LM, hS, Po, Pp, hM⟩ := hI
    rw [qj.j3] at hM
    refine qp <| sM hS rfl fun hS => qO hS rfl Tryd.call38 (vK hG K GM GN GO My Po (hS.st.part 1 [0, 1] (by kernel_rfl)) (qE hM) (fun GS GT GF GD LN L7 w hM Lk S7 NN hst => qL hS.ev hst.appF rfl fun hS => ?_) (fun v w hk hst => jK (zX (⟨hS.ev.defs, hpan _ _ hk hst.appF.frame⟩))))
    replace hS : Ss _ _ _ H [GD, L7, LM] F _ _ := hS
    replace hS := hS.re 4 (u := .slice GN GM.length GO) (v := .slice GN LN.length GO) rfl (by rw [NN])
    replace hS := hS.re 68 (u := .slice GN GM.length GO) (v := .slice GN LN.length GO) rfl (by rw [NN])
    refine qO hS rfl Tryd.call37 (yS hG K GF GS GT (Lk.rdF (i := 0) rfl) (Lk.cap (fun _ => rfl) rfl) (hS.st.part 0 [0, 1, 2] (by kernel_rfl)) (qE hM) (fun G6 G7 Gx GE w hM Lt hst => qL hS.ev hst.appF rfl fun hS => ?_))
    replace hS : Ss _ _ _ H [GE, GD, L7, LM] F _ _ := hS
    refine sM hS rfl fun hS => qO hS rfl Tryd.call38 (vK hG K GK G0 G1 LM Pp (hS.st.part 1 [3, 0, 1, 2] (by kernel_rfl)) (qE hM) (fun GU GV GG GH LO Nd w hM Ll S8 NO hst => qL hS.ev hst.appF rfl fun hS => ?_) (fun v w hk hst => jK (zX (⟨hS.ev.defs, hpan _ _ hk hst.appF.frame⟩))))
    replace hS : Ss _ _ _ H [GH, Nd, GE, GD, L7] F _ _ := hS
    replace hS := hS.re 5 (u := .slice G0 GK.length G1) (v := .slice G0 LO.length G1) rfl (by rw [NO])
    replace hS := hS.re 71 (u := .slice G0 GK.length G1) (v := .slice G0 LO.length G1) rfl (by rw [NO])
    refine qO hS rfl Tryd.call37 (yS hG K GG GU GV (Ll.rdF (i := 0) rfl) (Ll.cap (fun _ => rfl) rfl) (hS.st.part 0 [0, 1, 2, 3, 4] (by kernel_rfl)) (qE hM) (fun G8 G9 Gy GI w hM Lu hst => qL hS.ev hst.appF rfl fun hS => ?_))
    replace hS : Ss _ _ _ H [GI, GH, Nd, GE, GD, L7] F _ _ := hS
    refine sO hS (Zx ([.int .i64 (0 : Int), .slice none 0 0, .slice GS GF.length GT, .slice G6 Gx.length G7, .slice GU GG.length GV, .slice G8 Gy.length G9]) [(0, 2), (2, 2), (4, 2)] Tryd.zeroValue49 Tryd.runUnderlying49 (by intro w; simp [Tryd.sizeOf44, Tryd.sizeOf47]) rfl rfl) rfl fun hS => bx ([.int .i64 (0 : Int), .slice none 0 0, .slice GS GF.length GT, .slice G6 Gx.length G7, .slice GU GG.length GV, .slice G8 Gy.length G9]) hS rfl rfl rfl fun w Gv Lv LC hS => ?_
    obtain ⟨Lw, Pq, hS⟩ := hS.nilV 5 (ci .u8) 1
    refine sA hS rfl fun hS => qF <| wp_seq <| za (vals := [none, some (qS Gv 0), some (qS Gv 0), some (qS Gv 2), some (qS Gv 2), some (.slice GS GF.length GT), none, some (qS Gv 0), some (qS Gv 0), some (qS Gv 4), some (qS Gv 4), some (.slice GU GG.length GV), none, none, none]) hS xp rfl ?_
    intro l w ho hcl hA hst
    refine jn hA hst ho hcl xv xo 0 [1, 2, 3, 4, 5, 7, 8, 9, 10, 11] rfl rfl rfl rfl rfl (by exact ⟨nM rfl, nQ rfl (by exact qU (yx rfl) rfl), nQ rfl (by exact qU (xu rfl Tryd.runUnderlying49 rfl Tryd.sizeOf47 rfl) rfl), nQ rfl (by exact qU (xu rfl Tryd.runUnderlying47 rfl Tryd.sizeOf45 rfl) rfl), nQ rfl (by exact qU (xW 1 rfl LC rfl rfl Tryd.isAgg45) rfl), nM rfl, nQ rfl (by exact qU (yx rfl) rfl), nQ rfl (by exact qU (xu rfl Tryd.runUnderlying49 rfl Tryd.sizeOf47 rfl) rfl), nQ rfl (by exact qU (xu rfl Tryd.runUnderlying47 rfl Tryd.sizeOf45 rfl) rfl), nQ rfl (by exact qU (xW 1 rfl LC rfl rfl Tryd.isAgg45) rfl), trivial⟩) fun D l a w ho hcl hav hpre hm hE hk hA hst => ?_
    have hS := (Ss.mk hE hst).env2 (e' := []) trivial
    refine q7 rfl <| Xz (g := (ci .i64)) ([] : List Int) [] hS Tryd.runUnderlying45 Tryd.sizeOf3 X.el3 rfl rfl rfl (by simp [Value.cells]) rfl rfl rfl rfl rfl fun w L8 L9 S9 Pr hS => qF ?_
    replace hst := hS.st
    obtain ⟨hcl, hmust, hav2, hA⟩ := dn (vals' := [some (.slice L8 ([] : List Int).length L9), some (qS Gv 0), some (qS Gv 0), some (qS Gv 2), some (qS Gv 2), some (.slice GS GF.length GT), none, some (qS Gv 0), some (qS Gv 0), some (qS Gv 4), some (qS Gv 4), some (.slice GU GG.length GV), none, none, none]) 0 [] hA hcl hav hm hpre hk rfl rfl rfl rfl rfl rfl rfl
    clear hm hav
    refine jn hA hst ho hcl hav2 hmust 6 [1, 2, 3, 4, 5, 7, 8, 9, 10, 11] rfl rfl rfl rfl rfl (by exact ⟨nM rfl, nQ rfl (by exact qU (yx rfl) rfl), nQ rfl (by exact qU (xu rfl Tryd.runUnderlying49 rfl Tryd.sizeOf47 rfl) rfl), nQ rfl (by exact qU (xu rfl Tryd.runUnderlying47 rfl Tryd.sizeOf45 rfl) rfl), nQ rfl (by exact qU (xW 2 rfl LC rfl rfl Tryd.isAgg45) rfl), nM rfl, nQ rfl (by exact qU (yx rfl) rfl), nQ rfl (by exact qU (xu rfl Tryd.runUnderlying49 rfl Tryd.sizeOf47 rfl) rfl), nQ rfl (by exact qU (xu rfl Tryd.runUnderlying47 rfl Tryd.sizeOf45 rfl) rfl), nQ rfl (by exact qU (xW 2 rfl LC rfl rfl Tryd.isAgg45) rfl), trivial⟩) fun D l a w ho hcl hav hpre hm hE hk hA hst => ?_
    have hS := (Ss.mk hE hst).env2 (e' := [(76, .slice L8 ([] : List Int).length L9), (81, .slice GS GF.length GT)]) ⟨rfl, rfl, trivial⟩
    refine q7 rfl ?_
    obtain ⟨Ps, hM⟩ := qH hM
    refine X9 (ys := GF) 0 hS rfl rfl Pr rfl (Lk.rd (i := 7) rfl) Tryd.runUnderlying45 Tryd.runUnderlying45 X.el3 (fun _ => rfl) rfl xF Ps rfl fun LZ w Mz MA Ta hz Pt hS => ?_
    have hM := qC hz hM; clear hz
    refine qF ?_
    replace hst := hS.st
    obtain ⟨hcl, hmust, hav2, hA⟩ := dn (vals' := [some (.slice L8 ([] : List Int).length L9), some (qS Gv 0), some (qS Gv 0), some (qS Gv 2), some (qS Gv 2), some (.slice GS GF.length GT), some (.slice Mz LZ.length MA), some (qS Gv 0), some (qS Gv 0), some (qS Gv 4), some (qS Gv 4), some (.slice GU GG.length GV), none, none, none]) 6 [(0, 6), (5, 6), (4, 5), (3, 4), (2, 3), (1, 2)] hA hcl hav hm hpre hk rfl rfl rfl rfl rfl rfl rfl
    clear hm hav
    refine jn hA hst ho hcl hav2 hmust 12 [7, 8, 9, 10, 11] rfl rfl rfl rfl rfl (by exact ⟨nM rfl, nQ rfl (by exact qU (yx rfl) rfl), nQ rfl (by exact qU (xu rfl Tryd.runUnderlying49 rfl Tryd.sizeOf47 rfl) rfl), nQ rfl (by exact qU (xu rfl Tryd.runUnderlying47 rfl Tryd.sizeOf45 rfl) rfl), nQ rfl (by exact qU (xW 2 rfl LC rfl rfl Tryd.isAgg45) rfl), trivial⟩) fun D l a w ho hcl hav hpre hm hE hk hA hst => ?_
    have hS := (Ss.mk hE hst).env2 (e' := [(82, .slice Mz LZ.length MA), (87, .slice GU GG.length GV)]) ⟨rfl, rfl, trivial⟩
    refine q7 rfl ?_
    obtain ⟨Pv, hM⟩ := qH hM
    refine X9 (ys := GG) 0 hS rfl rfl Pt rfl (Ll.rd (i := 4) rfl) Tryd.runUnderlying45 Tryd.runUnderlying45 X.el3 (fun _ => rfl) rfl xF Pv rfl fun L0 w MB MC Sb hz Nf hS => ?_
    have hM := qC hz hM; clear hz
    refine qF ?_
    replace hst := hS.st
    obtain ⟨hcl, hmust, hav2, hA⟩ := dn (vals' := [some (.slice L8 ([] : List Int).length L9), some (qS Gv 0), some (qS Gv 0), some (qS Gv 2), some (qS Gv 2), some (.slice GS GF.length GT), some (.slice Mz LZ.length MA), some (qS Gv 0), some (qS Gv 0), some (qS Gv 4), some (qS Gv 4), some (.slice GU GG.length GV), some (.slice MB L0.length MC), none, none]) 12 [(6, 12), (11, 12), (0, 6), (5, 6), (10, 11), (4, 5), (9, 10), (3, 4), (8, 9), (2, 3), (7, 8), (1, 2)] hA hcl hav hm hpre hk rfl rfl rfl rfl rfl rfl rfl
    clear hm hav
    refine jn hA hst ho hcl hav2 hmust 13 [] rfl rfl rfl rfl rfl trivial fun D l a w ho hcl hav hpre hm hE hk hA hst => ?_
    have hS := (Ss.mk hE hst).env2 (e' := [(88, .slice MB L0.length MC)]) ⟨rfl, trivial⟩
    refine q7 rfl <| qO hS rfl Tryd.call39 (Zd hG K L0 MB MC (Nf.rdF (i := 0) rfl) (Nf.cap (fun _ => rfl) rfl) (hS.st.part 0 [0, 1, 2, 3, 4, 5, 6, 7, 8] (by kernel_rfl)) (qE hM) (fun La Lb Gz GY w hM MD hst => qL hS.ev hst.appF rfl fun hS => ?_))
    replace hS : Ss _ _ _ H [GY, Sb, Lw, Lv, GI, GH, Nd, GE, GD, L7] F _ _ := hS
    refine qF ?_
    replace hst := hS.st
    obtain ⟨hcl, hmust, hav2, hA⟩ := dn (vals' := [some (.slice L8 ([] : List Int).length L9), some (qS Gv 0), some (qS Gv 0), some (qS Gv 2), some (qS Gv 2), some (.slice GS GF.length GT), some (.slice Mz LZ.length MA), some (qS Gv 0), some (qS Gv 0), some (qS Gv 4), some (qS Gv 4), some (.slice GU GG.length GV), some (.slice MB L0.length MC), some (.slice La Gz.length Lb), some (.slice La Gz.length Lb)]) 13 [(12, 13), (6, 12), (11, 12), (0, 6), (5, 6), (10, 11), (4, 5), (9, 10), (3, 4), (8, 9), (2, 3), (7, 8), (1, 2)] hA hcl hav hm hpre hk rfl rfl rfl rfl rfl rfl rfl
    clear hm hav
    refine x3 hA hst ho hcl hmust [14] rfl rfl rfl (by exact ⟨nA rfl, trivial⟩) fun a w hS => ?_
    replace hS := hS.env2 (e' := [(0, .slice GP Gw.length GQ), (8, qS Gv 0), (9, .slice La Gz.length Lb)]) ⟨rfl, rfl, rfl, trivial⟩
    refine qd <| wp_seq <| zB ?_
    obtain ⟨Pw, hM⟩ := qH hM
    refine Ug (g := (ci .i64)) (m := (19 : Int)) (0 : Int) hS rfl rfl (by simp) Tryd.runUnderlying45 X.el3 (fun w => ⟨_, Tryd.zeroValue3 w, rfl⟩) (fun _ => rfl) rfl rfl Pw rfl fun Px w GB GL Sc hz Py hS => ?_
    have hM := qC hz hM; clear hz
    refine sA hS rfl fun hS => qF <| zg (fun a w => ∃ (Gu : (List Int)) (LP : qq), Ss 196 [] [(0, .slice GP Gw.length GQ), (8, qS Gv 0), (9, .slice La Gz.length Lb), (10, .slice GB Gu.length GL)] H [Lv, Lw, GD, GE, GH, GI, GY, LP] F a w ∧ (xa 3 (ci .i64) 1 GB Gu GL LP) ∧ (qj.j5 K Gw GF Gx GG Gy Gz Gu).wp kr kp) (fun Tb Pz => ?_) ?_
    ·refine wp_seq ?_
     refine zB <| sM hS rfl fun hS => sO hS (xY rfl Tryd.runUnderlying72) rfl fun hS => sM hS rfl fun hS => qF <| xw <| zk (fun NP a w => ∃ (GR : (List Int)) (ME : qq) (Ld : Int), Ss 196 [] [(0, .slice GP Gw.length GQ), (8, qS Gv 0), (9, .slice La Gz.length Lb), (10, .slice GB GR.length GL), (91, .slice La Gz.length Lb), (92, .int .i64 (Gz.length : Int)), (93, .int .i64 Ld)] H [Lv, Lw, GD, GE, GH, GI, GY, ME] F a w ∧ (xa 3 (ci .i64) 1 GB GR GL ME) ∧ (qj.l4 K Gw GF Gx GG Gy Gz NP GR Ld).wp kr kp) K ?_ ?_ ?_
     ·exact ⟨Px, Sc, (0 : Int), hS.to [4, 3, 9, 8, 6, 5, 1, 0] (by kernel_rfl) ⟨rfl, rfl, rfl, rfl, rfl, rfl, rfl, trivial⟩, Py, hM⟩
     ·intro a w hI; obtain ⟨_, _, _, _, _, hM⟩ := hI; exact zj hM
     ·intro NP a w hI Tc PA
      obtain ⟨GR, ME, Ld, hS, LG, hM⟩ := hI
      rw [qj.l4] at hM
      refine qp <| sB hS rfl fun hS => qF <| wp_seq <| qv hS rfl hM (fun PB hM => ?_) (fun PB hM => ?_)
      ·refine wp_skip ?_
       refine qd <| wp_seq <| xw <| wp_seq <| zB ?_
       obtain ⟨Ng, hM⟩ := qH hM
       refine sO hS (xM rfl rfl Tryd.runUnderlying72 Tryd.sizeOf75 (MD.rd (i := 6) rfl) (fun _ => rfl) rfl Ng) rfl fun hS => sO hS (yL rfl (MD.rd (i := 6) rfl) (fun _ => rfl) Ng Tryd.isAgg75 Tryd.sizeOf75 rfl) rfl fun hS => Qs ([.int .i64 (0 : Int), .int .i64 (0 : Int), .int .i64 (0 : Int)]) hS Tryd.zeroValue75 rfl rfl fun w Td Te PC hS => uz 0 ([.int .i64 ((rd Gz Ld).symbol_), .int .i64 ((rd Gz Ld).more_), .int .i64 ((rd Gz Ld).bits_)]) ([.int .i64 ((rd Gz Ld).symbol_), .int .i64 ((rd Gz Ld).more_), .int .i64 ((rd Gz Ld).bits_)]) hS rfl rfl PC rfl rfl Tryd.sizeOf75 (by simp [Value.oneCell']) (Nat.le_of_ble_eq_true rfl) rfl fun w Tf PD hS => qF <| zB <| sM hS rfl fun hS => sO hS (xu rfl Tryd.runUnderlying75 rfl Tryd.sizeOf3 rfl) rfl fun hS => sO hS (xW 0 rfl PD rfl rfl Tryd.isAgg3) rfl fun hS => ?_
       obtain ⟨L1, hM⟩ := qH hM
       refine sO hS (xM rfl rfl Tryd.runUnderlying45 Tryd.sizeOf3 (LG.rd (i := 8) rfl) (fun _ => rfl) rfl L1) rfl fun hS => sO hS (yd rfl (LG.rd (i := 8) rfl) (fun _ => rfl) L1 rfl Tryd.isAgg3) rfl fun hS => sB hS rfl fun hS => sO hS (xM rfl rfl Tryd.runUnderlying45 Tryd.sizeOf3 (LG.rd (i := 8) rfl) (fun _ => rfl) rfl L1) rfl fun hS => Xk (i := (rd Gz Ld).symbol_) (sz := 1) 8 0 ((qh ((rd GR (rd Gz Ld).symbol_) + (1 : Int)))) hS rfl rfl LG rfl Tryd.sizeOf3 (xF (qh ((rd GR (rd Gz Ld).symbol_) + (1 : Int)))) (fun _ => rfl) L1 rfl rfl fun Mq w Sd hz Nh PE hS => ?_
       have hM := qC hz hM; clear hz
       replace hS := hS.re 10 (u := .slice GB GR.length GL) (v := .slice GB Mq.length GL) rfl (by rw [Nh])
       replace hS := hS.re 97 (u := .slice GB GR.length GL) (v := .slice GB Mq.length GL) rfl (by rw [Nh])
       refine zc <| zr (qd ?_)
       refine zB <| sB hS rfl fun hS => sM hS rfl fun hS => zc <| qd ?_
       exact PA _ _ ⟨Mq, Sd, (qh (Ld + (1 : Int))), hS.to [1, 2, 3, 4, 5, 6, 7, 8] (by kernel_rfl) ⟨rfl, rfl, rfl, rfl, rfl, rfl, rfl, trivial⟩, PE, hM⟩
      ·refine wp_exit ?_
       refine qB (qB (qY (qd ?_)))
       exact Pz _ _ ⟨GR, ME, hS.to [0, 1, 2, 3, 4, 5, 6, 7] (by kernel_rfl) ⟨rfl, rfl, rfl, rfl, trivial⟩, LG, hM⟩
    ·intro a w hI
     obtain ⟨Gu, LP, hS, Lj, hM⟩ := hI
     rw [qj.j5] at hM
     refine qp <| sA hS rfl fun hS => qF <| zg (fun a w => ∃ (Mr : Int), Ss 196 [] [(0, .slice GP Gw.length GQ), (8, qS Gv 0), (9, .slice La Gz.length Lb), (10, .slice GB Gu.length GL), (13, .int .i64 Mr)] H [Lv, Lw, GD, GE, GH, GI, GY, LP] F a w ∧ (qj.j7 K Gw GF Gx GG Gy Gz Gu Mr).wp kr kp) (fun Tg PF => ?_) ?_
     ·refine wp_seq ?_
      refine zB <| sM hS rfl fun hS => sO hS (xY rfl Tryd.runUnderlying45) rfl fun hS => sM hS rfl fun hS => qF <| xw <| zk (fun NQ a w => ∃ (LH : Int) (Ma : Int), Ss 196 [] [(0, .slice GP Gw.length GQ), (8, qS Gv 0), (9, .slice La Gz.length Lb), (10, .slice GB Gu.length GL), (13, .int .i64 LH), (105, .slice GB Gu.length GL), (106, .int .i64 (Gu.length : Int)), (107, .int .i64 Ma)] H [Lv, Lw, GD, GE, GH, GI, GY, LP] F a w ∧ (qj.l6 K Gw GF Gx GG Gy Gz Gu NQ LH Ma).wp kr kp) K ?_ ?_ ?_
      ·exact ⟨(0 : Int), (0 : Int), hS.to [0, 1, 2, 3, 4, 5, 6, 7] (by kernel_rfl) ⟨rfl, rfl, rfl, rfl, rfl, rfl, rfl, rfl, trivial⟩, hM⟩
      ·intro a w hI; obtain ⟨_, _, _, hM⟩ := hI; exact zj hM
      ·intro NQ a w hI Th PG
       obtain ⟨LH, Ma, hS, hM⟩ := hI
       rw [qj.l6] at hM
       refine qp <| sB hS rfl fun hS => qF <| wp_seq <| qv hS rfl hM (fun PH hM => ?_) (fun PH hM => ?_)
       ·refine wp_skip ?_
        refine qd <| wp_seq <| xw <| wp_seq <| zB ?_
        obtain ⟨Ni, hM⟩ := qH hM
        refine sO hS (xM rfl rfl Tryd.runUnderlying45 Tryd.sizeOf3 (Lj.rd (i := 7) rfl) (fun _ => rfl) rfl Ni) rfl fun hS => sO hS (yd rfl (Lj.rd (i := 7) rfl) (fun _ => rfl) Ni rfl Tryd.isAgg3) rfl fun hS => zz (v := Value.int .i64) (x0 := (rd Gu Ma)) hS (xj rfl) rfl fun Nj a w hz hS => ?_
        have hM := qC hz hM; clear hz
        refine qF <| zB <| sM hS rfl fun hS => sM hS rfl fun hS => sO hS (V7 rfl rfl) rfl fun hS => sB hS rfl fun hS => zz (v := Value.int .i64) (x0 := (qh (LH + (if (1 : Int) < Nj then (1 : Int) else Nj)))) hS (xj rfl) rfl fun PI a w hz hS => ?_
        have hM := qC hz hM; clear hz
        refine zc <| zr (qd ?_)
        refine zB <| sB hS rfl fun hS => sM hS rfl fun hS => zc <| qd ?_
        exact PG _ _ ⟨PI, (qh (Ma + (1 : Int))), hS.to [0, 1, 2, 3, 4, 5, 6, 7] (by kernel_rfl) ⟨rfl, rfl, rfl, rfl, rfl, rfl, rfl, rfl, trivial⟩, hM⟩
       ·refine wp_exit ?_
        refine qB (qB (qY (qd ?_)))
        exact PF _ _ ⟨LH, hS.to [0, 1, 2, 3, 4, 5, 6, 7] (by kernel_rfl) ⟨rfl, rfl, rfl, rfl, rfl, trivial⟩, hM⟩
     ·intro a w hI
      obtain ⟨Mr, hS, hM⟩ := hI
      rw [qj.j7] at hM
      refine zg (fun a w => ∃ (Le : (List Int)) (Lx : qq), Ss 196 [] [(0, .slice GP Gw.length GQ), (8, qS Gv 0), (9, .slice La Gz.length Lb), (10, .slice GB Le.length GL)] H [Lv, Lw, GD, GE, GH, GI, GY, Lx] F a w ∧ (xa 3 (ci .i64) 1 GB Le GL Lx) ∧ (qj.j8 K Gw GF Gx GG Gy Gz Le).wp kr kp) (fun Ti Nk => ?_) ?_
      ·refine wp_seq ?_
       refine zB <| sM hS rfl fun hS => sB hS rfl fun hS => qF <| qv hS rfl hM (fun PJ hM => ?_) (fun PJ hM => ?_)
       ·obtain ⟨L3, hM⟩ := qH hM
        obtain ⟨Nl, hM⟩ := qH hM
        refine za (vals := [some (.slice GB Gu.length GL), some (.slice GB Gu.length GL), some (.slice GB Gu.length GL), some (xc GB (Int.toNat (0 : Int) * 1)), some (.int .i64 (rd Gu (0 : Int))), some (.int .i64 (if (1 : Int) > (rd Gu (0 : Int)) then (1 : Int) else (rd Gu (0 : Int)))), some (.slice GB Gu.length GL), some (xc GB (Int.toNat (1 : Int) * 1)), some (.int .i64 (rd Gu (1 : Int))), some (.int .i64 (if (1 : Int) > (rd Gu (1 : Int)) then (1 : Int) else (rd Gu (1 : Int)))), some (xc GB (Int.toNat (0 : Int) * 1)), none, none, none]) hS xp rfl ?_
        intro l w ho hcl hA hst
        refine jn hA hst ho hcl xv xo 11 [0, 1, 2, 3, 4, 5, 6, 7, 8, 9, 10] rfl rfl rfl rfl rfl (by exact ⟨nM rfl, nM rfl, nM rfl, nQ rfl (by exact qU (xM rfl rfl Tryd.runUnderlying45 Tryd.sizeOf3 (Lj.rd (i := 7) rfl) (fun _ => rfl) rfl L3) rfl), nQ rfl (by exact qU (yd rfl (Lj.rd (i := 7) rfl) (fun _ => rfl) L3 rfl Tryd.isAgg3) rfl), nQ rfl (by exact qU (Kz rfl rfl) rfl), nM rfl, nQ rfl (by exact qU (xM rfl rfl Tryd.runUnderlying45 Tryd.sizeOf3 (Lj.rd (i := 7) rfl) (fun _ => rfl) rfl Nl) rfl), nQ rfl (by exact qU (yd rfl (Lj.rd (i := 7) rfl) (fun _ => rfl) Nl rfl Tryd.isAgg3) rfl), nQ rfl (by exact qU (Kz rfl rfl) rfl), nQ rfl (by exact qU (xM rfl rfl Tryd.runUnderlying45 Tryd.sizeOf3 (Lj.rd (i := 7) rfl) (fun _ => rfl) rfl L3) rfl), trivial⟩) fun D l a w ho hcl hav hpre hm hE hk hA hst => ?_
        have hS := (Ss.mk hE hst).env2 (e' := [(123, .int .i64 (if (1 : Int) > (rd Gu (0 : Int)) then (1 : Int) else (rd Gu (0 : Int)))), (128, xc GB (Int.toNat (0 : Int) * 1))]) ⟨rfl, rfl, trivial⟩
        refine q7 rfl <| Xk (i := (0 : Int)) (sz := 1) 7 0 ((if (1 : Int) > (rd Gu (0 : Int)) then (1 : Int) else (rd Gu (0 : Int)))) hS rfl rfl Lj rfl Tryd.sizeOf3 (xF (if (1 : Int) > (rd Gu (0 : Int)) then (1 : Int) else (rd Gu (0 : Int)))) (fun _ => rfl) L3 rfl rfl fun SX w Tj hz Nm Nn hS => ?_
        have hM := qC hz hM; clear hz
        refine qF ?_
        replace hst := hS.st
        obtain ⟨No, hM⟩ := qH hM
        obtain ⟨hcl, hmust, hav2, hA⟩ := ZV (vals' := [some (.slice GB Gu.length GL), some (.slice GB Gu.length GL), some (.slice GB Gu.length GL), some (xc GB (Int.toNat (0 : Int) * 1)), some (.int .i64 (rd Gu (0 : Int))), some (.int .i64 (if (1 : Int) > (rd Gu (0 : Int)) then (1 : Int) else (rd Gu (0 : Int)))), some (.slice GB Gu.length GL), some (xc GB (Int.toNat (1 : Int) * 1)), some (.int .i64 (rd Gu (1 : Int))), some (.int .i64 (if (1 : Int) > (rd Gu (1 : Int)) then (1 : Int) else (rd Gu (1 : Int)))), some (xc GB (Int.toNat (0 : Int) * 1)), some undef, some (xc GB (Int.toNat (1 : Int) * 1)), none]) 11 [(0, 11), (2, 11), (3, 11), (4, 11), (5, 11), (8, 11), (10, 11), (7, 8), (6, 7)] hA hcl hav hm hpre rfl rfl rfl rfl rfl
        clear hm hav
        refine jn hA hst ho hcl hav2 hmust 13 [1, 9, 12] rfl rfl rfl rfl rfl (by exact ⟨nM rfl, nQ rfl (by exact qU (Kz rfl rfl) rfl), nQ rfl (by exact qU (xM (Yw Nm rfl) rfl Tryd.runUnderlying45 Tryd.sizeOf3 (Nn.rd (i := 7) rfl) (fun _ => rfl) rfl No) rfl), trivial⟩) fun D l a w ho hcl hav hpre hm hE hk hA hst => ?_
        have hS := (Ss.mk hE hst).env2 (e' := [(127, .int .i64 (if (1 : Int) > (rd Gu (1 : Int)) then (1 : Int) else (rd Gu (1 : Int)))), (129, xc GB (Int.toNat (1 : Int) * 1))]) ⟨rfl, rfl, trivial⟩
        refine q7 rfl <| Xk (i := (1 : Int)) (sz := 1) 7 0 ((if (1 : Int) > (rd Gu (1 : Int)) then (1 : Int) else (rd Gu (1 : Int)))) hS rfl rfl Nn rfl Tryd.sizeOf3 (xF (if (1 : Int) > (rd Gu (1 : Int)) then (1 : Int) else (rd Gu (1 : Int)))) (fun _ => rfl) No rfl rfl fun Np w Se hz PL PM hS => ?_
        have hM := qC hz hM; clear hz
        refine qF ?_
        replace hst := hS.st
        obtain ⟨hcl, hmust, hav2, hA⟩ := ZV (vals' := [some (.slice GB Gu.length GL), some (.slice GB Gu.length GL), some (.slice GB Gu.length GL), some (xc GB (Int.toNat (0 : Int) * 1)), some (.int .i64 (rd Gu (0 : Int))), some (.int .i64 (if (1 : Int) > (rd Gu (0 : Int)) then (1 : Int) else (rd Gu (0 : Int)))), some (.slice GB Gu.length GL), some (xc GB (Int.toNat (1 : Int) * 1)), some (.int .i64 (rd Gu (1 : Int))), some (.int .i64 (if (1 : Int) > (rd Gu (1 : Int)) then (1 : Int) else (rd Gu (1 : Int)))), some (xc GB (Int.toNat (0 : Int) * 1)), some undef, some (xc GB (Int.toNat (1 : Int) * 1)), some undef]) 13 [(0, 13), (1, 13), (2, 13), (3, 13), (4, 13), (5, 13), (6, 13), (7, 13), (8, 13), (9, 13), (10, 13), (11, 13), (12, 13)] hA hcl hav hm hpre rfl rfl rfl rfl rfl
        clear hm hav
        refine x3 hA hst ho hcl hmust [] rfl rfl rfl trivial fun a w hS => ?_
        replace hS := hS.env2 (e' := [(0, .slice GP Gw.length GQ), (8, qS Gv 0), (9, .slice La Gz.length Lb), (10, .slice GB Np.length GL)]) ⟨rfl, rfl, rfl, (YT (u := .slice GB Gu.length GL) rfl (by rw [PL, Nm])), trivial⟩
        refine qd ?_
        exact Nk _ _ ⟨Np, Se, hS.to [0, 1, 2, 3, 4, 5, 6, 7] (by kernel_rfl) ⟨rfl, rfl, rfl, rfl, trivial⟩, PM, hM⟩
       ·refine wp_skip ?_
        refine qd ?_
        exact Nk _ _ ⟨Gu, LP, hS.to [0, 1, 2, 3, 4, 5, 6, 7] (by kernel_rfl) ⟨rfl, rfl, rfl, rfl, trivial⟩, Lj, hM⟩
      ·intro a w hI
       obtain ⟨Le, Lx, hS, Nq, hM⟩ := hI
       rw [qj.j8] at hM
       refine qp <| sM hS rfl fun hS => qO hS rfl Tryd.call40 (Qb hG K Le (7 : Int) GB GL (Nq.rdF (i := 7) rfl) (Nq.cap (fun _ => rfl) rfl) (hS.st.part 0 [0, 1, 2, 3, 4, 5, 6, 7] (by kernel_rfl)) (qE hM) (fun Ly LI G3 Lm Tk w hM LQ hst => qL hS.ev hst.appF rfl fun hS => ?_) (fun v w hk hst => jK (zX (⟨hS.ev.defs, hpan _ _ hk hst.appF.frame⟩))))
       replace hS : Ss _ _ _ H [Lm, Lv, Lw, GD, GE, GH, GI, GY, Lx] F _ _ := hS
       refine sM hS rfl fun hS => sO hS (ex rfl rfl) rfl fun hS => sO hS (ex rfl rfl) rfl fun hS => sA hS rfl fun hS => sA hS rfl fun hS => qF <| qp <| sM hS rfl fun hS => qO hS rfl Tryd.call37 (yS hG K G3 Ly LI (LQ.rdF (i := 0) rfl) (LQ.cap (fun _ => rfl) rfl) (hS.st.part 0 [0, 1, 2, 3, 4, 5, 6, 7, 8] (by kernel_rfl)) (qE hM) (fun MF MG GZ Ln w hM NR hst => qL hS.ev hst.appF rfl fun hS => ?_))
       replace hS : Ss _ _ _ H [Ln, Lm, Lv, Lw, GD, GE, GH, GI, GY, Lx] F _ _ := hS
       refine Qs ([.slice none 0 0, .slice none 0 0]) hS Tryd.zeroValue47 rfl rfl fun w LJ Tl PN hS => ?_
       obtain ⟨MH, SY, hS⟩ := hS.nilV 3 (ci .i64) 1
       obtain ⟨MI, SZ, hS⟩ := hS.nilV 3 (ci .i64) 1
       refine uz 2 ([.slice Ly G3.length LI, .slice MF GZ.length MG]) ([.slice Ly G3.length LI, .slice MF GZ.length MG]) hS rfl rfl PN rfl rfl Tryd.sizeOf47 (by simp [Value.oneCell']) (Nat.le_of_ble_eq_true rfl) rfl fun w Lo Nr hS => qF <| qp <| sM hS rfl fun hS => sO hS (yx rfl) rfl fun hS => sO hS (xu rfl Tryd.runUnderlying49 rfl Tryd.sizeOf44 rfl) rfl fun hS => qO hS rfl Tryd.call23 (zo hG K (qt.mk (qW.mk (q8.mk (0 : Int)) ([] : List Int)) (qx.mk GF Gx) (qx.mk GG Gy)) (5 : Int) (3 : Int) Gv Lv none (0) Lw GS GT GD G6 G7 GE GU GV GH G8 G9 GI LC Pq Lk Lt Ll Lu (hS.st.part 6 [5, 6, 7, 8, 9, 10, 0, 1, 2, 3, 4, 11, 12] (by kernel_rfl)) (qE hM) (fun Tm NA Sf Sg MS NS NT w hM Sh Si hst => qL hS.ev hst.appF rfl fun hS => ?_))
       replace hS : Ss _ _ _ H [NT, NS, GD, GE, GH, GI, MI, MH, Lo, Ln, Lm, GY, Lx] F _ _ := hS
       refine qF <| qp <| sM hS rfl fun hS => sO hS (yx rfl) rfl fun hS => sO hS (xu rfl Tryd.runUnderlying49 rfl Tryd.sizeOf44 rfl) rfl fun hS => qO hS rfl Tryd.call23 (zo hG K (qt.mk (qW.mk (q8.mk NA) MS) (qx.mk GF Gx) (qx.mk GG Gy)) (29 : Int) (5 : Int) Gv NT Sf Sg NS GS GT GD G6 G7 GE GU GV GH G8 G9 GI Si Sh Lk Lt Ll Lu (hS.st.part 6 [0, 1, 2, 3, 4, 5, 6, 7, 8, 9, 10, 11, 12] (by kernel_rfl)) (qE hM) (fun Tn NB Sj Sk MT NU NV w hM Sm Sn hst => qL hS.ev hst.appF rfl fun hS => ?_))
       replace hS : Ss _ _ _ H [NV, NU, GD, GE, GH, GI, MI, MH, Lo, Ln, Lm, GY, Lx] F _ _ := hS
       refine qF <| qp <| sM hS rfl fun hS => sO hS (yx rfl) rfl fun hS => sO hS (xu rfl Tryd.runUnderlying49 rfl Tryd.sizeOf44 rfl) rfl fun hS => qO hS rfl Tryd.call23 (zo hG K (qt.mk (qW.mk (q8.mk NB) MT) (qx.mk GF Gx) (qx.mk GG Gy)) (29 : Int) (5 : Int) Gv NV Sj Sk NU GS GT GD G6 G7 GE GU GV GH G8 G9 GI Sn Sm Lk Lt Ll Lu (hS.st.part 6 [0, 1, 2, 3, 4, 5, 6, 7, 8, 9, 10, 11, 12] (by kernel_rfl)) (qE hM) (fun To NC So Sp MU NW NX w hM Sq Sr hst => qL hS.ev hst.appF rfl fun hS => ?_))
       replace hS : Ss _ _ _ H [NX, NW, GD, GE, GH, GI, MI, MH, Lo, Ln, Lm, GY, Lx] F _ _ := hS
       refine qF <| qp <| sM hS rfl fun hS => sO hS (yx rfl) rfl fun hS => sO hS (xu rfl Tryd.runUnderlying49 rfl Tryd.sizeOf44 rfl) rfl fun hS => qO hS rfl Tryd.call23 (zo hG K (qt.mk (qW.mk (q8.mk NC) MU) (qx.mk GF Gx) (qx.mk GG Gy)) (15 : Int) (4 : Int) Gv NX So Sp NW GS GT GD G6 G7 GE GU GV GH G8 G9 GI Sr Sq Lk Lt Ll Lu (hS.st.part 6 [0, 1, 2, 3, 4, 5, 6, 7, 8, 9, 10, 11, 12] (by kernel_rfl)) (qE hM) (fun Tp ND Su Sv MV NY NZ w hM Sw Sx hst => qL hS.ev hst.appF rfl fun hS => ?_))
       replace hS : Ss _ _ _ H [NZ, NY, GD, GE, GH, GI, MI, MH, Lo, Ln, Lm, GY, Lx] F _ _ := hS
       refine qF <| zg (fun a w => ∃ (LD : Int) (MJ : Option Addr) (MK : Nat) (Lf : (List Int)) (ML : qq) (MM : qq), Ss 196 [] [(0, .slice GP Gw.length GQ), (8, qS Gv 0), (9, .slice La Gz.length Lb), (18, qS LJ 0)] H [MM, ML, GD, GE, GH, GI, GY, Lo, Lm, Ln] F a w ∧ (xa 5 (ci .u8) 1 MJ Lf MK ML) ∧ (xZ MM Gv ([.int .i64 LD, .slice MJ Lf.length MK, .slice GS GF.length GT, .slice G6 Gx.length G7, .slice GU GG.length GV, .slice G8 Gy.length G9]) 49) ∧ (qj.j10 K Gw GF Gx GG Gy Gz G3 GZ LD Lf).wp kr kp) (fun Tq PO => ?_) ?_
       ·refine wp_seq ?_
        refine zB <| sO hS (Dm rfl hG.g0 (by rfl) Tryd.isAgg77 Tryd.sizeOf77) rfl fun hS => sM hS rfl fun hS => qF <| xw <| zk (fun N0 a w => ∃ (Lz : Int) (Mb : Option Addr) (Mc : Nat) (G4 : (List Int)) (Md : qq) (Me : qq) (LR : Int), Ss 196 [] [(0, .slice GP Gw.length GQ), (8, qS Gv 0), (9, .slice La Gz.length Lb), (18, qS LJ 0), (153, .agg ⟨tab_deflate_order.flatMap (ci .i64)⟩), (154, .int .i64 LR)] H [Me, Md, GD, GE, GH, GI, GY, Lo, Lm, Ln] F a w ∧ (xa 5 (ci .u8) 1 Mb G4 Mc Md) ∧ (xZ Me Gv ([.int .i64 Lz, .slice Mb G4.length Mc, .slice GS GF.length GT, .slice G6 Gx.length G7, .slice GU GG.length GV, .slice G8 Gy.length G9]) 49) ∧ (qj.l9 K Gw GF Gx GG Gy Gz G3 GZ N0 Lz G4 LR).wp kr kp) K ?_ ?_ ?_
        ·exact ⟨ND, Su, Sv, MV, NY, NZ, (0 : Int), hS.to [0, 1, 2, 3, 4, 5, 11, 8, 10, 9] (by kernel_rfl) ⟨rfl, rfl, rfl, rfl, rfl, rfl, trivial⟩, Sw, Sx, hM⟩
        ·intro a w hI; obtain ⟨_, _, _, _, _, _, _, _, _, _, hM⟩ := hI; exact zj hM
        ·intro N0 a w hI Tr PP
         obtain ⟨Lz, Mb, Mc, G4, Md, Me, LR, hS, Ns, Nt, hM⟩ := hI
         rw [qj.l9] at hM
         refine qp <| sB hS rfl fun hS => qF <| wp_seq <| qv hS rfl hM (fun PQ hM => ?_) (fun PQ hM => ?_)
         ·refine wp_skip ?_
          refine qd <| wp_seq <| xw <| wp_seq <| zB ?_
          obtain ⟨PR, hM⟩ := qH hM
          refine sO hS (DU rfl rfl Tryd.runUnderlying77 Tryd.isAgg3 Tryd.sizeOf3 (fun _ => rfl) uU PR rfl) rfl fun hS => zz (v := Value.int .i64) (x0 := (rd tab_deflate_order LR)) hS (xj rfl) rfl fun Lp a w hz hS => ?_
          have hM := qC hz hM; clear hz
          refine zc <| qd ?_
          obtain ⟨Nu, hM⟩ := qH hM
          refine za (vals := [some (qS Gv 0), some (qS Gv 0), some (qS Gv 0), some (qS LJ 0), some (.slice Ly G3.length LI), some (.int .i64 Lp), some (xc Ly (Int.toNat Lp * 1)), some (.int .i64 (rd G3 Lp)), some (.int .u32 (wr .u32 (rd G3 Lp))), none]) hS xp rfl ?_
          intro l w ho hcl hA hst
          refine jn hA hst ho hcl xv xo 9 [0, 1, 2, 3, 4, 5, 6, 7, 8] rfl rfl rfl rfl rfl (by exact ⟨nM rfl, nQ rfl (by exact qU (yx rfl) rfl), nQ rfl (by exact qU (xu rfl Tryd.runUnderlying49 rfl Tryd.sizeOf44 rfl) rfl), nQ rfl (by exact qU (xu rfl Tryd.runUnderlying47 rfl Tryd.sizeOf45 rfl) rfl), nQ rfl (by exact qU (xW 7 rfl Nr rfl rfl Tryd.isAgg45) rfl), nM rfl, nQ rfl (by exact qU (xM rfl rfl Tryd.runUnderlying45 Tryd.sizeOf3 (LQ.rd (i := 8) rfl) (fun _ => rfl) rfl Nu) rfl), nQ rfl (by exact qU (yd rfl (LQ.rd (i := 8) rfl) (fun _ => rfl) Nu rfl Tryd.isAgg3) rfl), nQ rfl (by exact qU (vZ rfl Tryd.runUnderlying3 Tryd.runUnderlying53) rfl), trivial⟩) fun D l a w ho hcl hav hpre hm hE hk hA hst => ?_
          have hS := (Ss.mk hE hst).env2 (e' := [(159, qS Gv 0), (165, .int .u32 (wr .u32 (rd G3 Lp)))]) ⟨rfl, rfl, trivial⟩
          refine q7 rfl <| qO hS rfl Tryd.call23 (zo hG K (qt.mk (qW.mk (q8.mk Lz) G4) (qx.mk GF Gx) (qx.mk GG Gy)) (wr .u32 (rd G3 Lp)) (3 : Int) Gv Me Mb Mc Md GS GT GD G6 G7 GE GU GV GH G8 G9 GI Nt Ns Lk Lt Ll Lu (hS.st.part 6 [0, 1, 2, 3, 4, 5, 6, 7, 8, 9] (by kernel_rfl)) (qE hM) (fun Sy NE Sz SA MW N1 N2 w hM SB SC hst => qL hS.ev hst.appF rfl fun hS => ?_))
          replace hS : Ss _ _ _ H [N2, N1, GD, GE, GH, GI, GY, Lo, Lm, Ln] F _ _ := hS
          refine qF ?_
          replace hst := hS.st
          obtain ⟨hcl, hmust, hav2, hA⟩ := dn (vals' := [some (qS Gv 0), some (qS Gv 0), some (qS Gv 0), some (qS LJ 0), some (.slice Ly G3.length LI), some (.int .i64 Lp), some (xc Ly (Int.toNat Lp * 1)), some (.int .i64 (rd G3 Lp)), some (.int .u32 (wr .u32 (rd G3 Lp))), some (.int .i64 Sy)]) 9 [(2, 9), (8, 9), (1, 2), (7, 8), (0, 1), (6, 7), (4, 6), (5, 6), (3, 4)] hA hcl hav hm hpre hk rfl rfl rfl rfl rfl rfl rfl
          clear hm hav
          refine x3 hA hst ho hcl hmust [] rfl rfl rfl trivial fun a w hS => ?_
          replace hS := hS.env2 (e' := [(0, .slice GP Gw.length GQ), (8, qS Gv 0), (9, .slice La Gz.length Lb), (18, qS LJ 0), (153, .agg ⟨tab_deflate_order.flatMap (ci .i64)⟩), (154, .int .i64 LR)]) ⟨rfl, rfl, rfl, rfl, rfl, rfl, trivial⟩
          refine zr (qd ?_)
          refine zB <| sB hS rfl fun hS => sM hS rfl fun hS => zc <| qd ?_
          exact PP _ _ ⟨NE, Sz, SA, MW, N1, N2, (qh (LR + (1 : Int))), hS.to [0, 1, 2, 3, 4, 5, 6, 7, 8, 9] (by kernel_rfl) ⟨rfl, rfl, rfl, rfl, rfl, rfl, trivial⟩, SB, SC, hM⟩
         ·refine wp_exit ?_
          refine qB (qB (qY (qd ?_)))
          exact PO _ _ ⟨Lz, Mb, Mc, G4, Md, Me, hS.to [0, 1, 2, 3, 4, 5, 6, 7, 8, 9] (by kernel_rfl) ⟨rfl, rfl, rfl, rfl, trivial⟩, Ns, Nt, hM⟩
       ·intro a w hI
        obtain ⟨LD, MJ, MK, Lf, ML, MM, hS, PS, PT, hM⟩ := hI
        rw [qj.j10] at hM
        refine zg (fun a w => ∃ (LE : Int) (MN : Option Addr) (MO : Nat) (Lg : (List Int)) (MP : qq) (MQ : qq), Ss 196 [] [(0, .slice GP Gw.length GQ), (8, qS Gv 0)] H [MQ, MP, GD, GE, GH, GI] F a w ∧ (xa 5 (ci .u8) 1 MN Lg MO MP) ∧ (xZ MQ Gv ([.int .i64 LE, .slice MN Lg.length MO, .slice GS GF.length GT, .slice G6 Gx.length G7, .slice GU GG.length GV, .slice G8 Gy.length G9]) 49) ∧ (qj.j12 K Gw GF Gx GG Gy LE Lg).wp kr kp) (fun Ts PU => ?_) ?_
        ·refine wp_seq ?_
         refine zB <| sM hS rfl fun hS => sO hS (xY rfl Tryd.runUnderlying72) rfl fun hS => sM hS rfl fun hS => qF <| xw <| zk (fun N3 a w => ∃ (LA : Int) (Mf : Option Addr) (Mg : Nat) (G5 : (List Int)) (Mh : qq) (Mi : qq) (GW : Int), Ss 196 [] [(0, .slice GP Gw.length GQ), (8, qS Gv 0), (18, qS LJ 0), (168, .slice La Gz.length Lb), (169, .int .i64 (Gz.length : Int)), (170, .int .i64 GW)] H [Mi, Mh, GD, GE, GH, GI, Lo, Lm, Ln, GY] F a w ∧ (xa 5 (ci .u8) 1 Mf G5 Mg Mh) ∧ (xZ Mi Gv ([.int .i64 LA, .slice Mf G5.length Mg, .slice GS GF.length GT, .slice G6 Gx.length G7, .slice GU GG.length GV, .slice G8 Gy.length G9]) 49) ∧ (qj.l11 K Gw GF Gx GG Gy Gz G3 GZ N3 LA G5 GW).wp kr kp) K ?_ ?_ ?_
         ·exact ⟨LD, MJ, MK, Lf, ML, MM, (0 : Int), hS.to [0, 1, 2, 3, 4, 5, 7, 8, 9, 6] (by kernel_rfl) ⟨rfl, rfl, rfl, rfl, rfl, rfl, trivial⟩, PS, PT, hM⟩
         ·intro a w hI; obtain ⟨_, _, _, _, _, _, _, _, _, _, hM⟩ := hI; exact zj hM
         ·intro N3 a w hI Tt PV
          obtain ⟨LA, Mf, Mg, G5, Mh, Mi, GW, hS, Nv, Nw, hM⟩ := hI
          rw [qj.l11] at hM
          refine qp <| sB hS rfl fun hS => qF <| wp_seq <| qv hS rfl hM (fun PW hM => ?_) (fun PW hM => ?_)
          ·refine wp_skip ?_
           refine qd <| wp_seq <| xw <| wp_seq <| zB ?_
           obtain ⟨Nx, hM⟩ := qH hM
           refine sO hS (xM rfl rfl Tryd.runUnderlying72 Tryd.sizeOf75 (MD.rd (i := 9) rfl) (fun _ => rfl) rfl Nx) rfl fun hS => sO hS (yL rfl (MD.rd (i := 9) rfl) (fun _ => rfl) Nx Tryd.isAgg75 Tryd.sizeOf75 rfl) rfl fun hS => Qs ([.int .i64 (0 : Int), .int .i64 (0 : Int), .int .i64 (0 : Int)]) hS Tryd.zeroValue75 rfl rfl fun w MR Tu PX hS => uz 0 ([.int .i64 ((rd Gz GW).symbol_), .int .i64 ((rd Gz GW).more_), .int .i64 ((rd Gz GW).bits_)]) ([.int .i64 ((rd Gz GW).symbol_), .int .i64 ((rd Gz GW).more_), .int .i64 ((rd Gz GW).bits_)]) hS rfl rfl PX rfl rfl Tryd.sizeOf75 (by simp [Value.oneCell']) (Nat.le_of_ble_eq_true rfl) rfl fun w N4 Ms hS => qF <| qp <| sM hS rfl fun hS => sO hS (vF 7 rfl Nr rfl ([.slice Ly G3.length LI, .slice MF GZ.length MG]) rfl rfl Tryd.isAgg47 Tryd.sizeOf47) rfl fun hS => sO hS (xu rfl Tryd.runUnderlying75 rfl Tryd.sizeOf3 rfl) rfl fun hS => sO hS (xW 0 rfl Ms rfl rfl Tryd.isAgg3) rfl fun hS => qO hS rfl Tryd.call41 (ui hG K (qt.mk (qW.mk (q8.mk LA) G5) (qx.mk GF Gx) (qx.mk GG Gy)) (qx.mk G3 GZ) ((rd Gz GW).symbol_) Gv Mi Mf Mg Mh GS GT GD G6 G7 GE GU GV GH G8 G9 GI Ly LI MF MG Nw Nv Lk Lt Ll Lu (LQ.rdF (i := 2) rfl) (LQ.cap (fun _ => rfl) rfl) (NR.rdF (i := 3) rfl) (NR.cap (fun _ => rfl) rfl) (hS.st.part 6 [1, 2, 3, 4, 5, 6, 0, 7, 8, 9, 10] (by kernel_rfl)) (qE hM) (fun NF SD SE MX N5 N6 w hM SG SH hst => qL hS.ev hst.appF rfl fun hS => ?_))
           replace hS : Ss _ _ _ H [N6, N5, GD, GE, GH, GI, N4, Lo, Lm, Ln, GY] F _ _ := hS
           refine qF <| za (vals := [some (qS Gv 0), some (qS Gv 0), some (qS Gv 0), some (qS MR 1), some (.int .i64 ((rd Gz GW).more_)), some (.int .u32 (wr .u32 (rd Gz GW).more_)), some (qS MR 2), some (.int .i64 ((rd Gz GW).bits_)), none]) hS xp rfl ?_
           intro l w ho hcl hA hst
           refine jn hA hst ho hcl xv xo 8 [0, 1, 2, 3, 4, 5, 6, 7] rfl rfl rfl rfl rfl (by exact ⟨nM rfl, nQ rfl (by exact qU (yx rfl) rfl), nQ rfl (by exact qU (xu rfl Tryd.runUnderlying49 rfl Tryd.sizeOf44 rfl) rfl), nQ rfl (by exact qU (xu rfl Tryd.runUnderlying75 rfl Tryd.sizeOf3 rfl) rfl), nQ rfl (by exact qU (xW 6 rfl Ms rfl rfl Tryd.isAgg3) rfl), nQ rfl (by exact qU (vZ rfl Tryd.runUnderlying3 Tryd.runUnderlying53) rfl), nQ rfl (by exact qU (xu rfl Tryd.runUnderlying75 rfl Tryd.sizeOf3 rfl) rfl), nQ rfl (by exact qU (xW 6 rfl Ms rfl rfl Tryd.isAgg3) rfl), trivial⟩) fun D l a w ho hcl hav hpre hm hE hk hA hst => ?_
           have hS := (Ss.mk hE hst).env2 (e' := [(181, qS Gv 0), (184, .int .u32 (wr .u32 (rd Gz GW).more_)), (186, .int .i64 ((rd Gz GW).bits_))]) ⟨rfl, rfl, rfl, trivial⟩
           refine q7 rfl <| qO hS rfl Tryd.call23 (zo hG K (qt.mk (qW.mk (q8.mk NF) MX) (qx.mk GF Gx) (qx.mk GG Gy)) (wr .u32 (rd Gz GW).more_) ((rd Gz GW).bits_) Gv N6 SD SE N5 GS GT GD G6 G7 GE GU GV GH G8 G9 GI SH SG Lk Lt Ll Lu (hS.st.part 6 [0, 1, 2, 3, 4, 5, 6, 7, 8, 9, 10] (by kernel_rfl)) (qE hM) (fun SI NG SJ SK MY N7 N8 w hM SL SM hst => qL hS.ev hst.appF rfl fun hS => ?_))
           replace hS : Ss _ _ _ H [N8, N7, GD, GE, GH, GI, N4, Lo, Lm, Ln, GY] F _ _ := hS
           refine qF ?_
           replace hst := hS.st
           obtain ⟨hcl, hmust, hav2, hA⟩ := dn (vals' := [some (qS Gv 0), some (qS Gv 0), some (qS Gv 0), some (qS MR 1), some (.int .i64 ((rd Gz GW).more_)), some (.int .u32 (wr .u32 (rd Gz GW).more_)), some (qS MR 2), some (.int .i64 ((rd Gz GW).bits_)), some (.int .i64 SI)]) 8 [(2, 8), (5, 8), (7, 8), (1, 2), (4, 5), (6, 7), (0, 1), (3, 4)] hA hcl hav hm hpre hk rfl rfl rfl rfl rfl rfl rfl
           clear hm hav
           refine x3 hA hst ho hcl hmust [] rfl rfl rfl trivial fun a w hS => ?_
           replace hS := hS.env2 (e' := [(0, .slice GP Gw.length GQ), (8, qS Gv 0), (18, qS LJ 0), (168, .slice La Gz.length Lb), (169, .int .i64 (Gz.length : Int)), (170, .int .i64 GW)]) ⟨rfl, rfl, rfl, rfl, rfl, rfl, trivial⟩
           refine zr (qd ?_)
           refine zB <| sB hS rfl fun hS => sM hS rfl fun hS => zc <| qd ?_
           exact PV _ _ ⟨NG, SJ, SK, MY, N7, N8, (qh (GW + (1 : Int))), hS.to [0, 1, 2, 3, 4, 5, 7, 8, 9, 10] (by kernel_rfl) ⟨rfl, rfl, rfl, rfl, rfl, rfl, trivial⟩, SL, SM, hM⟩
          ·refine wp_exit ?_
           refine qB (qB (qY (qd ?_)))
           exact PU _ _ ⟨LA, Mf, Mg, G5, Mh, Mi, hS.to [0, 1, 2, 3, 4, 5] (by kernel_rfl) ⟨rfl, rfl, trivial⟩, Nv, Nw, hM⟩
        ·intro a w hI
         obtain ⟨LE, MN, MO, Lg, MP, MQ, hS, PY, PZ, hM⟩ := hI
         rw [qj.j12] at hM
         refine qp <| sM hS rfl fun hS => sM hS rfl fun hS => qO hS rfl Tryd.call24 (jy hG K (qt.mk (qW.mk (q8.mk LE) Lg) (qx.mk GF Gx) (qx.mk GG Gy)) Gw Gv MQ MN MO MP GS GT GD G6 G7 GE GU GV GH G8 G9 GI GP GQ PZ PY Lk Lt Ll Lu (LS.app _) M0 (hS.st.part 6 [0, 1, 2, 3, 4, 5] (by kernel_rfl)) (qE hM) (fun NH SN SO MZ Ny Nz w hM SP SQ hst => qL hS.ev hst.appF rfl fun hS => ?_))
         replace hS : Ss _ _ _ H [Nz, Ny, GD, GE, GH, GI] F _ _ := hS
         refine qF <| qp <| sM hS rfl fun hS => sO hS (yx rfl) rfl fun hS => sO hS (xu rfl Tryd.runUnderlying49 rfl Tryd.sizeOf44 rfl) rfl fun hS => qO hS rfl Tryd.call25 (yr hG K (qt.mk (qW.mk (q8.mk NH) MZ) (qx.mk GF Gx) (qx.mk GG Gy)) Gv Nz SN SO Ny GS GT GD G6 G7 GE GU GV GH G8 G9 GI SQ SP Lk Lt Ll Lu (hS.st.part 6 [0, 1, 2, 3, 4, 5] (by kernel_rfl)) (qE hM) (fun SR w hM  hst => qL hS.ev hst.appF rfl fun hS => ?_))
         replace hS : Ss _ _ _ H [Nz, Ny, GD, GE, GH, GI] F _ _ := hS
         refine sA hS rfl fun hS => sA hS rfl fun hS => qF <| wp_ret ?_
         exact zm (rs := [2, 3]) hS rfl rfl (hret SR (0 : Int) _ (qV hM) (hS.st.pick [] (by kernel_rfl)))
theorem uh {H : xR} {F : List qq} {w : World} {R : Ending → World → Prop} {kr : (List UInt8) → Prop} {kp : Value → Prop} (hG : Gl H) (K : Nat) (GB : List UInt8)
    (hS : St w H [] F) (hm : (xf.m K GB).wp kr kp)
    (hret : ∀ (GG : List UInt8) (w : World), kr GG → St w H [] F → R (.returned (yc GG)) w) :
    Calls Tryd.prog 10 ⟨[yc GB]⟩ w R := by
 refine enter Tryd.func10 rfl Tryd.ntmps10 rfl hS fun a w hS => ?_
 have hM := hm; clear hm
 rw [xf.m] at hM
 refine qp <| sA hS rfl fun hS => qF <| qp <| sA hS rfl fun hS => ?_
 obtain ⟨GS, GH, hS⟩ := hS.nilV 5 (ci .u8) 1
 refine qF <| xw <| zk (fun GC a w => ∃ (Gw : List UInt8) (Gy : Option Addr) (Gz : Nat) (Gx : (List Int)) (GA : qq), Ss 41 [] [(0, yc Gw), (3, .slice Gy Gx.length Gz)] H [GA] F a w ∧ (xa 5 (ci .u8) 1 Gy Gx Gz GA) ∧ (xf.l1 K GC Gw Gx).wp kr kp) K ?_ ?_ ?_
 ·exact ⟨GB, none, 0, ([] : List Int), GS, hS.to [0] (by kernel_rfl) ⟨rfl, rfl, trivial⟩, GH, hM⟩
 ·intro a w hI; obtain ⟨_, _, _, _, _, _, _, hM⟩ := hI; exact zj hM
 ·intro GC a w hI GZ GI
  obtain ⟨Gw, Gy, Gz, Gx, GA, hS, GJ, hM⟩ := hI
  rw [xf.l1] at hM
  refine xw <| qp <| sM hS rfl fun hS => sO hS (uW rfl Tryd.runUnderlying9) rfl fun hS => sO hS (V7 rfl rfl) rfl fun hS => zz (v := Value.int .i64) (x0 := (if (Gw.length : Int) < (65535 : Int) then (Gw.length : Int) else (65535 : Int))) hS (xj rfl) rfl fun Gu a w hz hS => ?_
  have hM := qC hz hM; clear hz
  refine qF <| qp <| sA hS rfl fun hS => qF <| zg (fun a w => ∃ (Gv : Int), Ss 41 [] [(0, yc Gw), (3, .slice Gy Gx.length Gz), (4, .int .i64 Gu), (5, .int .u8 Gv)] H [GA] F a w ∧ (xf.j2 K (xf.l1 K GC) Gw Gx Gu Gv).wp kr kp) (fun G0 GD => ?_) ?_
  ·refine wp_seq ?_
   refine zB <| sM hS rfl fun hS => sM hS rfl fun hS => sO hS (uW rfl Tryd.runUnderlying9) rfl fun hS => sB hS rfl fun hS => qF <| qv hS rfl hM (fun GK hM => ?_) (fun GK hM => ?_)
   ·refine zB ?_
    refine sA hS rfl fun hS => zc <| qd ?_
    exact GD _ _ ⟨(1 : Int), hS.to [0] (by kernel_rfl) ⟨rfl, rfl, rfl, rfl, trivial⟩, hM⟩
   ·refine wp_skip ?_
    refine qd ?_
    exact GD _ _ ⟨(0 : Int), hS.to [0] (by kernel_rfl) ⟨rfl, rfl, rfl, rfl, trivial⟩, hM⟩
  ·intro a w hI
   obtain ⟨Gv, hS, hM⟩ := hI
   rw [xf.j2] at hM
   refine qp <| sM hS rfl fun hS => sM hS rfl fun hS => sM hS rfl fun hS => sO hS (vZ rfl Tryd.runUnderlying3 Tryd.runUnderlying5) rfl fun hS => sM hS rfl fun hS => sO hS (shr rfl rfl rfl) rfl fun hS => sO hS (vZ rfl Tryd.runUnderlying3 Tryd.runUnderlying5) rfl fun hS => sM hS rfl fun hS => sO hS (vZ rfl Tryd.runUnderlying3 Tryd.runUnderlying5) rfl fun hS => sO hS (un rfl rfl) rfl fun hS => sM hS rfl fun hS => sO hS (shr rfl rfl rfl) rfl fun hS => sO hS (vZ rfl Tryd.runUnderlying3 Tryd.runUnderlying5) rfl fun hS => sO hS (un rfl rfl) rfl fun hS => Xz (g := (ci .u8)) ([Gv, (wr .u8 Gu), (wr .u8 (xC .i64 Gu (8 : Int))), (ZG .u8 (wr .u8 Gu)), (ZG .u8 (wr .u8 (xC .i64 Gu (8 : Int))))] : List Int) [.int .u8 Gv, .int .u8 (wr .u8 Gu), .int .u8 (wr .u8 (xC .i64 Gu (8 : Int))), .int .u8 (ZG .u8 (wr .u8 Gu)), .int .u8 (ZG .u8 (wr .u8 (xC .i64 Gu (8 : Int))))] hS Tryd.runUnderlying38 Tryd.sizeOf5 X.el5 rfl rfl rfl (by simp [Value.cells]) rfl rfl rfl rfl rfl fun w G1 G2 G3 GL hS => ?_
   obtain ⟨GM, hM⟩ := qH hM
   refine X9 (ys := ([Gv, (wr .u8 Gu), (wr .u8 (xC .i64 Gu (8 : Int))), (ZG .u8 (wr .u8 Gu)), (ZG .u8 (wr .u8 (xC .i64 Gu (8 : Int))))] : List Int)) 1 hS rfl rfl GJ rfl (GL.rd (i := 0) rfl) Tryd.runUnderlying38 Tryd.runUnderlying38 X.el5 (fun _ => rfl) rfl uy GM rfl fun GY w G4 G5 G6 hz GN hS => ?_
   have hM := qC hz hM; clear hz
   refine sA hS rfl fun hS => qF <| qp <| sM hS rfl fun hS => sM hS rfl fun hS => sM hS rfl fun hS => ?_
   obtain ⟨GO, hM⟩ := qH hM
   refine sO hS (DI rfl Tryd.runUnderlying9 Da (Bz rfl) GO) rfl fun hS => ?_
   obtain ⟨GP, hM⟩ := qH hM
   refine DZ 1 hS rfl rfl GN rfl Tryd.runUnderlying38 Tryd.runUnderlying9 X.el5 rfl GP rfl fun GE w GT GU GV hz GF hS => ?_
   have hM := qC hz hM; clear hz
   refine sA hS rfl fun hS => qF <| qp <| sM hS rfl fun hS => sM hS rfl fun hS => ?_
   obtain ⟨GQ, hM⟩ := qH hM
   refine sO hS (DI rfl Tryd.runUnderlying9 (DM rfl) B6 GQ) rfl fun hS => zz (v := yc) (x0 := (sub Gw Gu (Gw.length : Int))) hS (xj rfl) rfl fun GW a w hz hS => ?_
   have hM := qC hz hM; clear hz
   refine qF <| qp <| sM hS rfl fun hS => sB hS rfl fun hS => qF <| qv hS rfl hM (fun GR hM => ?_) (fun GR hM => ?_)
   ·refine wp_seq ?_
    refine zB <| sM hS rfl fun hS => sO hS (DD rfl Tryd.runUnderlying38 Tryd.runUnderlying5 Tryd.runUnderlying9 (GF.rd (i := 1) rfl)) rfl fun hS => zz (v := yc) (x0 := (GE.map ZX)) hS (xj rfl) rfl fun GX a w hz hS => ?_
    have hM := qC hz hM; clear hz
    refine qF <| wp_ret <| zS (qz (zS ?_))
    exact zm (rs := [2]) hS rfl rfl (hret GX _ (qV hM) (hS.st.pick [] (by kernel_rfl)))
   ·refine wp_skip ?_
    refine zr (qd ?_)
    exact GI _ _ ⟨GW, GT, GU, GE, GV, hS.to [1] (by kernel_rfl) ⟨rfl, rfl, trivial⟩, GF, hM⟩
end Go.TrydS

