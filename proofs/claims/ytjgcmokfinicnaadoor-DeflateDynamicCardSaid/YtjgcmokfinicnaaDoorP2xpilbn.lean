/- Printed by a program of mine: each Go function answers what its model answers; conditions: what each theorem asks of memory. -/
import Derived.Test.YtjgcmokfinicnaaDoorP1xicgcb
set_option linter.unusedVariables false
set_option linter.unusedSimpArgs false
set_option maxRecDepth 100000
namespace Go.TrydS
open Go Go.Sl Go.Mo Go.Proofs
attribute [local irreducible] qR.wp
theorem yA (K : Nat) : ∀ (d : Nat) {H : xR} {F : List qq} {w : World} {R : Ending → World → Prop} {kr : (List qb) → Prop} {kp : Value → Prop} (hG : Gl H) (Gu : List qb) (GC : Int) (GD : Int) (GG : Int) (GF : qq) (Gv : Option Addr) (Gy : Nat) (GB : List (zv 2)) (GN : qq) (GH : zw (qg GF) Gu GB) (GM : xa 112 (zv.v (sz := 2)) 2 Gv GB Gy GN)
    (hS : St w H [GF, GN] F) (hm : (qa.r K d Gu GC GD GG).wp kr kp)
    (hret : ∀ (Lq : List (zv 2)) (Ln : (List qb)) (Mx : qq) (w : World), kr Ln → (xa 112 (zv.v (sz := 2)) 2 Gv Lq Gy Mx) → (zw (qg GF) Ln Lq) → (Lq.length = GB.length) → St w H [GF, Mx] F → R (.returned (.tuple ⟨[]⟩)) w),
    Calls Tryd.prog 100 ⟨[.slice Gv GB.length Gy, .int .i64 GC, .int .i64 GD, .int .i64 GG, yy 57 [] []]⟩ w R := by
  intro d
  induction d with
  | zero => intro H F w R kr kp hG Gu GC GD GG GF Gv Gy GB GN GH GM hS hm hret; exact (zj hm).elim
  | succ d ih =>
  intro H F w R kr kp hG Gu GC GD GG GF Gv Gy GB GN GH GM hS hm hret
  have hM := hm; clear hm
  rw [qa.r] at hM; rw [qa.b] at hM
  refine enter Tryd.func100 rfl Tryd.ntmps100 rfl hS fun a w hS => ?_
  have NX : ∀ q ∈ GF, q ∈ GF := fun _ h => h
  have Lk : GB.length = GB.length := rfl
  refine zg (fun a w => Ss 220 [] [(0, .slice Gv GB.length Gy), (1, .int .i64 GC), (2, .int .i64 GD), (3, .int .i64 GG), (4, yy 57 [] [])] H [GF, GN] F a w ∧ (qa.j4 K (qa.r K d) Gu GC GD GG).wp kr kp) (fun NY MG => ?_) ?_
  ·refine wp_seq ?_
   refine zB <| sM hS rfl fun hS => sM hS rfl fun hS => sB hS rfl fun hS => sB hS rfl fun hS => qF <| qv hS rfl hM (fun MH hM => ?_) (fun MH hM => ?_)
   ·refine wp_seq ?_
    refine zB <| sM hS rfl fun hS => sA hS rfl fun hS => qF <| qp <| sM hS rfl fun hS => sA hS rfl fun hS => qF <| zg (fun a w => ∃ (Lf : Int), Ss 220 [] [(0, .slice Gv GB.length Gy), (1, .int .i64 GC), (10, .int .i64 Lf)] H [GF, GN] F a w ∧ (qa.j2 K (qa.r K d) Gu GC Lf).wp kr kp) (fun NZ MI => ?_) ?_
    ·refine xw ?_
     refine zk (fun My a w => ∃ (G3 : Int) (Lg : Int), Ss 220 [] [(0, .slice Gv GB.length Gy), (1, .int .i64 GC), (4, yy 57 [] []), (10, .int .i64 G3), (11, .int .i64 Lg)] H [GF, GN] F a w ∧ (qa.l1 K (qa.r K d) Gu GC My G3 Lg).wp kr kp) K ?_ ?_ ?_
     ·exact ⟨GD, GG, hS.to [0, 1] (by kernel_rfl) ⟨rfl, rfl, rfl, rfl, rfl, trivial⟩, hM⟩
     ·intro a w hI; obtain ⟨_, _, _, hM⟩ := hI; exact zj hM
     ·intro My a w hI N0 L0
      obtain ⟨G3, Lg, hS, hM⟩ := hI
      rw [qa.l1] at hM
      refine wp_seq <| qp <| sM hS rfl fun hS => sM hS rfl fun hS => sB hS rfl fun hS => qF <| qv hS rfl hM (fun MJ hM => ?_) (fun MJ hM => ?_)
      ·refine wp_skip ?_
       refine qd <| xw <| qp <| sM hS rfl fun hS => sM hS rfl fun hS => sB hS rfl fun hS => sO hS (vZ rfl Tryd.runUnderlying3 Tryd.runUnderlying39) rfl fun hS => sO hS (shr rfl rfl rfl) rfl fun hS => sO hS (vZ rfl Tryd.runUnderlying39 Tryd.runUnderlying3) rfl fun hS => zz (v := Value.int .i64) (x0 := (wr .i64 (xC .u64 (wr .u64 (qh (G3 + Lg))) (1 : Int)))) hS (xj rfl) rfl fun GR a w hz hS => ?_
       have hM := qC hz hM; clear hz
       refine qF <| wp_seq ?_
       obtain ⟨Lr, hM⟩ := qH hM
       obtain ⟨LH, LI, MK, ML, MM⟩ := GH.get Lr
       obtain ⟨Lt, hM⟩ := qH hM
       obtain ⟨LJ, LK, MN, MO, MP⟩ := GH.get Lt
       refine za (vals := [some (yy 57 [] []), some (.slice Gv GB.length Gy), some (.int .i64 GR), some (xc Gv (Int.toNat GR * 2)), some (.agg ⟨[.int .i64 ((rd Gu GR).often_), .slice LH ((rd Gu GR).symbols_).length LI]⟩), some (.slice Gv GB.length Gy), some (.int .i64 GC), some (xc Gv (Int.toNat GC * 2)), some (.agg ⟨[.int .i64 ((rd Gu GC).often_), .slice LJ ((rd Gu GC).symbols_).length LK]⟩), none, none]) hS xp rfl ?_
       intro l w ho hcl hA hst
       refine jn hA hst ho hcl xv xo 9 [0, 1, 2, 3, 4, 5, 6, 7, 8] rfl rfl rfl rfl rfl (by exact ⟨nM rfl, nM rfl, nM rfl, nQ rfl (by exact qU (xM rfl rfl Tryd.runUnderlying110 Tryd.sizeOf112 (GM.rd (i := 1) rfl) zv.len rfl (GH.inb Lr)) rfl), nQ rfl (by exact qU (qU (yL rfl (GM.rd (i := 1) rfl) zv.len (GH.inb Lr) Tryd.isAgg112 Tryd.sizeOf112 rfl) (congrArg (fun l => Value.agg ⟨l⟩) MK)) rfl), nM rfl, nM rfl, nQ rfl (by exact qU (xM rfl rfl Tryd.runUnderlying110 Tryd.sizeOf112 (GM.rd (i := 1) rfl) zv.len rfl (GH.inb Lt)) rfl), nQ rfl (by exact qU (qU (yL rfl (GM.rd (i := 1) rfl) zv.len (GH.inb Lt) Tryd.isAgg112 Tryd.sizeOf112 rfl) (congrArg (fun l => Value.agg ⟨l⟩) MN)) rfl), trivial⟩) fun D l a w ho hcl hav hpre hm hE hk hA hst => ?_
       have hS := (Ss.mk hE hst).env2 (e' := [(40, yy 57 [] []), (44, .agg ⟨[.int .i64 ((rd Gu GR).often_), .slice LH ((rd Gu GR).symbols_).length LI]⟩), (48, .agg ⟨[.int .i64 ((rd Gu GC).often_), .slice LJ ((rd Gu GC).symbols_).length LK]⟩)]) ⟨rfl, rfl, rfl, trivial⟩
       refine q7 rfl <| vg hS rfl rfl Tryd.call57 (jc hG K (qb.mk ((rd Gu GR).often_) ((rd Gu GR).symbols_)) (qb.mk ((rd Gu GC).often_) ((rd Gu GC).symbols_)) LH LI LJ LK (ML.rdF (i := 0) rfl) MM (MO.rdF (i := 0) rfl) MP (hS.st.part 0 [0, 1] (by kernel_rfl)) (qE hM) (fun L1 w hM  hst => qL hS.ev hst.appF rfl fun hS => ?_))
       replace hS : Ss _ _ _ H [GF, GN] F _ _ := hS
       refine qF ?_
       replace hst := hS.st
       obtain ⟨hcl, hmust, hav2, hA⟩ := dn (vals' := [some (yy 57 [] []), some (.slice Gv GB.length Gy), some (.int .i64 GR), some (xc Gv (Int.toNat GR * 2)), some (.agg ⟨[.int .i64 ((rd Gu GR).often_), .slice LH ((rd Gu GR).symbols_).length LI]⟩), some (.slice Gv GB.length Gy), some (.int .i64 GC), some (xc Gv (Int.toNat GC * 2)), some (.agg ⟨[.int .i64 ((rd Gu GC).often_), .slice LJ ((rd Gu GC).symbols_).length LK]⟩), some (.int .i64 L1), some (.bool (decide (L1 < (0 : Int))))]) 9 [(0, 9), (4, 9), (8, 9), (3, 4), (7, 8), (1, 3), (2, 3), (5, 7), (6, 7)] hA hcl hav hm hpre hk rfl rfl rfl rfl rfl rfl rfl
       clear hm hav
       refine x3 hA hst ho hcl hmust [10] rfl rfl rfl (by exact ⟨nB rfl, trivial⟩) fun a w hS => ?_
       replace hS := hS.env2 (e' := [(0, .slice Gv GB.length Gy), (1, .int .i64 GC), (4, yy 57 [] []), (10, .int .i64 G3), (11, .int .i64 Lg), (12, .int .i64 GR), (50, .bool (decide (L1 < (0 : Int))))]) ⟨rfl, rfl, rfl, rfl, rfl, rfl, rfl, trivial⟩
       refine qd <| qv hS rfl hM (fun MQ hM => ?_) (fun MQ hM => ?_)
       ·refine zB ?_
        refine sM hS rfl fun hS => sB hS rfl fun hS => zz (v := Value.int .i64) (x0 := (qh (GR + (1 : Int)))) hS (xj rfl) rfl fun NN a w hz hS => ?_
        have hM := qC hz hM; clear hz
        refine zc <| zr (qd ?_)
        exact L0 _ _ ⟨NN, Lg, hS.to [0, 1] (by kernel_rfl) ⟨rfl, rfl, rfl, rfl, rfl, trivial⟩, hM⟩
       ·refine zB ?_
        refine sM hS rfl fun hS => sA hS rfl fun hS => zc <| zr (qd ?_)
        exact L0 _ _ ⟨G3, GR, hS.to [0, 1] (by kernel_rfl) ⟨rfl, rfl, rfl, rfl, rfl, trivial⟩, hM⟩
      ·refine wp_exit ?_
       refine qB (qB (qY (qd ?_)))
       exact MI _ _ ⟨G3, hS.to [0, 1] (by kernel_rfl) ⟨rfl, rfl, rfl, trivial⟩, hM⟩
    ·intro a w hI
     obtain ⟨Lf, hS, hM⟩ := hI
     rw [qa.j2] at hM
     refine wp_seq <| qp <| sM hS rfl fun hS => sA hS rfl fun hS => qF <| xw <| zk (fun Mz a w => ∃ (GJ : List (zv 2)) (Gz : (List qb)) (LL : qq) (Gw : Int), Ss 220 [] [(0, .slice Gv GJ.length Gy), (10, .int .i64 Lf), (13, .int .i64 Gw)] H [GF, LL] F a w ∧ (xa 112 (zv.v (sz := 2)) 2 Gv GJ Gy LL) ∧ (zw (qg GF) Gz GJ) ∧ (GJ.length = GB.length) ∧ (qa.l3 K (qa.r K d) Lf Mz Gz Gw).wp kr kp) K ?_ ?_ ?_
     ·exact ⟨GB, Gu, GN, GC, hS.to [0, 1] (by kernel_rfl) ⟨rfl, rfl, rfl, trivial⟩, GM, GH, Lk, hM⟩
     ·intro a w hI; obtain ⟨_, _, _, _, _, _, _, _, hM⟩ := hI; exact zj hM
     ·intro Mz a w hI N1 MR
      obtain ⟨GJ, Gz, LL, Gw, hS, G1, GT, L3, hM⟩ := hI
      rw [qa.l3] at hM
      refine wp_seq <| qp <| sM hS rfl fun hS => sM hS rfl fun hS => sB hS rfl fun hS => sB hS rfl fun hS => qF <| qv hS rfl hM (fun MS hM => ?_) (fun MS hM => ?_)
      ·refine wp_skip ?_
       refine qd <| wp_seq <| xw ?_
       obtain ⟨Lu, hM⟩ := qH hM
       obtain ⟨G4, G5, MT, MU, MV⟩ := GT.get Lu
       obtain ⟨G6, hM⟩ := qH hM
       obtain ⟨G7, G8, MW, MX, MY⟩ := GT.get G6
       refine za (vals := [some (.slice Gv GJ.length Gy), some (.int .i64 Gw), some (.slice Gv GJ.length Gy), some (.int .i64 Gw), some (.int .i64 (qh (Gw + (1 : Int)))), some (.slice Gv GJ.length Gy), some (.int .i64 Gw), some (.int .i64 (qh (Gw + (1 : Int)))), some (xc Gv (Int.toNat (qh (Gw + (1 : Int))) * 2)), some (.agg ⟨[.int .i64 ((rd Gz (qh (Gw + (1 : Int)))).often_), .slice G4 ((rd Gz (qh (Gw + (1 : Int)))).symbols_).length G5]⟩), some (.slice Gv GJ.length Gy), some (.int .i64 Gw), some (xc Gv (Int.toNat Gw * 2)), some (.agg ⟨[.int .i64 ((rd Gz Gw).often_), .slice G7 ((rd Gz Gw).symbols_).length G8]⟩), some (xc Gv (Int.toNat Gw * 2)), none, none, none]) hS xp rfl ?_
       intro l w ho hcl hA hst
       refine jn hA hst ho hcl xv xo 15 [0, 1, 2, 3, 4, 5, 6, 7, 8, 9, 10, 11, 12, 13, 14] rfl rfl rfl rfl rfl (by exact ⟨nM rfl, nM rfl, nM rfl, nM rfl, nB rfl, nM rfl, nM rfl, nB rfl, nQ rfl (by exact qU (xM rfl rfl Tryd.runUnderlying110 Tryd.sizeOf112 (G1.rd (i := 1) rfl) zv.len rfl (GT.inb Lu)) rfl), nQ rfl (by exact qU (qU (yL rfl (G1.rd (i := 1) rfl) zv.len (GT.inb Lu) Tryd.isAgg112 Tryd.sizeOf112 rfl) (congrArg (fun l => Value.agg ⟨l⟩) MT)) rfl), nM rfl, nM rfl, nQ rfl (by exact qU (xM rfl rfl Tryd.runUnderlying110 Tryd.sizeOf112 (G1.rd (i := 1) rfl) zv.len rfl (GT.inb G6)) rfl), nQ rfl (by exact qU (qU (yL rfl (G1.rd (i := 1) rfl) zv.len (GT.inb G6) Tryd.isAgg112 Tryd.sizeOf112 rfl) (congrArg (fun l => Value.agg ⟨l⟩) MW)) rfl), nQ rfl (by exact qU (xM rfl rfl Tryd.runUnderlying110 Tryd.sizeOf112 (G1.rd (i := 1) rfl) zv.len rfl (GT.inb G6)) rfl), trivial⟩) fun D l a w ho hcl hav hpre hm hE hk hA hst => ?_
       have hS := (Ss.mk hE hst).env2 (e' := [(70, .agg ⟨[.int .i64 ((rd Gz (qh (Gw + (1 : Int)))).often_), .slice G4 ((rd Gz (qh (Gw + (1 : Int)))).symbols_).length G5]⟩), (75, xc Gv (Int.toNat Gw * 2))]) ⟨rfl, rfl, trivial⟩
       refine q7 rfl <| Qt (i := Gw) (sz := 2) 1 (⟨[.int .i64 ((rd Gz (qh (Gw + (1 : Int)))).often_), .slice G4 ((rd Gz (qh (Gw + (1 : Int)))).symbols_).length G5], by simp, by simp [Value.oneCell']⟩ : zv 2) hS rfl rfl G1 rfl Tryd.sizeOf112 rfl (GT.inb G6) fun L4 w N2 hz L5 hS => ?_
       obtain ⟨MZ, hzm⟩ := jh (Gz.set (Int.toNat Gw) (qb.mk ((rd Gz (qh (Gw + (1 : Int)))).often_) ((rd Gz (qh (Gw + (1 : Int)))).symbols_)))
       replace hM := qC hzm hM
       have Ll := zw.set (x := (qb.mk ((rd Gz (qh (Gw + (1 : Int)))).often_) ((rd Gz (qh (Gw + (1 : Int)))).symbols_))) (r := (⟨[.int .i64 ((rd Gz (qh (Gw + (1 : Int)))).often_), .slice G4 ((rd Gz (qh (Gw + (1 : Int)))).symbols_).length G5], by simp, by simp [Value.oneCell']⟩ : zv 2)) (Int.toNat Gw) GT (show qg GF _ _ from ⟨G4, G5, rfl, MU, MV⟩)
       have Lv : L4.length = GJ.length := by rw [hz]; exact List.length_set ..
       rw [← hz, ← hzm] at Ll; clear hz hzm
       have M0 := Eq.trans Lv L3
       refine qF ?_
       replace hst := hS.st
       obtain ⟨L6, hM⟩ := qH hM
       obtain ⟨hcl, hmust, hav2, hA⟩ := ZV (vals' := [some (.slice Gv GJ.length Gy), some (.int .i64 Gw), some (.slice Gv GJ.length Gy), some (.int .i64 Gw), some (.int .i64 (qh (Gw + (1 : Int)))), some (.slice Gv GJ.length Gy), some (.int .i64 Gw), some (.int .i64 (qh (Gw + (1 : Int)))), some (xc Gv (Int.toNat (qh (Gw + (1 : Int))) * 2)), some (.agg ⟨[.int .i64 ((rd Gz (qh (Gw + (1 : Int)))).often_), .slice G4 ((rd Gz (qh (Gw + (1 : Int)))).symbols_).length G5]⟩), some (.slice Gv GJ.length Gy), some (.int .i64 Gw), some (xc Gv (Int.toNat Gw * 2)), some (.agg ⟨[.int .i64 ((rd Gz Gw).often_), .slice G7 ((rd Gz Gw).symbols_).length G8]⟩), some (xc Gv (Int.toNat Gw * 2)), some undef, some (xc Gv (Int.toNat (qh (Gw + (1 : Int))) * 2)), none]) 15 [(0, 15), (1, 15), (5, 15), (6, 15), (7, 15), (8, 15), (9, 15), (13, 15), (14, 15), (12, 13), (10, 12), (11, 12)] hA hcl hav hm hpre rfl rfl rfl rfl rfl
       clear hm hav
       refine jn hA hst ho hcl hav2 hmust 17 [2, 3, 4, 16] rfl rfl rfl rfl rfl (by exact ⟨nM rfl, nM rfl, nB rfl, nQ rfl (by exact qU (xM (Yw Lv rfl) rfl Tryd.runUnderlying110 Tryd.sizeOf112 (L5.rd (i := 1) rfl) zv.len rfl (Ll.inb L6)) rfl), trivial⟩) fun D l a w ho hcl hav hpre hm hE hk hA hst => ?_
       have hS := (Ss.mk hE hst).env2 (e' := [(74, .agg ⟨[.int .i64 ((rd Gz Gw).often_), .slice G7 ((rd Gz Gw).symbols_).length G8]⟩), (76, xc Gv (Int.toNat (qh (Gw + (1 : Int))) * 2))]) ⟨rfl, rfl, trivial⟩
       refine q7 rfl <| Qt (i := (qh (Gw + (1 : Int)))) (sz := 2) 1 (⟨[.int .i64 ((rd Gz Gw).often_), .slice G7 ((rd Gz Gw).symbols_).length G8], by simp, by simp [Value.oneCell']⟩ : zv 2) hS rfl rfl L5 rfl Tryd.sizeOf112 rfl (Ll.inb L6) fun Lw w NO hz M3 hS => ?_
       obtain ⟨M4, hzm⟩ := jh (MZ.set (Int.toNat (qh (Gw + (1 : Int)))) (qb.mk ((rd Gz Gw).often_) ((rd Gz Gw).symbols_)))
       replace hM := qC hzm hM
       have L7 := zw.set (x := (qb.mk ((rd Gz Gw).often_) ((rd Gz Gw).symbols_))) (r := (⟨[.int .i64 ((rd Gz Gw).often_), .slice G7 ((rd Gz Gw).symbols_).length G8], by simp, by simp [Value.oneCell']⟩ : zv 2)) (Int.toNat (qh (Gw + (1 : Int)))) Ll (show qg GF _ _ from ⟨G7, G8, rfl, MX, MY⟩)
       have L8 : Lw.length = L4.length := by rw [hz]; exact List.length_set ..
       rw [← hz, ← hzm] at L7; clear hz hzm
       have M5 := Eq.trans L8 M0
       refine qF ?_
       replace hst := hS.st
       obtain ⟨hcl, hmust, hav2, hA⟩ := ZV (vals' := [some (.slice Gv GJ.length Gy), some (.int .i64 Gw), some (.slice Gv GJ.length Gy), some (.int .i64 Gw), some (.int .i64 (qh (Gw + (1 : Int)))), some (.slice Gv GJ.length Gy), some (.int .i64 Gw), some (.int .i64 (qh (Gw + (1 : Int)))), some (xc Gv (Int.toNat (qh (Gw + (1 : Int))) * 2)), some (.agg ⟨[.int .i64 ((rd Gz (qh (Gw + (1 : Int)))).often_), .slice G4 ((rd Gz (qh (Gw + (1 : Int)))).symbols_).length G5]⟩), some (.slice Gv GJ.length Gy), some (.int .i64 Gw), some (xc Gv (Int.toNat Gw * 2)), some (.agg ⟨[.int .i64 ((rd Gz Gw).often_), .slice G7 ((rd Gz Gw).symbols_).length G8]⟩), some (xc Gv (Int.toNat Gw * 2)), some undef, some (xc Gv (Int.toNat (qh (Gw + (1 : Int))) * 2)), some undef]) 17 [(0, 17), (1, 17), (2, 17), (3, 17), (4, 17), (5, 17), (6, 17), (7, 17), (8, 17), (9, 17), (10, 17), (11, 17), (12, 17), (13, 17), (14, 17), (15, 17), (16, 17)] hA hcl hav hm hpre rfl rfl rfl rfl rfl
       clear hm hav
       refine x3 hA hst ho hcl hmust [] rfl rfl rfl trivial fun a w hS => ?_
       replace hS := hS.env2 (e' := [(0, .slice Gv Lw.length Gy), (10, .int .i64 Lf), (13, .int .i64 Gw)]) ⟨(YT (u := .slice Gv GJ.length Gy) rfl (by rw [L8, Lv])), rfl, rfl, trivial⟩
       refine zr (qd ?_)
       refine zB <| sM hS rfl fun hS => sB hS rfl fun hS => zz (v := Value.int .i64) (x0 := (qh (Gw + (1 : Int)))) hS (xj rfl) rfl fun M6 a w hz hS => ?_
       have hM := qC hz hM; clear hz
       refine zc <| qd ?_
       exact MR _ _ ⟨Lw, M4, NO, M6, hS.to [0, 1] (by kernel_rfl) ⟨rfl, rfl, rfl, trivial⟩, M3, L7, M5, hM⟩
      ·refine wp_exit ?_
       refine qB (qB (qY (qd ?_)))
       refine wp_ret <| qz ?_
       exact zm (rs := []) hS rfl rfl (hret GJ Gz LL _ (qV hM) G1 GT L3 (hS.st.pick [0, 1] (by kernel_rfl)))
   ·refine wp_skip ?_
    refine qd ?_
    exact MG _ _ ⟨hS.to [0, 1] (by kernel_rfl) ⟨rfl, rfl, rfl, rfl, rfl, trivial⟩, hM⟩
  ·intro a w hI
   obtain ⟨hS, hM⟩ := hI
   rw [qa.j4] at hM
   refine zg (fun a w => Ss 220 [] [(0, .slice Gv GB.length Gy), (1, .int .i64 GC), (2, .int .i64 GD), (3, .int .i64 GG), (4, yy 57 [] [])] H [GF, GN] F a w ∧ (qa.j8 K (qa.r K d) Gu GC GD GG).wp kr kp) (fun N3 M7 => ?_) ?_
   ·refine wp_seq ?_
    refine zB <| sM hS rfl fun hS => sM hS rfl fun hS => sB hS rfl fun hS => sB hS rfl fun hS => qF <| qv hS rfl hM (fun M8 hM => ?_) (fun M8 hM => ?_)
    ·refine wp_seq ?_
     refine zB <| sM hS rfl fun hS => sA hS rfl fun hS => qF <| qp <| sM hS rfl fun hS => sA hS rfl fun hS => qF <| zg (fun a w => ∃ (Lh : Int), Ss 220 [] [(0, .slice Gv GB.length Gy), (2, .int .i64 GD), (14, .int .i64 Lh)] H [GF, GN] F a w ∧ (qa.j6 K (qa.r K d) Gu GD Lh).wp kr kp) (fun N4 M9 => ?_) ?_
     ·refine xw ?_
      refine zk (fun MA a w => ∃ (G9 : Int) (Li : Int), Ss 220 [] [(0, .slice Gv GB.length Gy), (2, .int .i64 GD), (4, yy 57 [] []), (14, .int .i64 G9), (15, .int .i64 Li)] H [GF, GN] F a w ∧ (qa.l5 K (qa.r K d) Gu GD MA G9 Li).wp kr kp) K ?_ ?_ ?_
      ·exact ⟨GC, GD, hS.to [0, 1] (by kernel_rfl) ⟨rfl, rfl, rfl, rfl, rfl, trivial⟩, hM⟩
      ·intro a w hI; obtain ⟨_, _, _, hM⟩ := hI; exact zj hM
      ·intro MA a w hI N5 L9
       obtain ⟨G9, Li, hS, hM⟩ := hI
       rw [qa.l5] at hM
       refine wp_seq <| qp <| sM hS rfl fun hS => sM hS rfl fun hS => sB hS rfl fun hS => qF <| qv hS rfl hM (fun Na hM => ?_) (fun Na hM => ?_)
       ·refine wp_skip ?_
        refine qd <| xw <| qp <| sM hS rfl fun hS => sM hS rfl fun hS => sB hS rfl fun hS => sO hS (vZ rfl Tryd.runUnderlying3 Tryd.runUnderlying39) rfl fun hS => sO hS (shr rfl rfl rfl) rfl fun hS => sO hS (vZ rfl Tryd.runUnderlying39 Tryd.runUnderlying3) rfl fun hS => zz (v := Value.int .i64) (x0 := (wr .i64 (xC .u64 (wr .u64 (qh (G9 + Li))) (1 : Int)))) hS (xj rfl) rfl fun GS a w hz hS => ?_
        have hM := qC hz hM; clear hz
        refine qF <| wp_seq ?_
        obtain ⟨Lx, hM⟩ := qH hM
        obtain ⟨LM, LN, Nb, Nc, Nd⟩ := GH.get Lx
        obtain ⟨Ly, hM⟩ := qH hM
        obtain ⟨LO, LP, Nf, Ng, Nh⟩ := GH.get Ly
        refine za (vals := [some (yy 57 [] []), some (.slice Gv GB.length Gy), some (.int .i64 GD), some (xc Gv (Int.toNat GD * 2)), some (.agg ⟨[.int .i64 ((rd Gu GD).often_), .slice LM ((rd Gu GD).symbols_).length LN]⟩), some (.slice Gv GB.length Gy), some (.int .i64 GS), some (xc Gv (Int.toNat GS * 2)), some (.agg ⟨[.int .i64 ((rd Gu GS).often_), .slice LO ((rd Gu GS).symbols_).length LP]⟩), none, none, none]) hS xp rfl ?_
        intro l w ho hcl hA hst
        refine jn hA hst ho hcl xv xo 9 [0, 1, 2, 3, 4, 5, 6, 7, 8] rfl rfl rfl rfl rfl (by exact ⟨nM rfl, nM rfl, nM rfl, nQ rfl (by exact qU (xM rfl rfl Tryd.runUnderlying110 Tryd.sizeOf112 (GM.rd (i := 1) rfl) zv.len rfl (GH.inb Lx)) rfl), nQ rfl (by exact qU (qU (yL rfl (GM.rd (i := 1) rfl) zv.len (GH.inb Lx) Tryd.isAgg112 Tryd.sizeOf112 rfl) (congrArg (fun l => Value.agg ⟨l⟩) Nb)) rfl), nM rfl, nM rfl, nQ rfl (by exact qU (xM rfl rfl Tryd.runUnderlying110 Tryd.sizeOf112 (GM.rd (i := 1) rfl) zv.len rfl (GH.inb Ly)) rfl), nQ rfl (by exact qU (qU (yL rfl (GM.rd (i := 1) rfl) zv.len (GH.inb Ly) Tryd.isAgg112 Tryd.sizeOf112 rfl) (congrArg (fun l => Value.agg ⟨l⟩) Nf)) rfl), trivial⟩) fun D l a w ho hcl hav hpre hm hE hk hA hst => ?_
        have hS := (Ss.mk hE hst).env2 (e' := [(92, yy 57 [] []), (96, .agg ⟨[.int .i64 ((rd Gu GD).often_), .slice LM ((rd Gu GD).symbols_).length LN]⟩), (100, .agg ⟨[.int .i64 ((rd Gu GS).often_), .slice LO ((rd Gu GS).symbols_).length LP]⟩)]) ⟨rfl, rfl, rfl, trivial⟩
        refine q7 rfl <| vg hS rfl rfl Tryd.call57 (jc hG K (qb.mk ((rd Gu GD).often_) ((rd Gu GD).symbols_)) (qb.mk ((rd Gu GS).often_) ((rd Gu GS).symbols_)) LM LN LO LP (Nc.rdF (i := 0) rfl) Nd (Ng.rdF (i := 0) rfl) Nh (hS.st.part 0 [0, 1] (by kernel_rfl)) (qE hM) (fun LQ w hM  hst => qL hS.ev hst.appF rfl fun hS => ?_))
        replace hS : Ss _ _ _ H [GF, GN] F _ _ := hS
        refine qF ?_
        replace hst := hS.st
        obtain ⟨hcl, hmust, hav2, hA⟩ := dn (vals' := [some (yy 57 [] []), some (.slice Gv GB.length Gy), some (.int .i64 GD), some (xc Gv (Int.toNat GD * 2)), some (.agg ⟨[.int .i64 ((rd Gu GD).often_), .slice LM ((rd Gu GD).symbols_).length LN]⟩), some (.slice Gv GB.length Gy), some (.int .i64 GS), some (xc Gv (Int.toNat GS * 2)), some (.agg ⟨[.int .i64 ((rd Gu GS).often_), .slice LO ((rd Gu GS).symbols_).length LP]⟩), some (.int .i64 LQ), some (.bool (decide (LQ < (0 : Int)))), some (.bool (!(decide (LQ < (0 : Int)))))]) 9 [(0, 9), (4, 9), (8, 9), (3, 4), (7, 8), (1, 3), (2, 3), (5, 7), (6, 7)] hA hcl hav hm hpre hk rfl rfl rfl rfl rfl rfl rfl
        clear hm hav
        refine x3 hA hst ho hcl hmust [10, 11] rfl rfl rfl (by exact ⟨nB rfl, nQ rfl (by exact qU (un rfl rfl) rfl), trivial⟩) fun a w hS => ?_
        replace hS := hS.env2 (e' := [(0, .slice Gv GB.length Gy), (2, .int .i64 GD), (4, yy 57 [] []), (14, .int .i64 G9), (15, .int .i64 Li), (16, .int .i64 GS), (103, .bool (!(decide (LQ < (0 : Int)))))]) ⟨rfl, rfl, rfl, rfl, rfl, rfl, rfl, trivial⟩
        refine qd <| qv hS rfl hM (fun Ni hM => ?_) (fun Ni hM => ?_)
        ·refine zB ?_
         refine sM hS rfl fun hS => sB hS rfl fun hS => zz (v := Value.int .i64) (x0 := (qh (GS + (1 : Int)))) hS (xj rfl) rfl fun NP a w hz hS => ?_
         have hM := qC hz hM; clear hz
         refine zc <| zr (qd ?_)
         exact L9 _ _ ⟨NP, Li, hS.to [0, 1] (by kernel_rfl) ⟨rfl, rfl, rfl, rfl, rfl, trivial⟩, hM⟩
        ·refine zB ?_
         refine sM hS rfl fun hS => sA hS rfl fun hS => zc <| zr (qd ?_)
         exact L9 _ _ ⟨G9, GS, hS.to [0, 1] (by kernel_rfl) ⟨rfl, rfl, rfl, rfl, rfl, trivial⟩, hM⟩
       ·refine wp_exit ?_
        refine qB (qB (qY (qd ?_)))
        exact M9 _ _ ⟨G9, hS.to [0, 1] (by kernel_rfl) ⟨rfl, rfl, rfl, trivial⟩, hM⟩
     ·intro a w hI
      obtain ⟨Lh, hS, hM⟩ := hI
      rw [qa.j6] at hM
      refine wp_seq <| qp <| sM hS rfl fun hS => sA hS rfl fun hS => qF <| xw <| zk (fun MB a w => ∃ (GK : List (zv 2)) (GA : (List qb)) (LR : qq) (Gx : Int), Ss 220 [] [(0, .slice Gv GK.length Gy), (14, .int .i64 Lh), (17, .int .i64 Gx)] H [GF, LR] F a w ∧ (xa 112 (zv.v (sz := 2)) 2 Gv GK Gy LR) ∧ (zw (qg GF) GA GK) ∧ (GK.length = GB.length) ∧ (qa.l7 K (qa.r K d) Lh MB GA Gx).wp kr kp) K ?_ ?_ ?_
      ·exact ⟨GB, Gu, GN, GD, hS.to [0, 1] (by kernel_rfl) ⟨rfl, rfl, rfl, trivial⟩, GM, GH, Lk, hM⟩
      ·intro a w hI; obtain ⟨_, _, _, _, _, _, _, _, hM⟩ := hI; exact zj hM
      ·intro MB a w hI N6 Nj
       obtain ⟨GK, GA, LR, Gx, hS, G2, GU, Ma, hM⟩ := hI
       rw [qa.l7] at hM
       refine wp_seq <| qp <| sM hS rfl fun hS => sM hS rfl fun hS => sB hS rfl fun hS => qF <| qv hS rfl hM (fun Nk hM => ?_) (fun Nk hM => ?_)
       ·refine wp_skip ?_
        refine qd <| wp_seq <| xw ?_
        obtain ⟨Lz, hM⟩ := qH hM
        obtain ⟨La, Lb, Nl, Nm, Nn⟩ := GU.get Lz
        obtain ⟨Lc, hM⟩ := qH hM
        obtain ⟨Ld, Le, No, Np, Nq⟩ := GU.get Lc
        refine za (vals := [some (.slice Gv GK.length Gy), some (.int .i64 Gx), some (.slice Gv GK.length Gy), some (.int .i64 Gx), some (.int .i64 (qh (Gx - (1 : Int)))), some (.slice Gv GK.length Gy), some (.int .i64 Gx), some (.int .i64 (qh (Gx - (1 : Int)))), some (xc Gv (Int.toNat (qh (Gx - (1 : Int))) * 2)), some (.agg ⟨[.int .i64 ((rd GA (qh (Gx - (1 : Int)))).often_), .slice La ((rd GA (qh (Gx - (1 : Int)))).symbols_).length Lb]⟩), some (.slice Gv GK.length Gy), some (.int .i64 Gx), some (xc Gv (Int.toNat Gx * 2)), some (.agg ⟨[.int .i64 ((rd GA Gx).often_), .slice Ld ((rd GA Gx).symbols_).length Le]⟩), some (xc Gv (Int.toNat Gx * 2)), none, none, none]) hS xp rfl ?_
        intro l w ho hcl hA hst
        refine jn hA hst ho hcl xv xo 15 [0, 1, 2, 3, 4, 5, 6, 7, 8, 9, 10, 11, 12, 13, 14] rfl rfl rfl rfl rfl (by exact ⟨nM rfl, nM rfl, nM rfl, nM rfl, nB rfl, nM rfl, nM rfl, nB rfl, nQ rfl (by exact qU (xM rfl rfl Tryd.runUnderlying110 Tryd.sizeOf112 (G2.rd (i := 1) rfl) zv.len rfl (GU.inb Lz)) rfl), nQ rfl (by exact qU (qU (yL rfl (G2.rd (i := 1) rfl) zv.len (GU.inb Lz) Tryd.isAgg112 Tryd.sizeOf112 rfl) (congrArg (fun l => Value.agg ⟨l⟩) Nl)) rfl), nM rfl, nM rfl, nQ rfl (by exact qU (xM rfl rfl Tryd.runUnderlying110 Tryd.sizeOf112 (G2.rd (i := 1) rfl) zv.len rfl (GU.inb Lc)) rfl), nQ rfl (by exact qU (qU (yL rfl (G2.rd (i := 1) rfl) zv.len (GU.inb Lc) Tryd.isAgg112 Tryd.sizeOf112 rfl) (congrArg (fun l => Value.agg ⟨l⟩) No)) rfl), nQ rfl (by exact qU (xM rfl rfl Tryd.runUnderlying110 Tryd.sizeOf112 (G2.rd (i := 1) rfl) zv.len rfl (GU.inb Lc)) rfl), trivial⟩) fun D l a w ho hcl hav hpre hm hE hk hA hst => ?_
        have hS := (Ss.mk hE hst).env2 (e' := [(122, .agg ⟨[.int .i64 ((rd GA (qh (Gx - (1 : Int)))).often_), .slice La ((rd GA (qh (Gx - (1 : Int)))).symbols_).length Lb]⟩), (127, xc Gv (Int.toNat Gx * 2))]) ⟨rfl, rfl, trivial⟩
        refine q7 rfl <| Qt (i := Gx) (sz := 2) 1 (⟨[.int .i64 ((rd GA (qh (Gx - (1 : Int)))).often_), .slice La ((rd GA (qh (Gx - (1 : Int)))).symbols_).length Lb], by simp, by simp [Value.oneCell']⟩ : zv 2) hS rfl rfl G2 rfl Tryd.sizeOf112 rfl (GU.inb Lc) fun Mb w N7 hz Mc hS => ?_
        obtain ⟨Nr, hzm⟩ := jh (GA.set (Int.toNat Gx) (qb.mk ((rd GA (qh (Gx - (1 : Int)))).often_) ((rd GA (qh (Gx - (1 : Int)))).symbols_)))
        replace hM := qC hzm hM
        have Lm := zw.set (x := (qb.mk ((rd GA (qh (Gx - (1 : Int)))).often_) ((rd GA (qh (Gx - (1 : Int)))).symbols_))) (r := (⟨[.int .i64 ((rd GA (qh (Gx - (1 : Int)))).often_), .slice La ((rd GA (qh (Gx - (1 : Int)))).symbols_).length Lb], by simp, by simp [Value.oneCell']⟩ : zv 2)) (Int.toNat Gx) GU (show qg GF _ _ from ⟨La, Lb, rfl, Nm, Nn⟩)
        have LA : Mb.length = GK.length := by rw [hz]; exact List.length_set ..
        rw [← hz, ← hzm] at Lm; clear hz hzm
        have Ns := Eq.trans LA Ma
        refine qF ?_
        replace hst := hS.st
        obtain ⟨Md, hM⟩ := qH hM
        obtain ⟨hcl, hmust, hav2, hA⟩ := ZV (vals' := [some (.slice Gv GK.length Gy), some (.int .i64 Gx), some (.slice Gv GK.length Gy), some (.int .i64 Gx), some (.int .i64 (qh (Gx - (1 : Int)))), some (.slice Gv GK.length Gy), some (.int .i64 Gx), some (.int .i64 (qh (Gx - (1 : Int)))), some (xc Gv (Int.toNat (qh (Gx - (1 : Int))) * 2)), some (.agg ⟨[.int .i64 ((rd GA (qh (Gx - (1 : Int)))).often_), .slice La ((rd GA (qh (Gx - (1 : Int)))).symbols_).length Lb]⟩), some (.slice Gv GK.length Gy), some (.int .i64 Gx), some (xc Gv (Int.toNat Gx * 2)), some (.agg ⟨[.int .i64 ((rd GA Gx).often_), .slice Ld ((rd GA Gx).symbols_).length Le]⟩), some (xc Gv (Int.toNat Gx * 2)), some undef, some (xc Gv (Int.toNat (qh (Gx - (1 : Int))) * 2)), none]) 15 [(0, 15), (1, 15), (5, 15), (6, 15), (7, 15), (8, 15), (9, 15), (13, 15), (14, 15), (12, 13), (10, 12), (11, 12)] hA hcl hav hm hpre rfl rfl rfl rfl rfl
        clear hm hav
        refine jn hA hst ho hcl hav2 hmust 17 [2, 3, 4, 16] rfl rfl rfl rfl rfl (by exact ⟨nM rfl, nM rfl, nB rfl, nQ rfl (by exact qU (xM (Yw LA rfl) rfl Tryd.runUnderlying110 Tryd.sizeOf112 (Mc.rd (i := 1) rfl) zv.len rfl (Lm.inb Md)) rfl), trivial⟩) fun D l a w ho hcl hav hpre hm hE hk hA hst => ?_
        have hS := (Ss.mk hE hst).env2 (e' := [(126, .agg ⟨[.int .i64 ((rd GA Gx).often_), .slice Ld ((rd GA Gx).symbols_).length Le]⟩), (128, xc Gv (Int.toNat (qh (Gx - (1 : Int))) * 2))]) ⟨rfl, rfl, trivial⟩
        refine q7 rfl <| Qt (i := (qh (Gx - (1 : Int)))) (sz := 2) 1 (⟨[.int .i64 ((rd GA Gx).often_), .slice Ld ((rd GA Gx).symbols_).length Le], by simp, by simp [Value.oneCell']⟩ : zv 2) hS rfl rfl Mc rfl Tryd.sizeOf112 rfl (Lm.inb Md) fun LB w NQ hz Nt hS => ?_
        obtain ⟨Nu, hzm⟩ := jh (Nr.set (Int.toNat (qh (Gx - (1 : Int)))) (qb.mk ((rd GA Gx).often_) ((rd GA Gx).symbols_)))
        replace hM := qC hzm hM
        have Me := zw.set (x := (qb.mk ((rd GA Gx).often_) ((rd GA Gx).symbols_))) (r := (⟨[.int .i64 ((rd GA Gx).often_), .slice Ld ((rd GA Gx).symbols_).length Le], by simp, by simp [Value.oneCell']⟩ : zv 2)) (Int.toNat (qh (Gx - (1 : Int)))) Lm (show qg GF _ _ from ⟨Ld, Le, rfl, Np, Nq⟩)
        have Mf : LB.length = Mb.length := by rw [hz]; exact List.length_set ..
        rw [← hz, ← hzm] at Me; clear hz hzm
        have Nv := Eq.trans Mf Ns
        refine qF ?_
        replace hst := hS.st
        obtain ⟨hcl, hmust, hav2, hA⟩ := ZV (vals' := [some (.slice Gv GK.length Gy), some (.int .i64 Gx), some (.slice Gv GK.length Gy), some (.int .i64 Gx), some (.int .i64 (qh (Gx - (1 : Int)))), some (.slice Gv GK.length Gy), some (.int .i64 Gx), some (.int .i64 (qh (Gx - (1 : Int)))), some (xc Gv (Int.toNat (qh (Gx - (1 : Int))) * 2)), some (.agg ⟨[.int .i64 ((rd GA (qh (Gx - (1 : Int)))).often_), .slice La ((rd GA (qh (Gx - (1 : Int)))).symbols_).length Lb]⟩), some (.slice Gv GK.length Gy), some (.int .i64 Gx), some (xc Gv (Int.toNat Gx * 2)), some (.agg ⟨[.int .i64 ((rd GA Gx).often_), .slice Ld ((rd GA Gx).symbols_).length Le]⟩), some (xc Gv (Int.toNat Gx * 2)), some undef, some (xc Gv (Int.toNat (qh (Gx - (1 : Int))) * 2)), some undef]) 17 [(0, 17), (1, 17), (2, 17), (3, 17), (4, 17), (5, 17), (6, 17), (7, 17), (8, 17), (9, 17), (10, 17), (11, 17), (12, 17), (13, 17), (14, 17), (15, 17), (16, 17)] hA hcl hav hm hpre rfl rfl rfl rfl rfl
        clear hm hav
        refine x3 hA hst ho hcl hmust [] rfl rfl rfl trivial fun a w hS => ?_
        replace hS := hS.env2 (e' := [(0, .slice Gv LB.length Gy), (14, .int .i64 Lh), (17, .int .i64 Gx)]) ⟨(YT (u := .slice Gv GK.length Gy) rfl (by rw [Mf, LA])), rfl, rfl, trivial⟩
        refine zr (qd ?_)
        refine zB <| sM hS rfl fun hS => sB hS rfl fun hS => zz (v := Value.int .i64) (x0 := (qh (Gx - (1 : Int)))) hS (xj rfl) rfl fun Nw a w hz hS => ?_
        have hM := qC hz hM; clear hz
        refine zc <| qd ?_
        exact Nj _ _ ⟨LB, Nu, NQ, Nw, hS.to [0, 1] (by kernel_rfl) ⟨rfl, rfl, rfl, trivial⟩, Nt, Me, Nv, hM⟩
       ·refine wp_exit ?_
        refine qB (qB (qY (qd ?_)))
        refine wp_ret <| qz ?_
        exact zm (rs := []) hS rfl rfl (hret GK GA LR _ (qV hM) G2 GU Ma (hS.st.pick [0, 1] (by kernel_rfl)))
    ·refine wp_skip ?_
     refine qd ?_
     exact M7 _ _ ⟨hS.to [0, 1] (by kernel_rfl) ⟨rfl, rfl, rfl, rfl, rfl, trivial⟩, hM⟩
   ·intro a w hI
    obtain ⟨hS, hM⟩ := hI
    rw [qa.j8] at hM
    refine qp <| sM hS rfl fun hS => sM hS rfl fun hS => sB hS rfl fun hS => sO hS (vZ rfl Tryd.runUnderlying3 Tryd.runUnderlying39) rfl fun hS => sO hS (shr rfl rfl rfl) rfl fun hS => sO hS (vZ rfl Tryd.runUnderlying39 Tryd.runUnderlying3) rfl fun hS => zz (v := Value.int .i64) (x0 := (wr .i64 (xC .u64 (wr .u64 (qh (GC + GG))) (1 : Int)))) hS (xj rfl) rfl fun GI a w hz hS => ?_
    have hM := qC hz hM; clear hz
    refine qF <| qp <| sM hS rfl fun hS => sM hS rfl fun hS => sB hS rfl fun hS => zz (v := Value.int .i64) (x0 := (qh (GI + GD))) hS (xj rfl) rfl fun GV a w hz hS => ?_
    have hM := qC hz hM; clear hz
    refine qF <| qp <| sA hS rfl fun hS => sA hS rfl fun hS => qF <| zg (fun a w => ∃ (G0 : Int) (LS : Int), Ss 220 [] [(0, .slice Gv GB.length Gy), (1, .int .i64 GC), (2, .int .i64 GD), (3, .int .i64 GG), (4, yy 57 [] []), (18, .int .i64 GI), (19, .int .i64 GV), (20, .int .i64 G0), (21, .int .i64 LS)] H [GF, GN] F a w ∧ (qa.j9 K (qa.r K d) Gu GC GD GG GI GV G0 LS).wp kr kp) (fun N8 Mg => ?_) ?_
    ·refine wp_seq ?_
     refine zB <| sM hS rfl fun hS => sM hS rfl fun hS => sB hS rfl fun hS => qF <| qv hS rfl hM (fun Nx hM => ?_) (fun Nx hM => ?_)
     ·refine wp_seq ?_
      refine zB <| sM hS rfl fun hS => sM hS rfl fun hS => sB hS rfl fun hS => zz (v := Value.int .i64) (x0 := (qh (GV - GG))) hS (xj rfl) rfl fun LY a w hz hS => ?_
      have hM := qC hz hM; clear hz
      refine qF <| zB <| sM hS rfl fun hS => sA hS rfl fun hS => zc <| qd ?_
      exact Mg _ _ ⟨LY, GI, hS.to [0, 1] (by kernel_rfl) ⟨rfl, rfl, rfl, rfl, rfl, rfl, rfl, rfl, rfl, trivial⟩, hM⟩
     ·refine wp_seq ?_
      refine zB <| sM hS rfl fun hS => sA hS rfl fun hS => qF <| zB <| sM hS rfl fun hS => sA hS rfl fun hS => zc <| qd ?_
      exact Mg _ _ ⟨GC, GD, hS.to [0, 1] (by kernel_rfl) ⟨rfl, rfl, rfl, rfl, rfl, rfl, rfl, rfl, rfl, trivial⟩, hM⟩
    ·intro a w hI
     obtain ⟨G0, LS, hS, hM⟩ := hI
     rw [qa.j9] at hM
     refine qp <| sM hS rfl fun hS => sB hS rfl fun hS => zz (v := Value.int .i64) (x0 := (qh (GV - (1 : Int)))) hS (xj rfl) rfl fun GQ a w hz hS => ?_
     have hM := qC hz hM; clear hz
     refine qF <| zg (fun a w => ∃ (GL : Int), Ss 220 [] [(0, .slice Gv GB.length Gy), (1, .int .i64 GC), (2, .int .i64 GD), (3, .int .i64 GG), (4, yy 57 [] []), (18, .int .i64 GI), (19, .int .i64 GV), (20, .int .i64 GL)] H [GF, GN] F a w ∧ (qa.j11 K (qa.r K d) Gu GC GD GG GI GV GL).wp kr kp) (fun N9 Ny => ?_) ?_
     ·refine xw ?_
      refine zk (fun MC a w => ∃ (GP : Int) (Lj : Int), Ss 220 [] [(0, .slice Gv GB.length Gy), (1, .int .i64 GC), (2, .int .i64 GD), (3, .int .i64 GG), (4, yy 57 [] []), (18, .int .i64 GI), (19, .int .i64 GV), (20, .int .i64 GP), (21, .int .i64 Lj), (22, .int .i64 GQ)] H [GF, GN] F a w ∧ (qa.l10 K (qa.r K d) Gu GC GD GG GI GV GQ MC GP Lj).wp kr kp) K ?_ ?_ ?_
      ·exact ⟨G0, LS, hS.to [0, 1] (by kernel_rfl) ⟨rfl, rfl, rfl, rfl, rfl, rfl, rfl, rfl, rfl, rfl, trivial⟩, hM⟩
      ·intro a w hI; obtain ⟨_, _, _, hM⟩ := hI; exact zj hM
      ·intro MC a w hI Pa Mh
       obtain ⟨GP, Lj, hS, hM⟩ := hI
       rw [qa.l10] at hM
       refine wp_seq <| qp <| sM hS rfl fun hS => sM hS rfl fun hS => sB hS rfl fun hS => qF <| qv hS rfl hM (fun Nz hM => ?_) (fun Nz hM => ?_)
       ·refine wp_skip ?_
        refine qd <| xw <| qp <| sM hS rfl fun hS => sM hS rfl fun hS => sB hS rfl fun hS => sO hS (vZ rfl Tryd.runUnderlying3 Tryd.runUnderlying39) rfl fun hS => sO hS (shr rfl rfl rfl) rfl fun hS => sO hS (vZ rfl Tryd.runUnderlying39 Tryd.runUnderlying3) rfl fun hS => zz (v := Value.int .i64) (x0 := (wr .i64 (xC .u64 (wr .u64 (qh (GP + Lj))) (1 : Int)))) hS (xj rfl) rfl fun GE a w hz hS => ?_
        have hM := qC hz hM; clear hz
        refine qF <| wp_seq ?_
        obtain ⟨LC, hM⟩ := qH hM
        obtain ⟨LT, LU, NA, NB, NC⟩ := GH.get LC
        obtain ⟨LD, hM⟩ := qH hM
        obtain ⟨LV, LW, ND, NE, NF⟩ := GH.get LD
        refine za (vals := [some (yy 57 [] []), some (.slice Gv GB.length Gy), some (.int .i64 GQ), some (.int .i64 GE), some (.int .i64 (qh (GQ - GE))), some (xc Gv (Int.toNat (qh (GQ - GE)) * 2)), some (.agg ⟨[.int .i64 ((rd Gu (qh (GQ - GE))).often_), .slice LT ((rd Gu (qh (GQ - GE))).symbols_).length LU]⟩), some (.slice Gv GB.length Gy), some (.int .i64 GE), some (xc Gv (Int.toNat GE * 2)), some (.agg ⟨[.int .i64 ((rd Gu GE).often_), .slice LV ((rd Gu GE).symbols_).length LW]⟩), none, none, none]) hS xp rfl ?_
        intro l w ho hcl hA hst
        refine jn hA hst ho hcl xv xo 11 [0, 1, 2, 3, 4, 5, 6, 7, 8, 9, 10] rfl rfl rfl rfl rfl (by exact ⟨nM rfl, nM rfl, nM rfl, nM rfl, nB rfl, nQ rfl (by exact qU (xM rfl rfl Tryd.runUnderlying110 Tryd.sizeOf112 (GM.rd (i := 1) rfl) zv.len rfl (GH.inb LC)) rfl), nQ rfl (by exact qU (qU (yL rfl (GM.rd (i := 1) rfl) zv.len (GH.inb LC) Tryd.isAgg112 Tryd.sizeOf112 rfl) (congrArg (fun l => Value.agg ⟨l⟩) NA)) rfl), nM rfl, nM rfl, nQ rfl (by exact qU (xM rfl rfl Tryd.runUnderlying110 Tryd.sizeOf112 (GM.rd (i := 1) rfl) zv.len rfl (GH.inb LD)) rfl), nQ rfl (by exact qU (qU (yL rfl (GM.rd (i := 1) rfl) zv.len (GH.inb LD) Tryd.isAgg112 Tryd.sizeOf112 rfl) (congrArg (fun l => Value.agg ⟨l⟩) ND)) rfl), trivial⟩) fun D l a w ho hcl hav hpre hm hE hk hA hst => ?_
        have hS := (Ss.mk hE hst).env2 (e' := [(158, yy 57 [] []), (164, .agg ⟨[.int .i64 ((rd Gu (qh (GQ - GE))).often_), .slice LT ((rd Gu (qh (GQ - GE))).symbols_).length LU]⟩), (168, .agg ⟨[.int .i64 ((rd Gu GE).often_), .slice LV ((rd Gu GE).symbols_).length LW]⟩)]) ⟨rfl, rfl, rfl, trivial⟩
        refine q7 rfl <| vg hS rfl rfl Tryd.call57 (jc hG K (qb.mk ((rd Gu (qh (GQ - GE))).often_) ((rd Gu (qh (GQ - GE))).symbols_)) (qb.mk ((rd Gu GE).often_) ((rd Gu GE).symbols_)) LT LU LV LW (NB.rdF (i := 0) rfl) NC (NE.rdF (i := 0) rfl) NF (hS.st.part 0 [0, 1] (by kernel_rfl)) (qE hM) (fun LX w hM  hst => qL hS.ev hst.appF rfl fun hS => ?_))
        replace hS : Ss _ _ _ H [GF, GN] F _ _ := hS
        refine qF ?_
        replace hst := hS.st
        obtain ⟨hcl, hmust, hav2, hA⟩ := dn (vals' := [some (yy 57 [] []), some (.slice Gv GB.length Gy), some (.int .i64 GQ), some (.int .i64 GE), some (.int .i64 (qh (GQ - GE))), some (xc Gv (Int.toNat (qh (GQ - GE)) * 2)), some (.agg ⟨[.int .i64 ((rd Gu (qh (GQ - GE))).often_), .slice LT ((rd Gu (qh (GQ - GE))).symbols_).length LU]⟩), some (.slice Gv GB.length Gy), some (.int .i64 GE), some (xc Gv (Int.toNat GE * 2)), some (.agg ⟨[.int .i64 ((rd Gu GE).often_), .slice LV ((rd Gu GE).symbols_).length LW]⟩), some (.int .i64 LX), some (.bool (decide (LX < (0 : Int)))), some (.bool (!(decide (LX < (0 : Int)))))]) 11 [(0, 11), (6, 11), (10, 11), (5, 6), (9, 10), (1, 5), (4, 5), (7, 9), (8, 9), (2, 4), (3, 4)] hA hcl hav hm hpre hk rfl rfl rfl rfl rfl rfl rfl
        clear hm hav
        refine x3 hA hst ho hcl hmust [12, 13] rfl rfl rfl (by exact ⟨nB rfl, nQ rfl (by exact qU (un rfl rfl) rfl), trivial⟩) fun a w hS => ?_
        replace hS := hS.env2 (e' := [(0, .slice Gv GB.length Gy), (1, .int .i64 GC), (2, .int .i64 GD), (3, .int .i64 GG), (4, yy 57 [] []), (18, .int .i64 GI), (19, .int .i64 GV), (20, .int .i64 GP), (21, .int .i64 Lj), (22, .int .i64 GQ), (23, .int .i64 GE), (171, .bool (!(decide (LX < (0 : Int)))))]) ⟨rfl, rfl, rfl, rfl, rfl, rfl, rfl, rfl, rfl, rfl, rfl, rfl, trivial⟩
        refine qd <| qv hS rfl hM (fun NG hM => ?_) (fun NG hM => ?_)
        ·refine zB ?_
         refine sM hS rfl fun hS => sB hS rfl fun hS => zz (v := Value.int .i64) (x0 := (qh (GE + (1 : Int)))) hS (xj rfl) rfl fun LZ a w hz hS => ?_
         have hM := qC hz hM; clear hz
         refine zc <| zr (qd ?_)
         exact Mh _ _ ⟨LZ, Lj, hS.to [0, 1] (by kernel_rfl) ⟨rfl, rfl, rfl, rfl, rfl, rfl, rfl, rfl, rfl, rfl, trivial⟩, hM⟩
        ·refine zB ?_
         refine sM hS rfl fun hS => sA hS rfl fun hS => zc <| zr (qd ?_)
         exact Mh _ _ ⟨GP, GE, hS.to [0, 1] (by kernel_rfl) ⟨rfl, rfl, rfl, rfl, rfl, rfl, rfl, rfl, rfl, rfl, trivial⟩, hM⟩
       ·refine wp_exit ?_
        refine qB (qB (qY (qd ?_)))
        exact Ny _ _ ⟨GP, hS.to [0, 1] (by kernel_rfl) ⟨rfl, rfl, rfl, rfl, rfl, rfl, rfl, rfl, trivial⟩, hM⟩
     ·intro a w hI
      obtain ⟨GL, hS, hM⟩ := hI
      rw [qa.j11] at hM
      refine qp <| sM hS rfl fun hS => sM hS rfl fun hS => sB hS rfl fun hS => zz (v := Value.int .i64) (x0 := (qh (GV - GL))) hS (xj rfl) rfl fun GO a w hz hS => ?_
      have hM := qC hz hM; clear hz
      refine qF <| zg (fun a w => ∃ (GW : List (zv 2)) (GY : (List qb)) (Lo : qq), Ss 220 [] [(0, .slice Gv GW.length Gy), (1, .int .i64 GC), (3, .int .i64 GG), (4, yy 57 [] []), (18, .int .i64 GI), (20, .int .i64 GL), (24, .int .i64 GO)] H [GF, Lo] F a w ∧ (xa 112 (zv.v (sz := 2)) 2 Gv GW Gy Lo) ∧ (zw (qg GF) GY GW) ∧ (GW.length = GB.length) ∧ (qa.j12 K (qa.r K d) GC GG GI GL GO GY).wp kr kp) (fun Pb Mi => ?_) ?_
      ·refine wp_seq ?_
       refine zB <| sM hS rfl fun hS => sM hS rfl fun hS => sB hS rfl fun hS => sM hS rfl fun hS => yo 3 true 181 (b := (decide (GL < GD))) (r := (decide (GD < GO))) hS rfl rfl rfl rfl rfl rfl rfl (fun hb a w hS K hK => ?_) rfl fun a w hS => ?_
       ·refine zL hS rfl rfl rfl hb (mv rfl) rfl fun a w hS => ?_
        refine zL hS rfl rfl rfl hb (mv rfl) rfl fun a w hS => zL hS rfl rfl rfl hb (yU rfl rfl rfl) rfl fun a w hS => ?_
        exact zc (hK _ _ (hS.up 3 rfl rfl))
       refine qF <| qv hS rfl hM (fun NH hM => ?_) (fun NH hM => ?_)
       ·refine zB ?_
        refine sM hS rfl fun hS => sM hS rfl fun hS => sM hS rfl fun hS => sM hS rfl fun hS => sM hS rfl fun hS => qO hS rfl Tryd.call108 (yF hG K Gu GL GD GO GF Gv Gy GB GN GH GM (hS.st.part 2 [0, 1] (by kernel_rfl)) (qE hM) (fun LE Mj MD w hM NR NS Mk hst => qL hS.ev hst.appF rfl fun hS => ?_))
        replace hS : Ss _ _ _ H [GF, MD] F _ _ := hS
        have NI := Eq.trans Mk Lk
        replace hS := hS.re 0 (u := .slice Gv GB.length Gy) (v := .slice Gv LE.length Gy) rfl (by rw [Mk])
        replace hS := hS.re 186 (u := .slice Gv GB.length Gy) (v := .slice Gv LE.length Gy) rfl (by rw [Mk])
        refine zc <| qd ?_
        exact Mi _ _ ⟨LE, Mj, MD, hS.to [0, 1] (by kernel_rfl) ⟨rfl, rfl, rfl, rfl, rfl, rfl, rfl, trivial⟩, NR, NS, NI, hM⟩
       ·refine wp_skip ?_
        refine qd ?_
        exact Mi _ _ ⟨GB, Gu, GN, hS.to [0, 1] (by kernel_rfl) ⟨rfl, rfl, rfl, rfl, rfl, rfl, rfl, trivial⟩, GM, GH, Lk, hM⟩
      ·intro a w hI
       obtain ⟨GW, GY, Lo, hS, Ml, Mm, Mn, hM⟩ := hI
       rw [qa.j12] at hM
       refine zg (fun a w => ∃ (GX : List (zv 2)) (GZ : (List qb)) (Lp : qq), Ss 220 [] [(0, .slice Gv GX.length Gy), (3, .int .i64 GG), (4, yy 57 [] []), (18, .int .i64 GI), (24, .int .i64 GO)] H [GF, Lp] F a w ∧ (xa 112 (zv.v (sz := 2)) 2 Gv GX Gy Lp) ∧ (zw (qg GF) GZ GX) ∧ (GX.length = GB.length) ∧ (qa.j13 K (qa.r K d) GG GI GO GZ).wp kr kp) (fun Pc Mp => ?_) ?_
       ·refine wp_seq ?_
        refine zB <| sM hS rfl fun hS => sM hS rfl fun hS => sB hS rfl fun hS => sM hS rfl fun hS => yo 3 true 195 (b := (decide (GC < GL))) (r := (decide (GL < GI))) hS rfl rfl rfl rfl rfl rfl rfl (fun hb a w hS K hK => ?_) rfl fun a w hS => ?_
        ·refine zL hS rfl rfl rfl hb (mv rfl) rfl fun a w hS => ?_
         refine zL hS rfl rfl rfl hb (mv rfl) rfl fun a w hS => zL hS rfl rfl rfl hb (yU rfl rfl rfl) rfl fun a w hS => ?_
         exact zc (hK _ _ (hS.up 3 rfl rfl))
        refine qF <| qv hS rfl hM (fun NJ hM => ?_) (fun NJ hM => ?_)
        ·refine zB ?_
         refine sM hS rfl fun hS => sM hS rfl fun hS => sM hS rfl fun hS => sM hS rfl fun hS => sM hS rfl fun hS => qO hS rfl Tryd.call100 (ih hG  GY GC GL GI GF Gv Gy GW Lo Mm Ml (hS.st.part 2 [0, 1] (by kernel_rfl)) (qE hM) (fun LF Mq ME w hM NT NU Mr hst => qL hS.ev hst.appF rfl fun hS => ?_))
         replace hS : Ss _ _ _ H [GF, ME] F _ _ := hS
         have NK := Eq.trans Mr Mn
         replace hS := hS.re 0 (u := .slice Gv GW.length Gy) (v := .slice Gv LF.length Gy) rfl (by rw [Mr])
         replace hS := hS.re 200 (u := .slice Gv GW.length Gy) (v := .slice Gv LF.length Gy) rfl (by rw [Mr])
         refine zc <| qd ?_
         exact Mp _ _ ⟨LF, Mq, ME, hS.to [0, 1] (by kernel_rfl) ⟨rfl, rfl, rfl, rfl, rfl, trivial⟩, NT, NU, NK, hM⟩
        ·refine wp_skip ?_
         refine qd ?_
         exact Mp _ _ ⟨GW, GY, Lo, hS.to [0, 1] (by kernel_rfl) ⟨rfl, rfl, rfl, rfl, rfl, trivial⟩, Ml, Mm, Mn, hM⟩
       ·intro a w hI
        obtain ⟨GX, GZ, Lp, hS, Ms, Mt, Mu, hM⟩ := hI
        rw [qa.j13] at hM
        refine qp <| sM hS rfl fun hS => sM hS rfl fun hS => sB hS rfl fun hS => sM hS rfl fun hS => yo 3 true 209 (b := (decide (GI < GO))) (r := (decide (GO < GG))) hS rfl rfl rfl rfl rfl rfl rfl (fun hb a w hS K hK => ?_) rfl fun a w hS => ?_
        ·refine zL hS rfl rfl rfl hb (mv rfl) rfl fun a w hS => ?_
         refine zL hS rfl rfl rfl hb (mv rfl) rfl fun a w hS => zL hS rfl rfl rfl hb (yU rfl rfl rfl) rfl fun a w hS => ?_
         exact zc (hK _ _ (hS.up 3 rfl rfl))
        refine qF <| qv hS rfl hM (fun NL hM => ?_) (fun NL hM => ?_)
        ·refine zB ?_
         refine sM hS rfl fun hS => sM hS rfl fun hS => sM hS rfl fun hS => sM hS rfl fun hS => sM hS rfl fun hS => qO hS rfl Tryd.call100 (ih hG  GZ GI GO GG GF Gv Gy GX Lp Mt Ms (hS.st.part 2 [0, 1] (by kernel_rfl)) (qE hM) (fun LG Mv MF w hM NV NW Mw hst => qL hS.ev hst.appF rfl fun hS => ?_))
         replace hS : Ss _ _ _ H [GF, MF] F _ _ := hS
         have NM := Eq.trans Mw Mu
         replace hS := hS.re 0 (u := .slice Gv GX.length Gy) (v := .slice Gv LG.length Gy) rfl (by rw [Mw])
         replace hS := hS.re 214 (u := .slice Gv GX.length Gy) (v := .slice Gv LG.length Gy) rfl (by rw [Mw])
         refine zc ?_
         exact y4 (rs := []) hS rfl rfl (hret LG Mv MF _ (qV hM) NV NW NM (hS.st.pick [0, 1] (by kernel_rfl)))
        ·refine wp_skip ?_
         exact y4 (rs := []) hS rfl rfl (hret GX GZ Lp _ (qV hM) Ms Mt Mu (hS.st.pick [0, 1] (by kernel_rfl)))
theorem xP {H : xR} {F : List qq} {w : World} {R : Ending → World → Prop} {kr : (List qb) → Prop} {kp : Value → Prop} (hG : Gl H) (K : Nat) (Gu : List qb) (Gy : Int) (GD : Int) (Gz : Int) (Gw : qq) (GB : Option Addr) (GC : Nat) (Gv : List (zv 2)) (GE : qq) (GG : zw (qg Gw) Gu Gv) (GH : xa 112 (zv.v (sz := 2)) 2 GB Gv GC GE)
    (hS : St w H [Gw, GE] F) (hm : (qa.m K Gu Gy GD Gz).wp kr kp)
    (hret : ∀ (GA : List (zv 2)) (Gx : (List qb)) (GF : qq) (w : World), kr Gx → (xa 112 (zv.v (sz := 2)) 2 GB GA GC GF) → (zw (qg Gw) Gx GA) → (GA.length = Gv.length) → St w H [Gw, GF] F → R (.returned (.tuple ⟨[]⟩)) w) :
    Calls Tryd.prog 100 ⟨[.slice GB Gv.length GC, .int .i64 Gy, .int .i64 GD, .int .i64 Gz, yy 57 [] []]⟩ w R := yA K K hG Gu Gy GD Gz Gw GB GC Gv GE GG GH hS hm hret
theorem yE {H : xR} {F : List qq} {w : World} {R : Ending → World → Prop} {kr : (List qb) → Prop} {kp : Value → Prop} (hG : Gl H) (K : Nat) (GN : List qb) (Gy : Int) (Gx : qq) (Gv : Option Addr) (Gw : Nat) (Gz : List (zv 2)) (G5 : qq) (Lz : zw (qg Gx) GN Gz) (LA : xa 112 (zv.v (sz := 2)) 2 Gv Gz Gw G5)
    (hS : St w H [Gx, G5] F) (hm : (qf.m K GN Gy).wp kr kp)
    (hret : ∀ (GY : List (zv 2)) (GT : (List qb)) (Lr : qq) (w : World), kr GT → (xa 112 (zv.v (sz := 2)) 2 Gv GY Gw Lr) → (zw (qg Gx) GT GY) → (GY.length = Gz.length) → St w H [Gx, Lr] F → R (.returned (.tuple ⟨[]⟩)) w) :
    Calls Tryd.prog 81 ⟨[.slice Gv Gz.length Gw, .int .i64 Gy, yy 57 [] []]⟩ w R := by
 refine enter Tryd.func81 rfl Tryd.ntmps81 rfl hS fun a w hS => ?_
 have hM := hm; clear hm
 rw [qf.m] at hM
 have L4 : ∀ q ∈ Gx, q ∈ Gx := fun _ h => h
 have LB : Gz.length = Gz.length := rfl
 refine qp <| sA hS rfl fun hS => qF <| qp <| sM hS rfl fun hS => sA hS rfl fun hS => sA hS rfl fun hS => qF <| zg (fun a w => ∃ (GD : List (zv 2)) (GJ : (List qb)) (G3 : qq) (GS : Int), Ss 63 [] [(0, .slice Gv GD.length Gw), (1, .int .i64 Gy), (2, yy 57 [] []), (6, .int .i64 (20 : Int)), (7, .int .i64 GS)] H [Gx, G3] F a w ∧ (xa 112 (zv.v (sz := 2)) 2 Gv GD Gw G3) ∧ (zw (qg Gx) GJ GD) ∧ (GD.length = Gz.length) ∧ (qf.j2 K Gy GJ GS).wp kr kp) (fun L5 LC => ?_) ?_
 ·refine xw ?_
  refine zk (fun Lt a w => ∃ (GA : List (zv 2)) (GE : (List qb)) (GU : qq) (GO : Int) (GK : Int), Ss 63 [] [(0, .slice Gv GA.length Gw), (1, .int .i64 Gy), (2, yy 57 [] []), (6, .int .i64 (20 : Int)), (7, .int .i64 GO), (8, .int .i64 GK)] H [Gx, GU] F a w ∧ (xa 112 (zv.v (sz := 2)) 2 Gv GA Gw GU) ∧ (zw (qg Gx) GE GA) ∧ (GA.length = Gz.length) ∧ (qf.l1 K Gy Lt GE GO GK).wp kr kp) K ?_ ?_ ?_
  ·exact ⟨Gz, GN, G5, (0 : Int), (20 : Int), hS.to [0, 1] (by kernel_rfl) ⟨rfl, rfl, rfl, rfl, rfl, rfl, trivial⟩, LA, Lz, LB, hM⟩
  ·intro a w hI; obtain ⟨_, _, _, _, _, _, _, _, _, hM⟩ := hI; exact zj hM
  ·intro Lt a w hI L6 LD
   obtain ⟨GA, GE, GU, GO, GK, hS, G6, G7, G8, hM⟩ := hI
   rw [qf.l1] at hM
   refine wp_seq <| qp <| sM hS rfl fun hS => sM hS rfl fun hS => sB hS rfl fun hS => qF <| qv hS rfl hM (fun LE hM => ?_) (fun LE hM => ?_)
   ·refine wp_skip ?_
    refine qd <| xw <| qp <| sM hS rfl fun hS => sM hS rfl fun hS => sM hS rfl fun hS => sM hS rfl fun hS => qO hS rfl Tryd.call99 (xH hG K GE GO GK Gx Gv Gw GA GU G7 G6 (hS.st.part 2 [0, 1] (by kernel_rfl)) (qE hM) (fun GZ G9 Lu w hM LU LV La hst => qL hS.ev hst.appF rfl fun hS => ?_))
    replace hS : Ss _ _ _ H [Gx, Lu] F _ _ := hS
    have LF := Eq.trans La G8
    replace hS := hS.re 0 (u := .slice Gv GA.length Gw) (v := .slice Gv GZ.length Gw) rfl (by rw [La])
    replace hS := hS.re 14 (u := .slice Gv GA.length Gw) (v := .slice Gv GZ.length Gw) rfl (by rw [La])
    refine qF <| qp <| sM hS rfl fun hS => sA hS rfl fun hS => qF <| zB <| sM hS rfl fun hS => sM hS rfl fun hS => sB hS rfl fun hS => zz (v := Value.int .i64) (x0 := (qh (GK + (20 : Int)))) hS (xj rfl) rfl fun LG a w hz hS => ?_
    have hM := qC hz hM; clear hz
    refine zc <| zr (qd ?_)
    exact LD _ _ ⟨GZ, G9, Lu, GK, LG, hS.to [0, 1] (by kernel_rfl) ⟨rfl, rfl, rfl, rfl, rfl, rfl, trivial⟩, LU, LV, LF, hM⟩
   ·refine wp_exit ?_
    refine qB (qB (qY (qd ?_)))
    exact LC _ _ ⟨GA, GE, GU, GO, hS.to [0, 1] (by kernel_rfl) ⟨rfl, rfl, rfl, rfl, rfl, trivial⟩, G6, G7, G8, hM⟩
 ·intro a w hI
  obtain ⟨GD, GJ, G3, GS, hS, LH, LI, LJ, hM⟩ := hI
  rw [qf.j2] at hM
  refine qp <| sM hS rfl fun hS => sM hS rfl fun hS => sM hS rfl fun hS => sM hS rfl fun hS => qO hS rfl Tryd.call99 (xH hG K GJ GS Gy Gx Gv Gw GD G3 LI LH (hS.st.part 2 [0, 1] (by kernel_rfl)) (qE hM) (fun G0 Lb Lv w hM LW LX Lc hst => qL hS.ev hst.appF rfl fun hS => ?_))
  replace hS : Ss _ _ _ H [Gx, Lv] F _ _ := hS
  have LK := Eq.trans Lc LJ
  replace hS := hS.re 0 (u := .slice Gv GD.length Gw) (v := .slice Gv G0.length Gw) rfl (by rw [Lc])
  replace hS := hS.re 23 (u := .slice Gv GD.length Gw) (v := .slice Gv G0.length Gw) rfl (by rw [Lc])
  refine qF <| xw <| zk (fun G4 a w => ∃ (GI : List (zv 2)) (GF : (List qb)) (GV : qq) (Gu : Int), Ss 63 [] [(0, .slice Gv GI.length Gw), (1, .int .i64 Gy), (2, yy 57 [] []), (6, .int .i64 Gu)] H [Gx, GV] F a w ∧ (xa 112 (zv.v (sz := 2)) 2 Gv GI Gw GV) ∧ (zw (qg Gx) GF GI) ∧ (GI.length = Gz.length) ∧ (qf.l3 K Gy G4 GF Gu).wp kr kp) K ?_ ?_ ?_
  ·exact ⟨G0, Lb, Lv, (20 : Int), hS.to [0, 1] (by kernel_rfl) ⟨rfl, rfl, rfl, rfl, trivial⟩, LW, LX, LK, hM⟩
  ·intro a w hI; obtain ⟨_, _, _, _, _, _, _, _, hM⟩ := hI; exact zj hM
  ·intro G4 a w hI L7 Ld
   obtain ⟨GI, GF, GV, Gu, hS, Le, Lf, Lg, hM⟩ := hI
   rw [qf.l3] at hM
   refine wp_seq <| qp <| sM hS rfl fun hS => sM hS rfl fun hS => sB hS rfl fun hS => qF <| qv hS rfl hM (fun LL hM => ?_) (fun LL hM => ?_)
   ·refine wp_skip ?_
    refine qd <| xw <| qp <| sM hS rfl fun hS => sB hS rfl fun hS => sA hS rfl fun hS => zz (v := Value.int .i64) (x0 := (qh ((2 : Int) * Gu))) hS (xj rfl) rfl fun LM a w hz hS => ?_
    have hM := qC hz hM; clear hz
    refine qF <| zg (fun a w => ∃ (GB : List (zv 2)) (GG : (List qb)) (GW : qq) (GP : Int), Ss 63 [] [(0, .slice Gv GB.length Gw), (1, .int .i64 Gy), (2, yy 57 [] []), (6, .int .i64 Gu), (7, .int .i64 GP)] H [Gx, GW] F a w ∧ (xa 112 (zv.v (sz := 2)) 2 Gv GB Gw GW) ∧ (zw (qg Gx) GG GB) ∧ (GB.length = Gz.length) ∧ (qf.j5 K (qf.l3 K Gy G4) Gy Gu GG GP).wp kr kp) (fun L8 LN => ?_) ?_
    ·refine xw ?_
     refine zk (fun Lw a w => ∃ (GC : List (zv 2)) (GH : (List qb)) (GX : qq) (GL : Int) (GM : Int), Ss 63 [] [(0, .slice Gv GC.length Gw), (1, .int .i64 Gy), (2, yy 57 [] []), (6, .int .i64 Gu), (7, .int .i64 GL), (8, .int .i64 GM)] H [Gx, GX] F a w ∧ (xa 112 (zv.v (sz := 2)) 2 Gv GC Gw GX) ∧ (zw (qg Gx) GH GC) ∧ (GC.length = Gz.length) ∧ (qf.l4 K (qf.l3 K Gy G4) Gy Gu Lw GH GL GM).wp kr kp) K ?_ ?_ ?_
     ·exact ⟨GI, GF, GV, (0 : Int), LM, hS.to [0, 1] (by kernel_rfl) ⟨rfl, rfl, rfl, rfl, rfl, rfl, trivial⟩, Le, Lf, Lg, hM⟩
     ·intro a w hI; obtain ⟨_, _, _, _, _, _, _, _, _, hM⟩ := hI; exact zj hM
     ·intro Lw a w hI L9 LO
      obtain ⟨GC, GH, GX, GL, GM, hS, Lh, Li, Lj, hM⟩ := hI
      rw [qf.l4] at hM
      refine wp_seq <| qp <| sM hS rfl fun hS => sM hS rfl fun hS => sB hS rfl fun hS => qF <| qv hS rfl hM (fun LP hM => ?_) (fun LP hM => ?_)
      ·refine wp_skip ?_
       refine qd <| xw <| qp <| sM hS rfl fun hS => sM hS rfl fun hS => sM hS rfl fun hS => sM hS rfl fun hS => sB hS rfl fun hS => sM hS rfl fun hS => sM hS rfl fun hS => qO hS rfl Tryd.call100 (xP hG K GH GL (qh (GL + Gu)) GM Gx Gv Gw GC GX Li Lh (hS.st.part 2 [0, 1] (by kernel_rfl)) (qE hM) (fun G1 Lk Lx w hM LY LZ Ll hst => qL hS.ev hst.appF rfl fun hS => ?_))
       replace hS : Ss _ _ _ H [Gx, Lx] F _ _ := hS
       have LQ := Eq.trans Ll Lj
       replace hS := hS.re 0 (u := .slice Gv GC.length Gw) (v := .slice Gv G1.length Gw) rfl (by rw [Ll])
       replace hS := hS.re 36 (u := .slice Gv GC.length Gw) (v := .slice Gv G1.length Gw) rfl (by rw [Ll])
       refine qF <| qp <| sM hS rfl fun hS => sA hS rfl fun hS => qF <| zB <| sM hS rfl fun hS => sM hS rfl fun hS => sB hS rfl fun hS => sB hS rfl fun hS => zz (v := Value.int .i64) (x0 := (qh (GM + (qh ((2 : Int) * Gu))))) hS (xj rfl) rfl fun LR a w hz hS => ?_
       have hM := qC hz hM; clear hz
       refine zc <| zr (qd ?_)
       exact LO _ _ ⟨G1, Lk, Lx, GM, LR, hS.to [0, 1] (by kernel_rfl) ⟨rfl, rfl, rfl, rfl, rfl, rfl, trivial⟩, LY, LZ, LQ, hM⟩
      ·refine wp_exit ?_
       refine qB (qB (qY (qd ?_)))
       exact LN _ _ ⟨GC, GH, GX, GL, hS.to [0, 1] (by kernel_rfl) ⟨rfl, rfl, rfl, rfl, rfl, trivial⟩, Lh, Li, Lj, hM⟩
    ·intro a w hI
     obtain ⟨GB, GG, GW, GP, hS, Lm, Ln, Lo, hM⟩ := hI
     rw [qf.j5] at hM
     refine wp_seq <| qp <| sM hS rfl fun hS => sM hS rfl fun hS => sB hS rfl fun hS => zz (v := Value.int .i64) (x0 := (qh (GP + Gu))) hS (xj rfl) rfl fun L0 a w hz hS => ?_
     have hM := qC hz hM; clear hz
     refine qF <| qp <| sM hS rfl fun hS => sM hS rfl fun hS => sB hS rfl fun hS => qF <| qv hS rfl hM (fun LS hM => ?_) (fun LS hM => ?_)
     ·refine zB ?_
      refine sM hS rfl fun hS => sM hS rfl fun hS => sM hS rfl fun hS => sM hS rfl fun hS => sM hS rfl fun hS => qO hS rfl Tryd.call100 (xP hG K GG GP L0 Gy Gx Gv Gw GB GW Ln Lm (hS.st.part 2 [0, 1] (by kernel_rfl)) (qE hM) (fun G2 Lp Ly w hM L1 L3 Lq hst => qL hS.ev hst.appF rfl fun hS => ?_))
      replace hS : Ss _ _ _ H [Gx, Ly] F _ _ := hS
      have LT := Eq.trans Lq Lo
      replace hS := hS.re 0 (u := .slice Gv GB.length Gw) (v := .slice Gv G2.length Gw) rfl (by rw [Lq])
      replace hS := hS.re 55 (u := .slice Gv GB.length Gw) (v := .slice Gv G2.length Gw) rfl (by rw [Lq])
      refine qF <| zB <| sM hS rfl fun hS => sB hS rfl fun hS => zz (v := Value.int .i64) (x0 := (qh (Gu * (2 : Int)))) hS (xj rfl) rfl fun GQ a w hz hS => ?_
      have hM := qC hz hM; clear hz
      refine zc <| zr (qd ?_)
      exact Ld _ _ ⟨G2, Lp, Ly, GQ, hS.to [0, 1] (by kernel_rfl) ⟨rfl, rfl, rfl, rfl, trivial⟩, L1, L3, LT, hM⟩
     ·refine wp_skip ?_
      refine qd <| zB <| sM hS rfl fun hS => sB hS rfl fun hS => zz (v := Value.int .i64) (x0 := (qh (Gu * (2 : Int)))) hS (xj rfl) rfl fun GR a w hz hS => ?_
      have hM := qC hz hM; clear hz
      refine zc <| zr (qd ?_)
      exact Ld _ _ ⟨GB, GG, GW, GR, hS.to [0, 1] (by kernel_rfl) ⟨rfl, rfl, rfl, rfl, trivial⟩, Lm, Ln, Lo, hM⟩
   ·refine wp_exit ?_
    refine qB (qB (qY ?_))
    exact y4 (rs := []) hS rfl rfl (hret GI GF GV _ (qV hM) Le Lf Lg (hS.st.pick [0, 1] (by kernel_rfl)))
theorem x5 {H : xR} {F : List qq} {w : World} {R : Ending → World → Prop} {kr : (List qb) → Prop} {kp : Value → Prop} (hG : Gl H) (K : Nat) (Gz : List qb) (Gx : qq) (Gv : Option Addr) (Gw : Nat) (Gu : List (zv 2)) (GC : qq) (GD : zw (qg Gx) Gz Gu) (GI : xa 112 (zv.v (sz := 2)) 2 Gv Gu Gw GC)
    (hS : St w H [Gx, GC] F) (hm : (zn.m K Gz).wp kr kp)
    (hret : ∀ (GA : List (zv 2)) (GF : (List qb)) (GG : qq) (w : World), kr GF → (xa 112 (zv.v (sz := 2)) 2 Gv GA Gw GG) → (zw (qg Gx) GF GA) → (GA.length = Gu.length) → St w H [Gx, GG] F → R (.returned (.tuple ⟨[]⟩)) w) :
    Calls Tryd.prog 56 ⟨[.slice Gv Gu.length Gw, yy 57 [] []]⟩ w R := by
 refine enter Tryd.func56 rfl Tryd.ntmps56 rfl hS fun a w hS => ?_
 have hM := hm; clear hm
 rw [zn.m] at hM
 have GN : ∀ q ∈ Gx, q ∈ Gx := fun _ h => h
 have GJ : Gu.length = Gu.length := rfl
 refine zB <| sM hS rfl fun hS => sM hS rfl fun hS => sO hS (qU (v' := .int .i64 (Gz.length : Int)) (xY rfl Tryd.runUnderlying110) (by rw [GD.len])) rfl fun hS => sM hS rfl fun hS => qO hS rfl Tryd.call81 (yE hG K Gz (Gz.length : Int) Gx Gv Gw Gu GC GD GI (hS.st.part 2 [0, 1] (by kernel_rfl)) (qE hM) (fun Gy GE GH w hM GL GM GB hst => qL hS.ev hst.appF rfl fun hS => ?_))
 replace hS : Ss _ _ _ H [Gx, GH] F _ _ := hS
 have GK := Eq.trans GB GJ
 replace hS := hS.re 0 (u := .slice Gv Gu.length Gw) (v := .slice Gv Gy.length Gw) rfl (by rw [GB])
 replace hS := hS.re 4 (u := .slice Gv Gu.length Gw) (v := .slice Gv Gy.length Gw) rfl (by rw [GB])
 replace hS := hS.re 5 (u := .slice Gv Gu.length Gw) (v := .slice Gv Gy.length Gw) rfl (by rw [GB])
 refine zc ?_
 exact y4 (rs := []) hS rfl rfl (hret Gy GE GH _ (qV hM) GL GM GK (hS.st.pick [0, 1] (by kernel_rfl)))
def vi (p : qq) (x : (List Int)) (vs : List Value) : Prop :=
  ∃ (A0 : Option Addr) (c0 : Nat), vs = [.slice A0 x.length c0] ∧ Pl p (ci .i64) A0 x ∧ x.length ≤ c0
theorem vi.mono {p p' : qq} (hs : ∀ q ∈ p, q ∈ p') {x : (List Int)} {vs : List Value} (h : vi p x vs) : vi p' x vs := by
  obtain ⟨A0, c0, h0, h1, h2⟩ := h
  exact ⟨A0, c0, h0, h1.mono hs, h2⟩
theorem jT {H : xR} {F : List qq} {w : World} {R : Ending → World → Prop} {kr : Unit → Prop} {kp : Value → Prop} (hG : Gl H) (K : Nat) (Gu : Int)
    (hS : St w H [] F) (hm : (xG.m K Gu).wp kr kp)
    (hret : ∀ (Gv : Option Addr) (Gw : Nat) (Gx : qq) (w : World), kr () → (xa 3 (ci .i64) 1 Gv ([] : List Int) Gw Gx) → St w H [Gx] F → R (.returned (.slice Gv ([] : List Int).length Gw)) w)
    (hpan : ∀ v w, kp v → St w H [] F → R (.panicked [⟨v, false, false⟩]) w) :
    Calls Tryd.prog 102 ⟨[.slice none 0 0, .int .i64 Gu]⟩ w R := by
 refine enter Tryd.func102 rfl Tryd.ntmps102 rfl hS fun a w hS => ?_
 have hM := hm; clear hm
 rw [xG.m] at hM
 refine qp <| sA hS rfl fun hS => ?_
 obtain ⟨GL, GJ, hS⟩ := hS.nilV 3 (ci .i64) 1
 refine qF <| wp_seq <| qp <| sM hS rfl fun hS => sB hS rfl fun hS => qF <| qv hS rfl hM (fun Gy hM => ?_) (fun Gy hM => ?_)
 ·refine zB ?_
  refine sO hS (DF rfl Tryd.runUnderlying9 rfl) rfl fun hS => ZP hS rfl <| zX ?_
  exact ⟨hS.ev.defs, hpan _ _ (Yu hM) hS.st.frame⟩
 ·refine wp_skip ?_
  refine qd <| wp_seq <| qp <| sM hS rfl fun hS => sM hS rfl fun hS => sO hS (K3 rfl Tryd.runUnderlying45) rfl fun hS => sM hS rfl fun hS => sO hS (xY rfl Tryd.runUnderlying45) rfl fun hS => sB hS rfl fun hS => sB hS rfl fun hS => zz (v := Value.int .i64) (x0 := (qh (Gu - (qh ((0 : Int) - (0 : Int)))))) hS (xj rfl) rfl fun GK a w hz hS => ?_
  have hM := qC hz hM; clear hz
  refine qF <| qp <| sM hS rfl fun hS => sB hS rfl fun hS => qF <| qv hS rfl hM (fun Gz hM => ?_) (fun Gz hM => ?_)
  ·refine zB ?_
   refine sM hS rfl fun hS => sM hS rfl fun hS => sO hS (K3 rfl Tryd.runUnderlying45) rfl fun hS => sO hS (D2 rfl Tryd.runUnderlying45 Tryd.sizeOf3 (Bz rfl)) rfl fun hS => sM hS rfl fun hS => ?_
   obtain ⟨GA, hM⟩ := qH hM
   refine DY (g := (ci .i64)) hS rfl rfl Tryd.runUnderlying45 Tryd.runUnderlying3 X.el3 rfl rfl GA rfl fun w GF GG GH GB GC GD hS => sM hS rfl fun hS => sO hS (xY rfl Tryd.runUnderlying45) rfl fun hS => sO hS (DT rfl Tryd.runUnderlying45 Tryd.sizeOf3 (fun _ => Bz rfl) GC GD) rfl fun hS => sA hS rfl fun hS => qF <| qp <| sM hS rfl fun hS => sA hS rfl fun hS => qF <| wp_ret ?_
   exact zm (rs := [4]) hS rfl rfl (hret GF GG GH _ (qV hM) GB (hS.st.pick [0] (by kernel_rfl)))
  ·refine wp_skip ?_
   refine qd <| qp <| sM hS rfl fun hS => sA hS rfl fun hS => ?_
   obtain ⟨GI, GE, hS⟩ := hS.nilV 3 (ci .i64) 1
   refine qF <| wp_ret ?_
   exact zm (rs := [4]) hS rfl rfl (hret none (0) GI _ (qV hM) GE (hS.st.pick [0] (by kernel_rfl)))
theorem vr {H : xR} {F : List qq} {w : World} {R : Ending → World → Prop} {kr : (List Int) → Prop} {kp : Value → Prop} (hG : Gl H) (K : Nat) (Gu : List (List Int)) (Gz : qq) (GB : Option Addr) (GC : Nat) (Gw : List (zv 1)) (Gx : zw (vi Gz) Gu Gw) (GF : Pl Gz (zv.v (sz := 1)) GB Gw) (Lc : Gw.length ≤ GC)
    (hS : St w H [Gz] F) (hm : (qX.m K Gu).wp kr kp)
    (hret : ∀ (GO : Option Addr) (GP : Nat) (GL : (List Int)) (GQ : qq) (w : World), kr GL → (xa 3 (ci .i64) 1 GO GL GP GQ) → St w H [Gz, GQ] F → R (.returned (.slice GO GL.length GP)) w)
    (hpan : ∀ v w, kp v → St w H [] F → R (.panicked [⟨v, false, false⟩]) w) :
    Calls Tryd.prog 85 ⟨[.slice GB Gw.length GC]⟩ w R := by
 refine enter Tryd.func85 rfl Tryd.ntmps85 rfl hS fun a w hS => ?_
 have hM := hm; clear hm
 rw [qX.m] at hM
 have Ld : ∀ q ∈ Gz, q ∈ Gz := fun _ h => h
 refine qp <| sA hS rfl fun hS => ?_
 obtain ⟨Li, Le, hS⟩ := hS.nilV 3 (ci .i64) 1
 refine qF <| qp <| sA hS rfl fun hS => qF <| zg (fun a w => ∃ (GA : Int), Ss 36 [] [(0, .slice GB Gw.length GC), (3, .int .i64 GA)] H [Gz] F a w ∧ (qX.j2 K Gu GA).wp kr kp) (fun Lj GU => ?_) ?_
 ·refine wp_seq ?_
  refine zB <| sM hS rfl fun hS => sO hS (qU (v' := .int .i64 (Gu.length : Int)) (xY rfl Tryd.runUnderlying167) (by rw [Gx.len])) rfl fun hS => sM hS rfl fun hS => qF <| xw <| zk (fun GR a w => ∃ (Gy : Int) (GD : Int), Ss 36 [] [(0, .slice GB Gw.length GC), (3, .int .i64 Gy), (9, .slice GB Gw.length GC), (10, .int .i64 (Gu.length : Int)), (11, .int .i64 GD)] H [Gz] F a w ∧ (qX.l1 K Gu GR Gy GD).wp kr kp) K ?_ ?_ ?_
  ·exact ⟨(0 : Int), (0 : Int), hS.to [1] (by kernel_rfl) ⟨rfl, rfl, rfl, rfl, rfl, trivial⟩, hM⟩
  ·intro a w hI; obtain ⟨_, _, _, hM⟩ := hI; exact zj hM
  ·intro GR a w hI Lk GV
   obtain ⟨Gy, GD, hS, hM⟩ := hI
   rw [qX.l1] at hM
   refine qp <| sB hS rfl fun hS => qF <| wp_seq <| qv hS rfl hM (fun GW hM => ?_) (fun GW hM => ?_)
   ·refine wp_skip ?_
    refine qd <| wp_seq <| xw <| wp_seq <| zB ?_
    obtain ⟨GG, hM⟩ := qH hM
    refine sO hS (xM rfl rfl Tryd.runUnderlying167 Tryd.sizeOf45 (GF.rd (i := 0) rfl) zv.len rfl (Gx.inb GG)) rfl fun hS => ?_
    obtain ⟨Ll, Lm, GX, Lf, Lg⟩ := Gx.get GG
    refine sO hS (yd rfl (GF.rd (i := 0) rfl) zv.len (Gx.inb GG) (by rw [show zv.v (rd Gw GD) = _ from GX]; rfl) Tryd.isAgg45) rfl fun hS => sA hS rfl fun hS => qF <| qp <| sM hS rfl fun hS => sM hS rfl fun hS => sO hS (xY rfl Tryd.runUnderlying45) rfl fun hS => sB hS rfl fun hS => zz (v := Value.int .i64) (x0 := (qh (Gy + ((rd Gu GD).length : Int)))) hS (xj rfl) rfl fun GM a w hz hS => ?_
    have hM := qC hz hM; clear hz
    refine qF <| qp <| sM hS rfl fun hS => sB hS rfl fun hS => qF <| qv hS rfl hM (fun GY hM => ?_) (fun GY hM => ?_)
    ·refine zB ?_
     refine sO hS (DF rfl Tryd.runUnderlying9 rfl) rfl fun hS => ZP hS rfl <| js (zX (zX (js (zX ?_))))
     exact ⟨hS.ev.defs, hpan _ _ (Yu hM) hS.st.frame⟩
    ·refine wp_skip ?_
     refine zr (qd ?_)
     refine zB <| sB hS rfl fun hS => sM hS rfl fun hS => zc <| qd ?_
     exact GV _ _ ⟨GM, (qh (GD + (1 : Int))), hS.to [0] (by kernel_rfl) ⟨rfl, rfl, rfl, rfl, rfl, trivial⟩, hM⟩
   ·refine wp_exit ?_
    refine qB (qB (qY (qd ?_)))
    exact GU _ _ ⟨Gy, hS.to [0] (by kernel_rfl) ⟨rfl, rfl, trivial⟩, hM⟩
 ·intro a w hI
  obtain ⟨GA, hS, hM⟩ := hI
  rw [qX.j2] at hM
  refine qp <| sM hS rfl fun hS => qO hS rfl Tryd.call102 (jT hG K GA (hS.st.part 0 [0] (by kernel_rfl)) (qE hM) (fun G6 G7 GS w hM G8 hst => qL hS.ev hst.appF rfl fun hS => ?_) (fun v w hk hst => jK (zX (⟨hS.ev.defs, hpan _ _ hk hst.appF.frame⟩))))
  replace hS : Ss _ _ _ H [GS, Gz] F _ _ := hS
  refine sA hS rfl fun hS => qF <| wp_seq <| qp <| sM hS rfl fun hS => sO hS (qU (v' := .int .i64 (Gu.length : Int)) (xY rfl Tryd.runUnderlying167) (by rw [Gx.len])) rfl fun hS => sM hS rfl fun hS => qF <| xw <| zk (fun GT a w => ∃ (GI : Option Addr) (GJ : Nat) (Gv : (List Int)) (GK : qq) (GE : Int), Ss 36 [] [(6, .slice GI Gv.length GJ), (25, .slice GB Gw.length GC), (26, .int .i64 (Gu.length : Int)), (27, .int .i64 GE)] H [Gz, GK] F a w ∧ (xa 3 (ci .i64) 1 GI Gv GJ GK) ∧ (qX.l3 K Gu GT Gv GE).wp kr kp) K ?_ ?_ ?_
  ·exact ⟨G6, G7, ([] : List Int), GS, (0 : Int), hS.to [1, 0] (by kernel_rfl) ⟨rfl, rfl, rfl, rfl, trivial⟩, G8, hM⟩
  ·intro a w hI; obtain ⟨_, _, _, _, _, _, _, hM⟩ := hI; exact zj hM
  ·intro GT a w hI Ln GZ
   obtain ⟨GI, GJ, Gv, GK, GE, hS, GN, hM⟩ := hI
   rw [qX.l3] at hM
   refine qp <| sB hS rfl fun hS => qF <| wp_seq <| qv hS rfl hM (fun G0 hM => ?_) (fun G0 hM => ?_)
   ·refine wp_skip ?_
    refine qd <| wp_seq <| xw <| wp_seq <| zB ?_
    obtain ⟨GH, hM⟩ := qH hM
    refine sO hS (xM rfl rfl Tryd.runUnderlying167 Tryd.sizeOf45 (GF.rd (i := 0) rfl) zv.len rfl (Gx.inb GH)) rfl fun hS => ?_
    obtain ⟨Lo, Lp, G1, G2, Lh⟩ := Gx.get GH
    refine sO hS (yd rfl (GF.rd (i := 0) rfl) zv.len (Gx.inb GH) (by rw [show zv.v (rd Gw GE) = _ from G1]; rfl) Tryd.isAgg45) rfl fun hS => sA hS rfl fun hS => qF <| zB <| sM hS rfl fun hS => sM hS rfl fun hS => ?_
    obtain ⟨G3, hM⟩ := qH hM
    refine X9 (ys := (rd Gu GE)) 1 hS rfl rfl GN rfl (G2.rd (i := 0) rfl) Tryd.runUnderlying45 Tryd.runUnderlying45 X.el3 (fun _ => rfl) rfl xF G3 rfl fun G4 w G9 La Lb hz G5 hS => ?_
    have hM := qC hz hM; clear hz
    refine sA hS rfl fun hS => zc <| zr (qd ?_)
    refine zB <| sB hS rfl fun hS => sM hS rfl fun hS => zc <| qd ?_
    exact GZ _ _ ⟨G9, La, G4, Lb, (qh (GE + (1 : Int))), hS.to [0, 1] (by kernel_rfl) ⟨rfl, rfl, rfl, rfl, trivial⟩, G5, hM⟩
   ·refine wp_exit ?_
    refine qB (qB (qY (qd ?_)))
    refine qp <| sM hS rfl fun hS => sA hS rfl fun hS => qF <| wp_ret ?_
    exact zm (rs := [2]) hS rfl rfl (hret GI GJ Gv GK _ (qV hM) GN (hS.st.pick [0, 1] (by kernel_rfl)))
theorem YE {H : xR} {F : List qq} {w : World} {R : Ending → World → Prop} {kr : (List qb) → Prop} {kp : Value → Prop} (hG : Gl H) (K : Nat) (Gv : List qb) (GJ : qq) (Gw : Option Addr) (GA : Nat) (Gx : List (zv 2)) (Lo : zw (qg GJ) Gv Gx) (Lp : Pl GJ (zv.v (sz := 2)) Gw Gx) (Lq : Gx.length ≤ GA)
    (hS : St w H [GJ] F) (hm : (xV.m K Gv).wp kr kp)
    (hret : ∀ (G9 : qq) (Lh : Option Addr) (Li : Nat) (G3 : List (zv 2)) (Lj : (List qb)) (Lk : qq) (w : World), kr Lj → (∀ q ∈ GJ, q ∈ G9) → (xa 112 (zv.v (sz := 2)) 2 Lh G3 Li Lk) → (zw (qg G9) Lj G3) → St w H [G9, Lk] F → R (.returned (.slice Lh G3.length Li)) w)
    (hpan : ∀ v w, kp v → St w H [] F → R (.panicked [⟨v, false, false⟩]) w) :
    Calls Tryd.prog 60 ⟨[.slice Gw Gx.length GA]⟩ w R := by
 refine enter Tryd.func60 rfl Tryd.ntmps60 rfl hS fun a w hS => ?_
 have hM := hm; clear hm
 rw [xV.m] at hM
 have Lr : ∀ q ∈ GJ, q ∈ GJ := fun _ h => h
 refine qp <| sA hS rfl fun hS => ?_
 obtain ⟨LV, LP, hS⟩ := hS.nilV 112 (zv.v (sz := 2)) 2
 have LQ : zw (qg GJ) ([] : List qb) ([] : List (zv 2)) := zw.nil
 refine qF <| qp <| sA hS rfl fun hS => ?_
 obtain ⟨LL, Lt, hS⟩ := hS.nilV 112 (zv.v (sz := 2)) 2
 have Lu : zw (qg GJ) ([] : List qb) ([] : List (zv 2)) := zw.nil
 refine qF <| wp_seq <| qp <| sA hS rfl fun hS => qF <| xw <| zk (fun Ll a w => ∃ (GK : qq) (GL : Option Addr) (GM : Nat) (GD : List (zv 2)) (GP : (List qb)) (G2 : qq) (Gu : Int), Ss 42 [] [(0, .slice Gw Gx.length GA), (3, .slice GL GD.length GM), (4, .int .i64 Gu)] H [GK, G2] F a w ∧ (∀ q ∈ GJ, q ∈ GK) ∧ (zw (qg GK) Gv Gx) ∧ (Pl GK (zv.v (sz := 2)) Gw Gx) ∧ (Gx.length ≤ GA) ∧ (xa 112 (zv.v (sz := 2)) 2 GL GD GM G2) ∧ (zw (qg GK) GP GD) ∧ (xV.l1 K Gv Ll GP Gu).wp kr kp) K ?_ ?_ ?_
 ·exact ⟨GJ, none, 0, ([] : List (zv 2)), ([] : List qb), LL, (0 : Int), hS.to [2, 0] (by kernel_rfl) ⟨rfl, rfl, rfl, trivial⟩, Lr, Lo, Lp, Lq, Lt, Lu, hM⟩
 ·intro a w hI; obtain ⟨_, _, _, _, _, _, _, _, _, _, _, _, _, _, hM⟩ := hI; exact zj hM
 ·intro Ll a w hI LW Lv
  obtain ⟨GK, GL, GM, GD, GP, G2, Gu, hS, GU, Gy, Gz, Lw, La, GN, hM⟩ := hI
  rw [xV.l1] at hM
  refine wp_seq <| qp <| sM hS rfl fun hS => sB hS rfl fun hS => sM hS rfl fun hS => sO hS (qU (v' := .int .i64 (Gv.length : Int)) (xY rfl Tryd.runUnderlying110) (by rw [Gy.len])) rfl fun hS => sB hS rfl fun hS => qF <| qv hS rfl hM (fun Lx hM => ?_) (fun Lx hM => ?_)
  ·refine wp_skip ?_
   refine qd <| wp_seq <| xw ?_
   obtain ⟨GB, hM⟩ := qH hM
   obtain ⟨LX, LY, G4, LR, LS⟩ := Gy.get GB
   obtain ⟨GC, hM⟩ := qH hM
   obtain ⟨LZ, L0, G5, LT, LU⟩ := Gy.get GC
   obtain ⟨GQ, GR, Ly, GW, Lz⟩ := Gy.get GB
   obtain ⟨GS, GT, LA, GX, LB⟩ := Gy.get GC
   refine za (vals := [some (.slice GL GD.length GM), some (.slice Gw Gx.length GA), some (.int .i64 Gu), some (xc Gw (Int.toNat Gu * 2)), some (xc Gw (Int.toNat Gu * 2 + 0)), some (.int .i64 ((rd Gv Gu).often_)), some (.slice Gw Gx.length GA), some (.int .i64 Gu), some (.int .i64 (qh (Gu + (1 : Int)))), some (xc Gw (Int.toNat (qh (Gu + (1 : Int))) * 2)), some (xc Gw (Int.toNat (qh (Gu + (1 : Int))) * 2 + 0)), some (.int .i64 ((rd Gv (qh (Gu + (1 : Int)))).often_)), some (.int .i64 (qh ((rd Gv Gu).often_ + (rd Gv (qh (Gu + (1 : Int)))).often_))), some (.slice Gw Gx.length GA), some (.int .i64 Gu), some (xc Gw (Int.toNat Gu * 2)), some (xc Gw (Int.toNat Gu * 2 + 1)), some (.slice GQ ((rd Gv Gu).symbols_).length GR), some (.slice Gw Gx.length GA), some (.int .i64 Gu), some (.int .i64 (qh (Gu + (1 : Int)))), some (xc Gw (Int.toNat (qh (Gu + (1 : Int))) * 2)), some (xc Gw (Int.toNat (qh (Gu + (1 : Int))) * 2 + 1)), some (.slice GS ((rd Gv (qh (Gu + (1 : Int)))).symbols_).length GT), none, none, none, none, none, none]) hS xp rfl ?_
   intro l w ho hcl hA hst
   refine jn hA hst ho hcl xv xo 24 [0, 1, 2, 3, 4, 5, 6, 7, 8, 9, 10, 11, 12, 13, 14, 15, 16, 17, 18, 19, 20, 21, 22, 23] rfl rfl rfl rfl rfl (by exact ⟨nM rfl, nM rfl, nM rfl, nQ rfl (by exact qU (xM rfl rfl Tryd.runUnderlying110 Tryd.sizeOf112 (Gz.rd (i := 0) rfl) zv.len rfl (Gy.inb GB)) rfl), nQ rfl (by exact qU (Yq rfl (Gz.rd (i := 0) rfl) zv.len rfl (Gy.inb GB) Tryd.runUnderlying112 rfl Tryd.sizeOf3 rfl) rfl), nQ rfl (by exact qU (KG 0 rfl (Gz.rd (i := 0) rfl) zv.len (Gy.inb GB) (by rw [show zv.v (rd Gx Gu) = _ from G4]; rfl) Tryd.isAgg3) rfl), nM rfl, nM rfl, nB rfl, nQ rfl (by exact qU (xM rfl rfl Tryd.runUnderlying110 Tryd.sizeOf112 (Gz.rd (i := 0) rfl) zv.len rfl (Gy.inb GC)) rfl), nQ rfl (by exact qU (Yq rfl (Gz.rd (i := 0) rfl) zv.len rfl (Gy.inb GC) Tryd.runUnderlying112 rfl Tryd.sizeOf3 rfl) rfl), nQ rfl (by exact qU (KG 0 rfl (Gz.rd (i := 0) rfl) zv.len (Gy.inb GC) (by rw [show zv.v (rd Gx (qh (Gu + (1 : Int)))) = _ from G5]; rfl) Tryd.isAgg3) rfl), nB rfl, nM rfl, nM rfl, nQ rfl (by exact qU (xM rfl rfl Tryd.runUnderlying110 Tryd.sizeOf112 (Gz.rd (i := 0) rfl) zv.len rfl (Gy.inb GB)) rfl), nQ rfl (by exact qU (Yq rfl (Gz.rd (i := 0) rfl) zv.len rfl (Gy.inb GB) Tryd.runUnderlying112 rfl Tryd.sizeOf45 rfl) rfl), nQ rfl (by exact qU (KG 1 rfl (Gz.rd (i := 0) rfl) zv.len (Gy.inb GB) (by rw [show zv.v (rd Gx Gu) = _ from Ly]; rfl) Tryd.isAgg45) rfl), nM rfl, nM rfl, nB rfl, nQ rfl (by exact qU (xM rfl rfl Tryd.runUnderlying110 Tryd.sizeOf112 (Gz.rd (i := 0) rfl) zv.len rfl (Gy.inb GC)) rfl), nQ rfl (by exact qU (Yq rfl (Gz.rd (i := 0) rfl) zv.len rfl (Gy.inb GC) Tryd.runUnderlying112 rfl Tryd.sizeOf45 rfl) rfl), nQ rfl (by exact qU (KG 1 rfl (Gz.rd (i := 0) rfl) zv.len (Gy.inb GC) (by rw [show zv.v (rd Gx (qh (Gu + (1 : Int)))) = _ from LA]; rfl) Tryd.isAgg45) rfl), trivial⟩) fun D l a w ho hcl hav hpre hm hE hk hA hst => ?_
   have hS := (Ss.mk hE hst).env2 (e' := [(29, .slice GQ ((rd Gv Gu).symbols_).length GR), (35, .slice GS ((rd Gv (qh (Gu + (1 : Int)))).symbols_).length GT)]) ⟨rfl, rfl, trivial⟩
   refine q7 rfl ?_
   obtain ⟨GF, hrw⟩ : ∃ r, r = ([(⟨[.slice GQ ((rd Gv Gu).symbols_).length GR], by simp, by simp [Value.oneCell']⟩ : zv 1), (⟨[.slice GS ((rd Gv (qh (Gu + (1 : Int)))).symbols_).length GT], by simp, by simp [Value.oneCell']⟩ : zv 1)] : List (zv 1)) := ⟨_, rfl⟩
   have GY : zw (vi GK) ([(rd Gv Gu).symbols_, (rd Gv (qh (Gu + (1 : Int)))).symbols_] : List (List Int)) GF := by rw [hrw]; exact (zw.cons (show vi GK _ _ from ⟨GQ, GR, rfl, GW, Lz⟩) (zw.cons (show vi GK _ _ from ⟨GS, GT, rfl, GX, LB⟩) zw.nil))
   refine Xz (g := (zv.v (sz := 1))) GF [.slice GQ ((rd Gv Gu).symbols_).length GR, .slice GS ((rd Gv (qh (Gu + (1 : Int)))).symbols_).length GT] hS Tryd.runUnderlying167 Tryd.sizeOf45 X.el45 rfl rfl rfl (by simp [Value.cells]) (by rw [hrw]; rfl) (by rw [hrw]; rfl) rfl rfl rfl fun w GZ G0 L1 Lb hS => ?_
   clear hrw
   refine qF ?_
   replace hst := hS.st
   obtain ⟨hcl, hmust, hav2, hA⟩ := dn (vals' := [some (.slice GL GD.length GM), some (.slice Gw Gx.length GA), some (.int .i64 Gu), some (xc Gw (Int.toNat Gu * 2)), some (xc Gw (Int.toNat Gu * 2 + 0)), some (.int .i64 ((rd Gv Gu).often_)), some (.slice Gw Gx.length GA), some (.int .i64 Gu), some (.int .i64 (qh (Gu + (1 : Int)))), some (xc Gw (Int.toNat (qh (Gu + (1 : Int))) * 2)), some (xc Gw (Int.toNat (qh (Gu + (1 : Int))) * 2 + 0)), some (.int .i64 ((rd Gv (qh (Gu + (1 : Int)))).often_)), some (.int .i64 (qh ((rd Gv Gu).often_ + (rd Gv (qh (Gu + (1 : Int)))).often_))), some (.slice Gw Gx.length GA), some (.int .i64 Gu), some (xc Gw (Int.toNat Gu * 2)), some (xc Gw (Int.toNat Gu * 2 + 1)), some (.slice GQ ((rd Gv Gu).symbols_).length GR), some (.slice Gw Gx.length GA), some (.int .i64 Gu), some (.int .i64 (qh (Gu + (1 : Int)))), some (xc Gw (Int.toNat (qh (Gu + (1 : Int))) * 2)), some (xc Gw (Int.toNat (qh (Gu + (1 : Int))) * 2 + 1)), some (.slice GS ((rd Gv (qh (Gu + (1 : Int)))).symbols_).length GT), some (.slice GZ GF.length G0), none, none, none, none, none]) 24 [(17, 24), (23, 24), (16, 17), (22, 23), (15, 16), (21, 22), (13, 15), (14, 15), (18, 21), (20, 21), (19, 20)] hA hcl hav hm hpre hk rfl rfl rfl rfl rfl rfl rfl
   clear hm hav
   refine jn hA hst ho hcl hav2 hmust 25 [0, 1, 2, 3, 4, 5, 6, 7, 8, 9, 10, 11, 12] rfl rfl rfl rfl rfl (by exact ⟨nM rfl, nM rfl, nM rfl, nQ rfl (by exact qU (xM rfl rfl Tryd.runUnderlying110 Tryd.sizeOf112 (Gz.rd (i := 1) rfl) zv.len rfl (Gy.inb GB)) rfl), nQ rfl (by exact qU (Yq rfl (Gz.rd (i := 1) rfl) zv.len rfl (Gy.inb GB) Tryd.runUnderlying112 rfl Tryd.sizeOf3 rfl) rfl), nQ rfl (by exact qU (KG 0 rfl (Gz.rd (i := 1) rfl) zv.len (Gy.inb GB) (by rw [show zv.v (rd Gx Gu) = _ from G4]; rfl) Tryd.isAgg3) rfl), nM rfl, nM rfl, nB rfl, nQ rfl (by exact qU (xM rfl rfl Tryd.runUnderlying110 Tryd.sizeOf112 (Gz.rd (i := 1) rfl) zv.len rfl (Gy.inb GC)) rfl), nQ rfl (by exact qU (Yq rfl (Gz.rd (i := 1) rfl) zv.len rfl (Gy.inb GC) Tryd.runUnderlying112 rfl Tryd.sizeOf3 rfl) rfl), nQ rfl (by exact qU (KG 0 rfl (Gz.rd (i := 1) rfl) zv.len (Gy.inb GC) (by rw [show zv.v (rd Gx (qh (Gu + (1 : Int)))) = _ from G5]; rfl) Tryd.isAgg3) rfl), nB rfl, trivial⟩) fun D l a w ho hcl hav hpre hm hE hk hA hst => ?_
   have hS := (Ss.mk hE hst).env2 (e' := [(36, .slice GZ GF.length G0)]) ⟨rfl, trivial⟩
   refine q7 rfl ?_
   replace hS := hS.front [0, 1, 2] (by kernel_rfl)
   obtain ⟨Lm, LC, GO, hS⟩ := hS.poolF
   have LD := Lb.cap zv.len rfl
   have G6 := Lb.pl.mono LC
   replace Gz := Gz.mono GO
   replace GW := GW.mono GO
   replace GX := GX.mono GO
   replace Gy := zw.mono (fun _ _ h => qg.mono GO h) Gy
   replace GN := zw.mono (fun _ _ h => qg.mono GO h) GN
   replace GY := zw.mono (fun _ _ h => vi.mono GO h) GY
   replace GU := fun q h => GO q (GU q h)
   refine qO hS rfl Tryd.call85 (vr hG K ([(rd Gv Gu).symbols_, (rd Gv (qh (Gu + (1 : Int)))).symbols_] : List (List Int)) Lm GZ G0 GF GY G6 LD (hS.st.part 1 [0, 1] (by kernel_rfl)) (qE hM) (fun GG GH GE LM w hM Ln hst => qL hS.ev hst.appF rfl fun hS => ?_) (fun v w hk hst => jK (zX (js (zX (zX (js (zX (⟨hS.ev.defs, hpan _ _ hk hst.appF.frame⟩)))))))))
   replace hS : Ss _ _ _ H [Lm, LM, G2] F _ _ := hS
   refine qF ?_
   replace hst := hS.st
   obtain ⟨hcl, hmust, hav2, hA⟩ := dn (vals' := [some (.slice GL GD.length GM), some (.slice Gw Gx.length GA), some (.int .i64 Gu), some (xc Gw (Int.toNat Gu * 2)), some (xc Gw (Int.toNat Gu * 2 + 0)), some (.int .i64 ((rd Gv Gu).often_)), some (.slice Gw Gx.length GA), some (.int .i64 Gu), some (.int .i64 (qh (Gu + (1 : Int)))), some (xc Gw (Int.toNat (qh (Gu + (1 : Int))) * 2)), some (xc Gw (Int.toNat (qh (Gu + (1 : Int))) * 2 + 0)), some (.int .i64 ((rd Gv (qh (Gu + (1 : Int)))).often_)), some (.int .i64 (qh ((rd Gv Gu).often_ + (rd Gv (qh (Gu + (1 : Int)))).often_))), some (.slice Gw Gx.length GA), some (.int .i64 Gu), some (xc Gw (Int.toNat Gu * 2)), some (xc Gw (Int.toNat Gu * 2 + 1)), some (.slice GQ ((rd Gv Gu).symbols_).length GR), some (.slice Gw Gx.length GA), some (.int .i64 Gu), some (.int .i64 (qh (Gu + (1 : Int)))), some (xc Gw (Int.toNat (qh (Gu + (1 : Int))) * 2)), some (xc Gw (Int.toNat (qh (Gu + (1 : Int))) * 2 + 1)), some (.slice GS ((rd Gv (qh (Gu + (1 : Int)))).symbols_).length GT), some (.slice GZ GF.length G0), some (.slice GG GE.length GH), some (.agg ⟨[.int .i64 (qh ((rd Gv Gu).often_ + (rd Gv (qh (Gu + (1 : Int)))).often_)), .slice GG GE.length GH]⟩), none, none, none]) 25 [(24, 25), (17, 24), (23, 24), (16, 17), (22, 23), (15, 16), (21, 22), (13, 15), (14, 15), (18, 21), (20, 21), (19, 20)] hA hcl hav hm hpre hk rfl rfl rfl rfl rfl rfl rfl
   clear hm hav
   refine jn hA hst ho hcl hav2 hmust 27 [0, 1, 2, 3, 4, 5, 6, 7, 8, 9, 10, 11, 12, 26] rfl rfl rfl rfl rfl (by exact ⟨nM rfl, nM rfl, nM rfl, nQ rfl (by exact qU (xM rfl rfl Tryd.runUnderlying110 Tryd.sizeOf112 (Gz.rd (i := 0) rfl) zv.len rfl (Gy.inb GB)) rfl), nQ rfl (by exact qU (Yq rfl (Gz.rd (i := 0) rfl) zv.len rfl (Gy.inb GB) Tryd.runUnderlying112 rfl Tryd.sizeOf3 rfl) rfl), nQ rfl (by exact qU (KG 0 rfl (Gz.rd (i := 0) rfl) zv.len (Gy.inb GB) (by rw [show zv.v (rd Gx Gu) = _ from G4]; rfl) Tryd.isAgg3) rfl), nM rfl, nM rfl, nB rfl, nQ rfl (by exact qU (xM rfl rfl Tryd.runUnderlying110 Tryd.sizeOf112 (Gz.rd (i := 0) rfl) zv.len rfl (Gy.inb GC)) rfl), nQ rfl (by exact qU (Yq rfl (Gz.rd (i := 0) rfl) zv.len rfl (Gy.inb GC) Tryd.runUnderlying112 rfl Tryd.sizeOf3 rfl) rfl), nQ rfl (by exact qU (KG 0 rfl (Gz.rd (i := 0) rfl) zv.len (Gy.inb GC) (by rw [show zv.v (rd Gx (qh (Gu + (1 : Int)))) = _ from G5]; rfl) Tryd.isAgg3) rfl), nB rfl, nQ rfl (by exact qU (Zx ([.int .i64 (qh ((rd Gv Gu).often_ + (rd Gv (qh (Gu + (1 : Int)))).often_)), .slice GG GE.length GH]) [(0, 1), (1, 1)] Tryd.zeroValue112 Tryd.runUnderlying112 (by intro w; simp [Tryd.sizeOf3, Tryd.sizeOf45]) rfl rfl) rfl), trivial⟩) fun D l a w ho hcl hav hpre hm hE hk hA hst => ?_
   have hS := (Ss.mk hE hst).env2 (e' := [(38, .agg ⟨[.int .i64 (qh ((rd Gv Gu).often_ + (rd Gv (qh (Gu + (1 : Int)))).often_)), .slice GG GE.length GH]⟩)]) ⟨rfl, trivial⟩
   refine q7 rfl ?_
   replace hS := hS.front [1, 0, 2] (by kernel_rfl)
   obtain ⟨Lc, LE, GI, hS⟩ := hS.poolF
   have LF := Ln.cap (fun _ => rfl) rfl
   have LG := Ln.pl.mono LE
   replace Gz := Gz.mono GI
   replace GW := GW.mono GI
   replace GX := GX.mono GI
   replace G6 := G6.mono GI
   replace Gy := zw.mono (fun _ _ h => qg.mono GI h) Gy
   replace GN := zw.mono (fun _ _ h => qg.mono GI h) GN
   replace GY := zw.mono (fun _ _ h => vi.mono GI h) GY
   replace GU := fun q h => GI q (GU q h)
   obtain ⟨GV, hrw⟩ : ∃ r, r = ([(⟨[.int .i64 (qh ((rd Gv Gu).often_ + (rd Gv (qh (Gu + (1 : Int)))).often_)), .slice GG GE.length GH], by simp, by simp [Value.oneCell']⟩ : zv 2)] : List (zv 2)) := ⟨_, rfl⟩
   have Ld : zw (qg Lc) ([(qb.mk (qh ((rd Gv Gu).often_ + (rd Gv (qh (Gu + (1 : Int)))).often_)) GE)] : List qb) GV := by rw [hrw]; exact (zw.cons (show qg Lc _ _ from ⟨GG, GH, rfl, LG, LF⟩) zw.nil)
   refine Xz (g := (zv.v (sz := 2))) GV [.agg ⟨[.int .i64 (qh ((rd Gv Gu).often_ + (rd Gv (qh (Gu + (1 : Int)))).often_)), .slice GG GE.length GH]⟩] hS Tryd.runUnderlying110 Tryd.sizeOf112 X.el112 rfl rfl rfl (by simp [Value.cells]) (by rw [hrw]; rfl) (by rw [hrw]; rfl) rfl rfl rfl fun w Le Lf L3 LH hS => ?_
   clear hrw
   refine qF ?_
   replace hst := hS.st
   obtain ⟨hcl, hmust, hav2, hA⟩ := dn (vals' := [some (.slice GL GD.length GM), some (.slice Gw Gx.length GA), some (.int .i64 Gu), some (xc Gw (Int.toNat Gu * 2)), some (xc Gw (Int.toNat Gu * 2 + 0)), some (.int .i64 ((rd Gv Gu).often_)), some (.slice Gw Gx.length GA), some (.int .i64 Gu), some (.int .i64 (qh (Gu + (1 : Int)))), some (xc Gw (Int.toNat (qh (Gu + (1 : Int))) * 2)), some (xc Gw (Int.toNat (qh (Gu + (1 : Int))) * 2 + 0)), some (.int .i64 ((rd Gv (qh (Gu + (1 : Int)))).often_)), some (.int .i64 (qh ((rd Gv Gu).often_ + (rd Gv (qh (Gu + (1 : Int)))).often_))), some (.slice Gw Gx.length GA), some (.int .i64 Gu), some (xc Gw (Int.toNat Gu * 2)), some (xc Gw (Int.toNat Gu * 2 + 1)), some (.slice GQ ((rd Gv Gu).symbols_).length GR), some (.slice Gw Gx.length GA), some (.int .i64 Gu), some (.int .i64 (qh (Gu + (1 : Int)))), some (xc Gw (Int.toNat (qh (Gu + (1 : Int))) * 2)), some (xc Gw (Int.toNat (qh (Gu + (1 : Int))) * 2 + 1)), some (.slice GS ((rd Gv (qh (Gu + (1 : Int)))).symbols_).length GT), some (.slice GZ GF.length G0), some (.slice GG GE.length GH), some (.agg ⟨[.int .i64 (qh ((rd Gv Gu).often_ + (rd Gv (qh (Gu + (1 : Int)))).often_)), .slice GG GE.length GH]⟩), some (.slice Le GV.length Lf), none, none]) 27 [(26, 27), (12, 26), (25, 26), (5, 12), (11, 12), (24, 25), (4, 5), (10, 11), (17, 24), (23, 24), (3, 4), (9, 10), (16, 17), (22, 23), (1, 3), (2, 3), (6, 9), (8, 9), (15, 16), (21, 22), (7, 8), (13, 15), (14, 15), (18, 21), (20, 21), (19, 20)] hA hcl hav hm hpre hk rfl rfl rfl rfl rfl rfl rfl
   clear hm hav
   refine jn hA hst ho hcl hav2 hmust 28 [0] rfl rfl rfl rfl rfl (by exact ⟨nM rfl, trivial⟩) fun D l a w ho hcl hav hpre hm hE hk hA hst => ?_
   have hS := (Ss.mk hE hst).env2 (e' := [(12, .slice GL GD.length GM), (39, .slice Le GV.length Lf)]) ⟨rfl, rfl, trivial⟩
   refine q7 rfl ?_
   obtain ⟨LI, hM⟩ := qH hM
   refine X9 (ys := GV) 2 hS rfl rfl La rfl (LH.rd (i := 0) rfl) Tryd.runUnderlying110 Tryd.runUnderlying110 X.el112 zv.len rfl ZU (GN.room Ld LI) rfl fun G1 w G7 G8 LN hz LJ hS => ?_
   obtain ⟨LK, hzm⟩ := jh (GP ++ ([(qb.mk (qh ((rd Gv Gu).often_ + (rd Gv (qh (Gu + (1 : Int)))).often_)) GE)] : List qb))
   replace hM := qC hzm hM
   have Lg := zw.append GN Ld
   rw [← hz, ← hzm] at Lg; clear hz hzm
   refine qF ?_
   replace hst := hS.st
   obtain ⟨hcl, hmust, hav2, hA⟩ := dn (vals' := [some (.slice GL GD.length GM), some (.slice Gw Gx.length GA), some (.int .i64 Gu), some (xc Gw (Int.toNat Gu * 2)), some (xc Gw (Int.toNat Gu * 2 + 0)), some (.int .i64 ((rd Gv Gu).often_)), some (.slice Gw Gx.length GA), some (.int .i64 Gu), some (.int .i64 (qh (Gu + (1 : Int)))), some (xc Gw (Int.toNat (qh (Gu + (1 : Int))) * 2)), some (xc Gw (Int.toNat (qh (Gu + (1 : Int))) * 2 + 0)), some (.int .i64 ((rd Gv (qh (Gu + (1 : Int)))).often_)), some (.int .i64 (qh ((rd Gv Gu).often_ + (rd Gv (qh (Gu + (1 : Int)))).often_))), some (.slice Gw Gx.length GA), some (.int .i64 Gu), some (xc Gw (Int.toNat Gu * 2)), some (xc Gw (Int.toNat Gu * 2 + 1)), some (.slice GQ ((rd Gv Gu).symbols_).length GR), some (.slice Gw Gx.length GA), some (.int .i64 Gu), some (.int .i64 (qh (Gu + (1 : Int)))), some (xc Gw (Int.toNat (qh (Gu + (1 : Int))) * 2)), some (xc Gw (Int.toNat (qh (Gu + (1 : Int))) * 2 + 1)), some (.slice GS ((rd Gv (qh (Gu + (1 : Int)))).symbols_).length GT), some (.slice GZ GF.length G0), some (.slice GG GE.length GH), some (.agg ⟨[.int .i64 (qh ((rd Gv Gu).often_ + (rd Gv (qh (Gu + (1 : Int)))).often_)), .slice GG GE.length GH]⟩), some (.slice Le GV.length Lf), some (.slice G7 G1.length G8), some (.slice G7 G1.length G8)]) 28 [(0, 28), (25, 28), (27, 28), (24, 25), (26, 27), (17, 24), (23, 24), (12, 26), (16, 17), (22, 23), (5, 12), (11, 12), (15, 16), (21, 22), (4, 5), (10, 11), (13, 15), (14, 15), (18, 21), (20, 21), (3, 4), (9, 10), (19, 20), (1, 3), (2, 3), (6, 9), (8, 9), (7, 8)] hA hcl hav hm hpre hk rfl rfl rfl rfl rfl rfl rfl
   clear hm hav
   refine x3 hA hst ho hcl hmust [29] rfl rfl rfl (by exact ⟨nA rfl, trivial⟩) fun a w hS => ?_
   replace hS := hS.env2 (e' := [(0, .slice Gw Gx.length GA), (3, .slice G7 G1.length G8), (4, .int .i64 Gu)]) ⟨rfl, rfl, rfl, trivial⟩
   refine zr (qd ?_)
   refine zB <| sM hS rfl fun hS => sB hS rfl fun hS => zz (v := Value.int .i64) (x0 := (qh (Gu + (2 : Int)))) hS (xj rfl) rfl fun LO a w hz hS => ?_
   have hM := qC hz hM; clear hz
   refine zc <| qd ?_
   exact Lv _ _ ⟨Lc, G7, G8, G1, LK, LN, LO, hS.to [1, 2] (by kernel_rfl) ⟨rfl, rfl, rfl, trivial⟩, GU, Gy, Gz, Lw, LJ, Lg, hM⟩
  ·refine wp_exit ?_
   refine qB (qB (qY (qd ?_)))
   refine qp <| sM hS rfl fun hS => sA hS rfl fun hS => qF <| wp_ret ?_
   exact zm (rs := [2]) hS rfl rfl (hret GK GL GM GD GP G2 _ (qV hM) GU La GN (hS.st.pick [0, 1] (by kernel_rfl)))
def xL (p : qq) (x : (List qb)) (vs : List Value) : Prop :=
  ∃ (A0 : Option Addr) (c0 : Nat) (r0 : List (zv 2)), vs = [.slice A0 r0.length c0] ∧ zw (qg p) x r0 ∧ Pl p (zv.v (sz := 2)) A0 r0 ∧ r0.length ≤ c0
theorem xL.mono {p p' : qq} (hs : ∀ q ∈ p, q ∈ p') {x : (List qb)} {vs : List Value} (h : xL p x vs) : xL p' x vs := by
  obtain ⟨A0, c0, r0, h0, h1, h2, h3⟩ := h
  exact ⟨A0, c0, r0, h0, zw.mono (fun _ _ h => qg.mono hs h) h1, h2.mono hs, h3⟩
theorem yH {H : xR} {F : List qq} {w : World} {R : Ending → World → Prop} {kr : Unit → Prop} {kp : Value → Prop} (hG : Gl H) (K : Nat) (Gv : Int)
    (hS : St w H [] F) (hm : (z4.m K Gv).wp kr kp)
    (hret : ∀ (Gw : qq) (Gx : Option Addr) (Gy : Nat) (Gz : qq) (w : World), kr () → (xa 112 (zv.v (sz := 2)) 2 Gx ([] : List (zv 2)) Gy Gz) → (zw (qg Gw) ([] : List qb) ([] : List (zv 2))) → St w H [Gw, Gz] F → R (.returned (.slice Gx ([] : List (zv 2)).length Gy)) w)
    (hpan : ∀ v w, kp v → St w H [] F → R (.panicked [⟨v, false, false⟩]) w) :
    Calls Tryd.prog 101 ⟨[.slice none 0 0, .int .i64 Gv]⟩ w R := by
 refine enter Tryd.func101 rfl Tryd.ntmps101 rfl hS fun a w hS => ?_
 have hM := hm; clear hm
 rw [z4.m] at hM
 refine qp <| sA hS rfl fun hS => ?_
 obtain ⟨Gu, hS⟩ := hS.pool0
 obtain ⟨GQ, GN, hS⟩ := hS.nilV 112 (zv.v (sz := 2)) 2
 have GO : zw (qg Gu) ([] : List qb) ([] : List (zv 2)) := zw.nil
 refine qF <| wp_seq <| qp <| sM hS rfl fun hS => sB hS rfl fun hS => qF <| qv hS rfl hM (fun GA hM => ?_) (fun GA hM => ?_)
 ·refine zB ?_
  refine sO hS (DF rfl Tryd.runUnderlying9 rfl) rfl fun hS => ZP hS rfl <| zX ?_
  exact ⟨hS.ev.defs, hpan _ _ (Yu hM) hS.st.frame⟩
 ·refine wp_skip ?_
  refine qd <| wp_seq <| qp <| sM hS rfl fun hS => sM hS rfl fun hS => sO hS (K3 rfl Tryd.runUnderlying110) rfl fun hS => sM hS rfl fun hS => sO hS (xY rfl Tryd.runUnderlying110) rfl fun hS => sB hS rfl fun hS => sB hS rfl fun hS => zz (v := Value.int .i64) (x0 := (qh (Gv - (qh ((0 : Int) - (0 : Int)))))) hS (xj rfl) rfl fun GP a w hz hS => ?_
  have hM := qC hz hM; clear hz
  refine qF <| qp <| sM hS rfl fun hS => sB hS rfl fun hS => qF <| qv hS rfl hM (fun GB hM => ?_) (fun GB hM => ?_)
  ·refine zB ?_
   refine sM hS rfl fun hS => sM hS rfl fun hS => sO hS (K3 rfl Tryd.runUnderlying110) rfl fun hS => sO hS (D2 rfl Tryd.runUnderlying110 Tryd.sizeOf112 (Bz rfl)) rfl fun hS => sM hS rfl fun hS => ?_
   obtain ⟨GC, hM⟩ := qH hM
   refine DY (g := (zv.v (sz := 2))) hS rfl rfl Tryd.runUnderlying110 Tryd.runUnderlying3 X.el112 rfl rfl GC rfl fun w GJ GK GL GD GE GF hS => ?_
   have GG : zw (qg Gu) ([] : List qb) ([] : List (zv 2)) := zw.nil
   refine sM hS rfl fun hS => sO hS (xY rfl Tryd.runUnderlying110) rfl fun hS => sO hS (DT rfl Tryd.runUnderlying110 Tryd.sizeOf112 (fun _ => Bz rfl) GE GF) rfl fun hS => sA hS rfl fun hS => qF <| qp <| sM hS rfl fun hS => sA hS rfl fun hS => qF <| wp_ret ?_
   exact zm (rs := [4]) hS rfl rfl (hret Gu GJ GK GL _ (qV hM) GD GG (hS.st.pick [2, 0] (by kernel_rfl)))
  ·refine wp_skip ?_
   refine qd <| qp <| sM hS rfl fun hS => sA hS rfl fun hS => ?_
   obtain ⟨GM, GH, hS⟩ := hS.nilV 112 (zv.v (sz := 2)) 2
   have GI : zw (qg Gu) ([] : List qb) ([] : List (zv 2)) := zw.nil
   refine qF <| wp_ret ?_
   exact zm (rs := [4]) hS rfl rfl (hret Gu none (0) GM _ (qV hM) GH GI (hS.st.pick [2, 0] (by kernel_rfl)))
theorem yO {H : xR} {F : List qq} {w : World} {R : Ending → World → Prop} {kr : (List qb) → Prop} {kp : Value → Prop} (hG : Gl H) (K : Nat) (Gu : List (List qb)) (Gz : qq) (GE : Option Addr) (GF : Nat) (Gw : List (zv 1)) (Gx : zw (xL Gz) Gu Gw) (GB : Pl Gz (zv.v (sz := 1)) GE Gw) (Lr : Gw.length ≤ GF)
    (hS : St w H [Gz] F) (hm : (qw.m K Gu).wp kr kp)
    (hret : ∀ (GQ : qq) (GX : Option Addr) (GY : Nat) (GH : List (zv 2)) (GZ : (List qb)) (G0 : qq) (w : World), kr GZ → (∀ q ∈ Gz, q ∈ GQ) → (xa 112 (zv.v (sz := 2)) 2 GX GH GY G0) → (zw (qg GQ) GZ GH) → St w H [GQ, G0] F → R (.returned (.slice GX GH.length GY)) w)
    (hpan : ∀ v w, kp v → St w H [] F → R (.panicked [⟨v, false, false⟩]) w) :
    Calls Tryd.prog 83 ⟨[.slice GE Gw.length GF]⟩ w R := by
 refine enter Tryd.func83 rfl Tryd.ntmps83 rfl hS fun a w hS => ?_
 have hM := hm; clear hm
 rw [qw.m] at hM
 have GI : ∀ q ∈ Gz, q ∈ Gz := fun _ h => h
 refine qp <| sA hS rfl fun hS => ?_
 obtain ⟨Lz, Lt, hS⟩ := hS.nilV 112 (zv.v (sz := 2)) 2
 have Lu : zw (qg Gz) ([] : List qb) ([] : List (zv 2)) := zw.nil
 refine qF <| qp <| sA hS rfl fun hS => qF <| zg (fun a w => ∃ (GA : Int), Ss 36 [] [(0, .slice GE Gw.length GF), (3, .int .i64 GA)] H [Gz] F a w ∧ (qw.j2 K Gu GA).wp kr kp) (fun LA G4 => ?_) ?_
 ·refine wp_seq ?_
  refine zB <| sM hS rfl fun hS => sO hS (qU (v' := .int .i64 (Gu.length : Int)) (xY rfl Tryd.runUnderlying165) (by rw [Gx.len])) rfl fun hS => sM hS rfl fun hS => qF <| xw <| zk (fun G1 a w => ∃ (Gy : Int) (GC : Int), Ss 36 [] [(0, .slice GE Gw.length GF), (3, .int .i64 Gy), (9, .slice GE Gw.length GF), (10, .int .i64 (Gu.length : Int)), (11, .int .i64 GC)] H [Gz] F a w ∧ (qw.l1 K Gu G1 Gy GC).wp kr kp) K ?_ ?_ ?_
  ·exact ⟨(0 : Int), (0 : Int), hS.to [1] (by kernel_rfl) ⟨rfl, rfl, rfl, rfl, rfl, trivial⟩, hM⟩
  ·intro a w hI; obtain ⟨_, _, _, hM⟩ := hI; exact zj hM
  ·intro G1 a w hI LB G5
   obtain ⟨Gy, GC, hS, hM⟩ := hI
   rw [qw.l1] at hM
   refine qp <| sB hS rfl fun hS => qF <| wp_seq <| qv hS rfl hM (fun G6 hM => ?_) (fun G6 hM => ?_)
   ·refine wp_skip ?_
    refine qd <| wp_seq <| xw <| wp_seq <| zB ?_
    obtain ⟨GJ, hM⟩ := qH hM
    refine sO hS (xM rfl rfl Tryd.runUnderlying165 Tryd.sizeOf110 (GB.rd (i := 0) rfl) zv.len rfl (Gx.inb GJ)) rfl fun hS => ?_
    obtain ⟨LC, LD, Lv, G7, G8, Lw, Lx⟩ := Gx.get GJ
    refine sO hS (yd rfl (GB.rd (i := 0) rfl) zv.len (Gx.inb GJ) (by rw [show zv.v (rd Gw GC) = _ from G7]; rfl) Tryd.isAgg110) rfl fun hS => sA hS rfl fun hS => qF <| qp <| sM hS rfl fun hS => sM hS rfl fun hS => sO hS (qU (v' := .int .i64 ((rd Gu GC).length : Int)) (xY rfl Tryd.runUnderlying110) (by rw [G8.len])) rfl fun hS => sB hS rfl fun hS => zz (v := Value.int .i64) (x0 := (qh (Gy + ((rd Gu GC).length : Int)))) hS (xj rfl) rfl fun GR a w hz hS => ?_
    have hM := qC hz hM; clear hz
    refine qF <| qp <| sM hS rfl fun hS => sB hS rfl fun hS => qF <| qv hS rfl hM (fun G9 hM => ?_) (fun G9 hM => ?_)
    ·refine zB ?_
     refine sO hS (DF rfl Tryd.runUnderlying9 rfl) rfl fun hS => ZP hS rfl <| js (zX (zX (js (zX ?_))))
     exact ⟨hS.ev.defs, hpan _ _ (Yu hM) hS.st.frame⟩
    ·refine wp_skip ?_
     refine zr (qd ?_)
     refine zB <| sB hS rfl fun hS => sM hS rfl fun hS => zc <| qd ?_
     exact G5 _ _ ⟨GR, (qh (GC + (1 : Int))), hS.to [0] (by kernel_rfl) ⟨rfl, rfl, rfl, rfl, rfl, trivial⟩, hM⟩
   ·refine wp_exit ?_
    refine qB (qB (qY (qd ?_)))
    exact G4 _ _ ⟨Gy, hS.to [0] (by kernel_rfl) ⟨rfl, rfl, trivial⟩, hM⟩
 ·intro a w hI
  obtain ⟨GA, hS, hM⟩ := hI
  rw [qw.j2] at hM
  refine qp <| sM hS rfl fun hS => qO hS rfl Tryd.call101 (yH hG K GA (hS.st.part 0 [0] (by kernel_rfl)) (qE hM) (fun Lk Ll Lm G2 w hM Ln GS hst => qL hS.ev hst.appF rfl fun hS => ?_) (fun v w hk hst => jK (zX (⟨hS.ev.defs, hpan _ _ hk hst.appF.frame⟩))))
  replace hS : Ss _ _ _ H [Lk, G2, Gz] F _ _ := hS
  replace hS := hS.front [0, 2, 1] (by kernel_rfl)
  obtain ⟨GT, La, GK, hS⟩ := hS.poolF
  replace GS := zw.mono (fun _ _ h => qg.mono La h) GS
  replace GB := GB.mono GK
  replace Gx := zw.mono (fun _ _ h => xL.mono GK h) Gx
  replace GI := fun q h => GK q (GI q h)
  refine sA hS rfl fun hS => qF <| wp_seq <| qp <| sM hS rfl fun hS => sO hS (qU (v' := .int .i64 (Gu.length : Int)) (xY rfl Tryd.runUnderlying165) (by rw [Gx.len])) rfl fun hS => sM hS rfl fun hS => qF <| xw <| zk (fun G3 a w => ∃ (GN : Option Addr) (GO : Nat) (GD : List (zv 2)) (Gv : (List qb)) (GP : qq) (GG : Int), Ss 36 [] [(6, .slice GN GD.length GO), (25, .slice GE Gw.length GF), (26, .int .i64 (Gu.length : Int)), (27, .int .i64 GG)] H [GT, GP] F a w ∧ (xa 112 (zv.v (sz := 2)) 2 GN GD GO GP) ∧ (zw (qg GT) Gv GD) ∧ (qw.l3 K Gu G3 Gv GG).wp kr kp) K ?_ ?_ ?_
  ·exact ⟨Ll, Lm, ([] : List (zv 2)), ([] : List qb), G2, (0 : Int), hS.to [0, 1] (by kernel_rfl) ⟨rfl, rfl, rfl, rfl, trivial⟩, Ln, GS, hM⟩
  ·intro a w hI; obtain ⟨_, _, _, _, _, _, _, _, _, hM⟩ := hI; exact zj hM
  ·intro G3 a w hI LE Lb
   obtain ⟨GN, GO, GD, Gv, GP, GG, hS, GU, GL, hM⟩ := hI
   rw [qw.l3] at hM
   refine qp <| sB hS rfl fun hS => qF <| wp_seq <| qv hS rfl hM (fun Lc hM => ?_) (fun Lc hM => ?_)
   ·refine wp_skip ?_
    refine qd <| wp_seq <| xw <| wp_seq <| zB ?_
    obtain ⟨GM, hM⟩ := qH hM
    refine sO hS (xM rfl rfl Tryd.runUnderlying165 Tryd.sizeOf110 (GB.rd (i := 0) rfl) zv.len rfl (Gx.inb GM)) rfl fun hS => ?_
    obtain ⟨LF, LG, Ld, Le, GV, Lf, Ly⟩ := Gx.get GM
    refine sO hS (yd rfl (GB.rd (i := 0) rfl) zv.len (Gx.inb GM) (by rw [show zv.v (rd Gw GG) = _ from Le]; rfl) Tryd.isAgg110) rfl fun hS => sA hS rfl fun hS => qF <| zB <| sM hS rfl fun hS => sM hS rfl fun hS => ?_
    obtain ⟨Lg, hM⟩ := qH hM
    refine X9 (ys := Ld) 1 hS rfl rfl GU rfl (Lf.rd (i := 0) rfl) Tryd.runUnderlying110 Tryd.runUnderlying110 X.el112 zv.len rfl ZU (GL.room GV Lg) rfl fun Lh w Lo Lp Lq hz Li hS => ?_
    obtain ⟨Lj, hzm⟩ := jh (Gv ++ (rd Gu GG))
    replace hM := qC hzm hM
    have GW := zw.append GL GV
    rw [← hz, ← hzm] at GW; clear hz hzm
    refine sA hS rfl fun hS => zc <| zr (qd ?_)
    refine zB <| sB hS rfl fun hS => sM hS rfl fun hS => zc <| qd ?_
    exact Lb _ _ ⟨Lo, Lp, Lh, Lj, Lq, (qh (GG + (1 : Int))), hS.to [0, 1] (by kernel_rfl) ⟨rfl, rfl, rfl, rfl, trivial⟩, Li, GW, hM⟩
   ·refine wp_exit ?_
    refine qB (qB (qY (qd ?_)))
    refine qp <| sM hS rfl fun hS => sA hS rfl fun hS => qF <| wp_ret ?_
    exact zm (rs := [2]) hS rfl rfl (hret GT GN GO GD Gv GP _ (qV hM) GI GU GL (hS.st.pick [0, 1] (by kernel_rfl)))
theorem jq {H : xR} {F : List qq} {w : World} {R : Ending → World → Prop} {kr : Int → Prop} {kp : Value → Prop} (hG : Gl H) (K : Nat) (Gu : qb) (Gv : qb) (Gw : Option Addr) (Gx : Nat) (Gy : Option Addr) (Gz : Nat) (GG : jm H [] F (ci .i64) Gw Gu.symbols_) (GH : Gu.symbols_.length ≤ Gx) (GI : jm H [] F (ci .i64) Gy Gv.symbols_) (GJ : Gv.symbols_.length ≤ Gz)
    (hS : St w H [] F) (hm : (yW.m K Gu Gv).wp kr kp)
    (hret : ∀ (GA : Int) (w : World), kr GA → St w H [] F → R (.returned (.int .i64 GA)) w) :
    Calls Tryd.prog 84 ⟨[.agg ⟨[.int .i64 Gu.often_, .slice Gw Gu.symbols_.length Gx]⟩, .agg ⟨[.int .i64 Gv.often_, .slice Gy Gv.symbols_.length Gz]⟩]⟩ w R := by
 refine enter Tryd.func84 rfl Tryd.ntmps84 rfl hS fun a w hS => ?_
 have hM := hm; clear hm
 rw [yW.m] at hM
 refine qp <| bx ([.int .i64 Gu.often_, .slice Gw Gu.symbols_.length Gx]) hS rfl rfl rfl fun w GK GD GB hS => bx ([.int .i64 Gv.often_, .slice Gy Gv.symbols_.length Gz]) hS rfl rfl rfl fun w GL GE GC hS => sA hS rfl fun hS => qF <| qp <| sO hS (xu rfl Tryd.runUnderlying112 rfl Tryd.sizeOf3 rfl) rfl fun hS => sO hS (xW 1 rfl GB rfl rfl Tryd.isAgg3) rfl fun hS => sO hS (xu rfl Tryd.runUnderlying112 rfl Tryd.sizeOf3 rfl) rfl fun hS => sO hS (xW 0 rfl GC rfl rfl Tryd.isAgg3) rfl fun hS => qO hS rfl Tryd.call58 (vy hG K Gu.often_ Gv.often_ (hS.st.part 0 [0, 1] (by kernel_rfl)) (qE hM) (fun GF w hM  hst => qL hS.ev hst.appF rfl fun hS => ?_))
 replace hS : Ss _ _ _ H [GE, GD] F _ _ := hS
 refine sA hS rfl fun hS => qF <| wp_ret ?_
 exact zm (rs := [4]) hS rfl rfl (hret GF _ (qV hM) (hS.st.pick [] (by kernel_rfl)))
theorem xI {H : xR} {F : List qq} {w : World} {R : Ending → World → Prop} {kr : (List qb) → Prop} {kp : Value → Prop} (hG : Gl H) (K : Nat) (GI : List qb) (Gz : Int) (GB : Int) (GD : qq) (Gw : Option Addr) (Gy : Nat) (GF : List (zv 2)) (G5 : qq) (Lj : zw (qg GD) GI GF) (Lk : xa 112 (zv.v (sz := 2)) 2 Gw GF Gy G5)
    (hS : St w H [GD, G5] F) (hm : (qi.m K GI Gz GB).wp kr kp)
    (hret : ∀ (GU : List (zv 2)) (GQ : (List qb)) (Li : qq) (w : World), kr GQ → (xa 112 (zv.v (sz := 2)) 2 Gw GU Gy Li) → (zw (qg GD) GQ GU) → (GU.length = GF.length) → St w H [GD, Li] F → R (.returned (.tuple ⟨[]⟩)) w) :
    Calls Tryd.prog 99 ⟨[.slice Gw GF.length Gy, .int .i64 Gz, .int .i64 GB, yy 84 [] []]⟩ w R := by
 refine enter Tryd.func99 rfl Tryd.ntmps99 rfl hS fun a w hS => ?_
 have hM := hm; clear hm
 rw [qi.m] at hM
 have LM : ∀ q ∈ GD, q ∈ GD := fun _ h => h
 have Ll : GF.length = GF.length := rfl
 refine qp <| sM hS rfl fun hS => sB hS rfl fun hS => zz (v := Value.int .i64) (x0 := (qh (Gz + (1 : Int)))) hS (xj rfl) rfl fun LI a w hz hS => ?_
 have hM := qC hz hM; clear hz
 refine qF <| xw <| zk (fun GR a w => ∃ (GH : List (zv 2)) (GG : (List qb)) (GS : qq) (GE : Int), Ss 53 [] [(0, .slice Gw GH.length Gy), (1, .int .i64 Gz), (2, .int .i64 GB), (3, yy 84 [] []), (8, .int .i64 GE)] H [GD, GS] F a w ∧ (xa 112 (zv.v (sz := 2)) 2 Gw GH Gy GS) ∧ (zw (qg GD) GG GH) ∧ (GH.length = GF.length) ∧ (qi.l1 K Gz GB GR GG GE).wp kr kp) K ?_ ?_ ?_
 ·exact ⟨GF, GI, G5, LI, hS.to [0, 1] (by kernel_rfl) ⟨rfl, rfl, rfl, rfl, rfl, trivial⟩, Lk, Lj, Ll, hM⟩
 ·intro a w hI; obtain ⟨_, _, _, _, _, _, _, _, hM⟩ := hI; exact zj hM
 ·intro GR a w hI LN Lm
  obtain ⟨GH, GG, GS, GE, hS, G6, G7, G8, hM⟩ := hI
  rw [qi.l1] at hM
  refine wp_seq <| qp <| sM hS rfl fun hS => sM hS rfl fun hS => sB hS rfl fun hS => qF <| qv hS rfl hM (fun Ln hM => ?_) (fun Ln hM => ?_)
  ·refine wp_skip ?_
   refine qd <| wp_seq <| xw <| qp <| sM hS rfl fun hS => sA hS rfl fun hS => qF <| xw <| zk (fun G9 a w => ∃ (Gx : List (zv 2)) (Gu : (List qb)) (GO : qq) (Gv : Int), Ss 53 [] [(0, .slice Gw Gx.length Gy), (1, .int .i64 Gz), (2, .int .i64 GB), (3, yy 84 [] []), (8, .int .i64 GE), (9, .int .i64 Gv)] H [GD, GO] F a w ∧ (xa 112 (zv.v (sz := 2)) 2 Gw Gx Gy GO) ∧ (zw (qg GD) Gu Gx) ∧ (Gx.length = GF.length) ∧ (qi.l2 K (qi.l1 K Gz GB GR) Gz GE G9 Gu Gv).wp kr kp) K ?_ ?_ ?_
   ·exact ⟨GH, GG, GS, GE, hS.to [0, 1] (by kernel_rfl) ⟨rfl, rfl, rfl, rfl, rfl, rfl, trivial⟩, G6, G7, G8, hM⟩
   ·intro a w hI; obtain ⟨_, _, _, _, _, _, _, _, hM⟩ := hI; exact zj hM
   ·intro G9 a w hI LO Lo
    obtain ⟨Gx, Gu, GO, Gv, hS, GC, GA, La, hM⟩ := hI
    rw [qi.l2] at hM
    refine wp_seq <| zg (fun a w => ∃ (Lb : Bool), Ss 53 [] [(0, .slice Gw Gx.length Gy), (1, .int .i64 Gz), (2, .int .i64 GB), (3, yy 84 [] []), (8, .int .i64 GE), (9, .int .i64 Gv), (34, .bool Lb)] H [GD, GO] F a w ∧ (qi.j3 K (qi.l1 K Gz GB GR) (qi.l2 K (qi.l1 K Gz GB GR) Gz GE G9) GE Gu Gv Lb).wp kr kp) (fun LP Lc => ?_) ?_
    ·refine Uh (b := (decide (Gv > Gz))) hM (fun GV hM => ?_) (fun GV hM => ?_)
     ·obtain ⟨GW, hM⟩ := qH hM
      obtain ⟨G1, G2, Lp, Lq, Lr⟩ := GA.get GW
      obtain ⟨GX, hM⟩ := qH hM
      obtain ⟨G3, G4, Lt, Lu, Lv⟩ := GA.get GX
      refine za (vals := [some (.int .i64 Gv), some (.int .i64 Gz), some (.bool true), some (.bool true), some (yy 84 [] []), some (.slice Gw Gx.length Gy), some (.int .i64 Gv), some (xc Gw (Int.toNat Gv * 2)), some (.agg ⟨[.int .i64 ((rd Gu Gv).often_), .slice G1 ((rd Gu Gv).symbols_).length G2]⟩), some (.slice Gw Gx.length Gy), some (.int .i64 Gv), some (.int .i64 (qh (Gv - (1 : Int)))), some (xc Gw (Int.toNat (qh (Gv - (1 : Int))) * 2)), some (.agg ⟨[.int .i64 ((rd Gu (qh (Gv - (1 : Int)))).often_), .slice G3 ((rd Gu (qh (Gv - (1 : Int)))).symbols_).length G4]⟩), none, none, none]) hS xp rfl ?_
      intro l w ho hcl hA hst
      refine jn hA hst ho hcl xv xo 14 [0, 1, 2, 3, 4, 5, 6, 7, 8, 9, 10, 11, 12, 13] rfl rfl rfl rfl rfl (by exact ⟨nM rfl, nM rfl, nQ rfl (by exact qU (yU rfl rfl rfl) (congrArg Value.bool GV)), nM rfl, nW rfl rfl rfl rfl rfl rfl rfl rfl (by exact qU (mv rfl) rfl), nW rfl rfl rfl rfl rfl rfl rfl rfl (by exact qU (mv rfl) rfl), nW rfl rfl rfl rfl rfl rfl rfl rfl (by exact qU (mv rfl) rfl), nW rfl rfl rfl rfl rfl rfl rfl rfl (by exact qU (xM rfl rfl Tryd.runUnderlying110 Tryd.sizeOf112 (GC.rd (i := 1) rfl) zv.len rfl (GA.inb GW)) rfl), nW rfl rfl rfl rfl rfl rfl rfl rfl (by exact qU (qU (yL rfl (GC.rd (i := 1) rfl) zv.len (GA.inb GW) Tryd.isAgg112 Tryd.sizeOf112 rfl) (congrArg (fun l => Value.agg ⟨l⟩) Lp)) rfl), nW rfl rfl rfl rfl rfl rfl rfl rfl (by exact qU (mv rfl) rfl), nW rfl rfl rfl rfl rfl rfl rfl rfl (by exact qU (mv rfl) rfl), nW rfl rfl rfl rfl rfl rfl rfl rfl (by exact qU (yU rfl rfl rfl) rfl), nW rfl rfl rfl rfl rfl rfl rfl rfl (by exact qU (xM rfl rfl Tryd.runUnderlying110 Tryd.sizeOf112 (GC.rd (i := 1) rfl) zv.len rfl (GA.inb GX)) rfl), nW rfl rfl rfl rfl rfl rfl rfl rfl (by exact qU (qU (yL rfl (GC.rd (i := 1) rfl) zv.len (GA.inb GX) Tryd.isAgg112 Tryd.sizeOf112 rfl) (congrArg (fun l => Value.agg ⟨l⟩) Lt)) rfl), trivial⟩) fun D l a w ho hcl hav hpre hm hE hk hA hst => ?_
      have hS := (Ss.mk hE hst).env2 (e' := [(21, .bool true), (22, yy 84 [] []), (26, .agg ⟨[.int .i64 ((rd Gu Gv).often_), .slice G1 ((rd Gu Gv).symbols_).length G2]⟩), (31, .agg ⟨[.int .i64 ((rd Gu (qh (Gv - (1 : Int)))).often_), .slice G3 ((rd Gu (qh (Gv - (1 : Int)))).symbols_).length G4]⟩)]) ⟨rfl, rfl, rfl, rfl, trivial⟩
      refine q7 rfl <| Ql hS rfl rfl rfl rfl <| vg hS rfl rfl Tryd.call84 (jq hG K (qb.mk ((rd Gu Gv).often_) ((rd Gu Gv).symbols_)) (qb.mk ((rd Gu (qh (Gv - (1 : Int)))).often_) ((rd Gu (qh (Gv - (1 : Int)))).symbols_)) G1 G2 G3 G4 (Lq.rdF (i := 0) rfl) Lr (Lu.rdF (i := 0) rfl) Lv (hS.st.part 0 [0, 1] (by kernel_rfl)) (qE hM) (fun GT w hM  hst => qL hS.ev hst.appF rfl fun hS => ?_))
      replace hS : Ss _ _ _ H [GD, GO] F _ _ := hS
      refine qF ?_
      replace hst := hS.st
      obtain ⟨hcl, hmust, hav2, hA⟩ := dn (vals' := [some (.int .i64 Gv), some (.int .i64 Gz), some (.bool true), some (.bool true), some (yy 84 [] []), some (.slice Gw Gx.length Gy), some (.int .i64 Gv), some (xc Gw (Int.toNat Gv * 2)), some (.agg ⟨[.int .i64 ((rd Gu Gv).often_), .slice G1 ((rd Gu Gv).symbols_).length G2]⟩), some (.slice Gw Gx.length Gy), some (.int .i64 Gv), some (.int .i64 (qh (Gv - (1 : Int)))), some (xc Gw (Int.toNat (qh (Gv - (1 : Int))) * 2)), some (.agg ⟨[.int .i64 ((rd Gu (qh (Gv - (1 : Int)))).often_), .slice G3 ((rd Gu (qh (Gv - (1 : Int)))).symbols_).length G4]⟩), some (.int .i64 GT), some (.bool (decide (GT < (0 : Int)))), some (.bool (decide (GT < (0 : Int))))]) 14 [(3, 14), (4, 14), (8, 14), (13, 14), (2, 3), (7, 8), (12, 13), (0, 2), (1, 2), (5, 7), (6, 7), (9, 12), (11, 12), (10, 11)] hA hcl hav hm hpre hk rfl rfl rfl rfl rfl rfl rfl
      clear hm hav
      refine x3 hA hst ho hcl hmust [15, 16] rfl rfl rfl (by exact ⟨nW rfl rfl rfl rfl rfl rfl rfl rfl (by exact qU (yU rfl rfl rfl) rfl), nQ rfl (by exact qU (pk rfl rfl rfl) rfl), trivial⟩) fun a w hS => ?_
      replace hS := hS.env2 (e' := [(0, .slice Gw Gx.length Gy), (1, .int .i64 Gz), (2, .int .i64 GB), (3, yy 84 [] []), (8, .int .i64 GE), (9, .int .i64 Gv), (34, .bool (decide (GT < (0 : Int))))]) ⟨rfl, rfl, rfl, rfl, rfl, rfl, rfl, trivial⟩
      refine qd ?_
      exact Lc _ _ ⟨(decide (GT < (0 : Int))), hS.to [0, 1] (by kernel_rfl) ⟨rfl, rfl, rfl, rfl, rfl, rfl, rfl, trivial⟩, hM⟩
     ·refine za (vals := [some (.int .i64 Gv), some (.int .i64 Gz), some (.bool false), some (.bool false), some (undef), some (undef), some (undef), some (undef), some (undef), some (undef), some (undef), some (undef), some (undef), some (undef), some (undef), some (undef), some (.bool false)]) hS xp rfl ?_
      intro l w ho hcl hA hst
      refine x3 hA hst ho hcl xo [0, 1, 2, 3, 4, 5, 6, 7, 8, 9, 10, 11, 12, 13, 14, 15, 16] rfl rfl rfl (by exact ⟨nM rfl, nM rfl, nQ rfl (by exact qU (yU rfl rfl rfl) (congrArg Value.bool GV)), nM rfl, nS rfl rfl rfl rfl rfl rfl rfl rfl rfl, nS rfl rfl rfl rfl rfl rfl rfl rfl rfl, nS rfl rfl rfl rfl rfl rfl rfl rfl rfl, nS rfl rfl rfl rfl rfl rfl rfl rfl rfl, nS rfl rfl rfl rfl rfl rfl rfl rfl rfl, nS rfl rfl rfl rfl rfl rfl rfl rfl rfl, nS rfl rfl rfl rfl rfl rfl rfl rfl rfl, nS rfl rfl rfl rfl rfl rfl rfl rfl rfl, nS rfl rfl rfl rfl rfl rfl rfl rfl rfl, nS rfl rfl rfl rfl rfl rfl rfl rfl rfl, nS rfl rfl rfl rfl rfl rfl rfl rfl rfl, nS rfl rfl rfl rfl rfl rfl rfl rfl rfl, nQ rfl (by exact qU (pk rfl rfl rfl) rfl), trivial⟩) fun a w hS => ?_
      replace hS := hS.env2 (e' := [(0, .slice Gw Gx.length Gy), (1, .int .i64 Gz), (2, .int .i64 GB), (3, yy 84 [] []), (8, .int .i64 GE), (9, .int .i64 Gv), (34, .bool false)]) ⟨rfl, rfl, rfl, rfl, rfl, rfl, rfl, trivial⟩
      refine qd ?_
      exact Lc _ _ ⟨false, hS.to [0, 1] (by kernel_rfl) ⟨rfl, rfl, rfl, rfl, rfl, rfl, rfl, trivial⟩, hM⟩
    ·intro a w hI
     obtain ⟨Lb, hS, hM⟩ := hI
     rw [qi.j3] at hM
     refine qv hS rfl hM (fun Lw hM => ?_) (fun Lw hM => ?_)
     ·refine wp_skip ?_
      refine qd <| wp_seq <| xw ?_
      obtain ⟨GY, hM⟩ := qH hM
      obtain ⟨GJ, GK, Lx, Ly, Lz⟩ := GA.get GY
      obtain ⟨GL, hM⟩ := qH hM
      obtain ⟨GM, GN, LA, LB, LC⟩ := GA.get GL
      refine za (vals := [some (.slice Gw Gx.length Gy), some (.int .i64 Gv), some (.slice Gw Gx.length Gy), some (.int .i64 Gv), some (.int .i64 (qh (Gv - (1 : Int)))), some (.slice Gw Gx.length Gy), some (.int .i64 Gv), some (.int .i64 (qh (Gv - (1 : Int)))), some (xc Gw (Int.toNat (qh (Gv - (1 : Int))) * 2)), some (.agg ⟨[.int .i64 ((rd Gu (qh (Gv - (1 : Int)))).often_), .slice GJ ((rd Gu (qh (Gv - (1 : Int)))).symbols_).length GK]⟩), some (.slice Gw Gx.length Gy), some (.int .i64 Gv), some (xc Gw (Int.toNat Gv * 2)), some (.agg ⟨[.int .i64 ((rd Gu Gv).often_), .slice GM ((rd Gu Gv).symbols_).length GN]⟩), some (xc Gw (Int.toNat Gv * 2)), none, none, none]) hS xp rfl ?_
      intro l w ho hcl hA hst
      refine jn hA hst ho hcl xv xo 15 [0, 1, 2, 3, 4, 5, 6, 7, 8, 9, 10, 11, 12, 13, 14] rfl rfl rfl rfl rfl (by exact ⟨nM rfl, nM rfl, nM rfl, nM rfl, nB rfl, nM rfl, nM rfl, nB rfl, nQ rfl (by exact qU (xM rfl rfl Tryd.runUnderlying110 Tryd.sizeOf112 (GC.rd (i := 1) rfl) zv.len rfl (GA.inb GY)) rfl), nQ rfl (by exact qU (qU (yL rfl (GC.rd (i := 1) rfl) zv.len (GA.inb GY) Tryd.isAgg112 Tryd.sizeOf112 rfl) (congrArg (fun l => Value.agg ⟨l⟩) Lx)) rfl), nM rfl, nM rfl, nQ rfl (by exact qU (xM rfl rfl Tryd.runUnderlying110 Tryd.sizeOf112 (GC.rd (i := 1) rfl) zv.len rfl (GA.inb GL)) rfl), nQ rfl (by exact qU (qU (yL rfl (GC.rd (i := 1) rfl) zv.len (GA.inb GL) Tryd.isAgg112 Tryd.sizeOf112 rfl) (congrArg (fun l => Value.agg ⟨l⟩) LA)) rfl), nQ rfl (by exact qU (xM rfl rfl Tryd.runUnderlying110 Tryd.sizeOf112 (GC.rd (i := 1) rfl) zv.len rfl (GA.inb GL)) rfl), trivial⟩) fun D l a w ho hcl hav hpre hm hE hk hA hst => ?_
      have hS := (Ss.mk hE hst).env2 (e' := [(46, .agg ⟨[.int .i64 ((rd Gu (qh (Gv - (1 : Int)))).often_), .slice GJ ((rd Gu (qh (Gv - (1 : Int)))).symbols_).length GK]⟩), (51, xc Gw (Int.toNat Gv * 2))]) ⟨rfl, rfl, trivial⟩
      refine q7 rfl <| Qt (i := Gv) (sz := 2) 1 (⟨[.int .i64 ((rd Gu (qh (Gv - (1 : Int)))).often_), .slice GJ ((rd Gu (qh (Gv - (1 : Int)))).symbols_).length GK], by simp, by simp [Value.oneCell']⟩ : zv 2) hS rfl rfl GC rfl Tryd.sizeOf112 rfl (GA.inb GL) fun Ld w LQ hz Le hS => ?_
      obtain ⟨LD, hzm⟩ := jh (Gu.set (Int.toNat Gv) (qb.mk ((rd Gu (qh (Gv - (1 : Int)))).often_) ((rd Gu (qh (Gv - (1 : Int)))).symbols_)))
      replace hM := qC hzm hM
      have GP := zw.set (x := (qb.mk ((rd Gu (qh (Gv - (1 : Int)))).often_) ((rd Gu (qh (Gv - (1 : Int)))).symbols_))) (r := (⟨[.int .i64 ((rd Gu (qh (Gv - (1 : Int)))).often_), .slice GJ ((rd Gu (qh (Gv - (1 : Int)))).symbols_).length GK], by simp, by simp [Value.oneCell']⟩ : zv 2)) (Int.toNat Gv) GA (show qg GD _ _ from ⟨GJ, GK, rfl, Ly, Lz⟩)
      have GZ : Ld.length = Gx.length := by rw [hz]; exact List.length_set ..
      rw [← hz, ← hzm] at GP; clear hz hzm
      have LE := Eq.trans GZ La
      refine qF ?_
      replace hst := hS.st
      obtain ⟨Lf, hM⟩ := qH hM
      obtain ⟨hcl, hmust, hav2, hA⟩ := ZV (vals' := [some (.slice Gw Gx.length Gy), some (.int .i64 Gv), some (.slice Gw Gx.length Gy), some (.int .i64 Gv), some (.int .i64 (qh (Gv - (1 : Int)))), some (.slice Gw Gx.length Gy), some (.int .i64 Gv), some (.int .i64 (qh (Gv - (1 : Int)))), some (xc Gw (Int.toNat (qh (Gv - (1 : Int))) * 2)), some (.agg ⟨[.int .i64 ((rd Gu (qh (Gv - (1 : Int)))).often_), .slice GJ ((rd Gu (qh (Gv - (1 : Int)))).symbols_).length GK]⟩), some (.slice Gw Gx.length Gy), some (.int .i64 Gv), some (xc Gw (Int.toNat Gv * 2)), some (.agg ⟨[.int .i64 ((rd Gu Gv).often_), .slice GM ((rd Gu Gv).symbols_).length GN]⟩), some (xc Gw (Int.toNat Gv * 2)), some undef, some (xc Gw (Int.toNat (qh (Gv - (1 : Int))) * 2)), none]) 15 [(0, 15), (1, 15), (5, 15), (6, 15), (7, 15), (8, 15), (9, 15), (13, 15), (14, 15), (12, 13), (10, 12), (11, 12)] hA hcl hav hm hpre rfl rfl rfl rfl rfl
      clear hm hav
      refine jn hA hst ho hcl hav2 hmust 17 [2, 3, 4, 16] rfl rfl rfl rfl rfl (by exact ⟨nM rfl, nM rfl, nB rfl, nQ rfl (by exact qU (xM (Yw GZ rfl) rfl Tryd.runUnderlying110 Tryd.sizeOf112 (Le.rd (i := 1) rfl) zv.len rfl (GP.inb Lf)) rfl), trivial⟩) fun D l a w ho hcl hav hpre hm hE hk hA hst => ?_
      have hS := (Ss.mk hE hst).env2 (e' := [(50, .agg ⟨[.int .i64 ((rd Gu Gv).often_), .slice GM ((rd Gu Gv).symbols_).length GN]⟩), (52, xc Gw (Int.toNat (qh (Gv - (1 : Int))) * 2))]) ⟨rfl, rfl, trivial⟩
      refine q7 rfl <| Qt (i := (qh (Gv - (1 : Int)))) (sz := 2) 1 (⟨[.int .i64 ((rd Gu Gv).often_), .slice GM ((rd Gu Gv).symbols_).length GN], by simp, by simp [Value.oneCell']⟩ : zv 2) hS rfl rfl Le rfl Tryd.sizeOf112 rfl (GP.inb Lf) fun G0 w LJ hz LF hS => ?_
      obtain ⟨LG, hzm⟩ := jh (LD.set (Int.toNat (qh (Gv - (1 : Int)))) (qb.mk ((rd Gu Gv).often_) ((rd Gu Gv).symbols_)))
      replace hM := qC hzm hM
      have Lg := zw.set (x := (qb.mk ((rd Gu Gv).often_) ((rd Gu Gv).symbols_))) (r := (⟨[.int .i64 ((rd Gu Gv).often_), .slice GM ((rd Gu Gv).symbols_).length GN], by simp, by simp [Value.oneCell']⟩ : zv 2)) (Int.toNat (qh (Gv - (1 : Int)))) GP (show qg GD _ _ from ⟨GM, GN, rfl, LB, LC⟩)
      have Lh : G0.length = Ld.length := by rw [hz]; exact List.length_set ..
      rw [← hz, ← hzm] at Lg; clear hz hzm
      have LH := Eq.trans Lh LE
      refine qF ?_
      replace hst := hS.st
      obtain ⟨hcl, hmust, hav2, hA⟩ := ZV (vals' := [some (.slice Gw Gx.length Gy), some (.int .i64 Gv), some (.slice Gw Gx.length Gy), some (.int .i64 Gv), some (.int .i64 (qh (Gv - (1 : Int)))), some (.slice Gw Gx.length Gy), some (.int .i64 Gv), some (.int .i64 (qh (Gv - (1 : Int)))), some (xc Gw (Int.toNat (qh (Gv - (1 : Int))) * 2)), some (.agg ⟨[.int .i64 ((rd Gu (qh (Gv - (1 : Int)))).often_), .slice GJ ((rd Gu (qh (Gv - (1 : Int)))).symbols_).length GK]⟩), some (.slice Gw Gx.length Gy), some (.int .i64 Gv), some (xc Gw (Int.toNat Gv * 2)), some (.agg ⟨[.int .i64 ((rd Gu Gv).often_), .slice GM ((rd Gu Gv).symbols_).length GN]⟩), some (xc Gw (Int.toNat Gv * 2)), some undef, some (xc Gw (Int.toNat (qh (Gv - (1 : Int))) * 2)), some undef]) 17 [(0, 17), (1, 17), (2, 17), (3, 17), (4, 17), (5, 17), (6, 17), (7, 17), (8, 17), (9, 17), (10, 17), (11, 17), (12, 17), (13, 17), (14, 17), (15, 17), (16, 17)] hA hcl hav hm hpre rfl rfl rfl rfl rfl
      clear hm hav
      refine x3 hA hst ho hcl hmust [] rfl rfl rfl trivial fun a w hS => ?_
      replace hS := hS.env2 (e' := [(0, .slice Gw G0.length Gy), (1, .int .i64 Gz), (2, .int .i64 GB), (3, yy 84 [] []), (8, .int .i64 GE), (9, .int .i64 Gv)]) ⟨(YT (u := .slice Gw Gx.length Gy) rfl (by rw [Lh, GZ])), rfl, rfl, rfl, rfl, rfl, trivial⟩
      refine zr (qd ?_)
      refine zB <| sM hS rfl fun hS => sB hS rfl fun hS => zz (v := Value.int .i64) (x0 := (qh (Gv - (1 : Int)))) hS (xj rfl) rfl fun LK a w hz hS => ?_
      have hM := qC hz hM; clear hz
      refine zc <| qd ?_
      exact Lo _ _ ⟨G0, LG, LJ, LK, hS.to [0, 1] (by kernel_rfl) ⟨rfl, rfl, rfl, rfl, rfl, rfl, trivial⟩, LF, Lg, LH, hM⟩
     ·refine wp_exit ?_
      refine qB (qB (qY (zr (qd ?_))))
      refine zB <| sM hS rfl fun hS => sB hS rfl fun hS => zz (v := Value.int .i64) (x0 := (qh (GE + (1 : Int)))) hS (xj rfl) rfl fun LL a w hz hS => ?_
      have hM := qC hz hM; clear hz
      refine zc <| qd ?_
      exact Lm _ _ ⟨Gx, Gu, GO, LL, hS.to [0, 1] (by kernel_rfl) ⟨rfl, rfl, rfl, rfl, rfl, trivial⟩, GC, GA, La, hM⟩
  ·refine wp_exit ?_
   refine qB (qB (qY ?_))
   exact y4 (rs := []) hS rfl rfl (hret GH GG GS _ (qV hM) G6 G7 G8 (hS.st.pick [0, 1] (by kernel_rfl)))
theorem xl {H : xR} {F : List qq} {w : World} {R : Ending → World → Prop} {kr : (List qb) → Prop} {kp : Value → Prop} (hG : Gl H) (K : Nat) (GF : List qb) (Gw : Int) (Gx : Int) (GG : Int) (GD : qq) (Gy : Option Addr) (GA : Nat) (GC : List (zv 2)) (GT : qq) (G2 : zw (qg GD) GF GC) (G3 : xa 112 (zv.v (sz := 2)) 2 Gy GC GA GT)
    (hS : St w H [GD, GT] F) (hm : (qZ.m K GF Gw Gx GG).wp kr kp)
    (hret : ∀ (GO : List (zv 2)) (GN : (List qb)) (G0 : qq) (w : World), kr GN → (xa 112 (zv.v (sz := 2)) 2 Gy GO GA G0) → (zw (qg GD) GN GO) → (GO.length = GC.length) → St w H [GD, G0] F → R (.returned (.tuple ⟨[]⟩)) w) :
    Calls Tryd.prog 109 ⟨[.slice Gy GC.length GA, .int .i64 Gw, .int .i64 Gx, .int .i64 GG, yy 84 [] []]⟩ w R := by
 refine enter Tryd.func109 rfl Tryd.ntmps109 rfl hS fun a w hS => ?_
 have hM := hm; clear hm
 rw [qZ.m] at hM
 have Lk : ∀ q ∈ GD, q ∈ GD := fun _ h => h
 have G4 : GC.length = GC.length := rfl
 refine qp <| sA hS rfl fun hS => qF <| xw <| zk (fun G1 a w => ∃ (Gz : List (zv 2)) (Gv : (List qb)) (GS : qq) (Gu : Int), Ss 38 [] [(0, .slice Gy Gz.length GA), (1, .int .i64 Gw), (2, .int .i64 Gx), (3, .int .i64 GG), (10, .int .i64 Gu)] H [GD, GS] F a w ∧ (xa 112 (zv.v (sz := 2)) 2 Gy Gz GA GS) ∧ (zw (qg GD) Gv Gz) ∧ (Gz.length = GC.length) ∧ (qZ.l1 K Gw Gx GG G1 Gv Gu).wp kr kp) K ?_ ?_ ?_
 ·exact ⟨GC, GF, GT, (0 : Int), hS.to [0, 1] (by kernel_rfl) ⟨rfl, rfl, rfl, rfl, rfl, trivial⟩, G3, G2, G4, hM⟩
 ·intro a w hI; obtain ⟨_, _, _, _, _, _, _, _, hM⟩ := hI; exact zj hM
 ·intro G1 a w hI Ll G5
  obtain ⟨Gz, Gv, GS, Gu, hS, GE, GB, GU, hM⟩ := hI
  rw [qZ.l1] at hM
  refine wp_seq <| qp <| sM hS rfl fun hS => sM hS rfl fun hS => sB hS rfl fun hS => qF <| qv hS rfl hM (fun G6 hM => ?_) (fun G6 hM => ?_)
  ·refine wp_skip ?_
   refine qd <| wp_seq <| xw ?_
   obtain ⟨GP, hM⟩ := qH hM
   obtain ⟨GH, GI, G7, G8, G9⟩ := GB.get GP
   obtain ⟨GJ, hM⟩ := qH hM
   obtain ⟨GK, GL, La, Lb, Lc⟩ := GB.get GJ
   refine za (vals := [some (.slice Gy Gz.length GA), some (.int .i64 Gw), some (.int .i64 Gu), some (.int .i64 (qh (Gw + Gu))), some (.slice Gy Gz.length GA), some (.int .i64 Gx), some (.int .i64 Gu), some (.int .i64 (qh (Gx + Gu))), some (.slice Gy Gz.length GA), some (.int .i64 Gx), some (.int .i64 Gu), some (.int .i64 (qh (Gx + Gu))), some (xc Gy (Int.toNat (qh (Gx + Gu)) * 2)), some (.agg ⟨[.int .i64 ((rd Gv (qh (Gx + Gu))).often_), .slice GH ((rd Gv (qh (Gx + Gu))).symbols_).length GI]⟩), some (.slice Gy Gz.length GA), some (.int .i64 Gw), some (.int .i64 Gu), some (.int .i64 (qh (Gw + Gu))), some (xc Gy (Int.toNat (qh (Gw + Gu)) * 2)), some (.agg ⟨[.int .i64 ((rd Gv (qh (Gw + Gu))).often_), .slice GK ((rd Gv (qh (Gw + Gu))).symbols_).length GL]⟩), some (xc Gy (Int.toNat (qh (Gw + Gu)) * 2)), none, none, none]) hS xp rfl ?_
   intro l w ho hcl hA hst
   refine jn hA hst ho hcl xv xo 21 [0, 1, 2, 3, 4, 5, 6, 7, 8, 9, 10, 11, 12, 13, 14, 15, 16, 17, 18, 19, 20] rfl rfl rfl rfl rfl (by exact ⟨nM rfl, nM rfl, nM rfl, nB rfl, nM rfl, nM rfl, nM rfl, nB rfl, nM rfl, nM rfl, nM rfl, nB rfl, nQ rfl (by exact qU (xM rfl rfl Tryd.runUnderlying110 Tryd.sizeOf112 (GE.rd (i := 1) rfl) zv.len rfl (GB.inb GP)) rfl), nQ rfl (by exact qU (qU (yL rfl (GE.rd (i := 1) rfl) zv.len (GB.inb GP) Tryd.isAgg112 Tryd.sizeOf112 rfl) (congrArg (fun l => Value.agg ⟨l⟩) G7)) rfl), nM rfl, nM rfl, nM rfl, nB rfl, nQ rfl (by exact qU (xM rfl rfl Tryd.runUnderlying110 Tryd.sizeOf112 (GE.rd (i := 1) rfl) zv.len rfl (GB.inb GJ)) rfl), nQ rfl (by exact qU (qU (yL rfl (GE.rd (i := 1) rfl) zv.len (GB.inb GJ) Tryd.isAgg112 Tryd.sizeOf112 rfl) (congrArg (fun l => Value.agg ⟨l⟩) La)) rfl), nQ rfl (by exact qU (xM rfl rfl Tryd.runUnderlying110 Tryd.sizeOf112 (GE.rd (i := 1) rfl) zv.len rfl (GB.inb GJ)) rfl), trivial⟩) fun D l a w ho hcl hav hpre hm hE hk hA hst => ?_
   have hS := (Ss.mk hE hst).env2 (e' := [(29, .agg ⟨[.int .i64 ((rd Gv (qh (Gx + Gu))).often_), .slice GH ((rd Gv (qh (Gx + Gu))).symbols_).length GI]⟩), (36, xc Gy (Int.toNat (qh (Gw + Gu)) * 2))]) ⟨rfl, rfl, trivial⟩
   refine q7 rfl <| Qt (i := (qh (Gw + Gu))) (sz := 2) 1 (⟨[.int .i64 ((rd Gv (qh (Gx + Gu))).often_), .slice GH ((rd Gv (qh (Gx + Gu))).symbols_).length GI], by simp, by simp [Value.oneCell']⟩ : zv 2) hS rfl rfl GE rfl Tryd.sizeOf112 rfl (GB.inb GJ) fun GV w Lm hz GW hS => ?_
   obtain ⟨Ld, hzm⟩ := jh (Gv.set (Int.toNat (qh (Gw + Gu))) (qb.mk ((rd Gv (qh (Gx + Gu))).often_) ((rd Gv (qh (Gx + Gu))).symbols_)))
   replace hM := qC hzm hM
   have GM := zw.set (x := (qb.mk ((rd Gv (qh (Gx + Gu))).often_) ((rd Gv (qh (Gx + Gu))).symbols_))) (r := (⟨[.int .i64 ((rd Gv (qh (Gx + Gu))).often_), .slice GH ((rd Gv (qh (Gx + Gu))).symbols_).length GI], by simp, by simp [Value.oneCell']⟩ : zv 2)) (Int.toNat (qh (Gw + Gu))) GB (show qg GD _ _ from ⟨GH, GI, rfl, G8, G9⟩)
   have GQ : GV.length = Gz.length := by rw [hz]; exact List.length_set ..
   rw [← hz, ← hzm] at GM; clear hz hzm
   have Le := Eq.trans GQ GU
   refine qF ?_
   replace hst := hS.st
   obtain ⟨GX, hM⟩ := qH hM
   obtain ⟨hcl, hmust, hav2, hA⟩ := ZV (vals' := [some (.slice Gy Gz.length GA), some (.int .i64 Gw), some (.int .i64 Gu), some (.int .i64 (qh (Gw + Gu))), some (.slice Gy Gz.length GA), some (.int .i64 Gx), some (.int .i64 Gu), some (.int .i64 (qh (Gx + Gu))), some (.slice Gy Gz.length GA), some (.int .i64 Gx), some (.int .i64 Gu), some (.int .i64 (qh (Gx + Gu))), some (xc Gy (Int.toNat (qh (Gx + Gu)) * 2)), some (.agg ⟨[.int .i64 ((rd Gv (qh (Gx + Gu))).often_), .slice GH ((rd Gv (qh (Gx + Gu))).symbols_).length GI]⟩), some (.slice Gy Gz.length GA), some (.int .i64 Gw), some (.int .i64 Gu), some (.int .i64 (qh (Gw + Gu))), some (xc Gy (Int.toNat (qh (Gw + Gu)) * 2)), some (.agg ⟨[.int .i64 ((rd Gv (qh (Gw + Gu))).often_), .slice GK ((rd Gv (qh (Gw + Gu))).symbols_).length GL]⟩), some (xc Gy (Int.toNat (qh (Gw + Gu)) * 2)), some undef, some (xc Gy (Int.toNat (qh (Gx + Gu)) * 2)), none]) 21 [(0, 21), (1, 21), (2, 21), (3, 21), (8, 21), (9, 21), (10, 21), (11, 21), (12, 21), (13, 21), (19, 21), (20, 21), (18, 19), (14, 18), (17, 18), (15, 17), (16, 17)] hA hcl hav hm hpre rfl rfl rfl rfl rfl
   clear hm hav
   refine jn hA hst ho hcl hav2 hmust 23 [4, 5, 6, 7, 22] rfl rfl rfl rfl rfl (by exact ⟨nM rfl, nM rfl, nM rfl, nB rfl, nQ rfl (by exact qU (xM (Yw GQ rfl) rfl Tryd.runUnderlying110 Tryd.sizeOf112 (GW.rd (i := 1) rfl) zv.len rfl (GM.inb GX)) rfl), trivial⟩) fun D l a w ho hcl hav hpre hm hE hk hA hst => ?_
   have hS := (Ss.mk hE hst).env2 (e' := [(35, .agg ⟨[.int .i64 ((rd Gv (qh (Gw + Gu))).often_), .slice GK ((rd Gv (qh (Gw + Gu))).symbols_).length GL]⟩), (37, xc Gy (Int.toNat (qh (Gx + Gu)) * 2))]) ⟨rfl, rfl, trivial⟩
   refine q7 rfl <| Qt (i := (qh (Gx + Gu))) (sz := 2) 1 (⟨[.int .i64 ((rd Gv (qh (Gw + Gu))).often_), .slice GK ((rd Gv (qh (Gw + Gu))).symbols_).length GL], by simp, by simp [Value.oneCell']⟩ : zv 2) hS rfl rfl GW rfl Tryd.sizeOf112 rfl (GM.inb GX) fun GR w Li hz Lf hS => ?_
   obtain ⟨Lg, hzm⟩ := jh (Ld.set (Int.toNat (qh (Gx + Gu))) (qb.mk ((rd Gv (qh (Gw + Gu))).often_) ((rd Gv (qh (Gw + Gu))).symbols_)))
   replace hM := qC hzm hM
   have GY := zw.set (x := (qb.mk ((rd Gv (qh (Gw + Gu))).often_) ((rd Gv (qh (Gw + Gu))).symbols_))) (r := (⟨[.int .i64 ((rd Gv (qh (Gw + Gu))).often_), .slice GK ((rd Gv (qh (Gw + Gu))).symbols_).length GL], by simp, by simp [Value.oneCell']⟩ : zv 2)) (Int.toNat (qh (Gx + Gu))) GM (show qg GD _ _ from ⟨GK, GL, rfl, Lb, Lc⟩)
   have GZ : GR.length = GV.length := by rw [hz]; exact List.length_set ..
   rw [← hz, ← hzm] at GY; clear hz hzm
   have Lh := Eq.trans GZ Le
   refine qF ?_
   replace hst := hS.st
   obtain ⟨hcl, hmust, hav2, hA⟩ := ZV (vals' := [some (.slice Gy Gz.length GA), some (.int .i64 Gw), some (.int .i64 Gu), some (.int .i64 (qh (Gw + Gu))), some (.slice Gy Gz.length GA), some (.int .i64 Gx), some (.int .i64 Gu), some (.int .i64 (qh (Gx + Gu))), some (.slice Gy Gz.length GA), some (.int .i64 Gx), some (.int .i64 Gu), some (.int .i64 (qh (Gx + Gu))), some (xc Gy (Int.toNat (qh (Gx + Gu)) * 2)), some (.agg ⟨[.int .i64 ((rd Gv (qh (Gx + Gu))).often_), .slice GH ((rd Gv (qh (Gx + Gu))).symbols_).length GI]⟩), some (.slice Gy Gz.length GA), some (.int .i64 Gw), some (.int .i64 Gu), some (.int .i64 (qh (Gw + Gu))), some (xc Gy (Int.toNat (qh (Gw + Gu)) * 2)), some (.agg ⟨[.int .i64 ((rd Gv (qh (Gw + Gu))).often_), .slice GK ((rd Gv (qh (Gw + Gu))).symbols_).length GL]⟩), some (xc Gy (Int.toNat (qh (Gw + Gu)) * 2)), some undef, some (xc Gy (Int.toNat (qh (Gx + Gu)) * 2)), some undef]) 23 [(0, 23), (1, 23), (2, 23), (3, 23), (4, 23), (5, 23), (6, 23), (7, 23), (8, 23), (9, 23), (10, 23), (11, 23), (12, 23), (13, 23), (14, 23), (15, 23), (16, 23), (17, 23), (18, 23), (19, 23), (20, 23), (21, 23), (22, 23)] hA hcl hav hm hpre rfl rfl rfl rfl rfl
   clear hm hav
   refine x3 hA hst ho hcl hmust [] rfl rfl rfl trivial fun a w hS => ?_
   replace hS := hS.env2 (e' := [(0, .slice Gy GR.length GA), (1, .int .i64 Gw), (2, .int .i64 Gx), (3, .int .i64 GG), (10, .int .i64 Gu)]) ⟨(YT (u := .slice Gy Gz.length GA) rfl (by rw [GZ, GQ])), rfl, rfl, rfl, rfl, trivial⟩
   refine zr (qd ?_)
   refine zB <| sM hS rfl fun hS => sB hS rfl fun hS => zz (v := Value.int .i64) (x0 := (qh (Gu + (1 : Int)))) hS (xj rfl) rfl fun Lj a w hz hS => ?_
   have hM := qC hz hM; clear hz
   refine zc <| qd ?_
   exact G5 _ _ ⟨GR, Lg, Li, Lj, hS.to [0, 1] (by kernel_rfl) ⟨rfl, rfl, rfl, rfl, rfl, trivial⟩, Lf, GY, Lh, hM⟩
  ·refine wp_exit ?_
   refine qB (qB (qY ?_))
   exact y4 (rs := []) hS rfl rfl (hret Gz Gv GS _ (qV hM) GE GB GU (hS.st.pick [0, 1] (by kernel_rfl)))
theorem yD {H : xR} {F : List qq} {w : World} {R : Ending → World → Prop} {kr : (List qb) → Prop} {kp : Value → Prop} (hG : Gl H) (K : Nat) (GF : List qb) (GJ : Int) (Gy : Int) (GK : Int) (Gx : qq) (Gu : Option Addr) (Gv : Nat) (GA : List (zv 2)) (GT : qq) (G6 : zw (qg Gx) GF GA) (G7 : xa 112 (zv.v (sz := 2)) 2 Gu GA Gv GT)
    (hS : St w H [Gx, GT] F) (hm : (qQ.m K GF GJ Gy GK).wp kr kp)
    (hret : ∀ (GL : List (zv 2)) (GH : (List qb)) (G1 : qq) (w : World), kr GH → (xa 112 (zv.v (sz := 2)) 2 Gu GL Gv G1) → (zw (qg Gx) GH GL) → (GL.length = GA.length) → St w H [Gx, G1] F → R (.returned (.tuple ⟨[]⟩)) w) :
    Calls Tryd.prog 108 ⟨[.slice Gu GA.length Gv, .int .i64 GJ, .int .i64 Gy, .int .i64 GK, yy 84 [] []]⟩ w R := by
 refine enter Tryd.func108 rfl Tryd.ntmps108 rfl hS fun a w hS => ?_
 have hM := hm; clear hm
 rw [qQ.m] at hM
 have Lt : ∀ q ∈ Gx, q ∈ Gx := fun _ h => h
 have G8 : GA.length = GA.length := rfl
 refine qp <| sM hS rfl fun hS => sM hS rfl fun hS => sB hS rfl fun hS => zz (v := Value.int .i64) (x0 := (qh (Gy - GJ))) hS (xj rfl) rfl fun Li a w hz hS => ?_
 have hM := qC hz hM; clear hz
 refine qF <| qp <| sM hS rfl fun hS => sM hS rfl fun hS => sB hS rfl fun hS => zz (v := Value.int .i64) (x0 := (qh (GK - Gy))) hS (xj rfl) rfl fun Lj a w hz hS => ?_
 have hM := qC hz hM; clear hz
 refine qF <| zg (fun a w => ∃ (GB : List (zv 2)) (GD : (List qb)) (GS : qq) (GI : Int), Ss 58 [] [(0, .slice Gu GB.length Gv), (2, .int .i64 Gy), (4, yy 84 [] []), (10, .int .i64 GI)] H [Gx, GS] F a w ∧ (xa 112 (zv.v (sz := 2)) 2 Gu GB Gv GS) ∧ (zw (qg Gx) GD GB) ∧ (GB.length = GA.length) ∧ (qQ.j2 K Gy GD GI).wp kr kp) (fun Lu G9 => ?_) ?_
 ·refine xw ?_
  refine zk (fun G2 a w => ∃ (Gw : List (zv 2)) (Gz : (List qb)) (GG : qq) (GC : Int) (GE : Int), Ss 58 [] [(0, .slice Gu Gw.length Gv), (2, .int .i64 Gy), (4, yy 84 [] []), (10, .int .i64 GC), (11, .int .i64 GE)] H [Gx, GG] F a w ∧ (xa 112 (zv.v (sz := 2)) 2 Gu Gw Gv GG) ∧ (zw (qg Gx) Gz Gw) ∧ (Gw.length = GA.length) ∧ (qQ.l1 K Gy G2 Gz GC GE).wp kr kp) K ?_ ?_ ?_
  ·exact ⟨GA, GF, GT, Li, Lj, hS.to [0, 1] (by kernel_rfl) ⟨rfl, rfl, rfl, rfl, rfl, trivial⟩, G7, G6, G8, hM⟩
  ·intro a w hI; obtain ⟨_, _, _, _, _, _, _, _, _, hM⟩ := hI; exact zj hM
  ·intro G2 a w hI Lv GU
   obtain ⟨Gw, Gz, GG, GC, GE, hS, GM, GN, GO, hM⟩ := hI
   rw [qQ.l1] at hM
   refine wp_seq <| qp <| sM hS rfl fun hS => sM hS rfl fun hS => sB hS rfl fun hS => qF <| qv hS rfl hM (fun La hM => ?_) (fun La hM => ?_)
   ·refine wp_skip ?_
    refine qd <| xw <| qp <| sM hS rfl fun hS => sM hS rfl fun hS => sB hS rfl fun hS => qF <| qv hS rfl hM (fun Lb hM => ?_) (fun Lb hM => ?_)
    ·refine wp_seq ?_
     refine zB <| sM hS rfl fun hS => sM hS rfl fun hS => sM hS rfl fun hS => sB hS rfl fun hS => sM hS rfl fun hS => sM hS rfl fun hS => sM hS rfl fun hS => qO hS rfl Tryd.call109 (xl hG K Gz (qh (Gy - GC)) Gy GE Gx Gu Gv Gw GG GN GM (hS.st.part 2 [0, 1] (by kernel_rfl)) (qE hM) (fun GP GV G3 w hM Lk Ll GW hst => qL hS.ev hst.appF rfl fun hS => ?_))
     replace hS : Ss _ _ _ H [Gx, G3] F _ _ := hS
     have Lc := Eq.trans GW GO
     replace hS := hS.re 0 (u := .slice Gu Gw.length Gv) (v := .slice Gu GP.length Gv) rfl (by rw [GW])
     replace hS := hS.re 24 (u := .slice Gu Gw.length Gv) (v := .slice Gu GP.length Gv) rfl (by rw [GW])
     refine qF <| zB <| sM hS rfl fun hS => sM hS rfl fun hS => sB hS rfl fun hS => zz (v := Value.int .i64) (x0 := (qh (GC - GE))) hS (xj rfl) rfl fun Lm a w hz hS => ?_
     have hM := qC hz hM; clear hz
     refine zc <| zr (qd ?_)
     exact GU _ _ ⟨GP, GV, G3, Lm, GE, hS.to [0, 1] (by kernel_rfl) ⟨rfl, rfl, rfl, rfl, rfl, trivial⟩, Lk, Ll, Lc, hM⟩
    ·refine wp_seq ?_
     refine zB <| sM hS rfl fun hS => sM hS rfl fun hS => sM hS rfl fun hS => sB hS rfl fun hS => sM hS rfl fun hS => sM hS rfl fun hS => sB hS rfl fun hS => sM hS rfl fun hS => sB hS rfl fun hS => sM hS rfl fun hS => sM hS rfl fun hS => qO hS rfl Tryd.call109 (xl hG K Gz (qh (Gy - GC)) (qh ((qh (Gy + GE)) - GC)) GC Gx Gu Gv Gw GG GN GM (hS.st.part 2 [0, 1] (by kernel_rfl)) (qE hM) (fun GQ GX G4 w hM Ln Lo GY hst => qL hS.ev hst.appF rfl fun hS => ?_))
     replace hS : Ss _ _ _ H [Gx, G4] F _ _ := hS
     have Ld := Eq.trans GY GO
     replace hS := hS.re 0 (u := .slice Gu Gw.length Gv) (v := .slice Gu GQ.length Gv) rfl (by rw [GY])
     replace hS := hS.re 35 (u := .slice Gu Gw.length Gv) (v := .slice Gu GQ.length Gv) rfl (by rw [GY])
     refine qF <| zB <| sM hS rfl fun hS => sM hS rfl fun hS => sB hS rfl fun hS => zz (v := Value.int .i64) (x0 := (qh (GE - GC))) hS (xj rfl) rfl fun Lp a w hz hS => ?_
     have hM := qC hz hM; clear hz
     refine zc <| zr (qd ?_)
     exact GU _ _ ⟨GQ, GX, G4, GC, Lp, hS.to [0, 1] (by kernel_rfl) ⟨rfl, rfl, rfl, rfl, rfl, trivial⟩, Ln, Lo, Ld, hM⟩
   ·refine wp_exit ?_
    refine qB (qB (qY (qd ?_)))
    exact G9 _ _ ⟨Gw, Gz, GG, GC, hS.to [0, 1] (by kernel_rfl) ⟨rfl, rfl, rfl, rfl, trivial⟩, GM, GN, GO, hM⟩
 ·intro a w hI
  obtain ⟨GB, GD, GS, GI, hS, Le, Lf, Lg, hM⟩ := hI
  rw [qQ.j2] at hM
  refine zB <| sM hS rfl fun hS => sM hS rfl fun hS => sM hS rfl fun hS => sB hS rfl fun hS => sM hS rfl fun hS => sM hS rfl fun hS => sM hS rfl fun hS => qO hS rfl Tryd.call109 (xl hG K GD (qh (Gy - GI)) Gy GI Gx Gu Gv GB GS Lf Le (hS.st.part 2 [0, 1] (by kernel_rfl)) (qE hM) (fun GR GZ G5 w hM Lq Lr G0 hst => qL hS.ev hst.appF rfl fun hS => ?_))
  replace hS : Ss _ _ _ H [Gx, G5] F _ _ := hS
  have Lh := Eq.trans G0 Lg
  replace hS := hS.re 0 (u := .slice Gu GB.length Gv) (v := .slice Gu GR.length Gv) rfl (by rw [G0])
  replace hS := hS.re 50 (u := .slice Gu GB.length Gv) (v := .slice Gu GR.length Gv) rfl (by rw [G0])
  refine zc ?_
  exact y4 (rs := []) hS rfl rfl (hret GR GZ G5 _ (qV hM) Lq Lr Lh (hS.st.pick [0, 1] (by kernel_rfl)))
end Go.TrydS

