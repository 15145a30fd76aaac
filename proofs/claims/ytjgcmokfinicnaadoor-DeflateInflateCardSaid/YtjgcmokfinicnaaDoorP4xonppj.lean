/- Printed by a program of mine: each Go function answers what its model answers; conditions: what each theorem asks of memory. -/
import Derived.Test.YtjgcmokfinicnaaDoorP3xpkbpe
set_option linter.unusedVariables false
set_option linter.unusedSimpArgs false
set_option maxRecDepth 100000
namespace Go.TrydS
open Go Go.Sl Go.Mo Go.Proofs
attribute [local irreducible] qS.wp
theorem v5 {H : xT} {F : List qp} {w : World} {R : Ending → World → Prop} {kr : Unit → Prop} {kp : Value → Prop} (hG : Gl H) (K : Nat) (LF : xp) (LG : Int) (LH : Nat) (LK : qp) (LN : Nat) (LL : qp) (LI : xO LK LH ([xS LF.text_, .map (some LN)]) 90) (LT : Xw (UY .u8) (UV 3) 3 (ci .i64) 1 LN LF.seen_ LL)
    (hS : St w H [LK, LL] F) (hm : (yE.m K LF LG).wp kr kp)
    (hret : ∀ (w : World), kr () → St w H [LK, LL] F → R (.returned (.agg ⟨([((rd LF.text_ LG).toNat : Int), ((rd LF.text_ (qh (LG + (1 : Int)))).toNat : Int), ((rd LF.text_ (qh (LG + (2 : Int)))).toNat : Int)] : List Int).flatMap (ci .u8)⟩)) w) :
    Calls Tryd.prog 66 ⟨[qO LH 0, .int .i64 LG]⟩ w R := by
 refine enter Tryd.func66 rfl Tryd.ntmps66 rfl hS fun a w hS => ?_
 have hM := hm; clear hm
 rw [yE.m] at hM
 refine qr <| QP ((List.replicate 3 (0 : Int)).flatMap (ci .u8)) hS Tryd.zeroValue126 rfl rfl fun w LM LU LO hS => qJ <| wp_seq ?_
 obtain ⟨LP, hM⟩ := qH hM
 obtain ⟨LQ, hM⟩ := qH hM
 obtain ⟨LR, hM⟩ := qH hM
 refine q8 (vals := [some (qO LH 0), some (qO LH 0), some (qO LH 0), some (xS LF.text_), some (.int .i64 LG), some (.int .u8 ((rd LF.text_ LG).toNat : Int)), some (qO LH 0), some (qO LH 0), some (qO LH 0), some (xS LF.text_), some (.int .i64 LG), some (.int .i64 (qh (LG + (1 : Int)))), some (.int .u8 ((rd LF.text_ (qh (LG + (1 : Int)))).toNat : Int)), some (qO LH 0), some (qO LH 0), some (qO LH 0), some (xS LF.text_), some (.int .i64 LG), some (.int .i64 (qh (LG + (2 : Int)))), some (.int .u8 ((rd LF.text_ (qh (LG + (2 : Int)))).toNat : Int)), some (.agg ⟨([((rd LF.text_ LG).toNat : Int), ((rd LF.text_ (qh (LG + (1 : Int)))).toNat : Int), ((rd LF.text_ (qh (LG + (2 : Int)))).toNat : Int)] : List Int).flatMap (ci .u8)⟩), none]) hS xw rfl ?_
 intro l w ho hcl hA hst
 refine yV hA hst ho hcl xk xx 21 [0, 1, 2, 3, 4, 5, 6, 7, 8, 9, 10, 11, 12, 13, 14, 15, 16, 17, 18, 19, 20] rfl rfl rfl rfl rfl (by exact ⟨nM rfl, nQ rfl (by exact qV (yv rfl) rfl), nQ rfl (by exact qV (xz rfl Tryd.runUnderlying90 rfl Tryd.sizeOf9 rfl) rfl), nQ rfl (by exact qV (ye 1 rfl LI rfl rfl Tryd.isAgg9) rfl), nM rfl, nQ rfl (by exact qV (Kf rfl rfl Tryd.runUnderlying9 LP) rfl), nM rfl, nQ rfl (by exact qV (yv rfl) rfl), nQ rfl (by exact qV (xz rfl Tryd.runUnderlying90 rfl Tryd.sizeOf9 rfl) rfl), nQ rfl (by exact qV (ye 1 rfl LI rfl rfl Tryd.isAgg9) rfl), nM rfl, nB rfl, nQ rfl (by exact qV (Kf rfl rfl Tryd.runUnderlying9 LQ) rfl), nM rfl, nQ rfl (by exact qV (yv rfl) rfl), nQ rfl (by exact qV (xz rfl Tryd.runUnderlying90 rfl Tryd.sizeOf9 rfl) rfl), nQ rfl (by exact qV (ye 1 rfl LI rfl rfl Tryd.isAgg9) rfl), nM rfl, nB rfl, nQ rfl (by exact qV (Kf rfl rfl Tryd.runUnderlying9 LR) rfl), nQ rfl (by exact qV (K9 (([((rd LF.text_ LG).toNat : Int), ((rd LF.text_ (qh (LG + (1 : Int)))).toNat : Int), ((rd LF.text_ (qh (LG + (2 : Int)))).toNat : Int)] : List Int).flatMap (ci .u8)) Tryd.zeroValue126 Tryd.runUnderlying126 Tryd.sizeOf5 rfl (by kernel_rfl)) rfl), trivial⟩) fun D l a w ho hcl hav hpre hm hE hk hA hst => ?_
 have hS := (Ss.mk hE hst).env2 (e' := [(4, qO LM 0), (25, .agg ⟨([((rd LF.text_ LG).toNat : Int), ((rd LF.text_ (qh (LG + (1 : Int)))).toNat : Int), ((rd LF.text_ (qh (LG + (2 : Int)))).toNat : Int)] : List Int).flatMap (ci .u8)⟩)]) ⟨rfl, rfl, trivial⟩
 refine qR rfl <| X6 (xs := (List.replicate 3 (0 : Int))) (ys := ([((rd LF.text_ LG).toNat : Int), ((rd LF.text_ (qh (LG + (1 : Int)))).toNat : Int), ((rd LF.text_ (qh (LG + (2 : Int)))).toNat : Int)] : List Int)) (g := (ci .u8)) (pre := []) (post := []) 0 hS rfl rfl LO rfl (by simp) rfl (xh (g := (ci .u8)) (sz := 1) (fun _ => rfl) (List.length_replicate ..)) (xh (g := (ci .u8)) (sz := 1) (fun _ => rfl) rfl) (QZ) Tryd.sizeOf126 fun w LS LJ hS => ?_
 replace LJ : xO LS LM (([((rd LF.text_ LG).toNat : Int), ((rd LF.text_ (qh (LG + (1 : Int)))).toNat : Int), ((rd LF.text_ (qh (LG + (2 : Int)))).toNat : Int)] : List Int).flatMap (ci .u8)) 126 := by simpa using LJ
 refine qJ ?_
 replace hst := hS.st
 obtain ⟨hcl, hmust, hav2, hA⟩ := Zd (vals' := [some (qO LH 0), some (qO LH 0), some (qO LH 0), some (xS LF.text_), some (.int .i64 LG), some (.int .u8 ((rd LF.text_ LG).toNat : Int)), some (qO LH 0), some (qO LH 0), some (qO LH 0), some (xS LF.text_), some (.int .i64 LG), some (.int .i64 (qh (LG + (1 : Int)))), some (.int .u8 ((rd LF.text_ (qh (LG + (1 : Int)))).toNat : Int)), some (qO LH 0), some (qO LH 0), some (qO LH 0), some (xS LF.text_), some (.int .i64 LG), some (.int .i64 (qh (LG + (2 : Int)))), some (.int .u8 ((rd LF.text_ (qh (LG + (2 : Int)))).toNat : Int)), some (.agg ⟨([((rd LF.text_ LG).toNat : Int), ((rd LF.text_ (qh (LG + (1 : Int)))).toNat : Int), ((rd LF.text_ (qh (LG + (2 : Int)))).toNat : Int)] : List Int).flatMap (ci .u8)⟩), some undef]) 21 [(0, 21), (1, 21), (2, 21), (3, 21), (4, 21), (5, 21), (6, 21), (7, 21), (8, 21), (9, 21), (10, 21), (11, 21), (12, 21), (13, 21), (14, 21), (15, 21), (16, 21), (17, 21), (18, 21), (19, 21), (20, 21)] hA hcl hav hm hpre rfl rfl rfl rfl rfl
 clear hm hav
 refine x6 hA hst ho hcl hmust [] rfl rfl rfl trivial fun a w hS => ?_
 replace hS := hS.env2 (e' := [(4, qO LM 0)]) ⟨rfl, trivial⟩
 refine qf <| wp_ret ?_
 exact jU (vs := [.agg ⟨([((rd LF.text_ LG).toNat : Int), ((rd LF.text_ (qh (LG + (1 : Int)))).toNat : Int), ((rd LF.text_ (qh (LG + (2 : Int)))).toNat : Int)] : List Int).flatMap (ci .u8)⟩]) hS rfl (by exact ⟨GG 0 rfl LJ rfl (xh (g := (ci .u8)) (sz := 1) (fun _ => rfl) rfl) Tryd.isAgg126 Tryd.sizeOf126, trivial⟩) (hret _ (zn hM) (hS.st.pick [1, 2] (by kernel_rfl)))
theorem QH {H : xT} {F : List qp} {w : World} {R : Ending → World → Prop} {kr : Int → Prop} {kp : Value → Prop} (hG : Gl H) (K : Nat) (LG : xp) (LI : Int) (LH : Int) (LJ : Nat) (LM : qp) (LS : Nat) (LN : qp) (LK : xO LM LJ ([xS LG.text_, .map (some LS)]) 90) (LZ : Xw (UY .u8) (UV 3) 3 (ci .i64) 1 LS LG.seen_ LN)
    (hS : St w H [LM, LN] F) (hm : (zC.m K LG LI LH).wp kr kp)
    (hret : ∀ (LT : Int) (w : World), kr LT → St w H [LM, LN] F → R (.returned (.int .i64 LT)) w) :
    Calls Tryd.prog 67 ⟨[qO LJ 0, .int .i64 LI, .int .i64 LH]⟩ w R := by
 refine enter Tryd.func67 rfl Tryd.ntmps67 rfl hS fun a w hS => ?_
 have hM := hm; clear hm
 rw [zC.m] at hM
 refine qr <| sA hS rfl fun hS => qJ <| qr <| sA hS rfl fun hS => qJ <| wp_seq <| xG <| zt (fun LQ a w => ∃ (LF : Int), Ss 43 [] [(0, qO LJ 0), (1, .int .i64 LI), (2, .int .i64 LH), (7, .int .i64 LF)] H [LM, LN] F a w ∧ (zC.l1 K LG LI LH LQ LF).wp kr kp) K ?_ ?_ ?_
 ·exact ⟨(0 : Int), hS.to [0, 1] (by kernel_rfl) ⟨rfl, rfl, rfl, rfl, trivial⟩, hM⟩
 ·intro a w hI; obtain ⟨_, _, hM⟩ := hI; exact zm hM
 ·intro LQ a w hI L0 LU
  obtain ⟨LF, hS, hM⟩ := hI
  rw [zC.l1] at hM
  refine wp_seq <| zc (fun a w => ∃ (LR : Bool), Ss 43 [] [(0, qO LJ 0), (1, .int .i64 LI), (2, .int .i64 LH), (7, .int .i64 LF), (39, .bool LR)] H [LM, LN] F a w ∧ (zC.j2 K (zC.l1 K LG LI LH LQ) LF LR).wp kr kp) (fun L1 LO => ?_) ?_
  ·refine Dz (b := (decide (LF < (258 : Int)))) hM (fun LL hM => ?_) (fun LL hM => ?_)
   ·refine Dz (b := (decide ((qh (LH + LF)) < (LG.text_.length : Int)))) hM (fun LP hM => ?_) (fun LP hM => ?_)
    ·obtain ⟨LV, hM⟩ := qH hM
     obtain ⟨LW, hM⟩ := qH hM
     refine q8 (vals := [some (.int .i64 LF), some (.bool true), some (.bool true), some (.int .i64 LH), some (.int .i64 LF), some (.int .i64 (qh (LH + LF))), some (qO LJ 0), some (qO LJ 0), some (qO LJ 0), some (xS LG.text_), some (.int .i64 (LG.text_.length : Int)), some (.bool true), some (.bool true), some (.bool true), some (qO LJ 0), some (qO LJ 0), some (qO LJ 0), some (xS LG.text_), some (.int .i64 LI), some (.int .i64 LF), some (.int .i64 (qh (LI + LF))), some (.int .u8 ((rd LG.text_ (qh (LI + LF))).toNat : Int)), some (qO LJ 0), some (qO LJ 0), some (qO LJ 0), some (xS LG.text_), some (.int .i64 LH), some (.int .i64 LF), some (.int .i64 (qh (LH + LF))), some (.int .u8 ((rd LG.text_ (qh (LH + LF))).toNat : Int)), some (.bool (((rd LG.text_ (qh (LI + LF))).toNat : Int) == ((rd LG.text_ (qh (LH + LF))).toNat : Int))), some (.bool (((rd LG.text_ (qh (LI + LF))).toNat : Int) == ((rd LG.text_ (qh (LH + LF))).toNat : Int)))]) hS xw rfl ?_
     intro l w ho hcl hA hst
     refine x6 hA hst ho hcl xx [0, 1, 2, 3, 4, 5, 6, 7, 8, 9, 10, 11, 12, 13, 14, 15, 16, 17, 18, 19, 20, 21, 22, 23, 24, 25, 26, 27, 28, 29, 30, 31] rfl rfl rfl (by exact ⟨nM rfl, nQ rfl (by exact qV (jA rfl rfl rfl) (congrArg Value.bool LL)), nM rfl, nW rfl rfl rfl rfl rfl rfl rfl rfl (by exact qV (mv rfl) rfl), nW rfl rfl rfl rfl rfl rfl rfl rfl (by exact qV (mv rfl) rfl), nW rfl rfl rfl rfl rfl rfl rfl rfl (by exact qV (jA rfl rfl rfl) rfl), nW rfl rfl rfl rfl rfl rfl rfl rfl (by exact qV (mv rfl) rfl), nW rfl rfl rfl rfl rfl rfl rfl rfl (by exact qV (yv rfl) rfl), nW rfl rfl rfl rfl rfl rfl rfl rfl (by exact qV (xz rfl Tryd.runUnderlying90 rfl Tryd.sizeOf9 rfl) rfl), nW rfl rfl rfl rfl rfl rfl rfl rfl (by exact qV (ye 0 rfl LK rfl rfl Tryd.isAgg9) rfl), nW rfl rfl rfl rfl rfl rfl rfl rfl (by exact qV (uN rfl Tryd.runUnderlying9) rfl), nW rfl rfl rfl rfl rfl rfl rfl rfl (by exact qV (jA rfl rfl rfl) (congrArg Value.bool LP)), nQ rfl (by exact qV (pk rfl rfl rfl) rfl), nM rfl, nW rfl rfl rfl rfl rfl rfl rfl rfl (by exact qV (mv rfl) rfl), nW rfl rfl rfl rfl rfl rfl rfl rfl (by exact qV (yv rfl) rfl), nW rfl rfl rfl rfl rfl rfl rfl rfl (by exact qV (xz rfl Tryd.runUnderlying90 rfl Tryd.sizeOf9 rfl) rfl), nW rfl rfl rfl rfl rfl rfl rfl rfl (by exact qV (ye 0 rfl LK rfl rfl Tryd.isAgg9) rfl), nW rfl rfl rfl rfl rfl rfl rfl rfl (by exact qV (mv rfl) rfl), nW rfl rfl rfl rfl rfl rfl rfl rfl (by exact qV (mv rfl) rfl), nW rfl rfl rfl rfl rfl rfl rfl rfl (by exact qV (jA rfl rfl rfl) rfl), nW rfl rfl rfl rfl rfl rfl rfl rfl (by exact qV (Kf rfl rfl Tryd.runUnderlying9 LV) rfl), nW rfl rfl rfl rfl rfl rfl rfl rfl (by exact qV (mv rfl) rfl), nW rfl rfl rfl rfl rfl rfl rfl rfl (by exact qV (yv rfl) rfl), nW rfl rfl rfl rfl rfl rfl rfl rfl (by exact qV (xz rfl Tryd.runUnderlying90 rfl Tryd.sizeOf9 rfl) rfl), nW rfl rfl rfl rfl rfl rfl rfl rfl (by exact qV (ye 0 rfl LK rfl rfl Tryd.isAgg9) rfl), nW rfl rfl rfl rfl rfl rfl rfl rfl (by exact qV (mv rfl) rfl), nW rfl rfl rfl rfl rfl rfl rfl rfl (by exact qV (mv rfl) rfl), nW rfl rfl rfl rfl rfl rfl rfl rfl (by exact qV (jA rfl rfl rfl) rfl), nW rfl rfl rfl rfl rfl rfl rfl rfl (by exact qV (Kf rfl rfl Tryd.runUnderlying9 LW) rfl), nW rfl rfl rfl rfl rfl rfl rfl rfl (by exact qV (jA rfl rfl rfl) rfl), nQ rfl (by exact qV (pk rfl rfl rfl) rfl), trivial⟩) fun a w hS => ?_
     replace hS := hS.env2 (e' := [(0, qO LJ 0), (1, .int .i64 LI), (2, .int .i64 LH), (7, .int .i64 LF), (39, .bool (((rd LG.text_ (qh (LI + LF))).toNat : Int) == ((rd LG.text_ (qh (LH + LF))).toNat : Int)))]) ⟨rfl, rfl, rfl, rfl, rfl, trivial⟩
     refine qf ?_
     exact LO _ _ ⟨(((rd LG.text_ (qh (LI + LF))).toNat : Int) == ((rd LG.text_ (qh (LH + LF))).toNat : Int)), hS.to [0, 1] (by kernel_rfl) ⟨rfl, rfl, rfl, rfl, rfl, trivial⟩, hM⟩
    ·refine q8 (vals := [some (.int .i64 LF), some (.bool true), some (.bool true), some (.int .i64 LH), some (.int .i64 LF), some (.int .i64 (qh (LH + LF))), some (qO LJ 0), some (qO LJ 0), some (qO LJ 0), some (xS LG.text_), some (.int .i64 (LG.text_.length : Int)), some (.bool false), some (.bool false), some (.bool false), some (undef), some (undef), some (undef), some (undef), some (undef), some (undef), some (undef), some (undef), some (undef), some (undef), some (undef), some (undef), some (undef), some (undef), some (undef), some (undef), some (undef), some (.bool false)]) hS xw rfl ?_
     intro l w ho hcl hA hst
     refine x6 hA hst ho hcl xx [0, 1, 2, 3, 4, 5, 6, 7, 8, 9, 10, 11, 12, 13, 14, 15, 16, 17, 18, 19, 20, 21, 22, 23, 24, 25, 26, 27, 28, 29, 30, 31] rfl rfl rfl (by exact ⟨nM rfl, nQ rfl (by exact qV (jA rfl rfl rfl) (congrArg Value.bool LL)), nM rfl, nW rfl rfl rfl rfl rfl rfl rfl rfl (by exact qV (mv rfl) rfl), nW rfl rfl rfl rfl rfl rfl rfl rfl (by exact qV (mv rfl) rfl), nW rfl rfl rfl rfl rfl rfl rfl rfl (by exact qV (jA rfl rfl rfl) rfl), nW rfl rfl rfl rfl rfl rfl rfl rfl (by exact qV (mv rfl) rfl), nW rfl rfl rfl rfl rfl rfl rfl rfl (by exact qV (yv rfl) rfl), nW rfl rfl rfl rfl rfl rfl rfl rfl (by exact qV (xz rfl Tryd.runUnderlying90 rfl Tryd.sizeOf9 rfl) rfl), nW rfl rfl rfl rfl rfl rfl rfl rfl (by exact qV (ye 0 rfl LK rfl rfl Tryd.isAgg9) rfl), nW rfl rfl rfl rfl rfl rfl rfl rfl (by exact qV (uN rfl Tryd.runUnderlying9) rfl), nW rfl rfl rfl rfl rfl rfl rfl rfl (by exact qV (jA rfl rfl rfl) (congrArg Value.bool LP)), nQ rfl (by exact qV (pk rfl rfl rfl) rfl), nM rfl, nS rfl rfl rfl rfl rfl rfl rfl rfl rfl, nS rfl rfl rfl rfl rfl rfl rfl rfl rfl, nS rfl rfl rfl rfl rfl rfl rfl rfl rfl, nS rfl rfl rfl rfl rfl rfl rfl rfl rfl, nS rfl rfl rfl rfl rfl rfl rfl rfl rfl, nS rfl rfl rfl rfl rfl rfl rfl rfl rfl, nS rfl rfl rfl rfl rfl rfl rfl rfl rfl, nS rfl rfl rfl rfl rfl rfl rfl rfl rfl, nS rfl rfl rfl rfl rfl rfl rfl rfl rfl, nS rfl rfl rfl rfl rfl rfl rfl rfl rfl, nS rfl rfl rfl rfl rfl rfl rfl rfl rfl, nS rfl rfl rfl rfl rfl rfl rfl rfl rfl, nS rfl rfl rfl rfl rfl rfl rfl rfl rfl, nS rfl rfl rfl rfl rfl rfl rfl rfl rfl, nS rfl rfl rfl rfl rfl rfl rfl rfl rfl, nS rfl rfl rfl rfl rfl rfl rfl rfl rfl, nS rfl rfl rfl rfl rfl rfl rfl rfl rfl, nQ rfl (by exact qV (pk rfl rfl rfl) rfl), trivial⟩) fun a w hS => ?_
     replace hS := hS.env2 (e' := [(0, qO LJ 0), (1, .int .i64 LI), (2, .int .i64 LH), (7, .int .i64 LF), (39, .bool false)]) ⟨rfl, rfl, rfl, rfl, rfl, trivial⟩
     refine qf ?_
     exact LO _ _ ⟨false, hS.to [0, 1] (by kernel_rfl) ⟨rfl, rfl, rfl, rfl, rfl, trivial⟩, hM⟩
   ·refine q8 (vals := [some (.int .i64 LF), some (.bool false), some (.bool false), some (undef), some (undef), some (undef), some (undef), some (undef), some (undef), some (undef), some (undef), some (undef), some (.bool false), some (.bool false), some (undef), some (undef), some (undef), some (undef), some (undef), some (undef), some (undef), some (undef), some (undef), some (undef), some (undef), some (undef), some (undef), some (undef), some (undef), some (undef), some (undef), some (.bool false)]) hS xw rfl ?_
    intro l w ho hcl hA hst
    refine x6 hA hst ho hcl xx [0, 1, 2, 3, 4, 5, 6, 7, 8, 9, 10, 11, 12, 13, 14, 15, 16, 17, 18, 19, 20, 21, 22, 23, 24, 25, 26, 27, 28, 29, 30, 31] rfl rfl rfl (by exact ⟨nM rfl, nQ rfl (by exact qV (jA rfl rfl rfl) (congrArg Value.bool LL)), nM rfl, nS rfl rfl rfl rfl rfl rfl rfl rfl rfl, nS rfl rfl rfl rfl rfl rfl rfl rfl rfl, nS rfl rfl rfl rfl rfl rfl rfl rfl rfl, nS rfl rfl rfl rfl rfl rfl rfl rfl rfl, nS rfl rfl rfl rfl rfl rfl rfl rfl rfl, nS rfl rfl rfl rfl rfl rfl rfl rfl rfl, nS rfl rfl rfl rfl rfl rfl rfl rfl rfl, nS rfl rfl rfl rfl rfl rfl rfl rfl rfl, nS rfl rfl rfl rfl rfl rfl rfl rfl rfl, nQ rfl (by exact qV (pk rfl rfl rfl) rfl), nM rfl, nS rfl rfl rfl rfl rfl rfl rfl rfl rfl, nS rfl rfl rfl rfl rfl rfl rfl rfl rfl, nS rfl rfl rfl rfl rfl rfl rfl rfl rfl, nS rfl rfl rfl rfl rfl rfl rfl rfl rfl, nS rfl rfl rfl rfl rfl rfl rfl rfl rfl, nS rfl rfl rfl rfl rfl rfl rfl rfl rfl, nS rfl rfl rfl rfl rfl rfl rfl rfl rfl, nS rfl rfl rfl rfl rfl rfl rfl rfl rfl, nS rfl rfl rfl rfl rfl rfl rfl rfl rfl, nS rfl rfl rfl rfl rfl rfl rfl rfl rfl, nS rfl rfl rfl rfl rfl rfl rfl rfl rfl, nS rfl rfl rfl rfl rfl rfl rfl rfl rfl, nS rfl rfl rfl rfl rfl rfl rfl rfl rfl, nS rfl rfl rfl rfl rfl rfl rfl rfl rfl, nS rfl rfl rfl rfl rfl rfl rfl rfl rfl, nS rfl rfl rfl rfl rfl rfl rfl rfl rfl, nS rfl rfl rfl rfl rfl rfl rfl rfl rfl, nQ rfl (by exact qV (pk rfl rfl rfl) rfl), trivial⟩) fun a w hS => ?_
    replace hS := hS.env2 (e' := [(0, qO LJ 0), (1, .int .i64 LI), (2, .int .i64 LH), (7, .int .i64 LF), (39, .bool false)]) ⟨rfl, rfl, rfl, rfl, rfl, trivial⟩
    refine qf ?_
    exact LO _ _ ⟨false, hS.to [0, 1] (by kernel_rfl) ⟨rfl, rfl, rfl, rfl, rfl, trivial⟩, hM⟩
  ·intro a w hI
   obtain ⟨LR, hS, hM⟩ := hI
   rw [zC.j2] at hM
   refine qI hS rfl hM (fun LX hM => ?_) (fun LX hM => ?_)
   ·refine wp_skip ?_
    refine qf <| xG <| zI <| sM hS rfl fun hS => sB hS rfl fun hS => zF (v := Value.int .i64) (x0 := (qh (LF + (1 : Int)))) hS (xB rfl) rfl fun LY a w hz hS => ?_
    have hM := qE hz hM; clear hz
    refine zg <| zw (qf ?_)
    exact LU _ _ ⟨LY, hS.to [0, 1] (by kernel_rfl) ⟨rfl, rfl, rfl, rfl, trivial⟩, hM⟩
   ·refine wp_exit ?_
    refine qC (qC (q9 (qf ?_)))
    refine qr <| sM hS rfl fun hS => sA hS rfl fun hS => qJ <| wp_ret ?_
    exact zX (rs := [6]) hS rfl rfl (hret LF _ (zn hM) (hS.st.pick [0, 1] (by kernel_rfl)))
theorem QE {H : xT} {F : List qp} {w : World} {R : Ending → World → Prop} {kr : (Int × Int) → Prop} {kp : Value → Prop} (hG : Gl H) (K : Nat) (LG : xp) (LF : Int) (LI : Nat) (LO : qp) (LQ : Nat) (LP : qp) (LR : xO LO LI ([xS LG.text_, .map (some LQ)]) 90) (LX : Xw (UY .u8) (UV 3) 3 (ci .i64) 1 LQ LG.seen_ LP)
    (hS : St w H [LO, LP] F) (hm : (zP.m K LG LF).wp kr kp)
    (hret : ∀ (LY : Int) (LU : Int) (w : World), kr (LY, LU) → St w H [LO, LP] F → R (.returned (.agg ⟨[.int .u8 (0 : Int), .int .i64 LY, .int .i64 LU]⟩)) w) :
    Calls Tryd.prog 43 ⟨[qO LI 0, .int .i64 LF]⟩ w R := by
 refine enter Tryd.func43 rfl Tryd.ntmps43 rfl hS fun a w hS => ?_
 have hM := hm; clear hm
 rw [zP.m] at hM
 refine qr <| QP ([.int .u8 (0 : Int), .int .i64 (0 : Int), .int .i64 (0 : Int)]) hS Tryd.zeroValue32 rfl rfl fun w L6 LZ L7 hS => qJ <| qr <| QP ([.int .u8 (0 : Int), .int .i64 (0 : Int), .int .i64 (0 : Int)]) hS Tryd.zeroValue32 rfl rfl fun w LV Me L8 hS => qJ <| wp_seq <| qr <| sM hS rfl fun hS => sB hS rfl fun hS => sM hS rfl fun hS => sO hS (yv rfl) rfl fun hS => sO hS (xz rfl Tryd.runUnderlying90 rfl Tryd.sizeOf9 rfl) rfl fun hS => sO hS (ye 2 rfl LR rfl rfl Tryd.isAgg9) rfl fun hS => sO hS (uN rfl Tryd.runUnderlying9) rfl fun hS => sB hS rfl fun hS => qJ <| qI hS rfl hM (fun Mg hM => ?_) (fun Mg hM => ?_)
 ·refine wp_seq ?_
  refine zI <| sO hS (u5 0 rfl L8 rfl ([.int .u8 (0 : Int), .int .i64 (0 : Int), .int .i64 (0 : Int)]) rfl rfl Tryd.isAgg32 Tryd.sizeOf32) rfl fun hS => Zo 1 ([.int .u8 (0 : Int), .int .i64 (0 : Int), .int .i64 (0 : Int)]) ([.int .u8 (0 : Int), .int .i64 (0 : Int), .int .i64 (0 : Int)]) hS rfl rfl L7 rfl rfl Tryd.sizeOf32 (by simp [Value.oneCell']) (Nat.le_of_ble_eq_true rfl) rfl fun w Mr Mh hS => qJ <| wp_ret <| zE ?_
  exact jU (vs := [.agg ⟨[.int .u8 (0 : Int), .int .i64 (0 : Int), .int .i64 (0 : Int)]⟩]) hS rfl (by exact ⟨Bn 1 ([.int .u8 (0 : Int), .int .i64 (0 : Int), .int .i64 (0 : Int)]) rfl Mh rfl rfl rfl Tryd.isAgg32 Tryd.sizeOf32, trivial⟩) (hret (0 : Int) (0 : Int) _ (zn hM) (hS.st.pick [2, 3] (by kernel_rfl)))
 ·refine wp_skip ?_
  refine qf <| wp_seq <| q8 (vals := [some (qO LI 0), some (qO LI 0), some (qO LI 1), some (.map (some LQ)), some (qO LI 0), some (.int .i64 LF), none, none, none]) hS xw rfl ?_
  intro l w ho hcl hA hst
  refine yV hA hst ho hcl xk xx 6 [0, 1, 2, 3, 4, 5] rfl rfl rfl rfl rfl (by exact ⟨nM rfl, nQ rfl (by exact qV (yv rfl) rfl), nQ rfl (by exact qV (xz rfl Tryd.runUnderlying90 rfl Tryd.sizeOf88 rfl) rfl), nQ rfl (by exact qV (ye 2 rfl LR rfl rfl Tryd.isAgg88) rfl), nM rfl, nM rfl, trivial⟩) fun D l a w ho hcl hav hpre hm hE hk hA hst => ?_
  have hS := (Ss.mk hE hst).env2 (e' := [(23, qO LI 0), (24, .int .i64 LF)]) ⟨rfl, rfl, trivial⟩
  refine qR rfl <| qN hS rfl Tryd.call66 (v5 hG K LG LF LI LO LQ LP LR LX (hS.st.part 2 [2, 3, 0, 1] (by kernel_rfl)) (qv hM) (fun  w hM  hst => qG hS.ev hst.appF rfl fun hS => ?_))
  replace hS : Ss _ _ _ H [LO, LP, Me, LZ] F _ _ := hS
  refine qJ ?_
  replace hst := hS.st
  obtain ⟨hcl, hmust, hav2, hA⟩ := dn (vals' := [some (qO LI 0), some (qO LI 0), some (qO LI 1), some (.map (some LQ)), some (qO LI 0), some (.int .i64 LF), some (.agg ⟨([((rd LG.text_ LF).toNat : Int), ((rd LG.text_ (qh (LF + (1 : Int)))).toNat : Int), ((rd LG.text_ (qh (LF + (2 : Int)))).toNat : Int)] : List Int).flatMap (ci .u8)⟩), none, none]) 6 [(4, 6), (5, 6)] hA hcl hav hm hpre hk rfl rfl rfl rfl rfl rfl rfl
  clear hm hav
  refine yV hA hst ho hcl hav2 hmust 7 [0, 1, 2, 3] rfl rfl rfl rfl rfl (by exact ⟨nM rfl, nQ rfl (by exact qV (yv rfl) rfl), nQ rfl (by exact qV (xz rfl Tryd.runUnderlying90 rfl Tryd.sizeOf88 rfl) rfl), nQ rfl (by exact qV (ye 0 rfl LR rfl rfl Tryd.isAgg88) rfl), trivial⟩) fun D l a w ho hcl hav hpre hm hE hk hA hst => ?_
  have hS := (Ss.mk hE hst).env2 (e' := [(22, .map (some LQ)), (25, .agg ⟨([((rd LG.text_ LF).toNat : Int), ((rd LG.text_ (qh (LF + (1 : Int)))).toNat : Int), ((rd LG.text_ (qh (LF + (2 : Int)))).toNat : Int)] : List Int).flatMap (ci .u8)⟩)]) ⟨rfl, rfl, trivial⟩
  refine qR rfl <| Lw (kv := UY .u8) (ok := UV 3) (E := 3) (g := (ci .i64)) (sz := 1) (q := ([((rd LG.text_ LF).toNat : Int), ((rd LG.text_ (qh (LF + (1 : Int)))).toNat : Int), ((rd LG.text_ (qh (LF + (2 : Int)))).toNat : Int)] : List Int)) 1 hS rfl rfl rfl rfl LX rfl (Kp Tryd.runUnderlying126 Tryd.runUnderlying5 Tryd.sizeOf5 Tryd.isAgg5) Tryd.runUnderlying88 Tryd.zeroValue45 (fun _ => rfl) rfl rfl fun LM L0 L1 w hz L9 Mq hS => ?_
  have hM := qE hz hM; clear hz
  refine qJ ?_
  replace hst := hS.st
  obtain ⟨hcl, hmust, hav2, hA⟩ := dn (vals' := [some (qO LI 0), some (qO LI 0), some (qO LI 1), some (.map (some LQ)), some (qO LI 0), some (.int .i64 LF), some (.agg ⟨([((rd LG.text_ LF).toNat : Int), ((rd LG.text_ (qh (LF + (1 : Int)))).toNat : Int), ((rd LG.text_ (qh (LF + (2 : Int)))).toNat : Int)] : List Int).flatMap (ci .u8)⟩), some (.slice L0 LM.length L1), some (.slice L0 LM.length L1)]) 7 [(3, 7), (6, 7), (2, 3), (4, 6), (5, 6), (1, 2), (0, 1)] hA hcl hav hm hpre hk rfl rfl rfl rfl rfl rfl rfl
  clear hm hav
  refine x6 hA hst ho hcl hmust [8] rfl rfl rfl (by exact ⟨nA rfl, trivial⟩) fun a w hS => ?_
  replace hS := hS.env2 (e' := [(0, qO LI 0), (1, .int .i64 LF), (4, qO L6 0), (5, qO LV 0), (6, .slice L0 LM.length L1)]) ⟨rfl, rfl, rfl, rfl, rfl, trivial⟩
  refine qf <| zc (fun a w => ∃ (LK : Int) (LJ : Int) (Ma : qp), Ss 63 [] [(4, qO L6 0), (5, qO LV 0)] H [LO, LP, LZ, Ma] F a w ∧ (xO Ma LV ([.int .u8 (0 : Int), .int .i64 LK, .int .i64 LJ]) 32) ∧ (zP.j2 K LK LJ).wp kr kp) (fun Ms Mb => ?_) ?_
  ·refine wp_seq ?_
   refine zI <| sA hS rfl fun hS => qJ <| xG <| zt (fun Mf a w => ∃ (LN : Int) (LL : Int) (LS : qp) (LH : Int), Ss 63 [] [(0, qO LI 0), (1, .int .i64 LF), (4, qO L6 0), (5, qO LV 0), (6, .slice L0 LM.length L1), (7, .int .i64 LH)] H [LO, LP, LZ, LS] F a w ∧ (xO LS LV ([.int .u8 (0 : Int), .int .i64 LN, .int .i64 LL]) 32) ∧ (zP.l1 K LG LF LM Mf LN LL LH).wp kr kp) K ?_ ?_ ?_
   ·exact ⟨(0 : Int), (0 : Int), Me, (0 : Int), hS.to [0, 1, 3, 2] (by kernel_rfl) ⟨rfl, rfl, rfl, rfl, rfl, rfl, trivial⟩, L8, hM⟩
   ·intro a w hI; obtain ⟨_, _, _, _, _, _, hM⟩ := hI; exact zm hM
   ·intro Mf a w hI Mt Mc
    obtain ⟨LN, LL, LS, LH, hS, LT, hM⟩ := hI
    rw [zP.l1] at hM
    refine wp_seq <| qr <| sM hS rfl fun hS => sB hS rfl fun hS => sM hS rfl fun hS => y9 4 true 29 (b := (decide (LH < (32 : Int)))) (r := (decide (LH < (LM.length : Int)))) hS rfl rfl rfl rfl rfl rfl rfl (fun hb a w hS K hK => ?_) rfl fun a w hS => ?_
    ·refine z3 hS rfl rfl rfl hb (mv rfl) rfl fun a w hS => ?_
     refine z3 hS rfl rfl rfl hb (mv rfl) rfl fun a w hS => z3 hS rfl rfl rfl hb (ym rfl Tryd.runUnderlying45) rfl fun a w hS => z3 hS rfl rfl rfl hb (jA rfl rfl rfl) rfl fun a w hS => ?_
     exact zg (hK _ _ (hS.up 4 rfl rfl))
    refine qJ <| qI hS rfl hM (fun Mi hM => ?_) (fun Mi hM => ?_)
    ·refine wp_skip ?_
     refine qf <| wp_seq <| xG <| qr <| sM hS rfl fun hS => sM hS rfl fun hS => sO hS (ym rfl Tryd.runUnderlying45) rfl fun hS => sB hS rfl fun hS => sM hS rfl fun hS => sB hS rfl fun hS => ?_
     obtain ⟨Md, hM⟩ := qH hM
     refine sO hS (xZ rfl rfl Tryd.runUnderlying45 Tryd.sizeOf3 (L9.rd (i := 1) rfl) (fun _ => rfl) rfl Md) rfl fun hS => sO hS (yH rfl (L9.rd (i := 1) rfl) (fun _ => rfl) Md rfl Tryd.isAgg3) rfl fun hS => zF (v := Value.int .i64) (x0 := (rd LM (qh ((qh ((LM.length : Int) - (1 : Int))) - LH)))) hS (xB rfl) rfl fun LW a w hz hS => ?_
     have hM := qE hz hM; clear hz
     refine qJ <| wp_seq <| qr <| sM hS rfl fun hS => sM hS rfl fun hS => sB hS rfl fun hS => sB hS rfl fun hS => qJ <| qI hS rfl hM (fun Mj hM => ?_) (fun Mj hM => ?_)
     ·refine wp_exit ?_
      refine qC (Bl rfl (qC (qC (q9 (qf ?_)))))
      exact Mb _ _ ⟨LN, LL, LS, hS.to [0, 1, 2, 3] (by kernel_rfl) ⟨rfl, rfl, trivial⟩, LT, hM⟩
     ·refine wp_skip ?_
      refine qf <| qr <| sM hS rfl fun hS => sM hS rfl fun hS => sM hS rfl fun hS => qN hS rfl Tryd.call67 (QH hG K LG LW LF LI LO LQ LP LR LX (hS.st.part 2 [0, 1, 2, 3] (by kernel_rfl)) (qv hM) (fun L3 w hM  hst => qG hS.ev hst.appF rfl fun hS => ?_))
      replace hS : Ss _ _ _ H [LO, LP, LZ, LS] F _ _ := hS
      refine sA hS rfl fun hS => qJ <| qr <| sM hS rfl fun hS => sO hS (xz rfl Tryd.runUnderlying32 rfl Tryd.sizeOf3 rfl) rfl fun hS => sO hS (ye 3 rfl LT rfl rfl Tryd.isAgg3) rfl fun hS => sB hS rfl fun hS => qJ <| qI hS rfl hM (fun Mk hM => ?_) (fun Mk hM => ?_)
      ·refine zI ?_
       refine sM hS rfl fun hS => sM hS rfl fun hS => sM hS rfl fun hS => sB hS rfl fun hS => sO hS (X4 ([.int .u8 (0 : Int), .int .i64 L3, .int .i64 (qh (LF - LW))]) [(0, 1), (1, 1), (2, 1)] Tryd.zeroValue32 Tryd.runUnderlying32 (by intro w; simp [Tryd.sizeOf3, Tryd.sizeOf5]) rfl rfl) rfl fun hS => Zo 3 ([.int .u8 (0 : Int), .int .i64 L3, .int .i64 (qh (LF - LW))]) ([.int .u8 (0 : Int), .int .i64 L3, .int .i64 (qh (LF - LW))]) hS rfl rfl LT rfl rfl Tryd.sizeOf32 (by simp [Value.oneCell']) (Nat.le_of_ble_eq_true rfl) rfl fun w Mp Ml hS => zg <| zw (qf ?_)
       refine zI <| sM hS rfl fun hS => sB hS rfl fun hS => zF (v := Value.int .i64) (x0 := (qh (LH + (1 : Int)))) hS (xB rfl) rfl fun L4 a w hz hS => ?_
       have hM := qE hz hM; clear hz
       refine zg <| qf ?_
       exact Mc _ _ ⟨L3, (qh (LF - LW)), Mp, L4, hS.to [0, 1, 2, 3] (by kernel_rfl) ⟨rfl, rfl, rfl, rfl, rfl, rfl, trivial⟩, Ml, hM⟩
      ·refine wp_skip ?_
       refine zw (qf ?_)
       refine zI <| sM hS rfl fun hS => sB hS rfl fun hS => zF (v := Value.int .i64) (x0 := (qh (LH + (1 : Int)))) hS (xB rfl) rfl fun L5 a w hz hS => ?_
       have hM := qE hz hM; clear hz
       refine zg <| qf ?_
       exact Mc _ _ ⟨LN, LL, LS, L5, hS.to [0, 1, 2, 3] (by kernel_rfl) ⟨rfl, rfl, rfl, rfl, rfl, rfl, trivial⟩, LT, hM⟩
    ·refine wp_exit ?_
     refine qC (qC (q9 (qf ?_)))
     exact Mb _ _ ⟨LN, LL, LS, hS.to [0, 1, 2, 3] (by kernel_rfl) ⟨rfl, rfl, trivial⟩, LT, hM⟩
  ·intro a w hI
   obtain ⟨LK, LJ, Ma, hS, Mm, hM⟩ := hI
   rw [zP.j2] at hM
   refine qr <| sO hS (u5 3 rfl Mm rfl ([.int .u8 (0 : Int), .int .i64 LK, .int .i64 LJ]) rfl rfl Tryd.isAgg32 Tryd.sizeOf32) rfl fun hS => Zo 2 ([.int .u8 (0 : Int), .int .i64 LK, .int .i64 LJ]) ([.int .u8 (0 : Int), .int .i64 LK, .int .i64 LJ]) hS rfl rfl L7 rfl rfl Tryd.sizeOf32 (by simp [Value.oneCell']) (Nat.le_of_ble_eq_true rfl) rfl fun w Mu Mn hS => qJ <| wp_ret ?_
   exact jU (vs := [.agg ⟨[.int .u8 (0 : Int), .int .i64 LK, .int .i64 LJ]⟩]) hS rfl (by exact ⟨Bn 2 ([.int .u8 (0 : Int), .int .i64 LK, .int .i64 LJ]) rfl Mn rfl rfl rfl Tryd.isAgg32 Tryd.sizeOf32, trivial⟩) (hret LK LJ _ (zn hM) (hS.st.pick [0, 1] (by kernel_rfl)))
theorem QK {H : xT} {F : List qp} {w : World} {R : Ending → World → Prop} {kr : (List ((List Int) × (List Int))) → Prop} {kp : Value → Prop} (hG : Gl H) (K : Nat) (LF : xp) (LG : Int) (LH : Nat) (LP : qp) (LI : Nat) (LQ : qp) (LN : xO LP LH ([xS LF.text_, .map (some LI)]) 90) (LU : Xw (UY .u8) (UV 3) 3 (ci .i64) 1 LI LF.seen_ LQ)
    (hS : St w H [LP, LQ] F) (hm : (yG.m K LF LG).wp kr kp)
    (hret : ∀ (LR : (List ((List Int) × (List Int)))) (LY : qp) (w : World), kr LR → (Xw (UY .u8) (UV 3) 3 (ci .i64) 1 LI LR LY) → St w H [LP, LY] F → R (.returned (.tuple ⟨[]⟩)) w) :
    Calls Tryd.prog 44 ⟨[qO LH 0, .int .i64 LG]⟩ w R := by
 refine enter Tryd.func44 rfl Tryd.ntmps44 rfl hS fun a w hS => ?_
 have hM := hm; clear hm
 rw [yG.m] at hM
 refine qr <| sM hS rfl fun hS => sB hS rfl fun hS => sM hS rfl fun hS => sO hS (yv rfl) rfl fun hS => sO hS (xz rfl Tryd.runUnderlying90 rfl Tryd.sizeOf9 rfl) rfl fun hS => sO hS (ye 0 rfl LN rfl rfl Tryd.isAgg9) rfl fun hS => sO hS (uN rfl Tryd.runUnderlying9) rfl fun hS => sB hS rfl fun hS => qJ <| qI hS rfl hM (fun LZ hM => ?_) (fun LZ hM => ?_)
 ·refine wp_seq ?_
  refine zI <| sM hS rfl fun hS => sM hS rfl fun hS => qN hS rfl Tryd.call66 (v5 hG K LF LG LH LP LI LQ LN LU (hS.st.part 2 [0, 1] (by kernel_rfl)) (qv hM) (fun  w hM  hst => qG hS.ev hst.appF rfl fun hS => ?_))
  replace hS : Ss _ _ _ H [LP, LQ] F _ _ := hS
  refine QP ((List.replicate 3 (0 : Int)).flatMap (ci .u8)) hS Tryd.zeroValue126 rfl rfl fun w L8 Mc L0 hS => X6 (xs := (List.replicate 3 (0 : Int))) (ys := ([((rd LF.text_ LG).toNat : Int), ((rd LF.text_ (qh (LG + (1 : Int)))).toNat : Int), ((rd LF.text_ (qh (LG + (2 : Int)))).toNat : Int)] : List Int)) (g := (ci .u8)) (pre := []) (post := []) 0 hS rfl rfl L0 rfl (by simp) rfl (xh (g := (ci .u8)) (sz := 1) (fun _ => rfl) (List.length_replicate ..)) (xh (g := (ci .u8)) (sz := 1) (fun _ => rfl) rfl) (QZ) Tryd.sizeOf126 fun w L9 LO hS => ?_
  replace LO : xO L9 L8 (([((rd LF.text_ LG).toNat : Int), ((rd LF.text_ (qh (LG + (1 : Int)))).toNat : Int), ((rd LF.text_ (qh (LG + (2 : Int)))).toNat : Int)] : List Int).flatMap (ci .u8)) 126 := by simpa using LO
  refine qJ <| q8 (vals := [some (qO LH 0), some (qO LH 0), some (qO LH 1), some (.map (some LI)), some (.agg ⟨([((rd LF.text_ LG).toNat : Int), ((rd LF.text_ (qh (LG + (1 : Int)))).toNat : Int), ((rd LF.text_ (qh (LG + (2 : Int)))).toNat : Int)] : List Int).flatMap (ci .u8)⟩), some (.int .i64 LG), none, none, none, none, none, none]) hS xw rfl ?_
  intro l w ho hcl hA hst
  refine yV hA hst ho hcl xk xx 6 [0, 1, 2, 3, 4, 5] rfl rfl rfl rfl rfl (by exact ⟨nM rfl, nQ rfl (by exact qV (yv rfl) rfl), nQ rfl (by exact qV (xz rfl Tryd.runUnderlying90 rfl Tryd.sizeOf88 rfl) rfl), nQ rfl (by exact qV (ye 1 rfl LN rfl rfl Tryd.isAgg88) rfl), nQ rfl (by exact qV (Yc (xs := ([((rd LF.text_ LG).toNat : Int), ((rd LF.text_ (qh (LG + (1 : Int)))).toNat : Int), ((rd LF.text_ (qh (LG + (2 : Int)))).toNat : Int)] : List Int)) (g := (ci .u8)) (pre := []) (post := []) 0 rfl LO rfl (by simp) rfl (xh (g := (ci .u8)) (sz := 1) (fun _ => rfl) rfl) Tryd.isAgg126 Tryd.sizeOf126) rfl), nM rfl, trivial⟩) fun D l a w ho hcl hav hpre hm hE hk hA hst => ?_
  have hS := (Ss.mk hE hst).env2 (e' := [(22, .int .i64 LG)]) ⟨rfl, trivial⟩
  refine qR rfl <| Yx (g := (ci .i64)) ([LG] : List Int) [.int .i64 LG] hS Tryd.runUnderlying45 Tryd.sizeOf3 X.el3 rfl rfl rfl (by simp [Value.cells]) rfl rfl rfl rfl rfl fun w LS LT Md L1 hS => qJ ?_
  replace hst := hS.st
  obtain ⟨hcl, hmust, hav2, hA⟩ := dn (vals' := [some (qO LH 0), some (qO LH 0), some (qO LH 1), some (.map (some LI)), some (.agg ⟨([((rd LF.text_ LG).toNat : Int), ((rd LF.text_ (qh (LG + (1 : Int)))).toNat : Int), ((rd LF.text_ (qh (LG + (2 : Int)))).toNat : Int)] : List Int).flatMap (ci .u8)⟩), some (.int .i64 LG), some (.slice LS ([LG] : List Int).length LT), none, none, none, none, none]) 6 [(5, 6)] hA hcl hav hm hpre hk rfl rfl rfl rfl rfl rfl rfl
  clear hm hav
  refine yV hA hst ho hcl hav2 hmust 7 [0, 1, 2, 3, 4] rfl rfl rfl rfl rfl (by exact ⟨nM rfl, nQ rfl (by exact qV (yv rfl) rfl), nQ rfl (by exact qV (xz rfl Tryd.runUnderlying90 rfl Tryd.sizeOf88 rfl) rfl), nQ rfl (by exact qV (ye 2 rfl LN rfl rfl Tryd.isAgg88) rfl), nQ rfl (by exact qV (Yc (xs := ([((rd LF.text_ LG).toNat : Int), ((rd LF.text_ (qh (LG + (1 : Int)))).toNat : Int), ((rd LF.text_ (qh (LG + (2 : Int)))).toNat : Int)] : List Int)) (g := (ci .u8)) (pre := []) (post := []) 1 rfl LO rfl (by simp) rfl (xh (g := (ci .u8)) (sz := 1) (fun _ => rfl) rfl) Tryd.isAgg126 Tryd.sizeOf126) rfl), trivial⟩) fun D l a w ho hcl hav hpre hm hE hk hA hst => ?_
  have hS := (Ss.mk hE hst).env2 (e' := [(19, .map (some LI)), (20, .agg ⟨([((rd LF.text_ LG).toNat : Int), ((rd LF.text_ (qh (LG + (1 : Int)))).toNat : Int), ((rd LF.text_ (qh (LG + (2 : Int)))).toNat : Int)] : List Int).flatMap (ci .u8)⟩)]) ⟨rfl, rfl, trivial⟩
  refine qR rfl ?_
  replace hS := hS.front [3, 0, 1, 2] (by kernel_rfl)
  refine Ln (kv := UY .u8) (ok := UV 3) (E := 3) (g := (ci .i64)) (sz := 1) (q := ([((rd LF.text_ LG).toNat : Int), ((rd LF.text_ (qh (LG + (1 : Int)))).toNat : Int), ((rd LF.text_ (qh (LG + (2 : Int)))).toNat : Int)] : List Int)) hS rfl rfl rfl rfl LU (Kp Tryd.runUnderlying126 Tryd.runUnderlying5 Tryd.sizeOf5 Tryd.isAgg5) Tryd.runUnderlying88 Tryd.zeroValue45 rfl fun LJ w LK LL LM Me Mf hz L3 L4 hS => ?_
  have hM := qE hz hM; clear hz
  refine qJ ?_
  replace hst := hS.st
  obtain ⟨hcl, hmust, hav2, hA⟩ := dn (vals' := [some (qO LH 0), some (qO LH 0), some (qO LH 1), some (.map (some LI)), some (.agg ⟨([((rd LF.text_ LG).toNat : Int), ((rd LF.text_ (qh (LG + (1 : Int)))).toNat : Int), ((rd LF.text_ (qh (LG + (2 : Int)))).toNat : Int)] : List Int).flatMap (ci .u8)⟩), some (.int .i64 LG), some (.slice LS ([LG] : List Int).length LT), some (.tuple ⟨[.slice LK LJ.length LL, .int .i64 ((LM : Nat) : Int)]⟩), some (.slice LK LJ.length LL), none, some (.int .i64 ((LM : Nat) : Int)), none]) 7 [(0, 7), (1, 7), (2, 7), (3, 7), (4, 7), (5, 7), (6, 7)] hA hcl hav hm hpre hk rfl rfl rfl rfl rfl rfl rfl
  clear hm hav
  refine yV hA hst ho hcl hav2 hmust 9 [8, 10] rfl rfl rfl rfl rfl (by exact ⟨nQ rfl (by exact qV (ex rfl rfl) rfl), nQ rfl (by exact qV (ex rfl rfl) rfl), trivial⟩) fun D l a w ho hcl hav hpre hm hE hk hA hst => ?_
  have hS := (Ss.mk hE hst).env2 (e' := [(21, .slice LK LJ.length LL), (23, .slice LS ([LG] : List Int).length LT)]) ⟨rfl, rfl, trivial⟩
  refine qR rfl ?_
  obtain ⟨L5, hM⟩ := qH hM
  refine Jm (ys := ([LG] : List Int)) 0 hS rfl rfl L3 rfl (L1.rd (i := 2) rfl) Tryd.runUnderlying45 Tryd.runUnderlying45 X.el3 (fun _ => rfl) rfl xH L5 rfl fun LV w LW LX Mg hz L6 hS => ?_
  have hM := qE hz hM; clear hz
  refine qJ ?_
  replace hst := hS.st
  obtain ⟨hcl, hmust, hav2, hA⟩ := dn (vals' := [some (qO LH 0), some (qO LH 0), some (qO LH 1), some (.map (some LI)), some (.agg ⟨([((rd LF.text_ LG).toNat : Int), ((rd LF.text_ (qh (LG + (1 : Int)))).toNat : Int), ((rd LF.text_ (qh (LG + (2 : Int)))).toNat : Int)] : List Int).flatMap (ci .u8)⟩), some (.int .i64 LG), some (.slice LS ([LG] : List Int).length LT), some (.tuple ⟨[.slice LK LJ.length LL, .int .i64 ((LM : Nat) : Int)]⟩), some (.slice LK LJ.length LL), some (.slice LW LV.length LX), some (.int .i64 ((LM : Nat) : Int)), none]) 9 [(6, 9), (7, 9), (8, 9), (5, 6), (0, 7), (1, 7), (2, 7), (3, 7), (4, 7)] hA hcl hav hm hpre hk rfl rfl rfl rfl rfl rfl rfl
  clear hm hav
  refine yV hA hst ho hcl hav2 hmust 11 [10] rfl rfl rfl rfl rfl (by exact ⟨nQ rfl (by exact qV (ex rfl rfl) rfl), trivial⟩) fun D l a w ho hcl hav hpre hm hE hk hA hst => ?_
  have hS := (Ss.mk hE hst).env2 (e' := [(19, .map (some LI)), (25, .slice LW LV.length LX), (26, .int .i64 ((LM : Nat) : Int))]) ⟨rfl, rfl, rfl, trivial⟩
  refine qR rfl ?_
  replace hS := hS.front [0, 1, 2, 3, 4] (by kernel_rfl)
  refine Lo (kv := UY .u8) (ok := UV 3) (E := 3) (g := (ci .i64)) (sz := 1) hS rfl rfl rfl L6 L4 fun Ma w Mb hz L7 hS => ?_
  have hM := qE hz hM; clear hz
  refine qJ ?_
  replace hst := hS.st
  obtain ⟨hcl, hmust, hav2, hA⟩ := Zd (vals' := [some (qO LH 0), some (qO LH 0), some (qO LH 1), some (.map (some LI)), some (.agg ⟨([((rd LF.text_ LG).toNat : Int), ((rd LF.text_ (qh (LG + (1 : Int)))).toNat : Int), ((rd LF.text_ (qh (LG + (2 : Int)))).toNat : Int)] : List Int).flatMap (ci .u8)⟩), some (.int .i64 LG), some (.slice LS ([LG] : List Int).length LT), some (.tuple ⟨[.slice LK LJ.length LL, .int .i64 ((LM : Nat) : Int)]⟩), some (.slice LK LJ.length LL), some (.slice LW LV.length LX), some (.int .i64 ((LM : Nat) : Int)), some undef]) 11 [(0, 11), (1, 11), (2, 11), (3, 11), (4, 11), (5, 11), (6, 11), (7, 11), (8, 11), (9, 11), (10, 11)] hA hcl hav hm hpre rfl rfl rfl rfl rfl
  clear hm hav
  refine x6 hA hst ho hcl hmust [] rfl rfl rfl trivial fun a w hS => ?_
  replace hS := hS.env2 (e' := []) trivial
  exact yT (rs := []) hS rfl rfl (hret Ma Mb _ (zn hM) L7 (hS.st.pick [3, 0] (by kernel_rfl)))
 ·refine wp_skip ?_
  exact yT (rs := []) hS rfl rfl (hret LF.seen_ LQ _ (zn hM) LU (hS.st.pick [0, 1] (by kernel_rfl)))
theorem Ji {H : xT} {F : List qp} {w : World} {R : Ending → World → Prop} {kr : (List qB) → Prop} {kp : Value → Prop} (hG : Gl H) (K : Nat) (LF : List UInt8)
    (hS : St w H [] F) (hm : (zW.m K LF).wp kr kp)
    (hret : ∀ (Md : Option Addr) (Me : Nat) (L3 : (List qB)) (Mf : qp) (w : World), kr L3 → (xb 32 qB.cells 3 Md L3 Me Mf) → St w H [Mf] F → R (.returned (.slice Md L3.length Me)) w) :
    Calls Tryd.prog 19 ⟨[xS LF]⟩ w R := by
 refine enter Tryd.func19 rfl Tryd.ntmps19 rfl hS fun a w hS => ?_
 have hM := hm; clear hm
 rw [zW.m] at hM
 refine qr <| sA hS rfl fun hS => ?_
 obtain ⟨MG, MF, hS⟩ := hS.nilV 32 qB.cells 3
 refine qJ <| qr <| sM hS rfl fun hS => Lz (kv := UY .u8) (ok := UV 3) (E := 3) (g := (ci .i64)) (sz := 1) hS rfl fun w LQ Mz Ml hS => sO hS (X4 ([xS LF, .map (some LQ)]) [(0, 1), (1, 1)] Tryd.zeroValue90 Tryd.runUnderlying90 (by intro w; simp [Tryd.sizeOf88, Tryd.sizeOf9]) rfl rfl) rfl fun hS => bx ([xS LF, .map (some LQ)]) hS rfl rfl rfl fun w LU LN L4 hS => sA hS rfl fun hS => qJ <| qr <| sA hS rfl fun hS => ?_
 obtain ⟨MA, Mm, hS⟩ := hS.nilV 32 qB.cells 3
 refine qJ <| wp_seq <| qr <| sA hS rfl fun hS => qJ <| xG <| zt (fun L0 a w => ∃ (LI : (List ((List Int) × (List Int)))) (LO : qp) (LV : Option Addr) (LW : Nat) (LM : (List qB)) (LR : qp) (LK : Int), Ss 41 [] [(0, xS LF), (3, qO LU 0), (4, .slice LV LM.length LW), (5, .int .i64 LK)] H [LN, LO, LR] F a w ∧ (Xw (UY .u8) (UV 3) 3 (ci .i64) 1 LQ LI LO) ∧ (xb 32 qB.cells 3 LV LM LW LR) ∧ (zW.l1 K LF L0 LI LM LK).wp kr kp) K ?_ ?_ ?_
 ·exact ⟨([] : List ((List Int) × (List Int))), Mz, none, 0, ([] : List qB), MA, (0 : Int), hS.to [1, 2, 0] (by kernel_rfl) ⟨rfl, rfl, rfl, rfl, trivial⟩, Ml, Mm, hM⟩
 ·intro a w hI; obtain ⟨_, _, _, _, _, _, _, _, _, _, hM⟩ := hI; exact zm hM
 ·intro L0 a w hI MH Mn
  obtain ⟨LI, LO, LV, LW, LM, LR, LK, hS, L5, L6, hM⟩ := hI
  rw [zW.l1] at hM
  refine wp_seq <| qr <| sM hS rfl fun hS => sM hS rfl fun hS => sO hS (uN rfl Tryd.runUnderlying9) rfl fun hS => sB hS rfl fun hS => qJ <| qI hS rfl hM (fun Mp hM => ?_) (fun Mp hM => ?_)
  ·refine wp_skip ?_
   refine qf <| xG <| qr <| sM hS rfl fun hS => sM hS rfl fun hS => qN hS rfl Tryd.call43 (QE hG K (xp.mk LF LI) LK LU LN LQ LO L4 L5 (hS.st.part 2 [0, 1, 2] (by kernel_rfl)) (qv hM) (fun LT LP w hM  hst => qG hS.ev hst.appF rfl fun hS => ?_))
   replace hS : Ss _ _ _ H [LN, LO, LR] F _ _ := hS
   refine QP ([.int .u8 (0 : Int), .int .i64 (0 : Int), .int .i64 (0 : Int)]) hS Tryd.zeroValue32 rfl rfl fun w Mg MI Mq hS => Zo 0 ([.int .u8 (0 : Int), .int .i64 LT, .int .i64 LP]) ([.int .u8 (0 : Int), .int .i64 LT, .int .i64 LP]) hS rfl rfl Mq rfl rfl Tryd.sizeOf32 (by simp [Value.oneCell']) (Nat.le_of_ble_eq_true rfl) rfl fun w MB LY hS => qJ <| zc (fun a w => ∃ (LJ : Int) (LG : Int) (LH : Int) (L7 : qp), Ss 41 [] [(0, xS LF), (3, qO LU 0), (4, .slice LV LM.length LW), (5, .int .i64 LK), (6, qO Mg 0)] H [LN, LO, LR, L7] F a w ∧ (xO L7 Mg ([.int .u8 LJ, .int .i64 LG, .int .i64 LH]) 32) ∧ (zW.j2 K (zW.l1 K LF L0) LF LI LM LK LJ LG LH).wp kr kp) (fun MJ L8 => ?_) ?_
   ·refine wp_seq ?_
    refine zI <| sO hS (xz rfl Tryd.runUnderlying32 rfl Tryd.sizeOf3 rfl) rfl fun hS => sO hS (ye 0 rfl LY rfl rfl Tryd.isAgg3) rfl fun hS => sB hS rfl fun hS => qJ <| qI hS rfl hM (fun Mr hM => ?_) (fun Mr hM => ?_)
    ·refine zI ?_
     refine sM hS rfl fun hS => sM hS rfl fun hS => ?_
     obtain ⟨Ms, hM⟩ := qH hM
     refine sO hS (Kf rfl rfl Tryd.runUnderlying9 Ms) rfl fun hS => sO hS (X4 ([.int .u8 ((rd LF LK).toNat : Int), .int .i64 (0 : Int), .int .i64 (0 : Int)]) [(0, 1), (1, 1), (2, 1)] Tryd.zeroValue32 Tryd.runUnderlying32 (by intro w; simp [Tryd.sizeOf3, Tryd.sizeOf5]) rfl rfl) rfl fun hS => Zo 0 ([.int .u8 ((rd LF LK).toNat : Int), .int .i64 (0 : Int), .int .i64 (0 : Int)]) ([.int .u8 ((rd LF LK).toNat : Int), .int .i64 (0 : Int), .int .i64 (0 : Int)]) hS rfl rfl LY rfl rfl Tryd.sizeOf32 (by simp [Value.oneCell']) (Nat.le_of_ble_eq_true rfl) rfl fun w MC Mt hS => zg <| qf ?_
     exact L8 _ _ ⟨((rd LF LK).toNat : Int), (0 : Int), (0 : Int), MC, hS.to [1, 2, 3, 0] (by kernel_rfl) ⟨rfl, rfl, rfl, rfl, rfl, trivial⟩, Mt, hM⟩
    ·refine wp_skip ?_
     refine qf ?_
     exact L8 _ _ ⟨(0 : Int), LT, LP, MB, hS.to [1, 2, 3, 0] (by kernel_rfl) ⟨rfl, rfl, rfl, rfl, rfl, trivial⟩, LY, hM⟩
   ·intro a w hI
    obtain ⟨LJ, LG, LH, L7, hS, L9, hM⟩ := hI
    rw [zW.j2] at hM
    refine qr <| sM hS rfl fun hS => sO hS (u5 3 rfl L9 rfl ([.int .u8 LJ, .int .i64 LG, .int .i64 LH]) rfl rfl Tryd.isAgg32 Tryd.sizeOf32) rfl fun hS => Yx (g := qB.cells) ([(qB.mk LJ LG LH)] : List qB) [.agg ⟨[.int .u8 LJ, .int .i64 LG, .int .i64 LH]⟩] hS Tryd.runUnderlying25 Tryd.sizeOf32 X.el32 rfl rfl rfl (by simp [Value.cells]) rfl rfl rfl rfl rfl fun w MK ML MM Mu hS => ?_
    obtain ⟨Mv, hM⟩ := qH hM
    refine Jm (ys := ([(qB.mk LJ LG LH)] : List qB)) 3 hS rfl rfl L6 rfl (Mu.rd (i := 0) rfl) Tryd.runUnderlying25 Tryd.runUnderlying25 X.el32 (fun _ => rfl) rfl BZ Mv rfl fun LZ w Mh Mi Ma hz Mw hS => ?_
    have hM := qE hz hM; clear hz
    refine sA hS rfl fun hS => qJ <| qr <| sO hS (xz rfl Tryd.runUnderlying32 rfl Tryd.sizeOf3 rfl) rfl fun hS => sO hS (ye 4 rfl L9 rfl rfl Tryd.isAgg3) rfl fun hS => sO hS (BL rfl rfl) rfl fun hS => sM hS rfl fun hS => qJ <| xG <| zt (fun Mj a w => ∃ (LL : (List ((List Int) × (List Int)))) (LX : qp) (LS : Int) (L1 : Int), Ss 41 [] [(0, xS LF), (3, qO LU 0), (4, .slice Mh LZ.length Mi), (5, .int .i64 LS), (31, .int .i64 (if LG > (1 : Int) then LG else (1 : Int))), (32, .int .i64 L1)] H [LN, LX, Ma] F a w ∧ (Xw (UY .u8) (UV 3) 3 (ci .i64) 1 LQ LL LX) ∧ (zW.l3 K (zW.l1 K LF L0) LF LG LZ Mj LL LS L1).wp kr kp) K ?_ ?_ ?_
    ·exact ⟨LI, LO, LK, (0 : Int), hS.to [1, 2, 3] (by kernel_rfl) ⟨rfl, rfl, rfl, rfl, rfl, rfl, trivial⟩, L5, hM⟩
    ·intro a w hI; obtain ⟨_, _, _, _, _, _, hM⟩ := hI; exact zm hM
    ·intro Mj a w hI MN Mx
     obtain ⟨LL, LX, LS, L1, hS, Mb, hM⟩ := hI
     rw [zW.l3] at hM
     refine qr <| sB hS rfl fun hS => qJ <| wp_seq <| qI hS rfl hM (fun My hM => ?_) (fun My hM => ?_)
     ·refine wp_skip ?_
      refine qf <| wp_seq <| xG <| qr <| sM hS rfl fun hS => sM hS rfl fun hS => qN hS rfl Tryd.call44 (QK hG K (xp.mk LF LL) LS LU LN LQ LX L4 Mb (hS.st.part 2 [0, 1, 2] (by kernel_rfl)) (qv hM) (fun Mc Mk w hM MD hst => qG hS.ev hst.appF rfl fun hS => ?_))
      replace hS : Ss _ _ _ H [LN, Mk, Ma] F _ _ := hS
      refine qJ <| zI <| sM hS rfl fun hS => sB hS rfl fun hS => zF (v := Value.int .i64) (x0 := (qh (LS + (1 : Int)))) hS (xB rfl) rfl fun ME a w hz hS => ?_
      have hM := qE hz hM; clear hz
      refine zg <| zw (qf ?_)
      refine zI <| sB hS rfl fun hS => sM hS rfl fun hS => zg <| qf ?_
      exact Mx _ _ ⟨Mc, Mk, ME, (qh (L1 + (1 : Int))), hS.to [0, 1, 2] (by kernel_rfl) ⟨rfl, rfl, rfl, rfl, rfl, rfl, trivial⟩, MD, hM⟩
     ·refine wp_exit ?_
      refine qC (qC (q9 (zw (qf ?_))))
      exact Mn _ _ ⟨LL, LX, Mh, Mi, LZ, Ma, LS, hS.to [0, 1, 2] (by kernel_rfl) ⟨rfl, rfl, rfl, rfl, trivial⟩, Mb, Mw, hM⟩
  ·refine wp_exit ?_
   refine qC (qC (q9 (qf ?_)))
   refine qr <| sM hS rfl fun hS => sA hS rfl fun hS => qJ <| wp_ret ?_
   exact zX (rs := [2]) hS rfl rfl (hret LV LW LM LR _ (zn hM) L6 (hS.st.pick [2] (by kernel_rfl)))
theorem uc {H : xT} {F : List qp} {w : World} {R : Ending → World → Prop} {kr : (List UInt8) → Prop} {kp : Value → Prop} (hG : Gl H) (K : Nat) (LH : List UInt8)
    (hS : St w H [] F) (hm : (zZ.m K LH).wp kr kp)
    (hret : ∀ (LN : List UInt8) (w : World), kr LN → St w H [] F → R (.returned (xS LN)) w)
    (hpan : ∀ v w, kp v → St w H [] F → R (.panicked [⟨v, false, false⟩]) w) :
    Calls Tryd.prog 18 ⟨[xS LH]⟩ w R := by
 refine enter Tryd.func18 rfl Tryd.ntmps18 rfl hS fun a w hS => ?_
 have hM := hm; clear hm
 rw [zZ.m] at hM
 refine qr <| sA hS rfl fun hS => qJ <| qr <| sM hS rfl fun hS => qN hS rfl Tryd.call19 (Ji hG K LH (hS.st.part 0 [] (by kernel_rfl)) (qv hM) (fun LK LL LI LG w hM LJ hst => qG hS.ev hst.appF rfl fun hS => ?_))
 replace hS : Ss _ _ _ H [LG] F _ _ := hS
 refine sA hS rfl fun hS => qJ <| qr <| sM hS rfl fun hS => qN hS rfl Tryd.call10 (uo hG K LH (hS.st.part 0 [0] (by kernel_rfl)) (qv hM) (fun LO w hM  hst => qG hS.ev hst.appF rfl fun hS => ?_))
 replace hS : Ss _ _ _ H [LG] F _ _ := hS
 refine sA hS rfl fun hS => qJ <| zc (fun a w => ∃ (LF : List UInt8), Ss 44 [] [(3, .slice LK LI.length LL), (4, xS LF)] H [LG] F a w ∧ (zZ.j1 K LI LF).wp kr kp) (fun LV LM => ?_) ?_
 ·refine wp_seq ?_
  refine zI <| sM hS rfl fun hS => qN hS rfl Tryd.call12 (uX hG K LI LK LL (LJ.rdF (i := 0) rfl) (LJ.cap (fun _ => rfl) rfl) (hS.st.part 0 [0] (by kernel_rfl)) (qv hM) (fun LP LT w hM  hst => qG hS.ev hst.appF rfl fun hS => ?_))
  replace hS : Ss _ _ _ H [LG] F _ _ := hS
  refine sM hS rfl fun hS => sO hS (ex rfl rfl) rfl fun hS => sO hS (ex rfl rfl) rfl fun hS => sA hS rfl fun hS => sA hS rfl fun hS => qJ <| qr <| sM hS rfl fun hS => sB hS rfl fun hS => sM hS rfl fun hS => y9 5 true 20 (b := (LT == (0 : Int))) (r := (decide ((LP.length : Int) < (LO.length : Int)))) hS rfl rfl rfl rfl rfl rfl rfl (fun hb a w hS K hK => ?_) rfl fun a w hS => ?_
  ·refine z3 hS rfl rfl rfl hb (mv rfl) rfl fun a w hS => ?_
   refine z3 hS rfl rfl rfl hb (uN rfl Tryd.runUnderlying9) rfl fun a w hS => z3 hS rfl rfl rfl hb (mv rfl) rfl fun a w hS => z3 hS rfl rfl rfl hb (uN rfl Tryd.runUnderlying9) rfl fun a w hS => z3 hS rfl rfl rfl hb (jA rfl rfl rfl) rfl fun a w hS => ?_
   exact zg (hK _ _ (hS.up 5 rfl rfl))
  refine qJ <| qI hS rfl hM (fun LR hM => ?_) (fun LR hM => ?_)
  ·refine zI ?_
   refine sM hS rfl fun hS => sA hS rfl fun hS => zg <| qf ?_
   exact LM _ _ ⟨LP, hS.to [0] (by kernel_rfl) ⟨rfl, rfl, trivial⟩, hM⟩
  ·refine wp_skip ?_
   refine qf ?_
   exact LM _ _ ⟨LO, hS.to [0] (by kernel_rfl) ⟨rfl, rfl, trivial⟩, hM⟩
 ·intro a w hI
  obtain ⟨LF, hS, hM⟩ := hI
  rw [zZ.j1] at hM
  refine wp_seq <| qr <| sM hS rfl fun hS => qN hS rfl Tryd.call14 (ua hG K LI LK LL (LJ.rdF (i := 0) rfl) (LJ.cap (fun _ => rfl) rfl) (hS.st.part 0 [0] (by kernel_rfl)) (qv hM) (fun LQ LU w hM  hst => qG hS.ev hst.appF rfl fun hS => ?_) (fun v w hk hst => xm (qD (qD (⟨hS.ev.defs, hpan _ _ hk hst.appF.frame⟩)))))
  replace hS : Ss _ _ _ H [LG] F _ _ := hS
  refine sM hS rfl fun hS => sO hS (ex rfl rfl) rfl fun hS => sO hS (ex rfl rfl) rfl fun hS => sA hS rfl fun hS => sA hS rfl fun hS => qJ <| qr <| sM hS rfl fun hS => sB hS rfl fun hS => sM hS rfl fun hS => y9 5 true 35 (b := (LU == (0 : Int))) (r := (decide ((LQ.length : Int) < (LF.length : Int)))) hS rfl rfl rfl rfl rfl rfl rfl (fun hb a w hS K hK => ?_) rfl fun a w hS => ?_
  ·refine z3 hS rfl rfl rfl hb (mv rfl) rfl fun a w hS => ?_
   refine z3 hS rfl rfl rfl hb (uN rfl Tryd.runUnderlying9) rfl fun a w hS => z3 hS rfl rfl rfl hb (mv rfl) rfl fun a w hS => z3 hS rfl rfl rfl hb (uN rfl Tryd.runUnderlying9) rfl fun a w hS => z3 hS rfl rfl rfl hb (jA rfl rfl rfl) rfl fun a w hS => ?_
   exact zg (hK _ _ (hS.up 5 rfl rfl))
  refine qJ <| qI hS rfl hM (fun LS hM => ?_) (fun LS hM => ?_)
  ·refine zI ?_
   refine sM hS rfl fun hS => sA hS rfl fun hS => qJ <| qr <| sM hS rfl fun hS => sA hS rfl fun hS => qJ <| wp_ret ?_
   exact zX (rs := [2]) hS rfl rfl (hret LQ _ (zn hM) (hS.st.pick [] (by kernel_rfl)))
  ·refine wp_skip ?_
   refine qf <| qr <| sM hS rfl fun hS => sA hS rfl fun hS => qJ <| wp_ret ?_
   exact zX (rs := [2]) hS rfl rfl (hret LF _ (zn hM) (hS.st.pick [] (by kernel_rfl)))
theorem vr {H : xT} {F : List qp} {w : World} {R : Ending → World → Prop} {kr : Bool → Prop} {kp : Value → Prop} (hG : Gl H) (K : Nat)
    (hS : St w H [] F) (hm : (xr.m K).wp kr kp)
    (hret : ∀ (LN : Bool) (w : World), kr LN → St w H [] F → R (.returned (.bool LN)) w)
    (hpan : ∀ v w, kp v → St w H [] F → R (.panicked [⟨v, false, false⟩]) w) :
    Calls Tryd.prog 9 ⟨[]⟩ w R := by
 refine enter Tryd.func9 rfl Tryd.ntmps9 rfl hS fun a w hS => ?_
 have hM := hm; clear hm
 rw [xr.m] at hM
 refine qr <| sA hS rfl fun hS => qJ <| qr <| sO hS (X4 ([.int .u8 (97 : Int), .int .i64 (0 : Int), .int .i64 (0 : Int)]) [(0, 1), (1, 1), (2, 1)] Tryd.zeroValue32 Tryd.runUnderlying32 (by intro w; simp [Tryd.sizeOf3, Tryd.sizeOf5]) rfl rfl) rfl fun hS => Yx (g := qB.cells) ([(qB.mk (97 : Int) (0 : Int) (0 : Int))] : List qB) [.agg ⟨[.int .u8 (97 : Int), .int .i64 (0 : Int), .int .i64 (0 : Int)]⟩] hS Tryd.runUnderlying25 Tryd.sizeOf32 X.el32 rfl rfl rfl (by simp [Value.cells]) rfl rfl rfl rfl rfl fun w A3 c4 f5 hV6 hS => qN hS rfl Tryd.call12 (uX hG K ([(qB.mk (97 : Int) (0 : Int) (0 : Int))] : List qB) A3 c4 (hV6.rdF (i := 0) rfl) (hV6.cap (fun _ => rfl) rfl) (hS.st.part 0 [0] (by kernel_rfl)) (qv hM) (fun LG LJ w hM  hst => qG hS.ev hst.appF rfl fun hS => ?_))
 replace hS : Ss _ _ _ H [f5] F _ _ := hS
 refine sM hS rfl fun hS => sO hS (ex rfl rfl) rfl fun hS => sO hS (ex rfl rfl) rfl fun hS => sA hS rfl fun hS => sA hS rfl fun hS => qJ <| qr <| sO hS (X4 ([.int .u8 (0 : Int), .int .i64 (1 : Int), .int .i64 (0 : Int)]) [(0, 1), (1, 1), (2, 1)] Tryd.zeroValue32 Tryd.runUnderlying32 (by intro w; simp [Tryd.sizeOf3, Tryd.sizeOf5]) rfl rfl) rfl fun hS => Yx (g := qB.cells) ([(qB.mk (0 : Int) (1 : Int) (0 : Int))] : List qB) [.agg ⟨[.int .u8 (0 : Int), .int .i64 (1 : Int), .int .i64 (0 : Int)]⟩] hS Tryd.runUnderlying25 Tryd.sizeOf32 X.el32 rfl rfl rfl (by simp [Value.cells]) rfl rfl rfl rfl rfl fun w LP LQ LK LL hS => qN hS rfl Tryd.call14 (ua hG K ([(qB.mk (0 : Int) (1 : Int) (0 : Int))] : List qB) LP LQ (LL.rdF (i := 0) rfl) (LL.cap (fun _ => rfl) rfl) (hS.st.part 0 [0, 1] (by kernel_rfl)) (qv hM) (fun LS LO w hM  hst => qG hS.ev hst.appF rfl fun hS => ?_) (fun v w hk hst => xm (qD (⟨hS.ev.defs, hpan _ _ hk hst.appF.frame⟩))))
 replace hS : Ss _ _ _ H [LK, f5] F _ _ := hS
 refine sM hS rfl fun hS => sO hS (ex rfl rfl) rfl fun hS => sO hS (ex rfl rfl) rfl fun hS => sA hS rfl fun hS => sA hS rfl fun hS => qJ <| qr <| qN hS rfl Tryd.call10 (uo hG K ([] : List UInt8) (hS.st.part 0 [0, 1] (by kernel_rfl)) (qv hM) (fun LH w hM  hst => qG hS.ev hst.appF rfl fun hS => ?_))
 replace hS : Ss _ _ _ H [LK, f5] F _ _ := hS
 refine sO hS (Dl rfl rfl rfl) rfl fun hS => sM hS rfl fun hS => y9 2 true 19 (b := (LH == ([1, 0, 0, 255, 255] : List UInt8))) (r := (LG == ([75, 4, 0] : List UInt8))) hS rfl rfl rfl rfl rfl rfl rfl (fun hb a w hS K hK => ?_) rfl fun a w hS => ?_
 ·refine z3 hS rfl rfl rfl hb (mv rfl) rfl fun a w hS => ?_
  refine z3 hS rfl rfl rfl hb (Dl rfl rfl rfl) rfl fun a w hS => ?_
  exact zg (hK _ _ (hS.up 2 rfl rfl))
 refine sM hS rfl fun hS => y9 2 true 23 (b := ((LH == ([1, 0, 0, 255, 255] : List UInt8)) && (LG == ([75, 4, 0] : List UInt8)))) (r := (LJ == (0 : Int))) hS rfl rfl rfl rfl rfl rfl rfl (fun hb a w hS K hK => ?_) rfl fun a w hS => ?_
 ·refine z3 hS rfl rfl rfl hb (mv rfl) rfl fun a w hS => ?_
  refine z3 hS rfl rfl rfl hb (jA rfl rfl rfl) rfl fun a w hS => ?_
  exact zg (hK _ _ (hS.up 2 rfl rfl))
 refine sM hS rfl fun hS => y9 2 true 27 (b := (((LH == ([1, 0, 0, 255, 255] : List UInt8)) && (LG == ([75, 4, 0] : List UInt8))) && (LJ == (0 : Int)))) (r := (LO == (1 : Int))) hS rfl rfl rfl rfl rfl rfl rfl (fun hb a w hS K hK => ?_) rfl fun a w hS => ?_
 ·refine z3 hS rfl rfl rfl hb (mv rfl) rfl fun a w hS => ?_
  refine z3 hS rfl rfl rfl hb (jA rfl rfl rfl) rfl fun a w hS => ?_
  exact zg (hK _ _ (hS.up 2 rfl rfl))
 refine sM hS rfl fun hS => XU (fun a w => ∃ (LI : Bool), Ss 35 [] [(34, .bool LI)] H [] F a w ∧ (xr.j1 K LI).wp kr kp) 3 (fun LT LM => ?_) ?_
 ·refine Dz (b := ((((LH == ([1, 0, 0, 255, 255] : List UInt8)) && (LG == ([75, 4, 0] : List UInt8))) && (LJ == (0 : Int))) && (LO == (1 : Int)))) hM (fun LF hM => ?_) (fun LF hM => ?_)
  ·replace hS := hS.re 30 (v := .bool true) rfl (congrArg Value.bool LF)
   replace hS := hS.re 31 (v := .bool true) rfl (congrArg Value.bool LF)
   refine Zm hS rfl rfl rfl rfl <| qN hS rfl Tryd.call18 (uc hG K ([] : List UInt8) (hS.st.part 0 [0, 1] (by kernel_rfl)) (qv hM) (fun LR w hM  hst => qG hS.ev hst.appF rfl fun hS => ?_) (fun v w hk hst => xm (qD (qD (⟨hS.ev.defs, hpan _ _ hk hst.appF.frame⟩)))))
   replace hS : Ss _ _ _ H [LK, f5] F _ _ := hS
   refine z3 hS rfl rfl rfl rfl (Dl rfl rfl rfl) rfl fun a w hS => sO hS (pk rfl rfl rfl) rfl fun hS => zg <| qf ?_
   exact LM _ _ ⟨(!(LR == ([] : List UInt8))), hS.to [] (by kernel_rfl) ⟨rfl, trivial⟩, hM⟩
  ·replace hS := hS.re 30 (v := .bool false) rfl (congrArg Value.bool LF)
   replace hS := hS.re 31 (v := .bool false) rfl (congrArg Value.bool LF)
   refine Kd 2 hS rfl fun a w hS => sO hS (pk rfl rfl rfl) rfl fun hS => zg <| qf ?_
   exact LM _ _ ⟨false, hS.to [] (by kernel_rfl) ⟨rfl, trivial⟩, hM⟩
 ·intro a w hI
  obtain ⟨LI, hS, hM⟩ := hI
  rw [xr.j1] at hM
  refine sA hS rfl fun hS => qJ <| wp_ret ?_
  exact zX (rs := [0]) hS rfl rfl (hret LI _ (zn hM) (hS.st.pick [] (by kernel_rfl)))
theorem Vr {H : xT} {F : List qp} {w : World} {R : Ending → World → Prop} {kr : Unit → Prop} {kp : Value → Prop} (hG : Gl H) (K : Nat) (LF : List UInt8)
    (hS : St w H [] F) (hm : (Q2.m K LF).wp kr kp)
    (hret : ∀ (LG : Nat) (LH : qp) (w : World), kr () → (xO LH LG ([.int .i64 (0 : Int), xS LF]) 129) → St w H [LH] F → R (.returned (qO LG 0)) w) :
    Calls Tryd.prog 46 ⟨[xS LF]⟩ w R := by
 refine enter Tryd.func46 rfl Tryd.ntmps46 rfl hS fun a w hS => ?_
 have hM := hm; clear hm
 rw [Q2.m] at hM
 refine qr <| sA hS rfl fun hS => qJ <| qr <| sM hS rfl fun hS => sO hS (X4 ([.int .i64 (0 : Int), xS LF]) [(0, 1), (1, 1)] Tryd.zeroValue129 Tryd.runUnderlying129 (by intro w; simp [Tryd.sizeOf42, Tryd.sizeOf9]) rfl rfl) rfl fun hS => bx ([.int .i64 (0 : Int), xS LF]) hS rfl rfl rfl fun w LJ LK LI hS => sA hS rfl fun hS => qJ <| wp_ret ?_
 exact zX (rs := [2]) hS rfl rfl (hret LJ LK _ (zn hM) LI (hS.st.pick [0] (by kernel_rfl)))
theorem vP {H : xT} {F : List qp} {w : World} {R : Ending → World → Prop} {kr : (Int × Int × Int) → Prop} {kp : Value → Prop} (hG : Gl H) (K : Nat) (LF : qL) (LG : Int) (LI : Nat) (LK : qp) (LH : xO LK LI ([.int .i64 LF.place_.at_, xS LF.text_]) 129)
    (hS : St w H [LK] F) (hm : (zH.m K LF LG).wp kr kp)
    (hret : ∀ (LQ : Int) (LR : Int) (LN : Int) (LS : qp) (w : World), kr (LQ, LR, LN) → (xO LS LI ([.int .i64 LN, xS LF.text_]) 129) → St w H [LS] F → R (.returned (.tuple ⟨[.int .u32 LQ, .int .i64 LR]⟩)) w) :
    Calls Tryd.prog 92 ⟨[qO LI 0, .int .i64 LG]⟩ w R := by
 refine enter Tryd.func92 rfl Tryd.ntmps92 rfl hS fun a w hS => ?_
 have hM := hm; clear hm
 rw [zH.m] at hM
 refine qr <| sA hS rfl fun hS => sA hS rfl fun hS => qJ <| wp_seq <| xG <| qr <| sM hS rfl fun hS => sO hS (XJ rfl rfl Tryd.runUnderlying96) rfl fun hS => sM hS rfl fun hS => z3 hS rfl rfl rfl rfl (mv rfl) rfl fun a w hS => z3 hS rfl rfl rfl rfl (jA rfl rfl rfl) rfl fun a w hS => sO hS (pk rfl rfl rfl) rfl fun hS => sM hS rfl fun hS => y9 2 false 16 (b := (decide (LG < (0 : Int)))) (r := (decide (LG > (32 : Int)))) hS rfl rfl rfl rfl rfl rfl rfl (fun hb a w hS K hK => ?_) rfl fun a w hS => ?_
 ·refine z3 hS rfl rfl rfl hb (mv rfl) rfl fun a w hS => ?_
  refine z3 hS rfl rfl rfl hb (jA rfl rfl rfl) rfl fun a w hS => ?_
  exact zg (hK _ _ (hS.up 2 rfl rfl))
 refine zF (v := Value.bool) (x0 := ((decide (LG < (0 : Int))) || (decide (LG > (32 : Int))))) hS (xB rfl) rfl fun Mb a w hz hS => ?_
 have hM := qE hz hM; clear hz
 refine qJ <| qI hS rfl hM (fun LV hM => ?_) (fun LV hM => ?_)
 ·refine wp_seq ?_
  refine zI <| sA hS rfl fun hS => sA hS rfl fun hS => qJ <| wp_ret <| yp (zE ?_)
  exact zX (rs := [4, 5]) hS rfl rfl (hret (0 : Int) (1 : Int) LF.place_.at_ LK _ (zn hM) LH (hS.st.pick [0] (by kernel_rfl)))
 ·refine wp_seq ?_
  obtain ⟨LT, LP⟩ : ∃ x, x = (decide (LG > (qh ((qh ((8 : Int) * (LF.text_.length : Int))) - LF.place_.at_)))) := ⟨_, rfl⟩
  replace hM := qE LP hM
  refine q8 (vals := [some (.int .i64 LG), some (qO LI 0), some (qO LI 0), some (qO LI 1), some (xS LF.text_), some (.int .i64 (LF.text_.length : Int)), some (.int .i64 (qh ((8 : Int) * (LF.text_.length : Int)))), some (qO LI 0), some (qO LI 0), some (qO LI 0), some (qO LI 0), some (.int .i64 LF.place_.at_), some (.int .i64 (qh ((qh ((8 : Int) * (LF.text_.length : Int))) - LF.place_.at_))), some (.bool (decide (LG > (qh ((qh ((8 : Int) * (LF.text_.length : Int))) - LF.place_.at_))))), some (.bool LT)]) hS xw rfl ?_
  intro l w ho hcl hA hst
  refine x6 hA hst ho hcl xx [0, 1, 2, 3, 4, 5, 6, 7, 8, 9, 10, 11, 12, 13, 14] rfl rfl rfl (by exact ⟨nM rfl, nM rfl, nQ rfl (by exact qV (yv rfl) rfl), nQ rfl (by exact qV (xz rfl Tryd.runUnderlying129 rfl Tryd.sizeOf9 rfl) rfl), nQ rfl (by exact qV (ye 0 rfl LH rfl rfl Tryd.isAgg9) rfl), nQ rfl (by exact qV (uN rfl Tryd.runUnderlying9) rfl), nB rfl, nM rfl, nQ rfl (by exact qV (yv rfl) rfl), nQ rfl (by exact qV (xz rfl Tryd.runUnderlying129 rfl Tryd.sizeOf42 rfl) rfl), nQ rfl (by exact qV (xz rfl Tryd.runUnderlying42 rfl Tryd.sizeOf3 rfl) rfl), nQ rfl (by exact qV (ye 0 rfl LH rfl rfl Tryd.isAgg3) rfl), nB rfl, nB rfl, nQ rfl (by exact qV (xB rfl) (congrArg (Value.bool) LP.symm)), trivial⟩) fun a w hS => ?_
  replace hS := hS.env2 (e' := [(0, qO LI 0), (1, .int .i64 LG), (20, .bool LT)]) ⟨rfl, rfl, rfl, trivial⟩
  refine qf <| qI hS rfl hM (fun LW hM => ?_) (fun LW hM => ?_)
  ·refine wp_seq ?_
   refine zI <| sA hS rfl fun hS => sA hS rfl fun hS => qJ <| wp_ret <| yp (zE ?_)
   exact zX (rs := [4, 5]) hS rfl rfl (hret (0 : Int) (2 : Int) LF.place_.at_ LK _ (zn hM) LH (hS.st.pick [0] (by kernel_rfl)))
  ·refine wp_skip ?_
   refine zw (qf ?_)
   refine qr <| sA hS rfl fun hS => qJ <| qr <| sM hS rfl fun hS => sO hS (yv rfl) rfl fun hS => sO hS (xz rfl Tryd.runUnderlying129 rfl Tryd.sizeOf42 rfl) rfl fun hS => sO hS (xz rfl Tryd.runUnderlying42 rfl Tryd.sizeOf3 rfl) rfl fun hS => sO hS (ye 0 rfl LH rfl rfl Tryd.isAgg3) rfl fun hS => sO hS (quo rfl rfl rfl) rfl fun hS => zF (v := Value.int .i64) (x0 := (yD .i64 LF.place_.at_ (8 : Int))) hS (xB rfl) rfl fun LJ a w hz hS => ?_
   have hM := qE hz hM; clear hz
   refine qJ <| zc (fun a w => ∃ (LO : Int), Ss 93 [] [(0, qO LI 0), (1, .int .i64 LG), (6, .int .u64 LO)] H [LK] F a w ∧ (zH.j2 K LF LG LO).wp kr kp) (fun Mc LX => ?_) ?_
   ·refine wp_seq ?_
    refine zI <| sA hS rfl fun hS => qJ <| xG <| zt (fun LU a w => ∃ (LM : Int) (LL : Int), Ss 93 [] [(0, qO LI 0), (1, .int .i64 LG), (6, .int .u64 LM), (7, .int .i64 LJ), (8, .int .i64 LL)] H [LK] F a w ∧ (zH.l1 K LF LG LJ LU LM LL).wp kr kp) K ?_ ?_ ?_
    ·exact ⟨(0 : Int), (0 : Int), hS.to [0] (by kernel_rfl) ⟨rfl, rfl, rfl, rfl, rfl, trivial⟩, hM⟩
    ·intro a w hI; obtain ⟨_, _, _, hM⟩ := hI; exact zm hM
    ·intro LU a w hI Md LY
     obtain ⟨LM, LL, hS, hM⟩ := hI
     rw [zH.l1] at hM
     refine wp_seq <| qr <| sM hS rfl fun hS => sM hS rfl fun hS => sB hS rfl fun hS => sB hS rfl fun hS => sM hS rfl fun hS => sO hS (yv rfl) rfl fun hS => sO hS (xz rfl Tryd.runUnderlying129 rfl Tryd.sizeOf42 rfl) rfl fun hS => sO hS (xz rfl Tryd.runUnderlying42 rfl Tryd.sizeOf3 rfl) rfl fun hS => sO hS (ye 0 rfl LH rfl rfl Tryd.isAgg3) rfl fun hS => sM hS rfl fun hS => sB hS rfl fun hS => sB hS rfl fun hS => qJ <| qI hS rfl hM (fun LZ hM => ?_) (fun LZ hM => ?_)
     ·refine wp_skip ?_
      refine qf <| wp_seq <| xG <| zI <| sM hS rfl fun hS => sM hS rfl fun hS => sO hS (yv rfl) rfl fun hS => sO hS (xz rfl Tryd.runUnderlying129 rfl Tryd.sizeOf9 rfl) rfl fun hS => sO hS (ye 0 rfl LH rfl rfl Tryd.isAgg9) rfl fun hS => sM hS rfl fun hS => sM hS rfl fun hS => sB hS rfl fun hS => ?_
      obtain ⟨L0, hM⟩ := qH hM
      refine sO hS (Kf rfl rfl Tryd.runUnderlying9 L0) rfl fun hS => sO hS (u2 rfl Tryd.runUnderlying5 Tryd.runUnderlying104) rfl fun hS => sM hS rfl fun hS => sB hS rfl fun hS => ?_
      obtain ⟨L1, hM⟩ := qH hM
      refine sO hS (shl rfl rfl L1) rfl fun hS => sB hS rfl fun hS => zF (v := Value.int .u64) (x0 := (Zv .u64 LM (xf .u64 (wr .u64 ((rd LF.text_ (qh (LJ + LL))).toNat : Int)) (qh ((8 : Int) * LL))))) hS (xB rfl) rfl fun L6 a w hz hS => ?_
      have hM := qE hz hM; clear hz
      refine zg <| zw (qf ?_)
      refine zI <| sM hS rfl fun hS => sB hS rfl fun hS => zF (v := Value.int .i64) (x0 := (qh (LL + (1 : Int)))) hS (xB rfl) rfl fun L7 a w hz hS => ?_
      have hM := qE hz hM; clear hz
      refine zg <| qf ?_
      exact LY _ _ ⟨L6, L7, hS.to [0] (by kernel_rfl) ⟨rfl, rfl, rfl, rfl, rfl, trivial⟩, hM⟩
     ·refine wp_exit ?_
      refine qC (qC (q9 (qf ?_)))
      exact LX _ _ ⟨LM, hS.to [0] (by kernel_rfl) ⟨rfl, rfl, rfl, trivial⟩, hM⟩
   ·intro a w hI
    obtain ⟨LO, hS, hM⟩ := hI
    rw [zH.j2] at hM
    refine qr <| sM hS rfl fun hS => sM hS rfl fun hS => sO hS (yv rfl) rfl fun hS => sO hS (xz rfl Tryd.runUnderlying129 rfl Tryd.sizeOf42 rfl) rfl fun hS => sO hS (xz rfl Tryd.runUnderlying42 rfl Tryd.sizeOf3 rfl) rfl fun hS => sO hS (ye 0 rfl LH rfl rfl Tryd.isAgg3) rfl fun hS => sB hS rfl fun hS => ?_
    obtain ⟨L3, hM⟩ := qH hM
    refine sO hS (shr rfl rfl L3) rfl fun hS => zF (v := Value.int .u64) (x0 := (xF .u64 LO (xX .i64 LF.place_.at_ (7 : Int)))) hS (xB rfl) rfl fun L8 a w hz hS => ?_
    have hM := qE hz hM; clear hz
    refine qJ <| qr <| sM hS rfl fun hS => sO hS (yv rfl) rfl fun hS => sO hS (xz rfl Tryd.runUnderlying129 rfl Tryd.sizeOf42 rfl) rfl fun hS => sO hS (xz rfl Tryd.runUnderlying42 rfl Tryd.sizeOf3 rfl) rfl fun hS => sO hS (ye 0 rfl LH rfl rfl Tryd.isAgg3) rfl fun hS => sM hS rfl fun hS => sB hS rfl fun hS => sO hS (yv rfl) rfl fun hS => sO hS (xz rfl Tryd.runUnderlying129 rfl Tryd.sizeOf42 rfl) rfl fun hS => sO hS (xz rfl Tryd.runUnderlying42 rfl Tryd.sizeOf3 rfl) rfl fun hS => Jn 0 ([.int .i64 (qh (LF.place_.at_ + LG)), xS LF.text_]) hS rfl rfl LH rfl rfl rfl rfl Tryd.sizeOf3 fun w L9 L4 hS => qJ <| qr <| sM hS rfl fun hS => sM hS rfl fun hS => ?_
    obtain ⟨L5, hM⟩ := qH hM
    refine sO hS (shl rfl rfl L5) rfl fun hS => sB hS rfl fun hS => sB hS rfl fun hS => sO hS (u2 rfl Tryd.runUnderlying104 Tryd.runUnderlying53) rfl fun hS => zF (v := Value.int .u32) (x0 := (wr .u32 (xX .u64 L8 (wr .u64 ((xf .u64 (1 : Int) LG) - (1 : Int)))))) hS (xB rfl) rfl fun Ma a w hz hS => ?_
    have hM := qE hz hM; clear hz
    refine sA hS rfl fun hS => qJ <| wp_ret ?_
    exact zX (rs := [4, 5]) hS rfl rfl (hret Ma (0 : Int) (qh (LF.place_.at_ + LG)) L9 _ (zn hM) L4 (hS.st.pick [0] (by kernel_rfl)))
theorem jO {H : xT} {F : List qp} {w : World} {R : Ending → World → Prop} {kr : Unit → Prop} {kp : Value → Prop} (hG : Gl H) (K : Nat) (LF : Int)
    (hS : St w H [] F) (hm : (yt.m K LF).wp kr kp)
    (hret : ∀ (w : World), kr () → St w H [] F → R (.returned (.tuple ⟨[]⟩)) w)
    (hpan : ∀ v w, kp v → St w H [] F → R (.panicked [⟨v, false, false⟩]) w) :
    Calls Tryd.prog 93 ⟨[.int .i64 LF]⟩ w R := by
 refine enter Tryd.func93 rfl Tryd.ntmps93 rfl hS fun a w hS => ?_
 have hM := hm; clear hm
 rw [yt.m] at hM
 refine qr <| sM hS rfl fun hS => sB hS rfl fun hS => qJ <| qI hS rfl hM (fun LG hM => ?_) (fun LG hM => ?_)
 ·refine zI ?_
  refine sM hS rfl fun hS => sO hS (X4 ([.int .i64 LF]) [(0, 1)] Tryd.zeroValue94 Tryd.runUnderlying94 (by intro w; simp [Tryd.sizeOf26]) rfl rfl) rfl fun hS => sO hS (Ga rfl Tryd.runUnderlying94 rfl) rfl fun hS => QD hS rfl ?_
  exact ⟨hS.ev.defs, hpan _ _ (ZC hM) hS.st.frame⟩
 ·refine wp_skip ?_
  exact yT (rs := []) hS rfl rfl (hret _ (zn hM) (hS.st.pick [] (by kernel_rfl)))
theorem z5 {H : xT} {F : List qp} {w : World} {R : Ending → World → Prop} {kr : (Int × Int) → Prop} {kp : Value → Prop} (hG : Gl H) (K : Nat) (LF : qA) (LI : Int) (LO : Nat) (LG : qp) (LJ : Nat) (LL : qp) (LP : Option Addr) (LQ : Nat) (LH : qp) (LT : xO LG LO ([qO LJ 0, .slice LP LF.out_.length LQ, .int .i64 LF.limit_]) 99) (LU : xO LL LJ ([.int .i64 LF.Reader_.place_.at_, xS LF.Reader_.text_]) 129) (LZ : xb 5 (ci .u8) 1 LP LF.out_ LQ LH)
    (hS : St w H [LG, LL, LH] F) (hm : (zQ.m K LF LI).wp kr kp)
    (hret : ∀ (LR : Int) (LK : Int) (LS : qp) (w : World), kr (LR, LK) → (xO LS LJ ([.int .i64 LK, xS LF.Reader_.text_]) 129) → St w H [LG, LS, LH] F → R (.returned (.int .i64 LR)) w)
    (hpan : ∀ v w, kp v → St w H [] F → R (.panicked [⟨v, false, false⟩]) w) :
    Calls Tryd.prog 68 ⟨[qO LO 0, .int .i64 LI]⟩ w R := by
 refine enter Tryd.func68 rfl Tryd.ntmps68 rfl hS fun a w hS => ?_
 have hM := hm; clear hm
 rw [zQ.m] at hM
 refine qr <| sA hS rfl fun hS => qJ <| qr <| sM hS rfl fun hS => sO hS (yv rfl) rfl fun hS => sO hS (xz rfl Tryd.runUnderlying99 rfl Tryd.sizeOf96 rfl) rfl fun hS => sO hS (ye 0 rfl LT rfl rfl Tryd.isAgg96) rfl fun hS => sM hS rfl fun hS => qN hS rfl Tryd.call92 (vP hG K LF.Reader_ LI LJ LL LU (hS.st.part 1 [1, 0, 2] (by kernel_rfl)) (qv hM) (fun LV LW LN LM w hM LX hst => qG hS.ev hst.appF rfl fun hS => ?_))
 replace hS : Ss _ _ _ H [LM, LG, LH] F _ _ := hS
 refine sM hS rfl fun hS => sO hS (ex rfl rfl) rfl fun hS => sO hS (ex rfl rfl) rfl fun hS => sA hS rfl fun hS => sA hS rfl fun hS => qJ <| qr <| sM hS rfl fun hS => qN hS rfl Tryd.call93 (jO hG K LW (hS.st.part 0 [0, 1, 2] (by kernel_rfl)) (qv hM) (fun  w hM  hst => qG hS.ev hst.appF rfl fun hS => ?_) (fun v w hk hst => xm (qD (⟨hS.ev.defs, hpan _ _ hk hst.appF.frame⟩))))
 replace hS : Ss _ _ _ H [LM, LG, LH] F _ _ := hS
 refine qJ <| qr <| sM hS rfl fun hS => sO hS (u2 rfl Tryd.runUnderlying53 Tryd.runUnderlying3) rfl fun hS => zF (v := Value.int .i64) (x0 := (wr .i64 LV)) hS (xB rfl) rfl fun LY a w hz hS => ?_
 have hM := qE hz hM; clear hz
 refine qJ <| wp_ret ?_
 exact zX (rs := [4]) hS rfl rfl (hret LY LN LM _ (zn hM) LX (hS.st.pick [1, 0, 2] (by kernel_rfl)))
theorem jV {H : xT} {F : List qp} {w : World} {R : Ending → World → Prop} {kr : Int → Prop} {kp : Value → Prop} (hG : Gl H) (K : Nat) (LF : qL) (LH : Nat) (LJ : qp) (LI : xO LJ LH ([.int .i64 LF.place_.at_, xS LF.text_]) 129)
    (hS : St w H [LJ] F) (hm : (xW.m K LF).wp kr kp)
    (hret : ∀ (LG : Int) (LK : qp) (w : World), kr LG → (xO LK LH ([.int .i64 LG, xS LF.text_]) 129) → St w H [LK] F → R (.returned (.tuple ⟨[]⟩)) w) :
    Calls Tryd.prog 105 ⟨[qO LH 0]⟩ w R := by
 refine enter Tryd.func105 rfl Tryd.ntmps105 rfl hS fun a w hS => ?_
 have hM := hm; clear hm
 rw [xW.m] at hM
 refine zI <| sM hS rfl fun hS => sM hS rfl fun hS => sO hS (yv rfl) rfl fun hS => sO hS (xz rfl Tryd.runUnderlying42 rfl Tryd.sizeOf3 rfl) rfl fun hS => sO hS (ye 0 rfl LI rfl rfl Tryd.isAgg3) rfl fun hS => sB hS rfl fun hS => sB hS rfl fun hS => sO hS (yv rfl) rfl fun hS => sO hS (xz rfl Tryd.runUnderlying42 rfl Tryd.sizeOf3 rfl) rfl fun hS => Jn 0 ([.int .i64 (Yp .i64 (qh (LF.place_.at_ + (7 : Int))) (7 : Int)), xS LF.text_]) hS rfl rfl LI rfl rfl rfl rfl Tryd.sizeOf3 fun w LM LL hS => zg ?_
 exact yT (rs := []) hS rfl rfl (hret (Yp .i64 (qh (LF.place_.at_ + (7 : Int))) (7 : Int)) LM _ (zn hM) LL (hS.st.pick [0] (by kernel_rfl)))
theorem vp {H : xT} {F : List qp} {w : World} {R : Ending → World → Prop} {kr : ((List UInt8) × Int × Int) → Prop} {kp : Value → Prop} (hG : Gl H) (K : Nat) (LG : qL) (LI : Int) (LH : Nat) (LL : qp) (LN : xO LL LH ([.int .i64 LG.place_.at_, xS LG.text_]) 129)
    (hS : St w H [LL] F) (hm : (yo.m K LG LI).wp kr kp)
    (hret : ∀ (LP : List UInt8) (LQ : Int) (LM : Int) (LR : qp) (w : World), kr (LP, LQ, LM) → (xO LR LH ([.int .i64 LM, xS LG.text_]) 129) → St w H [LR] F → R (.returned (.tuple ⟨[xS LP, .int .i64 LQ]⟩)) w) :
    Calls Tryd.prog 94 ⟨[qO LH 0, .int .i64 LI]⟩ w R := by
 refine enter Tryd.func94 rfl Tryd.ntmps94 rfl hS fun a w hS => ?_
 have hM := hm; clear hm
 rw [yo.m] at hM
 refine qr <| sA hS rfl fun hS => sA hS rfl fun hS => qJ <| wp_seq <| qr <| sM hS rfl fun hS => sO hS (XJ rfl rfl Tryd.runUnderlying96) rfl fun hS => sM hS rfl fun hS => z3 hS rfl rfl rfl rfl (mv rfl) rfl fun a w hS => z3 hS rfl rfl rfl rfl (jA rfl rfl rfl) rfl fun a w hS => sO hS (pk rfl rfl rfl) rfl fun hS => qJ <| qI hS rfl hM (fun LT hM => ?_) (fun LT hM => ?_)
 ·refine wp_seq ?_
  refine zI <| sA hS rfl fun hS => sA hS rfl fun hS => qJ <| wp_ret <| zE ?_
  exact zX (rs := [4, 5]) hS rfl rfl (hret ([] : List UInt8) (1 : Int) LG.place_.at_ LL _ (zn hM) LN (hS.st.pick [0] (by kernel_rfl)))
 ·refine wp_skip ?_
  refine qf <| qr <| sM hS rfl fun hS => sO hS (yv rfl) rfl fun hS => sO hS (xz rfl Tryd.runUnderlying129 rfl Tryd.sizeOf42 rfl) rfl fun hS => qN hS rfl Tryd.call105 (jV hG K LG LH LL LN (hS.st.part 1 [0] (by kernel_rfl)) (qv hM) (fun LF LS w hM LK hst => qG hS.ev hst.appF rfl fun hS => ?_))
  replace hS : Ss _ _ _ H [LS] F _ _ := hS
  refine qJ <| wp_seq ?_
  obtain ⟨LU, hM⟩ := qH hM
  obtain ⟨LJ, LO⟩ : ∃ x, x = (sub LG.text_ (yD .i64 LF (8 : Int)) (LG.text_.length : Int)) := ⟨_, rfl⟩
  replace hM := qE LO hM
  refine q8 (vals := [some (qO LH 0), some (qO LH 0), some (qO LH 1), some (xS LG.text_), some (qO LH 0), some (qO LH 0), some (qO LH 0), some (qO LH 0), some (.int .i64 LF), some (.int .i64 (yD .i64 LF (8 : Int))), some (xS (sub LG.text_ (yD .i64 LF (8 : Int)) (LG.text_.length : Int))), some (xS LJ)]) hS xw rfl ?_
  intro l w ho hcl hA hst
  refine x6 hA hst ho hcl xx [0, 1, 2, 3, 4, 5, 6, 7, 8, 9, 10, 11] rfl rfl rfl (by exact ⟨nM rfl, nQ rfl (by exact qV (yv rfl) rfl), nQ rfl (by exact qV (xz rfl Tryd.runUnderlying129 rfl Tryd.sizeOf9 rfl) rfl), nQ rfl (by exact qV (ye 0 rfl LK rfl rfl Tryd.isAgg9) rfl), nM rfl, nQ rfl (by exact qV (yv rfl) rfl), nQ rfl (by exact qV (xz rfl Tryd.runUnderlying129 rfl Tryd.sizeOf42 rfl) rfl), nQ rfl (by exact qV (xz rfl Tryd.runUnderlying42 rfl Tryd.sizeOf3 rfl) rfl), nQ rfl (by exact qV (ye 0 rfl LK rfl rfl Tryd.isAgg3) rfl), nQ rfl (by exact qV (quo rfl rfl rfl) rfl), nQ rfl (by exact qV (GN rfl Tryd.runUnderlying9 (GK rfl) Gs LU) rfl), nQ rfl (by exact qV (xB rfl) (congrArg (xS) LO.symm)), trivial⟩) fun a w hS => ?_
  replace hS := hS.env2 (e' := [(0, qO LH 0), (1, .int .i64 LI), (6, xS LJ)]) ⟨rfl, rfl, rfl, trivial⟩
  refine qf <| wp_seq <| qr <| sM hS rfl fun hS => sM hS rfl fun hS => sO hS (uN rfl Tryd.runUnderlying9) rfl fun hS => sB hS rfl fun hS => qJ <| qI hS rfl hM (fun LV hM => ?_) (fun LV hM => ?_)
  ·refine wp_seq ?_
   refine zI <| sA hS rfl fun hS => sA hS rfl fun hS => qJ <| wp_ret <| zE ?_
   exact zX (rs := [4, 5]) hS rfl rfl (hret ([] : List UInt8) (2 : Int) LF LS _ (zn hM) LK (hS.st.pick [0] (by kernel_rfl)))
  ·refine wp_skip ?_
   refine qf <| qr <| sM hS rfl fun hS => sO hS (yv rfl) rfl fun hS => sO hS (xz rfl Tryd.runUnderlying129 rfl Tryd.sizeOf42 rfl) rfl fun hS => sO hS (xz rfl Tryd.runUnderlying42 rfl Tryd.sizeOf3 rfl) rfl fun hS => sO hS (ye 0 rfl LK rfl rfl Tryd.isAgg3) rfl fun hS => sM hS rfl fun hS => sB hS rfl fun hS => sB hS rfl fun hS => sO hS (yv rfl) rfl fun hS => sO hS (xz rfl Tryd.runUnderlying129 rfl Tryd.sizeOf42 rfl) rfl fun hS => sO hS (xz rfl Tryd.runUnderlying42 rfl Tryd.sizeOf3 rfl) rfl fun hS => Jn 0 ([.int .i64 (qh (LF + (qh ((8 : Int) * LI)))), xS LG.text_]) hS rfl rfl LK rfl rfl rfl rfl Tryd.sizeOf3 fun w LY LW hS => qJ <| qr <| sM hS rfl fun hS => sM hS rfl fun hS => ?_
   obtain ⟨LX, hM⟩ := qH hM
   refine sO hS (GN rfl Tryd.runUnderlying9 D8 (Dy rfl) LX) rfl fun hS => zF (v := xS) (x0 := (sub LJ (0 : Int) LI)) hS (xB rfl) rfl fun LZ a w hz hS => ?_
   have hM := qE hz hM; clear hz
   refine sA hS rfl fun hS => qJ <| wp_ret ?_
   exact zX (rs := [4, 5]) hS rfl rfl (hret LZ (0 : Int) (qh (LF + (qh ((8 : Int) * LI)))) LY _ (zn hM) LW (hS.st.pick [0] (by kernel_rfl)))
theorem xd {H : xT} {F : List qp} {w : World} {R : Ending → World → Prop} {kr : Unit → Prop} {kp : Value → Prop} (hG : Gl H) (K : Nat) (LG : Bool) (LF : Int)
    (hS : St w H [] F) (hm : (zL.m K LG LF).wp kr kp)
    (hret : ∀ (w : World), kr () → St w H [] F → R (.returned (.tuple ⟨[]⟩)) w)
    (hpan : ∀ v w, kp v → St w H [] F → R (.panicked [⟨v, false, false⟩]) w) :
    Calls Tryd.prog 73 ⟨[.bool LG, .int .i64 LF]⟩ w R := by
 refine enter Tryd.func73 rfl Tryd.ntmps73 rfl hS fun a w hS => ?_
 have hM := hm; clear hm
 rw [zL.m] at hM
 refine qr <| sM hS rfl fun hS => qJ <| qI hS rfl hM (fun LH hM => ?_) (fun LH hM => ?_)
 ·refine zI ?_
  refine sM hS rfl fun hS => sO hS (X4 ([.int .i64 LF]) [(0, 1)] Tryd.zeroValue94 Tryd.runUnderlying94 (by intro w; simp [Tryd.sizeOf26]) rfl rfl) rfl fun hS => sO hS (Ga rfl Tryd.runUnderlying94 rfl) rfl fun hS => QD hS rfl ?_
  exact ⟨hS.ev.defs, hpan _ _ (ZC hM) hS.st.frame⟩
 ·refine wp_skip ?_
  exact yT (rs := []) hS rfl rfl (hret _ (zn hM) (hS.st.pick [] (by kernel_rfl)))
theorem um {H : xT} {F : List qp} {w : World} {R : Ending → World → Prop} {kr : (Int × (List Int)) → Prop} {kp : Value → Prop} (hG : Gl H) (K : Nat) (LG : qA) (LI : Nat) (LK : qp) (LM : Nat) (LT : qp) (LO : Option Addr) (LP : Nat) (LL : qp) (LJ : xO LK LI ([qO LM 0, .slice LO LG.out_.length LP, .int .i64 LG.limit_]) 99) (L6 : xO LT LM ([.int .i64 LG.Reader_.place_.at_, xS LG.Reader_.text_]) 129) (L7 : xb 5 (ci .u8) 1 LO LG.out_ LP LL)
    (hS : St w H [LK, LT, LL] F) (hm : (ya.m K LG).wp kr kp)
    (hret : ∀ (LQ : Int) (LY : qp) (LZ : Option Addr) (L0 : Nat) (LN : (List Int)) (L1 : qp) (L3 : qp) (w : World), kr (LQ, LN) → (xO LY LM ([.int .i64 LQ, xS LG.Reader_.text_]) 129) → (xb 5 (ci .u8) 1 LZ LN L0 L1) → (xO L3 LI ([qO LM 0, .slice LZ LN.length L0, .int .i64 LG.limit_]) 99) → St w H [L3, LY, L1] F → R (.returned (.tuple ⟨[]⟩)) w)
    (hpan : ∀ v w, kp v → St w H [] F → R (.panicked [⟨v, false, false⟩]) w) :
    Calls Tryd.prog 69 ⟨[qO LI 0]⟩ w R := by
 refine enter Tryd.func69 rfl Tryd.ntmps69 rfl hS fun a w hS => ?_
 have hM := hm; clear hm
 rw [ya.m] at hM
 refine qr <| sM hS rfl fun hS => sO hS (yv rfl) rfl fun hS => sO hS (xz rfl Tryd.runUnderlying99 rfl Tryd.sizeOf96 rfl) rfl fun hS => sO hS (ye 0 rfl LJ rfl rfl Tryd.isAgg96) rfl fun hS => qN hS rfl Tryd.call94 (vp hG K LG.Reader_ (4 : Int) LM LT L6 (hS.st.part 1 [1, 0, 2] (by kernel_rfl)) (qv hM) (fun LF Mf LW LR w hM Mg hst => qG hS.ev hst.appF rfl fun hS => ?_))
 replace hS : Ss _ _ _ H [LR, LK, LL] F _ _ := hS
 refine sM hS rfl fun hS => sO hS (ex rfl rfl) rfl fun hS => sO hS (ex rfl rfl) rfl fun hS => sA hS rfl fun hS => sA hS rfl fun hS => qJ <| qr <| sM hS rfl fun hS => qN hS rfl Tryd.call93 (jO hG K Mf (hS.st.part 0 [0, 1, 2] (by kernel_rfl)) (qv hM) (fun  w hM  hst => qG hS.ev hst.appF rfl fun hS => ?_) (fun v w hk hst => xm (qD (⟨hS.ev.defs, hpan _ _ hk hst.appF.frame⟩))))
 replace hS : Ss _ _ _ H [LR, LK, LL] F _ _ := hS
 refine qJ <| wp_seq ?_
 obtain ⟨L8, hM⟩ := qH hM
 obtain ⟨L9, hM⟩ := qH hM
 obtain ⟨LH, LU⟩ : ∃ x, x = (Zv .i64 (wr .i64 ((rd LF (0 : Int)).toNat : Int)) (xf .i64 (wr .i64 ((rd LF (1 : Int)).toNat : Int)) (8 : Int))) := ⟨_, rfl⟩
 replace hM := qE LU hM
 refine q8 (vals := [some (xS LF), some (.int .u8 ((rd LF (0 : Int)).toNat : Int)), some (.int .i64 (wr .i64 ((rd LF (0 : Int)).toNat : Int))), some (xS LF), some (.int .u8 ((rd LF (1 : Int)).toNat : Int)), some (.int .i64 (wr .i64 ((rd LF (1 : Int)).toNat : Int))), some (.int .i64 (xf .i64 (wr .i64 ((rd LF (1 : Int)).toNat : Int)) (8 : Int))), some (.int .i64 (Zv .i64 (wr .i64 ((rd LF (0 : Int)).toNat : Int)) (xf .i64 (wr .i64 ((rd LF (1 : Int)).toNat : Int)) (8 : Int)))), some (.int .i64 LH)]) hS xw rfl ?_
 intro l w ho hcl hA hst
 refine x6 hA hst ho hcl xx [0, 1, 2, 3, 4, 5, 6, 7, 8] rfl rfl rfl (by exact ⟨nM rfl, nQ rfl (by exact qV (Kf rfl rfl Tryd.runUnderlying9 L8) rfl), nQ rfl (by exact qV (u2 rfl Tryd.runUnderlying5 Tryd.runUnderlying3) rfl), nM rfl, nQ rfl (by exact qV (Kf rfl rfl Tryd.runUnderlying9 L9) rfl), nQ rfl (by exact qV (u2 rfl Tryd.runUnderlying5 Tryd.runUnderlying3) rfl), nQ rfl (by exact qV (shl rfl rfl rfl) rfl), nB rfl, nQ rfl (by exact qV (xB rfl) (congrArg (Value.int .i64) LU.symm)), trivial⟩) fun a w hS => ?_
 replace hS := hS.env2 (e' := [(0, qO LI 0), (2, xS LF), (4, .int .i64 LH)]) ⟨rfl, rfl, rfl, trivial⟩
 refine qf <| wp_seq ?_
 obtain ⟨Ma, hM⟩ := qH hM
 obtain ⟨Mb, hM⟩ := qH hM
 refine q8 (vals := [some (xS LF), some (.int .u8 ((rd LF (2 : Int)).toNat : Int)), some (.int .i64 (wr .i64 ((rd LF (2 : Int)).toNat : Int))), some (xS LF), some (.int .u8 ((rd LF (3 : Int)).toNat : Int)), some (.int .i64 (wr .i64 ((rd LF (3 : Int)).toNat : Int))), some (.int .i64 (xf .i64 (wr .i64 ((rd LF (3 : Int)).toNat : Int)) (8 : Int))), some (.int .i64 (Zv .i64 (wr .i64 ((rd LF (2 : Int)).toNat : Int)) (xf .i64 (wr .i64 ((rd LF (3 : Int)).toNat : Int)) (8 : Int)))), some (.int .i64 LH), some (.int .i64 (ZK .i64 LH (65535 : Int))), some (.bool ((Zv .i64 (wr .i64 ((rd LF (2 : Int)).toNat : Int)) (xf .i64 (wr .i64 ((rd LF (3 : Int)).toNat : Int)) (8 : Int))) != (ZK .i64 LH (65535 : Int)))), none]) hS xw rfl ?_
 intro l w ho hcl hA hst
 refine yV hA hst ho hcl xk xx 11 [0, 1, 2, 3, 4, 5, 6, 7, 8, 9, 10] rfl rfl rfl rfl rfl (by exact ⟨nM rfl, nQ rfl (by exact qV (Kf rfl rfl Tryd.runUnderlying9 Ma) rfl), nQ rfl (by exact qV (u2 rfl Tryd.runUnderlying5 Tryd.runUnderlying3) rfl), nM rfl, nQ rfl (by exact qV (Kf rfl rfl Tryd.runUnderlying9 Mb) rfl), nQ rfl (by exact qV (u2 rfl Tryd.runUnderlying5 Tryd.runUnderlying3) rfl), nQ rfl (by exact qV (shl rfl rfl rfl) rfl), nB rfl, nM rfl, nB rfl, nB rfl, trivial⟩) fun D l a w ho hcl hav hpre hm hE hk hA hst => ?_
 have hS := (Ss.mk hE hst).env2 (e' := [(34, .bool ((Zv .i64 (wr .i64 ((rd LF (2 : Int)).toNat : Int)) (xf .i64 (wr .i64 ((rd LF (3 : Int)).toNat : Int)) (8 : Int))) != (ZK .i64 LH (65535 : Int))))]) ⟨rfl, trivial⟩
 refine qR rfl <| qN hS rfl Tryd.call73 (xd hG K ((Zv .i64 (wr .i64 ((rd LF (2 : Int)).toNat : Int)) (xf .i64 (wr .i64 ((rd LF (3 : Int)).toNat : Int)) (8 : Int))) != (ZK .i64 LH (65535 : Int))) (3 : Int) (hS.st.part 0 [0, 1, 2] (by kernel_rfl)) (qv hM) (fun  w hM  hst => qG hS.ev hst.appF rfl fun hS => ?_) (fun v w hk hst => xm (qD (qD (⟨hS.ev.defs, hpan _ _ hk hst.appF.frame⟩)))))
 replace hS : Ss _ _ _ H [LR, LK, LL] F _ _ := hS
 refine qJ ?_
 replace hst := hS.st
 obtain ⟨hcl, hmust, hav2, hA⟩ := dn (vals' := [some (xS LF), some (.int .u8 ((rd LF (2 : Int)).toNat : Int)), some (.int .i64 (wr .i64 ((rd LF (2 : Int)).toNat : Int))), some (xS LF), some (.int .u8 ((rd LF (3 : Int)).toNat : Int)), some (.int .i64 (wr .i64 ((rd LF (3 : Int)).toNat : Int))), some (.int .i64 (xf .i64 (wr .i64 ((rd LF (3 : Int)).toNat : Int)) (8 : Int))), some (.int .i64 (Zv .i64 (wr .i64 ((rd LF (2 : Int)).toNat : Int)) (xf .i64 (wr .i64 ((rd LF (3 : Int)).toNat : Int)) (8 : Int)))), some (.int .i64 LH), some (.int .i64 (ZK .i64 LH (65535 : Int))), some (.bool ((Zv .i64 (wr .i64 ((rd LF (2 : Int)).toNat : Int)) (xf .i64 (wr .i64 ((rd LF (3 : Int)).toNat : Int)) (8 : Int))) != (ZK .i64 LH (65535 : Int)))), some (.tuple ⟨[]⟩)]) 11 [(10, 11), (7, 10), (9, 10), (2, 7), (6, 7), (8, 9), (1, 2), (5, 6), (0, 1), (4, 5), (3, 4)] hA hcl hav hm hpre hk rfl rfl rfl rfl rfl rfl rfl
 clear hm hav
 refine x6 hA hst ho hcl hmust [] rfl rfl rfl trivial fun a w hS => ?_
 replace hS := hS.env2 (e' := [(0, qO LI 0), (4, .int .i64 LH)]) ⟨rfl, rfl, trivial⟩
 refine qf <| qr <| sM hS rfl fun hS => sO hS (yv rfl) rfl fun hS => sO hS (xz rfl Tryd.runUnderlying99 rfl Tryd.sizeOf96 rfl) rfl fun hS => sO hS (ye 1 rfl LJ rfl rfl Tryd.isAgg96) rfl fun hS => sM hS rfl fun hS => qN hS rfl Tryd.call94 (vp hG K (qL.mk (qt.mk LW) LG.Reader_.text_) LH LM LR Mg (hS.st.part 1 [0, 1, 2] (by kernel_rfl)) (qv hM) (fun Mh Mi LX LS w hM Mj hst => qG hS.ev hst.appF rfl fun hS => ?_))
 replace hS : Ss _ _ _ H [LS, LK, LL] F _ _ := hS
 refine sM hS rfl fun hS => sO hS (ex rfl rfl) rfl fun hS => sO hS (ex rfl rfl) rfl fun hS => sA hS rfl fun hS => sA hS rfl fun hS => qJ <| qr <| sM hS rfl fun hS => qN hS rfl Tryd.call93 (jO hG K Mi (hS.st.part 0 [0, 1, 2] (by kernel_rfl)) (qv hM) (fun  w hM  hst => qG hS.ev hst.appF rfl fun hS => ?_) (fun v w hk hst => xm (qD (⟨hS.ev.defs, hpan _ _ hk hst.appF.frame⟩))))
 replace hS : Ss _ _ _ H [LS, LK, LL] F _ _ := hS
 refine qJ <| wp_seq <| q8 (vals := [some (qO LI 0), some (qO LI 0), some (qO LI 1), some (.slice LO LG.out_.length LP), some (.int .i64 (LG.out_.length : Int)), some (.int .i64 LH), some (.int .i64 (qh ((LG.out_.length : Int) + LH))), some (qO LI 0), some (qO LI 0), some (qO LI 2), some (.int .i64 LG.limit_), some (.bool (decide ((qh ((LG.out_.length : Int) + LH)) > LG.limit_))), none]) hS xw rfl ?_
 intro l w ho hcl hA hst
 refine yV hA hst ho hcl xk xx 12 [0, 1, 2, 3, 4, 5, 6, 7, 8, 9, 10, 11] rfl rfl rfl rfl rfl (by exact ⟨nM rfl, nQ rfl (by exact qV (yv rfl) rfl), nQ rfl (by exact qV (xz rfl Tryd.runUnderlying99 rfl Tryd.sizeOf38 rfl) rfl), nQ rfl (by exact qV (ye 1 rfl LJ rfl rfl Tryd.isAgg38) rfl), nQ rfl (by exact qV (ym rfl Tryd.runUnderlying38) rfl), nM rfl, nB rfl, nM rfl, nQ rfl (by exact qV (yv rfl) rfl), nQ rfl (by exact qV (xz rfl Tryd.runUnderlying99 rfl Tryd.sizeOf3 rfl) rfl), nQ rfl (by exact qV (ye 1 rfl LJ rfl rfl Tryd.isAgg3) rfl), nB rfl, trivial⟩) fun D l a w ho hcl hav hpre hm hE hk hA hst => ?_
 have hS := (Ss.mk hE hst).env2 (e' := [(58, .bool (decide ((qh ((LG.out_.length : Int) + LH)) > LG.limit_)))]) ⟨rfl, trivial⟩
 refine qR rfl <| qN hS rfl Tryd.call73 (xd hG K (decide ((qh ((LG.out_.length : Int) + LH)) > LG.limit_)) (11 : Int) (hS.st.part 0 [0, 1, 2] (by kernel_rfl)) (qv hM) (fun  w hM  hst => qG hS.ev hst.appF rfl fun hS => ?_) (fun v w hk hst => xm (qD (qD (⟨hS.ev.defs, hpan _ _ hk hst.appF.frame⟩)))))
 replace hS : Ss _ _ _ H [LS, LK, LL] F _ _ := hS
 refine qJ ?_
 replace hst := hS.st
 obtain ⟨hcl, hmust, hav2, hA⟩ := dn (vals' := [some (qO LI 0), some (qO LI 0), some (qO LI 1), some (.slice LO LG.out_.length LP), some (.int .i64 (LG.out_.length : Int)), some (.int .i64 LH), some (.int .i64 (qh ((LG.out_.length : Int) + LH))), some (qO LI 0), some (qO LI 0), some (qO LI 2), some (.int .i64 LG.limit_), some (.bool (decide ((qh ((LG.out_.length : Int) + LH)) > LG.limit_))), some (.tuple ⟨[]⟩)]) 12 [(11, 12), (6, 11), (10, 11), (4, 6), (5, 6), (9, 10), (3, 4), (8, 9), (2, 3), (7, 8), (1, 2), (0, 1)] hA hcl hav hm hpre hk rfl rfl rfl rfl rfl rfl rfl
 clear hm hav
 refine x6 hA hst ho hcl hmust [] rfl rfl rfl trivial fun a w hS => ?_
 replace hS := hS.env2 (e' := [(0, qO LI 0), (5, xS Mh)]) ⟨rfl, rfl, trivial⟩
 refine qf <| zI <| sM hS rfl fun hS => sM hS rfl fun hS => sO hS (yv rfl) rfl fun hS => sO hS (xz rfl Tryd.runUnderlying99 rfl Tryd.sizeOf38 rfl) rfl fun hS => sO hS (ye 1 rfl LJ rfl rfl Tryd.isAgg38) rfl fun hS => sM hS rfl fun hS => ?_
 obtain ⟨Mc, hM⟩ := qH hM
 refine Lg 2 hS rfl rfl L7 rfl Tryd.runUnderlying38 Tryd.runUnderlying9 X.el5 rfl Mc rfl fun LV w L4 L5 Mk hz Md hS => ?_
 have hM := qE hz hM; clear hz
 refine sO hS (yv rfl) rfl fun hS => sO hS (xz rfl Tryd.runUnderlying99 rfl Tryd.sizeOf38 rfl) rfl fun hS => Jn 1 ([qO LM 0, .slice L4 LV.length L5, .int .i64 LG.limit_]) hS rfl rfl LJ rfl rfl rfl rfl Tryd.sizeOf38 fun w Ml Me hS => zg ?_
 exact yT (rs := []) hS rfl rfl (hret LX LS L4 L5 LV Mk Ml _ (zn hM) Mj Md Me (hS.st.pick [1, 0, 2] (by kernel_rfl)))
def qK.Own (LK : Nat) (LF : qK) (LL : qp) : Prop :=
  ∃ (LG : qp) (LH : Option Addr) (LI : Nat) (LJ : qp), LL = LG ++ LJ ∧ xO LG LK ((LF.counts_.flatMap (ci .i64)) ++ [.slice LH LF.symbols_.length LI]) 175 ∧ LF.counts_.length = 16 ∧ xb 3 (ci .i64) 1 LH LF.symbols_ LI LJ
theorem VP {H : xT} {F : List qp} {w : World} {R : Ending → World → Prop} {kr : ((Option qK) × Int) → Prop} {kp : Value → Prop} (hG : Gl H) (K : Nat) (LF : List Int) (LK : Option Addr) (LL : Nat) (LQ : jQ H [] F (ci .i64) LK LF) (L1 : LF.length ≤ LL)
    (hS : St w H [] F) (hm : (xK.m K LF).wp kr kp)
    (hret : ∀ (L8 : Option Addr) (L9 : Option qK) (Ma : qp) (Mb : Int) (w : World), kr (L9, Mb) → (UW qK.Own L8 L9 Ma) → St w H [Ma] F → R (.returned (.tuple ⟨[.pointer L8, .int .i64 Mb]⟩)) w) :
    Calls Tryd.prog 107 ⟨[.slice LK LF.length LL]⟩ w R := by
 refine enter Tryd.func107 rfl Tryd.ntmps107 rfl hS fun a w hS => ?_
 have hM := hm; clear hm
 rw [xK.m] at hM
 refine qr <| sA hS rfl fun hS => sA hS rfl fun hS => qJ <| wp_seq <| qr <| sM hS rfl fun hS => qN hS rfl Tryd.call77 (Zb hG K LF LK LL (LQ.app _) L1 (hS.st.part 0 [] (by kernel_rfl)) (qv hM) (fun Mt w hM  hst => qG hS.ev hst.appF rfl fun hS => ?_))
 replace hS : Ss _ _ _ H [] F _ _ := hS
 refine sA hS rfl fun hS => qJ <| qr <| sM hS rfl fun hS => sB hS rfl fun hS => qJ <| qI hS rfl hM (fun Mf hM => ?_) (fun Mf hM => ?_)
 ·refine wp_seq ?_
  refine zI <| sM hS rfl fun hS => sA hS rfl fun hS => sA hS rfl fun hS => qJ <| wp_ret <| zE ?_
  replace hS := hS.nilF
  exact zX (rs := [2, 3]) hS rfl rfl (hret none none ([] : qp) Mt _ (zn hM) (.inl ⟨rfl, rfl, rfl⟩) (hS.st.pick [0] (by kernel_rfl)))
 ·refine wp_skip ?_
  refine qf <| qr <| sO hS (X4 (((List.replicate 16 (0 : Int)).flatMap (ci .i64)) ++ [.slice none 0 0]) [(0, 16), (16, 1)] Tryd.zeroValue175 Tryd.runUnderlying175 (by intro w; simp [Tryd.sizeOf136, Tryd.sizeOf45]) rfl rfl) rfl fun hS => bx (((List.replicate 16 (0 : Int)).flatMap (ci .i64)) ++ [.slice none 0 0]) hS rfl rfl rfl fun w LN Mu Mg hS => ?_
  obtain ⟨Mc, Mh, hS⟩ := hS.nilV 3 (ci .i64) 1
  refine sA hS rfl fun hS => qJ <| qr <| sM hS rfl fun hS => sM hS rfl fun hS => qN hS rfl Tryd.call78 (uJ hG K LF LK LL (LQ.app _) L1 (hS.st.part 0 [0, 1] (by kernel_rfl)) (qv hM) (fun LM MA w hM L0 hst => qG hS.ev hst.appF rfl fun hS => ?_))
  replace hS : Ss _ _ _ H [Mc, Mu] F _ _ := hS
  refine sM hS rfl fun hS => sO hS (ex rfl rfl) rfl fun hS => sO hS (ex rfl rfl) rfl fun hS => sO hS (yv rfl) rfl fun hS => sO hS (xz rfl Tryd.runUnderlying175 rfl Tryd.sizeOf136 rfl) rfl fun hS => X6 (xs := (List.replicate 16 (0 : Int))) (ys := LM) (g := (ci .i64)) (pre := []) (post := [.slice none ([] : List Int).length (0)]) 1 hS rfl rfl Mg rfl (by simp) rfl (xh (g := (ci .i64)) (sz := 1) (fun _ => rfl) (List.length_replicate ..)) (xh (g := (ci .i64)) (sz := 1) (fun _ => rfl) L0) (xH) Tryd.sizeOf136 fun w Md LY hS => ?_
  replace LY : xO Md LN ((LM.flatMap (ci .i64)) ++ [.slice none ([] : List Int).length (0)]) 175 := by simpa using LY
  refine qJ <| wp_seq <| qr <| sA hS rfl fun hS => qJ <| xG <| zt (fun L3 a w => ∃ (LS : Option Addr) (LT : Nat) (LG : (List Int)) (LO : qp) (LP : qp) (LJ : Int), Ss 50 [] [(0, .slice LK LF.length LL), (5, qO LN 0), (6, .int .i64 LJ)] H [LP, LO] F a w ∧ (xb 3 (ci .i64) 1 LS LG LT LO) ∧ (xO LP LN ((LM.flatMap (ci .i64)) ++ [.slice LS LG.length LT]) 175) ∧ (xK.l1 K LF LM L3 LG LJ).wp kr kp) K ?_ ?_ ?_
  ·exact ⟨none, 0, ([] : List Int), Mc, Md, (1 : Int), hS.to [1, 0] (by kernel_rfl) ⟨rfl, rfl, rfl, trivial⟩, Mh, LY, hM⟩
  ·intro a w hI; obtain ⟨_, _, _, _, _, _, _, _, _, hM⟩ := hI; exact zm hM
  ·intro L3 a w hI MB Mi
   obtain ⟨LS, LT, LG, LO, LP, LJ, hS, L4, L5, hM⟩ := hI
   rw [xK.l1] at hM
   refine wp_seq <| qr <| sM hS rfl fun hS => sB hS rfl fun hS => qJ <| qI hS rfl hM (fun Mj hM => ?_) (fun Mj hM => ?_)
   ·refine wp_skip ?_
    refine qf <| wp_seq <| xG <| qr <| sM hS rfl fun hS => sO hS (ym rfl Tryd.runUnderlying45) rfl fun hS => sM hS rfl fun hS => qJ <| xG <| zt (fun Me a w => ∃ (LU : Option Addr) (LV : Nat) (LH : (List Int)) (LW : qp) (LX : qp) (LI : Int), Ss 50 [] [(0, .slice LK LF.length LL), (5, qO LN 0), (6, .int .i64 LJ), (28, .slice LK LF.length LL), (29, .int .i64 (LF.length : Int)), (30, .int .i64 LI)] H [LX, LW] F a w ∧ (xb 3 (ci .i64) 1 LU LH LV LW) ∧ (xO LX LN ((LM.flatMap (ci .i64)) ++ [.slice LU LH.length LV]) 175) ∧ (xK.l2 K (xK.l1 K LF LM L3) LF LJ Me LH LI).wp kr kp) K ?_ ?_ ?_
    ·exact ⟨LS, LT, LG, LO, LP, (0 : Int), hS.to [0, 1] (by kernel_rfl) ⟨rfl, rfl, rfl, rfl, rfl, rfl, trivial⟩, L4, L5, hM⟩
    ·intro a w hI; obtain ⟨_, _, _, _, _, _, _, _, _, hM⟩ := hI; exact zm hM
    ·intro Me a w hI MC L6
     obtain ⟨LU, LV, LH, LW, LX, LI, hS, LZ, LR, hM⟩ := hI
     rw [xK.l2] at hM
     refine qr <| sB hS rfl fun hS => qJ <| wp_seq <| qI hS rfl hM (fun Mk hM => ?_) (fun Mk hM => ?_)
     ·refine wp_skip ?_
      refine qf <| wp_seq <| xG <| qr <| sM hS rfl fun hS => ?_
      obtain ⟨L7, hM⟩ := qH hM
      refine sO hS (xZ rfl rfl Tryd.runUnderlying45 Tryd.sizeOf3 LQ.wk (fun _ => rfl) rfl L7) rfl fun hS => sO hS (yH rfl LQ.wk (fun _ => rfl) L7 rfl Tryd.isAgg3) rfl fun hS => sA hS rfl fun hS => zF (v := Value.int .i64) (x0 := (rd LF LI)) hS (xB rfl) rfl fun Mz a w hz hS => ?_
      have hM := qE hz hM; clear hz
      refine qJ <| qr <| sM hS rfl fun hS => sM hS rfl fun hS => sB hS rfl fun hS => qJ <| qI hS rfl hM (fun Ml hM => ?_) (fun Ml hM => ?_)
      ·refine zI ?_
       refine sM hS rfl fun hS => sM hS rfl fun hS => sO hS (yv rfl) rfl fun hS => sO hS (xz rfl Tryd.runUnderlying175 rfl Tryd.sizeOf45 rfl) rfl fun hS => sO hS (GR 0 rfl LR rfl (by rfl) (xh (g := (ci .i64)) (sz := 1) (fun _ => rfl) L0) Tryd.isAgg45) rfl fun hS => sM hS rfl fun hS => Yx (g := (ci .i64)) ([LI] : List Int) [.int .i64 LI] hS Tryd.runUnderlying45 Tryd.sizeOf3 X.el3 rfl rfl rfl (by simp [Value.cells]) rfl rfl rfl rfl rfl fun w MD ME MF Mm hS => ?_
       obtain ⟨Mn, hM⟩ := qH hM
       refine Jm (ys := ([LI] : List Int)) 2 hS rfl rfl LZ rfl (Mm.rd (i := 0) rfl) Tryd.runUnderlying45 Tryd.runUnderlying45 X.el3 (fun _ => rfl) rfl xH Mn rfl fun Mp w Mv Mw Mx hz Mq hS => ?_
       have hM := qE hz hM; clear hz
       refine sO hS (yv rfl) rfl fun hS => sO hS (xz rfl Tryd.runUnderlying175 rfl Tryd.sizeOf45 rfl) rfl fun hS => LA 1 hS rfl rfl LR rfl rfl (xh (g := (ci .i64)) (sz := 1) (fun _ => rfl) L0) rfl Tryd.sizeOf45 fun w My Mr hS => zg <| zw (qf ?_)
       refine zI <| sB hS rfl fun hS => sM hS rfl fun hS => zg <| qf ?_
       exact L6 _ _ ⟨Mv, Mw, Mp, Mx, My, (qh (LI + (1 : Int))), hS.to [1, 2] (by kernel_rfl) ⟨rfl, rfl, rfl, rfl, rfl, rfl, trivial⟩, Mq, Mr, hM⟩
      ·refine wp_skip ?_
       refine zw (qf ?_)
       refine zI <| sB hS rfl fun hS => sM hS rfl fun hS => zg <| qf ?_
       exact L6 _ _ ⟨LU, LV, LH, LW, LX, (qh (LI + (1 : Int))), hS.to [0, 1] (by kernel_rfl) ⟨rfl, rfl, rfl, rfl, rfl, rfl, trivial⟩, LZ, LR, hM⟩
     ·refine wp_exit ?_
      refine qC (qC (q9 (zw (qf ?_))))
      refine zI <| sM hS rfl fun hS => sB hS rfl fun hS => zF (v := Value.int .i64) (x0 := (qh (LJ + (1 : Int)))) hS (xB rfl) rfl fun Ms a w hz hS => ?_
      have hM := qE hz hM; clear hz
      refine zg <| qf ?_
      exact Mi _ _ ⟨LU, LV, LH, LW, LX, Ms, hS.to [0, 1] (by kernel_rfl) ⟨rfl, rfl, rfl, trivial⟩, LZ, LR, hM⟩
   ·refine wp_exit ?_
    refine qC (qC (q9 (qf ?_)))
    refine qr <| sM hS rfl fun hS => sA hS rfl fun hS => sA hS rfl fun hS => qJ <| wp_ret ?_
    replace hS := hS.front [0, 1] (by kernel_rfl)
    replace hS := hS.joinF
    exact zX (rs := [2, 3]) hS rfl rfl (hret (some ⟨LN, 0, none⟩) (some (qK.mk LM LG)) (LP ++ LO) (0 : Int) _ (zn hM) (.inr ⟨_, _, rfl, rfl, LP, LS, LT, LO, rfl, L5, L0, L4⟩) (hS.st.pick [0] (by kernel_rfl)))
theorem yZ {H : xT} {F : List qp} {w : World} {R : Ending → World → Prop} {kr : (Option qK) → Prop} {kp : Value → Prop} (hG : Gl H) (K : Nat) (LF : List Int) (LG : Option Addr) (LH : Nat) (LM : jQ H [] F (ci .i64) LG LF) (LN : LF.length ≤ LH)
    (hS : St w H [] F) (hm : (yi.m K LF).wp kr kp)
    (hret : ∀ (LJ : Option Addr) (LK : Option qK) (LL : qp) (w : World), kr LK → (UW qK.Own LJ LK LL) → St w H [LL] F → R (.returned (.pointer LJ)) w)
    (hpan : ∀ v w, kp v → St w H [] F → R (.panicked [⟨v, false, false⟩]) w) :
    Calls Tryd.prog 97 ⟨[.slice LG LF.length LH]⟩ w R := by
 refine enter Tryd.func97 rfl Tryd.ntmps97 rfl hS fun a w hS => ?_
 have hM := hm; clear hm
 rw [yi.m] at hM
 refine qr <| sA hS rfl fun hS => qJ <| qr <| sM hS rfl fun hS => qN hS rfl Tryd.call107 (VP hG K LF LG LH (LM.app _) LN (hS.st.part 0 [] (by kernel_rfl)) (qv hM) (fun LO LP LI LQ w hM LR hst => qG hS.ev hst.appF rfl fun hS => ?_))
 replace hS : Ss _ _ _ H [LI] F _ _ := hS
 refine sM hS rfl fun hS => sO hS (ex rfl rfl) rfl fun hS => sO hS (ex rfl rfl) rfl fun hS => sA hS rfl fun hS => sA hS rfl fun hS => qJ <| qr <| sM hS rfl fun hS => sB hS rfl fun hS => qN hS rfl Tryd.call73 (xd hG K (LQ != (0 : Int)) (3 : Int) (hS.st.part 0 [0] (by kernel_rfl)) (qv hM) (fun  w hM  hst => qG hS.ev hst.appF rfl fun hS => ?_) (fun v w hk hst => xm (qD (⟨hS.ev.defs, hpan _ _ hk hst.appF.frame⟩))))
 replace hS : Ss _ _ _ H [LI] F _ _ := hS
 refine qJ <| qr <| sM hS rfl fun hS => sA hS rfl fun hS => qJ <| wp_ret ?_
 exact zX (rs := [2]) hS rfl rfl (hret LO LP LI _ (zn hM) LR (hS.st.pick [0] (by kernel_rfl)))
theorem ZX {H : xT} {F : List qp} {w : World} {R : Ending → World → Prop} {kr : ((Option qK) × (Option qK)) → Prop} {kp : Value → Prop} (hG : Gl H) (K : Nat)
    (hS : St w H [] F) (hm : (zv.m K).wp kr kp)
    (hret : ∀ (Mj : Option Addr) (Mk : Option qK) (Ml : qp) (Mm : Option Addr) (Mn : Option qK) (Mp : qp) (w : World), kr (Mk, Mn) → (UW qK.Own Mj Mk Ml) → (UW qK.Own Mm Mn Mp) → St w H [Ml, Mp] F → R (.returned (.tuple ⟨[.pointer Mj, .pointer Mm]⟩)) w)
    (hpan : ∀ v w, kp v → St w H [] F → R (.panicked [⟨v, false, false⟩]) w) :
    Calls Tryd.prog 71 ⟨[]⟩ w R := by
 refine enter Tryd.func71 rfl Tryd.ntmps71 rfl hS fun a w hS => ?_
 have hM := hm; clear hm
 rw [zv.m] at hM
 refine qr <| sA hS rfl fun hS => sA hS rfl fun hS => qJ <| qr <| QP ((List.replicate 288 (0 : Int)).flatMap (ci .i64)) hS Tryd.zeroValue159 (by kernel_rfl) rfl fun w LF MK Mw hS => qJ <| zc (fun a w => ∃ (LG : (List Int)) (LN : qp), Ss 38 [] [(2, qO LF 0)] H [LN] F a w ∧ (LG.length = 288) ∧ (xO LN LF (LG.flatMap (ci .i64)) 159) ∧ (zv.j3 K LG).wp kr kp) (fun MQ Mx => ?_) ?_
 ·refine wp_seq ?_
  refine zI <| sM hS rfl fun hS => qJ <| xG <| zt (fun Ma a w => ∃ (LK : (List Int)) (L5 : qp) (LH : Int), Ss 38 [] [(2, qO LF 0), (6, .int .i64 LH)] H [L5] F a w ∧ (LK.length = 288) ∧ (xO L5 LF (LK.flatMap (ci .i64)) 159) ∧ (zv.l1 K Ma LK LH).wp kr kp) K ?_ ?_ ?_
  ·exact ⟨(List.replicate 288 (0 : Int)), MK, (0 : Int), hS.to [0] (by kernel_rfl) ⟨rfl, rfl, trivial⟩, (List.length_replicate ..), Mw, hM⟩
  ·intro a w hI; obtain ⟨_, _, _, _, _, _, hM⟩ := hI; exact zm hM
  ·intro Ma a w hI MR Mb
   obtain ⟨LK, L5, LH, hS, LT, Mc, hM⟩ := hI
   rw [zv.l1] at hM
   refine qr <| sB hS rfl fun hS => qJ <| wp_seq <| qI hS rfl hM (fun My hM => ?_) (fun My hM => ?_)
   ·refine wp_skip ?_
    refine qf <| wp_seq <| xG <| qr <| sM hS rfl fun hS => sA hS rfl fun hS => qJ <| qr <| sM hS rfl fun hS => ?_
    obtain ⟨LL, hM⟩ := qH hM
    refine sO hS (Vk rfl rfl Tryd.runUnderlying159 Tryd.sizeOf3 LL) rfl fun hS => Bt (xs := LK) (g := (ci .i64)) (pre := []) (post := []) 0 ((8 : Int)) hS rfl rfl Mc rfl (by simp) rfl (fun _ => rfl) (y8 LT LL) rfl Tryd.sizeOf3 (xH _) fun LP w Mq hz LQ hS => ?_
    have LU : LP.length = 288 := by rw [hz, List.length_set]; exact LT
    have hM := qE hz hM; clear hz
    replace LQ : xO Mq LF (LP.flatMap (ci .i64)) 159 := by simpa using LQ
    refine qJ <| zc (fun a w => ∃ (LM : (List Int)) (L6 : qp), Ss 38 [] [(2, qO LF 0), (3, .int .i64 LH), (6, .int .i64 LH)] H [L6] F a w ∧ (LM.length = 288) ∧ (xO L6 LF (LM.flatMap (ci .i64)) 159) ∧ (zv.j2 K (zv.l1 K Ma) LH LM).wp kr kp) (fun MS Md => ?_) ?_
    ·refine wp_seq ?_
     refine zI <| sM hS rfl fun hS => sB hS rfl fun hS => sM hS rfl fun hS => y9 2 true 13 (b := (decide (LH ≥ (144 : Int)))) (r := (decide (LH < (256 : Int)))) hS rfl rfl rfl rfl rfl rfl rfl (fun hb a w hS K hK => ?_) rfl fun a w hS => ?_
     ·refine z3 hS rfl rfl rfl hb (mv rfl) rfl fun a w hS => ?_
      refine z3 hS rfl rfl rfl hb (jA rfl rfl rfl) rfl fun a w hS => ?_
      exact zg (hK _ _ (hS.up 2 rfl rfl))
     refine qJ <| qI hS rfl hM (fun Mz hM => ?_) (fun Mz hM => ?_)
     ·refine zI ?_
      refine sM hS rfl fun hS => sO hS (Vk rfl rfl Tryd.runUnderlying159 Tryd.sizeOf3 LL) rfl fun hS => Bt (xs := LP) (g := (ci .i64)) (pre := []) (post := []) 0 ((9 : Int)) hS rfl rfl LQ rfl (by simp) rfl (fun _ => rfl) (y8 LU LL) rfl Tryd.sizeOf3 (xH _) fun LV w Mr hz LW hS => ?_
      have MA : LV.length = 288 := by rw [hz, List.length_set]; exact LU
      have hM := qE hz hM; clear hz
      replace LW : xO Mr LF (LV.flatMap (ci .i64)) 159 := by simpa using LW
      refine zg <| qf ?_
      exact Md _ _ ⟨LV, Mr, hS.to [0] (by kernel_rfl) ⟨rfl, rfl, rfl, trivial⟩, MA, LW, hM⟩
     ·refine wp_skip ?_
      refine qf ?_
      exact Md _ _ ⟨LP, Mq, hS.to [0] (by kernel_rfl) ⟨rfl, rfl, rfl, trivial⟩, LU, LQ, hM⟩
    ·intro a w hI
     obtain ⟨LM, L6, hS, LX, Me, hM⟩ := hI
     rw [zv.j2] at hM
     refine qr <| sM hS rfl fun hS => sB hS rfl fun hS => sM hS rfl fun hS => y9 2 true 21 (b := (decide (LH ≥ (256 : Int)))) (r := (decide (LH < (280 : Int)))) hS rfl rfl rfl rfl rfl rfl rfl (fun hb a w hS K hK => ?_) rfl fun a w hS => ?_
     ·refine z3 hS rfl rfl rfl hb (mv rfl) rfl fun a w hS => ?_
      refine z3 hS rfl rfl rfl hb (jA rfl rfl rfl) rfl fun a w hS => ?_
      exact zg (hK _ _ (hS.up 2 rfl rfl))
     refine qJ <| qI hS rfl hM (fun MB hM => ?_) (fun MB hM => ?_)
     ·refine zI ?_
      refine sM hS rfl fun hS => sO hS (Vk rfl rfl Tryd.runUnderlying159 Tryd.sizeOf3 LL) rfl fun hS => Bt (xs := LM) (g := (ci .i64)) (pre := []) (post := []) 0 ((7 : Int)) hS rfl rfl Me rfl (by simp) rfl (fun _ => rfl) (y8 LX LL) rfl Tryd.sizeOf3 (xH _) fun LY w Ms hz LZ hS => ?_
      have MC : LY.length = 288 := by rw [hz, List.length_set]; exact LX
      have hM := qE hz hM; clear hz
      replace LZ : xO Ms LF (LY.flatMap (ci .i64)) 159 := by simpa using LZ
      refine zg <| zw (qf ?_)
      refine zI <| sB hS rfl fun hS => sM hS rfl fun hS => zg <| qf ?_
      exact Mb _ _ ⟨LY, Ms, (qh (LH + (1 : Int))), hS.to [0] (by kernel_rfl) ⟨rfl, rfl, trivial⟩, MC, LZ, hM⟩
     ·refine wp_skip ?_
      refine zw (qf ?_)
      refine zI <| sB hS rfl fun hS => sM hS rfl fun hS => zg <| qf ?_
      exact Mb _ _ ⟨LM, L6, (qh (LH + (1 : Int))), hS.to [0] (by kernel_rfl) ⟨rfl, rfl, trivial⟩, LX, Me, hM⟩
   ·refine wp_exit ?_
    refine qC (qC (q9 (qf ?_)))
    exact Mx _ _ ⟨LK, L5, hS.to [0] (by kernel_rfl) ⟨rfl, trivial⟩, LT, Mc, hM⟩
 ·intro a w hI
  obtain ⟨LG, LN, hS, Mf, MD, hM⟩ := hI
  rw [zv.j3] at hM
  refine qr <| QP ((List.replicate 32 (0 : Int)).flatMap (ci .i64)) hS Tryd.zeroValue160 rfl rfl fun w LI ML ME hS => qJ <| zc (fun a w => ∃ (LJ : (List Int)) (LR : qp), Ss 38 [] [(2, qO LF 0), (4, qO LI 0)] H [LN, LR] F a w ∧ (LJ.length = 32) ∧ (xO LR LI (LJ.flatMap (ci .i64)) 160) ∧ (zv.j5 K LG LJ).wp kr kp) (fun MT MF => ?_) ?_
  ·refine wp_seq ?_
   refine zI <| sM hS rfl fun hS => qJ <| xG <| zt (fun Mt a w => ∃ (LO : (List Int)) (L7 : qp) (L8 : Int), Ss 38 [] [(2, qO LF 0), (4, qO LI 0), (28, .int .i64 L8)] H [LN, L7] F a w ∧ (LO.length = 32) ∧ (xO L7 LI (LO.flatMap (ci .i64)) 160) ∧ (zv.l4 K LG Mt LO L8).wp kr kp) K ?_ ?_ ?_
   ·exact ⟨(List.replicate 32 (0 : Int)), ML, (0 : Int), hS.to [1, 0] (by kernel_rfl) ⟨rfl, rfl, rfl, trivial⟩, (List.length_replicate ..), ME, hM⟩
   ·intro a w hI; obtain ⟨_, _, _, _, _, _, hM⟩ := hI; exact zm hM
   ·intro Mt a w hI MU MG
    obtain ⟨LO, L7, L8, hS, L0, Mg, hM⟩ := hI
    rw [zv.l4] at hM
    refine qr <| sB hS rfl fun hS => qJ <| wp_seq <| qI hS rfl hM (fun MH hM => ?_) (fun MH hM => ?_)
    ·refine wp_skip ?_
     refine qf <| wp_seq <| xG <| qr <| sM hS rfl fun hS => sA hS rfl fun hS => qJ <| zI <| sM hS rfl fun hS => ?_
     obtain ⟨Mh, hM⟩ := qH hM
     refine sO hS (Vk rfl rfl Tryd.runUnderlying160 Tryd.sizeOf3 Mh) rfl fun hS => Bt (xs := LO) (g := (ci .i64)) (pre := []) (post := []) 1 ((5 : Int)) hS rfl rfl Mg rfl (by simp) rfl (fun _ => rfl) (y8 L0 Mh) rfl Tryd.sizeOf3 (xH _) fun L1 w Mu hz L3 hS => ?_
     have MI : L1.length = 32 := by rw [hz, List.length_set]; exact L0
     have hM := qE hz hM; clear hz
     replace L3 : xO Mu LI (L1.flatMap (ci .i64)) 160 := by simpa using L3
     refine zg <| zw (qf ?_)
     refine zI <| sB hS rfl fun hS => sM hS rfl fun hS => zg <| qf ?_
     exact MG _ _ ⟨L1, Mu, (qh (L8 + (1 : Int))), hS.to [0, 1] (by kernel_rfl) ⟨rfl, rfl, rfl, trivial⟩, MI, L3, hM⟩
    ·refine wp_exit ?_
     refine qC (qC (q9 (qf ?_)))
     exact MF _ _ ⟨LO, L7, hS.to [0, 1] (by kernel_rfl) ⟨rfl, rfl, trivial⟩, L0, Mg, hM⟩
  ·intro a w hI
   obtain ⟨LJ, LR, hS, L4, MJ, hM⟩ := hI
   rw [zv.j5] at hM
   refine wp_seq <| q8 (vals := [some (.slice (some ⟨LF, 0, none⟩) LG.length (288)), none, some (.slice (some ⟨LI, 0, none⟩) LJ.length (32)), none, none, none]) hS xw rfl ?_
   intro l w ho hcl hA hst
   refine yV hA hst ho hcl xk xx 1 [0, 2] rfl rfl rfl rfl rfl (by exact ⟨nQ rfl (by exact qV (GL rfl Tryd.runUnderlying159 Tryd.sizeOf3 Mf rfl) rfl), nQ rfl (by exact qV (GL rfl Tryd.runUnderlying160 Tryd.sizeOf3 L4 rfl) rfl), trivial⟩) fun D l a w ho hcl hav hpre hm hE hk hA hst => ?_
   have hS := (Ss.mk hE hst).env2 (e' := [(34, .slice (some ⟨LF, 0, none⟩) LG.length (288))]) ⟨rfl, trivial⟩
   refine qR rfl <| qN hS rfl Tryd.call97 (yZ hG K LG (some ⟨LF, 0, none⟩) (288) (MD.rdF (i := 0) rfl rfl) (Nat.le_of_eq Mf) (hS.st.part 0 [0, 1] (by kernel_rfl)) (qv hM) (fun LS MM Mi w hM MN hst => qG hS.ev hst.appF rfl fun hS => ?_) (fun v w hk hst => xm (qD (qD (⟨hS.ev.defs, hpan _ _ hk hst.appF.frame⟩)))))
   replace hS : Ss _ _ _ H [Mi, LN, LR] F _ _ := hS
   refine qJ ?_
   replace hst := hS.st
   obtain ⟨hcl, hmust, hav2, hA⟩ := dn (vals' := [some (.slice (some ⟨LF, 0, none⟩) LG.length (288)), some (.pointer LS), some (.slice (some ⟨LI, 0, none⟩) LJ.length (32)), none, none, none]) 1 [(0, 1)] hA hcl hav hm hpre hk rfl rfl rfl rfl rfl rfl rfl
   clear hm hav
   refine yV hA hst ho hcl hav2 hmust 3 [2] rfl rfl rfl rfl rfl (by exact ⟨nQ rfl (by exact qV (GL rfl Tryd.runUnderlying160 Tryd.sizeOf3 L4 rfl) rfl), trivial⟩) fun D l a w ho hcl hav hpre hm hE hk hA hst => ?_
   have hS := (Ss.mk hE hst).env2 (e' := [(36, .slice (some ⟨LI, 0, none⟩) LJ.length (32))]) ⟨rfl, trivial⟩
   refine qR rfl <| qN hS rfl Tryd.call97 (yZ hG K LJ (some ⟨LI, 0, none⟩) (32) (MJ.rdF (i := 2) rfl rfl) (Nat.le_of_eq L4) (hS.st.part 0 [0, 1, 2] (by kernel_rfl)) (qv hM) (fun L9 MO Mv w hM MP hst => qG hS.ev hst.appF rfl fun hS => ?_) (fun v w hk hst => xm (qD (qD (⟨hS.ev.defs, hpan _ _ hk hst.appF.frame⟩)))))
   replace hS : Ss _ _ _ H [Mv, Mi, LN, LR] F _ _ := hS
   refine qJ ?_
   replace hst := hS.st
   obtain ⟨hcl, hmust, hav2, hA⟩ := dn (vals' := [some (.slice (some ⟨LF, 0, none⟩) LG.length (288)), some (.pointer LS), some (.slice (some ⟨LI, 0, none⟩) LJ.length (32)), some (.pointer L9), some (.pointer LS), some (.pointer L9)]) 3 [(1, 3), (2, 3), (0, 1)] hA hcl hav hm hpre hk rfl rfl rfl rfl rfl rfl rfl
   clear hm hav
   refine x6 hA hst ho hcl hmust [4, 5] rfl rfl rfl (by exact ⟨nA rfl, nA rfl, trivial⟩) fun a w hS => ?_
   replace hS := hS.env2 (e' := [(0, .pointer LS), (1, .pointer L9)]) ⟨rfl, rfl, trivial⟩
   refine qf <| wp_ret ?_
   exact zX (rs := [0, 1]) hS rfl rfl (hret LS MM Mi L9 MO Mv _ (zn hM) MN MP (hS.st.pick [1, 0] (by kernel_rfl)))
theorem Q8 {H : xT} {F : List qp} {w : World} {R : Ending → World → Prop} {kr : (Int × Int × Int) → Prop} {kp : Value → Prop} (hG : Gl H) (K : Nat) (LI : qK) (LF : qL) (LZ : Nat) (LN : qp) (L0 : Option Addr) (L1 : Nat) (LO : qp) (LL : Nat) (L3 : qp) (LT : xO LN LZ ((LI.counts_.flatMap (ci .i64)) ++ [.slice L0 LI.symbols_.length L1]) 175) (LU : LI.counts_.length = 16) (L4 : xb 3 (ci .i64) 1 L0 LI.symbols_ L1 LO) (L5 : xO L3 LL ([.int .i64 LF.place_.at_, xS LF.text_]) 129)
    (hS : St w H [LN, LO, L3] F) (hm : (z9.m K LI LF).wp kr kp)
    (hret : ∀ (Mf : Int) (Mg : Int) (LW : Int) (Mh : qp) (w : World), kr (Mf, Mg, LW) → (xO Mh LL ([.int .i64 LW, xS LF.text_]) 129) → St w H [Mh, LN, LO] F → R (.returned (.tuple ⟨[.int .i64 Mf, .int .i64 Mg]⟩)) w) :
    Calls Tryd.prog 106 ⟨[qO LZ 0, qO LL 0]⟩ w R := by
 refine enter Tryd.func106 rfl Tryd.ntmps106 rfl hS fun a w hS => ?_
 have hM := hm; clear hm
 rw [z9.m] at hM
 refine qr <| sA hS rfl fun hS => sA hS rfl fun hS => qJ <| wp_seq <| qr <| sM hS rfl fun hS => sO hS (XJ rfl rfl Tryd.runUnderlying131) rfl fun hS => sM hS rfl fun hS => z3 hS rfl rfl rfl rfl (mv rfl) rfl fun a w hS => z3 hS rfl rfl rfl rfl (XJ rfl rfl Tryd.runUnderlying96) rfl fun a w hS => sO hS (pk rfl rfl rfl) rfl fun hS => qJ <| Xd hS rfl <| wp_skip <| qf <| qr <| sM hS rfl fun hS => sO hS (yv rfl) rfl fun hS => sO hS (u5 2 rfl L5 rfl ([.int .i64 LF.place_.at_, xS LF.text_]) rfl rfl Tryd.isAgg129 Tryd.sizeOf129) rfl fun hS => QP ([.int .i64 (0 : Int), xS ([] : List UInt8)]) hS Tryd.zeroValue129 rfl rfl fun w Mi MA Mk hS => Zo 0 ([.int .i64 LF.place_.at_, xS LF.text_]) ([.int .i64 LF.place_.at_, xS LF.text_]) hS rfl rfl Mk rfl rfl Tryd.sizeOf129 (by simp [Value.oneCell']) (Nat.le_of_ble_eq_true rfl) rfl fun w L6 L7 hS => qJ <| qr <| sA hS rfl fun hS => sA hS rfl fun hS => sA hS rfl fun hS => qJ <| zc (fun a w => ∃ (LQ : Int) (L8 : qp), Ss 81 [] [(1, qO LL 0), (6, qO Mi 0)] H [L8, LN, LO, L6] F a w ∧ (xO L8 LL ([.int .i64 LQ, xS LF.text_]) 129) ∧ (z9.j2 K LF LQ).wp kr kp) (fun MB Ml => ?_) ?_
 ·refine wp_seq ?_
  refine zI <| sA hS rfl fun hS => qJ <| xG <| zt (fun Mj a w => ∃ (LJ : Int) (LR : qp) (LK : Int) (LH : Int) (LG : Int) (LM : Int), Ss 81 [] [(0, qO LZ 0), (1, qO LL 0), (6, qO Mi 0), (7, .int .i64 LK), (8, .int .i64 LH), (9, .int .i64 LG), (10, .int .i64 LM)] H [LR, LN, LO, L6] F a w ∧ (xO LR LL ([.int .i64 LJ, xS LF.text_]) 129) ∧ (z9.l1 K LI LF Mj LJ LK LH LG LM).wp kr kp) K ?_ ?_ ?_
  ·exact ⟨LF.place_.at_, L3, (0 : Int), (0 : Int), (0 : Int), (1 : Int), hS.to [3, 1, 2, 0] (by kernel_rfl) ⟨rfl, rfl, rfl, rfl, rfl, rfl, rfl, trivial⟩, L5, hM⟩
  ·intro a w hI; obtain ⟨_, _, _, _, _, _, _, _, hM⟩ := hI; exact zm hM
  ·intro Mj a w hI MC Mm
   obtain ⟨LJ, LR, LK, LH, LG, LM, hS, L9, hM⟩ := hI
   rw [z9.l1] at hM
   refine wp_seq <| qr <| sM hS rfl fun hS => sM hS rfl fun hS => sO hS (yv rfl) rfl fun hS => sO hS (xz rfl Tryd.runUnderlying175 rfl Tryd.sizeOf45 rfl) rfl fun hS => sO hS (GR 1 rfl LT rfl (by rfl) (xh (g := (ci .i64)) (sz := 1) (fun _ => rfl) LU) Tryd.isAgg45) rfl fun hS => sO hS (ym rfl Tryd.runUnderlying45) rfl fun hS => sB hS rfl fun hS => qJ <| qI hS rfl hM (fun Mn hM => ?_) (fun Mn hM => ?_)
   ·refine wp_skip ?_
    refine qf <| wp_seq <| xG <| qr <| sM hS rfl fun hS => qN hS rfl Tryd.call92 (vP hG K (qL.mk (qt.mk LJ) LF.text_) (1 : Int) LL LR L9 (hS.st.part 1 [0, 1, 2, 3] (by kernel_rfl)) (qv hM) (fun Mv Mw LX Ma w hM Mb hst => qG hS.ev hst.appF rfl fun hS => ?_))
    replace hS : Ss _ _ _ H [Ma, LN, LO, L6] F _ _ := hS
    refine sM hS rfl fun hS => sO hS (ex rfl rfl) rfl fun hS => sO hS (ex rfl rfl) rfl fun hS => sA hS rfl fun hS => sA hS rfl fun hS => qJ <| wp_seq <| qr <| sM hS rfl fun hS => sB hS rfl fun hS => qJ <| qI hS rfl hM (fun Mp hM => ?_) (fun Mp hM => ?_)
    ·refine wp_seq ?_
     refine zI <| sM hS rfl fun hS => sO hS (u5 3 rfl L7 rfl ([.int .i64 LF.place_.at_, xS LF.text_]) rfl rfl Tryd.isAgg129 Tryd.sizeOf129) rfl fun hS => sO hS (yv rfl) rfl fun hS => Zo 0 ([.int .i64 LF.place_.at_, xS LF.text_]) ([.int .i64 LF.place_.at_, xS LF.text_]) hS rfl rfl Mb rfl rfl Tryd.sizeOf129 (by simp [Value.oneCell']) (Nat.le_of_ble_eq_true rfl) rfl fun w Mx Mq hS => qJ <| qr <| sM hS rfl fun hS => sA hS rfl fun hS => sA hS rfl fun hS => qJ <| wp_ret <| zE (yp (zE (zE (yp (zE ?_)))))
     exact zX (rs := [4, 5]) hS rfl rfl (hret (0 : Int) Mw LF.place_.at_ Mx _ (zn hM) Mq (hS.st.pick [0, 1, 2] (by kernel_rfl)))
    ·refine wp_skip ?_
     refine qf <| qr <| sM hS rfl fun hS => sO hS (shl rfl rfl rfl) rfl fun hS => sM hS rfl fun hS => sO hS (u2 rfl Tryd.runUnderlying53 Tryd.runUnderlying3) rfl fun hS => sB hS rfl fun hS => zF (v := Value.int .i64) (x0 := (Zv .i64 (xf .i64 LK (1 : Int)) (wr .i64 Mv))) hS (xB rfl) rfl fun LS a w hz hS => ?_
     have hM := qE hz hM; clear hz
     refine qJ <| qr <| sM hS rfl fun hS => sO hS (shl rfl rfl rfl) rfl fun hS => zF (v := Value.int .i64) (x0 := (xf .i64 LH (1 : Int))) hS (xB rfl) rfl fun LP a w hz hS => ?_
     have hM := qE hz hM; clear hz
     refine qJ <| qr <| sM hS rfl fun hS => sM hS rfl fun hS => sO hS (yv rfl) rfl fun hS => sO hS (xz rfl Tryd.runUnderlying175 rfl Tryd.sizeOf136 rfl) rfl fun hS => ?_
     obtain ⟨Mc, hM⟩ := qH hM
     refine sO hS (Vk rfl rfl Tryd.runUnderlying136 Tryd.sizeOf3 Mc) rfl fun hS => sO hS (Gx (xs := LI.counts_) (g := (ci .i64)) (pre := []) (post := [.slice L0 LI.symbols_.length L1]) 1 rfl LT rfl (by simp) rfl (fun _ => rfl) (y8 LU Mc) rfl Tryd.isAgg3) rfl fun hS => zF (v := Value.int .i64) (x0 := (rd LI.counts_ LM)) hS (xB rfl) rfl fun Md a w hz hS => ?_
     have hM := qE hz hM; clear hz
     refine qJ <| wp_seq <| qr <| sM hS rfl fun hS => sM hS rfl fun hS => sB hS rfl fun hS => sM hS rfl fun hS => sB hS rfl fun hS => qJ <| qI hS rfl hM (fun Mr hM => ?_) (fun Mr hM => ?_)
     ·refine wp_seq ?_
      refine zI <| sM hS rfl fun hS => sO hS (yv rfl) rfl fun hS => sO hS (xz rfl Tryd.runUnderlying175 rfl Tryd.sizeOf45 rfl) rfl fun hS => sO hS (GR 1 rfl LT rfl (by rfl) (xh (g := (ci .i64)) (sz := 1) (fun _ => rfl) LU) Tryd.isAgg45) rfl fun hS => sM hS rfl fun hS => sM hS rfl fun hS => sB hS rfl fun hS => sM hS rfl fun hS => sB hS rfl fun hS => ?_
      obtain ⟨Me, hM⟩ := qH hM
      refine sO hS (xZ rfl rfl Tryd.runUnderlying45 Tryd.sizeOf3 (L4.rd (i := 2) rfl) (fun _ => rfl) rfl Me) rfl fun hS => sO hS (yH rfl (L4.rd (i := 2) rfl) (fun _ => rfl) Me rfl Tryd.isAgg3) rfl fun hS => zF (v := Value.int .i64) (x0 := (rd LI.symbols_ (qh ((qh (LG + LS)) - LP)))) hS (xB rfl) rfl fun My a w hz hS => ?_
      have hM := qE hz hM; clear hz
      refine sA hS rfl fun hS => qJ <| wp_ret <| zE (yp (zE (zE (yp (zE ?_)))))
      exact zX (rs := [4, 5]) hS rfl rfl (hret My (0 : Int) LX Ma _ (zn hM) Mb (hS.st.pick [0, 1, 2] (by kernel_rfl)))
     ·refine wp_skip ?_
      refine qf <| qr <| sM hS rfl fun hS => sM hS rfl fun hS => sB hS rfl fun hS => zF (v := Value.int .i64) (x0 := (qh (LP + Md))) hS (xB rfl) rfl fun LY a w hz hS => ?_
      have hM := qE hz hM; clear hz
      refine qJ <| zI <| sM hS rfl fun hS => sM hS rfl fun hS => sB hS rfl fun hS => zF (v := Value.int .i64) (x0 := (qh (LG + Md))) hS (xB rfl) rfl fun LV a w hz hS => ?_
      have hM := qE hz hM; clear hz
      refine zg <| zw (qf ?_)
      refine zI <| sM hS rfl fun hS => sB hS rfl fun hS => zF (v := Value.int .i64) (x0 := (qh (LM + (1 : Int)))) hS (xB rfl) rfl fun Ms a w hz hS => ?_
      have hM := qE hz hM; clear hz
      refine zg <| qf ?_
      exact Mm _ _ ⟨LX, Ma, LS, LY, LV, Ms, hS.to [0, 1, 2, 3] (by kernel_rfl) ⟨rfl, rfl, rfl, rfl, rfl, rfl, rfl, trivial⟩, Mb, hM⟩
   ·refine wp_exit ?_
    refine qC (qC (q9 (qf ?_)))
    exact Ml _ _ ⟨LJ, LR, hS.to [0, 1, 2, 3] (by kernel_rfl) ⟨rfl, rfl, trivial⟩, L9, hM⟩
 ·intro a w hI
  obtain ⟨LQ, L8, hS, Mt, hM⟩ := hI
  rw [z9.j2] at hM
  refine qr <| sM hS rfl fun hS => sO hS (u5 3 rfl L7 rfl ([.int .i64 LF.place_.at_, xS LF.text_]) rfl rfl Tryd.isAgg129 Tryd.sizeOf129) rfl fun hS => sO hS (yv rfl) rfl fun hS => Zo 0 ([.int .i64 LF.place_.at_, xS LF.text_]) ([.int .i64 LF.place_.at_, xS LF.text_]) hS rfl rfl Mt rfl rfl Tryd.sizeOf129 (by simp [Value.oneCell']) (Nat.le_of_ble_eq_true rfl) rfl fun w Mz Mu hS => qJ <| qr <| sA hS rfl fun hS => sA hS rfl fun hS => qJ <| wp_ret ?_
  exact zX (rs := [4, 5]) hS rfl rfl (hret (0 : Int) (3 : Int) LF.place_.at_ Mz _ (zn hM) Mu (hS.st.pick [0, 1, 2] (by kernel_rfl)))
theorem yR {H : xT} {F : List qp} {w : World} {R : Ending → World → Prop} {kr : (Int × Int) → Prop} {kp : Value → Prop} (hG : Gl H) (K : Nat) (LF : qA) (LG : qK) (LT : Nat) (LJ : qp) (LL : Nat) (LN : qp) (LU : Option Addr) (LV : Nat) (LK : qp) (LO : Nat) (LH : qp) (LP : Option Addr) (LQ : Nat) (LI : qp) (LY : xO LJ LT ([qO LL 0, .slice LU LF.out_.length LV, .int .i64 LF.limit_]) 99) (LZ : xO LN LL ([.int .i64 LF.Reader_.place_.at_, xS LF.Reader_.text_]) 129) (L7 : xb 5 (ci .u8) 1 LU LF.out_ LV LK) (L0 : xO LH LO ((LG.counts_.flatMap (ci .i64)) ++ [.slice LP LG.symbols_.length LQ]) 175) (L1 : LG.counts_.length = 16) (L3 : xb 3 (ci .i64) 1 LP LG.symbols_ LQ LI)
    (hS : St w H [LJ, LN, LK, LH, LI] F) (hm : (xJ.m K LF LG).wp kr kp)
    (hret : ∀ (LW : Int) (LM : Int) (LX : qp) (w : World), kr (LW, LM) → (xO LX LL ([.int .i64 LM, xS LF.Reader_.text_]) 129) → St w H [LH, LI, LJ, LX, LK] F → R (.returned (.int .i64 LW)) w)
    (hpan : ∀ v w, kp v → St w H [] F → R (.panicked [⟨v, false, false⟩]) w) :
    Calls Tryd.prog 95 ⟨[qO LT 0, qO LO 0]⟩ w R := by
 refine enter Tryd.func95 rfl Tryd.ntmps95 rfl hS fun a w hS => ?_
 have hM := hm; clear hm
 rw [xJ.m] at hM
 refine qr <| sA hS rfl fun hS => qJ <| qr <| sM hS rfl fun hS => sM hS rfl fun hS => sO hS (yv rfl) rfl fun hS => sO hS (xz rfl Tryd.runUnderlying99 rfl Tryd.sizeOf96 rfl) rfl fun hS => sO hS (ye 0 rfl LY rfl rfl Tryd.isAgg96) rfl fun hS => qN hS rfl Tryd.call106 (Q8 hG K LG LF.Reader_ LO LH LP LQ LI LL LN L0 L1 L3 LZ (hS.st.part 3 [3, 4, 1, 0, 2] (by kernel_rfl)) (qv hM) (fun L4 L5 LS LR w hM L6 hst => qG hS.ev hst.appF rfl fun hS => ?_))
 replace hS : Ss _ _ _ H [LR, LH, LI, LJ, LK] F _ _ := hS
 refine sM hS rfl fun hS => sO hS (ex rfl rfl) rfl fun hS => sO hS (ex rfl rfl) rfl fun hS => sA hS rfl fun hS => sA hS rfl fun hS => qJ <| qr <| sM hS rfl fun hS => qN hS rfl Tryd.call93 (jO hG K L5 (hS.st.part 0 [0, 1, 2, 3, 4] (by kernel_rfl)) (qv hM) (fun  w hM  hst => qG hS.ev hst.appF rfl fun hS => ?_) (fun v w hk hst => xm (qD (⟨hS.ev.defs, hpan _ _ hk hst.appF.frame⟩))))
 replace hS : Ss _ _ _ H [LR, LH, LI, LJ, LK] F _ _ := hS
 refine qJ <| qr <| sM hS rfl fun hS => sA hS rfl fun hS => qJ <| wp_ret ?_
 exact zX (rs := [4]) hS rfl rfl (hret L4 LS LR _ (zn hM) L6 (hS.st.pick [1, 2, 3, 0, 4] (by kernel_rfl)))
theorem vg {H : xT} {F : List qp} {w : World} {R : Ending → World → Prop} {kr : (Int × Int) → Prop} {kp : Value → Prop} (hG : Gl H) (K : Nat) (LG : qA) (LF : xD) (LH : Nat) (LI : qp) (LL : Nat) (LO : qp) (LP : Option Addr) (LQ : Nat) (LJ : qp) (LY : xO LI LH ([qO LL 0, .slice LP LG.out_.length LQ, .int .i64 LG.limit_]) 99) (LZ : xO LO LL ([.int .i64 LG.Reader_.place_.at_, xS LG.Reader_.text_]) 129) (L0 : xb 5 (ci .u8) 1 LP LG.out_ LQ LJ)
    (hS : St w H [LI, LO, LJ] F) (hm : (yc.m K LG LF).wp kr kp)
    (hret : ∀ (LV : Int) (LM : Int) (LW : qp) (w : World), kr (LV, LM) → (xO LW LL ([.int .i64 LM, xS LG.Reader_.text_]) 129) → St w H [LI, LW, LJ] F → R (.returned (.int .i64 LV)) w)
    (hpan : ∀ v w, kp v → St w H [] F → R (.panicked [⟨v, false, false⟩]) w) :
    Calls Tryd.prog 96 ⟨[qO LH 0, .agg ⟨[.int .i64 LF.from_, .int .i64 LF.bits_]⟩]⟩ w R := by
 refine enter Tryd.func96 rfl Tryd.ntmps96 rfl hS fun a w hS => ?_
 have hM := hm; clear hm
 rw [yc.m] at hM
 refine qr <| bx ([.int .i64 LF.from_, .int .i64 LF.bits_]) hS rfl rfl rfl fun w LN L1 LK hS => sA hS rfl fun hS => qJ <| wp_seq <| q8 (vals := [some (qO LN 0), some (.int .i64 LF.from_), some (qO LH 0), some (qO LN 1), some (.int .i64 LF.bits_), none, none, none]) hS xw rfl ?_
 intro l w ho hcl hA hst
 refine yV hA hst ho hcl xk xx 5 [0, 1, 2, 3, 4] rfl rfl rfl rfl rfl (by exact ⟨nQ rfl (by exact qV (xz rfl Tryd.runUnderlying156 rfl Tryd.sizeOf3 rfl) rfl), nQ rfl (by exact qV (ye 0 rfl LK rfl rfl Tryd.isAgg3) rfl), nM rfl, nQ rfl (by exact qV (xz rfl Tryd.runUnderlying156 rfl Tryd.sizeOf3 rfl) rfl), nQ rfl (by exact qV (ye 0 rfl LK rfl rfl Tryd.isAgg3) rfl), trivial⟩) fun D l a w ho hcl hav hpre hm hE hk hA hst => ?_
 have hS := (Ss.mk hE hst).env2 (e' := [(7, qO LH 0), (9, .int .i64 LF.bits_)]) ⟨rfl, rfl, trivial⟩
 refine qR rfl <| qN hS rfl Tryd.call68 (z5 hG K LG LF.bits_ LH LI LL LO LP LQ LJ LY LZ L0 (hS.st.part 3 [1, 2, 3, 0] (by kernel_rfl)) (qv hM) (fun LR LU LX w hM L3 hst => qG hS.ev hst.appF rfl fun hS => ?_) (fun v w hk hst => xm (qD (qD (⟨hS.ev.defs, hpan _ _ hk hst.appF.frame⟩)))))
 replace hS : Ss _ _ _ H [LI, LX, LJ, L1] F _ _ := hS
 refine qJ ?_
 replace hst := hS.st
 obtain ⟨LS, LT⟩ : ∃ x, x = (qh (LF.from_ + LR)) := ⟨_, rfl⟩
 replace hM := qE LT hM
 obtain ⟨hcl, hmust, hav2, hA⟩ := dn (vals' := [some (qO LN 0), some (.int .i64 LF.from_), some (qO LH 0), some (qO LN 1), some (.int .i64 LF.bits_), some (.int .i64 LR), some (.int .i64 (qh (LF.from_ + LR))), some (.int .i64 LS)]) 5 [(2, 5), (4, 5), (3, 4)] hA hcl hav hm hpre hk rfl rfl rfl rfl rfl rfl rfl
 clear hm hav
 refine x6 hA hst ho hcl hmust [0, 1, 6, 7] rfl rfl rfl (by exact ⟨nQ rfl (by exact qV (xz rfl Tryd.runUnderlying156 rfl Tryd.sizeOf3 rfl) rfl), nQ rfl (by exact qV (ye 3 rfl LK rfl rfl Tryd.isAgg3) rfl), nB rfl, nQ rfl (by exact qV (xB rfl) (congrArg (Value.int .i64) LT.symm)), trivial⟩) fun a w hS => ?_
 replace hS := hS.env2 (e' := [(4, .int .i64 LS)]) ⟨rfl, trivial⟩
 refine qf <| wp_ret ?_
 exact zX (rs := [4]) hS rfl rfl (hret LS LU LX _ (zn hM) L3 (hS.st.pick [0, 1, 2] (by kernel_rfl)))
theorem jw {H : xT} {F : List qp} {w : World} {R : Ending → World → Prop} {kr : (Int × (List Int)) → Prop} {kp : Value → Prop} (hG : Gl H) (K : Nat) (LI : qA) (LJ : qK) (LP : qK) (LG : Nat) (Mm : qp) (LV : Nat) (Mn : qp) (Mp : Option Addr) (Mq : Nat) (Mr : qp) (L3 : Nat) (LR : qp) (Ms : Option Addr) (Mt : Nat) (LS : qp) (L4 : Nat) (LT : qp) (Mu : Option Addr) (Mv : Nat) (LU : qp) (MQ : xO Mm LG ([qO LV 0, .slice Mp LI.out_.length Mq, .int .i64 LI.limit_]) 99) (MR : xO Mn LV ([.int .i64 LI.Reader_.place_.at_, xS LI.Reader_.text_]) 129) (MS : xb 5 (ci .u8) 1 Mp LI.out_ Mq Mr) (MT : xO LR L3 ((LJ.counts_.flatMap (ci .i64)) ++ [.slice Ms LJ.symbols_.length Mt]) 175) (MU : LJ.counts_.length = 16) (MV : xb 3 (ci .i64) 1 Ms LJ.symbols_ Mt LS) (MW : xO LT L4 ((LP.counts_.flatMap (ci .i64)) ++ [.slice Mu LP.symbols_.length Mv]) 175) (MX : LP.counts_.length = 16) (MY : xb 3 (ci .i64) 1 Mu LP.symbols_ Mv LU)
    (hS : St w H [Mm, Mn, Mr, LR, LS, LT, LU] F) (hm : (qZ.m K LI LJ LP).wp kr kp)
    (hret : ∀ (Mf : Int) (MH : qp) (MI : Option Addr) (MJ : Nat) (L8 : (List Int)) (MK : qp) (ML : qp) (w : World), kr (Mf, L8) → (xO MH LV ([.int .i64 Mf, xS LI.Reader_.text_]) 129) → (xb 5 (ci .u8) 1 MI L8 MJ MK) → (xO ML LG ([qO LV 0, .slice MI L8.length MJ, .int .i64 LI.limit_]) 99) → St w H [LT, LU, LR, LS, ML, MH, MK] F → R (.returned (.tuple ⟨[]⟩)) w)
    (hpan : ∀ v w, kp v → St w H [] F → R (.panicked [⟨v, false, false⟩]) w) :
    Calls Tryd.prog 70 ⟨[qO LG 0, qO L3 0, qO L4 0]⟩ w R := by
 refine enter Tryd.func70 rfl Tryd.ntmps70 rfl hS fun a w hS => ?_
 have hM := hm; clear hm
 rw [qZ.m] at hM
 refine xG <| zt (fun Mw a w => ∃ (L5 : Int) (Mg : qp) (LW : Option Addr) (LX : Nat) (LH : (List Int)) (LM : qp) (LN : qp), Ss 108 [] [(0, qO LG 0), (1, qO L3 0), (2, qO L4 0)] H [LT, LU, LR, LS, LN, Mg, LM] F a w ∧ (xO Mg LV ([.int .i64 L5, xS LI.Reader_.text_]) 129) ∧ (xb 5 (ci .u8) 1 LW LH LX LM) ∧ (xO LN LG ([qO LV 0, .slice LW LH.length LX, .int .i64 LI.limit_]) 99) ∧ (qZ.l1 K LI LJ LP Mw L5 LH).wp kr kp) K ?_ ?_ ?_
 ·exact ⟨LI.Reader_.place_.at_, Mn, Mp, Mq, LI.out_, Mr, Mm, hS.to [5, 6, 3, 4, 0, 1, 2] (by kernel_rfl) ⟨rfl, rfl, rfl, trivial⟩, MR, MS, MQ, hM⟩
 ·intro a w hI; obtain ⟨_, _, _, _, _, _, _, _, _, _, _, hM⟩ := hI; exact zm hM
 ·intro Mw a w hI Nm Mx
  obtain ⟨L5, Mg, LW, LX, LH, LM, LN, hS, MZ, LZ, LO, hM⟩ := hI
  rw [qZ.l1] at hM
  refine xG <| qr <| sM hS rfl fun hS => sM hS rfl fun hS => qN hS rfl Tryd.call95 (yR hG K (qA.mk (qL.mk (qt.mk L5) LI.Reader_.text_) LH LI.limit_) LJ LG LN LV Mg LW LX LM L3 LR Ms Mt LS LO MZ LZ MT MU MV (hS.st.part 5 [4, 5, 6, 2, 3, 0, 1] (by kernel_rfl)) (qv hM) (fun L0 L9 L7 w hM My hst => qG hS.ev hst.appF rfl fun hS => ?_) (fun v w hk hst => xm (qD (zT (qD (zT (⟨hS.ev.defs, hpan _ _ hk hst.appF.frame⟩)))))))
  replace hS : Ss _ _ _ H [LR, LS, LN, L7, LM, LT, LU] F _ _ := hS
  refine sA hS rfl fun hS => qJ <| wp_seq <| xG <| qr <| sM hS rfl fun hS => sB hS rfl fun hS => zF (v := Value.bool) (x0 := (L0 == (256 : Int))) hS (xB rfl) rfl fun Nn a w hz hS => ?_
  have hM := qE hz hM; clear hz
  refine qJ <| qI hS rfl hM (fun M0 hM => ?_) (fun M0 hM => ?_)
  ·refine wp_ret ?_
   refine yp (zE (yp (zE (yp ?_))))
   exact zX (rs := []) hS rfl rfl (hret L9 L7 LW LX LH LM LN _ (zn hM) My LZ LO (hS.st.pick [5, 6, 0, 1, 2, 3, 4] (by kernel_rfl)))
  ·refine wp_seq ?_
   refine zI <| sM hS rfl fun hS => sB hS rfl fun hS => zF (v := Value.bool) (x0 := (decide (L0 < (256 : Int)))) hS (xB rfl) rfl fun No a w hz hS => ?_
   have hM := qE hz hM; clear hz
   refine qJ <| qI hS rfl hM (fun M3 hM => ?_) (fun M3 hM => ?_)
   ·refine wp_seq ?_
    refine q8 (vals := [some (qO LG 0), some (qO LG 0), some (qO LG 1), some (.slice LW LH.length LX), some (.int .i64 (LH.length : Int)), some (qO LG 0), some (qO LG 0), some (qO LG 2), some (.int .i64 LI.limit_), some (.bool ((LH.length : Int) == LI.limit_)), none]) hS xw rfl ?_
    intro l w ho hcl hA hst
    refine yV hA hst ho hcl xk xx 10 [0, 1, 2, 3, 4, 5, 6, 7, 8, 9] rfl rfl rfl rfl rfl (by exact ⟨nM rfl, nQ rfl (by exact qV (yv rfl) rfl), nQ rfl (by exact qV (xz rfl Tryd.runUnderlying99 rfl Tryd.sizeOf38 rfl) rfl), nQ rfl (by exact qV (ye 2 rfl LO rfl rfl Tryd.isAgg38) rfl), nQ rfl (by exact qV (ym rfl Tryd.runUnderlying38) rfl), nM rfl, nQ rfl (by exact qV (yv rfl) rfl), nQ rfl (by exact qV (xz rfl Tryd.runUnderlying99 rfl Tryd.sizeOf3 rfl) rfl), nQ rfl (by exact qV (ye 2 rfl LO rfl rfl Tryd.isAgg3) rfl), nB rfl, trivial⟩) fun D l a w ho hcl hav hpre hm hE hk hA hst => ?_
    have hS := (Ss.mk hE hst).env2 (e' := [(28, .bool ((LH.length : Int) == LI.limit_))]) ⟨rfl, trivial⟩
    refine qR rfl <| qN hS rfl Tryd.call73 (xd hG K ((LH.length : Int) == LI.limit_) (11 : Int) (hS.st.part 0 [0, 1, 2, 3, 4, 5, 6] (by kernel_rfl)) (qv hM) (fun  w hM  hst => qG hS.ev hst.appF rfl fun hS => ?_) (fun v w hk hst => xm (qD (qD (zT (qD (zT (qD (zT (⟨hS.ev.defs, hpan _ _ hk hst.appF.frame⟩))))))))))
    replace hS : Ss _ _ _ H [LR, LS, LN, L7, LM, LT, LU] F _ _ := hS
    refine qJ ?_
    replace hst := hS.st
    obtain ⟨hcl, hmust, hav2, hA⟩ := dn (vals' := [some (qO LG 0), some (qO LG 0), some (qO LG 1), some (.slice LW LH.length LX), some (.int .i64 (LH.length : Int)), some (qO LG 0), some (qO LG 0), some (qO LG 2), some (.int .i64 LI.limit_), some (.bool ((LH.length : Int) == LI.limit_)), some (.tuple ⟨[]⟩)]) 10 [(9, 10), (4, 9), (8, 9), (3, 4), (7, 8), (2, 3), (6, 7), (1, 2), (5, 6), (0, 1)] hA hcl hav hm hpre hk rfl rfl rfl rfl rfl rfl rfl
    clear hm hav
    refine x6 hA hst ho hcl hmust [] rfl rfl rfl trivial fun a w hS => ?_
    replace hS := hS.env2 (e' := [(0, qO LG 0), (1, qO L3 0), (2, qO L4 0), (6, .int .i64 L0)]) ⟨rfl, rfl, rfl, rfl, trivial⟩
    refine qf <| qr <| sM hS rfl fun hS => sM hS rfl fun hS => sO hS (yv rfl) rfl fun hS => sO hS (xz rfl Tryd.runUnderlying99 rfl Tryd.sizeOf38 rfl) rfl fun hS => sO hS (ye 2 rfl LO rfl rfl Tryd.isAgg38) rfl fun hS => sM hS rfl fun hS => sO hS (u2 rfl Tryd.runUnderlying3 Tryd.runUnderlying5) rfl fun hS => Yx (g := (ci .u8)) ([(wr .u8 L0)] : List Int) [.int .u8 (wr .u8 L0)] hS Tryd.runUnderlying38 Tryd.sizeOf5 X.el5 rfl rfl rfl (by simp [Value.cells]) rfl rfl rfl rfl rfl fun w Np Nq Nr M4 hS => ?_
    obtain ⟨M5, hM⟩ := qH hM
    refine Jm (ys := ([(wr .u8 L0)] : List Int)) 5 hS rfl rfl LZ rfl (M4.rd (i := 0) rfl) Tryd.runUnderlying38 Tryd.runUnderlying38 X.el5 (fun _ => rfl) rfl QZ M5 rfl fun Mz w MM MN Nf hz M6 hS => ?_
    have hM := qE hz hM; clear hz
    refine sO hS (yv rfl) rfl fun hS => sO hS (xz rfl Tryd.runUnderlying99 rfl Tryd.sizeOf38 rfl) rfl fun hS => Jn 3 ([qO LV 0, .slice MM Mz.length MN, .int .i64 LI.limit_]) hS rfl rfl LO rfl rfl rfl rfl Tryd.sizeOf38 fun w Ng M7 hS => qJ <| wp_exit <| Bl rfl (qC (q9 (qf ?_)))
    exact Mx _ _ ⟨L9, L7, MM, MN, Mz, Nf, Ng, hS.to [6, 7, 1, 2, 3, 4, 5] (by kernel_rfl) ⟨rfl, rfl, rfl, trivial⟩, My, M6, M7, hM⟩
   ·refine wp_skip ?_
    refine zw (qf ?_)
    refine qr <| sM hS rfl fun hS => sB hS rfl fun hS => qN hS rfl Tryd.call73 (xd hG K (decide (L0 ≥ (286 : Int))) (3 : Int) (hS.st.part 0 [0, 1, 2, 3, 4, 5, 6] (by kernel_rfl)) (qv hM) (fun  w hM  hst => qG hS.ev hst.appF rfl fun hS => ?_) (fun v w hk hst => xm (qD (zT (qD (zT (⟨hS.ev.defs, hpan _ _ hk hst.appF.frame⟩)))))))
    replace hS : Ss _ _ _ H [LR, LS, LN, L7, LM, LT, LU] F _ _ := hS
    refine qJ <| qr <| sM hS rfl fun hS => sM hS rfl fun hS => sB hS rfl fun hS => ?_
    obtain ⟨MA, hM⟩ := qH hM
    refine sO hS (Vk rfl rfl Tryd.runUnderlying157 Tryd.sizeOf156 MA) rfl fun hS => sO hS (Gy rfl hG.g1 (fun _ => rfl) MA Tryd.isAgg156 Tryd.sizeOf156) rfl fun hS => qN hS rfl Tryd.call96 (vg hG K (qA.mk (qL.mk (qt.mk L9) LI.Reader_.text_) LH LI.limit_) (xD.mk ((rd tab_inflate_lengths (qh (L0 - (257 : Int)))).from_) ((rd tab_inflate_lengths (qh (L0 - (257 : Int)))).bits_)) LG LN LV L7 LW LX LM LO My LZ (hS.st.part 3 [2, 3, 4, 0, 1, 5, 6] (by kernel_rfl)) (qv hM) (fun LY MF MO w hM Nh hst => qG hS.ev hst.appF rfl fun hS => ?_) (fun v w hk hst => xm (qD (zT (qD (zT (⟨hS.ev.defs, hpan _ _ hk hst.appF.frame⟩)))))))
    replace hS : Ss _ _ _ H [LN, MO, LM, LR, LS, LT, LU] F _ _ := hS
    refine sA hS rfl fun hS => qJ <| qr <| sM hS rfl fun hS => sM hS rfl fun hS => qN hS rfl Tryd.call95 (yR hG K (qA.mk (qL.mk (qt.mk MF) LI.Reader_.text_) LH LI.limit_) LP LG LN LV MO LW LX LM L4 LT Mu Mv LU LO Nh LZ MW MX MY (hS.st.part 5 [0, 1, 2, 5, 6, 3, 4] (by kernel_rfl)) (qv hM) (fun MB MG MC w hM Ni hst => qG hS.ev hst.appF rfl fun hS => ?_) (fun v w hk hst => xm (qD (zT (qD (zT (⟨hS.ev.defs, hpan _ _ hk hst.appF.frame⟩)))))))
    replace hS : Ss _ _ _ H [LT, LU, LN, MC, LM, LR, LS] F _ _ := hS
    refine sA hS rfl fun hS => qJ <| qr <| sM hS rfl fun hS => sB hS rfl fun hS => qN hS rfl Tryd.call73 (xd hG K (decide (MB ≥ (30 : Int))) (3 : Int) (hS.st.part 0 [0, 1, 2, 3, 4, 5, 6] (by kernel_rfl)) (qv hM) (fun  w hM  hst => qG hS.ev hst.appF rfl fun hS => ?_) (fun v w hk hst => xm (qD (zT (qD (zT (⟨hS.ev.defs, hpan _ _ hk hst.appF.frame⟩)))))))
    replace hS : Ss _ _ _ H [LT, LU, LN, MC, LM, LR, LS] F _ _ := hS
    refine qJ <| qr <| sM hS rfl fun hS => sM hS rfl fun hS => ?_
    obtain ⟨MD, hM⟩ := qH hM
    refine sO hS (Vk rfl rfl Tryd.runUnderlying158 Tryd.sizeOf156 MD) rfl fun hS => sO hS (Gy rfl hG.g2 (fun _ => rfl) MD Tryd.isAgg156 Tryd.sizeOf156) rfl fun hS => qN hS rfl Tryd.call96 (vg hG K (qA.mk (qL.mk (qt.mk MG) LI.Reader_.text_) LH LI.limit_) (xD.mk ((rd tab_inflate_distances MB).from_) ((rd tab_inflate_distances MB).bits_)) LG LN LV MC LW LX LM LO Ni LZ (hS.st.part 3 [2, 3, 4, 0, 1, 5, 6] (by kernel_rfl)) (qv hM) (fun LK Mh Mb w hM Nj hst => qG hS.ev hst.appF rfl fun hS => ?_) (fun v w hk hst => xm (qD (zT (qD (zT (⟨hS.ev.defs, hpan _ _ hk hst.appF.frame⟩)))))))
    replace hS : Ss _ _ _ H [LN, Mb, LM, LT, LU, LR, LS] F _ _ := hS
    refine sA hS rfl fun hS => qJ <| qr <| sM hS rfl fun hS => sM hS rfl fun hS => sO hS (yv rfl) rfl fun hS => sO hS (xz rfl Tryd.runUnderlying99 rfl Tryd.sizeOf38 rfl) rfl fun hS => sO hS (ye 0 rfl LO rfl rfl Tryd.isAgg38) rfl fun hS => sO hS (ym rfl Tryd.runUnderlying38) rfl fun hS => sB hS rfl fun hS => qN hS rfl Tryd.call73 (xd hG K (decide (LK > (LH.length : Int))) (3 : Int) (hS.st.part 0 [0, 1, 2, 3, 4, 5, 6] (by kernel_rfl)) (qv hM) (fun  w hM  hst => qG hS.ev hst.appF rfl fun hS => ?_) (fun v w hk hst => xm (qD (zT (qD (zT (⟨hS.ev.defs, hpan _ _ hk hst.appF.frame⟩)))))))
    replace hS : Ss _ _ _ H [LN, Mb, LM, LT, LU, LR, LS] F _ _ := hS
    refine qJ <| wp_seq <| q8 (vals := [some (qO LG 0), some (qO LG 0), some (qO LG 1), some (.slice LW LH.length LX), some (.int .i64 (LH.length : Int)), some (.int .i64 LY), some (.int .i64 (qh ((LH.length : Int) + LY))), some (qO LG 0), some (qO LG 0), some (qO LG 2), some (.int .i64 LI.limit_), some (.bool (decide ((qh ((LH.length : Int) + LY)) > LI.limit_))), none]) hS xw rfl ?_
    intro l w ho hcl hA hst
    refine yV hA hst ho hcl xk xx 12 [0, 1, 2, 3, 4, 5, 6, 7, 8, 9, 10, 11] rfl rfl rfl rfl rfl (by exact ⟨nM rfl, nQ rfl (by exact qV (yv rfl) rfl), nQ rfl (by exact qV (xz rfl Tryd.runUnderlying99 rfl Tryd.sizeOf38 rfl) rfl), nQ rfl (by exact qV (ye 0 rfl LO rfl rfl Tryd.isAgg38) rfl), nQ rfl (by exact qV (ym rfl Tryd.runUnderlying38) rfl), nM rfl, nB rfl, nM rfl, nQ rfl (by exact qV (yv rfl) rfl), nQ rfl (by exact qV (xz rfl Tryd.runUnderlying99 rfl Tryd.sizeOf3 rfl) rfl), nQ rfl (by exact qV (ye 0 rfl LO rfl rfl Tryd.isAgg3) rfl), nB rfl, trivial⟩) fun D l a w ho hcl hav hpre hm hE hk hA hst => ?_
    have hS := (Ss.mk hE hst).env2 (e' := [(80, .bool (decide ((qh ((LH.length : Int) + LY)) > LI.limit_)))]) ⟨rfl, trivial⟩
    refine qR rfl <| qN hS rfl Tryd.call73 (xd hG K (decide ((qh ((LH.length : Int) + LY)) > LI.limit_)) (11 : Int) (hS.st.part 0 [0, 1, 2, 3, 4, 5, 6] (by kernel_rfl)) (qv hM) (fun  w hM  hst => qG hS.ev hst.appF rfl fun hS => ?_) (fun v w hk hst => xm (qD (qD (zT (qD (zT (⟨hS.ev.defs, hpan _ _ hk hst.appF.frame⟩))))))))
    replace hS : Ss _ _ _ H [LN, Mb, LM, LT, LU, LR, LS] F _ _ := hS
    refine qJ ?_
    replace hst := hS.st
    obtain ⟨hcl, hmust, hav2, hA⟩ := dn (vals' := [some (qO LG 0), some (qO LG 0), some (qO LG 1), some (.slice LW LH.length LX), some (.int .i64 (LH.length : Int)), some (.int .i64 LY), some (.int .i64 (qh ((LH.length : Int) + LY))), some (qO LG 0), some (qO LG 0), some (qO LG 2), some (.int .i64 LI.limit_), some (.bool (decide ((qh ((LH.length : Int) + LY)) > LI.limit_))), some (.tuple ⟨[]⟩)]) 12 [(11, 12), (6, 11), (10, 11), (4, 6), (5, 6), (9, 10), (3, 4), (8, 9), (2, 3), (7, 8), (1, 2), (0, 1)] hA hcl hav hm hpre hk rfl rfl rfl rfl rfl rfl rfl
    clear hm hav
    refine x6 hA hst ho hcl hmust [] rfl rfl rfl trivial fun a w hS => ?_
    replace hS := hS.env2 (e' := [(0, qO LG 0), (1, qO L3 0), (2, qO L4 0), (7, .int .i64 LY), (9, .int .i64 LK)]) ⟨rfl, rfl, rfl, rfl, rfl, trivial⟩
    refine qf <| qr <| sM hS rfl fun hS => sM hS rfl fun hS => qJ <| xG <| zt (fun MP a w => ∃ (LL : Option Addr) (LQ : Nat) (LF : (List Int)) (Mi : qp) (Mj : qp) (Mc : Int), Ss 108 [] [(0, qO LG 0), (1, qO L3 0), (2, qO L4 0), (9, .int .i64 LK), (82, .int .i64 LY), (83, .int .i64 Mc)] H [LT, LU, LR, LS, Mj, Mb, Mi] F a w ∧ (xb 5 (ci .u8) 1 LL LF LQ Mi) ∧ (xO Mj LG ([qO LV 0, .slice LL LF.length LQ, .int .i64 LI.limit_]) 99) ∧ (qZ.l2 K (qZ.l1 K LI LJ LP Mw) LY LK Mh MP LF Mc).wp kr kp) K ?_ ?_ ?_
    ·exact ⟨LW, LX, LH, LM, LN, (0 : Int), hS.to [3, 4, 5, 6, 0, 1, 2] (by kernel_rfl) ⟨rfl, rfl, rfl, rfl, rfl, rfl, trivial⟩, LZ, LO, hM⟩
    ·intro a w hI; obtain ⟨_, _, _, _, _, _, _, _, _, hM⟩ := hI; exact zm hM
    ·intro MP a w hI Ns M8
     obtain ⟨LL, LQ, LF, Mi, Mj, Mc, hS, Ma, L1, hM⟩ := hI
     rw [qZ.l2] at hM
     refine qr <| sB hS rfl fun hS => qJ <| wp_seq <| qI hS rfl hM (fun M9 hM => ?_) (fun M9 hM => ?_)
     ·refine wp_skip ?_
      refine qf <| wp_seq <| xG ?_
      obtain ⟨ME, hM⟩ := qH hM
      refine q8 (vals := [some (qO LG 0), some (qO LG 0), some (qO LG 0), some (qO LG 1), some (.slice LL LF.length LQ), some (qO LG 0), some (qO LG 0), some (qO LG 1), some (.slice LL LF.length LQ), some (qO LG 0), some (qO LG 0), some (qO LG 1), some (.slice LL LF.length LQ), some (.int .i64 (LF.length : Int)), some (.int .i64 LK), some (.int .i64 (qh ((LF.length : Int) - LK))), some (z8 LL (Int.toNat (qh ((LF.length : Int) - LK)) * 1)), some (.int .u8 (rd LF (qh ((LF.length : Int) - LK)))), none, none, none, none, none]) hS xw rfl ?_
      intro l w ho hcl hA hst
      refine yV hA hst ho hcl xk xx 18 [0, 1, 2, 3, 4, 5, 6, 7, 8, 9, 10, 11, 12, 13, 14, 15, 16, 17] rfl rfl rfl rfl rfl (by exact ⟨nM rfl, nM rfl, nQ rfl (by exact qV (yv rfl) rfl), nQ rfl (by exact qV (xz rfl Tryd.runUnderlying99 rfl Tryd.sizeOf38 rfl) rfl), nQ rfl (by exact qV (ye 4 rfl L1 rfl rfl Tryd.isAgg38) rfl), nM rfl, nQ rfl (by exact qV (yv rfl) rfl), nQ rfl (by exact qV (xz rfl Tryd.runUnderlying99 rfl Tryd.sizeOf38 rfl) rfl), nQ rfl (by exact qV (ye 4 rfl L1 rfl rfl Tryd.isAgg38) rfl), nM rfl, nQ rfl (by exact qV (yv rfl) rfl), nQ rfl (by exact qV (xz rfl Tryd.runUnderlying99 rfl Tryd.sizeOf38 rfl) rfl), nQ rfl (by exact qV (ye 4 rfl L1 rfl rfl Tryd.isAgg38) rfl), nQ rfl (by exact qV (ym rfl Tryd.runUnderlying38) rfl), nM rfl, nB rfl, nQ rfl (by exact qV (xZ rfl rfl Tryd.runUnderlying38 Tryd.sizeOf5 (Ma.rd (i := 6) rfl) (fun _ => rfl) rfl ME) rfl), nQ rfl (by exact qV (yH rfl (Ma.rd (i := 6) rfl) (fun _ => rfl) ME rfl Tryd.isAgg5) rfl), trivial⟩) fun D l a w ho hcl hav hpre hm hE hk hA hst => ?_
      have hS := (Ss.mk hE hst).env2 (e' := [(102, .int .u8 (rd LF (qh ((LF.length : Int) - LK))))]) ⟨rfl, trivial⟩
      refine qR rfl <| Yx (g := (ci .u8)) ([(rd LF (qh ((LF.length : Int) - LK)))] : List Int) [.int .u8 (rd LF (qh ((LF.length : Int) - LK)))] hS Tryd.runUnderlying38 Tryd.sizeOf5 X.el5 rfl rfl rfl (by simp [Value.cells]) rfl rfl rfl rfl rfl fun w Mk Ml Nt Na hS => qJ ?_
      replace hst := hS.st
      obtain ⟨hcl, hmust, hav2, hA⟩ := dn (vals' := [some (qO LG 0), some (qO LG 0), some (qO LG 0), some (qO LG 1), some (.slice LL LF.length LQ), some (qO LG 0), some (qO LG 0), some (qO LG 1), some (.slice LL LF.length LQ), some (qO LG 0), some (qO LG 0), some (qO LG 1), some (.slice LL LF.length LQ), some (.int .i64 (LF.length : Int)), some (.int .i64 LK), some (.int .i64 (qh ((LF.length : Int) - LK))), some (z8 LL (Int.toNat (qh ((LF.length : Int) - LK)) * 1)), some (.int .u8 (rd LF (qh ((LF.length : Int) - LK)))), some (.slice Mk ([(rd LF (qh ((LF.length : Int) - LK)))] : List Int).length Ml), none, none, none, none]) 18 [(17, 18), (16, 17), (8, 16), (15, 16), (7, 8), (13, 15), (14, 15), (6, 7), (12, 13), (5, 6), (11, 12), (10, 11), (9, 10)] hA hcl hav hm hpre hk rfl rfl rfl rfl rfl rfl rfl
      clear hm hav
      refine yV hA hst ho hcl hav2 hmust 19 [0, 1, 2, 3, 4] rfl rfl rfl rfl rfl (by exact ⟨nM rfl, nM rfl, nQ rfl (by exact qV (yv rfl) rfl), nQ rfl (by exact qV (xz rfl Tryd.runUnderlying99 rfl Tryd.sizeOf38 rfl) rfl), nQ rfl (by exact qV (ye 5 rfl L1 rfl rfl Tryd.isAgg38) rfl), trivial⟩) fun D l a w ho hcl hav hpre hm hE hk hA hst => ?_
      have hS := (Ss.mk hE hst).env2 (e' := [(89, .slice LL LF.length LQ), (103, .slice Mk ([(rd LF (qh ((LF.length : Int) - LK)))] : List Int).length Ml)]) ⟨rfl, rfl, trivial⟩
      refine qR rfl ?_
      obtain ⟨Nb, hM⟩ := qH hM
      refine Jm (ys := ([(rd LF (qh ((LF.length : Int) - LK)))] : List Int)) 7 hS rfl rfl Ma rfl (Na.rd (i := 0) rfl) Tryd.runUnderlying38 Tryd.runUnderlying38 X.el5 (fun _ => rfl) rfl QZ Nb rfl fun L6 w Md Me Nk hz Nc hS => ?_
      have hM := qE hz hM; clear hz
      refine qJ ?_
      replace hst := hS.st
      obtain ⟨hcl, hmust, hav2, hA⟩ := dn (vals' := [some (qO LG 0), some (qO LG 0), some (qO LG 0), some (qO LG 1), some (.slice LL LF.length LQ), some (qO LG 0), some (qO LG 0), some (qO LG 1), some (.slice LL LF.length LQ), some (qO LG 0), some (qO LG 0), some (qO LG 1), some (.slice LL LF.length LQ), some (.int .i64 (LF.length : Int)), some (.int .i64 LK), some (.int .i64 (qh ((LF.length : Int) - LK))), some (z8 LL (Int.toNat (qh ((LF.length : Int) - LK)) * 1)), some (.int .u8 (rd LF (qh ((LF.length : Int) - LK)))), some (.slice Mk ([(rd LF (qh ((LF.length : Int) - LK)))] : List Int).length Ml), some (.slice Md L6.length Me), some (qO LG 0), some (qO LG 1), none]) 19 [(4, 19), (18, 19), (3, 4), (17, 18), (2, 3), (16, 17), (1, 2), (8, 16), (15, 16), (7, 8), (13, 15), (14, 15), (6, 7), (12, 13), (5, 6), (11, 12), (10, 11), (9, 10)] hA hcl hav hm hpre hk rfl rfl rfl rfl rfl rfl rfl
      clear hm hav
      refine yV hA hst ho hcl hav2 hmust 22 [0, 20, 21] rfl rfl rfl rfl rfl (by exact ⟨nM rfl, nQ rfl (by exact qV (yv rfl) rfl), nQ rfl (by exact qV (xz rfl Tryd.runUnderlying99 rfl Tryd.sizeOf38 rfl) rfl), trivial⟩) fun D l a w ho hcl hav hpre hm hE hk hA hst => ?_
      have hS := (Ss.mk hE hst).env2 (e' := [(104, .slice Md L6.length Me), (106, qO LG 1)]) ⟨rfl, rfl, trivial⟩
      refine qR rfl <| Jn 5 ([qO LV 0, .slice Md L6.length Me, .int .i64 LI.limit_]) hS rfl rfl L1 rfl rfl rfl rfl Tryd.sizeOf38 fun w Nl Nd hS => qJ ?_
      replace hst := hS.st
      obtain ⟨hcl, hmust, hav2, hA⟩ := Zd (vals' := [some (qO LG 0), some (qO LG 0), some (qO LG 0), some (qO LG 1), some (.slice LL LF.length LQ), some (qO LG 0), some (qO LG 0), some (qO LG 1), some (.slice LL LF.length LQ), some (qO LG 0), some (qO LG 0), some (qO LG 1), some (.slice LL LF.length LQ), some (.int .i64 (LF.length : Int)), some (.int .i64 LK), some (.int .i64 (qh ((LF.length : Int) - LK))), some (z8 LL (Int.toNat (qh ((LF.length : Int) - LK)) * 1)), some (.int .u8 (rd LF (qh ((LF.length : Int) - LK)))), some (.slice Mk ([(rd LF (qh ((LF.length : Int) - LK)))] : List Int).length Ml), some (.slice Md L6.length Me), some (qO LG 0), some (qO LG 1), some undef]) 22 [(0, 22), (1, 22), (2, 22), (3, 22), (4, 22), (5, 22), (6, 22), (7, 22), (8, 22), (9, 22), (10, 22), (11, 22), (12, 22), (13, 22), (14, 22), (15, 22), (16, 22), (17, 22), (18, 22), (19, 22), (21, 22), (20, 21)] hA hcl hav hm hpre rfl rfl rfl rfl rfl
      clear hm hav
      refine x6 hA hst ho hcl hmust [] rfl rfl rfl trivial fun a w hS => ?_
      replace hS := hS.env2 (e' := [(0, qO LG 0), (1, qO L3 0), (2, qO L4 0), (9, .int .i64 LK), (82, .int .i64 LY), (83, .int .i64 Mc)]) ⟨rfl, rfl, rfl, rfl, rfl, rfl, trivial⟩
      refine zw (qf ?_)
      refine zI <| sB hS rfl fun hS => sM hS rfl fun hS => zg <| qf ?_
      exact M8 _ _ ⟨Md, Me, L6, Nk, Nl, (qh (Mc + (1 : Int))), hS.to [1, 2, 3, 4, 5, 6, 7] (by kernel_rfl) ⟨rfl, rfl, rfl, rfl, rfl, rfl, trivial⟩, Nc, Nd, hM⟩
     ·refine wp_exit ?_
      refine qC (qC (q9 (zw (qf ?_))))
      exact Mx _ _ ⟨Mh, Mb, LL, LQ, LF, Mi, Mj, hS.to [0, 1, 2, 3, 4, 5, 6] (by kernel_rfl) ⟨rfl, rfl, rfl, trivial⟩, Nj, Ma, L1, hM⟩
theorem Qx {H : xT} {F : List qp} {w : World} {R : Ending → World → Prop} {kr : ((List Int) × Int) → Prop} {kp : Value → Prop} (hG : Gl H) (K : Nat) (LG : qA) (LL : Int) (LS : qK) (LM : Nat) (LI : qp) (LT : Nat) (Mm : qp) (L3 : Option Addr) (L4 : Nat) (LJ : qp) (L0 : Nat) (LN : qp) (Mn : Option Addr) (Mp : Nat) (LO : qp) (L7 : xO LI LM ([qO LT 0, .slice L3 LG.out_.length L4, .int .i64 LG.limit_]) 99) (MH : xO Mm LT ([.int .i64 LG.Reader_.place_.at_, xS LG.Reader_.text_]) 129) (L8 : xb 5 (ci .u8) 1 L3 LG.out_ L4 LJ) (MI : xO LN L0 ((LS.counts_.flatMap (ci .i64)) ++ [.slice Mn LS.symbols_.length Mp]) 175) (MJ : LS.counts_.length = 16) (MK : xb 3 (ci .i64) 1 Mn LS.symbols_ Mp LO)
    (hS : St w H [LI, Mm, LJ, LN, LO] F) (hm : (qT.m K LG LL LS).wp kr kp)
    (hret : ∀ (Mz : Option Addr) (MA : Nat) (Mq : (List Int)) (MB : qp) (Mc : Int) (MC : qp) (w : World), kr (Mq, Mc) → (xb 3 (ci .i64) 1 Mz Mq MA MB) → (xO MC LT ([.int .i64 Mc, xS LG.Reader_.text_]) 129) → St w H [MB, LN, LO, LI, MC, LJ] F → R (.returned (.slice Mz Mq.length MA)) w)
    (hpan : ∀ v w, kp v → St w H [] F → R (.panicked [⟨v, false, false⟩]) w) :
    Calls Tryd.prog 98 ⟨[qO LM 0, .int .i64 LL, qO L0 0]⟩ w R := by
 refine enter Tryd.func98 rfl Tryd.ntmps98 rfl hS fun a w hS => ?_
 have hM := hm; clear hm
 rw [qT.m] at hM
 refine qr <| sA hS rfl fun hS => ?_
 obtain ⟨Na, M9, hS⟩ := hS.nilV 3 (ci .i64) 1
 refine qJ <| qr <| sA hS rfl fun hS => ?_
 obtain ⟨MY, ML, hS⟩ := hS.nilV 3 (ci .i64) 1
 refine qJ <| wp_seq <| xG <| zt (fun Md a w => ∃ (LU : Int) (Mb : qp) (LP : Option Addr) (LR : Nat) (LF : (List Int)) (LQ : qp), Ss 63 [] [(0, qO LM 0), (1, .int .i64 LL), (2, qO L0 0), (7, .slice LP LF.length LR)] H [LN, LO, LI, Mb, LJ, LQ] F a w ∧ (xO Mb LT ([.int .i64 LU, xS LG.Reader_.text_]) 129) ∧ (xb 3 (ci .i64) 1 LP LF LR LQ) ∧ (qT.l1 K LG LL LS Md LU LF).wp kr kp) K ?_ ?_ ?_
 ·exact ⟨LG.Reader_.place_.at_, Mm, none, 0, ([] : List Int), MY, hS.to [5, 6, 2, 3, 4, 0] (by kernel_rfl) ⟨rfl, rfl, rfl, rfl, trivial⟩, MH, ML, hM⟩
 ·intro a w hI; obtain ⟨_, _, _, _, _, _, _, _, _, hM⟩ := hI; exact zm hM
 ·intro Md a w hI Nb MM
  obtain ⟨LU, Mb, LP, LR, LF, LQ, hS, Mr, LW, hM⟩ := hI
  rw [qT.l1] at hM
  refine wp_seq <| qr <| sM hS rfl fun hS => sO hS (ym rfl Tryd.runUnderlying45) rfl fun hS => sM hS rfl fun hS => sB hS rfl fun hS => qJ <| qI hS rfl hM (fun MN hM => ?_) (fun MN hM => ?_)
  ·refine wp_skip ?_
   refine qf <| xG <| qr <| sM hS rfl fun hS => sM hS rfl fun hS => qN hS rfl Tryd.call95 (yR hG K (qA.mk (qL.mk (qt.mk LU) LG.Reader_.text_) LG.out_ LG.limit_) LS LM LI LT Mb L3 L4 LJ L0 LN Mn Mp LO L7 Mr L8 MI MJ MK (hS.st.part 5 [2, 3, 4, 0, 1, 5] (by kernel_rfl)) (qv hM) (fun Me LZ L5 w hM Mf hst => qG hS.ev hst.appF rfl fun hS => ?_) (fun v w hk hst => xm (qD (zT (qD (zT (qD (⟨hS.ev.defs, hpan _ _ hk hst.appF.frame⟩))))))))
   replace hS : Ss _ _ _ H [LN, LO, LI, L5, LJ, LQ] F _ _ := hS
   refine sA hS rfl fun hS => qJ <| qr <| sA hS rfl fun hS => sA hS rfl fun hS => qJ <| zc (fun a w => ∃ (LV : Int) (L6 : qp) (LH : Int) (LK : Int), Ss 63 [] [(0, qO LM 0), (1, .int .i64 LL), (2, qO L0 0), (7, .slice LP LF.length LR), (9, .int .i64 LH), (10, .int .i64 LK)] H [LN, LO, LI, L6, LJ, LQ] F a w ∧ (xO L6 LT ([.int .i64 LV, xS LG.Reader_.text_]) 129) ∧ (qT.j2 K (qT.l1 K LG LL LS Md) LL LF LV LH LK).wp kr kp) (fun Nc L9 => ?_) ?_
   ·refine xG ?_
    refine qr <| sM hS rfl fun hS => sB hS rfl fun hS => zF (v := Value.bool) (x0 := (decide (Me < (16 : Int)))) hS (xB rfl) rfl fun Nd a w hz hS => ?_
    have hM := qE hz hM; clear hz
    refine qJ <| qI hS rfl hM (fun MO hM => ?_) (fun MO hM => ?_)
    ·refine zI ?_
     refine sM hS rfl fun hS => sA hS rfl fun hS => zg <| zw (qf ?_)
     exact L9 _ _ ⟨LZ, L5, Me, (1 : Int), hS.to [0, 1, 2, 3, 4, 5] (by kernel_rfl) ⟨rfl, rfl, rfl, rfl, rfl, rfl, trivial⟩, Mf, hM⟩
    ·refine wp_seq ?_
     refine zI <| sM hS rfl fun hS => sB hS rfl fun hS => zF (v := Value.bool) (x0 := (Me == (16 : Int))) hS (xB rfl) rfl fun Nf a w hz hS => ?_
     have hM := qE hz hM; clear hz
     refine qJ <| qI hS rfl hM (fun MP hM => ?_) (fun MP hM => ?_)
     ·refine wp_seq ?_
      refine zI <| sM hS rfl fun hS => sO hS (ym rfl Tryd.runUnderlying45) rfl fun hS => sB hS rfl fun hS => qN hS rfl Tryd.call73 (xd hG K ((LF.length : Int) == (0 : Int)) (3 : Int) (hS.st.part 0 [0, 1, 2, 3, 4, 5] (by kernel_rfl)) (qv hM) (fun  w hM  hst => qG hS.ev hst.appF rfl fun hS => ?_) (fun v w hk hst => xm (qD (zT (qD (zT (qD (zT (qD (⟨hS.ev.defs, hpan _ _ hk hst.appF.frame⟩))))))))))
      replace hS : Ss _ _ _ H [LN, LO, LI, L5, LJ, LQ] F _ _ := hS
      refine zg <| qf ?_
      obtain ⟨Ma, hM⟩ := qH hM
      refine q8 (vals := [some (.slice LP LF.length LR), some (.slice LP LF.length LR), some (.int .i64 (LF.length : Int)), some (.int .i64 (qh ((LF.length : Int) - (1 : Int)))), some (z8 LP (Int.toNat (qh ((LF.length : Int) - (1 : Int))) * 1)), some (.int .i64 (rd LF (qh ((LF.length : Int) - (1 : Int))))), some (qO LM 0), none, none, none, none]) hS xw rfl ?_
      intro l w ho hcl hA hst
      refine yV hA hst ho hcl xk xx 7 [0, 1, 2, 3, 4, 5, 6] rfl rfl rfl rfl rfl (by exact ⟨nM rfl, nM rfl, nQ rfl (by exact qV (ym rfl Tryd.runUnderlying45) rfl), nB rfl, nQ rfl (by exact qV (xZ rfl rfl Tryd.runUnderlying45 Tryd.sizeOf3 (LW.rd (i := 5) rfl) (fun _ => rfl) rfl Ma) rfl), nQ rfl (by exact qV (yH rfl (LW.rd (i := 5) rfl) (fun _ => rfl) Ma rfl Tryd.isAgg3) rfl), nM rfl, trivial⟩) fun D l a w ho hcl hav hpre hm hE hk hA hst => ?_
      have hS := (Ss.mk hE hst).env2 (e' := [(38, qO LM 0)]) ⟨rfl, trivial⟩
      refine qR rfl <| qN hS rfl Tryd.call68 (z5 hG K (qA.mk (qL.mk (qt.mk LZ) LG.Reader_.text_) LG.out_ LG.limit_) (2 : Int) LM LI LT L5 L3 L4 LJ L7 Mf L8 (hS.st.part 3 [2, 3, 4, 0, 1, 5] (by kernel_rfl)) (qv hM) (fun Ms Mw MD w hM MZ hst => qG hS.ev hst.appF rfl fun hS => ?_) (fun v w hk hst => xm (qD (zT (qD (zT (qD (zT (qD (⟨hS.ev.defs, hpan _ _ hk hst.appF.frame⟩))))))))))
      replace hS : Ss _ _ _ H [LI, MD, LJ, LN, LO, LQ] F _ _ := hS
      refine qJ ?_
      replace hst := hS.st
      obtain ⟨LX, Mt⟩ : ∃ x, x = (rd LF (qh ((LF.length : Int) - (1 : Int)))) := ⟨_, rfl⟩
      replace hM := qE Mt hM
      obtain ⟨LY, Mu⟩ : ∃ x, x = (qh ((3 : Int) + Ms)) := ⟨_, rfl⟩
      replace hM := qE Mu hM
      obtain ⟨hcl, hmust, hav2, hA⟩ := dn (vals' := [some (.slice LP LF.length LR), some (.slice LP LF.length LR), some (.int .i64 (LF.length : Int)), some (.int .i64 (qh ((LF.length : Int) - (1 : Int)))), some (z8 LP (Int.toNat (qh ((LF.length : Int) - (1 : Int))) * 1)), some (.int .i64 (rd LF (qh ((LF.length : Int) - (1 : Int))))), some (qO LM 0), some (.int .i64 Ms), some (.int .i64 (qh ((3 : Int) + Ms))), some (.int .i64 LX), some (.int .i64 LY)]) 7 [(6, 7)] hA hcl hav hm hpre hk rfl rfl rfl rfl rfl rfl rfl
      clear hm hav
      refine x6 hA hst ho hcl hmust [0, 1, 2, 3, 4, 5, 8, 9, 10] rfl rfl rfl (by exact ⟨nM rfl, nM rfl, nQ rfl (by exact qV (ym rfl Tryd.runUnderlying45) rfl), nB rfl, nQ rfl (by exact qV (xZ rfl rfl Tryd.runUnderlying45 Tryd.sizeOf3 (LW.rd (i := 5) rfl) (fun _ => rfl) rfl Ma) rfl), nQ rfl (by exact qV (yH rfl (LW.rd (i := 5) rfl) (fun _ => rfl) Ma rfl Tryd.isAgg3) rfl), nB rfl, nQ rfl (by exact qV (xB rfl) (congrArg (Value.int .i64) Mt.symm)), nQ rfl (by exact qV (xB rfl) (congrArg (Value.int .i64) Mu.symm)), trivial⟩) fun a w hS => ?_
      replace hS := hS.env2 (e' := [(0, qO LM 0), (1, .int .i64 LL), (2, qO L0 0), (7, .slice LP LF.length LR), (9, .int .i64 LX), (10, .int .i64 LY)]) ⟨rfl, rfl, rfl, rfl, rfl, rfl, trivial⟩
      refine zw (qf ?_)
      exact L9 _ _ ⟨Mw, MD, LX, LY, hS.to [3, 4, 0, 1, 2, 5] (by kernel_rfl) ⟨rfl, rfl, rfl, rfl, rfl, rfl, trivial⟩, MZ, hM⟩
     ·refine wp_seq ?_
      refine zI <| sM hS rfl fun hS => sB hS rfl fun hS => zF (v := Value.bool) (x0 := (Me == (17 : Int))) hS (xB rfl) rfl fun Ng a w hz hS => ?_
      have hM := qE hz hM; clear hz
      refine qJ <| qI hS rfl hM (fun MQ hM => ?_) (fun MQ hM => ?_)
      ·refine zI ?_
       refine sM hS rfl fun hS => qN hS rfl Tryd.call68 (z5 hG K (qA.mk (qL.mk (qt.mk LZ) LG.Reader_.text_) LG.out_ LG.limit_) (3 : Int) LM LI LT L5 L3 L4 LJ L7 Mf L8 (hS.st.part 3 [2, 3, 4, 0, 1, 5] (by kernel_rfl)) (qv hM) (fun M0 Mx ME w hM M3 hst => qG hS.ev hst.appF rfl fun hS => ?_) (fun v w hk hst => xm (zT (qD (zT (qD (zT (qD (⟨hS.ev.defs, hpan _ _ hk hst.appF.frame⟩)))))))))
       replace hS : Ss _ _ _ H [LI, ME, LJ, LN, LO, LQ] F _ _ := hS
       refine sB hS rfl fun hS => zF (v := Value.int .i64) (x0 := (qh ((3 : Int) + M0))) hS (xB rfl) rfl fun Mk a w hz hS => ?_
       have hM := qE hz hM; clear hz
       refine zg <| zw (qf ?_)
       exact L9 _ _ ⟨Mx, ME, (0 : Int), Mk, hS.to [3, 4, 0, 1, 2, 5] (by kernel_rfl) ⟨rfl, rfl, rfl, rfl, rfl, rfl, trivial⟩, M3, hM⟩
      ·refine zI ?_
       refine sM hS rfl fun hS => qN hS rfl Tryd.call68 (z5 hG K (qA.mk (qL.mk (qt.mk LZ) LG.Reader_.text_) LG.out_ LG.limit_) (7 : Int) LM LI LT L5 L3 L4 LJ L7 Mf L8 (hS.st.part 3 [2, 3, 4, 0, 1, 5] (by kernel_rfl)) (qv hM) (fun M4 My MF w hM M5 hst => qG hS.ev hst.appF rfl fun hS => ?_) (fun v w hk hst => xm (zT (qD (zT (qD (zT (qD (⟨hS.ev.defs, hpan _ _ hk hst.appF.frame⟩)))))))))
       replace hS : Ss _ _ _ H [LI, MF, LJ, LN, LO, LQ] F _ _ := hS
       refine sB hS rfl fun hS => zF (v := Value.int .i64) (x0 := (qh ((11 : Int) + M4))) hS (xB rfl) rfl fun Ml a w hz hS => ?_
       have hM := qE hz hM; clear hz
       refine zg <| zw (qf ?_)
       exact L9 _ _ ⟨My, MF, (0 : Int), Ml, hS.to [3, 4, 0, 1, 2, 5] (by kernel_rfl) ⟨rfl, rfl, rfl, rfl, rfl, rfl, trivial⟩, M5, hM⟩
   ·intro a w hI
    obtain ⟨LV, L6, LH, LK, hS, MR, hM⟩ := hI
    rw [qT.j2] at hM
    refine qr <| sM hS rfl fun hS => sM hS rfl fun hS => sM hS rfl fun hS => sO hS (ym rfl Tryd.runUnderlying45) rfl fun hS => sB hS rfl fun hS => sB hS rfl fun hS => qN hS rfl Tryd.call73 (xd hG K (decide (LK > (qh (LL - (LF.length : Int))))) (3 : Int) (hS.st.part 0 [0, 1, 2, 3, 4, 5] (by kernel_rfl)) (qv hM) (fun  w hM  hst => qG hS.ev hst.appF rfl fun hS => ?_) (fun v w hk hst => xm (qD (zT (qD (zT (qD (⟨hS.ev.defs, hpan _ _ hk hst.appF.frame⟩))))))))
    replace hS : Ss _ _ _ H [LN, LO, LI, L6, LJ, LQ] F _ _ := hS
    refine qJ <| qr <| sM hS rfl fun hS => sM hS rfl fun hS => qJ <| xG <| zt (fun MG a w => ∃ (Mg : Option Addr) (Mh : Nat) (L1 : (List Int)) (Mi : qp) (Mj : Int), Ss 63 [] [(0, qO LM 0), (1, .int .i64 LL), (2, qO L0 0), (7, .slice Mg L1.length Mh), (9, .int .i64 LH), (54, .int .i64 LK), (55, .int .i64 Mj)] H [LN, LO, LI, L6, LJ, Mi] F a w ∧ (xb 3 (ci .i64) 1 Mg L1 Mh Mi) ∧ (qT.l3 K (qT.l1 K LG LL LS Md) LV LH LK MG L1 Mj).wp kr kp) K ?_ ?_ ?_
    ·exact ⟨LP, LR, LF, LQ, (0 : Int), hS.to [0, 1, 2, 3, 4, 5] (by kernel_rfl) ⟨rfl, rfl, rfl, rfl, rfl, rfl, rfl, trivial⟩, LW, hM⟩
    ·intro a w hI; obtain ⟨_, _, _, _, _, _, _, hM⟩ := hI; exact zm hM
    ·intro MG a w hI Nh MS
     obtain ⟨Mg, Mh, L1, Mi, Mj, hS, Mv, hM⟩ := hI
     rw [qT.l3] at hM
     refine qr <| sB hS rfl fun hS => qJ <| wp_seq <| qI hS rfl hM (fun MT hM => ?_) (fun MT hM => ?_)
     ·refine wp_skip ?_
      refine qf <| wp_seq <| xG <| zI <| sM hS rfl fun hS => sM hS rfl fun hS => Yx (g := (ci .i64)) ([LH] : List Int) [.int .i64 LH] hS Tryd.runUnderlying45 Tryd.sizeOf3 X.el3 rfl rfl rfl (by simp [Value.cells]) rfl rfl rfl rfl rfl fun w Ni Nj Nk MU hS => ?_
      obtain ⟨MV, hM⟩ := qH hM
      refine Jm (ys := ([LH] : List Int)) 6 hS rfl rfl Mv rfl (MU.rd (i := 0) rfl) Tryd.runUnderlying45 Tryd.runUnderlying45 X.el3 (fun _ => rfl) rfl xH MV rfl fun MW w M6 M7 M8 hz MX hS => ?_
      have hM := qE hz hM; clear hz
      refine sA hS rfl fun hS => zg <| zw (qf ?_)
      refine zI <| sB hS rfl fun hS => sM hS rfl fun hS => zg <| qf ?_
      exact MS _ _ ⟨M6, M7, MW, M8, (qh (Mj + (1 : Int))), hS.to [1, 2, 3, 4, 5, 6] (by kernel_rfl) ⟨rfl, rfl, rfl, rfl, rfl, rfl, rfl, trivial⟩, MX, hM⟩
     ·refine wp_exit ?_
      refine qC (qC (q9 (zw (qf ?_))))
      exact MM _ _ ⟨LV, L6, Mg, Mh, L1, Mi, hS.to [0, 1, 2, 3, 4, 5] (by kernel_rfl) ⟨rfl, rfl, rfl, rfl, trivial⟩, MR, Mv, hM⟩
  ·refine wp_exit ?_
   refine qC (qC (q9 (qf ?_)))
   refine qr <| sM hS rfl fun hS => sA hS rfl fun hS => qJ <| wp_ret ?_
   exact zX (rs := [6]) hS rfl rfl (hret LP LR LF LQ LU Mb _ (zn hM) LW Mr (hS.st.pick [5, 0, 1, 2, 3, 4] (by kernel_rfl)))
theorem ui {H : xT} {F : List qp} {w : World} {R : Ending → World → Prop} {kr : ((Option qK) × (Option qK) × Int) → Prop} {kp : Value → Prop} (hG : Gl H) (K : Nat) (LF : qA) (LN : Nat) (LG : qp) (LK : Nat) (Mr : qp) (LR : Option Addr) (LS : Nat) (LH : qp) (LT : xO LG LN ([qO LK 0, .slice LR LF.out_.length LS, .int .i64 LF.limit_]) 99) (MR : xO Mr LK ([.int .i64 LF.Reader_.place_.at_, xS LF.Reader_.text_]) 129) (LU : xb 5 (ci .u8) 1 LR LF.out_ LS LH)
    (hS : St w H [LG, Mr, LH] F) (hm : (ze.m K LF).wp kr kp)
    (hret : ∀ (ME : Option Addr) (MF : Option qK) (MG : qp) (MH : Option Addr) (MI : Option qK) (MJ : qp) (Mm : Int) (MK : qp) (w : World), kr (MF, MI, Mm) → (UW qK.Own ME MF MG) → (UW qK.Own MH MI MJ) → (xO MK LK ([.int .i64 Mm, xS LF.Reader_.text_]) 129) → St w H [MG, MJ, LG, MK, LH] F → R (.returned (.tuple ⟨[.pointer ME, .pointer MH]⟩)) w)
    (hpan : ∀ v w, kp v → St w H [] F → R (.panicked [⟨v, false, false⟩]) w) :
    Calls Tryd.prog 72 ⟨[qO LN 0]⟩ w R := by
 refine enter Tryd.func72 rfl Tryd.ntmps72 rfl hS fun a w hS => ?_
 have hM := hm; clear hm
 rw [ze.m] at hM
 refine qr <| sA hS rfl fun hS => sA hS rfl fun hS => qJ <| qr <| sM hS rfl fun hS => qN hS rfl Tryd.call68 (z5 hG K LF (5 : Int) LN LG LK Mr LR LS LH LT MR LU (hS.st.part 3 [0, 1, 2] (by kernel_rfl)) (qv hM) (fun Nc My ML w hM Nd hst => qG hS.ev hst.appF rfl fun hS => ?_) (fun v w hk hst => xm (qD (⟨hS.ev.defs, hpan _ _ hk hst.appF.frame⟩))))
 replace hS : Ss _ _ _ H [LG, ML, LH] F _ _ := hS
 refine sB hS rfl fun hS => sM hS rfl fun hS => qN hS rfl Tryd.call68 (z5 hG K (qA.mk (qL.mk (qt.mk My) LF.Reader_.text_) LF.out_ LF.limit_) (5 : Int) LN LG LK ML LR LS LH LT Nd LU (hS.st.part 3 [0, 1, 2] (by kernel_rfl)) (qv hM) (fun Nf Mz MM w hM Ng hst => qG hS.ev hst.appF rfl fun hS => ?_) (fun v w hk hst => xm (qD (⟨hS.ev.defs, hpan _ _ hk hst.appF.frame⟩))))
 replace hS : Ss _ _ _ H [LG, MM, LH] F _ _ := hS
 refine sB hS rfl fun hS => zF (v := Value.int .i64) (x0 := (qh (Nc + (257 : Int)))) hS (xB rfl) rfl fun LI a w hz hS => ?_
 have hM := qE hz hM; clear hz
 refine zF (v := Value.int .i64) (x0 := (qh (Nf + (1 : Int)))) hS (xB rfl) rfl fun LV a w hz hS => ?_
 have hM := qE hz hM; clear hz
 refine qJ <| qr <| sM hS rfl fun hS => qN hS rfl Tryd.call68 (z5 hG K (qA.mk (qL.mk (qt.mk Mz) LF.Reader_.text_) LF.out_ LF.limit_) (4 : Int) LN LG LK MM LR LS LH LT Ng LU (hS.st.part 3 [0, 1, 2] (by kernel_rfl)) (qv hM) (fun Nh MA Ms w hM Ni hst => qG hS.ev hst.appF rfl fun hS => ?_) (fun v w hk hst => xm (qD (⟨hS.ev.defs, hpan _ _ hk hst.appF.frame⟩))))
 replace hS : Ss _ _ _ H [LG, Ms, LH] F _ _ := hS
 refine sB hS rfl fun hS => zF (v := Value.int .i64) (x0 := (qh (Nh + (4 : Int)))) hS (xB rfl) rfl fun LZ a w hz hS => ?_
 have hM := qE hz hM; clear hz
 refine qJ <| qr <| sM hS rfl fun hS => sB hS rfl fun hS => sM hS rfl fun hS => y9 2 false 22 (b := (decide (LI > (286 : Int)))) (r := (decide (LV > (30 : Int)))) hS rfl rfl rfl rfl rfl rfl rfl (fun hb a w hS K hK => ?_) rfl fun a w hS => ?_
 ·refine z3 hS rfl rfl rfl hb (mv rfl) rfl fun a w hS => ?_
  refine z3 hS rfl rfl rfl hb (jA rfl rfl rfl) rfl fun a w hS => ?_
  exact zg (hK _ _ (hS.up 2 rfl rfl))
 refine qN hS rfl Tryd.call73 (xd hG K ((decide (LI > (286 : Int))) || (decide (LV > (30 : Int)))) (3 : Int) (hS.st.part 0 [0, 1, 2] (by kernel_rfl)) (qv hM) (fun  w hM  hst => qG hS.ev hst.appF rfl fun hS => ?_) (fun v w hk hst => xm (qD (⟨hS.ev.defs, hpan _ _ hk hst.appF.frame⟩))))
 replace hS : Ss _ _ _ H [LG, Ms, LH] F _ _ := hS
 refine qJ <| qr <| QP ((List.replicate 19 (0 : Int)).flatMap (ci .i64)) hS Tryd.zeroValue77 rfl rfl fun w L0 Nj MS hS => qJ <| zc (fun a w => ∃ (LQ : Int) (L1 : qp) (LL : (List Int)) (LO : qp), Ss 64 [] [(0, qO LN 0), (4, .int .i64 LI), (5, .int .i64 LV), (7, qO L0 0)] H [LG, L1, LH, LO] F a w ∧ (xO L1 LK ([.int .i64 LQ, xS LF.Reader_.text_]) 129) ∧ (LL.length = 19) ∧ (xO LO L0 (LL.flatMap (ci .i64)) 77) ∧ (ze.j2 K LF LI LV LQ LL).wp kr kp) (fun Nx MT => ?_) ?_
 ·refine wp_seq ?_
  refine zI <| sO hS (Dw rfl hG.g3 (by rfl) Tryd.isAgg77 Tryd.sizeOf77) rfl fun hS => sM hS rfl fun hS => qJ <| xG <| zt (fun MN a w => ∃ (LJ : Int) (L3 : qp) (LM : (List Int)) (L4 : qp) (L5 : Int), Ss 64 [] [(0, qO LN 0), (4, .int .i64 LI), (5, .int .i64 LV), (6, .int .i64 LZ), (7, qO L0 0), (27, .agg ⟨tab_inflate_order.flatMap (ci .i64)⟩), (28, .int .i64 L5)] H [LG, L3, LH, L4] F a w ∧ (xO L3 LK ([.int .i64 LJ, xS LF.Reader_.text_]) 129) ∧ (LM.length = 19) ∧ (xO L4 L0 (LM.flatMap (ci .i64)) 77) ∧ (ze.l1 K LF LI LV LZ MN LJ LM L5).wp kr kp) K ?_ ?_ ?_
  ·exact ⟨MA, Ms, (List.replicate 19 (0 : Int)), Nj, (0 : Int), hS.to [1, 2, 3, 0] (by kernel_rfl) ⟨rfl, rfl, rfl, rfl, rfl, rfl, rfl, trivial⟩, Ni, (List.length_replicate ..), MS, hM⟩
  ·intro a w hI; obtain ⟨_, _, _, _, _, _, _, _, _, hM⟩ := hI; exact zm hM
  ·intro MN a w hI Ny Mt
   obtain ⟨LJ, L3, LM, L4, L5, hS, Mi, L8, Mj, hM⟩ := hI
   rw [ze.l1] at hM
   refine qr <| sB hS rfl fun hS => qJ <| wp_seq <| qI hS rfl hM (fun MU hM => ?_) (fun MU hM => ?_)
   ·refine wp_skip ?_
    refine qf <| wp_seq <| xG <| qr <| sM hS rfl fun hS => ?_
    obtain ⟨MV, hM⟩ := qH hM
    refine sO hS (G7 rfl rfl Tryd.runUnderlying77 Tryd.isAgg3 Tryd.sizeOf3 (fun _ => rfl) u7 MV rfl) rfl fun hS => sA hS rfl fun hS => zF (v := Value.int .i64) (x0 := (rd tab_inflate_order L5)) hS (xB rfl) rfl fun Nz a w hz hS => ?_
    have hM := qE hz hM; clear hz
    refine qJ <| qr <| sM hS rfl fun hS => sM hS rfl fun hS => sB hS rfl fun hS => qJ <| qI hS rfl hM (fun MW hM => ?_) (fun MW hM => ?_)
    ·refine zI ?_
     refine sM hS rfl fun hS => sM hS rfl fun hS => qN hS rfl Tryd.call68 (z5 hG K (qA.mk (qL.mk (qt.mk LJ) LF.Reader_.text_) LF.out_ LF.limit_) (3 : Int) LN LG LK L3 LR LS LH LT Mi LU (hS.st.part 3 [0, 1, 2, 3] (by kernel_rfl)) (qv hM) (fun Nk MB MO w hM Nl hst => qG hS.ev hst.appF rfl fun hS => ?_) (fun v w hk hst => xm (zT (qD (qD (zT (qD (⟨hS.ev.defs, hpan _ _ hk hst.appF.frame⟩))))))))
     replace hS : Ss _ _ _ H [LG, MO, LH, L4] F _ _ := hS
     obtain ⟨Mu, hM⟩ := qH hM
     refine sO hS (Vk rfl rfl Tryd.runUnderlying77 Tryd.sizeOf3 Mu) rfl fun hS => Bt (xs := LM) (g := (ci .i64)) (pre := []) (post := []) 3 (Nk) hS rfl rfl Mj rfl (by simp) rfl (fun _ => rfl) (y8 L8 Mu) rfl Tryd.sizeOf3 (xH _) fun Mk w MP hz Ml hS => ?_
     have MX : Mk.length = 19 := by rw [hz, List.length_set]; exact L8
     have hM := qE hz hM; clear hz
     replace Ml : xO MP L0 (Mk.flatMap (ci .i64)) 77 := by simpa using Ml
     refine zg <| zw (qf ?_)
     refine zI <| sB hS rfl fun hS => sM hS rfl fun hS => zg <| qf ?_
     exact Mt _ _ ⟨MB, MO, Mk, MP, (qh (L5 + (1 : Int))), hS.to [0, 1, 2, 3] (by kernel_rfl) ⟨rfl, rfl, rfl, rfl, rfl, rfl, rfl, trivial⟩, Nl, MX, Ml, hM⟩
    ·refine wp_skip ?_
     refine zw (qf ?_)
     refine zI <| sB hS rfl fun hS => sM hS rfl fun hS => zg <| qf ?_
     exact Mt _ _ ⟨LJ, L3, LM, L4, (qh (L5 + (1 : Int))), hS.to [0, 1, 2, 3] (by kernel_rfl) ⟨rfl, rfl, rfl, rfl, rfl, rfl, rfl, trivial⟩, Mi, L8, Mj, hM⟩
   ·refine wp_exit ?_
    refine qC (qC (q9 (qf ?_)))
    exact MT _ _ ⟨LJ, L3, LM, L4, hS.to [0, 1, 2, 3] (by kernel_rfl) ⟨rfl, rfl, rfl, rfl, trivial⟩, Mi, L8, Mj, hM⟩
 ·intro a w hI
  obtain ⟨LQ, L1, LL, LO, hS, MY, L9, Mv, hM⟩ := hI
  rw [ze.j2] at hM
  refine qr <| sO hS (Yc (xs := LL) (g := (ci .i64)) (pre := []) (post := []) 3 rfl Mv rfl (by simp) rfl (xh (g := (ci .i64)) (sz := 1) (fun _ => rfl) L9) Tryd.isAgg77 Tryd.sizeOf77) rfl fun hS => sO hS (K9 (([0, 0, 0, 0, 0, 0, 0, 0, 0, 0, 0, 0, 0, 0, 0, 0, 0, 0, 0] : List Int).flatMap (ci .i64)) Tryd.zeroValue77 Tryd.runUnderlying77 Tryd.sizeOf3 rfl (by kernel_rfl)) rfl fun hS => sO hS (Do rfl rfl Tryd.runUnderlying77 Tryd.runUnderlying3 Tryd.sizeOf3 Tryd.isAgg3 L9 rfl Tryd.eqGuardType77 rfl) rfl fun hS => qN hS rfl Tryd.call73 (xd hG K (LL == ([0, 0, 0, 0, 0, 0, 0, 0, 0, 0, 0, 0, 0, 0, 0, 0, 0, 0, 0] : List Int)) (3 : Int) (hS.st.part 0 [0, 1, 2, 3] (by kernel_rfl)) (qv hM) (fun  w hM  hst => qG hS.ev hst.appF rfl fun hS => ?_) (fun v w hk hst => xm (qD (⟨hS.ev.defs, hpan _ _ hk hst.appF.frame⟩))))
  replace hS : Ss _ _ _ H [LG, L1, LH, LO] F _ _ := hS
  refine qJ <| qr <| sM hS rfl fun hS => sM hS rfl fun hS => sM hS rfl fun hS => sB hS rfl fun hS => sO hS (GL rfl Tryd.runUnderlying77 Tryd.sizeOf3 L9 rfl) rfl fun hS => qN hS rfl Tryd.call97 (yZ hG K LL (some ⟨L0, 0, none⟩) (19) (Mv.rdF (i := 3) rfl rfl) (Nat.le_of_eq L9) (hS.st.part 0 [0, 1, 2, 3] (by kernel_rfl)) (qv hM) (fun NA NB Nm w hM Nn hst => qG hS.ev hst.appF rfl fun hS => ?_) (fun v w hk hst => xm (qD (⟨hS.ev.defs, hpan _ _ hk hst.appF.frame⟩))))
  replace hS : Ss _ _ _ H [Nm, LG, L1, LH, LO] F _ _ := hS
  obtain ⟨No, MZ, hM⟩ := ZI hM
  obtain ⟨Np, hA, M0⟩ := Nn.get MZ
  obtain ⟨Ma, Nq, Nr, Mb, hF, M3, M4, M5⟩ := M0
  subst hA; subst hF
  replace hS := hS.front [0, 1, 2, 3, 4] (by kernel_rfl)
  replace hS := hS.splitF
  refine qN hS rfl Tryd.call98 (Qx hG K (qA.mk (qL.mk (qt.mk LQ) LF.Reader_.text_) LF.out_ LF.limit_) (qh (LI + LV)) No LN LG LK L1 LR LS LH Np Ma Nq Nr Mb LT MY LU M3 M4 M5 (hS.st.part 5 [2, 3, 4, 0, 1, 5] (by kernel_rfl)) (qv hM) (fun LP L6 LW Mn MC Mc w hM L7 Ns hst => qG hS.ev hst.appF rfl fun hS => ?_) (fun v w hk hst => xm (qD (⟨hS.ev.defs, hpan _ _ hk hst.appF.frame⟩))))
  replace hS : Ss _ _ _ H [Mn, Ma, Mb, LG, Mc, LH, LO] F _ _ := hS
  refine sA hS rfl fun hS => qJ <| qr <| sM hS rfl fun hS => ?_
  obtain ⟨Mw, hM⟩ := qH hM
  refine sO hS (xZ rfl rfl Tryd.runUnderlying45 Tryd.sizeOf3 (L7.rd (i := 0) rfl) (fun _ => rfl) rfl Mw) rfl fun hS => sO hS (yH rfl (L7.rd (i := 0) rfl) (fun _ => rfl) Mw rfl Tryd.isAgg3) rfl fun hS => sB hS rfl fun hS => qN hS rfl Tryd.call73 (xd hG K ((rd LW (256 : Int)) == (0 : Int)) (3 : Int) (hS.st.part 0 [0, 1, 2, 3, 4, 5, 6] (by kernel_rfl)) (qv hM) (fun  w hM  hst => qG hS.ev hst.appF rfl fun hS => ?_) (fun v w hk hst => xm (qD (⟨hS.ev.defs, hpan _ _ hk hst.appF.frame⟩))))
  replace hS : Ss _ _ _ H [Mn, Ma, Mb, LG, Mc, LH, LO] F _ _ := hS
  refine qJ <| wp_seq ?_
  obtain ⟨M6, hM⟩ := qH hM
  obtain ⟨LX, Md, Me, hz, M7, M8, MD⟩ := Gq (g := (ci .i64)) (A := LP) Tryd.prog Tryd.runUnderlying45 Tryd.sizeOf3 (fun _ => rfl) (L7.cap (fun _ => rfl) rfl) M6
  replace hM := qE hz hM; clear hz
  obtain ⟨M9, hM⟩ := qH hM
  obtain ⟨LY, Mf, Mg, hz, Na, Nb, Mp⟩ := Gq (g := (ci .i64)) (A := LP) Tryd.prog Tryd.runUnderlying45 Tryd.sizeOf3 (fun _ => rfl) (L7.cap (fun _ => rfl) rfl) M9
  replace hM := qE hz hM; clear hz
  refine q8 (vals := [some (.slice LP LW.length L6), some (.int .i64 LI), some (.slice Md LX.length Me), none, some (.slice LP LW.length L6), some (.int .i64 LI), some (.slice Mf LY.length Mg), none, none, none]) hS xw rfl ?_
  intro l w ho hcl hA hst
  refine yV hA hst ho hcl xk xx 3 [0, 1, 2, 4, 5, 6] rfl rfl rfl rfl rfl (by exact ⟨nM rfl, nM rfl, nQ rfl (by exact qV (MD rfl D8 (Dy rfl)) rfl), nM rfl, nM rfl, nQ rfl (by exact qV (Mp rfl (GK rfl) Gs) rfl), trivial⟩) fun D l a w ho hcl hav hpre hm hE hk hA hst => ?_
  have hS := (Ss.mk hE hst).env2 (e' := [(58, .slice Md LX.length Me)]) ⟨rfl, trivial⟩
  refine qR rfl <| qN hS rfl Tryd.call97 (yZ hG K LX Md Me (M7 _ _ _ (L7.rdF (i := 0) rfl)) M8 (hS.st.part 0 [0, 1, 2, 3, 4, 5, 6] (by kernel_rfl)) (qv hM) (fun Mh Nt Mx w hM Nu hst => qG hS.ev hst.appF rfl fun hS => ?_) (fun v w hk hst => xm (qD (qD (⟨hS.ev.defs, hpan _ _ hk hst.appF.frame⟩)))))
  replace hS : Ss _ _ _ H [Mx, Mn, Ma, Mb, LG, Mc, LH, LO] F _ _ := hS
  refine qJ ?_
  replace hst := hS.st
  obtain ⟨hcl, hmust, hav2, hA⟩ := dn (vals' := [some (.slice LP LW.length L6), some (.int .i64 LI), some (.slice Md LX.length Me), some (.pointer Mh), some (.slice LP LW.length L6), some (.int .i64 LI), some (.slice Mf LY.length Mg), none, none, none]) 3 [(2, 3), (0, 2), (1, 2)] hA hcl hav hm hpre hk rfl rfl rfl rfl rfl rfl rfl
  clear hm hav
  refine yV hA hst ho hcl hav2 hmust 7 [4, 5, 6] rfl rfl rfl rfl rfl (by exact ⟨nM rfl, nM rfl, nQ rfl (by exact qV (Mp rfl (GK rfl) Gs) rfl), trivial⟩) fun D l a w ho hcl hav hpre hm hE hk hA hst => ?_
  have hS := (Ss.mk hE hst).env2 (e' := [(62, .slice Mf LY.length Mg)]) ⟨rfl, trivial⟩
  refine qR rfl <| qN hS rfl Tryd.call97 (yZ hG K LY Mf Mg (Na _ _ _ (L7.rdF (i := 1) rfl)) Nb (hS.st.part 0 [0, 1, 2, 3, 4, 5, 6, 7] (by kernel_rfl)) (qv hM) (fun Mq Nv MQ w hM Nw hst => qG hS.ev hst.appF rfl fun hS => ?_) (fun v w hk hst => xm (qD (qD (⟨hS.ev.defs, hpan _ _ hk hst.appF.frame⟩)))))
  replace hS : Ss _ _ _ H [MQ, Mx, Mn, Ma, Mb, LG, Mc, LH, LO] F _ _ := hS
  refine qJ ?_
  replace hst := hS.st
  obtain ⟨hcl, hmust, hav2, hA⟩ := dn (vals' := [some (.slice LP LW.length L6), some (.int .i64 LI), some (.slice Md LX.length Me), some (.pointer Mh), some (.slice LP LW.length L6), some (.int .i64 LI), some (.slice Mf LY.length Mg), some (.pointer Mq), some (.pointer Mh), some (.pointer Mq)]) 7 [(3, 7), (6, 7), (2, 3), (4, 6), (5, 6), (0, 2), (1, 2)] hA hcl hav hm hpre hk rfl rfl rfl rfl rfl rfl rfl
  clear hm hav
  refine x6 hA hst ho hcl hmust [8, 9] rfl rfl rfl (by exact ⟨nA rfl, nA rfl, trivial⟩) fun a w hS => ?_
  replace hS := hS.env2 (e' := [(2, .pointer Mh), (3, .pointer Mq)]) ⟨rfl, rfl, trivial⟩
  refine qf <| wp_ret ?_
  exact zX (rs := [2, 3]) hS rfl rfl (hret Mh Nt Mx Mq Nv MQ MC Mc _ (zn hM) Nu Nw Ns (hS.st.pick [1, 0, 5, 6, 7] (by kernel_rfl)))
theorem uP {H : xT} {F : List qp} {w : World} {R : Ending → World → Prop} {kr : (Bool × Int × (List Int)) → Prop} {kp : Value → Prop} (hG : Gl H) (K : Nat) (LF : qA) (LL : Nat) (LG : qp) (LI : Nat) (LU : qp) (LM : Option Addr) (LN : Nat) (LH : qp) (LJ : xO LG LL ([qO LI 0, .slice LM LF.out_.length LN, .int .i64 LF.limit_]) 99) (Mv : xO LU LI ([.int .i64 LF.Reader_.place_.at_, xS LF.Reader_.text_]) 129) (LK : xb 5 (ci .u8) 1 LM LF.out_ LN LH)
    (hS : St w H [LG, LU, LH] F) (hm : (yl.m K LF).wp kr kp)
    (hret : ∀ (L5 : Bool) (LS : Int) (L6 : qp) (L7 : Option Addr) (L8 : Nat) (LR : (List Int)) (L9 : qp) (Ma : qp) (w : World), kr (L5, LS, LR) → (xO L6 LI ([.int .i64 LS, xS LF.Reader_.text_]) 129) → (xb 5 (ci .u8) 1 L7 LR L8 L9) → (xO Ma LL ([qO LI 0, .slice L7 LR.length L8, .int .i64 LF.limit_]) 99) → St w H [Ma, L6, L9] F → R (.returned (.bool L5)) w)
    (hpan : ∀ v w, kp v → St w H [] F → R (.panicked [⟨v, false, false⟩]) w) :
    Calls Tryd.prog 47 ⟨[qO LL 0]⟩ w R := by
 refine enter Tryd.func47 rfl Tryd.ntmps47 rfl hS fun a w hS => ?_
 have hM := hm; clear hm
 rw [yl.m] at hM
 refine qr <| sA hS rfl fun hS => qJ <| qr <| sM hS rfl fun hS => qN hS rfl Tryd.call68 (z5 hG K LF (1 : Int) LL LG LI LU LM LN LH LJ Mv LK (hS.st.part 3 [0, 1, 2] (by kernel_rfl)) (qv hM) (fun MT LW Mb w hM MU hst => qG hS.ev hst.appF rfl fun hS => ?_) (fun v w hk hst => xm (qD (⟨hS.ev.defs, hpan _ _ hk hst.appF.frame⟩))))
 replace hS : Ss _ _ _ H [LG, Mb, LH] F _ _ := hS
 refine sB hS rfl fun hS => zF (v := Value.bool) (x0 := (MT == (1 : Int))) hS (xB rfl) rfl fun LO a w hz hS => ?_
 have hM := qE hz hM; clear hz
 refine qJ <| wp_seq <| qr <| sM hS rfl fun hS => qN hS rfl Tryd.call68 (z5 hG K (qA.mk (qL.mk (qt.mk LW) LF.Reader_.text_) LF.out_ LF.limit_) (2 : Int) LL LG LI Mb LM LN LH LJ MU LK (hS.st.part 3 [0, 1, 2] (by kernel_rfl)) (qv hM) (fun LV LP LQ w hM LT hst => qG hS.ev hst.appF rfl fun hS => ?_) (fun v w hk hst => xm (qD (qD (⟨hS.ev.defs, hpan _ _ hk hst.appF.frame⟩)))))
 replace hS : Ss _ _ _ H [LG, LQ, LH] F _ _ := hS
 refine qJ <| xG <| qr <| sB hS rfl fun hS => zF (v := Value.bool) (x0 := (LV == (0 : Int))) hS (xB rfl) rfl fun NC a w hz hS => ?_
 have hM := qE hz hM; clear hz
 refine qJ <| qI hS rfl hM (fun Mw hM => ?_) (fun Mw hM => ?_)
 ·refine zI ?_
  refine sM hS rfl fun hS => qN hS rfl Tryd.call69 (um hG K (qA.mk (qL.mk (qt.mk LP) LF.Reader_.text_) LF.out_ LF.limit_) LL LG LI LQ LM LN LH LJ LT LK (hS.st.part 3 [0, 1, 2] (by kernel_rfl)) (qv hM) (fun LX Mc MV MW LY Md Me w hM MX MY MZ hst => qG hS.ev hst.appF rfl fun hS => ?_) (fun v w hk hst => xm (zT (qD (⟨hS.ev.defs, hpan _ _ hk hst.appF.frame⟩)))))
  replace hS : Ss _ _ _ H [Me, Mc, Md] F _ _ := hS
  refine zg <| zw (qf ?_)
  refine qr <| sM hS rfl fun hS => sA hS rfl fun hS => qJ <| wp_ret ?_
  exact zX (rs := [2]) hS rfl rfl (hret LO LX Mc MV MW LY Md Me _ (zn hM) MX MY MZ (hS.st.pick [0, 1, 2] (by kernel_rfl)))
 ·refine wp_seq ?_
  refine zI <| sB hS rfl fun hS => zF (v := Value.bool) (x0 := (LV == (1 : Int))) hS (xB rfl) rfl fun ND a w hz hS => ?_
  have hM := qE hz hM; clear hz
  refine qJ <| qI hS rfl hM (fun Mx hM => ?_) (fun Mx hM => ?_)
  ·refine zI ?_
   refine sM hS rfl fun hS => qN hS rfl Tryd.call71 (ZX hG K  (hS.st.part 0 [0, 1, 2] (by kernel_rfl)) (qv hM) (fun NE NF M0 NG NH M3 w hM M4 M5 hst => qG hS.ev hst.appF rfl fun hS => ?_) (fun v w hk hst => xm (zT (qD (⟨hS.ev.defs, hpan _ _ hk hst.appF.frame⟩)))))
   replace hS : Ss _ _ _ H [M0, M3, LG, LQ, LH] F _ _ := hS
   refine sO hS (ex rfl rfl) rfl fun hS => sO hS (ex rfl rfl) rfl fun hS => ?_
   obtain ⟨M6, My, hM⟩ := ZI hM
   obtain ⟨M7, hA, Mz⟩ := M4.get My
   obtain ⟨Mf, M8, M9, Mg, hF, MA, MB, MC⟩ := Mz
   subst hA; subst hF
   replace hS := hS.front [0, 1, 2, 3, 4] (by kernel_rfl)
   replace hS := hS.splitF
   obtain ⟨Na, MD, hM⟩ := ZI hM
   obtain ⟨Nb, hA, ME⟩ := M5.get MD
   obtain ⟨Mh, Nc, Nd, Mi, hF, MF, MG, MH⟩ := ME
   subst hA; subst hF
   replace hS := hS.front [2, 0, 1, 3, 4, 5] (by kernel_rfl)
   replace hS := hS.splitF
   refine qN hS rfl Tryd.call70 (jw hG K (qA.mk (qL.mk (qt.mk LP) LF.Reader_.text_) LF.out_ LF.limit_) M6 Na LL LG LI LQ LM LN LH M7 Mf M8 M9 Mg Nb Mh Nc Nd Mi LJ LT LK MA MB MC MF MG MH (hS.st.part 7 [4, 5, 6, 2, 3, 0, 1] (by kernel_rfl)) (qv hM) (fun LZ Mj Nf Ng L0 Mk Ml w hM Nh Ni Nj hst => qG hS.ev hst.appF rfl fun hS => ?_) (fun v w hk hst => xm (zT (qD (⟨hS.ev.defs, hpan _ _ hk hst.appF.frame⟩)))))
   replace hS : Ss _ _ _ H [Mh, Mi, Mf, Mg, Ml, Mj, Mk] F _ _ := hS
   refine zg <| zw (qf ?_)
   refine qr <| sM hS rfl fun hS => sA hS rfl fun hS => qJ <| wp_ret ?_
   exact zX (rs := [2]) hS rfl rfl (hret LO LZ Mj Nf Ng L0 Mk Ml _ (zn hM) Nh Ni Nj (hS.st.pick [4, 5, 6] (by kernel_rfl)))
  ·refine wp_seq ?_
   refine zI <| sB hS rfl fun hS => zF (v := Value.bool) (x0 := (LV == (2 : Int))) hS (xB rfl) rfl fun NI a w hz hS => ?_
   have hM := qE hz hM; clear hz
   refine qJ <| qI hS rfl hM (fun MI hM => ?_) (fun MI hM => ?_)
   ·refine zI ?_
    refine sM hS rfl fun hS => sM hS rfl fun hS => qN hS rfl Tryd.call72 (ui hG K (qA.mk (qL.mk (qt.mk LP) LF.Reader_.text_) LF.out_ LF.limit_) LL LG LI LQ LM LN LH LJ LT LK (hS.st.part 3 [0, 1, 2] (by kernel_rfl)) (qv hM) (fun NJ NK Nk NL NM Nl L1 Mm w hM Nm Nn No hst => qG hS.ev hst.appF rfl fun hS => ?_) (fun v w hk hst => xm (zT (qD (⟨hS.ev.defs, hpan _ _ hk hst.appF.frame⟩)))))
    replace hS : Ss _ _ _ H [Nk, Nl, LG, Mm, LH] F _ _ := hS
    refine sO hS (ex rfl rfl) rfl fun hS => sO hS (ex rfl rfl) rfl fun hS => ?_
    obtain ⟨Np, MJ, hM⟩ := ZI hM
    obtain ⟨Nq, hA, MK⟩ := Nm.get MJ
    obtain ⟨Mn, Nr, Ns, Mp, hF, ML, MM, MN⟩ := MK
    subst hA; subst hF
    replace hS := hS.front [0, 1, 2, 3, 4] (by kernel_rfl)
    replace hS := hS.splitF
    obtain ⟨Nt, MO, hM⟩ := ZI hM
    obtain ⟨Nu, hA, MP⟩ := Nn.get MO
    obtain ⟨Mq, Nv, Nw, Mr, hF, MQ, MR, MS⟩ := MP
    subst hA; subst hF
    replace hS := hS.front [2, 0, 1, 3, 4, 5] (by kernel_rfl)
    replace hS := hS.splitF
    refine qN hS rfl Tryd.call70 (jw hG K (qA.mk (qL.mk (qt.mk L1) LF.Reader_.text_) LF.out_ LF.limit_) Np Nt LL LG LI Mm LM LN LH Nq Mn Nr Ns Mp Nu Mq Nv Nw Mr LJ No LK ML MM MN MQ MR MS (hS.st.part 7 [4, 5, 6, 2, 3, 0, 1] (by kernel_rfl)) (qv hM) (fun L3 Ms Nx Ny L4 Mt Mu w hM Nz NA NB hst => qG hS.ev hst.appF rfl fun hS => ?_) (fun v w hk hst => xm (zT (qD (⟨hS.ev.defs, hpan _ _ hk hst.appF.frame⟩)))))
    replace hS : Ss _ _ _ H [Mq, Mr, Mn, Mp, Mu, Ms, Mt] F _ _ := hS
    refine zg <| zw (qf ?_)
    refine qr <| sM hS rfl fun hS => sA hS rfl fun hS => qJ <| wp_ret ?_
    exact zX (rs := [2]) hS rfl rfl (hret LO L3 Ms Nx Ny L4 Mt Mu _ (zn hM) Nz NA NB (hS.st.pick [4, 5, 6] (by kernel_rfl)))
   ·refine zI ?_
    refine qN hS rfl Tryd.call73 (xd hG K true (3 : Int) (hS.st.part 0 [0, 1, 2] (by kernel_rfl)) (qv hM) (fun  w hM  hst => qG hS.ev hst.appF rfl fun hS => ?_) (fun v w hk hst => xm (zT (qD (⟨hS.ev.defs, hpan _ _ hk hst.appF.frame⟩)))))
    replace hS : Ss _ _ _ H [LG, LQ, LH] F _ _ := hS
    refine zg <| zw (qf ?_)
    refine qr <| sM hS rfl fun hS => sA hS rfl fun hS => qJ <| wp_ret ?_
    exact zX (rs := [2]) hS rfl rfl (hret LO LP LQ LM LN LF.out_ LH LG _ (zn hM) LT LK LJ (hS.st.pick [0, 1, 2] (by kernel_rfl)))
theorem ZO {H : xT} {F : List qp} {w : World} {R : Ending → World → Prop} {kr : Unit → Prop} {kp : Value → Prop} (hG : Gl H) (K : Nat) (LF : qL) (LH : Nat) (LG : qp) (LI : xO LG LH ([.int .i64 LF.place_.at_, xS LF.text_]) 129)
    (hS : St w H [LG] F) (hm : (vF.m K LF).wp kr kp)
    (hret : ∀ (w : World), kr () → St w H [LG] F → R (.returned (.int .i64 LF.place_.at_)) w) :
    Calls Tryd.prog 48 ⟨[qO LH 0]⟩ w R := by
 refine enter Tryd.func48 rfl Tryd.ntmps48 rfl hS fun a w hS => ?_
 have hM := hm; clear hm
 rw [vF.m] at hM
 refine qr <| sA hS rfl fun hS => qJ <| wp_seq <| qr <| sM hS rfl fun hS => sO hS (XJ rfl rfl Tryd.runUnderlying96) rfl fun hS => qJ <| Xd hS rfl <| wp_skip <| qf <| qr <| sM hS rfl fun hS => sO hS (yv rfl) rfl fun hS => sO hS (xz rfl Tryd.runUnderlying129 rfl Tryd.sizeOf42 rfl) rfl fun hS => sO hS (xz rfl Tryd.runUnderlying42 rfl Tryd.sizeOf3 rfl) rfl fun hS => sO hS (ye 0 rfl LI rfl rfl Tryd.isAgg3) rfl fun hS => sA hS rfl fun hS => qJ <| wp_ret ?_
 exact zX (rs := [2]) hS rfl rfl (hret _ (zn hM) (hS.st.pick [0] (by kernel_rfl)))
end Go.TrydS

set_option maxRecDepth 100000
namespace Go.TrydS
open Go Go.Sl Go.Mo Go.Proofs
attribute [local irreducible] qS.wp
theorem Zg {H : xT} {F : List qp} {w : World} {R : Ending → World → Prop} {kr : ((List UInt8) × Int × Int) → Prop} {kp : Value → Prop} (hG : Gl H) (K : Nat) (LO : List UInt8) (LI : Int)
    (hS : St w H [] F) (hm : (zD.m K LO LI).wp kr kp)
    (hret : ∀ (Mj : List UInt8) (Mk : Int) (Ml : Int) (w : World), kr (Mj, Mk, Ml) → St w H [] F → R (.returned (.tuple ⟨[xS Mj, .int .i64 Mk, .int .i64 Ml]⟩)) w) :
    Calls Tryd.prog 20 ⟨[xS LO, .int .i64 LI]⟩ w R := by
 refine DU Tryd.func20 rfl Tryd.ntmps20 rfl hS fun a w hS => ?_
 have hM := hm; clear hm
 rw [zD.m] at hM
 refine qr <| QP ([xS ([] : List UInt8)]) hS Tryd.zeroValue9 rfl rfl fun w LL LT LY hS => QP ([.int .i64 (0 : Int)]) hS Tryd.zeroValue3 rfl rfl fun w LM LU LZ hS => QP ([.int .i64 (0 : Int)]) hS Tryd.zeroValue26 rfl rfl fun w LN LV L0 hS => qJ <| wp_seq <| qr <| sM hS rfl fun hS => sB hS rfl fun hS => sM hS rfl fun hS => y9 2 false 10 (b := (decide (LI < (0 : Int)))) (r := (decide (LI > (1073741824 : Int)))) hS rfl rfl rfl rfl rfl rfl rfl (fun hb a w hS K hK => ?_) rfl fun a w hS => ?_
 ·refine z3 hS rfl rfl rfl hb (mv rfl) rfl fun a w hS => ?_
  refine z3 hS rfl rfl rfl hb (jA rfl rfl rfl) rfl fun a w hS => ?_
  exact zg (hK _ _ (hS.up 2 rfl rfl))
 refine qJ <| qI hS rfl hM (fun Mu hM => ?_) (fun Mu hM => ?_)
 ·refine wp_seq ?_
  refine zI <| Jn 2 ([xS ([] : List UInt8)]) hS rfl rfl LY rfl rfl rfl rfl Tryd.sizeOf9 fun w MS Mv hS => Jn 1 ([.int .i64 (0 : Int)]) hS rfl rfl LZ rfl rfl rfl rfl Tryd.sizeOf3 fun w MT Mw hS => Jn 0 ([.int .i64 (1 : Int)]) hS rfl rfl L0 rfl rfl rfl rfl Tryd.sizeOf26 fun w MU Mx hS => qJ <| wp_ret <| zE ?_
  exact Br hS.ev (ZE (vs := [xS ([] : List UInt8), .int .i64 (0 : Int), .int .i64 (1 : Int)]) hS.ev hS.st rfl (by exact ⟨BO 2 rfl Mv rfl rfl Tryd.isAgg9, BO 1 rfl Mw rfl rfl Tryd.isAgg3, BO 0 rfl Mx rfl rfl Tryd.isAgg26, trivial⟩) (hret ([] : List UInt8) (0 : Int) (1 : Int) _ (zn hM) (hS.st.pick [] (by kernel_rfl))))
 ·refine wp_skip ?_
  refine qf <| qr <| sO hS (LB rfl rfl) rfl fun hS => By hS rfl fun a w hS => ?_
  obtain ⟨LW, Mh, hM⟩ := KY hM
  have Mi : ∀ v w a, LW v → Ev 35 [⟨.fn (.func 45) ⟨[qO LL 0, qO LM 0, qO LN 0]⟩, ⟨[]⟩⟩] [(4, qO LL 0), (5, qO LM 0), (6, qO LN 0)] a → St w H [LT, LU, LV] F → bodyPostD Tryd.prog Tryd.f20 R (.panic [⟨v, false, false⟩]) a w := by
   intro v w a hk Mc hst
   have hM := Mh v hk
   rw [zD.h1] at hM
   obtain ⟨LJ, My, hM⟩ := ZI hM
   cases D2 My
   refine DB Mc hst Tryd.call45 Tryd.func45 rfl Tryd.ntmps45 rfl rfl rfl fun a w hS => qr <| sM hS rfl fun hS => sO hS (Lk .neq rfl rfl Tryd.runUnderlying20 rfl) rfl fun hS => qJ <| BX hS rfl <| q8 (vals := [some (.iface 94 (.agg ⟨[.int .i64 LJ]⟩)), some (.agg ⟨[.int .i64 LJ]⟩), some (.int .i64 LJ), none, none, none]) hS xw rfl ?_
   intro l w ho hcl hA hst
   refine yV hA hst ho hcl xk xx 3 [0, 1, 2] rfl rfl rfl rfl rfl (by exact ⟨nM rfl, nQ rfl (by exact qV (G4 rfl Tryd.runUnderlying94 rfl) rfl), nQ rfl (by exact qV (GF rfl Tryd.runUnderlying94 rfl Tryd.isAgg26 rfl) rfl), trivial⟩) fun D l a w ho hcl hav hpre hm hE hk hA hst => ?_
   have hS := (Ss.mk hE hst).env2 (e' := [(0, qO LL 0)]) ⟨rfl, trivial⟩
   refine qR rfl <| Jn 0 ([xS ([] : List UInt8)]) hS rfl rfl LY rfl rfl rfl rfl Tryd.sizeOf9 fun w MV Mz hS => qJ ?_
   replace hst := hS.st
   obtain ⟨hcl, hmust, hav2, hA⟩ := Zd (vals' := [some (.iface 94 (.agg ⟨[.int .i64 LJ]⟩)), some (.agg ⟨[.int .i64 LJ]⟩), some (.int .i64 LJ), some undef, none, none]) 3 [] hA hcl hav hm hpre rfl rfl rfl rfl rfl
   clear hm hav
   refine yV hA hst ho hcl hav2 hmust 4 [0, 1, 2] rfl rfl rfl rfl rfl (by exact ⟨nM rfl, nQ rfl (by exact qV (G4 rfl Tryd.runUnderlying94 rfl) rfl), nQ rfl (by exact qV (GF rfl Tryd.runUnderlying94 rfl Tryd.isAgg26 rfl) rfl), trivial⟩) fun D l a w ho hcl hav hpre hm hE hk hA hst => ?_
   have hS := (Ss.mk hE hst).env2 (e' := [(1, qO LM 0)]) ⟨rfl, trivial⟩
   refine qR rfl <| Jn 1 ([.int .i64 (0 : Int)]) hS rfl rfl LZ rfl rfl rfl rfl Tryd.sizeOf3 fun w MW MA hS => qJ ?_
   replace hst := hS.st
   obtain ⟨hcl, hmust, hav2, hA⟩ := Zd (vals' := [some (.iface 94 (.agg ⟨[.int .i64 LJ]⟩)), some (.agg ⟨[.int .i64 LJ]⟩), some (.int .i64 LJ), some undef, some undef, none]) 4 [(3, 4)] hA hcl hav hm hpre rfl rfl rfl rfl rfl
   clear hm hav
   refine yV hA hst ho hcl hav2 hmust 5 [0, 1, 2] rfl rfl rfl rfl rfl (by exact ⟨nM rfl, nQ rfl (by exact qV (G4 rfl Tryd.runUnderlying94 rfl) rfl), nQ rfl (by exact qV (GF rfl Tryd.runUnderlying94 rfl Tryd.isAgg26 rfl) rfl), trivial⟩) fun D l a w ho hcl hav hpre hm hE hk hA hst => ?_
   have hS := (Ss.mk hE hst).env2 (e' := [(2, qO LN 0), (9, .int .i64 LJ)]) ⟨rfl, rfl, trivial⟩
   refine qR rfl <| Jn 2 ([.int .i64 LJ]) hS rfl rfl L0 rfl rfl rfl rfl Tryd.sizeOf26 fun w MX MB hS => qJ ?_
   replace hst := hS.st
   obtain ⟨hcl, hmust, hav2, hA⟩ := Zd (vals' := [some (.iface 94 (.agg ⟨[.int .i64 LJ]⟩)), some (.agg ⟨[.int .i64 LJ]⟩), some (.int .i64 LJ), some undef, some undef, some undef]) 5 [(0, 5), (1, 5), (2, 5), (3, 5), (4, 5)] hA hcl hav hm hpre rfl rfl rfl rfl rfl
   clear hm hav
   refine x6 hA hst ho hcl hmust [] rfl rfl rfl trivial fun a w hS => ?_
   replace hS := hS.env2 (e' := []) trivial
   exact Du hS rfl (ZE (vs := [xS ([] : List UInt8), .int .i64 (0 : Int), .int .i64 LJ]) Mc hS.st rfl (by exact ⟨BO 0 rfl Mz rfl rfl Tryd.isAgg9, BO 1 rfl MA rfl rfl Tryd.isAgg3, BO 2 rfl MB rfl rfl Tryd.isAgg26, trivial⟩) (hret ([] : List UInt8) (0 : Int) LJ _ (zn hM) (hS.st.pick [] (by kernel_rfl))))
  rw [zD.j2] at hM
  refine qJ <| qr <| sM hS rfl fun hS => qN hS rfl Tryd.call46 (Vr hG K LO (hS.st.part 0 [0, 1, 2] (by kernel_rfl)) (qv hM) (fun LK Mm w hM MP hst => qG hS.ev hst.appF rfl fun hS => ?_))
  replace hS : Ss _ _ _ H [Mm, LV, LU, LT] F _ _ := hS
  refine sM hS rfl fun hS => sO hS (X4 ([qO LK 0, .slice none 0 0, .int .i64 LI]) [(0, 1), (1, 1), (2, 1)] Tryd.zeroValue99 Tryd.runUnderlying99 (by intro w; simp [Tryd.sizeOf3, Tryd.sizeOf38, Tryd.sizeOf96]) rfl rfl) rfl fun hS => bx ([qO LK 0, .slice none 0 0, .int .i64 LI]) hS rfl rfl rfl fun w LF MQ MC hS => ?_
  obtain ⟨MR, MD, hS⟩ := hS.nilV 5 (ci .u8) 1
  refine sA hS rfl fun hS => qJ <| zc (fun a w => ∃ (LG : Int) (LX : qp) (LQ : Option Addr) (LR : Nat) (LH : (List Int)) (L3 : qp) (L4 : qp), Ss 35 [⟨.fn (.func 45) ⟨[qO LL 0, qO LM 0, qO LN 0]⟩, ⟨[]⟩⟩] [(4, qO LL 0), (5, qO LM 0), (6, qO LN 0), (7, qO LF 0)] H [LT, LU, LV, L4, LX, L3] F a w ∧ (xO LX LK ([.int .i64 LG, xS LO]) 129) ∧ (xb 5 (ci .u8) 1 LQ LH LR L3) ∧ (xO L4 LF ([qO LK 0, .slice LQ LH.length LR, .int .i64 LI]) 99) ∧ (zD.j4 K LO LG LH).wp kr LW) (fun MY ME => ?_) ?_
  ·refine xG ?_
   refine zt (fun Mn a w => ∃ (LS : Int) (L5 : qp) (L6 : Option Addr) (L7 : Nat) (LP : (List Int)) (L8 : qp) (L9 : qp), Ss 35 [⟨.fn (.func 45) ⟨[qO LL 0, qO LM 0, qO LN 0]⟩, ⟨[]⟩⟩] [(4, qO LL 0), (5, qO LM 0), (6, qO LN 0), (7, qO LF 0)] H [LT, LU, LV, L9, L5, L8] F a w ∧ (xO L5 LK ([.int .i64 LS, xS LO]) 129) ∧ (xb 5 (ci .u8) 1 L6 LP L7 L8) ∧ (xO L9 LF ([qO LK 0, .slice L6 LP.length L7, .int .i64 LI]) 99) ∧ (zD.l3 K LO LI Mn LS LP).wp kr LW) K ?_ ?_ ?_
   ·exact ⟨(0 : Int), Mm, none, 0, ([] : List Int), MR, MQ, hS.to [5, 4, 3, 1, 2, 0] (by kernel_rfl) ⟨rfl, rfl, rfl, rfl, trivial⟩, MP, MD, MC, hM⟩
   ·intro a w hI; obtain ⟨_, _, _, _, _, _, _, _, _, _, _, hM⟩ := hI; exact zm hM
   ·intro Mn a w hI MZ MF
    obtain ⟨LS, L5, L6, L7, LP, L8, L9, hS, MG, MH, MI, hM⟩ := hI
    rw [zD.l3] at hM
    refine wp_seq <| qr <| sM hS rfl fun hS => qN hS rfl Tryd.call47 (uP hG K (qA.mk (qL.mk (qt.mk LS) LO) LP LI) LF L9 LK L5 L6 L7 L8 MI MG MH (hS.st.part 3 [3, 4, 5, 0, 1, 2] (by kernel_rfl)) (qv hM) (fun M0 Ma Md Mp Mq Mb Me Mf w hM Mr Ms Mt hst => qG hS.ev hst.appF rfl fun hS => ?_) (fun v w hk hst => xm (qD (qD (qD (zT (qD (Mi _ _ _ hk (hS.env2 (e' := [(4, qO LL 0), (5, qO LM 0), (6, qO LN 0)]) ⟨rfl, rfl, rfl, trivial⟩).ev (hst.appF.pick [0, 1, 2] (by kernel_rfl))))))))))
    replace hS : Ss _ _ _ H [Mf, Md, Me, LT, LU, LV] F _ _ := hS
    refine sO hS (un rfl rfl) rfl fun hS => qJ <| qI hS rfl hM (fun MJ hM => ?_) (fun MJ hM => ?_)
    ·refine wp_skip ?_
     refine qf <| xG <| wp_skip <| zw (qf ?_)
     exact MF _ _ ⟨Ma, Md, Mp, Mq, Mb, Me, Mf, hS.to [3, 4, 5, 0, 1, 2] (by kernel_rfl) ⟨rfl, rfl, rfl, rfl, trivial⟩, Mr, Ms, Mt, hM⟩
    ·refine wp_exit ?_
     refine qC (qC (q9 (qf ?_)))
     exact ME _ _ ⟨Ma, Md, Mp, Mq, Mb, Me, Mf, hS.to [3, 4, 5, 0, 1, 2] (by kernel_rfl) ⟨rfl, rfl, rfl, rfl, trivial⟩, Mr, Ms, Mt, hM⟩
  ·intro a w hI
   obtain ⟨LG, LX, LQ, LR, LH, L3, L4, hS, MK, Mg, L1, hM⟩ := hI
   rw [zD.j4] at hM
   refine wp_seq <| q8 (vals := [some (qO LF 0), some (qO LF 0), some (qO LF 1), some (.slice LQ LH.length LR), some (xS (LH.map QU)), some (qO LF 0), some (qO LF 0), some (qO LF 0), some (qO LK 0), none, none, none, none, none, none]) hS xw rfl ?_
   intro l w ho hcl hA hst
   refine yV hA hst ho hcl xk xx 9 [0, 1, 2, 3, 4, 5, 6, 7, 8] rfl rfl rfl rfl rfl (by exact ⟨nM rfl, nQ rfl (by exact qV (yv rfl) rfl), nQ rfl (by exact qV (xz rfl Tryd.runUnderlying99 rfl Tryd.sizeOf38 rfl) rfl), nQ rfl (by exact qV (ye 3 rfl L1 rfl rfl Tryd.isAgg38) rfl), nQ rfl (by exact qV (GP rfl Tryd.runUnderlying38 Tryd.runUnderlying5 Tryd.runUnderlying9 (Mg.rd (i := 5) rfl)) rfl), nM rfl, nQ rfl (by exact qV (yv rfl) rfl), nQ rfl (by exact qV (xz rfl Tryd.runUnderlying99 rfl Tryd.sizeOf96 rfl) rfl), nQ rfl (by exact qV (ye 3 rfl L1 rfl rfl Tryd.isAgg96) rfl), trivial⟩) fun D l a w ho hcl hav hpre hm hE hk hA hst => ?_
   have hS := (Ss.mk hE hst).env2 (e' := [(31, qO LK 0)]) ⟨rfl, trivial⟩
   refine qR rfl <| qN hS rfl Tryd.call48 (ZO hG K (qL.mk (qt.mk LG) LO) LK LX MK (hS.st.part 1 [4, 0, 1, 2, 3, 5] (by kernel_rfl)) (qv hM) (fun  w hM  hst => qG hS.ev hst.appF rfl fun hS => ?_))
   replace hS : Ss _ _ _ H [LX, LT, LU, LV, L4, L3] F _ _ := hS
   refine qJ ?_
   replace hst := hS.st
   obtain ⟨hcl, hmust, hav2, hA⟩ := dn (vals' := [some (qO LF 0), some (qO LF 0), some (qO LF 1), some (.slice LQ LH.length LR), some (xS (LH.map QU)), some (qO LF 0), some (qO LF 0), some (qO LF 0), some (qO LK 0), some (.int .i64 LG), some (.int .i64 (qh (LG + (7 : Int)))), some (.int .i64 (yD .i64 (qh (LG + (7 : Int))) (8 : Int))), none, none, none]) 9 [(8, 9), (7, 8), (6, 7), (5, 6)] hA hcl hav hm hpre hk rfl rfl rfl rfl rfl rfl rfl
   clear hm hav
   refine yV hA hst ho hcl hav2 hmust 12 [0, 1, 2, 3, 4, 10, 11] rfl rfl rfl rfl rfl (by exact ⟨nM rfl, nQ rfl (by exact qV (yv rfl) rfl), nQ rfl (by exact qV (xz rfl Tryd.runUnderlying99 rfl Tryd.sizeOf38 rfl) rfl), nQ rfl (by exact qV (ye 4 rfl L1 rfl rfl Tryd.isAgg38) rfl), nQ rfl (by exact qV (GP rfl Tryd.runUnderlying38 Tryd.runUnderlying5 Tryd.runUnderlying9 (Mg.rd (i := 5) rfl)) rfl), nB rfl, nQ rfl (by exact qV (quo rfl rfl rfl) rfl), trivial⟩) fun D l a w ho hcl hav hpre hm hE hk hA hst => ?_
   have hS := (Ss.mk hE hst).env2 (e' := [(4, qO LL 0), (27, xS (LH.map QU))]) ⟨rfl, rfl, trivial⟩
   refine qR rfl <| Jn 1 ([xS (LH.map QU)]) hS rfl rfl LY rfl rfl rfl rfl Tryd.sizeOf9 fun w M3 ML hS => qJ ?_
   replace hst := hS.st
   obtain ⟨hcl, hmust, hav2, hA⟩ := Zd (vals' := [some (qO LF 0), some (qO LF 0), some (qO LF 1), some (.slice LQ LH.length LR), some (xS (LH.map QU)), some (qO LF 0), some (qO LF 0), some (qO LF 0), some (qO LK 0), some (.int .i64 LG), some (.int .i64 (qh (LG + (7 : Int)))), some (.int .i64 (yD .i64 (qh (LG + (7 : Int))) (8 : Int))), some undef, none, none]) 12 [(0, 12), (1, 12), (2, 12), (3, 12), (4, 12), (9, 12), (8, 9), (7, 8), (6, 7), (5, 6)] hA hcl hav hm hpre rfl rfl rfl rfl rfl
   clear hm hav
   refine yV hA hst ho hcl hav2 hmust 13 [10, 11] rfl rfl rfl rfl rfl (by exact ⟨nB rfl, nQ rfl (by exact qV (quo rfl rfl rfl) rfl), trivial⟩) fun D l a w ho hcl hav hpre hm hE hk hA hst => ?_
   have hS := (Ss.mk hE hst).env2 (e' := [(5, qO LM 0), (34, .int .i64 (yD .i64 (qh (LG + (7 : Int))) (8 : Int)))]) ⟨rfl, rfl, trivial⟩
   refine qR rfl <| Jn 2 ([.int .i64 (yD .i64 (qh (LG + (7 : Int))) (8 : Int))]) hS rfl rfl LZ rfl rfl rfl rfl Tryd.sizeOf3 fun w M4 MM hS => qJ ?_
   replace hst := hS.st
   obtain ⟨hcl, hmust, hav2, hA⟩ := Zd (vals' := [some (qO LF 0), some (qO LF 0), some (qO LF 1), some (.slice LQ LH.length LR), some (xS (LH.map QU)), some (qO LF 0), some (qO LF 0), some (qO LF 0), some (qO LK 0), some (.int .i64 LG), some (.int .i64 (qh (LG + (7 : Int)))), some (.int .i64 (yD .i64 (qh (LG + (7 : Int))) (8 : Int))), some undef, some undef, none]) 13 [(0, 13), (1, 13), (2, 13), (3, 13), (4, 13), (5, 13), (6, 13), (7, 13), (8, 13), (9, 13), (10, 13), (11, 13), (12, 13)] hA hcl hav hm hpre rfl rfl rfl rfl rfl
   clear hm hav
   refine yV hA hst ho hcl hav2 hmust 14 [] rfl rfl rfl rfl rfl trivial fun D l a w ho hcl hav hpre hm hE hk hA hst => ?_
   have hS := (Ss.mk hE hst).env2 (e' := [(6, qO LN 0)]) ⟨rfl, trivial⟩
   refine qR rfl <| Jn 3 ([.int .i64 (0 : Int)]) hS rfl rfl L0 rfl rfl rfl rfl Tryd.sizeOf26 fun w M5 MN hS => qJ ?_
   replace hst := hS.st
   obtain ⟨hcl, hmust, hav2, hA⟩ := Zd (vals' := [some (qO LF 0), some (qO LF 0), some (qO LF 1), some (.slice LQ LH.length LR), some (xS (LH.map QU)), some (qO LF 0), some (qO LF 0), some (qO LF 0), some (qO LK 0), some (.int .i64 LG), some (.int .i64 (qh (LG + (7 : Int)))), some (.int .i64 (yD .i64 (qh (LG + (7 : Int))) (8 : Int))), some undef, some undef, some undef]) 14 [(0, 14), (1, 14), (2, 14), (3, 14), (4, 14), (5, 14), (6, 14), (7, 14), (8, 14), (9, 14), (10, 14), (11, 14), (12, 14), (13, 14)] hA hcl hav hm hpre rfl rfl rfl rfl rfl
   clear hm hav
   refine x6 hA hst ho hcl hmust [] rfl rfl rfl trivial fun a w hS => ?_
   replace hS := hS.env2 (e' := [(4, qO LL 0), (5, qO LM 0), (6, qO LN 0)]) ⟨rfl, rfl, rfl, trivial⟩
   refine qf <| wp_ret ?_
   have MO := hS.ev
   refine DF hS Tryd.call45 Tryd.func45 rfl Tryd.ntmps45 rfl rfl rfl fun a w hS => qr <| sM hS rfl fun hS => sO hS (Lx .neq rfl Tryd.runUnderlying20 rfl) rfl fun hS => qJ <| Xd hS rfl <| wp_skip ?_
   exact Du hS rfl (ZE (vs := [xS (LH.map QU), .int .i64 (yD .i64 (qh (LG + (7 : Int))) (8 : Int)), .int .i64 (0 : Int)]) MO hS.st rfl (by exact ⟨BO 1 rfl ML rfl rfl Tryd.isAgg9, BO 2 rfl MM rfl rfl Tryd.isAgg3, BO 3 rfl MN rfl rfl Tryd.isAgg26, trivial⟩) (hret (LH.map QU) (yD .i64 (qh (LG + (7 : Int))) (8 : Int)) (0 : Int) _ (zn hM) (hS.st.pick [] (by kernel_rfl))))
theorem vd {H : xT} {F : List qp} {w : World} {R : Ending → World → Prop} {kr : Bool → Prop} {kp : Value → Prop} (hG : Gl H) (K : Nat) (s1 : List UInt8)
    (hS : St w H [] F) (hm : (zU.m K s1).wp kr kp)
    (hret : ∀ (LM : Bool) (w : World), kr LM → St w H [] F → R (.returned (.bool LM)) w)
    (hpan : ∀ v w, kp v → St w H [] F → R (.panicked [⟨v, false, false⟩]) w) :
    Calls Tryd.prog 8 ⟨[xS s1]⟩ w R := by
 refine enter Tryd.func8 rfl Tryd.ntmps8 rfl hS fun a w hS => ?_
 have hM := hm; clear hm
 rw [zU.m] at hM
 refine qr <| sA hS rfl fun hS => qJ <| wp_seq <| qr <| sM hS rfl fun hS => sO hS (uN rfl Tryd.runUnderlying9) rfl fun hS => sB hS rfl fun hS => qJ <| qI hS rfl hM (fun hb2 hM => ?_) (fun hb2 hM => ?_)
 ·refine wp_seq ?_
  refine zI <| qN hS rfl Tryd.call9 (vr hG K  (hS.st.part 0 [] (by kernel_rfl)) (qv hM) (fun LN w hM  hst => qG hS.ev hst.appF rfl fun hS => ?_) (fun v w hk hst => xm (qD (qD (⟨hS.ev.defs, hpan _ _ hk hst.appF.frame⟩)))))
  replace hS : Ss _ _ _ H [] F _ _ := hS
  refine sA hS rfl fun hS => qJ <| wp_ret <| zE ?_
  exact zX (rs := [2]) hS rfl rfl (hret LN _ (zn hM) (hS.st.pick [] (by kernel_rfl)))
 ·refine wp_skip ?_
  refine qf <| qr <| sM hS rfl fun hS => qN hS rfl Tryd.call18 (uc hG K s1 (hS.st.part 0 [] (by kernel_rfl)) (qv hM) (fun LF w hM  hst => qG hS.ev hst.appF rfl fun hS => ?_) (fun v w hk hst => xm (qD (⟨hS.ev.defs, hpan _ _ hk hst.appF.frame⟩))))
  replace hS : Ss _ _ _ H [] F _ _ := hS
  refine sA hS rfl fun hS => qJ <| qr <| sM hS rfl fun hS => sM hS rfl fun hS => sO hS (uN rfl Tryd.runUnderlying9) rfl fun hS => qN hS rfl Tryd.call20 (Zg hG K LF (s1.length : Int) (hS.st.part 0 [] (by kernel_rfl)) (qv hM) (fun LH LI LK w hM  hst => qG hS.ev hst.appF rfl fun hS => ?_))
  replace hS : Ss _ _ _ H [] F _ _ := hS
  refine sM hS rfl fun hS => sO hS (ex rfl rfl) rfl fun hS => sO hS (ex rfl rfl) rfl fun hS => sO hS (ex rfl rfl) rfl fun hS => sA hS rfl fun hS => sA hS rfl fun hS => sA hS rfl fun hS => qJ <| qr <| sM hS rfl fun hS => sM hS rfl fun hS => sO hS (Dl rfl rfl rfl) rfl fun hS => sM hS rfl fun hS => y9 4 true 24 (b := (LH == s1)) (r := (LI == (LF.length : Int))) hS rfl rfl rfl rfl rfl rfl rfl (fun hb a w hS K hK => ?_) rfl fun a w hS => ?_
  ·refine z3 hS rfl rfl rfl hb (mv rfl) rfl fun a w hS => ?_
   refine z3 hS rfl rfl rfl hb (mv rfl) rfl fun a w hS => z3 hS rfl rfl rfl hb (uN rfl Tryd.runUnderlying9) rfl fun a w hS => z3 hS rfl rfl rfl hb (jA rfl rfl rfl) rfl fun a w hS => ?_
   exact zg (hK _ _ (hS.up 4 rfl rfl))
  refine sM hS rfl fun hS => y9 2 true 30 (b := ((LH == s1) && (LI == (LF.length : Int)))) (r := (LK == (0 : Int))) hS rfl rfl rfl rfl rfl rfl rfl (fun hb a w hS K hK => ?_) rfl fun a w hS => ?_
  ·refine z3 hS rfl rfl rfl hb (mv rfl) rfl fun a w hS => ?_
   refine z3 hS rfl rfl rfl hb (jA rfl rfl rfl) rfl fun a w hS => ?_
   exact zg (hK _ _ (hS.up 2 rfl rfl))
  refine sM hS rfl fun hS => y9 11 true 34 (b := (((LH == s1) && (LI == (LF.length : Int))) && (LK == (0 : Int)))) (r := (decide ((LF.length : Int) ≤ (qh ((s1.length : Int) + (qh ((5 : Int) * (qh ((1 : Int) + (yD .i64 (s1.length : Int) (65535 : Int))))))))))) hS rfl rfl rfl rfl rfl rfl rfl (fun hb a w hS K hK => ?_) rfl fun a w hS => ?_
  ·refine z3 hS rfl rfl rfl hb (mv rfl) rfl fun a w hS => ?_
   refine z3 hS rfl rfl rfl hb (uN rfl Tryd.runUnderlying9) rfl fun a w hS => z3 hS rfl rfl rfl hb (mv rfl) rfl fun a w hS => z3 hS rfl rfl rfl hb (uN rfl Tryd.runUnderlying9) rfl fun a w hS => z3 hS rfl rfl rfl hb (mv rfl) rfl fun a w hS => z3 hS rfl rfl rfl hb (uN rfl Tryd.runUnderlying9) rfl fun a w hS => z3 hS rfl rfl rfl hb (quo rfl rfl rfl) rfl fun a w hS => z3 hS rfl rfl rfl hb (jA rfl rfl rfl) rfl fun a w hS => z3 hS rfl rfl rfl hb (jA rfl rfl rfl) rfl fun a w hS => z3 hS rfl rfl rfl hb (jA rfl rfl rfl) rfl fun a w hS => z3 hS rfl rfl rfl hb (jA rfl rfl rfl) rfl fun a w hS => ?_
   exact zg (hK _ _ (hS.up 11 rfl rfl))
  refine sM hS rfl fun hS => XU (fun a w => ∃ (LJ : Bool), Ss 50 [] [(49, .bool LJ)] H [] F a w ∧ (zU.j1 K LJ).wp kr kp) 2 (fun LP LL => ?_) ?_
  ·refine Dz (b := ((((LH == s1) && (LI == (LF.length : Int))) && (LK == (0 : Int))) && (decide ((LF.length : Int) ≤ (qh ((s1.length : Int) + (qh ((5 : Int) * (qh ((1 : Int) + (yD .i64 (s1.length : Int) (65535 : Int)))))))))))) hM (fun LG hM => ?_) (fun LG hM => ?_)
   ·replace hS := hS.re 46 (v := .bool true) rfl (congrArg Value.bool LG)
    replace hS := hS.re 47 (v := .bool true) rfl (congrArg Value.bool LG)
    refine Zm hS rfl rfl rfl rfl <| qN hS rfl Tryd.call9 (vr hG K  (hS.st.part 0 [] (by kernel_rfl)) (qv hM) (fun LO w hM  hst => qG hS.ev hst.appF rfl fun hS => ?_) (fun v w hk hst => xm (qD (qD (⟨hS.ev.defs, hpan _ _ hk hst.appF.frame⟩)))))
    replace hS : Ss _ _ _ H [] F _ _ := hS
    refine sO hS (pk rfl rfl rfl) rfl fun hS => zg <| qf ?_
    exact LL _ _ ⟨LO, hS.to [] (by kernel_rfl) ⟨rfl, trivial⟩, hM⟩
   ·replace hS := hS.re 46 (v := .bool false) rfl (congrArg Value.bool LG)
    replace hS := hS.re 47 (v := .bool false) rfl (congrArg Value.bool LG)
    refine Kd 1 hS rfl fun a w hS => sO hS (pk rfl rfl rfl) rfl fun hS => zg <| qf ?_
    exact LL _ _ ⟨false, hS.to [] (by kernel_rfl) ⟨rfl, trivial⟩, hM⟩
  ·intro a w hI
   obtain ⟨LJ, hS, hM⟩ := hI
   rw [zU.j1] at hM
   refine sA hS rfl fun hS => qJ <| wp_ret ?_
   exact zX (rs := [2]) hS rfl rfl (hret LJ _ (zn hM) (hS.st.pick [] (by kernel_rfl)))
end Go.TrydS

