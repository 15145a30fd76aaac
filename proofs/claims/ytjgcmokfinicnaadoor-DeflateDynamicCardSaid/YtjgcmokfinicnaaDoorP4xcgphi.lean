/- Printed by a program of mine: each Go function answers what its model answers; conditions: what each theorem asks of memory. -/
import Derived.Test.YtjgcmokfinicnaaDoorP3xeepbm
set_option linter.unusedVariables false
set_option linter.unusedSimpArgs false
set_option maxRecDepth 100000
namespace Go.TrydS
open Go Go.Sl Go.Mo Go.Proofs
attribute [local irreducible] qR.wp
theorem vU {H : xR} {F : List qq} {w : World} {R : Ending → World → Prop} {kr : Unit → Prop} {kp : Value → Prop} (hG : Gl H) (K : Nat) (Gu : xn) (Gv : Int) (Gw : Nat) (Gz : qq) (GC : Nat) (GA : qq) (Gx : xZ Gz Gw ([yc Gu.text_, .map (some GC)]) 90) (GI : Xw (Un .u8) (Ul 3) 3 (ci .i64) 1 GC Gu.seen_ GA)
    (hS : St w H [Gz, GA] F) (hm : (jr.m K Gu Gv).wp kr kp)
    (hret : ∀ (w : World), kr () → St w H [Gz, GA] F → R (.returned (.agg ⟨([((rd Gu.text_ Gv).toNat : Int), ((rd Gu.text_ (qh (Gv + (1 : Int)))).toNat : Int), ((rd Gu.text_ (qh (Gv + (2 : Int)))).toNat : Int)] : List Int).flatMap (ci .u8)⟩)) w) :
    Calls Tryd.prog 66 ⟨[qS Gw 0, .int .i64 Gv]⟩ w R := by
 refine enter Tryd.func66 rfl Tryd.ntmps66 rfl hS fun a w hS => ?_
 have hM := hm; clear hm
 rw [jr.m] at hM
 refine qp <| Qs ((List.replicate 3 (0 : Int)).flatMap (ci .u8)) hS Tryd.zeroValue126 rfl rfl fun w GB GJ GD hS => qF <| wp_seq ?_
 obtain ⟨GE, hM⟩ := qH hM
 obtain ⟨GF, hM⟩ := qH hM
 obtain ⟨GG, hM⟩ := qH hM
 refine za (vals := [some (qS Gw 0), some (qS Gw 0), some (qS Gw 0), some (yc Gu.text_), some (.int .i64 Gv), some (.int .u8 ((rd Gu.text_ Gv).toNat : Int)), some (qS Gw 0), some (qS Gw 0), some (qS Gw 0), some (yc Gu.text_), some (.int .i64 Gv), some (.int .i64 (qh (Gv + (1 : Int)))), some (.int .u8 ((rd Gu.text_ (qh (Gv + (1 : Int)))).toNat : Int)), some (qS Gw 0), some (qS Gw 0), some (qS Gw 0), some (yc Gu.text_), some (.int .i64 Gv), some (.int .i64 (qh (Gv + (2 : Int)))), some (.int .u8 ((rd Gu.text_ (qh (Gv + (2 : Int)))).toNat : Int)), some (.agg ⟨([((rd Gu.text_ Gv).toNat : Int), ((rd Gu.text_ (qh (Gv + (1 : Int)))).toNat : Int), ((rd Gu.text_ (qh (Gv + (2 : Int)))).toNat : Int)] : List Int).flatMap (ci .u8)⟩), none]) hS xp rfl ?_
 intro l w ho hcl hA hst
 refine jn hA hst ho hcl xv xo 21 [0, 1, 2, 3, 4, 5, 6, 7, 8, 9, 10, 11, 12, 13, 14, 15, 16, 17, 18, 19, 20] rfl rfl rfl rfl rfl (by exact ⟨nM rfl, nQ rfl (by exact qU (yx rfl) rfl), nQ rfl (by exact qU (xu rfl Tryd.runUnderlying90 rfl Tryd.sizeOf9 rfl) rfl), nQ rfl (by exact qU (xW 1 rfl Gx rfl rfl Tryd.isAgg9) rfl), nM rfl, nQ rfl (by exact qU (Uo rfl rfl Tryd.runUnderlying9 GE) rfl), nM rfl, nQ rfl (by exact qU (yx rfl) rfl), nQ rfl (by exact qU (xu rfl Tryd.runUnderlying90 rfl Tryd.sizeOf9 rfl) rfl), nQ rfl (by exact qU (xW 1 rfl Gx rfl rfl Tryd.isAgg9) rfl), nM rfl, nB rfl, nQ rfl (by exact qU (Uo rfl rfl Tryd.runUnderlying9 GF) rfl), nM rfl, nQ rfl (by exact qU (yx rfl) rfl), nQ rfl (by exact qU (xu rfl Tryd.runUnderlying90 rfl Tryd.sizeOf9 rfl) rfl), nQ rfl (by exact qU (xW 1 rfl Gx rfl rfl Tryd.isAgg9) rfl), nM rfl, nB rfl, nQ rfl (by exact qU (Uo rfl rfl Tryd.runUnderlying9 GG) rfl), nQ rfl (by exact qU (BB (([((rd Gu.text_ Gv).toNat : Int), ((rd Gu.text_ (qh (Gv + (1 : Int)))).toNat : Int), ((rd Gu.text_ (qh (Gv + (2 : Int)))).toNat : Int)] : List Int).flatMap (ci .u8)) Tryd.zeroValue126 Tryd.runUnderlying126 Tryd.sizeOf5 rfl (by kernel_rfl)) rfl), trivial⟩) fun D l a w ho hcl hav hpre hm hE hk hA hst => ?_
 have hS := (Ss.mk hE hst).env2 (e' := [(4, qS GB 0), (25, .agg ⟨([((rd Gu.text_ Gv).toNat : Int), ((rd Gu.text_ (qh (Gv + (1 : Int)))).toNat : Int), ((rd Gu.text_ (qh (Gv + (2 : Int)))).toNat : Int)] : List Int).flatMap (ci .u8)⟩)]) ⟨rfl, rfl, trivial⟩
 refine q7 rfl <| Yt (xs := (List.replicate 3 (0 : Int))) (ys := ([((rd Gu.text_ Gv).toNat : Int), ((rd Gu.text_ (qh (Gv + (1 : Int)))).toNat : Int), ((rd Gu.text_ (qh (Gv + (2 : Int)))).toNat : Int)] : List Int)) (g := (ci .u8)) (pre := []) (post := []) 0 hS rfl rfl GD rfl (by simp) rfl (xB (g := (ci .u8)) (sz := 1) (fun _ => rfl) (List.length_replicate ..)) (xB (g := (ci .u8)) (sz := 1) (fun _ => rfl) rfl) (uy) Tryd.sizeOf126 fun w GH Gy hS => ?_
 replace Gy : xZ GH GB (([((rd Gu.text_ Gv).toNat : Int), ((rd Gu.text_ (qh (Gv + (1 : Int)))).toNat : Int), ((rd Gu.text_ (qh (Gv + (2 : Int)))).toNat : Int)] : List Int).flatMap (ci .u8)) 126 := by simpa using Gy
 refine qF ?_
 replace hst := hS.st
 obtain ⟨hcl, hmust, hav2, hA⟩ := ZV (vals' := [some (qS Gw 0), some (qS Gw 0), some (qS Gw 0), some (yc Gu.text_), some (.int .i64 Gv), some (.int .u8 ((rd Gu.text_ Gv).toNat : Int)), some (qS Gw 0), some (qS Gw 0), some (qS Gw 0), some (yc Gu.text_), some (.int .i64 Gv), some (.int .i64 (qh (Gv + (1 : Int)))), some (.int .u8 ((rd Gu.text_ (qh (Gv + (1 : Int)))).toNat : Int)), some (qS Gw 0), some (qS Gw 0), some (qS Gw 0), some (yc Gu.text_), some (.int .i64 Gv), some (.int .i64 (qh (Gv + (2 : Int)))), some (.int .u8 ((rd Gu.text_ (qh (Gv + (2 : Int)))).toNat : Int)), some (.agg ⟨([((rd Gu.text_ Gv).toNat : Int), ((rd Gu.text_ (qh (Gv + (1 : Int)))).toNat : Int), ((rd Gu.text_ (qh (Gv + (2 : Int)))).toNat : Int)] : List Int).flatMap (ci .u8)⟩), some undef]) 21 [(0, 21), (1, 21), (2, 21), (3, 21), (4, 21), (5, 21), (6, 21), (7, 21), (8, 21), (9, 21), (10, 21), (11, 21), (12, 21), (13, 21), (14, 21), (15, 21), (16, 21), (17, 21), (18, 21), (19, 21), (20, 21)] hA hcl hav hm hpre rfl rfl rfl rfl rfl
 clear hm hav
 refine x3 hA hst ho hcl hmust [] rfl rfl rfl trivial fun a w hS => ?_
 replace hS := hS.env2 (e' := [(4, qS GB 0)]) ⟨rfl, trivial⟩
 refine qd <| wp_ret ?_
 exact yC (vs := [.agg ⟨([((rd Gu.text_ Gv).toNat : Int), ((rd Gu.text_ (qh (Gv + (1 : Int)))).toNat : Int), ((rd Gu.text_ (qh (Gv + (2 : Int)))).toNat : Int)] : List Int).flatMap (ci .u8)⟩]) hS rfl (by exact ⟨Du 0 rfl Gy rfl (xB (g := (ci .u8)) (sz := 1) (fun _ => rfl) rfl) Tryd.isAgg126 Tryd.sizeOf126, trivial⟩) (hret _ (qV hM) (hS.st.pick [1, 2] (by kernel_rfl)))
theorem Qo {H : xR} {F : List qq} {w : World} {R : Ending → World → Prop} {kr : Int → Prop} {kp : Value → Prop} (hG : Gl H) (K : Nat) (Gv : xn) (Gx : Int) (Gw : Int) (Gy : Nat) (GB : qq) (GH : Nat) (GC : qq) (Gz : xZ GB Gy ([yc Gv.text_, .map (some GH)]) 90) (GO : Xw (Un .u8) (Ul 3) 3 (ci .i64) 1 GH Gv.seen_ GC)
    (hS : St w H [GB, GC] F) (hm : (zY.m K Gv Gx Gw).wp kr kp)
    (hret : ∀ (GI : Int) (w : World), kr GI → St w H [GB, GC] F → R (.returned (.int .i64 GI)) w) :
    Calls Tryd.prog 67 ⟨[qS Gy 0, .int .i64 Gx, .int .i64 Gw]⟩ w R := by
 refine enter Tryd.func67 rfl Tryd.ntmps67 rfl hS fun a w hS => ?_
 have hM := hm; clear hm
 rw [zY.m] at hM
 refine qp <| sA hS rfl fun hS => qF <| qp <| sA hS rfl fun hS => qF <| wp_seq <| xw <| zk (fun GF a w => ∃ (Gu : Int), Ss 43 [] [(0, qS Gy 0), (1, .int .i64 Gx), (2, .int .i64 Gw), (7, .int .i64 Gu)] H [GB, GC] F a w ∧ (zY.l1 K Gv Gx Gw GF Gu).wp kr kp) K ?_ ?_ ?_
 ·exact ⟨(0 : Int), hS.to [0, 1] (by kernel_rfl) ⟨rfl, rfl, rfl, rfl, trivial⟩, hM⟩
 ·intro a w hI; obtain ⟨_, _, hM⟩ := hI; exact zj hM
 ·intro GF a w hI GP GJ
  obtain ⟨Gu, hS, hM⟩ := hI
  rw [zY.l1] at hM
  refine wp_seq <| zg (fun a w => ∃ (GG : Bool), Ss 43 [] [(0, qS Gy 0), (1, .int .i64 Gx), (2, .int .i64 Gw), (7, .int .i64 Gu), (39, .bool GG)] H [GB, GC] F a w ∧ (zY.j2 K (zY.l1 K Gv Gx Gw GF) Gu GG).wp kr kp) (fun GQ GD => ?_) ?_
  ·refine Uh (b := (decide (Gu < (258 : Int)))) hM (fun GA hM => ?_) (fun GA hM => ?_)
   ·refine Uh (b := (decide ((qh (Gw + Gu)) < (Gv.text_.length : Int)))) hM (fun GE hM => ?_) (fun GE hM => ?_)
    ·obtain ⟨GK, hM⟩ := qH hM
     obtain ⟨GL, hM⟩ := qH hM
     refine za (vals := [some (.int .i64 Gu), some (.bool true), some (.bool true), some (.int .i64 Gw), some (.int .i64 Gu), some (.int .i64 (qh (Gw + Gu))), some (qS Gy 0), some (qS Gy 0), some (qS Gy 0), some (yc Gv.text_), some (.int .i64 (Gv.text_.length : Int)), some (.bool true), some (.bool true), some (.bool true), some (qS Gy 0), some (qS Gy 0), some (qS Gy 0), some (yc Gv.text_), some (.int .i64 Gx), some (.int .i64 Gu), some (.int .i64 (qh (Gx + Gu))), some (.int .u8 ((rd Gv.text_ (qh (Gx + Gu))).toNat : Int)), some (qS Gy 0), some (qS Gy 0), some (qS Gy 0), some (yc Gv.text_), some (.int .i64 Gw), some (.int .i64 Gu), some (.int .i64 (qh (Gw + Gu))), some (.int .u8 ((rd Gv.text_ (qh (Gw + Gu))).toNat : Int)), some (.bool (((rd Gv.text_ (qh (Gx + Gu))).toNat : Int) == ((rd Gv.text_ (qh (Gw + Gu))).toNat : Int))), some (.bool (((rd Gv.text_ (qh (Gx + Gu))).toNat : Int) == ((rd Gv.text_ (qh (Gw + Gu))).toNat : Int)))]) hS xp rfl ?_
     intro l w ho hcl hA hst
     refine x3 hA hst ho hcl xo [0, 1, 2, 3, 4, 5, 6, 7, 8, 9, 10, 11, 12, 13, 14, 15, 16, 17, 18, 19, 20, 21, 22, 23, 24, 25, 26, 27, 28, 29, 30, 31] rfl rfl rfl (by exact ⟨nM rfl, nQ rfl (by exact qU (yU rfl rfl rfl) (congrArg Value.bool GA)), nM rfl, nW rfl rfl rfl rfl rfl rfl rfl rfl (by exact qU (mv rfl) rfl), nW rfl rfl rfl rfl rfl rfl rfl rfl (by exact qU (mv rfl) rfl), nW rfl rfl rfl rfl rfl rfl rfl rfl (by exact qU (yU rfl rfl rfl) rfl), nW rfl rfl rfl rfl rfl rfl rfl rfl (by exact qU (mv rfl) rfl), nW rfl rfl rfl rfl rfl rfl rfl rfl (by exact qU (yx rfl) rfl), nW rfl rfl rfl rfl rfl rfl rfl rfl (by exact qU (xu rfl Tryd.runUnderlying90 rfl Tryd.sizeOf9 rfl) rfl), nW rfl rfl rfl rfl rfl rfl rfl rfl (by exact qU (xW 0 rfl Gz rfl rfl Tryd.isAgg9) rfl), nW rfl rfl rfl rfl rfl rfl rfl rfl (by exact qU (uW rfl Tryd.runUnderlying9) rfl), nW rfl rfl rfl rfl rfl rfl rfl rfl (by exact qU (yU rfl rfl rfl) (congrArg Value.bool GE)), nQ rfl (by exact qU (pk rfl rfl rfl) rfl), nM rfl, nW rfl rfl rfl rfl rfl rfl rfl rfl (by exact qU (mv rfl) rfl), nW rfl rfl rfl rfl rfl rfl rfl rfl (by exact qU (yx rfl) rfl), nW rfl rfl rfl rfl rfl rfl rfl rfl (by exact qU (xu rfl Tryd.runUnderlying90 rfl Tryd.sizeOf9 rfl) rfl), nW rfl rfl rfl rfl rfl rfl rfl rfl (by exact qU (xW 0 rfl Gz rfl rfl Tryd.isAgg9) rfl), nW rfl rfl rfl rfl rfl rfl rfl rfl (by exact qU (mv rfl) rfl), nW rfl rfl rfl rfl rfl rfl rfl rfl (by exact qU (mv rfl) rfl), nW rfl rfl rfl rfl rfl rfl rfl rfl (by exact qU (yU rfl rfl rfl) rfl), nW rfl rfl rfl rfl rfl rfl rfl rfl (by exact qU (Uo rfl rfl Tryd.runUnderlying9 GK) rfl), nW rfl rfl rfl rfl rfl rfl rfl rfl (by exact qU (mv rfl) rfl), nW rfl rfl rfl rfl rfl rfl rfl rfl (by exact qU (yx rfl) rfl), nW rfl rfl rfl rfl rfl rfl rfl rfl (by exact qU (xu rfl Tryd.runUnderlying90 rfl Tryd.sizeOf9 rfl) rfl), nW rfl rfl rfl rfl rfl rfl rfl rfl (by exact qU (xW 0 rfl Gz rfl rfl Tryd.isAgg9) rfl), nW rfl rfl rfl rfl rfl rfl rfl rfl (by exact qU (mv rfl) rfl), nW rfl rfl rfl rfl rfl rfl rfl rfl (by exact qU (mv rfl) rfl), nW rfl rfl rfl rfl rfl rfl rfl rfl (by exact qU (yU rfl rfl rfl) rfl), nW rfl rfl rfl rfl rfl rfl rfl rfl (by exact qU (Uo rfl rfl Tryd.runUnderlying9 GL) rfl), nW rfl rfl rfl rfl rfl rfl rfl rfl (by exact qU (yU rfl rfl rfl) rfl), nQ rfl (by exact qU (pk rfl rfl rfl) rfl), trivial⟩) fun a w hS => ?_
     replace hS := hS.env2 (e' := [(0, qS Gy 0), (1, .int .i64 Gx), (2, .int .i64 Gw), (7, .int .i64 Gu), (39, .bool (((rd Gv.text_ (qh (Gx + Gu))).toNat : Int) == ((rd Gv.text_ (qh (Gw + Gu))).toNat : Int)))]) ⟨rfl, rfl, rfl, rfl, rfl, trivial⟩
     refine qd ?_
     exact GD _ _ ⟨(((rd Gv.text_ (qh (Gx + Gu))).toNat : Int) == ((rd Gv.text_ (qh (Gw + Gu))).toNat : Int)), hS.to [0, 1] (by kernel_rfl) ⟨rfl, rfl, rfl, rfl, rfl, trivial⟩, hM⟩
    ·refine za (vals := [some (.int .i64 Gu), some (.bool true), some (.bool true), some (.int .i64 Gw), some (.int .i64 Gu), some (.int .i64 (qh (Gw + Gu))), some (qS Gy 0), some (qS Gy 0), some (qS Gy 0), some (yc Gv.text_), some (.int .i64 (Gv.text_.length : Int)), some (.bool false), some (.bool false), some (.bool false), some (undef), some (undef), some (undef), some (undef), some (undef), some (undef), some (undef), some (undef), some (undef), some (undef), some (undef), some (undef), some (undef), some (undef), some (undef), some (undef), some (undef), some (.bool false)]) hS xp rfl ?_
     intro l w ho hcl hA hst
     refine x3 hA hst ho hcl xo [0, 1, 2, 3, 4, 5, 6, 7, 8, 9, 10, 11, 12, 13, 14, 15, 16, 17, 18, 19, 20, 21, 22, 23, 24, 25, 26, 27, 28, 29, 30, 31] rfl rfl rfl (by exact ⟨nM rfl, nQ rfl (by exact qU (yU rfl rfl rfl) (congrArg Value.bool GA)), nM rfl, nW rfl rfl rfl rfl rfl rfl rfl rfl (by exact qU (mv rfl) rfl), nW rfl rfl rfl rfl rfl rfl rfl rfl (by exact qU (mv rfl) rfl), nW rfl rfl rfl rfl rfl rfl rfl rfl (by exact qU (yU rfl rfl rfl) rfl), nW rfl rfl rfl rfl rfl rfl rfl rfl (by exact qU (mv rfl) rfl), nW rfl rfl rfl rfl rfl rfl rfl rfl (by exact qU (yx rfl) rfl), nW rfl rfl rfl rfl rfl rfl rfl rfl (by exact qU (xu rfl Tryd.runUnderlying90 rfl Tryd.sizeOf9 rfl) rfl), nW rfl rfl rfl rfl rfl rfl rfl rfl (by exact qU (xW 0 rfl Gz rfl rfl Tryd.isAgg9) rfl), nW rfl rfl rfl rfl rfl rfl rfl rfl (by exact qU (uW rfl Tryd.runUnderlying9) rfl), nW rfl rfl rfl rfl rfl rfl rfl rfl (by exact qU (yU rfl rfl rfl) (congrArg Value.bool GE)), nQ rfl (by exact qU (pk rfl rfl rfl) rfl), nM rfl, nS rfl rfl rfl rfl rfl rfl rfl rfl rfl, nS rfl rfl rfl rfl rfl rfl rfl rfl rfl, nS rfl rfl rfl rfl rfl rfl rfl rfl rfl, nS rfl rfl rfl rfl rfl rfl rfl rfl rfl, nS rfl rfl rfl rfl rfl rfl rfl rfl rfl, nS rfl rfl rfl rfl rfl rfl rfl rfl rfl, nS rfl rfl rfl rfl rfl rfl rfl rfl rfl, nS rfl rfl rfl rfl rfl rfl rfl rfl rfl, nS rfl rfl rfl rfl rfl rfl rfl rfl rfl, nS rfl rfl rfl rfl rfl rfl rfl rfl rfl, nS rfl rfl rfl rfl rfl rfl rfl rfl rfl, nS rfl rfl rfl rfl rfl rfl rfl rfl rfl, nS rfl rfl rfl rfl rfl rfl rfl rfl rfl, nS rfl rfl rfl rfl rfl rfl rfl rfl rfl, nS rfl rfl rfl rfl rfl rfl rfl rfl rfl, nS rfl rfl rfl rfl rfl rfl rfl rfl rfl, nS rfl rfl rfl rfl rfl rfl rfl rfl rfl, nQ rfl (by exact qU (pk rfl rfl rfl) rfl), trivial⟩) fun a w hS => ?_
     replace hS := hS.env2 (e' := [(0, qS Gy 0), (1, .int .i64 Gx), (2, .int .i64 Gw), (7, .int .i64 Gu), (39, .bool false)]) ⟨rfl, rfl, rfl, rfl, rfl, trivial⟩
     refine qd ?_
     exact GD _ _ ⟨false, hS.to [0, 1] (by kernel_rfl) ⟨rfl, rfl, rfl, rfl, rfl, trivial⟩, hM⟩
   ·refine za (vals := [some (.int .i64 Gu), some (.bool false), some (.bool false), some (undef), some (undef), some (undef), some (undef), some (undef), some (undef), some (undef), some (undef), some (undef), some (.bool false), some (.bool false), some (undef), some (undef), some (undef), some (undef), some (undef), some (undef), some (undef), some (undef), some (undef), some (undef), some (undef), some (undef), some (undef), some (undef), some (undef), some (undef), some (undef), some (.bool false)]) hS xp rfl ?_
    intro l w ho hcl hA hst
    refine x3 hA hst ho hcl xo [0, 1, 2, 3, 4, 5, 6, 7, 8, 9, 10, 11, 12, 13, 14, 15, 16, 17, 18, 19, 20, 21, 22, 23, 24, 25, 26, 27, 28, 29, 30, 31] rfl rfl rfl (by exact ⟨nM rfl, nQ rfl (by exact qU (yU rfl rfl rfl) (congrArg Value.bool GA)), nM rfl, nS rfl rfl rfl rfl rfl rfl rfl rfl rfl, nS rfl rfl rfl rfl rfl rfl rfl rfl rfl, nS rfl rfl rfl rfl rfl rfl rfl rfl rfl, nS rfl rfl rfl rfl rfl rfl rfl rfl rfl, nS rfl rfl rfl rfl rfl rfl rfl rfl rfl, nS rfl rfl rfl rfl rfl rfl rfl rfl rfl, nS rfl rfl rfl rfl rfl rfl rfl rfl rfl, nS rfl rfl rfl rfl rfl rfl rfl rfl rfl, nS rfl rfl rfl rfl rfl rfl rfl rfl rfl, nQ rfl (by exact qU (pk rfl rfl rfl) rfl), nM rfl, nS rfl rfl rfl rfl rfl rfl rfl rfl rfl, nS rfl rfl rfl rfl rfl rfl rfl rfl rfl, nS rfl rfl rfl rfl rfl rfl rfl rfl rfl, nS rfl rfl rfl rfl rfl rfl rfl rfl rfl, nS rfl rfl rfl rfl rfl rfl rfl rfl rfl, nS rfl rfl rfl rfl rfl rfl rfl rfl rfl, nS rfl rfl rfl rfl rfl rfl rfl rfl rfl, nS rfl rfl rfl rfl rfl rfl rfl rfl rfl, nS rfl rfl rfl rfl rfl rfl rfl rfl rfl, nS rfl rfl rfl rfl rfl rfl rfl rfl rfl, nS rfl rfl rfl rfl rfl rfl rfl rfl rfl, nS rfl rfl rfl rfl rfl rfl rfl rfl rfl, nS rfl rfl rfl rfl rfl rfl rfl rfl rfl, nS rfl rfl rfl rfl rfl rfl rfl rfl rfl, nS rfl rfl rfl rfl rfl rfl rfl rfl rfl, nS rfl rfl rfl rfl rfl rfl rfl rfl rfl, nS rfl rfl rfl rfl rfl rfl rfl rfl rfl, nQ rfl (by exact qU (pk rfl rfl rfl) rfl), trivial⟩) fun a w hS => ?_
    replace hS := hS.env2 (e' := [(0, qS Gy 0), (1, .int .i64 Gx), (2, .int .i64 Gw), (7, .int .i64 Gu), (39, .bool false)]) ⟨rfl, rfl, rfl, rfl, rfl, trivial⟩
    refine qd ?_
    exact GD _ _ ⟨false, hS.to [0, 1] (by kernel_rfl) ⟨rfl, rfl, rfl, rfl, rfl, trivial⟩, hM⟩
  ·intro a w hI
   obtain ⟨GG, hS, hM⟩ := hI
   rw [zY.j2] at hM
   refine qv hS rfl hM (fun GM hM => ?_) (fun GM hM => ?_)
   ·refine wp_skip ?_
    refine qd <| xw <| zB <| sM hS rfl fun hS => sB hS rfl fun hS => zz (v := Value.int .i64) (x0 := (qh (Gu + (1 : Int)))) hS (xj rfl) rfl fun GN a w hz hS => ?_
    have hM := qC hz hM; clear hz
    refine zc <| zr (qd ?_)
    exact GJ _ _ ⟨GN, hS.to [0, 1] (by kernel_rfl) ⟨rfl, rfl, rfl, rfl, trivial⟩, hM⟩
   ·refine wp_exit ?_
    refine qB (qB (qY (qd ?_)))
    refine qp <| sM hS rfl fun hS => sA hS rfl fun hS => qF <| wp_ret ?_
    exact zm (rs := [6]) hS rfl rfl (hret Gu _ (qV hM) (hS.st.pick [0, 1] (by kernel_rfl)))
theorem Qq {H : xR} {F : List qq} {w : World} {R : Ending → World → Prop} {kr : (Int × Int) → Prop} {kp : Value → Prop} (hG : Gl H) (K : Nat) (Gv : xn) (Gu : Int) (Gx : Nat) (GD : qq) (GF : Nat) (GE : qq) (GG : xZ GD Gx ([yc Gv.text_, .map (some GF)]) 90) (GM : Xw (Un .u8) (Ul 3) 3 (ci .i64) 1 GF Gv.seen_ GE)
    (hS : St w H [GD, GE] F) (hm : (xd.m K Gv Gu).wp kr kp)
    (hret : ∀ (GN : Int) (GJ : Int) (w : World), kr (GN, GJ) → St w H [GD, GE] F → R (.returned (.agg ⟨[.int .u8 (0 : Int), .int .i64 GN, .int .i64 GJ]⟩)) w) :
    Calls Tryd.prog 43 ⟨[qS Gx 0, .int .i64 Gu]⟩ w R := by
 refine enter Tryd.func43 rfl Tryd.ntmps43 rfl hS fun a w hS => ?_
 have hM := hm; clear hm
 rw [xd.m] at hM
 refine qp <| Qs ([.int .u8 (0 : Int), .int .i64 (0 : Int), .int .i64 (0 : Int)]) hS Tryd.zeroValue32 rfl rfl fun w GU GO GV hS => qF <| qp <| Qs ([.int .u8 (0 : Int), .int .i64 (0 : Int), .int .i64 (0 : Int)]) hS Tryd.zeroValue32 rfl rfl fun w GK G2 GW hS => qF <| wp_seq <| qp <| sM hS rfl fun hS => sB hS rfl fun hS => sM hS rfl fun hS => sO hS (yx rfl) rfl fun hS => sO hS (xu rfl Tryd.runUnderlying90 rfl Tryd.sizeOf9 rfl) rfl fun hS => sO hS (xW 2 rfl GG rfl rfl Tryd.isAgg9) rfl fun hS => sO hS (uW rfl Tryd.runUnderlying9) rfl fun hS => sB hS rfl fun hS => qF <| qv hS rfl hM (fun G4 hM => ?_) (fun G4 hM => ?_)
 ·refine wp_seq ?_
  refine zB <| sO hS (vF 0 rfl GW rfl ([.int .u8 (0 : Int), .int .i64 (0 : Int), .int .i64 (0 : Int)]) rfl rfl Tryd.isAgg32 Tryd.sizeOf32) rfl fun hS => uz 1 ([.int .u8 (0 : Int), .int .i64 (0 : Int), .int .i64 (0 : Int)]) ([.int .u8 (0 : Int), .int .i64 (0 : Int), .int .i64 (0 : Int)]) hS rfl rfl GV rfl rfl Tryd.sizeOf32 (by simp [Value.oneCell']) (Nat.le_of_ble_eq_true rfl) rfl fun w Le G5 hS => qF <| wp_ret <| qz ?_
  exact yC (vs := [.agg ⟨[.int .u8 (0 : Int), .int .i64 (0 : Int), .int .i64 (0 : Int)]⟩]) hS rfl (by exact ⟨YW 1 ([.int .u8 (0 : Int), .int .i64 (0 : Int), .int .i64 (0 : Int)]) rfl G5 rfl rfl rfl Tryd.isAgg32 Tryd.sizeOf32, trivial⟩) (hret (0 : Int) (0 : Int) _ (qV hM) (hS.st.pick [2, 3] (by kernel_rfl)))
 ·refine wp_skip ?_
  refine qd <| wp_seq <| za (vals := [some (qS Gx 0), some (qS Gx 0), some (qS Gx 1), some (.map (some GF)), some (qS Gx 0), some (.int .i64 Gu), none, none, none]) hS xp rfl ?_
  intro l w ho hcl hA hst
  refine jn hA hst ho hcl xv xo 6 [0, 1, 2, 3, 4, 5] rfl rfl rfl rfl rfl (by exact ⟨nM rfl, nQ rfl (by exact qU (yx rfl) rfl), nQ rfl (by exact qU (xu rfl Tryd.runUnderlying90 rfl Tryd.sizeOf88 rfl) rfl), nQ rfl (by exact qU (xW 2 rfl GG rfl rfl Tryd.isAgg88) rfl), nM rfl, nM rfl, trivial⟩) fun D l a w ho hcl hav hpre hm hE hk hA hst => ?_
  have hS := (Ss.mk hE hst).env2 (e' := [(23, qS Gx 0), (24, .int .i64 Gu)]) ⟨rfl, rfl, trivial⟩
  refine q7 rfl <| qO hS rfl Tryd.call66 (vU hG K Gv Gu Gx GD GF GE GG GM (hS.st.part 2 [2, 3, 0, 1] (by kernel_rfl)) (qE hM) (fun  w hM  hst => qL hS.ev hst.appF rfl fun hS => ?_))
  replace hS : Ss _ _ _ H [GD, GE, G2, GO] F _ _ := hS
  refine qF ?_
  replace hst := hS.st
  obtain ⟨hcl, hmust, hav2, hA⟩ := dn (vals' := [some (qS Gx 0), some (qS Gx 0), some (qS Gx 1), some (.map (some GF)), some (qS Gx 0), some (.int .i64 Gu), some (.agg ⟨([((rd Gv.text_ Gu).toNat : Int), ((rd Gv.text_ (qh (Gu + (1 : Int)))).toNat : Int), ((rd Gv.text_ (qh (Gu + (2 : Int)))).toNat : Int)] : List Int).flatMap (ci .u8)⟩), none, none]) 6 [(4, 6), (5, 6)] hA hcl hav hm hpre hk rfl rfl rfl rfl rfl rfl rfl
  clear hm hav
  refine jn hA hst ho hcl hav2 hmust 7 [0, 1, 2, 3] rfl rfl rfl rfl rfl (by exact ⟨nM rfl, nQ rfl (by exact qU (yx rfl) rfl), nQ rfl (by exact qU (xu rfl Tryd.runUnderlying90 rfl Tryd.sizeOf88 rfl) rfl), nQ rfl (by exact qU (xW 0 rfl GG rfl rfl Tryd.isAgg88) rfl), trivial⟩) fun D l a w ho hcl hav hpre hm hE hk hA hst => ?_
  have hS := (Ss.mk hE hst).env2 (e' := [(22, .map (some GF)), (25, .agg ⟨([((rd Gv.text_ Gu).toNat : Int), ((rd Gv.text_ (qh (Gu + (1 : Int)))).toNat : Int), ((rd Gv.text_ (qh (Gu + (2 : Int)))).toNat : Int)] : List Int).flatMap (ci .u8)⟩)]) ⟨rfl, rfl, trivial⟩
  refine q7 rfl <| Gq (kv := Un .u8) (ok := Ul 3) (E := 3) (g := (ci .i64)) (sz := 1) (q := ([((rd Gv.text_ Gu).toNat : Int), ((rd Gv.text_ (qh (Gu + (1 : Int)))).toNat : Int), ((rd Gv.text_ (qh (Gu + (2 : Int)))).toNat : Int)] : List Int)) 1 hS rfl rfl rfl rfl GM rfl (UA Tryd.runUnderlying126 Tryd.runUnderlying5 Tryd.sizeOf5 Tryd.isAgg5) Tryd.runUnderlying88 Tryd.zeroValue45 (fun _ => rfl) rfl rfl fun GB GP GQ w hz GX Ld hS => ?_
  have hM := qC hz hM; clear hz
  refine qF ?_
  replace hst := hS.st
  obtain ⟨hcl, hmust, hav2, hA⟩ := dn (vals' := [some (qS Gx 0), some (qS Gx 0), some (qS Gx 1), some (.map (some GF)), some (qS Gx 0), some (.int .i64 Gu), some (.agg ⟨([((rd Gv.text_ Gu).toNat : Int), ((rd Gv.text_ (qh (Gu + (1 : Int)))).toNat : Int), ((rd Gv.text_ (qh (Gu + (2 : Int)))).toNat : Int)] : List Int).flatMap (ci .u8)⟩), some (.slice GP GB.length GQ), some (.slice GP GB.length GQ)]) 7 [(3, 7), (6, 7), (2, 3), (4, 6), (5, 6), (1, 2), (0, 1)] hA hcl hav hm hpre hk rfl rfl rfl rfl rfl rfl rfl
  clear hm hav
  refine x3 hA hst ho hcl hmust [8] rfl rfl rfl (by exact ⟨nA rfl, trivial⟩) fun a w hS => ?_
  replace hS := hS.env2 (e' := [(0, qS Gx 0), (1, .int .i64 Gu), (4, qS GU 0), (5, qS GK 0), (6, .slice GP GB.length GQ)]) ⟨rfl, rfl, rfl, rfl, rfl, trivial⟩
  refine qd <| zg (fun a w => ∃ (Gz : Int) (Gy : Int) (GY : qq), Ss 63 [] [(4, qS GU 0), (5, qS GK 0)] H [GD, GE, GO, GY] F a w ∧ (xZ GY GK ([.int .u8 (0 : Int), .int .i64 Gz, .int .i64 Gy]) 32) ∧ (xd.j2 K Gz Gy).wp kr kp) (fun Lf GZ => ?_) ?_
  ·refine wp_seq ?_
   refine zB <| sA hS rfl fun hS => qF <| xw <| zk (fun G3 a w => ∃ (GC : Int) (GA : Int) (GH : qq) (Gw : Int), Ss 63 [] [(0, qS Gx 0), (1, .int .i64 Gu), (4, qS GU 0), (5, qS GK 0), (6, .slice GP GB.length GQ), (7, .int .i64 Gw)] H [GD, GE, GO, GH] F a w ∧ (xZ GH GK ([.int .u8 (0 : Int), .int .i64 GC, .int .i64 GA]) 32) ∧ (xd.l1 K Gv Gu GB G3 GC GA Gw).wp kr kp) K ?_ ?_ ?_
   ·exact ⟨(0 : Int), (0 : Int), G2, (0 : Int), hS.to [0, 1, 3, 2] (by kernel_rfl) ⟨rfl, rfl, rfl, rfl, rfl, rfl, trivial⟩, GW, hM⟩
   ·intro a w hI; obtain ⟨_, _, _, _, _, _, hM⟩ := hI; exact zj hM
   ·intro G3 a w hI Lg G0
    obtain ⟨GC, GA, GH, Gw, hS, GI, hM⟩ := hI
    rw [xd.l1] at hM
    refine wp_seq <| qp <| sM hS rfl fun hS => sB hS rfl fun hS => sM hS rfl fun hS => yo 4 true 29 (b := (decide (Gw < (32 : Int)))) (r := (decide (Gw < (GB.length : Int)))) hS rfl rfl rfl rfl rfl rfl rfl (fun hb a w hS K hK => ?_) rfl fun a w hS => ?_
    ·refine zL hS rfl rfl rfl hb (mv rfl) rfl fun a w hS => ?_
     refine zL hS rfl rfl rfl hb (mv rfl) rfl fun a w hS => zL hS rfl rfl rfl hb (xY rfl Tryd.runUnderlying45) rfl fun a w hS => zL hS rfl rfl rfl hb (yU rfl rfl rfl) rfl fun a w hS => ?_
     exact zc (hK _ _ (hS.up 4 rfl rfl))
    refine qF <| qv hS rfl hM (fun G6 hM => ?_) (fun G6 hM => ?_)
    ·refine wp_skip ?_
     refine qd <| wp_seq <| xw <| qp <| sM hS rfl fun hS => sM hS rfl fun hS => sO hS (xY rfl Tryd.runUnderlying45) rfl fun hS => sB hS rfl fun hS => sM hS rfl fun hS => sB hS rfl fun hS => ?_
     obtain ⟨G1, hM⟩ := qH hM
     refine sO hS (xM rfl rfl Tryd.runUnderlying45 Tryd.sizeOf3 (GX.rd (i := 1) rfl) (fun _ => rfl) rfl G1) rfl fun hS => sO hS (yd rfl (GX.rd (i := 1) rfl) (fun _ => rfl) G1 rfl Tryd.isAgg3) rfl fun hS => zz (v := Value.int .i64) (x0 := (rd GB (qh ((qh ((GB.length : Int) - (1 : Int))) - Gw)))) hS (xj rfl) rfl fun GL a w hz hS => ?_
     have hM := qC hz hM; clear hz
     refine qF <| wp_seq <| qp <| sM hS rfl fun hS => sM hS rfl fun hS => sB hS rfl fun hS => sB hS rfl fun hS => qF <| qv hS rfl hM (fun G7 hM => ?_) (fun G7 hM => ?_)
     ·refine wp_exit ?_
      refine qB (BN rfl (qB (qB (qY (qd ?_)))))
      exact GZ _ _ ⟨GC, GA, GH, hS.to [0, 1, 2, 3] (by kernel_rfl) ⟨rfl, rfl, trivial⟩, GI, hM⟩
     ·refine wp_skip ?_
      refine qd <| qp <| sM hS rfl fun hS => sM hS rfl fun hS => sM hS rfl fun hS => qO hS rfl Tryd.call67 (Qo hG K Gv GL Gu Gx GD GF GE GG GM (hS.st.part 2 [0, 1, 2, 3] (by kernel_rfl)) (qE hM) (fun GR w hM  hst => qL hS.ev hst.appF rfl fun hS => ?_))
      replace hS : Ss _ _ _ H [GD, GE, GO, GH] F _ _ := hS
      refine sA hS rfl fun hS => qF <| qp <| sM hS rfl fun hS => sO hS (xu rfl Tryd.runUnderlying32 rfl Tryd.sizeOf3 rfl) rfl fun hS => sO hS (xW 3 rfl GI rfl rfl Tryd.isAgg3) rfl fun hS => sB hS rfl fun hS => qF <| qv hS rfl hM (fun G8 hM => ?_) (fun G8 hM => ?_)
      ·refine zB ?_
       refine sM hS rfl fun hS => sM hS rfl fun hS => sM hS rfl fun hS => sB hS rfl fun hS => sO hS (Zx ([.int .u8 (0 : Int), .int .i64 GR, .int .i64 (qh (Gu - GL))]) [(0, 1), (1, 1), (2, 1)] Tryd.zeroValue32 Tryd.runUnderlying32 (by intro w; simp [Tryd.sizeOf3, Tryd.sizeOf5]) rfl rfl) rfl fun hS => uz 3 ([.int .u8 (0 : Int), .int .i64 GR, .int .i64 (qh (Gu - GL))]) ([.int .u8 (0 : Int), .int .i64 GR, .int .i64 (qh (Gu - GL))]) hS rfl rfl GI rfl rfl Tryd.sizeOf32 (by simp [Value.oneCell']) (Nat.le_of_ble_eq_true rfl) rfl fun w Lc G9 hS => zc <| zr (qd ?_)
       refine zB <| sM hS rfl fun hS => sB hS rfl fun hS => zz (v := Value.int .i64) (x0 := (qh (Gw + (1 : Int)))) hS (xj rfl) rfl fun GS a w hz hS => ?_
       have hM := qC hz hM; clear hz
       refine zc <| qd ?_
       exact G0 _ _ ⟨GR, (qh (Gu - GL)), Lc, GS, hS.to [0, 1, 2, 3] (by kernel_rfl) ⟨rfl, rfl, rfl, rfl, rfl, rfl, trivial⟩, G9, hM⟩
      ·refine wp_skip ?_
       refine zr (qd ?_)
       refine zB <| sM hS rfl fun hS => sB hS rfl fun hS => zz (v := Value.int .i64) (x0 := (qh (Gw + (1 : Int)))) hS (xj rfl) rfl fun GT a w hz hS => ?_
       have hM := qC hz hM; clear hz
       refine zc <| qd ?_
       exact G0 _ _ ⟨GC, GA, GH, GT, hS.to [0, 1, 2, 3] (by kernel_rfl) ⟨rfl, rfl, rfl, rfl, rfl, rfl, trivial⟩, GI, hM⟩
    ·refine wp_exit ?_
     refine qB (qB (qY (qd ?_)))
     exact GZ _ _ ⟨GC, GA, GH, hS.to [0, 1, 2, 3] (by kernel_rfl) ⟨rfl, rfl, trivial⟩, GI, hM⟩
  ·intro a w hI
   obtain ⟨Gz, Gy, GY, hS, La, hM⟩ := hI
   rw [xd.j2] at hM
   refine qp <| sO hS (vF 3 rfl La rfl ([.int .u8 (0 : Int), .int .i64 Gz, .int .i64 Gy]) rfl rfl Tryd.isAgg32 Tryd.sizeOf32) rfl fun hS => uz 2 ([.int .u8 (0 : Int), .int .i64 Gz, .int .i64 Gy]) ([.int .u8 (0 : Int), .int .i64 Gz, .int .i64 Gy]) hS rfl rfl GV rfl rfl Tryd.sizeOf32 (by simp [Value.oneCell']) (Nat.le_of_ble_eq_true rfl) rfl fun w Lh Lb hS => qF <| wp_ret ?_
   exact yC (vs := [.agg ⟨[.int .u8 (0 : Int), .int .i64 Gz, .int .i64 Gy]⟩]) hS rfl (by exact ⟨YW 2 ([.int .u8 (0 : Int), .int .i64 Gz, .int .i64 Gy]) rfl Lb rfl rfl rfl Tryd.isAgg32 Tryd.sizeOf32, trivial⟩) (hret Gz Gy _ (qV hM) (hS.st.pick [0, 1] (by kernel_rfl)))
theorem Qp {H : xR} {F : List qq} {w : World} {R : Ending → World → Prop} {kr : (List ((List Int) × (List Int))) → Prop} {kp : Value → Prop} (hG : Gl H) (K : Nat) (Gu : xn) (Gv : Int) (Gw : Nat) (GE : qq) (Gx : Nat) (GF : qq) (GC : xZ GE Gw ([yc Gu.text_, .map (some Gx)]) 90) (GJ : Xw (Un .u8) (Ul 3) 3 (ci .i64) 1 Gx Gu.seen_ GF)
    (hS : St w H [GE, GF] F) (hm : (jH.m K Gu Gv).wp kr kp)
    (hret : ∀ (GG : (List ((List Int) × (List Int)))) (GN : qq) (w : World), kr GG → (Xw (Un .u8) (Ul 3) 3 (ci .i64) 1 Gx GG GN) → St w H [GE, GN] F → R (.returned (.tuple ⟨[]⟩)) w) :
    Calls Tryd.prog 44 ⟨[qS Gw 0, .int .i64 Gv]⟩ w R := by
 refine enter Tryd.func44 rfl Tryd.ntmps44 rfl hS fun a w hS => ?_
 have hM := hm; clear hm
 rw [jH.m] at hM
 refine qp <| sM hS rfl fun hS => sB hS rfl fun hS => sM hS rfl fun hS => sO hS (yx rfl) rfl fun hS => sO hS (xu rfl Tryd.runUnderlying90 rfl Tryd.sizeOf9 rfl) rfl fun hS => sO hS (xW 0 rfl GC rfl rfl Tryd.isAgg9) rfl fun hS => sO hS (uW rfl Tryd.runUnderlying9) rfl fun hS => sB hS rfl fun hS => qF <| qv hS rfl hM (fun GO hM => ?_) (fun GO hM => ?_)
 ·refine wp_seq ?_
  refine zB <| sM hS rfl fun hS => sM hS rfl fun hS => qO hS rfl Tryd.call66 (vU hG K Gu Gv Gw GE Gx GF GC GJ (hS.st.part 2 [0, 1] (by kernel_rfl)) (qE hM) (fun  w hM  hst => qL hS.ev hst.appF rfl fun hS => ?_))
  replace hS : Ss _ _ _ H [GE, GF] F _ _ := hS
  refine Qs ((List.replicate 3 (0 : Int)).flatMap (ci .u8)) hS Tryd.zeroValue126 rfl rfl fun w GW G0 GP hS => Yt (xs := (List.replicate 3 (0 : Int))) (ys := ([((rd Gu.text_ Gv).toNat : Int), ((rd Gu.text_ (qh (Gv + (1 : Int)))).toNat : Int), ((rd Gu.text_ (qh (Gv + (2 : Int)))).toNat : Int)] : List Int)) (g := (ci .u8)) (pre := []) (post := []) 0 hS rfl rfl GP rfl (by simp) rfl (xB (g := (ci .u8)) (sz := 1) (fun _ => rfl) (List.length_replicate ..)) (xB (g := (ci .u8)) (sz := 1) (fun _ => rfl) rfl) (uy) Tryd.sizeOf126 fun w GX GD hS => ?_
  replace GD : xZ GX GW (([((rd Gu.text_ Gv).toNat : Int), ((rd Gu.text_ (qh (Gv + (1 : Int)))).toNat : Int), ((rd Gu.text_ (qh (Gv + (2 : Int)))).toNat : Int)] : List Int).flatMap (ci .u8)) 126 := by simpa using GD
  refine qF <| za (vals := [some (qS Gw 0), some (qS Gw 0), some (qS Gw 1), some (.map (some Gx)), some (.agg ⟨([((rd Gu.text_ Gv).toNat : Int), ((rd Gu.text_ (qh (Gv + (1 : Int)))).toNat : Int), ((rd Gu.text_ (qh (Gv + (2 : Int)))).toNat : Int)] : List Int).flatMap (ci .u8)⟩), some (.int .i64 Gv), none, none, none, none, none, none]) hS xp rfl ?_
  intro l w ho hcl hA hst
  refine jn hA hst ho hcl xv xo 6 [0, 1, 2, 3, 4, 5] rfl rfl rfl rfl rfl (by exact ⟨nM rfl, nQ rfl (by exact qU (yx rfl) rfl), nQ rfl (by exact qU (xu rfl Tryd.runUnderlying90 rfl Tryd.sizeOf88 rfl) rfl), nQ rfl (by exact qU (xW 1 rfl GC rfl rfl Tryd.isAgg88) rfl), nQ rfl (by exact qU (YH (xs := ([((rd Gu.text_ Gv).toNat : Int), ((rd Gu.text_ (qh (Gv + (1 : Int)))).toNat : Int), ((rd Gu.text_ (qh (Gv + (2 : Int)))).toNat : Int)] : List Int)) (g := (ci .u8)) (pre := []) (post := []) 0 rfl GD rfl (by simp) rfl (xB (g := (ci .u8)) (sz := 1) (fun _ => rfl) rfl) Tryd.isAgg126 Tryd.sizeOf126) rfl), nM rfl, trivial⟩) fun D l a w ho hcl hav hpre hm hE hk hA hst => ?_
  have hS := (Ss.mk hE hst).env2 (e' := [(22, .int .i64 Gv)]) ⟨rfl, trivial⟩
  refine q7 rfl <| Xz (g := (ci .i64)) ([Gv] : List Int) [.int .i64 Gv] hS Tryd.runUnderlying45 Tryd.sizeOf3 X.el3 rfl rfl rfl (by simp [Value.cells]) rfl rfl rfl rfl rfl fun w GH GI G1 GQ hS => qF ?_
  replace hst := hS.st
  obtain ⟨hcl, hmust, hav2, hA⟩ := dn (vals' := [some (qS Gw 0), some (qS Gw 0), some (qS Gw 1), some (.map (some Gx)), some (.agg ⟨([((rd Gu.text_ Gv).toNat : Int), ((rd Gu.text_ (qh (Gv + (1 : Int)))).toNat : Int), ((rd Gu.text_ (qh (Gv + (2 : Int)))).toNat : Int)] : List Int).flatMap (ci .u8)⟩), some (.int .i64 Gv), some (.slice GH ([Gv] : List Int).length GI), none, none, none, none, none]) 6 [(5, 6)] hA hcl hav hm hpre hk rfl rfl rfl rfl rfl rfl rfl
  clear hm hav
  refine jn hA hst ho hcl hav2 hmust 7 [0, 1, 2, 3, 4] rfl rfl rfl rfl rfl (by exact ⟨nM rfl, nQ rfl (by exact qU (yx rfl) rfl), nQ rfl (by exact qU (xu rfl Tryd.runUnderlying90 rfl Tryd.sizeOf88 rfl) rfl), nQ rfl (by exact qU (xW 2 rfl GC rfl rfl Tryd.isAgg88) rfl), nQ rfl (by exact qU (YH (xs := ([((rd Gu.text_ Gv).toNat : Int), ((rd Gu.text_ (qh (Gv + (1 : Int)))).toNat : Int), ((rd Gu.text_ (qh (Gv + (2 : Int)))).toNat : Int)] : List Int)) (g := (ci .u8)) (pre := []) (post := []) 1 rfl GD rfl (by simp) rfl (xB (g := (ci .u8)) (sz := 1) (fun _ => rfl) rfl) Tryd.isAgg126 Tryd.sizeOf126) rfl), trivial⟩) fun D l a w ho hcl hav hpre hm hE hk hA hst => ?_
  have hS := (Ss.mk hE hst).env2 (e' := [(19, .map (some Gx)), (20, .agg ⟨([((rd Gu.text_ Gv).toNat : Int), ((rd Gu.text_ (qh (Gv + (1 : Int)))).toNat : Int), ((rd Gu.text_ (qh (Gv + (2 : Int)))).toNat : Int)] : List Int).flatMap (ci .u8)⟩)]) ⟨rfl, rfl, trivial⟩
  refine q7 rfl ?_
  replace hS := hS.front [3, 0, 1, 2] (by kernel_rfl)
  refine Gh (kv := Un .u8) (ok := Ul 3) (E := 3) (g := (ci .i64)) (sz := 1) (q := ([((rd Gu.text_ Gv).toNat : Int), ((rd Gu.text_ (qh (Gv + (1 : Int)))).toNat : Int), ((rd Gu.text_ (qh (Gv + (2 : Int)))).toNat : Int)] : List Int)) hS rfl rfl rfl rfl GJ (UA Tryd.runUnderlying126 Tryd.runUnderlying5 Tryd.sizeOf5 Tryd.isAgg5) Tryd.runUnderlying88 Tryd.zeroValue45 rfl fun Gy w Gz GA GB G2 G3 hz GR GS hS => ?_
  have hM := qC hz hM; clear hz
  refine qF ?_
  replace hst := hS.st
  obtain ⟨hcl, hmust, hav2, hA⟩ := dn (vals' := [some (qS Gw 0), some (qS Gw 0), some (qS Gw 1), some (.map (some Gx)), some (.agg ⟨([((rd Gu.text_ Gv).toNat : Int), ((rd Gu.text_ (qh (Gv + (1 : Int)))).toNat : Int), ((rd Gu.text_ (qh (Gv + (2 : Int)))).toNat : Int)] : List Int).flatMap (ci .u8)⟩), some (.int .i64 Gv), some (.slice GH ([Gv] : List Int).length GI), some (.tuple ⟨[.slice Gz Gy.length GA, .int .i64 ((GB : Nat) : Int)]⟩), some (.slice Gz Gy.length GA), none, some (.int .i64 ((GB : Nat) : Int)), none]) 7 [(0, 7), (1, 7), (2, 7), (3, 7), (4, 7), (5, 7), (6, 7)] hA hcl hav hm hpre hk rfl rfl rfl rfl rfl rfl rfl
  clear hm hav
  refine jn hA hst ho hcl hav2 hmust 9 [8, 10] rfl rfl rfl rfl rfl (by exact ⟨nQ rfl (by exact qU (ex rfl rfl) rfl), nQ rfl (by exact qU (ex rfl rfl) rfl), trivial⟩) fun D l a w ho hcl hav hpre hm hE hk hA hst => ?_
  have hS := (Ss.mk hE hst).env2 (e' := [(21, .slice Gz Gy.length GA), (23, .slice GH ([Gv] : List Int).length GI)]) ⟨rfl, rfl, trivial⟩
  refine q7 rfl ?_
  obtain ⟨GT, hM⟩ := qH hM
  refine X9 (ys := ([Gv] : List Int)) 0 hS rfl rfl GR rfl (GQ.rd (i := 2) rfl) Tryd.runUnderlying45 Tryd.runUnderlying45 X.el3 (fun _ => rfl) rfl xF GT rfl fun GK w GL GM G4 hz GU hS => ?_
  have hM := qC hz hM; clear hz
  refine qF ?_
  replace hst := hS.st
  obtain ⟨hcl, hmust, hav2, hA⟩ := dn (vals' := [some (qS Gw 0), some (qS Gw 0), some (qS Gw 1), some (.map (some Gx)), some (.agg ⟨([((rd Gu.text_ Gv).toNat : Int), ((rd Gu.text_ (qh (Gv + (1 : Int)))).toNat : Int), ((rd Gu.text_ (qh (Gv + (2 : Int)))).toNat : Int)] : List Int).flatMap (ci .u8)⟩), some (.int .i64 Gv), some (.slice GH ([Gv] : List Int).length GI), some (.tuple ⟨[.slice Gz Gy.length GA, .int .i64 ((GB : Nat) : Int)]⟩), some (.slice Gz Gy.length GA), some (.slice GL GK.length GM), some (.int .i64 ((GB : Nat) : Int)), none]) 9 [(6, 9), (7, 9), (8, 9), (5, 6), (0, 7), (1, 7), (2, 7), (3, 7), (4, 7)] hA hcl hav hm hpre hk rfl rfl rfl rfl rfl rfl rfl
  clear hm hav
  refine jn hA hst ho hcl hav2 hmust 11 [10] rfl rfl rfl rfl rfl (by exact ⟨nQ rfl (by exact qU (ex rfl rfl) rfl), trivial⟩) fun D l a w ho hcl hav hpre hm hE hk hA hst => ?_
  have hS := (Ss.mk hE hst).env2 (e' := [(19, .map (some Gx)), (25, .slice GL GK.length GM), (26, .int .i64 ((GB : Nat) : Int))]) ⟨rfl, rfl, rfl, trivial⟩
  refine q7 rfl ?_
  replace hS := hS.front [0, 1, 2, 3, 4] (by kernel_rfl)
  refine Gk (kv := Un .u8) (ok := Ul 3) (E := 3) (g := (ci .i64)) (sz := 1) hS rfl rfl rfl GU GS fun GY w GZ hz GV hS => ?_
  have hM := qC hz hM; clear hz
  refine qF ?_
  replace hst := hS.st
  obtain ⟨hcl, hmust, hav2, hA⟩ := ZV (vals' := [some (qS Gw 0), some (qS Gw 0), some (qS Gw 1), some (.map (some Gx)), some (.agg ⟨([((rd Gu.text_ Gv).toNat : Int), ((rd Gu.text_ (qh (Gv + (1 : Int)))).toNat : Int), ((rd Gu.text_ (qh (Gv + (2 : Int)))).toNat : Int)] : List Int).flatMap (ci .u8)⟩), some (.int .i64 Gv), some (.slice GH ([Gv] : List Int).length GI), some (.tuple ⟨[.slice Gz Gy.length GA, .int .i64 ((GB : Nat) : Int)]⟩), some (.slice Gz Gy.length GA), some (.slice GL GK.length GM), some (.int .i64 ((GB : Nat) : Int)), some undef]) 11 [(0, 11), (1, 11), (2, 11), (3, 11), (4, 11), (5, 11), (6, 11), (7, 11), (8, 11), (9, 11), (10, 11)] hA hcl hav hm hpre rfl rfl rfl rfl rfl
  clear hm hav
  refine x3 hA hst ho hcl hmust [] rfl rfl rfl trivial fun a w hS => ?_
  replace hS := hS.env2 (e' := []) trivial
  exact y4 (rs := []) hS rfl rfl (hret GY GZ _ (qV hM) GV (hS.st.pick [3, 0] (by kernel_rfl)))
 ·refine wp_skip ?_
  exact y4 (rs := []) hS rfl rfl (hret Gu.seen_ GF _ (qV hM) GJ (hS.st.pick [0, 1] (by kernel_rfl)))
theorem YC {H : xR} {F : List qq} {w : World} {R : Ending → World → Prop} {kr : (List qr) → Prop} {kp : Value → Prop} (hG : Gl H) (K : Nat) (Gu : List UInt8)
    (hS : St w H [] F) (hm : (xr.m K Gu).wp kr kp)
    (hret : ∀ (G1 : Option Addr) (G2 : Nat) (GR : (List qr)) (G3 : qq) (w : World), kr GR → (xa 32 qr.cells 3 G1 GR G2 G3) → St w H [G3] F → R (.returned (.slice G1 GR.length G2)) w) :
    Calls Tryd.prog 19 ⟨[yc Gu]⟩ w R := by
 refine enter Tryd.func19 rfl Tryd.ntmps19 rfl hS fun a w hS => ?_
 have hM := hm; clear hm
 rw [xr.m] at hM
 refine qp <| sA hS rfl fun hS => ?_
 obtain ⟨Lu, Lt, hS⟩ := hS.nilV 32 qr.cells 3
 refine qF <| qp <| sM hS rfl fun hS => D9 (kv := Un .u8) (ok := Ul 3) (E := 3) (g := (ci .i64)) (sz := 1) hS rfl fun w GF Lm G9 hS => sO hS (Zx ([yc Gu, .map (some GF)]) [(0, 1), (1, 1)] Tryd.zeroValue90 Tryd.runUnderlying90 (by intro w; simp [Tryd.sizeOf88, Tryd.sizeOf9]) rfl rfl) rfl fun hS => bx ([yc Gu, .map (some GF)]) hS rfl rfl rfl fun w GJ GC GS hS => sA hS rfl fun hS => qF <| qp <| sA hS rfl fun hS => ?_
 obtain ⟨Ln, La, hS⟩ := hS.nilV 32 qr.cells 3
 refine qF <| wp_seq <| qp <| sA hS rfl fun hS => qF <| xw <| zk (fun GP a w => ∃ (Gx : (List ((List Int) × (List Int)))) (GD : qq) (GK : Option Addr) (GL : Nat) (GB : (List qr)) (GG : qq) (Gz : Int), Ss 41 [] [(0, yc Gu), (3, qS GJ 0), (4, .slice GK GB.length GL), (5, .int .i64 Gz)] H [GC, GD, GG] F a w ∧ (Xw (Un .u8) (Ul 3) 3 (ci .i64) 1 GF Gx GD) ∧ (xa 32 qr.cells 3 GK GB GL GG) ∧ (xr.l1 K Gu GP Gx GB Gz).wp kr kp) K ?_ ?_ ?_
 ·exact ⟨([] : List ((List Int) × (List Int))), Lm, none, 0, ([] : List qr), Ln, (0 : Int), hS.to [1, 2, 0] (by kernel_rfl) ⟨rfl, rfl, rfl, rfl, trivial⟩, G9, La, hM⟩
 ·intro a w hI; obtain ⟨_, _, _, _, _, _, _, _, _, _, hM⟩ := hI; exact zj hM
 ·intro GP a w hI Lv Lb
  obtain ⟨Gx, GD, GK, GL, GB, GG, Gz, hS, GT, GU, hM⟩ := hI
  rw [xr.l1] at hM
  refine wp_seq <| qp <| sM hS rfl fun hS => sM hS rfl fun hS => sO hS (uW rfl Tryd.runUnderlying9) rfl fun hS => sB hS rfl fun hS => qF <| qv hS rfl hM (fun Lc hM => ?_) (fun Lc hM => ?_)
  ·refine wp_skip ?_
   refine qd <| xw <| qp <| sM hS rfl fun hS => sM hS rfl fun hS => qO hS rfl Tryd.call43 (Qq hG K (xn.mk Gu Gx) Gz GJ GC GF GD GS GT (hS.st.part 2 [0, 1, 2] (by kernel_rfl)) (qE hM) (fun GI GE w hM  hst => qL hS.ev hst.appF rfl fun hS => ?_))
   replace hS : Ss _ _ _ H [GC, GD, GG] F _ _ := hS
   refine Qs ([.int .u8 (0 : Int), .int .i64 (0 : Int), .int .i64 (0 : Int)]) hS Tryd.zeroValue32 rfl rfl fun w G4 Lw Ld hS => uz 0 ([.int .u8 (0 : Int), .int .i64 GI, .int .i64 GE]) ([.int .u8 (0 : Int), .int .i64 GI, .int .i64 GE]) hS rfl rfl Ld rfl rfl Tryd.sizeOf32 (by simp [Value.oneCell']) (Nat.le_of_ble_eq_true rfl) rfl fun w Lo GN hS => qF <| zg (fun a w => ∃ (Gy : Int) (Gv : Int) (Gw : Int) (GV : qq), Ss 41 [] [(0, yc Gu), (3, qS GJ 0), (4, .slice GK GB.length GL), (5, .int .i64 Gz), (6, qS G4 0)] H [GC, GD, GG, GV] F a w ∧ (xZ GV G4 ([.int .u8 Gy, .int .i64 Gv, .int .i64 Gw]) 32) ∧ (xr.j2 K (xr.l1 K Gu GP) Gu Gx GB Gz Gy Gv Gw).wp kr kp) (fun Lx GW => ?_) ?_
   ·refine wp_seq ?_
    refine zB <| sO hS (xu rfl Tryd.runUnderlying32 rfl Tryd.sizeOf3 rfl) rfl fun hS => sO hS (xW 0 rfl GN rfl rfl Tryd.isAgg3) rfl fun hS => sB hS rfl fun hS => qF <| qv hS rfl hM (fun Le hM => ?_) (fun Le hM => ?_)
    ·refine zB ?_
     refine sM hS rfl fun hS => sM hS rfl fun hS => ?_
     obtain ⟨Lf, hM⟩ := qH hM
     refine sO hS (Uo rfl rfl Tryd.runUnderlying9 Lf) rfl fun hS => sO hS (Zx ([.int .u8 ((rd Gu Gz).toNat : Int), .int .i64 (0 : Int), .int .i64 (0 : Int)]) [(0, 1), (1, 1), (2, 1)] Tryd.zeroValue32 Tryd.runUnderlying32 (by intro w; simp [Tryd.sizeOf3, Tryd.sizeOf5]) rfl rfl) rfl fun hS => uz 0 ([.int .u8 ((rd Gu Gz).toNat : Int), .int .i64 (0 : Int), .int .i64 (0 : Int)]) ([.int .u8 ((rd Gu Gz).toNat : Int), .int .i64 (0 : Int), .int .i64 (0 : Int)]) hS rfl rfl GN rfl rfl Tryd.sizeOf32 (by simp [Value.oneCell']) (Nat.le_of_ble_eq_true rfl) rfl fun w Lp Lg hS => zc <| qd ?_
     exact GW _ _ ⟨((rd Gu Gz).toNat : Int), (0 : Int), (0 : Int), Lp, hS.to [1, 2, 3, 0] (by kernel_rfl) ⟨rfl, rfl, rfl, rfl, rfl, trivial⟩, Lg, hM⟩
    ·refine wp_skip ?_
     refine qd ?_
     exact GW _ _ ⟨(0 : Int), GI, GE, Lo, hS.to [1, 2, 3, 0] (by kernel_rfl) ⟨rfl, rfl, rfl, rfl, rfl, trivial⟩, GN, hM⟩
   ·intro a w hI
    obtain ⟨Gy, Gv, Gw, GV, hS, GX, hM⟩ := hI
    rw [xr.j2] at hM
    refine qp <| sM hS rfl fun hS => sO hS (vF 3 rfl GX rfl ([.int .u8 Gy, .int .i64 Gv, .int .i64 Gw]) rfl rfl Tryd.isAgg32 Tryd.sizeOf32) rfl fun hS => Xz (g := qr.cells) ([(qr.mk Gy Gv Gw)] : List qr) [.agg ⟨[.int .u8 Gy, .int .i64 Gv, .int .i64 Gw]⟩] hS Tryd.runUnderlying25 Tryd.sizeOf32 X.el32 rfl rfl rfl (by simp [Value.cells]) rfl rfl rfl rfl rfl fun w Ly Lz LA Lh hS => ?_
    obtain ⟨Li, hM⟩ := qH hM
    refine X9 (ys := ([(qr.mk Gy Gv Gw)] : List qr)) 3 hS rfl rfl GU rfl (Lh.rd (i := 0) rfl) Tryd.runUnderlying25 Tryd.runUnderlying25 X.el32 (fun _ => rfl) rfl KR Li rfl fun GO w G5 G6 GY hz Lj hS => ?_
    have hM := qC hz hM; clear hz
    refine sA hS rfl fun hS => qF <| qp <| sO hS (xu rfl Tryd.runUnderlying32 rfl Tryd.sizeOf3 rfl) rfl fun hS => sO hS (xW 4 rfl GX rfl rfl Tryd.isAgg3) rfl fun hS => sO hS (Kz rfl rfl) rfl fun hS => sM hS rfl fun hS => qF <| xw <| zk (fun G7 a w => ∃ (GA : (List ((List Int) × (List Int)))) (GM : qq) (GH : Int) (GQ : Int), Ss 41 [] [(0, yc Gu), (3, qS GJ 0), (4, .slice G5 GO.length G6), (5, .int .i64 GH), (31, .int .i64 (if Gv > (1 : Int) then Gv else (1 : Int))), (32, .int .i64 GQ)] H [GC, GM, GY] F a w ∧ (Xw (Un .u8) (Ul 3) 3 (ci .i64) 1 GF GA GM) ∧ (xr.l3 K (xr.l1 K Gu GP) Gu Gv GO G7 GA GH GQ).wp kr kp) K ?_ ?_ ?_
    ·exact ⟨Gx, GD, Gz, (0 : Int), hS.to [1, 2, 3] (by kernel_rfl) ⟨rfl, rfl, rfl, rfl, rfl, rfl, trivial⟩, GT, hM⟩
    ·intro a w hI; obtain ⟨_, _, _, _, _, _, hM⟩ := hI; exact zj hM
    ·intro G7 a w hI LB Lk
     obtain ⟨GA, GM, GH, GQ, hS, GZ, hM⟩ := hI
     rw [xr.l3] at hM
     refine qp <| sB hS rfl fun hS => qF <| wp_seq <| qv hS rfl hM (fun Ll hM => ?_) (fun Ll hM => ?_)
     ·refine wp_skip ?_
      refine qd <| wp_seq <| xw <| qp <| sM hS rfl fun hS => sM hS rfl fun hS => qO hS rfl Tryd.call44 (Qp hG K (xn.mk Gu GA) GH GJ GC GF GM GS GZ (hS.st.part 2 [0, 1, 2] (by kernel_rfl)) (qE hM) (fun G0 G8 w hM Lq hst => qL hS.ev hst.appF rfl fun hS => ?_))
      replace hS : Ss _ _ _ H [GC, G8, GY] F _ _ := hS
      refine qF <| zB <| sM hS rfl fun hS => sB hS rfl fun hS => zz (v := Value.int .i64) (x0 := (qh (GH + (1 : Int)))) hS (xj rfl) rfl fun Lr a w hz hS => ?_
      have hM := qC hz hM; clear hz
      refine zc <| zr (qd ?_)
      refine zB <| sB hS rfl fun hS => sM hS rfl fun hS => zc <| qd ?_
      exact Lk _ _ ⟨G0, G8, Lr, (qh (GQ + (1 : Int))), hS.to [0, 1, 2] (by kernel_rfl) ⟨rfl, rfl, rfl, rfl, rfl, rfl, trivial⟩, Lq, hM⟩
     ·refine wp_exit ?_
      refine qB (qB (qY (zr (qd ?_))))
      exact Lb _ _ ⟨GA, GM, G5, G6, GO, GY, GH, hS.to [0, 1, 2] (by kernel_rfl) ⟨rfl, rfl, rfl, rfl, trivial⟩, GZ, Lj, hM⟩
  ·refine wp_exit ?_
   refine qB (qB (qY (qd ?_)))
   refine qp <| sM hS rfl fun hS => sA hS rfl fun hS => qF <| wp_ret ?_
   exact zm (rs := [2]) hS rfl rfl (hret GK GL GB GG _ (qV hM) GU (hS.st.pick [2] (by kernel_rfl)))
theorem Q3 {H : xR} {F : List qq} {w : World} {R : Ending → World → Prop} {kr : (List UInt8) → Prop} {kp : Value → Prop} (hG : Gl H) (K : Nat) (Gw : List UInt8)
    (hS : St w H [] F) (hm : (xU.m K Gw).wp kr kp)
    (hret : ∀ (GC : List UInt8) (w : World), kr GC → St w H [] F → R (.returned (yc GC)) w)
    (hpan : ∀ v w, kp v → St w H [] F → R (.panicked [⟨v, false, false⟩]) w) :
    Calls Tryd.prog 18 ⟨[yc Gw]⟩ w R := by
 refine enter Tryd.func18 rfl Tryd.ntmps18 rfl hS fun a w hS => ?_
 have hM := hm; clear hm
 rw [xU.m] at hM
 refine qp <| sA hS rfl fun hS => qF <| qp <| sM hS rfl fun hS => qO hS rfl Tryd.call19 (YC hG K Gw (hS.st.part 0 [] (by kernel_rfl)) (qE hM) (fun Gz GA Gx Gv w hM Gy hst => qL hS.ev hst.appF rfl fun hS => ?_))
 replace hS : Ss _ _ _ H [Gv] F _ _ := hS
 refine sA hS rfl fun hS => qF <| qp <| sM hS rfl fun hS => qO hS rfl Tryd.call10 (uh hG K Gw (hS.st.part 0 [0] (by kernel_rfl)) (qE hM) (fun GD w hM  hst => qL hS.ev hst.appF rfl fun hS => ?_))
 replace hS : Ss _ _ _ H [Gv] F _ _ := hS
 refine sA hS rfl fun hS => qF <| zg (fun a w => ∃ (Gu : List UInt8), Ss 44 [] [(3, .slice Gz Gx.length GA), (4, yc Gu)] H [Gv] F a w ∧ (xU.j1 K Gx Gu).wp kr kp) (fun GK GB => ?_) ?_
 ·refine wp_seq ?_
  refine zB <| sM hS rfl fun hS => qO hS rfl Tryd.call12 (uN hG K Gx Gz GA (Gy.rdF (i := 0) rfl) (Gy.cap (fun _ => rfl) rfl) (hS.st.part 0 [0] (by kernel_rfl)) (qE hM) (fun GE GI w hM  hst => qL hS.ev hst.appF rfl fun hS => ?_))
  replace hS : Ss _ _ _ H [Gv] F _ _ := hS
  refine sM hS rfl fun hS => sO hS (ex rfl rfl) rfl fun hS => sO hS (ex rfl rfl) rfl fun hS => sA hS rfl fun hS => sA hS rfl fun hS => qF <| qp <| sM hS rfl fun hS => sB hS rfl fun hS => sM hS rfl fun hS => yo 5 true 20 (b := (GI == (0 : Int))) (r := (decide ((GE.length : Int) < (GD.length : Int)))) hS rfl rfl rfl rfl rfl rfl rfl (fun hb a w hS K hK => ?_) rfl fun a w hS => ?_
  ·refine zL hS rfl rfl rfl hb (mv rfl) rfl fun a w hS => ?_
   refine zL hS rfl rfl rfl hb (uW rfl Tryd.runUnderlying9) rfl fun a w hS => zL hS rfl rfl rfl hb (mv rfl) rfl fun a w hS => zL hS rfl rfl rfl hb (uW rfl Tryd.runUnderlying9) rfl fun a w hS => zL hS rfl rfl rfl hb (yU rfl rfl rfl) rfl fun a w hS => ?_
   exact zc (hK _ _ (hS.up 5 rfl rfl))
  refine qF <| qv hS rfl hM (fun GG hM => ?_) (fun GG hM => ?_)
  ·refine zB ?_
   refine sM hS rfl fun hS => sA hS rfl fun hS => zc <| qd ?_
   exact GB _ _ ⟨GE, hS.to [0] (by kernel_rfl) ⟨rfl, rfl, trivial⟩, hM⟩
  ·refine wp_skip ?_
   refine qd ?_
   exact GB _ _ ⟨GD, hS.to [0] (by kernel_rfl) ⟨rfl, rfl, trivial⟩, hM⟩
 ·intro a w hI
  obtain ⟨Gu, hS, hM⟩ := hI
  rw [xU.j1] at hM
  refine wp_seq <| qp <| sM hS rfl fun hS => qO hS rfl Tryd.call14 (jC hG K Gx Gz GA (Gy.rdF (i := 0) rfl) (Gy.cap (fun _ => rfl) rfl) (hS.st.part 0 [0] (by kernel_rfl)) (qE hM) (fun GF GJ w hM  hst => qL hS.ev hst.appF rfl fun hS => ?_) (fun v w hk hst => jK (zX (zX (⟨hS.ev.defs, hpan _ _ hk hst.appF.frame⟩)))))
  replace hS : Ss _ _ _ H [Gv] F _ _ := hS
  refine sM hS rfl fun hS => sO hS (ex rfl rfl) rfl fun hS => sO hS (ex rfl rfl) rfl fun hS => sA hS rfl fun hS => sA hS rfl fun hS => qF <| qp <| sM hS rfl fun hS => sB hS rfl fun hS => sM hS rfl fun hS => yo 5 true 35 (b := (GJ == (0 : Int))) (r := (decide ((GF.length : Int) < (Gu.length : Int)))) hS rfl rfl rfl rfl rfl rfl rfl (fun hb a w hS K hK => ?_) rfl fun a w hS => ?_
  ·refine zL hS rfl rfl rfl hb (mv rfl) rfl fun a w hS => ?_
   refine zL hS rfl rfl rfl hb (uW rfl Tryd.runUnderlying9) rfl fun a w hS => zL hS rfl rfl rfl hb (mv rfl) rfl fun a w hS => zL hS rfl rfl rfl hb (uW rfl Tryd.runUnderlying9) rfl fun a w hS => zL hS rfl rfl rfl hb (yU rfl rfl rfl) rfl fun a w hS => ?_
   exact zc (hK _ _ (hS.up 5 rfl rfl))
  refine qF <| qv hS rfl hM (fun GH hM => ?_) (fun GH hM => ?_)
  ·refine zB ?_
   refine sM hS rfl fun hS => sA hS rfl fun hS => qF <| qp <| sM hS rfl fun hS => sA hS rfl fun hS => qF <| wp_ret ?_
   exact zm (rs := [2]) hS rfl rfl (hret GF _ (qV hM) (hS.st.pick [] (by kernel_rfl)))
  ·refine wp_skip ?_
   refine qd <| qp <| sM hS rfl fun hS => sA hS rfl fun hS => qF <| wp_ret ?_
   exact zm (rs := [2]) hS rfl rfl (hret Gu _ (qV hM) (hS.st.pick [] (by kernel_rfl)))
theorem yn {H : xR} {F : List qq} {w : World} {R : Ending → World → Prop} {kr : Bool → Prop} {kp : Value → Prop} (hG : Gl H) (K : Nat)
    (hS : St w H [] F) (hm : (z6.m K).wp kr kp)
    (hret : ∀ (GC : Bool) (w : World), kr GC → St w H [] F → R (.returned (.bool GC)) w)
    (hpan : ∀ v w, kp v → St w H [] F → R (.panicked [⟨v, false, false⟩]) w) :
    Calls Tryd.prog 9 ⟨[]⟩ w R := by
 refine enter Tryd.func9 rfl Tryd.ntmps9 rfl hS fun a w hS => ?_
 have hM := hm; clear hm
 rw [z6.m] at hM
 refine qp <| sA hS rfl fun hS => qF <| qp <| sO hS (Zx ([.int .u8 (97 : Int), .int .i64 (0 : Int), .int .i64 (0 : Int)]) [(0, 1), (1, 1), (2, 1)] Tryd.zeroValue32 Tryd.runUnderlying32 (by intro w; simp [Tryd.sizeOf3, Tryd.sizeOf5]) rfl rfl) rfl fun hS => Xz (g := qr.cells) ([(qr.mk (97 : Int) (0 : Int) (0 : Int))] : List qr) [.agg ⟨[.int .u8 (97 : Int), .int .i64 (0 : Int), .int .i64 (0 : Int)]⟩] hS Tryd.runUnderlying25 Tryd.sizeOf32 X.el32 rfl rfl rfl (by simp [Value.cells]) rfl rfl rfl rfl rfl fun w A7 c8 f9 GE hS => qO hS rfl Tryd.call12 (uN hG K ([(qr.mk (97 : Int) (0 : Int) (0 : Int))] : List qr) A7 c8 (GE.rdF (i := 0) rfl) (GE.cap (fun _ => rfl) rfl) (hS.st.part 0 [0] (by kernel_rfl)) (qE hM) (fun Gv Gy w hM  hst => qL hS.ev hst.appF rfl fun hS => ?_))
 replace hS : Ss _ _ _ H [f9] F _ _ := hS
 refine sM hS rfl fun hS => sO hS (ex rfl rfl) rfl fun hS => sO hS (ex rfl rfl) rfl fun hS => sA hS rfl fun hS => sA hS rfl fun hS => qF <| qp <| sO hS (Zx ([.int .u8 (0 : Int), .int .i64 (1 : Int), .int .i64 (0 : Int)]) [(0, 1), (1, 1), (2, 1)] Tryd.zeroValue32 Tryd.runUnderlying32 (by intro w; simp [Tryd.sizeOf3, Tryd.sizeOf5]) rfl rfl) rfl fun hS => Xz (g := qr.cells) ([(qr.mk (0 : Int) (1 : Int) (0 : Int))] : List qr) [.agg ⟨[.int .u8 (0 : Int), .int .i64 (1 : Int), .int .i64 (0 : Int)]⟩] hS Tryd.runUnderlying25 Tryd.sizeOf32 X.el32 rfl rfl rfl (by simp [Value.cells]) rfl rfl rfl rfl rfl fun w GF GG Gz GA hS => qO hS rfl Tryd.call14 (jC hG K ([(qr.mk (0 : Int) (1 : Int) (0 : Int))] : List qr) GF GG (GA.rdF (i := 0) rfl) (GA.cap (fun _ => rfl) rfl) (hS.st.part 0 [0, 1] (by kernel_rfl)) (qE hM) (fun GI GD w hM  hst => qL hS.ev hst.appF rfl fun hS => ?_) (fun v w hk hst => jK (zX (⟨hS.ev.defs, hpan _ _ hk hst.appF.frame⟩))))
 replace hS : Ss _ _ _ H [Gz, f9] F _ _ := hS
 refine sM hS rfl fun hS => sO hS (ex rfl rfl) rfl fun hS => sO hS (ex rfl rfl) rfl fun hS => sA hS rfl fun hS => sA hS rfl fun hS => qF <| qp <| qO hS rfl Tryd.call10 (uh hG K ([] : List UInt8) (hS.st.part 0 [0, 1] (by kernel_rfl)) (qE hM) (fun Gw w hM  hst => qL hS.ev hst.appF rfl fun hS => ?_))
 replace hS : Ss _ _ _ H [Gz, f9] F _ _ := hS
 refine sO hS (Ke rfl rfl rfl) rfl fun hS => sM hS rfl fun hS => yo 2 true 19 (b := (Gw == ([1, 0, 0, 255, 255] : List UInt8))) (r := (Gv == ([75, 4, 0] : List UInt8))) hS rfl rfl rfl rfl rfl rfl rfl (fun hb a w hS K hK => ?_) rfl fun a w hS => ?_
 ·refine zL hS rfl rfl rfl hb (mv rfl) rfl fun a w hS => ?_
  refine zL hS rfl rfl rfl hb (Ke rfl rfl rfl) rfl fun a w hS => ?_
  exact zc (hK _ _ (hS.up 2 rfl rfl))
 refine sM hS rfl fun hS => yo 2 true 23 (b := ((Gw == ([1, 0, 0, 255, 255] : List UInt8)) && (Gv == ([75, 4, 0] : List UInt8)))) (r := (Gy == (0 : Int))) hS rfl rfl rfl rfl rfl rfl rfl (fun hb a w hS K hK => ?_) rfl fun a w hS => ?_
 ·refine zL hS rfl rfl rfl hb (mv rfl) rfl fun a w hS => ?_
  refine zL hS rfl rfl rfl hb (yU rfl rfl rfl) rfl fun a w hS => ?_
  exact zc (hK _ _ (hS.up 2 rfl rfl))
 refine sM hS rfl fun hS => yo 2 true 27 (b := (((Gw == ([1, 0, 0, 255, 255] : List UInt8)) && (Gv == ([75, 4, 0] : List UInt8))) && (Gy == (0 : Int)))) (r := (GD == (1 : Int))) hS rfl rfl rfl rfl rfl rfl rfl (fun hb a w hS K hK => ?_) rfl fun a w hS => ?_
 ·refine zL hS rfl rfl rfl hb (mv rfl) rfl fun a w hS => ?_
  refine zL hS rfl rfl rfl hb (yU rfl rfl rfl) rfl fun a w hS => ?_
  exact zc (hK _ _ (hS.up 2 rfl rfl))
 refine sM hS rfl fun hS => v8 (fun a w => ∃ (Gx : Bool), Ss 35 [] [(34, .bool Gx)] H [] F a w ∧ (z6.j1 K Gx).wp kr kp) 3 (fun GJ GB => ?_) ?_
 ·refine Uh (b := ((((Gw == ([1, 0, 0, 255, 255] : List UInt8)) && (Gv == ([75, 4, 0] : List UInt8))) && (Gy == (0 : Int))) && (GD == (1 : Int)))) hM (fun Gu hM => ?_) (fun Gu hM => ?_)
  ·replace hS := hS.re 30 (v := .bool true) rfl (congrArg Value.bool Gu)
   replace hS := hS.re 31 (v := .bool true) rfl (congrArg Value.bool Gu)
   refine Ql hS rfl rfl rfl rfl <| qO hS rfl Tryd.call18 (Q3 hG K ([] : List UInt8) (hS.st.part 0 [0, 1] (by kernel_rfl)) (qE hM) (fun GH w hM  hst => qL hS.ev hst.appF rfl fun hS => ?_) (fun v w hk hst => jK (zX (zX (⟨hS.ev.defs, hpan _ _ hk hst.appF.frame⟩)))))
   replace hS : Ss _ _ _ H [Gz, f9] F _ _ := hS
   refine zL hS rfl rfl rfl rfl (Ke rfl rfl rfl) rfl fun a w hS => sO hS (pk rfl rfl rfl) rfl fun hS => zc <| qd ?_
   exact GB _ _ ⟨(!(GH == ([] : List UInt8))), hS.to [] (by kernel_rfl) ⟨rfl, trivial⟩, hM⟩
  ·replace hS := hS.re 30 (v := .bool false) rfl (congrArg Value.bool Gu)
   replace hS := hS.re 31 (v := .bool false) rfl (congrArg Value.bool Gu)
   refine XV 2 hS rfl fun a w hS => sO hS (pk rfl rfl rfl) rfl fun hS => zc <| qd ?_
   exact GB _ _ ⟨false, hS.to [] (by kernel_rfl) ⟨rfl, trivial⟩, hM⟩
 ·intro a w hI
  obtain ⟨Gx, hS, hM⟩ := hI
  rw [z6.j1] at hM
  refine sA hS rfl fun hS => qF <| wp_ret ?_
  exact zm (rs := [0]) hS rfl rfl (hret Gx _ (qV hM) (hS.st.pick [] (by kernel_rfl)))
theorem vt {H : xR} {F : List qq} {w : World} {R : Ending → World → Prop} {kr : Bool → Prop} {kp : Value → Prop} (hG : Gl H) (K : Nat) (Gu : qr)
    (hS : St w H [] F) (hm : (yu.m K Gu).wp kr kp)
    (hret : ∀ (Gw : Bool) (w : World), kr Gw → St w H [] F → R (.returned (.bool Gw)) w) :
    Calls Tryd.prog 15 ⟨[.agg ⟨[.int .u8 Gu.Lit_, .int .i64 Gu.Len_, .int .i64 Gu.Dist_]⟩]⟩ w R := by
 refine enter Tryd.func15 rfl Tryd.ntmps15 rfl hS fun a w hS => ?_
 have hM := hm; clear hm
 rw [yu.m] at hM
 refine qp <| bx ([.int .u8 Gu.Lit_, .int .i64 Gu.Len_, .int .i64 Gu.Dist_]) hS rfl rfl rfl fun w GA GB Gv hS => sA hS rfl fun hS => qF <| wp_seq <| qp <| sO hS (xu rfl Tryd.runUnderlying32 rfl Tryd.sizeOf3 rfl) rfl fun hS => sO hS (xW 0 rfl Gv rfl rfl Tryd.isAgg3) rfl fun hS => sB hS rfl fun hS => qF <| qv hS rfl hM (fun Gx hM => ?_) (fun Gx hM => ?_)
 ·refine wp_seq ?_
  refine zB <| sO hS (xu rfl Tryd.runUnderlying32 rfl Tryd.sizeOf3 rfl) rfl fun hS => sO hS (xW 0 rfl Gv rfl rfl Tryd.isAgg3) rfl fun hS => sB hS rfl fun hS => zz (v := Value.bool) (x0 := (Gu.Len_ == (0 : Int))) hS (xj rfl) rfl fun Gy a w hz hS => ?_
  have hM := qC hz hM; clear hz
  refine qF <| wp_ret <| qz ?_
  exact zm (rs := [2]) hS rfl rfl (hret Gy _ (qV hM) (hS.st.pick [] (by kernel_rfl)))
 ·refine wp_skip ?_
  refine qd <| qp <| sO hS (xu rfl Tryd.runUnderlying32 rfl Tryd.sizeOf3 rfl) rfl fun hS => sO hS (xW 0 rfl Gv rfl rfl Tryd.isAgg3) rfl fun hS => sB hS rfl fun hS => sM hS rfl fun hS => yo 3 true 12 (b := (decide (Gu.Dist_ ≥ (1 : Int)))) (r := (decide (Gu.Dist_ ≤ (32768 : Int)))) hS rfl rfl rfl rfl rfl rfl rfl (fun hb a w hS K hK => ?_) rfl fun a w hS => ?_
  ·refine zL hS rfl rfl rfl hb (xu rfl Tryd.runUnderlying32 rfl Tryd.sizeOf3 rfl) rfl fun a w hS => ?_
   refine zL hS rfl rfl rfl hb (xW 0 rfl Gv rfl rfl Tryd.isAgg3) rfl fun a w hS => zL hS rfl rfl rfl hb (yU rfl rfl rfl) rfl fun a w hS => ?_
   exact zc (hK _ _ (hS.up 3 rfl rfl))
  refine sM hS rfl fun hS => yo 3 true 17 (b := ((decide (Gu.Dist_ ≥ (1 : Int))) && (decide (Gu.Dist_ ≤ (32768 : Int))))) (r := (decide (Gu.Len_ ≥ (3 : Int)))) hS rfl rfl rfl rfl rfl rfl rfl (fun hb a w hS K hK => ?_) rfl fun a w hS => ?_
  ·refine zL hS rfl rfl rfl hb (xu rfl Tryd.runUnderlying32 rfl Tryd.sizeOf3 rfl) rfl fun a w hS => ?_
   refine zL hS rfl rfl rfl hb (xW 0 rfl Gv rfl rfl Tryd.isAgg3) rfl fun a w hS => zL hS rfl rfl rfl hb (yU rfl rfl rfl) rfl fun a w hS => ?_
   exact zc (hK _ _ (hS.up 3 rfl rfl))
  refine sM hS rfl fun hS => yo 3 true 22 (b := (((decide (Gu.Dist_ ≥ (1 : Int))) && (decide (Gu.Dist_ ≤ (32768 : Int)))) && (decide (Gu.Len_ ≥ (3 : Int))))) (r := (decide (Gu.Len_ ≤ (258 : Int)))) hS rfl rfl rfl rfl rfl rfl rfl (fun hb a w hS K hK => ?_) rfl fun a w hS => ?_
  ·refine zL hS rfl rfl rfl hb (xu rfl Tryd.runUnderlying32 rfl Tryd.sizeOf3 rfl) rfl fun a w hS => ?_
   refine zL hS rfl rfl rfl hb (xW 0 rfl Gv rfl rfl Tryd.isAgg3) rfl fun a w hS => zL hS rfl rfl rfl hb (yU rfl rfl rfl) rfl fun a w hS => ?_
   exact zc (hK _ _ (hS.up 3 rfl rfl))
  refine sM hS rfl fun hS => yo 3 true 27 (b := ((((decide (Gu.Dist_ ≥ (1 : Int))) && (decide (Gu.Dist_ ≤ (32768 : Int)))) && (decide (Gu.Len_ ≥ (3 : Int)))) && (decide (Gu.Len_ ≤ (258 : Int))))) (r := (Gu.Lit_ == (0 : Int))) hS rfl rfl rfl rfl rfl rfl rfl (fun hb a w hS K hK => ?_) rfl fun a w hS => ?_
  ·refine zL hS rfl rfl rfl hb (xu rfl Tryd.runUnderlying32 rfl Tryd.sizeOf5 rfl) rfl fun a w hS => ?_
   refine zL hS rfl rfl rfl hb (xW 0 rfl Gv rfl rfl Tryd.isAgg5) rfl fun a w hS => zL hS rfl rfl rfl hb (yU rfl rfl rfl) rfl fun a w hS => ?_
   exact zc (hK _ _ (hS.up 3 rfl rfl))
  refine zz (v := Value.bool) (x0 := (((((decide (Gu.Dist_ ≥ (1 : Int))) && (decide (Gu.Dist_ ≤ (32768 : Int)))) && (decide (Gu.Len_ ≥ (3 : Int)))) && (decide (Gu.Len_ ≤ (258 : Int)))) && (Gu.Lit_ == (0 : Int)))) hS (xj rfl) rfl fun Gz a w hz hS => ?_
  have hM := qC hz hM; clear hz
  refine qF <| wp_ret ?_
  exact zm (rs := [2]) hS rfl rfl (hret Gz _ (qV hM) (hS.st.pick [] (by kernel_rfl)))
theorem uT {H : xR} {F : List qq} {w : World} {R : Ending → World → Prop} {kr : ((List UInt8) × Int) → Prop} {kp : Value → Prop} (hG : Gl H) (K : Nat) (Gu : List qr) (Gw : Int) (GE : Option Addr) (GF : Nat) (GL : jm H [] F qr.cells GE Gu) (Lp : Gu.length ≤ GF)
    (hS : St w H [] F) (hm : (zd.m K Gu Gw).wp kr kp)
    (hret : ∀ (GR : List UInt8) (GS : Int) (w : World), kr (GR, GS) → St w H [] F → R (.returned (.tuple ⟨[yc GR, .int .i64 GS]⟩)) w) :
    Calls Tryd.prog 16 ⟨[.slice GE Gu.length GF, .int .i64 Gw]⟩ w R := by
 refine enter Tryd.func16 rfl Tryd.ntmps16 rfl hS fun a w hS => ?_
 have hM := hm; clear hm
 rw [zd.m] at hM
 refine qp <| sA hS rfl fun hS => sA hS rfl fun hS => qF <| wp_seq <| qp <| sM hS rfl fun hS => sB hS rfl fun hS => sM hS rfl fun hS => yo 2 false 14 (b := (decide (Gw < (0 : Int)))) (r := (decide (Gw > (1073741824 : Int)))) hS rfl rfl rfl rfl rfl rfl rfl (fun hb a w hS K hK => ?_) rfl fun a w hS => ?_
 ·refine zL hS rfl rfl rfl hb (mv rfl) rfl fun a w hS => ?_
  refine zL hS rfl rfl rfl hb (yU rfl rfl rfl) rfl fun a w hS => ?_
  exact zc (hK _ _ (hS.up 2 rfl rfl))
 refine qF <| qv hS rfl hM (fun GV hM => ?_) (fun GV hM => ?_)
 ·refine wp_seq ?_
  refine zB <| sA hS rfl fun hS => sA hS rfl fun hS => qF <| wp_ret <| qz ?_
  exact zm (rs := [4, 5]) hS rfl rfl (hret ([] : List UInt8) (1 : Int) _ (qV hM) (hS.st.pick [] (by kernel_rfl)))
 ·refine wp_skip ?_
  refine qd <| qp <| sA hS rfl fun hS => ?_
  obtain ⟨Le, GW, hS⟩ := hS.nilV 5 (ci .u8) 1
  refine qF <| wp_seq <| qp <| sA hS rfl fun hS => qF <| xw <| zk (fun GM a w => ∃ (GG : Option Addr) (GH : Nat) (Gy : (List Int)) (GC : qq) (Gv : Int), Ss 72 [] [(0, .slice GE Gu.length GF), (1, .int .i64 Gw), (6, .slice GG Gy.length GH), (7, .int .i64 Gv)] H [GC] F a w ∧ (xa 5 (ci .u8) 1 GG Gy GH GC) ∧ (zd.l1 K Gu Gw GM Gy Gv).wp kr kp) K ?_ ?_ ?_
  ·exact ⟨none, 0, ([] : List Int), Le, (0 : Int), hS.to [0] (by kernel_rfl) ⟨rfl, rfl, rfl, rfl, trivial⟩, GW, hM⟩
  ·intro a w hI; obtain ⟨_, _, _, _, _, _, _, hM⟩ := hI; exact zj hM
  ·intro GM a w hI Lq GN
   obtain ⟨GG, GH, Gy, GC, Gv, hS, GD, hM⟩ := hI
   rw [zd.l1] at hM
   refine wp_seq <| qp <| sM hS rfl fun hS => sM hS rfl fun hS => sO hS (xY rfl Tryd.runUnderlying25) rfl fun hS => sB hS rfl fun hS => qF <| qv hS rfl hM (fun GX hM => ?_) (fun GX hM => ?_)
   ·refine wp_skip ?_
    refine qd <| wp_seq <| xw <| qp <| sM hS rfl fun hS => sM hS rfl fun hS => ?_
    obtain ⟨GO, hM⟩ := qH hM
    refine sO hS (xM rfl rfl Tryd.runUnderlying25 Tryd.sizeOf32 GL.wk (fun _ => rfl) rfl GO) rfl fun hS => sO hS (yL rfl GL.wk (fun _ => rfl) GO Tryd.isAgg32 Tryd.sizeOf32 rfl) rfl fun hS => Qs ([.int .u8 (0 : Int), .int .i64 (0 : Int), .int .i64 (0 : Int)]) hS Tryd.zeroValue32 rfl rfl fun w Lf Lr GY hS => uz 0 ([.int .u8 ((rd Gu Gv).Lit_), .int .i64 ((rd Gu Gv).Len_), .int .i64 ((rd Gu Gv).Dist_)]) ([.int .u8 ((rd Gu Gv).Lit_), .int .i64 ((rd Gu Gv).Len_), .int .i64 ((rd Gu Gv).Dist_)]) hS rfl rfl GY rfl rfl Tryd.sizeOf32 (by simp [Value.oneCell']) (Nat.le_of_ble_eq_true rfl) rfl fun w GT Gz hS => qF <| qp <| sO hS (vF 0 rfl Gz rfl ([.int .u8 ((rd Gu Gv).Lit_), .int .i64 ((rd Gu Gv).Len_), .int .i64 ((rd Gu Gv).Dist_)]) rfl rfl Tryd.isAgg32 Tryd.sizeOf32) rfl fun hS => qO hS rfl Tryd.call15 (vt hG K (qr.mk ((rd Gu Gv).Lit_) ((rd Gu Gv).Len_) ((rd Gu Gv).Dist_)) (hS.st.part 0 [0, 1] (by kernel_rfl)) (qE hM) (fun Lt w hM  hst => qL hS.ev hst.appF rfl fun hS => ?_))
    replace hS : Ss _ _ _ H [GT, GC] F _ _ := hS
    refine sA hS rfl fun hS => qF <| wp_seq <| qp <| sM hS rfl fun hS => sO hS (un rfl rfl) rfl fun hS => qF <| qv hS rfl hM (fun GZ hM => ?_) (fun GZ hM => ?_)
    ·refine wp_seq ?_
     refine zB <| sA hS rfl fun hS => sA hS rfl fun hS => qF <| wp_ret <| qz (zS (qz (qz (zS (qz ?_)))))
     exact zm (rs := [4, 5]) hS rfl rfl (hret ([] : List UInt8) (1 : Int) _ (qV hM) (hS.st.pick [] (by kernel_rfl)))
    ·refine wp_skip ?_
     refine qd <| wp_seq <| qp <| sO hS (xu rfl Tryd.runUnderlying32 rfl Tryd.sizeOf3 rfl) rfl fun hS => sO hS (xW 0 rfl Gz rfl rfl Tryd.isAgg3) rfl fun hS => sM hS rfl fun hS => sO hS (xY rfl Tryd.runUnderlying38) rfl fun hS => sB hS rfl fun hS => qF <| qv hS rfl hM (fun G0 hM => ?_) (fun G0 hM => ?_)
     ·refine wp_seq ?_
      refine zB <| sA hS rfl fun hS => sA hS rfl fun hS => qF <| wp_ret <| qz (zS (qz (qz (zS (qz ?_)))))
      exact zm (rs := [4, 5]) hS rfl rfl (hret ([] : List UInt8) (3 : Int) _ (qV hM) (hS.st.pick [] (by kernel_rfl)))
     ·refine wp_skip ?_
      refine qd <| qp <| sO hS (xu rfl Tryd.runUnderlying32 rfl Tryd.sizeOf3 rfl) rfl fun hS => sO hS (xW 0 rfl Gz rfl rfl Tryd.isAgg3) rfl fun hS => sO hS (Kz rfl rfl) rfl fun hS => zz (v := Value.int .i64) (x0 := (if (rd Gu Gv).Len_ > (1 : Int) then (rd Gu Gv).Len_ else (1 : Int))) hS (xj rfl) rfl fun GP a w hz hS => ?_
      have hM := qC hz hM; clear hz
      refine qF <| wp_seq <| qp <| sM hS rfl fun hS => sM hS rfl fun hS => sM hS rfl fun hS => sO hS (xY rfl Tryd.runUnderlying38) rfl fun hS => sB hS rfl fun hS => sB hS rfl fun hS => qF <| qv hS rfl hM (fun G1 hM => ?_) (fun G1 hM => ?_)
      ·refine wp_seq ?_
       refine zB <| sA hS rfl fun hS => sA hS rfl fun hS => qF <| wp_ret <| qz (zS (qz (qz (zS (qz ?_)))))
       exact zm (rs := [4, 5]) hS rfl rfl (hret ([] : List UInt8) (11 : Int) _ (qV hM) (hS.st.pick [] (by kernel_rfl)))
      ·refine wp_skip ?_
       refine qd <| wp_seq <| qp <| sO hS (xu rfl Tryd.runUnderlying32 rfl Tryd.sizeOf3 rfl) rfl fun hS => sO hS (xW 0 rfl Gz rfl rfl Tryd.isAgg3) rfl fun hS => sB hS rfl fun hS => qF <| qv hS rfl hM (fun G2 hM => ?_) (fun G2 hM => ?_)
       ·refine wp_seq ?_
        refine zB <| sM hS rfl fun hS => sO hS (xu rfl Tryd.runUnderlying32 rfl Tryd.sizeOf5 rfl) rfl fun hS => sO hS (xW 0 rfl Gz rfl rfl Tryd.isAgg5) rfl fun hS => Xz (g := (ci .u8)) ([(rd Gu Gv).Lit_] : List Int) [.int .u8 ((rd Gu Gv).Lit_)] hS Tryd.runUnderlying38 Tryd.sizeOf5 X.el5 rfl rfl rfl (by simp [Value.cells]) rfl rfl rfl rfl rfl fun w Lu Lv Lw G3 hS => ?_
        obtain ⟨G4, hM⟩ := qH hM
        refine X9 (ys := ([(rd Gu Gv).Lit_] : List Int)) 2 hS rfl rfl GD rfl (G3.rd (i := 0) rfl) Tryd.runUnderlying38 Tryd.runUnderlying38 X.el5 (fun _ => rfl) rfl uy G4 rfl fun G5 w Lg Lh Li hz G6 hS => ?_
        have hM := qC hz hM; clear hz
        refine sA hS rfl fun hS => qF <| wp_exit <| qB (qY (qd ?_))
        refine zB <| sM hS rfl fun hS => sB hS rfl fun hS => zz (v := Value.int .i64) (x0 := (qh (Gv + (1 : Int)))) hS (xj rfl) rfl fun Lj a w hz hS => ?_
        have hM := qC hz hM; clear hz
        refine zc <| qd ?_
        exact GN _ _ ⟨Lg, Lh, G5, Li, Lj, hS.to [2] (by kernel_rfl) ⟨rfl, rfl, rfl, rfl, trivial⟩, G6, hM⟩
       ·refine wp_skip ?_
        refine qd <| qp <| sA hS rfl fun hS => qF <| xw <| zk (fun GU a w => ∃ (GI : Option Addr) (GJ : Nat) (Gx : (List Int)) (GK : qq) (GA : Int), Ss 72 [] [(0, .slice GE Gu.length GF), (1, .int .i64 Gw), (6, .slice GI Gx.length GJ), (7, .int .i64 Gv), (8, qS Lf 0), (10, .int .i64 GP), (11, .int .i64 GA)] H [GK, GT] F a w ∧ (xa 5 (ci .u8) 1 GI Gx GJ GK) ∧ (zd.l2 K (zd.l1 K Gu Gw GM) Gu Gv GP GU Gx GA).wp kr kp) K ?_ ?_ ?_
        ·exact ⟨GG, GH, Gy, GC, (0 : Int), hS.to [1, 0] (by kernel_rfl) ⟨rfl, rfl, rfl, rfl, rfl, rfl, rfl, trivial⟩, GD, hM⟩
        ·intro a w hI; obtain ⟨_, _, _, _, _, _, _, hM⟩ := hI; exact zj hM
        ·intro GU a w hI Lx G7
         obtain ⟨GI, GJ, Gx, GK, GA, hS, GB, hM⟩ := hI
         rw [zd.l2] at hM
         refine wp_seq <| qp <| sM hS rfl fun hS => sM hS rfl fun hS => sB hS rfl fun hS => qF <| qv hS rfl hM (fun G8 hM => ?_) (fun G8 hM => ?_)
         ·refine wp_skip ?_
          refine qd <| wp_seq <| xw <| zB <| sM hS rfl fun hS => sM hS rfl fun hS => sM hS rfl fun hS => sO hS (xY rfl Tryd.runUnderlying38) rfl fun hS => sO hS (xu rfl Tryd.runUnderlying32 rfl Tryd.sizeOf3 rfl) rfl fun hS => sO hS (xW 1 rfl Gz rfl rfl Tryd.isAgg3) rfl fun hS => sB hS rfl fun hS => ?_
          obtain ⟨GQ, hM⟩ := qH hM
          refine sO hS (xM rfl rfl Tryd.runUnderlying38 Tryd.sizeOf5 (GB.rd (i := 0) rfl) (fun _ => rfl) rfl GQ) rfl fun hS => sO hS (yd rfl (GB.rd (i := 0) rfl) (fun _ => rfl) GQ rfl Tryd.isAgg5) rfl fun hS => Xz (g := (ci .u8)) ([(rd Gx (qh ((Gx.length : Int) - (rd Gu Gv).Dist_)))] : List Int) [.int .u8 (rd Gx (qh ((Gx.length : Int) - (rd Gu Gv).Dist_)))] hS Tryd.runUnderlying38 Tryd.sizeOf5 X.el5 rfl rfl rfl (by simp [Value.cells]) rfl rfl rfl rfl rfl fun w Ly Lz LA G9 hS => ?_
          obtain ⟨La, hM⟩ := qH hM
          refine X9 (ys := ([(rd Gx (qh ((Gx.length : Int) - (rd Gu Gv).Dist_)))] : List Int)) 1 hS rfl rfl GB rfl (G9.rd (i := 0) rfl) Tryd.runUnderlying38 Tryd.runUnderlying38 X.el5 (fun _ => rfl) rfl uy La rfl fun Lb w Lk Ll Lm hz Lc hS => ?_
          have hM := qC hz hM; clear hz
          refine sA hS rfl fun hS => zc <| zr (qd ?_)
          refine zB <| sM hS rfl fun hS => sB hS rfl fun hS => zz (v := Value.int .i64) (x0 := (qh (GA + (1 : Int)))) hS (xj rfl) rfl fun Ld a w hz hS => ?_
          have hM := qC hz hM; clear hz
          refine zc <| qd ?_
          exact G7 _ _ ⟨Lk, Ll, Lb, Lm, Ld, hS.to [1, 2] (by kernel_rfl) ⟨rfl, rfl, rfl, rfl, rfl, rfl, rfl, trivial⟩, Lc, hM⟩
         ·refine wp_exit ?_
          refine qB (qB (qY (zr (qd ?_))))
          refine zB <| sM hS rfl fun hS => sB hS rfl fun hS => zz (v := Value.int .i64) (x0 := (qh (Gv + (1 : Int)))) hS (xj rfl) rfl fun Ln a w hz hS => ?_
          have hM := qC hz hM; clear hz
          refine zc <| qd ?_
          exact GN _ _ ⟨GI, GJ, Gx, GK, Ln, hS.to [0] (by kernel_rfl) ⟨rfl, rfl, rfl, rfl, trivial⟩, GB, hM⟩
   ·refine wp_exit ?_
    refine qB (qB (qY (qd ?_)))
    refine qp <| sM hS rfl fun hS => sO hS (DD rfl Tryd.runUnderlying38 Tryd.runUnderlying5 Tryd.runUnderlying9 (GD.rd (i := 0) rfl)) rfl fun hS => zz (v := yc) (x0 := (Gy.map ZX)) hS (xj rfl) rfl fun Lo a w hz hS => ?_
    have hM := qC hz hM; clear hz
    refine sA hS rfl fun hS => qF <| wp_ret ?_
    exact zm (rs := [4, 5]) hS rfl rfl (hret Lo (0 : Int) _ (qV hM) (hS.st.pick [] (by kernel_rfl)))
theorem y8 {H : xR} {F : List qq} {w : World} {R : Ending → World → Prop} {kr : (Int × Int × Int) → Prop} {kp : Value → Prop} (hG : Gl H) (K : Nat) (Gu : qm) (Gv : Int) (Gw : Nat) (Gy : qq) (Gx : xZ Gy Gw ([yc Gu.S_, .int .i64 Gu.At_]) 82)
    (hS : St w H [Gy] F) (hm : (ze.m K Gu Gv).wp kr kp)
    (hret : ∀ (GE : Int) (GF : Int) (GB : Int) (GG : qq) (w : World), kr (GE, GF, GB) → (xZ GG Gw ([yc Gu.S_, .int .i64 GB]) 82) → St w H [GG] F → R (.returned (.tuple ⟨[.int .u32 GE, .int .i64 GF]⟩)) w) :
    Calls Tryd.prog 86 ⟨[qS Gw 0, .int .i64 Gv]⟩ w R := by
 refine enter Tryd.func86 rfl Tryd.ntmps86 rfl hS fun a w hS => ?_
 have hM := hm; clear hm
 rw [ze.m] at hM
 refine qp <| sA hS rfl fun hS => sA hS rfl fun hS => qF <| wp_seq <| qp <| sM hS rfl fun hS => sB hS rfl fun hS => sM hS rfl fun hS => yo 2 false 12 (b := (decide (Gv < (0 : Int)))) (r := (decide (Gv > (32 : Int)))) hS rfl rfl rfl rfl rfl rfl rfl (fun hb a w hS K hK => ?_) rfl fun a w hS => ?_
 ·refine zL hS rfl rfl rfl hb (mv rfl) rfl fun a w hS => ?_
  refine zL hS rfl rfl rfl hb (yU rfl rfl rfl) rfl fun a w hS => ?_
  exact zc (hK _ _ (hS.up 2 rfl rfl))
 refine qF <| qv hS rfl hM (fun GI hM => ?_) (fun GI hM => ?_)
 ·refine wp_seq ?_
  refine zB <| sA hS rfl fun hS => sA hS rfl fun hS => qF <| wp_ret <| qz ?_
  exact zm (rs := [4, 5]) hS rfl rfl (hret (0 : Int) (1 : Int) Gu.At_ Gy _ (qV hM) Gx (hS.st.pick [0] (by kernel_rfl)))
 ·refine wp_skip ?_
  refine qd <| wp_seq <| wp_seq <| za (vals := [some (.int .i64 Gv), some (qS Gw 0), some (qS Gw 0), some (qS Gw 0), some (yc Gu.S_), some (.int .i64 (Gu.S_.length : Int)), some (.int .i64 (qh ((8 : Int) * (Gu.S_.length : Int)))), some (qS Gw 0), some (qS Gw 0), some (qS Gw 1), some (.int .i64 Gu.At_), some (.int .i64 (qh ((qh ((8 : Int) * (Gu.S_.length : Int))) - Gu.At_))), some (.bool (decide (Gv > (qh ((qh ((8 : Int) * (Gu.S_.length : Int))) - Gu.At_)))))]) hS xp rfl ?_
  intro l w ho hcl hA hst
  refine x3 hA hst ho hcl xo [0, 1, 2, 3, 4, 5, 6, 7, 8, 9, 10, 11, 12] rfl rfl rfl (by exact ⟨nM rfl, nM rfl, nQ rfl (by exact qU (yx rfl) rfl), nQ rfl (by exact qU (xu rfl Tryd.runUnderlying82 rfl Tryd.sizeOf9 rfl) rfl), nQ rfl (by exact qU (xW 0 rfl Gx rfl rfl Tryd.isAgg9) rfl), nQ rfl (by exact qU (uW rfl Tryd.runUnderlying9) rfl), nB rfl, nM rfl, nQ rfl (by exact qU (yx rfl) rfl), nQ rfl (by exact qU (xu rfl Tryd.runUnderlying82 rfl Tryd.sizeOf3 rfl) rfl), nQ rfl (by exact qU (xW 0 rfl Gx rfl rfl Tryd.isAgg3) rfl), nB rfl, nB rfl, trivial⟩) fun a w hS => ?_
  replace hS := hS.env2 (e' := [(0, qS Gw 0), (1, .int .i64 Gv), (28, .bool (decide (Gv > (qh ((qh ((8 : Int) * (Gu.S_.length : Int))) - Gu.At_)))))]) ⟨rfl, rfl, rfl, trivial⟩
  refine qd <| qv hS rfl hM (fun GJ hM => ?_) (fun GJ hM => ?_)
  ·refine wp_seq ?_
   refine zB <| sA hS rfl fun hS => sA hS rfl fun hS => qF <| wp_ret <| qz ?_
   exact zm (rs := [4, 5]) hS rfl rfl (hret (0 : Int) (2 : Int) Gu.At_ Gy _ (qV hM) Gx (hS.st.pick [0] (by kernel_rfl)))
  ·refine wp_skip ?_
   refine qd <| qp <| sA hS rfl fun hS => qF <| zg (fun a w => ∃ (GC : Int), Ss 69 [] [(0, qS Gw 0), (1, .int .i64 Gv), (6, .int .u32 GC)] H [Gy] F a w ∧ (ze.j2 K Gu Gv GC).wp kr kp) (fun GV GK => ?_) ?_
   ·refine wp_seq ?_
    refine zB <| sA hS rfl fun hS => qF <| xw <| zk (fun GH a w => ∃ (GA : Int) (Gz : Int), Ss 69 [] [(0, qS Gw 0), (1, .int .i64 Gv), (6, .int .u32 GA), (7, .int .i64 Gz)] H [Gy] F a w ∧ (ze.l1 K Gu Gv GH GA Gz).wp kr kp) K ?_ ?_ ?_
    ·exact ⟨(0 : Int), (0 : Int), hS.to [0] (by kernel_rfl) ⟨rfl, rfl, rfl, rfl, trivial⟩, hM⟩
    ·intro a w hI; obtain ⟨_, _, _, hM⟩ := hI; exact zj hM
    ·intro GH a w hI GW GL
     obtain ⟨GA, Gz, hS, hM⟩ := hI
     rw [ze.l1] at hM
     refine wp_seq <| qp <| sM hS rfl fun hS => sM hS rfl fun hS => sB hS rfl fun hS => qF <| qv hS rfl hM (fun GM hM => ?_) (fun GM hM => ?_)
     ·refine wp_skip ?_
      refine qd <| wp_seq <| xw <| qp <| sM hS rfl fun hS => sO hS (yx rfl) rfl fun hS => sO hS (xu rfl Tryd.runUnderlying82 rfl Tryd.sizeOf3 rfl) rfl fun hS => sO hS (xW 0 rfl Gx rfl rfl Tryd.isAgg3) rfl fun hS => sM hS rfl fun hS => sB hS rfl fun hS => zz (v := Value.int .i64) (x0 := (qh (Gu.At_ + Gz))) hS (xj rfl) rfl fun GD a w hz hS => ?_
      have hM := qC hz hM; clear hz
      refine qF <| qp <| sM hS rfl fun hS => sO hS (yx rfl) rfl fun hS => sO hS (xu rfl Tryd.runUnderlying82 rfl Tryd.sizeOf9 rfl) rfl fun hS => sO hS (xW 0 rfl Gx rfl rfl Tryd.isAgg9) rfl fun hS => sM hS rfl fun hS => sO hS (quo rfl rfl rfl) rfl fun hS => ?_
      obtain ⟨GN, hM⟩ := qH hM
      refine sO hS (Uo rfl rfl Tryd.runUnderlying9 GN) rfl fun hS => sO hS (vZ rfl Tryd.runUnderlying5 Tryd.runUnderlying53) rfl fun hS => sM hS rfl fun hS => sO hS (rem rfl rfl rfl) rfl fun hS => sO hS (vZ rfl Tryd.runUnderlying3 Tryd.runUnderlying39) rfl fun hS => ?_
      obtain ⟨GO, hM⟩ := qH hM
      refine sO hS (shr rfl rfl GO) rfl fun hS => sO hS (rem rfl rfl rfl) rfl fun hS => zz (v := Value.int .u32) (x0 := (v3 (xC .u32 (wr .u32 ((rd Gu.S_ (yY .i64 GD (8 : Int))).toNat : Int)) (wr .u64 (v3 GD (8 : Int)))) (2 : Int))) hS (xj rfl) rfl fun GP a w hz hS => ?_
      have hM := qC hz hM; clear hz
      refine qF <| zB <| sM hS rfl fun hS => sM hS rfl fun hS => sM hS rfl fun hS => sO hS (vZ rfl Tryd.runUnderlying3 Tryd.runUnderlying39) rfl fun hS => ?_
      obtain ⟨GQ, hM⟩ := qH hM
      refine sO hS (shl rfl rfl GQ) rfl fun hS => sB hS rfl fun hS => zz (v := Value.int .u32) (x0 := (wr .u32 (GA + (xz .u32 GP (wr .u64 Gz))))) hS (xj rfl) rfl fun GS a w hz hS => ?_
      have hM := qC hz hM; clear hz
      refine zc <| zr (qd ?_)
      refine zB <| sM hS rfl fun hS => sB hS rfl fun hS => zz (v := Value.int .i64) (x0 := (qh (Gz + (1 : Int)))) hS (xj rfl) rfl fun GT a w hz hS => ?_
      have hM := qC hz hM; clear hz
      refine zc <| qd ?_
      exact GL _ _ ⟨GS, GT, hS.to [0] (by kernel_rfl) ⟨rfl, rfl, rfl, rfl, trivial⟩, hM⟩
     ·refine wp_exit ?_
      refine qB (qB (qY (qd ?_)))
      exact GK _ _ ⟨GA, hS.to [0] (by kernel_rfl) ⟨rfl, rfl, rfl, trivial⟩, hM⟩
   ·intro a w hI
    obtain ⟨GC, hS, hM⟩ := hI
    rw [ze.j2] at hM
    refine qp <| sM hS rfl fun hS => sM hS rfl fun hS => sO hS (yx rfl) rfl fun hS => sO hS (xu rfl Tryd.runUnderlying82 rfl Tryd.sizeOf3 rfl) rfl fun hS => sO hS (xW 0 rfl Gx rfl rfl Tryd.isAgg3) rfl fun hS => sM hS rfl fun hS => sB hS rfl fun hS => sO hS (yx rfl) rfl fun hS => sO hS (xu rfl Tryd.runUnderlying82 rfl Tryd.sizeOf3 rfl) rfl fun hS => Uk 0 ([yc Gu.S_, .int .i64 (qh (Gu.At_ + Gv))]) hS rfl rfl Gx rfl rfl rfl rfl Tryd.sizeOf3 fun w GU GR hS => qF <| qp <| sM hS rfl fun hS => sA hS rfl fun hS => sA hS rfl fun hS => qF <| wp_ret ?_
    exact zm (rs := [4, 5]) hS rfl rfl (hret GC (0 : Int) (qh (Gu.At_ + Gv)) GU _ (qV hM) GR (hS.st.pick [0] (by kernel_rfl)))
theorem zU {H : xR} {F : List qq} {w : World} {R : Ending → World → Prop} {kr : (Int × Int × Int) → Prop} {kp : Value → Prop} (hG : Gl H) (K : Nat) (Gv : qu) (Gw : Int) (Gu : Int) (GD : Nat) (Gx : qq) (Gy : Nat) (GB : qq) (GE : Option Addr) (GF : Nat) (Gz : qq) (GK : xZ Gx GD ([qS Gy 0, .slice GE Gv.out_.length GF, .int .i64 Gv.limit_]) 84) (GL : xZ GB Gy ([yc Gv.r_.S_, .int .i64 Gv.r_.At_]) 82) (GQ : xa 5 (ci .u8) 1 GE Gv.out_ GF Gz)
    (hS : St w H [Gx, GB, Gz] F) (hm : (zG.m K Gv Gw Gu).wp kr kp)
    (hret : ∀ (GG : Int) (GH : Int) (GA : Int) (GI : qq) (w : World), kr (GG, GH, GA) → (xZ GI Gy ([yc Gv.r_.S_, .int .i64 GA]) 82) → St w H [Gx, GI, Gz] F → R (.returned (.tuple ⟨[.int .i64 GG, .int .i64 GH]⟩)) w) :
    Calls Tryd.prog 61 ⟨[qS GD 0, .int .i64 Gw, .int .i64 Gu]⟩ w R := by
 refine enter Tryd.func61 rfl Tryd.ntmps61 rfl hS fun a w hS => ?_
 have hM := hm; clear hm
 rw [zG.m] at hM
 refine qp <| sA hS rfl fun hS => sA hS rfl fun hS => qF <| qp <| sM hS rfl fun hS => sO hS (yx rfl) rfl fun hS => sO hS (xu rfl Tryd.runUnderlying84 rfl Tryd.sizeOf80 rfl) rfl fun hS => sO hS (xW 0 rfl GK rfl rfl Tryd.isAgg80) rfl fun hS => sM hS rfl fun hS => qO hS rfl Tryd.call86 (y8 hG K Gv.r_ Gw Gy GB GL (hS.st.part 1 [1, 0, 2] (by kernel_rfl)) (qE hM) (fun GM GN GC GJ w hM GO hst => qL hS.ev hst.appF rfl fun hS => ?_))
 replace hS : Ss _ _ _ H [GJ, Gx, Gz] F _ _ := hS
 refine sM hS rfl fun hS => sO hS (ex rfl rfl) rfl fun hS => sO hS (ex rfl rfl) rfl fun hS => sA hS rfl fun hS => sA hS rfl fun hS => qF <| qp <| sM hS rfl fun hS => sM hS rfl fun hS => sO hS (vZ rfl Tryd.runUnderlying53 Tryd.runUnderlying3) rfl fun hS => sB hS rfl fun hS => sM hS rfl fun hS => zz (v := Value.int .i64) (x0 := (qh (Gu + (wr .i64 GM)))) hS (xj rfl) rfl fun GP a w hz hS => ?_
 have hM := qC hz hM; clear hz
 refine sA hS rfl fun hS => qF <| wp_ret ?_
 exact zm (rs := [6, 7]) hS rfl rfl (hret GP GN GC GJ _ (qV hM) GO (hS.st.pick [1, 0, 2] (by kernel_rfl)))
theorem vj {H : xR} {F : List qq} {w : World} {R : Ending → World → Prop} {kr : Int → Prop} {kp : Value → Prop} (hG : Gl H) (K : Nat) (Gv : qm) (Gx : Nat) (GA : qq) (GD : xZ GA Gx ([yc Gv.S_, .int .i64 Gv.At_]) 82)
    (hS : St w H [GA] F) (hm : (zN.m K Gv).wp kr kp)
    (hret : ∀ (Gy : Int) (GB : qq) (w : World), kr Gy → (xZ GB Gx ([yc Gv.S_, .int .i64 Gy]) 82) → St w H [GB] F → R (.returned (.tuple ⟨[]⟩)) w) :
    Calls Tryd.prog 103 ⟨[qS Gx 0]⟩ w R := by
 refine enter Tryd.func103 rfl Tryd.ntmps103 rfl hS fun a w hS => ?_
 have hM := hm; clear hm
 rw [zN.m] at hM
 refine xw <| zk (fun GC a w => ∃ (Gu : Int) (Gz : qq), Ss 15 [] [(0, qS Gx 0)] H [Gz] F a w ∧ (xZ Gz Gx ([yc Gv.S_, .int .i64 Gu]) 82) ∧ (zN.l1 K GC Gu).wp kr kp) K ?_ ?_ ?_
 ·exact ⟨Gv.At_, GA, hS.to [0] (by kernel_rfl) ⟨rfl, trivial⟩, GD, hM⟩
 ·intro a w hI; obtain ⟨_, _, _, _, hM⟩ := hI; exact zj hM
 ·intro GC a w hI GI GE
  obtain ⟨Gu, Gz, hS, Gw, hM⟩ := hI
  rw [zN.l1] at hM
  refine wp_seq <| qp <| sM hS rfl fun hS => sO hS (yx rfl) rfl fun hS => sO hS (xu rfl Tryd.runUnderlying82 rfl Tryd.sizeOf3 rfl) rfl fun hS => sO hS (xW 0 rfl Gw rfl rfl Tryd.isAgg3) rfl fun hS => sO hS (rem rfl rfl rfl) rfl fun hS => sB hS rfl fun hS => qF <| qv hS rfl hM (fun GF hM => ?_) (fun GF hM => ?_)
  ·refine wp_skip ?_
   refine qd <| xw <| zB <| sM hS rfl fun hS => sO hS (yx rfl) rfl fun hS => sO hS (xu rfl Tryd.runUnderlying82 rfl Tryd.sizeOf3 rfl) rfl fun hS => sO hS (xW 0 rfl Gw rfl rfl Tryd.isAgg3) rfl fun hS => sB hS rfl fun hS => sO hS (yx rfl) rfl fun hS => sO hS (xu rfl Tryd.runUnderlying82 rfl Tryd.sizeOf3 rfl) rfl fun hS => Uk 0 ([yc Gv.S_, .int .i64 (qh (Gu + (1 : Int)))]) hS rfl rfl Gw rfl rfl rfl rfl Tryd.sizeOf3 fun w GH GG hS => zc <| zr (qd ?_)
   exact GE _ _ ⟨(qh (Gu + (1 : Int))), GH, hS.to [0] (by kernel_rfl) ⟨rfl, trivial⟩, GG, hM⟩
  ·refine wp_exit ?_
   refine qB (qB (qY ?_))
   exact y4 (rs := []) hS rfl rfl (hret Gu Gz _ (qV hM) Gw (hS.st.pick [0] (by kernel_rfl)))
theorem yZ {H : xR} {F : List qq} {w : World} {R : Ending → World → Prop} {kr : ((List UInt8) × Int × Int) → Prop} {kp : Value → Prop} (hG : Gl H) (K : Nat) (Gu : qm) (Gw : Int) (Gy : Nat) (Gz : qq) (GC : xZ Gz Gy ([yc Gu.S_, .int .i64 Gu.At_]) 82)
    (hS : St w H [Gz] F) (hm : (xD.m K Gu Gw).wp kr kp)
    (hret : ∀ (GE : List UInt8) (GF : Int) (GA : Int) (GG : qq) (w : World), kr (GE, GF, GA) → (xZ GG Gy ([yc Gu.S_, .int .i64 GA]) 82) → St w H [GG] F → R (.returned (.tuple ⟨[yc GE, .int .i64 GF]⟩)) w) :
    Calls Tryd.prog 87 ⟨[qS Gy 0, .int .i64 Gw]⟩ w R := by
 refine enter Tryd.func87 rfl Tryd.ntmps87 rfl hS fun a w hS => ?_
 have hM := hm; clear hm
 rw [xD.m] at hM
 refine qp <| sA hS rfl fun hS => sA hS rfl fun hS => qF <| wp_seq <| qp <| sM hS rfl fun hS => sB hS rfl fun hS => qF <| qv hS rfl hM (fun GI hM => ?_) (fun GI hM => ?_)
 ·refine wp_seq ?_
  refine zB <| sA hS rfl fun hS => sA hS rfl fun hS => qF <| wp_ret <| qz ?_
  exact zm (rs := [4, 5]) hS rfl rfl (hret ([] : List UInt8) (1 : Int) Gu.At_ Gz _ (qV hM) GC (hS.st.pick [0] (by kernel_rfl)))
 ·refine wp_skip ?_
  refine qd <| qp <| sM hS rfl fun hS => qO hS rfl Tryd.call103 (vj hG K Gu Gy Gz GC (hS.st.part 1 [0] (by kernel_rfl)) (qE hM) (fun Gv GH w hM Gx hst => qL hS.ev hst.appF rfl fun hS => ?_))
  replace hS : Ss _ _ _ H [GH] F _ _ := hS
  refine qF <| qp <| sM hS rfl fun hS => sO hS (yx rfl) rfl fun hS => sO hS (xu rfl Tryd.runUnderlying82 rfl Tryd.sizeOf3 rfl) rfl fun hS => sO hS (xW 0 rfl Gx rfl rfl Tryd.isAgg3) rfl fun hS => sO hS (quo rfl rfl rfl) rfl fun hS => zz (v := Value.int .i64) (x0 := (yY .i64 Gv (8 : Int))) hS (xj rfl) rfl fun GB a w hz hS => ?_
  have hM := qC hz hM; clear hz
  refine qF <| wp_seq <| qp <| sM hS rfl fun hS => sM hS rfl fun hS => sO hS (yx rfl) rfl fun hS => sO hS (xu rfl Tryd.runUnderlying82 rfl Tryd.sizeOf9 rfl) rfl fun hS => sO hS (xW 0 rfl Gx rfl rfl Tryd.isAgg9) rfl fun hS => sO hS (uW rfl Tryd.runUnderlying9) rfl fun hS => sM hS rfl fun hS => sB hS rfl fun hS => sB hS rfl fun hS => qF <| qv hS rfl hM (fun GJ hM => ?_) (fun GJ hM => ?_)
  ·refine wp_seq ?_
   refine zB <| sA hS rfl fun hS => sA hS rfl fun hS => qF <| wp_ret <| qz ?_
   exact zm (rs := [4, 5]) hS rfl rfl (hret ([] : List UInt8) (2 : Int) Gv GH _ (qV hM) Gx (hS.st.pick [0] (by kernel_rfl)))
  ·refine wp_skip ?_
   refine qd <| qp <| sM hS rfl fun hS => sM hS rfl fun hS => sO hS (yx rfl) rfl fun hS => sO hS (xu rfl Tryd.runUnderlying82 rfl Tryd.sizeOf3 rfl) rfl fun hS => sO hS (xW 0 rfl Gx rfl rfl Tryd.isAgg3) rfl fun hS => sM hS rfl fun hS => sB hS rfl fun hS => sB hS rfl fun hS => sO hS (yx rfl) rfl fun hS => sO hS (xu rfl Tryd.runUnderlying82 rfl Tryd.sizeOf3 rfl) rfl fun hS => Uk 0 ([yc Gu.S_, .int .i64 (qh (Gv + (qh ((8 : Int) * Gw))))]) hS rfl rfl Gx rfl rfl rfl rfl Tryd.sizeOf3 fun w GL GD hS => qF <| qp <| sM hS rfl fun hS => sO hS (yx rfl) rfl fun hS => sO hS (xu rfl Tryd.runUnderlying82 rfl Tryd.sizeOf9 rfl) rfl fun hS => sO hS (xW 0 rfl GD rfl rfl Tryd.isAgg9) rfl fun hS => sM hS rfl fun hS => sM hS rfl fun hS => sM hS rfl fun hS => sB hS rfl fun hS => ?_
   obtain ⟨GK, hM⟩ := qH hM
   refine sO hS (DI rfl Tryd.runUnderlying9 (DM rfl) (Bz rfl) GK) rfl fun hS => zz (v := yc) (x0 := (sub Gu.S_ GB (qh (GB + Gw)))) hS (xj rfl) rfl fun GM a w hz hS => ?_
   have hM := qC hz hM; clear hz
   refine sA hS rfl fun hS => qF <| wp_ret ?_
   exact zm (rs := [4, 5]) hS rfl rfl (hret GM (0 : Int) (qh (Gv + (qh ((8 : Int) * Gw)))) GL _ (qV hM) GD (hS.st.pick [0] (by kernel_rfl)))
theorem ve {H : xR} {F : List qq} {w : World} {R : Ending → World → Prop} {kr : (Int × Int × (List Int)) → Prop} {kp : Value → Prop} (hG : Gl H) (K : Nat) (Gv : qu) (Gy : Nat) (Gz : qq) (GB : Nat) (GL : qq) (GC : Option Addr) (GD : Nat) (GA : qq) (Gx : xZ Gz Gy ([qS GB 0, .slice GC Gv.out_.length GD, .int .i64 Gv.limit_]) 84) (GY : xZ GL GB ([yc Gv.r_.S_, .int .i64 Gv.r_.At_]) 82) (GE : xa 5 (ci .u8) 1 GC Gv.out_ GD GA)
    (hS : St w H [Gz, GL, GA] F) (hm : (xO.m K Gv).wp kr kp)
    (hret : ∀ (GQ : Int) (GI : Int) (GR : qq) (GS : Option Addr) (GT : Nat) (GF : (List Int)) (GU : qq) (GV : qq) (w : World), kr (GQ, GI, GF) → (xZ GR GB ([yc Gv.r_.S_, .int .i64 GI]) 82) → (xa 5 (ci .u8) 1 GS GF GT GU) → (xZ GV Gy ([qS GB 0, .slice GS GF.length GT, .int .i64 Gv.limit_]) 84) → St w H [GV, GR, GU] F → R (.returned (.int .i64 GQ)) w) :
    Calls Tryd.prog 62 ⟨[qS Gy 0]⟩ w R := by
 refine enter Tryd.func62 rfl Tryd.ntmps62 rfl hS fun a w hS => ?_
 have hM := hm; clear hm
 rw [xO.m] at hM
 refine qp <| sA hS rfl fun hS => qF <| qp <| sM hS rfl fun hS => sO hS (yx rfl) rfl fun hS => sO hS (xu rfl Tryd.runUnderlying84 rfl Tryd.sizeOf80 rfl) rfl fun hS => sO hS (xW 0 rfl Gx rfl rfl Tryd.isAgg80) rfl fun hS => qO hS rfl Tryd.call87 (yZ hG K Gv.r_ (4 : Int) GB GL GY (hS.st.part 1 [1, 0, 2] (by kernel_rfl)) (qE hM) (fun Gu La GG GJ w hM GM hst => qL hS.ev hst.appF rfl fun hS => ?_))
 replace hS : Ss _ _ _ H [GJ, Gz, GA] F _ _ := hS
 refine sM hS rfl fun hS => sO hS (ex rfl rfl) rfl fun hS => sO hS (ex rfl rfl) rfl fun hS => sA hS rfl fun hS => sA hS rfl fun hS => qF <| wp_seq <| qp <| sM hS rfl fun hS => sB hS rfl fun hS => qF <| qv hS rfl hM (fun GZ hM => ?_) (fun GZ hM => ?_)
 ·refine wp_seq ?_
  refine zB <| sM hS rfl fun hS => sA hS rfl fun hS => qF <| wp_ret <| qz ?_
  exact zm (rs := [2]) hS rfl rfl (hret La GG GJ GC GD Gv.out_ GA Gz _ (qV hM) GM GE Gx (hS.st.pick [1, 0, 2] (by kernel_rfl)))
 ·refine wp_skip ?_
  refine qd <| wp_seq ?_
  obtain ⟨G0, hM⟩ := qH hM
  obtain ⟨G1, hM⟩ := qH hM
  obtain ⟨Gw, GN⟩ : ∃ x, x = (qh ((wr .i64 ((rd Gu (0 : Int)).toNat : Int)) + (qh ((256 : Int) * (wr .i64 ((rd Gu (1 : Int)).toNat : Int)))))) := ⟨_, rfl⟩
  replace hM := qC GN hM
  refine za (vals := [some (yc Gu), some (.int .u8 ((rd Gu (0 : Int)).toNat : Int)), some (.int .i64 (wr .i64 ((rd Gu (0 : Int)).toNat : Int))), some (yc Gu), some (.int .u8 ((rd Gu (1 : Int)).toNat : Int)), some (.int .i64 (wr .i64 ((rd Gu (1 : Int)).toNat : Int))), some (.int .i64 (qh ((256 : Int) * (wr .i64 ((rd Gu (1 : Int)).toNat : Int))))), some (.int .i64 (qh ((wr .i64 ((rd Gu (0 : Int)).toNat : Int)) + (qh ((256 : Int) * (wr .i64 ((rd Gu (1 : Int)).toNat : Int))))))), some (.int .i64 Gw)]) hS xp rfl ?_
  intro l w ho hcl hA hst
  refine x3 hA hst ho hcl xo [0, 1, 2, 3, 4, 5, 6, 7, 8] rfl rfl rfl (by exact ⟨nM rfl, nQ rfl (by exact qU (Uo rfl rfl Tryd.runUnderlying9 G0) rfl), nQ rfl (by exact qU (vZ rfl Tryd.runUnderlying5 Tryd.runUnderlying3) rfl), nM rfl, nQ rfl (by exact qU (Uo rfl rfl Tryd.runUnderlying9 G1) rfl), nQ rfl (by exact qU (vZ rfl Tryd.runUnderlying5 Tryd.runUnderlying3) rfl), nB rfl, nB rfl, nQ rfl (by exact qU (xj rfl) (congrArg (Value.int .i64) GN.symm)), trivial⟩) fun a w hS => ?_
  replace hS := hS.env2 (e' := [(0, qS Gy 0), (3, yc Gu), (5, .int .i64 Gw)]) ⟨rfl, rfl, rfl, trivial⟩
  refine qd <| wp_seq <| wp_seq ?_
  obtain ⟨G2, hM⟩ := qH hM
  obtain ⟨G3, hM⟩ := qH hM
  refine za (vals := [some (yc Gu), some (.int .u8 ((rd Gu (2 : Int)).toNat : Int)), some (.int .i64 (wr .i64 ((rd Gu (2 : Int)).toNat : Int))), some (yc Gu), some (.int .u8 ((rd Gu (3 : Int)).toNat : Int)), some (.int .i64 (wr .i64 ((rd Gu (3 : Int)).toNat : Int))), some (.int .i64 (qh ((256 : Int) * (wr .i64 ((rd Gu (3 : Int)).toNat : Int))))), some (.int .i64 (qh ((wr .i64 ((rd Gu (2 : Int)).toNat : Int)) + (qh ((256 : Int) * (wr .i64 ((rd Gu (3 : Int)).toNat : Int))))))), some (.int .i64 Gw), some (.int .i64 (qh ((65535 : Int) - Gw))), some (.bool ((qh ((wr .i64 ((rd Gu (2 : Int)).toNat : Int)) + (qh ((256 : Int) * (wr .i64 ((rd Gu (3 : Int)).toNat : Int)))))) != (qh ((65535 : Int) - Gw))))]) hS xp rfl ?_
  intro l w ho hcl hA hst
  refine x3 hA hst ho hcl xo [0, 1, 2, 3, 4, 5, 6, 7, 8, 9, 10] rfl rfl rfl (by exact ⟨nM rfl, nQ rfl (by exact qU (Uo rfl rfl Tryd.runUnderlying9 G2) rfl), nQ rfl (by exact qU (vZ rfl Tryd.runUnderlying5 Tryd.runUnderlying3) rfl), nM rfl, nQ rfl (by exact qU (Uo rfl rfl Tryd.runUnderlying9 G3) rfl), nQ rfl (by exact qU (vZ rfl Tryd.runUnderlying5 Tryd.runUnderlying3) rfl), nB rfl, nB rfl, nM rfl, nB rfl, nB rfl, trivial⟩) fun a w hS => ?_
  replace hS := hS.env2 (e' := [(0, qS Gy 0), (5, .int .i64 Gw), (37, .bool ((qh ((wr .i64 ((rd Gu (2 : Int)).toNat : Int)) + (qh ((256 : Int) * (wr .i64 ((rd Gu (3 : Int)).toNat : Int)))))) != (qh ((65535 : Int) - Gw))))]) ⟨rfl, rfl, rfl, trivial⟩
  refine qd <| qv hS rfl hM (fun G4 hM => ?_) (fun G4 hM => ?_)
  ·refine wp_seq ?_
   refine zB <| sA hS rfl fun hS => qF <| wp_ret <| qz ?_
   exact zm (rs := [2]) hS rfl rfl (hret (3 : Int) GG GJ GC GD Gv.out_ GA Gz _ (qV hM) GM GE Gx (hS.st.pick [1, 0, 2] (by kernel_rfl)))
  ·refine wp_skip ?_
   refine qd <| qp <| sM hS rfl fun hS => sO hS (yx rfl) rfl fun hS => sO hS (xu rfl Tryd.runUnderlying84 rfl Tryd.sizeOf80 rfl) rfl fun hS => sO hS (xW 1 rfl Gx rfl rfl Tryd.isAgg80) rfl fun hS => sM hS rfl fun hS => qO hS rfl Tryd.call87 (yZ hG K (qm.mk Gv.r_.S_ GG) Gw GB GJ GM (hS.st.part 1 [0, 1, 2] (by kernel_rfl)) (qE hM) (fun Lb Lc GH GK w hM GO hst => qL hS.ev hst.appF rfl fun hS => ?_))
   replace hS : Ss _ _ _ H [GK, Gz, GA] F _ _ := hS
   refine sM hS rfl fun hS => sO hS (ex rfl rfl) rfl fun hS => sO hS (ex rfl rfl) rfl fun hS => sA hS rfl fun hS => sA hS rfl fun hS => qF <| wp_seq <| qp <| sM hS rfl fun hS => sB hS rfl fun hS => qF <| qv hS rfl hM (fun G5 hM => ?_) (fun G5 hM => ?_)
   ·refine wp_seq ?_
    refine zB <| sM hS rfl fun hS => sA hS rfl fun hS => qF <| wp_ret <| qz ?_
    exact zm (rs := [2]) hS rfl rfl (hret Lc GH GK GC GD Gv.out_ GA Gz _ (qV hM) GO GE Gx (hS.st.pick [1, 0, 2] (by kernel_rfl)))
   ·refine wp_skip ?_
    refine qd <| wp_seq <| wp_seq <| za (vals := [some (.int .i64 Gw), some (qS Gy 0), some (qS Gy 0), some (qS Gy 2), some (.int .i64 Gv.limit_), some (qS Gy 0), some (qS Gy 0), some (qS Gy 1), some (.slice GC Gv.out_.length GD), some (.int .i64 (Gv.out_.length : Int)), some (.int .i64 (qh (Gv.limit_ - (Gv.out_.length : Int)))), some (.bool (decide (Gw > (qh (Gv.limit_ - (Gv.out_.length : Int))))))]) hS xp rfl ?_
    intro l w ho hcl hA hst
    refine x3 hA hst ho hcl xo [0, 1, 2, 3, 4, 5, 6, 7, 8, 9, 10, 11] rfl rfl rfl (by exact ⟨nM rfl, nM rfl, nQ rfl (by exact qU (yx rfl) rfl), nQ rfl (by exact qU (xu rfl Tryd.runUnderlying84 rfl Tryd.sizeOf3 rfl) rfl), nQ rfl (by exact qU (xW 1 rfl Gx rfl rfl Tryd.isAgg3) rfl), nM rfl, nQ rfl (by exact qU (yx rfl) rfl), nQ rfl (by exact qU (xu rfl Tryd.runUnderlying84 rfl Tryd.sizeOf38 rfl) rfl), nQ rfl (by exact qU (xW 1 rfl Gx rfl rfl Tryd.isAgg38) rfl), nQ rfl (by exact qU (xY rfl Tryd.runUnderlying38) rfl), nB rfl, nB rfl, trivial⟩) fun a w hS => ?_
    replace hS := hS.env2 (e' := [(0, qS Gy 0), (6, yc Lb), (61, .bool (decide (Gw > (qh (Gv.limit_ - (Gv.out_.length : Int))))))]) ⟨rfl, rfl, rfl, trivial⟩
    refine qd <| qv hS rfl hM (fun G6 hM => ?_) (fun G6 hM => ?_)
    ·refine wp_seq ?_
     refine zB <| sA hS rfl fun hS => qF <| wp_ret <| qz ?_
     exact zm (rs := [2]) hS rfl rfl (hret (11 : Int) GH GK GC GD Gv.out_ GA Gz _ (qV hM) GO GE Gx (hS.st.pick [1, 0, 2] (by kernel_rfl)))
    ·refine wp_skip ?_
     refine qd <| qp <| sM hS rfl fun hS => sM hS rfl fun hS => sO hS (yx rfl) rfl fun hS => sO hS (xu rfl Tryd.runUnderlying84 rfl Tryd.sizeOf38 rfl) rfl fun hS => sO hS (xW 1 rfl Gx rfl rfl Tryd.isAgg38) rfl fun hS => sM hS rfl fun hS => ?_
     obtain ⟨G7, hM⟩ := qH hM
     refine DZ 2 hS rfl rfl GE rfl Tryd.runUnderlying38 Tryd.runUnderlying9 X.el5 rfl G7 rfl fun GP w GW GX Ld hz G8 hS => ?_
     have hM := qC hz hM; clear hz
     refine sO hS (yx rfl) rfl fun hS => sO hS (xu rfl Tryd.runUnderlying84 rfl Tryd.sizeOf38 rfl) rfl fun hS => Uk 1 ([qS GB 0, .slice GW GP.length GX, .int .i64 Gv.limit_]) hS rfl rfl Gx rfl rfl rfl rfl Tryd.sizeOf38 fun w Le G9 hS => qF <| qp <| sA hS rfl fun hS => qF <| wp_ret ?_
     exact zm (rs := [2]) hS rfl rfl (hret (0 : Int) GH GK GW GX GP Ld Le _ (qV hM) GO G8 G9 (hS.st.pick [1, 0, 2] (by kernel_rfl)))
theorem u3 {H : xR} {F : List qq} {w : World} {R : Ending → World → Prop} {kr : ((List Int) × (List Int)) → Prop} {kp : Value → Prop} (hG : Gl H) (K : Nat)
    (hS : St w H [] F) (hm : (zC.m K).wp kr kp)
    (hret : ∀ (GX : Option Addr) (GY : Nat) (GN : (List Int)) (GZ : qq) (G0 : Option Addr) (G1 : Nat) (GO : (List Int)) (G2 : qq) (w : World), kr (GN, GO) → (xa 3 (ci .i64) 1 GX GN GY GZ) → (xa 3 (ci .i64) 1 G0 GO G1 G2) → St w H [GZ, G2] F → R (.returned (.tuple ⟨[.slice GX GN.length GY, .slice G0 GO.length G1]⟩)) w) :
    Calls Tryd.prog 26 ⟨[]⟩ w R := by
 refine enter Tryd.func26 rfl Tryd.ntmps26 rfl hS fun a w hS => ?_
 have hM := hm; clear hm
 rw [zC.m] at hM
 refine qp <| sA hS rfl fun hS => ?_
 obtain ⟨Lz, Lx, hS⟩ := hS.nilV 3 (ci .i64) 1
 refine sA hS rfl fun hS => ?_
 obtain ⟨LA, Ly, hS⟩ := hS.nilV 3 (ci .i64) 1
 refine qF <| wp_seq <| zB ?_
 obtain ⟨G5, hM⟩ := qH hM
 refine Ug (g := (ci .i64)) (m := (288 : Int)) (0 : Int) hS rfl rfl (by simp) Tryd.runUnderlying45 X.el3 (fun w => ⟨_, Tryd.zeroValue3 w, rfl⟩) (fun _ => rfl) rfl rfl G5 rfl fun G6 w Gu Gv Lm hz G7 hS => ?_
 have hM := qC hz hM; clear hz
 refine sA hS rfl fun hS => qF <| zg (fun a w => ∃ (Gy : (List Int)) (GD : qq), Ss 40 [] [(2, .slice Gu Gy.length Gv)] H [GD] F a w ∧ (xa 3 (ci .i64) 1 Gu Gy Gv GD) ∧ (zC.j2 K Gy).wp kr kp) (fun LB G8 => ?_) ?_
 ·refine wp_seq ?_
  refine zB <| sA hS rfl fun hS => qF <| xw <| zk (fun G3 a w => ∃ (Gw : (List Int)) (GL : qq) (Gx : Int), Ss 40 [] [(2, .slice Gu Gw.length Gv), (3, .int .i64 Gx)] H [GL] F a w ∧ (xa 3 (ci .i64) 1 Gu Gw Gv GL) ∧ (zC.l1 K G3 Gw Gx).wp kr kp) K ?_ ?_ ?_
  ·exact ⟨G6, Lm, (0 : Int), hS.to [0] (by kernel_rfl) ⟨rfl, rfl, trivial⟩, G7, hM⟩
  ·intro a w hI; obtain ⟨_, _, _, _, _, hM⟩ := hI; exact zj hM
  ·intro G3 a w hI LC GF
   obtain ⟨Gw, GL, Gx, hS, Gz, hM⟩ := hI
   rw [zC.l1] at hM
   refine wp_seq <| qp <| sM hS rfl fun hS => sB hS rfl fun hS => qF <| qv hS rfl hM (fun G9 hM => ?_) (fun G9 hM => ?_)
   ·refine wp_skip ?_
    refine qd <| wp_seq <| xw <| xw <| qp <| sM hS rfl fun hS => sB hS rfl fun hS => sM hS rfl fun hS => yo 2 false 17 (b := (decide (Gx < (144 : Int)))) (r := (decide (Gx > (279 : Int)))) hS rfl rfl rfl rfl rfl rfl rfl (fun hb a w hS K hK => ?_) rfl fun a w hS => ?_
    ·refine zL hS rfl rfl rfl hb (mv rfl) rfl fun a w hS => ?_
     refine zL hS rfl rfl rfl hb (yU rfl rfl rfl) rfl fun a w hS => ?_
     exact zc (hK _ _ (hS.up 2 rfl rfl))
    refine zz (v := Value.bool) (x0 := ((decide (Gx < (144 : Int))) || (decide (Gx > (279 : Int))))) hS (xj rfl) rfl fun LD a w hz hS => ?_
    have hM := qC hz hM; clear hz
    refine qF <| qv hS rfl hM (fun La hM => ?_) (fun La hM => ?_)
    ·refine zB ?_
     refine sM hS rfl fun hS => sM hS rfl fun hS => ?_
     obtain ⟨GP, hM⟩ := qH hM
     refine sO hS (xM rfl rfl Tryd.runUnderlying45 Tryd.sizeOf3 (Gz.rd (i := 0) rfl) (fun _ => rfl) rfl GP) rfl fun hS => Xk (i := Gx) (sz := 1) 0 0 ((8 : Int)) hS rfl rfl Gz rfl Tryd.sizeOf3 (xF (8 : Int)) (fun _ => rfl) GP rfl rfl fun GG w Ln hz GQ Lb hS => ?_
     have hM := qC hz hM; clear hz
     replace hS := hS.re 2 (u := .slice Gu Gw.length Gv) (v := .slice Gu GG.length Gv) rfl (by rw [GQ])
     replace hS := hS.re 21 (u := .slice Gu Gw.length Gv) (v := .slice Gu GG.length Gv) rfl (by rw [GQ])
     refine zc <| zr (zr (qd ?_))
     refine zB <| sM hS rfl fun hS => sB hS rfl fun hS => zz (v := Value.int .i64) (x0 := (qh (Gx + (1 : Int)))) hS (xj rfl) rfl fun Lo a w hz hS => ?_
     have hM := qC hz hM; clear hz
     refine zc <| qd ?_
     exact GF _ _ ⟨GG, Ln, Lo, hS.to [0] (by kernel_rfl) ⟨rfl, rfl, trivial⟩, Lb, hM⟩
    ·refine wp_seq ?_
     refine zB <| sM hS rfl fun hS => sB hS rfl fun hS => zz (v := Value.bool) (x0 := (decide (Gx < (256 : Int)))) hS (xj rfl) rfl fun LE a w hz hS => ?_
     have hM := qC hz hM; clear hz
     refine qF <| qv hS rfl hM (fun Lc hM => ?_) (fun Lc hM => ?_)
     ·refine zB ?_
      refine sM hS rfl fun hS => sM hS rfl fun hS => ?_
      obtain ⟨GR, hM⟩ := qH hM
      refine sO hS (xM rfl rfl Tryd.runUnderlying45 Tryd.sizeOf3 (Gz.rd (i := 0) rfl) (fun _ => rfl) rfl GR) rfl fun hS => Xk (i := Gx) (sz := 1) 0 0 ((9 : Int)) hS rfl rfl Gz rfl Tryd.sizeOf3 (xF (9 : Int)) (fun _ => rfl) GR rfl rfl fun GH w Lp hz GS Ld hS => ?_
      have hM := qC hz hM; clear hz
      replace hS := hS.re 2 (u := .slice Gu Gw.length Gv) (v := .slice Gu GH.length Gv) rfl (by rw [GS])
      replace hS := hS.re 27 (u := .slice Gu Gw.length Gv) (v := .slice Gu GH.length Gv) rfl (by rw [GS])
      refine zc <| zr (zr (qd ?_))
      refine zB <| sM hS rfl fun hS => sB hS rfl fun hS => zz (v := Value.int .i64) (x0 := (qh (Gx + (1 : Int)))) hS (xj rfl) rfl fun Lq a w hz hS => ?_
      have hM := qC hz hM; clear hz
      refine zc <| qd ?_
      exact GF _ _ ⟨GH, Lp, Lq, hS.to [0] (by kernel_rfl) ⟨rfl, rfl, trivial⟩, Ld, hM⟩
     ·refine zB ?_
      refine sM hS rfl fun hS => sM hS rfl fun hS => ?_
      obtain ⟨GT, hM⟩ := qH hM
      refine sO hS (xM rfl rfl Tryd.runUnderlying45 Tryd.sizeOf3 (Gz.rd (i := 0) rfl) (fun _ => rfl) rfl GT) rfl fun hS => Xk (i := Gx) (sz := 1) 0 0 ((7 : Int)) hS rfl rfl Gz rfl Tryd.sizeOf3 (xF (7 : Int)) (fun _ => rfl) GT rfl rfl fun GI w Lr hz GU Le hS => ?_
      have hM := qC hz hM; clear hz
      replace hS := hS.re 2 (u := .slice Gu Gw.length Gv) (v := .slice Gu GI.length Gv) rfl (by rw [GU])
      replace hS := hS.re 11 (u := .slice Gu Gw.length Gv) (v := .slice Gu GI.length Gv) rfl (by rw [GU])
      refine zc <| zr (zr (qd ?_))
      refine zB <| sM hS rfl fun hS => sB hS rfl fun hS => zz (v := Value.int .i64) (x0 := (qh (Gx + (1 : Int)))) hS (xj rfl) rfl fun Lt a w hz hS => ?_
      have hM := qC hz hM; clear hz
      refine zc <| qd ?_
      exact GF _ _ ⟨GI, Lr, Lt, hS.to [0] (by kernel_rfl) ⟨rfl, rfl, trivial⟩, Le, hM⟩
   ·refine wp_exit ?_
    refine qB (qB (qY (qd ?_)))
    exact G8 _ _ ⟨Gw, GL, hS.to [0] (by kernel_rfl) ⟨rfl, trivial⟩, Gz, hM⟩
 ·intro a w hI
  obtain ⟨Gy, GD, hS, Lf, hM⟩ := hI
  rw [zC.j2] at hM
  refine wp_seq <| zB ?_
  obtain ⟨Lg, hM⟩ := qH hM
  refine Ug (g := (ci .i64)) (m := (32 : Int)) (0 : Int) hS rfl rfl (by simp) Tryd.runUnderlying45 X.el3 (fun w => ⟨_, Tryd.zeroValue3 w, rfl⟩) (fun _ => rfl) rfl rfl Lg rfl fun Lh w GA GB Lu hz Li hS => ?_
  have hM := qC hz hM; clear hz
  refine sA hS rfl fun hS => qF <| wp_seq <| qp <| sA hS rfl fun hS => qF <| xw <| zk (fun G4 a w => ∃ (GC : (List Int)) (GM : qq) (GE : Int), Ss 40 [] [(2, .slice Gu Gy.length Gv), (4, .slice GA GC.length GB), (5, .int .i64 GE)] H [GD, GM] F a w ∧ (xa 3 (ci .i64) 1 GA GC GB GM) ∧ (zC.l3 K Gy G4 GC GE).wp kr kp) K ?_ ?_ ?_
  ·exact ⟨Lh, Lu, (0 : Int), hS.to [1, 0] (by kernel_rfl) ⟨rfl, rfl, rfl, trivial⟩, Li, hM⟩
  ·intro a w hI; obtain ⟨_, _, _, _, _, hM⟩ := hI; exact zj hM
  ·intro G4 a w hI LF Lj
   obtain ⟨GC, GM, GE, hS, GJ, hM⟩ := hI
   rw [zC.l3] at hM
   refine wp_seq <| qp <| sM hS rfl fun hS => sB hS rfl fun hS => qF <| qv hS rfl hM (fun Lk hM => ?_) (fun Lk hM => ?_)
   ·refine wp_skip ?_
    refine qd <| wp_seq <| xw <| zB <| sM hS rfl fun hS => sM hS rfl fun hS => ?_
    obtain ⟨GV, hM⟩ := qH hM
    refine sO hS (xM rfl rfl Tryd.runUnderlying45 Tryd.sizeOf3 (GJ.rd (i := 1) rfl) (fun _ => rfl) rfl GV) rfl fun hS => Xk (i := GE) (sz := 1) 1 0 ((5 : Int)) hS rfl rfl GJ rfl Tryd.sizeOf3 (xF (5 : Int)) (fun _ => rfl) GV rfl rfl fun GK w Lv hz GW Ll hS => ?_
    have hM := qC hz hM; clear hz
    replace hS := hS.re 4 (u := .slice GA GC.length GB) (v := .slice GA GK.length GB) rfl (by rw [GW])
    replace hS := hS.re 35 (u := .slice GA GC.length GB) (v := .slice GA GK.length GB) rfl (by rw [GW])
    refine zc <| zr (qd ?_)
    refine zB <| sM hS rfl fun hS => sB hS rfl fun hS => zz (v := Value.int .i64) (x0 := (qh (GE + (1 : Int)))) hS (xj rfl) rfl fun Lw a w hz hS => ?_
    have hM := qC hz hM; clear hz
    refine zc <| qd ?_
    exact Lj _ _ ⟨GK, Lv, Lw, hS.to [0, 1] (by kernel_rfl) ⟨rfl, rfl, rfl, trivial⟩, Ll, hM⟩
   ·refine wp_exit ?_
    refine qB (qB (qY (qd ?_)))
    refine qp <| sM hS rfl fun hS => sM hS rfl fun hS => sA hS rfl fun hS => sA hS rfl fun hS => qF <| wp_ret ?_
    exact zm (rs := [0, 1]) hS rfl rfl (hret Gu Gv Gy GD GA GB GC GM _ (qV hM) Lf GJ (hS.st.pick [0, 1] (by kernel_rfl)))
theorem uX {H : xR} {F : List qq} {w : World} {R : Ending → World → Prop} {kr : Int → Prop} {kp : Value → Prop} (hG : Gl H) (K : Nat) (Gv : List Int) (GI : Option Addr) (GJ : Nat) (Gw : jm H [] F (ci .i64) GI Gv) (G1 : Gv.length ≤ GJ)
    (hS : St w H [] F) (hm : (qP.m K Gv).wp kr kp)
    (hret : ∀ (GP : Int) (w : World), kr GP → St w H [] F → R (.returned (.int .i64 GP)) w) :
    Calls Tryd.prog 51 ⟨[.slice GI Gv.length GJ]⟩ w R := by
 refine enter Tryd.func51 rfl Tryd.ntmps51 rfl hS fun a w hS => ?_
 have hM := hm; clear hm
 rw [qP.m] at hM
 refine qp <| sA hS rfl fun hS => qF <| wp_seq <| qp <| sM hS rfl fun hS => sO hS (xY rfl Tryd.runUnderlying45) rfl fun hS => sB hS rfl fun hS => qF <| qv hS rfl hM (fun GR hM => ?_) (fun GR hM => ?_)
 ·refine wp_seq ?_
  refine zB <| sA hS rfl fun hS => qF <| wp_ret <| qz ?_
  exact zm (rs := [2]) hS rfl rfl (hret (1 : Int) _ (qV hM) (hS.st.pick [] (by kernel_rfl)))
 ·refine wp_skip ?_
  refine qd <| qp <| sA hS rfl fun hS => qF <| qp <| sA hS rfl fun hS => qF <| qp <| sA hS rfl fun hS => qF <| zg (fun a w => ∃ (Gu : Int) (GD : Int) (GA : Int), Ss 62 [] [(3, .int .i64 Gu), (4, .int .i64 GD), (5, .int .i64 GA)] H [] F a w ∧ (qP.j2 K Gu GD GA).wp kr kp) (fun G2 GS => ?_) ?_
  ·refine wp_seq ?_
   refine zB <| sA hS rfl fun hS => qF <| xw <| zk (fun GQ a w => ∃ (Gz : Int) (GC : Int) (Gy : Int) (GB : Int), Ss 62 [] [(0, .slice GI Gv.length GJ), (3, .int .i64 Gz), (4, .int .i64 GC), (5, .int .i64 Gy), (6, .int .i64 GB)] H [] F a w ∧ (qP.l1 K Gv GQ Gz GC Gy GB).wp kr kp) K ?_ ?_ ?_
   ·exact ⟨(0 : Int), (0 : Int), (0 : Int), (0 : Int), hS.to [] (by kernel_rfl) ⟨rfl, rfl, rfl, rfl, rfl, trivial⟩, hM⟩
   ·intro a w hI; obtain ⟨_, _, _, _, _, hM⟩ := hI; exact zj hM
   ·intro GQ a w hI G3 GK
    obtain ⟨Gz, GC, Gy, GB, hS, hM⟩ := hI
    rw [qP.l1] at hM
    refine wp_seq <| qp <| sM hS rfl fun hS => sM hS rfl fun hS => sO hS (xY rfl Tryd.runUnderlying45) rfl fun hS => sB hS rfl fun hS => qF <| qv hS rfl hM (fun GT hM => ?_) (fun GT hM => ?_)
    ·refine wp_skip ?_
     refine qd <| wp_seq <| xw <| wp_seq <| qp <| sM hS rfl fun hS => sM hS rfl fun hS => ?_
     obtain ⟨Gx, hM⟩ := qH hM
     refine sO hS (xM rfl rfl Tryd.runUnderlying45 Tryd.sizeOf3 Gw.wk (fun _ => rfl) rfl Gx) rfl fun hS => sO hS (yd rfl Gw.wk (fun _ => rfl) Gx rfl Tryd.isAgg3) rfl fun hS => sB hS rfl fun hS => sM hS rfl fun hS => yo 5 false 21 (b := (decide ((rd Gv GB) < (0 : Int)))) (r := (decide ((rd Gv GB) > (15 : Int)))) hS rfl rfl rfl rfl rfl rfl rfl (fun hb a w hS K hK => ?_) rfl fun a w hS => ?_
     ·refine zL hS rfl rfl rfl hb (mv rfl) rfl fun a w hS => ?_
      refine zL hS rfl rfl rfl hb (mv rfl) rfl fun a w hS => zL hS rfl rfl rfl hb (xM rfl rfl Tryd.runUnderlying45 Tryd.sizeOf3 Gw.wk (fun _ => rfl) rfl Gx) rfl fun a w hS => zL hS rfl rfl rfl hb (yd rfl Gw.wk (fun _ => rfl) Gx rfl Tryd.isAgg3) rfl fun a w hS => zL hS rfl rfl rfl hb (yU rfl rfl rfl) rfl fun a w hS => ?_
      exact zc (hK _ _ (hS.up 5 rfl rfl))
     refine qF <| qv hS rfl hM (fun GU hM => ?_) (fun GU hM => ?_)
     ·refine wp_seq ?_
      refine zB <| sA hS rfl fun hS => qF <| wp_ret <| qz (zS (qz (qz (zS (qz ?_)))))
      exact zm (rs := [2]) hS rfl rfl (hret (1 : Int) _ (qV hM) (hS.st.pick [] (by kernel_rfl)))
     ·refine wp_skip ?_
      refine qd <| qp <| sM hS rfl fun hS => sM hS rfl fun hS => sO hS (xM rfl rfl Tryd.runUnderlying45 Tryd.sizeOf3 Gw.wk (fun _ => rfl) rfl Gx) rfl fun hS => sO hS (yd rfl Gw.wk (fun _ => rfl) Gx rfl Tryd.isAgg3) rfl fun hS => sB hS rfl fun hS => qF <| qv hS rfl hM (fun GV hM => ?_) (fun GV hM => ?_)
      ·refine wp_seq ?_
       refine zB <| sM hS rfl fun hS => sM hS rfl fun hS => sM hS rfl fun hS => sO hS (xM rfl rfl Tryd.runUnderlying45 Tryd.sizeOf3 Gw.wk (fun _ => rfl) rfl Gx) rfl fun hS => sO hS (yd rfl Gw.wk (fun _ => rfl) Gx rfl Tryd.isAgg3) rfl fun hS => sB hS rfl fun hS => sO hS (vZ rfl Tryd.runUnderlying3 Tryd.runUnderlying39) rfl fun hS => ?_
       obtain ⟨GW, hM⟩ := qH hM
       refine sO hS (shl rfl rfl GW) rfl fun hS => sB hS rfl fun hS => zz (v := Value.int .i64) (x0 := (qh (Gz + (xz .i64 (1 : Int) (wr .u64 (qh ((15 : Int) - (rd Gv GB)))))))) hS (xj rfl) rfl fun GO a w hz hS => ?_
       have hM := qC hz hM; clear hz
       refine qF <| qp <| sM hS rfl fun hS => sB hS rfl fun hS => zz (v := Value.int .i64) (x0 := (qh (GC + (1 : Int)))) hS (xj rfl) rfl fun GX a w hz hS => ?_
       have hM := qC hz hM; clear hz
       refine qF <| zB <| sM hS rfl fun hS => sM hS rfl fun hS => sO hS (xM rfl rfl Tryd.runUnderlying45 Tryd.sizeOf3 Gw.wk (fun _ => rfl) rfl Gx) rfl fun hS => sO hS (yd rfl Gw.wk (fun _ => rfl) Gx rfl Tryd.isAgg3) rfl fun hS => zz (v := Value.int .i64) (x0 := (rd Gv GB)) hS (xj rfl) rfl fun GL a w hz hS => ?_
       have hM := qC hz hM; clear hz
       refine zc <| zr (qd ?_)
       refine zB <| sM hS rfl fun hS => sB hS rfl fun hS => zz (v := Value.int .i64) (x0 := (qh (GB + (1 : Int)))) hS (xj rfl) rfl fun GZ a w hz hS => ?_
       have hM := qC hz hM; clear hz
       refine zc <| qd ?_
       exact GK _ _ ⟨GO, GX, GL, GZ, hS.to [] (by kernel_rfl) ⟨rfl, rfl, rfl, rfl, rfl, trivial⟩, hM⟩
      ·refine wp_skip ?_
       refine zr (qd ?_)
       refine zB <| sM hS rfl fun hS => sB hS rfl fun hS => zz (v := Value.int .i64) (x0 := (qh (GB + (1 : Int)))) hS (xj rfl) rfl fun G0 a w hz hS => ?_
       have hM := qC hz hM; clear hz
       refine zc <| qd ?_
       exact GK _ _ ⟨Gz, GC, Gy, G0, hS.to [] (by kernel_rfl) ⟨rfl, rfl, rfl, rfl, rfl, trivial⟩, hM⟩
    ·refine wp_exit ?_
     refine qB (qB (qY (qd ?_)))
     exact GS _ _ ⟨Gz, GC, Gy, hS.to [] (by kernel_rfl) ⟨rfl, rfl, rfl, trivial⟩, hM⟩
  ·intro a w hI
   obtain ⟨Gu, GD, GA, hS, hM⟩ := hI
   rw [qP.j2] at hM
   refine wp_seq <| qp <| sM hS rfl fun hS => sB hS rfl fun hS => sM hS rfl fun hS => v8 (fun a w => ∃ (GG : Bool), Ss 62 [] [(3, .int .i64 Gu), (57, .bool GG)] H [] F a w ∧ (qP.j4 K Gu GG).wp kr kp) 7 (fun G4 GM => ?_) ?_
   ·refine Uh (b := (GD == (0 : Int))) hM (fun GE hM => ?_) (fun GE hM => ?_)
    ·replace hS := hS.re 49 (v := .bool true) rfl (congrArg Value.bool GE)
     replace hS := hS.re 50 (v := .bool true) rfl (congrArg Value.bool GE)
     refine XV 6 hS rfl fun a w hS => sO hS (pk rfl rfl rfl) rfl fun hS => zc <| qd ?_
     exact GM _ _ ⟨true, hS.to [] (by kernel_rfl) ⟨rfl, rfl, trivial⟩, hM⟩
    ·replace hS := hS.re 49 (v := .bool false) rfl (congrArg Value.bool GE)
     replace hS := hS.re 50 (v := .bool false) rfl (congrArg Value.bool GE)
     refine zL hS rfl rfl rfl rfl (mv rfl) rfl fun a w hS => zL hS rfl rfl rfl rfl (yU rfl rfl rfl) rfl fun a w hS => zL hS rfl rfl rfl rfl (mv rfl) rfl fun a w hS => v8 (fun a w => ∃ (GH : Bool), Ss 62 [] [(3, .int .i64 Gu), (50, .bool false), (56, .bool GH)] H [] F a w ∧ (qP.j3 K Gu GH).wp kr kp) 3 (fun G5 GN => ?_) ?_
     ·refine Uh (b := (GD == (1 : Int))) hM (fun GF hM => ?_) (fun GF hM => ?_)
      ·replace hS := hS.re 52 (v := .bool true) rfl (congrArg Value.bool GF)
       replace hS := hS.re 53 (v := .bool true) rfl (congrArg Value.bool GF)
       refine zL hS rfl rfl rfl rfl (mv rfl) rfl fun a w hS => zL hS rfl rfl rfl rfl (yU rfl rfl rfl) rfl fun a w hS => zL hS rfl rfl rfl rfl (pk rfl rfl rfl) rfl fun a w hS => zc <| qd ?_
       exact GN _ _ ⟨(GA == (1 : Int)), hS.to [] (by kernel_rfl) ⟨rfl, rfl, rfl, trivial⟩, hM⟩
      ·replace hS := hS.re 52 (v := .bool false) rfl (congrArg Value.bool GF)
       replace hS := hS.re 53 (v := .bool false) rfl (congrArg Value.bool GF)
       refine XV 2 hS rfl fun a w hS => zL hS rfl rfl rfl rfl (pk rfl rfl rfl) rfl fun a w hS => zc <| qd ?_
       exact GN _ _ ⟨false, hS.to [] (by kernel_rfl) ⟨rfl, rfl, rfl, trivial⟩, hM⟩
     ·intro a w hI
      obtain ⟨GH, hS, hM⟩ := hI
      rw [qP.j3] at hM
      refine sO hS (pk rfl rfl rfl) rfl fun hS => zc <| qd ?_
      exact GM _ _ ⟨GH, hS.to [] (by kernel_rfl) ⟨rfl, rfl, trivial⟩, hM⟩
   ·intro a w hI
    obtain ⟨GG, hS, hM⟩ := hI
    rw [qP.j4] at hM
    refine sM hS rfl fun hS => yo 2 false 58 (b := GG) (r := (Gu == (32768 : Int))) hS rfl rfl rfl rfl rfl rfl rfl (fun hb a w hS K hK => ?_) rfl fun a w hS => ?_
    ·refine zL hS rfl rfl rfl hb (mv rfl) rfl fun a w hS => ?_
     refine zL hS rfl rfl rfl hb (yU rfl rfl rfl) rfl fun a w hS => ?_
     exact zc (hK _ _ (hS.up 2 rfl rfl))
    refine qF <| qv hS rfl hM (fun GY hM => ?_) (fun GY hM => ?_)
    ·refine wp_seq ?_
     refine zB <| sA hS rfl fun hS => qF <| wp_ret <| qz ?_
     exact zm (rs := [2]) hS rfl rfl (hret (0 : Int) _ (qV hM) (hS.st.pick [] (by kernel_rfl)))
    ·refine wp_skip ?_
     refine qd <| qp <| sA hS rfl fun hS => qF <| wp_ret ?_
     exact zm (rs := [2]) hS rfl rfl (hret (3 : Int) _ (qV hM) (hS.st.pick [] (by kernel_rfl)))
theorem Qg {H : xR} {F : List qq} {w : World} {R : Ending → World → Prop} {kr : ((List Int) × Int) → Prop} {kp : Value → Prop} (hG : Gl H) (K : Nat) (Gw : List Int) (GE : Option Addr) (GF : Nat) (GI : jm H [] F (ci .i64) GE Gw) (GZ : Gw.length ≤ GF)
    (hS : St w H [] F) (hm : (zl.m K Gw).wp kr kp)
    (hret : ∀ (GU : Option Addr) (GV : Nat) (GL : (List Int)) (GW : qq) (GX : Int) (w : World), kr (GL, GX) → (xa 3 (ci .i64) 1 GU GL GV GW) → St w H [GW] F → R (.returned (.tuple ⟨[.slice GU GL.length GV, .int .i64 GX]⟩)) w) :
    Calls Tryd.prog 27 ⟨[.slice GE Gw.length GF]⟩ w R := by
 refine enter Tryd.func27 rfl Tryd.ntmps27 rfl hS fun a w hS => ?_
 have hM := hm; clear hm
 rw [zl.m] at hM
 refine qp <| sA hS rfl fun hS => ?_
 obtain ⟨La, Lh, hS⟩ := hS.nilV 3 (ci .i64) 1
 refine sA hS rfl fun hS => qF <| qp <| sM hS rfl fun hS => qO hS rfl Tryd.call51 (uX hG K Gw GE GF (GI.app _) GZ (hS.st.part 0 [0] (by kernel_rfl)) (qE hM) (fun Lb w hM  hst => qL hS.ev hst.appF rfl fun hS => ?_))
 replace hS : Ss _ _ _ H [La] F _ _ := hS
 refine sA hS rfl fun hS => qF <| wp_seq <| qp <| sM hS rfl fun hS => sB hS rfl fun hS => qF <| qv hS rfl hM (fun G0 hM => ?_) (fun G0 hM => ?_)
 ·refine wp_seq ?_
  refine zB <| sM hS rfl fun hS => sA hS rfl fun hS => ?_
  obtain ⟨Lc, G1, hS⟩ := hS.nilV 3 (ci .i64) 1
  refine sA hS rfl fun hS => qF <| wp_ret <| qz ?_
  exact zm (rs := [2, 3]) hS rfl rfl (hret none (0) ([] : List Int) Lc Lb _ (qV hM) G1 (hS.st.pick [0] (by kernel_rfl)))
 ·refine wp_skip ?_
  refine qd <| qp <| sM hS rfl fun hS => sO hS (xY rfl Tryd.runUnderlying45) rfl fun hS => ?_
  obtain ⟨G2, hM⟩ := qH hM
  refine Ug (g := (ci .i64)) (m := (Gw.length : Int)) (0 : Int) hS rfl rfl (by simp) Tryd.runUnderlying45 X.el3 (fun w => ⟨_, Tryd.zeroValue3 w, rfl⟩) (fun _ => rfl) rfl rfl G2 rfl fun G3 w Gz GA Ld hz G4 hS => ?_
  have hM := qC hz hM; clear hz
  refine sA hS rfl fun hS => qF <| qp <| sA hS rfl fun hS => qF <| wp_seq <| qp <| sA hS rfl fun hS => qF <| xw <| zk (fun GM a w => ∃ (Gy : (List Int)) (GG : qq) (GB : Int) (Gu : Int), Ss 42 [] [(0, .slice GE Gw.length GF), (5, .slice Gz Gy.length GA), (6, .int .i64 GB), (7, .int .i64 Gu)] H [GG] F a w ∧ (xa 3 (ci .i64) 1 Gz Gy GA GG) ∧ (zl.l1 K Gw GM Gy GB Gu).wp kr kp) K ?_ ?_ ?_
  ·exact ⟨G3, Ld, (0 : Int), (1 : Int), hS.to [0] (by kernel_rfl) ⟨rfl, rfl, rfl, rfl, trivial⟩, G4, hM⟩
  ·intro a w hI; obtain ⟨_, _, _, _, _, _, hM⟩ := hI; exact zj hM
  ·intro GM a w hI Li G5
   obtain ⟨Gy, GG, GB, Gu, hS, GN, hM⟩ := hI
   rw [zl.l1] at hM
   refine wp_seq <| qp <| sM hS rfl fun hS => sB hS rfl fun hS => qF <| qv hS rfl hM (fun G6 hM => ?_) (fun G6 hM => ?_)
   ·refine wp_skip ?_
    refine qd <| wp_seq <| xw <| qp <| sM hS rfl fun hS => sB hS rfl fun hS => zz (v := Value.int .i64) (x0 := (qh (GB * (2 : Int)))) hS (xj rfl) rfl fun GO a w hz hS => ?_
    have hM := qC hz hM; clear hz
    refine qF <| qp <| sA hS rfl fun hS => qF <| xw <| zk (fun GY a w => ∃ (Gx : (List Int)) (GH : qq) (Gv : Int) (GC : Int), Ss 42 [] [(0, .slice GE Gw.length GF), (5, .slice Gz Gx.length GA), (6, .int .i64 Gv), (7, .int .i64 Gu), (8, .int .i64 GC)] H [GH] F a w ∧ (xa 3 (ci .i64) 1 Gz Gx GA GH) ∧ (zl.l2 K (zl.l1 K Gw GM) Gw Gu GY Gx Gv GC).wp kr kp) K ?_ ?_ ?_
    ·exact ⟨Gy, GG, GO, (0 : Int), hS.to [0] (by kernel_rfl) ⟨rfl, rfl, rfl, rfl, rfl, trivial⟩, GN, hM⟩
    ·intro a w hI; obtain ⟨_, _, _, _, _, _, hM⟩ := hI; exact zj hM
    ·intro GY a w hI Lj GP
     obtain ⟨Gx, GH, Gv, GC, hS, GD, hM⟩ := hI
     rw [zl.l2] at hM
     refine wp_seq <| qp <| sM hS rfl fun hS => sM hS rfl fun hS => sO hS (xY rfl Tryd.runUnderlying45) rfl fun hS => sB hS rfl fun hS => qF <| qv hS rfl hM (fun G7 hM => ?_) (fun G7 hM => ?_)
     ·refine wp_skip ?_
      refine qd <| wp_seq <| xw <| qp <| sM hS rfl fun hS => sM hS rfl fun hS => ?_
      obtain ⟨GQ, hM⟩ := qH hM
      refine sO hS (xM rfl rfl Tryd.runUnderlying45 Tryd.sizeOf3 GI.wk (fun _ => rfl) rfl GQ) rfl fun hS => sO hS (yd rfl GI.wk (fun _ => rfl) GQ rfl Tryd.isAgg3) rfl fun hS => sM hS rfl fun hS => sB hS rfl fun hS => qF <| qv hS rfl hM (fun G8 hM => ?_) (fun G8 hM => ?_)
      ·refine wp_seq ?_
       refine zB <| sM hS rfl fun hS => sM hS rfl fun hS => sM hS rfl fun hS => ?_
       obtain ⟨GR, hM⟩ := qH hM
       refine sO hS (xM rfl rfl Tryd.runUnderlying45 Tryd.sizeOf3 (GD.rd (i := 0) rfl) (fun _ => rfl) rfl GR) rfl fun hS => Xk (i := GC) (sz := 1) 0 0 (Gv) hS rfl rfl GD rfl Tryd.sizeOf3 (xF Gv) (fun _ => rfl) GR rfl rfl fun GJ w Le hz GS G9 hS => ?_
       have hM := qC hz hM; clear hz
       replace hS := hS.re 5 (u := .slice Gz Gx.length GA) (v := .slice Gz GJ.length GA) rfl (by rw [GS])
       replace hS := hS.re 35 (u := .slice Gz Gx.length GA) (v := .slice Gz GJ.length GA) rfl (by rw [GS])
       refine qF <| zB <| sM hS rfl fun hS => sB hS rfl fun hS => zz (v := Value.int .i64) (x0 := (qh (Gv + (1 : Int)))) hS (xj rfl) rfl fun GT a w hz hS => ?_
       have hM := qC hz hM; clear hz
       refine zc <| zr (qd ?_)
       refine zB <| sM hS rfl fun hS => sB hS rfl fun hS => zz (v := Value.int .i64) (x0 := (qh (GC + (1 : Int)))) hS (xj rfl) rfl fun Lf a w hz hS => ?_
       have hM := qC hz hM; clear hz
       refine zc <| qd ?_
       exact GP _ _ ⟨GJ, Le, GT, Lf, hS.to [0] (by kernel_rfl) ⟨rfl, rfl, rfl, rfl, rfl, trivial⟩, G9, hM⟩
      ·refine wp_skip ?_
       refine zr (qd ?_)
       refine zB <| sM hS rfl fun hS => sB hS rfl fun hS => zz (v := Value.int .i64) (x0 := (qh (GC + (1 : Int)))) hS (xj rfl) rfl fun Lg a w hz hS => ?_
       have hM := qC hz hM; clear hz
       refine zc <| qd ?_
       exact GP _ _ ⟨Gx, GH, Gv, Lg, hS.to [0] (by kernel_rfl) ⟨rfl, rfl, rfl, rfl, rfl, trivial⟩, GD, hM⟩
     ·refine wp_exit ?_
      refine qB (qB (qY (zr (qd ?_))))
      refine zB <| sM hS rfl fun hS => sB hS rfl fun hS => zz (v := Value.int .i64) (x0 := (qh (Gu + (1 : Int)))) hS (xj rfl) rfl fun GK a w hz hS => ?_
      have hM := qC hz hM; clear hz
      refine zc <| qd ?_
      exact G5 _ _ ⟨Gx, GH, Gv, GK, hS.to [0] (by kernel_rfl) ⟨rfl, rfl, rfl, rfl, trivial⟩, GD, hM⟩
   ·refine wp_exit ?_
    refine qB (qB (qY (qd ?_)))
    refine qp <| sM hS rfl fun hS => sA hS rfl fun hS => sA hS rfl fun hS => qF <| wp_ret ?_
    exact zm (rs := [2, 3]) hS rfl rfl (hret Gz GA Gy GG (0 : Int) _ (qV hM) GN (hS.st.pick [0] (by kernel_rfl)))
theorem yh {H : xR} {F : List qq} {w : World} {R : Ending → World → Prop} {kr : ((List Int) × Bool) → Prop} {kp : Value → Prop} (hG : Gl H) (K : Nat) (Gu : List Int) (Gv : Option Addr) (Gw : Nat) (GH : jm H [] F (ci .i64) Gv Gu) (GI : Gu.length ≤ Gw)
    (hS : St w H [] F) (hm : (xE.m K Gu).wp kr kp)
    (hret : ∀ (GB : Option Addr) (GC : Nat) (Gx : (List Int)) (GD : qq) (GE : Bool) (w : World), kr (Gx, GE) → (xa 3 (ci .i64) 1 GB Gx GC GD) → St w H [GD] F → R (.returned (.tuple ⟨[.agg ⟨[.slice Gv Gu.length Gw, .slice GB Gx.length GC]⟩, .bool GE]⟩)) w) :
    Calls Tryd.prog 63 ⟨[.slice Gv Gu.length Gw]⟩ w R := by
 refine enter Tryd.func63 rfl Tryd.ntmps63 rfl hS fun a w hS => ?_
 have hM := hm; clear hm
 rw [xE.m] at hM
 refine qp <| Qs ([.slice none 0 0, .slice none 0 0]) hS Tryd.zeroValue121 rfl rfl fun w GS GL GJ hS => ?_
 obtain ⟨GM, GQ, hS⟩ := hS.nilV 3 (ci .i64) 1
 obtain ⟨GN, GR, hS⟩ := hS.nilV 3 (ci .i64) 1
 refine sA hS rfl fun hS => qF <| qp <| sM hS rfl fun hS => qO hS rfl Tryd.call27 (Qg hG K Gu Gv Gw (GH.app _) GI (hS.st.part 0 [0, 1, 2] (by kernel_rfl)) (qE hM) (fun Gy Gz GA GF GO w hM GP hst => qL hS.ev hst.appF rfl fun hS => ?_))
 replace hS : Ss _ _ _ H [GF, GN, GM, GL] F _ _ := hS
 refine sM hS rfl fun hS => sO hS (ex rfl rfl) rfl fun hS => sO hS (ex rfl rfl) rfl fun hS => sA hS rfl fun hS => sA hS rfl fun hS => qF <| qp <| sM hS rfl fun hS => sM hS rfl fun hS => sO hS (Zx ([.slice Gv Gu.length Gw, .slice Gy GA.length Gz]) [(0, 1), (1, 1)] Tryd.zeroValue121 Tryd.runUnderlying121 (by intro w; simp [Tryd.sizeOf45]) rfl rfl) rfl fun hS => sM hS rfl fun hS => sB hS rfl fun hS => uz 3 ([.slice Gv Gu.length Gw, .slice Gy GA.length Gz]) ([.slice Gv Gu.length Gw, .slice Gy GA.length Gz]) hS rfl rfl GJ rfl rfl Tryd.sizeOf121 (by simp [Value.oneCell']) (Nat.le_of_ble_eq_true rfl) rfl fun w GT GK hS => zz (v := Value.bool) (x0 := (GO == (0 : Int))) hS (xj rfl) rfl fun GG a w hz hS => ?_
 have hM := qC hz hM; clear hz
 refine qF <| wp_ret ?_
 exact yC (vs := [.agg ⟨[.slice Gv Gu.length Gw, .slice Gy GA.length Gz]⟩, .bool GG]) hS rfl (by exact ⟨YW 3 ([.slice Gv Gu.length Gw, .slice Gy GA.length Gz]) rfl GK rfl rfl rfl Tryd.isAgg121 Tryd.sizeOf121, ZI rfl, trivial⟩) (hret Gy Gz GA GF GG _ (qV hM) GP (hS.st.pick [0] (by kernel_rfl)))
theorem jl {H : xR} {F : List qq} {w : World} {R : Ending → World → Prop} {kr : (Int × Int × Int) → Prop} {kp : Value → Prop} (hG : Gl H) (K : Nat) (Gw : List Int) (Gv : List Int) (Gy : qm) (GB : Option Addr) (GE : Nat) (GH : Option Addr) (GK : Nat) (GD : Nat) (GV : qq) (GF : jm H [] F (ci .i64) GB Gw) (Lw : Gw.length ≤ GE) (GM : jm H [] F (ci .i64) GH Gv) (Lx : Gv.length ≤ GK) (GW : xZ GV GD ([yc Gy.S_, .int .i64 Gy.At_]) 82)
    (hS : St w H [GV] F) (hm : (qM.m K Gw Gv Gy).wp kr kp)
    (hret : ∀ (G2 : Int) (G3 : Int) (GT : Int) (G4 : qq) (w : World), kr (G2, G3, GT) → (xZ G4 GD ([yc Gy.S_, .int .i64 GT]) 82) → St w H [G4] F → R (.returned (.tuple ⟨[.int .i64 G2, .int .i64 G3]⟩)) w) :
    Calls Tryd.prog 88 ⟨[.slice GB Gw.length GE, .slice GH Gv.length GK, qS GD 0]⟩ w R := by
 refine enter Tryd.func88 rfl Tryd.ntmps88 rfl hS fun a w hS => ?_
 have hM := hm; clear hm
 rw [qM.m] at hM
 refine qp <| sA hS rfl fun hS => sA hS rfl fun hS => qF <| qp <| sM hS rfl fun hS => sO hS (yx rfl) rfl fun hS => sO hS (xu rfl Tryd.runUnderlying82 rfl Tryd.sizeOf3 rfl) rfl fun hS => sO hS (xW 0 rfl GW rfl rfl Tryd.isAgg3) rfl fun hS => sA hS rfl fun hS => qF <| qp <| sA hS rfl fun hS => qF <| zg (fun a w => ∃ (GN : Int) (GX : qq), Ss 100 [] [(2, qS GD 0), (8, .int .i64 Gy.At_)] H [GX] F a w ∧ (xZ GX GD ([yc Gy.S_, .int .i64 GN]) 82) ∧ (qM.j4 K Gy GN).wp kr kp) (fun Ly G8 => ?_) ?_
 ·refine wp_seq ?_
  refine zB <| sA hS rfl fun hS => qF <| xw <| zk (fun GU a w => ∃ (GC : Int) (GL : qq) (Gz : Int) (Gu : Int), Ss 100 [] [(0, .slice GB Gw.length GE), (1, .slice GH Gv.length GK), (2, qS GD 0), (8, .int .i64 Gy.At_), (9, .int .i64 Gz), (10, .int .i64 Gu)] H [GL] F a w ∧ (xZ GL GD ([yc Gy.S_, .int .i64 GC]) 82) ∧ (qM.l1 K Gw Gv Gy GU GC Gz Gu).wp kr kp) K ?_ ?_ ?_
  ·exact ⟨Gy.At_, GV, (0 : Int), (0 : Int), hS.to [0] (by kernel_rfl) ⟨rfl, rfl, rfl, rfl, rfl, rfl, trivial⟩, GW, hM⟩
  ·intro a w hI; obtain ⟨_, _, _, _, _, _, hM⟩ := hI; exact zj hM
  ·intro GU a w hI Lz G9
   obtain ⟨GC, GL, Gz, Gu, hS, GO, hM⟩ := hI
   rw [qM.l1] at hM
   refine wp_seq <| qp <| sM hS rfl fun hS => sB hS rfl fun hS => qF <| qv hS rfl hM (fun La hM => ?_) (fun La hM => ?_)
   ·refine wp_skip ?_
    refine qd <| wp_seq <| xw <| qp <| sA hS rfl fun hS => qF <| zg (fun a w => ∃ (GI : Bool), Ss 100 [] [(0, .slice GB Gw.length GE), (1, .slice GH Gv.length GK), (2, qS GD 0), (8, .int .i64 Gy.At_), (9, .int .i64 Gz), (10, .int .i64 Gu), (11, .bool GI)] H [GL] F a w ∧ (qM.j3 K (qM.l1 K Gw Gv Gy GU) Gy GC Gz Gu GI).wp kr kp) (fun LA Lb => ?_) ?_
    ·refine wp_seq ?_
     refine zB <| sA hS rfl fun hS => qF <| xw <| zk (fun G5 a w => ∃ (GA : Bool) (Gx : Int), Ss 100 [] [(0, .slice GB Gw.length GE), (1, .slice GH Gv.length GK), (2, qS GD 0), (8, .int .i64 Gy.At_), (9, .int .i64 Gz), (10, .int .i64 Gu), (11, .bool GA), (12, .int .i64 Gx)] H [GL] F a w ∧ (qM.l2 K (qM.l1 K Gw Gv Gy GU) Gw Gv Gy GC Gz Gu G5 GA Gx).wp kr kp) K ?_ ?_ ?_
     ·exact ⟨false, (0 : Int), hS.to [0] (by kernel_rfl) ⟨rfl, rfl, rfl, rfl, rfl, rfl, rfl, rfl, trivial⟩, hM⟩
     ·intro a w hI; obtain ⟨_, _, _, hM⟩ := hI; exact zj hM
     ·intro G5 a w hI LB GQ
      obtain ⟨GA, Gx, hS, hM⟩ := hI
      rw [qM.l2] at hM
      refine wp_seq <| qp <| sM hS rfl fun hS => sM hS rfl fun hS => sO hS (xY rfl Tryd.runUnderlying45) rfl fun hS => sB hS rfl fun hS => qF <| qv hS rfl hM (fun Lc hM => ?_) (fun Lc hM => ?_)
      ·refine wp_skip ?_
       refine qd <| wp_seq <| xw <| wp_seq <| qp <| sM hS rfl fun hS => sM hS rfl fun hS => ?_
       obtain ⟨GG, hM⟩ := qH hM
       refine sO hS (xM rfl rfl Tryd.runUnderlying45 Tryd.sizeOf3 GF.wk (fun _ => rfl) rfl GG) rfl fun hS => sO hS (yd rfl GF.wk (fun _ => rfl) GG rfl Tryd.isAgg3) rfl fun hS => sM hS rfl fun hS => sB hS rfl fun hS => sM hS rfl fun hS => yo 2 true 35 (b := ((rd Gw Gx) == Gu)) (r := (decide (Gu > (0 : Int)))) hS rfl rfl rfl rfl rfl rfl rfl (fun hb a w hS K hK => ?_) rfl fun a w hS => ?_
       ·refine zL hS rfl rfl rfl hb (mv rfl) rfl fun a w hS => ?_
        refine zL hS rfl rfl rfl hb (yU rfl rfl rfl) rfl fun a w hS => ?_
        exact zc (hK _ _ (hS.up 2 rfl rfl))
       refine sM hS rfl fun hS => ?_
       obtain ⟨Ld, hM⟩ := qH hM
       refine yo 6 true 39 (b := (((rd Gw Gx) == Gu) && (decide (Gu > (0 : Int))))) (r := ((rd Gv Gx) == Gz)) hS rfl rfl rfl rfl rfl rfl rfl (fun hb a w hS K hK => ?_) rfl fun a w hS => ?_
       ·refine zL hS rfl rfl rfl hb (mv rfl) rfl fun a w hS => ?_
        refine zL hS rfl rfl rfl hb (mv rfl) rfl fun a w hS => ?_
        have GY := Yp Ld hb
        refine zL hS rfl rfl rfl hb (xM rfl rfl Tryd.runUnderlying45 Tryd.sizeOf3 GM.wk (fun _ => rfl) rfl GY) rfl fun a w hS => zL hS rfl rfl rfl hb (yd rfl GM.wk (fun _ => rfl) GY rfl Tryd.isAgg3) rfl fun a w hS => zL hS rfl rfl rfl hb (mv rfl) rfl fun a w hS => zL hS rfl rfl rfl hb (yU rfl rfl rfl) rfl fun a w hS => ?_
        exact zc (hK _ _ (hS.up 6 rfl rfl))
       refine qF <| qv hS rfl hM (fun Le hM => ?_) (fun Le hM => ?_)
       ·refine wp_seq ?_
        refine zB <| sM hS rfl fun hS => sA hS rfl fun hS => sA hS rfl fun hS => qF <| wp_ret <| qz (zS (qz (qz (zS (qz (zS (qz (qz (zS (qz ?_))))))))))
        exact zm (rs := [6, 7]) hS rfl rfl (hret Gx (0 : Int) GC GL _ (qV hM) GO (hS.st.pick [0] (by kernel_rfl)))
       ·refine wp_skip ?_
        refine qd <| Uh (b := GA) hM (fun GP hM => ?_) (fun GP hM => ?_)
        ·refine za (vals := [some (.bool true), some (.bool true), some (undef), some (undef), some (undef), some (undef), some (undef), some (undef), some (undef), some (undef), some (undef), some (undef), some (undef), some (undef), some (undef), some (undef), some (undef), some (undef), some (undef), some (undef), some (undef), some (undef), some (undef), some (undef), some (.bool true), some (.bool true)]) hS xp rfl ?_
         intro l w ho hcl hA hst
         refine x3 hA hst ho hcl xo [0, 1, 2, 3, 4, 5, 6, 7, 8, 9, 10, 11, 12, 13, 14, 15, 16, 17, 18, 19, 20, 21, 22, 23, 24, 25] rfl rfl rfl (by exact ⟨nQ rfl (by exact qU (mv rfl) (congrArg Value.bool GP)), nM rfl, nS rfl rfl rfl rfl rfl rfl rfl rfl rfl, nS rfl rfl rfl rfl rfl rfl rfl rfl rfl, nS rfl rfl rfl rfl rfl rfl rfl rfl rfl, nS rfl rfl rfl rfl rfl rfl rfl rfl rfl, nS rfl rfl rfl rfl rfl rfl rfl rfl rfl, nS rfl rfl rfl rfl rfl rfl rfl rfl rfl, nS rfl rfl rfl rfl rfl rfl rfl rfl rfl, nS rfl rfl rfl rfl rfl rfl rfl rfl rfl, nS rfl rfl rfl rfl rfl rfl rfl rfl rfl, nS rfl rfl rfl rfl rfl rfl rfl rfl rfl, nS rfl rfl rfl rfl rfl rfl rfl rfl rfl, nS rfl rfl rfl rfl rfl rfl rfl rfl rfl, nS rfl rfl rfl rfl rfl rfl rfl rfl rfl, nS rfl rfl rfl rfl rfl rfl rfl rfl rfl, nS rfl rfl rfl rfl rfl rfl rfl rfl rfl, nS rfl rfl rfl rfl rfl rfl rfl rfl rfl, nS rfl rfl rfl rfl rfl rfl rfl rfl rfl, nS rfl rfl rfl rfl rfl rfl rfl rfl rfl, nS rfl rfl rfl rfl rfl rfl rfl rfl rfl, nS rfl rfl rfl rfl rfl rfl rfl rfl rfl, nS rfl rfl rfl rfl rfl rfl rfl rfl rfl, nS rfl rfl rfl rfl rfl rfl rfl rfl rfl, nQ rfl (by exact qU (pk rfl rfl rfl) rfl), nA rfl, trivial⟩) fun a w hS => ?_
         replace hS := hS.env2 (e' := [(0, .slice GB Gw.length GE), (1, .slice GH Gv.length GK), (2, qS GD 0), (8, .int .i64 Gy.At_), (9, .int .i64 Gz), (10, .int .i64 Gu), (11, .bool true), (12, .int .i64 Gx)]) ⟨rfl, rfl, rfl, rfl, rfl, rfl, rfl, rfl, trivial⟩
         refine zr (qd ?_)
         refine zB <| sM hS rfl fun hS => sB hS rfl fun hS => zz (v := Value.int .i64) (x0 := (qh (Gx + (1 : Int)))) hS (xj rfl) rfl fun Lm a w hz hS => ?_
         have hM := qC hz hM; clear hz
         refine zc <| qd ?_
         exact GQ _ _ ⟨true, Lm, hS.to [0] (by kernel_rfl) ⟨rfl, rfl, rfl, rfl, rfl, rfl, rfl, rfl, trivial⟩, hM⟩
        ·refine Uh (b := (decide ((rd Gw Gx) > Gu))) hM (fun GR hM => ?_) (fun GR hM => ?_)
         ·obtain ⟨GZ, hM⟩ := qH hM
          obtain ⟨Lf, hM⟩ := qH hM
          obtain ⟨GJ, G0⟩ : ∃ x, x = ((xC .i64 (rd Gv Gx) (wr .u64 (qh ((rd Gw Gx) - Gu)))) == Gz) := ⟨_, rfl⟩
          replace hM := qC G0 hM
          refine za (vals := [some (.bool false), some (.bool false), some (.slice GB Gw.length GE), some (.int .i64 Gx), some (xc GB (Int.toNat Gx * 1)), some (.int .i64 (rd Gw Gx)), some (.int .i64 Gu), some (.bool true), some (.bool true), some (.slice GH Gv.length GK), some (.int .i64 Gx), some (xc GH (Int.toNat Gx * 1)), some (.int .i64 (rd Gv Gx)), some (.slice GB Gw.length GE), some (.int .i64 Gx), some (xc GB (Int.toNat Gx * 1)), some (.int .i64 (rd Gw Gx)), some (.int .i64 Gu), some (.int .i64 (qh ((rd Gw Gx) - Gu))), some (.int .u64 (wr .u64 (qh ((rd Gw Gx) - Gu)))), some (.int .i64 (xC .i64 (rd Gv Gx) (wr .u64 (qh ((rd Gw Gx) - Gu))))), some (.int .i64 Gz), some (.bool ((xC .i64 (rd Gv Gx) (wr .u64 (qh ((rd Gw Gx) - Gu)))) == Gz)), some (.bool ((xC .i64 (rd Gv Gx) (wr .u64 (qh ((rd Gw Gx) - Gu)))) == Gz)), some (.bool ((xC .i64 (rd Gv Gx) (wr .u64 (qh ((rd Gw Gx) - Gu)))) == Gz)), some (.bool GJ)]) hS xp rfl ?_
          intro l w ho hcl hA hst
          refine x3 hA hst ho hcl xo [0, 1, 2, 3, 4, 5, 6, 7, 8, 9, 10, 11, 12, 13, 14, 15, 16, 17, 18, 19, 20, 21, 22, 23, 24, 25] rfl rfl rfl (by exact ⟨nQ rfl (by exact qU (mv rfl) (congrArg Value.bool GP)), nM rfl, nW rfl rfl rfl rfl rfl rfl rfl rfl (by exact qU (mv rfl) rfl), nW rfl rfl rfl rfl rfl rfl rfl rfl (by exact qU (mv rfl) rfl), nW rfl rfl rfl rfl rfl rfl rfl rfl (by exact qU (xM rfl rfl Tryd.runUnderlying45 Tryd.sizeOf3 GF.wk (fun _ => rfl) rfl GG) rfl), nW rfl rfl rfl rfl rfl rfl rfl rfl (by exact qU (yd rfl GF.wk (fun _ => rfl) GG rfl Tryd.isAgg3) rfl), nW rfl rfl rfl rfl rfl rfl rfl rfl (by exact qU (mv rfl) rfl), nW rfl rfl rfl rfl rfl rfl rfl rfl (by exact qU (yU rfl rfl rfl) (congrArg Value.bool GR)), nW rfl rfl rfl rfl rfl rfl rfl rfl (by exact qU (mv rfl) rfl), nW rfl rfl rfl rfl rfl rfl rfl rfl (by exact qU (mv rfl) rfl), nW rfl rfl rfl rfl rfl rfl rfl rfl (by exact qU (mv rfl) rfl), nW rfl rfl rfl rfl rfl rfl rfl rfl (by exact qU (xM rfl rfl Tryd.runUnderlying45 Tryd.sizeOf3 GM.wk (fun _ => rfl) rfl GZ) rfl), nW rfl rfl rfl rfl rfl rfl rfl rfl (by exact qU (yd rfl GM.wk (fun _ => rfl) GZ rfl Tryd.isAgg3) rfl), nW rfl rfl rfl rfl rfl rfl rfl rfl (by exact qU (mv rfl) rfl), nW rfl rfl rfl rfl rfl rfl rfl rfl (by exact qU (mv rfl) rfl), nW rfl rfl rfl rfl rfl rfl rfl rfl (by exact qU (xM rfl rfl Tryd.runUnderlying45 Tryd.sizeOf3 GF.wk (fun _ => rfl) rfl GG) rfl), nW rfl rfl rfl rfl rfl rfl rfl rfl (by exact qU (yd rfl GF.wk (fun _ => rfl) GG rfl Tryd.isAgg3) rfl), nW rfl rfl rfl rfl rfl rfl rfl rfl (by exact qU (mv rfl) rfl), nW rfl rfl rfl rfl rfl rfl rfl rfl (by exact qU (yU rfl rfl rfl) rfl), nW rfl rfl rfl rfl rfl rfl rfl rfl (by exact qU (vZ rfl Tryd.runUnderlying3 Tryd.runUnderlying39) rfl), nW rfl rfl rfl rfl rfl rfl rfl rfl (by exact qU (shr rfl rfl Lf) rfl), nW rfl rfl rfl rfl rfl rfl rfl rfl (by exact qU (mv rfl) rfl), nW rfl rfl rfl rfl rfl rfl rfl rfl (by exact qU (yU rfl rfl rfl) rfl), nW rfl rfl rfl rfl rfl rfl rfl rfl (by exact qU (pk rfl rfl rfl) rfl), nQ rfl (by exact qU (pk rfl rfl rfl) rfl), nQ rfl (by exact qU (xj rfl) (congrArg (Value.bool) G0.symm)), trivial⟩) fun a w hS => ?_
          replace hS := hS.env2 (e' := [(0, .slice GB Gw.length GE), (1, .slice GH Gv.length GK), (2, qS GD 0), (8, .int .i64 Gy.At_), (9, .int .i64 Gz), (10, .int .i64 Gu), (11, .bool GJ), (12, .int .i64 Gx)]) ⟨rfl, rfl, rfl, rfl, rfl, rfl, rfl, rfl, trivial⟩
          refine zr (qd ?_)
          refine zB <| sM hS rfl fun hS => sB hS rfl fun hS => zz (v := Value.int .i64) (x0 := (qh (Gx + (1 : Int)))) hS (xj rfl) rfl fun Ln a w hz hS => ?_
          have hM := qC hz hM; clear hz
          refine zc <| qd ?_
          exact GQ _ _ ⟨GJ, Ln, hS.to [0] (by kernel_rfl) ⟨rfl, rfl, rfl, rfl, rfl, rfl, rfl, rfl, trivial⟩, hM⟩
         ·refine za (vals := [some (.bool false), some (.bool false), some (.slice GB Gw.length GE), some (.int .i64 Gx), some (xc GB (Int.toNat Gx * 1)), some (.int .i64 (rd Gw Gx)), some (.int .i64 Gu), some (.bool false), some (.bool false), some (undef), some (undef), some (undef), some (undef), some (undef), some (undef), some (undef), some (undef), some (undef), some (undef), some (undef), some (undef), some (undef), some (undef), some (.bool false), some (.bool false), some (.bool false)]) hS xp rfl ?_
          intro l w ho hcl hA hst
          refine x3 hA hst ho hcl xo [0, 1, 2, 3, 4, 5, 6, 7, 8, 9, 10, 11, 12, 13, 14, 15, 16, 17, 18, 19, 20, 21, 22, 23, 24, 25] rfl rfl rfl (by exact ⟨nQ rfl (by exact qU (mv rfl) (congrArg Value.bool GP)), nM rfl, nW rfl rfl rfl rfl rfl rfl rfl rfl (by exact qU (mv rfl) rfl), nW rfl rfl rfl rfl rfl rfl rfl rfl (by exact qU (mv rfl) rfl), nW rfl rfl rfl rfl rfl rfl rfl rfl (by exact qU (xM rfl rfl Tryd.runUnderlying45 Tryd.sizeOf3 GF.wk (fun _ => rfl) rfl GG) rfl), nW rfl rfl rfl rfl rfl rfl rfl rfl (by exact qU (yd rfl GF.wk (fun _ => rfl) GG rfl Tryd.isAgg3) rfl), nW rfl rfl rfl rfl rfl rfl rfl rfl (by exact qU (mv rfl) rfl), nW rfl rfl rfl rfl rfl rfl rfl rfl (by exact qU (yU rfl rfl rfl) (congrArg Value.bool GR)), nW rfl rfl rfl rfl rfl rfl rfl rfl (by exact qU (mv rfl) rfl), nS rfl rfl rfl rfl rfl rfl rfl rfl rfl, nS rfl rfl rfl rfl rfl rfl rfl rfl rfl, nS rfl rfl rfl rfl rfl rfl rfl rfl rfl, nS rfl rfl rfl rfl rfl rfl rfl rfl rfl, nS rfl rfl rfl rfl rfl rfl rfl rfl rfl, nS rfl rfl rfl rfl rfl rfl rfl rfl rfl, nS rfl rfl rfl rfl rfl rfl rfl rfl rfl, nS rfl rfl rfl rfl rfl rfl rfl rfl rfl, nS rfl rfl rfl rfl rfl rfl rfl rfl rfl, nS rfl rfl rfl rfl rfl rfl rfl rfl rfl, nS rfl rfl rfl rfl rfl rfl rfl rfl rfl, nS rfl rfl rfl rfl rfl rfl rfl rfl rfl, nS rfl rfl rfl rfl rfl rfl rfl rfl rfl, nS rfl rfl rfl rfl rfl rfl rfl rfl rfl, nW rfl rfl rfl rfl rfl rfl rfl rfl (by exact qU (pk rfl rfl rfl) rfl), nQ rfl (by exact qU (pk rfl rfl rfl) rfl), nA rfl, trivial⟩) fun a w hS => ?_
          replace hS := hS.env2 (e' := [(0, .slice GB Gw.length GE), (1, .slice GH Gv.length GK), (2, qS GD 0), (8, .int .i64 Gy.At_), (9, .int .i64 Gz), (10, .int .i64 Gu), (11, .bool false), (12, .int .i64 Gx)]) ⟨rfl, rfl, rfl, rfl, rfl, rfl, rfl, rfl, trivial⟩
          refine zr (qd ?_)
          refine zB <| sM hS rfl fun hS => sB hS rfl fun hS => zz (v := Value.int .i64) (x0 := (qh (Gx + (1 : Int)))) hS (xj rfl) rfl fun Lo a w hz hS => ?_
          have hM := qC hz hM; clear hz
          refine zc <| qd ?_
          exact GQ _ _ ⟨false, Lo, hS.to [0] (by kernel_rfl) ⟨rfl, rfl, rfl, rfl, rfl, rfl, rfl, rfl, trivial⟩, hM⟩
      ·refine wp_exit ?_
       refine qB (qB (qY (qd ?_)))
       exact Lb _ _ ⟨GA, hS.to [0] (by kernel_rfl) ⟨rfl, rfl, rfl, rfl, rfl, rfl, rfl, trivial⟩, hM⟩
    ·intro a w hI
     obtain ⟨GI, hS, hM⟩ := hI
     rw [qM.j3] at hM
     refine wp_seq <| qp <| sM hS rfl fun hS => sO hS (un rfl rfl) rfl fun hS => qF <| qv hS rfl hM (fun Lg hM => ?_) (fun Lg hM => ?_)
     ·refine wp_seq ?_
      refine zB <| sM hS rfl fun hS => sM hS rfl fun hS => sO hS (yx rfl) rfl fun hS => sO hS (xu rfl Tryd.runUnderlying82 rfl Tryd.sizeOf3 rfl) rfl fun hS => Uk 0 ([yc Gy.S_, .int .i64 Gy.At_]) hS rfl rfl GO rfl rfl rfl rfl Tryd.sizeOf3 fun w Lp Lh hS => qF <| qp <| sA hS rfl fun hS => sA hS rfl fun hS => qF <| wp_ret <| qz (zS (qz (qz (zS (qz ?_)))))
      exact zm (rs := [6, 7]) hS rfl rfl (hret (0 : Int) (3 : Int) Gy.At_ Lp _ (qV hM) Lh (hS.st.pick [0] (by kernel_rfl)))
     ·refine wp_skip ?_
      refine qd <| qp <| sM hS rfl fun hS => qO hS rfl Tryd.call86 (y8 hG K (qm.mk Gy.S_ GC) (1 : Int) GD GL GO (hS.st.part 1 [0] (by kernel_rfl)) (qE hM) (fun Lq Lr G1 G6 w hM G7 hst => qL hS.ev hst.appF rfl fun hS => ?_))
      replace hS : Ss _ _ _ H [G6] F _ _ := hS
      refine sM hS rfl fun hS => sO hS (ex rfl rfl) rfl fun hS => sO hS (ex rfl rfl) rfl fun hS => sA hS rfl fun hS => sA hS rfl fun hS => qF <| wp_seq <| qp <| sM hS rfl fun hS => sB hS rfl fun hS => qF <| qv hS rfl hM (fun Li hM => ?_) (fun Li hM => ?_)
      ·refine wp_seq ?_
       refine zB <| sM hS rfl fun hS => sM hS rfl fun hS => sO hS (yx rfl) rfl fun hS => sO hS (xu rfl Tryd.runUnderlying82 rfl Tryd.sizeOf3 rfl) rfl fun hS => Uk 0 ([yc Gy.S_, .int .i64 Gy.At_]) hS rfl rfl G7 rfl rfl rfl rfl Tryd.sizeOf3 fun w Lt Lj hS => qF <| qp <| sM hS rfl fun hS => sA hS rfl fun hS => sA hS rfl fun hS => qF <| wp_ret <| qz (zS (qz (qz (zS (qz ?_)))))
       exact zm (rs := [6, 7]) hS rfl rfl (hret (0 : Int) Lr Gy.At_ Lt _ (qV hM) Lj (hS.st.pick [0] (by kernel_rfl)))
      ·refine wp_skip ?_
       refine qd <| zB <| sM hS rfl fun hS => sB hS rfl fun hS => sM hS rfl fun hS => sO hS (vZ rfl Tryd.runUnderlying53 Tryd.runUnderlying3) rfl fun hS => sB hS rfl fun hS => zz (v := Value.int .i64) (x0 := (qh ((qh ((2 : Int) * Gz)) + (wr .i64 Lq)))) hS (xj rfl) rfl fun Lu a w hz hS => ?_
       have hM := qC hz hM; clear hz
       refine zc <| zr (qd ?_)
       refine zB <| sM hS rfl fun hS => sB hS rfl fun hS => zz (v := Value.int .i64) (x0 := (qh (Gu + (1 : Int)))) hS (xj rfl) rfl fun GS a w hz hS => ?_
       have hM := qC hz hM; clear hz
       refine zc <| qd ?_
       exact G9 _ _ ⟨G1, G6, Lu, GS, hS.to [0] (by kernel_rfl) ⟨rfl, rfl, rfl, rfl, rfl, rfl, trivial⟩, G7, hM⟩
   ·refine wp_exit ?_
    refine qB (qB (qY (qd ?_)))
    exact G8 _ _ ⟨GC, GL, hS.to [0] (by kernel_rfl) ⟨rfl, rfl, trivial⟩, GO, hM⟩
 ·intro a w hI
  obtain ⟨GN, GX, hS, Lk, hM⟩ := hI
  rw [qM.j4] at hM
  refine qp <| sM hS rfl fun hS => sM hS rfl fun hS => sO hS (yx rfl) rfl fun hS => sO hS (xu rfl Tryd.runUnderlying82 rfl Tryd.sizeOf3 rfl) rfl fun hS => Uk 0 ([yc Gy.S_, .int .i64 Gy.At_]) hS rfl rfl Lk rfl rfl rfl rfl Tryd.sizeOf3 fun w Lv Ll hS => qF <| qp <| sA hS rfl fun hS => sA hS rfl fun hS => qF <| wp_ret ?_
  exact zm (rs := [6, 7]) hS rfl rfl (hret (0 : Int) (3 : Int) Gy.At_ Lv _ (qV hM) Ll (hS.st.pick [0] (by kernel_rfl)))
theorem uS {H : xR} {F : List qq} {w : World} {R : Ending → World → Prop} {kr : (Int × Int) → Prop} {kp : Value → Prop} (hG : Gl H) (K : Nat) (Gu : Int)
    (hS : St w H [] F) (hm : (yp.m K Gu).wp kr kp)
    (hret : ∀ (Gx : Int) (Gy : Int) (w : World), kr (Gx, Gy) → St w H [] F → R (.returned (.tuple ⟨[.int .i64 Gx, .int .i64 Gy]⟩)) w) :
    Calls Tryd.prog 32 ⟨[.int .i64 Gu]⟩ w R := by
 refine enter Tryd.func32 rfl Tryd.ntmps32 rfl hS fun a w hS => ?_
 have hM := hm; clear hm
 rw [yp.m] at hM
 refine qp <| sA hS rfl fun hS => sA hS rfl fun hS => qF <| wp_seq <| qp <| sM hS rfl fun hS => sB hS rfl fun hS => qF <| qv hS rfl hM (fun Gz hM => ?_) (fun Gz hM => ?_)
 ·refine wp_seq ?_
  refine zB <| sA hS rfl fun hS => sA hS rfl fun hS => qF <| wp_ret <| qz ?_
  exact zm (rs := [2, 3]) hS rfl rfl (hret (258 : Int) (0 : Int) _ (qV hM) (hS.st.pick [] (by kernel_rfl)))
 ·refine wp_skip ?_
  refine qd <| qp <| sM hS rfl fun hS => sB hS rfl fun hS => zz (v := Value.int .i64) (x0 := (qh (Gu - (257 : Int)))) hS (xj rfl) rfl fun Gw a w hz hS => ?_
  have hM := qC hz hM; clear hz
  refine qF <| wp_seq <| qp <| sM hS rfl fun hS => sB hS rfl fun hS => qF <| qv hS rfl hM (fun GA hM => ?_) (fun GA hM => ?_)
  ·refine wp_seq ?_
   refine zB <| sM hS rfl fun hS => sB hS rfl fun hS => zz (v := Value.int .i64) (x0 := (qh ((3 : Int) + Gw))) hS (xj rfl) rfl fun GC a w hz hS => ?_
   have hM := qC hz hM; clear hz
   refine sA hS rfl fun hS => qF <| wp_ret <| qz ?_
   exact zm (rs := [2, 3]) hS rfl rfl (hret GC (0 : Int) _ (qV hM) (hS.st.pick [] (by kernel_rfl)))
  ·refine wp_skip ?_
   refine qd <| qp <| sM hS rfl fun hS => sO hS (quo rfl rfl rfl) rfl fun hS => sB hS rfl fun hS => zz (v := Value.int .i64) (x0 := (qh ((yY .i64 Gw (4 : Int)) - (1 : Int)))) hS (xj rfl) rfl fun Gv a w hz hS => ?_
   have hM := qC hz hM; clear hz
   refine qF <| qp <| sM hS rfl fun hS => sO hS (rem rfl rfl rfl) rfl fun hS => sB hS rfl fun hS => sM hS rfl fun hS => sO hS (vZ rfl Tryd.runUnderlying3 Tryd.runUnderlying39) rfl fun hS => ?_
   obtain ⟨GB, hM⟩ := qH hM
   refine sO hS (shl rfl rfl GB) rfl fun hS => sB hS rfl fun hS => sM hS rfl fun hS => zz (v := Value.int .i64) (x0 := (qh ((3 : Int) + (xz .i64 (qh ((4 : Int) + (v3 Gw (4 : Int)))) (wr .u64 Gv))))) hS (xj rfl) rfl fun GD a w hz hS => ?_
   have hM := qC hz hM; clear hz
   refine sA hS rfl fun hS => qF <| wp_ret ?_
   exact zm (rs := [2, 3]) hS rfl rfl (hret GD Gv _ (qV hM) (hS.st.pick [] (by kernel_rfl)))
theorem uk {H : xR} {F : List qq} {w : World} {R : Ending → World → Prop} {kr : (Int × Int) → Prop} {kp : Value → Prop} (hG : Gl H) (K : Nat) (Gu : Int)
    (hS : St w H [] F) (hm : (x9.m K Gu).wp kr kp)
    (hret : ∀ (Gw : Int) (Gx : Int) (w : World), kr (Gw, Gx) → St w H [] F → R (.returned (.tuple ⟨[.int .i64 Gw, .int .i64 Gx]⟩)) w) :
    Calls Tryd.prog 33 ⟨[.int .i64 Gu]⟩ w R := by
 refine enter Tryd.func33 rfl Tryd.ntmps33 rfl hS fun a w hS => ?_
 have hM := hm; clear hm
 rw [x9.m] at hM
 refine qp <| sA hS rfl fun hS => sA hS rfl fun hS => qF <| wp_seq <| qp <| sM hS rfl fun hS => sB hS rfl fun hS => qF <| qv hS rfl hM (fun Gy hM => ?_) (fun Gy hM => ?_)
 ·refine wp_seq ?_
  refine zB <| sM hS rfl fun hS => sB hS rfl fun hS => zz (v := Value.int .i64) (x0 := (qh ((1 : Int) + Gu))) hS (xj rfl) rfl fun GA a w hz hS => ?_
  have hM := qC hz hM; clear hz
  refine sA hS rfl fun hS => qF <| wp_ret <| qz ?_
  exact zm (rs := [2, 3]) hS rfl rfl (hret GA (0 : Int) _ (qV hM) (hS.st.pick [] (by kernel_rfl)))
 ·refine wp_skip ?_
  refine qd <| qp <| sM hS rfl fun hS => sO hS (quo rfl rfl rfl) rfl fun hS => sB hS rfl fun hS => zz (v := Value.int .i64) (x0 := (qh ((yY .i64 Gu (2 : Int)) - (1 : Int)))) hS (xj rfl) rfl fun Gv a w hz hS => ?_
  have hM := qC hz hM; clear hz
  refine qF <| qp <| sM hS rfl fun hS => sO hS (rem rfl rfl rfl) rfl fun hS => sB hS rfl fun hS => sM hS rfl fun hS => sO hS (vZ rfl Tryd.runUnderlying3 Tryd.runUnderlying39) rfl fun hS => ?_
  obtain ⟨Gz, hM⟩ := qH hM
  refine sO hS (shl rfl rfl Gz) rfl fun hS => sB hS rfl fun hS => sM hS rfl fun hS => zz (v := Value.int .i64) (x0 := (qh ((1 : Int) + (xz .i64 (qh ((2 : Int) + (v3 Gu (2 : Int)))) (wr .u64 Gv))))) hS (xj rfl) rfl fun GB a w hz hS => ?_
  have hM := qC hz hM; clear hz
  refine sA hS rfl fun hS => qF <| wp_ret ?_
  exact zm (rs := [2, 3]) hS rfl rfl (hret GB Gv _ (qV hM) (hS.st.pick [] (by kernel_rfl)))
theorem vw {H : xR} {F : List qq} {w : World} {R : Ending → World → Prop} {kr : (Int × Int × (List Int)) → Prop} {kp : Value → Prop} (hG : Gl H) (K : Nat) (Gx : qu) (GI : Int) (Gw : zx) (Gv : Nat) (GB : qq) (GH : Nat) (GX : qq) (GF : Option Addr) (GG : Nat) (GC : qq) (GM : Option Addr) (GN : Nat) (GO : Option Addr) (GP : Nat) (GA : xZ GB Gv ([qS GH 0, .slice GF Gx.out_.length GG, .int .i64 Gx.limit_]) 84) (Lb : xZ GX GH ([yc Gx.r_.S_, .int .i64 Gx.r_.At_]) 82) (GE : xa 5 (ci .u8) 1 GF Gx.out_ GG GC) (Lo : jm H [] F (ci .i64) GM Gw.l_) (Lp : Gw.l_.length ≤ GN) (Lq : jm H [] F (ci .i64) GO Gw.codes_) (Lr : Gw.codes_.length ≤ GP)
    (hS : St w H [GB, GX, GC] F) (hm : (zM.m K Gx GI Gw).wp kr kp)
    (hret : ∀ (Lg : Int) (G3 : Int) (Lh : qq) (Li : Option Addr) (Lj : Nat) (GU : (List Int)) (Lk : qq) (Ll : qq) (w : World), kr (Lg, G3, GU) → (xZ Lh GH ([yc Gx.r_.S_, .int .i64 G3]) 82) → (xa 5 (ci .u8) 1 Li GU Lj Lk) → (xZ Ll Gv ([qS GH 0, .slice Li GU.length Lj, .int .i64 Gx.limit_]) 84) → St w H [Ll, Lh, Lk] F → R (.returned (.int .i64 Lg)) w) :
    Calls Tryd.prog 89 ⟨[qS Gv 0, .int .i64 GI, .agg ⟨[.slice GM Gw.l_.length GN, .slice GO Gw.codes_.length GP]⟩]⟩ w R := by
 refine enter Tryd.func89 rfl Tryd.ntmps89 rfl hS fun a w hS => ?_
 have hM := hm; clear hm
 rw [zM.m] at hM
 refine qp <| bx ([.slice GM Gw.l_.length GN, .slice GO Gw.codes_.length GP]) hS rfl rfl rfl fun w G4 GY Lc hS => sA hS rfl fun hS => qF <| wp_seq <| qp <| sM hS rfl fun hS => sB hS rfl fun hS => qF <| qv hS rfl hM (fun Lt hM => ?_) (fun Lt hM => ?_)
 ·refine wp_seq ?_
  refine zB <| sA hS rfl fun hS => qF <| wp_ret <| qz ?_
  exact zm (rs := [6]) hS rfl rfl (hret (3 : Int) Gx.r_.At_ GX GF GG Gx.out_ GC GB _ (qV hM) Lb GE GA (hS.st.pick [1, 2, 3] (by kernel_rfl)))
 ·refine wp_skip ?_
  refine qd <| qp <| sM hS rfl fun hS => qO hS rfl Tryd.call32 (uS hG K GI (hS.st.part 0 [0, 1, 2, 3] (by kernel_rfl)) (qE hM) (fun LG LH w hM  hst => qL hS.ev hst.appF rfl fun hS => ?_))
  replace hS : Ss _ _ _ H [GY, GB, GX, GC] F _ _ := hS
  refine sM hS rfl fun hS => sO hS (ex rfl rfl) rfl fun hS => sO hS (ex rfl rfl) rfl fun hS => sA hS rfl fun hS => sA hS rfl fun hS => qF <| qp <| sM hS rfl fun hS => sM hS rfl fun hS => sM hS rfl fun hS => qO hS rfl Tryd.call61 (zU hG K Gx LH LG Gv GB GH GX GF GG GC GA Lb GE (hS.st.part 3 [1, 2, 3, 0] (by kernel_rfl)) (qE hM) (fun GL LI G5 Ld w hM Lm hst => qL hS.ev hst.appF rfl fun hS => ?_))
  replace hS : Ss _ _ _ H [GB, Ld, GC, GY] F _ _ := hS
  refine sM hS rfl fun hS => sO hS (ex rfl rfl) rfl fun hS => sO hS (ex rfl rfl) rfl fun hS => sA hS rfl fun hS => sA hS rfl fun hS => qF <| wp_seq <| qp <| sM hS rfl fun hS => sB hS rfl fun hS => qF <| qv hS rfl hM (fun Lu hM => ?_) (fun Lu hM => ?_)
  ·refine wp_seq ?_
   refine zB <| sM hS rfl fun hS => sA hS rfl fun hS => qF <| wp_ret <| qz ?_
   exact zm (rs := [6]) hS rfl rfl (hret LI G5 Ld GF GG Gx.out_ GC GB _ (qV hM) Lm GE GA (hS.st.pick [0, 1, 2] (by kernel_rfl)))
  ·refine wp_skip ?_
   refine qd <| wp_seq <| za (vals := [some (qS G4 0), some (.slice GM Gw.l_.length GN), some (qS G4 1), some (.slice GO Gw.codes_.length GP), some (qS Gv 0), some (qS Gv 0), some (qS Gv 0), some (qS GH 0), none, none, none, none, none, none]) hS xp rfl ?_
   intro l w ho hcl hA hst
   refine jn hA hst ho hcl xv xo 8 [0, 1, 2, 3, 4, 5, 6, 7] rfl rfl rfl rfl rfl (by exact ⟨nQ rfl (by exact qU (xu rfl Tryd.runUnderlying121 rfl Tryd.sizeOf45 rfl) rfl), nQ rfl (by exact qU (xW 3 rfl Lc rfl rfl Tryd.isAgg45) rfl), nQ rfl (by exact qU (xu rfl Tryd.runUnderlying121 rfl Tryd.sizeOf45 rfl) rfl), nQ rfl (by exact qU (xW 3 rfl Lc rfl rfl Tryd.isAgg45) rfl), nM rfl, nQ rfl (by exact qU (yx rfl) rfl), nQ rfl (by exact qU (xu rfl Tryd.runUnderlying84 rfl Tryd.sizeOf80 rfl) rfl), nQ rfl (by exact qU (xW 0 rfl GA rfl rfl Tryd.isAgg80) rfl), trivial⟩) fun D l a w ho hcl hav hpre hm hE hk hA hst => ?_
   have hS := (Ss.mk hE hst).env2 (e' := [(37, .slice GM Gw.l_.length GN), (39, .slice GO Gw.codes_.length GP), (43, qS GH 0)]) ⟨rfl, rfl, rfl, trivial⟩
   refine q7 rfl <| qO hS rfl Tryd.call88 (jl hG K Gw.l_ Gw.codes_ (qm.mk Gx.r_.S_ G5) GM GN GO GP GH Ld (Lo.app _) Lp (Lq.app _) Lr Lm (hS.st.part 1 [1, 0, 2, 3] (by kernel_rfl)) (qE hM) (fun GR GS GV GZ w hM Le hst => qL hS.ev hst.appF rfl fun hS => ?_))
   replace hS : Ss _ _ _ H [GZ, GB, GC, GY] F _ _ := hS
   refine qF ?_
   replace hst := hS.st
   obtain ⟨hcl, hmust, hav2, hA⟩ := dn (vals' := [some (qS G4 0), some (.slice GM Gw.l_.length GN), some (qS G4 1), some (.slice GO Gw.codes_.length GP), some (qS Gv 0), some (qS Gv 0), some (qS Gv 0), some (qS GH 0), some (.tuple ⟨[.int .i64 GR, .int .i64 GS]⟩), some (.tuple ⟨[.int .i64 GR, .int .i64 GS]⟩), some (.int .i64 GR), some (.int .i64 GS), some (.int .i64 GR), some (.int .i64 GS)]) 8 [(1, 8), (3, 8), (7, 8), (0, 1), (2, 3), (6, 7), (5, 6), (4, 5)] hA hcl hav hm hpre hk rfl rfl rfl rfl rfl rfl rfl
   clear hm hav
   refine x3 hA hst ho hcl hmust [9, 10, 11, 12, 13] rfl rfl rfl (by exact ⟨nM rfl, nQ rfl (by exact qU (ex rfl rfl) rfl), nQ rfl (by exact qU (ex rfl rfl) rfl), nA rfl, nA rfl, trivial⟩) fun a w hS => ?_
   replace hS := hS.env2 (e' := [(0, qS Gv 0), (9, .int .i64 GL), (11, .int .i64 GR), (12, .int .i64 GS)]) ⟨rfl, rfl, rfl, rfl, trivial⟩
   refine qd <| wp_seq <| qp <| sM hS rfl fun hS => sB hS rfl fun hS => qF <| qv hS rfl hM (fun Lv hM => ?_) (fun Lv hM => ?_)
   ·refine wp_seq ?_
    refine zB <| sM hS rfl fun hS => sA hS rfl fun hS => qF <| wp_ret <| qz ?_
    exact zm (rs := [6]) hS rfl rfl (hret GS GV GZ GF GG Gx.out_ GC GB _ (qV hM) Le GE GA (hS.st.pick [1, 0, 2] (by kernel_rfl)))
   ·refine wp_skip ?_
    refine qd <| wp_seq <| qp <| sM hS rfl fun hS => sB hS rfl fun hS => qF <| qv hS rfl hM (fun Lw hM => ?_) (fun Lw hM => ?_)
    ·refine wp_seq ?_
     refine zB <| sA hS rfl fun hS => qF <| wp_ret <| qz ?_
     exact zm (rs := [6]) hS rfl rfl (hret (3 : Int) GV GZ GF GG Gx.out_ GC GB _ (qV hM) Le GE GA (hS.st.pick [1, 0, 2] (by kernel_rfl)))
    ·refine wp_skip ?_
     refine qd <| qp <| sM hS rfl fun hS => qO hS rfl Tryd.call33 (uk hG K GR (hS.st.part 0 [0, 1, 2, 3] (by kernel_rfl)) (qE hM) (fun LJ LK w hM  hst => qL hS.ev hst.appF rfl fun hS => ?_))
     replace hS : Ss _ _ _ H [GZ, GB, GC, GY] F _ _ := hS
     refine sM hS rfl fun hS => sO hS (ex rfl rfl) rfl fun hS => sO hS (ex rfl rfl) rfl fun hS => sA hS rfl fun hS => sA hS rfl fun hS => qF <| qp <| sM hS rfl fun hS => sM hS rfl fun hS => sM hS rfl fun hS => qO hS rfl Tryd.call61 (zU hG K (qu.mk (qm.mk Gx.r_.S_ GV) Gx.out_ Gx.limit_) LK LJ Gv GB GH GZ GF GG GC GA Le GE (hS.st.part 3 [1, 0, 2, 3] (by kernel_rfl)) (qE hM) (fun Gy LL GJ GT w hM G6 hst => qL hS.ev hst.appF rfl fun hS => ?_))
     replace hS : Ss _ _ _ H [GB, GT, GC, GY] F _ _ := hS
     refine sM hS rfl fun hS => sO hS (ex rfl rfl) rfl fun hS => sO hS (ex rfl rfl) rfl fun hS => sA hS rfl fun hS => sA hS rfl fun hS => qF <| wp_seq <| qp <| sM hS rfl fun hS => sB hS rfl fun hS => qF <| qv hS rfl hM (fun Lx hM => ?_) (fun Lx hM => ?_)
     ·refine wp_seq ?_
      refine zB <| sM hS rfl fun hS => sA hS rfl fun hS => qF <| wp_ret <| qz ?_
      exact zm (rs := [6]) hS rfl rfl (hret LL GJ GT GF GG Gx.out_ GC GB _ (qV hM) G6 GE GA (hS.st.pick [0, 1, 2] (by kernel_rfl)))
     ·refine wp_skip ?_
      refine qd <| wp_seq <| qp <| sM hS rfl fun hS => sM hS rfl fun hS => sO hS (yx rfl) rfl fun hS => sO hS (xu rfl Tryd.runUnderlying84 rfl Tryd.sizeOf38 rfl) rfl fun hS => sO hS (xW 0 rfl GA rfl rfl Tryd.isAgg38) rfl fun hS => sO hS (xY rfl Tryd.runUnderlying38) rfl fun hS => sB hS rfl fun hS => qF <| qv hS rfl hM (fun Ly hM => ?_) (fun Ly hM => ?_)
      ·refine wp_seq ?_
       refine zB <| sA hS rfl fun hS => qF <| wp_ret <| qz ?_
       exact zm (rs := [6]) hS rfl rfl (hret (3 : Int) GJ GT GF GG Gx.out_ GC GB _ (qV hM) G6 GE GA (hS.st.pick [0, 1, 2] (by kernel_rfl)))
      ·refine wp_skip ?_
       refine qd <| wp_seq <| wp_seq <| za (vals := [some (.int .i64 GL), some (qS Gv 0), some (qS Gv 0), some (qS Gv 2), some (.int .i64 Gx.limit_), some (qS Gv 0), some (qS Gv 0), some (qS Gv 1), some (.slice GF Gx.out_.length GG), some (.int .i64 (Gx.out_.length : Int)), some (.int .i64 (qh (Gx.limit_ - (Gx.out_.length : Int)))), some (.bool (decide (GL > (qh (Gx.limit_ - (Gx.out_.length : Int))))))]) hS xp rfl ?_
       intro l w ho hcl hA hst
       refine x3 hA hst ho hcl xo [0, 1, 2, 3, 4, 5, 6, 7, 8, 9, 10, 11] rfl rfl rfl (by exact ⟨nM rfl, nM rfl, nQ rfl (by exact qU (yx rfl) rfl), nQ rfl (by exact qU (xu rfl Tryd.runUnderlying84 rfl Tryd.sizeOf3 rfl) rfl), nQ rfl (by exact qU (xW 0 rfl GA rfl rfl Tryd.isAgg3) rfl), nM rfl, nQ rfl (by exact qU (yx rfl) rfl), nQ rfl (by exact qU (xu rfl Tryd.runUnderlying84 rfl Tryd.sizeOf38 rfl) rfl), nQ rfl (by exact qU (xW 0 rfl GA rfl rfl Tryd.isAgg38) rfl), nQ rfl (by exact qU (xY rfl Tryd.runUnderlying38) rfl), nB rfl, nB rfl, trivial⟩) fun a w hS => ?_
       replace hS := hS.env2 (e' := [(0, qS Gv 0), (9, .int .i64 GL), (15, .int .i64 Gy), (85, .bool (decide (GL > (qh (Gx.limit_ - (Gx.out_.length : Int))))))]) ⟨rfl, rfl, rfl, rfl, trivial⟩
       refine qd <| qv hS rfl hM (fun Lz hM => ?_) (fun Lz hM => ?_)
       ·refine wp_seq ?_
        refine zB <| sA hS rfl fun hS => qF <| wp_ret <| qz ?_
        exact zm (rs := [6]) hS rfl rfl (hret (11 : Int) GJ GT GF GG Gx.out_ GC GB _ (qV hM) G6 GE GA (hS.st.pick [0, 1, 2] (by kernel_rfl)))
       ·refine wp_skip ?_
        refine qd <| wp_seq <| qp <| sA hS rfl fun hS => qF <| xw <| zk (fun Ln a w => ∃ (Gz : Option Addr) (GD : Nat) (Gu : (List Int)) (G7 : qq) (G8 : qq) (G0 : Int), Ss 113 [] [(0, qS Gv 0), (9, .int .i64 GL), (15, .int .i64 Gy), (17, .int .i64 G0)] H [G8, GT, G7] F a w ∧ (xa 5 (ci .u8) 1 Gz Gu GD G7) ∧ (xZ G8 Gv ([qS GH 0, .slice Gz Gu.length GD, .int .i64 Gx.limit_]) 84) ∧ (zM.l1 K GL Gy GJ Ln Gu G0).wp kr kp) K ?_ ?_ ?_
        ·exact ⟨GF, GG, Gx.out_, GC, GB, (0 : Int), hS.to [0, 1, 2] (by kernel_rfl) ⟨rfl, rfl, rfl, rfl, trivial⟩, GE, GA, hM⟩
        ·intro a w hI; obtain ⟨_, _, _, _, _, _, _, _, _, hM⟩ := hI; exact zj hM
        ·intro Ln a w hI LP LA
         obtain ⟨Gz, GD, Gu, G7, G8, G0, hS, GW, GK, hM⟩ := hI
         rw [zM.l1] at hM
         refine wp_seq <| qp <| sM hS rfl fun hS => sM hS rfl fun hS => sB hS rfl fun hS => qF <| qv hS rfl hM (fun LB hM => ?_) (fun LB hM => ?_)
         ·refine wp_skip ?_
          refine qd <| wp_seq <| xw ?_
          obtain ⟨Lf, hM⟩ := qH hM
          refine za (vals := [some (qS Gv 0), some (qS Gv 0), some (qS Gv 0), some (qS Gv 1), some (.slice Gz Gu.length GD), some (qS Gv 0), some (qS Gv 0), some (qS Gv 1), some (.slice Gz Gu.length GD), some (qS Gv 0), some (qS Gv 0), some (qS Gv 1), some (.slice Gz Gu.length GD), some (.int .i64 (Gu.length : Int)), some (.int .i64 Gy), some (.int .i64 (qh ((Gu.length : Int) - Gy))), some (xc Gz (Int.toNat (qh ((Gu.length : Int) - Gy)) * 1)), some (.int .u8 (rd Gu (qh ((Gu.length : Int) - Gy)))), none, none, none, none, none]) hS xp rfl ?_
          intro l w ho hcl hA hst
          refine jn hA hst ho hcl xv xo 18 [0, 1, 2, 3, 4, 5, 6, 7, 8, 9, 10, 11, 12, 13, 14, 15, 16, 17] rfl rfl rfl rfl rfl (by exact ⟨nM rfl, nM rfl, nQ rfl (by exact qU (yx rfl) rfl), nQ rfl (by exact qU (xu rfl Tryd.runUnderlying84 rfl Tryd.sizeOf38 rfl) rfl), nQ rfl (by exact qU (xW 0 rfl GK rfl rfl Tryd.isAgg38) rfl), nM rfl, nQ rfl (by exact qU (yx rfl) rfl), nQ rfl (by exact qU (xu rfl Tryd.runUnderlying84 rfl Tryd.sizeOf38 rfl) rfl), nQ rfl (by exact qU (xW 0 rfl GK rfl rfl Tryd.isAgg38) rfl), nM rfl, nQ rfl (by exact qU (yx rfl) rfl), nQ rfl (by exact qU (xu rfl Tryd.runUnderlying84 rfl Tryd.sizeOf38 rfl) rfl), nQ rfl (by exact qU (xW 0 rfl GK rfl rfl Tryd.isAgg38) rfl), nQ rfl (by exact qU (xY rfl Tryd.runUnderlying38) rfl), nM rfl, nB rfl, nQ rfl (by exact qU (xM rfl rfl Tryd.runUnderlying38 Tryd.sizeOf5 (GW.rd (i := 2) rfl) (fun _ => rfl) rfl Lf) rfl), nQ rfl (by exact qU (yd rfl (GW.rd (i := 2) rfl) (fun _ => rfl) Lf rfl Tryd.isAgg5) rfl), trivial⟩) fun D l a w ho hcl hav hpre hm hE hk hA hst => ?_
          have hS := (Ss.mk hE hst).env2 (e' := [(108, .int .u8 (rd Gu (qh ((Gu.length : Int) - Gy))))]) ⟨rfl, trivial⟩
          refine q7 rfl <| Xz (g := (ci .u8)) ([(rd Gu (qh ((Gu.length : Int) - Gy)))] : List Int) [.int .u8 (rd Gu (qh ((Gu.length : Int) - Gy)))] hS Tryd.runUnderlying38 Tryd.sizeOf5 X.el5 rfl rfl rfl (by simp [Value.cells]) rfl rfl rfl rfl rfl fun w G9 La LQ LC hS => qF ?_
          replace hst := hS.st
          obtain ⟨hcl, hmust, hav2, hA⟩ := dn (vals' := [some (qS Gv 0), some (qS Gv 0), some (qS Gv 0), some (qS Gv 1), some (.slice Gz Gu.length GD), some (qS Gv 0), some (qS Gv 0), some (qS Gv 1), some (.slice Gz Gu.length GD), some (qS Gv 0), some (qS Gv 0), some (qS Gv 1), some (.slice Gz Gu.length GD), some (.int .i64 (Gu.length : Int)), some (.int .i64 Gy), some (.int .i64 (qh ((Gu.length : Int) - Gy))), some (xc Gz (Int.toNat (qh ((Gu.length : Int) - Gy)) * 1)), some (.int .u8 (rd Gu (qh ((Gu.length : Int) - Gy)))), some (.slice G9 ([(rd Gu (qh ((Gu.length : Int) - Gy)))] : List Int).length La), none, none, none, none]) 18 [(17, 18), (16, 17), (8, 16), (15, 16), (7, 8), (13, 15), (14, 15), (6, 7), (12, 13), (5, 6), (11, 12), (10, 11), (9, 10)] hA hcl hav hm hpre hk rfl rfl rfl rfl rfl rfl rfl
          clear hm hav
          refine jn hA hst ho hcl hav2 hmust 19 [0, 1, 2, 3, 4] rfl rfl rfl rfl rfl (by exact ⟨nM rfl, nM rfl, nQ rfl (by exact qU (yx rfl) rfl), nQ rfl (by exact qU (xu rfl Tryd.runUnderlying84 rfl Tryd.sizeOf38 rfl) rfl), nQ rfl (by exact qU (xW 1 rfl GK rfl rfl Tryd.isAgg38) rfl), trivial⟩) fun D l a w ho hcl hav hpre hm hE hk hA hst => ?_
          have hS := (Ss.mk hE hst).env2 (e' := [(95, .slice Gz Gu.length GD), (109, .slice G9 ([(rd Gu (qh ((Gu.length : Int) - Gy)))] : List Int).length La)]) ⟨rfl, rfl, trivial⟩
          refine q7 rfl ?_
          obtain ⟨LD, hM⟩ := qH hM
          refine X9 (ys := ([(rd Gu (qh ((Gu.length : Int) - Gy)))] : List Int)) 3 hS rfl rfl GW rfl (LC.rd (i := 0) rfl) Tryd.runUnderlying38 Tryd.runUnderlying38 X.el5 (fun _ => rfl) rfl uy LD rfl fun GQ w G1 G2 LM hz LE hS => ?_
          have hM := qC hz hM; clear hz
          refine qF ?_
          replace hst := hS.st
          obtain ⟨hcl, hmust, hav2, hA⟩ := dn (vals' := [some (qS Gv 0), some (qS Gv 0), some (qS Gv 0), some (qS Gv 1), some (.slice Gz Gu.length GD), some (qS Gv 0), some (qS Gv 0), some (qS Gv 1), some (.slice Gz Gu.length GD), some (qS Gv 0), some (qS Gv 0), some (qS Gv 1), some (.slice Gz Gu.length GD), some (.int .i64 (Gu.length : Int)), some (.int .i64 Gy), some (.int .i64 (qh ((Gu.length : Int) - Gy))), some (xc Gz (Int.toNat (qh ((Gu.length : Int) - Gy)) * 1)), some (.int .u8 (rd Gu (qh ((Gu.length : Int) - Gy)))), some (.slice G9 ([(rd Gu (qh ((Gu.length : Int) - Gy)))] : List Int).length La), some (.slice G1 GQ.length G2), some (qS Gv 0), some (qS Gv 1), none]) 19 [(4, 19), (18, 19), (3, 4), (17, 18), (2, 3), (16, 17), (1, 2), (8, 16), (15, 16), (7, 8), (13, 15), (14, 15), (6, 7), (12, 13), (5, 6), (11, 12), (10, 11), (9, 10)] hA hcl hav hm hpre hk rfl rfl rfl rfl rfl rfl rfl
          clear hm hav
          refine jn hA hst ho hcl hav2 hmust 22 [0, 20, 21] rfl rfl rfl rfl rfl (by exact ⟨nM rfl, nQ rfl (by exact qU (yx rfl) rfl), nQ rfl (by exact qU (xu rfl Tryd.runUnderlying84 rfl Tryd.sizeOf38 rfl) rfl), trivial⟩) fun D l a w ho hcl hav hpre hm hE hk hA hst => ?_
          have hS := (Ss.mk hE hst).env2 (e' := [(110, .slice G1 GQ.length G2), (112, qS Gv 1)]) ⟨rfl, rfl, trivial⟩
          refine q7 rfl <| Uk 1 ([qS GH 0, .slice G1 GQ.length G2, .int .i64 Gx.limit_]) hS rfl rfl GK rfl rfl rfl rfl Tryd.sizeOf38 fun w LN LF hS => qF ?_
          replace hst := hS.st
          obtain ⟨hcl, hmust, hav2, hA⟩ := ZV (vals' := [some (qS Gv 0), some (qS Gv 0), some (qS Gv 0), some (qS Gv 1), some (.slice Gz Gu.length GD), some (qS Gv 0), some (qS Gv 0), some (qS Gv 1), some (.slice Gz Gu.length GD), some (qS Gv 0), some (qS Gv 0), some (qS Gv 1), some (.slice Gz Gu.length GD), some (.int .i64 (Gu.length : Int)), some (.int .i64 Gy), some (.int .i64 (qh ((Gu.length : Int) - Gy))), some (xc Gz (Int.toNat (qh ((Gu.length : Int) - Gy)) * 1)), some (.int .u8 (rd Gu (qh ((Gu.length : Int) - Gy)))), some (.slice G9 ([(rd Gu (qh ((Gu.length : Int) - Gy)))] : List Int).length La), some (.slice G1 GQ.length G2), some (qS Gv 0), some (qS Gv 1), some undef]) 22 [(0, 22), (1, 22), (2, 22), (3, 22), (4, 22), (5, 22), (6, 22), (7, 22), (8, 22), (9, 22), (10, 22), (11, 22), (12, 22), (13, 22), (14, 22), (15, 22), (16, 22), (17, 22), (18, 22), (19, 22), (21, 22), (20, 21)] hA hcl hav hm hpre rfl rfl rfl rfl rfl
          clear hm hav
          refine x3 hA hst ho hcl hmust [] rfl rfl rfl trivial fun a w hS => ?_
          replace hS := hS.env2 (e' := [(0, qS Gv 0), (9, .int .i64 GL), (15, .int .i64 Gy), (17, .int .i64 G0)]) ⟨rfl, rfl, rfl, rfl, trivial⟩
          refine zr (qd ?_)
          refine zB <| sM hS rfl fun hS => sB hS rfl fun hS => zz (v := Value.int .i64) (x0 := (qh (G0 + (1 : Int)))) hS (xj rfl) rfl fun LO a w hz hS => ?_
          have hM := qC hz hM; clear hz
          refine zc <| qd ?_
          exact LA _ _ ⟨G1, G2, GQ, LM, LN, LO, hS.to [1, 2, 3] (by kernel_rfl) ⟨rfl, rfl, rfl, rfl, trivial⟩, LE, LF, hM⟩
         ·refine wp_exit ?_
          refine qB (qB (qY (qd ?_)))
          refine qp <| sA hS rfl fun hS => qF <| wp_ret ?_
          exact zm (rs := [6]) hS rfl rfl (hret (0 : Int) GJ GT Gz GD Gu G7 G8 _ (qV hM) G6 GW GK (hS.st.pick [0, 1, 2] (by kernel_rfl)))
theorem yT {H : xR} {F : List qq} {w : World} {R : Ending → World → Prop} {kr : (Int × Int × (List Int)) → Prop} {kp : Value → Prop} (hG : Gl H) (K : Nat) (Gx : qu) (Gu : zx) (Gv : zx) (Gy : Nat) (G0 : qq) (GA : Nat) (G1 : qq) (G2 : Option Addr) (G3 : Nat) (G4 : qq) (GI : Option Addr) (GJ : Nat) (GK : Option Addr) (GL : Nat) (GR : Option Addr) (GS : Nat) (GT : Option Addr) (GU : Nat) (Lt : xZ G0 Gy ([qS GA 0, .slice G2 Gx.out_.length G3, .int .i64 Gx.limit_]) 84) (Lu : xZ G1 GA ([yc Gx.r_.S_, .int .i64 Gx.r_.At_]) 82) (Lv : xa 5 (ci .u8) 1 G2 Gx.out_ G3 G4) (Lw : jm H [] F (ci .i64) GI Gu.l_) (Lx : Gu.l_.length ≤ GJ) (Ly : jm H [] F (ci .i64) GK Gu.codes_) (Lz : Gu.codes_.length ≤ GL) (LA : jm H [] F (ci .i64) GR Gv.l_) (LB : Gv.l_.length ≤ GS) (LC : jm H [] F (ci .i64) GT Gv.codes_) (LD : Gv.codes_.length ≤ GU)
    (hS : St w H [G0, G1, G4] F) (hm : (zH.m K Gx Gu Gv).wp kr kp)
    (hret : ∀ (Le : Int) (GW : Int) (Lf : qq) (Lg : Option Addr) (Lh : Nat) (GQ : (List Int)) (Li : qq) (Lj : qq) (w : World), kr (Le, GW, GQ) → (xZ Lf GA ([yc Gx.r_.S_, .int .i64 GW]) 82) → (xa 5 (ci .u8) 1 Lg GQ Lh Li) → (xZ Lj Gy ([qS GA 0, .slice Lg GQ.length Lh, .int .i64 Gx.limit_]) 84) → St w H [Lj, Lf, Li] F → R (.returned (.int .i64 Le)) w) :
    Calls Tryd.prog 64 ⟨[qS Gy 0, .agg ⟨[.slice GI Gu.l_.length GJ, .slice GK Gu.codes_.length GL]⟩, .agg ⟨[.slice GR Gv.l_.length GS, .slice GT Gv.codes_.length GU]⟩]⟩ w R := by
 refine enter Tryd.func64 rfl Tryd.ntmps64 rfl hS fun a w hS => ?_
 have hM := hm; clear hm
 rw [zH.m] at hM
 refine qp <| bx ([.slice GI Gu.l_.length GJ, .slice GK Gu.codes_.length GL]) hS rfl rfl rfl fun w GM G5 G6 hS => bx ([.slice GR Gv.l_.length GS, .slice GT Gv.codes_.length GU]) hS rfl rfl rfl fun w G7 G8 LE hS => sA hS rfl fun hS => qF <| xw <| zk (fun Lk a w => ∃ (GH : Int) (GX : qq) (GD : Option Addr) (GE : Nat) (Gw : (List Int)) (GF : qq) (GG : qq), Ss 57 [] [(0, qS Gy 0), (4, qS GM 0), (5, qS G7 0)] H [GG, GX, GF, G5, G8] F a w ∧ (xZ GX GA ([yc Gx.r_.S_, .int .i64 GH]) 82) ∧ (xa 5 (ci .u8) 1 GD Gw GE GF) ∧ (xZ GG Gy ([qS GA 0, .slice GD Gw.length GE, .int .i64 Gx.limit_]) 84) ∧ (zH.l1 K Gx Gu Gv Lk GH Gw).wp kr kp) K ?_ ?_ ?_
 ·exact ⟨Gx.r_.At_, G1, G2, G3, Gx.out_, G4, G0, hS.to [2, 3, 4, 1, 0] (by kernel_rfl) ⟨rfl, rfl, rfl, trivial⟩, Lu, Lv, Lt, hM⟩
 ·intro a w hI; obtain ⟨_, _, _, _, _, _, _, _, _, _, _, hM⟩ := hI; exact zj hM
 ·intro Lk a w hI LS G9
  obtain ⟨GH, GX, GD, GE, Gw, GF, GG, hS, LF, GN, Gz, hM⟩ := hI
  rw [zH.l1] at hM
  refine xw <| wp_seq <| za (vals := [some (qS GM 0), some (.slice GI Gu.l_.length GJ), some (qS GM 1), some (.slice GK Gu.codes_.length GL), some (qS Gy 0), some (qS Gy 0), some (qS Gy 0), some (qS GA 0), none, none, none, none, none, none]) hS xp rfl ?_
  intro l w ho hcl hA hst
  refine jn hA hst ho hcl xv xo 8 [0, 1, 2, 3, 4, 5, 6, 7] rfl rfl rfl rfl rfl (by exact ⟨nQ rfl (by exact qU (xu rfl Tryd.runUnderlying121 rfl Tryd.sizeOf45 rfl) rfl), nQ rfl (by exact qU (xW 3 rfl G6 rfl rfl Tryd.isAgg45) rfl), nQ rfl (by exact qU (xu rfl Tryd.runUnderlying121 rfl Tryd.sizeOf45 rfl) rfl), nQ rfl (by exact qU (xW 3 rfl G6 rfl rfl Tryd.isAgg45) rfl), nM rfl, nQ rfl (by exact qU (yx rfl) rfl), nQ rfl (by exact qU (xu rfl Tryd.runUnderlying84 rfl Tryd.sizeOf80 rfl) rfl), nQ rfl (by exact qU (xW 0 rfl Gz rfl rfl Tryd.isAgg80) rfl), trivial⟩) fun D l a w ho hcl hav hpre hm hE hk hA hst => ?_
  have hS := (Ss.mk hE hst).env2 (e' := [(12, .slice GI Gu.l_.length GJ), (14, .slice GK Gu.codes_.length GL), (18, qS GA 0)]) ⟨rfl, rfl, rfl, trivial⟩
  refine q7 rfl <| qO hS rfl Tryd.call88 (jl hG K Gu.l_ Gu.codes_ (qm.mk Gx.r_.S_ GH) GI GJ GK GL GA GX (Lw.app _) Lx (Ly.app _) Lz LF (hS.st.part 1 [1, 0, 2, 3, 4] (by kernel_rfl)) (qE hM) (fun GB GO GC GP w hM GV hst => qL hS.ev hst.appF rfl fun hS => ?_))
  replace hS : Ss _ _ _ H [GP, GG, GF, G5, G8] F _ _ := hS
  refine qF ?_
  replace hst := hS.st
  obtain ⟨hcl, hmust, hav2, hA⟩ := dn (vals' := [some (qS GM 0), some (.slice GI Gu.l_.length GJ), some (qS GM 1), some (.slice GK Gu.codes_.length GL), some (qS Gy 0), some (qS Gy 0), some (qS Gy 0), some (qS GA 0), some (.tuple ⟨[.int .i64 GB, .int .i64 GO]⟩), some (.tuple ⟨[.int .i64 GB, .int .i64 GO]⟩), some (.int .i64 GB), some (.int .i64 GO), some (.int .i64 GB), some (.int .i64 GO)]) 8 [(1, 8), (3, 8), (7, 8), (0, 1), (2, 3), (6, 7), (5, 6), (4, 5)] hA hcl hav hm hpre hk rfl rfl rfl rfl rfl rfl rfl
  clear hm hav
  refine x3 hA hst ho hcl hmust [9, 10, 11, 12, 13] rfl rfl rfl (by exact ⟨nM rfl, nQ rfl (by exact qU (ex rfl rfl) rfl), nQ rfl (by exact qU (ex rfl rfl) rfl), nA rfl, nA rfl, trivial⟩) fun a w hS => ?_
  replace hS := hS.env2 (e' := [(0, qS Gy 0), (4, qS GM 0), (5, qS G7 0), (7, .int .i64 GB), (8, .int .i64 GO)]) ⟨rfl, rfl, rfl, rfl, rfl, trivial⟩
  refine qd <| wp_seq <| qp <| sM hS rfl fun hS => sB hS rfl fun hS => qF <| qv hS rfl hM (fun LG hM => ?_) (fun LG hM => ?_)
  ·refine wp_seq ?_
   refine zB <| sM hS rfl fun hS => sA hS rfl fun hS => qF <| wp_ret <| qz (zS (qz (zS ?_)))
   exact zm (rs := [6]) hS rfl rfl (hret GO GC GP GD GE Gw GF GG _ (qV hM) GV GN Gz (hS.st.pick [1, 0, 2] (by kernel_rfl)))
  ·refine wp_skip ?_
   refine qd <| wp_seq <| qp <| sM hS rfl fun hS => sB hS rfl fun hS => qF <| qv hS rfl hM (fun LH hM => ?_) (fun LH hM => ?_)
   ·refine wp_seq ?_
    refine zB <| sA hS rfl fun hS => qF <| wp_ret <| qz (zS (qz (zS ?_)))
    exact zm (rs := [6]) hS rfl rfl (hret (0 : Int) GC GP GD GE Gw GF GG _ (qV hM) GV GN Gz (hS.st.pick [1, 0, 2] (by kernel_rfl)))
   ·refine wp_skip ?_
    refine qd <| wp_seq <| qp <| sM hS rfl fun hS => sB hS rfl fun hS => qF <| qv hS rfl hM (fun LI hM => ?_) (fun LI hM => ?_)
    ·refine wp_seq ?_
     refine wp_seq <| za (vals := [some (qS Gy 0), some (qS Gy 0), some (qS Gy 1), some (.slice GD Gw.length GE), some (.int .i64 (Gw.length : Int)), some (qS Gy 0), some (qS Gy 0), some (qS Gy 2), some (.int .i64 Gx.limit_), some (.bool (decide ((Gw.length : Int) ≥ Gx.limit_)))]) hS xp rfl ?_
     intro l w ho hcl hA hst
     refine x3 hA hst ho hcl xo [0, 1, 2, 3, 4, 5, 6, 7, 8, 9] rfl rfl rfl (by exact ⟨nM rfl, nQ rfl (by exact qU (yx rfl) rfl), nQ rfl (by exact qU (xu rfl Tryd.runUnderlying84 rfl Tryd.sizeOf38 rfl) rfl), nQ rfl (by exact qU (xW 1 rfl Gz rfl rfl Tryd.isAgg38) rfl), nQ rfl (by exact qU (xY rfl Tryd.runUnderlying38) rfl), nM rfl, nQ rfl (by exact qU (yx rfl) rfl), nQ rfl (by exact qU (xu rfl Tryd.runUnderlying84 rfl Tryd.sizeOf3 rfl) rfl), nQ rfl (by exact qU (xW 1 rfl Gz rfl rfl Tryd.isAgg3) rfl), nB rfl, trivial⟩) fun a w hS => ?_
     replace hS := hS.env2 (e' := [(0, qS Gy 0), (4, qS GM 0), (5, qS G7 0), (7, .int .i64 GB), (38, .bool (decide ((Gw.length : Int) ≥ Gx.limit_)))]) ⟨rfl, rfl, rfl, rfl, rfl, trivial⟩
     refine qd <| qv hS rfl hM (fun LJ hM => ?_) (fun LJ hM => ?_)
     ·refine wp_seq ?_
      refine zB <| sA hS rfl fun hS => qF <| wp_ret <| qz (qz (zS (qz (zS ?_))))
      exact zm (rs := [6]) hS rfl rfl (hret (11 : Int) GC GP GD GE Gw GF GG _ (qV hM) GV GN Gz (hS.st.pick [1, 0, 2] (by kernel_rfl)))
     ·refine wp_skip ?_
      refine qd <| qp <| sM hS rfl fun hS => sM hS rfl fun hS => sO hS (yx rfl) rfl fun hS => sO hS (xu rfl Tryd.runUnderlying84 rfl Tryd.sizeOf38 rfl) rfl fun hS => sO hS (xW 1 rfl Gz rfl rfl Tryd.isAgg38) rfl fun hS => sM hS rfl fun hS => sO hS (vZ rfl Tryd.runUnderlying3 Tryd.runUnderlying5) rfl fun hS => Xz (g := (ci .u8)) ([(wr .u8 GB)] : List Int) [.int .u8 (wr .u8 GB)] hS Tryd.runUnderlying38 Tryd.sizeOf5 X.el5 rfl rfl rfl (by simp [Value.cells]) rfl rfl rfl rfl rfl fun w LT LU LV LK hS => ?_
      obtain ⟨LL, hM⟩ := qH hM
      refine X9 (ys := ([(wr .u8 GB)] : List Int)) 3 hS rfl rfl GN rfl (LK.rd (i := 0) rfl) Tryd.runUnderlying38 Tryd.runUnderlying38 X.el5 (fun _ => rfl) rfl uy LL rfl fun La w Ll Lm LP hz LM hS => ?_
      have hM := qC hz hM; clear hz
      refine sO hS (yx rfl) rfl fun hS => sO hS (xu rfl Tryd.runUnderlying84 rfl Tryd.sizeOf38 rfl) rfl fun hS => Uk 2 ([qS GA 0, .slice Ll La.length Lm, .int .i64 Gx.limit_]) hS rfl rfl Gz rfl rfl rfl rfl Tryd.sizeOf38 fun w LQ LN hS => qF <| wp_exit <| qB (qY (qd ?_))
      exact G9 _ _ ⟨GC, GP, Ll, Lm, La, LP, LQ, hS.to [2, 1, 3, 4, 5] (by kernel_rfl) ⟨rfl, rfl, rfl, trivial⟩, GV, LM, LN, hM⟩
    ·refine wp_skip ?_
     refine qd <| qp <| sM hS rfl fun hS => sM hS rfl fun hS => sO hS (vF 4 rfl LE rfl ([.slice GR Gv.l_.length GS, .slice GT Gv.codes_.length GU]) rfl rfl Tryd.isAgg121 Tryd.sizeOf121) rfl fun hS => qO hS rfl Tryd.call89 (vw hG K (qu.mk (qm.mk Gx.r_.S_ GC) Gw Gx.limit_) GB Gv Gy GG GA GP GD GE GF GR GS GT GU Gz GV GN (LA.app _) LB (LC.app _) LD (hS.st.part 3 [1, 0, 2, 3, 4] (by kernel_rfl)) (qE hM) (fun LR GY Lb Ln Lo GZ Lc Ld w hM Lp Lq Lr hst => qL hS.ev hst.appF rfl fun hS => ?_))
     replace hS : Ss _ _ _ H [Ld, Lb, Lc, G5, G8] F _ _ := hS
     refine sA hS rfl fun hS => qF <| qp <| sM hS rfl fun hS => sB hS rfl fun hS => qF <| qv hS rfl hM (fun LO hM => ?_) (fun LO hM => ?_)
     ·refine wp_seq ?_
      refine zB <| sM hS rfl fun hS => sA hS rfl fun hS => qF <| wp_ret <| zS (qz (zS ?_))
      exact zm (rs := [6]) hS rfl rfl (hret LR GY Lb Ln Lo GZ Lc Ld _ (qV hM) Lp Lq Lr (hS.st.pick [0, 1, 2] (by kernel_rfl)))
     ·refine wp_skip ?_
      refine zr (qd ?_)
      exact G9 _ _ ⟨GY, Lb, Ln, Lo, GZ, Lc, Ld, hS.to [0, 1, 2, 3, 4] (by kernel_rfl) ⟨rfl, rfl, rfl, trivial⟩, Lp, Lq, Lr, hM⟩
theorem uY {H : xR} {F : List qq} {w : World} {R : Ending → World → Prop} {kr : Unit → Prop} {kp : Value → Prop} (hG : Gl H) (K : Nat)
    (hS : St w H [] F) (hm : (yP.m K).wp kr kp)
    (hret : ∀ (Gu : Option Addr) (Gv : Nat) (Gw : qq) (w : World), kr () → (xa 3 (ci .i64) 1 Gu ([(16 : Int), (17 : Int), (18 : Int), (0 : Int), (8 : Int), (7 : Int), (9 : Int), (6 : Int), (10 : Int), (5 : Int), (11 : Int), (4 : Int), (12 : Int), (3 : Int), (13 : Int), (2 : Int), (14 : Int), (1 : Int), (15 : Int)] : List Int) Gv Gw) → St w H [Gw] F → R (.returned (.slice Gu ([(16 : Int), (17 : Int), (18 : Int), (0 : Int), (8 : Int), (7 : Int), (9 : Int), (6 : Int), (10 : Int), (5 : Int), (11 : Int), (4 : Int), (12 : Int), (3 : Int), (13 : Int), (2 : Int), (14 : Int), (1 : Int), (15 : Int)] : List Int).length Gv)) w) :
    Calls Tryd.prog 104 ⟨[]⟩ w R := by
 refine enter Tryd.func104 rfl Tryd.ntmps104 rfl hS fun a w hS => ?_
 have hM := hm; clear hm
 rw [yP.m] at hM
 refine qp <| sA hS rfl fun hS => ?_
 obtain ⟨GC, GB, hS⟩ := hS.nilV 3 (ci .i64) 1
 refine qF <| qp <| Xz (g := (ci .i64)) ([(16 : Int), (17 : Int), (18 : Int), (0 : Int), (8 : Int), (7 : Int), (9 : Int), (6 : Int), (10 : Int), (5 : Int), (11 : Int), (4 : Int), (12 : Int), (3 : Int), (13 : Int), (2 : Int), (14 : Int), (1 : Int), (15 : Int)] : List Int) [.int .i64 (16 : Int), .int .i64 (17 : Int), .int .i64 (18 : Int), .int .i64 (0 : Int), .int .i64 (8 : Int), .int .i64 (7 : Int), .int .i64 (9 : Int), .int .i64 (6 : Int), .int .i64 (10 : Int), .int .i64 (5 : Int), .int .i64 (11 : Int), .int .i64 (4 : Int), .int .i64 (12 : Int), .int .i64 (3 : Int), .int .i64 (13 : Int), .int .i64 (2 : Int), .int .i64 (14 : Int), .int .i64 (1 : Int), .int .i64 (15 : Int)] hS Tryd.runUnderlying45 Tryd.sizeOf3 X.el3 rfl rfl rfl (by simp [Value.cells]) rfl rfl rfl rfl rfl fun w Gy Gz GA Gx hS => sA hS rfl fun hS => qF <| wp_ret ?_
 exact zm (rs := [0]) hS rfl rfl (hret Gy Gz GA _ (qV hM) Gx (hS.st.pick [0] (by kernel_rfl)))
end Go.TrydS

set_option maxRecDepth 100000
namespace Go.TrydS
open Go Go.Sl Go.Mo Go.Proofs
attribute [local irreducible] qR.wp
theorem vO {H : xR} {F : List qq} {w : World} {R : Ending → World → Prop} {kr : (Int × Int × (List Int) × (List Int) × Int × Int) → Prop} {kp : Value → Prop} (hG : Gl H) (K : Nat) (Gw : qu) (GQ : Nat) (Gz : qq) (GI : Nat) (Lc : qq) (GR : Option Addr) (GS : Nat) (GA : qq) (GU : xZ Gz GQ ([qS GI 0, .slice GR Gw.out_.length GS, .int .i64 Gw.limit_]) 84) (LL : xZ Lc GI ([yc Gw.r_.S_, .int .i64 Gw.r_.At_]) 82) (GV : xa 5 (ci .u8) 1 GR Gw.out_ GS GA)
    (hS : St w H [Gz, Lc, GA] F) (hm : (zb.m K Gw).wp kr kp)
    (hret : ∀ (Lo : Int) (Lp : Int) (Lq : Option Addr) (Lr : Nat) (G2 : (List Int)) (Lt : qq) (Lu : Option Addr) (Lv : Nat) (GL : (List Int)) (Lw : qq) (Lx : Int) (G6 : Int) (Ly : qq) (w : World), kr (Lo, Lp, G2, GL, Lx, G6) → (xa 3 (ci .i64) 1 Lq G2 Lr Lt) → (xa 3 (ci .i64) 1 Lu GL Lv Lw) → (xZ Ly GI ([yc Gw.r_.S_, .int .i64 G6]) 82) → St w H [Lt, Lw, Gz, Ly, GA] F → R (.returned (.tuple ⟨[.int .i64 Lo, .int .i64 Lp, .agg ⟨[.slice Lq G2.length Lr, .slice Lu GL.length Lv]⟩, .int .i64 Lx]⟩)) w) :
    Calls Tryd.prog 90 ⟨[qS GQ 0]⟩ w R := by
 refine enter Tryd.func90 rfl Tryd.ntmps90 rfl hS fun a w hS => ?_
 have hM := hm; clear hm
 rw [zb.m] at hM
 refine qp <| sA hS rfl fun hS => sA hS rfl fun hS => Qs ([.slice none 0 0, .slice none 0 0]) hS Tryd.zeroValue121 rfl rfl fun w G7 GM GG hS => ?_
 obtain ⟨GN, ME, hS⟩ := hS.nilV 3 (ci .i64) 1
 obtain ⟨GO, MF, hS⟩ := hS.nilV 3 (ci .i64) 1
 refine sA hS rfl fun hS => qF <| qp <| sM hS rfl fun hS => qO hS rfl Tryd.call61 (zU hG K Gw (5 : Int) (257 : Int) GQ Gz GI Lc GR GS GA GU LL GV (hS.st.part 3 [3, 4, 5, 0, 1, 2] (by kernel_rfl)) (qE hM) (fun GB Lz G8 Ld w hM LA hst => qL hS.ev hst.appF rfl fun hS => ?_))
 replace hS : Ss _ _ _ H [Gz, Ld, GA, GO, GN, GM] F _ _ := hS
 refine sM hS rfl fun hS => sO hS (ex rfl rfl) rfl fun hS => sO hS (ex rfl rfl) rfl fun hS => sA hS rfl fun hS => sA hS rfl fun hS => qF <| wp_seq <| qp <| sM hS rfl fun hS => sB hS rfl fun hS => qF <| qv hS rfl hM (fun LM hM => ?_) (fun LM hM => ?_)
 ·refine wp_seq ?_
  refine zB <| sO hS (Zx ([.slice none 0 0, .slice none 0 0]) [(0, 1), (1, 1)] Tryd.zeroValue121 Tryd.runUnderlying121 (by intro w; simp [Tryd.sizeOf45]) rfl rfl) rfl fun hS => sM hS rfl fun hS => sA hS rfl fun hS => sA hS rfl fun hS => uz 5 ([.slice none 0 0, .slice none 0 0]) ([.slice none 0 0, .slice none 0 0]) hS rfl rfl GG rfl rfl Tryd.sizeOf121 (by simp [Value.oneCell']) (Nat.le_of_ble_eq_true rfl) rfl fun w MI LN hS => ?_
  obtain ⟨Ml, LO, hS⟩ := hS.nilV 3 (ci .i64) 1
  obtain ⟨Mm, LP, hS⟩ := hS.nilV 3 (ci .i64) 1
  refine sA hS rfl fun hS => qF <| wp_ret <| qz ?_
  exact yC (vs := [.int .i64 (0 : Int), .int .i64 (0 : Int), .agg ⟨[.slice none ([] : List Int).length (0), .slice none ([] : List Int).length (0)]⟩, .int .i64 Lz]) hS rfl (by exact ⟨ZI rfl, ZI rfl, YW 7 ([.slice none ([] : List Int).length (0), .slice none ([] : List Int).length (0)]) rfl LN rfl rfl rfl Tryd.isAgg121 Tryd.sizeOf121, ZI rfl, trivial⟩) (hret (0 : Int) (0 : Int) none (0) ([] : List Int) Ml none (0) ([] : List Int) Mm Lz G8 Ld _ (qV hM) LO LP LA (hS.st.pick [1, 0, 2, 3, 4] (by kernel_rfl)))
 ·refine wp_skip ?_
  refine qd <| qp <| sM hS rfl fun hS => qO hS rfl Tryd.call61 (zU hG K (qu.mk (qm.mk Gw.r_.S_ G8) Gw.out_ Gw.limit_) (5 : Int) (1 : Int) GQ Gz GI Ld GR GS GA GU LA GV (hS.st.part 3 [0, 1, 2, 3, 4, 5] (by kernel_rfl)) (qE hM) (fun GC LB G9 Le w hM LC hst => qL hS.ev hst.appF rfl fun hS => ?_))
  replace hS : Ss _ _ _ H [Gz, Le, GA, GO, GN, GM] F _ _ := hS
  refine sM hS rfl fun hS => sO hS (ex rfl rfl) rfl fun hS => sO hS (ex rfl rfl) rfl fun hS => sA hS rfl fun hS => sA hS rfl fun hS => qF <| wp_seq <| qp <| sM hS rfl fun hS => sB hS rfl fun hS => qF <| qv hS rfl hM (fun LQ hM => ?_) (fun LQ hM => ?_)
  ·refine wp_seq ?_
   refine zB <| sO hS (Zx ([.slice none 0 0, .slice none 0 0]) [(0, 1), (1, 1)] Tryd.zeroValue121 Tryd.runUnderlying121 (by intro w; simp [Tryd.sizeOf45]) rfl rfl) rfl fun hS => sM hS rfl fun hS => sA hS rfl fun hS => sA hS rfl fun hS => uz 5 ([.slice none 0 0, .slice none 0 0]) ([.slice none 0 0, .slice none 0 0]) hS rfl rfl GG rfl rfl Tryd.sizeOf121 (by simp [Value.oneCell']) (Nat.le_of_ble_eq_true rfl) rfl fun w MJ LR hS => ?_
   obtain ⟨Mn, LS, hS⟩ := hS.nilV 3 (ci .i64) 1
   obtain ⟨Mp, LT, hS⟩ := hS.nilV 3 (ci .i64) 1
   refine sA hS rfl fun hS => qF <| wp_ret <| qz ?_
   exact yC (vs := [.int .i64 (0 : Int), .int .i64 (0 : Int), .agg ⟨[.slice none ([] : List Int).length (0), .slice none ([] : List Int).length (0)]⟩, .int .i64 LB]) hS rfl (by exact ⟨ZI rfl, ZI rfl, YW 7 ([.slice none ([] : List Int).length (0), .slice none ([] : List Int).length (0)]) rfl LR rfl rfl rfl Tryd.isAgg121 Tryd.sizeOf121, ZI rfl, trivial⟩) (hret (0 : Int) (0 : Int) none (0) ([] : List Int) Mn none (0) ([] : List Int) Mp LB G9 Le _ (qV hM) LS LT LC (hS.st.pick [1, 0, 2, 3, 4] (by kernel_rfl)))
  ·refine wp_skip ?_
   refine qd <| qp <| sM hS rfl fun hS => qO hS rfl Tryd.call61 (zU hG K (qu.mk (qm.mk Gw.r_.S_ G9) Gw.out_ Gw.limit_) (4 : Int) (4 : Int) GQ Gz GI Le GR GS GA GU LC GV (hS.st.part 3 [0, 1, 2, 3, 4, 5] (by kernel_rfl)) (qE hM) (fun LD LE GW GX w hM Lf hst => qL hS.ev hst.appF rfl fun hS => ?_))
   replace hS : Ss _ _ _ H [Gz, GX, GA, GO, GN, GM] F _ _ := hS
   refine sM hS rfl fun hS => sO hS (ex rfl rfl) rfl fun hS => sO hS (ex rfl rfl) rfl fun hS => sA hS rfl fun hS => sA hS rfl fun hS => qF <| wp_seq <| qp <| sM hS rfl fun hS => sB hS rfl fun hS => qF <| qv hS rfl hM (fun LU hM => ?_) (fun LU hM => ?_)
   ·refine wp_seq ?_
    refine zB <| sO hS (Zx ([.slice none 0 0, .slice none 0 0]) [(0, 1), (1, 1)] Tryd.zeroValue121 Tryd.runUnderlying121 (by intro w; simp [Tryd.sizeOf45]) rfl rfl) rfl fun hS => sM hS rfl fun hS => sA hS rfl fun hS => sA hS rfl fun hS => uz 5 ([.slice none 0 0, .slice none 0 0]) ([.slice none 0 0, .slice none 0 0]) hS rfl rfl GG rfl rfl Tryd.sizeOf121 (by simp [Value.oneCell']) (Nat.le_of_ble_eq_true rfl) rfl fun w MK LV hS => ?_
    obtain ⟨Mq, LW, hS⟩ := hS.nilV 3 (ci .i64) 1
    obtain ⟨Mr, LX, hS⟩ := hS.nilV 3 (ci .i64) 1
    refine sA hS rfl fun hS => qF <| wp_ret <| qz ?_
    exact yC (vs := [.int .i64 (0 : Int), .int .i64 (0 : Int), .agg ⟨[.slice none ([] : List Int).length (0), .slice none ([] : List Int).length (0)]⟩, .int .i64 LE]) hS rfl (by exact ⟨ZI rfl, ZI rfl, YW 7 ([.slice none ([] : List Int).length (0), .slice none ([] : List Int).length (0)]) rfl LV rfl rfl rfl Tryd.isAgg121 Tryd.sizeOf121, ZI rfl, trivial⟩) (hret (0 : Int) (0 : Int) none (0) ([] : List Int) Mq none (0) ([] : List Int) Mr LE GW GX _ (qV hM) LW LX Lf (hS.st.pick [1, 0, 2, 3, 4] (by kernel_rfl)))
   ·refine wp_skip ?_
    refine qd <| wp_seq <| qp <| sM hS rfl fun hS => sB hS rfl fun hS => sM hS rfl fun hS => yo 2 false 49 (b := (decide (GB > (286 : Int)))) (r := (decide (GC > (30 : Int)))) hS rfl rfl rfl rfl rfl rfl rfl (fun hb a w hS K hK => ?_) rfl fun a w hS => ?_
    ·refine zL hS rfl rfl rfl hb (mv rfl) rfl fun a w hS => ?_
     refine zL hS rfl rfl rfl hb (yU rfl rfl rfl) rfl fun a w hS => ?_
     exact zc (hK _ _ (hS.up 2 rfl rfl))
    refine qF <| qv hS rfl hM (fun LY hM => ?_) (fun LY hM => ?_)
    ·refine wp_seq ?_
     refine zB <| sO hS (Zx ([.slice none 0 0, .slice none 0 0]) [(0, 1), (1, 1)] Tryd.zeroValue121 Tryd.runUnderlying121 (by intro w; simp [Tryd.sizeOf45]) rfl rfl) rfl fun hS => sA hS rfl fun hS => sA hS rfl fun hS => uz 5 ([.slice none 0 0, .slice none 0 0]) ([.slice none 0 0, .slice none 0 0]) hS rfl rfl GG rfl rfl Tryd.sizeOf121 (by simp [Value.oneCell']) (Nat.le_of_ble_eq_true rfl) rfl fun w ML LZ hS => ?_
     obtain ⟨Ms, L0, hS⟩ := hS.nilV 3 (ci .i64) 1
     obtain ⟨Mt, L1, hS⟩ := hS.nilV 3 (ci .i64) 1
     refine sA hS rfl fun hS => qF <| wp_ret <| qz ?_
     exact yC (vs := [.int .i64 (0 : Int), .int .i64 (0 : Int), .agg ⟨[.slice none ([] : List Int).length (0), .slice none ([] : List Int).length (0)]⟩, .int .i64 (3 : Int)]) hS rfl (by exact ⟨ZI rfl, ZI rfl, YW 7 ([.slice none ([] : List Int).length (0), .slice none ([] : List Int).length (0)]) rfl LZ rfl rfl rfl Tryd.isAgg121 Tryd.sizeOf121, ZI rfl, trivial⟩) (hret (0 : Int) (0 : Int) none (0) ([] : List Int) Ms none (0) ([] : List Int) Mt (3 : Int) GW GX _ (qV hM) L0 L1 Lf (hS.st.pick [1, 0, 2, 3, 4] (by kernel_rfl)))
    ·refine wp_skip ?_
     refine qd <| wp_seq <| zB ?_
     obtain ⟨L3, hM⟩ := qH hM
     refine Ug (g := (ci .i64)) (m := (19 : Int)) (0 : Int) hS rfl rfl (by simp) Tryd.runUnderlying45 X.el3 (fun w => ⟨_, Tryd.zeroValue3 w, rfl⟩) (fun _ => rfl) rfl rfl L3 rfl fun L4 w Gx Gy LF hz L5 hS => ?_
     have hM := qC hz hM; clear hz
     refine sA hS rfl fun hS => qF <| qp <| qO hS rfl Tryd.call104 (uY hG K  (hS.st.part 0 [0, 1, 2, 3, 4, 5, 6] (by kernel_rfl)) (qE hM) (fun Mu Mv Lg w hM LG hst => qL hS.ev hst.appF rfl fun hS => ?_))
     replace hS : Ss _ _ _ H [Lg, LF, Gz, GX, GA, GO, GN, GM] F _ _ := hS
     refine sA hS rfl fun hS => qF <| qp <| sA hS rfl fun hS => qF <| zg (fun a w => ∃ (GJ : Int) (GT : qq) (Gv : (List Int)) (GY : qq) (GP : Bool), Ss 97 [] [(4, qS G7 0), (6, .int .i64 GB), (8, .int .i64 GC), (12, .slice Gx Gv.length Gy), (14, .bool GP)] H [Gz, GT, GA, GM, GN, GO, GY] F a w ∧ (xZ GT GI ([yc Gw.r_.S_, .int .i64 GJ]) 82) ∧ (xa 3 (ci .i64) 1 Gx Gv Gy GY) ∧ (zb.j2 K GB GC GJ Gv GP).wp kr kp) (fun MM L6 => ?_) ?_
     ·refine wp_seq ?_
      refine zB <| sA hS rfl fun hS => qF <| xw <| zk (fun LH a w => ∃ (GK : Int) (GZ : qq) (GH : (List Int)) (G0 : qq) (GF : Bool) (G1 : Int), Ss 97 [] [(0, qS GQ 0), (4, qS G7 0), (6, .int .i64 GB), (8, .int .i64 GC), (10, .int .i64 LD), (12, .slice Gx GH.length Gy), (13, .slice Mu ([(16 : Int), (17 : Int), (18 : Int), (0 : Int), (8 : Int), (7 : Int), (9 : Int), (6 : Int), (10 : Int), (5 : Int), (11 : Int), (4 : Int), (12 : Int), (3 : Int), (13 : Int), (2 : Int), (14 : Int), (1 : Int), (15 : Int)] : List Int).length Mv), (14, .bool GF), (15, .int .i64 G1)] H [Gz, GZ, GA, GM, GN, GO, G0, Lg] F a w ∧ (xZ GZ GI ([yc Gw.r_.S_, .int .i64 GK]) 82) ∧ (xa 3 (ci .i64) 1 Gx GH Gy G0) ∧ (zb.l1 K Gw GB GC LD LH GK GH GF G1).wp kr kp) K ?_ ?_ ?_
      ·exact ⟨GW, GX, L4, LF, false, (0 : Int), hS.to [2, 3, 4, 7, 6, 5, 1, 0] (by kernel_rfl) ⟨rfl, rfl, rfl, rfl, rfl, rfl, rfl, rfl, rfl, trivial⟩, Lf, L5, hM⟩
      ·intro a w hI; obtain ⟨_, _, _, _, _, _, _, _, _, hM⟩ := hI; exact zj hM
      ·intro LH a w hI MN L7
       obtain ⟨GK, GZ, GH, G0, GF, G1, hS, Lh, G3, hM⟩ := hI
       rw [zb.l1] at hM
       refine wp_seq <| qp <| sM hS rfl fun hS => sM hS rfl fun hS => sB hS rfl fun hS => qF <| qv hS rfl hM (fun L8 hM => ?_) (fun L8 hM => ?_)
       ·refine wp_skip ?_
        refine qd <| wp_seq <| xw <| qp <| sM hS rfl fun hS => qO hS rfl Tryd.call61 (zU hG K (qu.mk (qm.mk Gw.r_.S_ GK) Gw.out_ Gw.limit_) (3 : Int) (0 : Int) GQ Gz GI GZ GR GS GA GU Lh GV (hS.st.part 3 [0, 1, 2, 3, 4, 5, 6, 7] (by kernel_rfl)) (qE hM) (fun La LI Lb Li w hM LJ hst => qL hS.ev hst.appF rfl fun hS => ?_))
        replace hS : Ss _ _ _ H [Gz, Li, GA, GM, GN, GO, G0, Lg] F _ _ := hS
        refine sM hS rfl fun hS => sO hS (ex rfl rfl) rfl fun hS => sO hS (ex rfl rfl) rfl fun hS => sA hS rfl fun hS => sA hS rfl fun hS => qF <| wp_seq <| qp <| sM hS rfl fun hS => sB hS rfl fun hS => qF <| qv hS rfl hM (fun L9 hM => ?_) (fun L9 hM => ?_)
        ·refine wp_seq ?_
         refine zB <| sO hS (Zx ([.slice none 0 0, .slice none 0 0]) [(0, 1), (1, 1)] Tryd.zeroValue121 Tryd.runUnderlying121 (by intro w; simp [Tryd.sizeOf45]) rfl rfl) rfl fun hS => sM hS rfl fun hS => sA hS rfl fun hS => sA hS rfl fun hS => uz 3 ([.slice none 0 0, .slice none 0 0]) ([.slice none 0 0, .slice none 0 0]) hS rfl rfl GG rfl rfl Tryd.sizeOf121 (by simp [Value.oneCell']) (Nat.le_of_ble_eq_true rfl) rfl fun w MO Ma hS => ?_
         obtain ⟨Mw, Mb, hS⟩ := hS.nilV 3 (ci .i64) 1
         obtain ⟨Mx, Mc, hS⟩ := hS.nilV 3 (ci .i64) 1
         refine sA hS rfl fun hS => qF <| wp_ret <| qz (zS (qz (qz (zS (qz ?_)))))
         exact yC (vs := [.int .i64 (0 : Int), .int .i64 (0 : Int), .agg ⟨[.slice none ([] : List Int).length (0), .slice none ([] : List Int).length (0)]⟩, .int .i64 LI]) hS rfl (by exact ⟨ZI rfl, ZI rfl, YW 5 ([.slice none ([] : List Int).length (0), .slice none ([] : List Int).length (0)]) rfl Ma rfl rfl rfl Tryd.isAgg121 Tryd.sizeOf121, ZI rfl, trivial⟩) (hret (0 : Int) (0 : Int) none (0) ([] : List Int) Mw none (0) ([] : List Int) Mx LI Lb Li _ (qV hM) Mb Mc LJ (hS.st.pick [1, 0, 2, 3, 4] (by kernel_rfl)))
        ·refine wp_skip ?_
         refine qd <| qp <| sM hS rfl fun hS => sM hS rfl fun hS => sM hS rfl fun hS => ?_
         obtain ⟨Lj, hM⟩ := qH hM
         refine sO hS (xM rfl rfl Tryd.runUnderlying45 Tryd.sizeOf3 (LG.rd (i := 7) rfl) (fun _ => rfl) rfl Lj) rfl fun hS => sO hS (yd rfl (LG.rd (i := 7) rfl) (fun _ => rfl) Lj rfl Tryd.isAgg3) rfl fun hS => sM hS rfl fun hS => ?_
         obtain ⟨Lk, hM⟩ := qH hM
         refine sO hS (xM rfl rfl Tryd.runUnderlying45 Tryd.sizeOf3 (G3.rd (i := 6) rfl) (fun _ => rfl) rfl Lk) rfl fun hS => Xk (i := (rd ([(16 : Int), (17 : Int), (18 : Int), (0 : Int), (8 : Int), (7 : Int), (9 : Int), (6 : Int), (10 : Int), (5 : Int), (11 : Int), (4 : Int), (12 : Int), (3 : Int), (13 : Int), (2 : Int), (14 : Int), (1 : Int), (15 : Int)] : List Int) G1)) (sz := 1) 6 0 (La) hS rfl rfl G3 rfl Tryd.sizeOf3 (xF La) (fun _ => rfl) Lk rfl rfl fun G4 w My hz Ll Md hS => ?_
         have hM := qC hz hM; clear hz
         replace hS := hS.re 12 (u := .slice Gx GH.length Gy) (v := .slice Gx G4.length Gy) rfl (by rw [Ll])
         replace hS := hS.re 70 (u := .slice Gx GH.length Gy) (v := .slice Gx G4.length Gy) rfl (by rw [Ll])
         refine qF <| zB <| sM hS rfl fun hS => sM hS rfl fun hS => yo 2 false 78 (b := GF) (r := (decide (La > (0 : Int)))) hS rfl rfl rfl rfl rfl rfl rfl (fun hb a w hS K hK => ?_) rfl fun a w hS => ?_
         ·refine zL hS rfl rfl rfl hb (mv rfl) rfl fun a w hS => ?_
          refine zL hS rfl rfl rfl hb (yU rfl rfl rfl) rfl fun a w hS => ?_
          exact zc (hK _ _ (hS.up 2 rfl rfl))
         refine zz (v := Value.bool) (x0 := (GF || (decide (La > (0 : Int))))) hS (xj rfl) rfl fun Ln a w hz hS => ?_
         have hM := qC hz hM; clear hz
         refine zc <| zr (qd ?_)
         refine zB <| sM hS rfl fun hS => sB hS rfl fun hS => zz (v := Value.int .i64) (x0 := (qh (G1 + (1 : Int)))) hS (xj rfl) rfl fun Mz a w hz hS => ?_
         have hM := qC hz hM; clear hz
         refine zc <| qd ?_
         exact L7 _ _ ⟨Lb, Li, G4, My, Ln, Mz, hS.to [0, 1, 2, 3, 4, 5, 6, 7] (by kernel_rfl) ⟨rfl, rfl, rfl, rfl, rfl, rfl, rfl, rfl, rfl, trivial⟩, LJ, Md, hM⟩
       ·refine wp_exit ?_
        refine qB (qB (qY (qd ?_)))
        exact L6 _ _ ⟨GK, GZ, GH, G0, GF, hS.to [0, 1, 2, 3, 4, 5, 6] (by kernel_rfl) ⟨rfl, rfl, rfl, rfl, rfl, trivial⟩, Lh, G3, hM⟩
     ·intro a w hI
      obtain ⟨GJ, GT, Gv, GY, GP, hS, Lm, G5, hM⟩ := hI
      rw [zb.j2] at hM
      refine qp <| sM hS rfl fun hS => qO hS rfl Tryd.call63 (yh hG K Gv Gx Gy (G5.rdF (i := 6) rfl) (G5.cap (fun _ => rfl) rfl) (hS.st.part 0 [0, 1, 2, 3, 4, 5, 6] (by kernel_rfl)) (qE hM) (fun GD GE Gu LK MA w hM MB hst => qL hS.ev hst.appF rfl fun hS => ?_))
      replace hS : Ss _ _ _ H [LK, Gz, GT, GA, GM, GN, GO, GY] F _ _ := hS
      refine sM hS rfl fun hS => sO hS (ex rfl rfl) rfl fun hS => sO hS (ex rfl rfl) rfl fun hS => Qs ([.slice none 0 0, .slice none 0 0]) hS Tryd.zeroValue121 rfl rfl fun w MP MQ Me hS => ?_
      obtain ⟨MR, MG, hS⟩ := hS.nilV 3 (ci .i64) 1
      obtain ⟨MS, MH, hS⟩ := hS.nilV 3 (ci .i64) 1
      refine uz 2 ([.slice Gx Gv.length Gy, .slice GD Gu.length GE]) ([.slice Gx Gv.length Gy, .slice GD Gu.length GE]) hS rfl rfl Me rfl rfl Tryd.sizeOf121 (by simp [Value.oneCell']) (Nat.le_of_ble_eq_true rfl) rfl fun w MT Mf hS => sA hS rfl fun hS => qF <| wp_seq <| qp <| sM hS rfl fun hS => sO hS (un rfl rfl) rfl fun hS => sM hS rfl fun hS => yo 2 false 89 (b := (!MA)) (r := (!GP)) hS rfl rfl rfl rfl rfl rfl rfl (fun hb a w hS K hK => ?_) rfl fun a w hS => ?_
      ·refine zL hS rfl rfl rfl hb (mv rfl) rfl fun a w hS => ?_
       refine zL hS rfl rfl rfl hb (un rfl rfl) rfl fun a w hS => ?_
       exact zc (hK _ _ (hS.up 2 rfl rfl))
      refine qF <| qv hS rfl hM (fun Mg hM => ?_) (fun Mg hM => ?_)
      ·refine wp_seq ?_
       refine zB <| sO hS (Zx ([.slice none 0 0, .slice none 0 0]) [(0, 1), (1, 1)] Tryd.zeroValue121 Tryd.runUnderlying121 (by intro w; simp [Tryd.sizeOf45]) rfl rfl) rfl fun hS => sA hS rfl fun hS => sA hS rfl fun hS => uz 7 ([.slice none 0 0, .slice none 0 0]) ([.slice none 0 0, .slice none 0 0]) hS rfl rfl GG rfl rfl Tryd.sizeOf121 (by simp [Value.oneCell']) (Nat.le_of_ble_eq_true rfl) rfl fun w MU Mh hS => ?_
       obtain ⟨MC, Mi, hS⟩ := hS.nilV 3 (ci .i64) 1
       obtain ⟨MD, Mj, hS⟩ := hS.nilV 3 (ci .i64) 1
       refine sA hS rfl fun hS => qF <| wp_ret <| qz ?_
       exact yC (vs := [.int .i64 (0 : Int), .int .i64 (0 : Int), .agg ⟨[.slice none ([] : List Int).length (0), .slice none ([] : List Int).length (0)]⟩, .int .i64 (3 : Int)]) hS rfl (by exact ⟨ZI rfl, ZI rfl, YW 9 ([.slice none ([] : List Int).length (0), .slice none ([] : List Int).length (0)]) rfl Mh rfl rfl rfl Tryd.isAgg121 Tryd.sizeOf121, ZI rfl, trivial⟩) (hret (0 : Int) (0 : Int) none (0) ([] : List Int) MC none (0) ([] : List Int) MD (3 : Int) GJ GT _ (qV hM) Mi Mj Lm (hS.st.pick [1, 0, 6, 7, 8] (by kernel_rfl)))
      ·refine wp_skip ?_
       refine qd <| wp_seq <| za (vals := [some (.int .i64 GB), some (.int .i64 GC), some (.agg ⟨[.slice Gx Gv.length Gy, .slice GD Gu.length GE]⟩), some (.int .i64 GB), some (.int .i64 GC), none, none]) hS xp rfl ?_
       intro l w ho hcl hA hst
       refine jn hA hst ho hcl xv xo 5 [0, 1, 2, 3, 4] rfl rfl rfl rfl rfl (by exact ⟨nM rfl, nM rfl, nQ rfl (by exact qU (vF 2 rfl Mf rfl ([.slice Gx Gv.length Gy, .slice GD Gu.length GE]) rfl rfl Tryd.isAgg121 Tryd.sizeOf121) rfl), nA rfl, nA rfl, trivial⟩) fun D l a w ho hcl hav hpre hm hE hk hA hst => ?_
       have hS := (Ss.mk hE hst).env2 (e' := [(4, qS G7 0), (96, .agg ⟨[.slice Gx Gv.length Gy, .slice GD Gu.length GE]⟩)]) ⟨rfl, rfl, trivial⟩
       refine q7 rfl <| uz 7 ([.slice Gx Gv.length Gy, .slice GD Gu.length GE]) ([.slice Gx Gv.length Gy, .slice GD Gu.length GE]) hS rfl rfl GG rfl rfl Tryd.sizeOf121 (by simp [Value.oneCell']) (Nat.le_of_ble_eq_true rfl) rfl fun w MV Mk hS => qF ?_
       replace hst := hS.st
       obtain ⟨hcl, hmust, hav2, hA⟩ := ZV (vals' := [some (.int .i64 GB), some (.int .i64 GC), some (.agg ⟨[.slice Gx Gv.length Gy, .slice GD Gu.length GE]⟩), some (.int .i64 GB), some (.int .i64 GC), some undef, some (.int .i64 (0 : Int))]) 5 [(0, 5), (1, 5), (2, 5), (3, 5), (4, 5)] hA hcl hav hm hpre rfl rfl rfl rfl rfl
       clear hm hav
       refine x3 hA hst ho hcl hmust [6] rfl rfl rfl (by exact ⟨nA rfl, trivial⟩) fun a w hS => ?_
       replace hS := hS.env2 (e' := [(2, .int .i64 GB), (3, .int .i64 GC), (4, qS G7 0), (5, .int .i64 (0 : Int))]) ⟨rfl, rfl, rfl, rfl, trivial⟩
       refine qd <| wp_ret ?_
       exact yC (vs := [.int .i64 GB, .int .i64 GC, .agg ⟨[.slice Gx Gv.length Gy, .slice GD Gu.length GE]⟩, .int .i64 (0 : Int)]) hS rfl (by exact ⟨ZI rfl, ZI rfl, YW 7 ([.slice Gx Gv.length Gy, .slice GD Gu.length GE]) rfl Mk rfl rfl rfl Tryd.isAgg121 Tryd.sizeOf121, ZI rfl, trivial⟩) (hret GB GC Gx Gy Gv GY GD GE Gu LK (0 : Int) GJ GT _ (qV hM) G5 MB Lm (hS.st.pick [10, 3, 4, 5, 6] (by kernel_rfl)))
theorem v5 {H : xR} {F : List qq} {w : World} {R : Ending → World → Prop} {kr : ((List Int) × Int × Int) → Prop} {kp : Value → Prop} (hG : Gl H) (K : Nat) (Gv : qu) (Gz : Int) (Gu : zx) (Gy : Nat) (GA : qq) (GE : Nat) (Lc : qq) (GZ : Option Addr) (G0 : Nat) (GB : qq) (GL : Option Addr) (GM : Nat) (GN : Option Addr) (GO : Nat) (GX : xZ GA Gy ([qS GE 0, .slice GZ Gv.out_.length G0, .int .i64 Gv.limit_]) 84) (Lw : xZ Lc GE ([yc Gv.r_.S_, .int .i64 Gv.r_.At_]) 82) (G2 : xa 5 (ci .u8) 1 GZ Gv.out_ G0 GB) (Lx : jm H [] F (ci .i64) GL Gu.l_) (Ly : Gu.l_.length ≤ GM) (Lz : jm H [] F (ci .i64) GN Gu.codes_) (LA : Gu.codes_.length ≤ GO)
    (hS : St w H [GA, Lc, GB] F) (hm : (qJ.m K Gv Gz Gu).wp kr kp)
    (hret : ∀ (Lm : Option Addr) (Ln : Nat) (Ld : (List Int)) (Lo : qq) (Lp : Int) (G5 : Int) (Lq : qq) (w : World), kr (Ld, Lp, G5) → (xa 3 (ci .i64) 1 Lm Ld Ln Lo) → (xZ Lq GE ([yc Gv.r_.S_, .int .i64 G5]) 82) → St w H [Lo, GA, Lq, GB] F → R (.returned (.tuple ⟨[.slice Lm Ld.length Ln, .int .i64 Lp]⟩)) w) :
    Calls Tryd.prog 91 ⟨[qS Gy 0, .int .i64 Gz, .agg ⟨[.slice GL Gu.l_.length GM, .slice GN Gu.codes_.length GO]⟩]⟩ w R := by
 refine enter Tryd.func91 rfl Tryd.ntmps91 rfl hS fun a w hS => ?_
 have hM := hm; clear hm
 rw [qJ.m] at hM
 refine qp <| bx ([.slice GL Gu.l_.length GM, .slice GN Gu.codes_.length GO]) hS rfl rfl rfl fun w GK GP Le hS => sA hS rfl fun hS => ?_
 obtain ⟨Ml, Mk, hS⟩ := hS.nilV 3 (ci .i64) 1
 refine sA hS rfl fun hS => qF <| qp <| sA hS rfl fun hS => ?_
 obtain ⟨LY, LB, hS⟩ := hS.nilV 3 (ci .i64) 1
 refine qF <| wp_seq <| xw <| zk (fun G6 a w => ∃ (GI : Int) (G1 : qq) (GQ : Option Addr) (GR : Nat) (Gx : (List Int)) (GG : qq), Ss 87 [] [(0, qS Gy 0), (1, .int .i64 Gz), (5, qS GK 0), (8, .slice GQ Gx.length GR)] H [GA, G1, GB, GP, GG] F a w ∧ (xZ G1 GE ([yc Gv.r_.S_, .int .i64 GI]) 82) ∧ (xa 3 (ci .i64) 1 GQ Gx GR GG) ∧ (qJ.l1 K Gv Gz Gu G6 GI Gx).wp kr kp) K ?_ ?_ ?_
 ·exact ⟨Gv.r_.At_, Lc, none, 0, ([] : List Int), LY, hS.to [3, 4, 5, 2, 0] (by kernel_rfl) ⟨rfl, rfl, rfl, rfl, trivial⟩, Lw, LB, hM⟩
 ·intro a w hI; obtain ⟨_, _, _, _, _, _, _, _, _, hM⟩ := hI; exact zj hM
 ·intro G6 a w hI Mm Lf
  obtain ⟨GI, G1, GQ, GR, Gx, GG, hS, Lg, GS, hM⟩ := hI
  rw [qJ.l1] at hM
  refine wp_seq <| qp <| sM hS rfl fun hS => sO hS (xY rfl Tryd.runUnderlying45) rfl fun hS => sM hS rfl fun hS => sB hS rfl fun hS => qF <| qv hS rfl hM (fun LC hM => ?_) (fun LC hM => ?_)
  ·refine wp_skip ?_
   refine qd <| xw <| wp_seq <| za (vals := [some (qS GK 0), some (.slice GL Gu.l_.length GM), some (qS GK 1), some (.slice GN Gu.codes_.length GO), some (qS Gy 0), some (qS Gy 0), some (qS Gy 0), some (qS GE 0), none, none, none, none, none, none]) hS xp rfl ?_
   intro l w ho hcl hA hst
   refine jn hA hst ho hcl xv xo 8 [0, 1, 2, 3, 4, 5, 6, 7] rfl rfl rfl rfl rfl (by exact ⟨nQ rfl (by exact qU (xu rfl Tryd.runUnderlying121 rfl Tryd.sizeOf45 rfl) rfl), nQ rfl (by exact qU (xW 3 rfl Le rfl rfl Tryd.isAgg45) rfl), nQ rfl (by exact qU (xu rfl Tryd.runUnderlying121 rfl Tryd.sizeOf45 rfl) rfl), nQ rfl (by exact qU (xW 3 rfl Le rfl rfl Tryd.isAgg45) rfl), nM rfl, nQ rfl (by exact qU (yx rfl) rfl), nQ rfl (by exact qU (xu rfl Tryd.runUnderlying84 rfl Tryd.sizeOf80 rfl) rfl), nQ rfl (by exact qU (xW 0 rfl GX rfl rfl Tryd.isAgg80) rfl), trivial⟩) fun D l a w ho hcl hav hpre hm hE hk hA hst => ?_
   have hS := (Ss.mk hE hst).env2 (e' := [(20, .slice GL Gu.l_.length GM), (22, .slice GN Gu.codes_.length GO), (26, qS GE 0)]) ⟨rfl, rfl, rfl, trivial⟩
   refine q7 rfl <| qO hS rfl Tryd.call88 (jl hG K Gu.l_ Gu.codes_ (qm.mk Gv.r_.S_ GI) GL GM GN GO GE G1 (Lx.app _) Ly (Lz.app _) LA Lg (hS.st.part 1 [1, 0, 2, 3, 4] (by kernel_rfl)) (qE hM) (fun GH GV GF GT w hM GW hst => qL hS.ev hst.appF rfl fun hS => ?_))
   replace hS : Ss _ _ _ H [GT, GA, GB, GP, GG] F _ _ := hS
   refine qF ?_
   replace hst := hS.st
   obtain ⟨hcl, hmust, hav2, hA⟩ := dn (vals' := [some (qS GK 0), some (.slice GL Gu.l_.length GM), some (qS GK 1), some (.slice GN Gu.codes_.length GO), some (qS Gy 0), some (qS Gy 0), some (qS Gy 0), some (qS GE 0), some (.tuple ⟨[.int .i64 GH, .int .i64 GV]⟩), some (.tuple ⟨[.int .i64 GH, .int .i64 GV]⟩), some (.int .i64 GH), some (.int .i64 GV), some (.int .i64 GH), some (.int .i64 GV)]) 8 [(1, 8), (3, 8), (7, 8), (0, 1), (2, 3), (6, 7), (5, 6), (4, 5)] hA hcl hav hm hpre hk rfl rfl rfl rfl rfl rfl rfl
   clear hm hav
   refine x3 hA hst ho hcl hmust [9, 10, 11, 12, 13] rfl rfl rfl (by exact ⟨nM rfl, nQ rfl (by exact qU (ex rfl rfl) rfl), nQ rfl (by exact qU (ex rfl rfl) rfl), nA rfl, nA rfl, trivial⟩) fun a w hS => ?_
   replace hS := hS.env2 (e' := [(0, qS Gy 0), (1, .int .i64 Gz), (5, qS GK 0), (8, .slice GQ Gx.length GR), (9, .int .i64 GH), (10, .int .i64 GV)]) ⟨rfl, rfl, rfl, rfl, rfl, rfl, trivial⟩
   refine qd <| wp_seq <| qp <| sM hS rfl fun hS => sB hS rfl fun hS => qF <| qv hS rfl hM (fun LD hM => ?_) (fun LD hM => ?_)
   ·refine wp_seq ?_
    refine zB <| sM hS rfl fun hS => sA hS rfl fun hS => ?_
    obtain ⟨LZ, LE, hS⟩ := hS.nilV 3 (ci .i64) 1
    refine sA hS rfl fun hS => qF <| wp_ret <| qz (zS (qz (zS (qz ?_))))
    exact zm (rs := [6, 7]) hS rfl rfl (hret none (0) ([] : List Int) LZ GV GF GT _ (qV hM) LE GW (hS.st.pick [0, 2, 1, 3] (by kernel_rfl)))
   ·refine wp_skip ?_
    refine qd <| wp_seq <| qp <| sM hS rfl fun hS => sB hS rfl fun hS => qF <| qv hS rfl hM (fun LF hM => ?_) (fun LF hM => ?_)
    ·refine wp_seq ?_
     refine zB <| sM hS rfl fun hS => sM hS rfl fun hS => Xz (g := (ci .i64)) ([GH] : List Int) [.int .i64 GH] hS Tryd.runUnderlying45 Tryd.sizeOf3 X.el3 rfl rfl rfl (by simp [Value.cells]) rfl rfl rfl rfl rfl fun w Mn Mp Mq LG hS => ?_
     obtain ⟨LH, hM⟩ := qH hM
     refine X9 (ys := ([GH] : List Int)) 5 hS rfl rfl GS rfl (LG.rd (i := 0) rfl) Tryd.runUnderlying45 Tryd.runUnderlying45 X.el3 (fun _ => rfl) rfl xF LH rfl fun LI w L0 L1 L3 hz LJ hS => ?_
     have hM := qC hz hM; clear hz
     refine sA hS rfl fun hS => qF <| wp_exit <| qB (qY (qd ?_))
     exact Lf _ _ ⟨GF, GT, L0, L1, LI, L3, hS.to [2, 1, 3, 4, 5] (by kernel_rfl) ⟨rfl, rfl, rfl, rfl, trivial⟩, GW, LJ, hM⟩
    ·refine wp_skip ?_
     refine qd <| qp <| sA hS rfl fun hS => qF <| qp <| sA hS rfl fun hS => qF <| zg (fun a w => ∃ (GD : Int) (GU : qq) (GY : Int) (Gw : Int) (GC : Int), Ss 87 [] [(0, qS Gy 0), (1, .int .i64 Gz), (5, qS GK 0), (8, .slice GQ Gx.length GR), (10, .int .i64 GY), (11, .int .i64 Gw), (12, .int .i64 GC)] H [GA, GU, GB, GP, GG] F a w ∧ (xZ GU GE ([yc Gv.r_.S_, .int .i64 GD]) 82) ∧ (qJ.j2 K (qJ.l1 K Gv Gz Gu G6) Gz Gx GD GY Gw GC).wp kr kp) (fun Mr G3 => ?_) ?_
     ·refine wp_seq ?_
      refine zB <| sM hS rfl fun hS => qF <| xw <| qp <| sB hS rfl fun hS => zz (v := Value.bool) (x0 := (GH == (16 : Int))) hS (xj rfl) rfl fun Ms a w hz hS => ?_
      have hM := qC hz hM; clear hz
      refine qF <| qv hS rfl hM (fun LK hM => ?_) (fun LK hM => ?_)
      ·refine wp_seq ?_
       refine qp <| sM hS rfl fun hS => sO hS (xY rfl Tryd.runUnderlying45) rfl fun hS => sB hS rfl fun hS => qF <| qv hS rfl hM (fun LL hM => ?_) (fun LL hM => ?_)
       ·refine wp_seq ?_
        refine zB <| sA hS rfl fun hS => ?_
        obtain ⟨L4, LM, hS⟩ := hS.nilV 3 (ci .i64) 1
        refine sA hS rfl fun hS => qF <| wp_ret <| qz (zS (qz (zS (qz (zS (qz ?_))))))
        exact zm (rs := [6, 7]) hS rfl rfl (hret none (0) ([] : List Int) L4 (3 : Int) GF GT _ (qV hM) LM GW (hS.st.pick [0, 2, 1, 3] (by kernel_rfl)))
       ·refine wp_skip ?_
        refine qd <| qp <| sM hS rfl fun hS => sM hS rfl fun hS => sO hS (xY rfl Tryd.runUnderlying45) rfl fun hS => sB hS rfl fun hS => ?_
        obtain ⟨Lh, hM⟩ := qH hM
        refine sO hS (xM rfl rfl Tryd.runUnderlying45 Tryd.sizeOf3 (GS.rd (i := 4) rfl) (fun _ => rfl) rfl Lh) rfl fun hS => sO hS (yd rfl (GS.rd (i := 4) rfl) (fun _ => rfl) Lh rfl Tryd.isAgg3) rfl fun hS => zz (v := Value.int .i64) (x0 := (rd Gx (qh ((Gx.length : Int) - (1 : Int))))) hS (xj rfl) rfl fun Lb a w hz hS => ?_
        have hM := qC hz hM; clear hz
        refine qF <| zB <| sM hS rfl fun hS => qO hS rfl Tryd.call61 (zU hG K (qu.mk (qm.mk Gv.r_.S_ GF) Gv.out_ Gv.limit_) (2 : Int) (3 : Int) Gy GA GE GT GZ G0 GB GX GW G2 (hS.st.part 3 [1, 0, 2, 3, 4] (by kernel_rfl)) (qE hM) (fun L5 L6 Lj Lr w hM L7 hst => qL hS.ev hst.appF rfl fun hS => ?_))
        replace hS : Ss _ _ _ H [GA, Lr, GB, GP, GG] F _ _ := hS
        refine sM hS rfl fun hS => sO hS (ex rfl rfl) rfl fun hS => sO hS (ex rfl rfl) rfl fun hS => sA hS rfl fun hS => sA hS rfl fun hS => zc <| zr (qd ?_)
        exact G3 _ _ ⟨Lj, Lr, L6, Lb, L5, hS.to [0, 1, 2, 3, 4] (by kernel_rfl) ⟨rfl, rfl, rfl, rfl, rfl, rfl, rfl, trivial⟩, L7, hM⟩
      ·refine wp_seq ?_
       refine zB <| sB hS rfl fun hS => zz (v := Value.bool) (x0 := (GH == (17 : Int))) hS (xj rfl) rfl fun Mt a w hz hS => ?_
       have hM := qC hz hM; clear hz
       refine qF <| qv hS rfl hM (fun LN hM => ?_) (fun LN hM => ?_)
       ·refine zB ?_
        refine sM hS rfl fun hS => qO hS rfl Tryd.call61 (zU hG K (qu.mk (qm.mk Gv.r_.S_ GF) Gv.out_ Gv.limit_) (3 : Int) (3 : Int) Gy GA GE GT GZ G0 GB GX GW G2 (hS.st.part 3 [1, 0, 2, 3, 4] (by kernel_rfl)) (qE hM) (fun L8 L9 Lk Lt w hM Ma hst => qL hS.ev hst.appF rfl fun hS => ?_))
        replace hS : Ss _ _ _ H [GA, Lt, GB, GP, GG] F _ _ := hS
        refine sM hS rfl fun hS => sO hS (ex rfl rfl) rfl fun hS => sO hS (ex rfl rfl) rfl fun hS => sA hS rfl fun hS => sA hS rfl fun hS => zc <| zr (qd ?_)
        exact G3 _ _ ⟨Lk, Lt, L9, (0 : Int), L8, hS.to [0, 1, 2, 3, 4] (by kernel_rfl) ⟨rfl, rfl, rfl, rfl, rfl, rfl, rfl, trivial⟩, Ma, hM⟩
       ·refine zB ?_
        refine sM hS rfl fun hS => qO hS rfl Tryd.call61 (zU hG K (qu.mk (qm.mk Gv.r_.S_ GF) Gv.out_ Gv.limit_) (7 : Int) (11 : Int) Gy GA GE GT GZ G0 GB GX GW G2 (hS.st.part 3 [1, 0, 2, 3, 4] (by kernel_rfl)) (qE hM) (fun Mb Mc Ll Lu w hM Md hst => qL hS.ev hst.appF rfl fun hS => ?_))
        replace hS : Ss _ _ _ H [GA, Lu, GB, GP, GG] F _ _ := hS
        refine sM hS rfl fun hS => sO hS (ex rfl rfl) rfl fun hS => sO hS (ex rfl rfl) rfl fun hS => sA hS rfl fun hS => sA hS rfl fun hS => zc <| zr (qd ?_)
        exact G3 _ _ ⟨Ll, Lu, Mc, (0 : Int), Mb, hS.to [0, 1, 2, 3, 4] (by kernel_rfl) ⟨rfl, rfl, rfl, rfl, rfl, rfl, rfl, trivial⟩, Md, hM⟩
     ·intro a w hI
      obtain ⟨GD, GU, GY, Gw, GC, hS, G4, hM⟩ := hI
      rw [qJ.j2] at hM
      refine wp_seq <| qp <| sM hS rfl fun hS => sB hS rfl fun hS => qF <| qv hS rfl hM (fun LO hM => ?_) (fun LO hM => ?_)
      ·refine wp_seq ?_
       refine zB <| sM hS rfl fun hS => sA hS rfl fun hS => ?_
       obtain ⟨Me, LP, hS⟩ := hS.nilV 3 (ci .i64) 1
       refine sA hS rfl fun hS => qF <| wp_ret <| qz (zS (qz (zS (qz ?_))))
       exact zm (rs := [6, 7]) hS rfl rfl (hret none (0) ([] : List Int) Me GY GD GU _ (qV hM) LP G4 (hS.st.pick [0, 1, 2, 3] (by kernel_rfl)))
      ·refine wp_skip ?_
       refine qd <| wp_seq <| qp <| sM hS rfl fun hS => sM hS rfl fun hS => sM hS rfl fun hS => sO hS (xY rfl Tryd.runUnderlying45) rfl fun hS => sB hS rfl fun hS => sB hS rfl fun hS => qF <| qv hS rfl hM (fun LQ hM => ?_) (fun LQ hM => ?_)
       ·refine wp_seq ?_
        refine zB <| sA hS rfl fun hS => ?_
        obtain ⟨Mf, LR, hS⟩ := hS.nilV 3 (ci .i64) 1
        refine sA hS rfl fun hS => qF <| wp_ret <| qz (zS (qz (zS (qz ?_))))
        exact zm (rs := [6, 7]) hS rfl rfl (hret none (0) ([] : List Int) Mf (3 : Int) GD GU _ (qV hM) LR G4 (hS.st.pick [0, 1, 2, 3] (by kernel_rfl)))
       ·refine wp_skip ?_
        refine qd <| qp <| sA hS rfl fun hS => qF <| xw <| zk (fun Lv a w => ∃ (G7 : Option Addr) (G8 : Nat) (GJ : (List Int)) (G9 : qq) (La : Int), Ss 87 [] [(0, qS Gy 0), (1, .int .i64 Gz), (5, qS GK 0), (8, .slice G7 GJ.length G8), (11, .int .i64 Gw), (12, .int .i64 GC), (13, .int .i64 La)] H [GA, GU, GB, GP, G9] F a w ∧ (xa 3 (ci .i64) 1 G7 GJ G8 G9) ∧ (qJ.l3 K (qJ.l1 K Gv Gz Gu G6) GD Gw GC Lv GJ La).wp kr kp) K ?_ ?_ ?_
        ·exact ⟨GQ, GR, Gx, GG, (0 : Int), hS.to [0, 1, 2, 3, 4] (by kernel_rfl) ⟨rfl, rfl, rfl, rfl, rfl, rfl, rfl, trivial⟩, GS, hM⟩
        ·intro a w hI; obtain ⟨_, _, _, _, _, _, _, hM⟩ := hI; exact zj hM
        ·intro Lv a w hI Mu LS
         obtain ⟨G7, G8, GJ, G9, La, hS, Li, hM⟩ := hI
         rw [qJ.l3] at hM
         refine wp_seq <| qp <| sM hS rfl fun hS => sM hS rfl fun hS => sB hS rfl fun hS => qF <| qv hS rfl hM (fun LT hM => ?_) (fun LT hM => ?_)
         ·refine wp_skip ?_
          refine qd <| wp_seq <| xw <| zB <| sM hS rfl fun hS => sM hS rfl fun hS => Xz (g := (ci .i64)) ([Gw] : List Int) [.int .i64 Gw] hS Tryd.runUnderlying45 Tryd.sizeOf3 X.el3 rfl rfl rfl (by simp [Value.cells]) rfl rfl rfl rfl rfl fun w Mv Mw Mx LU hS => ?_
          obtain ⟨LV, hM⟩ := qH hM
          refine X9 (ys := ([Gw] : List Int)) 5 hS rfl rfl Li rfl (LU.rd (i := 0) rfl) Tryd.runUnderlying45 Tryd.runUnderlying45 X.el3 (fun _ => rfl) rfl xF LV rfl fun LW w Mg Mh Mi hz LX hS => ?_
          have hM := qC hz hM; clear hz
          refine sA hS rfl fun hS => zc <| zr (qd ?_)
          refine zB <| sM hS rfl fun hS => sB hS rfl fun hS => zz (v := Value.int .i64) (x0 := (qh (La + (1 : Int)))) hS (xj rfl) rfl fun Mj a w hz hS => ?_
          have hM := qC hz hM; clear hz
          refine zc <| qd ?_
          exact LS _ _ ⟨Mg, Mh, LW, Mi, Mj, hS.to [1, 2, 3, 4, 5] (by kernel_rfl) ⟨rfl, rfl, rfl, rfl, rfl, rfl, rfl, trivial⟩, LX, hM⟩
         ·refine wp_exit ?_
          refine qB (qB (qY (zr (qd ?_))))
          exact Lf _ _ ⟨GD, GU, G7, G8, GJ, G9, hS.to [0, 1, 2, 3, 4] (by kernel_rfl) ⟨rfl, rfl, rfl, rfl, trivial⟩, G4, Li, hM⟩
  ·refine wp_exit ?_
   refine qB (qB (qY (qd ?_)))
   refine qp <| sM hS rfl fun hS => sA hS rfl fun hS => sA hS rfl fun hS => qF <| wp_ret ?_
   exact zm (rs := [6, 7]) hS rfl rfl (hret GQ GR Gx GG (0 : Int) GI G1 _ (qV hM) GS Lg (hS.st.pick [4, 0, 1, 2] (by kernel_rfl)))
theorem jZ {H : xR} {F : List qq} {w : World} {R : Ending → World → Prop} {kr : (Int × Int × (List Int)) → Prop} {kp : Value → Prop} (hG : Gl H) (K : Nat) (Gu : qu) (GI : Nat) (Gv : qq) (GF : Nat) (G7 : qq) (GC : Option Addr) (GD : Nat) (Gw : qq) (GA : xZ Gv GI ([qS GF 0, .slice GC Gu.out_.length GD, .int .i64 Gu.limit_]) 84) (LD : xZ G7 GF ([yc Gu.r_.S_, .int .i64 Gu.r_.At_]) 82) (GB : xa 5 (ci .u8) 1 GC Gu.out_ GD Gw)
    (hS : St w H [Gv, G7, Gw] F) (hm : (xK.m K Gu).wp kr kp)
    (hret : ∀ (Li : Int) (GT : Int) (Lj : qq) (Lk : Option Addr) (Ll : Nat) (GK : (List Int)) (Lm : qq) (Ln : qq) (w : World), kr (Li, GT, GK) → (xZ Lj GF ([yc Gu.r_.S_, .int .i64 GT]) 82) → (xa 5 (ci .u8) 1 Lk GK Ll Lm) → (xZ Ln GI ([qS GF 0, .slice Lk GK.length Ll, .int .i64 Gu.limit_]) 84) → St w H [Ln, Lj, Lm] F → R (.returned (.int .i64 Li)) w) :
    Calls Tryd.prog 65 ⟨[qS GI 0]⟩ w R := by
 refine enter Tryd.func65 rfl Tryd.ntmps65 rfl hS fun a w hS => ?_
 have hM := hm; clear hm
 rw [xK.m] at hM
 refine qp <| sA hS rfl fun hS => qF <| qp <| sM hS rfl fun hS => qO hS rfl Tryd.call90 (vO hG K Gu GI Gv GF G7 GC GD Gw GA LD GB (hS.st.part 3 [0, 1, 2] (by kernel_rfl)) (qE hM) (fun LQ LR GU GV GL GN GW GX Gx GO LS GY G8 w hM Lo Lp Lq hst => qL hS.ev hst.appF rfl fun hS => ?_))
 replace hS : Ss _ _ _ H [GN, GO, Gv, G8, Gw] F _ _ := hS
 refine sM hS rfl fun hS => sO hS (ex rfl rfl) rfl fun hS => sO hS (ex rfl rfl) rfl fun hS => sO hS (ex rfl rfl) rfl fun hS => sO hS (ex rfl rfl) rfl fun hS => Qs ([.slice none 0 0, .slice none 0 0]) hS Tryd.zeroValue121 rfl rfl fun w Mb Mc LE hS => ?_
 obtain ⟨GZ, L5, hS⟩ := hS.nilV 3 (ci .i64) 1
 obtain ⟨G0, L6, hS⟩ := hS.nilV 3 (ci .i64) 1
 refine sA hS rfl fun hS => sA hS rfl fun hS => uz 2 ([.slice GU GL.length GV, .slice GW Gx.length GX]) ([.slice GU GL.length GV, .slice GW Gx.length GX]) hS rfl rfl LE rfl rfl Tryd.sizeOf121 (by simp [Value.oneCell']) (Nat.le_of_ble_eq_true rfl) rfl fun w G1 LF hS => sA hS rfl fun hS => qF <| wp_seq <| qp <| sM hS rfl fun hS => sB hS rfl fun hS => qF <| qv hS rfl hM (fun LG hM => ?_) (fun LG hM => ?_)
 ·refine wp_seq ?_
  refine zB <| sM hS rfl fun hS => sA hS rfl fun hS => qF <| wp_ret <| qz ?_
  exact zm (rs := [2]) hS rfl rfl (hret LS GY G8 GC GD Gu.out_ Gw Gv _ (qV hM) Lq GB GA (hS.st.pick [5, 6, 7] (by kernel_rfl)))
 ·refine wp_skip ?_
  refine qd <| qp <| sM hS rfl fun hS => sM hS rfl fun hS => sM hS rfl fun hS => sB hS rfl fun hS => sO hS (vF 2 rfl LF rfl ([.slice GU GL.length GV, .slice GW Gx.length GX]) rfl rfl Tryd.isAgg121 Tryd.sizeOf121) rfl fun hS => qO hS rfl Tryd.call91 (v5 hG K (qu.mk (qm.mk Gu.r_.S_ GY) Gu.out_ Gu.limit_) (qh (LQ + LR)) (zx.mk GL Gx) GI Gv GF G8 GC GD Gw GU GV GW GX GA Lq GB (Lo.rdF (i := 3) rfl) (Lo.cap (fun _ => rfl) rfl) (Lp.rdF (i := 4) rfl) (Lp.cap (fun _ => rfl) rfl) (hS.st.part 3 [5, 6, 7, 0, 1, 2, 3, 4] (by kernel_rfl)) (qE hM) (fun Md Me LT G2 LU GM GJ w hM GE G9 hst => qL hS.ev hst.appF rfl fun hS => ?_))
  replace hS : Ss _ _ _ H [G2, Gv, GJ, Gw, G0, GZ, G1, GN, GO] F _ _ := hS
  refine sM hS rfl fun hS => sO hS (ex rfl rfl) rfl fun hS => sO hS (ex rfl rfl) rfl fun hS => sA hS rfl fun hS => sA hS rfl fun hS => qF <| wp_seq <| qp <| sM hS rfl fun hS => sB hS rfl fun hS => qF <| qv hS rfl hM (fun LH hM => ?_) (fun LH hM => ?_)
  ·refine wp_seq ?_
   refine zB <| sM hS rfl fun hS => sA hS rfl fun hS => qF <| wp_ret <| qz ?_
   exact zm (rs := [2]) hS rfl rfl (hret LU GM GJ GC GD Gu.out_ Gw Gv _ (qV hM) G9 GB GA (hS.st.pick [1, 2, 3] (by kernel_rfl)))
  ·refine wp_skip ?_
   refine qd <| qp <| sM hS rfl fun hS => sM hS rfl fun hS => ?_
   obtain ⟨LI, hM⟩ := qH hM
   refine BZ (g := (ci .i64)) hS rfl Tryd.runUnderlying45 Tryd.sizeOf3 Da (Bz rfl) (fun _ => rfl) (GE.cap (fun _ => rfl) rfl) LI rfl fun GG GP GQ a w hz La Lb hS => ?_
   have hM := qC hz hM; clear hz
   refine qO hS rfl Tryd.call63 (yh hG K GG GP GQ (La _ _ _ (GE.rdF (i := 0) rfl)) Lb (hS.st.part 0 [0, 1, 2, 3, 4, 5, 6, 7, 8] (by kernel_rfl)) (qE hM) (fun G3 G4 Gy Lc Lr w hM Lt hst => qL hS.ev hst.appF rfl fun hS => ?_))
   replace hS : Ss _ _ _ H [Lc, G2, Gv, GJ, Gw, G0, GZ, G1, GN, GO] F _ _ := hS
   refine sM hS rfl fun hS => sO hS (ex rfl rfl) rfl fun hS => sO hS (ex rfl rfl) rfl fun hS => Qs ([.slice none 0 0, .slice none 0 0]) hS Tryd.zeroValue121 rfl rfl fun w Mf Mg LJ hS => ?_
   obtain ⟨Lu, L7, hS⟩ := hS.nilV 3 (ci .i64) 1
   obtain ⟨Lv, L8, hS⟩ := hS.nilV 3 (ci .i64) 1
   refine uz 2 ([.slice GP GG.length GQ, .slice G3 Gy.length G4]) ([.slice GP GG.length GQ, .slice G3 Gy.length G4]) hS rfl rfl LJ rfl rfl Tryd.sizeOf121 (by simp [Value.oneCell']) (Nat.le_of_ble_eq_true rfl) rfl fun w Lw LK hS => sA hS rfl fun hS => qF <| qp <| sM hS rfl fun hS => sM hS rfl fun hS => ?_
   obtain ⟨LL, hM⟩ := qH hM
   refine BZ (g := (ci .i64)) hS rfl Tryd.runUnderlying45 Tryd.sizeOf3 (DM rfl) B6 (fun _ => rfl) (GE.cap (fun _ => rfl) rfl) LL rfl fun GH GR GS a w hz Ld Le hS => ?_
   have hM := qC hz hM; clear hz
   refine qO hS rfl Tryd.call63 (yh hG K GH GR GS (Ld _ _ _ (GE.rdF (i := 4) rfl)) Le (hS.st.part 0 [0, 1, 2, 3, 4, 5, 6, 7, 8, 9, 10, 11, 12] (by kernel_rfl)) (qE hM) (fun G5 G6 Gz Lx Ly w hM Lz hst => qL hS.ev hst.appF rfl fun hS => ?_))
   replace hS : Ss _ _ _ H [Lx, Lv, Lu, Lw, Lc, G2, Gv, GJ, Gw, G0, GZ, G1, GN, GO] F _ _ := hS
   refine sM hS rfl fun hS => sO hS (ex rfl rfl) rfl fun hS => sO hS (ex rfl rfl) rfl fun hS => Qs ([.slice none 0 0, .slice none 0 0]) hS Tryd.zeroValue121 rfl rfl fun w Mh Mi LM hS => ?_
   obtain ⟨LV, L9, hS⟩ := hS.nilV 3 (ci .i64) 1
   obtain ⟨LW, Ma, hS⟩ := hS.nilV 3 (ci .i64) 1
   refine uz 2 ([.slice GR GH.length GS, .slice G5 Gz.length G6]) ([.slice GR GH.length GS, .slice G5 Gz.length G6]) hS rfl rfl LM rfl rfl Tryd.sizeOf121 (by simp [Value.oneCell']) (Nat.le_of_ble_eq_true rfl) rfl fun w LX LN hS => sA hS rfl fun hS => qF <| wp_seq <| qp <| sM hS rfl fun hS => sO hS (un rfl rfl) rfl fun hS => sM hS rfl fun hS => yo 2 false 51 (b := (!Lr)) (r := (!Ly)) hS rfl rfl rfl rfl rfl rfl rfl (fun hb a w hS K hK => ?_) rfl fun a w hS => ?_
   ·refine zL hS rfl rfl rfl hb (mv rfl) rfl fun a w hS => ?_
    refine zL hS rfl rfl rfl hb (un rfl rfl) rfl fun a w hS => ?_
    exact zc (hK _ _ (hS.up 2 rfl rfl))
   refine sM hS rfl fun hS => ?_
   obtain ⟨LO, hM⟩ := qH hM
   refine yo 4 false 55 (b := ((!Lr) || (!Ly))) (r := ((rd LT (256 : Int)) == (0 : Int))) hS rfl rfl rfl rfl rfl rfl rfl (fun hb a w hS K hK => ?_) rfl fun a w hS => ?_
   ·refine zL hS rfl rfl rfl hb (mv rfl) rfl fun a w hS => ?_
    have Lf := Yp LO hb
    refine zL hS rfl rfl rfl hb (xM rfl rfl Tryd.runUnderlying45 Tryd.sizeOf3 (GE.rd (i := 8) rfl) (fun _ => rfl) rfl Lf) rfl fun a w hS => zL hS rfl rfl rfl hb (yd rfl (GE.rd (i := 8) rfl) (fun _ => rfl) Lf rfl Tryd.isAgg3) rfl fun a w hS => zL hS rfl rfl rfl hb (yU rfl rfl rfl) rfl fun a w hS => ?_
    exact zc (hK _ _ (hS.up 4 rfl rfl))
   refine qF <| qv hS rfl hM (fun LP hM => ?_) (fun LP hM => ?_)
   ·refine wp_seq ?_
    refine zB <| sA hS rfl fun hS => qF <| wp_ret <| qz ?_
    exact zm (rs := [2]) hS rfl rfl (hret (3 : Int) GM GJ GC GD Gu.out_ Gw Gv _ (qV hM) G9 GB GA (hS.st.pick [9, 10, 11] (by kernel_rfl)))
   ·refine wp_skip ?_
    refine qd <| qp <| sM hS rfl fun hS => sO hS (vF 6 rfl LK rfl ([.slice GP GG.length GQ, .slice G3 Gy.length G4]) rfl rfl Tryd.isAgg121 Tryd.sizeOf121) rfl fun hS => sO hS (vF 2 rfl LN rfl ([.slice GR GH.length GS, .slice G5 Gz.length G6]) rfl rfl Tryd.isAgg121 Tryd.sizeOf121) rfl fun hS => qO hS rfl Tryd.call64 (yT hG K (qu.mk (qm.mk Gu.r_.S_ GM) Gu.out_ Gu.limit_) (zx.mk GG Gy) (zx.mk GH Gz) GI Gv GF GJ GC GD Gw GP GQ G3 G4 GR GS G5 G6 GA G9 GB (La _ _ _ (GE.rdF (i := 8) rfl)) Lb (Lt.rdF (i := 7) rfl) (Lt.cap (fun _ => rfl) rfl) (Ld _ _ _ (GE.rdF (i := 8) rfl)) Le (Lz.rdF (i := 3) rfl) (Lz.cap (fun _ => rfl) rfl) (hS.st.part 3 [9, 10, 11, 0, 1, 2, 3, 4, 5, 6, 7, 8, 12, 13, 14, 15, 16] (by kernel_rfl)) (qE hM) (fun LY Lg LA LZ L0 Lh LB LC w hM L1 L3 L4 hst => qL hS.ev hst.appF rfl fun hS => ?_))
    replace hS : Ss _ _ _ H [LC, LA, LB, LW, LV, LX, Lx, Lv, Lu, Lw, Lc, G2, G0, GZ, G1, GN, GO] F _ _ := hS
    refine sA hS rfl fun hS => qF <| wp_ret ?_
    exact zm (rs := [2]) hS rfl rfl (hret LY Lg LA LZ L0 Lh LB LC _ (qV hM) L1 L3 L4 (hS.st.pick [0, 1, 2] (by kernel_rfl)))
theorem vu {H : xR} {F : List qq} {w : World} {R : Ending → World → Prop} {kr : (Bool × Int × Int × (List Int)) → Prop} {kp : Value → Prop} (hG : Gl H) (K : Nat) (Gu : qu) (GG : Nat) (Gv : qq) (GD : Nat) (GZ : qq) (GB : Option Addr) (GC : Nat) (Gw : qq) (Gx : xZ Gv GG ([qS GD 0, .slice GB Gu.out_.length GC, .int .i64 Gu.limit_]) 84) (Ly : xZ GZ GD ([yc Gu.r_.S_, .int .i64 Gu.r_.At_]) 82) (Gy : xa 5 (ci .u8) 1 GB Gu.out_ GC Gw)
    (hS : St w H [Gv, GZ, Gw] F) (hm : (xS.m K Gu).wp kr kp)
    (hret : ∀ (La : Bool) (Lb : Int) (GP : Int) (Lc : qq) (Ld : Option Addr) (Le : Nat) (GH : (List Int)) (Lf : qq) (Lg : qq) (w : World), kr (La, Lb, GP, GH) → (xZ Lc GD ([yc Gu.r_.S_, .int .i64 GP]) 82) → (xa 5 (ci .u8) 1 Ld GH Le Lf) → (xZ Lg GG ([qS GD 0, .slice Ld GH.length Le, .int .i64 Gu.limit_]) 84) → St w H [Lg, Lc, Lf] F → R (.returned (.tuple ⟨[.bool La, .int .i64 Lb]⟩)) w) :
    Calls Tryd.prog 42 ⟨[qS GG 0]⟩ w R := by
 refine enter Tryd.func42 rfl Tryd.ntmps42 rfl hS fun a w hS => ?_
 have hM := hm; clear hm
 rw [xS.m] at hM
 refine qp <| sA hS rfl fun hS => sA hS rfl fun hS => qF <| qp <| sM hS rfl fun hS => qO hS rfl Tryd.call61 (zU hG K Gu (1 : Int) (0 : Int) GG Gv GD GZ GB GC Gw Gx Ly Gy (hS.st.part 3 [0, 1, 2] (by kernel_rfl)) (qE hM) (fun G0 LI GQ G1 w hM Lh hst => qL hS.ev hst.appF rfl fun hS => ?_))
 replace hS : Ss _ _ _ H [Gv, G1, Gw] F _ _ := hS
 refine sM hS rfl fun hS => sO hS (ex rfl rfl) rfl fun hS => sO hS (ex rfl rfl) rfl fun hS => sA hS rfl fun hS => sA hS rfl fun hS => qF <| wp_seq <| qp <| sM hS rfl fun hS => sB hS rfl fun hS => qF <| qv hS rfl hM (fun Lz hM => ?_) (fun Lz hM => ?_)
 ·refine wp_seq ?_
  refine zB <| sM hS rfl fun hS => sA hS rfl fun hS => sA hS rfl fun hS => qF <| wp_ret <| qz ?_
  exact zm (rs := [2, 3]) hS rfl rfl (hret false LI GQ G1 GB GC Gu.out_ Gw Gv _ (qV hM) Lh Gy Gx (hS.st.pick [0, 1, 2] (by kernel_rfl)))
 ·refine wp_skip ?_
  refine qd <| qp <| sM hS rfl fun hS => qO hS rfl Tryd.call61 (zU hG K (qu.mk (qm.mk Gu.r_.S_ GQ) Gu.out_ Gu.limit_) (2 : Int) (0 : Int) GG Gv GD G1 GB GC Gw Gx Lh Gy (hS.st.part 3 [0, 1, 2] (by kernel_rfl)) (qE hM) (fun G2 LJ GE GF w hM GI hst => qL hS.ev hst.appF rfl fun hS => ?_))
  replace hS : Ss _ _ _ H [Gv, GF, Gw] F _ _ := hS
  refine sM hS rfl fun hS => sO hS (ex rfl rfl) rfl fun hS => sO hS (ex rfl rfl) rfl fun hS => sA hS rfl fun hS => sA hS rfl fun hS => qF <| wp_seq <| qp <| sM hS rfl fun hS => sB hS rfl fun hS => qF <| qv hS rfl hM (fun LA hM => ?_) (fun LA hM => ?_)
  ·refine wp_seq ?_
   refine zB <| sM hS rfl fun hS => sA hS rfl fun hS => sA hS rfl fun hS => qF <| wp_ret <| qz ?_
   exact zm (rs := [2, 3]) hS rfl rfl (hret false LJ GE GF GB GC Gu.out_ Gw Gv _ (qV hM) GI Gy Gx (hS.st.pick [0, 1, 2] (by kernel_rfl)))
  ·refine wp_skip ?_
   refine qd <| wp_seq <| qp <| sM hS rfl fun hS => qF <| xw <| qp <| sB hS rfl fun hS => zz (v := Value.bool) (x0 := (G2 == (0 : Int))) hS (xj rfl) rfl fun Md a w hz hS => ?_
   have hM := qC hz hM; clear hz
   refine qF <| qv hS rfl hM (fun LB hM => ?_) (fun LB hM => ?_)
   ·refine wp_seq ?_
    refine zB <| sM hS rfl fun hS => sB hS rfl fun hS => sM hS rfl fun hS => qO hS rfl Tryd.call62 (ve hG K (qu.mk (qm.mk Gu.r_.S_ GE) Gu.out_ Gu.limit_) GG Gv GD GF GB GC Gw Gx GI Gy (hS.st.part 3 [0, 1, 2] (by kernel_rfl)) (qE hM) (fun LK G4 Li LL LM G5 Lj Lk w hM LN LO LP hst => qL hS.ev hst.appF rfl fun hS => ?_))
    replace hS : Ss _ _ _ H [Lk, Li, Lj] F _ _ := hS
    refine zz (v := Value.bool) (x0 := (G0 == (1 : Int))) hS (xj rfl) rfl fun LQ a w hz hS => ?_
    have hM := qC hz hM; clear hz
    refine sA hS rfl fun hS => qF <| wp_ret <| zS (qz ?_)
    exact zm (rs := [2, 3]) hS rfl rfl (hret LQ LK G4 Li LL LM G5 Lj Lk _ (qV hM) LN LO LP (hS.st.pick [0, 1, 2] (by kernel_rfl)))
   ·refine wp_seq ?_
    refine zB <| sB hS rfl fun hS => zz (v := Value.bool) (x0 := (G2 == (1 : Int))) hS (xj rfl) rfl fun Me a w hz hS => ?_
    have hM := qC hz hM; clear hz
    refine qF <| qv hS rfl hM (fun LC hM => ?_) (fun LC hM => ?_)
    ·refine wp_seq ?_
     refine zB <| qO hS rfl Tryd.call26 (u3 hG K  (hS.st.part 0 [0, 1, 2] (by kernel_rfl)) (qE hM) (fun GJ GK GL GR GM GN GO GS w hM GT GU hst => qL hS.ev hst.appF rfl fun hS => ?_))
     replace hS : Ss _ _ _ H [GR, GS, Gv, GF, Gw] F _ _ := hS
     refine sM hS rfl fun hS => sO hS (ex rfl rfl) rfl fun hS => sO hS (ex rfl rfl) rfl fun hS => sA hS rfl fun hS => sA hS rfl fun hS => qF <| qp <| sM hS rfl fun hS => qO hS rfl Tryd.call63 (yh hG K GL GJ GK (GT.rdF (i := 0) rfl) (GT.cap (fun _ => rfl) rfl) (hS.st.part 0 [0, 1, 2, 3, 4] (by kernel_rfl)) (qE hM) (fun GV GW Gz G3 Mf w hM Ll hst => qL hS.ev hst.appF rfl fun hS => ?_))
     replace hS : Ss _ _ _ H [G3, GR, GS, Gv, GF, Gw] F _ _ := hS
     refine sM hS rfl fun hS => sO hS (ex rfl rfl) rfl fun hS => sO hS (ex rfl rfl) rfl fun hS => Qs ([.slice none 0 0, .slice none 0 0]) hS Tryd.zeroValue121 rfl rfl fun w Mg Mh LD hS => ?_
     obtain ⟨Lm, L9, hS⟩ := hS.nilV 3 (ci .i64) 1
     obtain ⟨Ln, Ma, hS⟩ := hS.nilV 3 (ci .i64) 1
     refine uz 2 ([.slice GJ GL.length GK, .slice GV Gz.length GW]) ([.slice GJ GL.length GK, .slice GV Gz.length GW]) hS rfl rfl LD rfl rfl Tryd.sizeOf121 (by simp [Value.oneCell']) (Nat.le_of_ble_eq_true rfl) rfl fun w Lo LE hS => sA hS rfl fun hS => qF <| qp <| sM hS rfl fun hS => qO hS rfl Tryd.call63 (yh hG K GO GM GN (GU.rdF (i := 5) rfl) (GU.cap (fun _ => rfl) rfl) (hS.st.part 0 [0, 1, 2, 3, 4, 5, 6, 7, 8] (by kernel_rfl)) (qE hM) (fun GX GY GA Lp Mi w hM Lq hst => qL hS.ev hst.appF rfl fun hS => ?_))
     replace hS : Ss _ _ _ H [Lp, Ln, Lm, Lo, G3, GR, GS, Gv, GF, Gw] F _ _ := hS
     refine sM hS rfl fun hS => sO hS (ex rfl rfl) rfl fun hS => sO hS (ex rfl rfl) rfl fun hS => Qs ([.slice none 0 0, .slice none 0 0]) hS Tryd.zeroValue121 rfl rfl fun w Mj Mk LF hS => ?_
     obtain ⟨LR, Mb, hS⟩ := hS.nilV 3 (ci .i64) 1
     obtain ⟨LS, Mc, hS⟩ := hS.nilV 3 (ci .i64) 1
     refine uz 2 ([.slice GM GO.length GN, .slice GX GA.length GY]) ([.slice GM GO.length GN, .slice GX GA.length GY]) hS rfl rfl LF rfl rfl Tryd.sizeOf121 (by simp [Value.oneCell']) (Nat.le_of_ble_eq_true rfl) rfl fun w LT LG hS => sA hS rfl fun hS => qF <| qp <| sM hS rfl fun hS => sB hS rfl fun hS => sM hS rfl fun hS => sO hS (vF 6 rfl LE rfl ([.slice GJ GL.length GK, .slice GV Gz.length GW]) rfl rfl Tryd.isAgg121 Tryd.sizeOf121) rfl fun hS => sO hS (vF 2 rfl LG rfl ([.slice GM GO.length GN, .slice GX GA.length GY]) rfl rfl Tryd.isAgg121 Tryd.sizeOf121) rfl fun hS => qO hS rfl Tryd.call64 (yT hG K (qu.mk (qm.mk Gu.r_.S_ GE) Gu.out_ Gu.limit_) (zx.mk GL Gz) (zx.mk GO GA) GG Gv GD GF GB GC Gw GJ GK GV GW GM GN GX GY Gx GI Gy (GT.rdF (i := 8) rfl) (GT.cap (fun _ => rfl) rfl) (Ll.rdF (i := 7) rfl) (Ll.cap (fun _ => rfl) rfl) (GU.rdF (i := 9) rfl) (GU.cap (fun _ => rfl) rfl) (Lq.rdF (i := 3) rfl) (Lq.cap (fun _ => rfl) rfl) (hS.st.part 3 [10, 11, 12, 0, 1, 2, 3, 4, 5, 6, 7, 8, 9] (by kernel_rfl)) (qE hM) (fun LU G6 Lr LV LW G7 Lt Lu w hM LX LY LZ hst => qL hS.ev hst.appF rfl fun hS => ?_))
     replace hS : Ss _ _ _ H [Lu, Lr, Lt, LS, LR, LT, Lp, Ln, Lm, Lo, G3, GR, GS] F _ _ := hS
     refine zz (v := Value.bool) (x0 := (G0 == (1 : Int))) hS (xj rfl) rfl fun L0 a w hz hS => ?_
     have hM := qC hz hM; clear hz
     refine sA hS rfl fun hS => qF <| wp_ret <| zS (qz ?_)
     exact zm (rs := [2, 3]) hS rfl rfl (hret L0 LU G6 Lr LV LW G7 Lt Lu _ (qV hM) LX LY LZ (hS.st.pick [0, 1, 2] (by kernel_rfl)))
    ·refine wp_seq ?_
     refine zB <| sB hS rfl fun hS => zz (v := Value.bool) (x0 := (G2 == (2 : Int))) hS (xj rfl) rfl fun Ml a w hz hS => ?_
     have hM := qC hz hM; clear hz
     refine qF <| qv hS rfl hM (fun LH hM => ?_) (fun LH hM => ?_)
     ·refine wp_seq ?_
      refine zB <| sM hS rfl fun hS => sB hS rfl fun hS => sM hS rfl fun hS => qO hS rfl Tryd.call65 (jZ hG K (qu.mk (qm.mk Gu.r_.S_ GE) Gu.out_ Gu.limit_) GG Gv GD GF GB GC Gw Gx GI Gy (hS.st.part 3 [0, 1, 2] (by kernel_rfl)) (qE hM) (fun L1 G8 Lv L3 L4 G9 Lw Lx w hM L5 L6 L7 hst => qL hS.ev hst.appF rfl fun hS => ?_))
      replace hS : Ss _ _ _ H [Lx, Lv, Lw] F _ _ := hS
      refine zz (v := Value.bool) (x0 := (G0 == (1 : Int))) hS (xj rfl) rfl fun L8 a w hz hS => ?_
      have hM := qC hz hM; clear hz
      refine sA hS rfl fun hS => qF <| wp_ret <| zS (qz ?_)
      exact zm (rs := [2, 3]) hS rfl rfl (hret L8 L1 G8 Lv L3 L4 G9 Lw Lx _ (qV hM) L5 L6 L7 (hS.st.pick [0, 1, 2] (by kernel_rfl)))
     ·refine wp_skip ?_
      refine zr (qd ?_)
      refine qp <| sA hS rfl fun hS => sA hS rfl fun hS => qF <| wp_ret ?_
      exact zm (rs := [2, 3]) hS rfl rfl (hret false (3 : Int) GE GF GB GC Gu.out_ Gw Gv _ (qV hM) GI Gy Gx (hS.st.pick [0, 1, 2] (by kernel_rfl)))
theorem uB {H : xR} {F : List qq} {w : World} {R : Ending → World → Prop} {kr : ((List UInt8) × Int × Int) → Prop} {kp : Value → Prop} (hG : Gl H) (K : Nat) (GB : List UInt8) (Gu : Int)
    (hS : St w H [] F) (hm : (z7.m K GB Gu).wp kr kp)
    (hret : ∀ (GM : List UInt8) (GN : Int) (GO : Int) (w : World), kr (GM, GN, GO) → St w H [] F → R (.returned (.tuple ⟨[yc GM, .int .i64 GN, .int .i64 GO]⟩)) w) :
    Calls Tryd.prog 17 ⟨[yc GB, .int .i64 Gu]⟩ w R := by
 refine enter Tryd.func17 rfl Tryd.ntmps17 rfl hS fun a w hS => ?_
 have hM := hm; clear hm
 rw [z7.m] at hM
 refine qp <| sA hS rfl fun hS => sA hS rfl fun hS => sA hS rfl fun hS => qF <| wp_seq <| qp <| sM hS rfl fun hS => sB hS rfl fun hS => sM hS rfl fun hS => yo 2 false 12 (b := (decide (Gu < (0 : Int)))) (r := (decide (Gu > (1073741824 : Int)))) hS rfl rfl rfl rfl rfl rfl rfl (fun hb a w hS K hK => ?_) rfl fun a w hS => ?_
 ·refine zL hS rfl rfl rfl hb (mv rfl) rfl fun a w hS => ?_
  refine zL hS rfl rfl rfl hb (yU rfl rfl rfl) rfl fun a w hS => ?_
  exact zc (hK _ _ (hS.up 2 rfl rfl))
 refine qF <| qv hS rfl hM (fun GX hM => ?_) (fun GX hM => ?_)
 ·refine wp_seq ?_
  refine zB <| sA hS rfl fun hS => sA hS rfl fun hS => sA hS rfl fun hS => qF <| wp_ret <| qz ?_
  exact zm (rs := [4, 5, 6]) hS rfl rfl (hret ([] : List UInt8) (0 : Int) (1 : Int) _ (qV hM) (hS.st.pick [] (by kernel_rfl)))
 ·refine wp_skip ?_
  refine qd <| qp <| sM hS rfl fun hS => sO hS (Zx ([yc GB, .int .i64 (0 : Int)]) [(0, 1), (1, 1)] Tryd.zeroValue82 Tryd.runUnderlying82 (by intro w; simp [Tryd.sizeOf3, Tryd.sizeOf9]) rfl rfl) rfl fun hS => bx ([yc GB, .int .i64 (0 : Int)]) hS rfl rfl rfl fun w Gy G7 GY hS => sM hS rfl fun hS => sO hS (Zx ([qS Gy 0, .slice none 0 0, .int .i64 Gu]) [(0, 1), (1, 1), (2, 1)] Tryd.zeroValue84 Tryd.runUnderlying84 (by intro w; simp [Tryd.sizeOf3, Tryd.sizeOf38, Tryd.sizeOf80]) rfl rfl) rfl fun hS => bx ([qS Gy 0, .slice none 0 0, .int .i64 Gu]) hS rfl rfl rfl fun w Gv G8 GZ hS => ?_
  obtain ⟨G9, G0, hS⟩ := hS.nilV 5 (ci .u8) 1
  refine sA hS rfl fun hS => qF <| xw <| zk (fun GP a w => ∃ (Gz : Int) (GC : qq) (GD : Option Addr) (GE : Nat) (Gw : (List Int)) (GF : qq) (GG : qq), Ss 45 [] [(7, qS Gv 0)] H [GG, GC, GF] F a w ∧ (xZ GC Gy ([yc GB, .int .i64 Gz]) 82) ∧ (xa 5 (ci .u8) 1 GD Gw GE GF) ∧ (xZ GG Gv ([qS Gy 0, .slice GD Gw.length GE, .int .i64 Gu]) 84) ∧ (z7.l1 K GB Gu GP Gz Gw).wp kr kp) K ?_ ?_ ?_
  ·exact ⟨(0 : Int), G7, none, 0, ([] : List Int), G9, G8, hS.to [1, 2, 0] (by kernel_rfl) ⟨rfl, trivial⟩, GY, G0, GZ, hM⟩
  ·intro a w hI; obtain ⟨_, _, _, _, _, _, _, _, _, _, _, hM⟩ := hI; exact zj hM
  ·intro GP a w hI Lb G1
   obtain ⟨Gz, GC, GD, GE, Gw, GF, GG, hS, G2, G3, G4, hM⟩ := hI
   rw [z7.l1] at hM
   refine xw <| qp <| sM hS rfl fun hS => qO hS rfl Tryd.call42 (vu hG K (qu.mk (qm.mk GB Gz) Gw Gu) Gv GG Gy GC GD GE GF G4 G2 G3 (hS.st.part 3 [0, 1, 2] (by kernel_rfl)) (qE hM) (fun Lc La Gx GQ GR GS GA GT GU w hM GV GW GH hst => qL hS.ev hst.appF rfl fun hS => ?_))
   replace hS : Ss _ _ _ H [GU, GQ, GT] F _ _ := hS
   refine sM hS rfl fun hS => sO hS (ex rfl rfl) rfl fun hS => sO hS (ex rfl rfl) rfl fun hS => sA hS rfl fun hS => sA hS rfl fun hS => qF <| wp_seq <| qp <| sM hS rfl fun hS => sB hS rfl fun hS => qF <| qv hS rfl hM (fun G5 hM => ?_) (fun G5 hM => ?_)
   ·refine wp_seq ?_
    refine zB <| sM hS rfl fun hS => sA hS rfl fun hS => sA hS rfl fun hS => sA hS rfl fun hS => qF <| wp_ret <| qz (zS (qz (zS ?_)))
    exact zm (rs := [4, 5, 6]) hS rfl rfl (hret ([] : List UInt8) (0 : Int) La _ (qV hM) (hS.st.pick [] (by kernel_rfl)))
   ·refine wp_skip ?_
    refine qd <| qp <| sM hS rfl fun hS => qF <| qv hS rfl hM (fun G6 hM => ?_) (fun G6 hM => ?_)
    ·refine wp_seq ?_
     obtain ⟨GI, GJ⟩ : ∃ x, x = (GA.map ZX) := ⟨_, rfl⟩
     replace hM := qC GJ hM
     obtain ⟨GK, GL⟩ : ∃ x, x = (yY .i64 (qh (Gx + (7 : Int))) (8 : Int)) := ⟨_, rfl⟩
     replace hM := qC GL hM
     refine za (vals := [some (qS Gv 0), some (qS Gv 0), some (qS Gv 1), some (.slice GR GA.length GS), some (yc (GA.map ZX)), some (qS Gv 0), some (qS Gv 0), some (qS Gv 0), some (qS Gy 0), some (qS Gy 0), some (qS Gy 1), some (.int .i64 Gx), some (.int .i64 (qh (Gx + (7 : Int)))), some (.int .i64 (yY .i64 (qh (Gx + (7 : Int))) (8 : Int))), some (yc GI), some (.int .i64 GK), some (.int .i64 (0 : Int))]) hS xp rfl ?_
     intro l w ho hcl hA hst
     refine x3 hA hst ho hcl xo [0, 1, 2, 3, 4, 5, 6, 7, 8, 9, 10, 11, 12, 13, 14, 15, 16] rfl rfl rfl (by exact ⟨nM rfl, nQ rfl (by exact qU (yx rfl) rfl), nQ rfl (by exact qU (xu rfl Tryd.runUnderlying84 rfl Tryd.sizeOf38 rfl) rfl), nQ rfl (by exact qU (xW 0 rfl GH rfl rfl Tryd.isAgg38) rfl), nQ rfl (by exact qU (DD rfl Tryd.runUnderlying38 Tryd.runUnderlying5 Tryd.runUnderlying9 (GW.rd (i := 2) rfl)) rfl), nM rfl, nQ rfl (by exact qU (yx rfl) rfl), nQ rfl (by exact qU (xu rfl Tryd.runUnderlying84 rfl Tryd.sizeOf80 rfl) rfl), nQ rfl (by exact qU (xW 0 rfl GH rfl rfl Tryd.isAgg80) rfl), nQ rfl (by exact qU (yx rfl) rfl), nQ rfl (by exact qU (xu rfl Tryd.runUnderlying82 rfl Tryd.sizeOf3 rfl) rfl), nQ rfl (by exact qU (xW 1 rfl GV rfl rfl Tryd.isAgg3) rfl), nB rfl, nQ rfl (by exact qU (quo rfl rfl rfl) rfl), nQ rfl (by exact qU (xj rfl) (congrArg (yc) GJ.symm)), nQ rfl (by exact qU (xj rfl) (congrArg (Value.int .i64) GL.symm)), nA rfl, trivial⟩) fun a w hS => ?_
     replace hS := hS.env2 (e' := [(4, yc GI), (5, .int .i64 GK), (6, .int .i64 (0 : Int))]) ⟨rfl, rfl, rfl, trivial⟩
     refine qd <| wp_ret <| zS (qz (zS ?_))
     exact zm (rs := [4, 5, 6]) hS rfl rfl (hret GI GK (0 : Int) _ (qV hM) (hS.st.pick [] (by kernel_rfl)))
    ·refine wp_skip ?_
     refine zr (qd ?_)
     exact G1 _ _ ⟨Gx, GQ, GR, GS, GA, GT, GU, hS.to [0, 1, 2] (by kernel_rfl) ⟨rfl, trivial⟩, GV, GW, GH, hM⟩
theorem jQ {H : xR} {F : List qq} {w : World} {R : Ending → World → Prop} {kr : Bool → Prop} {kp : Value → Prop} (hG : Gl H) (K : Nat) (l_1 : List qr) (A2 : Option Addr) (c3 : Nat) (hr4 : jm H [] F qr.cells A2 l_1) (hc5 : l_1.length ≤ c3)
    (hS : St w H [] F) (hm : (qG.m K l_1).wp kr kp)
    (hret : ∀ (GH : Bool) (w : World), kr GH → St w H [] F → R (.returned (.bool GH)) w)
    (hpan : ∀ v w, kp v → St w H [] F → R (.panicked [⟨v, false, false⟩]) w) :
    Calls Tryd.prog 5 ⟨[.slice A2 l_1.length c3]⟩ w R := by
 refine enter Tryd.func5 rfl Tryd.ntmps5 rfl hS fun a w hS => ?_
 have hM := hm; clear hm
 rw [qG.m] at hM
 refine qp <| sA hS rfl fun hS => qF <| wp_seq <| qp <| sM hS rfl fun hS => sO hS (xY rfl Tryd.runUnderlying25) rfl fun hS => sB hS rfl fun hS => qF <| qv hS rfl hM (fun hb6 hM => ?_) (fun hb6 hM => ?_)
 ·refine wp_seq ?_
  refine zB <| qO hS rfl Tryd.call9 (yn hG K  (hS.st.part 0 [] (by kernel_rfl)) (qE hM) (fun GT w hM  hst => qL hS.ev hst.appF rfl fun hS => ?_) (fun v w hk hst => jK (zX (zX (⟨hS.ev.defs, hpan _ _ hk hst.appF.frame⟩)))))
  replace hS : Ss _ _ _ H [] F _ _ := hS
  refine sA hS rfl fun hS => qF <| wp_ret <| qz ?_
  exact zm (rs := [2]) hS rfl rfl (hret GT _ (qV hM) (hS.st.pick [] (by kernel_rfl)))
 ·refine wp_skip ?_
  refine qd <| qp <| sM hS rfl fun hS => qO hS rfl Tryd.call14 (jC hG K l_1 A2 c3 (hr4.app _) hc5 (hS.st.part 0 [] (by kernel_rfl)) (qE hM) (fun Gu Gv w hM  hst => qL hS.ev hst.appF rfl fun hS => ?_) (fun v w hk hst => jK (zX (⟨hS.ev.defs, hpan _ _ hk hst.appF.frame⟩))))
  replace hS : Ss _ _ _ H [] F _ _ := hS
  refine sM hS rfl fun hS => sO hS (ex rfl rfl) rfl fun hS => sO hS (ex rfl rfl) rfl fun hS => sA hS rfl fun hS => sA hS rfl fun hS => qF <| zg (fun a w => Ss 92 [] [(0, .slice A2 l_1.length c3), (3, yc Gu), (4, .int .i64 Gv)] H [] F a w ∧ (qG.j3 K l_1 Gu Gv).wp kr kp) (fun GZ GK => ?_) ?_
  ·refine wp_seq ?_
   refine zB <| sA hS rfl fun hS => qF <| xw <| zk (fun GI a w => ∃ (Gw : Int), Ss 92 [] [(0, .slice A2 l_1.length c3), (3, yc Gu), (4, .int .i64 Gv), (5, .int .i64 Gw)] H [] F a w ∧ (qG.l1 K l_1 Gu Gv GI Gw).wp kr kp) K ?_ ?_ ?_
   ·exact ⟨(0 : Int), hS.to [] (by kernel_rfl) ⟨rfl, rfl, rfl, rfl, trivial⟩, hM⟩
   ·intro a w hI; obtain ⟨_, _, hM⟩ := hI; exact zj hM
   ·intro GI a w hI G0 GL
    obtain ⟨Gw, hS, hM⟩ := hI
    rw [qG.l1] at hM
    refine wp_seq <| qp <| sM hS rfl fun hS => sM hS rfl fun hS => sO hS (xY rfl Tryd.runUnderlying25) rfl fun hS => sB hS rfl fun hS => qF <| qv hS rfl hM (fun GM hM => ?_) (fun GM hM => ?_)
    ·refine wp_skip ?_
     refine qd <| wp_seq <| xw <| qp <| sM hS rfl fun hS => sM hS rfl fun hS => ?_
     obtain ⟨GC, hM⟩ := qH hM
     refine sO hS (xM rfl rfl Tryd.runUnderlying25 Tryd.sizeOf32 hr4.wk (fun _ => rfl) rfl GC) rfl fun hS => sO hS (yL rfl hr4.wk (fun _ => rfl) GC Tryd.isAgg32 Tryd.sizeOf32 rfl) rfl fun hS => qO hS rfl Tryd.call15 (vt hG K (qr.mk ((rd l_1 Gw).Lit_) ((rd l_1 Gw).Len_) ((rd l_1 Gw).Dist_)) (hS.st.part 0 [] (by kernel_rfl)) (qE hM) (fun G1 w hM  hst => qL hS.ev hst.appF rfl fun hS => ?_))
     replace hS : Ss _ _ _ H [] F _ _ := hS
     refine sA hS rfl fun hS => qF <| qp <| sM hS rfl fun hS => sO hS (un rfl rfl) rfl fun hS => qF <| qv hS rfl hM (fun GN hM => ?_) (fun GN hM => ?_)
     ·refine wp_seq ?_
      refine zB <| sM hS rfl fun hS => sB hS rfl fun hS => sM hS rfl fun hS => yo 2 true 36 (b := (Gv == (1 : Int))) (r := (Gu == ([] : List UInt8))) hS rfl rfl rfl rfl rfl rfl rfl (fun hb a w hS K hK => ?_) rfl fun a w hS => ?_
      ·refine zL hS rfl rfl rfl hb (mv rfl) rfl fun a w hS => ?_
       refine zL hS rfl rfl rfl hb (Ke rfl rfl rfl) rfl fun a w hS => ?_
       exact zc (hK _ _ (hS.up 2 rfl rfl))
      refine sM hS rfl fun hS => v8 (fun a w => ∃ (Gz : Bool), Ss 92 [] [(42, .bool Gz)] H [] F a w ∧ (qG.j2 K Gz).wp kr kp) 2 (fun G2 GD => ?_) ?_
      ·refine Uh (b := ((Gv == (1 : Int)) && (Gu == ([] : List UInt8)))) hM (fun Gx hM => ?_) (fun Gx hM => ?_)
       ·replace hS := hS.re 39 (v := .bool true) rfl (congrArg Value.bool Gx)
        replace hS := hS.re 40 (v := .bool true) rfl (congrArg Value.bool Gx)
        refine Ql hS rfl rfl rfl rfl <| qO hS rfl Tryd.call9 (yn hG K  (hS.st.part 0 [] (by kernel_rfl)) (qE hM) (fun GU w hM  hst => qL hS.ev hst.appF rfl fun hS => ?_) (fun v w hk hst => jK (zX (zX (js (zX (zX (js (zX (⟨hS.ev.defs, hpan _ _ hk hst.appF.frame⟩))))))))))
        replace hS : Ss _ _ _ H [] F _ _ := hS
        refine sO hS (pk rfl rfl rfl) rfl fun hS => zc <| qd ?_
        exact GD _ _ ⟨GU, hS.to [] (by kernel_rfl) ⟨rfl, trivial⟩, hM⟩
       ·replace hS := hS.re 39 (v := .bool false) rfl (congrArg Value.bool Gx)
        replace hS := hS.re 40 (v := .bool false) rfl (congrArg Value.bool Gx)
        refine XV 1 hS rfl fun a w hS => sO hS (pk rfl rfl rfl) rfl fun hS => zc <| qd ?_
        exact GD _ _ ⟨false, hS.to [] (by kernel_rfl) ⟨rfl, trivial⟩, hM⟩
      ·intro a w hI
       obtain ⟨Gz, hS, hM⟩ := hI
       rw [qG.j2] at hM
       refine sA hS rfl fun hS => qF <| wp_ret <| zS (qz (qz (zS (qz ?_))))
       exact zm (rs := [2]) hS rfl rfl (hret Gz _ (qV hM) (hS.st.pick [] (by kernel_rfl)))
     ·refine wp_skip ?_
      refine zr (qd ?_)
      refine zB <| sM hS rfl fun hS => sB hS rfl fun hS => zz (v := Value.int .i64) (x0 := (qh (Gw + (1 : Int)))) hS (xj rfl) rfl fun GV a w hz hS => ?_
      have hM := qC hz hM; clear hz
      refine zc <| qd ?_
      exact GL _ _ ⟨GV, hS.to [] (by kernel_rfl) ⟨rfl, rfl, rfl, rfl, trivial⟩, hM⟩
    ·refine wp_exit ?_
     refine qB (qB (qY (qd ?_)))
     exact GK _ _ ⟨hS.to [] (by kernel_rfl) ⟨rfl, rfl, rfl, trivial⟩, hM⟩
  ·intro a w hI
   obtain ⟨hS, hM⟩ := hI
   rw [qG.j3] at hM
   refine wp_seq <| qp <| sM hS rfl fun hS => sB hS rfl fun hS => sM hS rfl fun hS => yo 3 false 45 (b := (Gv != (0 : Int))) (r := ((Gu.length : Int) == (0 : Int))) hS rfl rfl rfl rfl rfl rfl rfl (fun hb a w hS K hK => ?_) rfl fun a w hS => ?_
   ·refine zL hS rfl rfl rfl hb (mv rfl) rfl fun a w hS => ?_
    refine zL hS rfl rfl rfl hb (uW rfl Tryd.runUnderlying9) rfl fun a w hS => zL hS rfl rfl rfl hb (yU rfl rfl rfl) rfl fun a w hS => ?_
    exact zc (hK _ _ (hS.up 3 rfl rfl))
   refine sM hS rfl fun hS => ?_
   obtain ⟨GO, hM⟩ := qH hM
   refine yo 4 false 50 (b := ((Gv != (0 : Int)) || ((Gu.length : Int) == (0 : Int)))) (r := ((v3 ((rd Gu (0 : Int)).toNat : Int) (8 : Int)) != (5 : Int))) hS rfl rfl rfl rfl rfl rfl rfl (fun hb a w hS K hK => ?_) rfl fun a w hS => ?_
   ·refine zL hS rfl rfl rfl hb (mv rfl) rfl fun a w hS => ?_
    have GP := Yp GO hb
    refine zL hS rfl rfl rfl hb (Uo rfl rfl Tryd.runUnderlying9 GP) rfl fun a w hS => zL hS rfl rfl rfl hb (rem rfl rfl rfl) rfl fun a w hS => zL hS rfl rfl rfl hb (yU rfl rfl rfl) rfl fun a w hS => ?_
    exact zc (hK _ _ (hS.up 4 rfl rfl))
   refine qF <| qv hS rfl hM (fun GQ hM => ?_) (fun GQ hM => ?_)
   ·refine wp_seq ?_
    refine zB <| sA hS rfl fun hS => qF <| wp_ret <| qz ?_
    exact zm (rs := [2]) hS rfl rfl (hret false _ (qV hM) (hS.st.pick [] (by kernel_rfl)))
   ·refine wp_skip ?_
    refine qd <| qp <| sM hS rfl fun hS => qO hS rfl Tryd.call16 (uT hG K l_1 (1073741824 : Int) A2 c3 (hr4.app _) hc5 (hS.st.part 0 [] (by kernel_rfl)) (qE hM) (fun GA G3 w hM  hst => qL hS.ev hst.appF rfl fun hS => ?_))
    replace hS : Ss _ _ _ H [] F _ _ := hS
    refine sM hS rfl fun hS => sO hS (ex rfl rfl) rfl fun hS => sO hS (ex rfl rfl) rfl fun hS => sA hS rfl fun hS => sA hS rfl fun hS => qF <| wp_seq <| qp <| sM hS rfl fun hS => sB hS rfl fun hS => qF <| qv hS rfl hM (fun GR hM => ?_) (fun GR hM => ?_)
    ·refine wp_seq ?_
     refine zB <| qO hS rfl Tryd.call9 (yn hG K  (hS.st.part 0 [] (by kernel_rfl)) (qE hM) (fun GW w hM  hst => qL hS.ev hst.appF rfl fun hS => ?_) (fun v w hk hst => jK (zX (zX (⟨hS.ev.defs, hpan _ _ hk hst.appF.frame⟩)))))
     replace hS : Ss _ _ _ H [] F _ _ := hS
     refine sA hS rfl fun hS => qF <| wp_ret <| qz ?_
     exact zm (rs := [2]) hS rfl rfl (hret GW _ (qV hM) (hS.st.pick [] (by kernel_rfl)))
    ·refine wp_skip ?_
     refine qd <| wp_seq <| qp <| sM hS rfl fun hS => sO hS (uW rfl Tryd.runUnderlying9) rfl fun hS => sB hS rfl fun hS => qF <| qv hS rfl hM (fun GS hM => ?_) (fun GS hM => ?_)
     ·refine wp_seq ?_
      refine zB <| qO hS rfl Tryd.call9 (yn hG K  (hS.st.part 0 [] (by kernel_rfl)) (qE hM) (fun GX w hM  hst => qL hS.ev hst.appF rfl fun hS => ?_) (fun v w hk hst => jK (zX (zX (⟨hS.ev.defs, hpan _ _ hk hst.appF.frame⟩)))))
      replace hS : Ss _ _ _ H [] F _ _ := hS
      refine sA hS rfl fun hS => qF <| wp_ret <| qz ?_
      exact zm (rs := [2]) hS rfl rfl (hret GX _ (qV hM) (hS.st.pick [] (by kernel_rfl)))
     ·refine wp_skip ?_
      refine qd <| qp <| sM hS rfl fun hS => sM hS rfl fun hS => sO hS (uW rfl Tryd.runUnderlying9) rfl fun hS => qO hS rfl Tryd.call17 (uB hG K Gu (GA.length : Int) (hS.st.part 0 [] (by kernel_rfl)) (qE hM) (fun GE GF GJ w hM  hst => qL hS.ev hst.appF rfl fun hS => ?_))
      replace hS : Ss _ _ _ H [] F _ _ := hS
      refine sM hS rfl fun hS => sO hS (ex rfl rfl) rfl fun hS => sO hS (ex rfl rfl) rfl fun hS => sO hS (ex rfl rfl) rfl fun hS => sA hS rfl fun hS => sA hS rfl fun hS => sA hS rfl fun hS => qF <| qp <| sM hS rfl fun hS => sM hS rfl fun hS => sO hS (Ke rfl rfl rfl) rfl fun hS => sM hS rfl fun hS => yo 4 true 79 (b := (GE == GA)) (r := (GF == (Gu.length : Int))) hS rfl rfl rfl rfl rfl rfl rfl (fun hb a w hS K hK => ?_) rfl fun a w hS => ?_
      ·refine zL hS rfl rfl rfl hb (mv rfl) rfl fun a w hS => ?_
       refine zL hS rfl rfl rfl hb (mv rfl) rfl fun a w hS => zL hS rfl rfl rfl hb (uW rfl Tryd.runUnderlying9) rfl fun a w hS => zL hS rfl rfl rfl hb (yU rfl rfl rfl) rfl fun a w hS => ?_
       exact zc (hK _ _ (hS.up 4 rfl rfl))
      refine sM hS rfl fun hS => yo 2 true 85 (b := ((GE == GA) && (GF == (Gu.length : Int)))) (r := (GJ == (0 : Int))) hS rfl rfl rfl rfl rfl rfl rfl (fun hb a w hS K hK => ?_) rfl fun a w hS => ?_
      ·refine zL hS rfl rfl rfl hb (mv rfl) rfl fun a w hS => ?_
       refine zL hS rfl rfl rfl hb (yU rfl rfl rfl) rfl fun a w hS => ?_
       exact zc (hK _ _ (hS.up 2 rfl rfl))
      refine sM hS rfl fun hS => v8 (fun a w => ∃ (GB : Bool), Ss 92 [] [(91, .bool GB)] H [] F a w ∧ (qG.j4 K GB).wp kr kp) 2 (fun G4 GG => ?_) ?_
      ·refine Uh (b := (((GE == GA) && (GF == (Gu.length : Int))) && (GJ == (0 : Int)))) hM (fun Gy hM => ?_) (fun Gy hM => ?_)
       ·replace hS := hS.re 88 (v := .bool true) rfl (congrArg Value.bool Gy)
        replace hS := hS.re 89 (v := .bool true) rfl (congrArg Value.bool Gy)
        refine Ql hS rfl rfl rfl rfl <| qO hS rfl Tryd.call9 (yn hG K  (hS.st.part 0 [] (by kernel_rfl)) (qE hM) (fun GY w hM  hst => qL hS.ev hst.appF rfl fun hS => ?_) (fun v w hk hst => jK (zX (zX (⟨hS.ev.defs, hpan _ _ hk hst.appF.frame⟩)))))
        replace hS : Ss _ _ _ H [] F _ _ := hS
        refine sO hS (pk rfl rfl rfl) rfl fun hS => zc <| qd ?_
        exact GG _ _ ⟨GY, hS.to [] (by kernel_rfl) ⟨rfl, trivial⟩, hM⟩
       ·replace hS := hS.re 88 (v := .bool false) rfl (congrArg Value.bool Gy)
        replace hS := hS.re 89 (v := .bool false) rfl (congrArg Value.bool Gy)
        refine XV 1 hS rfl fun a w hS => sO hS (pk rfl rfl rfl) rfl fun hS => zc <| qd ?_
        exact GG _ _ ⟨false, hS.to [] (by kernel_rfl) ⟨rfl, trivial⟩, hM⟩
      ·intro a w hI
       obtain ⟨GB, hS, hM⟩ := hI
       rw [qG.j4] at hM
       refine sA hS rfl fun hS => qF <| wp_ret ?_
       exact zm (rs := [2]) hS rfl rfl (hret GB _ (qV hM) (hS.st.pick [] (by kernel_rfl)))
end Go.TrydS

